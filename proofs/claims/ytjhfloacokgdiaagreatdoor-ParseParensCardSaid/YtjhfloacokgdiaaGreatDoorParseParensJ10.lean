/- Texts of ParseParens, joined. -/
import Derived.Test.YtjhfloacokgdiaaGreatDoorParseParensJ9
import Derived.Shelf.Strconv.Itoa0
import Derived.Shelf.Strconv.Itoa1
import Derived.Shelf.LaysM
import Derived.Shelf.Strconv.Itoa2
import Derived.Shelf.Strconv.Itoa3
import Derived.Test.YtjhfloacokgdiaaGreatDoorProg
import Derived.Lib.AppendIntMem
import Derived.Shelf.Strings.TrimSpace
import Derived.Shelf.Lays
import Derived.Lib.Strings
import Derived.Lib.Slices
import Derived.Lib.Walk
import Derived.Lib.LaidTab
import Derived.Lib.Space
import Derived.Lib.ConvBytes
import Derived.WalkKit
import Derived.BigCall
import Derived.BigGuard
import Derived.Lib.Join
set_option maxRecDepth 100000
set_option maxHeartbeats 20000000
set_option linter.unusedSimpArgs false
set_option linter.unusedVariables false
set_option linter.unusedSectionVars false
namespace Go.Proofs.YtjhfloacokgdiaaGreatDoor.Rp
open Go Go.Vm
def a5Z (b:UInt8):List UInt8:=if b=10 then [92,110]else if b=9 then [92,116]else if b=92 then [92,92]else if b=34 then [92,34]else [b]
def esc (s:List UInt8):List UInt8:=s.flatMap a5Z
def cn (s:List UInt8):Nat->Nat
 | 0=>0
 | 1=>s.count 34
 | 2=>s.count 34+s.count 92
 | 3=>s.count 34+s.count 92+s.count 9
 | _=>s.count 34+s.count 92+s.count 9+s.count 10
theorem a3K (b:UInt8)(s:List UInt8):esc (b::s)=a5Z b++esc s:=by simp[esc]
theorem c3l (a b:List UInt8):esc (a++b)=esc a++esc b:=by simp[esc]
theorem c1r {b:UInt8}(h1:b≠10)(h2:b≠9)(h3:b≠92)(h4:b≠34):cell b.toNat=.slice .nil 0 []:=by
 have k1:b.toNat≠10:=fun h=>h1 (UInt8.toNat_inj.1 h)
 have k2:b.toNat≠9:=fun h=>h2 (UInt8.toNat_inj.1 h)
 have k3:b.toNat≠92:=fun h=>h3 (UInt8.toNat_inj.1 h)
 have k4:b.toNat≠34:=fun h=>h4 (UInt8.toNat_inj.1 h)
 unfold cell
 split<;>first|contradiction|rfl
theorem a7d (b:UInt8):(∃c:UInt8,cell b.toNat=.slice .sealed 2 [.int .u8 92,.int .u8 ((c.toNat:Nat):Int)]/\a5Z b=[92,c])∨(cell b.toNat=.slice .nil 0 []/\a5Z b=[b]):=by
 by_cases h1:b=10
 ·subst h1;exact .inl ⟨110,rfl,rfl⟩
 by_cases h2:b=9
 ·subst h2;exact .inl ⟨116,rfl,rfl⟩
 by_cases h3:b=92
 ·subst h3;exact .inl ⟨92,rfl,rfl⟩
 by_cases h4:b=34
 ·subst h4;exact .inl ⟨34,rfl,rfl⟩
 exact .inr ⟨c1r h1 h2 h3 h4,by simp only[a5Z,if_neg h1,if_neg h2,if_neg h3,if_neg h4]⟩
theorem b2I (b:UInt8):1 <=(a5Z b).length/\(a5Z b).length<=2:=by
 rcases a7d b with⟨c,_,h⟩ |⟨_,h⟩<;>rw[h]<;>simp
theorem c1D:∀s,s.length <=(esc s).length
 | []=>Nat.le_refl _
 | b::s=>by have:=c1D s;have:=b2I b;rw[a3K,List.length_append,List.length_cons];omega
theorem b0n:∀s,(esc s).length<=2*s.length
 | []=>Nat.le_refl _
 | b::s=>by have:=b0n s;have:=b2I b;rw[a3K,List.length_append,List.length_cons];omega
theorem b7Y:∀s,(esc s).length=s.length+(s.count 34+s.count 92+s.count 9+s.count 10)
 | []=>rfl
 | b::s=>by
  have ih:=b7Y s
  rw[a3K,List.length_append,ih]
  simp only[List.count_cons,List.length_cons]
  by_cases h1:b=10
  ·subst h1;simp[a5Z];omega
  by_cases h2:b=9
  ·subst h2;simp[a5Z];omega
  by_cases h3:b=92
  ·subst h3;simp[a5Z];omega
  by_cases h4:b=34
  ·subst h4;simp[a5Z];omega
  simp[a5Z,h1,h2,h3,h4];omega
theorem b5a:∀{s:List UInt8},¬s.length<(esc s).length->esc s=s
 | [],_=>rfl
 | b::s,h=>by
  have h0:=c1D s
  have h1:=b2I b
  rw[a3K,List.length_append,List.length_cons]at h
  rcases a7d b with⟨c,_,he⟩ |⟨_,he⟩
  ·rw[he]at h;simp at h;omega
  ·rw[a3K,he,b5a (s:=s) (by rw[he]at h;simp at h;omega)];rfl
theorem b2J {s:List UInt8}{i:Nat}(h:i<s.length):esc (s.take (i+1))=esc (s.take i)++a5Z (s.getD i 0):=by
 rw[List.take_succ_eq_append_getElem h,c3l]
 congr 1
 simp[esc,h]
theorem b05 (s:List UInt8)(i:Nat):(esc (s.take i)).length <=(esc s).length:=by
 conv=>rhs;rw[<-List.take_append_drop i s,c3l,List.length_append]
 omega
theorem cn_le (s:List UInt8):∀k,cn s k<=4*s.length:=by
 have a:=List.count_le_length (a:=(34:UInt8)) (l:=s)
 have b:=List.count_le_length (a:=(92:UInt8)) (l:=s)
 have c:=List.count_le_length (a:=(9:UInt8)) (l:=s)
 have d:=List.count_le_length (a:=(10:UInt8)) (l:=s)
 intro k
 unfold cn
 split<;>omega
theorem RR_get (b:UInt8):RR[b.toNat]? = some (cell b.toNat):=by
 have:=UInt8.toNat_lt b
 unfold RR
 rw[List.getElem?_append_left (by simp;omega),List.getElem?_map,List.getElem?_range (by omega)]
 rfl
theorem RR_256:RR[256]? = some (.rslice 1 0 4 true):=by kernel_rfl
theorem a8w (b:UInt8){off:Nat}{H:Hp}(ho:off=b.toNat):a3h env.T 58 (.ptr 0 off) ((0,.row RR)::H)=some (cell b.toNat):=by
 subst ho
 exact RR_get b
theorem ld_TL {H:Hp}:a3h env.T 62 (.ptr 0 (0+256)) ((0,.row RR)::H)=some (.rslice 1 0 4 true):=RR_256
theorem ct_E (s:List UInt8)(c:UInt8):E env (.call 244 [.str s,.str [c]]) []=some (.ret (.int .i64 ((s.count c:Nat):Int)) []):=a7x (h:=b7T) rfl rfl
theorem mul1 {a:Nat}(h:a<9223372036854775808):a2X (some (.int .i64 (IntKind.wrap .i64 ((a:Int)*1))))=some (.int .i64 (a:Nat)):=by
 rw[Int.mul_one,wrap64 (by omega) (by omega)];rfl
theorem addE {j k m:Nat}(h:m=j+k)(hb:j+k<9223372036854775808):a2X (some (.int .i64 (IntKind.wrap .i64 ((j:Int)+(k:Int)))))=some (.int .i64 (m:Nat)):=by
 rw[h];exact addN hb
theorem c1X (n:Nat){m:Nat}{x:Option V}(h:x=match gd (ltB 0 ((m+1:Nat):Int)) (some false)with|some b=>some (.bool (!b))|none=>none):a2X x=some (.bool true):=by
 rw[h]
 have:ltB 0 ((m+1:Nat):Int)=true:=by simp only[ltB,decide_eq_true_eq];omega
 rw[this];rfl
theorem b7i {env:Env}{orc:Orc}{ops:Array Oper}{o:Oper}{rest:List Oper}{fr:Fr}{H H1:Hp}{K:Res->Prop}{t:Nat}{a b:Operand}{x v:V}(hw:D7 ops o fr=some true)(ho:o.op=.store t a b)(ha:ev fr a=some x)(hb:ev fr b=some v)(hs:a5u env.T t x v H=some H1)(h:Go.Vm.Os env orc ops rest (X6 o.dst .undef fr) H1 K):Go.Vm.Os env orc ops (o::rest) fr H K:=by
 refine a1I hw (by rw[ho];rfl) (v:=.undef) (H1:=H1) ?_ h
 unfold V8
 rw[ho]
 simp only[ha,hb,hs]
def BUF (s:List UInt8)(i:Nat):List V:=a0G (esc (s.take i))++List.replicate ((esc s).length-(esc (s.take i)).length) (.int .u8 0)
theorem c2V (s:List UInt8)(i:Nat):(BUF s i).length =(esc s).length:=by
 have:=b05 s i
 simp only[BUF,List.length_append,a0G,List.length_map,List.length_replicate];omega
theorem set_mid {α:Type}(a new:List α)(z:α){n:Nat}(h:new.length<=n):(a++List.replicate n z).take a.length++new ++(a++List.replicate n z).drop (a.length+new.length)=a++new++List.replicate (n-new.length) z:=by
 rw[List.take_left,List.drop_append,List.drop_eq_nil_of_le (by omega),List.nil_append,List.drop_replicate]
 congr 2;omega
theorem c2X {s:List UInt8}{i:Nat}(h:i<s.length){b:UInt8}(hb:s.getD i 0=b){news:List V}(hn:news=a0G (a5Z b)){off:Nat}(ho:off =(esc (s.take i)).length):U1 (BUF s i) off news=BUF s (i+1):=by
 have h1:=b2J h
 rw[hb]at h1
 have h2:=b05 s (i+1)
 rw[h1,List.length_append]at h2
 have h3:(esc (s.take i)).length =(a0G (esc (s.take i))).length:=by simp[a0G]
 have h4:news.length =(a5Z b).length:=by rw[hn];simp[a0G]
 subst ho
 unfold U1 BUF
 rw[h3,set_mid _ _ _ (by omega),hn,h1]
 simp only[a0G,List.map_append,List.length_append,List.length_map]
 congr 2
 omega
theorem c2Y {s:List UInt8}{i:Nat}(h:i<s.length){b c:UInt8}(hb:s.getD i 0=b)(he:a5Z b=[92,c]):U1 (BUF s i) (0+(esc (s.take i)).length*1) [.int .u8 92,.int .u8 ((c.toNat:Nat):Int)]=BUF s (i+1):=c2X h hb (by rw[he];rfl) (by omega)
theorem c2W {s:List UInt8}{i:Nat}(h:i<s.length){b:UInt8}(hb:s.getD i 0=b)(he:a5Z b=[b]):U1 (BUF s i) (0+(esc (s.take i)).length*1) [.int .u8 ((b.toNat:Nat):Int)]=BUF s (i+1):=c2X h hb (by rw[he];rfl) (by omega)
theorem cp_ok {j n:Nat} {cs B:List V} {a b:V} {G:Hp} (hG:G = [(0,.row RR),(1,.grow 1 TR),(2,.grow 1 cs)]) (h1:2 <= n) (h2:j + 2 <= cs.length) (hB:U1 cs (0 + j * 1) [a,b] = B) :
    b7E env.T 58 (.rslice 2 (0+j*1) n false) (.slice .sealed 2 [a,b]) G=some (.val (.int .i64 ((2:Nat):Int)) [(0,.row RR),(1,.grow 1 TR),(2,.grow 1 B)]):=by
  subst hG
  have e:b7E env.T 58 (.rslice 2 (0+j*1) n false) (.slice .sealed 2 [a,b]) [(0,.row RR),(1,.grow 1 TR),(2,.grow 1 cs)] =(match gd (eqN (2*1) [a,b].length) (some (2,[a,b]))with
    | some (m,news)=>(match Nat.beq m 0 with
        | true=>some (OpR.val (.int .i64 0) [(0,.row RR),(1,.grow 1 TR),(2,.grow 1 cs)])
        | false=>gd (leN m n&&leN (0+j*1+m*1) cs.length) (some (.val (.int .i64 (m:Int)) [(0,.row RR),(1,.grow 1 TR),(2,.grow 1 (U1 cs (0+j*1) news))])))
    | none=>none):=by kernel_rfl
  rw[e,a2W (show 2*1=[a,b].length from rfl)]
  simp only[gd]
  rw[b0w h1,b0w (show 0+j*1+2*1<=cs.length by omega),hB]
  rfl
theorem st_ok {j:Nat}{cs B:List V}{b:Nat}{G:Hp}(hG:G=[(0,.row RR),(1,.grow 1 TR),(2,.grow 1 cs)])(h2:j+1<=cs.length)(hB:U1 cs (0+j*1) [.int .u8 (b:Int)]=B) :
  a5u env.T 5 (.ptr 2 (0+j*1)) (.int .u8 (b:Int)) G=some [(0,.row RR),(1,.grow 1 TR),(2,.grow 1 B)]:=by
 subst hG
 have e:a5u env.T 5 (.ptr 2 (0+j*1)) (.int .u8 (b:Int)) [(0,.row RR),(1,.grow 1 TR),(2,.grow 1 cs)]=gd (leN (0+j*1+1) cs.length) (some [(0,.row RR),(1,.grow 1 TR),(2,.grow 1 (U1 cs (0+j*1) [.int .u8 (b:Int)]))]):=by kernel_rfl
 rw[e,b0w (by omega),hB]
 rfl
theorem mk_ok (n:Nat)(hn:n<=4000000){G:Hp}(hG:G=[(0,.row RR),(1,.grow 1 TR)]):b7G env.T 58 (.int .i64 (n:Int)) (.int .i64 (n:Int)) G 5504=some (.val (.rslice 5504 0 n true) [(0,.row RR),(1,.grow 1 TR),(5504,.grow 1 (List.replicate n (.int .u8 0)))]):=by
 subst hG
 have e:b7G env.T 58 (.int .i64 (n:Int)) (.int .i64 (n:Int)) [(0,.row RR),(1,.grow 1 TR)] 5504=gd (leB 0 (n:Int)&&leB (n:Int) (n:Int)&&leB ((n:Int)*((1:Nat)+1:Nat)) 70368744177664) (some (.val (.rslice 5504 0 n true) [(0,.row RR),(1,.grow 1 TR),(5504,.grow 1 (List.replicate n [.int .u8 0]).flatten)])):=by kernel_rfl
 rw[e]
 have h1:(leB 0 (n:Int)&&leB (n:Int) (n:Int)&&leB ((n:Int)*((1:Nat)+1:Nat)) 70368744177664)=true:=by simp only[leB,Bool.and_eq_true,decide_eq_true_eq];omega
 rw[h1]
 have h2:(List.replicate n [V.int .u8 0]).flatten=List.replicate n (.int .u8 0):=by
  induction n with
  | zero=>rfl
  | succ n ih=>rw[List.replicate_succ,List.flatten_cons,List.replicate_succ];simp[List.flatten_replicate_singleton]
 rw[h2]
 rfl
theorem cv_ok (s:List UInt8):b3i env.T 58 9 (.slice .sealed (esc s).length ((BUF s s.length).take ((esc s).length*1)))=some (.str (esc s)):=by
 have e:(BUF s s.length).take ((esc s).length*1)=a0G (esc s):=by
  unfold BUF
  rw[List.take_length,Nat.sub_self,List.replicate_zero,List.append_nil,Nat.mul_one]
  exact List.take_of_length_le (by simp[a0G])
 rw[e]
 have e2:b3i env.T 58 9 (.slice .sealed (esc s).length (a0G (esc s))) =(match a4g (a0G (esc s))with|some l=>gd (eqN (esc s).length l.length) (some (.str l))|none=>none):=by kernel_rfl
 rw[e2,b2v]
 simp only[a2W rfl,gd]
theorem bs_E (s:List UInt8)(hs:s.length<=1000000):E env (.call 242 [.ptr 0 0,.str s]) [(0,.row RR),(1,.grow 1 TR)]=some (.ret (.str (esc s)) [(0,.row RR),(1,.grow 1 TR)]):=by
 refine a0t (env:=env) rfl Tryz.func242 rfl rfl ?_
 refine F8 ?_
 refine o7 ?_
 refine j6 rfl rfl rfl ?_
 refine G5 ?_
 refine F8 ?_
 refine o7 ?_
 refine j6 rfl rfl rfl ?_
 refine j6 rfl rfl rfl ?_
 refine j6 rfl rfl rfl ?_
 refine G5 ?_
 refine F8 ?_
 refine o7 ?_
 refine j6 rfl rfl rfl ?_
 refine G5 ?_
 refine F8 ?_
 refine F8 ?_
 refine o7 ?_
 refine j6 rfl rfl rfl ?_
 refine j6 rfl rfl rfl ?_
 refine j6 rfl rfl rfl ?_
 refine a0Q rfl rfl rfl (v:=.rslice 1 0 4 true) ld_TL ?_
 refine j6 rfl rfl rfl ?_
 refine j6 rfl rfl rfl ?_
 refine j6 rfl rfl rfl ?_
 refine j6 rfl rfl rfl ?_
 refine j6 rfl rfl rfl ?_
 refine G5 ?_
 refine Z9 rfl (fun g26=>?_) (fun g26=>?_)
 ·refine F8 ?_
  refine o7 ?_
  refine j6 rfl rfl rfl ?_
  refine j6 rfl rfl rfl ?_
  refine j6 rfl rfl rfl ?_
  refine a0Q rfl rfl rfl (v:=.rslice 1 0 4 true) ld_TL ?_
  refine j6 rfl rfl rfl ?_
  refine j6 rfl rfl rfl ?_
  refine G5 ?_
  refine V7 ?_
  refine a4x (fr1:=[(0,.ptr 0 0),(1,.str s),(5,.int .i64 ((s.length:Nat):Int)),(6,.bool false),(30,.rslice 1 0 4 true),(31,.int .i64 4),(32,.int .i64 ((0:Nat):Int))]) (H1:=[(0,.row RR),(1,.grow 1 TR)]) (by kernel_rfl) ?_
  refine a7i (fun x:Nat×Nat×Bool=>[(0,.ptr 0 0),(1,.str s),(5,.int .i64 ((x.2.1:Nat):Int)),(6,.bool x.2.2),(30,.rslice 1 0 4 true),(31,.int .i64 4),(32,.int .i64 ((x.1:Nat):Int))]) (fun _=>[(0,.row RR),(1,.grow 1 TR)]) (fun x=>x.1<=4/\x.2.1=s.length+cn s x.1/\x.2.2=decide (0<cn s x.1)) (fun x=>4-x.1) (0,s.length,false) ⟨by simp,rfl,rfl⟩ ?_
  rintro⟨k,ns,any⟩ ⟨hk,hns,hany⟩ ih
  simp only at hk hns hany ih ⊢
  have hcn:=cn_le s k
  rcases(by omega:k=0∨k=1∨k=2∨k=3∨k=4)with rfl|rfl|rfl|rfl|rfl
  ·have hc:=List.count_le_length (a:=(34:UInt8)) (l:=s)
   refine F8 ?_
   refine o7 ?_
   refine j6 rfl rfl rfl ?_
   refine G5 ?_
   refine F8 ?_
   refine Z6 rfl (by simp[ltB]) ?_
   refine O0 ?_
   refine F8 ?_
   refine V7 ?_
   refine F8 ?_
   refine o7 ?_
   refine j6 rfl rfl (a2l (by simp[inR]) rfl) ?_
   refine a0Q rfl rfl rfl (v:=.str [34]) rfl ?_
   refine j6 rfl rfl rfl ?_
   refine G5 ?_
   refine F8 ?_
   refine o7 ?_
   refine j6 rfl rfl rfl ?_
   refine j6 rfl rfl rfl ?_
   refine a1C rfl rfl rfl rfl rfl (ct_E s 34) rfl ?_
   refine j6 rfl rfl rfl ?_
   refine G5 ?_
   refine F8 ?_
   refine o7 ?_
   refine j6 rfl rfl rfl ?_
   refine j6 rfl rfl rfl ?_
   refine G5 ?_
   refine Z9 rfl (fun g40=>?_) (fun g40=>?_)
   ·replace g40:s.count 34≠0:=by intro h;rw[h]at g40;simp[eqB]at g40
    refine F8 ?_
    refine o7 ?_
    refine j6 rfl rfl rfl ?_
    refine j6 rfl rfl rfl ?_
    refine j6 rfl rfl rfl ?_
    refine j6 rfl rfl rfl ?_
    refine j6 rfl rfl (a2l (by simp[inR]) (show _=some (.int .u8 (((34:UInt8).toNat:Nat):Int))from rfl)) ?_
    refine j6 rfl rfl rfl ?_
    refine j6 rfl rfl rfl ?_
    refine j6 rfl rfl (a2l (by simp[inR]) rfl) ?_
    refine a0Q rfl rfl rfl (a8w 34 rfl) ?_
    refine j6 rfl rfl rfl ?_
    refine j6 rfl rfl rfl ?_
    refine j6 rfl rfl (mul1 (by omega)) ?_
    refine j6 rfl rfl (addN (by omega)) ?_
    refine j6 rfl rfl rfl ?_
    refine G5 ?_
    refine o7 ?_
    refine j6 rfl rfl rfl ?_
    refine G5 ?_
    refine o7 ?_
    refine j6 rfl rfl rfl ?_
    refine j6 rfl rfl rfl ?_
    refine G5 ?_
    exact⟨[(0,.ptr 0 0),(1,.str s),(5,.int .i64 ((ns+s.count 34:Nat):Int)),(6,.bool true),(30,.rslice 1 0 4 true),(31,.int .i64 4),(32,.int .i64 ((1:Nat):Int))],[(0,.row RR),(1,.grow 1 TR)],by kernel_rfl,ih (1,ns+s.count 34,true) (by simp) ⟨by simp,by rw[hns];simp only[cn];omega,by simp only[cn];symm;simp only[decide_eq_true_eq];omega⟩⟩
   ·replace g40:s.count 34=0:=by simp only[eqB,Bool.not_eq_false',beq_iff_eq]at g40;omega
    refine O0 ?_
    refine o7 ?_
    refine j6 rfl rfl rfl ?_
    refine j6 rfl rfl rfl ?_
    refine G5 ?_
    exact⟨[(0,.ptr 0 0),(1,.str s),(5,.int .i64 ((ns:Nat):Int)),(6,.bool any),(30,.rslice 1 0 4 true),(31,.int .i64 4),(32,.int .i64 ((1:Nat):Int))],[(0,.row RR),(1,.grow 1 TR)],by kernel_rfl,ih (1,ns,any) (by simp) ⟨by simp,by rw[hns];simp only[cn];omega,by rw[hany];simp only[cn];congr 1;simp only[eq_iff_iff];omega⟩⟩
  ·have hc:=List.count_le_length (a:=(92:UInt8)) (l:=s)
   refine F8 ?_
   refine o7 ?_
   refine j6 rfl rfl rfl ?_
   refine G5 ?_
   refine F8 ?_
   refine Z6 rfl (by simp[ltB]) ?_
   refine O0 ?_
   refine F8 ?_
   refine V7 ?_
   refine F8 ?_
   refine o7 ?_
   refine j6 rfl rfl (a2l (by simp[inR]) rfl) ?_
   refine a0Q rfl rfl rfl (v:=.str [92]) rfl ?_
   refine j6 rfl rfl rfl ?_
   refine G5 ?_
   refine F8 ?_
   refine o7 ?_
   refine j6 rfl rfl rfl ?_
   refine j6 rfl rfl rfl ?_
   refine a1C rfl rfl rfl rfl rfl (ct_E s 92) rfl ?_
   refine j6 rfl rfl rfl ?_
   refine G5 ?_
   refine F8 ?_
   refine o7 ?_
   refine j6 rfl rfl rfl ?_
   refine j6 rfl rfl rfl ?_
   refine G5 ?_
   refine Z9 rfl (fun g40=>?_) (fun g40=>?_)
   ·replace g40:s.count 92≠0:=by intro h;rw[h]at g40;simp[eqB]at g40
    refine F8 ?_
    refine o7 ?_
    refine j6 rfl rfl rfl ?_
    refine j6 rfl rfl rfl ?_
    refine j6 rfl rfl rfl ?_
    refine j6 rfl rfl rfl ?_
    refine j6 rfl rfl (a2l (by simp[inR]) (show _=some (.int .u8 (((92:UInt8).toNat:Nat):Int))from rfl)) ?_
    refine j6 rfl rfl rfl ?_
    refine j6 rfl rfl rfl ?_
    refine j6 rfl rfl (a2l (by simp[inR]) rfl) ?_
    refine a0Q rfl rfl rfl (a8w 92 rfl) ?_
    refine j6 rfl rfl rfl ?_
    refine j6 rfl rfl rfl ?_
    refine j6 rfl rfl (mul1 (by omega)) ?_
    refine j6 rfl rfl (addN (by omega)) ?_
    refine j6 rfl rfl rfl ?_
    refine G5 ?_
    refine o7 ?_
    refine j6 rfl rfl rfl ?_
    refine G5 ?_
    refine o7 ?_
    refine j6 rfl rfl rfl ?_
    refine j6 rfl rfl rfl ?_
    refine G5 ?_
    exact⟨[(0,.ptr 0 0),(1,.str s),(5,.int .i64 ((ns+s.count 92:Nat):Int)),(6,.bool true),(30,.rslice 1 0 4 true),(31,.int .i64 4),(32,.int .i64 ((2:Nat):Int))],[(0,.row RR),(1,.grow 1 TR)],by kernel_rfl,ih (2,ns+s.count 92,true) (by simp) ⟨by simp,by rw[hns];simp only[cn];omega,by simp only[cn];symm;simp only[decide_eq_true_eq];omega⟩⟩
   ·replace g40:s.count 92=0:=by simp only[eqB,Bool.not_eq_false',beq_iff_eq]at g40;omega
    refine O0 ?_
    refine o7 ?_
    refine j6 rfl rfl rfl ?_
    refine j6 rfl rfl rfl ?_
    refine G5 ?_
    exact⟨[(0,.ptr 0 0),(1,.str s),(5,.int .i64 ((ns:Nat):Int)),(6,.bool any),(30,.rslice 1 0 4 true),(31,.int .i64 4),(32,.int .i64 ((2:Nat):Int))],[(0,.row RR),(1,.grow 1 TR)],by kernel_rfl,ih (2,ns,any) (by simp) ⟨by simp,by rw[hns];simp only[cn];omega,by rw[hany];simp only[cn];congr 1;simp only[eq_iff_iff];omega⟩⟩
  ·have hc:=List.count_le_length (a:=(9:UInt8)) (l:=s)
   refine F8 ?_
   refine o7 ?_
   refine j6 rfl rfl rfl ?_
   refine G5 ?_
   refine F8 ?_
   refine Z6 rfl (by simp[ltB]) ?_
   refine O0 ?_
   refine F8 ?_
   refine V7 ?_
   refine F8 ?_
   refine o7 ?_
   refine j6 rfl rfl (a2l (by simp[inR]) rfl) ?_
   refine a0Q rfl rfl rfl (v:=.str [9]) rfl ?_
   refine j6 rfl rfl rfl ?_
   refine G5 ?_
   refine F8 ?_
   refine o7 ?_
   refine j6 rfl rfl rfl ?_
   refine j6 rfl rfl rfl ?_
   refine a1C rfl rfl rfl rfl rfl (ct_E s 9) rfl ?_
   refine j6 rfl rfl rfl ?_
   refine G5 ?_
   refine F8 ?_
   refine o7 ?_
   refine j6 rfl rfl rfl ?_
   refine j6 rfl rfl rfl ?_
   refine G5 ?_
   refine Z9 rfl (fun g40=>?_) (fun g40=>?_)
   ·replace g40:s.count 9≠0:=by intro h;rw[h]at g40;simp[eqB]at g40
    refine F8 ?_
    refine o7 ?_
    refine j6 rfl rfl rfl ?_
    refine j6 rfl rfl rfl ?_
    refine j6 rfl rfl rfl ?_
    refine j6 rfl rfl rfl ?_
    refine j6 rfl rfl (a2l (by simp[inR]) (show _=some (.int .u8 (((9:UInt8).toNat:Nat):Int))from rfl)) ?_
    refine j6 rfl rfl rfl ?_
    refine j6 rfl rfl rfl ?_
    refine j6 rfl rfl (a2l (by simp[inR]) rfl) ?_
    refine a0Q rfl rfl rfl (a8w 9 rfl) ?_
    refine j6 rfl rfl rfl ?_
    refine j6 rfl rfl rfl ?_
    refine j6 rfl rfl (mul1 (by omega)) ?_
    refine j6 rfl rfl (addN (by omega)) ?_
    refine j6 rfl rfl rfl ?_
    refine G5 ?_
    refine o7 ?_
    refine j6 rfl rfl rfl ?_
    refine G5 ?_
    refine o7 ?_
    refine j6 rfl rfl rfl ?_
    refine j6 rfl rfl rfl ?_
    refine G5 ?_
    exact⟨[(0,.ptr 0 0),(1,.str s),(5,.int .i64 ((ns+s.count 9:Nat):Int)),(6,.bool true),(30,.rslice 1 0 4 true),(31,.int .i64 4),(32,.int .i64 ((3:Nat):Int))],[(0,.row RR),(1,.grow 1 TR)],by kernel_rfl,ih (3,ns+s.count 9,true) (by simp) ⟨by simp,by rw[hns];simp only[cn];omega,by simp only[cn];symm;simp only[decide_eq_true_eq];omega⟩⟩
   ·replace g40:s.count 9=0:=by simp only[eqB,Bool.not_eq_false',beq_iff_eq]at g40;omega
    refine O0 ?_
    refine o7 ?_
    refine j6 rfl rfl rfl ?_
    refine j6 rfl rfl rfl ?_
    refine G5 ?_
    exact⟨[(0,.ptr 0 0),(1,.str s),(5,.int .i64 ((ns:Nat):Int)),(6,.bool any),(30,.rslice 1 0 4 true),(31,.int .i64 4),(32,.int .i64 ((3:Nat):Int))],[(0,.row RR),(1,.grow 1 TR)],by kernel_rfl,ih (3,ns,any) (by simp) ⟨by simp,by rw[hns];simp only[cn];omega,by rw[hany];simp only[cn];congr 1;simp only[eq_iff_iff];omega⟩⟩
  ·have hc:=List.count_le_length (a:=(10:UInt8)) (l:=s)
   refine F8 ?_
   refine o7 ?_
   refine j6 rfl rfl rfl ?_
   refine G5 ?_
   refine F8 ?_
   refine Z6 rfl (by simp[ltB]) ?_
   refine O0 ?_
   refine F8 ?_
   refine V7 ?_
   refine F8 ?_
   refine o7 ?_
   refine j6 rfl rfl (a2l (by simp[inR]) rfl) ?_
   refine a0Q rfl rfl rfl (v:=.str [10]) rfl ?_
   refine j6 rfl rfl rfl ?_
   refine G5 ?_
   refine F8 ?_
   refine o7 ?_
   refine j6 rfl rfl rfl ?_
   refine j6 rfl rfl rfl ?_
   refine a1C rfl rfl rfl rfl rfl (ct_E s 10) rfl ?_
   refine j6 rfl rfl rfl ?_
   refine G5 ?_
   refine F8 ?_
   refine o7 ?_
   refine j6 rfl rfl rfl ?_
   refine j6 rfl rfl rfl ?_
   refine G5 ?_
   refine Z9 rfl (fun g40=>?_) (fun g40=>?_)
   ·replace g40:s.count 10≠0:=by intro h;rw[h]at g40;simp[eqB]at g40
    refine F8 ?_
    refine o7 ?_
    refine j6 rfl rfl rfl ?_
    refine j6 rfl rfl rfl ?_
    refine j6 rfl rfl rfl ?_
    refine j6 rfl rfl rfl ?_
    refine j6 rfl rfl (a2l (by simp[inR]) (show _=some (.int .u8 (((10:UInt8).toNat:Nat):Int))from rfl)) ?_
    refine j6 rfl rfl rfl ?_
    refine j6 rfl rfl rfl ?_
    refine j6 rfl rfl (a2l (by simp[inR]) rfl) ?_
    refine a0Q rfl rfl rfl (a8w 10 rfl) ?_
    refine j6 rfl rfl rfl ?_
    refine j6 rfl rfl rfl ?_
    refine j6 rfl rfl (mul1 (by omega)) ?_
    refine j6 rfl rfl (addN (by omega)) ?_
    refine j6 rfl rfl rfl ?_
    refine G5 ?_
    refine o7 ?_
    refine j6 rfl rfl rfl ?_
    refine G5 ?_
    refine o7 ?_
    refine j6 rfl rfl rfl ?_
    refine j6 rfl rfl rfl ?_
    refine G5 ?_
    exact⟨[(0,.ptr 0 0),(1,.str s),(5,.int .i64 ((ns+s.count 10:Nat):Int)),(6,.bool true),(30,.rslice 1 0 4 true),(31,.int .i64 4),(32,.int .i64 ((4:Nat):Int))],[(0,.row RR),(1,.grow 1 TR)],by kernel_rfl,ih (4,ns+s.count 10,true) (by simp) ⟨by simp,by rw[hns];simp only[cn];omega,by simp only[cn];symm;simp only[decide_eq_true_eq];omega⟩⟩
   ·replace g40:s.count 10=0:=by simp only[eqB,Bool.not_eq_false',beq_iff_eq]at g40;omega
    refine O0 ?_
    refine o7 ?_
    refine j6 rfl rfl rfl ?_
    refine j6 rfl rfl rfl ?_
    refine G5 ?_
    exact⟨[(0,.ptr 0 0),(1,.str s),(5,.int .i64 ((ns:Nat):Int)),(6,.bool any),(30,.rslice 1 0 4 true),(31,.int .i64 4),(32,.int .i64 ((4:Nat):Int))],[(0,.row RR),(1,.grow 1 TR)],by kernel_rfl,ih (4,ns,any) (by simp) ⟨by simp,by rw[hns];simp only[cn];omega,by rw[hany];simp only[cn];congr 1;simp only[eq_iff_iff];omega⟩⟩
  ·have hN:ns =(esc s).length:=by rw[hns,b7Y];rfl
   replace hany:any=decide (s.length<(esc s).length):=by rw[hany,b7Y];simp only[cn];congr 1;simp only[eq_iff_iff];omega
   subst hN
   refine F8 ?_
   refine o7 ?_
   refine j6 rfl rfl rfl ?_
   refine G5 ?_
   refine F8 ?_
   refine a0D rfl (by simp[ltB]) ?_
   refine a3C ?_
   refine F8 ?_
   refine F8 ?_
   refine o7 ?_
   refine j6 rfl rfl rfl ?_
   refine j6 rfl rfl rfl ?_
   refine G5 ?_
   refine Z9 rfl (fun g82=>?_) (fun g82=>?_)
   ·have hs1:=b5a (s:=s) (by rw[hany]at g82;simpa using g82)
    rw[hs1]
    refine F8 ?_
    refine o7 ?_
    refine j6 rfl rfl rfl ?_
    refine j6 rfl rfl rfl ?_
    refine G5 ?_
    exact I5 ⟨_,rfl,by kernel_rfl⟩
   ·refine O0 ?_
    refine F8 ?_
    refine o7 ?_
    refine j6 rfl rfl rfl ?_
    refine a1I rfl rfl (mk_ok (esc s).length (by have:=b0n s;omega) rfl) ?_
    refine j6 rfl rfl rfl ?_
    refine G5 ?_
    refine F8 ?_
    refine o7 ?_
    refine j6 rfl rfl rfl ?_
    refine G5 ?_
    refine b72 rfl ?_
    refine F8 ?_
    refine o7 ?_
    refine j6 rfl rfl rfl ?_
    refine G5 ?_
    refine V7 ?_
    refine a4x (fr1:=[(0,.ptr 0 0),(1,.str s),(12,.rslice 2 0 (esc s).length true),(13,.int .i64 (((esc (s.take 0)).length:Nat):Int)),(14,.int .i64 ((0:Nat):Int))]) (H1:=[(0,.row RR),(1,.grow 1 TR),(2,.grow 1 (BUF s 0))]) (by kernel_rfl) ?_
    refine a7i (fun i:Nat=>[(0,.ptr 0 0),(1,.str s),(12,.rslice 2 0 (esc s).length true),(13,.int .i64 (((esc (s.take i)).length:Nat):Int)),(14,.int .i64 ((i:Nat):Int))]) (fun i=>[(0,.row RR),(1,.grow 1 TR),(2,.grow 1 (BUF s i))]) (fun i=>i<=s.length) (fun i=>s.length-i) 0 (Nat.zero_le _) ?_
    intro i hi ih
    have hles:=b0n s
    have hpre:=b05 s i
    have hbl:=c2V s i
    refine F8 ?_
    refine F8 ?_
    refine o7 ?_
    refine j6 rfl rfl rfl ?_
    refine j6 rfl rfl rfl ?_
    refine j6 rfl rfl rfl ?_
    refine j6 rfl rfl rfl ?_
    refine G5 ?_
    refine Z9 rfl (fun g89=>?_) (fun g89=>?_)
    ·replace g89:i<s.length:=by simpa [ltN]using g89
     obtain⟨b,hb⟩:∃b,s.getD i 0=b:=⟨_,rfl⟩
     have htk:=b2J g89
     rw[hb]at htk
     have hpre2:=b05 s (i+1)
     refine O0 ?_
     refine F8 ?_
     refine V7 ?_
     refine F8 ?_
     refine o7 ?_
     refine j6 rfl rfl rfl ?_
     refine j6 rfl rfl rfl ?_
     refine j6 rfl rfl (a2l (a1N g89) (show _=some (.int .u8 (((s.getD i 0).toNat:Nat):Int))from rfl)) ?_
     rw[hb]
     refine j6 rfl rfl rfl ?_
     refine G5 ?_
     refine F8 ?_
     refine o7 ?_
     refine j6 rfl rfl rfl ?_
     refine j6 rfl rfl rfl ?_
     refine j6 rfl rfl rfl ?_
     refine j6 rfl rfl rfl ?_
     refine j6 rfl rfl (a2l (a1N (UInt8.toNat_lt b)) rfl) ?_
     rcases a7d b with⟨c,hc,he⟩ |⟨hc,he⟩
     ·refine a0Q rfl rfl rfl ((a8w b (by simp)).trans (congrArg some hc)) ?_
      refine j6 rfl rfl (c1X 2 rfl) ?_
      refine G5 ?_
      refine Z6 rfl (rfl) ?_
      refine o7 ?_
      refine j6 rfl rfl rfl ?_
      refine j6 rfl rfl rfl ?_
      refine j6 rfl rfl rfl ?_
      have hL:(esc (s.take (i+1))).length =(esc (s.take i)).length+2:=by rw[htk,he,List.length_append];rfl
      refine j6 rfl rfl (a2l (b0r (by omega) (Nat.le_refl _)) rfl) ?_
      refine j6 rfl rfl rfl ?_
      refine j6 rfl rfl rfl ?_
      refine j6 rfl rfl rfl ?_
      refine j6 rfl rfl rfl ?_
      refine j6 rfl rfl (a2l (a1N (UInt8.toNat_lt b)) rfl) ?_
      refine a0Q rfl rfl rfl ((a8w b (by simp)).trans (congrArg some hc)) ?_
      refine a1I rfl rfl (cp_ok (B:=BUF s (i+1)) (n:=(esc s).length-(esc (s.take i)).length) rfl (by omega) (by omega) (c2Y g89 hb he)) ?_
      refine j6 rfl rfl (addE (k:=2) hL (by omega)) ?_
      refine j6 rfl rfl rfl ?_
      refine G5 ?_
      refine o7 ?_
      refine j6 rfl rfl rfl ?_
      refine j6 rfl rfl (add1 (by omega)) ?_
      refine j6 rfl rfl rfl ?_
      refine G5 ?_
      exact⟨[(0,.ptr 0 0),(1,.str s),(12,.rslice 2 0 (esc s).length true),(13,.int .i64 (((esc (s.take (i+1))).length:Nat):Int)),(14,.int .i64 (((i+1):Nat):Int))],[(0,.row RR),(1,.grow 1 TR),(2,.grow 1 (BUF s (i+1)))],by kernel_rfl,ih (i+1) (by omega) (by omega)⟩
     ·refine a0Q rfl rfl rfl ((a8w b (by simp)).trans (congrArg some hc)) ?_
      refine j6 rfl rfl rfl ?_
      refine G5 ?_
      refine a0D rfl (rfl) ?_
      refine F8 ?_
      refine o7 ?_
      refine j6 rfl rfl rfl ?_
      refine j6 rfl rfl rfl ?_
      refine j6 rfl rfl rfl ?_
      have hL:(esc (s.take (i+1))).length =(esc (s.take i)).length+1:=by rw[htk,he,List.length_append];rfl
      refine j6 rfl rfl (a2l (a1N (by omega)) rfl) ?_
      refine b7i rfl rfl rfl rfl (st_ok (B:=BUF s (i+1)) rfl (by omega) (c2W g89 hb he)) ?_
      refine G5 ?_
      refine o7 ?_
      refine j6 rfl rfl rfl ?_
      refine j6 rfl rfl (addE (k:=1) hL (by omega)) ?_
      refine j6 rfl rfl rfl ?_
      refine G5 ?_
      refine o7 ?_
      refine j6 rfl rfl rfl ?_
      refine j6 rfl rfl (add1 (by omega)) ?_
      refine j6 rfl rfl rfl ?_
      refine G5 ?_
      exact⟨[(0,.ptr 0 0),(1,.str s),(12,.rslice 2 0 (esc s).length true),(13,.int .i64 (((esc (s.take (i+1))).length:Nat):Int)),(14,.int .i64 (((i+1):Nat):Int))],[(0,.row RR),(1,.grow 1 TR),(2,.grow 1 (BUF s (i+1)))],by kernel_rfl,ih (i+1) (by omega) (by omega)⟩
    ·replace g89:¬i<s.length:=by simpa [ltN]using g89
     obtain rfl:i=s.length:=by omega
     refine a3C ?_
     refine⟨[(12,.slice .sealed (esc s).length ((BUF s s.length).take ((esc s).length*1)))],[(0,.row RR),(1,.grow 1 TR)],by kernel_rfl,?_⟩
     refine F8 ?_
     refine o7 ?_
     refine j6 rfl rfl rfl ?_
     refine b1j rfl rfl rfl (cv_ok s) ?_
     refine j6 rfl rfl rfl ?_
     refine G5 ?_
     exact I5 ⟨_,rfl,by kernel_rfl⟩
 ·refine F8 ?_
  refine o7 ?_
  refine j6 rfl rfl rfl ?_
  refine G5 ?_
  refine V7 ?_
  refine a4x (fr1:=[(0,.ptr 0 0),(1,.str s),(5,.int .i64 ((s.length:Nat):Int)),(6,.bool false),(10,.int .i64 ((0:Nat):Int))]) (H1:=[(0,.row RR),(1,.grow 1 TR)]) (by kernel_rfl) ?_
  refine a7i (fun x:Nat×Nat×Bool=>[(0,.ptr 0 0),(1,.str s),(5,.int .i64 ((x.2.1:Nat):Int)),(6,.bool x.2.2),(10,.int .i64 ((x.1:Nat):Int))]) (fun _=>[(0,.row RR),(1,.grow 1 TR)]) (fun x=>x.1<=s.length/\x.2.1+x.1=s.length+(esc (s.take x.1)).length/\x.2.2=decide (x.1<(esc (s.take x.1)).length)) (fun x=>s.length-x.1) (0,s.length,false) ⟨by simp,by simp[esc],by simp[esc]⟩ ?_
  rintro⟨i,ns,any⟩ ⟨hi,hns,hany⟩ ih
  simp only at hi hns hany ih ⊢
  have hge:=c1D (s.take i)
  have hle:=b0n (s.take i)
  rw[List.length_take,Nat.min_eq_left hi]at hge hle
  refine F8 ?_
  refine F8 ?_
  refine o7 ?_
  refine j6 rfl rfl rfl ?_
  refine j6 rfl rfl rfl ?_
  refine j6 rfl rfl rfl ?_
  refine j6 rfl rfl rfl ?_
  refine G5 ?_
  refine Z9 rfl (fun g58=>?_) (fun g58=>?_)
  ·replace g58:i<s.length:=by simpa [ltN]using g58
   obtain⟨b,hb⟩:∃b,s.getD i 0=b:=⟨_,rfl⟩
   have htk:=b2J g58
   rw[hb]at htk
   refine O0 ?_
   refine F8 ?_
   refine V7 ?_
   refine F8 ?_
   refine o7 ?_
   refine j6 rfl rfl rfl ?_
   refine j6 rfl rfl rfl ?_
   refine j6 rfl rfl (a2l (a1N g58) (show _=some (.int .u8 (((s.getD i 0).toNat:Nat):Int))from rfl)) ?_
   rw[hb]
   refine j6 rfl rfl rfl ?_
   refine G5 ?_
   refine F8 ?_
   refine o7 ?_
   refine j6 rfl rfl rfl ?_
   refine j6 rfl rfl rfl ?_
   refine j6 rfl rfl rfl ?_
   refine j6 rfl rfl rfl ?_
   refine j6 rfl rfl (a2l (a1N (UInt8.toNat_lt b)) rfl) ?_
   rcases a7d b with⟨c,hc,he⟩ |⟨hc,he⟩
   ·refine a0Q rfl rfl rfl ((a8w b (by simp)).trans (congrArg some hc)) ?_
    refine j6 rfl rfl (c1X 2 rfl) ?_
    refine G5 ?_
    refine Z6 rfl (rfl) ?_
    refine F8 ?_
    refine o7 ?_
    refine j6 rfl rfl rfl ?_
    refine j6 rfl rfl rfl ?_
    refine j6 rfl rfl rfl ?_
    refine j6 rfl rfl rfl ?_
    refine j6 rfl rfl rfl ?_
    refine j6 rfl rfl (a2l (a1N (UInt8.toNat_lt b)) rfl) ?_
    refine a0Q rfl rfl rfl ((a8w b (by simp)).trans (congrArg some hc)) ?_
    refine j6 rfl rfl rfl ?_
    refine j6 rfl rfl rfl ?_
    refine j6 rfl rfl (addN (k:=1) (by omega)) ?_
    refine j6 rfl rfl rfl ?_
    refine G5 ?_
    refine o7 ?_
    refine j6 rfl rfl rfl ?_
    refine G5 ?_
    refine o7 ?_
    refine j6 rfl rfl rfl ?_
    refine j6 rfl rfl (add1 (by omega)) ?_
    refine j6 rfl rfl rfl ?_
    refine G5 ?_
    exact⟨[(0,.ptr 0 0),(1,.str s),(5,.int .i64 ((ns+1:Nat):Int)),(6,.bool true),(10,.int .i64 ((i+1:Nat):Int))],[(0,.row RR),(1,.grow 1 TR)],by kernel_rfl,ih (i+1,ns+1,true) (by simp only;omega) ⟨by simp only;omega,by rw[htk,he];simp only[List.length_append,List.length_cons,List.length_nil];omega,by rw[htk,he];simp only[List.length_append,List.length_cons,List.length_nil];symm;simp only[decide_eq_true_eq];omega⟩⟩
   ·refine a0Q rfl rfl rfl ((a8w b (by simp)).trans (congrArg some hc)) ?_
    refine j6 rfl rfl rfl ?_
    refine G5 ?_
    refine a0D rfl (rfl) ?_
    refine O0 ?_
    refine o7 ?_
    refine j6 rfl rfl rfl ?_
    refine j6 rfl rfl (add1 (by omega)) ?_
    refine j6 rfl rfl rfl ?_
    refine G5 ?_
    exact⟨[(0,.ptr 0 0),(1,.str s),(5,.int .i64 ((ns:Nat):Int)),(6,.bool any),(10,.int .i64 ((i+1:Nat):Int))],[(0,.row RR),(1,.grow 1 TR)],by kernel_rfl,ih (i+1,ns,any) (by simp only;omega) ⟨by simp only;omega,by rw[htk,he];simp only[List.length_append,List.length_cons,List.length_nil];omega,by rw[hany,htk,he];simp only[List.length_append,List.length_cons,List.length_nil];congr 1;simp only[eq_iff_iff];omega⟩⟩
  ·replace g58:¬i<s.length:=by simpa [ltN]using g58
   obtain rfl:i=s.length:=by omega
   rw[List.take_length]at hns hany
   obtain rfl:ns =(esc s).length:=by omega
   refine a3C ?_
   refine F8 ?_
   refine F8 ?_
   refine o7 ?_
   refine j6 rfl rfl rfl ?_
   refine j6 rfl rfl rfl ?_
   refine G5 ?_
   refine Z9 rfl (fun g82=>?_) (fun g82=>?_)
   ·have hs1:=b5a (s:=s) (by rw[hany]at g82;simpa using g82)
    rw[hs1]
    refine F8 ?_
    refine o7 ?_
    refine j6 rfl rfl rfl ?_
    refine j6 rfl rfl rfl ?_
    refine G5 ?_
    exact I5 ⟨_,rfl,by kernel_rfl⟩
   ·refine O0 ?_
    refine F8 ?_
    refine o7 ?_
    refine j6 rfl rfl rfl ?_
    refine a1I rfl rfl (mk_ok (esc s).length (by have:=b0n s;omega) rfl) ?_
    refine j6 rfl rfl rfl ?_
    refine G5 ?_
    refine F8 ?_
    refine o7 ?_
    refine j6 rfl rfl rfl ?_
    refine G5 ?_
    refine b72 rfl ?_
    refine F8 ?_
    refine o7 ?_
    refine j6 rfl rfl rfl ?_
    refine G5 ?_
    refine V7 ?_
    refine a4x (fr1:=[(0,.ptr 0 0),(1,.str s),(12,.rslice 2 0 (esc s).length true),(13,.int .i64 (((esc (s.take 0)).length:Nat):Int)),(14,.int .i64 ((0:Nat):Int))]) (H1:=[(0,.row RR),(1,.grow 1 TR),(2,.grow 1 (BUF s 0))]) (by kernel_rfl) ?_
    refine a7i (fun i:Nat=>[(0,.ptr 0 0),(1,.str s),(12,.rslice 2 0 (esc s).length true),(13,.int .i64 (((esc (s.take i)).length:Nat):Int)),(14,.int .i64 ((i:Nat):Int))]) (fun i=>[(0,.row RR),(1,.grow 1 TR),(2,.grow 1 (BUF s i))]) (fun i=>i<=s.length) (fun i=>s.length-i) 0 (Nat.zero_le _) ?_
    intro i hi ih
    have hles:=b0n s
    have hpre:=b05 s i
    have hbl:=c2V s i
    refine F8 ?_
    refine F8 ?_
    refine o7 ?_
    refine j6 rfl rfl rfl ?_
    refine j6 rfl rfl rfl ?_
    refine j6 rfl rfl rfl ?_
    refine j6 rfl rfl rfl ?_
    refine G5 ?_
    refine Z9 rfl (fun g89=>?_) (fun g89=>?_)
    ·replace g89:i<s.length:=by simpa [ltN]using g89
     obtain⟨b,hb⟩:∃b,s.getD i 0=b:=⟨_,rfl⟩
     have htk:=b2J g89
     rw[hb]at htk
     have hpre2:=b05 s (i+1)
     refine O0 ?_
     refine F8 ?_
     refine V7 ?_
     refine F8 ?_
     refine o7 ?_
     refine j6 rfl rfl rfl ?_
     refine j6 rfl rfl rfl ?_
     refine j6 rfl rfl (a2l (a1N g89) (show _=some (.int .u8 (((s.getD i 0).toNat:Nat):Int))from rfl)) ?_
     rw[hb]
     refine j6 rfl rfl rfl ?_
     refine G5 ?_
     refine F8 ?_
     refine o7 ?_
     refine j6 rfl rfl rfl ?_
     refine j6 rfl rfl rfl ?_
     refine j6 rfl rfl rfl ?_
     refine j6 rfl rfl rfl ?_
     refine j6 rfl rfl (a2l (a1N (UInt8.toNat_lt b)) rfl) ?_
     rcases a7d b with⟨c,hc,he⟩ |⟨hc,he⟩
     ·refine a0Q rfl rfl rfl ((a8w b (by simp)).trans (congrArg some hc)) ?_
      refine j6 rfl rfl (c1X 2 rfl) ?_
      refine G5 ?_
      refine Z6 rfl (rfl) ?_
      refine o7 ?_
      refine j6 rfl rfl rfl ?_
      refine j6 rfl rfl rfl ?_
      refine j6 rfl rfl rfl ?_
      have hL:(esc (s.take (i+1))).length =(esc (s.take i)).length+2:=by rw[htk,he,List.length_append];rfl
      refine j6 rfl rfl (a2l (b0r (by omega) (Nat.le_refl _)) rfl) ?_
      refine j6 rfl rfl rfl ?_
      refine j6 rfl rfl rfl ?_
      refine j6 rfl rfl rfl ?_
      refine j6 rfl rfl rfl ?_
      refine j6 rfl rfl (a2l (a1N (UInt8.toNat_lt b)) rfl) ?_
      refine a0Q rfl rfl rfl ((a8w b (by simp)).trans (congrArg some hc)) ?_
      refine a1I rfl rfl (cp_ok (B:=BUF s (i+1)) (n:=(esc s).length-(esc (s.take i)).length) rfl (by omega) (by omega) (c2Y g89 hb he)) ?_
      refine j6 rfl rfl (addE (k:=2) hL (by omega)) ?_
      refine j6 rfl rfl rfl ?_
      refine G5 ?_
      refine o7 ?_
      refine j6 rfl rfl rfl ?_
      refine j6 rfl rfl (add1 (by omega)) ?_
      refine j6 rfl rfl rfl ?_
      refine G5 ?_
      exact⟨[(0,.ptr 0 0),(1,.str s),(12,.rslice 2 0 (esc s).length true),(13,.int .i64 (((esc (s.take (i+1))).length:Nat):Int)),(14,.int .i64 (((i+1):Nat):Int))],[(0,.row RR),(1,.grow 1 TR),(2,.grow 1 (BUF s (i+1)))],by kernel_rfl,ih (i+1) (by omega) (by omega)⟩
     ·refine a0Q rfl rfl rfl ((a8w b (by simp)).trans (congrArg some hc)) ?_
      refine j6 rfl rfl rfl ?_
      refine G5 ?_
      refine a0D rfl (rfl) ?_
      refine F8 ?_
      refine o7 ?_
      refine j6 rfl rfl rfl ?_
      refine j6 rfl rfl rfl ?_
      refine j6 rfl rfl rfl ?_
      have hL:(esc (s.take (i+1))).length =(esc (s.take i)).length+1:=by rw[htk,he,List.length_append];rfl
      refine j6 rfl rfl (a2l (a1N (by omega)) rfl) ?_
      refine b7i rfl rfl rfl rfl (st_ok (B:=BUF s (i+1)) rfl (by omega) (c2W g89 hb he)) ?_
      refine G5 ?_
      refine o7 ?_
      refine j6 rfl rfl rfl ?_
      refine j6 rfl rfl (addE (k:=1) hL (by omega)) ?_
      refine j6 rfl rfl rfl ?_
      refine G5 ?_
      refine o7 ?_
      refine j6 rfl rfl rfl ?_
      refine j6 rfl rfl (add1 (by omega)) ?_
      refine j6 rfl rfl rfl ?_
      refine G5 ?_
      exact⟨[(0,.ptr 0 0),(1,.str s),(12,.rslice 2 0 (esc s).length true),(13,.int .i64 (((esc (s.take (i+1))).length:Nat):Int)),(14,.int .i64 (((i+1):Nat):Int))],[(0,.row RR),(1,.grow 1 TR),(2,.grow 1 (BUF s (i+1)))],by kernel_rfl,ih (i+1) (by omega) (by omega)⟩
    ·replace g89:¬i<s.length:=by simpa [ltN]using g89
     obtain rfl:i=s.length:=by omega
     refine a3C ?_
     refine⟨[(12,.slice .sealed (esc s).length ((BUF s s.length).take ((esc s).length*1)))],[(0,.row RR),(1,.grow 1 TR)],by kernel_rfl,?_⟩
     refine F8 ?_
     refine o7 ?_
     refine j6 rfl rfl rfl ?_
     refine b1j rfl rfl rfl (cv_ok s) ?_
     refine j6 rfl rfl rfl ?_
     refine G5 ?_
     exact I5 ⟨_,rfl,by kernel_rfl⟩
end Go.Proofs.YtjhfloacokgdiaaGreatDoor.Rp
namespace Go.Proofs.YtjhfloacokgdiaaGreatDoor.Rp
open Go Go.Vm
theorem b9n {env:Env}{orc:Orc}{H:Hp}{k g:Nat}{args ac:List V}{ns:List Nat}{H3 H4 Hc:Hp}{v v4:V}(hq:env.quiet g=false)(hp:a6A env g args H=some (ns,ac,Hc))(hc:orc (.call g ac) Hc=some (.ret v H3))(h7:a4C (a01 (K9 ns k) dep v)=some v4)
  (h8:a0s (a06 (K9 ns k) H3 H)=some H4) (h9:a3i H H3 k ns.length=true):Y5 env orc k g args H=some (.val v4 H4):=by
 rw[a2e]at h8
 rw[a8t]at h7
 obtain⟨Y4,H2,h1,h2,h3,h4⟩:=a6B hp
 simp only[Y5,hq,h1,h2,h3,h4,hc,h7,h8,h9]
theorem c4S {env:Env}{orc:Orc}{ops:Array Oper}{o:Oper}{rest:List Oper}{fr:Fr}{H H1:Hp}{K:Res->Prop}{rc:Operand}{m:String}{args:Array Operand}{at_:Array TypeId}{t g:Nat}{v0 v:V}{l:List V}
  (hw:D7 ops o fr=some true) (ho:o.op=.call ⟨.invoke rc m,args,at_⟩) (hr:ev fr rc=some (.iface t v0)) (hl:evL fr args.toList=some l) (hm:env.meth t m=some g) (hc:Y5 env orc (newName o) g (v0::l) H=some (.val v H1))
  (h:Go.Vm.Os env orc ops rest (X6 o.dst v fr) H1 K):Go.Vm.Os env orc ops (o::rest) fr H K:=by
 have hp:Q8 o.op=false:=by rw[ho];rfl
 refine a1I hw hp (v:=v) (H1:=H1) ?_ h
 unfold V8
 rw[ho]
 simp only[hr,hl,hm,hc]
theorem do_E:E env (.call 142 [.ptr 0 0,.func (.func 143) [.ptr 0 0] []]) [(0,.row [.int .u32 0,.int .i32 0,.int .u32 0,.nilIface,.slice (.tag 1) 8 pairs]),(1,.tip 1 8)]=some (.ret (.tuple []) [(0,.row [.int .u32 1,.int .i32 0,.int .u32 0,.iface 196 (.ptr 2 0),.slice .nil 0 []]),(1,.tip 1 8),(2,.row ((List.range 256).map cell++[.rslice 3 0 4 true])),(3,.grow 1 TR)]) :=
 E_via (g':=143) (l:=[.ptr 0 0]) (H':=[(0,.row [.int .u32 0,.int .i32 1,.int .u32 0,.nilIface,.slice (.tag 1) 8 pairs]),(1,.tip 1 8)]) rfl (by kernel_rfl) bu_E (by kernel_rfl)
theorem rp_E (s:List UInt8)(hs:s.length<=1000000):E env (.call 115 [.ptr 0 0,.str s]) [(0,.row [.int .u32 0,.int .i32 0,.int .u32 0,.nilIface,.slice (.tag 1) 8 pairs]),(1,.tip 1 8)]=some (.ret (.str (esc s)) [(0,.row [.int .u32 1,.int .i32 0,.int .u32 0,.iface 196 (.ptr 2 0),.slice .nil 0 []]),(1,.tip 1 8),(2,.row ((List.range 256).map cell++[.rslice 3 0 4 true])),(3,.grow 1 TR)]):=by
 refine a0t (env:=env) rfl Tryz.func115 rfl rfl ?_
 refine F8 ?_
 refine o7 ?_
 refine j6 rfl rfl rfl ?_
 refine G5 ?_
 refine F8 ?_
 refine o7 ?_
 refine j6 rfl rfl rfl ?_
 refine j6 rfl rfl rfl ?_
 refine j6 rfl rfl rfl ?_
 refine j6 rfl rfl rfl ?_
 refine j6 rfl rfl rfl ?_
 refine b1i (v:=.tuple []) (H1:=[(0,.row [.int .u32 1,.int .i32 0,.int .u32 0,.iface 196 (.ptr 704 0),.slice .nil 0 []]),(1,.tip 1 8),(704,.row ((List.range 256).map cell++[.rslice 705 0 4 true])),(705,.grow 1 TR)]) rfl rfl rfl (a4B (ns:=[0,1]) (ac:=[.ptr 0 0,.func (.func 143) [.ptr 0 0] []]) (Hc:=[(0,.row [.int .u32 0,.int .i32 0,.int .u32 0,.nilIface,.slice (.tag 1) 8 pairs]),(1,.tip 1 8)]) rfl (by kernel_rfl) do_E (by kernel_rfl) (by kernel_rfl) (by kernel_rfl)) ?_
 refine G5 ?_
 refine F8 ?_
 refine o7 ?_
 refine j6 rfl rfl rfl ?_
 refine j6 rfl rfl rfl ?_
 refine j6 rfl rfl rfl ?_
 refine a0Q rfl rfl rfl (v:=.iface 196 (.ptr 704 0)) (by kernel_rfl) ?_
 refine j6 rfl rfl rfl ?_
 refine c4S (g:=242) (v:=.str (esc s)) (H1:=[(0,.row [.int .u32 1,.int .i32 0,.int .u32 0,.iface 196 (.ptr 704 0),.slice .nil 0 []]),(1,.tip 1 8),(704,.row ((List.range 256).map cell++[.rslice 705 0 4 true])),(705,.grow 1 TR)]) rfl rfl rfl rfl rfl (b9n (ns:=[704,705]) (ac:=[.ptr 0 0,.str s]) (Hc:=[(0,.row RR),(1,.grow 1 TR)]) rfl (by kernel_rfl) (bs_E s hs) (by kernel_rfl) (by kernel_rfl) (by kernel_rfl)) ?_
 refine j6 rfl rfl rfl ?_
 refine G5 ?_
 exact I5 ⟨.str (esc s),by kernel_rfl,by kernel_rfl⟩
theorem esc_E (s:List UInt8)(hs:s.length<=1000000):E env (.call 71 [.str s]) []=some (.ret (.str (esc s)) []):=by
 refine a0t (env:=env) rfl Tryz.func71 rfl rfl ?_
 refine F8 ?_
 refine o7 ?_
 refine j6 rfl rfl rfl ?_
 refine G5 ?_
 refine F8 ?_
 refine o7 ?_
 refine j6 rfl rfl rfl ?_
 refine b1i (v:=.ptr 320 0) (H1:=[(320,.row [.int .u32 0,.int .i32 0,.int .u32 0,.nilIface,.slice (.tag 321) 8 pairs]),(321,.tip 1 8)]) rfl rfl rfl (a4B (ns:=[]) (ac:=[.slice .sealed 8 pairs]) (Hc:=[]) rfl (by kernel_rfl) nr_E (by kernel_rfl) (by kernel_rfl) (by kernel_rfl)) ?_
 refine j6 rfl rfl rfl ?_
 refine b1i (v:=.str (esc s)) (H1:=[(320,.row [.int .u32 1,.int .i32 0,.int .u32 0,.iface 196 (.ptr 448 0),.slice .nil 0 []]),(321,.tip 1 8),(448,.row ((List.range 256).map cell++[.rslice 449 0 4 true])),(449,.grow 1 TR)]) rfl rfl rfl (a4B (ns:=[320,321]) (ac:=[.ptr 0 0,.str s]) (Hc:=[(0,.row [.int .u32 0,.int .i32 0,.int .u32 0,.nilIface,.slice (.tag 1) 8 pairs]),(1,.tip 1 8)]) rfl (by kernel_rfl) (rp_E s hs) (by kernel_rfl) (by kernel_rfl) (by kernel_rfl)) ?_
 refine j6 rfl rfl rfl ?_
 refine G5 ?_
 exact I5 ⟨.str (esc s),by kernel_rfl,by kernel_rfl⟩
def escF:List V->Option V:=fun args=>match args with
 | [.str s]=>match leN s.length 1000000 with
  | true=>some (.str (esc s))
  | false=>none
 | _=>none
theorem esc_intr:a6W Tryz.prog 71 (a9D escF):=by
 refine b83 b47 (fun args v h=>?_) ⟨_,_,Tryz.func71,by kernel_rfl,rfl⟩
 unfold escF at h
 split at h
 ·rename_i s
  split at h
  ·rename_i hs
   cases h
   exact⟨rfl,rfl,esc_E s (a4c hs)⟩
  ·cases h
 ·cases h
end Go.Proofs.YtjhfloacokgdiaaGreatDoor.Rp
namespace Go.Proofs
open Go.Shelf
def Tryz.b8n:Go.Shelf.Ren:=⟨fun|171=>113|243=>141|246=>153|283=>163|284=>164|285=>165|286=>166|129=>177|317=>176|318=>178|319=>179|320=>180|337=>192|338=>193|n=>n,fun|3=>3|9=>9|2=>2|4=>4|171=>177|0=>0|53=>178|37=>58|5=>5|173=>181|212=>200|51=>119|20=>20|213=>201|46=>169|232=>240|233=>241|n=>n,fun|17=>5|18=>8|19=>9|n=>n⟩
theorem Tryz.laysM171:Go.Proofs.LaysM.n171 Tryz.prog Tryz.b8n:={
 mixed:=by kernel_rfl
 f129:=Tryz.func177.trans (congrArg some (by kernel_rfl))
 f171:=Tryz.func113.trans (congrArg some (by kernel_rfl))
 f243:=Tryz.func141.trans (congrArg some (by kernel_rfl))
 f246:=Tryz.func153.trans (congrArg some (by kernel_rfl))
 f283:=Tryz.func163.trans (congrArg some (by kernel_rfl))
 f284:=Tryz.func164.trans (congrArg some (by kernel_rfl))
 f285:=Tryz.func165.trans (congrArg some (by kernel_rfl))
 f286:=Tryz.func166.trans (congrArg some (by kernel_rfl))
 f317:=Tryz.func176.trans (congrArg some (by kernel_rfl))
 f318:=Tryz.func178.trans (congrArg some (by kernel_rfl))
 f319:=Tryz.func179.trans (congrArg some (by kernel_rfl))
 f320:=Tryz.func180.trans (congrArg some (by kernel_rfl))
 f337:=Tryz.func192.trans (congrArg some (by kernel_rfl))
 f338:=Tryz.func193.trans (congrArg some (by kernel_rfl))
 t0:=Tryz.underlying0
 a0:=Tryz.isAgg0
 z0:=Tryz.sizeOf0
 v0:=Tryz.zeroValue0
 t2:=Tryz.underlying2
 a2:=Tryz.isAgg2
 z2:=Tryz.sizeOf2
 v2:=Tryz.zeroValue2
 t3:=Tryz.underlying3
 a3:=Tryz.isAgg3
 z3:=Tryz.sizeOf3
 v3:=Tryz.zeroValue3
 t4:=Tryz.underlying4
 a4:=Tryz.isAgg4
 z4:=Tryz.sizeOf4
 v4:=Tryz.zeroValue4
 t5:=Tryz.underlying5
 a5:=Tryz.isAgg5
 z5:=Tryz.sizeOf5
 v5:=Tryz.zeroValue5
 t9:=Tryz.underlying9
 a9:=Tryz.isAgg9
 z9:=Tryz.sizeOf9
 v9:=Tryz.zeroValue9
 t20:=Tryz.underlying20
 a20:=Tryz.isAgg20
 z20:=Tryz.sizeOf20
 v20:=Tryz.zeroValue20
 t37:=Tryz.underlying58
 a37:=Tryz.isAgg58
 z37:=Tryz.sizeOf58
 v37:=Tryz.zeroValue58
 t46:=Tryz.underlying169
 a46:=Tryz.isAgg169
 z46:=Tryz.sizeOf169
 v46:=Tryz.zeroValue169
 t51:=Tryz.underlying119
 a51:=Tryz.isAgg119
 z51:=Tryz.sizeOf119
 v51:=Tryz.zeroValue119
 t53:=Tryz.underlying178
 a53:=Tryz.isAgg178
 z53:=Tryz.sizeOf178
 v53:=Tryz.zeroValue178
 t171:=Tryz.underlying177
 a171:=Tryz.isAgg177
 z171:=Tryz.sizeOf177
 v171:=Tryz.zeroValue177
 t173:=Tryz.underlying181
 a173:=Tryz.isAgg181
 z173:=Tryz.sizeOf181
 v173:=Tryz.zeroValue181
 t212:=Tryz.underlying200
 a212:=Tryz.isAgg200
 z212:=Tryz.sizeOf200
 v212:=Tryz.zeroValue200
 t213:=Tryz.underlying201
 a213:=Tryz.isAgg201
 z213:=Tryz.sizeOf201
 t232:=Tryz.underlying240
 a232:=Tryz.isAgg240
 z232:=Tryz.sizeOf240
 v232:=Tryz.zeroValue240
 t233:=Tryz.underlying241
 a233:=Tryz.isAgg241
 z233:=Tryz.sizeOf241
 v233:=Tryz.zeroValue241
 g17:=by kernel_rfl
 g18:=by kernel_rfl
 g19:=by kernel_rfl
 i0:=by kernel_rfl
 i2:=by kernel_rfl
 i3:=by kernel_rfl
 i4:=by kernel_rfl
 i5:=by kernel_rfl
 i9:=by kernel_rfl
 i20:=by kernel_rfl
 i37:=by kernel_rfl
 i46:=by kernel_rfl
 i51:=by kernel_rfl
 i53:=by kernel_rfl
 i171:=by kernel_rfl
 i173:=by kernel_rfl
 i212:=by kernel_rfl
 i232:=by kernel_rfl
 i233:=by kernel_rfl
 m17:=by kernel_rfl
 m18:=by kernel_rfl
 m19:=by kernel_rfl}
open Go.RowKit Go.Sort Go.Lib in
theorem Tryz.strconv_Itoa (n:Int) (h0:-9223372036854775808<=n) (h1:n<=9223372036854775807) (w:World) (htab:Lib.TabIs Tryz.prog w "internal/strconv.uint64pow10" .u64 Lib.pow10Tab) :
  Calls Tryz.prog 113 #[.int .i64 n] w fun e w'=>e=.returned (.string ⟨(Lib.itoa n).toArray⟩) /\ ∃k os,w'=grow (w.drewN k) os:=Any.strconv_Itoa Tryz.laysM171 n h0 h1 w htab
end Go.Proofs
namespace Go.Proofs.YtjhfloacokgdiaaGreatDoor
open Go Go.Vm
def rngB (n:Int):Bool:=decide (-9223372036854775808<=n)&&decide (n<=9223372036854775807)
def b9O:List V->Option V
 | [.int .i64 n]=>match rngB n with
  | true=>some (.str (Lib.itoa n))
  | false=>none
 | _=>none
theorem tab_at {w:World} (h:KpW w):Lib.TabIs Tryz.prog w "internal/strconv.uint64pow10" .u64 Lib.pow10Tab:=by
 obtain⟨_,t,fr,h⟩:=h (5,kpTab) List.mem_cons_self
 unfold Lib.TabIs World.var?
 rw[show Tryz.prog.globalNamed "internal/strconv.uint64pow10" = some 5 by kernel_rfl]
 simp only[Option.bind_some,h]
 rfl
theorem b63:a6W Tryz.prog 113 (a9D b9O):=by
 refine⟨fun args H out h ρ lab w xs hc hS hx=>?_,⟨_,_,Tryz.func113,rfl,rfl⟩⟩
 unfold a9D b9O at h
 split at h
 ·rename_i v hv
  cases h
  split at hv
  ·rename_i n
   split at hv
   ·rename_i hb
    cases hv
    simp only[rngB,Bool.and_eq_true,decide_eq_true_eq]at hb
    obtain⟨x1,r1,rfl,a1,a2⟩:=E9.1 hx
    have:r1=[]:=by have:=a2.1;simpa using this
    subst this
    cases a1
    refine(Tryz.strconv_Itoa n hb.1 hb.2 w (tab_at hS.kp.1)).mono fun e w' ⟨he,k,os,hw⟩=>?_
    subst he hw
    have hg:a0A w (Go.Sort.grow (w.drewN k) os):=a7b (Lib.below_grow _ w (Nat.le_refl _) k os)
    exact⟨ρ,lab,hS.grew hg,hg.ext lab,⟨fun _ _ _ h=>h,fun _ _ _ _ h=>h⟩,.str _,hc,Nat.le_refl _⟩
   ·cases hv
  ·cases hv
 ·cases h
end Go.Proofs.YtjhfloacokgdiaaGreatDoor
namespace Go.Proofs
open Go.Shelf
def Tryz.b37:Go.Shelf.Ren:=⟨fun|163=>30|237=>63|199=>64|238=>65|272=>108|261=>109|273=>110|197=>111|315=>134|311=>135|312=>136|271=>137|260=>138|120=>148|n=>n,fun|9=>9|37=>58|3=>3|0=>0|5=>5|4=>4|40=>99|119=>100|21=>21|51=>119|141=>121|105=>123|196=>142|193=>139|198=>145|49=>143|194=>140|201=>148|226=>168|46=>169|227=>170|139=>173|138=>172|n=>n,fun|0=>0|6=>1|3=>2|4=>3|n=>n⟩
theorem Tryz.c3B:Go.Proofs.Lays.n163 Tryz.prog Tryz.b37:={
 mixed:=by kernel_rfl
 f120:=Tryz.func148.trans (congrArg some (by kernel_rfl))
 f163:=Tryz.func30.trans (congrArg some (by kernel_rfl))
 f197:=Tryz.func111.trans (congrArg some (by kernel_rfl))
 f199:=Tryz.func64.trans (congrArg some (by kernel_rfl))
 f237:=Tryz.func63.trans (congrArg some (by kernel_rfl))
 f238:=Tryz.func65.trans (congrArg some (by kernel_rfl))
 f260:=Tryz.func138.trans (congrArg some (by kernel_rfl))
 f261:=Tryz.func109.trans (congrArg some (by kernel_rfl))
 f271:=Tryz.func137.trans (congrArg some (by kernel_rfl))
 f272:=Tryz.func108.trans (congrArg some (by kernel_rfl))
 f273:=Tryz.func110.trans (congrArg some (by kernel_rfl))
 f311:=Tryz.func135.trans (congrArg some (by kernel_rfl))
 f312:=Tryz.func136.trans (congrArg some (by kernel_rfl))
 f315:=Tryz.func134.trans (congrArg some (by kernel_rfl))
 t0:=Tryz.underlying0
 a0:=Tryz.isAgg0
 z0:=Tryz.sizeOf0
 v0:=Tryz.zeroValue0
 t3:=Tryz.underlying3
 a3:=Tryz.isAgg3
 z3:=Tryz.sizeOf3
 v3:=Tryz.zeroValue3
 t4:=Tryz.underlying4
 a4:=Tryz.isAgg4
 z4:=Tryz.sizeOf4
 v4:=Tryz.zeroValue4
 t5:=Tryz.underlying5
 a5:=Tryz.isAgg5
 z5:=Tryz.sizeOf5
 v5:=Tryz.zeroValue5
 t9:=Tryz.underlying9
 a9:=Tryz.isAgg9
 z9:=Tryz.sizeOf9
 v9:=Tryz.zeroValue9
 t21:=Tryz.underlying21
 a21:=Tryz.isAgg21
 z21:=Tryz.sizeOf21
 v21:=Tryz.zeroValue21
 t37:=Tryz.underlying58
 a37:=Tryz.isAgg58
 z37:=Tryz.sizeOf58
 v37:=Tryz.zeroValue58
 t40:=Tryz.underlying99
 a40:=Tryz.isAgg99
 z40:=Tryz.sizeOf99
 v40:=Tryz.zeroValue99
 t46:=Tryz.underlying169
 a46:=Tryz.isAgg169
 z46:=Tryz.sizeOf169
 v46:=Tryz.zeroValue169
 t49:=Tryz.underlying143
 a49:=Tryz.isAgg143
 z49:=Tryz.sizeOf143
 v49:=Tryz.zeroValue143
 t51:=Tryz.underlying119
 a51:=Tryz.isAgg119
 z51:=Tryz.sizeOf119
 v51:=Tryz.zeroValue119
 t105:=Tryz.underlying123
 a105:=Tryz.isAgg123
 z105:=Tryz.sizeOf123
 v105:=Tryz.zeroValue123
 t119:=Tryz.underlying100
 a119:=Tryz.isAgg100
 z119:=Tryz.sizeOf100
 t138:=Tryz.underlying172
 a138:=Tryz.isAgg172
 z138:=Tryz.sizeOf172
 v138:=Tryz.zeroValue172
 t139:=Tryz.underlying173
 a139:=Tryz.isAgg173
 z139:=Tryz.sizeOf173
 v139:=Tryz.zeroValue173
 t141:=Tryz.underlying121
 a141:=Tryz.isAgg121
 z141:=Tryz.sizeOf121
 v141:=Tryz.zeroValue121
 t193:=Tryz.underlying139
 a193:=Tryz.isAgg139
 z193:=Tryz.sizeOf139
 v193:=Tryz.zeroValue139
 t194:=Tryz.underlying140
 a194:=Tryz.isAgg140
 z194:=Tryz.sizeOf140
 v194:=Tryz.zeroValue140
 t196:=Tryz.underlying142
 a196:=Tryz.isAgg142
 z196:=Tryz.sizeOf142
 v196:=Tryz.zeroValue142
 t198:=Tryz.underlying145
 a198:=Tryz.isAgg145
 z198:=Tryz.sizeOf145
 v198:=Tryz.zeroValue145
 t201:=Tryz.underlying148
 a201:=Tryz.isAgg148
 z201:=Tryz.sizeOf148
 v201:=Tryz.zeroValue148
 t226:=Tryz.underlying168
 a226:=Tryz.isAgg168
 z226:=Tryz.sizeOf168
 v226:=Tryz.zeroValue168
 t227:=Tryz.underlying170
 a227:=Tryz.isAgg170
 z227:=Tryz.sizeOf170
 v227:=Tryz.zeroValue170
 g0:=by kernel_rfl
 g3:=by kernel_rfl
 g4:=by kernel_rfl
 g6:=by kernel_rfl}
theorem Tryz.a9E:Space.Extra Tryz.prog Tryz.b37:={
 gNamed:=by kernel_rfl}
open Go.RowKit in
theorem Tryz.strings_TrimSpace (s:ByteArray) (w:World) (hs:s.size<=9223372036854775807) (hascii:∀(j:Nat) b,s.data.toList[j]? = some b->b.toNat<128) (htab:Lib.TabIs Tryz.prog w "strings.asciiSpace" .u8 Lib.asciiSpaceTab) :
  Calls Tryz.prog 30 #[.string s] w fun e w'=>e=.returned (.string ⟨(Lib.trimSpace s.data.toList).toArray⟩)/\w'=Lib.bytesWorld w 5 s:=Any.strings_TrimSpace Tryz.c3B Tryz.a9E s w hs hascii htab
end Go.Proofs
namespace Go.Proofs.YtjhfloacokgdiaaGreatDoor.Tr
open Go Go.Shelf Go.RowKit
variable {P:Program} {ρ:Ren}
theorem trim_end (L:Lays.n163 P ρ)(XS:Space.Extra P ρ)(s:ByteArray)(w:World)(n:Nat)(hs:s.size<=9223372036854775807)(hn:n<s.size)(x y:UInt8)
  (h0:s.data.toList[0]? = some x) (hl:s.data.toList[n]? = some y) (hx128:x.toNat<128) (hy128':y.toNat<128) (hxs:Lib.isSp x=false) (hys:Lib.isSp y=false)
  (hsp:∀(j:Nat) b,n<j->s.data.toList[j]? = some b->Lib.isSp b=true)
  (htab:Lib.TabIs P w "strings.asciiSpace" .u8 Lib.asciiSpaceTab) :
  Calls P (ρ.f 163) #[.string s] w fun e w'=>e=.returned (.string (s.extract 0 (n+1)))/\w'=Lib.bytesWorld w (ρ.t 5) s:=by
 have hg:P.globalNamed "strings.asciiSpace" = some (ρ.g 0):=XS.gNamed
 have htab':Lib.TabIs P (Lib.bytesWorld w (ρ.t 5) s) "strings.asciiSpace" .u8 Lib.asciiSpaceTab:=Lib.bytesWorld_var w (ρ.t 5) s htab
 have hT:∀c:Nat,c<256 ->(Lib.bytesWorld w (ρ.t 5) s).cell? ⟨(ρ.g 0),c,none⟩=some (.int .u8 (if Lib.isSp (UInt8.ofNat c)then 1 else 0)):=by
  intro c hc
  rw[htab'.cell hg c (by rw[Lib.asciiSpaceTab_length];exact hc),Lib.asciiSpaceTab_at c hc]
 have hB:∀t,t<s.size ->(Lib.bytesWorld w (ρ.t 5) s).cell? ⟨w.heap.size,t,none⟩=some (.int .u8 (s.data.toList.getD t 0).toNat):=fun t ht=>Lib.bytesWorld_cell w (ρ.t 5) s t ht
 have HL:=Any.hidS hl
 have HP:=Any.hidS hsp
 have HN:=Any.hidS hn
 clear htab htab' hg hl hsp hn
 have mixed:=L.mixed
 have t5:=L.t5;have a5:=L.a5;have z5:=L.z5;have v5:=L.v5;have u5:=run_underlying L.t5
 have t37:=L.t37;have a37:=L.a37;have z37:=L.z37;have v37:=L.v37;have u37:=run_underlying L.t37
 have t3:=L.t3;have a3:=L.a3;have z3:=L.z3;have v3:=L.v3;have u3:=run_underlying L.t3
 have t9:=L.t9;have a9:=L.a9;have z9:=L.z9;have v9:=L.v9;have u9:=run_underlying L.t9
 have t4:=L.t4;have a4:=L.a4;have z4:=L.z4;have v4:=L.v4;have u4:=run_underlying L.t4
 have t21:=L.t21;have a21:=L.a21;have z21:=L.z21;have v21:=L.v21;have u21:=run_underlying L.t21
 have t119:=L.t119;have a119:=L.a119;have z119:=L.z119;have u119:=run_underlying L.t119
 go_enter L.f163,Body.n163_ntmps ρ
 go_wp2
 rw[Lib.run_convert_string_bytes w (ρ.t 9) (ρ.t 37) (ρ.t 5) s (u:=.string) L.t9 L.t37 L.t5]
 simp only[Result.andThen]
 rw[Oper.upon_value]
 obtain⟨W1,hW1⟩:∃W1,W1=Lib.bytesWorld w (ρ.t 5) s:=⟨_,rfl⟩
 rw[<-hW1]at hT hB ⊢
 have HW:=Any.hidS hW1
 have HT:=Any.hidS hT
 have HB:=Any.hidS hB
 clear hW1 hT hB
 go_wp2
 go_loop [10,0] (fun i s0=>s0=.string s /\ ∃k:Nat,k<=s.size/\i=.int .i64 k/\Hid (k=0)) (fun i _=>s.size-(intOf i).toNat)
 case atStart=>exact⟨rfl,0,Nat.zero_le _,rfl,rfl⟩
 case round =>
  obtain⟨rfl,k,hk,rfl,hk0⟩:=hrel
  have hkn:k<s.size:=by have:=hk0.out;have:=HN.out;omega
  have hxk:s.data.toList[k]? = some x:=by rw[hk0.out];exact h0
  have hc1:W1.cell? ⟨w.heap.size,k,none⟩=some (.int .u8 x.toNat):=by
   rw[HB.out k hkn,List.getD,hxk]
   rfl
  have h128:¬(128:Int) <=(x.toNat:Int):=by omega
  have hTx:W1.cell? ⟨(ρ.g 0),x.toNat,none⟩=some (.int .u8 0):=by
   have:=HT.out x.toNat (UInt8.toNat_lt x)
   simpa [hxs]using this
  have Hxk:=Any.hidS hxk
  clear hxk h0
  have hsl1:∀w,(Instr.slice (ρ.t 9) (.string s) (some (.int .i64 (k:Int))) none none).run P w=.ok (.string (s.extract k s.size)) w:=fun w=>by
   rw[run_slice_string_from_if w (ρ.t 9) s .i64 _ L.t9,if_pos ⟨by omega,by omega⟩]
   rfl
  have hts:(s.extract k s.size).size=s.size-k:=by
   rw[Lib.size_eq,Lib.extract_data,List.length_take,List.length_drop,<-Lib.size_eq]
   omega
  have hte:(s.extract k s.size).data.toList =(s.data.toList.drop k).take (s.size-k):=Lib.extract_data s k s.size
  have htd:∀j:Nat,(s.extract k s.size).data.toList[j]? = if j<s.size-k then s.data.toList[k+j]? else none:=by
   intro j
   rw[Lib.extract_data,List.getElem?_take]
   split
   ·rw[List.getElem?_drop]
   ·rfl
  generalize s.extract k s.size=t at hts htd hte hsl1
  have Htd:=Any.hidS htd
  have Hte:=Any.hidS hte
  clear htd hte
  go_wp2
  go_loop [5] (fun h=>∃m:Nat,m<s.size-k/\h=.int .i64 m/\Hid (n<=m)) (fun h=>(intOf h).toNat)
  case atStart =>
   refine⟨s.size-k-1,by omega,by go_num,?_⟩
   have:=hk0.out;have:=HN.out
   show n<=s.size-k-1
   omega
  case round =>
   obtain⟨m,hm,rfl,hnm⟩:=hrel
   have hmt:m<t.size:=by omega
   have hty:t.data.toList[m]? = some (t[m]'hmt):=by
    rw[Array.getElem?_toList]
    exact Array.getElem?_eq_getElem hmt
   have hsm:s.data.toList[m]? = some (t[m]'hmt):=by rw[<-hty,Htd.out m,if_pos hm,hk0.out,Nat.zero_add]
   have hcase:(m=n/\t[m]'hmt=y)∨(n<m/\Lib.isSp (t[m]'hmt)=true):=by
    rcases Nat.lt_or_ge n m with e|e
    ·exact .inr ⟨e,HP.out m _ e hsm⟩
    ·have e:m=n:=Nat.le_antisymm e hnm.out
     refine .inl ⟨e,?_⟩
     have h1:=HL.out
     rw[<-e,hsm]at h1
     exact Option.some.inj h1
   have hy128:¬(128:Int) <=((t[m]'hmt).toNat:Int):=by
    rcases hcase with⟨_,e⟩ |⟨_,e⟩
    ·rw[e];omega
    ·have:∀b:UInt8,Lib.isSp b=true->b.toNat<128:=fun b hb=>by
      simp only[Lib.isSp,Bool.or_eq_true,beq_iff_eq]at hb
      rcases hb with((((rfl|rfl)|rfl)|rfl)|rfl)|rfl<;>decide
     have:=this _ e
     omega
   have hTy:W1.cell? ⟨(ρ.g 0),(t[m]'hmt).toNat,none⟩=some (.int .u8 (if Lib.isSp (t[m]'hmt)then 1 else 0)):=by
    have:=HT.out (t[m]'hmt).toNat (UInt8.toNat_lt _)
    simpa using this
   have Hsm:=Any.hidS hsm
   clear hty hsm
   have Hc:=Any.hidS hcase
   clear hcase
   cases hsy:Lib.isSp (t[m]'hmt)with
   | true =>
    rw[hsy]at hTy
    simp only[if_true]at hTy
    have hm0:n<m:=by
     rcases Hc.out with⟨_,e⟩ |⟨e,_⟩
     ·rw[e,hys]at hsy;cases hsy
     ·exact e
    have hm1:0<m:=by omega
    have Hm0:=Any.hidS hm0
    clear hm0
    go_wp2
    go_round
    case rel=>exact⟨m-1,by omega,by go_num,by have:=Hm0.out;show n<=m-1;omega⟩
    case measure=>simp[intOf];omega
   | false =>
    rw[hsy]at hTy
    simp only[Bool.false_eq_true,if_false]at hTy
    have hsl2:∀w,(Instr.slice (ρ.t 9) (.string t) none (some (.int .i64 ((m:Int)+1))) none).run P w=.ok (.string (t.extract 0 (m+1))) w:=fun w=>by
     rw[run_slice_string_to_if w (ρ.t 9) t .i64 _ L.t9,if_pos ⟨by omega,by omega⟩,show((m:Int)+1).toNat=m+1 by omega]
    go_wp2
    go_ret
    refine⟨?_,HW.out⟩
    have hmn:m=n:=by
     rcases Hc.out with⟨e,_⟩ |⟨_,e⟩
     ·exact e
     ·rw[hsy]at e;cases e
    show Ending.returned (Value.string (t.extract 0 (m+1)))=_
    have e1:(t.extract 0 (m+1)).data.toList =(s.extract 0 (n+1)).data.toList:=by
     rw[Lib.extract_data,Lib.extract_data,Hte.out,hk0.out,hmn]
     simp only[List.drop_zero,List.take_take]
     congr 1
     have:=HN.out
     omega
    rw[Any.ba_eq _ _ e1,Any.ba_eq (s.extract 0 (n+1)) _ rfl]
open Go.Vm
def rtr (s:List UInt8):Option (List UInt8):=match s.reverse.dropWhile Lib.isSp with
 | []=>none
 | y::r=>match Nat.ble y.toNat 127 with
  | true=>some (y::r).reverse
  | false=>none
def b7D (s:List UInt8):Option (List UInt8):=match s with
 | []=>some []
 | x::_=>match leN s.length 1000000&&(Nat.ble x.toNat 127 && !Lib.isSp x)with
  | true=>rtr s
  | false=>none
theorem dw {p:UInt8->Bool}:∀(l:List UInt8) {y t},l.dropWhile p=y::t->p y=false /\ ∃k,l=k++y::t /\ ∀b∈k,p b=true
 | [],y,t,h=>by cases h
 | x::l,y,t,h=>by
  rw[List.dropWhile_cons]at h
  cases hx:p x with
  | true =>
   rw[hx,if_pos rfl]at h
   obtain⟨h1,k,h2,h3⟩:=dw l h
   exact⟨h1,x::k,by rw[h2];rfl,fun b hb=>by
    cases hb with
    | head=>exact hx
    | tail _ hb=>exact h3 b hb⟩
  | false =>
   rw[hx,if_neg (by simp)]at h
   cases h
   exact⟨hx,[],rfl,fun b hb=>by cases hb⟩
theorem rtr_at {s r:List UInt8}(h:rtr s=some r):∃(n:Nat) (y:UInt8),n<s.length/\s[n]? = some y/\y.toNat<128/\Lib.isSp y=false/\(∀(j:Nat) b,n<j->s[j]? = some b->Lib.isSp b=true)/\r=s.take (n+1):=by
 unfold rtr at h
 split at h
 ·cases h
 ·rename_i y t e
  obtain⟨h1,k,h2,h3⟩:=dw _ e
  have e3:s=t.reverse ++(y::k.reverse):=by
   have:=congrArg List.reverse h2
   simpa using this
  split at h
  ·rename_i hb
   cases h
   refine⟨t.length,y,?_,?_,by have:=Nat.le_of_ble_eq_true hb;omega,h1,fun j b hj hb=>?_,?_⟩
   ·rw[e3];simp
   ·rw[e3,List.getElem?_append_right (by simp)];simp
   ·rw[e3,List.getElem?_append_right (by simp;omega)]at hb
    obtain⟨i,hi⟩:∃i,j-t.reverse.length=i+1:=⟨j-t.length-1,by simp;omega⟩
    rw[hi,List.getElem?_cons_succ]at hb
    exact h3 b (by simpa using List.mem_of_getElem? hb)
   ·rw[e3,List.reverse_cons,show t.reverse++y::k.reverse =(t.reverse++[y])++k.reverse by simp,List.take_left' (by simp)]
  ·cases h
def trimF:List V->Option V:=fun args=>match args with
 | [.str s]=>match b7D s with
  | some r=>some (.str r)
  | none=>none
 | _=>none
theorem tab0 {w:World} (h:KpW w):Lib.TabIs Tryz.prog w "strings.asciiSpace" .u8 Lib.asciiSpaceTab:=by
 obtain⟨_,t,fr,h⟩:=h (0,spTab) (List.mem_cons_of_mem _ List.mem_cons_self)
 unfold Lib.TabIs World.var?
 rw[show Tryz.prog.globalNamed "strings.asciiSpace" = some 0 by kernel_rfl]
 simp only[Option.bind_some,h]
 rfl
theorem c2R {s r:List UInt8} (h:b7D s=some r) (w:World) (htab:Lib.TabIs Tryz.prog w "strings.asciiSpace" .u8 Lib.asciiSpaceTab) :
  Calls Tryz.prog 30 #[.string ⟨s.toArray⟩] w fun e w'=>e=.returned (.string ⟨r.toArray⟩)/\Below w.heap.size w w':=by
 have hb:Below w.heap.size w (Lib.bytesWorld w 5 ⟨s.toArray⟩):=⟨rfl,rfl,rfl,by rw[Lib.bytesWorld_size];omega,fun j hj=>Lib.bytesWorld_at_old w 5 ⟨s.toArray⟩ j hj⟩
 unfold b7D at h
 split at h
 ·cases h
  refine(Tryz.strings_TrimSpace ⟨⟨[]⟩⟩ w (Nat.zero_le _) (fun j b hj=>by simp at hj) htab).mono fun e w' ⟨he,hw⟩=>?_
  subst hw
  exact⟨he,hb⟩
 ·rename_i x t
  split at h
  ·rename_i hc
   simp only[Bool.and_eq_true,Bool.not_eq_true',Nat.ble_eq]at hc
   obtain⟨n,y,h1,h2,h3,h4,h5,h6⟩:=rtr_at h
   have hl:=a4c hc.1
   have hz:(⟨(x::t).toArray⟩:ByteArray).size =(x::t).length:=rfl
   refine(trim_end Tryz.c3B Tryz.a9E ⟨(x::t).toArray⟩ w n (by rw[hz];omega) (by rw[hz];exact h1) x y rfl h2 (by omega) h3 hc.2.2 h4 h5 htab).mono fun e w' ⟨he,hw⟩=>?_
   subst hw
   refine⟨?_,hb⟩
   rw[he,Any.ba_eq (ByteArray.extract ⟨(x::t).toArray⟩ 0 (n+1)) r (by
    rw[Lib.extract_data,h6]
    simp)]
  ·cases h
theorem c5F:a6W Tryz.prog 30 (a9D trimF):=by
 refine⟨fun args H out h ρ lab w xs hc hS hx=>?_,⟨_,_,Tryz.func30,by kernel_rfl,rfl⟩⟩
 unfold a9D trimF at h
 split at h
 ·rename_i v hv
  cases h
  split at hv
  ·rename_i s
   split at hv
   ·rename_i r hr
    cases hv
    obtain⟨x1,r1,rfl,a1,a2⟩:=E9.1 hx
    have:r1=[]:=by have:=a2.1;simpa using this
    subst this
    cases a1
    refine(c2R hr w (tab0 hS.kp.1)).mono fun e w' ⟨he,hw⟩=>?_
    subst he
    have hg:a0A w w':=a7b hw
    exact⟨ρ,lab,hS.grew hg,hg.ext lab,⟨fun _ _ _ h=>h,fun _ _ _ _ h=>h⟩,.str _,hc,Nat.le_refl _⟩
   ·cases hv
  ·cases hv
 ·cases h
end Go.Proofs.YtjhfloacokgdiaaGreatDoor.Tr
namespace Go.Proofs.YtjhfloacokgdiaaGreatDoor
open Go Go.Vm
def cvTok (t:Sc.Tok):Tok:=⟨t.k,t.t,(t.a:Nat),(t.l:Nat)⟩
def a4f:Sc.MR->List Tok
 | .done l=>l.map cvTok
 | _=>[]
def b0Y:Sc.MR->Int
 | .err c _=>c
 | _=>0
def tokA:Sc.MR->Int
 | .err _ a=>(a:Nat)
 | _=>0
theorem b9r:∀l:List Sc.Tok,F6 (l.map cvTok)=Sc.a2d l
 | []=>rfl
 | t::r=>by
  rw[List.map_cons,c1z.cons,b9r r]
  rfl
theorem tokV_cv {r:Sc.MR}(h:Sc.RBd r):Sc.b6s r=.tuple [.slice .sealed (List.length (a4f r)) (F6 (a4f r)),.agg [.int .i64 (b0Y r),.int .i64 (tokA r)]]:=by
 cases r with
 | go x=>exact h.elim
 | done l =>
  simp only[a4f,Sc.b6s,b9r,List.length_map,b0Y,tokA]
 | err c a=>rfl
theorem tok_call {env:Env}{g:Nat}{s:Str}(hi:env.intr g=some (.plain (a9D Sc.tokF)))(h:Sc.RBd (Sc.a1r s)) :
  E env (.call g [.str s]) []=some (.ret (.tuple [.slice .sealed (List.length (a4f (Sc.a1r s))) (F6 (a4f (Sc.a1r s))),.agg [.int .i64 (b0Y (Sc.a1r s)),.int .i64 (tokA (Sc.a1r s))]]) []):=by
 refine a7x hi ?_
 rw[<-tokV_cv h]
 rfl
theorem tok_code (s:Str):(b0Y (Sc.a1r s)=0/\tokA (Sc.a1r s)=0)∨(b0Y (Sc.a1r s)≠0/\a4f (Sc.a1r s)=[]):=by
 have h:=(Sc.a6n s).1
 generalize Sc.a1r s=r at h
 cases r with
 | go x=>exact h.bd.elim
 | done l=>exact .inl ⟨rfl,rfl⟩
 | err c a=>exact .inr ⟨h.nz c a rfl,rfl⟩
theorem b3f (s:Str):(a4f (Sc.a1r s)).length<=3000:=by
 have h:=(Sc.b3g s).1
 generalize Sc.a1r s=r at h
 cases r with
 | go x=>exact h.elim
 | done l=>simpa [a4f,Sc.RBd]using h
 | err c a=>simp[a4f]
end Go.Proofs.YtjhfloacokgdiaaGreatDoor
namespace Go.Proofs.YtjhfloacokgdiaaGreatDoor
open Go Go.Vm
def b3n:Option Bool:=some true
noncomputable def a7P (a1g:Str):Option (List Tok×Int×Int):=some (a4f (Sc.a1r a1g),b0Y (Sc.a1r a1g),tokA (Sc.a1r a1g))
def escG (s1:Str):Option Str:=match leN s1.length 1000000 with
 | true=>some (Rp.esc s1)
 | false=>none
def b31 (i1:Int):Option Str:=match rngB i1 with
 | true=>some (Lib.itoa i1)
 | false=>none
def b66 (elems1:List Str)(sep2:Str):Option Str:=match leN elems1.length 140737488355328&&leN (Lib.join elems1 sep2).length 140737488355328 with
 | true=>some (Lib.join elems1 sep2)
 | false=>none
def c0L (s1:Str):Option Str:=Tr.b7D s1
def atoi (s1:Str):Option Int:=match b2H s1 with
 | true=>some ((a0B s1 0:Nat):Int)
 | false=>none
end Go.Proofs.YtjhfloacokgdiaaGreatDoor
namespace Go.Proofs.YtjhfloacokgdiaaGreatDoor
open Go Go.Vm
noncomputable def a9a (s1:Str):Option (Bool) :=
 cond (ltB 8000 (List.length s1:Int)) (
 some (false)) (
 (a7P s1).bind fun(l2,c3,a4) =>
 cond (ltB 0 (List.length l2:Int)) (
 some (true)) (
 (c0L s1).bind fun rr5 =>
 some ((eqS rr5 []))))
def b5s (s1:Str):Bool->Out
 | R5=>.ret (.bool R5) []
structure F5 where
 Y8:Typ->Typ->Option (Bool)
 S9:(List Typ) ->(List Typ)->Option (Bool)
def a3c (n:Nat)(Φ:F5)(a1 b2:Typ):Option (Bool) :=
 cond (eqB a1.kind b2.kind) (
 cond (eqS a1.name b2.name) (
 cond (eqB a1.n b2.n) (
 (Φ.S9 a1.args b2.args).bind fun r3 =>
 some (r3)) (
 some (false))) (
 some (false))) (
 some (false))
def b2k (a1 b2:Typ):Bool->Out
 | R5=>.ret (.bool R5) []
def a1b (n:Nat)(Φ:F5)(a1 b2:List Typ):Nat->Int->Option (Lr (Unit) (Bool))
  | 0,_=>none
  | m4 + 1,b2x =>
      cond (ltB b2x (List.length a1:Int)) (
      (idx' a1 b2x).bind fun x3 =>
      (idx' b2 b2x).bind fun x4 =>
      (Φ.Y8 x3 x4).bind fun r5 =>
      cond (!r5) (
      some (.out (false))) (
      a1b n Φ a1 b2 m4 (w64 (b2x+1)))) (
      some (.brk ()))
def a1o (n:Nat)(Φ:F5)(a1 b2:List Typ):Option (Bool) :=
 cond (!eqB (List.length a1:Int) (List.length b2:Int)) (
 some (false)) (
 a1A (α:=Unit) (
 a1b n Φ a1 b2 n 0) fun _ =>
 some (true))
def a4N (a1 b2:List Typ):Bool->Out
 | R5=>.ret (.bool R5) []
def F5.fs:Nat->F5
 | 0=>⟨fun _ _=>none,fun _ _=>none⟩
 | n+1=>⟨a3c n (F5.fs n),a1o n (F5.fs n)⟩
def Y8 (n:Nat)(a1 b2:Typ):Option (Bool):=(F5.fs n).Y8 a1 b2
def S9 (n:Nat)(a1 b2:List Typ):Option (Bool):=(F5.fs n).S9 a1 b2
structure J9 where
 a07:Nod->Nod->Option (Bool)
 Y0:(List Nod) ->(List Nod)->Option (Bool)
def a5e (n:Nat)(Φ:J9)(a1 b2:Nod):Option (Bool) :=
 cond (eqB a1.op b2.op) (
 cond (eqS a1.s b2.s) (
 cond (eqB a1.n b2.n) (
 (Y8 n a1.t b2.t).bind fun r3 =>
 cond r3 (
 (S9 n a1.ts b2.ts).bind fun r4 =>
 cond r4 (
 (Φ.Y0 a1.l b2.l).bind fun r5 =>
 some (r5)) (
 some (false))) (
 some (false))) (
 some (false))) (
 some (false))) (
 some (false))
def b5M (a1 b2:Nod):Bool->Out
 | R5=>.ret (.bool R5) []
def a1a (n:Nat)(Φ:J9)(a1 b2:List Nod):Nat->Int->Option (Lr (Unit) (Bool))
  | 0,_=>none
  | m4 + 1,b2x =>
      cond (ltB b2x (List.length a1:Int)) (
      (idx' a1 b2x).bind fun x3 =>
      (idx' b2 b2x).bind fun x4 =>
      (Φ.a07 x3 x4).bind fun r5 =>
      cond (!r5) (
      some (.out (false))) (
      a1a n Φ a1 b2 m4 (w64 (b2x+1)))) (
      some (.brk ()))
def a1n (n:Nat)(Φ:J9)(a1 b2:List Nod):Option (Bool) :=
 cond (!eqB (List.length a1:Int) (List.length b2:Int)) (
 some (false)) (
 a1A (α:=Unit) (
 a1a n Φ a1 b2 n 0) fun _ =>
 some (true))
def a4M (a1 b2:List Nod):Bool->Out
 | R5=>.ret (.bool R5) []
def J9.fs:Nat->J9
 | 0=>⟨fun _ _=>none,fun _ _=>none⟩
 | n+1=>⟨a5e n (J9.fs n),a1n n (J9.fs n)⟩
def a07 (n:Nat)(a1 b2:Nod):Option (Bool):=(J9.fs n).a07 a1 b2
def Y0 (n:Nat)(a1 b2:List Nod):Option (Bool):=(J9.fs n).Y0 a1 b2
noncomputable def a6h (a1g:Str):Option (Flt×List Tok) :=
 (a7P a1g).bind fun(l2,c3,a4) =>
 some (((⟨c3,a4⟩:Flt),l2))
def b4r (a1g:Str):Flt×List Tok->Out
 |(R5,c5E)=>.ret (.tuple [.ptr 0 0,.agg [.i R5.code,.i R5.at_]]) [(0,.row [.sl F6 c5E,.i 0,.i (List.length a1g:Int)])]
def a4K (a5C:Str)(Y4:List Typ):Option (Typ) :=
 a1A (α:=Int) (
 Option.bind (α:=Bool) (
 cond (eqB (List.length Y4:Int) 1) (
 some (eqS a5C [65,114,114,97,121])) (
 some false)) fun x505 =>
 cond x505 (
 some (.out ((⟨5,[],0,Y4⟩:Typ)))) (
 Option.bind (α:=Bool) (
 cond (eqB (List.length Y4:Int) 1) (
 some (eqS a5C [87,101,97,107])) (
 some false)) fun b2x =>
 cond b2x (
 some (.out ((⟨11,[],0,Y4⟩:Typ)))) (
 cond (ltB 0 (List.length Y4:Int)) (
 some (.brk 6)) (
 cond (eqS a5C [73,110,116]) (
 some (.brk 1)) (
 cond (eqS a5C [66,111,111,108]) (
 some (.brk 2)) (
 cond (eqS a5C [84,101,120,116]) (
 some (.brk 3)) (
 cond (eqS a5C [85,110,105,116]) (
 some (.brk 4)) (
 some (.brk 6))))))))) fun b8h =>
 cond (!eqB b8h 6) (
 some ((⟨b8h,[],0,[]⟩:Typ))) (
 some ((⟨b8h,a5C,0,Y4⟩:Typ)))
def a9J (a5C:Str)(Y4:List Typ):Typ->Out
 | r508=>.ret (.agg [.i r508.kind,.str r508.name,.i r508.n,.sl F3 r508.args]) []
def o8 (n1 b35:Int)(b3e:Str)(a5V:List Tok)(at5 b4h:Int):Option (Bool) :=
 cond (leB (List.length a5V:Int) (w64 (at5+n1))) (
 some (false)) (
 (idx' a5V (w64 (at5+n1))).bind fun x7 =>
 cond (eqB x7.kind b35) (
 cond (eqS b3e []) (
 some (true)) (
 some ((eqS x7.text b3e)))) (
 some (false)))
def b1w (n1 b35:Int)(b3e:Str)(a5V:List Tok)(at5 b4h:Int):Bool->Out
 | R5=>.ret (.bool R5) (hP F6 a5V at5 b4h)
def a1J (j3:List Tok)(at2 j5:Int):Option (Int) :=
 cond (ltB at2 (List.length j3:Int)) (
 (idx' j3 at2).bind fun x4 =>
 some (x4.at_)) (
 some (j5))
def a9U (j3:List Tok)(at2 j5:Int):Int->Out
 | R5=>.ret (.i R5) (hP F6 j3 at2 j5)
def a0J (j3:List Tok)(at2 j5:Int):Option (Rs Empty Int) :=
 (a1J j3 at2 j5).bind fun r4 =>
 some (.pan r4)
def a9T (j3:List Tok)(at2 j5:Int):Rs Empty Int->Out
 | .pan b0g=>.pan (.iface 87 (.agg [.i 20,.i b0g])) (hP F6 j3 at2 j5)
def M6 (b34:Int)(z8:List Tok)(at3 G6:Int):Option (Rs Tok Int) :=
 (o8 0 b34 [] z8 at3 G6).bind fun r5 =>
 cond (!r5) (
 p8 (a0J z8 at3 G6) (fun(_:Empty)=>none) fun at6 =>
 some (.pan at6)) (
 (idx' z8 at3).bind fun x7 =>
 some (.ok x7))
def a9o (b34:Int)(z8:List Tok)(at3 G6:Int):Rs Tok Int->Out
 | .ok R5=>.ret (.agg [.i R5.kind,.str R5.text,.i R5.at_,.i R5.len]) [(0,.row [.sl F6 z8,.i (w64 (at3+1)),.i G6])]
 | .pan a8n=>.pan (.iface 87 (.agg [.i 20,.i a8n])) (hP F6 z8 at3 G6)
def P7 (j3:List Tok)(at2 j5:Int):Option (Rs Str Int) :=
 p8 (M6 2 j3 at2 j5) (fun r4 =>
 some (.ok r4.text)) fun at5 =>
 some (.pan at5)
def a7Y (j3:List Tok)(at2 j5:Int):Rs Str Int->Out
 | .ok R5=>.ret (.str R5) [(0,.row [.sl F6 j3,.i (w64 (at2+1)),.i j5])]
 | .pan a2r=>.pan (.iface 87 (.agg [.i 20,.i a2r])) (hP F6 j3 at2 j5)
def A8 (a6j:Str)(z8:List Tok)(at3 G6:Int):Option (Bool×Int) :=
 (o8 0 8 a6j z8 at3 G6).bind fun r5 =>
 cond (!r5) (
 some ((false,at3))) (
 some ((true,(w64 (at3+1)))))
def a90 (a6j:Str)(z8:List Tok)(at3 G6:Int):Bool×Int->Out
 |(R5,a2r)=>.ret (.bool R5) (hP F6 z8 a2r G6)
def D5 (a6j:Str)(z8:List Tok)(at3 G6:Int):Option (Rs Int (Int×Int)) :=
 (A8 a6j z8 at3 G6).bind fun(r5,at6) =>
 cond (!r5) (
 p8 (a0J z8 at6 G6) (fun(_:Empty)=>none) fun at7 =>
 some (.pan (at7,at6))) (
 some (.ok at6))
def a92 (a6j:Str)(z8:List Tok)(at3 G6:Int):Rs Int (Int×Int)->Out
 | .ok b0g=>.ret (.tuple []) (hP F6 z8 b0g G6)
 | .pan (a2r,a8n)=>.pan (.iface 87 (.agg [.i 20,.i a2r])) (hP F6 z8 a8n G6)
def J8 (a6o:Str)(z8:List Tok)(at3 G6:Int):Option (Bool×Int) :=
 (o8 0 9 a6o z8 at3 G6).bind fun r5 =>
 cond (!r5) (
 some ((false,at3))) (
 some ((true,(w64 (at3+1)))))
def b0D (a6o:Str)(z8:List Tok)(at3 G6:Int):Bool×Int->Out
 |(R5,a2r)=>.ret (.bool R5) (hP F6 z8 a2r G6)
structure o5 where
 P6:Bool ->(List Tok)->Int->Int->Option (Rs (Typ×Int) (Int×Int))
 G7:(List Tok)->Int->Int->Option (Rs (Typ×Int) (Int×Int))
def a0i (n:Nat)(Φ:o5)(G6:Int)(z8:List Tok):Nat ->(List Typ)->Int->Option (Lr (List Typ×Int) (Rs (Typ×Int) (Int×Int)))
  | 0,_,_=>none
  | m5 + 1,c25,b2B =>
      (A8 [44] z8 b2B G6).bind fun(r11,at12) =>
      cond r11 (
      p8 (Φ.G7 z8 at12 G6) (fun(r13,at14) =>
      (app 56 c25 ([r13]:List Typ)).bind fun l15 =>
      a0i n Φ G6 z8 m5 l15 at14) fun(at16,at17) =>
      some (.out (.pan (at16,at17)))) (
      some (.brk (c25,at12)))
def W9 (n:Nat)(Φ:o5)(inExpr1:Bool)(G6:Int)(z8:List Tok):Nat->Int->Typ->Option (Lr (Int×Typ) (Rs (Typ×Int) (Int×Int)))
  | 0,_,_=>none
  | m9 + 1,b6I,n527 =>
      Option.bind (α:=Bool) (
      (o8 0 8 [46] z8 b6I G6).bind fun r24 =>
      cond r24 (
      cond inExpr1 (
      (o8 1 1 [] z8 b6I G6).bind fun r25 =>
      some (!r25)) (
      some true)) (
      some false)) fun x540 =>
      cond x540 (
      p8 (P7 z8 (w64 (b6I+1)) G6) (fun r26 =>
      W9 n Φ inExpr1 G6 z8 m9 (w64 ((w64 (b6I+1))+1)) (⟨8,r26,0,[n527]⟩:Typ)) fun at27 =>
      some (.out (.pan (at27,(w64 (b6I+1)))))) (
      some (.brk (b6I,n527)))
def Z7 (n:Nat)(Φ:o5)(inExpr1:Bool)(z8:List Tok)(at3 G6:Int):Option (Rs (Typ×Int) (Int×Int)) :=
 p8 (P7 z8 at3 G6) (fun r5 =>
 a1A (α:=List Typ×Int) (
 (A8 [60] z8 (w64 (at3+1)) G6).bind fun(r6,at7) =>
 cond r6 (
 p8 (Φ.G7 z8 at7 G6) (fun(r8,at9) =>
 (app 56 ([]:List Typ) ([r8]:List Typ)).bind fun l10 =>
 a8o (α:=List Typ×Int) (
 a0i n Φ G6 z8 n l10 at9) fun(args512,at513) =>
 p8 (D5 [62] z8 at513 G6) (fun at18 =>
 some (.brk (args512,at18))) fun(at19,at20) =>
 some (.out (.pan (at19,at20)))) fun(at21,at22) =>
 some (.out (.pan (at21,at22)))) (
 some (.brk (([]:List Typ),at7)))) fun(b4x,a9F) =>
 (a4K r5 b4x).bind fun r23 =>
 a1A (α:=Int×Typ) (
 W9 n Φ inExpr1 G6 z8 n a9F r23) fun(at543,n544) =>
 some (.ok (n544,at543))) fun at28 =>
 some (.pan (at28,at3))
def a5F (inExpr1:Bool)(z8:List Tok)(at3 G6:Int):Rs (Typ×Int) (Int×Int)->Out
 | .ok (r528,at529)=>.ret (.agg [.i r528.kind,.str r528.name,.i r528.n,.sl F3 r528.args]) (hP F6 z8 at529 G6)
 | .pan (at508,b4Y)=>.pan (.iface 87 (.agg [.i 20,.i at508])) (hP F6 z8 b4Y G6)
def U9 (n:Nat)(Φ:o5)(j5:Int)(j3:List Tok):Nat ->(List Typ)->Int->Option (Lr (List Typ×Int) (Rs (Typ×Int) (Int×Int)))
  | 0,_,_=>none
  | m8 + 1,b4x,a9F =>
      (A8 [44] j3 a9F j5).bind fun(r19,at20) =>
      cond r19 (
      p8 (Φ.G7 j3 at20 j5) (fun(r21,at22) =>
      (app 56 b4x ([r21]:List Typ)).bind fun l23 =>
      U9 n Φ j5 j3 m8 l23 at22) fun(at24,at25) =>
      some (.out (.pan (at24,at25)))) (
      some (.brk (b4x,at20)))
def a0x (n:Nat)(Φ:o5)(j3:List Tok)(at2 j5:Int):Option (Rs (Typ×Int) (Int×Int)) :=
 (J8 [97,110,121] j3 at2 j5).bind fun(r4,at5) =>
 cond r4 (
 p8 (P7 j3 at5 j5) (fun r6 =>
 some (.ok ((⟨9,r6,0,[]⟩:Typ),(w64 (at5+1))))) fun at7 =>
 some (.pan (at7,at5))) (
 (A8 [40] j3 at5 j5).bind fun(r8,at9) =>
 cond (!r8) (
 p8 (Φ.P6 false j3 at9 j5) (fun(r10,at11) =>
 some (.ok (r10,at11))) fun(at12,at13) =>
 some (.pan (at12,at13))) (
 a1A (α:=List Typ×Int) (
 (A8 [41] j3 at9 j5).bind fun(r14,at15) =>
 cond (!r14) (
 p8 (Φ.G7 j3 at15 j5) (fun(r16,at17) =>
 (app 56 ([]:List Typ) ([r16]:List Typ)).bind fun l18 =>
 a8o (α:=List Typ×Int) (
 U9 n Φ j5 j3 n l18 at17) fun(args519,at520) =>
 p8 (D5 [41] j3 at520 j5) (fun at26 =>
 some (.brk (args519,at26))) fun(at27,at28) =>
 some (.out (.pan (at27,at28)))) fun(at29,at30) =>
 some (.out (.pan (at29,at30)))) (
 some (.brk (([]:List Typ),at15)))) fun(args509,b9d) =>
 p8 (D5 [45,62] j3 b9d j5) (fun at31 =>
 p8 (Φ.G7 j3 at31 j5) (fun(r32,at33) =>
 (app 56 args509 ([r32]:List Typ)).bind fun l34 =>
 some (.ok ((⟨10,[],0,l34⟩:Typ),at33))) fun(at35,at36) =>
 some (.pan (at35,at36))) fun(at37,at38) =>
 some (.pan (at37,at38))))
def a6i (j3:List Tok)(at2 j5:Int):Rs (Typ×Int) (Int×Int)->Out
 | .ok (r511,b9f)=>.ret (.agg [.i r511.kind,.str r511.name,.i r511.n,.sl F3 r511.args]) (hP F6 j3 b9f j5)
 | .pan (b2B,a7y)=>.pan (.iface 87 (.agg [.i 20,.i b2B])) (hP F6 j3 a7y j5)
def o5.fs:Nat->o5
 | 0=>⟨fun _ _ _ _=>none,fun _ _ _=>none⟩
 | n+1=>⟨Z7 n (o5.fs n),a0x n (o5.fs n)⟩
def P6 (n:Nat)(inExpr1:Bool)(z8:List Tok)(at3 G6:Int):Option (Rs (Typ×Int) (Int×Int)):=(o5.fs n).P6 inExpr1 z8 at3 G6
def G7 (n:Nat)(j3:List Tok)(at2 j5:Int):Option (Rs (Typ×Int) (Int×Int)):=(o5.fs n).G7 j3 at2 j5
def F7 (op1:Int)(z8:List Tok)(at3 G6:Int):Option (Int) :=
 (a1J z8 at3 G6).bind fun r5 =>
 some (r5)
def a9W (op1:Int)(z8:List Tok)(at3 G6:Int):Int->Out
 | b0g=>.ret (.agg [.i op1,.str [],.i 0,.i 0,.str [],.i 0,.sl F3 ([]:List Typ),.sl F3 ([]:List Typ),.st 1 H6 ([]:List Nod),.i b0g]) [(0,.row [.sl F6 z8,.i at3,.i G6]),(1,.tip 0 0)]
def J5 (j3:List Tok)(at2 j5:Int):Option (Rs Str Int) :=
 p8 (M6 1 j3 at2 j5) (fun r4 =>
 some (.ok r4.text)) fun at5 =>
 some (.pan at5)
def a9V (j3:List Tok)(at2 j5:Int):Rs Str Int->Out
 | .ok R5=>.ret (.str R5) [(0,.row [.sl F6 j3,.i (w64 (at2+1)),.i j5])]
 | .pan a2r=>.pan (.iface 87 (.agg [.i 20,.i a2r])) (hP F6 j3 at2 j5)
def X8 (n:Nat)(at4 j5:Int)(j3:List Tok):Nat->Int->Int->Str ->(List Nod)->Option (Lr (Int×Int×Str×List Nod) (Rs (Nod×Int) (Int×Int)))
  | 0,_,_,_,_=>none
  | m3 + 1,a7y,op506,s507,l508 =>
      (A8 [46] j3 a7y j5).bind fun(r6,at7) =>
      cond r6 (
      p8 (J5 j3 at7 j5) (fun r8 =>
      X8 n at4 j5 j3 m3 (w64 (at7+1)) 55 r8 ([(⟨op506,s507,0,(⟨0,[],0,[]⟩:Typ),[],l508,at4⟩:Nod)]:List Nod)) fun at9 =>
      some (.out (.pan (at9,at7)))) (
      some (.brk (at7,op506,s507,l508)))
def a0j (n:Nat)(j3:List Tok)(at2 j5:Int):Option (Rs (Nod×Int) (Int×Int)) :=
 (F7 54 j3 at2 j5).bind fun at4 =>
 p8 (J5 j3 at2 j5) (fun r5 =>
 a1A (α:=Int×Int×Str×List Nod) (
 X8 n at4 j5 j3 n (w64 (at2+1)) 54 r5 ([]:List Nod)) fun(b2D,op523,s524,l525) =>
 some (.ok ((⟨op523,s524,0,(⟨0,[],0,[]⟩:Typ),[],l525,at4⟩:Nod),b2D))) fun at10 =>
 some (.pan (at10,at2))
def a5m (j3:List Tok)(at2 j5:Int):Rs (Nod×Int) (Int×Int)->Out
 | .ok (b2Y,b9e)=>.ret (.agg (c0 b2Y.op b2Y.s b2Y.n b2Y.t.kind b2Y.t.name b2Y.t.n (.sl F3 b2Y.t.args) (.sl F3 b2Y.ts) (.sl H6 b2Y.l) b2Y.at_)) (hP F6 j3 b9e j5)
 | .pan (b0g,a2r)=>.pan (.iface 87 (.agg [.i 20,.i b0g])) (hP F6 j3 a2r j5)
def P8 (j3:List Tok)(at2 j5:Int):Option (Rs Int Int) :=
 p8 (M6 3 j3 at2 j5) (fun r4 =>
 (atoi r4.text).bind fun n5 =>
 some (.ok n5)) fun at6 =>
 some (.pan at6)
def a8c (j3:List Tok)(at2 j5:Int):Rs Int Int->Out
 | .ok R5=>.ret (.i R5) [(0,.row [.sl F6 j3,.i (w64 (at2+1)),.i j5])]
 | .pan a8n=>.pan (.iface 87 (.agg [.i 20,.i a8n])) (hP F6 j3 at2 j5)
def U0 (n:Nat)(j5:Int)(j3:List Tok):Nat ->(List Nod)->Int->Option (Lr (List Nod×Int) (Rs (List Nod×Int) (Int×Int)))
  | 0,_,_=>none
  | m5 + 1,b4n,a9F =>
      (F7 10 j3 a9F j5).bind fun at7 =>
      Option.bind (α:=Int×Int) (
      (J8 [105,110,111,117,116] j3 a9F j5).bind fun(r8,at9) =>
      cond r8 (
      some (at9,1)) (
      (J8 [99,111,110,115,117,109,101] j3 at9 j5).bind fun(r10,at11) =>
      cond r10 (
      some (at11,2)) (
      some (at11,0)))) fun(b2C,n517) =>
      p8 (J5 j3 b2C j5) (fun r12 =>
      p8 (D5 [58] j3 (w64 (b2C+1)) j5) (fun at13 =>
      p8 (G7 n j3 at13 j5) (fun(r14,at15) =>
      (app 144 b4n ([(⟨10,r12,n517,r14,[],[],at7⟩:Nod)]:List Nod)).bind fun l16 =>
      (A8 [44] j3 at15 j5).bind fun(r17,at18) =>
      cond (!r17) (
      some (.brk (l16,at18))) (
      U0 n j5 j3 m5 l16 at18)) fun(at19,at20) =>
      some (.out (.pan (at19,at20)))) fun(at21,at22) =>
      some (.out (.pan (at21,at22)))) fun at23 =>
      some (.out (.pan (at23,b2C)))
def a0q (n:Nat)(j3:List Tok)(at2 j5:Int):Option (Rs (List Nod×Int) (Int×Int)) :=
 p8 (D5 [40] j3 at2 j5) (fun at4 =>
 (A8 [41] j3 at4 j5).bind fun(r5,at6) =>
 cond r5 (
 some (.ok (([]:List Nod),at6))) (
 a1A (α:=List Nod×Int) (
 U0 n j5 j3 n ([]:List Nod) at6) fun(l508,b4Y) =>
 p8 (D5 [41] j3 b4Y j5) (fun at24 =>
 some (.ok (l508,at24))) fun(at25,at26) =>
 some (.pan (at25,at26)))) fun(at27,at28) =>
 some (.pan (at27,at28))
def a4L (j3:List Tok)(at2 j5:Int):Rs (List Nod×Int) (Int×Int)->Out
 | .ok (b2Y,b9e)=>.ret (.st 1 H6 b2Y) [(0,.row [.sl F6 j3,.i b9e,.i j5]),(1,.tip (tpe 10 (List.length b2Y)) (List.length b2Y))]
 | .pan (a2r,a8n)=>.pan (.iface 87 (.agg [.i 20,.i a2r])) (hP F6 j3 a8n j5)
def a0r (n:Nat)(j3:List Tok)(at2 j5:Int):Option (Rs (Typ×Int) (Int×Int)) :=
 (A8 [45,62] j3 at2 j5).bind fun(r4,at5) =>
 cond r4 (
 p8 (G7 n j3 at5 j5) (fun(r6,at7) =>
 some (.ok (r6,at7))) fun(at8,at9) =>
 some (.pan (at8,at9))) (
 some (.ok ((⟨4,[],0,[]⟩:Typ),at5)))
def a8G (j3:List Tok)(at2 j5:Int):Rs (Typ×Int) (Int×Int)->Out
 | .ok (R5,a2r)=>.ret (.agg [.i R5.kind,.str R5.name,.i R5.n,.sl F3 R5.args]) (hP F6 j3 a2r j5)
 | .pan (a8n,b2B)=>.pan (.iface 87 (.agg [.i 20,.i a8n])) (hP F6 j3 b2B j5)
def M9 (a6o:Str)(z8:List Tok)(at3 G6:Int):Option (Rs Int (Int×Int)) :=
 (J8 a6o z8 at3 G6).bind fun(r5,at6) =>
 cond (!r5) (
 p8 (a0J z8 at6 G6) (fun(_:Empty)=>none) fun at7 =>
 some (.pan (at7,at6))) (
 some (.ok at6))
def a8f (a6o:Str)(z8:List Tok)(at3 G6:Int):Rs Int (Int×Int)->Out
 | .ok b0g=>.ret (.tuple []) (hP F6 z8 b0g G6)
 | .pan (a2r,a8n)=>.pan (.iface 87 (.agg [.i 20,.i a2r])) (hP F6 z8 a8n G6)
structure p9 where
 H7:(List Tok)->Int->Int->Option (Rs (Nod×Int) (Int×Int))
def U2 (n:Nat)(Φ:p9)(j5:Int)(j3:List Tok):Nat->Int ->(List Nod)->Option (Lr (Int×List Nod) (Rs (Nod×Int) (Int×Int)))
  | 0,_,_=>none
  | m6 + 1,b4Y,l510 =>
      (A8 [44] j3 b4Y j5).bind fun(r30,at31) =>
      cond r30 (
      p8 (Φ.H7 j3 at31 j5) (fun(r32,at33) =>
      (app 144 l510 ([r32]:List Nod)).bind fun l34 =>
      U2 n Φ j5 j3 m6 at33 l34) fun(at35,at36) =>
      some (.out (.pan (at35,at36)))) (
      some (.brk (at31,l510)))
def D6 (n:Nat)(Φ:p9)(j3:List Tok)(at2 j5:Int):Option (Rs (Nod×Int) (Int×Int)) :=
 (F7 0 j3 at2 j5).bind fun at4 =>
 a1A (α:=Int×Int×Str×Int×List Nod) (
 (o8 0 1 [95] j3 at2 j5).bind fun r5 =>
 cond r5 (
 some (.brk ((w64 (at2+1)),40,[],0,([]:List Nod)))) (
 (o8 0 1 [] j3 at2 j5).bind fun r6 =>
 cond r6 (
 p8 (J5 j3 at2 j5) (fun r7 =>
 some (.brk ((w64 (at2+1)),41,r7,0,([]:List Nod)))) fun at8 =>
 some (.out (.pan (at8,at2)))) (
 (o8 0 3 [] j3 at2 j5).bind fun r9 =>
 cond r9 (
 p8 (P8 j3 at2 j5) (fun r10 =>
 some (.brk ((w64 (at2+1)),42,[],r10,([]:List Nod)))) fun at11 =>
 some (.out (.pan (at11,at2)))) (
 (A8 [45] j3 at2 j5).bind fun(r12,at13) =>
 cond r12 (
 p8 (P8 j3 at13 j5) (fun r14 =>
 some (.brk ((w64 (at13+1)),42,[],(w64 (0-r14)),([]:List Nod)))) fun at15 =>
 some (.out (.pan (at15,at13)))) (
 (o8 0 4 [] j3 at13 j5).bind fun r16 =>
 cond r16 (
 p8 (M6 4 j3 at13 j5) (fun r17 =>
 some (.brk ((w64 (at13+1)),44,r17.text,0,([]:List Nod)))) fun at18 =>
 some (.out (.pan (at18,at13)))) (
 (J8 [116,114,117,101] j3 at13 j5).bind fun(r19,at20) =>
 cond r19 (
 some (.brk (at20,43,[],1,([]:List Nod)))) (
 (J8 [102,97,108,115,101] j3 at20 j5).bind fun(r21,at22) =>
 cond r21 (
 some (.brk (at22,43,[],0,([]:List Nod)))) (
 p8 (D5 [46] j3 at22 j5) (fun at23 =>
 p8 (J5 j3 at23 j5) (fun r24 =>
 (A8 [40] j3 (w64 (at23+1)) j5).bind fun(r25,at26) =>
 cond r25 (
 p8 (Φ.H7 j3 at26 j5) (fun(r27,at28) =>
 (app 144 ([]:List Nod) ([r27]:List Nod)).bind fun l29 =>
 a8o (α:=Int×List Nod) (
 U2 n Φ j5 j3 n at28 l29) fun(at523,l524) =>
 p8 (D5 [41] j3 at523 j5) (fun at37 =>
 some (.brk (at37,45,r24,0,l524))) fun(at38,at39) =>
 some (.out (.pan (at38,at39)))) fun(at40,at41) =>
 some (.out (.pan (at40,at41)))) (
 some (.brk (at26,45,r24,0,([]:List Nod))))) fun at42 =>
 some (.out (.pan (at42,at23)))) fun(at43,at44) =>
 some (.out (.pan (at43,at44))))))))))) fun(b9f,op513,s514,n515,l516) =>
 some (.ok ((⟨op513,s514,n515,(⟨0,[],0,[]⟩:Typ),[],l516,at4⟩:Nod),b9f))
def a4q (j3:List Tok)(at2 j5:Int):Rs (Nod×Int) (Int×Int)->Out
 | .ok (a3V,b4X)=>.ret (.agg (c0 a3V.op a3V.s a3V.n a3V.t.kind a3V.t.name a3V.t.n (.sl F3 a3V.t.args) (.sl F3 a3V.ts) (.sl H6 a3V.l) a3V.at_)) (hP F6 j3 b4X j5)
 | .pan (a9F,at508)=>.pan (.iface 87 (.agg [.i 20,.i a9F])) (hP F6 j3 at508 j5)
def p9.fs:Nat->p9
 | 0=>⟨fun _ _ _=>none⟩
 | n+1=>⟨D6 n (p9.fs n)⟩
def H7 (n:Nat)(j3:List Tok)(at2 j5:Int):Option (Rs (Nod×Int) (Int×Int)):=(p9.fs n).H7 j3 at2 j5
def a09 (n:Nat):Nat->Nod->Option (Nod)
  | 0,_=>none
  | m1 + 1,n501 =>
      cond (eqB n501.op 55) (
      (idx' n501.l 0).bind fun x2 =>
      a09 n m1 x2) (
      some n501)
def a3f (n:Nat)(e1:Nod):Option (Bool) :=
 Option.bind (α:=Nod) (
 a09 n n e1) fun n503 =>
 some ((eqB n503.op 54))
def a9K (e1:Nod):Bool->Out
 | r504=>.ret (.bool r504) []
def a4d:Option (Unit) :=
 some (())
def b3D:Unit->Out
 | _=>.ret (.sl a02 ([(⟨[[124,124]],false⟩:E8),(⟨[[38,38]],false⟩:E8),(⟨[[61,61],[33,61],[60],[60,61],[62],[62,61]],true⟩:E8),(⟨[[43],[45]],false⟩:E8),(⟨[[42],[47],[37]],false⟩:E8)]:List E8)) []
def a0R (n:Nat)(s1:List Str)(v2:Str):Nat->Int->Option (Lr (Unit) (Int))
  | 0,_=>none
  | m2 + 1,x501 =>
      cond (ltB x501 (List.length s1:Int)) (
      (idx' s1 x501).bind fun x3 =>
      cond (eqS v2 x3) (
      some (.out (x501))) (
      a0R n s1 v2 m2 (w64 (x501+1)))) (
      some (.brk ()))
def a0F (n:Nat)(s1:List Str)(v2:Str):Option (Int) :=
 a1A (α:=Unit) (
 a0R n s1 v2 n 0) fun _ =>
 some ((-1))
def a3g (s1:List Str)(v2:Str):Int->Out
 | r502=>.ret (.i r502) []
def O8 (n:Nat)(s1:List Str)(v2:Str):Option (Bool) :=
 (a0F n s1 v2).bind fun r3 =>
 some ((leB 0 r3))
def a5p (s1:List Str)(v2:Str):Bool->Out
 | R5=>.ret (.bool R5) []
structure d9 where
 C9:(List Tok)->Int->Int->Option (Rs (Nod×Int) (l7×Int))
 J3:(List Tok)->Int->Int->Option (Rs (Nod×Int) (l7×Int))
 O4:(List Tok)->Int->Int->Option (Rs (Nod×Int) (l7×Int))
 I4:(List Tok)->Int->Int->Option (Rs (Nod×Int) (l7×Int))
 H9:(List Tok)->Int->Int->Option (Rs (List Nod×Int) (l7×Int))
 P5:(List Tok)->Int->Int->Option (Rs (Nod×Int) (l7×Int))
 O3:(List Tok)->Int->Int->Option (Rs (Nod×Int) (l7×Int))
 J2:(List Tok)->Int->Int->Option (Rs (List Nod×Int) (l7×Int))
 I7:(List Tok)->Int->Int->Option (Rs (Nod×Int) (l7×Int))
 I9:(List Tok)->Int->Int->Option (Rs (Nod×Int) (l7×Int))
 G9:(List Tok)->Int->Int->Option (Rs (Nod×Int) (l7×Int))
 G8:(List Tok)->Int->Int->Option (Rs (Nod×Int) (l7×Int))
 O9:(List Tok)->Int->Int->Option (Rs (Nod×Int) (l7×Int))
 R8:Int ->(List Tok)->Int->Int->Option (Rs (List Nod×Int×Int) (l7×Int))
 I8:Nod ->(List E8) ->(List Tok)->Int->Int->Option (Rs (Nod×Int) (l7×Int))
def X9 (n:Nat)(Φ:d9)(j3:List Tok)(at2 j5:Int):Option (Rs (Nod×Int) (l7×Int)) :=
 p8 (Φ.J3 j3 at2 j5) (fun(r4,at5) =>
 (a4d).bind fun _ =>
 p8 (Φ.I8 r4 ([(⟨[[124,124]],false⟩:E8),(⟨[[38,38]],false⟩:E8),(⟨[[61,61],[33,61],[60],[60,61],[62],[62,61]],true⟩:E8),(⟨[[43],[45]],false⟩:E8),(⟨[[42],[47],[37]],false⟩:E8)]:List E8) j3 at5 j5) (fun(r6,at7) =>
 some (.ok (r6,at7))) fun(e8,at9) =>
 some (.pan (e8,at9))) fun(e10,at11) =>
 some (.pan (e10,at11))
def a9S (j3:List Tok)(at2 j5:Int):Rs (Nod×Int) (l7×Int)->Out
 | .ok (a3V,b4X)=>.ret (.agg (c0 a3V.op a3V.s a3V.n a3V.t.kind a3V.t.name a3V.t.n (.sl F3 a3V.t.args) (.sl F3 a3V.ts) (.sl H6 a3V.l) a3V.at_)) (hP F6 j3 b4X j5)
 | .pan (e523,b4Z)=>.pan (.iface 87 (.agg [.i e523.fault.code,.i e523.fault.at_])) (hP F6 j3 b4Z j5)
def X3 (n:Nat)(Φ:d9)(j3:List Tok)(at2 j5:Int):Option (Rs (Nod×Int) (l7×Int)) :=
 (F7 66 j3 at2 j5).bind fun at4 =>
 a1A (α:=Int×Int) (
 (A8 [45] j3 at2 j5).bind fun(r5,at6) =>
 cond (!r5) (
 (A8 [33] j3 at6 j5).bind fun(r7,at8) =>
 cond (!r7) (
 p8 (Φ.O4 j3 at8 j5) (fun(r9,at10) =>
 some (.out (.ok (r9,at10)))) fun(e11,at12) =>
 some (.out (.pan (e11,at12)))) (
 some (.brk (at8,65)))) (
 some (.brk (at6,66)))) fun(b0g,op502) =>
 p8 (Φ.J3 j3 b0g j5) (fun(r13,at14) =>
 some (.ok ((⟨op502,[],0,(⟨0,[],0,[]⟩:Typ),[],[r13],at4⟩:Nod),at14))) fun(e15,at16) =>
 some (.pan (e15,at16))
def a5n (j3:List Tok)(at2 j5:Int):Rs (Nod×Int) (l7×Int)->Out
 | .ok (r503,b2B)=>.ret (.agg (c0 r503.op r503.s r503.n r503.t.kind r503.t.name r503.t.n (.sl F3 r503.t.args) (.sl F3 r503.ts) (.sl H6 r503.l) r503.at_)) (hP F6 j3 b2B j5)
 | .pan (e541,at542)=>.pan (.iface 87 (.agg [.i e541.fault.code,.i e541.fault.at_])) (hP F6 j3 at542 j5)
def H8 (n:Nat)(Φ:d9)(j5:Int)(j3:List Tok):Nat->Bool->Int->Nod->Option (Rs (Nod×Int) (l7×Int))
  | 0,_,_,_=>none
  | m4 + 1,bare547,at548,n549 =>
      a1A (α:=Int×Int×Str×List Nod) (
      (A8 [46] j3 at548 j5).bind fun(r7,at8) =>
      cond r7 (
      p8 (J5 j3 at8 j5) (fun r9 =>
      a8o (α:=Int×Int×List Nod) (
      (o8 0 8 [40] j3 (w64 (at8+1)) j5).bind fun r10 =>
      cond r10 (
      p8 (Φ.H9 j3 (w64 (at8+1)) j5) (fun(r11,at12) =>
      (app 144 ([n549]:List Nod) r11).bind fun l13 =>
      some (.brk (at12,57,l13))) fun(e14,at15) =>
      some (.out (.pan (e14,at15)))) (
      some (.brk ((w64 (at8+1)),55,([n549]:List Nod))))) fun(at557,op558,l559) =>
      some (.brk (at557,op558,r9,l559))) fun at16 =>
      some (.out (.pan ((⟨(⟨20,at16⟩:Flt)⟩:l7),at8)))) (
      (o8 0 8 [40] j3 at8 j5).bind fun r17 =>
      cond r17 (
      cond bare547 (
      p8 (Φ.H9 j3 at8 j5) (fun(r18,at19) =>
      some (.brk (at19,56,n549.s,r18))) fun(e20,at21) =>
      some (.out (.pan (e20,at21)))) (
      p8 (Φ.H9 j3 at8 j5) (fun(r22,at23) =>
      (app 144 ([n549]:List Nod) r22).bind fun l24 =>
      some (.brk (at23,60,[],l24))) fun(e25,at26) =>
      some (.out (.pan (e25,at26))))) (
      some (.out (.ok (n549,at8)))))) fun(at560,op561,s562,l563) =>
      H8 n Φ j5 j3 m4 false at560 (⟨op561,s562,0,(⟨0,[],0,[]⟩:Typ),[],l563,n549.at_⟩:Nod)
def O6 (n:Nat)(Φ:d9)(j3:List Tok)(at2 j5:Int):Option (Rs (Nod×Int) (l7×Int)) :=
 (o8 0 1 [] j3 at2 j5).bind fun r4 =>
 p8 (Φ.I4 j3 at2 j5) (fun(r5,at6) =>
 H8 n Φ j5 j3 n r4 at6 r5) fun(e27,at28) =>
 some (.pan (e27,at28))
def a4r (j3:List Tok)(at2 j5:Int):Rs (Nod×Int) (l7×Int)->Out
 | .ok (R5,a2r)=>.ret (.agg (c0 R5.op R5.s R5.n R5.t.kind R5.t.name R5.t.n (.sl F3 R5.t.args) (.sl F3 R5.ts) (.sl H6 R5.l) R5.at_)) (hP F6 j3 a2r j5)
 | .pan (e552,b3R)=>.pan (.iface 87 (.agg [.i e552.fault.code,.i e552.fault.at_])) (hP F6 j3 b3R j5)
def X7 (n:Nat)(Φ:d9)(j5:Int)(j3:List Tok):Nat->Int ->(List Nod)->Option (Lr (Int×List Nod) (Rs (Nod×Int) (l7×Int)))
  | 0,_,_=>none
  | m27 + 1,b4Z,l525 =>
      (A8 [44] j3 b4Z j5).bind fun(r34,at35) =>
      cond r34 (
      p8 (Φ.C9 j3 at35 j5) (fun(r36,at37) =>
      (app 144 l525 ([r36]:List Nod)).bind fun l38 =>
      X7 n Φ j5 j3 m27 at37 l38) fun(e39,at40) =>
      some (.out (.pan (e39,at40)))) (
      some (.brk (at35,l525)))
def A7 (n:Nat)(Φ:d9)(j3:List Tok)(at2 j5:Int):Option (Rs (Nod×Int) (l7×Int)) :=
 (F7 0 j3 at2 j5).bind fun at4 =>
 a1A (α:=Int×Nod) (
 (o8 0 3 [] j3 at2 j5).bind fun r5 =>
 cond r5 (
 p8 (P8 j3 at2 j5) (fun r6 =>
 some (.brk ((w64 (at2+1)),(⟨50,[],r6,(⟨0,[],0,[]⟩:Typ),[],[],at4⟩:Nod)))) fun at7 =>
 some (.out (.pan ((⟨(⟨20,at7⟩:Flt)⟩:l7),at2)))) (
 (o8 0 4 [] j3 at2 j5).bind fun r8 =>
 cond r8 (
 p8 (M6 4 j3 at2 j5) (fun r9 =>
 some (.brk ((w64 (at2+1)),(⟨52,r9.text,0,(⟨0,[],0,[]⟩:Typ),[],[],at4⟩:Nod)))) fun at10 =>
 some (.out (.pan ((⟨(⟨20,at10⟩:Flt)⟩:l7),at2)))) (
 (o8 0 5 [] j3 at2 j5).bind fun r11 =>
 cond r11 (
 p8 (Φ.P5 j3 at2 j5) (fun(r12,at13) =>
 some (.out (.ok (r12,at13)))) fun(e14,at15) =>
 some (.out (.pan (e14,at15)))) (
 (J8 [116,114,117,101] j3 at2 j5).bind fun(r16,at17) =>
 cond r16 (
 some (.brk (at17,(⟨51,[],1,(⟨0,[],0,[]⟩:Typ),[],[],at4⟩:Nod)))) (
 (J8 [102,97,108,115,101] j3 at17 j5).bind fun(r18,at19) =>
 cond r18 (
 some (.brk (at19,(⟨51,[],0,(⟨0,[],0,[]⟩:Typ),[],[],at4⟩:Nod)))) (
 (o8 0 1 [] j3 at19 j5).bind fun r20 =>
 cond r20 (
 p8 (J5 j3 at19 j5) (fun r21 =>
 some (.brk ((w64 (at19+1)),(⟨54,r21,0,(⟨0,[],0,[]⟩:Typ),[],[],at4⟩:Nod)))) fun at22 =>
 some (.out (.pan ((⟨(⟨20,at22⟩:Flt)⟩:l7),at19)))) (
 (J8 [99,111,110,115,117,109,101] j3 at19 j5).bind fun(r23,at24) =>
 cond r23 (
 p8 (J5 j3 at24 j5) (fun r25 =>
 some (.brk ((w64 (at24+1)),(⟨61,r25,0,(⟨0,[],0,[]⟩:Typ),[],[],at4⟩:Nod)))) fun at26 =>
 some (.out (.pan ((⟨(⟨20,at26⟩:Flt)⟩:l7),at24)))) (
 (A8 [91] j3 at24 j5).bind fun(r27,at28) =>
 cond r27 (
 (A8 [93] j3 at28 j5).bind fun(r29,at30) =>
 cond r29 (
 some (.brk (at30,(⟨67,[],0,(⟨0,[],0,[]⟩:Typ),[],[],at4⟩:Nod)))) (
 p8 (Φ.C9 j3 at30 j5) (fun(r31,at32) =>
 (app 144 ([]:List Nod) ([r31]:List Nod)).bind fun l33 =>
 a8o (α:=Int×List Nod) (
 X7 n Φ j5 j3 n at32 l33) fun(at538,l539) =>
 p8 (D5 [93] j3 at538 j5) (fun at41 =>
 some (.brk (at41,(⟨67,[],0,(⟨0,[],0,[]⟩:Typ),[],l539,at4⟩:Nod)))) fun(at42,at43) =>
 some (.out (.pan ((⟨(⟨20,at42⟩:Flt)⟩:l7),at43)))) fun(e44,at45) =>
 some (.out (.pan (e44,at45))))) (
 (A8 [40] j3 at28 j5).bind fun(r46,at47) =>
 cond r46 (
 p8 (Φ.C9 j3 at47 j5) (fun(r48,at49) =>
 p8 (D5 [41] j3 at49 j5) (fun at50 =>
 some (.out (.ok (r48,at50)))) fun(at51,at52) =>
 some (.out (.pan ((⟨(⟨20,at51⟩:Flt)⟩:l7),at52)))) fun(e53,at54) =>
 some (.out (.pan (e53,at54)))) (
 (o8 0 8 [123] j3 at47 j5).bind fun r55 =>
 cond r55 (
 p8 (Φ.O3 j3 at47 j5) (fun(r56,at57) =>
 some (.out (.ok (r56,at57)))) fun(e58,at59) =>
 some (.out (.pan (e58,at59)))) (
 p8 (P6 n true j3 at47 j5) (fun(r60,at61) =>
 (o8 0 8 [40] j3 at61 j5).bind fun r62 =>
 cond r62 (
 p8 (Φ.H9 j3 at61 j5) (fun(r63,at64) =>
 some (.brk (at64,(⟨59,[],0,r60,[],r63,at4⟩:Nod)))) fun(e65,at66) =>
 some (.out (.pan (e65,at66)))) (
 p8 (D5 [46] j3 at61 j5) (fun at67 =>
 p8 (J5 j3 at67 j5) (fun r68 =>
 (o8 0 8 [40] j3 (w64 (at67+1)) j5).bind fun r69 =>
 cond r69 (
 p8 (Φ.H9 j3 (w64 (at67+1)) j5) (fun(r70,at71) =>
 some (.brk (at71,(⟨58,r68,1,r60,[],r70,at4⟩:Nod)))) fun(e72,at73) =>
 some (.out (.pan (e72,at73)))) (
 some (.brk ((w64 (at67+1)),(⟨58,r68,0,r60,[],[],at4⟩:Nod))))) fun at74 =>
 some (.out (.pan ((⟨(⟨20,at74⟩:Flt)⟩:l7),at67)))) fun(at75,at76) =>
 some (.out (.pan ((⟨(⟨20,at75⟩:Flt)⟩:l7),at76))))) fun(at77,at78) =>
 some (.out (.pan ((⟨(⟨20,at77⟩:Flt)⟩:l7),at78)))))))))))))) fun(at548,n549) =>
 some (.ok (n549,at548))
def a5E (j3:List Tok)(at2 j5:Int):Rs (Nod×Int) (l7×Int)->Out
 | .ok (a3V,b4X)=>.ret (.agg (c0 a3V.op a3V.s a3V.n a3V.t.kind a3V.t.name a3V.t.n (.sl F3 a3V.t.args) (.sl F3 a3V.ts) (.sl H6 a3V.l) a3V.at_)) (hP F6 j3 b4X j5)
 | .pan (e562,at563)=>.pan (.iface 87 (.agg [.i e562.fault.code,.i e562.fault.at_])) (hP F6 j3 at563 j5)
def Y6 (n:Nat)(Φ:d9)(j5:Int)(j3:List Tok):Nat ->(List Nod)->Int->Option (Lr (List Nod×Int) (Rs (List Nod×Int) (l7×Int)))
  | 0,_,_=>none
  | m5 + 1,l512,at513 =>
      (F7 62 j3 at513 j5).bind fun at7 =>
      a8o (α:=List Nod×Int) (
      (A8 [38] j3 at513 j5).bind fun(r8,at9) =>
      cond r8 (
      p8 (a0j n j3 at9 j5) (fun(r10,at11) =>
      (app 144 l512 ([(⟨62,[],0,(⟨0,[],0,[]⟩:Typ),[],[r10],at7⟩:Nod)]:List Nod)).bind fun l12 =>
      some (.brk (l12,at11))) fun(at13,at14) =>
      some (.out (.pan ((⟨(⟨20,at13⟩:Flt)⟩:l7),at14)))) (
      p8 (Φ.C9 j3 at9 j5) (fun(r15,at16) =>
      (app 144 l512 ([r15]:List Nod)).bind fun l17 =>
      some (.brk (l17,at16))) fun(e18,at19) =>
      some (.out (.pan (e18,at19))))) fun(l510,b9e) =>
      (A8 [44] j3 b9e j5).bind fun(r20,at21) =>
      cond (!r20) (
      some (.brk (l510,at21))) (
      Y6 n Φ j5 j3 m5 l510 at21)
def a0p (n:Nat)(Φ:d9)(j3:List Tok)(at2 j5:Int):Option (Rs (List Nod×Int) (l7×Int)) :=
 p8 (D5 [40] j3 at2 j5) (fun at4 =>
 (A8 [41] j3 at4 j5).bind fun(r5,at6) =>
 cond r5 (
 some (.ok (([]:List Nod),at6))) (
 a1A (α:=List Nod×Int) (
 Y6 n Φ j5 j3 n ([]:List Nod) at6) fun(l514,b9g) =>
 p8 (D5 [41] j3 b9g j5) (fun at22 =>
 some (.ok (l514,at22))) fun(at23,at24) =>
 some (.pan ((⟨(⟨20,at23⟩:Flt)⟩:l7),at24)))) fun(at25,at26) =>
 some (.pan ((⟨(⟨20,at25⟩:Flt)⟩:l7),at26))
def a5D (j3:List Tok)(at2 j5:Int):Rs (List Nod×Int) (l7×Int)->Out
 | .ok (r516,at517)=>.ret (.sl H6 r516) (hP F6 j3 at517 j5)
 | .pan (e548,at549)=>.pan (.iface 87 (.agg [.i e548.fault.code,.i e548.fault.at_])) (hP F6 j3 at549 j5)
def V4 (n:Nat)(Φ:d9)(at4 j5:Int)(j3:List Tok):Nat->Int ->(List Nod)->Str->Int->Option (Rs (Nod×Int) (l7×Int))
  | 0,_,_,_,_=>none
  | m5 + 1,a7y,b4n,s507,at508 =>
      p8 (Φ.C9 j3 a7y j5) (fun(r7,at8) =>
      (app 144 b4n ([r7]:List Nod)).bind fun l9 =>
      (F7 52 j3 at8 j5).bind fun at10 =>
      (o8 0 6 [] j3 at8 j5).bind fun r11 =>
      cond r11 (
      p8 (M6 6 j3 at8 j5) (fun r12 =>
      (app 144 l9 ([(⟨52,r12.text,0,(⟨0,[],0,[]⟩:Typ),[],[],at10⟩:Nod)]:List Nod)).bind fun l13 =>
      V4 n Φ at4 j5 j3 m5 (w64 (at8+1)) l13 r12.text at10) fun at14 =>
      some (.pan ((⟨(⟨20,at14⟩:Flt)⟩:l7),at8))) (
      p8 (M6 7 j3 at8 j5) (fun r15 =>
      (app 144 l9 ([(⟨52,r15.text,0,(⟨0,[],0,[]⟩:Typ),[],[],at10⟩:Nod)]:List Nod)).bind fun l16 =>
      some (.ok ((⟨53,[],0,(⟨0,[],0,[]⟩:Typ),[],l16,at4⟩:Nod),(w64 (at8+1))))) fun at17 =>
      some (.pan ((⟨(⟨20,at17⟩:Flt)⟩:l7),at8)))) fun(e18,at19) =>
      some (.pan (e18,at19))
def Z5 (n:Nat)(Φ:d9)(j3:List Tok)(at2 j5:Int):Option (Rs (Nod×Int) (l7×Int)) :=
 (F7 53 j3 at2 j5).bind fun at4 =>
 (F7 52 j3 at2 j5).bind fun at5 =>
 p8 (M6 5 j3 at2 j5) (fun r6 =>
 V4 n Φ at4 j5 j3 n (w64 (at2+1)) ([(⟨52,r6.text,0,(⟨0,[],0,[]⟩:Typ),[],[],at5⟩:Nod)]:List Nod) r6.text at5) fun at20 =>
 some (.pan ((⟨(⟨20,at20⟩:Flt)⟩:l7),at2))
def a8F (j3:List Tok)(at2 j5:Int):Rs (Nod×Int) (l7×Int)->Out
 | .ok (a8l,b9d)=>.ret (.agg (c0 a8l.op a8l.s a8l.n a8l.t.kind a8l.t.name a8l.t.n (.sl F3 a8l.t.args) (.sl F3 a8l.ts) (.sl H6 a8l.l) a8l.at_)) (hP F6 j3 b9d j5)
 | .pan (e543,at544)=>.pan (.iface 87 (.agg [.i e543.fault.code,.i e543.fault.at_])) (hP F6 j3 at544 j5)
def Y7 (n:Nat)(Φ:d9)(j3:List Tok)(at2 j5:Int):Option (Rs (Nod×Int) (l7×Int)) :=
 (F7 63 j3 at2 j5).bind fun at4 =>
 (F7 20 j3 at2 j5).bind fun at5 =>
 p8 (D5 [123] j3 at2 j5) (fun at6 =>
 p8 (a0q n j3 at6 j5) (fun(r7,at8) =>
 p8 (a0r n j3 at8 j5) (fun(r9,at10) =>
 p8 (M9 [105,110] j3 at10 j5) (fun at11 =>
 p8 (Φ.J2 j3 at11 j5) (fun(r12,at13) =>
 (app 144 r7 ([(⟨20,[],0,(⟨0,[],0,[]⟩:Typ),[],r12,at5⟩:Nod)]:List Nod)).bind fun l14 =>
 some (.ok ((⟨63,[],0,r9,[],l14,at4⟩:Nod),at13))) fun(e15,at16) =>
 some (.pan (e15,at16))) fun(at17,at18) =>
 some (.pan ((⟨(⟨20,at17⟩:Flt)⟩:l7),at18))) fun(at19,at20) =>
 some (.pan ((⟨(⟨20,at19⟩:Flt)⟩:l7),at20))) fun(at21,at22) =>
 some (.pan ((⟨(⟨20,at21⟩:Flt)⟩:l7),at22))) fun(at23,at24) =>
 some (.pan ((⟨(⟨20,at23⟩:Flt)⟩:l7),at24))
def a8a (j3:List Tok)(at2 j5:Int):Rs (Nod×Int) (l7×Int)->Out
 | .ok (a8l,b9d)=>.ret (.agg (c0 a8l.op a8l.s a8l.n a8l.t.kind a8l.t.name a8l.t.n (.sl F3 a8l.t.args) (.sl F3 a8l.ts) (.sl H6 a8l.l) a8l.at_)) (hP F6 j3 b9d j5)
 | .pan (e515,b2C)=>.pan (.iface 87 (.agg [.i e515.fault.code,.i e515.fault.at_])) (hP F6 j3 b2C j5)
def Q9 (n:Nat)(Φ:d9)(j5:Int)(j3:List Tok):Nat ->(List Nod)->Int->Option (Lr (List Nod×Int) (Rs (List Nod×Int) (l7×Int)))
  | 0,_,_=>none
  | m2 + 1,l503,b2B =>
      (A8 [125] j3 b2B j5).bind fun(r4,at5) =>
      cond (!r4) (
      p8 (Φ.I7 j3 at5 j5) (fun(r6,at7) =>
      (app 144 l503 ([r6]:List Nod)).bind fun l8 =>
      Q9 n Φ j5 j3 m2 l8 at7) fun(e9,at10) =>
      some (.out (.pan (e9,at10)))) (
      some (.brk (l503,at5)))
def U6 (n:Nat)(Φ:d9)(j3:List Tok)(at2 j5:Int):Option (Rs (List Nod×Int) (l7×Int)) :=
 a1A (α:=List Nod×Int) (
 Q9 n Φ j5 j3 n ([]:List Nod) at2) fun(l511,b9f) =>
 some (.ok (l511,b9f))
def a3G (j3:List Tok)(at2 j5:Int):Rs (List Nod×Int) (l7×Int)->Out
 | .ok (b2Z,at514)=>.ret (.sl H6 b2Z) (hP F6 j3 at514 j5)
 | .pan (e515,b2C)=>.pan (.iface 87 (.agg [.i e515.fault.code,.i e515.fault.at_])) (hP F6 j3 b2C j5)
def w9 (n:Nat)(Φ:d9)(j3:List Tok)(at2 j5:Int):Option (Rs (Nod×Int) (l7×Int)) :=
 Option.bind (α:=Str) (
 (o8 0 9 [] j3 at2 j5).bind fun r4 =>
 cond r4 (
 (idx' j3 at2).bind fun x5 =>
 some x5.text) (
 some [])) fun a5W =>
 Option.bind (α:=Bool) (
 cond (eqS a5W [108,101,116]) (
 some (eqS a5W [108,101,116])) (
 some (eqS a5W [118,97,114]))) fun x519 =>
 cond x519 (
 p8 (Φ.I9 j3 at2 j5) (fun(r6,at7) =>
 some (.ok (r6,at7))) fun(e8,at9) =>
 some (.pan (e8,at9))) (
 cond (eqS a5W [105,102]) (
 p8 (Φ.G9 j3 at2 j5) (fun(r10,at11) =>
 some (.ok (r10,at11))) fun(e12,at13) =>
 some (.pan (e12,at13))) (
 cond (eqS a5W [109,97,116,99,104]) (
 p8 (Φ.O9 j3 at2 j5) (fun(r14,at15) =>
 some (.ok (r14,at15))) fun(e16,at17) =>
 some (.pan (e16,at17))) (
 cond (eqS a5W [100,101,102,101,114]) (
 p8 (Φ.R8 31 j3 at2 j5) (fun(l18,at19,at20) =>
 some (.ok ((⟨31,[],0,(⟨0,[],0,[]⟩:Typ),[],l18,at19⟩:Nod),at20))) fun(e21,at22) =>
 some (.pan (e21,at22))) (
 cond (eqS a5W [119,104,105,108,101]) (
 (F7 25 j3 at2 j5).bind fun at23 =>
 p8 (Φ.C9 j3 (w64 (at2+1)) j5) (fun(r24,at25) =>
 p8 (Φ.G8 j3 at25 j5) (fun(r26,at27) =>
 (app 144 ([r24]:List Nod) ([r26]:List Nod)).bind fun l28 =>
 some (.ok ((⟨25,[],0,(⟨0,[],0,[]⟩:Typ),[],l28,at23⟩:Nod),at27))) fun(e29,at30) =>
 some (.pan (e29,at30))) fun(e31,at32) =>
 some (.pan (e31,at32))) (
 cond (eqS a5W [114,101,116,117,114,110]) (
 (F7 28 j3 at2 j5).bind fun at33 =>
 a1A (α:=Int×List Nod) (
 (A8 [59] j3 (w64 (at2+1)) j5).bind fun(r34,at35) =>
 cond (!r34) (
 p8 (Φ.C9 j3 at35 j5) (fun(r36,at37) =>
 p8 (D5 [59] j3 at37 j5) (fun at38 =>
 some (.brk (at38,([r36]:List Nod)))) fun(at39,at40) =>
 some (.out (.pan ((⟨(⟨20,at39⟩:Flt)⟩:l7),at40)))) fun(e41,at42) =>
 some (.out (.pan (e41,at42)))) (
 some (.brk (at35,([]:List Nod))))) fun(a7y,b4n) =>
 some (.ok ((⟨28,[],0,(⟨0,[],0,[]⟩:Typ),[],b4n,at33⟩:Nod),a7y))) (
 cond (eqS a5W [116,104,114,111,119]) (
 (F7 29 j3 at2 j5).bind fun at43 =>
 p8 (Φ.C9 j3 (w64 (at2+1)) j5) (fun(r44,at45) =>
 p8 (D5 [59] j3 at45 j5) (fun at46 =>
 some (.ok ((⟨29,[],0,(⟨0,[],0,[]⟩:Typ),[],[r44],at43⟩:Nod),at46))) fun(at47,at48) =>
 some (.pan ((⟨(⟨20,at47⟩:Flt)⟩:l7),at48))) fun(e49,at50) =>
 some (.pan (e49,at50))) (
 cond (eqS a5W [100,111]) (
 p8 (Φ.R8 30 j3 at2 j5) (fun(l51,at52,at53) =>
 p8 (M9 [99,97,116,99,104] j3 at53 j5) (fun at54 =>
 p8 (J5 j3 at54 j5) (fun r55 =>
 p8 (Φ.G8 j3 (w64 (at54+1)) j5) (fun(r56,at57) =>
 (app 144 l51 ([r56]:List Nod)).bind fun l58 =>
 some (.ok ((⟨30,r55,0,(⟨0,[],0,[]⟩:Typ),[],l58,at52⟩:Nod),at57))) fun(e59,at60) =>
 some (.pan (e59,at60))) fun at61 =>
 some (.pan ((⟨(⟨20,at61⟩:Flt)⟩:l7),at54))) fun(at62,at63) =>
 some (.pan ((⟨(⟨20,at62⟩:Flt)⟩:l7),at63))) fun(e64,at65) =>
 some (.pan (e64,at65))) (
 p8 (Φ.C9 j3 at2 j5) (fun(r66,at67) =>
 (o8 0 8 [61] j3 at67 j5).bind fun r68 =>
 cond r68 (
 (a3f n r66).bind fun r69 =>
 cond (!r69) (
 some (.pan ((⟨(⟨22,r66.at_⟩:Flt)⟩:l7),at67))) (
 p8 (Φ.C9 j3 (w64 (at67+1)) j5) (fun(r70,at71) =>
 (app 144 ([r66]:List Nod) ([r70]:List Nod)).bind fun l72 =>
 p8 (D5 [59] j3 at71 j5) (fun at73 =>
 some (.ok ((⟨22,[],0,(⟨0,[],0,[]⟩:Typ),[],l72,r66.at_⟩:Nod),at73))) fun(at74,at75) =>
 some (.pan ((⟨(⟨20,at74⟩:Flt)⟩:l7),at75))) fun(e76,at77) =>
 some (.pan (e76,at77)))) (
 p8 (D5 [59] j3 at67 j5) (fun at78 =>
 some (.ok ((⟨23,[],0,(⟨0,[],0,[]⟩:Typ),[],[r66],r66.at_⟩:Nod),at78))) fun(at79,at80) =>
 some (.pan ((⟨(⟨20,at79⟩:Flt)⟩:l7),at80)))) fun(e81,at82) =>
 some (.pan (e81,at82))))))))))
def a3S (j3:List Tok)(at2 j5:Int):Rs (Nod×Int) (l7×Int)->Out
 | .ok (R5,a2r)=>.ret (.agg (c0 R5.op R5.s R5.n R5.t.kind R5.t.name R5.t.n (.sl F3 R5.t.args) (.sl F3 R5.ts) (.sl H6 R5.l) R5.at_)) (hP F6 j3 a2r j5)
 | .pan (e516,at517)=>.pan (.iface 87 (.agg [.i e516.fault.code,.i e516.fault.at_])) (hP F6 j3 at517 j5)
def M0 (n:Nat)(Φ:d9)(j3:List Tok)(at2 j5:Int):Option (Rs (Nod×Int) (l7×Int)) :=
 (F7 21 j3 at2 j5).bind fun at4 =>
 a1A (α:=Int×Int) (
 (J8 [118,97,114] j3 at2 j5).bind fun(r5,at6) =>
 cond r5 (
 some (.brk (at6,1))) (
 p8 (M9 [108,101,116] j3 at6 j5) (fun at7 =>
 some (.brk (at7,0))) fun(at8,at9) =>
 some (.out (.pan ((⟨(⟨20,at8⟩:Flt)⟩:l7),at9))))) fun(b2D,n523) =>
 p8 (J5 j3 b2D j5) (fun r10 =>
 (A8 [58] j3 (w64 (b2D+1)) j5).bind fun(r11,at12) =>
 a1A (α:=Int×Int×Str×Int×List Typ) (
 cond r11 (
 p8 (G7 n j3 at12 j5) (fun(r13,at14) =>
 some (.brk (at14,r13.kind,r13.name,r13.n,r13.args))) fun(at15,at16) =>
 some (.out (.pan ((⟨(⟨20,at15⟩:Flt)⟩:l7),at16)))) (
 some (.brk (at12,0,[],0,([]:List Typ))))) fun(b4Z,c3y,c3K,n527,c27) =>
 Option.bind (α:=Bool×Int) (
 cond (eqB n523 1) (
 cond r11 (
 (A8 [59] j3 b4Z j5).bind fun(r17,at18) =>
 some (r17,at18)) (
 some (false,b4Z))) (
 some (false,b4Z))) fun(x529,at530) =>
 cond x529 (
 some (.ok ((⟨21,r10,n523,(⟨c3y,c3K,n527,c27⟩:Typ),[],[],at4⟩:Nod),at530))) (
 p8 (D5 [61] j3 at530 j5) (fun at19 =>
 p8 (Φ.C9 j3 at19 j5) (fun(r20,at21) =>
 p8 (D5 [59] j3 at21 j5) (fun at22 =>
 some (.ok ((⟨21,r10,n523,(⟨c3y,c3K,n527,c27⟩:Typ),[],[r20],at4⟩:Nod),at22))) fun(at23,at24) =>
 some (.pan ((⟨(⟨20,at23⟩:Flt)⟩:l7),at24))) fun(e25,at26) =>
 some (.pan (e25,at26))) fun(at27,at28) =>
 some (.pan ((⟨(⟨20,at27⟩:Flt)⟩:l7),at28)))) fun at29 =>
 some (.pan ((⟨(⟨20,at29⟩:Flt)⟩:l7),b2D))
def a5k (j3:List Tok)(at2 j5:Int):Rs (Nod×Int) (l7×Int)->Out
 | .ok (R5,a2r)=>.ret (.agg (c0 R5.op R5.s R5.n R5.t.kind R5.t.name R5.t.n (.sl F3 R5.t.args) (.sl F3 R5.ts) (.sl H6 R5.l) R5.at_)) (hP F6 j3 a2r j5)
 | .pan (e533,at534)=>.pan (.iface 87 (.agg [.i e533.fault.code,.i e533.fault.at_])) (hP F6 j3 at534 j5)
def L8 (n:Nat)(Φ:d9)(j3:List Tok)(at2 j5:Int):Option (Rs (Nod×Int) (l7×Int)) :=
 (F7 24 j3 at2 j5).bind fun at4 =>
 p8 (M9 [105,102] j3 at2 j5) (fun at5 =>
 p8 (Φ.C9 j3 at5 j5) (fun(r6,at7) =>
 p8 (Φ.G8 j3 at7 j5) (fun(r8,at9) =>
 (app 144 ([r6]:List Nod) ([r8]:List Nod)).bind fun l10 =>
 a1A (α:=Int×List Nod) (
 (J8 [101,108,115,101] j3 at9 j5).bind fun(r11,at12) =>
 cond r11 (
 a8o (α:=Int×Nod) (
 (o8 0 9 [105,102] j3 at12 j5).bind fun r13 =>
 cond r13 (
 p8 (Φ.G9 j3 at12 j5) (fun(r14,at15) =>
 some (.brk (at15,r14))) fun(e16,at17) =>
 some (.out (.pan (e16,at17)))) (
 p8 (Φ.G8 j3 at12 j5) (fun(r18,at19) =>
 some (.brk (at19,r18))) fun(e20,at21) =>
 some (.out (.pan (e20,at21))))) fun(a9F,n508) =>
 (app 144 l10 ([n508]:List Nod)).bind fun l22 =>
 some (.brk (a9F,l22))) (
 some (.brk (at12,l10)))) fun(b4Y,l510) =>
 some (.ok ((⟨24,[],0,(⟨0,[],0,[]⟩:Typ),[],l510,at4⟩:Nod),b4Y))) fun(e23,at24) =>
 some (.pan (e23,at24))) fun(e25,at26) =>
 some (.pan (e25,at26))) fun(at27,at28) =>
 some (.pan ((⟨(⟨20,at27⟩:Flt)⟩:l7),at28))
def a3v (j3:List Tok)(at2 j5:Int):Rs (Nod×Int) (l7×Int)->Out
 | .ok (R5,a2r)=>.ret (.agg (c0 R5.op R5.s R5.n R5.t.kind R5.t.name R5.t.n (.sl F3 R5.t.args) (.sl F3 R5.ts) (.sl H6 R5.l) R5.at_)) (hP F6 j3 a2r j5)
 | .pan (e521,b2D)=>.pan (.iface 87 (.agg [.i e521.fault.code,.i e521.fault.at_])) (hP F6 j3 b2D j5)
def a0g (n:Nat)(Φ:d9)(j3:List Tok)(at2 j5:Int):Option (Rs (Nod×Int) (l7×Int)) :=
 (F7 20 j3 at2 j5).bind fun at4 =>
 p8 (D5 [123] j3 at2 j5) (fun at5 =>
 p8 (Φ.J2 j3 at5 j5) (fun(r6,at7) =>
 some (.ok ((⟨20,[],0,(⟨0,[],0,[]⟩:Typ),[],r6,at4⟩:Nod),at7))) fun(e8,at9) =>
 some (.pan (e8,at9))) fun(at10,at11) =>
 some (.pan ((⟨(⟨20,at10⟩:Flt)⟩:l7),at11))
def a9h (j3:List Tok)(at2 j5:Int):Rs (Nod×Int) (l7×Int)->Out
 | .ok (b2Z,at514)=>.ret (.agg (c0 b2Z.op b2Z.s b2Z.n b2Z.t.kind b2Z.t.name b2Z.t.n (.sl F3 b2Z.t.args) (.sl F3 b2Z.ts) (.sl H6 b2Z.l) b2Z.at_)) (hP F6 j3 at514 j5)
 | .pan (e515,b2C)=>.pan (.iface 87 (.agg [.i e515.fault.code,.i e515.fault.at_])) (hP F6 j3 b2C j5)
def U3 (n:Nat)(Φ:d9)(j5:Int)(j3:List Tok):Nat->Int ->(List Nod)->Option (Lr (Int×List Nod) (Rs (Nod×Int) (l7×Int)))
  | 0,_,_=>none
  | m5 + 1,a7y,b4n =>
      (o8 0 9 [99,97,115,101] j3 a7y j5).bind fun r9 =>
      cond r9 (
      (F7 27 j3 a7y j5).bind fun at10 =>
      p8 (H7 n j3 (w64 (a7y+1)) j5) (fun(r11,at12) =>
      p8 (Φ.G8 j3 at12 j5) (fun(r13,at14) =>
      (app 144 ([r11]:List Nod) ([r13]:List Nod)).bind fun l15 =>
      (app 144 b4n ([(⟨27,[],0,(⟨0,[],0,[]⟩:Typ),[],l15,at10⟩:Nod)]:List Nod)).bind fun l16 =>
      U3 n Φ j5 j3 m5 at14 l16) fun(e17,at18) =>
      some (.out (.pan (e17,at18)))) fun(at19,at20) =>
      some (.out (.pan ((⟨(⟨20,at19⟩:Flt)⟩:l7),at20)))) (
      some (.brk (a7y,b4n)))
def a0h (n:Nat)(Φ:d9)(j3:List Tok)(at2 j5:Int):Option (Rs (Nod×Int) (l7×Int)) :=
 (F7 26 j3 at2 j5).bind fun at4 =>
 p8 (M9 [109,97,116,99,104] j3 at2 j5) (fun at5 =>
 p8 (Φ.C9 j3 at5 j5) (fun(r6,at7) =>
 p8 (D5 [123] j3 at7 j5) (fun at8 =>
 a1A (α:=Int×List Nod) (
 U3 n Φ j5 j3 n at8 ([r6]:List Nod)) fun(b9g,l516) =>
 (F7 27 j3 b9g j5).bind fun at21 =>
 (F7 40 j3 b9g j5).bind fun at22 =>
 a1A (α:=Int×List Nod) (
 (J8 [100,101,102,97,117,108,116] j3 b9g j5).bind fun(r23,at24) =>
 cond r23 (
 p8 (Φ.G8 j3 at24 j5) (fun(r25,at26) =>
 (app 144 ([(⟨40,[],0,(⟨0,[],0,[]⟩:Typ),[],[],at22⟩:Nod)]:List Nod) ([r25]:List Nod)).bind fun l27 =>
 (app 144 l516 ([(⟨27,[],0,(⟨0,[],0,[]⟩:Typ),[],l27,at21⟩:Nod)]:List Nod)).bind fun l28 =>
 some (.brk (at26,l28))) fun(e29,at30) =>
 some (.out (.pan (e29,at30)))) (
 some (.brk (at24,l516)))) fun(a9F,l508) =>
 p8 (D5 [125] j3 a9F j5) (fun at31 =>
 some (.ok ((⟨26,[],0,(⟨0,[],0,[]⟩:Typ),[],l508,at4⟩:Nod),at31))) fun(at32,at33) =>
 some (.pan ((⟨(⟨20,at32⟩:Flt)⟩:l7),at33))) fun(at34,at35) =>
 some (.pan ((⟨(⟨20,at34⟩:Flt)⟩:l7),at35))) fun(e36,at37) =>
 some (.pan (e36,at37))) fun(at38,at39) =>
 some (.pan ((⟨(⟨20,at38⟩:Flt)⟩:l7),at39))
def a5l (j3:List Tok)(at2 j5:Int):Rs (Nod×Int) (l7×Int)->Out
 | .ok (R5,a2r)=>.ret (.agg (c0 R5.op R5.s R5.n R5.t.kind R5.t.name R5.t.n (.sl F3 R5.t.args) (.sl F3 R5.ts) (.sl H6 R5.l) R5.at_)) (hP F6 j3 a2r j5)
 | .pan (e531,at532)=>.pan (.iface 87 (.agg [.i e531.fault.code,.i e531.fault.at_])) (hP F6 j3 at532 j5)
def a0w (n:Nat)(Φ:d9)(op1:Int)(z8:List Tok)(at3 G6:Int):Option (Rs (List Nod×Int×Int) (l7×Int)) :=
 (F7 op1 z8 at3 G6).bind fun at5 =>
 p8 (Φ.G8 z8 (w64 (at3+1)) G6) (fun(r6,at7) =>
 some (.ok (([r6]:List Nod),at5,at7))) fun(e8,at9) =>
 some (.pan (e8,at9))
def b0F (op1:Int)(z8:List Tok)(at3 G6:Int):Rs (List Nod×Int×Int) (l7×Int)->Out
 | .ok (l501,a2r,a8n)=>.ret (.agg [.i op1,.str [],.i 0,.i 0,.str [],.i 0,.sl F3 ([]:List Typ),.sl F3 ([]:List Typ),.sf H6 l501,.i a2r]) (hP F6 z8 a8n G6)
 | .pan (e519,at520)=>.pan (.iface 87 (.agg [.i e519.fault.code,.i e519.fault.at_])) (hP F6 z8 at520 G6)
def O5 (n:Nat)(Φ:d9)(a1X:Int)(a0l:List E8)(V6:List Tok):Nat->Int->Int->Int->Nod->Option (Lr (Int×Int×Nod) (Rs (Nod×Int) (l7×Int)))
  | 0,_,_,_,_=>none
  | m6 + 1,k551,x552,b3R,n554 =>
      Option.bind (α:=Bool) (
      cond (ltB b3R (List.length V6:Int)) (
      (idx' V6 b3R).bind fun x6 =>
      cond (eqB x6.kind 8) (
      (idx' a0l k551).bind fun x7 =>
      (idx' V6 b3R).bind fun x8 =>
      (O8 n x7.ops x8.text).bind fun r9 =>
      some r9) (
      some false)) (
      some false)) fun x555 =>
      cond x555 (
      (idx' V6 b3R).bind fun x10 =>
      (b0X a0l (w64 (k551+1)) (List.length a0l:Int)).bind fun l11 =>
      p8 (Φ.J3 V6 (w64 (b3R+1)) a1X) (fun(r12,at13) =>
      p8 (Φ.I8 r12 l11 V6 at13 a1X) (fun(r14,at15) =>
      (idx' a0l k551).bind fun x16 =>
      cond x16.once (
      some (.brk (x552,at15,(⟨64,x10.text,0,(⟨0,[],0,[]⟩:Typ),[],[n554,r14],n554.at_⟩:Nod)))) (
      O5 n Φ a1X a0l V6 m6 k551 x552 at15 (⟨64,x10.text,0,(⟨0,[],0,[]⟩:Typ),[],[n554,r14],n554.at_⟩:Nod))) fun(e17,at18) =>
      some (.out (.pan (e17,at18)))) fun(e19,at20) =>
      some (.out (.pan (e19,at20)))) (
      some (.brk (x552,b3R,n554)))
def Q5 (n:Nat)(Φ:d9)(a0l:List E8)(a1X:Int)(V6:List Tok):Nat->Int->Int->Nod->Option (Lr (Int×Nod) (Rs (Nod×Int) (l7×Int)))
  | 0,_,_,_=>none
  | m3 + 1,x543,at544,n545 =>
      cond (ltB x543 (List.length a0l:Int)) (
      a8o (α:=Int×Int×Nod) (
      O5 n Φ a1X a0l V6 n (w64 ((w64 ((List.length a0l:Int)-1))-x543)) x543 at544 n545) fun(x560,at561,n562) =>
      Q5 n Φ a0l a1X V6 m3 (w64 (x560+1)) at561 n562) (
      some (.brk (at544,n545)))
def V9 (n:Nat)(Φ:d9)(a03:Nod)(a0l:List E8)(V6:List Tok)(at4 a1X:Int):Option (Rs (Nod×Int) (l7×Int)) :=
 a1A (α:=Int×Nod) (
 Q5 n Φ a0l a1X V6 n 0 at4 a03) fun(at566,n567) =>
 some (.ok (n567,at566))
def a5j (a03:Nod)(a0l:List E8)(V6:List Tok)(at4 a1X:Int):Rs (Nod×Int) (l7×Int)->Out
 | .ok (r568,at569)=>.ret (.agg (c0 r568.op r568.s r568.n r568.t.kind r568.t.name r568.t.n (.sl F3 r568.t.args) (.sl F3 r568.ts) (.sl H6 r568.l) r568.at_)) (hP F6 V6 at569 a1X)
 | .pan (e529,at530)=>.pan (.iface 87 (.agg [.i e529.fault.code,.i e529.fault.at_])) (hP F6 V6 at530 a1X)
def d9.fs:Nat->d9
 | 0=>⟨fun _ _ _=>none,fun _ _ _=>none,fun _ _ _=>none,fun _ _ _=>none,fun _ _ _=>none,fun _ _ _=>none,fun _ _ _=>none,fun _ _ _=>none,fun _ _ _=>none,fun _ _ _=>none,fun _ _ _=>none,fun _ _ _=>none,fun _ _ _=>none,fun _ _ _ _=>none,fun _ _ _ _ _=>none⟩
 | n+1=>⟨X9 n (d9.fs n),X3 n (d9.fs n),O6 n (d9.fs n),A7 n (d9.fs n),a0p n (d9.fs n),Z5 n (d9.fs n),Y7 n (d9.fs n),U6 n (d9.fs n),w9 n (d9.fs n),M0 n (d9.fs n),L8 n (d9.fs n),a0g n (d9.fs n),a0h n (d9.fs n),a0w n (d9.fs n),V9 n (d9.fs n)⟩
def C9 (n:Nat)(j3:List Tok)(at2 j5:Int):Option (Rs (Nod×Int) (l7×Int)):=(d9.fs n).C9 j3 at2 j5
def J3 (n:Nat)(j3:List Tok)(at2 j5:Int):Option (Rs (Nod×Int) (l7×Int)):=(d9.fs n).J3 j3 at2 j5
def O4 (n:Nat)(j3:List Tok)(at2 j5:Int):Option (Rs (Nod×Int) (l7×Int)):=(d9.fs n).O4 j3 at2 j5
def I4 (n:Nat)(j3:List Tok)(at2 j5:Int):Option (Rs (Nod×Int) (l7×Int)):=(d9.fs n).I4 j3 at2 j5
def H9 (n:Nat)(j3:List Tok)(at2 j5:Int):Option (Rs (List Nod×Int) (l7×Int)):=(d9.fs n).H9 j3 at2 j5
def P5 (n:Nat)(j3:List Tok)(at2 j5:Int):Option (Rs (Nod×Int) (l7×Int)):=(d9.fs n).P5 j3 at2 j5
def O3 (n:Nat)(j3:List Tok)(at2 j5:Int):Option (Rs (Nod×Int) (l7×Int)):=(d9.fs n).O3 j3 at2 j5
def J2 (n:Nat)(j3:List Tok)(at2 j5:Int):Option (Rs (List Nod×Int) (l7×Int)):=(d9.fs n).J2 j3 at2 j5
def I7 (n:Nat)(j3:List Tok)(at2 j5:Int):Option (Rs (Nod×Int) (l7×Int)):=(d9.fs n).I7 j3 at2 j5
def I9 (n:Nat)(j3:List Tok)(at2 j5:Int):Option (Rs (Nod×Int) (l7×Int)):=(d9.fs n).I9 j3 at2 j5
def G9 (n:Nat)(j3:List Tok)(at2 j5:Int):Option (Rs (Nod×Int) (l7×Int)):=(d9.fs n).G9 j3 at2 j5
def G8 (n:Nat)(j3:List Tok)(at2 j5:Int):Option (Rs (Nod×Int) (l7×Int)):=(d9.fs n).G8 j3 at2 j5
def O9 (n:Nat)(j3:List Tok)(at2 j5:Int):Option (Rs (Nod×Int) (l7×Int)):=(d9.fs n).O9 j3 at2 j5
def R8 (n:Nat)(op1:Int)(z8:List Tok)(at3 G6:Int):Option (Rs (List Nod×Int×Int) (l7×Int)):=(d9.fs n).R8 op1 z8 at3 G6
def I8 (n:Nat)(a03:Nod)(a0l:List E8)(V6:List Tok)(at4 a1X:Int):Option (Rs (Nod×Int) (l7×Int)):=(d9.fs n).I8 a03 a0l V6 at4 a1X
def a4o (n:Nat)(j3:List Tok)(at2 j5 op4:Int)(s5:Str)(n6 a6d:Int)(a6g:Str)(n9:Int)(a2n ts11:List Typ)(l12:List Nod)(at13:Int)(a6q a6r:List Typ)(a6s:List Nod):Option (Rs (Int×Nod) (l7×Int×Nod)) :=
 p8 (C9 n j3 at2 j5) (fun(r17,at18) =>
 cond (ltB at18 (List.length j3:Int)) (
 p8 (a0J j3 at18 j5) (fun(_:Empty)=>none) fun at19 =>
 some (.pan ((⟨(⟨20,at19⟩:Flt)⟩:l7),at18,r17))) (
 some (.ok (at18,r17)))) fun(e20,at21) =>
 some (.pan (e20,at21,(⟨op4,s5,n6,(⟨a6d,a6g,n9,a2n⟩:Typ),ts11,l12,at13⟩:Nod)))
def b2U (j3:List Tok)(at2 j5 op4:Int)(s5:Str)(n6 a6d:Int)(a6g:Str)(n9:Int)(a2n ts11:List Typ)(l12:List Nod)(at13:Int)(a6q a6r:List Typ)(a6s:List Nod):Rs (Int×Nod) (l7×Int×Nod)->Out
 | .ok (a7y,n506)=>.ret (.tuple []) [(0,.row [.sl F6 j3,.i a7y,.i j5]),(1,.row [.ptr 0 0]),(2,.row (c0 n506.op n506.s n506.n n506.t.kind n506.t.name n506.t.n (.sl F3 n506.t.args) (.sl F3 n506.ts) (.sl H6 n506.l) n506.at_)),(3,.tip (tpe 4 (List.length a6q)) (List.length a6q)),(4,.tip (tpe 4 (List.length a6r)) (List.length a6r)),(5,.tip (tpe 10 (List.length a6s)) (List.length a6s))]
 | .pan (e527,at528,n529)=>.pan (.iface 87 (.agg [.i e527.fault.code,.i e527.fault.at_])) [(0,.row [.sl F6 j3,.i at528,.i j5]),(1,.row [.ptr 0 0]),(2,.row (c0 n529.op n529.s n529.n n529.t.kind n529.t.name n529.t.n (.sl F3 n529.t.args) (.sl F3 n529.ts) (.sl H6 n529.l) n529.at_)),(3,.tip (tpe 4 (List.length a6q)) (List.length a6q)),(4,.tip (tpe 4 (List.length a6r)) (List.length a6r)),(5,.tip (tpe 10 (List.length a6s)) (List.length a6s))]
def a1D (n:Nat)(j3:List Tok)(at2 j5 op4:Int)(s5:Str)(n6 a6d:Int)(a6g:Str)(n9:Int)(a2n ts11:List Typ)(l12:List Nod)(at13:Int):Option (Flt×Int×Nod) :=
 p8 (a4o n j3 at2 j5 op4 s5 n6 a6d a6g n9 a2n ts11 l12 at13 a2n ts11 l12) (fun(at14,n15) =>
 some ((⟨0,0⟩:Flt),at14,n15)) fun(e16,at17,n18) =>
 some (e16.fault,at17,n18)
def a8b (j3:List Tok)(at2 j5 op4:Int)(s5:Str)(n6 a6d:Int)(a6g:Str)(n9:Int)(a2n ts11:List Typ)(l12:List Nod)(at13:Int):Flt×Int×Nod->Out
 |(a3V,b4X,n507)=>.ret (.agg [.i a3V.code,.i a3V.at_]) [(0,.row [.sl F6 j3,.i b4X,.i j5]),(1,.row [.ptr 0 0]),(2,.row (c0 n507.op n507.s n507.n n507.t.kind n507.t.name n507.t.n (.sl F3 n507.t.args) (.sl F3 n507.ts) (.sl H6 n507.l) n507.at_)),(3,.tip (tpe 4 (List.length a2n)) (List.length a2n)),(4,.tip (tpe 4 (List.length ts11)) (List.length ts11)),(5,.tip (tpe 10 (List.length l12)) (List.length l12))]
structure T9 where
 a1u:Nod->Option (Int×Int)
def a4p (n:Nat)(Φ:T9)(n1:Nod):Nat->Int->Int->Int->Option (Int×Int)
  | 0,_,_,_=>none
  | m3 + 1,b95,b9x,b2x =>
      cond (ltB b2x (List.length n1.l:Int)) (
      (idx' n1.l b2x).bind fun x2 =>
      (Φ.a1u x2).bind fun(r3,r4) =>
      a4p n Φ n1 m3 (w64 (b95+r3)) (max b9x r4) (w64 (b2x+1))) (
      some (b95,b9x))
def a5f (n:Nat)(Φ:T9)(n1:Nod):Option (Int×Int) :=
 Option.bind (α:=Int×Int) (
 a4p n Φ n1 n 1 0 0) fun(nodes510,depth511) =>
 some ((nodes510,(w64 (depth511+1))))
def b0A (n1:Nod):Int×Int->Out
 |(r512,b2Z)=>.ret (.tuple [.i r512,.i b2Z]) []
def T9.fs:Nat->T9
 | 0=>⟨fun _=>none⟩
 | n+1=>⟨a5f n (T9.fs n)⟩
def a1u (n:Nat)(n1:Nod):Option (Int×Int):=(T9.fs n).a1u n1
noncomputable def a3j (n:Nat)(a1g:Str):Option (Nod×Flt) :=
 (a6h a1g).bind fun(r2,V6) =>
 cond (!((eqB r2.code 0)&&((eqB r2.at_ 0)&&true))) (
 some (((⟨0,[],0,(⟨0,[],0,[]⟩:Typ),[],[],0⟩:Nod),r2))) (
 (a1D n V6 0 (List.length a1g:Int) 0 [] 0 0 [] 0 ([]:List Typ) ([]:List Typ) ([]:List Nod) 0).bind fun(r4,at5,n6) =>
 cond (!((eqB r4.code 0)&&((eqB r4.at_ 0)&&true))) (
 some (((⟨0,[],0,(⟨0,[],0,[]⟩:Typ),[],[],0⟩:Nod),r4))) (
 (a1u n n6).bind fun(r7,r8) =>
 cond (ltB 40 r8) (
 some (((⟨0,[],0,(⟨0,[],0,[]⟩:Typ),[],[],0⟩:Nod),(⟨21,0⟩:Flt)))) (
 cond (ltB 4000 r7) (
 some (((⟨0,[],0,(⟨0,[],0,[]⟩:Typ),[],[],0⟩:Nod),(⟨2,0⟩:Flt)))) (
 some ((n6,(⟨0,0⟩:Flt)))))))
def b5K (a1g:Str):Nod×Flt->Out
 |(r506,r507)=>.ret (.tuple [.agg (c0 r506.op r506.s r506.n r506.t.kind r506.t.name r506.t.n (.sl F3 r506.t.args) (.sl F3 r506.ts) (.sl H6 r506.l) r506.at_),.agg [.i r507.code,.i r507.at_]]) []
def a2F (words1:List Str):Option (Str) :=
 (b66 words1 [32]).bind fun rr2 =>
 some (rr2)
def b0d (words1:List Str):Str->Out
 | R5=>.ret (.str R5) [(0,.row [.st 1 clS words1]),(1,.tip (tpe 1 (List.length words1)) (List.length words1))]
def l6 (l1 words2:List Str):Option (List Str) :=
 (app 16 words2 l1).bind fun l3 =>
 some (l3)
def b0J (l1 words2:List Str):List Str->Out
 | J4=>.ret (.tuple []) [(0,.row [.st 1 clS J4]),(1,.tip (tpe 1 (List.length J4)) (List.length J4))]
def Z8 (n1:Int)(words2:List Str):Option (List Str) :=
 (b31 n1).bind fun rr3 =>
 Option.bind (α:=Str×List Str) (
 cond (ltB n1 0) (
 (l6 ([[45]]:List Str) words2).bind fun words4 =>
 (subS rr3 1 (List.length rr3:Int)).bind fun s5 =>
 some (s5,words4)) (
 some (rr3,words2))) fun(s502,a0d) =>
 (l6 ([s502]:List Str) a0d).bind fun words6 =>
 some (words6)
def a4P (n1:Int)(words2:List Str):List Str->Out
 | J4=>.ret (.tuple []) [(0,.row [.st 1 clS J4]),(1,.tip (tpe 1 (List.length J4)) (List.length J4))]
def U5 (n1:Int)(words2:List Str):Option (List Str) :=
 cond (eqB n1 1) (
 (l6 ([[116,114,117,101]]:List Str) words2).bind fun words3 =>
 some (words3)) (
 (l6 ([[102,97,108,115,101]]:List Str) words2).bind fun words4 =>
 some (words4))
def a9s (n1:Int)(words2:List Str):List Str->Out
 | J4=>.ret (.tuple []) [(0,.row [.st 1 clS J4]),(1,.tip (tpe 1 (List.length J4)) (List.length J4))]
def V3 (n1:Nod)(i2:Int):Option (Nod) :=
 cond (ltB i2 (List.length n1.l:Int)) (
 (idx' n1.l i2).bind fun x3 =>
 some (x3)) (
 some ((⟨0,[],0,(⟨0,[],0,[]⟩:Typ),[],[],0⟩:Nod)))
def b6A (n1:Nod)(i2:Int):Nod->Out
 | R5=>.ret (.agg (c0 R5.op R5.s R5.n R5.t.kind R5.t.name R5.t.n (.sl F3 R5.t.args) (.sl F3 R5.ts) (.sl H6 R5.l) R5.at_)) []
structure q9 where
 P9:Typ ->(List Str)->Option (List Str)
 Y3:(List Typ) ->(List Str)->Option (List Str)
 X5:(List Typ) ->(List Str)->Option (List Str)
def a2g (n:Nat)(Φ:q9)(t1:Typ)(words2:List Str):Option (List Str) :=
 cond (eqB t1.kind 1) (
 (l6 ([[73,110,116]]:List Str) words2).bind fun words3 =>
 some (words3)) (
 cond (eqB t1.kind 2) (
 (l6 ([[66,111,111,108]]:List Str) words2).bind fun words4 =>
 some (words4)) (
 cond (eqB t1.kind 3) (
 (l6 ([[84,101,120,116]]:List Str) words2).bind fun words5 =>
 some (words5)) (
 cond (eqB t1.kind 4) (
 (l6 ([[85,110,105,116]]:List Str) words2).bind fun words6 =>
 some (words6)) (
 cond (eqB t1.kind 5) (
 (l6 ([[65,114,114,97,121]]:List Str) words2).bind fun words7 =>
 (Φ.X5 t1.args words7).bind fun words8 =>
 some (words8)) (
 cond (eqB t1.kind 11) (
 (l6 ([[87,101,97,107]]:List Str) words2).bind fun words9 =>
 (Φ.X5 t1.args words9).bind fun words10 =>
 some (words10)) (
 cond (eqB t1.kind 9) (
 (l6 ([[97,110,121],t1.name]:List Str) words2).bind fun words11 =>
 some (words11)) (
 cond (eqB t1.kind 8) (
 (Φ.Y3 t1.args words2).bind fun words12 =>
 (l6 ([[46],t1.name]:List Str) words12).bind fun words13 =>
 some (words13)) (
 cond (eqB t1.kind 10) (
 (l6 ([[40]]:List Str) words2).bind fun words14 =>
 (b0X t1.args 0 (max (w64 ((List.length t1.args:Int)-1)) 0)).bind fun l15 =>
 (Φ.Y3 l15 words14).bind fun words16 =>
 (l6 ([[41],[45,62]]:List Str) words16).bind fun words17 =>
 (b0X t1.args (max (w64 ((List.length t1.args:Int)-1)) 0) (List.length t1.args:Int)).bind fun l18 =>
 (Φ.Y3 l18 words17).bind fun words19 =>
 some (words19)) (
 (l6 ([t1.name]:List Str) words2).bind fun words20 =>
 (Φ.X5 t1.args words20).bind fun words21 =>
 some (words21))))))))))
def b0M (t1:Typ)(words2:List Str):List Str->Out
 | J4=>.ret (.tuple []) [(0,.row [.st 1 clS J4]),(1,.tip (tpe 1 (List.length J4)) (List.length J4))]
def a1v (n:Nat)(Φ:q9)(l1:List Typ):Nat->Int ->(List Str)->Option (List Str)
  | 0,_,_=>none
  | m1 + 1,a5x,a0d =>
      cond (ltB a5x (List.length l1:Int)) (
      (idx' l1 a5x).bind fun x3 =>
      Option.bind (α:=List Str) (
      cond (ltB 0 a5x) (
      (l6 ([[44]]:List Str) a0d).bind fun words4 =>
      some words4) (
      some a0d)) fun a5w =>
      (Φ.P9 x3 a5w).bind fun words5 =>
      a1v n Φ l1 m1 (w64 (a5x+1)) words5) (
      some (a0d))
def a2y (n:Nat)(Φ:q9)(l1:List Typ)(words2:List Str):Option (List Str) :=
 a1v n Φ l1 n 0 words2
def a6x (l1:List Typ)(words2:List Str):List Str->Out
 | a1d=>.ret (.tuple []) [(0,.row [.st 1 clS a1d]),(1,.tip (tpe 1 (List.length a1d)) (List.length a1d))]
def a1R (n:Nat)(Φ:q9)(l1:List Typ)(words2:List Str):Option (List Str) :=
 cond (ltB 0 (List.length l1:Int)) (
 (l6 ([[60]]:List Str) words2).bind fun words3 =>
 (Φ.Y3 l1 words3).bind fun words4 =>
 (l6 ([[62]]:List Str) words4).bind fun words5 =>
 some (words5)) (
 some (words2))
def a95 (l1:List Typ)(words2:List Str):List Str->Out
 | J4=>.ret (.tuple []) [(0,.row [.st 1 clS J4]),(1,.tip (tpe 1 (List.length J4)) (List.length J4))]
def q9.fs:Nat->q9
 | 0=>⟨fun _ _=>none,fun _ _=>none,fun _ _=>none⟩
 | n+1=>⟨a2g n (q9.fs n),a2y n (q9.fs n),a1R n (q9.fs n)⟩
def P9 (n:Nat)(t1:Typ)(words2:List Str):Option (List Str):=(q9.fs n).P9 t1 words2
def Y3 (n:Nat)(l1:List Typ)(words2:List Str):Option (List Str):=(q9.fs n).Y3 l1 words2
def X5 (n:Nat)(l1:List Typ)(words2:List Str):Option (List Str):=(q9.fs n).X5 l1 words2
def a0k (n:Nat)(p1:Nod)(words2:List Str):Option (List Str) :=
 Option.bind (α:=List Str) (
 cond (eqB p1.n 1) (
 (l6 ([[105,110,111,117,116]]:List Str) words2).bind fun words3 =>
 some words3) (
 cond (eqB p1.n 2) (
 (l6 ([[99,111,110,115,117,109,101]]:List Str) words2).bind fun words4 =>
 some words4) (
 some words2))) fun a4w =>
 (l6 ([p1.s,[58]]:List Str) a4w).bind fun words5 =>
 (P9 n p1.t words5).bind fun words6 =>
 some (words6)
def a3T (p1:Nod)(words2:List Str):List Str->Out
 | J4=>.ret (.tuple []) [(0,.row [.ptr 1 0]),(1,.row [.st 2 clS J4]),(2,.tip (tpe 1 (List.length J4)) (List.length J4))]
def a1l (n:Nat)(l1:List Nod):Nat->Int ->(List Str)->Option (List Str)
  | 0,_,_=>none
  | m1 + 1,a5x,a0d =>
      cond (ltB a5x (List.length l1:Int)) (
      (idx' l1 a5x).bind fun x3 =>
      Option.bind (α:=List Str) (
      cond (ltB 0 a5x) (
      (l6 ([[44]]:List Str) a0d).bind fun words4 =>
      some words4) (
      some a0d)) fun a5w =>
      (a0k n x3 a5w).bind fun words5 =>
      a1l n l1 m1 (w64 (a5x+1)) words5) (
      some (a0d))
def a3k (n:Nat)(l1:List Nod)(words2:List Str):Option (List Str) :=
 a1l n l1 n 0 words2
def a5h (l1:List Nod)(words2:List Str):List Str->Out
 | a1d=>.ret (.tuple []) [(0,.row [.st 2 clS a1d]),(1,.row [.ptr 0 0]),(2,.tip (tpe 1 (List.length a1d)) (List.length a1d))]
def a1T (n:Nat)(l1:List Nod)(words2:List Str):Option (List Str) :=
 (l6 ([[40]]:List Str) words2).bind fun words3 =>
 (a3k n l1 words3).bind fun words4 =>
 (l6 ([[41]]:List Str) words4).bind fun words5 =>
 some (words5)
def a8K (l1:List Nod)(words2:List Str):List Str->Out
 | J4=>.ret (.tuple []) [(0,.row [.st 1 clS J4]),(1,.tip (tpe 1 (List.length J4)) (List.length J4))]
def a1U (n:Nat)(t1:Typ)(words2:List Str):Option (List Str) :=
 cond (!eqB t1.kind 4) (
 (l6 ([[45,62]]:List Str) words2).bind fun words3 =>
 (P9 n t1 words3).bind fun words4 =>
 some (words4)) (
 some (words2))
def a8L (t1:Typ)(words2:List Str):List Str->Out
 | J4=>.ret (.tuple []) [(0,.row [.st 1 clS J4]),(1,.tip (tpe 1 (List.length J4)) (List.length J4))]
def a4D (n1:Nod)(i2:Int):Option (List Nod) :=
 cond (ltB i2 (List.length n1.l:Int)) (
 (b0X n1.l i2 (List.length n1.l:Int)).bind fun l3 =>
 some (l3)) (
 some (([]:List Nod)))
def b5Q (n1:Nod)(i2:Int):List Nod->Out
 | R5=>.ret (.sl H6 R5) []
structure o9 where
 R4:Nod ->(List Str)->Option (List Str)
 Z4:(List Nod) ->(List Str)->Option (List Str)
def E5 (n:Nat)(Φ:o9)(n1:Nod)(words2:List Str):Option (List Str) :=
 cond (eqB n1.op 40) (
 (l6 ([[95]]:List Str) words2).bind fun words3 =>
 some (words3)) (
 cond (eqB n1.op 41) (
 (l6 ([n1.s]:List Str) words2).bind fun words4 =>
 some (words4)) (
 cond (eqB n1.op 42) (
 (Z8 n1.n words2).bind fun words5 =>
 some (words5)) (
 cond (eqB n1.op 43) (
 (U5 n1.n words2).bind fun words6 =>
 some (words6)) (
 cond (eqB n1.op 44) (
 (escG n1.s).bind fun rr7 =>
 (cat [34] rr7).bind fun s8 =>
 (cat s8 [34]).bind fun s9 =>
 (l6 ([s9]:List Str) words2).bind fun words10 =>
 some (words10)) (
 cond (eqB n1.op 45) (
 (l6 ([[46],n1.s]:List Str) words2).bind fun words11 =>
 cond (ltB 0 (List.length n1.l:Int)) (
 (l6 ([[40]]:List Str) words11).bind fun words12 =>
 (Φ.Z4 n1.l words12).bind fun words13 =>
 (l6 ([[41]]:List Str) words13).bind fun words14 =>
 some (words14)) (
 some (words11))) (
 some (words2)))))))
def a8j (n1:Nod)(words2:List Str):List Str->Out
 | J4=>.ret (.tuple []) [(0,.row [.st 1 clS J4]),(1,.tip (tpe 1 (List.length J4)) (List.length J4))]
def a1m (n:Nat)(Φ:o9)(l1:List Nod):Nat->Int ->(List Str)->Option (List Str)
  | 0,_,_=>none
  | m1 + 1,a5x,a0d =>
      cond (ltB a5x (List.length l1:Int)) (
      (idx' l1 a5x).bind fun x3 =>
      Option.bind (α:=List Str) (
      cond (ltB 0 a5x) (
      (l6 ([[44]]:List Str) a0d).bind fun words4 =>
      some words4) (
      some a0d)) fun a5w =>
      (Φ.R4 x3 a5w).bind fun words5 =>
      a1m n Φ l1 m1 (w64 (a5x+1)) words5) (
      some (a0d))
def a3R (n:Nat)(Φ:o9)(l1:List Nod)(words2:List Str):Option (List Str) :=
 a1m n Φ l1 n 0 words2
def a5i (l1:List Nod)(words2:List Str):List Str->Out
 | a1d=>.ret (.tuple []) [(0,.row [.st 1 clS a1d]),(1,.tip (tpe 1 (List.length a1d)) (List.length a1d))]
def o9.fs:Nat->o9
 | 0=>⟨fun _ _=>none,fun _ _=>none⟩
 | n+1=>⟨E5 n (o9.fs n),a3R n (o9.fs n)⟩
def R4 (n:Nat)(n1:Nod)(words2:List Str):Option (List Str):=(o9.fs n).R4 n1 words2
def Z4 (n:Nat)(l1:List Nod)(words2:List Str):Option (List Str):=(o9.fs n).Z4 l1 words2
def b0C (n:Nat)(ops2:List Int)(x3:Nod):Nat ->(List Nod)->Int->Int->Option (List Nod×Int)
  | 0,_,_,_=>none
  | m6 + 1,b4n,x507,x508 =>
      cond (ltB x508 (List.length ops2:Int)) (
      Option.bind (α:=List Nod) (
      (idx' ops2 x508).bind fun x4 =>
      cond (eqB x3.op x4) (
      (app 144 b4n ([x3]:List Nod)).bind fun l5 =>
      some l5) (
      some b4n)) fun l509 =>
      b0C n ops2 x3 m6 l509 x507 (w64 (x508+1))) (
      some (b4n,x507))
def a7L (n:Nat)(n1:Nod)(ops2:List Int):Nat ->(List Nod)->Int->Option (List Nod)
  | 0,_,_=>none
  | m3 + 1,l515,x516 =>
      cond (ltB x516 (List.length n1.l:Int)) (
      Option.bind (α:=List Nod×Int) (
      (idx' n1.l x516).bind fun x3 =>
      b0C n ops2 x3 n l515 x516 0) fun(l513,x514) =>
      a7L n n1 ops2 m3 l513 (w64 (x514+1))) (
      some l515)
def a8D (n:Nat)(n1:Nod)(ops2:List Int):Option (List Nod) :=
 Option.bind (α:=List Nod) (
 a7L n n1 ops2 n ([]:List Nod) 0) fun l525 =>
 some (l525)
def b2W (n1:Nod)(ops2:List Int):List Nod->Out
 | r526=>.ret (.sl H6 r526) []
structure j4 where
 D9:Nod ->(List Str)->Option (List Str)
 Y1:Nod ->(List Str)->Option (List Str)
 X4:Nod ->(List Str)->Option (List Str)
 O7:Nod ->(List Str)->Option (List Str)
 O1:Nod ->(List Str)->Option (List Str)
 a0m:(List Nod) ->(List Str)->Option (List Str)
 a0c:Nod ->(List Str)->Option (List Str)
 R6:Nod ->(List Str)->Option (List Str)
 R7:(List Nod) ->(List Str)->Option (List Str)
def A9 (n:Nat)(Φ:j4)(n1:Nod)(words2:List Str):Option (List Str) :=
 cond (eqB n1.op 50) (
 (Z8 n1.n words2).bind fun words3 =>
 some (words3)) (
 cond (eqB n1.op 51) (
 (U5 n1.n words2).bind fun words4 =>
 some (words4)) (
 cond (eqB n1.op 52) (
 (escG n1.s).bind fun rr5 =>
 (cat [34] rr5).bind fun s6 =>
 (cat s6 [34]).bind fun s7 =>
 (l6 ([s7]:List Str) words2).bind fun words8 =>
 some (words8)) (
 cond (eqB n1.op 53) (
 (Φ.Y1 n1 words2).bind fun words9 =>
 some (words9)) (
 cond (eqB n1.op 54) (
 (l6 ([n1.s]:List Str) words2).bind fun words10 =>
 some (words10)) (
 cond (eqB n1.op 61) (
 (l6 ([[99,111,110,115,117,109,101],n1.s]:List Str) words2).bind fun words11 =>
 some (words11)) (
 cond (eqB n1.op 62) (
 (l6 ([[38]]:List Str) words2).bind fun words12 =>
 (V3 n1 0).bind fun r13 =>
 (Φ.D9 r13 words12).bind fun words14 =>
 some (words14)) (
 cond (eqB n1.op 63) (
 (Φ.X4 n1 words2).bind fun words15 =>
 some (words15)) (
 cond (eqB n1.op 64) (
 (l6 ([[40]]:List Str) words2).bind fun words16 =>
 (V3 n1 0).bind fun r17 =>
 (Φ.D9 r17 words16).bind fun words18 =>
 (l6 ([n1.s]:List Str) words18).bind fun words19 =>
 (V3 n1 1).bind fun r20 =>
 (Φ.D9 r20 words19).bind fun words21 =>
 (l6 ([[41]]:List Str) words21).bind fun words22 =>
 some (words22)) (
 cond (eqB n1.op 65) (
 (l6 ([[33]]:List Str) words2).bind fun words23 =>
 (V3 n1 0).bind fun r24 =>
 (Φ.D9 r24 words23).bind fun words25 =>
 some (words25)) (
 cond (eqB n1.op 66) (
 (l6 ([[45]]:List Str) words2).bind fun words26 =>
 (V3 n1 0).bind fun r27 =>
 (Φ.D9 r27 words26).bind fun words28 =>
 some (words28)) (
 cond (eqB n1.op 67) (
 (l6 ([[91]]:List Str) words2).bind fun words29 =>
 (Φ.a0m n1.l words29).bind fun words30 =>
 (l6 ([[93]]:List Str) words30).bind fun words31 =>
 some (words31)) (
 (Φ.a0c n1 words2).bind fun words32 =>
 some (words32)))))))))))))
def a99 (n1:Nod)(words2:List Str):List Str->Out
 | J4=>.ret (.tuple []) [(0,.row [.st 1 clS J4]),(1,.tip (tpe 1 (List.length J4)) (List.length J4))]
def V5 (n:Nat)(Φ:j4)(n1:Nod):Nat->Int ->(List Str)->Option (List Str)
  | 0,_,_=>none
  | m2 + 1,a5x,a0d =>
      cond (ltB a5x (List.length n1.l:Int)) (
      Option.bind (α:=List Str) (
      (idx' n1.l a5x).bind fun x3 =>
      gdO (!eqB 2 0) <|
      cond (eqB (Int.tmod a5x 2) 1) (
      (Φ.D9 x3 a0d).bind fun words4 =>
      some words4) (
      cond (eqB a5x 0) (
      (escG x3.s).bind fun rr5 =>
      (cat [34] rr5).bind fun s6 =>
      (cat s6 [92,40]).bind fun s7 =>
      (l6 ([s7]:List Str) a0d).bind fun words8 =>
      some words8) (
      cond (eqB a5x (w64 ((List.length n1.l:Int)-1))) (
      (escG x3.s).bind fun rr9 =>
      (cat [41] rr9).bind fun s10 =>
      (cat s10 [34]).bind fun s11 =>
      (l6 ([s11]:List Str) a0d).bind fun words12 =>
      some words12) (
      (escG x3.s).bind fun rr13 =>
      (cat [41] rr13).bind fun s14 =>
      (cat s14 [92,40]).bind fun s15 =>
      (l6 ([s15]:List Str) a0d).bind fun words16 =>
      some words16)))) fun a5w =>
      V5 n Φ n1 m2 (w64 (a5x+1)) a5w) (
      some (a0d))
def a3y (n:Nat)(Φ:j4)(n1:Nod)(words2:List Str):Option (List Str) :=
 V5 n Φ n1 n 0 words2
def a4O (n1:Nod)(words2:List Str):List Str->Out
 | a1d=>.ret (.tuple []) [(0,.row [.st 1 clS a1d]),(1,.tip (tpe 1 (List.length a1d)) (List.length a1d))]
def a0Y (n:Nat)(Φ:j4)(x9:Nod):Nat->Int->Int ->(List Str)->Option (Int×List Str)
  | 0,_,_,_=>none
  | m9 + 1,x519,x520,c0Q =>
      cond (ltB x520 (List.length x9.l:Int)) (
      (idx' x9.l x520).bind fun x10 =>
      (Φ.O7 x10 c0Q).bind fun words11 =>
      a0Y n Φ x9 m9 x519 (w64 (x520+1)) words11) (
      some (x519,c0Q))
def a0X (n:Nat)(Φ:j4)(r8:List Nod):Nat->Int ->(List Str)->Option (List Str)
  | 0,_,_=>none
  | m6 + 1,x514,b0Z =>
      cond (ltB x514 (List.length r8:Int)) (
      Option.bind (α:=Int×List Str) (
      (idx' r8 x514).bind fun x9 =>
      a0Y n Φ x9 n x514 0 b0Z) fun(x525,words526) =>
      a0X n Φ r8 m6 (w64 (x525+1)) words526) (
      some b0Z)
def a1c (n:Nat)(Φ:j4)(n1:Nod)(words2:List Str):Option (List Str) :=
 (l6 ([[123]]:List Str) words2).bind fun words3 =>
 (a8D n n1 ([10]:List Int)).bind fun r4 =>
 (a1T n r4 words3).bind fun words5 =>
 (a1U n n1.t words5).bind fun words6 =>
 (l6 ([[105,110]]:List Str) words6).bind fun words7 =>
 Option.bind (α:=List Str) (
 (a8D n n1 ([20]:List Int)).bind fun r8 =>
 a0X n Φ r8 n 0 words7) fun words529 =>
 (l6 ([[125]]:List Str) words529).bind fun words12 =>
 some (words12)
def a4s (n1:Nod)(words2:List Str):List Str->Out
 | a4w=>.ret (.tuple []) [(0,.row [.st 1 clS a4w]),(1,.tip (tpe 1 (List.length a4w)) (List.length a4w))]
def a0y (n:Nat)(Φ:j4)(r41:List Nod):Nat->Int ->(List Str)->Option (List Str)
  | 0,_,_=>none
  | m40 + 1,x514,b0Z =>
      cond (ltB x514 (List.length r41:Int)) (
      (idx' r41 x514).bind fun x42 =>
      (l6 ([[99,97,115,101]]:List Str) b0Z).bind fun words43 =>
      (V3 x42 0).bind fun r44 =>
      (R4 n r44 words43).bind fun words45 =>
      (V3 x42 1).bind fun r46 =>
      (Φ.O1 r46 words45).bind fun words47 =>
      a0y n Φ r41 m40 (w64 (x514+1)) words47) (
      some b0Z)
def o6 (n:Nat)(Φ:j4)(n1:Nod)(words2:List Str):Option (List Str) :=
 cond (eqB n1.op 21) (
 Option.bind (α:=List Str) (
 cond (eqB n1.n 1) (
 (l6 ([[118,97,114]]:List Str) words2).bind fun words3 =>
 some words3) (
 (l6 ([[108,101,116]]:List Str) words2).bind fun words4 =>
 some words4)) fun words507 =>
 (l6 ([n1.s]:List Str) words507).bind fun words5 =>
 Option.bind (α:=List Str) (
 cond (!eqB n1.t.kind 0) (
 (l6 ([[58]]:List Str) words5).bind fun words6 =>
 (P9 n n1.t words6).bind fun words7 =>
 some words7) (
 some words5)) fun c0P =>
 Option.bind (α:=List Str) (
 cond (ltB 0 (List.length n1.l:Int)) (
 (l6 ([[61]]:List Str) c0P).bind fun words8 =>
 (idx' n1.l 0).bind fun x9 =>
 (Φ.D9 x9 words8).bind fun words10 =>
 some words10) (
 some c0P)) fun a4w =>
 (l6 ([[59]]:List Str) a4w).bind fun words11 =>
 some (words11)) (
 cond (eqB n1.op 22) (
 (V3 n1 0).bind fun r12 =>
 (Φ.D9 r12 words2).bind fun words13 =>
 (l6 ([[61]]:List Str) words13).bind fun words14 =>
 (V3 n1 1).bind fun r15 =>
 (Φ.D9 r15 words14).bind fun words16 =>
 (l6 ([[59]]:List Str) words16).bind fun words17 =>
 some (words17)) (
 cond (eqB n1.op 23) (
 (V3 n1 0).bind fun r18 =>
 (Φ.D9 r18 words2).bind fun words19 =>
 (l6 ([[59]]:List Str) words19).bind fun words20 =>
 some (words20)) (
 cond (eqB n1.op 24) (
 (l6 ([[105,102]]:List Str) words2).bind fun words21 =>
 (V3 n1 0).bind fun r22 =>
 (Φ.D9 r22 words21).bind fun words23 =>
 (V3 n1 1).bind fun r24 =>
 (Φ.O1 r24 words23).bind fun words25 =>
 cond (ltB 2 (List.length n1.l:Int)) (
 (l6 ([[101,108,115,101]]:List Str) words25).bind fun words26 =>
 (idx' n1.l 2).bind fun x27 =>
 cond (eqB x27.op 24) (
 (idx' n1.l 2).bind fun x28 =>
 (Φ.O7 x28 words26).bind fun words29 =>
 some (words29)) (
 (idx' n1.l 2).bind fun x30 =>
 (Φ.O1 x30 words26).bind fun words31 =>
 some (words31))) (
 some (words25))) (
 cond (eqB n1.op 25) (
 (l6 ([[119,104,105,108,101]]:List Str) words2).bind fun words32 =>
 (V3 n1 0).bind fun r33 =>
 (Φ.D9 r33 words32).bind fun words34 =>
 (V3 n1 1).bind fun r35 =>
 (Φ.O1 r35 words34).bind fun words36 =>
 some (words36)) (
 cond (eqB n1.op 26) (
 (l6 ([[109,97,116,99,104]]:List Str) words2).bind fun words37 =>
 (V3 n1 0).bind fun r38 =>
 (Φ.D9 r38 words37).bind fun words39 =>
 (l6 ([[123]]:List Str) words39).bind fun words40 =>
 Option.bind (α:=List Str) (
 (a4D n1 1).bind fun r41 =>
 a0y n Φ r41 n 0 words40) fun words525 =>
 (l6 ([[125]]:List Str) words525).bind fun words48 =>
 some (words48)) (
 cond (eqB n1.op 28) (
 (l6 ([[114,101,116,117,114,110]]:List Str) words2).bind fun words49 =>
 Option.bind (α:=List Str) (
 cond (ltB 0 (List.length n1.l:Int)) (
 (idx' n1.l 0).bind fun x50 =>
 (Φ.D9 x50 words49).bind fun words51 =>
 some words51) (
 some words49)) fun words516 =>
 (l6 ([[59]]:List Str) words516).bind fun words52 =>
 some (words52)) (
 cond (eqB n1.op 29) (
 (l6 ([[116,104,114,111,119]]:List Str) words2).bind fun words53 =>
 (V3 n1 0).bind fun r54 =>
 (Φ.D9 r54 words53).bind fun words55 =>
 (l6 ([[59]]:List Str) words55).bind fun words56 =>
 some (words56)) (
 cond (eqB n1.op 30) (
 (l6 ([[100,111]]:List Str) words2).bind fun words57 =>
 (V3 n1 0).bind fun r58 =>
 (Φ.O1 r58 words57).bind fun words59 =>
 (l6 ([[99,97,116,99,104],n1.s]:List Str) words59).bind fun words60 =>
 (V3 n1 1).bind fun r61 =>
 (Φ.O1 r61 words60).bind fun words62 =>
 some (words62)) (
 cond (eqB n1.op 31) (
 (l6 ([[100,101,102,101,114]]:List Str) words2).bind fun words63 =>
 (V3 n1 0).bind fun r64 =>
 (Φ.O1 r64 words63).bind fun words65 =>
 some (words65)) (
 some (words2)))))))))))
def a3U (n1:Nod)(words2:List Str):List Str->Out
 | J4=>.ret (.tuple []) [(0,.row [.st 1 clS J4]),(1,.tip (tpe 1 (List.length J4)) (List.length J4))]
def a1p (n:Nat)(Φ:j4)(n1:Nod):Nat->Int ->(List Str)->Option (List Str)
  | 0,_,_=>none
  | m3 + 1,x501,a4w =>
      cond (ltB x501 (List.length n1.l:Int)) (
      (idx' n1.l x501).bind fun x4 =>
      (Φ.O7 x4 a4w).bind fun words5 =>
      a1p n Φ n1 m3 (w64 (x501+1)) words5) (
      some a4w)
def a1E (n:Nat)(Φ:j4)(n1:Nod)(words2:List Str):Option (List Str) :=
 (l6 ([[123]]:List Str) words2).bind fun words3 =>
 Option.bind (α:=List Str) (
 a1p n Φ n1 n 0 words3) fun words508 =>
 (l6 ([[125]]:List Str) words508).bind fun words6 =>
 some (words6)
def a5o (n1:Nod)(words2:List Str):List Str->Out
 | a0d=>.ret (.tuple []) [(0,.row [.st 1 clS a0d]),(1,.tip (tpe 1 (List.length a0d)) (List.length a0d))]
def a2f (n:Nat)(Φ:j4)(l1:List Nod):Nat->Int ->(List Str)->Option (List Str)
  | 0,_,_=>none
  | m1 + 1,a5x,a0d =>
      cond (ltB a5x (List.length l1:Int)) (
      (idx' l1 a5x).bind fun x3 =>
      Option.bind (α:=List Str) (
      cond (ltB 0 a5x) (
      (l6 ([[44]]:List Str) a0d).bind fun words4 =>
      some words4) (
      some a0d)) fun a5w =>
      (Φ.D9 x3 a5w).bind fun words5 =>
      a2f n Φ l1 m1 (w64 (a5x+1)) words5) (
      some (a0d))
def a5g (n:Nat)(Φ:j4)(l1:List Nod)(words2:List Str):Option (List Str) :=
 a2f n Φ l1 n 0 words2
def a6w (l1:List Nod)(words2:List Str):List Str->Out
 | a1d=>.ret (.tuple []) [(0,.row [.st 1 clS a1d]),(1,.tip (tpe 1 (List.length a1d)) (List.length a1d))]
def K7 (n:Nat)(Φ:j4)(n1:Nod)(words2:List Str):Option (List Str) :=
 cond (eqB n1.op 55) (
 (V3 n1 0).bind fun r3 =>
 (Φ.R6 r3 words2).bind fun words4 =>
 (l6 ([[46],n1.s]:List Str) words4).bind fun words5 =>
 some (words5)) (
 cond (eqB n1.op 56) (
 (l6 ([n1.s]:List Str) words2).bind fun words6 =>
 (Φ.R7 n1.l words6).bind fun words7 =>
 some (words7)) (
 cond (eqB n1.op 57) (
 (V3 n1 0).bind fun r8 =>
 (Φ.R6 r8 words2).bind fun words9 =>
 (l6 ([[46],n1.s]:List Str) words9).bind fun words10 =>
 (a4D n1 1).bind fun r11 =>
 (Φ.R7 r11 words10).bind fun words12 =>
 some (words12)) (
 cond (eqB n1.op 58) (
 (P9 n n1.t words2).bind fun words13 =>
 (l6 ([[46],n1.s]:List Str) words13).bind fun words14 =>
 cond (eqB n1.n 1) (
 (Φ.R7 n1.l words14).bind fun words15 =>
 some (words15)) (
 some (words14))) (
 cond (eqB n1.op 59) (
 (P9 n n1.t words2).bind fun words16 =>
 (Φ.R7 n1.l words16).bind fun words17 =>
 some (words17)) (
 cond (eqB n1.op 60) (
 (l6 ([[40]]:List Str) words2).bind fun words18 =>
 (V3 n1 0).bind fun r19 =>
 (Φ.D9 r19 words18).bind fun words20 =>
 (l6 ([[41]]:List Str) words20).bind fun words21 =>
 (a4D n1 1).bind fun r22 =>
 (Φ.R7 r22 words21).bind fun words23 =>
 some (words23)) (
 some (words2)))))))
def b0O (n1:Nod)(words2:List Str):List Str->Out
 | J4=>.ret (.tuple []) [(0,.row [.st 1 clS J4]),(1,.tip (tpe 1 (List.length J4)) (List.length J4))]
def a0Z (n:Nat)(Φ:j4)(n1:Nod)(words2:List Str):Option (List Str) :=
 Option.bind (α:=Bool) (
 cond (eqB n1.op 61) (
 some (eqB n1.op 61)) (
 cond (eqB n1.op 63) (
 some (eqB n1.op 63)) (
 cond (eqB n1.op 66) (
 some (eqB n1.op 66)) (
 some (eqB n1.op 65))))) fun a5x =>
 cond a5x (
 (l6 ([[40]]:List Str) words2).bind fun words3 =>
 (Φ.D9 n1 words3).bind fun words4 =>
 (l6 ([[41]]:List Str) words4).bind fun words5 =>
 some (words5)) (
 (Φ.D9 n1 words2).bind fun words6 =>
 some (words6))
def a4i (n1:Nod)(words2:List Str):List Str->Out
 | J4=>.ret (.tuple []) [(0,.row [.st 1 clS J4]),(1,.tip (tpe 1 (List.length J4)) (List.length J4))]
def a1S (n:Nat)(Φ:j4)(l1:List Nod)(words2:List Str):Option (List Str) :=
 (l6 ([[40]]:List Str) words2).bind fun words3 =>
 (Φ.a0m l1 words3).bind fun words4 =>
 (l6 ([[41]]:List Str) words4).bind fun words5 =>
 some (words5)
def a97 (l1:List Nod)(words2:List Str):List Str->Out
 | J4=>.ret (.tuple []) [(0,.row [.st 1 clS J4]),(1,.tip (tpe 1 (List.length J4)) (List.length J4))]
def j4.fs:Nat->j4
 | 0=>⟨fun _ _=>none,fun _ _=>none,fun _ _=>none,fun _ _=>none,fun _ _=>none,fun _ _=>none,fun _ _=>none,fun _ _=>none,fun _ _=>none⟩
 | n+1=>⟨A9 n (j4.fs n),a3y n (j4.fs n),a1c n (j4.fs n),o6 n (j4.fs n),a1E n (j4.fs n),a5g n (j4.fs n),K7 n (j4.fs n),a0Z n (j4.fs n),a1S n (j4.fs n)⟩
def D9 (n:Nat)(n1:Nod)(words2:List Str):Option (List Str):=(j4.fs n).D9 n1 words2
def Y1 (n:Nat)(n1:Nod)(words2:List Str):Option (List Str):=(j4.fs n).Y1 n1 words2
def X4 (n:Nat)(n1:Nod)(words2:List Str):Option (List Str):=(j4.fs n).X4 n1 words2
def O7 (n:Nat)(n1:Nod)(words2:List Str):Option (List Str):=(j4.fs n).O7 n1 words2
def O1 (n:Nat)(n1:Nod)(words2:List Str):Option (List Str):=(j4.fs n).O1 n1 words2
def a0m (n:Nat)(l1:List Nod)(words2:List Str):Option (List Str):=(j4.fs n).a0m l1 words2
def a0c (n:Nat)(n1:Nod)(words2:List Str):Option (List Str):=(j4.fs n).a0c n1 words2
def R6 (n:Nat)(n1:Nod)(words2:List Str):Option (List Str):=(j4.fs n).R6 n1 words2
def R7 (n:Nat)(l1:List Nod)(words2:List Str):Option (List Str):=(j4.fs n).R7 l1 words2
def a1f (n:Nat)(n1:Nod):Option (Str) :=
 (D9 n n1 ([]:List Str)).bind fun words2 =>
 (a2F words2).bind fun r3 =>
 some (r3)
def b1r (n1:Nod):Str->Out
 | R5=>.ret (.str R5) []
def a9b (a1g:Str):Option (Unit) :=
 some (())
def b5t (a1g:Str):Unit->Out
 | _=>.ret (.bool (ltB 8200 (List.length a1g:Int))) []
noncomputable def a3D (n:Nat)(a1g:Str):Option (Bool) :=
 (a9b a1g).bind fun _ =>
 cond (ltB 8200 (List.length a1g:Int)) (
 (b3n).bind fun bb2 =>
 some (bb2)) (
 (a3j n a1g).bind fun(r3,r4) =>
 (a1f n r3).bind fun r5 =>
 Option.bind (α:=Bool) (
 cond (!eqB r4.code 0) (
 some true) (
 (cat [40,40] r5).bind fun s6 =>
 (cat s6 [41,41]).bind fun s7 =>
 (a9a s7).bind fun r8 =>
 some (!r8))) fun x508 =>
 cond x508 (
 (b3n).bind fun bb9 =>
 some (bb9)) (
 (a3j n r5).bind fun(r10,r11) =>
 (cat [40,40] r5).bind fun s12 =>
 (cat s12 [41,41]).bind fun s13 =>
 (a3j n s13).bind fun(r14,r15) =>
 cond (eqB r11.code 0) (
 cond (eqB r15.code 0) (
 (a07 n r10 r3).bind fun r16 =>
 cond r16 (
 (a07 n r14 r3).bind fun r17 =>
 cond r17 (
 (a1f n r14).bind fun r18 =>
 cond (eqS r18 r5) (
 (b3n).bind fun bb19 =>
 some (bb19)) (
 some (false))) (
 some (false))) (
 some (false))) (
 some (false))) (
 some (false))))
def a5B (a1g:Str):Bool->Out
 | R5=>.ret (.bool R5) []
end Go.Proofs.YtjhfloacokgdiaaGreatDoor
