/- Texts of ParseRecovers, joined. -/
import Derived.Test.YtjhfloacokgdiaaGreatDoorParseRecoversJ8
import Derived.Shelf.Strconv.Itoa0
import Derived.Shelf.Strconv.Itoa1
import Derived.Shelf.LaysM
import Derived.Shelf.Strconv.Itoa2
import Derived.Shelf.Strconv.Itoa3
import Derived.Test.YtjhfloacokgdiaaGreatDoorProg
import Derived.Lib.AppendIntMem
import Derived.Shelf.Strings.TrimSpace
import Derived.Shelf.Lays
import Derived.Lib.Strings
import Derived.Lib.Slices
import Derived.Lib.Walk
import Derived.Lib.LaidTab
import Derived.Lib.Space
import Derived.Lib.ConvBytes
import Derived.WalkKit
import Derived.BigCall
import Derived.BigGuard
set_option maxRecDepth 100000
set_option maxHeartbeats 20000000
set_option linter.all false
namespace Go.Proofs.YtjhfloacokgdiaaGreatDoor.Rp
open Go Go.Vm
variable {H:Hp} {s:List UInt8} {B cs:List V} {i j m n off:Nat} {b:UInt8}
def a7s (b:UInt8):List UInt8:=if b=10 then [92,110]else if b=9 then [92,116]else if b=92 then [92,92]else if b=34 then [92,34]else [b]
def esc (s:List UInt8):List UInt8:=s.flatMap a7s
def cn (s:List UInt8):Nat->Nat|0=>0|1=>s.count 34|2=>s.count 34+s.count 92|3=>s.count 34+s.count 92+s.count 9|_=>s.count 34+s.count 92+s.count 9+s.count 10
theorem a4E (b:UInt8)(s:List UInt8):esc (b::s)=a7s b++esc s:=by simp[esc]
theorem c5C (a b:List UInt8):esc (a++b)=esc a++esc b:=by simp[esc]
theorem c3O (h1:b≠10)(h2:b≠9)(h3:b≠92)(h4:b≠34):cell b.toNat=.slice .nil 0 []:=by
 have k1:b.toNat≠10:=fun h=>h1 (UInt8.toNat_inj.1 h);have k2:b.toNat≠9:=fun h=>h2 (UInt8.toNat_inj.1 h);have k3:b.toNat≠92:=fun h=>h3 (UInt8.toNat_inj.1 h);have k4:b.toNat≠34:=fun h=>h4 (UInt8.toNat_inj.1 h);unfold cell;split<;>first|contradiction|rfl
theorem a8G (b:UInt8):(∃c:UInt8,cell b.toNat=.slice .sealed 2 [.int .u8 92,.int .u8 ((c.toNat:Nat):Int)]/\a7s b=[92,c])∨(cell b.toNat=.slice .nil 0 []/\a7s b=[b]):=by
 by_cases h1:b=10
 ·subst h1;exact .inl ⟨110,rfl,rfl⟩
 by_cases h2:b=9
 ·subst h2;exact .inl ⟨116,rfl,rfl⟩
 by_cases h3:b=92
 ·subst h3;exact .inl ⟨92,rfl,rfl⟩
 by_cases h4:b=34
 ·subst h4;exact .inl ⟨34,rfl,rfl⟩
 exact .inr ⟨c3O h1 h2 h3 h4,by simp only[a7s,if_neg h1,if_neg h2,if_neg h3,if_neg h4]⟩
theorem b4y (b:UInt8):1 <=(a7s b).length/\(a7s b).length<=2:=by
 rcases a8G b with⟨c,_,h⟩ |⟨_,h⟩<;>rw[h]<;>simp
theorem c3Y:∀s,s.length <=(esc s).length
 | []=>Nat.le_refl _
 | b::s=>by have:=c3Y s;have:=b4y b;rw[a4E,List.length_append,List.length_cons];omega
theorem b2n:∀s,(esc s).length<=2*s.length
 | []=>Nat.le_refl _
 | b::s=>by have:=b2n s;have:=b4y b;rw[a4E,List.length_append,List.length_cons];omega
theorem c0e:∀s,(esc s).length=s.length+(s.count 34+s.count 92+s.count 9+s.count 10)
 | []=>rfl
 | b::s=>by
  have ih:=c0e s;rw[a4E,List.length_append,ih];simp only[List.count_cons,List.length_cons];by_cases h1:b=10
  ·subst h1;simp[a7s];omega
  by_cases h2:b=9
  ·subst h2;simp[a7s];omega
  by_cases h3:b=92
  ·subst h3;simp[a7s];omega
  by_cases h4:b=34
  ·subst h4;simp[a7s];omega
  simp[a7s,h1,h2,h3,h4];omega
theorem b62:∀{s:List UInt8},¬s.length<(esc s).length->esc s=s
 | [],_=>rfl
 | b::s,h=>by
  have h0:=c3Y s;have h1:=b4y b;rw[a4E,List.length_append,List.length_cons]at h;rcases a8G b with⟨c,_,he⟩ |⟨_,he⟩
  ·rw[he]at h;simp at h;omega
  ·rw[a4E,he,b62 (s:=s) (by rw[he]at h;simp at h;omega)];rfl
theorem b4z (h:i<s.length):esc (s.take (i+1))=esc (s.take i)++a7s (s.getD i 0):=by
 rw[List.take_succ_eq_append_getElem h,c5C];congr 1;simp[esc,h]
theorem b27 (s:List UInt8)(i:Nat):(esc (s.take i)).length <=(esc s).length:=by
 conv=>rhs;rw[<-List.take_append_drop i s,c5C,List.length_append]
 omega
theorem cn_le (s:List UInt8):∀k,cn s k<=4*s.length:=by
 have a:=List.count_le_length (a:=(34:UInt8)) (l:=s);have b:=List.count_le_length (a:=(92:UInt8)) (l:=s);have c:=List.count_le_length (a:=(9:UInt8)) (l:=s);have d:=List.count_le_length (a:=(10:UInt8)) (l:=s);intro k;unfold cn;split<;>omega
theorem RR_get (b:UInt8):RR[b.toNat]? = some (cell b.toNat):=by
 have:=UInt8.toNat_lt b;unfold RR;rw[List.getElem?_append_left (by simp;omega),List.getElem?_map,List.getElem?_range (by omega)];rfl
theorem RR_256:RR[256]? = some (.rslice 1 0 4 true):=by kernel_rfl
theorem a99 (b:UInt8)(ho:off=b.toNat):a4c env.T 58 (.ptr 0 off) ((0,.row RR)::H)=some (cell b.toNat):=by
 subst ho;exact RR_get b
theorem ld_TL:a4c env.T 62 (.ptr 0 (0+256)) ((0,.row RR)::H)=some (.rslice 1 0 4 true):=RR_256
theorem ct_E (s:List UInt8)(c:UInt8):E env (.call 244 [.str s,.str [c]]) []=some (.ret (.int .i64 ((s.count c:Nat):Int)) []):=a8a (h:=b93) rfl rfl
theorem mul1 {a:Nat}(h:a<9223372036854775808):a3P (some (.int .i64 (IntKind.wrap .i64 ((a:Int)*1))))=some (.int .i64 (a:Nat)):=by
 rw[Int.mul_one,wrap64 (by omega) (by omega)];rfl
theorem addE {k:Nat}(h:m=j+k)(hb:j+k<9223372036854775808):a3P (some (.int .i64 (IntKind.wrap .i64 ((j:Int)+(k:Int)))))=some (.int .i64 (m:Nat)):=by
 rw[h];exact addN hb
theorem c4q (n:Nat){x:Option V}(h:x=match gd (ltB 0 ((m+1:Nat):Int)) (some false)with|some b=>some (.bool (!b))|none=>none):a3P x=some (.bool true):=by
 rw[h];have:ltB 0 ((m+1:Nat):Int)=true:=by simp only[ltB,decide_eq_true_eq];omega
 rw[this];rfl
theorem b9p {env:Env}{orc:Orc}{ops:Array Oper}{o:Oper}{rest:List Oper}{fr:Fr}{H1:Hp}{K:Res->Prop}{t:Nat}{a b:Operand}{x v:V}(hw:E5 ops o fr=some true)(ho:o.op=.store t a b)(ha:ev fr a=some x)(hb:ev fr b=some v)(hs:a6N env.T t x v H=some H1)(h:Go.Vm.Os env orc ops rest (V9 o.dst .undef fr) H1 K):Go.Vm.Os env orc ops (o::rest) fr H K:=by
 refine a2l hw (by rw[ho];rfl) (v:=.undef) (H1:=H1) ?_ h;unfold V5;rw[ho];simp only[ha,hb,hs]
def BUF (s:List UInt8)(i:Nat):List V:=a06 (esc (s.take i))++List.replicate ((esc s).length-(esc (s.take i)).length) (.int .u8 0)
theorem c5h (s:List UInt8)(i:Nat):(BUF s i).length =(esc s).length:=by
 have:=b27 s i;simp only[BUF,List.length_append,a06,List.length_map,List.length_replicate];omega
theorem set_mid {α:Type}(a new:List α)(z:α)(h:new.length<=n):(a++List.replicate n z).take a.length++new ++(a++List.replicate n z).drop (a.length+new.length)=a++new++List.replicate (n-new.length) z:=by
 rw[List.take_left,List.drop_append,List.drop_eq_nil_of_le (by omega),List.nil_append,List.drop_replicate];congr 2;omega
theorem c5j (h:i<s.length)(hb:s.getD i 0=b){news:List V}(hn:news=a06 (a7s b))(ho:off =(esc (s.take i)).length):R7 (BUF s i) off news=BUF s (i+1):=by
 have h1:=b4z h;rw[hb]at h1;have h2:=b27 s (i+1);rw[h1,List.length_append]at h2;have h3:(esc (s.take i)).length =(a06 (esc (s.take i))).length:=by simp[a06]
 have h4:news.length =(a7s b).length:=by rw[hn];simp[a06]
 subst ho;unfold R7 BUF;rw[h3,set_mid _ _ _ (by omega),hn,h1];simp only[a06,List.map_append,List.length_append,List.length_map];congr 2;omega
theorem c5k (h:i<s.length){c:UInt8}(hb:s.getD i 0=b)(he:a7s b=[92,c]):R7 (BUF s i) (0+(esc (s.take i)).length*1) [.int .u8 92,.int .u8 ((c.toNat:Nat):Int)]=BUF s (i+1):=c5j h hb (by rw[he];rfl) (by omega)
theorem c5i (h:i<s.length)(hb:s.getD i 0=b)(he:a7s b=[b]):R7 (BUF s i) (0+(esc (s.take i)).length*1) [.int .u8 ((b.toNat:Nat):Int)]=BUF s (i+1):=c5j h hb (by rw[he];rfl) (by omega)
theorem cp_ok {a b:V} {G:Hp} (hG:G = [(0,.row RR),(1,.grow 1 TR),(2,.grow 1 cs)]) (h1:2 <= n) (h2:j + 2 <= cs.length) (hB:R7 cs (0 + j * 1) [a,b] = B) :
    b9S env.T 58 (.rslice 2 (0+j*1) n false) (.slice .sealed 2 [a,b]) G=some (.val (.int .i64 ((2:Nat):Int)) [(0,.row RR),(1,.grow 1 TR),(2,.grow 1 B)]):=by
  subst hG;have e:b9S env.T 58 (.rslice 2 (0+j*1) n false) (.slice .sealed 2 [a,b]) [(0,.row RR),(1,.grow 1 TR),(2,.grow 1 cs)] =(match gd (eqN (2*1) [a,b].length) (some (2,[a,b]))with
    | some (m,news)=>(match Nat.beq m 0 with
        | true=>some (OpR.val (.int .i64 0) [(0,.row RR),(1,.grow 1 TR),(2,.grow 1 cs)])
        | false=>gd (leN m n&&leN (0+j*1+m*1) cs.length) (some (.val (.int .i64 (m:Int)) [(0,.row RR),(1,.grow 1 TR),(2,.grow 1 (R7 cs (0+j*1) news))])))
    | none=>none):=by kernel_rfl
  rw[e,a3O (show 2*1=[a,b].length from rfl)];simp only[gd];rw[b2u h1,b2u (show 0+j*1+2*1<=cs.length by omega),hB];rfl
theorem st_ok {b:Nat}{G:Hp}(hG:G=[(0,.row RR),(1,.grow 1 TR),(2,.grow 1 cs)])(h2:j+1<=cs.length)(hB:R7 cs (0+j*1) [.int .u8 (b:Int)]=B) :
  a6N env.T 5 (.ptr 2 (0+j*1)) (.int .u8 (b:Int)) G=some [(0,.row RR),(1,.grow 1 TR),(2,.grow 1 B)]:=by
 subst hG;have e:a6N env.T 5 (.ptr 2 (0+j*1)) (.int .u8 (b:Int)) [(0,.row RR),(1,.grow 1 TR),(2,.grow 1 cs)]=gd (leN (0+j*1+1) cs.length) (some [(0,.row RR),(1,.grow 1 TR),(2,.grow 1 (R7 cs (0+j*1) [.int .u8 (b:Int)]))]):=by kernel_rfl
 rw[e,b2u (by omega),hB];rfl
theorem mk_ok (n:Nat)(hn:n<=4000000){G:Hp}(hG:G=[(0,.row RR),(1,.grow 1 TR)]):b9U env.T 58 (.int .i64 (n:Int)) (.int .i64 (n:Int)) G 5504=some (.val (.rslice 5504 0 n true) [(0,.row RR),(1,.grow 1 TR),(5504,.grow 1 (List.replicate n (.int .u8 0)))]):=by
 subst hG;have e:b9U env.T 58 (.int .i64 (n:Int)) (.int .i64 (n:Int)) [(0,.row RR),(1,.grow 1 TR)] 5504=gd (leB 0 (n:Int)&&leB (n:Int) (n:Int)&&leB ((n:Int)*((1:Nat)+1:Nat)) 70368744177664) (some (.val (.rslice 5504 0 n true) [(0,.row RR),(1,.grow 1 TR),(5504,.grow 1 (List.replicate n [.int .u8 0]).flatten)])):=by kernel_rfl
 rw[e];have h1:(leB 0 (n:Int)&&leB (n:Int) (n:Int)&&leB ((n:Int)*((1:Nat)+1:Nat)) 70368744177664)=true:=by simp only[leB,Bool.and_eq_true,decide_eq_true_eq];omega
 rw[h1];have h2:(List.replicate n [V.int .u8 0]).flatten=List.replicate n (.int .u8 0):=by
  induction n with
  | zero=>rfl
  | succ n ih=>rw[List.replicate_succ,List.flatten_cons,List.replicate_succ];simp[List.flatten_replicate_singleton]
 rw[h2];rfl
theorem cv_ok (s:List UInt8):b44 env.T 58 9 (.slice .sealed (esc s).length ((BUF s s.length).take ((esc s).length*1)))=some (.str (esc s)):=by
 have e:(BUF s s.length).take ((esc s).length*1)=a06 (esc s):=by
  unfold BUF;rw[List.take_length,Nat.sub_self,List.replicate_zero,List.append_nil,Nat.mul_one];exact List.take_of_length_le (by simp[a06])
 rw[e];have e2:b44 env.T 58 9 (.slice .sealed (esc s).length (a06 (esc s))) =(match a5f (a06 (esc s))with|some l=>gd (eqN (esc s).length l.length) (some (.str l))|none=>none):=by kernel_rfl
 rw[e2,b4p];simp only[a3O rfl,gd]
theorem bs_E (s:List UInt8)(hs:s.length<=1000000):E env (.call 242 [.ptr 0 0,.str s]) [(0,.row RR),(1,.grow 1 TR)]=some (.ret (.str (esc s)) [(0,.row RR),(1,.grow 1 TR)]):=by
 refine a0P (env:=env) rfl Tryz.func242 rfl rfl ?_;refine F7 ?_;refine o7 ?_;refine l7 rfl rfl rfl ?_;refine G5 ?_;refine F7 ?_;refine o7 ?_;refine l7 rfl rfl rfl ?_;refine l7 rfl rfl rfl ?_;refine l7 rfl rfl rfl ?_;refine G5 ?_;refine F7 ?_;refine o7 ?_;refine l7 rfl rfl rfl ?_;refine G5 ?_;refine F7 ?_;refine F7 ?_;refine o7 ?_;refine l7 rfl rfl rfl ?_;refine l7 rfl rfl rfl ?_;refine l7 rfl rfl rfl ?_;refine a1n rfl rfl rfl (v:=.rslice 1 0 4 true) ld_TL ?_;refine l7 rfl rfl rfl ?_;refine l7 rfl rfl rfl ?_;refine l7 rfl rfl rfl ?_;refine l7 rfl rfl rfl ?_;refine l7 rfl rfl rfl ?_;refine G5 ?_;refine a0d rfl (fun g26=>?_) (fun g26=>?_)
 ·refine F7 ?_;refine o7 ?_;refine l7 rfl rfl rfl ?_;refine l7 rfl rfl rfl ?_;refine l7 rfl rfl rfl ?_;refine a1n rfl rfl rfl (v:=.rslice 1 0 4 true) ld_TL ?_;refine l7 rfl rfl rfl ?_;refine l7 rfl rfl rfl ?_;refine G5 ?_;refine V4 ?_;refine a5D (fr1:=[(0,.ptr 0 0),(1,.str s),(5,.int .i64 ((s.length:Nat):Int)),(6,.bool false),(30,.rslice 1 0 4 true),(31,.int .i64 4),(32,.int .i64 ((0:Nat):Int))]) (H1:=[(0,.row RR),(1,.grow 1 TR)]) (by kernel_rfl) ?_;refine a8N (fun x:Nat×Nat×Bool=>[(0,.ptr 0 0),(1,.str s),(5,.int .i64 ((x.2.1:Nat):Int)),(6,.bool x.2.2),(30,.rslice 1 0 4 true),(31,.int .i64 4),(32,.int .i64 ((x.1:Nat):Int))]) (fun _=>[(0,.row RR),(1,.grow 1 TR)]) (fun x=>x.1<=4/\x.2.1=s.length+cn s x.1/\x.2.2=decide (0<cn s x.1)) (fun x=>4-x.1) (0,s.length,false) ⟨by simp,rfl,rfl⟩ ?_;rintro⟨k,ns,any⟩ ⟨hk,hns,hany⟩ ih;simp only at hk hns hany ih ⊢;have hcn:=cn_le s k;rcases(by omega:k=0∨k=1∨k=2∨k=3∨k=4)with rfl|rfl|rfl|rfl|rfl
  ·have hc:=List.count_le_length (a:=(34:UInt8)) (l:=s);refine F7 ?_;refine o7 ?_;refine l7 rfl rfl rfl ?_;refine G5 ?_;refine F7 ?_;refine Z9 rfl (by simp[ltB]) ?_;refine L8 ?_;refine F7 ?_;refine V4 ?_;refine F7 ?_;refine o7 ?_;refine l7 rfl rfl (a3a (by simp[inR]) rfl) ?_;refine a1n rfl rfl rfl (v:=.str [34]) rfl ?_;refine l7 rfl rfl rfl ?_;refine G5 ?_;refine F7 ?_;refine o7 ?_;refine l7 rfl rfl rfl ?_;refine l7 rfl rfl rfl ?_;refine a2R rfl rfl rfl rfl rfl (ct_E s 34) rfl ?_;refine l7 rfl rfl rfl ?_;refine G5 ?_;refine F7 ?_;refine o7 ?_;refine l7 rfl rfl rfl ?_;refine l7 rfl rfl rfl ?_;refine G5 ?_;refine a0d rfl (fun g40=>?_) (fun g40=>?_)
   ·replace g40:s.count 34≠0:=by intro h;rw[h]at g40;simp[eqB]at g40
    refine F7 ?_;refine o7 ?_;refine l7 rfl rfl rfl ?_;refine l7 rfl rfl rfl ?_;refine l7 rfl rfl rfl ?_;refine l7 rfl rfl rfl ?_;refine l7 rfl rfl (a3a (by simp[inR]) (show _=some (.int .u8 (((34:UInt8).toNat:Nat):Int))from rfl)) ?_;refine l7 rfl rfl rfl ?_;refine l7 rfl rfl rfl ?_;refine l7 rfl rfl (a3a (by simp[inR]) rfl) ?_;refine a1n rfl rfl rfl (a99 34 rfl) ?_;refine l7 rfl rfl rfl ?_;refine l7 rfl rfl rfl ?_;refine l7 rfl rfl (mul1 (by omega)) ?_;refine l7 rfl rfl (addN (by omega)) ?_;refine l7 rfl rfl rfl ?_;refine G5 ?_;refine o7 ?_;refine l7 rfl rfl rfl ?_;refine G5 ?_;refine o7 ?_;refine l7 rfl rfl rfl ?_;refine l7 rfl rfl rfl ?_;refine G5 ?_;exact⟨[(0,.ptr 0 0),(1,.str s),(5,.int .i64 ((ns+s.count 34:Nat):Int)),(6,.bool true),(30,.rslice 1 0 4 true),(31,.int .i64 4),(32,.int .i64 ((1:Nat):Int))],[(0,.row RR),(1,.grow 1 TR)],by kernel_rfl,ih (1,ns+s.count 34,true) (by simp) ⟨by simp,by rw[hns];simp only[cn];omega,by simp only[cn];symm;simp only[decide_eq_true_eq];omega⟩⟩
   ·replace g40:s.count 34=0:=by simp only[eqB,Bool.not_eq_false',beq_iff_eq]at g40;omega
    refine L8 ?_;refine o7 ?_;refine l7 rfl rfl rfl ?_;refine l7 rfl rfl rfl ?_;refine G5 ?_;exact⟨[(0,.ptr 0 0),(1,.str s),(5,.int .i64 ((ns:Nat):Int)),(6,.bool any),(30,.rslice 1 0 4 true),(31,.int .i64 4),(32,.int .i64 ((1:Nat):Int))],[(0,.row RR),(1,.grow 1 TR)],by kernel_rfl,ih (1,ns,any) (by simp) ⟨by simp,by rw[hns];simp only[cn];omega,by rw[hany];simp only[cn];congr 1;simp only[eq_iff_iff];omega⟩⟩
  ·have hc:=List.count_le_length (a:=(92:UInt8)) (l:=s);refine F7 ?_;refine o7 ?_;refine l7 rfl rfl rfl ?_;refine G5 ?_;refine F7 ?_;refine Z9 rfl (by simp[ltB]) ?_;refine L8 ?_;refine F7 ?_;refine V4 ?_;refine F7 ?_;refine o7 ?_;refine l7 rfl rfl (a3a (by simp[inR]) rfl) ?_;refine a1n rfl rfl rfl (v:=.str [92]) rfl ?_;refine l7 rfl rfl rfl ?_;refine G5 ?_;refine F7 ?_;refine o7 ?_;refine l7 rfl rfl rfl ?_;refine l7 rfl rfl rfl ?_;refine a2R rfl rfl rfl rfl rfl (ct_E s 92) rfl ?_;refine l7 rfl rfl rfl ?_;refine G5 ?_;refine F7 ?_;refine o7 ?_;refine l7 rfl rfl rfl ?_;refine l7 rfl rfl rfl ?_;refine G5 ?_;refine a0d rfl (fun g40=>?_) (fun g40=>?_)
   ·replace g40:s.count 92≠0:=by intro h;rw[h]at g40;simp[eqB]at g40
    refine F7 ?_;refine o7 ?_;refine l7 rfl rfl rfl ?_;refine l7 rfl rfl rfl ?_;refine l7 rfl rfl rfl ?_;refine l7 rfl rfl rfl ?_;refine l7 rfl rfl (a3a (by simp[inR]) (show _=some (.int .u8 (((92:UInt8).toNat:Nat):Int))from rfl)) ?_;refine l7 rfl rfl rfl ?_;refine l7 rfl rfl rfl ?_;refine l7 rfl rfl (a3a (by simp[inR]) rfl) ?_;refine a1n rfl rfl rfl (a99 92 rfl) ?_;refine l7 rfl rfl rfl ?_;refine l7 rfl rfl rfl ?_;refine l7 rfl rfl (mul1 (by omega)) ?_;refine l7 rfl rfl (addN (by omega)) ?_;refine l7 rfl rfl rfl ?_;refine G5 ?_;refine o7 ?_;refine l7 rfl rfl rfl ?_;refine G5 ?_;refine o7 ?_;refine l7 rfl rfl rfl ?_;refine l7 rfl rfl rfl ?_;refine G5 ?_;exact⟨[(0,.ptr 0 0),(1,.str s),(5,.int .i64 ((ns+s.count 92:Nat):Int)),(6,.bool true),(30,.rslice 1 0 4 true),(31,.int .i64 4),(32,.int .i64 ((2:Nat):Int))],[(0,.row RR),(1,.grow 1 TR)],by kernel_rfl,ih (2,ns+s.count 92,true) (by simp) ⟨by simp,by rw[hns];simp only[cn];omega,by simp only[cn];symm;simp only[decide_eq_true_eq];omega⟩⟩
   ·replace g40:s.count 92=0:=by simp only[eqB,Bool.not_eq_false',beq_iff_eq]at g40;omega
    refine L8 ?_;refine o7 ?_;refine l7 rfl rfl rfl ?_;refine l7 rfl rfl rfl ?_;refine G5 ?_;exact⟨[(0,.ptr 0 0),(1,.str s),(5,.int .i64 ((ns:Nat):Int)),(6,.bool any),(30,.rslice 1 0 4 true),(31,.int .i64 4),(32,.int .i64 ((2:Nat):Int))],[(0,.row RR),(1,.grow 1 TR)],by kernel_rfl,ih (2,ns,any) (by simp) ⟨by simp,by rw[hns];simp only[cn];omega,by rw[hany];simp only[cn];congr 1;simp only[eq_iff_iff];omega⟩⟩
  ·have hc:=List.count_le_length (a:=(9:UInt8)) (l:=s);refine F7 ?_;refine o7 ?_;refine l7 rfl rfl rfl ?_;refine G5 ?_;refine F7 ?_;refine Z9 rfl (by simp[ltB]) ?_;refine L8 ?_;refine F7 ?_;refine V4 ?_;refine F7 ?_;refine o7 ?_;refine l7 rfl rfl (a3a (by simp[inR]) rfl) ?_;refine a1n rfl rfl rfl (v:=.str [9]) rfl ?_;refine l7 rfl rfl rfl ?_;refine G5 ?_;refine F7 ?_;refine o7 ?_;refine l7 rfl rfl rfl ?_;refine l7 rfl rfl rfl ?_;refine a2R rfl rfl rfl rfl rfl (ct_E s 9) rfl ?_;refine l7 rfl rfl rfl ?_;refine G5 ?_;refine F7 ?_;refine o7 ?_;refine l7 rfl rfl rfl ?_;refine l7 rfl rfl rfl ?_;refine G5 ?_;refine a0d rfl (fun g40=>?_) (fun g40=>?_)
   ·replace g40:s.count 9≠0:=by intro h;rw[h]at g40;simp[eqB]at g40
    refine F7 ?_;refine o7 ?_;refine l7 rfl rfl rfl ?_;refine l7 rfl rfl rfl ?_;refine l7 rfl rfl rfl ?_;refine l7 rfl rfl rfl ?_;refine l7 rfl rfl (a3a (by simp[inR]) (show _=some (.int .u8 (((9:UInt8).toNat:Nat):Int))from rfl)) ?_;refine l7 rfl rfl rfl ?_;refine l7 rfl rfl rfl ?_;refine l7 rfl rfl (a3a (by simp[inR]) rfl) ?_;refine a1n rfl rfl rfl (a99 9 rfl) ?_;refine l7 rfl rfl rfl ?_;refine l7 rfl rfl rfl ?_;refine l7 rfl rfl (mul1 (by omega)) ?_;refine l7 rfl rfl (addN (by omega)) ?_;refine l7 rfl rfl rfl ?_;refine G5 ?_;refine o7 ?_;refine l7 rfl rfl rfl ?_;refine G5 ?_;refine o7 ?_;refine l7 rfl rfl rfl ?_;refine l7 rfl rfl rfl ?_;refine G5 ?_;exact⟨[(0,.ptr 0 0),(1,.str s),(5,.int .i64 ((ns+s.count 9:Nat):Int)),(6,.bool true),(30,.rslice 1 0 4 true),(31,.int .i64 4),(32,.int .i64 ((3:Nat):Int))],[(0,.row RR),(1,.grow 1 TR)],by kernel_rfl,ih (3,ns+s.count 9,true) (by simp) ⟨by simp,by rw[hns];simp only[cn];omega,by simp only[cn];symm;simp only[decide_eq_true_eq];omega⟩⟩
   ·replace g40:s.count 9=0:=by simp only[eqB,Bool.not_eq_false',beq_iff_eq]at g40;omega
    refine L8 ?_;refine o7 ?_;refine l7 rfl rfl rfl ?_;refine l7 rfl rfl rfl ?_;refine G5 ?_;exact⟨[(0,.ptr 0 0),(1,.str s),(5,.int .i64 ((ns:Nat):Int)),(6,.bool any),(30,.rslice 1 0 4 true),(31,.int .i64 4),(32,.int .i64 ((3:Nat):Int))],[(0,.row RR),(1,.grow 1 TR)],by kernel_rfl,ih (3,ns,any) (by simp) ⟨by simp,by rw[hns];simp only[cn];omega,by rw[hany];simp only[cn];congr 1;simp only[eq_iff_iff];omega⟩⟩
  ·have hc:=List.count_le_length (a:=(10:UInt8)) (l:=s);refine F7 ?_;refine o7 ?_;refine l7 rfl rfl rfl ?_;refine G5 ?_;refine F7 ?_;refine Z9 rfl (by simp[ltB]) ?_;refine L8 ?_;refine F7 ?_;refine V4 ?_;refine F7 ?_;refine o7 ?_;refine l7 rfl rfl (a3a (by simp[inR]) rfl) ?_;refine a1n rfl rfl rfl (v:=.str [10]) rfl ?_;refine l7 rfl rfl rfl ?_;refine G5 ?_;refine F7 ?_;refine o7 ?_;refine l7 rfl rfl rfl ?_;refine l7 rfl rfl rfl ?_;refine a2R rfl rfl rfl rfl rfl (ct_E s 10) rfl ?_;refine l7 rfl rfl rfl ?_;refine G5 ?_;refine F7 ?_;refine o7 ?_;refine l7 rfl rfl rfl ?_;refine l7 rfl rfl rfl ?_;refine G5 ?_;refine a0d rfl (fun g40=>?_) (fun g40=>?_)
   ·replace g40:s.count 10≠0:=by intro h;rw[h]at g40;simp[eqB]at g40
    refine F7 ?_;refine o7 ?_;refine l7 rfl rfl rfl ?_;refine l7 rfl rfl rfl ?_;refine l7 rfl rfl rfl ?_;refine l7 rfl rfl rfl ?_;refine l7 rfl rfl (a3a (by simp[inR]) (show _=some (.int .u8 (((10:UInt8).toNat:Nat):Int))from rfl)) ?_;refine l7 rfl rfl rfl ?_;refine l7 rfl rfl rfl ?_;refine l7 rfl rfl (a3a (by simp[inR]) rfl) ?_;refine a1n rfl rfl rfl (a99 10 rfl) ?_;refine l7 rfl rfl rfl ?_;refine l7 rfl rfl rfl ?_;refine l7 rfl rfl (mul1 (by omega)) ?_;refine l7 rfl rfl (addN (by omega)) ?_;refine l7 rfl rfl rfl ?_;refine G5 ?_;refine o7 ?_;refine l7 rfl rfl rfl ?_;refine G5 ?_;refine o7 ?_;refine l7 rfl rfl rfl ?_;refine l7 rfl rfl rfl ?_;refine G5 ?_;exact⟨[(0,.ptr 0 0),(1,.str s),(5,.int .i64 ((ns+s.count 10:Nat):Int)),(6,.bool true),(30,.rslice 1 0 4 true),(31,.int .i64 4),(32,.int .i64 ((4:Nat):Int))],[(0,.row RR),(1,.grow 1 TR)],by kernel_rfl,ih (4,ns+s.count 10,true) (by simp) ⟨by simp,by rw[hns];simp only[cn];omega,by simp only[cn];symm;simp only[decide_eq_true_eq];omega⟩⟩
   ·replace g40:s.count 10=0:=by simp only[eqB,Bool.not_eq_false',beq_iff_eq]at g40;omega
    refine L8 ?_;refine o7 ?_;refine l7 rfl rfl rfl ?_;refine l7 rfl rfl rfl ?_;refine G5 ?_;exact⟨[(0,.ptr 0 0),(1,.str s),(5,.int .i64 ((ns:Nat):Int)),(6,.bool any),(30,.rslice 1 0 4 true),(31,.int .i64 4),(32,.int .i64 ((4:Nat):Int))],[(0,.row RR),(1,.grow 1 TR)],by kernel_rfl,ih (4,ns,any) (by simp) ⟨by simp,by rw[hns];simp only[cn];omega,by rw[hany];simp only[cn];congr 1;simp only[eq_iff_iff];omega⟩⟩
  ·have hN:ns =(esc s).length:=by rw[hns,c0e];rfl
   replace hany:any=decide (s.length<(esc s).length):=by rw[hany,c0e];simp only[cn];congr 1;simp only[eq_iff_iff];omega
   subst hN;refine F7 ?_;refine o7 ?_;refine l7 rfl rfl rfl ?_;refine G5 ?_;refine F7 ?_;refine a02 rfl (by simp[ltB]) ?_;refine a4x ?_;refine F7 ?_;refine F7 ?_;refine o7 ?_;refine l7 rfl rfl rfl ?_;refine l7 rfl rfl rfl ?_;refine G5 ?_;refine a0d rfl (fun g82=>?_) (fun g82=>?_)
   ·have hs1:=b62 (s:=s) (by rw[hany]at g82;simpa using g82);rw[hs1];refine F7 ?_;refine o7 ?_;refine l7 rfl rfl rfl ?_;refine l7 rfl rfl rfl ?_;refine G5 ?_;exact H9 ⟨_,rfl,by kernel_rfl⟩
   ·refine L8 ?_;refine F7 ?_;refine o7 ?_;refine l7 rfl rfl rfl ?_;refine a2l rfl rfl (mk_ok (esc s).length (by have:=b2n s;omega) rfl) ?_;refine l7 rfl rfl rfl ?_;refine G5 ?_;refine F7 ?_;refine o7 ?_;refine l7 rfl rfl rfl ?_;refine G5 ?_;refine c0i rfl ?_;refine F7 ?_;refine o7 ?_;refine l7 rfl rfl rfl ?_;refine G5 ?_;refine V4 ?_;refine a5D (fr1:=[(0,.ptr 0 0),(1,.str s),(12,.rslice 2 0 (esc s).length true),(13,.int .i64 (((esc (s.take 0)).length:Nat):Int)),(14,.int .i64 ((0:Nat):Int))]) (H1:=[(0,.row RR),(1,.grow 1 TR),(2,.grow 1 (BUF s 0))]) (by kernel_rfl) ?_;refine a8N (fun i:Nat=>[(0,.ptr 0 0),(1,.str s),(12,.rslice 2 0 (esc s).length true),(13,.int .i64 (((esc (s.take i)).length:Nat):Int)),(14,.int .i64 ((i:Nat):Int))]) (fun i=>[(0,.row RR),(1,.grow 1 TR),(2,.grow 1 (BUF s i))]) (fun i=>i<=s.length) (fun i=>s.length-i) 0 (Nat.zero_le _) ?_;intro i hi ih;have hles:=b2n s;have hpre:=b27 s i;have hbl:=c5h s i;refine F7 ?_;refine F7 ?_;refine o7 ?_;refine l7 rfl rfl rfl ?_;refine l7 rfl rfl rfl ?_;refine l7 rfl rfl rfl ?_;refine l7 rfl rfl rfl ?_;refine G5 ?_;refine a0d rfl (fun g89=>?_) (fun g89=>?_)
    ·replace g89:i<s.length:=by simpa [ltN]using g89
     obtain⟨b,hb⟩:∃b,s.getD i 0=b:=⟨_,rfl⟩
     have htk:=b4z g89;rw[hb]at htk;have hpre2:=b27 s (i+1);refine L8 ?_;refine F7 ?_;refine V4 ?_;refine F7 ?_;refine o7 ?_;refine l7 rfl rfl rfl ?_;refine l7 rfl rfl rfl ?_;refine l7 rfl rfl (a3a (a2o g89) (show _=some (.int .u8 (((s.getD i 0).toNat:Nat):Int))from rfl)) ?_;rw[hb];refine l7 rfl rfl rfl ?_;refine G5 ?_;refine F7 ?_;refine o7 ?_;refine l7 rfl rfl rfl ?_;refine l7 rfl rfl rfl ?_;refine l7 rfl rfl rfl ?_;refine l7 rfl rfl rfl ?_;refine l7 rfl rfl (a3a (a2o (UInt8.toNat_lt b)) rfl) ?_;rcases a8G b with⟨c,hc,he⟩ |⟨hc,he⟩
     ·refine a1n rfl rfl rfl ((a99 b (by simp)).trans (congrArg some hc)) ?_;refine l7 rfl rfl (c4q 2 rfl) ?_;refine G5 ?_;refine Z9 rfl (rfl) ?_;refine o7 ?_;refine l7 rfl rfl rfl ?_;refine l7 rfl rfl rfl ?_;refine l7 rfl rfl rfl ?_;have hL:(esc (s.take (i+1))).length =(esc (s.take i)).length+2:=by rw[htk,he,List.length_append];rfl
      refine l7 rfl rfl (a3a (b2r (by omega) (Nat.le_refl _)) rfl) ?_;refine l7 rfl rfl rfl ?_;refine l7 rfl rfl rfl ?_;refine l7 rfl rfl rfl ?_;refine l7 rfl rfl rfl ?_;refine l7 rfl rfl (a3a (a2o (UInt8.toNat_lt b)) rfl) ?_;refine a1n rfl rfl rfl ((a99 b (by simp)).trans (congrArg some hc)) ?_;refine a2l rfl rfl (cp_ok (B:=BUF s (i+1)) (n:=(esc s).length-(esc (s.take i)).length) rfl (by omega) (by omega) (c5k g89 hb he)) ?_;refine l7 rfl rfl (addE (k:=2) hL (by omega)) ?_;refine l7 rfl rfl rfl ?_;refine G5 ?_;refine o7 ?_;refine l7 rfl rfl rfl ?_;refine l7 rfl rfl (add1 (by omega)) ?_;refine l7 rfl rfl rfl ?_;refine G5 ?_;exact⟨[(0,.ptr 0 0),(1,.str s),(12,.rslice 2 0 (esc s).length true),(13,.int .i64 (((esc (s.take (i+1))).length:Nat):Int)),(14,.int .i64 (((i+1):Nat):Int))],[(0,.row RR),(1,.grow 1 TR),(2,.grow 1 (BUF s (i+1)))],by kernel_rfl,ih (i+1) (by omega) (by omega)⟩
     ·refine a1n rfl rfl rfl ((a99 b (by simp)).trans (congrArg some hc)) ?_;refine l7 rfl rfl rfl ?_;refine G5 ?_;refine a02 rfl (rfl) ?_;refine F7 ?_;refine o7 ?_;refine l7 rfl rfl rfl ?_;refine l7 rfl rfl rfl ?_;refine l7 rfl rfl rfl ?_;have hL:(esc (s.take (i+1))).length =(esc (s.take i)).length+1:=by rw[htk,he,List.length_append];rfl
      refine l7 rfl rfl (a3a (a2o (by omega)) rfl) ?_;refine b9p rfl rfl rfl rfl (st_ok (B:=BUF s (i+1)) rfl (by omega) (c5i g89 hb he)) ?_;refine G5 ?_;refine o7 ?_;refine l7 rfl rfl rfl ?_;refine l7 rfl rfl (addE (k:=1) hL (by omega)) ?_;refine l7 rfl rfl rfl ?_;refine G5 ?_;refine o7 ?_;refine l7 rfl rfl rfl ?_;refine l7 rfl rfl (add1 (by omega)) ?_;refine l7 rfl rfl rfl ?_;refine G5 ?_;exact⟨[(0,.ptr 0 0),(1,.str s),(12,.rslice 2 0 (esc s).length true),(13,.int .i64 (((esc (s.take (i+1))).length:Nat):Int)),(14,.int .i64 (((i+1):Nat):Int))],[(0,.row RR),(1,.grow 1 TR),(2,.grow 1 (BUF s (i+1)))],by kernel_rfl,ih (i+1) (by omega) (by omega)⟩
    ·replace g89:¬i<s.length:=by simpa [ltN]using g89
     obtain rfl:i=s.length:=by omega
     refine a4x ?_;refine⟨[(12,.slice .sealed (esc s).length ((BUF s s.length).take ((esc s).length*1)))],[(0,.row RR),(1,.grow 1 TR)],by kernel_rfl,?_⟩;refine F7 ?_;refine o7 ?_;refine l7 rfl rfl rfl ?_;refine b3l rfl rfl rfl (cv_ok s) ?_;refine l7 rfl rfl rfl ?_;refine G5 ?_;exact H9 ⟨_,rfl,by kernel_rfl⟩
 ·refine F7 ?_;refine o7 ?_;refine l7 rfl rfl rfl ?_;refine G5 ?_;refine V4 ?_;refine a5D (fr1:=[(0,.ptr 0 0),(1,.str s),(5,.int .i64 ((s.length:Nat):Int)),(6,.bool false),(10,.int .i64 ((0:Nat):Int))]) (H1:=[(0,.row RR),(1,.grow 1 TR)]) (by kernel_rfl) ?_;refine a8N (fun x:Nat×Nat×Bool=>[(0,.ptr 0 0),(1,.str s),(5,.int .i64 ((x.2.1:Nat):Int)),(6,.bool x.2.2),(10,.int .i64 ((x.1:Nat):Int))]) (fun _=>[(0,.row RR),(1,.grow 1 TR)]) (fun x=>x.1<=s.length/\x.2.1+x.1=s.length+(esc (s.take x.1)).length/\x.2.2=decide (x.1<(esc (s.take x.1)).length)) (fun x=>s.length-x.1) (0,s.length,false) ⟨by simp,by simp[esc],by simp[esc]⟩ ?_;rintro⟨i,ns,any⟩ ⟨hi,hns,hany⟩ ih;simp only at hi hns hany ih ⊢;have hge:=c3Y (s.take i);have hle:=b2n (s.take i);rw[List.length_take,Nat.min_eq_left hi]at hge hle;refine F7 ?_;refine F7 ?_;refine o7 ?_;refine l7 rfl rfl rfl ?_;refine l7 rfl rfl rfl ?_;refine l7 rfl rfl rfl ?_;refine l7 rfl rfl rfl ?_;refine G5 ?_;refine a0d rfl (fun g58=>?_) (fun g58=>?_)
  ·replace g58:i<s.length:=by simpa [ltN]using g58
   obtain⟨b,hb⟩:∃b,s.getD i 0=b:=⟨_,rfl⟩
   have htk:=b4z g58;rw[hb]at htk;refine L8 ?_;refine F7 ?_;refine V4 ?_;refine F7 ?_;refine o7 ?_;refine l7 rfl rfl rfl ?_;refine l7 rfl rfl rfl ?_;refine l7 rfl rfl (a3a (a2o g58) (show _=some (.int .u8 (((s.getD i 0).toNat:Nat):Int))from rfl)) ?_;rw[hb];refine l7 rfl rfl rfl ?_;refine G5 ?_;refine F7 ?_;refine o7 ?_;refine l7 rfl rfl rfl ?_;refine l7 rfl rfl rfl ?_;refine l7 rfl rfl rfl ?_;refine l7 rfl rfl rfl ?_;refine l7 rfl rfl (a3a (a2o (UInt8.toNat_lt b)) rfl) ?_;rcases a8G b with⟨c,hc,he⟩ |⟨hc,he⟩
   ·refine a1n rfl rfl rfl ((a99 b (by simp)).trans (congrArg some hc)) ?_;refine l7 rfl rfl (c4q 2 rfl) ?_;refine G5 ?_;refine Z9 rfl (rfl) ?_;refine F7 ?_;refine o7 ?_;refine l7 rfl rfl rfl ?_;refine l7 rfl rfl rfl ?_;refine l7 rfl rfl rfl ?_;refine l7 rfl rfl rfl ?_;refine l7 rfl rfl rfl ?_;refine l7 rfl rfl (a3a (a2o (UInt8.toNat_lt b)) rfl) ?_;refine a1n rfl rfl rfl ((a99 b (by simp)).trans (congrArg some hc)) ?_;refine l7 rfl rfl rfl ?_;refine l7 rfl rfl rfl ?_;refine l7 rfl rfl (addN (k:=1) (by omega)) ?_;refine l7 rfl rfl rfl ?_;refine G5 ?_;refine o7 ?_;refine l7 rfl rfl rfl ?_;refine G5 ?_;refine o7 ?_;refine l7 rfl rfl rfl ?_;refine l7 rfl rfl (add1 (by omega)) ?_;refine l7 rfl rfl rfl ?_;refine G5 ?_;exact⟨[(0,.ptr 0 0),(1,.str s),(5,.int .i64 ((ns+1:Nat):Int)),(6,.bool true),(10,.int .i64 ((i+1:Nat):Int))],[(0,.row RR),(1,.grow 1 TR)],by kernel_rfl,ih (i+1,ns+1,true) (by simp only;omega) ⟨by simp only;omega,by rw[htk,he];simp only[List.length_append,List.length_cons,List.length_nil];omega,by rw[htk,he];simp only[List.length_append,List.length_cons,List.length_nil];symm;simp only[decide_eq_true_eq];omega⟩⟩
   ·refine a1n rfl rfl rfl ((a99 b (by simp)).trans (congrArg some hc)) ?_;refine l7 rfl rfl rfl ?_;refine G5 ?_;refine a02 rfl (rfl) ?_;refine L8 ?_;refine o7 ?_;refine l7 rfl rfl rfl ?_;refine l7 rfl rfl (add1 (by omega)) ?_;refine l7 rfl rfl rfl ?_;refine G5 ?_;exact⟨[(0,.ptr 0 0),(1,.str s),(5,.int .i64 ((ns:Nat):Int)),(6,.bool any),(10,.int .i64 ((i+1:Nat):Int))],[(0,.row RR),(1,.grow 1 TR)],by kernel_rfl,ih (i+1,ns,any) (by simp only;omega) ⟨by simp only;omega,by rw[htk,he];simp only[List.length_append,List.length_cons,List.length_nil];omega,by rw[hany,htk,he];simp only[List.length_append,List.length_cons,List.length_nil];congr 1;simp only[eq_iff_iff];omega⟩⟩
  ·replace g58:¬i<s.length:=by simpa [ltN]using g58
   obtain rfl:i=s.length:=by omega
   rw[List.take_length]at hns hany;obtain rfl:ns =(esc s).length:=by omega
   refine a4x ?_;refine F7 ?_;refine F7 ?_;refine o7 ?_;refine l7 rfl rfl rfl ?_;refine l7 rfl rfl rfl ?_;refine G5 ?_;refine a0d rfl (fun g82=>?_) (fun g82=>?_)
   ·have hs1:=b62 (s:=s) (by rw[hany]at g82;simpa using g82);rw[hs1];refine F7 ?_;refine o7 ?_;refine l7 rfl rfl rfl ?_;refine l7 rfl rfl rfl ?_;refine G5 ?_;exact H9 ⟨_,rfl,by kernel_rfl⟩
   ·refine L8 ?_;refine F7 ?_;refine o7 ?_;refine l7 rfl rfl rfl ?_;refine a2l rfl rfl (mk_ok (esc s).length (by have:=b2n s;omega) rfl) ?_;refine l7 rfl rfl rfl ?_;refine G5 ?_;refine F7 ?_;refine o7 ?_;refine l7 rfl rfl rfl ?_;refine G5 ?_;refine c0i rfl ?_;refine F7 ?_;refine o7 ?_;refine l7 rfl rfl rfl ?_;refine G5 ?_;refine V4 ?_;refine a5D (fr1:=[(0,.ptr 0 0),(1,.str s),(12,.rslice 2 0 (esc s).length true),(13,.int .i64 (((esc (s.take 0)).length:Nat):Int)),(14,.int .i64 ((0:Nat):Int))]) (H1:=[(0,.row RR),(1,.grow 1 TR),(2,.grow 1 (BUF s 0))]) (by kernel_rfl) ?_;refine a8N (fun i:Nat=>[(0,.ptr 0 0),(1,.str s),(12,.rslice 2 0 (esc s).length true),(13,.int .i64 (((esc (s.take i)).length:Nat):Int)),(14,.int .i64 ((i:Nat):Int))]) (fun i=>[(0,.row RR),(1,.grow 1 TR),(2,.grow 1 (BUF s i))]) (fun i=>i<=s.length) (fun i=>s.length-i) 0 (Nat.zero_le _) ?_;intro i hi ih;have hles:=b2n s;have hpre:=b27 s i;have hbl:=c5h s i;refine F7 ?_;refine F7 ?_;refine o7 ?_;refine l7 rfl rfl rfl ?_;refine l7 rfl rfl rfl ?_;refine l7 rfl rfl rfl ?_;refine l7 rfl rfl rfl ?_;refine G5 ?_;refine a0d rfl (fun g89=>?_) (fun g89=>?_)
    ·replace g89:i<s.length:=by simpa [ltN]using g89
     obtain⟨b,hb⟩:∃b,s.getD i 0=b:=⟨_,rfl⟩
     have htk:=b4z g89;rw[hb]at htk;have hpre2:=b27 s (i+1);refine L8 ?_;refine F7 ?_;refine V4 ?_;refine F7 ?_;refine o7 ?_;refine l7 rfl rfl rfl ?_;refine l7 rfl rfl rfl ?_;refine l7 rfl rfl (a3a (a2o g89) (show _=some (.int .u8 (((s.getD i 0).toNat:Nat):Int))from rfl)) ?_;rw[hb];refine l7 rfl rfl rfl ?_;refine G5 ?_;refine F7 ?_;refine o7 ?_;refine l7 rfl rfl rfl ?_;refine l7 rfl rfl rfl ?_;refine l7 rfl rfl rfl ?_;refine l7 rfl rfl rfl ?_;refine l7 rfl rfl (a3a (a2o (UInt8.toNat_lt b)) rfl) ?_;rcases a8G b with⟨c,hc,he⟩ |⟨hc,he⟩
     ·refine a1n rfl rfl rfl ((a99 b (by simp)).trans (congrArg some hc)) ?_;refine l7 rfl rfl (c4q 2 rfl) ?_;refine G5 ?_;refine Z9 rfl (rfl) ?_;refine o7 ?_;refine l7 rfl rfl rfl ?_;refine l7 rfl rfl rfl ?_;refine l7 rfl rfl rfl ?_;have hL:(esc (s.take (i+1))).length =(esc (s.take i)).length+2:=by rw[htk,he,List.length_append];rfl
      refine l7 rfl rfl (a3a (b2r (by omega) (Nat.le_refl _)) rfl) ?_;refine l7 rfl rfl rfl ?_;refine l7 rfl rfl rfl ?_;refine l7 rfl rfl rfl ?_;refine l7 rfl rfl rfl ?_;refine l7 rfl rfl (a3a (a2o (UInt8.toNat_lt b)) rfl) ?_;refine a1n rfl rfl rfl ((a99 b (by simp)).trans (congrArg some hc)) ?_;refine a2l rfl rfl (cp_ok (B:=BUF s (i+1)) (n:=(esc s).length-(esc (s.take i)).length) rfl (by omega) (by omega) (c5k g89 hb he)) ?_;refine l7 rfl rfl (addE (k:=2) hL (by omega)) ?_;refine l7 rfl rfl rfl ?_;refine G5 ?_;refine o7 ?_;refine l7 rfl rfl rfl ?_;refine l7 rfl rfl (add1 (by omega)) ?_;refine l7 rfl rfl rfl ?_;refine G5 ?_;exact⟨[(0,.ptr 0 0),(1,.str s),(12,.rslice 2 0 (esc s).length true),(13,.int .i64 (((esc (s.take (i+1))).length:Nat):Int)),(14,.int .i64 (((i+1):Nat):Int))],[(0,.row RR),(1,.grow 1 TR),(2,.grow 1 (BUF s (i+1)))],by kernel_rfl,ih (i+1) (by omega) (by omega)⟩
     ·refine a1n rfl rfl rfl ((a99 b (by simp)).trans (congrArg some hc)) ?_;refine l7 rfl rfl rfl ?_;refine G5 ?_;refine a02 rfl (rfl) ?_;refine F7 ?_;refine o7 ?_;refine l7 rfl rfl rfl ?_;refine l7 rfl rfl rfl ?_;refine l7 rfl rfl rfl ?_;have hL:(esc (s.take (i+1))).length =(esc (s.take i)).length+1:=by rw[htk,he,List.length_append];rfl
      refine l7 rfl rfl (a3a (a2o (by omega)) rfl) ?_;refine b9p rfl rfl rfl rfl (st_ok (B:=BUF s (i+1)) rfl (by omega) (c5i g89 hb he)) ?_;refine G5 ?_;refine o7 ?_;refine l7 rfl rfl rfl ?_;refine l7 rfl rfl (addE (k:=1) hL (by omega)) ?_;refine l7 rfl rfl rfl ?_;refine G5 ?_;refine o7 ?_;refine l7 rfl rfl rfl ?_;refine l7 rfl rfl (add1 (by omega)) ?_;refine l7 rfl rfl rfl ?_;refine G5 ?_;exact⟨[(0,.ptr 0 0),(1,.str s),(12,.rslice 2 0 (esc s).length true),(13,.int .i64 (((esc (s.take (i+1))).length:Nat):Int)),(14,.int .i64 (((i+1):Nat):Int))],[(0,.row RR),(1,.grow 1 TR),(2,.grow 1 (BUF s (i+1)))],by kernel_rfl,ih (i+1) (by omega) (by omega)⟩
    ·replace g89:¬i<s.length:=by simpa [ltN]using g89
     obtain rfl:i=s.length:=by omega
     refine a4x ?_;refine⟨[(12,.slice .sealed (esc s).length ((BUF s s.length).take ((esc s).length*1)))],[(0,.row RR),(1,.grow 1 TR)],by kernel_rfl,?_⟩;refine F7 ?_;refine o7 ?_;refine l7 rfl rfl rfl ?_;refine b3l rfl rfl rfl (cv_ok s) ?_;refine l7 rfl rfl rfl ?_;refine G5 ?_;exact H9 ⟨_,rfl,by kernel_rfl⟩
variable {H:Hp} {g:Nat} {orc:Orc} {v:V}
theorem c1D {env:Env}{k:Nat}{args ac:List V}{ns:List Nat}{H3 H4 Hc:Hp}{v4:V}(hq:env.quiet g=false)(hp:a8b env g args H=some (ns,ac,Hc))(hc:orc (.call g ac) Hc=some (.ret v H3))(h7:a5K (a1D (J3 ns k) dep v)=some v4)
  (h8:a0O (a1H (J3 ns k) H3 H)=some H4) (h9:a4e H H3 k ns.length=true):Y4 env orc k g args H=some (.val v4 H4):=by
 rw[a2P]at h8;rw[a96]at h7;obtain⟨Y3,H2,h1,h2,h3,h4⟩:=a8c hp;simp only[Y4,hq,h1,h2,h3,h4,hc,h7,h8,h9]
theorem c7g {env:Env}{ops:Array Oper}{o:Oper}{rest:List Oper}{fr:Fr}{H1:Hp}{K:Res->Prop}{rc:Operand}{m:String}{args:Array Operand}{at_:Array TypeId}{t:Nat}{v0:V}{l:List V}
  (hw:E5 ops o fr=some true) (ho:o.op=.call ⟨.invoke rc m,args,at_⟩) (hr:ev fr rc=some (.iface t v0)) (hl:evL fr args.toList=some l) (hm:env.meth t m=some g) (hc:Y4 env orc (newName o) g (v0::l) H=some (.val v H1))
  (h:Go.Vm.Os env orc ops rest (V9 o.dst v fr) H1 K):Go.Vm.Os env orc ops (o::rest) fr H K:=by
 have hp:O1 o.op=false:=by rw[ho];rfl
 refine a2l hw hp (v:=v) (H1:=H1) ?_ h;unfold V5;rw[ho];simp only[hr,hl,hm,hc]
theorem do_E:E env (.call 142 [.ptr 0 0,.func (.func 143) [.ptr 0 0] []]) [(0,.row [.int .u32 0,.int .i32 0,.int .u32 0,.nilIface,.slice (.tag 1) 8 pairs]),(1,.tip 1 8)]=some (.ret (.tuple []) [(0,.row [.int .u32 1,.int .i32 0,.int .u32 0,.iface 196 (.ptr 2 0),.slice .nil 0 []]),(1,.tip 1 8),(2,.row ((List.range 256).map cell++[.rslice 3 0 4 true])),(3,.grow 1 TR)]) :=
 E_via (g':=143) (l:=[.ptr 0 0]) (H':=[(0,.row [.int .u32 0,.int .i32 1,.int .u32 0,.nilIface,.slice (.tag 1) 8 pairs]),(1,.tip 1 8)]) rfl (by kernel_rfl) bu_E (by kernel_rfl)
theorem rp_E (s:List UInt8)(hs:s.length<=1000000):E env (.call 115 [.ptr 0 0,.str s]) [(0,.row [.int .u32 0,.int .i32 0,.int .u32 0,.nilIface,.slice (.tag 1) 8 pairs]),(1,.tip 1 8)]=some (.ret (.str (esc s)) [(0,.row [.int .u32 1,.int .i32 0,.int .u32 0,.iface 196 (.ptr 2 0),.slice .nil 0 []]),(1,.tip 1 8),(2,.row ((List.range 256).map cell++[.rslice 3 0 4 true])),(3,.grow 1 TR)]):=by
 refine a0P (env:=env) rfl Tryz.func115 rfl rfl ?_;refine F7 ?_;refine o7 ?_;refine l7 rfl rfl rfl ?_;refine G5 ?_;refine F7 ?_;refine o7 ?_;refine l7 rfl rfl rfl ?_;refine l7 rfl rfl rfl ?_;refine l7 rfl rfl rfl ?_;refine l7 rfl rfl rfl ?_;refine l7 rfl rfl rfl ?_;refine b3k (v:=.tuple []) (H1:=[(0,.row [.int .u32 1,.int .i32 0,.int .u32 0,.iface 196 (.ptr 704 0),.slice .nil 0 []]),(1,.tip 1 8),(704,.row ((List.range 256).map cell++[.rslice 705 0 4 true])),(705,.grow 1 TR)]) rfl rfl rfl (a5J (ns:=[0,1]) (ac:=[.ptr 0 0,.func (.func 143) [.ptr 0 0] []]) (Hc:=[(0,.row [.int .u32 0,.int .i32 0,.int .u32 0,.nilIface,.slice (.tag 1) 8 pairs]),(1,.tip 1 8)]) rfl (by kernel_rfl) do_E (by kernel_rfl) (by kernel_rfl) (by kernel_rfl)) ?_;refine G5 ?_;refine F7 ?_;refine o7 ?_;refine l7 rfl rfl rfl ?_;refine l7 rfl rfl rfl ?_;refine l7 rfl rfl rfl ?_;refine a1n rfl rfl rfl (v:=.iface 196 (.ptr 704 0)) (by kernel_rfl) ?_;refine l7 rfl rfl rfl ?_;refine c7g (g:=242) (v:=.str (esc s)) (H1:=[(0,.row [.int .u32 1,.int .i32 0,.int .u32 0,.iface 196 (.ptr 704 0),.slice .nil 0 []]),(1,.tip 1 8),(704,.row ((List.range 256).map cell++[.rslice 705 0 4 true])),(705,.grow 1 TR)]) rfl rfl rfl rfl rfl (c1D (ns:=[704,705]) (ac:=[.ptr 0 0,.str s]) (Hc:=[(0,.row RR),(1,.grow 1 TR)]) rfl (by kernel_rfl) (bs_E s hs) (by kernel_rfl) (by kernel_rfl) (by kernel_rfl)) ?_;refine l7 rfl rfl rfl ?_;refine G5 ?_;exact H9 ⟨.str (esc s),by kernel_rfl,by kernel_rfl⟩
theorem esc_E (s:List UInt8)(hs:s.length<=1000000):E env (.call 71 [.str s]) []=some (.ret (.str (esc s)) []):=by
 refine a0P (env:=env) rfl Tryz.func71 rfl rfl ?_;refine F7 ?_;refine o7 ?_;refine l7 rfl rfl rfl ?_;refine G5 ?_;refine F7 ?_;refine o7 ?_;refine l7 rfl rfl rfl ?_;refine b3k (v:=.ptr 320 0) (H1:=[(320,.row [.int .u32 0,.int .i32 0,.int .u32 0,.nilIface,.slice (.tag 321) 8 pairs]),(321,.tip 1 8)]) rfl rfl rfl (a5J (ns:=[]) (ac:=[.slice .sealed 8 pairs]) (Hc:=[]) rfl (by kernel_rfl) nr_E (by kernel_rfl) (by kernel_rfl) (by kernel_rfl)) ?_;refine l7 rfl rfl rfl ?_;refine b3k (v:=.str (esc s)) (H1:=[(320,.row [.int .u32 1,.int .i32 0,.int .u32 0,.iface 196 (.ptr 448 0),.slice .nil 0 []]),(321,.tip 1 8),(448,.row ((List.range 256).map cell++[.rslice 449 0 4 true])),(449,.grow 1 TR)]) rfl rfl rfl (a5J (ns:=[320,321]) (ac:=[.ptr 0 0,.str s]) (Hc:=[(0,.row [.int .u32 0,.int .i32 0,.int .u32 0,.nilIface,.slice (.tag 1) 8 pairs]),(1,.tip 1 8)]) rfl (by kernel_rfl) (rp_E s hs) (by kernel_rfl) (by kernel_rfl) (by kernel_rfl)) ?_;refine l7 rfl rfl rfl ?_;refine G5 ?_;exact H9 ⟨.str (esc s),by kernel_rfl,by kernel_rfl⟩
def escF:List V->Option V:=fun args=>match args with
 | [.str s]=>match leN s.length 1000000 with
  | true=>some (.str (esc s))
  | false=>none
 | _=>none
theorem c1V:a7J Tryz.prog 71 (b0F escF):=by
 refine c6F b6X (fun args v h=>?_) ⟨_,_,Tryz.func71,by kernel_rfl,rfl⟩;unfold escF at h;split at h
 ·rename_i s;split at h
  ·rename_i hs;cases h;exact⟨rfl,rfl,esc_E s (a5b hs)⟩
  ·cases h
 ·cases h
end Go.Proofs.YtjhfloacokgdiaaGreatDoor.Rp
namespace Go.Proofs
open Go.Shelf
def Tryz.c0A:Go.Shelf.Ren:=⟨fun|171=>113|243=>141|246=>153|283=>163|284=>164|285=>165|286=>166|129=>177|317=>176|318=>178|319=>179|320=>180|337=>192|338=>193|n=>n,fun|3=>3|9=>9|2=>2|4=>4|171=>177|0=>0|53=>178|37=>58|5=>5|173=>181|212=>200|51=>119|20=>20|213=>201|46=>169|232=>240|233=>241|n=>n,fun|17=>5|18=>8|19=>9|n=>n⟩
theorem Tryz.laysM171:Go.Proofs.LaysM.n171 Tryz.prog Tryz.c0A:={
 mixed:=by kernel_rfl
 f129:=Tryz.func177.trans (congrArg some (by kernel_rfl))
 f171:=Tryz.func113.trans (congrArg some (by kernel_rfl))
 f243:=Tryz.func141.trans (congrArg some (by kernel_rfl))
 f246:=Tryz.func153.trans (congrArg some (by kernel_rfl))
 f283:=Tryz.func163.trans (congrArg some (by kernel_rfl))
 f284:=Tryz.func164.trans (congrArg some (by kernel_rfl))
 f285:=Tryz.func165.trans (congrArg some (by kernel_rfl))
 f286:=Tryz.func166.trans (congrArg some (by kernel_rfl))
 f317:=Tryz.func176.trans (congrArg some (by kernel_rfl))
 f318:=Tryz.func178.trans (congrArg some (by kernel_rfl))
 f319:=Tryz.func179.trans (congrArg some (by kernel_rfl))
 f320:=Tryz.func180.trans (congrArg some (by kernel_rfl))
 f337:=Tryz.func192.trans (congrArg some (by kernel_rfl))
 f338:=Tryz.func193.trans (congrArg some (by kernel_rfl))
 t0:=Tryz.underlying0
 a0:=Tryz.isAgg0
 z0:=Tryz.sizeOf0
 v0:=Tryz.zeroValue0
 t2:=Tryz.underlying2
 a2:=Tryz.isAgg2
 z2:=Tryz.sizeOf2
 v2:=Tryz.zeroValue2
 t3:=Tryz.underlying3
 a3:=Tryz.isAgg3
 z3:=Tryz.sizeOf3
 v3:=Tryz.zeroValue3
 t4:=Tryz.underlying4
 a4:=Tryz.isAgg4
 z4:=Tryz.sizeOf4
 v4:=Tryz.zeroValue4
 t5:=Tryz.underlying5
 a5:=Tryz.isAgg5
 z5:=Tryz.sizeOf5
 v5:=Tryz.zeroValue5
 t9:=Tryz.underlying9
 a9:=Tryz.isAgg9
 z9:=Tryz.sizeOf9
 v9:=Tryz.zeroValue9
 t20:=Tryz.underlying20
 a20:=Tryz.isAgg20
 z20:=Tryz.sizeOf20
 v20:=Tryz.zeroValue20
 t37:=Tryz.underlying58
 a37:=Tryz.isAgg58
 z37:=Tryz.sizeOf58
 v37:=Tryz.zeroValue58
 t46:=Tryz.underlying169
 a46:=Tryz.isAgg169
 z46:=Tryz.sizeOf169
 v46:=Tryz.zeroValue169
 t51:=Tryz.underlying119
 a51:=Tryz.isAgg119
 z51:=Tryz.sizeOf119
 v51:=Tryz.zeroValue119
 t53:=Tryz.underlying178
 a53:=Tryz.isAgg178
 z53:=Tryz.sizeOf178
 v53:=Tryz.zeroValue178
 t171:=Tryz.underlying177
 a171:=Tryz.isAgg177
 z171:=Tryz.sizeOf177
 v171:=Tryz.zeroValue177
 t173:=Tryz.underlying181
 a173:=Tryz.isAgg181
 z173:=Tryz.sizeOf181
 v173:=Tryz.zeroValue181
 t212:=Tryz.underlying200
 a212:=Tryz.isAgg200
 z212:=Tryz.sizeOf200
 v212:=Tryz.zeroValue200
 t213:=Tryz.underlying201
 a213:=Tryz.isAgg201
 z213:=Tryz.sizeOf201
 t232:=Tryz.underlying240
 a232:=Tryz.isAgg240
 z232:=Tryz.sizeOf240
 v232:=Tryz.zeroValue240
 t233:=Tryz.underlying241
 a233:=Tryz.isAgg241
 z233:=Tryz.sizeOf241
 v233:=Tryz.zeroValue241
 g17:=by kernel_rfl
 g18:=by kernel_rfl
 g19:=by kernel_rfl
 i0:=by kernel_rfl
 i2:=by kernel_rfl
 i3:=by kernel_rfl
 i4:=by kernel_rfl
 i5:=by kernel_rfl
 i9:=by kernel_rfl
 i20:=by kernel_rfl
 i37:=by kernel_rfl
 i46:=by kernel_rfl
 i51:=by kernel_rfl
 i53:=by kernel_rfl
 i171:=by kernel_rfl
 i173:=by kernel_rfl
 i212:=by kernel_rfl
 i232:=by kernel_rfl
 i233:=by kernel_rfl
 m17:=by kernel_rfl
 m18:=by kernel_rfl
 m19:=by kernel_rfl}
open Go.RowKit Go.Sort Go.Lib in
theorem Tryz.strconv_Itoa (n:Int) (h0:-9223372036854775808<=n) (h1:n<=9223372036854775807) (w:World) (htab:Lib.TabIs Tryz.prog w "internal/strconv.uint64pow10" .u64 Lib.pow10Tab) :
  Calls Tryz.prog 113 #[.int .i64 n] w fun e w'=>e=.returned (.string ⟨(Lib.itoa n).toArray⟩) /\ ∃k os,w'=grow (w.drewN k) os:=Any.strconv_Itoa Tryz.laysM171 n h0 h1 w htab
end Go.Proofs
namespace Go.Proofs.YtjhfloacokgdiaaGreatDoor
open Go Go.Vm
def rngB (n:Int):Bool:=decide (-9223372036854775808<=n)&&decide (n<=9223372036854775807)
def c2d:List V->Option V
 | [.int .i64 n]=>match rngB n with
  | true=>some (.str (Lib.itoa n))
  | false=>none
 | _=>none
theorem tab_at {w:World} (h:KpW w):Lib.TabIs Tryz.prog w "internal/strconv.uint64pow10" .u64 Lib.pow10Tab:=by
 obtain⟨_,t,fr,h⟩:=h (5,kpTab) List.mem_cons_self;unfold Lib.TabIs World.var?;rw[show Tryz.prog.globalNamed "internal/strconv.uint64pow10" = some 5 by kernel_rfl];simp only[Option.bind_some,h];rfl
theorem b9b:a7J Tryz.prog 113 (b0F c2d):=by
 refine⟨fun args H out h ρ lab w xs hc hS hx=>?_,⟨_,_,Tryz.func113,rfl,rfl⟩⟩;unfold b0F c2d at h;split at h
 ·rename_i v hv;cases h;split at hv
  ·rename_i n;split at hv
   ·rename_i hb;cases hv;simp only[rngB,Bool.and_eq_true,decide_eq_true_eq]at hb;obtain⟨x1,r1,rfl,a1,a2⟩:=E9.1 hx;have:r1=[]:=by have:=a2.1;simpa using this
    subst this;cases a1;refine(Tryz.strconv_Itoa n hb.1 hb.2 w (tab_at hS.kp.1)).mono fun e w' ⟨he,k,os,hw⟩=>?_;subst he hw;have hg:a01 w (Go.Sort.grow (w.drewN k) os):=a8E (Lib.below_grow _ w (Nat.le_refl _) k os);exact⟨ρ,lab,hS.grew hg,hg.ext lab,⟨fun _ _ _ h=>h,fun _ _ _ _ h=>h⟩,.str _,hc,Nat.le_refl _⟩
   ·cases hv
  ·cases hv
 ·cases h
end Go.Proofs.YtjhfloacokgdiaaGreatDoor
namespace Go.Proofs
open Go.Shelf
def Tryz.b5R:Go.Shelf.Ren:=⟨fun|163=>30|237=>63|199=>64|238=>65|272=>108|261=>109|273=>110|197=>111|315=>134|311=>135|312=>136|271=>137|260=>138|120=>148|n=>n,fun|9=>9|37=>58|3=>3|0=>0|5=>5|4=>4|40=>99|119=>100|21=>21|51=>119|141=>121|105=>123|196=>142|193=>139|198=>145|49=>143|194=>140|201=>148|226=>168|46=>169|227=>170|139=>173|138=>172|n=>n,fun|0=>0|6=>1|3=>2|4=>3|n=>n⟩
theorem Tryz.c5V:Go.Proofs.Lays.n163 Tryz.prog Tryz.b5R:={
 mixed:=by kernel_rfl
 f120:=Tryz.func148.trans (congrArg some (by kernel_rfl))
 f163:=Tryz.func30.trans (congrArg some (by kernel_rfl))
 f197:=Tryz.func111.trans (congrArg some (by kernel_rfl))
 f199:=Tryz.func64.trans (congrArg some (by kernel_rfl))
 f237:=Tryz.func63.trans (congrArg some (by kernel_rfl))
 f238:=Tryz.func65.trans (congrArg some (by kernel_rfl))
 f260:=Tryz.func138.trans (congrArg some (by kernel_rfl))
 f261:=Tryz.func109.trans (congrArg some (by kernel_rfl))
 f271:=Tryz.func137.trans (congrArg some (by kernel_rfl))
 f272:=Tryz.func108.trans (congrArg some (by kernel_rfl))
 f273:=Tryz.func110.trans (congrArg some (by kernel_rfl))
 f311:=Tryz.func135.trans (congrArg some (by kernel_rfl))
 f312:=Tryz.func136.trans (congrArg some (by kernel_rfl))
 f315:=Tryz.func134.trans (congrArg some (by kernel_rfl))
 t0:=Tryz.underlying0
 a0:=Tryz.isAgg0
 z0:=Tryz.sizeOf0
 v0:=Tryz.zeroValue0
 t3:=Tryz.underlying3
 a3:=Tryz.isAgg3
 z3:=Tryz.sizeOf3
 v3:=Tryz.zeroValue3
 t4:=Tryz.underlying4
 a4:=Tryz.isAgg4
 z4:=Tryz.sizeOf4
 v4:=Tryz.zeroValue4
 t5:=Tryz.underlying5
 a5:=Tryz.isAgg5
 z5:=Tryz.sizeOf5
 v5:=Tryz.zeroValue5
 t9:=Tryz.underlying9
 a9:=Tryz.isAgg9
 z9:=Tryz.sizeOf9
 v9:=Tryz.zeroValue9
 t21:=Tryz.underlying21
 a21:=Tryz.isAgg21
 z21:=Tryz.sizeOf21
 v21:=Tryz.zeroValue21
 t37:=Tryz.underlying58
 a37:=Tryz.isAgg58
 z37:=Tryz.sizeOf58
 v37:=Tryz.zeroValue58
 t40:=Tryz.underlying99
 a40:=Tryz.isAgg99
 z40:=Tryz.sizeOf99
 v40:=Tryz.zeroValue99
 t46:=Tryz.underlying169
 a46:=Tryz.isAgg169
 z46:=Tryz.sizeOf169
 v46:=Tryz.zeroValue169
 t49:=Tryz.underlying143
 a49:=Tryz.isAgg143
 z49:=Tryz.sizeOf143
 v49:=Tryz.zeroValue143
 t51:=Tryz.underlying119
 a51:=Tryz.isAgg119
 z51:=Tryz.sizeOf119
 v51:=Tryz.zeroValue119
 t105:=Tryz.underlying123
 a105:=Tryz.isAgg123
 z105:=Tryz.sizeOf123
 v105:=Tryz.zeroValue123
 t119:=Tryz.underlying100
 a119:=Tryz.isAgg100
 z119:=Tryz.sizeOf100
 t138:=Tryz.underlying172
 a138:=Tryz.isAgg172
 z138:=Tryz.sizeOf172
 v138:=Tryz.zeroValue172
 t139:=Tryz.underlying173
 a139:=Tryz.isAgg173
 z139:=Tryz.sizeOf173
 v139:=Tryz.zeroValue173
 t141:=Tryz.underlying121
 a141:=Tryz.isAgg121
 z141:=Tryz.sizeOf121
 v141:=Tryz.zeroValue121
 t193:=Tryz.underlying139
 a193:=Tryz.isAgg139
 z193:=Tryz.sizeOf139
 v193:=Tryz.zeroValue139
 t194:=Tryz.underlying140
 a194:=Tryz.isAgg140
 z194:=Tryz.sizeOf140
 v194:=Tryz.zeroValue140
 t196:=Tryz.underlying142
 a196:=Tryz.isAgg142
 z196:=Tryz.sizeOf142
 v196:=Tryz.zeroValue142
 t198:=Tryz.underlying145
 a198:=Tryz.isAgg145
 z198:=Tryz.sizeOf145
 v198:=Tryz.zeroValue145
 t201:=Tryz.underlying148
 a201:=Tryz.isAgg148
 z201:=Tryz.sizeOf148
 v201:=Tryz.zeroValue148
 t226:=Tryz.underlying168
 a226:=Tryz.isAgg168
 z226:=Tryz.sizeOf168
 v226:=Tryz.zeroValue168
 t227:=Tryz.underlying170
 a227:=Tryz.isAgg170
 z227:=Tryz.sizeOf170
 v227:=Tryz.zeroValue170
 g0:=by kernel_rfl
 g3:=by kernel_rfl
 g4:=by kernel_rfl
 g6:=by kernel_rfl}
theorem Tryz.b1o:Space.Extra Tryz.prog Tryz.b5R:={
 gNamed:=by kernel_rfl}
open Go.RowKit in
theorem Tryz.strings_TrimSpace (s:ByteArray) (w:World) (hs:s.size<=9223372036854775807) (hascii:∀(j:Nat) b,s.data.toList[j]? = some b->b.toNat<128) (htab:Lib.TabIs Tryz.prog w "strings.asciiSpace" .u8 Lib.asciiSpaceTab) :
  Calls Tryz.prog 30 #[.string s] w fun e w'=>e=.returned (.string ⟨(Lib.trimSpace s.data.toList).toArray⟩)/\w'=Lib.bytesWorld w 5 s:=Any.strings_TrimSpace Tryz.c5V Tryz.b1o s w hs hascii htab
end Go.Proofs
namespace Go.Proofs.YtjhfloacokgdiaaGreatDoor.Tr
open Go Go.Shelf Go.RowKit
variable {r s:List UInt8}
variable {P:Program} {ρ:Ren}
theorem trim_end (L:Lays.n163 P ρ)(XS:Space.Extra P ρ)(s:ByteArray)(w:World)(n:Nat)(hs:s.size<=9223372036854775807)(hn:n<s.size)(x y:UInt8)
  (h0:s.data.toList[0]? = some x) (hl:s.data.toList[n]? = some y) (hx128:x.toNat<128) (hy128':y.toNat<128) (hxs:Lib.isSp x=false) (hys:Lib.isSp y=false)
  (hsp:∀(j:Nat) b,n<j->s.data.toList[j]? = some b->Lib.isSp b=true)
  (htab:Lib.TabIs P w "strings.asciiSpace" .u8 Lib.asciiSpaceTab) :
  Calls P (ρ.f 163) #[.string s] w fun e w'=>e=.returned (.string (s.extract 0 (n+1)))/\w'=Lib.bytesWorld w (ρ.t 5) s:=by
 have hg:P.globalNamed "strings.asciiSpace" = some (ρ.g 0):=XS.gNamed;have htab':Lib.TabIs P (Lib.bytesWorld w (ρ.t 5) s) "strings.asciiSpace" .u8 Lib.asciiSpaceTab:=Lib.bytesWorld_var w (ρ.t 5) s htab;have hT:∀c:Nat,c<256 ->(Lib.bytesWorld w (ρ.t 5) s).cell? ⟨(ρ.g 0),c,none⟩=some (.int .u8 (if Lib.isSp (UInt8.ofNat c)then 1 else 0)):=by
  intro c hc;rw[htab'.cell hg c (by rw[Lib.asciiSpaceTab_length];exact hc),Lib.asciiSpaceTab_at c hc]
 have hB:∀t,t<s.size ->(Lib.bytesWorld w (ρ.t 5) s).cell? ⟨w.heap.size,t,none⟩=some (.int .u8 (s.data.toList.getD t 0).toNat):=fun t ht=>Lib.bytesWorld_cell w (ρ.t 5) s t ht;have HL:=Any.hidS hl;have HP:=Any.hidS hsp;have HN:=Any.hidS hn;clear htab htab' hg hl hsp hn;have mixed:=L.mixed;have t5:=L.t5;have a5:=L.a5;have z5:=L.z5;have v5:=L.v5;have u5:=run_underlying L.t5;have t37:=L.t37;have a37:=L.a37;have z37:=L.z37;have v37:=L.v37;have u37:=run_underlying L.t37;have t3:=L.t3;have a3:=L.a3;have z3:=L.z3;have v3:=L.v3;have u3:=run_underlying L.t3;have t9:=L.t9;have a9:=L.a9;have z9:=L.z9;have v9:=L.v9;have u9:=run_underlying L.t9;have t4:=L.t4;have a4:=L.a4;have z4:=L.z4;have v4:=L.v4;have u4:=run_underlying L.t4;have t21:=L.t21;have a21:=L.a21;have z21:=L.z21;have v21:=L.v21;have u21:=run_underlying L.t21;have t119:=L.t119;have a119:=L.a119;have z119:=L.z119;have u119:=run_underlying L.t119;go_enter L.f163,Body.n163_ntmps ρ;go_wp2;rw[Lib.run_convert_string_bytes w (ρ.t 9) (ρ.t 37) (ρ.t 5) s (u:=.string) L.t9 L.t37 L.t5];simp only[Result.andThen];rw[Oper.upon_value];obtain⟨W1,hW1⟩:∃W1,W1=Lib.bytesWorld w (ρ.t 5) s:=⟨_,rfl⟩
 rw[<-hW1]at hT hB ⊢;have HW:=Any.hidS hW1;have HT:=Any.hidS hT;have HB:=Any.hidS hB;clear hW1 hT hB;go_wp2;go_loop [10,0] (fun i s0=>s0=.string s /\ ∃k:Nat,k<=s.size/\i=.int .i64 k/\Hid (k=0)) (fun i _=>s.size-(intOf i).toNat)
 case atStart=>exact⟨rfl,0,Nat.zero_le _,rfl,rfl⟩
 case round =>
  obtain⟨rfl,k,hk,rfl,hk0⟩:=hrel;have hkn:k<s.size:=by have:=hk0.out;have:=HN.out;omega
  have hxk:s.data.toList[k]? = some x:=by rw[hk0.out];exact h0
  have hc1:W1.cell? ⟨w.heap.size,k,none⟩=some (.int .u8 x.toNat):=by
   rw[HB.out k hkn,List.getD,hxk];rfl
  have h128:¬(128:Int) <=(x.toNat:Int):=by omega
  have hTx:W1.cell? ⟨(ρ.g 0),x.toNat,none⟩=some (.int .u8 0):=by
   have:=HT.out x.toNat (UInt8.toNat_lt x)
   simpa [hxs]using this
  have Hxk:=Any.hidS hxk;clear hxk h0;have hsl1:∀w,(Instr.slice (ρ.t 9) (.string s) (some (.int .i64 (k:Int))) none none).run P w=.ok (.string (s.extract k s.size)) w:=fun w=>by
   rw[run_slice_string_from_if w (ρ.t 9) s .i64 _ L.t9,if_pos ⟨by omega,by omega⟩];rfl
  have hts:(s.extract k s.size).size=s.size-k:=by
   rw[Lib.size_eq,Lib.extract_data,List.length_take,List.length_drop,<-Lib.size_eq];omega
  have hte:(s.extract k s.size).data.toList =(s.data.toList.drop k).take (s.size-k):=Lib.extract_data s k s.size;have htd:∀j:Nat,(s.extract k s.size).data.toList[j]? = if j<s.size-k then s.data.toList[k+j]? else none:=by
   intro j;rw[Lib.extract_data,List.getElem?_take];split
   ·rw[List.getElem?_drop]
   ·rfl
  generalize s.extract k s.size=t at hts htd hte hsl1;have Htd:=Any.hidS htd;have Hte:=Any.hidS hte;clear htd hte;go_wp2;go_loop [5] (fun h=>∃m:Nat,m<s.size-k/\h=.int .i64 m/\Hid (n<=m)) (fun h=>(intOf h).toNat)
  case atStart =>
   refine⟨s.size-k-1,by omega,by go_num,?_⟩;have:=hk0.out;have:=HN.out;show n<=s.size-k-1;omega
  case round =>
   obtain⟨m,hm,rfl,hnm⟩:=hrel;have hmt:m<t.size:=by omega
   have hty:t.data.toList[m]? = some (t[m]'hmt):=by
    rw[Array.getElem?_toList];exact Array.getElem?_eq_getElem hmt
   have hsm:s.data.toList[m]? = some (t[m]'hmt):=by rw[<-hty,Htd.out m,if_pos hm,hk0.out,Nat.zero_add]
   have hcase:(m=n/\t[m]'hmt=y)∨(n<m/\Lib.isSp (t[m]'hmt)=true):=by
    rcases Nat.lt_or_ge n m with e|e
    ·exact .inr ⟨e,HP.out m _ e hsm⟩
    ·have e:m=n:=Nat.le_antisymm e hnm.out;refine .inl ⟨e,?_⟩;have h1:=HL.out;rw[<-e,hsm]at h1;exact Option.some.inj h1
   have hy128:¬(128:Int) <=((t[m]'hmt).toNat:Int):=by
    rcases hcase with⟨_,e⟩ |⟨_,e⟩
    ·rw[e];omega
    ·have:∀b:UInt8,Lib.isSp b=true->b.toNat<128:=fun b hb=>by
      simp only[Lib.isSp,Bool.or_eq_true,beq_iff_eq]at hb;rcases hb with((((rfl|rfl)|rfl)|rfl)|rfl)|rfl<;>decide
     have:=this _ e;omega
   have hTy:W1.cell? ⟨(ρ.g 0),(t[m]'hmt).toNat,none⟩=some (.int .u8 (if Lib.isSp (t[m]'hmt)then 1 else 0)):=by
    have:=HT.out (t[m]'hmt).toNat (UInt8.toNat_lt _)
    simpa using this
   have Hsm:=Any.hidS hsm;clear hty hsm;have Hc:=Any.hidS hcase;clear hcase;cases hsy:Lib.isSp (t[m]'hmt)with
   | true =>
    rw[hsy]at hTy;simp only[if_true]at hTy;have hm0:n<m:=by
     rcases Hc.out with⟨_,e⟩ |⟨e,_⟩
     ·rw[e,hys]at hsy;cases hsy
     ·exact e
    have hm1:0<m:=by omega
    have Hm0:=Any.hidS hm0;clear hm0;go_wp2;go_round
    case rel=>exact⟨m-1,by omega,by go_num,by have:=Hm0.out;show n<=m-1;omega⟩
    case measure=>simp[intOf];omega
   | false =>
    rw[hsy]at hTy;simp only[Bool.false_eq_true,if_false]at hTy;have hsl2:∀w,(Instr.slice (ρ.t 9) (.string t) none (some (.int .i64 ((m:Int)+1))) none).run P w=.ok (.string (t.extract 0 (m+1))) w:=fun w=>by
     rw[run_slice_string_to_if w (ρ.t 9) t .i64 _ L.t9,if_pos ⟨by omega,by omega⟩,show((m:Int)+1).toNat=m+1 by omega]
    go_wp2;go_ret;refine⟨?_,HW.out⟩;have hmn:m=n:=by
     rcases Hc.out with⟨e,_⟩ |⟨_,e⟩
     ·exact e
     ·rw[hsy]at e;cases e
    show Ending.returned (Value.string (t.extract 0 (m+1)))=_;have e1:(t.extract 0 (m+1)).data.toList =(s.extract 0 (n+1)).data.toList:=by
     rw[Lib.extract_data,Lib.extract_data,Hte.out,hk0.out,hmn];simp only[List.drop_zero,List.take_take];congr 1;have:=HN.out;omega
    rw[Any.ba_eq _ _ e1,Any.ba_eq (s.extract 0 (n+1)) _ rfl]
open Go.Vm
def rtr (s:List UInt8):Option (List UInt8):=match s.reverse.dropWhile Lib.isSp with
 | []=>none
 | y::r=>match Nat.ble y.toNat 127 with
  | true=>some (y::r).reverse
  | false=>none
def b9P (s:List UInt8):Option (List UInt8):=match s with
 | []=>some []
 | x::_=>match leN s.length 1000000&&(Nat.ble x.toNat 127 && !Lib.isSp x)with
  | true=>rtr s
  | false=>none
theorem dw {p:UInt8->Bool}:∀(l:List UInt8) {y t},l.dropWhile p=y::t->p y=false /\ ∃k,l=k++y::t /\ ∀b∈k,p b=true
 | [],y,t,h=>by cases h
 | x::l,y,t,h=>by
  rw[List.dropWhile_cons]at h;cases hx:p x with
  | true =>
   rw[hx,if_pos rfl]at h;obtain⟨h1,k,h2,h3⟩:=dw l h;exact⟨h1,x::k,by rw[h2];rfl,fun b hb=>by
    cases hb with
    | head=>exact hx
    | tail _ hb=>exact h3 b hb⟩
  | false =>
   rw[hx,if_neg (by simp)]at h;cases h;exact⟨hx,[],rfl,fun b hb=>by cases hb⟩
theorem rtr_at (h:rtr s=some r):∃(n:Nat) (y:UInt8),n<s.length/\s[n]? = some y/\y.toNat<128/\Lib.isSp y=false/\(∀(j:Nat) b,n<j->s[j]? = some b->Lib.isSp b=true)/\r=s.take (n+1):=by
 unfold rtr at h;split at h
 ·cases h
 ·rename_i y t e;obtain⟨h1,k,h2,h3⟩:=dw _ e;have e3:s=t.reverse ++(y::k.reverse):=by
   have:=congrArg List.reverse h2;simpa using this
  split at h
  ·rename_i hb;cases h;refine⟨t.length,y,?_,?_,by have:=Nat.le_of_ble_eq_true hb;omega,h1,fun j b hj hb=>?_,?_⟩
   ·rw[e3];simp
   ·rw[e3,List.getElem?_append_right (by simp)];simp
   ·rw[e3,List.getElem?_append_right (by simp;omega)]at hb;obtain⟨i,hi⟩:∃i,j-t.reverse.length=i+1:=⟨j-t.length-1,by simp;omega⟩
    rw[hi,List.getElem?_cons_succ]at hb;exact h3 b (by simpa using List.mem_of_getElem? hb)
   ·rw[e3,List.reverse_cons,show t.reverse++y::k.reverse =(t.reverse++[y])++k.reverse by simp,List.take_left' (by simp)]
  ·cases h
def trimF:List V->Option V:=fun args=>match args with
 | [.str s]=>match b9P s with
  | some r=>some (.str r)
  | none=>none
 | _=>none
theorem tab0 {w:World} (h:KpW w):Lib.TabIs Tryz.prog w "strings.asciiSpace" .u8 Lib.asciiSpaceTab:=by
 obtain⟨_,t,fr,h⟩:=h (0,spTab) (List.mem_cons_of_mem _ List.mem_cons_self);unfold Lib.TabIs World.var?;rw[show Tryz.prog.globalNamed "strings.asciiSpace" = some 0 by kernel_rfl];simp only[Option.bind_some,h];rfl
theorem c5b (h:b9P s=some r) (w:World) (htab:Lib.TabIs Tryz.prog w "strings.asciiSpace" .u8 Lib.asciiSpaceTab) :
  Calls Tryz.prog 30 #[.string ⟨s.toArray⟩] w fun e w'=>e=.returned (.string ⟨r.toArray⟩)/\Below w.heap.size w w':=by
 have hb:Below w.heap.size w (Lib.bytesWorld w 5 ⟨s.toArray⟩):=⟨rfl,rfl,rfl,by rw[Lib.bytesWorld_size];omega,fun j hj=>Lib.bytesWorld_at_old w 5 ⟨s.toArray⟩ j hj⟩
 unfold b9P at h;split at h
 ·cases h;refine(Tryz.strings_TrimSpace ⟨⟨[]⟩⟩ w (Nat.zero_le _) (fun j b hj=>by simp at hj) htab).mono fun e w' ⟨he,hw⟩=>?_;subst hw;exact⟨he,hb⟩
 ·rename_i x t;split at h
  ·rename_i hc;simp only[Bool.and_eq_true,Bool.not_eq_true',Nat.ble_eq]at hc;obtain⟨n,y,h1,h2,h3,h4,h5,h6⟩:=rtr_at h;have hl:=a5b hc.1;have hz:(⟨(x::t).toArray⟩:ByteArray).size =(x::t).length:=rfl;refine(trim_end Tryz.c5V Tryz.b1o ⟨(x::t).toArray⟩ w n (by rw[hz];omega) (by rw[hz];exact h1) x y rfl h2 (by omega) h3 hc.2.2 h4 h5 htab).mono fun e w' ⟨he,hw⟩=>?_;subst hw;refine⟨?_,hb⟩;rw[he,Any.ba_eq (ByteArray.extract ⟨(x::t).toArray⟩ 0 (n+1)) r (by
    rw[Lib.extract_data,h6];simp)]
  ·cases h
theorem b9R:a7J Tryz.prog 30 (b0F trimF):=by
 refine⟨fun args H out h ρ lab w xs hc hS hx=>?_,⟨_,_,Tryz.func30,by kernel_rfl,rfl⟩⟩;unfold b0F trimF at h;split at h
 ·rename_i v hv;cases h;split at hv
  ·rename_i s;split at hv
   ·rename_i r hr;cases hv;obtain⟨x1,r1,rfl,a1,a2⟩:=E9.1 hx;have:r1=[]:=by have:=a2.1;simpa using this
    subst this;cases a1;refine(c5b hr w (tab0 hS.kp.1)).mono fun e w' ⟨he,hw⟩=>?_;subst he;have hg:a01 w w':=a8E hw;exact⟨ρ,lab,hS.grew hg,hg.ext lab,⟨fun _ _ _ h=>h,fun _ _ _ _ h=>h⟩,.str _,hc,Nat.le_refl _⟩
   ·cases hv
  ·cases hv
 ·cases h
end Go.Proofs.YtjhfloacokgdiaaGreatDoor.Tr
namespace Go.Proofs.YtjhfloacokgdiaaGreatDoor
open Go Go.Vm
def c1N (t:Sc.Tok):Tok:=⟨t.k,t.t,(t.a:Nat),(t.l:Nat)⟩
def a9b:Sc.MR->List Tok | .done l=>l.map c1N|_=>[]
def b3G:Sc.MR->Int | .err c _=>c|_=>0
def tokA:Sc.MR->Int | .err _ a=>(a:Nat)|_=>0
theorem c1G:∀l:List Sc.Tok,A8 (l.map c1N)=Sc.a2O l
 | []=>rfl
 | t::r=>by
  rw[List.map_cons,c3V.cons,c1G r];rfl
theorem tokV_cv {r:Sc.MR}(h:Sc.RBd r):Sc.b8l r=.tuple [.slice .sealed (List.length (a9b r)) (A8 (a9b r)),.agg [.int .i64 (b3G r),.int .i64 (tokA r)]]:=by
 cases r with
 | go x=>exact h.elim
 | done l =>
  simp only[a9b,Sc.b8l,c1G,List.length_map,b3G,tokA]
 | err c a=>rfl
theorem tok_call {env:Env}{g:Nat}{s:Str}(hi:env.intr g=some (.plain (b0F Sc.tokF)))(h:Sc.RBd (Sc.a2y s)) :
  E env (.call g [.str s]) []=some (.ret (.tuple [.slice .sealed (List.length (a9b (Sc.a2y s))) (A8 (a9b (Sc.a2y s))),.agg [.int .i64 (b3G (Sc.a2y s)),.int .i64 (tokA (Sc.a2y s))]]) []):=by
 refine a8a hi ?_;rw[<-tokV_cv h];rfl
theorem tok_code (s:Str):(b3G (Sc.a2y s)=0/\tokA (Sc.a2y s)=0)∨(b3G (Sc.a2y s)≠0/\a9b (Sc.a2y s)=[]):=by
 have h:=(Sc.a6L s).1;generalize Sc.a2y s=r at h;cases r with
 | go x=>exact h.bd.elim
 | done l=>exact .inl ⟨rfl,rfl⟩
 | err c a=>exact .inr ⟨h.nz c a rfl,rfl⟩
theorem b8k (s:Str):(a9b (Sc.a2y s)).length<=3000:=by
 have h:=(Sc.b42 s).1;generalize Sc.a2y s=r at h;cases r with
 | go x=>exact h.elim
 | done l=>simpa [a9b,Sc.RBd]using h
 | err c a=>simp[a9b]
end Go.Proofs.YtjhfloacokgdiaaGreatDoor
