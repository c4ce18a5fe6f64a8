/- Texts of ParsePrints, joined. -/
import Derived.Test.YtmippldlhnajkaaGreatDoorParsePrintsJ10
import Derived.Shelf.Strconv.Itoa0
import Derived.Shelf.Strconv.Itoa1
import Derived.Shelf.LaysM
import Derived.Shelf.Strconv.Itoa2
import Derived.Shelf.Strconv.Itoa3
import Derived.Test.YtmippldlhnajkaaGreatDoorProg
import Derived.Lib.AppendIntMem
import Derived.Lib.Join
set_option maxRecDepth 100000
set_option maxHeartbeats 20000000
set_option linter.unusedSimpArgs false
set_option linter.unusedVariables false
set_option linter.unusedSectionVars false
namespace Go.Proofs.YtmippldlhnajkaaGreatDoor.Rp
open Go Go.Vm
def b0B (b:UInt8):List UInt8:=if b=10 then [92,110]else if b=9 then [92,116]else if b=92 then [92,92]else if b=34 then [92,34]else [b]
def esc (s:List UInt8):List UInt8:=s.flatMap b0B
def cn (s:List UInt8):Nat->Nat|0=>0|1=>s.count 34|2=>s.count 34+s.count 92|3=>s.count 34+s.count 92+s.count 9|_=>s.count 34+s.count 92+s.count 9+s.count 10
theorem b3r (b:UInt8)(s:List UInt8):esc (b::s)=b0B b++esc s:=by simp[esc]
theorem c2d (a b:List UInt8):esc (a++b)=esc a++esc b:=by simp[esc]
theorem c6e {b:UInt8}(h1:b≠10)(h2:b≠9)(h3:b≠92)(h4:b≠34):cell b.toNat=.slice .nil 0 []:=by
 have k1:b.toNat≠10:=fun h=>h1 (UInt8.toNat_inj.1 h);have k2:b.toNat≠9:=fun h=>h2 (UInt8.toNat_inj.1 h);have k3:b.toNat≠92:=fun h=>h3 (UInt8.toNat_inj.1 h);have k4:b.toNat≠34:=fun h=>h4 (UInt8.toNat_inj.1 h);unfold cell;split<;>first|contradiction|rfl
theorem a9n (b:UInt8):(∃c:UInt8,cell b.toNat=.slice .sealed 2 [.int .u8 92,.int .u8 ((c.toNat:Nat):Int)]/\b0B b=[92,c])∨(cell b.toNat=.slice .nil 0 []/\b0B b=[b]):=by
 by_cases h1:b=10
 ·subst h1;exact .inl ⟨110,rfl,rfl⟩
 by_cases h2:b=9
 ·subst h2;exact .inl ⟨116,rfl,rfl⟩
 by_cases h3:b=92
 ·subst h3;exact .inl ⟨92,rfl,rfl⟩
 by_cases h4:b=34
 ·subst h4;exact .inl ⟨34,rfl,rfl⟩
 exact .inr ⟨c6e h1 h2 h3 h4,by simp only[b0B,if_neg h1,if_neg h2,if_neg h3,if_neg h4]⟩
theorem b8F (b:UInt8):1 <=(b0B b).length/\(b0B b).length<=2:=by
 rcases a9n b with⟨c,_,h⟩ |⟨_,h⟩<;>rw[h]<;>simp
theorem c6n:∀s,s.length <=(esc s).length
 | []=>Nat.le_refl _
 | b::s=>by have:=c6n s;have:=b8F b;rw[b3r,List.length_append,List.length_cons];omega
theorem b3s:∀s,(esc s).length<=2*s.length
 | []=>Nat.le_refl _
 | b::s=>by have:=b3s s;have:=b8F b;rw[b3r,List.length_append,List.length_cons];omega
theorem c2e:∀s,(esc s).length=s.length+(s.count 34+s.count 92+s.count 9+s.count 10)
 | []=>rfl
 | b::s=>by
  have ih:=c2e s;rw[b3r,List.length_append,ih];simp only[List.count_cons,List.length_cons];by_cases h1:b=10
  ·subst h1;simp[b0B];omega
  by_cases h2:b=9
  ·subst h2;simp[b0B];omega
  by_cases h3:b=92
  ·subst h3;simp[b0B];omega
  by_cases h4:b=34
  ·subst h4;simp[b0B];omega
  simp[b0B,h1,h2,h3,h4];omega
theorem b8H:∀{s:List UInt8},¬s.length<(esc s).length->esc s=s
 | [],_=>rfl
 | b::s,h=>by
  have h0:=c6n s;have h1:=b8F b;rw[b3r,List.length_append,List.length_cons]at h;rcases a9n b with⟨c,_,he⟩ |⟨_,he⟩
  ·rw[he]at h;simp at h;omega
  ·rw[b3r,he,b8H (s:=s) (by rw[he]at h;simp at h;omega)];rfl
theorem b0Y {s:List UInt8}{i:Nat}(h:i<s.length):esc (s.take (i+1))=esc (s.take i)++b0B (s.getD i 0):=by
 rw[List.take_succ_eq_append_getElem h,c2d];congr 1;simp[esc,h]
theorem b4h (s:List UInt8)(i:Nat):(esc (s.take i)).length <=(esc s).length:=by
 conv=>rhs;rw[<-List.take_append_drop i s,c2d,List.length_append]
 omega
theorem cn_le (s:List UInt8):∀k,cn s k<=4*s.length:=by
 have a:=List.count_le_length (a:=(34:UInt8)) (l:=s);have b:=List.count_le_length (a:=(92:UInt8)) (l:=s);have c:=List.count_le_length (a:=(9:UInt8)) (l:=s);have d:=List.count_le_length (a:=(10:UInt8)) (l:=s);intro k;unfold cn;split<;>omega
theorem RR_get (b:UInt8):RR[b.toNat]? = some (cell b.toNat):=by
 have:=UInt8.toNat_lt b;unfold RR;rw[List.getElem?_append_left (by simp;omega),List.getElem?_map,List.getElem?_range (by omega)];rfl
theorem RR_256:RR[256]? = some (.rslice 1 0 4 true):=by kernel_rfl
theorem b08 (b:UInt8){off:Nat}{H:Hp}(ho:off=b.toNat):a4D env.T 54 (.ptr 0 off) ((0,.row RR)::H)=some (cell b.toNat):=by
 subst ho;exact RR_get b
theorem ld_TL {H:Hp}:a4D env.T 58 (.ptr 0 (0+256)) ((0,.row RR)::H)=some (.rslice 1 0 4 true):=RR_256
theorem ct_E (s:List UInt8)(c:UInt8):E env (.call 321 [.str s,.str [c]]) []=some (.ret (.int .i64 ((s.count c:Nat):Int)) []):=a6X (h:=c1Z) rfl rfl
theorem mul1 {a:Nat}(h:a<9223372036854775808):a4g (some (.int .i64 (IntKind.wrap .i64 ((a:Int)*1))))=some (.int .i64 (a:Nat)):=by
 rw[Int.mul_one,wrap64 (by omega) (by omega)];rfl
theorem addE {j k m:Nat}(h:m=j+k)(hb:j+k<9223372036854775808):a4g (some (.int .i64 (IntKind.wrap .i64 ((j:Int)+(k:Int)))))=some (.int .i64 (m:Nat)):=by
 rw[h];exact addN hb
theorem c6G (n:Nat){m:Nat}{x:Option V}(h:x=match gd (ltB 0 ((m+1:Nat):Int)) (some false)with|some b=>some (.bool (!b))|none=>none):a4g x=some (.bool true):=by
 rw[h];have:ltB 0 ((m+1:Nat):Int)=true:=by simp only[ltB,decide_eq_true_eq];omega
 rw[this];rfl
theorem c1i {env:Env}{orc:Orc}{ops:Array Oper}{o:Oper}{rest:List Oper}{fr:Fr}{H H1:Hp}{K:Res->Prop}{t:Nat}{a b:Operand}{x v:V}(hw:E8 ops o fr=some true)(ho:o.op=.store t a b)(ha:ev fr a=some x)(hb:ev fr b=some v)(hs:a5I env.T t x v H=some H1)(h:Go.Vm.Os env orc ops rest (U9 o.dst .undef fr) H1 K):Go.Vm.Os env orc ops (o::rest) fr H K:=by
 refine a1U hw (by rw[ho];rfl) (v:=.undef) (H1:=H1) ?_ h;unfold U4;rw[ho];simp only[ha,hb,hs]
def BUF (s:List UInt8)(i:Nat):List V:=a0O (esc (s.take i))++List.replicate ((esc s).length-(esc (s.take i)).length) (.int .u8 0)
theorem c7s (s:List UInt8)(i:Nat):(BUF s i).length =(esc s).length:=by
 have:=b4h s i;simp only[BUF,List.length_append,a0O,List.length_map,List.length_replicate];omega
theorem set_mid {α:Type}(a new:List α)(z:α){n:Nat}(h:new.length<=n):(a++List.replicate n z).take a.length++new ++(a++List.replicate n z).drop (a.length+new.length)=a++new++List.replicate (n-new.length) z:=by
 rw[List.take_left,List.drop_append,List.drop_eq_nil_of_le (by omega),List.nil_append,List.drop_replicate];congr 2;omega
theorem c7u {s:List UInt8}{i:Nat}(h:i<s.length){b:UInt8}(hb:s.getD i 0=b){news:List V}(hn:news=a0O (b0B b)){off:Nat}(ho:off =(esc (s.take i)).length):O0 (BUF s i) off news=BUF s (i+1):=by
 have h1:=b0Y h;rw[hb]at h1;have h2:=b4h s (i+1);rw[h1,List.length_append]at h2;have h3:(esc (s.take i)).length =(a0O (esc (s.take i))).length:=by simp[a0O]
 have h4:news.length =(b0B b).length:=by rw[hn];simp[a0O]
 subst ho;unfold O0 BUF;rw[h3,set_mid _ _ _ (by omega),hn,h1];simp only[a0O,List.map_append,List.length_append,List.length_map];congr 2;omega
theorem c7v {s:List UInt8}{i:Nat}(h:i<s.length){b c:UInt8}(hb:s.getD i 0=b)(he:b0B b=[92,c]):O0 (BUF s i) (0+(esc (s.take i)).length*1) [.int .u8 92,.int .u8 ((c.toNat:Nat):Int)]=BUF s (i+1):=c7u h hb (by rw[he];rfl) (by omega)
theorem c7t {s:List UInt8}{i:Nat}(h:i<s.length){b:UInt8}(hb:s.getD i 0=b)(he:b0B b=[b]):O0 (BUF s i) (0+(esc (s.take i)).length*1) [.int .u8 ((b.toNat:Nat):Int)]=BUF s (i+1):=c7u h hb (by rw[he];rfl) (by omega)
theorem cp_ok {j n:Nat} {cs B:List V} {a b:V} {G:Hp} (hG:G = [(0,.row RR),(1,.grow 1 TR),(2,.grow 1 cs)]) (h1:2 <= n) (h2:j + 2 <= cs.length) (hB:O0 cs (0 + j * 1) [a,b] = B) :
    c1C env.T 54 (.rslice 2 (0+j*1) n false) (.slice .sealed 2 [a,b]) G=some (.val (.int .i64 ((2:Nat):Int)) [(0,.row RR),(1,.grow 1 TR),(2,.grow 1 B)]):=by
  subst hG;have e:c1C env.T 54 (.rslice 2 (0+j*1) n false) (.slice .sealed 2 [a,b]) [(0,.row RR),(1,.grow 1 TR),(2,.grow 1 cs)] =(match gd (eqN (2*1) [a,b].length) (some (2,[a,b]))with
    | some (m,news)=>(match Nat.beq m 0 with
        | true=>some (OpR.val (.int .i64 0) [(0,.row RR),(1,.grow 1 TR),(2,.grow 1 cs)])
        | false=>gd (leN m n&&leN (0+j*1+m*1) cs.length) (some (.val (.int .i64 (m:Int)) [(0,.row RR),(1,.grow 1 TR),(2,.grow 1 (O0 cs (0+j*1) news))])))
    | none=>none):=by kernel_rfl
  rw[e,a2r (show 2*1=[a,b].length from rfl)];simp only[gd];rw[a8z h1,a8z (show 0+j*1+2*1<=cs.length by omega),hB];rfl
theorem st_ok {j:Nat}{cs B:List V}{b:Nat}{G:Hp}(hG:G=[(0,.row RR),(1,.grow 1 TR),(2,.grow 1 cs)])(h2:j+1<=cs.length)(hB:O0 cs (0+j*1) [.int .u8 (b:Int)]=B) :
  a5I env.T 5 (.ptr 2 (0+j*1)) (.int .u8 (b:Int)) G=some [(0,.row RR),(1,.grow 1 TR),(2,.grow 1 B)]:=by
 subst hG;have e:a5I env.T 5 (.ptr 2 (0+j*1)) (.int .u8 (b:Int)) [(0,.row RR),(1,.grow 1 TR),(2,.grow 1 cs)]=gd (leN (0+j*1+1) cs.length) (some [(0,.row RR),(1,.grow 1 TR),(2,.grow 1 (O0 cs (0+j*1) [.int .u8 (b:Int)]))]):=by kernel_rfl
 rw[e,a8z (by omega),hB];rfl
theorem mk_ok (n:Nat)(hn:n<=4000000){G:Hp}(hG:G=[(0,.row RR),(1,.grow 1 TR)]):c1E env.T 54 (.int .i64 (n:Int)) (.int .i64 (n:Int)) G 5504=some (.val (.rslice 5504 0 n true) [(0,.row RR),(1,.grow 1 TR),(5504,.grow 1 (List.replicate n (.int .u8 0)))]):=by
 subst hG;have e:c1E env.T 54 (.int .i64 (n:Int)) (.int .i64 (n:Int)) [(0,.row RR),(1,.grow 1 TR)] 5504=gd (leB 0 (n:Int)&&leB (n:Int) (n:Int)&&leB ((n:Int)*((1:Nat)+1:Nat)) 70368744177664) (some (.val (.rslice 5504 0 n true) [(0,.row RR),(1,.grow 1 TR),(5504,.grow 1 (List.replicate n [.int .u8 0]).flatten)])):=by kernel_rfl
 rw[e];have h1:(leB 0 (n:Int)&&leB (n:Int) (n:Int)&&leB ((n:Int)*((1:Nat)+1:Nat)) 70368744177664)=true:=by simp only[leB,Bool.and_eq_true,decide_eq_true_eq];omega
 rw[h1];have h2:(List.replicate n [V.int .u8 0]).flatten=List.replicate n (.int .u8 0):=by
  induction n with
  | zero=>rfl
  | succ n ih=>rw[List.replicate_succ,List.flatten_cons,List.replicate_succ];simp[List.flatten_replicate_singleton]
 rw[h2];rfl
theorem cv_ok (s:List UInt8):b6q env.T 54 9 (.slice .sealed (esc s).length ((BUF s s.length).take ((esc s).length*1)))=some (.str (esc s)):=by
 have e:(BUF s s.length).take ((esc s).length*1)=a0O (esc s):=by
  unfold BUF;rw[List.take_length,Nat.sub_self,List.replicate_zero,List.append_nil,Nat.mul_one];exact List.take_of_length_le (by simp[a0O])
 rw[e];have e2:b6q env.T 54 9 (.slice .sealed (esc s).length (a0O (esc s))) =(match a5W (a0O (esc s))with|some l=>gd (eqN (esc s).length l.length) (some (.str l))|none=>none):=by kernel_rfl
 rw[e2,b5A];simp only[a2r rfl,gd]
theorem bs_E (s:List UInt8)(hs:s.length<=1000000):E env (.call 319 [.ptr 0 0,.str s]) [(0,.row RR),(1,.grow 1 TR)]=some (.ret (.str (esc s)) [(0,.row RR),(1,.grow 1 TR)]):=by
 refine a1r (env:=env) rfl Tryz.func319 rfl rfl ?_;refine F3 ?_;refine p9 ?_;refine o7 rfl rfl rfl ?_;refine H9 ?_;refine F3 ?_;refine p9 ?_;refine o7 rfl rfl rfl ?_;refine o7 rfl rfl rfl ?_;refine o7 rfl rfl rfl ?_;refine H9 ?_;refine F3 ?_;refine p9 ?_;refine o7 rfl rfl rfl ?_;refine H9 ?_;refine F3 ?_;refine F3 ?_;refine p9 ?_;refine o7 rfl rfl rfl ?_;refine o7 rfl rfl rfl ?_;refine o7 rfl rfl rfl ?_;refine a0G rfl rfl rfl (v:=.rslice 1 0 4 true) ld_TL ?_;refine o7 rfl rfl rfl ?_;refine o7 rfl rfl rfl ?_;refine o7 rfl rfl rfl ?_;refine o7 rfl rfl rfl ?_;refine o7 rfl rfl rfl ?_;refine H9 ?_;refine a0E rfl (fun g26=>?_) (fun g26=>?_)
 ·refine F3 ?_;refine p9 ?_;refine o7 rfl rfl rfl ?_;refine o7 rfl rfl rfl ?_;refine o7 rfl rfl rfl ?_;refine a0G rfl rfl rfl (v:=.rslice 1 0 4 true) ld_TL ?_;refine o7 rfl rfl rfl ?_;refine o7 rfl rfl rfl ?_;refine H9 ?_;refine Y9 ?_;refine a6s (fr1:=[(0,.ptr 0 0),(1,.str s),(5,.int .i64 ((s.length:Nat):Int)),(6,.bool false),(30,.rslice 1 0 4 true),(31,.int .i64 4),(32,.int .i64 ((0:Nat):Int))]) (H1:=[(0,.row RR),(1,.grow 1 TR)]) (by kernel_rfl) ?_;refine a9x (fun x:Nat×Nat×Bool=>[(0,.ptr 0 0),(1,.str s),(5,.int .i64 ((x.2.1:Nat):Int)),(6,.bool x.2.2),(30,.rslice 1 0 4 true),(31,.int .i64 4),(32,.int .i64 ((x.1:Nat):Int))]) (fun _=>[(0,.row RR),(1,.grow 1 TR)]) (fun x=>x.1<=4/\x.2.1=s.length+cn s x.1/\x.2.2=decide (0<cn s x.1)) (fun x=>4-x.1) (0,s.length,false) ⟨by simp,rfl,rfl⟩ ?_;rintro⟨k,ns,any⟩ ⟨hk,hns,hany⟩ ih;simp only at hk hns hany ih ⊢;have hcn:=cn_le s k;rcases(by omega:k=0∨k=1∨k=2∨k=3∨k=4)with rfl|rfl|rfl|rfl|rfl
  ·have hc:=List.count_le_length (a:=(34:UInt8)) (l:=s);refine F3 ?_;refine p9 ?_;refine o7 rfl rfl rfl ?_;refine H9 ?_;refine F3 ?_;refine a4I rfl (by simp[ltB]) ?_;refine L9 ?_;refine F3 ?_;refine Y9 ?_;refine F3 ?_;refine p9 ?_;refine o7 rfl rfl (a1o (by simp[inR]) rfl) ?_;refine a0G rfl rfl rfl (v:=.str [34]) rfl ?_;refine o7 rfl rfl rfl ?_;refine H9 ?_;refine F3 ?_;refine p9 ?_;refine o7 rfl rfl rfl ?_;refine o7 rfl rfl rfl ?_;refine M8 rfl rfl rfl rfl rfl (ct_E s 34) rfl ?_;refine o7 rfl rfl rfl ?_;refine H9 ?_;refine F3 ?_;refine p9 ?_;refine o7 rfl rfl rfl ?_;refine o7 rfl rfl rfl ?_;refine H9 ?_;refine a0E rfl (fun g40=>?_) (fun g40=>?_)
   ·replace g40:s.count 34≠0:=by intro h;rw[h]at g40;simp[eqB]at g40
    refine F3 ?_;refine p9 ?_;refine o7 rfl rfl rfl ?_;refine o7 rfl rfl rfl ?_;refine o7 rfl rfl rfl ?_;refine o7 rfl rfl rfl ?_;refine o7 rfl rfl (a1o (by simp[inR]) (show _=some (.int .u8 (((34:UInt8).toNat:Nat):Int))from rfl)) ?_;refine o7 rfl rfl rfl ?_;refine o7 rfl rfl rfl ?_;refine o7 rfl rfl (a1o (by simp[inR]) rfl) ?_;refine a0G rfl rfl rfl (b08 34 rfl) ?_;refine o7 rfl rfl rfl ?_;refine o7 rfl rfl rfl ?_;refine o7 rfl rfl (mul1 (by omega)) ?_;refine o7 rfl rfl (addN (by omega)) ?_;refine o7 rfl rfl rfl ?_;refine H9 ?_;refine p9 ?_;refine o7 rfl rfl rfl ?_;refine H9 ?_;refine p9 ?_;refine o7 rfl rfl rfl ?_;refine o7 rfl rfl rfl ?_;refine H9 ?_;exact⟨[(0,.ptr 0 0),(1,.str s),(5,.int .i64 ((ns+s.count 34:Nat):Int)),(6,.bool true),(30,.rslice 1 0 4 true),(31,.int .i64 4),(32,.int .i64 ((1:Nat):Int))],[(0,.row RR),(1,.grow 1 TR)],by kernel_rfl,ih (1,ns+s.count 34,true) (by simp) ⟨by simp,by rw[hns];simp only[cn];omega,by simp only[cn];symm;simp only[decide_eq_true_eq];omega⟩⟩
   ·replace g40:s.count 34=0:=by simp only[eqB,Bool.not_eq_false',beq_iff_eq]at g40;omega
    refine L9 ?_;refine p9 ?_;refine o7 rfl rfl rfl ?_;refine o7 rfl rfl rfl ?_;refine H9 ?_;exact⟨[(0,.ptr 0 0),(1,.str s),(5,.int .i64 ((ns:Nat):Int)),(6,.bool any),(30,.rslice 1 0 4 true),(31,.int .i64 4),(32,.int .i64 ((1:Nat):Int))],[(0,.row RR),(1,.grow 1 TR)],by kernel_rfl,ih (1,ns,any) (by simp) ⟨by simp,by rw[hns];simp only[cn];omega,by rw[hany];simp only[cn];congr 1;simp only[eq_iff_iff];omega⟩⟩
  ·have hc:=List.count_le_length (a:=(92:UInt8)) (l:=s);refine F3 ?_;refine p9 ?_;refine o7 rfl rfl rfl ?_;refine H9 ?_;refine F3 ?_;refine a4I rfl (by simp[ltB]) ?_;refine L9 ?_;refine F3 ?_;refine Y9 ?_;refine F3 ?_;refine p9 ?_;refine o7 rfl rfl (a1o (by simp[inR]) rfl) ?_;refine a0G rfl rfl rfl (v:=.str [92]) rfl ?_;refine o7 rfl rfl rfl ?_;refine H9 ?_;refine F3 ?_;refine p9 ?_;refine o7 rfl rfl rfl ?_;refine o7 rfl rfl rfl ?_;refine M8 rfl rfl rfl rfl rfl (ct_E s 92) rfl ?_;refine o7 rfl rfl rfl ?_;refine H9 ?_;refine F3 ?_;refine p9 ?_;refine o7 rfl rfl rfl ?_;refine o7 rfl rfl rfl ?_;refine H9 ?_;refine a0E rfl (fun g40=>?_) (fun g40=>?_)
   ·replace g40:s.count 92≠0:=by intro h;rw[h]at g40;simp[eqB]at g40
    refine F3 ?_;refine p9 ?_;refine o7 rfl rfl rfl ?_;refine o7 rfl rfl rfl ?_;refine o7 rfl rfl rfl ?_;refine o7 rfl rfl rfl ?_;refine o7 rfl rfl (a1o (by simp[inR]) (show _=some (.int .u8 (((92:UInt8).toNat:Nat):Int))from rfl)) ?_;refine o7 rfl rfl rfl ?_;refine o7 rfl rfl rfl ?_;refine o7 rfl rfl (a1o (by simp[inR]) rfl) ?_;refine a0G rfl rfl rfl (b08 92 rfl) ?_;refine o7 rfl rfl rfl ?_;refine o7 rfl rfl rfl ?_;refine o7 rfl rfl (mul1 (by omega)) ?_;refine o7 rfl rfl (addN (by omega)) ?_;refine o7 rfl rfl rfl ?_;refine H9 ?_;refine p9 ?_;refine o7 rfl rfl rfl ?_;refine H9 ?_;refine p9 ?_;refine o7 rfl rfl rfl ?_;refine o7 rfl rfl rfl ?_;refine H9 ?_;exact⟨[(0,.ptr 0 0),(1,.str s),(5,.int .i64 ((ns+s.count 92:Nat):Int)),(6,.bool true),(30,.rslice 1 0 4 true),(31,.int .i64 4),(32,.int .i64 ((2:Nat):Int))],[(0,.row RR),(1,.grow 1 TR)],by kernel_rfl,ih (2,ns+s.count 92,true) (by simp) ⟨by simp,by rw[hns];simp only[cn];omega,by simp only[cn];symm;simp only[decide_eq_true_eq];omega⟩⟩
   ·replace g40:s.count 92=0:=by simp only[eqB,Bool.not_eq_false',beq_iff_eq]at g40;omega
    refine L9 ?_;refine p9 ?_;refine o7 rfl rfl rfl ?_;refine o7 rfl rfl rfl ?_;refine H9 ?_;exact⟨[(0,.ptr 0 0),(1,.str s),(5,.int .i64 ((ns:Nat):Int)),(6,.bool any),(30,.rslice 1 0 4 true),(31,.int .i64 4),(32,.int .i64 ((2:Nat):Int))],[(0,.row RR),(1,.grow 1 TR)],by kernel_rfl,ih (2,ns,any) (by simp) ⟨by simp,by rw[hns];simp only[cn];omega,by rw[hany];simp only[cn];congr 1;simp only[eq_iff_iff];omega⟩⟩
  ·have hc:=List.count_le_length (a:=(9:UInt8)) (l:=s);refine F3 ?_;refine p9 ?_;refine o7 rfl rfl rfl ?_;refine H9 ?_;refine F3 ?_;refine a4I rfl (by simp[ltB]) ?_;refine L9 ?_;refine F3 ?_;refine Y9 ?_;refine F3 ?_;refine p9 ?_;refine o7 rfl rfl (a1o (by simp[inR]) rfl) ?_;refine a0G rfl rfl rfl (v:=.str [9]) rfl ?_;refine o7 rfl rfl rfl ?_;refine H9 ?_;refine F3 ?_;refine p9 ?_;refine o7 rfl rfl rfl ?_;refine o7 rfl rfl rfl ?_;refine M8 rfl rfl rfl rfl rfl (ct_E s 9) rfl ?_;refine o7 rfl rfl rfl ?_;refine H9 ?_;refine F3 ?_;refine p9 ?_;refine o7 rfl rfl rfl ?_;refine o7 rfl rfl rfl ?_;refine H9 ?_;refine a0E rfl (fun g40=>?_) (fun g40=>?_)
   ·replace g40:s.count 9≠0:=by intro h;rw[h]at g40;simp[eqB]at g40
    refine F3 ?_;refine p9 ?_;refine o7 rfl rfl rfl ?_;refine o7 rfl rfl rfl ?_;refine o7 rfl rfl rfl ?_;refine o7 rfl rfl rfl ?_;refine o7 rfl rfl (a1o (by simp[inR]) (show _=some (.int .u8 (((9:UInt8).toNat:Nat):Int))from rfl)) ?_;refine o7 rfl rfl rfl ?_;refine o7 rfl rfl rfl ?_;refine o7 rfl rfl (a1o (by simp[inR]) rfl) ?_;refine a0G rfl rfl rfl (b08 9 rfl) ?_;refine o7 rfl rfl rfl ?_;refine o7 rfl rfl rfl ?_;refine o7 rfl rfl (mul1 (by omega)) ?_;refine o7 rfl rfl (addN (by omega)) ?_;refine o7 rfl rfl rfl ?_;refine H9 ?_;refine p9 ?_;refine o7 rfl rfl rfl ?_;refine H9 ?_;refine p9 ?_;refine o7 rfl rfl rfl ?_;refine o7 rfl rfl rfl ?_;refine H9 ?_;exact⟨[(0,.ptr 0 0),(1,.str s),(5,.int .i64 ((ns+s.count 9:Nat):Int)),(6,.bool true),(30,.rslice 1 0 4 true),(31,.int .i64 4),(32,.int .i64 ((3:Nat):Int))],[(0,.row RR),(1,.grow 1 TR)],by kernel_rfl,ih (3,ns+s.count 9,true) (by simp) ⟨by simp,by rw[hns];simp only[cn];omega,by simp only[cn];symm;simp only[decide_eq_true_eq];omega⟩⟩
   ·replace g40:s.count 9=0:=by simp only[eqB,Bool.not_eq_false',beq_iff_eq]at g40;omega
    refine L9 ?_;refine p9 ?_;refine o7 rfl rfl rfl ?_;refine o7 rfl rfl rfl ?_;refine H9 ?_;exact⟨[(0,.ptr 0 0),(1,.str s),(5,.int .i64 ((ns:Nat):Int)),(6,.bool any),(30,.rslice 1 0 4 true),(31,.int .i64 4),(32,.int .i64 ((3:Nat):Int))],[(0,.row RR),(1,.grow 1 TR)],by kernel_rfl,ih (3,ns,any) (by simp) ⟨by simp,by rw[hns];simp only[cn];omega,by rw[hany];simp only[cn];congr 1;simp only[eq_iff_iff];omega⟩⟩
  ·have hc:=List.count_le_length (a:=(10:UInt8)) (l:=s);refine F3 ?_;refine p9 ?_;refine o7 rfl rfl rfl ?_;refine H9 ?_;refine F3 ?_;refine a4I rfl (by simp[ltB]) ?_;refine L9 ?_;refine F3 ?_;refine Y9 ?_;refine F3 ?_;refine p9 ?_;refine o7 rfl rfl (a1o (by simp[inR]) rfl) ?_;refine a0G rfl rfl rfl (v:=.str [10]) rfl ?_;refine o7 rfl rfl rfl ?_;refine H9 ?_;refine F3 ?_;refine p9 ?_;refine o7 rfl rfl rfl ?_;refine o7 rfl rfl rfl ?_;refine M8 rfl rfl rfl rfl rfl (ct_E s 10) rfl ?_;refine o7 rfl rfl rfl ?_;refine H9 ?_;refine F3 ?_;refine p9 ?_;refine o7 rfl rfl rfl ?_;refine o7 rfl rfl rfl ?_;refine H9 ?_;refine a0E rfl (fun g40=>?_) (fun g40=>?_)
   ·replace g40:s.count 10≠0:=by intro h;rw[h]at g40;simp[eqB]at g40
    refine F3 ?_;refine p9 ?_;refine o7 rfl rfl rfl ?_;refine o7 rfl rfl rfl ?_;refine o7 rfl rfl rfl ?_;refine o7 rfl rfl rfl ?_;refine o7 rfl rfl (a1o (by simp[inR]) (show _=some (.int .u8 (((10:UInt8).toNat:Nat):Int))from rfl)) ?_;refine o7 rfl rfl rfl ?_;refine o7 rfl rfl rfl ?_;refine o7 rfl rfl (a1o (by simp[inR]) rfl) ?_;refine a0G rfl rfl rfl (b08 10 rfl) ?_;refine o7 rfl rfl rfl ?_;refine o7 rfl rfl rfl ?_;refine o7 rfl rfl (mul1 (by omega)) ?_;refine o7 rfl rfl (addN (by omega)) ?_;refine o7 rfl rfl rfl ?_;refine H9 ?_;refine p9 ?_;refine o7 rfl rfl rfl ?_;refine H9 ?_;refine p9 ?_;refine o7 rfl rfl rfl ?_;refine o7 rfl rfl rfl ?_;refine H9 ?_;exact⟨[(0,.ptr 0 0),(1,.str s),(5,.int .i64 ((ns+s.count 10:Nat):Int)),(6,.bool true),(30,.rslice 1 0 4 true),(31,.int .i64 4),(32,.int .i64 ((4:Nat):Int))],[(0,.row RR),(1,.grow 1 TR)],by kernel_rfl,ih (4,ns+s.count 10,true) (by simp) ⟨by simp,by rw[hns];simp only[cn];omega,by simp only[cn];symm;simp only[decide_eq_true_eq];omega⟩⟩
   ·replace g40:s.count 10=0:=by simp only[eqB,Bool.not_eq_false',beq_iff_eq]at g40;omega
    refine L9 ?_;refine p9 ?_;refine o7 rfl rfl rfl ?_;refine o7 rfl rfl rfl ?_;refine H9 ?_;exact⟨[(0,.ptr 0 0),(1,.str s),(5,.int .i64 ((ns:Nat):Int)),(6,.bool any),(30,.rslice 1 0 4 true),(31,.int .i64 4),(32,.int .i64 ((4:Nat):Int))],[(0,.row RR),(1,.grow 1 TR)],by kernel_rfl,ih (4,ns,any) (by simp) ⟨by simp,by rw[hns];simp only[cn];omega,by rw[hany];simp only[cn];congr 1;simp only[eq_iff_iff];omega⟩⟩
  ·have hN:ns =(esc s).length:=by rw[hns,c2e];rfl
   replace hany:any=decide (s.length<(esc s).length):=by rw[hany,c2e];simp only[cn];congr 1;simp only[eq_iff_iff];omega
   subst hN;refine F3 ?_;refine p9 ?_;refine o7 rfl rfl rfl ?_;refine H9 ?_;refine F3 ?_;refine a3L rfl (by simp[ltB]) ?_;refine a4k ?_;refine F3 ?_;refine F3 ?_;refine p9 ?_;refine o7 rfl rfl rfl ?_;refine o7 rfl rfl rfl ?_;refine H9 ?_;refine a0E rfl (fun g82=>?_) (fun g82=>?_)
   ·have hs1:=b8H (s:=s) (by rw[hany]at g82;simpa using g82);rw[hs1];refine F3 ?_;refine p9 ?_;refine o7 rfl rfl rfl ?_;refine o7 rfl rfl rfl ?_;refine H9 ?_;exact O5 ⟨_,rfl,by kernel_rfl⟩
   ·refine L9 ?_;refine F3 ?_;refine p9 ?_;refine o7 rfl rfl rfl ?_;refine a1U rfl rfl (mk_ok (esc s).length (by have:=b3s s;omega) rfl) ?_;refine o7 rfl rfl rfl ?_;refine H9 ?_;refine F3 ?_;refine p9 ?_;refine o7 rfl rfl rfl ?_;refine H9 ?_;refine c2i rfl ?_;refine F3 ?_;refine p9 ?_;refine o7 rfl rfl rfl ?_;refine H9 ?_;refine Y9 ?_;refine a6s (fr1:=[(0,.ptr 0 0),(1,.str s),(12,.rslice 2 0 (esc s).length true),(13,.int .i64 (((esc (s.take 0)).length:Nat):Int)),(14,.int .i64 ((0:Nat):Int))]) (H1:=[(0,.row RR),(1,.grow 1 TR),(2,.grow 1 (BUF s 0))]) (by kernel_rfl) ?_;refine a9x (fun i:Nat=>[(0,.ptr 0 0),(1,.str s),(12,.rslice 2 0 (esc s).length true),(13,.int .i64 (((esc (s.take i)).length:Nat):Int)),(14,.int .i64 ((i:Nat):Int))]) (fun i=>[(0,.row RR),(1,.grow 1 TR),(2,.grow 1 (BUF s i))]) (fun i=>i<=s.length) (fun i=>s.length-i) 0 (Nat.zero_le _) ?_;intro i hi ih;have hles:=b3s s;have hpre:=b4h s i;have hbl:=c7s s i;refine F3 ?_;refine F3 ?_;refine p9 ?_;refine o7 rfl rfl rfl ?_;refine o7 rfl rfl rfl ?_;refine o7 rfl rfl rfl ?_;refine o7 rfl rfl rfl ?_;refine H9 ?_;refine a0E rfl (fun g89=>?_) (fun g89=>?_)
    ·replace g89:i<s.length:=by simpa [ltN]using g89
     obtain⟨b,hb⟩:∃b,s.getD i 0=b:=⟨_,rfl⟩
     have htk:=b0Y g89;rw[hb]at htk;have hpre2:=b4h s (i+1);refine L9 ?_;refine F3 ?_;refine Y9 ?_;refine F3 ?_;refine p9 ?_;refine o7 rfl rfl rfl ?_;refine o7 rfl rfl rfl ?_;refine o7 rfl rfl (a1o (a0r g89) (show _=some (.int .u8 (((s.getD i 0).toNat:Nat):Int))from rfl)) ?_;rw[hb];refine o7 rfl rfl rfl ?_;refine H9 ?_;refine F3 ?_;refine p9 ?_;refine o7 rfl rfl rfl ?_;refine o7 rfl rfl rfl ?_;refine o7 rfl rfl rfl ?_;refine o7 rfl rfl rfl ?_;refine o7 rfl rfl (a1o (a0r (UInt8.toNat_lt b)) rfl) ?_;rcases a9n b with⟨c,hc,he⟩ |⟨hc,he⟩
     ·refine a0G rfl rfl rfl ((b08 b (by simp)).trans (congrArg some hc)) ?_;refine o7 rfl rfl (c6G 2 rfl) ?_;refine H9 ?_;refine a4I rfl (rfl) ?_;refine p9 ?_;refine o7 rfl rfl rfl ?_;refine o7 rfl rfl rfl ?_;refine o7 rfl rfl rfl ?_;have hL:(esc (s.take (i+1))).length =(esc (s.take i)).length+2:=by rw[htk,he,List.length_append];rfl
      refine o7 rfl rfl (a1o (a9r (by omega) (Nat.le_refl _)) rfl) ?_;refine o7 rfl rfl rfl ?_;refine o7 rfl rfl rfl ?_;refine o7 rfl rfl rfl ?_;refine o7 rfl rfl rfl ?_;refine o7 rfl rfl (a1o (a0r (UInt8.toNat_lt b)) rfl) ?_;refine a0G rfl rfl rfl ((b08 b (by simp)).trans (congrArg some hc)) ?_;refine a1U rfl rfl (cp_ok (B:=BUF s (i+1)) (n:=(esc s).length-(esc (s.take i)).length) rfl (by omega) (by omega) (c7v g89 hb he)) ?_;refine o7 rfl rfl (addE (k:=2) hL (by omega)) ?_;refine o7 rfl rfl rfl ?_;refine H9 ?_;refine p9 ?_;refine o7 rfl rfl rfl ?_;refine o7 rfl rfl (add1 (by omega)) ?_;refine o7 rfl rfl rfl ?_;refine H9 ?_;exact⟨[(0,.ptr 0 0),(1,.str s),(12,.rslice 2 0 (esc s).length true),(13,.int .i64 (((esc (s.take (i+1))).length:Nat):Int)),(14,.int .i64 (((i+1):Nat):Int))],[(0,.row RR),(1,.grow 1 TR),(2,.grow 1 (BUF s (i+1)))],by kernel_rfl,ih (i+1) (by omega) (by omega)⟩
     ·refine a0G rfl rfl rfl ((b08 b (by simp)).trans (congrArg some hc)) ?_;refine o7 rfl rfl rfl ?_;refine H9 ?_;refine a3L rfl (rfl) ?_;refine F3 ?_;refine p9 ?_;refine o7 rfl rfl rfl ?_;refine o7 rfl rfl rfl ?_;refine o7 rfl rfl rfl ?_;have hL:(esc (s.take (i+1))).length =(esc (s.take i)).length+1:=by rw[htk,he,List.length_append];rfl
      refine o7 rfl rfl (a1o (a0r (by omega)) rfl) ?_;refine c1i rfl rfl rfl rfl (st_ok (B:=BUF s (i+1)) rfl (by omega) (c7t g89 hb he)) ?_;refine H9 ?_;refine p9 ?_;refine o7 rfl rfl rfl ?_;refine o7 rfl rfl (addE (k:=1) hL (by omega)) ?_;refine o7 rfl rfl rfl ?_;refine H9 ?_;refine p9 ?_;refine o7 rfl rfl rfl ?_;refine o7 rfl rfl (add1 (by omega)) ?_;refine o7 rfl rfl rfl ?_;refine H9 ?_;exact⟨[(0,.ptr 0 0),(1,.str s),(12,.rslice 2 0 (esc s).length true),(13,.int .i64 (((esc (s.take (i+1))).length:Nat):Int)),(14,.int .i64 (((i+1):Nat):Int))],[(0,.row RR),(1,.grow 1 TR),(2,.grow 1 (BUF s (i+1)))],by kernel_rfl,ih (i+1) (by omega) (by omega)⟩
    ·replace g89:¬i<s.length:=by simpa [ltN]using g89
     obtain rfl:i=s.length:=by omega
     refine a4k ?_;refine⟨[(12,.slice .sealed (esc s).length ((BUF s s.length).take ((esc s).length*1)))],[(0,.row RR),(1,.grow 1 TR)],by kernel_rfl,?_⟩;refine F3 ?_;refine p9 ?_;refine o7 rfl rfl rfl ?_;refine b8c rfl rfl rfl (cv_ok s) ?_;refine o7 rfl rfl rfl ?_;refine H9 ?_;exact O5 ⟨_,rfl,by kernel_rfl⟩
 ·refine F3 ?_;refine p9 ?_;refine o7 rfl rfl rfl ?_;refine H9 ?_;refine Y9 ?_;refine a6s (fr1:=[(0,.ptr 0 0),(1,.str s),(5,.int .i64 ((s.length:Nat):Int)),(6,.bool false),(10,.int .i64 ((0:Nat):Int))]) (H1:=[(0,.row RR),(1,.grow 1 TR)]) (by kernel_rfl) ?_;refine a9x (fun x:Nat×Nat×Bool=>[(0,.ptr 0 0),(1,.str s),(5,.int .i64 ((x.2.1:Nat):Int)),(6,.bool x.2.2),(10,.int .i64 ((x.1:Nat):Int))]) (fun _=>[(0,.row RR),(1,.grow 1 TR)]) (fun x=>x.1<=s.length/\x.2.1+x.1=s.length+(esc (s.take x.1)).length/\x.2.2=decide (x.1<(esc (s.take x.1)).length)) (fun x=>s.length-x.1) (0,s.length,false) ⟨by simp,by simp[esc],by simp[esc]⟩ ?_;rintro⟨i,ns,any⟩ ⟨hi,hns,hany⟩ ih;simp only at hi hns hany ih ⊢;have hge:=c6n (s.take i);have hle:=b3s (s.take i);rw[List.length_take,Nat.min_eq_left hi]at hge hle;refine F3 ?_;refine F3 ?_;refine p9 ?_;refine o7 rfl rfl rfl ?_;refine o7 rfl rfl rfl ?_;refine o7 rfl rfl rfl ?_;refine o7 rfl rfl rfl ?_;refine H9 ?_;refine a0E rfl (fun g58=>?_) (fun g58=>?_)
  ·replace g58:i<s.length:=by simpa [ltN]using g58
   obtain⟨b,hb⟩:∃b,s.getD i 0=b:=⟨_,rfl⟩
   have htk:=b0Y g58;rw[hb]at htk;refine L9 ?_;refine F3 ?_;refine Y9 ?_;refine F3 ?_;refine p9 ?_;refine o7 rfl rfl rfl ?_;refine o7 rfl rfl rfl ?_;refine o7 rfl rfl (a1o (a0r g58) (show _=some (.int .u8 (((s.getD i 0).toNat:Nat):Int))from rfl)) ?_;rw[hb];refine o7 rfl rfl rfl ?_;refine H9 ?_;refine F3 ?_;refine p9 ?_;refine o7 rfl rfl rfl ?_;refine o7 rfl rfl rfl ?_;refine o7 rfl rfl rfl ?_;refine o7 rfl rfl rfl ?_;refine o7 rfl rfl (a1o (a0r (UInt8.toNat_lt b)) rfl) ?_;rcases a9n b with⟨c,hc,he⟩ |⟨hc,he⟩
   ·refine a0G rfl rfl rfl ((b08 b (by simp)).trans (congrArg some hc)) ?_;refine o7 rfl rfl (c6G 2 rfl) ?_;refine H9 ?_;refine a4I rfl (rfl) ?_;refine F3 ?_;refine p9 ?_;refine o7 rfl rfl rfl ?_;refine o7 rfl rfl rfl ?_;refine o7 rfl rfl rfl ?_;refine o7 rfl rfl rfl ?_;refine o7 rfl rfl rfl ?_;refine o7 rfl rfl (a1o (a0r (UInt8.toNat_lt b)) rfl) ?_;refine a0G rfl rfl rfl ((b08 b (by simp)).trans (congrArg some hc)) ?_;refine o7 rfl rfl rfl ?_;refine o7 rfl rfl rfl ?_;refine o7 rfl rfl (addN (k:=1) (by omega)) ?_;refine o7 rfl rfl rfl ?_;refine H9 ?_;refine p9 ?_;refine o7 rfl rfl rfl ?_;refine H9 ?_;refine p9 ?_;refine o7 rfl rfl rfl ?_;refine o7 rfl rfl (add1 (by omega)) ?_;refine o7 rfl rfl rfl ?_;refine H9 ?_;exact⟨[(0,.ptr 0 0),(1,.str s),(5,.int .i64 ((ns+1:Nat):Int)),(6,.bool true),(10,.int .i64 ((i+1:Nat):Int))],[(0,.row RR),(1,.grow 1 TR)],by kernel_rfl,ih (i+1,ns+1,true) (by simp only;omega) ⟨by simp only;omega,by rw[htk,he];simp only[List.length_append,List.length_cons,List.length_nil];omega,by rw[htk,he];simp only[List.length_append,List.length_cons,List.length_nil];symm;simp only[decide_eq_true_eq];omega⟩⟩
   ·refine a0G rfl rfl rfl ((b08 b (by simp)).trans (congrArg some hc)) ?_;refine o7 rfl rfl rfl ?_;refine H9 ?_;refine a3L rfl (rfl) ?_;refine L9 ?_;refine p9 ?_;refine o7 rfl rfl rfl ?_;refine o7 rfl rfl (add1 (by omega)) ?_;refine o7 rfl rfl rfl ?_;refine H9 ?_;exact⟨[(0,.ptr 0 0),(1,.str s),(5,.int .i64 ((ns:Nat):Int)),(6,.bool any),(10,.int .i64 ((i+1:Nat):Int))],[(0,.row RR),(1,.grow 1 TR)],by kernel_rfl,ih (i+1,ns,any) (by simp only;omega) ⟨by simp only;omega,by rw[htk,he];simp only[List.length_append,List.length_cons,List.length_nil];omega,by rw[hany,htk,he];simp only[List.length_append,List.length_cons,List.length_nil];congr 1;simp only[eq_iff_iff];omega⟩⟩
  ·replace g58:¬i<s.length:=by simpa [ltN]using g58
   obtain rfl:i=s.length:=by omega
   rw[List.take_length]at hns hany;obtain rfl:ns =(esc s).length:=by omega
   refine a4k ?_;refine F3 ?_;refine F3 ?_;refine p9 ?_;refine o7 rfl rfl rfl ?_;refine o7 rfl rfl rfl ?_;refine H9 ?_;refine a0E rfl (fun g82=>?_) (fun g82=>?_)
   ·have hs1:=b8H (s:=s) (by rw[hany]at g82;simpa using g82);rw[hs1];refine F3 ?_;refine p9 ?_;refine o7 rfl rfl rfl ?_;refine o7 rfl rfl rfl ?_;refine H9 ?_;exact O5 ⟨_,rfl,by kernel_rfl⟩
   ·refine L9 ?_;refine F3 ?_;refine p9 ?_;refine o7 rfl rfl rfl ?_;refine a1U rfl rfl (mk_ok (esc s).length (by have:=b3s s;omega) rfl) ?_;refine o7 rfl rfl rfl ?_;refine H9 ?_;refine F3 ?_;refine p9 ?_;refine o7 rfl rfl rfl ?_;refine H9 ?_;refine c2i rfl ?_;refine F3 ?_;refine p9 ?_;refine o7 rfl rfl rfl ?_;refine H9 ?_;refine Y9 ?_;refine a6s (fr1:=[(0,.ptr 0 0),(1,.str s),(12,.rslice 2 0 (esc s).length true),(13,.int .i64 (((esc (s.take 0)).length:Nat):Int)),(14,.int .i64 ((0:Nat):Int))]) (H1:=[(0,.row RR),(1,.grow 1 TR),(2,.grow 1 (BUF s 0))]) (by kernel_rfl) ?_;refine a9x (fun i:Nat=>[(0,.ptr 0 0),(1,.str s),(12,.rslice 2 0 (esc s).length true),(13,.int .i64 (((esc (s.take i)).length:Nat):Int)),(14,.int .i64 ((i:Nat):Int))]) (fun i=>[(0,.row RR),(1,.grow 1 TR),(2,.grow 1 (BUF s i))]) (fun i=>i<=s.length) (fun i=>s.length-i) 0 (Nat.zero_le _) ?_;intro i hi ih;have hles:=b3s s;have hpre:=b4h s i;have hbl:=c7s s i;refine F3 ?_;refine F3 ?_;refine p9 ?_;refine o7 rfl rfl rfl ?_;refine o7 rfl rfl rfl ?_;refine o7 rfl rfl rfl ?_;refine o7 rfl rfl rfl ?_;refine H9 ?_;refine a0E rfl (fun g89=>?_) (fun g89=>?_)
    ·replace g89:i<s.length:=by simpa [ltN]using g89
     obtain⟨b,hb⟩:∃b,s.getD i 0=b:=⟨_,rfl⟩
     have htk:=b0Y g89;rw[hb]at htk;have hpre2:=b4h s (i+1);refine L9 ?_;refine F3 ?_;refine Y9 ?_;refine F3 ?_;refine p9 ?_;refine o7 rfl rfl rfl ?_;refine o7 rfl rfl rfl ?_;refine o7 rfl rfl (a1o (a0r g89) (show _=some (.int .u8 (((s.getD i 0).toNat:Nat):Int))from rfl)) ?_;rw[hb];refine o7 rfl rfl rfl ?_;refine H9 ?_;refine F3 ?_;refine p9 ?_;refine o7 rfl rfl rfl ?_;refine o7 rfl rfl rfl ?_;refine o7 rfl rfl rfl ?_;refine o7 rfl rfl rfl ?_;refine o7 rfl rfl (a1o (a0r (UInt8.toNat_lt b)) rfl) ?_;rcases a9n b with⟨c,hc,he⟩ |⟨hc,he⟩
     ·refine a0G rfl rfl rfl ((b08 b (by simp)).trans (congrArg some hc)) ?_;refine o7 rfl rfl (c6G 2 rfl) ?_;refine H9 ?_;refine a4I rfl (rfl) ?_;refine p9 ?_;refine o7 rfl rfl rfl ?_;refine o7 rfl rfl rfl ?_;refine o7 rfl rfl rfl ?_;have hL:(esc (s.take (i+1))).length =(esc (s.take i)).length+2:=by rw[htk,he,List.length_append];rfl
      refine o7 rfl rfl (a1o (a9r (by omega) (Nat.le_refl _)) rfl) ?_;refine o7 rfl rfl rfl ?_;refine o7 rfl rfl rfl ?_;refine o7 rfl rfl rfl ?_;refine o7 rfl rfl rfl ?_;refine o7 rfl rfl (a1o (a0r (UInt8.toNat_lt b)) rfl) ?_;refine a0G rfl rfl rfl ((b08 b (by simp)).trans (congrArg some hc)) ?_;refine a1U rfl rfl (cp_ok (B:=BUF s (i+1)) (n:=(esc s).length-(esc (s.take i)).length) rfl (by omega) (by omega) (c7v g89 hb he)) ?_;refine o7 rfl rfl (addE (k:=2) hL (by omega)) ?_;refine o7 rfl rfl rfl ?_;refine H9 ?_;refine p9 ?_;refine o7 rfl rfl rfl ?_;refine o7 rfl rfl (add1 (by omega)) ?_;refine o7 rfl rfl rfl ?_;refine H9 ?_;exact⟨[(0,.ptr 0 0),(1,.str s),(12,.rslice 2 0 (esc s).length true),(13,.int .i64 (((esc (s.take (i+1))).length:Nat):Int)),(14,.int .i64 (((i+1):Nat):Int))],[(0,.row RR),(1,.grow 1 TR),(2,.grow 1 (BUF s (i+1)))],by kernel_rfl,ih (i+1) (by omega) (by omega)⟩
     ·refine a0G rfl rfl rfl ((b08 b (by simp)).trans (congrArg some hc)) ?_;refine o7 rfl rfl rfl ?_;refine H9 ?_;refine a3L rfl (rfl) ?_;refine F3 ?_;refine p9 ?_;refine o7 rfl rfl rfl ?_;refine o7 rfl rfl rfl ?_;refine o7 rfl rfl rfl ?_;have hL:(esc (s.take (i+1))).length =(esc (s.take i)).length+1:=by rw[htk,he,List.length_append];rfl
      refine o7 rfl rfl (a1o (a0r (by omega)) rfl) ?_;refine c1i rfl rfl rfl rfl (st_ok (B:=BUF s (i+1)) rfl (by omega) (c7t g89 hb he)) ?_;refine H9 ?_;refine p9 ?_;refine o7 rfl rfl rfl ?_;refine o7 rfl rfl (addE (k:=1) hL (by omega)) ?_;refine o7 rfl rfl rfl ?_;refine H9 ?_;refine p9 ?_;refine o7 rfl rfl rfl ?_;refine o7 rfl rfl (add1 (by omega)) ?_;refine o7 rfl rfl rfl ?_;refine H9 ?_;exact⟨[(0,.ptr 0 0),(1,.str s),(12,.rslice 2 0 (esc s).length true),(13,.int .i64 (((esc (s.take (i+1))).length:Nat):Int)),(14,.int .i64 (((i+1):Nat):Int))],[(0,.row RR),(1,.grow 1 TR),(2,.grow 1 (BUF s (i+1)))],by kernel_rfl,ih (i+1) (by omega) (by omega)⟩
    ·replace g89:¬i<s.length:=by simpa [ltN]using g89
     obtain rfl:i=s.length:=by omega
     refine a4k ?_;refine⟨[(12,.slice .sealed (esc s).length ((BUF s s.length).take ((esc s).length*1)))],[(0,.row RR),(1,.grow 1 TR)],by kernel_rfl,?_⟩;refine F3 ?_;refine p9 ?_;refine o7 rfl rfl rfl ?_;refine b8c rfl rfl rfl (cv_ok s) ?_;refine o7 rfl rfl rfl ?_;refine H9 ?_;exact O5 ⟨_,rfl,by kernel_rfl⟩
end Go.Proofs.YtmippldlhnajkaaGreatDoor.Rp
namespace Go.Proofs.YtmippldlhnajkaaGreatDoor.Rp
open Go Go.Vm
theorem c3L {env:Env}{orc:Orc}{H:Hp}{k g:Nat}{args ac:List V}{ns:List Nat}{H3 H4 Hc:Hp}{v v4:V}(hq:env.quiet g=false)(hp:b0b env g args H=some (ns,ac,Hc))(hc:orc (.call g ac) Hc=some (.ret v H3))(h7:a6Z (a1p (K4 ns k) dep v)=some v4)
  (h8:Z8 (a1T (K4 ns k) H3 H)=some H4) (h9:a5d H H3 k ns.length=true):X7 env orc k g args H=some (.val v4 H4):=by
 rw[a2c]at h8;rw[b05]at h7;obtain⟨Q9,H2,h1,h2,h3,h4⟩:=a8Q hp;simp only[X7,hq,h1,h2,h3,h4,hc,h7,h8,h9]
theorem c9k {env:Env}{orc:Orc}{ops:Array Oper}{o:Oper}{rest:List Oper}{fr:Fr}{H H1:Hp}{K:Res->Prop}{rc:Operand}{m:String}{args:Array Operand}{at_:Array TypeId}{t g:Nat}{v0 v:V}{l:List V}
  (hw:E8 ops o fr=some true) (ho:o.op=.call ⟨.invoke rc m,args,at_⟩) (hr:ev fr rc=some (.iface t v0)) (hl:evL fr args.toList=some l) (hm:env.meth t m=some g) (hc:X7 env orc (newName o) g (v0::l) H=some (.val v H1))
  (h:Go.Vm.Os env orc ops rest (U9 o.dst v fr) H1 K):Go.Vm.Os env orc ops (o::rest) fr H K:=by
 have hp:N8 o.op=false:=by rw[ho];rfl
 refine a1U hw hp (v:=v) (H1:=H1) ?_ h;unfold U4;rw[ho];simp only[hr,hl,hm,hc]
theorem do_E:E env (.call 175 [.ptr 0 0,.func (.func 176) [.ptr 0 0] []]) [(0,.row [.int .u32 0,.int .i32 0,.int .u32 0,.nilIface,.slice (.tag 1) 8 pairs]),(1,.tip 1 8)]=some (.ret (.tuple []) [(0,.row [.int .u32 1,.int .i32 0,.int .u32 0,.iface 212 (.ptr 2 0),.slice .nil 0 []]),(1,.tip 1 8),(2,.row ((List.range 256).map cell++[.rslice 3 0 4 true])),(3,.grow 1 TR)]) :=
 E_via (g':=176) (l:=[.ptr 0 0]) (H':=[(0,.row [.int .u32 0,.int .i32 1,.int .u32 0,.nilIface,.slice (.tag 1) 8 pairs]),(1,.tip 1 8)]) rfl (by kernel_rfl) bu_E (by kernel_rfl)
theorem rp_E (s:List UInt8)(hs:s.length<=1000000):E env (.call 143 [.ptr 0 0,.str s]) [(0,.row [.int .u32 0,.int .i32 0,.int .u32 0,.nilIface,.slice (.tag 1) 8 pairs]),(1,.tip 1 8)]=some (.ret (.str (esc s)) [(0,.row [.int .u32 1,.int .i32 0,.int .u32 0,.iface 212 (.ptr 2 0),.slice .nil 0 []]),(1,.tip 1 8),(2,.row ((List.range 256).map cell++[.rslice 3 0 4 true])),(3,.grow 1 TR)]):=by
 refine a1r (env:=env) rfl Tryz.func143 rfl rfl ?_;refine F3 ?_;refine p9 ?_;refine o7 rfl rfl rfl ?_;refine H9 ?_;refine F3 ?_;refine p9 ?_;refine o7 rfl rfl rfl ?_;refine o7 rfl rfl rfl ?_;refine o7 rfl rfl rfl ?_;refine o7 rfl rfl rfl ?_;refine o7 rfl rfl rfl ?_;refine c2E (v:=.tuple []) (H1:=[(0,.row [.int .u32 1,.int .i32 0,.int .u32 0,.iface 212 (.ptr 704 0),.slice .nil 0 []]),(1,.tip 1 8),(704,.row ((List.range 256).map cell++[.rslice 705 0 4 true])),(705,.grow 1 TR)]) rfl rfl rfl (b1Q (ns:=[0,1]) (ac:=[.ptr 0 0,.func (.func 176) [.ptr 0 0] []]) (Hc:=[(0,.row [.int .u32 0,.int .i32 0,.int .u32 0,.nilIface,.slice (.tag 1) 8 pairs]),(1,.tip 1 8)]) rfl (by kernel_rfl) do_E (by kernel_rfl) (by kernel_rfl) (by kernel_rfl)) ?_;refine H9 ?_;refine F3 ?_;refine p9 ?_;refine o7 rfl rfl rfl ?_;refine o7 rfl rfl rfl ?_;refine o7 rfl rfl rfl ?_;refine a0G rfl rfl rfl (v:=.iface 212 (.ptr 704 0)) (by kernel_rfl) ?_;refine o7 rfl rfl rfl ?_;refine c9k (g:=319) (v:=.str (esc s)) (H1:=[(0,.row [.int .u32 1,.int .i32 0,.int .u32 0,.iface 212 (.ptr 704 0),.slice .nil 0 []]),(1,.tip 1 8),(704,.row ((List.range 256).map cell++[.rslice 705 0 4 true])),(705,.grow 1 TR)]) rfl rfl rfl rfl rfl (c3L (ns:=[704,705]) (ac:=[.ptr 0 0,.str s]) (Hc:=[(0,.row RR),(1,.grow 1 TR)]) rfl (by kernel_rfl) (bs_E s hs) (by kernel_rfl) (by kernel_rfl) (by kernel_rfl)) ?_;refine o7 rfl rfl rfl ?_;refine H9 ?_;exact O5 ⟨.str (esc s),by kernel_rfl,by kernel_rfl⟩
theorem esc_E (s:List UInt8)(hs:s.length<=1000000):E env (.call 78 [.str s]) []=some (.ret (.str (esc s)) []):=by
 refine a1r (env:=env) rfl Tryz.func78 rfl rfl ?_;refine F3 ?_;refine p9 ?_;refine o7 rfl rfl rfl ?_;refine H9 ?_;refine F3 ?_;refine p9 ?_;refine o7 rfl rfl rfl ?_;refine c2E (v:=.ptr 320 0) (H1:=[(320,.row [.int .u32 0,.int .i32 0,.int .u32 0,.nilIface,.slice (.tag 321) 8 pairs]),(321,.tip 1 8)]) rfl rfl rfl (b1Q (ns:=[]) (ac:=[.slice .sealed 8 pairs]) (Hc:=[]) rfl (by kernel_rfl) nr_E (by kernel_rfl) (by kernel_rfl) (by kernel_rfl)) ?_;refine o7 rfl rfl rfl ?_;refine c2E (v:=.str (esc s)) (H1:=[(320,.row [.int .u32 1,.int .i32 0,.int .u32 0,.iface 212 (.ptr 448 0),.slice .nil 0 []]),(321,.tip 1 8),(448,.row ((List.range 256).map cell++[.rslice 449 0 4 true])),(449,.grow 1 TR)]) rfl rfl rfl (b1Q (ns:=[320,321]) (ac:=[.ptr 0 0,.str s]) (Hc:=[(0,.row [.int .u32 0,.int .i32 0,.int .u32 0,.nilIface,.slice (.tag 1) 8 pairs]),(1,.tip 1 8)]) rfl (by kernel_rfl) (rp_E s hs) (by kernel_rfl) (by kernel_rfl) (by kernel_rfl)) ?_;refine o7 rfl rfl rfl ?_;refine H9 ?_;exact O5 ⟨.str (esc s),by kernel_rfl,by kernel_rfl⟩
def escF:List V->Option V:=fun args=>match args with
 | [.str s]=>match leN s.length 1000000 with
  | true=>some (.str (esc s))
  | false=>none
 | _=>none
theorem b8G:a6A Tryz.prog 78 (b0T escF):=by
 refine c3m b4X (fun args v h=>?_) ⟨_,_,Tryz.func78,by kernel_rfl,rfl⟩;unfold escF at h;split at h
 ·rename_i s;split at h
  ·rename_i hs;cases h;exact⟨rfl,rfl,esc_E s (a5L hs)⟩
  ·cases h
 ·cases h
end Go.Proofs.YtmippldlhnajkaaGreatDoor.Rp
namespace Go.Proofs
open Go.Shelf
def Tryz.c2y:Go.Shelf.Ren:=⟨fun|171=>84|243=>148|246=>178|283=>201|284=>202|285=>203|286=>204|129=>228|317=>227|318=>229|319=>230|320=>231|337=>248|338=>249|n=>n,fun|3=>3|9=>9|2=>2|4=>4|171=>183|0=>0|53=>184|37=>54|5=>5|173=>187|212=>215|51=>163|20=>20|213=>216|46=>217|232=>247|233=>248|n=>n,fun|17=>1|18=>2|19=>3|n=>n⟩
theorem Tryz.laysM171:Go.Proofs.LaysM.n171 Tryz.prog Tryz.c2y:={
 mixed:=by kernel_rfl
 f129:=Tryz.func228.trans (congrArg some (by kernel_rfl))
 f171:=Tryz.func84.trans (congrArg some (by kernel_rfl))
 f243:=Tryz.func148.trans (congrArg some (by kernel_rfl))
 f246:=Tryz.func178.trans (congrArg some (by kernel_rfl))
 f283:=Tryz.func201.trans (congrArg some (by kernel_rfl))
 f284:=Tryz.func202.trans (congrArg some (by kernel_rfl))
 f285:=Tryz.func203.trans (congrArg some (by kernel_rfl))
 f286:=Tryz.func204.trans (congrArg some (by kernel_rfl))
 f317:=Tryz.func227.trans (congrArg some (by kernel_rfl))
 f318:=Tryz.func229.trans (congrArg some (by kernel_rfl))
 f319:=Tryz.func230.trans (congrArg some (by kernel_rfl))
 f320:=Tryz.func231.trans (congrArg some (by kernel_rfl))
 f337:=Tryz.func248.trans (congrArg some (by kernel_rfl))
 f338:=Tryz.func249.trans (congrArg some (by kernel_rfl))
 t0:=Tryz.underlying0
 a0:=Tryz.isAgg0
 z0:=Tryz.sizeOf0
 v0:=Tryz.zeroValue0
 t2:=Tryz.underlying2
 a2:=Tryz.isAgg2
 z2:=Tryz.sizeOf2
 v2:=Tryz.zeroValue2
 t3:=Tryz.underlying3
 a3:=Tryz.isAgg3
 z3:=Tryz.sizeOf3
 v3:=Tryz.zeroValue3
 t4:=Tryz.underlying4
 a4:=Tryz.isAgg4
 z4:=Tryz.sizeOf4
 v4:=Tryz.zeroValue4
 t5:=Tryz.underlying5
 a5:=Tryz.isAgg5
 z5:=Tryz.sizeOf5
 v5:=Tryz.zeroValue5
 t9:=Tryz.underlying9
 a9:=Tryz.isAgg9
 z9:=Tryz.sizeOf9
 v9:=Tryz.zeroValue9
 t20:=Tryz.underlying20
 a20:=Tryz.isAgg20
 z20:=Tryz.sizeOf20
 v20:=Tryz.zeroValue20
 t37:=Tryz.underlying54
 a37:=Tryz.isAgg54
 z37:=Tryz.sizeOf54
 v37:=Tryz.zeroValue54
 t46:=Tryz.underlying217
 a46:=Tryz.isAgg217
 z46:=Tryz.sizeOf217
 v46:=Tryz.zeroValue217
 t51:=Tryz.underlying163
 a51:=Tryz.isAgg163
 z51:=Tryz.sizeOf163
 v51:=Tryz.zeroValue163
 t53:=Tryz.underlying184
 a53:=Tryz.isAgg184
 z53:=Tryz.sizeOf184
 v53:=Tryz.zeroValue184
 t171:=Tryz.underlying183
 a171:=Tryz.isAgg183
 z171:=Tryz.sizeOf183
 v171:=Tryz.zeroValue183
 t173:=Tryz.underlying187
 a173:=Tryz.isAgg187
 z173:=Tryz.sizeOf187
 v173:=Tryz.zeroValue187
 t212:=Tryz.underlying215
 a212:=Tryz.isAgg215
 z212:=Tryz.sizeOf215
 v212:=Tryz.zeroValue215
 t213:=Tryz.underlying216
 a213:=Tryz.isAgg216
 z213:=Tryz.sizeOf216
 t232:=Tryz.underlying247
 a232:=Tryz.isAgg247
 z232:=Tryz.sizeOf247
 v232:=Tryz.zeroValue247
 t233:=Tryz.underlying248
 a233:=Tryz.isAgg248
 z233:=Tryz.sizeOf248
 v233:=Tryz.zeroValue248
 g17:=by kernel_rfl
 g18:=by kernel_rfl
 g19:=by kernel_rfl
 i0:=by kernel_rfl
 i2:=by kernel_rfl
 i3:=by kernel_rfl
 i4:=by kernel_rfl
 i5:=by kernel_rfl
 i9:=by kernel_rfl
 i20:=by kernel_rfl
 i37:=by kernel_rfl
 i46:=by kernel_rfl
 i51:=by kernel_rfl
 i53:=by kernel_rfl
 i171:=by kernel_rfl
 i173:=by kernel_rfl
 i212:=by kernel_rfl
 i232:=by kernel_rfl
 i233:=by kernel_rfl
 m17:=by kernel_rfl
 m18:=by kernel_rfl
 m19:=by kernel_rfl}
open Go.RowKit Go.Sort Go.Lib in
theorem Tryz.strconv_Itoa (n:Int) (h0:-9223372036854775808<=n) (h1:n<=9223372036854775807) (w:World) (htab:Lib.TabIs Tryz.prog w "internal/strconv.uint64pow10" .u64 Lib.pow10Tab) :
  Calls Tryz.prog 84 #[.int .i64 n] w fun e w'=>e=.returned (.string ⟨(Lib.itoa n).toArray⟩) /\ ∃k os,w'=grow (w.drewN k) os:=Any.strconv_Itoa Tryz.laysM171 n h0 h1 w htab
end Go.Proofs
namespace Go.Proofs.YtmippldlhnajkaaGreatDoor
open Go Go.Vm
def rngB (n:Int):Bool:=decide (-9223372036854775808<=n)&&decide (n<=9223372036854775807)
def c4e:List V->Option V
 | [.int .i64 n]=>match rngB n with
  | true=>some (.str (Lib.itoa n))
  | false=>none
 | _=>none
theorem tab_at {w:World} (h:KpW w):Lib.TabIs Tryz.prog w "internal/strconv.uint64pow10" .u64 Lib.pow10Tab:=by
 obtain⟨_,t,fr,h⟩:=h;unfold Lib.TabIs World.var?;rw[show Tryz.prog.globalNamed "internal/strconv.uint64pow10" = some kpG by kernel_rfl];simp only[Option.bind_some,h];rfl
theorem c0Y:a6A Tryz.prog 84 (b0T c4e):=by
 refine⟨fun args H out h ρ lab w xs hc hS hx=>?_,⟨_,_,Tryz.func84,rfl,rfl⟩⟩;unfold b0T c4e at h;split at h
 ·rename_i v hv;cases h;split at hv
  ·rename_i n;split at hv
   ·rename_i hb;cases hv;simp only[rngB,Bool.and_eq_true,decide_eq_true_eq]at hb;obtain⟨x1,r1,rfl,a1,a2⟩:=D9.1 hx;have:r1=[]:=by have:=a2.1;simpa using this
    subst this;cases a1;refine(Tryz.strconv_Itoa n hb.1 hb.2 w (tab_at hS.kp.1)).mono fun e w' ⟨he,k,os,hw⟩=>?_;subst he hw;have hg:a0U w (Go.Sort.grow (w.drewN k) os):=b48 (Lib.below_grow _ w (Nat.le_refl _) k os);exact⟨ρ,lab,hS.grew hg,hg.ext lab,⟨fun _ _ _ h=>h,fun _ _ _ _ h=>h⟩,.str _,hc,Nat.le_refl _⟩
   ·cases hv
  ·cases hv
 ·cases h
theorem c3S:∀(k u:Nat),u<10^(k+1)->Lib.nDigits u<=k+1
 | 0,u,h=>by rw[Lib.nDigits_small (by simpa using h)];omega
 | k+1,u,h=>by
  by_cases hu:u<10
  ·rw[Lib.nDigits_small hu];omega
  ·rw[Lib.nDigits_big hu];have:=c3S k (u/10) (by rw[Nat.div_lt_iff_lt_mul (by omega),<-Nat.pow_succ];exact h);omega
theorem b3A {n:Int}(h:rngB n=true):1 <=(Lib.itoa n).length/\(Lib.itoa n).length<=30:=by
 simp only[rngB,Bool.and_eq_true,decide_eq_true_eq]at h;have d:∀u:Nat,u<=9223372036854775808->1 <=(Lib.decDigits u).length/\(Lib.decDigits u).length<=20:=fun u hu=>by
  rw[Lib.decDigits_length];exact⟨Lib.nDigits_pos u,c3S 19 u (by omega)⟩
 unfold Lib.itoa;split
 ·have:=d n.natAbs (by omega);simp only[List.length_cons];omega
 ·have:=d n.toNat (by omega)
  omega
end Go.Proofs.YtmippldlhnajkaaGreatDoor
namespace Go.Proofs.YtmippldlhnajkaaGreatDoor
open Go Go.Vm
def cvTok (t:Sc.Tok):Tok:=⟨t.k,t.t,(t.a:Nat),(t.l:Nat)⟩
def b37:Sc.MR->List Tok | .done l=>l.map cvTok|_=>[]
def tokC:Sc.MR->Int | .err c _=>c|_=>0
def tokA:Sc.MR->Int | .err _ a=>(a:Nat)|_=>0
theorem c3P:∀l:List Sc.Tok,D8 (l.map cvTok)=Sc.b1S l
 | []=>rfl
 | t::r=>by
  rw[List.map_cons,c6k.cons,c3P r];rfl
theorem tokV_cv {r:Sc.MR}(h:Sc.RBd r):Sc.b6o r=.tuple [.slice .sealed (List.length (b37 r)) (D8 (b37 r)),.agg [.int .i64 (tokC r),.int .i64 (tokA r)]]:=by
 cases r with
 | go x=>exact h.elim
 | done l =>
  simp only[b37,Sc.b6o,c3P,List.length_map,tokC,tokA]
 | err c a=>rfl
theorem tok_call {env:Env}{g:Nat}{s:Str}(hi:env.intr g=some (.plain (b0T Sc.tokF)))(h:Sc.RBd (Sc.a7X s)) :
  E env (.call g [.str s]) []=some (.ret (.tuple [.slice .sealed (List.length (b37 (Sc.a7X s))) (D8 (b37 (Sc.a7X s))),.agg [.int .i64 (tokC (Sc.a7X s)),.int .i64 (tokA (Sc.a7X s))]]) []):=by
 refine a6X hi ?_;rw[<-tokV_cv h];rfl
theorem tokL_len (s:Str):(b37 (Sc.a7X s)).length<=3000:=by
 have h:=(Sc.b8i s).1;generalize Sc.a7X s=r at h;cases r with
 | go x=>exact h.elim
 | done l=>simpa [b37,Sc.RBd]using h
 | err c a=>simp[b37]
end Go.Proofs.YtmippldlhnajkaaGreatDoor
