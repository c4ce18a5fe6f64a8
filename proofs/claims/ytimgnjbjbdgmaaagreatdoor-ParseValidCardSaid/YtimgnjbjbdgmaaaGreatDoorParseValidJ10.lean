/- Texts of ParseValid, joined. -/
import Derived.Test.YtimgnjbjbdgmaaaGreatDoorParseValidJ9
import Derived.Shelf.Strconv.Itoa0
import Derived.Shelf.Strconv.Itoa1
import Derived.Shelf.LaysM
import Derived.Shelf.Strconv.Itoa2
import Derived.Shelf.Strconv.Itoa3
import Derived.Test.YtimgnjbjbdgmaaaGreatDoorProg
import Derived.Lib.AppendIntMem
set_option maxRecDepth 100000
set_option maxHeartbeats 20000000
set_option linter.all false
namespace Go.Proofs.YtimgnjbjbdgmaaaGreatDoor.Rp
open Go Go.Vm
variable {H:Hp} {s:List UInt8} {B cs:List V} {i j m n off:Nat} {b:UInt8}
def b09 (b:UInt8):List UInt8:=if b=10 then [92,110]else if b=9 then [92,116]else if b=92 then [92,92]else if b=34 then [92,34]else [b]
def esc (s:List UInt8):List UInt8:=s.flatMap b09
def cn (s:List UInt8):Nat->Nat|0=>0|1=>s.count 34|2=>s.count 34+s.count 92|3=>s.count 34+s.count 92+s.count 9|_=>s.count 34+s.count 92+s.count 9+s.count 10
theorem b2Z (b:UInt8)(s:List UInt8):esc (b::s)=b09 b++esc s:=by simp[esc]
theorem c1r (a b:List UInt8):esc (a++b)=esc a++esc b:=by simp[esc]
theorem c5p (h1:b≠10)(h2:b≠9)(h3:b≠92)(h4:b≠34):cell b.toNat=.slice .nil 0 []:=by
 have k1:b.toNat≠10:=fun h=>h1 (UInt8.toNat_inj.1 h);have k2:b.toNat≠9:=fun h=>h2 (UInt8.toNat_inj.1 h);have k3:b.toNat≠92:=fun h=>h3 (UInt8.toNat_inj.1 h);have k4:b.toNat≠34:=fun h=>h4 (UInt8.toNat_inj.1 h);unfold cell;split<;>first|contradiction|rfl
theorem a90 (b:UInt8):(∃c:UInt8,cell b.toNat=.slice .sealed 2 [.int .u8 92,.int .u8 ((c.toNat:Nat):Int)]/\b09 b=[92,c])∨(cell b.toNat=.slice .nil 0 []/\b09 b=[b]):=by
 by_cases h1:b=10
 ·subst h1;exact .inl ⟨110,rfl,rfl⟩
 by_cases h2:b=9
 ·subst h2;exact .inl ⟨116,rfl,rfl⟩
 by_cases h3:b=92
 ·subst h3;exact .inl ⟨92,rfl,rfl⟩
 by_cases h4:b=34
 ·subst h4;exact .inl ⟨34,rfl,rfl⟩
 exact .inr ⟨c5p h1 h2 h3 h4,by simp only[b09,if_neg h1,if_neg h2,if_neg h3,if_neg h4]⟩
theorem b8d (b:UInt8):1 <=(b09 b).length/\(b09 b).length<=2:=by
 rcases a90 b with⟨c,_,h⟩ |⟨_,h⟩<;>rw[h]<;>simp
theorem c5A:∀s,s.length <=(esc s).length
 | []=>Nat.le_refl _
 | b::s=>by have:=c5A s;have:=b8d b;rw[b2Z,List.length_append,List.length_cons];omega
theorem b22:∀s,(esc s).length<=2*s.length
 | []=>Nat.le_refl _
 | b::s=>by have:=b22 s;have:=b8d b;rw[b2Z,List.length_append,List.length_cons];omega
theorem b7A:∀s,(esc s).length=s.length+(s.count 34+s.count 92+s.count 9+s.count 10)
 | []=>rfl
 | b::s=>by
  have ih:=b7A s;rw[b2Z,List.length_append,ih];simp only[List.count_cons,List.length_cons];by_cases h1:b=10
  ·subst h1;simp[b09];omega
  by_cases h2:b=9
  ·subst h2;simp[b09];omega
  by_cases h3:b=92
  ·subst h3;simp[b09];omega
  by_cases h4:b=34
  ·subst h4;simp[b09];omega
  simp[b09,h1,h2,h3,h4];omega
theorem b8e:∀{s:List UInt8},¬s.length<(esc s).length->esc s=s
 | [],_=>rfl
 | b::s,h=>by
  have h0:=c5A s;have h1:=b8d b;rw[b2Z,List.length_append,List.length_cons]at h;rcases a90 b with⟨c,_,he⟩ |⟨_,he⟩
  ·rw[he]at h;simp at h;omega
  rw[b2Z,he,b8e (s:=s) (by rw[he]at h;simp at h;omega)];rfl
theorem b1a (h:i<s.length):esc (s.take (i+1))=esc (s.take i)++b09 (s.getD i 0):=by
 rw[List.take_succ_eq_append_getElem h,c1r];congr 1;simp[esc,h]
theorem b3M (s:List UInt8)(i:Nat):(esc (s.take i)).length <=(esc s).length:=by
 conv=>rhs;rw[<-List.take_append_drop i s,c1r,List.length_append]
 omega
theorem cn_le (s:List UInt8):∀k,cn s k<=4*s.length:=by
 have a:=List.count_le_length (a:=(34:UInt8)) (l:=s);have b:=List.count_le_length (a:=(92:UInt8)) (l:=s);have c:=List.count_le_length (a:=(9:UInt8)) (l:=s);have d:=List.count_le_length (a:=(10:UInt8)) (l:=s);intro k;unfold cn;split<;>omega
theorem RR_get (b:UInt8):RR[b.toNat]? = some (cell b.toNat):=by
 have:=UInt8.toNat_lt b;unfold RR;rw[List.getElem?_append_left (by simp;omega),List.getElem?_map,List.getElem?_range zOm];rfl
theorem RR_256:RR[256]? = some (.rslice 1 0 4 true):=zKr
theorem b1h (b:UInt8)(ho:off=b.toNat):a6s env.T 53 (.ptr 0 off) ((0,.row RR)::H)=some (cell b.toNat):=by
 subst ho;exact RR_get b
theorem ld_TL:a6s env.T 57 (.ptr 0 (0+256)) ((0,.row RR)::H)=some (.rslice 1 0 4 true):=RR_256
theorem ct_E (s:List UInt8)(c:UInt8):E env (.call 313 [.str s,.str [c]]) []=some (.ret (.int .i64 ((s.count c:Nat):Int)) []):=a7f (h:=c1j) rfl rfl
theorem mul1 {a:Nat}(h:a<9223372036854775808):a5E (some (.int .i64 (IntKind.wrap .i64 ((a:Int)*1))))=some (.int .i64 (a:Nat)):=by
 rw[Int.mul_one,wrap64 zOm zOm];rfl
theorem addE {k:Nat}(h:m=j+k)(hb:j+k<9223372036854775808):a5E (some (.int .i64 (IntKind.wrap .i64 ((j:Int)+(k:Int)))))=some (.int .i64 (m:Nat)):=by
 rw[h];exact addN hb
theorem c5Y (n:Nat){x:Option V}(h:x=match gd (ltB 0 ((m+1:Nat):Int)) (some false)with|some b=>some (.bool (!b))|none=>none):a5E x=some (.bool true):=by
 rw[h];have:ltB 0 ((m+1:Nat):Int)=true:=by simp only[ltB,decide_eq_true_eq];omega
 rw[this];rfl
theorem c0C {env:Env}{orc:Orc}{ops:Array Oper}{o:Oper}{rest:List Oper}{fr:Fr}{H1:Hp}{K:Res->Prop}{t:Nat}{a b:Operand}{x v:V}(hw:G6 ops o fr=some true)(ho:o.op=.store t a b)(ha:ev fr a=some x)(hb:ev fr b=some v)(hs:a7e env.T t x v H=some H1)(h:Go.Vm.Os env orc ops rest (Y5 o.dst .undef fr) H1 K):Go.Vm.Os env orc ops (o::rest) fr H K:=by
 refine a3t hw (by rw[ho];rfl) (v:=.undef) (H1:=H1) ?_ h;unfold X6;rw[ho];simp only[ha,hb,hs]
def BUF (s:List UInt8)(i:Nat):List V:=a1n (esc (s.take i))++List.replicate ((esc s).length-(esc (s.take i)).length) (.int .u8 0)
theorem c6I (s:List UInt8)(i:Nat):(BUF s i).length =(esc s).length:=by
 have:=b3M s i;simp only[BUF,List.length_append,a1n,List.length_map,List.length_replicate];omega
theorem set_mid {α:Type}(a new:List α)(z:α)(h:new.length<=n):(a++List.replicate n z).take a.length++new ++(a++List.replicate n z).drop (a.length+new.length)=a++new++List.replicate (n-new.length) z:=by
 rw[List.take_left,List.drop_append,List.drop_eq_nil_of_le zOm,List.nil_append,List.drop_replicate];congr 2;omega
theorem c6K (h:i<s.length)(hb:s.getD i 0=b){news:List V}(hn:news=a1n (b09 b))(ho:off =(esc (s.take i)).length):R9 (BUF s i) off news=BUF s (i+1):=by
 have h1:=b1a h;rw[hb]at h1;have h2:=b3M s (i+1);rw[h1,List.length_append]at h2;have h3:(esc (s.take i)).length =(a1n (esc (s.take i))).length:=by simp[a1n]
 have h4:news.length =(b09 b).length:=by rw[hn];simp[a1n]
 subst ho;unfold R9 BUF;rw[h3,set_mid _ _ _ zOm,hn,h1];simp only[a1n,List.map_append,List.length_append,List.length_map];congr 2;omega
theorem c6L (h:i<s.length){c:UInt8}(hb:s.getD i 0=b)(he:b09 b=[92,c]):R9 (BUF s i) (0+(esc (s.take i)).length*1) [.int .u8 92,.int .u8 ((c.toNat:Nat):Int)]=BUF s (i+1):=c6K h hb (by rw[he];rfl) zOm
theorem c6J (h:i<s.length)(hb:s.getD i 0=b)(he:b09 b=[b]):R9 (BUF s i) (0+(esc (s.take i)).length*1) [.int .u8 ((b.toNat:Nat):Int)]=BUF s (i+1):=c6K h hb (by rw[he];rfl) zOm
theorem cp_ok {a b:V} {G:Hp} (hG:G = [(0,.row RR),(1,.grow 1 TR),(2,.grow 1 cs)]) (h1:2 <= n) (h2:j + 2 <= cs.length) (hB:R9 cs (0 + j * 1) [a,b] = B) :
    c01 env.T 53 (.rslice 2 (0+j*1) n false) (.slice .sealed 2 [a,b]) G=some (.val (.int .i64 ((2:Nat):Int)) [(0,.row RR),(1,.grow 1 TR),(2,.grow 1 B)]):=by
  subst hG;have e:c01 env.T 53 (.rslice 2 (0+j*1) n false) (.slice .sealed 2 [a,b]) [(0,.row RR),(1,.grow 1 TR),(2,.grow 1 cs)] =(match gd (eqN (2*1) [a,b].length) (some (2,[a,b]))with
    | some (m,news)=>(match Nat.beq m 0 with
        | true=>some (OpR.val (.int .i64 0) [(0,.row RR),(1,.grow 1 TR),(2,.grow 1 cs)])
        | false=>gd (leN m n&&leN (0+j*1+m*1) cs.length) (some (.val (.int .i64 (m:Int)) [(0,.row RR),(1,.grow 1 TR),(2,.grow 1 (R9 cs (0+j*1) news))])))
    | none=>none):=zKr
  rw[e,a2d (show 2*1=[a,b].length from rfl)];simp only[gd];rw[a9s h1,a9s (show 0+j*1+2*1<=cs.length by omega),hB];rfl
theorem st_ok {b:Nat}{G:Hp}(hG:G=[(0,.row RR),(1,.grow 1 TR),(2,.grow 1 cs)])(h2:j+1<=cs.length)(hB:R9 cs (0+j*1) [.int .u8 (b:Int)]=B) :
  a7e env.T 5 (.ptr 2 (0+j*1)) (.int .u8 (b:Int)) G=some [(0,.row RR),(1,.grow 1 TR),(2,.grow 1 B)]:=by
 subst hG;have e:a7e env.T 5 (.ptr 2 (0+j*1)) (.int .u8 (b:Int)) [(0,.row RR),(1,.grow 1 TR),(2,.grow 1 cs)]=gd (leN (0+j*1+1) cs.length) (some [(0,.row RR),(1,.grow 1 TR),(2,.grow 1 (R9 cs (0+j*1) [.int .u8 (b:Int)]))]):=zKr;rw[e,a9s zOm,hB];rfl
theorem mk_ok (n:Nat)(hn:n<=4000000){G:Hp}(hG:G=[(0,.row RR),(1,.grow 1 TR)]):c04 env.T 53 (.int .i64 (n:Int)) (.int .i64 (n:Int)) G 5504=some (.val (.rslice 5504 0 n true) [(0,.row RR),(1,.grow 1 TR),(5504,.grow 1 (List.replicate n (.int .u8 0)))]):=by
 subst hG;have e:c04 env.T 53 (.int .i64 (n:Int)) (.int .i64 (n:Int)) [(0,.row RR),(1,.grow 1 TR)] 5504=gd (leB 0 (n:Int)&&leB (n:Int) (n:Int)&&leB ((n:Int)*((1:Nat)+1:Nat)) 70368744177664) (some (.val (.rslice 5504 0 n true) [(0,.row RR),(1,.grow 1 TR),(5504,.grow 1 (List.replicate n [.int .u8 0]).flatten)])):=zKr;rw[e];have h1:(leB 0 (n:Int)&&leB (n:Int) (n:Int)&&leB ((n:Int)*((1:Nat)+1:Nat)) 70368744177664)=true:=by simp only[leB,Bool.and_eq_true,decide_eq_true_eq];omega
 rw[h1];have h2:(List.replicate n [V.int .u8 0]).flatten=List.replicate n (.int .u8 0):=by
  induction n with
  | zero=>rfl
  | succ n ih=>rw[List.replicate_succ,List.flatten_cons,List.replicate_succ];simp[List.flatten_replicate_singleton]
 rw[h2];rfl
theorem cv_ok (s:List UInt8):b58 env.T 53 9 (.slice .sealed (esc s).length ((BUF s s.length).take ((esc s).length*1)))=some (.str (esc s)):=by
 have e:(BUF s s.length).take ((esc s).length*1)=a1n (esc s):=by
  unfold BUF;rw[List.take_length,Nat.sub_self,List.replicate_zero,List.append_nil,Nat.mul_one];exact List.take_of_length_le (by simp[a1n])
 rw[e];have e2:b58 env.T 53 9 (.slice .sealed (esc s).length (a1n (esc s))) =(match a7p (a1n (esc s))with|some l=>gd (eqN (esc s).length l.length) (some (.str l))|none=>none):=zKr;rw[e2,b46];simp only[a2d rfl,gd]
theorem bs_E (s:List UInt8)(hs:s.length<=1000000):E env (.call 311 [.ptr 0 0,.str s]) [(0,.row RR),(1,.grow 1 TR)]=some (.ret (.str (esc s)) [(0,.row RR),(1,.grow 1 TR)]):=by
 refine U3 (env:=env) rfl Tryz.func311 rfl rfl ?_;refine E8 ?_;refine A7 ?_;refine o7 rfl rfl rfl ?_;refine I4 ?_;refine E8 ?_;refine A7 ?_;refine o7 rfl rfl rfl ?_;refine o7 rfl rfl rfl ?_;refine o7 rfl rfl rfl ?_;refine I4 ?_;refine E8 ?_;refine A7 ?_;refine o7 rfl rfl rfl ?_;refine I4 ?_;refine E8 ?_;refine E8 ?_;refine A7 ?_;refine o7 rfl rfl rfl ?_;refine o7 rfl rfl rfl ?_;refine o7 rfl rfl rfl ?_;refine a0P rfl rfl rfl (v:=.rslice 1 0 4 true) ld_TL ?_;refine o7 rfl rfl rfl ?_;refine o7 rfl rfl rfl ?_;refine o7 rfl rfl rfl ?_;refine o7 rfl rfl rfl ?_;refine o7 rfl rfl rfl ?_;refine I4 ?_;refine O6 rfl (fun g26=>?_) (fun g26=>?_)
 ·refine E8 ?_;refine A7 ?_;refine o7 rfl rfl rfl ?_;refine o7 rfl rfl rfl ?_;refine o7 rfl rfl rfl ?_;refine a0P rfl rfl rfl (v:=.rslice 1 0 4 true) ld_TL ?_;refine o7 rfl rfl rfl ?_;refine o7 rfl rfl rfl ?_;refine I4 ?_;refine M8 ?_;refine a4M (fr1:=[(0,.ptr 0 0),(1,.str s),(5,.int .i64 ((s.length:Nat):Int)),(6,.bool false),(30,.rslice 1 0 4 true),(31,.int .i64 4),(32,.int .i64 ((0:Nat):Int))]) (H1:=[(0,.row RR),(1,.grow 1 TR)]) zKr ?_;refine a6N (fun x:Nat×Nat×Bool=>[(0,.ptr 0 0),(1,.str s),(5,.int .i64 ((x.2.1:Nat):Int)),(6,.bool x.2.2),(30,.rslice 1 0 4 true),(31,.int .i64 4),(32,.int .i64 ((x.1:Nat):Int))]) (fun _=>[(0,.row RR),(1,.grow 1 TR)]) (fun x=>x.1<=4/\x.2.1=s.length+cn s x.1/\x.2.2=decide (0<cn s x.1)) (fun x=>4-x.1) (0,s.length,false) ⟨zSi,rfl,rfl⟩ ?_;rintro⟨k,ns,any⟩ ⟨hk,hns,hany⟩ ih;simp only at hk hns hany ih ⊢;have hcn:=cn_le s k;rcases(by omega:k=0∨k=1∨k=2∨k=3∨k=4)with rfl|rfl|rfl|rfl|rfl
  ·have hc:=List.count_le_length (a:=(34:UInt8)) (l:=s);refine E8 ?_;refine A7 ?_;refine o7 rfl rfl rfl ?_;refine I4 ?_;refine E8 ?_;refine Y9 rfl (by simp[ltB]) ?_;refine H6 ?_;refine E8 ?_;refine M8 ?_;refine E8 ?_;refine A7 ?_;refine o7 rfl rfl (a0M (by simp[inR]) rfl) ?_;refine a0P rfl rfl rfl (v:=.str [34]) rfl ?_;refine o7 rfl rfl rfl ?_;refine I4 ?_;refine E8 ?_;refine A7 ?_;refine o7 rfl rfl rfl ?_;refine o7 rfl rfl rfl ?_;refine L9 rfl rfl rfl rfl rfl (ct_E s 34) rfl ?_;refine o7 rfl rfl rfl ?_;refine I4 ?_;refine E8 ?_;refine A7 ?_;refine o7 rfl rfl rfl ?_;refine o7 rfl rfl rfl ?_;refine I4 ?_;refine O6 rfl (fun g40=>?_) (fun g40=>?_)
   ·replace g40:s.count 34≠0:=by intro h;rw[h]at g40;simp[eqB]at g40
    refine E8 ?_;refine A7 ?_;refine o7 rfl rfl rfl ?_;refine o7 rfl rfl rfl ?_;refine o7 rfl rfl rfl ?_;refine o7 rfl rfl rfl ?_;refine o7 rfl rfl (a0M (by simp[inR]) (show _=some (.int .u8 (((34:UInt8).toNat:Nat):Int))from rfl)) ?_;refine o7 rfl rfl rfl ?_;refine o7 rfl rfl rfl ?_;refine o7 rfl rfl (a0M (by simp[inR]) rfl) ?_;refine a0P rfl rfl rfl (b1h 34 rfl) ?_;refine o7 rfl rfl rfl ?_;refine o7 rfl rfl rfl ?_;refine o7 rfl rfl (mul1 zOm) ?_;refine o7 rfl rfl (addN zOm) ?_;refine o7 rfl rfl rfl ?_;refine I4 ?_;refine A7 ?_;refine o7 rfl rfl rfl ?_;refine I4 ?_;refine A7 ?_;refine o7 rfl rfl rfl ?_;refine o7 rfl rfl rfl ?_;refine I4 ?_;exact⟨[(0,.ptr 0 0),(1,.str s),(5,.int .i64 ((ns+s.count 34:Nat):Int)),(6,.bool true),(30,.rslice 1 0 4 true),(31,.int .i64 4),(32,.int .i64 ((1:Nat):Int))],[(0,.row RR),(1,.grow 1 TR)],zKr,ih (1,ns+s.count 34,true) zSi ⟨zSi,by rw[hns];simp only[cn];omega,by simp only[cn];symm;simp only[decide_eq_true_eq];omega⟩⟩
   replace g40:s.count 34=0:=by simp only[eqB,Bool.not_eq_false',beq_iff_eq]at g40;omega
   refine H6 ?_;refine A7 ?_;refine o7 rfl rfl rfl ?_;refine o7 rfl rfl rfl ?_;refine I4 ?_;exact⟨[(0,.ptr 0 0),(1,.str s),(5,.int .i64 ((ns:Nat):Int)),(6,.bool any),(30,.rslice 1 0 4 true),(31,.int .i64 4),(32,.int .i64 ((1:Nat):Int))],[(0,.row RR),(1,.grow 1 TR)],zKr,ih (1,ns,any) zSi ⟨zSi,by rw[hns];simp only[cn];omega,by rw[hany];simp only[cn];congr 1;simp only[eq_iff_iff];omega⟩⟩
  ·have hc:=List.count_le_length (a:=(92:UInt8)) (l:=s);refine E8 ?_;refine A7 ?_;refine o7 rfl rfl rfl ?_;refine I4 ?_;refine E8 ?_;refine Y9 rfl (by simp[ltB]) ?_;refine H6 ?_;refine E8 ?_;refine M8 ?_;refine E8 ?_;refine A7 ?_;refine o7 rfl rfl (a0M (by simp[inR]) rfl) ?_;refine a0P rfl rfl rfl (v:=.str [92]) rfl ?_;refine o7 rfl rfl rfl ?_;refine I4 ?_;refine E8 ?_;refine A7 ?_;refine o7 rfl rfl rfl ?_;refine o7 rfl rfl rfl ?_;refine L9 rfl rfl rfl rfl rfl (ct_E s 92) rfl ?_;refine o7 rfl rfl rfl ?_;refine I4 ?_;refine E8 ?_;refine A7 ?_;refine o7 rfl rfl rfl ?_;refine o7 rfl rfl rfl ?_;refine I4 ?_;refine O6 rfl (fun g40=>?_) (fun g40=>?_)
   ·replace g40:s.count 92≠0:=by intro h;rw[h]at g40;simp[eqB]at g40
    refine E8 ?_;refine A7 ?_;refine o7 rfl rfl rfl ?_;refine o7 rfl rfl rfl ?_;refine o7 rfl rfl rfl ?_;refine o7 rfl rfl rfl ?_;refine o7 rfl rfl (a0M (by simp[inR]) (show _=some (.int .u8 (((92:UInt8).toNat:Nat):Int))from rfl)) ?_;refine o7 rfl rfl rfl ?_;refine o7 rfl rfl rfl ?_;refine o7 rfl rfl (a0M (by simp[inR]) rfl) ?_;refine a0P rfl rfl rfl (b1h 92 rfl) ?_;refine o7 rfl rfl rfl ?_;refine o7 rfl rfl rfl ?_;refine o7 rfl rfl (mul1 zOm) ?_;refine o7 rfl rfl (addN zOm) ?_;refine o7 rfl rfl rfl ?_;refine I4 ?_;refine A7 ?_;refine o7 rfl rfl rfl ?_;refine I4 ?_;refine A7 ?_;refine o7 rfl rfl rfl ?_;refine o7 rfl rfl rfl ?_;refine I4 ?_;exact⟨[(0,.ptr 0 0),(1,.str s),(5,.int .i64 ((ns+s.count 92:Nat):Int)),(6,.bool true),(30,.rslice 1 0 4 true),(31,.int .i64 4),(32,.int .i64 ((2:Nat):Int))],[(0,.row RR),(1,.grow 1 TR)],zKr,ih (2,ns+s.count 92,true) zSi ⟨zSi,by rw[hns];simp only[cn];omega,by simp only[cn];symm;simp only[decide_eq_true_eq];omega⟩⟩
   replace g40:s.count 92=0:=by simp only[eqB,Bool.not_eq_false',beq_iff_eq]at g40;omega
   refine H6 ?_;refine A7 ?_;refine o7 rfl rfl rfl ?_;refine o7 rfl rfl rfl ?_;refine I4 ?_;exact⟨[(0,.ptr 0 0),(1,.str s),(5,.int .i64 ((ns:Nat):Int)),(6,.bool any),(30,.rslice 1 0 4 true),(31,.int .i64 4),(32,.int .i64 ((2:Nat):Int))],[(0,.row RR),(1,.grow 1 TR)],zKr,ih (2,ns,any) zSi ⟨zSi,by rw[hns];simp only[cn];omega,by rw[hany];simp only[cn];congr 1;simp only[eq_iff_iff];omega⟩⟩
  ·have hc:=List.count_le_length (a:=(9:UInt8)) (l:=s);refine E8 ?_;refine A7 ?_;refine o7 rfl rfl rfl ?_;refine I4 ?_;refine E8 ?_;refine Y9 rfl (by simp[ltB]) ?_;refine H6 ?_;refine E8 ?_;refine M8 ?_;refine E8 ?_;refine A7 ?_;refine o7 rfl rfl (a0M (by simp[inR]) rfl) ?_;refine a0P rfl rfl rfl (v:=.str [9]) rfl ?_;refine o7 rfl rfl rfl ?_;refine I4 ?_;refine E8 ?_;refine A7 ?_;refine o7 rfl rfl rfl ?_;refine o7 rfl rfl rfl ?_;refine L9 rfl rfl rfl rfl rfl (ct_E s 9) rfl ?_;refine o7 rfl rfl rfl ?_;refine I4 ?_;refine E8 ?_;refine A7 ?_;refine o7 rfl rfl rfl ?_;refine o7 rfl rfl rfl ?_;refine I4 ?_;refine O6 rfl (fun g40=>?_) (fun g40=>?_)
   ·replace g40:s.count 9≠0:=by intro h;rw[h]at g40;simp[eqB]at g40
    refine E8 ?_;refine A7 ?_;refine o7 rfl rfl rfl ?_;refine o7 rfl rfl rfl ?_;refine o7 rfl rfl rfl ?_;refine o7 rfl rfl rfl ?_;refine o7 rfl rfl (a0M (by simp[inR]) (show _=some (.int .u8 (((9:UInt8).toNat:Nat):Int))from rfl)) ?_;refine o7 rfl rfl rfl ?_;refine o7 rfl rfl rfl ?_;refine o7 rfl rfl (a0M (by simp[inR]) rfl) ?_;refine a0P rfl rfl rfl (b1h 9 rfl) ?_;refine o7 rfl rfl rfl ?_;refine o7 rfl rfl rfl ?_;refine o7 rfl rfl (mul1 zOm) ?_;refine o7 rfl rfl (addN zOm) ?_;refine o7 rfl rfl rfl ?_;refine I4 ?_;refine A7 ?_;refine o7 rfl rfl rfl ?_;refine I4 ?_;refine A7 ?_;refine o7 rfl rfl rfl ?_;refine o7 rfl rfl rfl ?_;refine I4 ?_;exact⟨[(0,.ptr 0 0),(1,.str s),(5,.int .i64 ((ns+s.count 9:Nat):Int)),(6,.bool true),(30,.rslice 1 0 4 true),(31,.int .i64 4),(32,.int .i64 ((3:Nat):Int))],[(0,.row RR),(1,.grow 1 TR)],zKr,ih (3,ns+s.count 9,true) zSi ⟨zSi,by rw[hns];simp only[cn];omega,by simp only[cn];symm;simp only[decide_eq_true_eq];omega⟩⟩
   replace g40:s.count 9=0:=by simp only[eqB,Bool.not_eq_false',beq_iff_eq]at g40;omega
   refine H6 ?_;refine A7 ?_;refine o7 rfl rfl rfl ?_;refine o7 rfl rfl rfl ?_;refine I4 ?_;exact⟨[(0,.ptr 0 0),(1,.str s),(5,.int .i64 ((ns:Nat):Int)),(6,.bool any),(30,.rslice 1 0 4 true),(31,.int .i64 4),(32,.int .i64 ((3:Nat):Int))],[(0,.row RR),(1,.grow 1 TR)],zKr,ih (3,ns,any) zSi ⟨zSi,by rw[hns];simp only[cn];omega,by rw[hany];simp only[cn];congr 1;simp only[eq_iff_iff];omega⟩⟩
  ·have hc:=List.count_le_length (a:=(10:UInt8)) (l:=s);refine E8 ?_;refine A7 ?_;refine o7 rfl rfl rfl ?_;refine I4 ?_;refine E8 ?_;refine Y9 rfl (by simp[ltB]) ?_;refine H6 ?_;refine E8 ?_;refine M8 ?_;refine E8 ?_;refine A7 ?_;refine o7 rfl rfl (a0M (by simp[inR]) rfl) ?_;refine a0P rfl rfl rfl (v:=.str [10]) rfl ?_;refine o7 rfl rfl rfl ?_;refine I4 ?_;refine E8 ?_;refine A7 ?_;refine o7 rfl rfl rfl ?_;refine o7 rfl rfl rfl ?_;refine L9 rfl rfl rfl rfl rfl (ct_E s 10) rfl ?_;refine o7 rfl rfl rfl ?_;refine I4 ?_;refine E8 ?_;refine A7 ?_;refine o7 rfl rfl rfl ?_;refine o7 rfl rfl rfl ?_;refine I4 ?_;refine O6 rfl (fun g40=>?_) (fun g40=>?_)
   ·replace g40:s.count 10≠0:=by intro h;rw[h]at g40;simp[eqB]at g40
    refine E8 ?_;refine A7 ?_;refine o7 rfl rfl rfl ?_;refine o7 rfl rfl rfl ?_;refine o7 rfl rfl rfl ?_;refine o7 rfl rfl rfl ?_;refine o7 rfl rfl (a0M (by simp[inR]) (show _=some (.int .u8 (((10:UInt8).toNat:Nat):Int))from rfl)) ?_;refine o7 rfl rfl rfl ?_;refine o7 rfl rfl rfl ?_;refine o7 rfl rfl (a0M (by simp[inR]) rfl) ?_;refine a0P rfl rfl rfl (b1h 10 rfl) ?_;refine o7 rfl rfl rfl ?_;refine o7 rfl rfl rfl ?_;refine o7 rfl rfl (mul1 zOm) ?_;refine o7 rfl rfl (addN zOm) ?_;refine o7 rfl rfl rfl ?_;refine I4 ?_;refine A7 ?_;refine o7 rfl rfl rfl ?_;refine I4 ?_;refine A7 ?_;refine o7 rfl rfl rfl ?_;refine o7 rfl rfl rfl ?_;refine I4 ?_;exact⟨[(0,.ptr 0 0),(1,.str s),(5,.int .i64 ((ns+s.count 10:Nat):Int)),(6,.bool true),(30,.rslice 1 0 4 true),(31,.int .i64 4),(32,.int .i64 ((4:Nat):Int))],[(0,.row RR),(1,.grow 1 TR)],zKr,ih (4,ns+s.count 10,true) zSi ⟨zSi,by rw[hns];simp only[cn];omega,by simp only[cn];symm;simp only[decide_eq_true_eq];omega⟩⟩
   replace g40:s.count 10=0:=by simp only[eqB,Bool.not_eq_false',beq_iff_eq]at g40;omega
   refine H6 ?_;refine A7 ?_;refine o7 rfl rfl rfl ?_;refine o7 rfl rfl rfl ?_;refine I4 ?_;exact⟨[(0,.ptr 0 0),(1,.str s),(5,.int .i64 ((ns:Nat):Int)),(6,.bool any),(30,.rslice 1 0 4 true),(31,.int .i64 4),(32,.int .i64 ((4:Nat):Int))],[(0,.row RR),(1,.grow 1 TR)],zKr,ih (4,ns,any) zSi ⟨zSi,by rw[hns];simp only[cn];omega,by rw[hany];simp only[cn];congr 1;simp only[eq_iff_iff];omega⟩⟩
  have hN:ns =(esc s).length:=by rw[hns,b7A];rfl
  replace hany:any=decide (s.length<(esc s).length):=by rw[hany,b7A];simp only[cn];congr 1;simp only[eq_iff_iff];omega
  subst hN;refine E8 ?_;refine A7 ?_;refine o7 rfl rfl rfl ?_;refine I4 ?_;refine E8 ?_;refine a0r rfl (by simp[ltB]) ?_;refine a2k ?_;refine E8 ?_;refine E8 ?_;refine A7 ?_;refine o7 rfl rfl rfl ?_;refine o7 rfl rfl rfl ?_;refine I4 ?_;refine O6 rfl (fun g82=>?_) (fun g82=>?_)
  ·have hs1:=b8e (s:=s) (by rw[hany]at g82;simpa using g82);rw[hs1];refine E8 ?_;refine A7 ?_;refine o7 rfl rfl rfl ?_;refine o7 rfl rfl rfl ?_;refine I4 ?_;exact F7 ⟨_,rfl,zKr⟩
  refine H6 ?_;refine E8 ?_;refine A7 ?_;refine o7 rfl rfl rfl ?_;refine a3t rfl rfl (mk_ok (esc s).length (by have:=b22 s;omega) rfl) ?_;refine o7 rfl rfl rfl ?_;refine I4 ?_;refine E8 ?_;refine A7 ?_;refine o7 rfl rfl rfl ?_;refine I4 ?_;refine c1v rfl ?_;refine E8 ?_;refine A7 ?_;refine o7 rfl rfl rfl ?_;refine I4 ?_;refine M8 ?_;refine a4M (fr1:=[(0,.ptr 0 0),(1,.str s),(12,.rslice 2 0 (esc s).length true),(13,.int .i64 (((esc (s.take 0)).length:Nat):Int)),(14,.int .i64 ((0:Nat):Int))]) (H1:=[(0,.row RR),(1,.grow 1 TR),(2,.grow 1 (BUF s 0))]) zKr ?_;refine a6N (fun i:Nat=>[(0,.ptr 0 0),(1,.str s),(12,.rslice 2 0 (esc s).length true),(13,.int .i64 (((esc (s.take i)).length:Nat):Int)),(14,.int .i64 ((i:Nat):Int))]) (fun i=>[(0,.row RR),(1,.grow 1 TR),(2,.grow 1 (BUF s i))]) (fun i=>i<=s.length) (fun i=>s.length-i) 0 (Nat.zero_le _) ?_;intro i hi ih;have hles:=b22 s;have hpre:=b3M s i;have hbl:=c6I s i;refine E8 ?_;refine E8 ?_;refine A7 ?_;refine o7 rfl rfl rfl ?_;refine o7 rfl rfl rfl ?_;refine o7 rfl rfl rfl ?_;refine o7 rfl rfl rfl ?_;refine I4 ?_;refine O6 rfl (fun g89=>?_) (fun g89=>?_)
  ·replace g89:i<s.length:=by simpa [ltN]using g89
   obtain⟨b,hb⟩:∃b,s.getD i 0=b:=⟨_,rfl⟩
   have htk:=b1a g89;rw[hb]at htk;have hpre2:=b3M s (i+1);refine H6 ?_;refine E8 ?_;refine M8 ?_;refine E8 ?_;refine A7 ?_;refine o7 rfl rfl rfl ?_;refine o7 rfl rfl rfl ?_;refine o7 rfl rfl (a0M (W9 g89) (show _=some (.int .u8 (((s.getD i 0).toNat:Nat):Int))from rfl)) ?_;rw[hb];refine o7 rfl rfl rfl ?_;refine I4 ?_;refine E8 ?_;refine A7 ?_;refine o7 rfl rfl rfl ?_;refine o7 rfl rfl rfl ?_;refine o7 rfl rfl rfl ?_;refine o7 rfl rfl rfl ?_;refine o7 rfl rfl (a0M (W9 (UInt8.toNat_lt b)) rfl) ?_;rcases a90 b with⟨c,hc,he⟩ |⟨hc,he⟩
   ·refine a0P rfl rfl rfl ((b1h b zSi).trans (congrArg some hc)) ?_;refine o7 rfl rfl (c5Y 2 rfl) ?_;refine I4 ?_;refine Y9 rfl (rfl) ?_;refine A7 ?_;refine o7 rfl rfl rfl ?_;refine o7 rfl rfl rfl ?_;refine o7 rfl rfl rfl ?_;have hL:(esc (s.take (i+1))).length =(esc (s.take i)).length+2:=by rw[htk,he,List.length_append];rfl
    refine o7 rfl rfl (a0M (a6X zOm (Nat.le_refl _)) rfl) ?_;refine o7 rfl rfl rfl ?_;refine o7 rfl rfl rfl ?_;refine o7 rfl rfl rfl ?_;refine o7 rfl rfl rfl ?_;refine o7 rfl rfl (a0M (W9 (UInt8.toNat_lt b)) rfl) ?_;refine a0P rfl rfl rfl ((b1h b zSi).trans (congrArg some hc)) ?_;refine a3t rfl rfl (cp_ok (B:=BUF s (i+1)) (n:=(esc s).length-(esc (s.take i)).length) rfl zOm zOm (c6L g89 hb he)) ?_;refine o7 rfl rfl (addE (k:=2) hL zOm) ?_;refine o7 rfl rfl rfl ?_;refine I4 ?_;refine A7 ?_;refine o7 rfl rfl rfl ?_;refine o7 rfl rfl (add1 zOm) ?_;refine o7 rfl rfl rfl ?_;refine I4 ?_;exact⟨[(0,.ptr 0 0),(1,.str s),(12,.rslice 2 0 (esc s).length true),(13,.int .i64 (((esc (s.take (i+1))).length:Nat):Int)),(14,.int .i64 (((i+1):Nat):Int))],[(0,.row RR),(1,.grow 1 TR),(2,.grow 1 (BUF s (i+1)))],zKr,ih (i+1) zOm zOm⟩
   refine a0P rfl rfl rfl ((b1h b zSi).trans (congrArg some hc)) ?_;refine o7 rfl rfl rfl ?_;refine I4 ?_;refine a0r rfl (rfl) ?_;refine E8 ?_;refine A7 ?_;refine o7 rfl rfl rfl ?_;refine o7 rfl rfl rfl ?_;refine o7 rfl rfl rfl ?_;have hL:(esc (s.take (i+1))).length =(esc (s.take i)).length+1:=by rw[htk,he,List.length_append];rfl
   refine o7 rfl rfl (a0M (W9 zOm) rfl) ?_;refine c0C rfl rfl rfl rfl (st_ok (B:=BUF s (i+1)) rfl zOm (c6J g89 hb he)) ?_;refine I4 ?_;refine A7 ?_;refine o7 rfl rfl rfl ?_;refine o7 rfl rfl (addE (k:=1) hL zOm) ?_;refine o7 rfl rfl rfl ?_;refine I4 ?_;refine A7 ?_;refine o7 rfl rfl rfl ?_;refine o7 rfl rfl (add1 zOm) ?_;refine o7 rfl rfl rfl ?_;refine I4 ?_;exact⟨[(0,.ptr 0 0),(1,.str s),(12,.rslice 2 0 (esc s).length true),(13,.int .i64 (((esc (s.take (i+1))).length:Nat):Int)),(14,.int .i64 (((i+1):Nat):Int))],[(0,.row RR),(1,.grow 1 TR),(2,.grow 1 (BUF s (i+1)))],zKr,ih (i+1) zOm zOm⟩
  replace g89:¬i<s.length:=by simpa [ltN]using g89
  obtain rfl:i=s.length:=zOm;refine a2k ?_;refine⟨[(12,.slice .sealed (esc s).length ((BUF s s.length).take ((esc s).length*1)))],[(0,.row RR),(1,.grow 1 TR)],zKr,?_⟩;refine E8 ?_;refine A7 ?_;refine o7 rfl rfl rfl ?_;refine b0y rfl rfl rfl (cv_ok s) ?_;refine o7 rfl rfl rfl ?_;refine I4 ?_;exact F7 ⟨_,rfl,zKr⟩
 refine E8 ?_;refine A7 ?_;refine o7 rfl rfl rfl ?_;refine I4 ?_;refine M8 ?_;refine a4M (fr1:=[(0,.ptr 0 0),(1,.str s),(5,.int .i64 ((s.length:Nat):Int)),(6,.bool false),(10,.int .i64 ((0:Nat):Int))]) (H1:=[(0,.row RR),(1,.grow 1 TR)]) zKr ?_;refine a6N (fun x:Nat×Nat×Bool=>[(0,.ptr 0 0),(1,.str s),(5,.int .i64 ((x.2.1:Nat):Int)),(6,.bool x.2.2),(10,.int .i64 ((x.1:Nat):Int))]) (fun _=>[(0,.row RR),(1,.grow 1 TR)]) (fun x=>x.1<=s.length/\x.2.1+x.1=s.length+(esc (s.take x.1)).length/\x.2.2=decide (x.1<(esc (s.take x.1)).length)) (fun x=>s.length-x.1) (0,s.length,false) ⟨zSi,by simp[esc],by simp[esc]⟩ ?_;rintro⟨i,ns,any⟩ ⟨hi,hns,hany⟩ ih;simp only at hi hns hany ih ⊢;have hge:=c5A (s.take i);have hle:=b22 (s.take i);rw[List.length_take,Nat.min_eq_left hi]at hge hle;refine E8 ?_;refine E8 ?_;refine A7 ?_;refine o7 rfl rfl rfl ?_;refine o7 rfl rfl rfl ?_;refine o7 rfl rfl rfl ?_;refine o7 rfl rfl rfl ?_;refine I4 ?_;refine O6 rfl (fun g58=>?_) (fun g58=>?_)
 ·replace g58:i<s.length:=by simpa [ltN]using g58
  obtain⟨b,hb⟩:∃b,s.getD i 0=b:=⟨_,rfl⟩
  have htk:=b1a g58;rw[hb]at htk;refine H6 ?_;refine E8 ?_;refine M8 ?_;refine E8 ?_;refine A7 ?_;refine o7 rfl rfl rfl ?_;refine o7 rfl rfl rfl ?_;refine o7 rfl rfl (a0M (W9 g58) (show _=some (.int .u8 (((s.getD i 0).toNat:Nat):Int))from rfl)) ?_;rw[hb];refine o7 rfl rfl rfl ?_;refine I4 ?_;refine E8 ?_;refine A7 ?_;refine o7 rfl rfl rfl ?_;refine o7 rfl rfl rfl ?_;refine o7 rfl rfl rfl ?_;refine o7 rfl rfl rfl ?_;refine o7 rfl rfl (a0M (W9 (UInt8.toNat_lt b)) rfl) ?_;rcases a90 b with⟨c,hc,he⟩ |⟨hc,he⟩
  ·refine a0P rfl rfl rfl ((b1h b zSi).trans (congrArg some hc)) ?_;refine o7 rfl rfl (c5Y 2 rfl) ?_;refine I4 ?_;refine Y9 rfl (rfl) ?_;refine E8 ?_;refine A7 ?_;refine o7 rfl rfl rfl ?_;refine o7 rfl rfl rfl ?_;refine o7 rfl rfl rfl ?_;refine o7 rfl rfl rfl ?_;refine o7 rfl rfl rfl ?_;refine o7 rfl rfl (a0M (W9 (UInt8.toNat_lt b)) rfl) ?_;refine a0P rfl rfl rfl ((b1h b zSi).trans (congrArg some hc)) ?_;refine o7 rfl rfl rfl ?_;refine o7 rfl rfl rfl ?_;refine o7 rfl rfl (addN (k:=1) zOm) ?_;refine o7 rfl rfl rfl ?_;refine I4 ?_;refine A7 ?_;refine o7 rfl rfl rfl ?_;refine I4 ?_;refine A7 ?_;refine o7 rfl rfl rfl ?_;refine o7 rfl rfl (add1 zOm) ?_;refine o7 rfl rfl rfl ?_;refine I4 ?_;exact⟨[(0,.ptr 0 0),(1,.str s),(5,.int .i64 ((ns+1:Nat):Int)),(6,.bool true),(10,.int .i64 ((i+1:Nat):Int))],[(0,.row RR),(1,.grow 1 TR)],zKr,ih (i+1,ns+1,true) (by simp only;omega) ⟨by simp only;omega,by rw[htk,he];simp only[List.length_append,List.length_cons,List.length_nil];omega,by rw[htk,he];simp only[List.length_append,List.length_cons,List.length_nil];symm;simp only[decide_eq_true_eq];omega⟩⟩
  refine a0P rfl rfl rfl ((b1h b zSi).trans (congrArg some hc)) ?_;refine o7 rfl rfl rfl ?_;refine I4 ?_;refine a0r rfl (rfl) ?_;refine H6 ?_;refine A7 ?_;refine o7 rfl rfl rfl ?_;refine o7 rfl rfl (add1 zOm) ?_;refine o7 rfl rfl rfl ?_;refine I4 ?_;exact⟨[(0,.ptr 0 0),(1,.str s),(5,.int .i64 ((ns:Nat):Int)),(6,.bool any),(10,.int .i64 ((i+1:Nat):Int))],[(0,.row RR),(1,.grow 1 TR)],zKr,ih (i+1,ns,any) (by simp only;omega) ⟨by simp only;omega,by rw[htk,he];simp only[List.length_append,List.length_cons,List.length_nil];omega,by rw[hany,htk,he];simp only[List.length_append,List.length_cons,List.length_nil];congr 1;simp only[eq_iff_iff];omega⟩⟩
 replace g58:¬i<s.length:=by simpa [ltN]using g58
 obtain rfl:i=s.length:=zOm;rw[List.take_length]at hns hany;obtain rfl:ns =(esc s).length:=zOm;refine a2k ?_;refine E8 ?_;refine E8 ?_;refine A7 ?_;refine o7 rfl rfl rfl ?_;refine o7 rfl rfl rfl ?_;refine I4 ?_;refine O6 rfl (fun g82=>?_) (fun g82=>?_)
 ·have hs1:=b8e (s:=s) (by rw[hany]at g82;simpa using g82);rw[hs1];refine E8 ?_;refine A7 ?_;refine o7 rfl rfl rfl ?_;refine o7 rfl rfl rfl ?_;refine I4 ?_;exact F7 ⟨_,rfl,zKr⟩
 refine H6 ?_;refine E8 ?_;refine A7 ?_;refine o7 rfl rfl rfl ?_;refine a3t rfl rfl (mk_ok (esc s).length (by have:=b22 s;omega) rfl) ?_;refine o7 rfl rfl rfl ?_;refine I4 ?_;refine E8 ?_;refine A7 ?_;refine o7 rfl rfl rfl ?_;refine I4 ?_;refine c1v rfl ?_;refine E8 ?_;refine A7 ?_;refine o7 rfl rfl rfl ?_;refine I4 ?_;refine M8 ?_;refine a4M (fr1:=[(0,.ptr 0 0),(1,.str s),(12,.rslice 2 0 (esc s).length true),(13,.int .i64 (((esc (s.take 0)).length:Nat):Int)),(14,.int .i64 ((0:Nat):Int))]) (H1:=[(0,.row RR),(1,.grow 1 TR),(2,.grow 1 (BUF s 0))]) zKr ?_;refine a6N (fun i:Nat=>[(0,.ptr 0 0),(1,.str s),(12,.rslice 2 0 (esc s).length true),(13,.int .i64 (((esc (s.take i)).length:Nat):Int)),(14,.int .i64 ((i:Nat):Int))]) (fun i=>[(0,.row RR),(1,.grow 1 TR),(2,.grow 1 (BUF s i))]) (fun i=>i<=s.length) (fun i=>s.length-i) 0 (Nat.zero_le _) ?_;intro i hi ih;have hles:=b22 s;have hpre:=b3M s i;have hbl:=c6I s i;refine E8 ?_;refine E8 ?_;refine A7 ?_;refine o7 rfl rfl rfl ?_;refine o7 rfl rfl rfl ?_;refine o7 rfl rfl rfl ?_;refine o7 rfl rfl rfl ?_;refine I4 ?_;refine O6 rfl (fun g89=>?_) (fun g89=>?_)
 ·replace g89:i<s.length:=by simpa [ltN]using g89
  obtain⟨b,hb⟩:∃b,s.getD i 0=b:=⟨_,rfl⟩
  have htk:=b1a g89;rw[hb]at htk;have hpre2:=b3M s (i+1);refine H6 ?_;refine E8 ?_;refine M8 ?_;refine E8 ?_;refine A7 ?_;refine o7 rfl rfl rfl ?_;refine o7 rfl rfl rfl ?_;refine o7 rfl rfl (a0M (W9 g89) (show _=some (.int .u8 (((s.getD i 0).toNat:Nat):Int))from rfl)) ?_;rw[hb];refine o7 rfl rfl rfl ?_;refine I4 ?_;refine E8 ?_;refine A7 ?_;refine o7 rfl rfl rfl ?_;refine o7 rfl rfl rfl ?_;refine o7 rfl rfl rfl ?_;refine o7 rfl rfl rfl ?_;refine o7 rfl rfl (a0M (W9 (UInt8.toNat_lt b)) rfl) ?_;rcases a90 b with⟨c,hc,he⟩ |⟨hc,he⟩
  ·refine a0P rfl rfl rfl ((b1h b zSi).trans (congrArg some hc)) ?_;refine o7 rfl rfl (c5Y 2 rfl) ?_;refine I4 ?_;refine Y9 rfl (rfl) ?_;refine A7 ?_;refine o7 rfl rfl rfl ?_;refine o7 rfl rfl rfl ?_;refine o7 rfl rfl rfl ?_;have hL:(esc (s.take (i+1))).length =(esc (s.take i)).length+2:=by rw[htk,he,List.length_append];rfl
   refine o7 rfl rfl (a0M (a6X zOm (Nat.le_refl _)) rfl) ?_;refine o7 rfl rfl rfl ?_;refine o7 rfl rfl rfl ?_;refine o7 rfl rfl rfl ?_;refine o7 rfl rfl rfl ?_;refine o7 rfl rfl (a0M (W9 (UInt8.toNat_lt b)) rfl) ?_;refine a0P rfl rfl rfl ((b1h b zSi).trans (congrArg some hc)) ?_;refine a3t rfl rfl (cp_ok (B:=BUF s (i+1)) (n:=(esc s).length-(esc (s.take i)).length) rfl zOm zOm (c6L g89 hb he)) ?_;refine o7 rfl rfl (addE (k:=2) hL zOm) ?_;refine o7 rfl rfl rfl ?_;refine I4 ?_;refine A7 ?_;refine o7 rfl rfl rfl ?_;refine o7 rfl rfl (add1 zOm) ?_;refine o7 rfl rfl rfl ?_;refine I4 ?_;exact⟨[(0,.ptr 0 0),(1,.str s),(12,.rslice 2 0 (esc s).length true),(13,.int .i64 (((esc (s.take (i+1))).length:Nat):Int)),(14,.int .i64 (((i+1):Nat):Int))],[(0,.row RR),(1,.grow 1 TR),(2,.grow 1 (BUF s (i+1)))],zKr,ih (i+1) zOm zOm⟩
  refine a0P rfl rfl rfl ((b1h b zSi).trans (congrArg some hc)) ?_;refine o7 rfl rfl rfl ?_;refine I4 ?_;refine a0r rfl (rfl) ?_;refine E8 ?_;refine A7 ?_;refine o7 rfl rfl rfl ?_;refine o7 rfl rfl rfl ?_;refine o7 rfl rfl rfl ?_;have hL:(esc (s.take (i+1))).length =(esc (s.take i)).length+1:=by rw[htk,he,List.length_append];rfl
  refine o7 rfl rfl (a0M (W9 zOm) rfl) ?_;refine c0C rfl rfl rfl rfl (st_ok (B:=BUF s (i+1)) rfl zOm (c6J g89 hb he)) ?_;refine I4 ?_;refine A7 ?_;refine o7 rfl rfl rfl ?_;refine o7 rfl rfl (addE (k:=1) hL zOm) ?_;refine o7 rfl rfl rfl ?_;refine I4 ?_;refine A7 ?_;refine o7 rfl rfl rfl ?_;refine o7 rfl rfl (add1 zOm) ?_;refine o7 rfl rfl rfl ?_;refine I4 ?_;exact⟨[(0,.ptr 0 0),(1,.str s),(12,.rslice 2 0 (esc s).length true),(13,.int .i64 (((esc (s.take (i+1))).length:Nat):Int)),(14,.int .i64 (((i+1):Nat):Int))],[(0,.row RR),(1,.grow 1 TR),(2,.grow 1 (BUF s (i+1)))],zKr,ih (i+1) zOm zOm⟩
 replace g89:¬i<s.length:=by simpa [ltN]using g89
 obtain rfl:i=s.length:=zOm;refine a2k ?_;refine⟨[(12,.slice .sealed (esc s).length ((BUF s s.length).take ((esc s).length*1)))],[(0,.row RR),(1,.grow 1 TR)],zKr,?_⟩;refine E8 ?_;refine A7 ?_;refine o7 rfl rfl rfl ?_;refine b0y rfl rfl rfl (cv_ok s) ?_;refine o7 rfl rfl rfl ?_;refine I4 ?_;exact F7 ⟨_,rfl,zKr⟩
variable {H:Hp} {g:Nat} {orc:Orc} {v:V}
theorem c2W {env:Env}{k:Nat}{args ac:List V}{ns:List Nat}{H3 H4 Hc:Hp}{v4:V}(hq:env.quiet g=false)(hp:a9A env g args H=some (ns,ac,Hc))(hc:orc (.call g ac) Hc=some (.ret v H3))(h7:a7J (a2K (L8 ns k) dep v)=some v4)
  (h8:a0x (a3r (L8 ns k) H3 H)=some H4) (h9:a6x H H3 k ns.length=true):a0e env orc k g args H=some (.val v4 H4):=by
 rw[a3G]at h8;rw[b1e]at h7;obtain⟨X5,H2,h1,h2,h3,h4⟩:=a9B hp;simp only[a0e,hq,h1,h2,h3,h4,hc,h7,h8,h9]
theorem c8x {env:Env}{ops:Array Oper}{o:Oper}{rest:List Oper}{fr:Fr}{H1:Hp}{K:Res->Prop}{rc:Operand}{m:String}{args:Array Operand}{at_:Array TypeId}{t:Nat}{v0:V}{l:List V}
  (hw:G6 ops o fr=some true) (ho:o.op=.call ⟨.invoke rc m,args,at_⟩) (hr:ev fr rc=some (.iface t v0)) (hl:evL fr args.toList=some l) (hm:env.meth t m=some g) (hc:a0e env orc (newName o) g (v0::l) H=some (.val v H1))
  (h:Go.Vm.Os env orc ops rest (Y5 o.dst v fr) H1 K):Go.Vm.Os env orc ops (o::rest) fr H K:=by
 have hp:Q6 o.op=false:=by rw[ho];rfl
 refine a3t hw hp (v:=v) (H1:=H1) ?_ h;unfold X6;rw[ho];simp only[hr,hl,hm,hc]
theorem do_E:E env (.call 212 [.ptr 0 0,.func (.func 213) [.ptr 0 0] []]) [(0,.row [.int .u32 0,.int .i32 0,.int .u32 0,.nilIface,.slice (.tag 1) 8 pairs]),(1,.tip 1 8)]=some (.ret (.tuple []) [(0,.row [.int .u32 1,.int .i32 0,.int .u32 0,.iface 216 (.ptr 2 0),.slice .nil 0 []]),(1,.tip 1 8),(2,.row ((List.range 256).map cell++[.rslice 3 0 4 true])),(3,.grow 1 TR)]) :=
 E_via (g':=213) (l:=[.ptr 0 0]) (H':=[(0,.row [.int .u32 0,.int .i32 1,.int .u32 0,.nilIface,.slice (.tag 1) 8 pairs]),(1,.tip 1 8)]) rfl zKr bu_E zKr
theorem rp_E (s:List UInt8)(hs:s.length<=1000000):E env (.call 203 [.ptr 0 0,.str s]) [(0,.row [.int .u32 0,.int .i32 0,.int .u32 0,.nilIface,.slice (.tag 1) 8 pairs]),(1,.tip 1 8)]=some (.ret (.str (esc s)) [(0,.row [.int .u32 1,.int .i32 0,.int .u32 0,.iface 216 (.ptr 2 0),.slice .nil 0 []]),(1,.tip 1 8),(2,.row ((List.range 256).map cell++[.rslice 3 0 4 true])),(3,.grow 1 TR)]):=by
 refine U3 (env:=env) rfl Tryz.func203 rfl rfl ?_;refine E8 ?_;refine A7 ?_;refine o7 rfl rfl rfl ?_;refine I4 ?_;refine E8 ?_;refine A7 ?_;refine o7 rfl rfl rfl ?_;refine o7 rfl rfl rfl ?_;refine o7 rfl rfl rfl ?_;refine o7 rfl rfl rfl ?_;refine o7 rfl rfl rfl ?_;refine b30 (v:=.tuple []) (H1:=[(0,.row [.int .u32 1,.int .i32 0,.int .u32 0,.iface 216 (.ptr 704 0),.slice .nil 0 []]),(1,.tip 1 8),(704,.row ((List.range 256).map cell++[.rslice 705 0 4 true])),(705,.grow 1 TR)]) rfl rfl rfl (a7I (ns:=[0,1]) (ac:=[.ptr 0 0,.func (.func 213) [.ptr 0 0] []]) (Hc:=[(0,.row [.int .u32 0,.int .i32 0,.int .u32 0,.nilIface,.slice (.tag 1) 8 pairs]),(1,.tip 1 8)]) rfl zKr do_E zKr zKr zKr) ?_;refine I4 ?_;refine E8 ?_;refine A7 ?_;refine o7 rfl rfl rfl ?_;refine o7 rfl rfl rfl ?_;refine o7 rfl rfl rfl ?_;refine a0P rfl rfl rfl (v:=.iface 216 (.ptr 704 0)) zKr ?_;refine o7 rfl rfl rfl ?_;refine c8x (g:=311) (v:=.str (esc s)) (H1:=[(0,.row [.int .u32 1,.int .i32 0,.int .u32 0,.iface 216 (.ptr 704 0),.slice .nil 0 []]),(1,.tip 1 8),(704,.row ((List.range 256).map cell++[.rslice 705 0 4 true])),(705,.grow 1 TR)]) rfl rfl rfl rfl rfl (c2W (ns:=[704,705]) (ac:=[.ptr 0 0,.str s]) (Hc:=[(0,.row RR),(1,.grow 1 TR)]) rfl zKr (bs_E s hs) zKr zKr zKr) ?_;refine o7 rfl rfl rfl ?_;refine I4 ?_;exact F7 ⟨.str (esc s),zKr,zKr⟩
theorem esc_E (s:List UInt8)(hs:s.length<=1000000):E env (.call 186 [.str s]) []=some (.ret (.str (esc s)) []):=by
 refine U3 (env:=env) rfl Tryz.func186 rfl rfl ?_;refine E8 ?_;refine A7 ?_;refine o7 rfl rfl rfl ?_;refine I4 ?_;refine E8 ?_;refine A7 ?_;refine o7 rfl rfl rfl ?_;refine b30 (v:=.ptr 320 0) (H1:=[(320,.row [.int .u32 0,.int .i32 0,.int .u32 0,.nilIface,.slice (.tag 321) 8 pairs]),(321,.tip 1 8)]) rfl rfl rfl (a7I (ns:=[]) (ac:=[.slice .sealed 8 pairs]) (Hc:=[]) rfl zKr nr_E zKr zKr zKr) ?_;refine o7 rfl rfl rfl ?_;refine b30 (v:=.str (esc s)) (H1:=[(320,.row [.int .u32 1,.int .i32 0,.int .u32 0,.iface 216 (.ptr 448 0),.slice .nil 0 []]),(321,.tip 1 8),(448,.row ((List.range 256).map cell++[.rslice 449 0 4 true])),(449,.grow 1 TR)]) rfl rfl rfl (a7I (ns:=[320,321]) (ac:=[.ptr 0 0,.str s]) (Hc:=[(0,.row [.int .u32 0,.int .i32 0,.int .u32 0,.nilIface,.slice (.tag 1) 8 pairs]),(1,.tip 1 8)]) rfl zKr (rp_E s hs) zKr zKr zKr) ?_;refine o7 rfl rfl rfl ?_;refine I4 ?_;exact F7 ⟨.str (esc s),zKr,zKr⟩
def escF:List V->Option V:=fun args=>match args with
 | [.str s]=>match leN s.length 1000000 with
  | true=>some (.str (esc s))
  | false=>none
 | _=>none
theorem b21:a7G Tryz.prog 186 (b0m escF):=by
 refine c2x b5j (fun args v h=>?_) ⟨_,_,Tryz.func186,zKr,rfl⟩;unfold escF at h;split at h
 ·rename_i s;split at h
  ·rename_i hs;cases h;exact⟨rfl,rfl,esc_E s (a7j hs)⟩
  cases h
 cases h
end Go.Proofs.YtimgnjbjbdgmaaaGreatDoor.Rp
namespace Go.Proofs
open Go.Shelf
def Tryz.c1L:Go.Shelf.Ren:=⟨fun|171=>172|243=>195|246=>209|283=>217|284=>218|285=>219|286=>220|129=>229|317=>228|318=>230|319=>231|320=>232|337=>246|338=>247|n=>n,fun|3=>3|9=>9|2=>2|4=>4|171=>187|0=>0|53=>188|37=>53|5=>5|173=>191|212=>197|51=>170|20=>20|213=>198|46=>199|232=>238|233=>239|n=>n,fun|17=>1|18=>2|19=>3|n=>n⟩
theorem Tryz.laysM171:Go.Proofs.LaysM.n171 Tryz.prog Tryz.c1L:={
 mixed:=by kernel_rfl
 f129:=Tryz.func229.trans (congrArg some (by kernel_rfl))
 f171:=Tryz.func172.trans (congrArg some (by kernel_rfl))
 f243:=Tryz.func195.trans (congrArg some (by kernel_rfl))
 f246:=Tryz.func209.trans (congrArg some (by kernel_rfl))
 f283:=Tryz.func217.trans (congrArg some (by kernel_rfl))
 f284:=Tryz.func218.trans (congrArg some (by kernel_rfl))
 f285:=Tryz.func219.trans (congrArg some (by kernel_rfl))
 f286:=Tryz.func220.trans (congrArg some (by kernel_rfl))
 f317:=Tryz.func228.trans (congrArg some (by kernel_rfl))
 f318:=Tryz.func230.trans (congrArg some (by kernel_rfl))
 f319:=Tryz.func231.trans (congrArg some (by kernel_rfl))
 f320:=Tryz.func232.trans (congrArg some (by kernel_rfl))
 f337:=Tryz.func246.trans (congrArg some (by kernel_rfl))
 f338:=Tryz.func247.trans (congrArg some (by kernel_rfl))
 t0:=Tryz.underlying0
 a0:=Tryz.isAgg0
 z0:=Tryz.sizeOf0
 v0:=Tryz.zeroValue0
 t2:=Tryz.underlying2
 a2:=Tryz.isAgg2
 z2:=Tryz.sizeOf2
 v2:=Tryz.zeroValue2
 t3:=Tryz.underlying3
 a3:=Tryz.isAgg3
 z3:=Tryz.sizeOf3
 v3:=Tryz.zeroValue3
 t4:=Tryz.underlying4
 a4:=Tryz.isAgg4
 z4:=Tryz.sizeOf4
 v4:=Tryz.zeroValue4
 t5:=Tryz.underlying5
 a5:=Tryz.isAgg5
 z5:=Tryz.sizeOf5
 v5:=Tryz.zeroValue5
 t9:=Tryz.underlying9
 a9:=Tryz.isAgg9
 z9:=Tryz.sizeOf9
 v9:=Tryz.zeroValue9
 t20:=Tryz.underlying20
 a20:=Tryz.isAgg20
 z20:=Tryz.sizeOf20
 v20:=Tryz.zeroValue20
 t37:=Tryz.underlying53
 a37:=Tryz.isAgg53
 z37:=Tryz.sizeOf53
 v37:=Tryz.zeroValue53
 t46:=Tryz.underlying199
 a46:=Tryz.isAgg199
 z46:=Tryz.sizeOf199
 v46:=Tryz.zeroValue199
 t51:=Tryz.underlying170
 a51:=Tryz.isAgg170
 z51:=Tryz.sizeOf170
 v51:=Tryz.zeroValue170
 t53:=Tryz.underlying188
 a53:=Tryz.isAgg188
 z53:=Tryz.sizeOf188
 v53:=Tryz.zeroValue188
 t171:=Tryz.underlying187
 a171:=Tryz.isAgg187
 z171:=Tryz.sizeOf187
 v171:=Tryz.zeroValue187
 t173:=Tryz.underlying191
 a173:=Tryz.isAgg191
 z173:=Tryz.sizeOf191
 v173:=Tryz.zeroValue191
 t212:=Tryz.underlying197
 a212:=Tryz.isAgg197
 z212:=Tryz.sizeOf197
 v212:=Tryz.zeroValue197
 t213:=Tryz.underlying198
 a213:=Tryz.isAgg198
 z213:=Tryz.sizeOf198
 t232:=Tryz.underlying238
 a232:=Tryz.isAgg238
 z232:=Tryz.sizeOf238
 v232:=Tryz.zeroValue238
 t233:=Tryz.underlying239
 a233:=Tryz.isAgg239
 z233:=Tryz.sizeOf239
 v233:=Tryz.zeroValue239
 g17:=by kernel_rfl
 g18:=by kernel_rfl
 g19:=by kernel_rfl
 i0:=by kernel_rfl
 i2:=by kernel_rfl
 i3:=by kernel_rfl
 i4:=by kernel_rfl
 i5:=by kernel_rfl
 i9:=by kernel_rfl
 i20:=by kernel_rfl
 i37:=by kernel_rfl
 i46:=by kernel_rfl
 i51:=by kernel_rfl
 i53:=by kernel_rfl
 i171:=by kernel_rfl
 i173:=by kernel_rfl
 i212:=by kernel_rfl
 i232:=by kernel_rfl
 i233:=by kernel_rfl
 m17:=by kernel_rfl
 m18:=by kernel_rfl
 m19:=by kernel_rfl}
open Go.RowKit Go.Sort Go.Lib in
theorem Tryz.strconv_Itoa (n:Int) (h0:-9223372036854775808<=n) (h1:n<=9223372036854775807) (w:World) (htab:Lib.TabIs Tryz.prog w "internal/strconv.uint64pow10" .u64 Lib.pow10Tab) :
  Calls Tryz.prog 172 #[.int .i64 n] w fun e w'=>e=.returned (.string ⟨(Lib.itoa n).toArray⟩) /\ ∃k os,w'=grow (w.drewN k) os:=Any.strconv_Itoa Tryz.laysM171 n h0 h1 w htab
end Go.Proofs
namespace Go.Proofs.YtimgnjbjbdgmaaaGreatDoor
open Go Go.Vm
def rngB (n:Int):Bool:=decide (-9223372036854775808<=n)&&decide (n<=9223372036854775807)
def c3u:List V->Option V
 | [.int .i64 n]=>match rngB n with
  | true=>some (.str (Lib.itoa n))
  | false=>none
 | _=>none
theorem tab_at {w:World} (h:KpW w):Lib.TabIs Tryz.prog w "internal/strconv.uint64pow10" .u64 Lib.pow10Tab:=by
 obtain⟨_,t,fr,h⟩:=h (1,kpTab) List.mem_cons_self;unfold Lib.TabIs World.var?;rw[show Tryz.prog.globalNamed "internal/strconv.uint64pow10" = some 1 by kernel_rfl];simp only[Option.bind_some,h];rfl
theorem c0n:a7G Tryz.prog 172 (b0m c3u):=by
 refine⟨fun args H out h ρ lab w xs hc hS hx=>?_,⟨_,_,Tryz.func172,rfl,rfl⟩⟩;unfold b0m c3u at h;split at h
 ·rename_i v hv;cases h;split at hv
  ·rename_i n;split at hv
   ·rename_i hb;cases hv;simp only[rngB,Bool.and_eq_true,decide_eq_true_eq]at hb;obtain⟨x1,r1,rfl,a1,a2⟩:=F8.1 hx;have:r1=[]:=by have:=a2.1;simpa using this
    subst this;cases a1;refine(Tryz.strconv_Itoa n hb.1 hb.2 w (tab_at hS.kp.1)).mono fun e w' ⟨he,k,os,hw⟩=>?_;subst he hw;have hg:a15 w (Go.Sort.grow (w.drewN k) os):=a9X (Lib.below_grow _ w (Nat.le_refl _) k os);exact⟨ρ,lab,hS.grew hg,hg.ext lab,⟨fun _ _ _ h=>h,fun _ _ _ _ h=>h⟩,.str _,hc,Nat.le_refl _⟩
   cases hv
  cases hv
 cases h
theorem c3d:∀(k u:Nat),u<10^(k+1)->Lib.nDigits u<=k+1
 | 0,u,h=>by rw[Lib.nDigits_small (by simpa using h)];omega
 | k+1,u,h=>by
  by_cases hu:u<10
  ·rw[Lib.nDigits_small hu];omega
  rw[Lib.nDigits_big hu];have:=c3d k (u/10) (by rw[Nat.div_lt_iff_lt_mul zOm,<-Nat.pow_succ];exact h);omega
theorem b8w {n:Int}(h:rngB n=true):1 <=(Lib.itoa n).length/\(Lib.itoa n).length<=30:=by
 simp only[rngB,Bool.and_eq_true,decide_eq_true_eq]at h;have d:∀u:Nat,u<=9223372036854775808->1 <=(Lib.decDigits u).length/\(Lib.decDigits u).length<=20:=fun u hu=>by
  rw[Lib.decDigits_length];exact⟨Lib.nDigits_pos u,c3d 19 u zOm⟩
 unfold Lib.itoa;split
 ·have:=d n.natAbs zOm;simp only[List.length_cons];omega
 have:=d n.toNat zOm;omega
def c3a (t:Sc.Tok):Tok:=⟨t.k,t.t,(t.a:Nat),(t.l:Nat)⟩
def b4i:Sc.MR->List Tok | .done l=>l.map c3a|_=>[]
def b44:Sc.MR->Int | .err c _=>c|_=>0
def tokA:Sc.MR->Int | .err _ a=>(a:Nat)|_=>0
theorem c22:∀l:List Sc.Tok,u7 (l.map c3a)=Sc.a4v l
 | []=>rfl
 | t::r=>by
  rw[List.map_cons,c5y.cons,c22 r];rfl
theorem tokV_cv {r:Sc.MR}(h:Sc.RBd r):Sc.b3z r=.tuple [.slice .sealed (List.length (b4i r)) (u7 (b4i r)),.agg [.int .i64 (b44 r),.int .i64 (tokA r)]]:=by
 cases r with
 | go x=>exact h.elim
 | done l =>
  simp only[b4i,Sc.b3z,c22,List.length_map,b44,tokA]
 | err c a=>rfl
theorem c4J {env:Env}{g:Nat}{s:Str}(hi:env.intr g=some (.plain (b0m Sc.tokF)))(h:Sc.RBd (Sc.a6T s)) :
  E env (.call g [.str s]) []=some (.ret (.tuple [.slice .sealed (List.length (b4i (Sc.a6T s))) (u7 (b4i (Sc.a6T s))),.agg [.int .i64 (b44 (Sc.a6T s)),.int .i64 (tokA (Sc.a6T s))]]) []):=by
 refine a7f hi ?_;rw[<-tokV_cv h];rfl
theorem c4K (s:Str):(b44 (Sc.a6T s)=0/\tokA (Sc.a6T s)=0)∨(b44 (Sc.a6T s)≠0/\b4i (Sc.a6T s)=[]):=by
 have h:=(Sc.b0k s).1;generalize Sc.a6T s=r at h;cases r with
 | go x=>exact h.bd.elim
 | done l=>exact .inl ⟨rfl,rfl⟩
 | err c a=>exact .inr ⟨h.nz c a rfl,rfl⟩
theorem tokL_len (s:Str):(b4i (Sc.a6T s)).length<=3000:=by
 have h:=(Sc.b2t s).1;generalize Sc.a6T s=r at h;cases r with
 | go x=>exact h.elim
 | done l=>simpa [b4i,Sc.RBd]using h
 | err c a=>simp[b4i]
end Go.Proofs.YtimgnjbjbdgmaaaGreatDoor
