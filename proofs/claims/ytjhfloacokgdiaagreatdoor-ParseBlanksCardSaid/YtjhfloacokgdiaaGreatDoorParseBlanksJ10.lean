/- Texts of ParseBlanks, joined. -/
import Derived.Test.YtjhfloacokgdiaaGreatDoorParseBlanksJ9
import Derived.Shelf.Strconv.Itoa0
import Derived.Shelf.Strconv.Itoa1
import Derived.Shelf.LaysM
import Derived.Shelf.Strconv.Itoa2
import Derived.Shelf.Strconv.Itoa3
import Derived.Test.YtjhfloacokgdiaaGreatDoorProg
import Derived.Lib.AppendIntMem
import Derived.Lib.Join
set_option maxRecDepth 100000
set_option maxHeartbeats 20000000
set_option linter.unusedSimpArgs false
set_option linter.unusedVariables false
set_option linter.unusedSectionVars false
namespace Go.Proofs.YtjhfloacokgdiaaGreatDoor.Rp
open Go Go.Vm
def a8v (b:UInt8):List UInt8:=if b=10 then [92,110]else if b=9 then [92,116]else if b=92 then [92,92]else if b=34 then [92,34]else [b]
def esc (s:List UInt8):List UInt8:=s.flatMap a8v
def cn (s:List UInt8):Nat->Nat
 | 0=>0
 | 1=>s.count 34
 | 2=>s.count 34+s.count 92
 | 3=>s.count 34+s.count 92+s.count 9
 | _=>s.count 34+s.count 92+s.count 9+s.count 10
theorem a8w (b:UInt8)(s:List UInt8):esc (b::s)=a8v b++esc s:=by simp[esc]
theorem c0i (a b:List UInt8):esc (a++b)=esc a++esc b:=by simp[esc]
theorem b8M {b:UInt8}(h1:b≠10)(h2:b≠9)(h3:b≠92)(h4:b≠34):cell b.toNat=.slice .nil 0 []:=by
 have k1:b.toNat≠10:=fun h=>h1 (UInt8.toNat_inj.1 h)
 have k2:b.toNat≠9:=fun h=>h2 (UInt8.toNat_inj.1 h)
 have k3:b.toNat≠92:=fun h=>h3 (UInt8.toNat_inj.1 h)
 have k4:b.toNat≠34:=fun h=>h4 (UInt8.toNat_inj.1 h)
 unfold cell
 split<;>first|contradiction|rfl
theorem a5l (b:UInt8):(∃c:UInt8,cell b.toNat=.slice .sealed 2 [.int .u8 92,.int .u8 ((c.toNat:Nat):Int)]/\a8v b=[92,c])∨(cell b.toNat=.slice .nil 0 []/\a8v b=[b]):=by
 by_cases h1:b=10
 ·subst h1;exact .inl ⟨110,rfl,rfl⟩
 by_cases h2:b=9
 ·subst h2;exact .inl ⟨116,rfl,rfl⟩
 by_cases h3:b=92
 ·subst h3;exact .inl ⟨92,rfl,rfl⟩
 by_cases h4:b=34
 ·subst h4;exact .inl ⟨34,rfl,rfl⟩
 exact .inr ⟨b8M h1 h2 h3 h4,by simp only[a8v,if_neg h1,if_neg h2,if_neg h3,if_neg h4]⟩
theorem b2N (b:UInt8):1 <=(a8v b).length/\(a8v b).length<=2:=by
 rcases a5l b with⟨c,_,h⟩ |⟨_,h⟩<;>rw[h]<;>simp
theorem b80:∀s,s.length <=(esc s).length
 | []=>Nat.le_refl _
 | b::s=>by have:=b80 s;have:=b2N b;rw[a8w,List.length_append,List.length_cons];omega
theorem a92:∀s,(esc s).length<=2*s.length
 | []=>Nat.le_refl _
 | b::s=>by have:=a92 s;have:=b2N b;rw[a8w,List.length_append,List.length_cons];omega
theorem b0x:∀s,(esc s).length=s.length+(s.count 34+s.count 92+s.count 9+s.count 10)
 | []=>rfl
 | b::s=>by
  have ih:=b0x s
  rw[a8w,List.length_append,ih]
  simp only[List.count_cons,List.length_cons]
  by_cases h1:b=10
  ·subst h1;simp[a8v];omega
  by_cases h2:b=9
  ·subst h2;simp[a8v];omega
  by_cases h3:b=92
  ·subst h3;simp[a8v];omega
  by_cases h4:b=34
  ·subst h4;simp[a8v];omega
  simp[a8v,h1,h2,h3,h4];omega
theorem b2O:∀{s:List UInt8},¬s.length<(esc s).length->esc s=s
 | [],_=>rfl
 | b::s,h=>by
  have h0:=b80 s
  have h1:=b2N b
  rw[a8w,List.length_append,List.length_cons]at h
  rcases a5l b with⟨c,_,he⟩ |⟨_,he⟩
  ·rw[he]at h;simp at h;omega
  ·rw[a8w,he,b2O (s:=s) (by rw[he]at h;simp at h;omega)];rfl
theorem b0y {s:List UInt8}{i:Nat}(h:i<s.length):esc (s.take (i+1))=esc (s.take i)++a8v (s.getD i 0):=by
 rw[List.take_succ_eq_append_getElem h,c0i]
 congr 1
 simp[esc,h]
theorem a9b (s:List UInt8)(i:Nat):(esc (s.take i)).length <=(esc s).length:=by
 conv=>rhs;rw[<-List.take_append_drop i s,c0i,List.length_append]
 omega
theorem cn_le (s:List UInt8):∀k,cn s k<=4*s.length:=by
 have a:=List.count_le_length (a:=(34:UInt8)) (l:=s)
 have b:=List.count_le_length (a:=(92:UInt8)) (l:=s)
 have c:=List.count_le_length (a:=(9:UInt8)) (l:=s)
 have d:=List.count_le_length (a:=(10:UInt8)) (l:=s)
 intro k
 unfold cn
 split<;>omega
theorem RR_get (b:UInt8):RR[b.toNat]? = some (cell b.toNat):=by
 have:=UInt8.toNat_lt b
 unfold RR
 rw[List.getElem?_append_left (by simp;omega),List.getElem?_map,List.getElem?_range (by omega)]
 rfl
theorem RR_256:RR[256]? = some (.rslice 1 0 4 true):=by kernel_rfl
theorem a6I (b:UInt8){off:Nat}{H:Hp}(ho:off=b.toNat):a1Q env.T 58 (.ptr 0 off) ((0,.row RR)::H)=some (cell b.toNat):=by
 subst ho
 exact RR_get b
theorem ld_TL {H:Hp}:a1Q env.T 62 (.ptr 0 (0+256)) ((0,.row RR)::H)=some (.rslice 1 0 4 true):=RR_256
theorem ct_E (s:List UInt8)(c:UInt8):E env (.call 244 [.str s,.str [c]]) []=some (.ret (.int .i64 ((s.count c:Nat):Int)) []):=a7g (h:=b5z) rfl rfl
theorem mul1 {a:Nat}(h:a<9223372036854775808):a1G (some (.int .i64 (IntKind.wrap .i64 ((a:Int)*1))))=some (.int .i64 (a:Nat)):=by
 rw[Int.mul_one,wrap64 (by omega) (by omega)];rfl
theorem addE {j k m:Nat}(h:m=j+k)(hb:j+k<9223372036854775808):a1G (some (.int .i64 (IntKind.wrap .i64 ((j:Int)+(k:Int)))))=some (.int .i64 (m:Nat)):=by
 rw[h];exact addN hb
theorem b9l (n:Nat){m:Nat}{x:Option V}(h:x=match gd (ltB 0 ((m+1:Nat):Int)) (some false)with|some b=>some (.bool (!b))|none=>none):a1G x=some (.bool true):=by
 rw[h]
 have:ltB 0 ((m+1:Nat):Int)=true:=by simp only[ltB,decide_eq_true_eq];omega
 rw[this];rfl
theorem b4Z {env:Env}{orc:Orc}{ops:Array Oper}{o:Oper}{rest:List Oper}{fr:Fr}{H H1:Hp}{K:Res->Prop}{t:Nat}{a b:Operand}{x v:V}(hw:u6 ops o fr=some true)(ho:o.op=.store t a b)(ha:ev fr a=some x)(hb:ev fr b=some v)(hs:a3G env.T t x v H=some H1)(h:Go.Vm.Os env orc ops rest (M5 o.dst .undef fr) H1 K):Go.Vm.Os env orc ops (o::rest) fr H K:=by
 refine a0y hw (by rw[ho];rfl) (v:=.undef) (H1:=H1) ?_ h
 unfold M4
 rw[ho]
 simp only[ha,hb,hs]
def BUF (s:List UInt8)(i:Nat):List V:=V6 (esc (s.take i))++List.replicate ((esc s).length-(esc (s.take i)).length) (.int .u8 0)
theorem b9Y (s:List UInt8)(i:Nat):(BUF s i).length =(esc s).length:=by
 have:=a9b s i
 simp only[BUF,List.length_append,V6,List.length_map,List.length_replicate];omega
theorem set_mid {α:Type}(a new:List α)(z:α){n:Nat}(h:new.length<=n):(a++List.replicate n z).take a.length++new ++(a++List.replicate n z).drop (a.length+new.length)=a++new++List.replicate (n-new.length) z:=by
 rw[List.take_left,List.drop_append,List.drop_eq_nil_of_le (by omega),List.nil_append,List.drop_replicate]
 congr 2;omega
theorem b90 {s:List UInt8}{i:Nat}(h:i<s.length){b:UInt8}(hb:s.getD i 0=b){news:List V}(hn:news=V6 (a8v b)){off:Nat}(ho:off =(esc (s.take i)).length):K9 (BUF s i) off news=BUF s (i+1):=by
 have h1:=b0y h
 rw[hb]at h1
 have h2:=a9b s (i+1)
 rw[h1,List.length_append]at h2
 have h3:(esc (s.take i)).length =(V6 (esc (s.take i))).length:=by simp[V6]
 have h4:news.length =(a8v b).length:=by rw[hn];simp[V6]
 subst ho
 unfold K9 BUF
 rw[h3,set_mid _ _ _ (by omega),hn,h1]
 simp only[V6,List.map_append,List.length_append,List.length_map]
 congr 2
 omega
theorem b91 {s:List UInt8}{i:Nat}(h:i<s.length){b c:UInt8}(hb:s.getD i 0=b)(he:a8v b=[92,c]):K9 (BUF s i) (0+(esc (s.take i)).length*1) [.int .u8 92,.int .u8 ((c.toNat:Nat):Int)]=BUF s (i+1):=b90 h hb (by rw[he];rfl) (by omega)
theorem b9Z {s:List UInt8}{i:Nat}(h:i<s.length){b:UInt8}(hb:s.getD i 0=b)(he:a8v b=[b]):K9 (BUF s i) (0+(esc (s.take i)).length*1) [.int .u8 ((b.toNat:Nat):Int)]=BUF s (i+1):=b90 h hb (by rw[he];rfl) (by omega)
theorem cp_ok {j n:Nat} {cs B:List V} {a b:V} {G:Hp} (hG:G = [(0,.row RR),(1,.grow 1 TR),(2,.grow 1 cs)]) (h1:2 <= n) (h2:j + 2 <= cs.length) (hB:K9 cs (0 + j * 1) [a,b] = B) :
    b5l env.T 58 (.rslice 2 (0+j*1) n false) (.slice .sealed 2 [a,b]) G=some (.val (.int .i64 ((2:Nat):Int)) [(0,.row RR),(1,.grow 1 TR),(2,.grow 1 B)]):=by
  subst hG
  have e:b5l env.T 58 (.rslice 2 (0+j*1) n false) (.slice .sealed 2 [a,b]) [(0,.row RR),(1,.grow 1 TR),(2,.grow 1 cs)] =(match gd (eqN (2*1) [a,b].length) (some (2,[a,b]))with
    | some (m,news)=>(match Nat.beq m 0 with
        | true=>some (OpR.val (.int .i64 0) [(0,.row RR),(1,.grow 1 TR),(2,.grow 1 cs)])
        | false=>gd (leN m n&&leN (0+j*1+m*1) cs.length) (some (.val (.int .i64 (m:Int)) [(0,.row RR),(1,.grow 1 TR),(2,.grow 1 (K9 cs (0+j*1) news))])))
    | none=>none):=by kernel_rfl
  rw[e,a1u (show 2*1=[a,b].length from rfl)]
  simp only[gd]
  rw[a8E h1,a8E (show 0+j*1+2*1<=cs.length by omega),hB]
  rfl
theorem st_ok {j:Nat}{cs B:List V}{b:Nat}{G:Hp}(hG:G=[(0,.row RR),(1,.grow 1 TR),(2,.grow 1 cs)])(h2:j+1<=cs.length)(hB:K9 cs (0+j*1) [.int .u8 (b:Int)]=B) :
  a3G env.T 5 (.ptr 2 (0+j*1)) (.int .u8 (b:Int)) G=some [(0,.row RR),(1,.grow 1 TR),(2,.grow 1 B)]:=by
 subst hG
 have e:a3G env.T 5 (.ptr 2 (0+j*1)) (.int .u8 (b:Int)) [(0,.row RR),(1,.grow 1 TR),(2,.grow 1 cs)]=gd (leN (0+j*1+1) cs.length) (some [(0,.row RR),(1,.grow 1 TR),(2,.grow 1 (K9 cs (0+j*1) [.int .u8 (b:Int)]))]):=by kernel_rfl
 rw[e,a8E (by omega),hB]
 rfl
theorem mk_ok (n:Nat)(hn:n<=4000000){G:Hp}(hG:G=[(0,.row RR),(1,.grow 1 TR)]):b5n env.T 58 (.int .i64 (n:Int)) (.int .i64 (n:Int)) G 5504=some (.val (.rslice 5504 0 n true) [(0,.row RR),(1,.grow 1 TR),(5504,.grow 1 (List.replicate n (.int .u8 0)))]):=by
 subst hG
 have e:b5n env.T 58 (.int .i64 (n:Int)) (.int .i64 (n:Int)) [(0,.row RR),(1,.grow 1 TR)] 5504=gd (leB 0 (n:Int)&&leB (n:Int) (n:Int)&&leB ((n:Int)*((1:Nat)+1:Nat)) 70368744177664) (some (.val (.rslice 5504 0 n true) [(0,.row RR),(1,.grow 1 TR),(5504,.grow 1 (List.replicate n [.int .u8 0]).flatten)])):=by kernel_rfl
 rw[e]
 have h1:(leB 0 (n:Int)&&leB (n:Int) (n:Int)&&leB ((n:Int)*((1:Nat)+1:Nat)) 70368744177664)=true:=by simp only[leB,Bool.and_eq_true,decide_eq_true_eq];omega
 rw[h1]
 have h2:(List.replicate n [V.int .u8 0]).flatten=List.replicate n (.int .u8 0):=by
  induction n with
  | zero=>rfl
  | succ n ih=>rw[List.replicate_succ,List.flatten_cons,List.replicate_succ];simp[List.flatten_replicate_singleton]
 rw[h2]
 rfl
theorem cv_ok (s:List UInt8):b0Z env.T 58 9 (.slice .sealed (esc s).length ((BUF s s.length).take ((esc s).length*1)))=some (.str (esc s)):=by
 have e:(BUF s s.length).take ((esc s).length*1)=V6 (esc s):=by
  unfold BUF
  rw[List.take_length,Nat.sub_self,List.replicate_zero,List.append_nil,Nat.mul_one]
  exact List.take_of_length_le (by simp[V6])
 rw[e]
 have e2:b0Z env.T 58 9 (.slice .sealed (esc s).length (V6 (esc s))) =(match a2t (V6 (esc s))with|some l=>gd (eqN (esc s).length l.length) (some (.str l))|none=>none):=by kernel_rfl
 rw[e2,b0o]
 simp only[a1u rfl,gd]
theorem bs_E (s:List UInt8)(hs:s.length<=1000000):E env (.call 242 [.ptr 0 0,.str s]) [(0,.row RR),(1,.grow 1 TR)]=some (.ret (.str (esc s)) [(0,.row RR),(1,.grow 1 TR)]):=by
 refine R8 (env:=env) rfl Tryz.func242 rfl rfl ?_
 refine C8 ?_
 refine o6 ?_
 refine j6 rfl rfl rfl ?_
 refine D7 ?_
 refine C8 ?_
 refine o6 ?_
 refine j6 rfl rfl rfl ?_
 refine j6 rfl rfl rfl ?_
 refine j6 rfl rfl rfl ?_
 refine D7 ?_
 refine C8 ?_
 refine o6 ?_
 refine j6 rfl rfl rfl ?_
 refine D7 ?_
 refine C8 ?_
 refine C8 ?_
 refine o6 ?_
 refine j6 rfl rfl rfl ?_
 refine j6 rfl rfl rfl ?_
 refine j6 rfl rfl rfl ?_
 refine Y6 rfl rfl rfl (v:=.rslice 1 0 4 true) ld_TL ?_
 refine j6 rfl rfl rfl ?_
 refine j6 rfl rfl rfl ?_
 refine j6 rfl rfl rfl ?_
 refine j6 rfl rfl rfl ?_
 refine j6 rfl rfl rfl ?_
 refine D7 ?_
 refine O1 rfl (fun g26=>?_) (fun g26=>?_)
 ·refine C8 ?_
  refine o6 ?_
  refine j6 rfl rfl rfl ?_
  refine j6 rfl rfl rfl ?_
  refine j6 rfl rfl rfl ?_
  refine Y6 rfl rfl rfl (v:=.rslice 1 0 4 true) ld_TL ?_
  refine j6 rfl rfl rfl ?_
  refine j6 rfl rfl rfl ?_
  refine D7 ?_
  refine M0 ?_
  refine a2N (fr1:=[(0,.ptr 0 0),(1,.str s),(5,.int .i64 ((s.length:Nat):Int)),(6,.bool false),(30,.rslice 1 0 4 true),(31,.int .i64 4),(32,.int .i64 ((0:Nat):Int))]) (H1:=[(0,.row RR),(1,.grow 1 TR)]) (by kernel_rfl) ?_
  refine a5s (fun x:Nat×Nat×Bool=>[(0,.ptr 0 0),(1,.str s),(5,.int .i64 ((x.2.1:Nat):Int)),(6,.bool x.2.2),(30,.rslice 1 0 4 true),(31,.int .i64 4),(32,.int .i64 ((x.1:Nat):Int))]) (fun _=>[(0,.row RR),(1,.grow 1 TR)]) (fun x=>x.1<=4/\x.2.1=s.length+cn s x.1/\x.2.2=decide (0<cn s x.1)) (fun x=>4-x.1) (0,s.length,false) ⟨by simp,rfl,rfl⟩ ?_
  rintro⟨k,ns,any⟩ ⟨hk,hns,hany⟩ ih
  simp only at hk hns hany ih ⊢
  have hcn:=cn_le s k
  rcases(by omega:k=0∨k=1∨k=2∨k=3∨k=4)with rfl|rfl|rfl|rfl|rfl
  ·have hc:=List.count_le_length (a:=(34:UInt8)) (l:=s)
   refine C8 ?_
   refine o6 ?_
   refine j6 rfl rfl rfl ?_
   refine D7 ?_
   refine C8 ?_
   refine N7 rfl (by simp[ltB]) ?_
   refine I7 ?_
   refine C8 ?_
   refine M0 ?_
   refine C8 ?_
   refine o6 ?_
   refine j6 rfl rfl (a09 (by simp[inR]) rfl) ?_
   refine Y6 rfl rfl rfl (v:=.str [34]) rfl ?_
   refine j6 rfl rfl rfl ?_
   refine D7 ?_
   refine C8 ?_
   refine o6 ?_
   refine j6 rfl rfl rfl ?_
   refine j6 rfl rfl rfl ?_
   refine a0Q rfl rfl rfl rfl rfl (ct_E s 34) rfl ?_
   refine j6 rfl rfl rfl ?_
   refine D7 ?_
   refine C8 ?_
   refine o6 ?_
   refine j6 rfl rfl rfl ?_
   refine j6 rfl rfl rfl ?_
   refine D7 ?_
   refine O1 rfl (fun g40=>?_) (fun g40=>?_)
   ·replace g40:s.count 34≠0:=by intro h;rw[h]at g40;simp[eqB]at g40
    refine C8 ?_
    refine o6 ?_
    refine j6 rfl rfl rfl ?_
    refine j6 rfl rfl rfl ?_
    refine j6 rfl rfl rfl ?_
    refine j6 rfl rfl rfl ?_
    refine j6 rfl rfl (a09 (by simp[inR]) (show _=some (.int .u8 (((34:UInt8).toNat:Nat):Int))from rfl)) ?_
    refine j6 rfl rfl rfl ?_
    refine j6 rfl rfl rfl ?_
    refine j6 rfl rfl (a09 (by simp[inR]) rfl) ?_
    refine Y6 rfl rfl rfl (a6I 34 rfl) ?_
    refine j6 rfl rfl rfl ?_
    refine j6 rfl rfl rfl ?_
    refine j6 rfl rfl (mul1 (by omega)) ?_
    refine j6 rfl rfl (addN (by omega)) ?_
    refine j6 rfl rfl rfl ?_
    refine D7 ?_
    refine o6 ?_
    refine j6 rfl rfl rfl ?_
    refine D7 ?_
    refine o6 ?_
    refine j6 rfl rfl rfl ?_
    refine j6 rfl rfl rfl ?_
    refine D7 ?_
    exact⟨[(0,.ptr 0 0),(1,.str s),(5,.int .i64 ((ns+s.count 34:Nat):Int)),(6,.bool true),(30,.rslice 1 0 4 true),(31,.int .i64 4),(32,.int .i64 ((1:Nat):Int))],[(0,.row RR),(1,.grow 1 TR)],by kernel_rfl,ih (1,ns+s.count 34,true) (by simp) ⟨by simp,by rw[hns];simp only[cn];omega,by simp only[cn];symm;simp only[decide_eq_true_eq];omega⟩⟩
   ·replace g40:s.count 34=0:=by simp only[eqB,Bool.not_eq_false',beq_iff_eq]at g40;omega
    refine I7 ?_
    refine o6 ?_
    refine j6 rfl rfl rfl ?_
    refine j6 rfl rfl rfl ?_
    refine D7 ?_
    exact⟨[(0,.ptr 0 0),(1,.str s),(5,.int .i64 ((ns:Nat):Int)),(6,.bool any),(30,.rslice 1 0 4 true),(31,.int .i64 4),(32,.int .i64 ((1:Nat):Int))],[(0,.row RR),(1,.grow 1 TR)],by kernel_rfl,ih (1,ns,any) (by simp) ⟨by simp,by rw[hns];simp only[cn];omega,by rw[hany];simp only[cn];congr 1;simp only[eq_iff_iff];omega⟩⟩
  ·have hc:=List.count_le_length (a:=(92:UInt8)) (l:=s)
   refine C8 ?_
   refine o6 ?_
   refine j6 rfl rfl rfl ?_
   refine D7 ?_
   refine C8 ?_
   refine N7 rfl (by simp[ltB]) ?_
   refine I7 ?_
   refine C8 ?_
   refine M0 ?_
   refine C8 ?_
   refine o6 ?_
   refine j6 rfl rfl (a09 (by simp[inR]) rfl) ?_
   refine Y6 rfl rfl rfl (v:=.str [92]) rfl ?_
   refine j6 rfl rfl rfl ?_
   refine D7 ?_
   refine C8 ?_
   refine o6 ?_
   refine j6 rfl rfl rfl ?_
   refine j6 rfl rfl rfl ?_
   refine a0Q rfl rfl rfl rfl rfl (ct_E s 92) rfl ?_
   refine j6 rfl rfl rfl ?_
   refine D7 ?_
   refine C8 ?_
   refine o6 ?_
   refine j6 rfl rfl rfl ?_
   refine j6 rfl rfl rfl ?_
   refine D7 ?_
   refine O1 rfl (fun g40=>?_) (fun g40=>?_)
   ·replace g40:s.count 92≠0:=by intro h;rw[h]at g40;simp[eqB]at g40
    refine C8 ?_
    refine o6 ?_
    refine j6 rfl rfl rfl ?_
    refine j6 rfl rfl rfl ?_
    refine j6 rfl rfl rfl ?_
    refine j6 rfl rfl rfl ?_
    refine j6 rfl rfl (a09 (by simp[inR]) (show _=some (.int .u8 (((92:UInt8).toNat:Nat):Int))from rfl)) ?_
    refine j6 rfl rfl rfl ?_
    refine j6 rfl rfl rfl ?_
    refine j6 rfl rfl (a09 (by simp[inR]) rfl) ?_
    refine Y6 rfl rfl rfl (a6I 92 rfl) ?_
    refine j6 rfl rfl rfl ?_
    refine j6 rfl rfl rfl ?_
    refine j6 rfl rfl (mul1 (by omega)) ?_
    refine j6 rfl rfl (addN (by omega)) ?_
    refine j6 rfl rfl rfl ?_
    refine D7 ?_
    refine o6 ?_
    refine j6 rfl rfl rfl ?_
    refine D7 ?_
    refine o6 ?_
    refine j6 rfl rfl rfl ?_
    refine j6 rfl rfl rfl ?_
    refine D7 ?_
    exact⟨[(0,.ptr 0 0),(1,.str s),(5,.int .i64 ((ns+s.count 92:Nat):Int)),(6,.bool true),(30,.rslice 1 0 4 true),(31,.int .i64 4),(32,.int .i64 ((2:Nat):Int))],[(0,.row RR),(1,.grow 1 TR)],by kernel_rfl,ih (2,ns+s.count 92,true) (by simp) ⟨by simp,by rw[hns];simp only[cn];omega,by simp only[cn];symm;simp only[decide_eq_true_eq];omega⟩⟩
   ·replace g40:s.count 92=0:=by simp only[eqB,Bool.not_eq_false',beq_iff_eq]at g40;omega
    refine I7 ?_
    refine o6 ?_
    refine j6 rfl rfl rfl ?_
    refine j6 rfl rfl rfl ?_
    refine D7 ?_
    exact⟨[(0,.ptr 0 0),(1,.str s),(5,.int .i64 ((ns:Nat):Int)),(6,.bool any),(30,.rslice 1 0 4 true),(31,.int .i64 4),(32,.int .i64 ((2:Nat):Int))],[(0,.row RR),(1,.grow 1 TR)],by kernel_rfl,ih (2,ns,any) (by simp) ⟨by simp,by rw[hns];simp only[cn];omega,by rw[hany];simp only[cn];congr 1;simp only[eq_iff_iff];omega⟩⟩
  ·have hc:=List.count_le_length (a:=(9:UInt8)) (l:=s)
   refine C8 ?_
   refine o6 ?_
   refine j6 rfl rfl rfl ?_
   refine D7 ?_
   refine C8 ?_
   refine N7 rfl (by simp[ltB]) ?_
   refine I7 ?_
   refine C8 ?_
   refine M0 ?_
   refine C8 ?_
   refine o6 ?_
   refine j6 rfl rfl (a09 (by simp[inR]) rfl) ?_
   refine Y6 rfl rfl rfl (v:=.str [9]) rfl ?_
   refine j6 rfl rfl rfl ?_
   refine D7 ?_
   refine C8 ?_
   refine o6 ?_
   refine j6 rfl rfl rfl ?_
   refine j6 rfl rfl rfl ?_
   refine a0Q rfl rfl rfl rfl rfl (ct_E s 9) rfl ?_
   refine j6 rfl rfl rfl ?_
   refine D7 ?_
   refine C8 ?_
   refine o6 ?_
   refine j6 rfl rfl rfl ?_
   refine j6 rfl rfl rfl ?_
   refine D7 ?_
   refine O1 rfl (fun g40=>?_) (fun g40=>?_)
   ·replace g40:s.count 9≠0:=by intro h;rw[h]at g40;simp[eqB]at g40
    refine C8 ?_
    refine o6 ?_
    refine j6 rfl rfl rfl ?_
    refine j6 rfl rfl rfl ?_
    refine j6 rfl rfl rfl ?_
    refine j6 rfl rfl rfl ?_
    refine j6 rfl rfl (a09 (by simp[inR]) (show _=some (.int .u8 (((9:UInt8).toNat:Nat):Int))from rfl)) ?_
    refine j6 rfl rfl rfl ?_
    refine j6 rfl rfl rfl ?_
    refine j6 rfl rfl (a09 (by simp[inR]) rfl) ?_
    refine Y6 rfl rfl rfl (a6I 9 rfl) ?_
    refine j6 rfl rfl rfl ?_
    refine j6 rfl rfl rfl ?_
    refine j6 rfl rfl (mul1 (by omega)) ?_
    refine j6 rfl rfl (addN (by omega)) ?_
    refine j6 rfl rfl rfl ?_
    refine D7 ?_
    refine o6 ?_
    refine j6 rfl rfl rfl ?_
    refine D7 ?_
    refine o6 ?_
    refine j6 rfl rfl rfl ?_
    refine j6 rfl rfl rfl ?_
    refine D7 ?_
    exact⟨[(0,.ptr 0 0),(1,.str s),(5,.int .i64 ((ns+s.count 9:Nat):Int)),(6,.bool true),(30,.rslice 1 0 4 true),(31,.int .i64 4),(32,.int .i64 ((3:Nat):Int))],[(0,.row RR),(1,.grow 1 TR)],by kernel_rfl,ih (3,ns+s.count 9,true) (by simp) ⟨by simp,by rw[hns];simp only[cn];omega,by simp only[cn];symm;simp only[decide_eq_true_eq];omega⟩⟩
   ·replace g40:s.count 9=0:=by simp only[eqB,Bool.not_eq_false',beq_iff_eq]at g40;omega
    refine I7 ?_
    refine o6 ?_
    refine j6 rfl rfl rfl ?_
    refine j6 rfl rfl rfl ?_
    refine D7 ?_
    exact⟨[(0,.ptr 0 0),(1,.str s),(5,.int .i64 ((ns:Nat):Int)),(6,.bool any),(30,.rslice 1 0 4 true),(31,.int .i64 4),(32,.int .i64 ((3:Nat):Int))],[(0,.row RR),(1,.grow 1 TR)],by kernel_rfl,ih (3,ns,any) (by simp) ⟨by simp,by rw[hns];simp only[cn];omega,by rw[hany];simp only[cn];congr 1;simp only[eq_iff_iff];omega⟩⟩
  ·have hc:=List.count_le_length (a:=(10:UInt8)) (l:=s)
   refine C8 ?_
   refine o6 ?_
   refine j6 rfl rfl rfl ?_
   refine D7 ?_
   refine C8 ?_
   refine N7 rfl (by simp[ltB]) ?_
   refine I7 ?_
   refine C8 ?_
   refine M0 ?_
   refine C8 ?_
   refine o6 ?_
   refine j6 rfl rfl (a09 (by simp[inR]) rfl) ?_
   refine Y6 rfl rfl rfl (v:=.str [10]) rfl ?_
   refine j6 rfl rfl rfl ?_
   refine D7 ?_
   refine C8 ?_
   refine o6 ?_
   refine j6 rfl rfl rfl ?_
   refine j6 rfl rfl rfl ?_
   refine a0Q rfl rfl rfl rfl rfl (ct_E s 10) rfl ?_
   refine j6 rfl rfl rfl ?_
   refine D7 ?_
   refine C8 ?_
   refine o6 ?_
   refine j6 rfl rfl rfl ?_
   refine j6 rfl rfl rfl ?_
   refine D7 ?_
   refine O1 rfl (fun g40=>?_) (fun g40=>?_)
   ·replace g40:s.count 10≠0:=by intro h;rw[h]at g40;simp[eqB]at g40
    refine C8 ?_
    refine o6 ?_
    refine j6 rfl rfl rfl ?_
    refine j6 rfl rfl rfl ?_
    refine j6 rfl rfl rfl ?_
    refine j6 rfl rfl rfl ?_
    refine j6 rfl rfl (a09 (by simp[inR]) (show _=some (.int .u8 (((10:UInt8).toNat:Nat):Int))from rfl)) ?_
    refine j6 rfl rfl rfl ?_
    refine j6 rfl rfl rfl ?_
    refine j6 rfl rfl (a09 (by simp[inR]) rfl) ?_
    refine Y6 rfl rfl rfl (a6I 10 rfl) ?_
    refine j6 rfl rfl rfl ?_
    refine j6 rfl rfl rfl ?_
    refine j6 rfl rfl (mul1 (by omega)) ?_
    refine j6 rfl rfl (addN (by omega)) ?_
    refine j6 rfl rfl rfl ?_
    refine D7 ?_
    refine o6 ?_
    refine j6 rfl rfl rfl ?_
    refine D7 ?_
    refine o6 ?_
    refine j6 rfl rfl rfl ?_
    refine j6 rfl rfl rfl ?_
    refine D7 ?_
    exact⟨[(0,.ptr 0 0),(1,.str s),(5,.int .i64 ((ns+s.count 10:Nat):Int)),(6,.bool true),(30,.rslice 1 0 4 true),(31,.int .i64 4),(32,.int .i64 ((4:Nat):Int))],[(0,.row RR),(1,.grow 1 TR)],by kernel_rfl,ih (4,ns+s.count 10,true) (by simp) ⟨by simp,by rw[hns];simp only[cn];omega,by simp only[cn];symm;simp only[decide_eq_true_eq];omega⟩⟩
   ·replace g40:s.count 10=0:=by simp only[eqB,Bool.not_eq_false',beq_iff_eq]at g40;omega
    refine I7 ?_
    refine o6 ?_
    refine j6 rfl rfl rfl ?_
    refine j6 rfl rfl rfl ?_
    refine D7 ?_
    exact⟨[(0,.ptr 0 0),(1,.str s),(5,.int .i64 ((ns:Nat):Int)),(6,.bool any),(30,.rslice 1 0 4 true),(31,.int .i64 4),(32,.int .i64 ((4:Nat):Int))],[(0,.row RR),(1,.grow 1 TR)],by kernel_rfl,ih (4,ns,any) (by simp) ⟨by simp,by rw[hns];simp only[cn];omega,by rw[hany];simp only[cn];congr 1;simp only[eq_iff_iff];omega⟩⟩
  ·have hN:ns =(esc s).length:=by rw[hns,b0x];rfl
   replace hany:any=decide (s.length<(esc s).length):=by rw[hany,b0x];simp only[cn];congr 1;simp only[eq_iff_iff];omega
   subst hN
   refine C8 ?_
   refine o6 ?_
   refine j6 rfl rfl rfl ?_
   refine D7 ?_
   refine C8 ?_
   refine R4 rfl (by simp[ltB]) ?_
   refine a1R ?_
   refine C8 ?_
   refine C8 ?_
   refine o6 ?_
   refine j6 rfl rfl rfl ?_
   refine j6 rfl rfl rfl ?_
   refine D7 ?_
   refine O1 rfl (fun g82=>?_) (fun g82=>?_)
   ·have hs1:=b2O (s:=s) (by rw[hany]at g82;simpa using g82)
    rw[hs1]
    refine C8 ?_
    refine o6 ?_
    refine j6 rfl rfl rfl ?_
    refine j6 rfl rfl rfl ?_
    refine D7 ?_
    exact F4 ⟨_,rfl,by kernel_rfl⟩
   ·refine I7 ?_
    refine C8 ?_
    refine o6 ?_
    refine j6 rfl rfl rfl ?_
    refine a0y rfl rfl (mk_ok (esc s).length (by have:=a92 s;omega) rfl) ?_
    refine j6 rfl rfl rfl ?_
    refine D7 ?_
    refine C8 ?_
    refine o6 ?_
    refine j6 rfl rfl rfl ?_
    refine D7 ?_
    refine b5F rfl ?_
    refine C8 ?_
    refine o6 ?_
    refine j6 rfl rfl rfl ?_
    refine D7 ?_
    refine M0 ?_
    refine a2N (fr1:=[(0,.ptr 0 0),(1,.str s),(12,.rslice 2 0 (esc s).length true),(13,.int .i64 (((esc (s.take 0)).length:Nat):Int)),(14,.int .i64 ((0:Nat):Int))]) (H1:=[(0,.row RR),(1,.grow 1 TR),(2,.grow 1 (BUF s 0))]) (by kernel_rfl) ?_
    refine a5s (fun i:Nat=>[(0,.ptr 0 0),(1,.str s),(12,.rslice 2 0 (esc s).length true),(13,.int .i64 (((esc (s.take i)).length:Nat):Int)),(14,.int .i64 ((i:Nat):Int))]) (fun i=>[(0,.row RR),(1,.grow 1 TR),(2,.grow 1 (BUF s i))]) (fun i=>i<=s.length) (fun i=>s.length-i) 0 (Nat.zero_le _) ?_
    intro i hi ih
    have hles:=a92 s
    have hpre:=a9b s i
    have hbl:=b9Y s i
    refine C8 ?_
    refine C8 ?_
    refine o6 ?_
    refine j6 rfl rfl rfl ?_
    refine j6 rfl rfl rfl ?_
    refine j6 rfl rfl rfl ?_
    refine j6 rfl rfl rfl ?_
    refine D7 ?_
    refine O1 rfl (fun g89=>?_) (fun g89=>?_)
    ·replace g89:i<s.length:=by simpa [ltN]using g89
     obtain⟨b,hb⟩:∃b,s.getD i 0=b:=⟨_,rfl⟩
     have htk:=b0y g89
     rw[hb]at htk
     have hpre2:=a9b s (i+1)
     refine I7 ?_
     refine C8 ?_
     refine M0 ?_
     refine C8 ?_
     refine o6 ?_
     refine j6 rfl rfl rfl ?_
     refine j6 rfl rfl rfl ?_
     refine j6 rfl rfl (a09 (a0U g89) (show _=some (.int .u8 (((s.getD i 0).toNat:Nat):Int))from rfl)) ?_
     rw[hb]
     refine j6 rfl rfl rfl ?_
     refine D7 ?_
     refine C8 ?_
     refine o6 ?_
     refine j6 rfl rfl rfl ?_
     refine j6 rfl rfl rfl ?_
     refine j6 rfl rfl rfl ?_
     refine j6 rfl rfl rfl ?_
     refine j6 rfl rfl (a09 (a0U (UInt8.toNat_lt b)) rfl) ?_
     rcases a5l b with⟨c,hc,he⟩ |⟨hc,he⟩
     ·refine Y6 rfl rfl rfl ((a6I b (by simp)).trans (congrArg some hc)) ?_
      refine j6 rfl rfl (b9l 2 rfl) ?_
      refine D7 ?_
      refine N7 rfl (rfl) ?_
      refine o6 ?_
      refine j6 rfl rfl rfl ?_
      refine j6 rfl rfl rfl ?_
      refine j6 rfl rfl rfl ?_
      have hL:(esc (s.take (i+1))).length =(esc (s.take i)).length+2:=by rw[htk,he,List.length_append];rfl
      refine j6 rfl rfl (a09 (a8A (by omega) (Nat.le_refl _)) rfl) ?_
      refine j6 rfl rfl rfl ?_
      refine j6 rfl rfl rfl ?_
      refine j6 rfl rfl rfl ?_
      refine j6 rfl rfl rfl ?_
      refine j6 rfl rfl (a09 (a0U (UInt8.toNat_lt b)) rfl) ?_
      refine Y6 rfl rfl rfl ((a6I b (by simp)).trans (congrArg some hc)) ?_
      refine a0y rfl rfl (cp_ok (B:=BUF s (i+1)) (n:=(esc s).length-(esc (s.take i)).length) rfl (by omega) (by omega) (b91 g89 hb he)) ?_
      refine j6 rfl rfl (addE (k:=2) hL (by omega)) ?_
      refine j6 rfl rfl rfl ?_
      refine D7 ?_
      refine o6 ?_
      refine j6 rfl rfl rfl ?_
      refine j6 rfl rfl (add1 (by omega)) ?_
      refine j6 rfl rfl rfl ?_
      refine D7 ?_
      exact⟨[(0,.ptr 0 0),(1,.str s),(12,.rslice 2 0 (esc s).length true),(13,.int .i64 (((esc (s.take (i+1))).length:Nat):Int)),(14,.int .i64 (((i+1):Nat):Int))],[(0,.row RR),(1,.grow 1 TR),(2,.grow 1 (BUF s (i+1)))],by kernel_rfl,ih (i+1) (by omega) (by omega)⟩
     ·refine Y6 rfl rfl rfl ((a6I b (by simp)).trans (congrArg some hc)) ?_
      refine j6 rfl rfl rfl ?_
      refine D7 ?_
      refine R4 rfl (rfl) ?_
      refine C8 ?_
      refine o6 ?_
      refine j6 rfl rfl rfl ?_
      refine j6 rfl rfl rfl ?_
      refine j6 rfl rfl rfl ?_
      have hL:(esc (s.take (i+1))).length =(esc (s.take i)).length+1:=by rw[htk,he,List.length_append];rfl
      refine j6 rfl rfl (a09 (a0U (by omega)) rfl) ?_
      refine b4Z rfl rfl rfl rfl (st_ok (B:=BUF s (i+1)) rfl (by omega) (b9Z g89 hb he)) ?_
      refine D7 ?_
      refine o6 ?_
      refine j6 rfl rfl rfl ?_
      refine j6 rfl rfl (addE (k:=1) hL (by omega)) ?_
      refine j6 rfl rfl rfl ?_
      refine D7 ?_
      refine o6 ?_
      refine j6 rfl rfl rfl ?_
      refine j6 rfl rfl (add1 (by omega)) ?_
      refine j6 rfl rfl rfl ?_
      refine D7 ?_
      exact⟨[(0,.ptr 0 0),(1,.str s),(12,.rslice 2 0 (esc s).length true),(13,.int .i64 (((esc (s.take (i+1))).length:Nat):Int)),(14,.int .i64 (((i+1):Nat):Int))],[(0,.row RR),(1,.grow 1 TR),(2,.grow 1 (BUF s (i+1)))],by kernel_rfl,ih (i+1) (by omega) (by omega)⟩
    ·replace g89:¬i<s.length:=by simpa [ltN]using g89
     obtain rfl:i=s.length:=by omega
     refine a1R ?_
     refine⟨[(12,.slice .sealed (esc s).length ((BUF s s.length).take ((esc s).length*1)))],[(0,.row RR),(1,.grow 1 TR)],by kernel_rfl,?_⟩
     refine C8 ?_
     refine o6 ?_
     refine j6 rfl rfl rfl ?_
     refine a9j rfl rfl rfl (cv_ok s) ?_
     refine j6 rfl rfl rfl ?_
     refine D7 ?_
     exact F4 ⟨_,rfl,by kernel_rfl⟩
 ·refine C8 ?_
  refine o6 ?_
  refine j6 rfl rfl rfl ?_
  refine D7 ?_
  refine M0 ?_
  refine a2N (fr1:=[(0,.ptr 0 0),(1,.str s),(5,.int .i64 ((s.length:Nat):Int)),(6,.bool false),(10,.int .i64 ((0:Nat):Int))]) (H1:=[(0,.row RR),(1,.grow 1 TR)]) (by kernel_rfl) ?_
  refine a5s (fun x:Nat×Nat×Bool=>[(0,.ptr 0 0),(1,.str s),(5,.int .i64 ((x.2.1:Nat):Int)),(6,.bool x.2.2),(10,.int .i64 ((x.1:Nat):Int))]) (fun _=>[(0,.row RR),(1,.grow 1 TR)]) (fun x=>x.1<=s.length/\x.2.1+x.1=s.length+(esc (s.take x.1)).length/\x.2.2=decide (x.1<(esc (s.take x.1)).length)) (fun x=>s.length-x.1) (0,s.length,false) ⟨by simp,by simp[esc],by simp[esc]⟩ ?_
  rintro⟨i,ns,any⟩ ⟨hi,hns,hany⟩ ih
  simp only at hi hns hany ih ⊢
  have hge:=b80 (s.take i)
  have hle:=a92 (s.take i)
  rw[List.length_take,Nat.min_eq_left hi]at hge hle
  refine C8 ?_
  refine C8 ?_
  refine o6 ?_
  refine j6 rfl rfl rfl ?_
  refine j6 rfl rfl rfl ?_
  refine j6 rfl rfl rfl ?_
  refine j6 rfl rfl rfl ?_
  refine D7 ?_
  refine O1 rfl (fun g58=>?_) (fun g58=>?_)
  ·replace g58:i<s.length:=by simpa [ltN]using g58
   obtain⟨b,hb⟩:∃b,s.getD i 0=b:=⟨_,rfl⟩
   have htk:=b0y g58
   rw[hb]at htk
   refine I7 ?_
   refine C8 ?_
   refine M0 ?_
   refine C8 ?_
   refine o6 ?_
   refine j6 rfl rfl rfl ?_
   refine j6 rfl rfl rfl ?_
   refine j6 rfl rfl (a09 (a0U g58) (show _=some (.int .u8 (((s.getD i 0).toNat:Nat):Int))from rfl)) ?_
   rw[hb]
   refine j6 rfl rfl rfl ?_
   refine D7 ?_
   refine C8 ?_
   refine o6 ?_
   refine j6 rfl rfl rfl ?_
   refine j6 rfl rfl rfl ?_
   refine j6 rfl rfl rfl ?_
   refine j6 rfl rfl rfl ?_
   refine j6 rfl rfl (a09 (a0U (UInt8.toNat_lt b)) rfl) ?_
   rcases a5l b with⟨c,hc,he⟩ |⟨hc,he⟩
   ·refine Y6 rfl rfl rfl ((a6I b (by simp)).trans (congrArg some hc)) ?_
    refine j6 rfl rfl (b9l 2 rfl) ?_
    refine D7 ?_
    refine N7 rfl (rfl) ?_
    refine C8 ?_
    refine o6 ?_
    refine j6 rfl rfl rfl ?_
    refine j6 rfl rfl rfl ?_
    refine j6 rfl rfl rfl ?_
    refine j6 rfl rfl rfl ?_
    refine j6 rfl rfl rfl ?_
    refine j6 rfl rfl (a09 (a0U (UInt8.toNat_lt b)) rfl) ?_
    refine Y6 rfl rfl rfl ((a6I b (by simp)).trans (congrArg some hc)) ?_
    refine j6 rfl rfl rfl ?_
    refine j6 rfl rfl rfl ?_
    refine j6 rfl rfl (addN (k:=1) (by omega)) ?_
    refine j6 rfl rfl rfl ?_
    refine D7 ?_
    refine o6 ?_
    refine j6 rfl rfl rfl ?_
    refine D7 ?_
    refine o6 ?_
    refine j6 rfl rfl rfl ?_
    refine j6 rfl rfl (add1 (by omega)) ?_
    refine j6 rfl rfl rfl ?_
    refine D7 ?_
    exact⟨[(0,.ptr 0 0),(1,.str s),(5,.int .i64 ((ns+1:Nat):Int)),(6,.bool true),(10,.int .i64 ((i+1:Nat):Int))],[(0,.row RR),(1,.grow 1 TR)],by kernel_rfl,ih (i+1,ns+1,true) (by simp only;omega) ⟨by simp only;omega,by rw[htk,he];simp only[List.length_append,List.length_cons,List.length_nil];omega,by rw[htk,he];simp only[List.length_append,List.length_cons,List.length_nil];symm;simp only[decide_eq_true_eq];omega⟩⟩
   ·refine Y6 rfl rfl rfl ((a6I b (by simp)).trans (congrArg some hc)) ?_
    refine j6 rfl rfl rfl ?_
    refine D7 ?_
    refine R4 rfl (rfl) ?_
    refine I7 ?_
    refine o6 ?_
    refine j6 rfl rfl rfl ?_
    refine j6 rfl rfl (add1 (by omega)) ?_
    refine j6 rfl rfl rfl ?_
    refine D7 ?_
    exact⟨[(0,.ptr 0 0),(1,.str s),(5,.int .i64 ((ns:Nat):Int)),(6,.bool any),(10,.int .i64 ((i+1:Nat):Int))],[(0,.row RR),(1,.grow 1 TR)],by kernel_rfl,ih (i+1,ns,any) (by simp only;omega) ⟨by simp only;omega,by rw[htk,he];simp only[List.length_append,List.length_cons,List.length_nil];omega,by rw[hany,htk,he];simp only[List.length_append,List.length_cons,List.length_nil];congr 1;simp only[eq_iff_iff];omega⟩⟩
  ·replace g58:¬i<s.length:=by simpa [ltN]using g58
   obtain rfl:i=s.length:=by omega
   rw[List.take_length]at hns hany
   obtain rfl:ns =(esc s).length:=by omega
   refine a1R ?_
   refine C8 ?_
   refine C8 ?_
   refine o6 ?_
   refine j6 rfl rfl rfl ?_
   refine j6 rfl rfl rfl ?_
   refine D7 ?_
   refine O1 rfl (fun g82=>?_) (fun g82=>?_)
   ·have hs1:=b2O (s:=s) (by rw[hany]at g82;simpa using g82)
    rw[hs1]
    refine C8 ?_
    refine o6 ?_
    refine j6 rfl rfl rfl ?_
    refine j6 rfl rfl rfl ?_
    refine D7 ?_
    exact F4 ⟨_,rfl,by kernel_rfl⟩
   ·refine I7 ?_
    refine C8 ?_
    refine o6 ?_
    refine j6 rfl rfl rfl ?_
    refine a0y rfl rfl (mk_ok (esc s).length (by have:=a92 s;omega) rfl) ?_
    refine j6 rfl rfl rfl ?_
    refine D7 ?_
    refine C8 ?_
    refine o6 ?_
    refine j6 rfl rfl rfl ?_
    refine D7 ?_
    refine b5F rfl ?_
    refine C8 ?_
    refine o6 ?_
    refine j6 rfl rfl rfl ?_
    refine D7 ?_
    refine M0 ?_
    refine a2N (fr1:=[(0,.ptr 0 0),(1,.str s),(12,.rslice 2 0 (esc s).length true),(13,.int .i64 (((esc (s.take 0)).length:Nat):Int)),(14,.int .i64 ((0:Nat):Int))]) (H1:=[(0,.row RR),(1,.grow 1 TR),(2,.grow 1 (BUF s 0))]) (by kernel_rfl) ?_
    refine a5s (fun i:Nat=>[(0,.ptr 0 0),(1,.str s),(12,.rslice 2 0 (esc s).length true),(13,.int .i64 (((esc (s.take i)).length:Nat):Int)),(14,.int .i64 ((i:Nat):Int))]) (fun i=>[(0,.row RR),(1,.grow 1 TR),(2,.grow 1 (BUF s i))]) (fun i=>i<=s.length) (fun i=>s.length-i) 0 (Nat.zero_le _) ?_
    intro i hi ih
    have hles:=a92 s
    have hpre:=a9b s i
    have hbl:=b9Y s i
    refine C8 ?_
    refine C8 ?_
    refine o6 ?_
    refine j6 rfl rfl rfl ?_
    refine j6 rfl rfl rfl ?_
    refine j6 rfl rfl rfl ?_
    refine j6 rfl rfl rfl ?_
    refine D7 ?_
    refine O1 rfl (fun g89=>?_) (fun g89=>?_)
    ·replace g89:i<s.length:=by simpa [ltN]using g89
     obtain⟨b,hb⟩:∃b,s.getD i 0=b:=⟨_,rfl⟩
     have htk:=b0y g89
     rw[hb]at htk
     have hpre2:=a9b s (i+1)
     refine I7 ?_
     refine C8 ?_
     refine M0 ?_
     refine C8 ?_
     refine o6 ?_
     refine j6 rfl rfl rfl ?_
     refine j6 rfl rfl rfl ?_
     refine j6 rfl rfl (a09 (a0U g89) (show _=some (.int .u8 (((s.getD i 0).toNat:Nat):Int))from rfl)) ?_
     rw[hb]
     refine j6 rfl rfl rfl ?_
     refine D7 ?_
     refine C8 ?_
     refine o6 ?_
     refine j6 rfl rfl rfl ?_
     refine j6 rfl rfl rfl ?_
     refine j6 rfl rfl rfl ?_
     refine j6 rfl rfl rfl ?_
     refine j6 rfl rfl (a09 (a0U (UInt8.toNat_lt b)) rfl) ?_
     rcases a5l b with⟨c,hc,he⟩ |⟨hc,he⟩
     ·refine Y6 rfl rfl rfl ((a6I b (by simp)).trans (congrArg some hc)) ?_
      refine j6 rfl rfl (b9l 2 rfl) ?_
      refine D7 ?_
      refine N7 rfl (rfl) ?_
      refine o6 ?_
      refine j6 rfl rfl rfl ?_
      refine j6 rfl rfl rfl ?_
      refine j6 rfl rfl rfl ?_
      have hL:(esc (s.take (i+1))).length =(esc (s.take i)).length+2:=by rw[htk,he,List.length_append];rfl
      refine j6 rfl rfl (a09 (a8A (by omega) (Nat.le_refl _)) rfl) ?_
      refine j6 rfl rfl rfl ?_
      refine j6 rfl rfl rfl ?_
      refine j6 rfl rfl rfl ?_
      refine j6 rfl rfl rfl ?_
      refine j6 rfl rfl (a09 (a0U (UInt8.toNat_lt b)) rfl) ?_
      refine Y6 rfl rfl rfl ((a6I b (by simp)).trans (congrArg some hc)) ?_
      refine a0y rfl rfl (cp_ok (B:=BUF s (i+1)) (n:=(esc s).length-(esc (s.take i)).length) rfl (by omega) (by omega) (b91 g89 hb he)) ?_
      refine j6 rfl rfl (addE (k:=2) hL (by omega)) ?_
      refine j6 rfl rfl rfl ?_
      refine D7 ?_
      refine o6 ?_
      refine j6 rfl rfl rfl ?_
      refine j6 rfl rfl (add1 (by omega)) ?_
      refine j6 rfl rfl rfl ?_
      refine D7 ?_
      exact⟨[(0,.ptr 0 0),(1,.str s),(12,.rslice 2 0 (esc s).length true),(13,.int .i64 (((esc (s.take (i+1))).length:Nat):Int)),(14,.int .i64 (((i+1):Nat):Int))],[(0,.row RR),(1,.grow 1 TR),(2,.grow 1 (BUF s (i+1)))],by kernel_rfl,ih (i+1) (by omega) (by omega)⟩
     ·refine Y6 rfl rfl rfl ((a6I b (by simp)).trans (congrArg some hc)) ?_
      refine j6 rfl rfl rfl ?_
      refine D7 ?_
      refine R4 rfl (rfl) ?_
      refine C8 ?_
      refine o6 ?_
      refine j6 rfl rfl rfl ?_
      refine j6 rfl rfl rfl ?_
      refine j6 rfl rfl rfl ?_
      have hL:(esc (s.take (i+1))).length =(esc (s.take i)).length+1:=by rw[htk,he,List.length_append];rfl
      refine j6 rfl rfl (a09 (a0U (by omega)) rfl) ?_
      refine b4Z rfl rfl rfl rfl (st_ok (B:=BUF s (i+1)) rfl (by omega) (b9Z g89 hb he)) ?_
      refine D7 ?_
      refine o6 ?_
      refine j6 rfl rfl rfl ?_
      refine j6 rfl rfl (addE (k:=1) hL (by omega)) ?_
      refine j6 rfl rfl rfl ?_
      refine D7 ?_
      refine o6 ?_
      refine j6 rfl rfl rfl ?_
      refine j6 rfl rfl (add1 (by omega)) ?_
      refine j6 rfl rfl rfl ?_
      refine D7 ?_
      exact⟨[(0,.ptr 0 0),(1,.str s),(12,.rslice 2 0 (esc s).length true),(13,.int .i64 (((esc (s.take (i+1))).length:Nat):Int)),(14,.int .i64 (((i+1):Nat):Int))],[(0,.row RR),(1,.grow 1 TR),(2,.grow 1 (BUF s (i+1)))],by kernel_rfl,ih (i+1) (by omega) (by omega)⟩
    ·replace g89:¬i<s.length:=by simpa [ltN]using g89
     obtain rfl:i=s.length:=by omega
     refine a1R ?_
     refine⟨[(12,.slice .sealed (esc s).length ((BUF s s.length).take ((esc s).length*1)))],[(0,.row RR),(1,.grow 1 TR)],by kernel_rfl,?_⟩
     refine C8 ?_
     refine o6 ?_
     refine j6 rfl rfl rfl ?_
     refine a9j rfl rfl rfl (cv_ok s) ?_
     refine j6 rfl rfl rfl ?_
     refine D7 ?_
     exact F4 ⟨_,rfl,by kernel_rfl⟩
end Go.Proofs.YtjhfloacokgdiaaGreatDoor.Rp
namespace Go.Proofs.YtjhfloacokgdiaaGreatDoor.Rp
open Go Go.Vm
theorem b6S {env:Env}{orc:Orc}{H:Hp}{k g:Nat}{args ac:List V}{ns:List Nat}{H3 H4 Hc:Hp}{v v4:V}(hq:env.quiet g=false)(hp:a4F env g args H=some (ns,ac,Hc))(hc:orc (.call g ac) Hc=some (.ret v H3))(h7:a3a (a0e (H6 ns k) dep v)=some v4)
  (h8:O7 (a0i (H6 ns k) H3 H)=some H4) (h9:a1S H H3 k ns.length=true):M9 env orc k g args H=some (.val v4 H4):=by
 rw[a0E]at h8
 rw[a6F]at h7
 obtain⟨M8,H2,h1,h2,h3,h4⟩:=a4G hp
 simp only[M9,hq,h1,h2,h3,h4,hc,h7,h8,h9]
theorem c1x {env:Env}{orc:Orc}{ops:Array Oper}{o:Oper}{rest:List Oper}{fr:Fr}{H H1:Hp}{K:Res->Prop}{rc:Operand}{m:String}{args:Array Operand}{at_:Array TypeId}{t g:Nat}{v0 v:V}{l:List V}
  (hw:u6 ops o fr=some true) (ho:o.op=.call ⟨.invoke rc m,args,at_⟩) (hr:ev fr rc=some (.iface t v0)) (hl:evL fr args.toList=some l) (hm:env.meth t m=some g) (hc:M9 env orc (newName o) g (v0::l) H=some (.val v H1))
  (h:Go.Vm.Os env orc ops rest (M5 o.dst v fr) H1 K):Go.Vm.Os env orc ops (o::rest) fr H K:=by
 have hp:J4 o.op=false:=by rw[ho];rfl
 refine a0y hw hp (v:=v) (H1:=H1) ?_ h
 unfold M4
 rw[ho]
 simp only[hr,hl,hm,hc]
theorem do_E:E env (.call 142 [.ptr 0 0,.func (.func 143) [.ptr 0 0] []]) [(0,.row [.int .u32 0,.int .i32 0,.int .u32 0,.nilIface,.slice (.tag 1) 8 pairs]),(1,.tip 1 8)]=some (.ret (.tuple []) [(0,.row [.int .u32 1,.int .i32 0,.int .u32 0,.iface 196 (.ptr 2 0),.slice .nil 0 []]),(1,.tip 1 8),(2,.row ((List.range 256).map cell++[.rslice 3 0 4 true])),(3,.grow 1 TR)]) :=
 E_via (g':=143) (l:=[.ptr 0 0]) (H':=[(0,.row [.int .u32 0,.int .i32 1,.int .u32 0,.nilIface,.slice (.tag 1) 8 pairs]),(1,.tip 1 8)]) rfl (by kernel_rfl) bu_E (by kernel_rfl)
theorem rp_E (s:List UInt8)(hs:s.length<=1000000):E env (.call 115 [.ptr 0 0,.str s]) [(0,.row [.int .u32 0,.int .i32 0,.int .u32 0,.nilIface,.slice (.tag 1) 8 pairs]),(1,.tip 1 8)]=some (.ret (.str (esc s)) [(0,.row [.int .u32 1,.int .i32 0,.int .u32 0,.iface 196 (.ptr 2 0),.slice .nil 0 []]),(1,.tip 1 8),(2,.row ((List.range 256).map cell++[.rslice 3 0 4 true])),(3,.grow 1 TR)]):=by
 refine R8 (env:=env) rfl Tryz.func115 rfl rfl ?_
 refine C8 ?_
 refine o6 ?_
 refine j6 rfl rfl rfl ?_
 refine D7 ?_
 refine C8 ?_
 refine o6 ?_
 refine j6 rfl rfl rfl ?_
 refine j6 rfl rfl rfl ?_
 refine j6 rfl rfl rfl ?_
 refine j6 rfl rfl rfl ?_
 refine j6 rfl rfl rfl ?_
 refine a9i (v:=.tuple []) (H1:=[(0,.row [.int .u32 1,.int .i32 0,.int .u32 0,.iface 196 (.ptr 704 0),.slice .nil 0 []]),(1,.tip 1 8),(704,.row ((List.range 256).map cell++[.rslice 705 0 4 true])),(705,.grow 1 TR)]) rfl rfl rfl (a2Z (ns:=[0,1]) (ac:=[.ptr 0 0,.func (.func 143) [.ptr 0 0] []]) (Hc:=[(0,.row [.int .u32 0,.int .i32 0,.int .u32 0,.nilIface,.slice (.tag 1) 8 pairs]),(1,.tip 1 8)]) rfl (by kernel_rfl) do_E (by kernel_rfl) (by kernel_rfl) (by kernel_rfl)) ?_
 refine D7 ?_
 refine C8 ?_
 refine o6 ?_
 refine j6 rfl rfl rfl ?_
 refine j6 rfl rfl rfl ?_
 refine j6 rfl rfl rfl ?_
 refine Y6 rfl rfl rfl (v:=.iface 196 (.ptr 704 0)) (by kernel_rfl) ?_
 refine j6 rfl rfl rfl ?_
 refine c1x (g:=242) (v:=.str (esc s)) (H1:=[(0,.row [.int .u32 1,.int .i32 0,.int .u32 0,.iface 196 (.ptr 704 0),.slice .nil 0 []]),(1,.tip 1 8),(704,.row ((List.range 256).map cell++[.rslice 705 0 4 true])),(705,.grow 1 TR)]) rfl rfl rfl rfl rfl (b6S (ns:=[704,705]) (ac:=[.ptr 0 0,.str s]) (Hc:=[(0,.row RR),(1,.grow 1 TR)]) rfl (by kernel_rfl) (bs_E s hs) (by kernel_rfl) (by kernel_rfl) (by kernel_rfl)) ?_
 refine j6 rfl rfl rfl ?_
 refine D7 ?_
 exact F4 ⟨.str (esc s),by kernel_rfl,by kernel_rfl⟩
theorem esc_E (s:List UInt8)(hs:s.length<=1000000):E env (.call 88 [.str s]) []=some (.ret (.str (esc s)) []):=by
 refine R8 (env:=env) rfl Tryz.func88 rfl rfl ?_
 refine C8 ?_
 refine o6 ?_
 refine j6 rfl rfl rfl ?_
 refine D7 ?_
 refine C8 ?_
 refine o6 ?_
 refine j6 rfl rfl rfl ?_
 refine a9i (v:=.ptr 320 0) (H1:=[(320,.row [.int .u32 0,.int .i32 0,.int .u32 0,.nilIface,.slice (.tag 321) 8 pairs]),(321,.tip 1 8)]) rfl rfl rfl (a2Z (ns:=[]) (ac:=[.slice .sealed 8 pairs]) (Hc:=[]) rfl (by kernel_rfl) nr_E (by kernel_rfl) (by kernel_rfl) (by kernel_rfl)) ?_
 refine j6 rfl rfl rfl ?_
 refine a9i (v:=.str (esc s)) (H1:=[(320,.row [.int .u32 1,.int .i32 0,.int .u32 0,.iface 196 (.ptr 448 0),.slice .nil 0 []]),(321,.tip 1 8),(448,.row ((List.range 256).map cell++[.rslice 449 0 4 true])),(449,.grow 1 TR)]) rfl rfl rfl (a2Z (ns:=[320,321]) (ac:=[.ptr 0 0,.str s]) (Hc:=[(0,.row [.int .u32 0,.int .i32 0,.int .u32 0,.nilIface,.slice (.tag 1) 8 pairs]),(1,.tip 1 8)]) rfl (by kernel_rfl) (rp_E s hs) (by kernel_rfl) (by kernel_rfl) (by kernel_rfl)) ?_
 refine j6 rfl rfl rfl ?_
 refine D7 ?_
 exact F4 ⟨.str (esc s),by kernel_rfl,by kernel_rfl⟩
def escF:List V->Option V:=fun args=>match args with
 | [.str s]=>match leN s.length 1000000 with
  | true=>some (.str (esc s))
  | false=>none
 | _=>none
theorem esc_intr:a5e Tryz.prog 88 (a9E escF):=by
 refine b2w b1A (fun args v h=>?_) ⟨_,_,Tryz.func88,by kernel_rfl,rfl⟩
 unfold escF at h
 split at h
 ·rename_i s
  split at h
  ·rename_i hs
   cases h
   exact⟨rfl,rfl,esc_E s (a2V hs)⟩
  ·cases h
 ·cases h
end Go.Proofs.YtjhfloacokgdiaaGreatDoor.Rp
namespace Go.Proofs
open Go.Shelf
def Tryz.b5X:Go.Shelf.Ren:=⟨fun|171=>113|243=>141|246=>153|283=>163|284=>164|285=>165|286=>166|129=>177|317=>176|318=>178|319=>179|320=>180|337=>192|338=>193|n=>n,fun|3=>3|9=>9|2=>2|4=>4|171=>177|0=>0|53=>178|37=>58|5=>5|173=>181|212=>200|51=>119|20=>20|213=>201|46=>169|232=>240|233=>241|n=>n,fun|17=>5|18=>8|19=>9|n=>n⟩
theorem Tryz.laysM171:Go.Proofs.LaysM.n171 Tryz.prog Tryz.b5X:={
 mixed:=by kernel_rfl
 f129:=Tryz.func177.trans (congrArg some (by kernel_rfl))
 f171:=Tryz.func113.trans (congrArg some (by kernel_rfl))
 f243:=Tryz.func141.trans (congrArg some (by kernel_rfl))
 f246:=Tryz.func153.trans (congrArg some (by kernel_rfl))
 f283:=Tryz.func163.trans (congrArg some (by kernel_rfl))
 f284:=Tryz.func164.trans (congrArg some (by kernel_rfl))
 f285:=Tryz.func165.trans (congrArg some (by kernel_rfl))
 f286:=Tryz.func166.trans (congrArg some (by kernel_rfl))
 f317:=Tryz.func176.trans (congrArg some (by kernel_rfl))
 f318:=Tryz.func178.trans (congrArg some (by kernel_rfl))
 f319:=Tryz.func179.trans (congrArg some (by kernel_rfl))
 f320:=Tryz.func180.trans (congrArg some (by kernel_rfl))
 f337:=Tryz.func192.trans (congrArg some (by kernel_rfl))
 f338:=Tryz.func193.trans (congrArg some (by kernel_rfl))
 t0:=Tryz.underlying0
 a0:=Tryz.isAgg0
 z0:=Tryz.sizeOf0
 v0:=Tryz.zeroValue0
 t2:=Tryz.underlying2
 a2:=Tryz.isAgg2
 z2:=Tryz.sizeOf2
 v2:=Tryz.zeroValue2
 t3:=Tryz.underlying3
 a3:=Tryz.isAgg3
 z3:=Tryz.sizeOf3
 v3:=Tryz.zeroValue3
 t4:=Tryz.underlying4
 a4:=Tryz.isAgg4
 z4:=Tryz.sizeOf4
 v4:=Tryz.zeroValue4
 t5:=Tryz.underlying5
 a5:=Tryz.isAgg5
 z5:=Tryz.sizeOf5
 v5:=Tryz.zeroValue5
 t9:=Tryz.underlying9
 a9:=Tryz.isAgg9
 z9:=Tryz.sizeOf9
 v9:=Tryz.zeroValue9
 t20:=Tryz.underlying20
 a20:=Tryz.isAgg20
 z20:=Tryz.sizeOf20
 v20:=Tryz.zeroValue20
 t37:=Tryz.underlying58
 a37:=Tryz.isAgg58
 z37:=Tryz.sizeOf58
 v37:=Tryz.zeroValue58
 t46:=Tryz.underlying169
 a46:=Tryz.isAgg169
 z46:=Tryz.sizeOf169
 v46:=Tryz.zeroValue169
 t51:=Tryz.underlying119
 a51:=Tryz.isAgg119
 z51:=Tryz.sizeOf119
 v51:=Tryz.zeroValue119
 t53:=Tryz.underlying178
 a53:=Tryz.isAgg178
 z53:=Tryz.sizeOf178
 v53:=Tryz.zeroValue178
 t171:=Tryz.underlying177
 a171:=Tryz.isAgg177
 z171:=Tryz.sizeOf177
 v171:=Tryz.zeroValue177
 t173:=Tryz.underlying181
 a173:=Tryz.isAgg181
 z173:=Tryz.sizeOf181
 v173:=Tryz.zeroValue181
 t212:=Tryz.underlying200
 a212:=Tryz.isAgg200
 z212:=Tryz.sizeOf200
 v212:=Tryz.zeroValue200
 t213:=Tryz.underlying201
 a213:=Tryz.isAgg201
 z213:=Tryz.sizeOf201
 t232:=Tryz.underlying240
 a232:=Tryz.isAgg240
 z232:=Tryz.sizeOf240
 v232:=Tryz.zeroValue240
 t233:=Tryz.underlying241
 a233:=Tryz.isAgg241
 z233:=Tryz.sizeOf241
 v233:=Tryz.zeroValue241
 g17:=by kernel_rfl
 g18:=by kernel_rfl
 g19:=by kernel_rfl
 i0:=by kernel_rfl
 i2:=by kernel_rfl
 i3:=by kernel_rfl
 i4:=by kernel_rfl
 i5:=by kernel_rfl
 i9:=by kernel_rfl
 i20:=by kernel_rfl
 i37:=by kernel_rfl
 i46:=by kernel_rfl
 i51:=by kernel_rfl
 i53:=by kernel_rfl
 i171:=by kernel_rfl
 i173:=by kernel_rfl
 i212:=by kernel_rfl
 i232:=by kernel_rfl
 i233:=by kernel_rfl
 m17:=by kernel_rfl
 m18:=by kernel_rfl
 m19:=by kernel_rfl}
open Go.RowKit Go.Sort Go.Lib in
theorem Tryz.strconv_Itoa (n:Int) (h0:-9223372036854775808<=n) (h1:n<=9223372036854775807) (w:World) (htab:Lib.TabIs Tryz.prog w "internal/strconv.uint64pow10" .u64 Lib.pow10Tab) :
  Calls Tryz.prog 113 #[.int .i64 n] w fun e w'=>e=.returned (.string ⟨(Lib.itoa n).toArray⟩) /\ ∃k os,w'=grow (w.drewN k) os:=Any.strconv_Itoa Tryz.laysM171 n h0 h1 w htab
end Go.Proofs
namespace Go.Proofs.YtjhfloacokgdiaaGreatDoor
open Go Go.Vm
def rngB (n:Int):Bool:=decide (-9223372036854775808<=n)&&decide (n<=9223372036854775807)
def itoaF:List V->Option V
 | [.int .i64 n]=>match rngB n with
  | true=>some (.str (Lib.itoa n))
  | false=>none
 | _=>none
theorem tab_at {w:World} (h:KpW w):Lib.TabIs Tryz.prog w "internal/strconv.uint64pow10" .u64 Lib.pow10Tab:=by
 obtain⟨_,t,fr,h⟩:=h (5,kpTab) List.mem_cons_self
 unfold Lib.TabIs World.var?
 rw[show Tryz.prog.globalNamed "internal/strconv.uint64pow10" = some 5 by kernel_rfl]
 simp only[Option.bind_some,h]
 rfl
theorem b4L:a5e Tryz.prog 113 (a9E itoaF):=by
 refine⟨fun args H out h ρ lab w xs hc hS hx=>?_,⟨_,_,Tryz.func113,rfl,rfl⟩⟩
 unfold a9E itoaF at h
 split at h
 ·rename_i v hv
  cases h
  split at hv
  ·rename_i n
   split at hv
   ·rename_i hb
    cases hv
    simp only[rngB,Bool.and_eq_true,decide_eq_true_eq]at hb
    obtain⟨x1,r1,rfl,a1,a2⟩:=A9.1 hx
    have:r1=[]:=by have:=a2.1;simpa using this
    subst this
    cases a1
    refine(Tryz.strconv_Itoa n hb.1 hb.2 w (tab_at hS.kp.1)).mono fun e w' ⟨he,k,os,hw⟩=>?_
    subst he hw
    have hg:V5 w (Go.Sort.grow (w.drewN k) os):=a7h (Lib.below_grow _ w (Nat.le_refl _) k os)
    exact⟨ρ,lab,hS.grew hg,hg.ext lab,⟨fun _ _ _ h=>h,fun _ _ _ _ h=>h⟩,.str _,hc,Nat.le_refl _⟩
   ·cases hv
  ·cases hv
 ·cases h
end Go.Proofs.YtjhfloacokgdiaaGreatDoor
namespace Go.Proofs.YtjhfloacokgdiaaGreatDoor
open Go Go.Vm
def cvTok (t:Sc.Tok):Tok:=⟨t.k,t.t,(t.a:Nat),(t.l:Nat)⟩
def a3b:Sc.MR->List Tok
 | .done l=>l.map cvTok
 | _=>[]
def a8Z:Sc.MR->Int
 | .err c _=>c
 | _=>0
def tokA:Sc.MR->Int
 | .err _ a=>(a:Nat)
 | _=>0
theorem b6W:∀l:List Sc.Tok,p8 (l.map cvTok)=Sc.a08 l
 | []=>rfl
 | t::r=>by
  rw[List.map_cons,b8V.cons,b6W r]
  rfl
theorem tokV_cv {r:Sc.MR}(h:Sc.RBd r):Sc.b31 r=.tuple [.slice .sealed (List.length (a3b r)) (p8 (a3b r)),.agg [.int .i64 (a8Z r),.int .i64 (tokA r)]]:=by
 cases r with
 | go x=>exact h.elim
 | done l =>
  simp only[a3b,Sc.b31,b6W,List.length_map,a8Z,tokA]
 | err c a=>rfl
theorem tok_call {env:Env}{g:Nat}{s:Str}(hi:env.intr g=some (.plain (a9E Sc.tokF)))(h:Sc.RBd (Sc.a0R s)) :
  E env (.call g [.str s]) []=some (.ret (.tuple [.slice .sealed (List.length (a3b (Sc.a0R s))) (p8 (a3b (Sc.a0R s))),.agg [.int .i64 (a8Z (Sc.a0R s)),.int .i64 (tokA (Sc.a0R s))]]) []):=by
 refine a7g hi ?_
 rw[<-tokV_cv h]
 rfl
theorem tok_code (s:Str):(a8Z (Sc.a0R s)=0/\tokA (Sc.a0R s)=0)∨(a8Z (Sc.a0R s)≠0/\a3b (Sc.a0R s)=[]):=by
 have h:=(Sc.b0W s).1
 generalize Sc.a0R s=r at h
 cases r with
 | go x=>exact h.bd.elim
 | done l=>exact .inl ⟨rfl,rfl⟩
 | err c a=>exact .inr ⟨h.nz c a rfl,rfl⟩
theorem b8f (s:Str):(a3b (Sc.a0R s)).length<=3000:=by
 have h:=(Sc.b2u s).1
 generalize Sc.a0R s=r at h
 cases r with
 | go x=>exact h.elim
 | done l=>simpa [a3b,Sc.RBd]using h
 | err c a=>simp[a3b]
end Go.Proofs.YtjhfloacokgdiaaGreatDoor
namespace Go.Proofs.YtjhfloacokgdiaaGreatDoor
open Go Go.Vm
def b07:Option Bool:=some true
noncomputable def a2X (V3:Str):Option (List Tok×Int×Int):=some (a3b (Sc.a0R V3),a8Z (Sc.a0R V3),tokA (Sc.a0R V3))
def b4M (elems1:List Str)(sep2:Str):Option Str:=match leN elems1.length 140737488355328&&leN (Lib.join elems1 sep2).length 140737488355328 with
 | true=>some (Lib.join elems1 sep2)
 | false=>none
def escS (s1:Str):Option Str:=match leN s1.length 1000000 with
 | true=>some (Rp.esc s1)
 | false=>none
def trimG (s1:Str):Option Str:=match s1 with
 | []=>some []
 | _::_=>none
def atoi (s1:Str):Option Int:=match digB s1 with
 | true=>some ((a3r s1 0:Nat):Int)
 | false=>none
end Go.Proofs.YtjhfloacokgdiaaGreatDoor
namespace Go.Proofs.YtjhfloacokgdiaaGreatDoor
open Go Go.Vm
noncomputable def a5r (s1:Str):Option (Bool) :=
 cond (ltB 8000 (List.length s1:Int)) (
 some (false)) (
 (a2X s1).bind fun(l2,c3,a4) =>
 cond (ltB 0 (List.length l2:Int)) (
 some (true)) (
 (trimG s1).bind fun rr5 =>
 some ((eqS rr5 []))))
def b3a (s1:Str):Bool->Out
 | T9=>.ret (.bool T9) []
structure A8 where
 N8:Typ->Typ->Option (Bool)
 K7:(List Typ) ->(List Typ)->Option (Bool)
def a1M (n:Nat)(Φ:A8)(a1 b2:Typ):Option (Bool) :=
 cond (eqB a1.kind b2.kind) (
 cond (eqS a1.name b2.name) (
 cond (eqB a1.n b2.n) (
 (Φ.K7 a1.args b2.args).bind fun r3 =>
 some (r3)) (
 some (false))) (
 some (false))) (
 some (false))
def b0f (a1 b2:Typ):Bool->Out
 | T9=>.ret (.bool T9) []
def a0n (n:Nat)(Φ:A8)(a1 b2:List Typ):Nat->Int->Option (Lr (Unit) (Bool))
  | 0,_=>none
  | m4 + 1,a7O =>
      cond (ltB a7O (List.length a1:Int)) (
      (idx' a1 a7O).bind fun x3 =>
      (idx' b2 a7O).bind fun x4 =>
      (Φ.N8 x3 x4).bind fun r5 =>
      cond (!r5) (
      some (.out (false))) (
      a0n n Φ a1 b2 m4 (w64 (a7O+1)))) (
      some (.brk ()))
def a0C (n:Nat)(Φ:A8)(a1 b2:List Typ):Option (Bool) :=
 cond (!eqB (List.length a1:Int) (List.length b2:Int)) (
 some (false)) (
 Y9 (α:=Unit) (
 a0n n Φ a1 b2 n 0) fun _ =>
 some (true))
def a3j (a1 b2:List Typ):Bool->Out
 | T9=>.ret (.bool T9) []
def A8.fs:Nat->A8
 | 0=>⟨fun _ _=>none,fun _ _=>none⟩
 | n+1=>⟨a1M n (A8.fs n),a0C n (A8.fs n)⟩
def N8 (n:Nat)(a1 b2:Typ):Option (Bool):=(A8.fs n).N8 a1 b2
def K7 (n:Nat)(a1 b2:List Typ):Option (Bool):=(A8.fs n).K7 a1 b2
structure G5 where
 a0G:Nod->Nod->Option (Bool)
 M7:(List Nod) ->(List Nod)->Option (Bool)
def a3u (n:Nat)(Φ:G5)(a1 b2:Nod):Option (Bool) :=
 cond (eqB a1.op b2.op) (
 cond (eqS a1.s b2.s) (
 cond (eqB a1.n b2.n) (
 (N8 n a1.t b2.t).bind fun r3 =>
 cond r3 (
 (K7 n a1.ts b2.ts).bind fun r4 =>
 cond r4 (
 (Φ.M7 a1.l b2.l).bind fun r5 =>
 some (r5)) (
 some (false))) (
 some (false))) (
 some (false))) (
 some (false))) (
 some (false))
def b3v (a1 b2:Nod):Bool->Out
 | T9=>.ret (.bool T9) []
def a0m (n:Nat)(Φ:G5)(a1 b2:List Nod):Nat->Int->Option (Lr (Unit) (Bool))
  | 0,_=>none
  | m4 + 1,a7O =>
      cond (ltB a7O (List.length a1:Int)) (
      (idx' a1 a7O).bind fun x3 =>
      (idx' b2 a7O).bind fun x4 =>
      (Φ.a0G x3 x4).bind fun r5 =>
      cond (!r5) (
      some (.out (false))) (
      a0m n Φ a1 b2 m4 (w64 (a7O+1)))) (
      some (.brk ()))
def a0B (n:Nat)(Φ:G5)(a1 b2:List Nod):Option (Bool) :=
 cond (!eqB (List.length a1:Int) (List.length b2:Int)) (
 some (false)) (
 Y9 (α:=Unit) (
 a0m n Φ a1 b2 n 0) fun _ =>
 some (true))
def a3i (a1 b2:List Nod):Bool->Out
 | T9=>.ret (.bool T9) []
def G5.fs:Nat->G5
 | 0=>⟨fun _ _=>none,fun _ _=>none⟩
 | n+1=>⟨a3u n (G5.fs n),a0B n (G5.fs n)⟩
def a0G (n:Nat)(a1 b2:Nod):Option (Bool):=(G5.fs n).a0G a1 b2
def M7 (n:Nat)(a1 b2:List Nod):Option (Bool):=(G5.fs n).M7 a1 b2
def a3D (t1:Tok):Option (Str) :=
 cond (eqB t1.kind 4) (
 (escS t1.text).bind fun rr2 =>
 (cat [34] rr2).bind fun s3 =>
 (cat s3 [34]).bind fun s4 =>
 some (s4)) (
 cond (eqB t1.kind 5) (
 (escS t1.text).bind fun rr5 =>
 (cat [34] rr5).bind fun s6 =>
 (cat s6 [92,40]).bind fun s7 =>
 some (s7)) (
 cond (eqB t1.kind 6) (
 (escS t1.text).bind fun rr8 =>
 (cat [41] rr8).bind fun s9 =>
 (cat s9 [92,40]).bind fun s10 =>
 some (s10)) (
 cond (eqB t1.kind 7) (
 (escS t1.text).bind fun rr11 =>
 (cat [41] rr11).bind fun s12 =>
 (cat s12 [34]).bind fun s13 =>
 some (s13)) (
 some (t1.text)))))
def b1p (t1:Tok):Str->Out
 | T9=>.ret (.str T9) []
noncomputable def a2K (n:Nat)(l1:List Tok):Nat ->(List Str)->Int->Int->Option (Lr (List Str) (Str×Int))
  | 0,_,_,_=>none
  | m6 + 1,b7Y,c0V,a7O =>
      cond (ltB a7O (List.length l1:Int)) (
      (idx' l1 a7O).bind fun x2 =>
      cond (ltB 8000 (List.length x2.text:Int)) (
      some (.out (([],4)))) (
      (a3D x2).bind fun r3 =>
      cond (ltB 8001 (w64 (c0V+(w64 ((List.length r3:Int)+1))))) (
      some (.out (([],4)))) (
      (app 16 b7Y ([r3]:List Str)).bind fun l4 =>
      a2K n l1 m6 l4 (w64 (c0V+(w64 ((List.length r3:Int)+1)))) (w64 (a7O+1))))) (
      some (.brk b7Y))
noncomputable def a2l (n:Nat)(l1 l6:List Tok):Nat->Int->Option (Lr (Unit) (Str×Int))
  | 0,_=>none
  | m21 + 1,x514 =>
      cond (ltB x514 (List.length l6:Int)) (
      (idx' l6 x514).bind fun x9 =>
      Option.bind (α:=Bool) (
      (idx' l1 x514).bind fun x10 =>
      cond (!eqB x9.kind x10.kind) (
      some true) (
      (idx' l1 x514).bind fun x11 =>
      some (!eqS x9.text x11.text))) fun x523 =>
      cond x523 (
      some (.out (([],4)))) (
      a2l n l1 l6 m21 (w64 (x514+1)))) (
      some (.brk ()))
noncomputable def a5A (n:Nat)(l1:List Tok):Option (Str×Int) :=
 cond (ltB 3000 (List.length l1:Int)) (
 some (([],4))) (
 gdO (mkOk 16 (List.length l1:Int)) <|
 Y9 (α:=List Str) (
 a2K n l1 n ([]:List Str) 0 0) fun parts511 =>
 (b4M parts511 [32]).bind fun rr5 =>
 (a2X rr5).bind fun(l6,c7,a8) =>
 Option.bind (α:=Bool) (
 cond (!((eqB c7 0)&&((eqB a8 0)&&true))) (
 some true) (
 some (!eqB (List.length l6:Int) (List.length l1:Int)))) fun x504 =>
 cond x504 (
 some (([],4))) (
 Y9 (α:=Unit) (
 a2l n l1 l6 n 0) fun _ =>
 some ((rr5,0))))
def a8W (l1:List Tok):Str×Int->Out
 |(b1Z,r516)=>.ret (.tuple [.str b1Z,.i r516]) []
def a7q (V3:Str):Option (Unit) :=
 some (())
def b3b (V3:Str):Unit->Out
 | _=>.ret (.bool (ltB 8200 (List.length V3:Int))) []
noncomputable def a4p (V3:Str):Option (Flt×List Tok) :=
 (a2X V3).bind fun(l2,c3,a4) =>
 some (((⟨c3,a4⟩:Flt),l2))
def b1X (V3:Str):Flt×List Tok->Out
 |(T9,c1Z)=>.ret (.tuple [.ptr 0 0,.agg [.i T9.code,.i T9.at_]]) [(0,.row [.sl p8 c1Z,.i 0,.i (List.length V3:Int)])]
def a0l (d9:List Tok)(at2 j4:Int):Option (Int) :=
 cond (ltB at2 (List.length d9:Int)) (
 (idx' d9 at2).bind fun x4 =>
 some (x4.at_)) (
 some (j4))
def a8d (d9:List Tok)(at2 j4:Int):Int->Out
 | T9=>.ret (.i T9) (hP p8 d9 at2 j4)
def l7 (n1 b1F:Int)(b0V:Str)(a4h:List Tok)(at5 b1Q:Int):Option (Bool) :=
 cond (leB (List.length a4h:Int) (w64 (at5+n1))) (
 some (false)) (
 (idx' a4h (w64 (at5+n1))).bind fun x7 =>
 cond (eqB x7.kind b1F) (
 cond (eqS b0V []) (
 some (true)) (
 some ((eqS x7.text b0V)))) (
 some (false)))
def a9w (n1 b1F:Int)(b0V:Str)(a4h:List Tok)(at5 b1Q:Int):Bool->Out
 | T9=>.ret (.bool T9) (hP p8 a4h at5 b1Q)
def p9 (op1:Int)(o7:List Tok)(at3 D6:Int):Option (Int) :=
 (a0l o7 at3 D6).bind fun r5 =>
 some (r5)
def a8f (op1:Int)(o7:List Tok)(at3 D6:Int):Int->Out
 | a5h=>.ret (.agg [.i op1,.str [],.i 0,.i 0,.str [],.i 0,.sl D9 ([]:List Typ),.st 1 D9 ([]:List Typ),.st 2 F5 ([]:List Nod),.i a5h]) [(0,.row [.sl p8 o7,.i at3,.i D6]),(1,.tip 0 0),(2,.tip 0 0)]
def a0k (d9:List Tok)(at2 j4:Int):Option (Rs Empty Int) :=
 (a0l d9 at2 j4).bind fun r4 =>
 some (.pan r4)
def a8b (d9:List Tok)(at2 j4:Int):Rs Empty Int->Out
 | .pan a5h=>.pan (.iface 87 (.agg [.i 20,.i a5h])) (hP p8 d9 at2 j4)
def H9 (b1E:Int)(o7:List Tok)(at3 D6:Int):Option (Rs Tok Int) :=
 (l7 0 b1E [] o7 at3 D6).bind fun r5 =>
 cond (!r5) (
 l5 (a0k o7 at3 D6) (fun(_:Empty)=>none) fun at6 =>
 some (.pan at6)) (
 (idx' o7 at3).bind fun x7 =>
 some (.ok x7))
def a7C (b1E:Int)(o7:List Tok)(at3 D6:Int):Rs Tok Int->Out
 | .ok T9=>.ret (.agg [.i T9.kind,.str T9.text,.i T9.at_,.i T9.len]) [(0,.row [.sl p8 o7,.i (w64 (at3+1)),.i D6])]
 | .pan a0v=>.pan (.iface 87 (.agg [.i 20,.i a0v])) (hP p8 o7 at3 D6)
def D5 (d9:List Tok)(at2 j4:Int):Option (Rs Str Int) :=
 l5 (H9 2 d9 at2 j4) (fun r4 =>
 some (.ok r4.text)) fun at5 =>
 some (.pan at5)
def a6l (d9:List Tok)(at2 j4:Int):Rs Str Int->Out
 | .ok T9=>.ret (.str T9) [(0,.row [.sl p8 d9,.i (w64 (at2+1)),.i j4])]
 | .pan a0v=>.pan (.iface 87 (.agg [.i 20,.i a0v])) (hP p8 d9 at2 j4)
def C9 (a4w:Str)(o7:List Tok)(at3 D6:Int):Option (Bool×Int) :=
 (l7 0 9 a4w o7 at3 D6).bind fun r5 =>
 cond (!r5) (
 some ((false,at3))) (
 some ((true,(w64 (at3+1)))))
def a8L (a4w:Str)(o7:List Tok)(at3 D6:Int):Bool×Int->Out
 |(T9,a0v)=>.ret (.bool T9) (hP p8 o7 a0v D6)
def E9 (a4w:Str)(o7:List Tok)(at3 D6:Int):Option (Rs Int (Int×Int)) :=
 (C9 a4w o7 at3 D6).bind fun(r5,at6) =>
 cond (!r5) (
 l5 (a0k o7 at6 D6) (fun(_:Empty)=>none) fun at7 =>
 some (.pan (at7,at6))) (
 some (.ok at6))
def a6t (a4w:Str)(o7:List Tok)(at3 D6:Int):Rs Int (Int×Int)->Out
 | .ok a5h=>.ret (.tuple []) (hP p8 o7 a5h D6)
 | .pan (a2v,a6y)=>.pan (.iface 87 (.agg [.i 20,.i a2v])) (hP p8 o7 a6y D6)
def o8 (a4s:Str)(o7:List Tok)(at3 D6:Int):Option (Bool×Int) :=
 (l7 0 8 a4s o7 at3 D6).bind fun r5 =>
 cond (!r5) (
 some ((false,at3))) (
 some ((true,(w64 (at3+1)))))
def a8k (a4s:Str)(o7:List Tok)(at3 D6:Int):Bool×Int->Out
 |(T9,a0v)=>.ret (.bool T9) (hP p8 o7 a0v D6)
def o5 (a4s:Str)(o7:List Tok)(at3 D6:Int):Option (Rs Int (Int×Int)) :=
 (o8 a4s o7 at3 D6).bind fun(r5,at6) =>
 cond (!r5) (
 l5 (a0k o7 at6 D6) (fun(_:Empty)=>none) fun at7 =>
 some (.pan (at7,at6))) (
 some (.ok at6))
def a8l (a4s:Str)(o7:List Tok)(at3 D6:Int):Rs Int (Int×Int)->Out
 | .ok a5h=>.ret (.tuple []) (hP p8 o7 a5h D6)
 | .pan (a0v,a2v)=>.pan (.iface 87 (.agg [.i 20,.i a0v])) (hP p8 o7 a2v D6)
def U0 (n:Nat)(j4:Int)(d9:List Tok):Nat ->(List Nod)->Int->Option (Rs (List Nod×Int) (Int×Int))
  | 0,_,_=>none
  | m4 + 1,l501,a0v =>
      (p9 9 d9 a0v j4).bind fun at6 =>
      l5 (D5 d9 a0v j4) (fun r7 =>
      (app 144 l501 ([(⟨9,r7,0,(⟨0,[],0,[]⟩:Typ),[],[],at6⟩:Nod)]:List Nod)).bind fun l8 =>
      (o8 [38] d9 (w64 (a0v+1)) j4).bind fun(r9,at10) =>
      cond (!r9) (
      some (.ok (l8,at10))) (
      U0 n j4 d9 m4 l8 at10)) fun at11 =>
      some (.pan (at11,a0v))
def V7 (n:Nat)(d9:List Tok)(at2 j4:Int):Option (Rs (List Nod×Int) (Int×Int)) :=
 (o8 [58] d9 at2 j4).bind fun(r4,at5) =>
 cond (!r4) (
 some (.ok (([]:List Nod),at5))) (
 U0 n j4 d9 n ([]:List Nod) at5)
def a6P (d9:List Tok)(at2 j4:Int):Rs (List Nod×Int) (Int×Int)->Out
 | .ok (r503,a6y)=>.ret (.sl F5 r503) (hP p8 d9 a6y j4)
 | .pan (a2w,a8o)=>.pan (.iface 87 (.agg [.i 20,.i a2w])) (hP p8 d9 a8o j4)
def a4q (a3O:Str)(M8:List Typ):Option (Typ) :=
 Y9 (α:=Int) (
 Option.bind (α:=Bool) (
 cond (eqB (List.length M8:Int) 1) (
 some (eqS a3O [65,114,114,97,121])) (
 some false)) fun x505 =>
 cond x505 (
 some (.out ((⟨5,[],0,M8⟩:Typ)))) (
 Option.bind (α:=Bool) (
 cond (eqB (List.length M8:Int) 1) (
 some (eqS a3O [87,101,97,107])) (
 some false)) fun a7O =>
 cond a7O (
 some (.out ((⟨11,[],0,M8⟩:Typ)))) (
 cond (ltB 0 (List.length M8:Int)) (
 some (.brk 6)) (
 cond (eqS a3O [73,110,116]) (
 some (.brk 1)) (
 cond (eqS a3O [66,111,111,108]) (
 some (.brk 2)) (
 cond (eqS a3O [84,101,120,116]) (
 some (.brk 3)) (
 cond (eqS a3O [85,110,105,116]) (
 some (.brk 4)) (
 some (.brk 6))))))))) fun b5S =>
 cond (!eqB b5S 6) (
 some ((⟨b5S,[],0,[]⟩:Typ))) (
 some ((⟨b5S,a3O,0,M8⟩:Typ)))
def a7Q (a3O:Str)(M8:List Typ):Typ->Out
 | a7G=>.ret (.agg [.i a7G.kind,.str a7G.name,.i a7G.n,.sl D9 a7G.args]) []
structure o9 where
 A7:(List Tok)->Int->Int->Option (Rs (Typ×Int) (Int×Int))
 K3:Bool ->(List Tok)->Int->Int->Option (Rs (Typ×Int) (Int×Int))
def a0t (n:Nat)(Φ:o9)(j4:Int)(d9:List Tok):Nat ->(List Typ)->Int->Option (Lr (List Typ×Int) (Rs (Typ×Int) (Int×Int)))
  | 0,_,_=>none
  | m8 + 1,b93,a3I =>
      (o8 [44] d9 a3I j4).bind fun(r19,at20) =>
      cond r19 (
      l5 (Φ.A7 d9 at20 j4) (fun(r21,at22) =>
      (app 56 b93 ([r21]:List Typ)).bind fun l23 =>
      a0t n Φ j4 d9 m8 l23 at22) fun(at24,at25) =>
      some (.out (.pan (at24,at25)))) (
      some (.brk (b93,at20)))
def a0L (n:Nat)(Φ:o9)(d9:List Tok)(at2 j4:Int):Option (Rs (Typ×Int) (Int×Int)) :=
 (C9 [97,110,121] d9 at2 j4).bind fun(r4,at5) =>
 cond r4 (
 l5 (D5 d9 at5 j4) (fun r6 =>
 some (.ok ((⟨9,r6,0,[]⟩:Typ),(w64 (at5+1))))) fun at7 =>
 some (.pan (at7,at5))) (
 (o8 [40] d9 at5 j4).bind fun(r8,at9) =>
 cond (!r8) (
 l5 (Φ.K3 false d9 at9 j4) (fun(r10,at11) =>
 some (.ok (r10,at11))) fun(at12,at13) =>
 some (.pan (at12,at13))) (
 Y9 (α:=List Typ×Int) (
 (o8 [41] d9 at9 j4).bind fun(r14,at15) =>
 cond (!r14) (
 l5 (Φ.A7 d9 at15 j4) (fun(r16,at17) =>
 (app 56 ([]:List Typ) ([r16]:List Typ)).bind fun l18 =>
 a5N (α:=List Typ×Int) (
 a0t n Φ j4 d9 n l18 at17) fun(args517,a9I) =>
 l5 (o5 [41] d9 a9I j4) (fun at26 =>
 some (.brk (args517,at26))) fun(at27,at28) =>
 some (.out (.pan (at27,at28)))) fun(at29,at30) =>
 some (.out (.pan (at29,at30)))) (
 some (.brk (([]:List Typ),at15)))) fun(args509,a5M) =>
 l5 (o5 [45,62] d9 a5M j4) (fun at31 =>
 l5 (Φ.A7 d9 at31 j4) (fun(r32,at33) =>
 (app 56 args509 ([r32]:List Typ)).bind fun l34 =>
 some (.ok ((⟨10,[],0,l34⟩:Typ),at33))) fun(at35,at36) =>
 some (.pan (at35,at36))) fun(at37,at38) =>
 some (.pan (at37,at38))))
def a4r (d9:List Tok)(at2 j4:Int):Rs (Typ×Int) (Int×Int)->Out
 | .ok (a05,a5j)=>.ret (.agg [.i a05.kind,.str a05.name,.i a05.n,.sl D9 a05.args]) (hP p8 d9 a5j j4)
 | .pan (a6y,a2w)=>.pan (.iface 87 (.agg [.i 20,.i a6y])) (hP p8 d9 a2w j4)
def a0b (n:Nat)(Φ:o9)(D6:Int)(o7:List Tok):Nat ->(List Typ)->Int->Option (Lr (List Typ×Int) (Rs (Typ×Int) (Int×Int)))
  | 0,_,_=>none
  | m5 + 1,b92,a0v =>
      (o8 [44] o7 a0v D6).bind fun(r11,at12) =>
      cond r11 (
      l5 (Φ.A7 o7 at12 D6) (fun(r13,at14) =>
      (app 56 b92 ([r13]:List Typ)).bind fun l15 =>
      a0b n Φ D6 o7 m5 l15 at14) fun(at16,at17) =>
      some (.out (.pan (at16,at17)))) (
      some (.brk (b92,at12)))
def a0c (n:Nat)(Φ:o9)(inExpr1:Bool)(D6:Int)(o7:List Tok):Nat->Int->Typ->Option (Lr (Int×Typ) (Rs (Typ×Int) (Int×Int)))
  | 0,_,_=>none
  | m9 + 1,b1v,n533 =>
      Option.bind (α:=Bool) (
      (l7 0 8 [46] o7 b1v D6).bind fun r24 =>
      cond r24 (
      cond inExpr1 (
      (l7 1 1 [] o7 b1v D6).bind fun r25 =>
      some (!r25)) (
      some true)) (
      some false)) fun x546 =>
      cond x546 (
      l5 (D5 o7 (w64 (b1v+1)) D6) (fun r26 =>
      a0c n Φ inExpr1 D6 o7 m9 (w64 ((w64 (b1v+1))+1)) (⟨8,r26,0,[n533]⟩:Typ)) fun at27 =>
      some (.out (.pan (at27,(w64 (b1v+1)))))) (
      some (.brk (b1v,n533)))
def a0s (n:Nat)(Φ:o9)(inExpr1:Bool)(o7:List Tok)(at3 D6:Int):Option (Rs (Typ×Int) (Int×Int)) :=
 l5 (D5 o7 at3 D6) (fun r5 =>
 Y9 (α:=List Typ×Int) (
 (o8 [60] o7 (w64 (at3+1)) D6).bind fun(r6,at7) =>
 cond r6 (
 l5 (Φ.A7 o7 at7 D6) (fun(r8,at9) =>
 (app 56 ([]:List Typ) ([r8]:List Typ)).bind fun l10 =>
 a5N (α:=List Typ×Int) (
 a0b n Φ D6 o7 n l10 at9) fun(args510,a5i) =>
 l5 (o5 [62] o7 a5i D6) (fun at18 =>
 some (.brk (args510,at18))) fun(at19,at20) =>
 some (.out (.pan (at19,at20)))) fun(at21,at22) =>
 some (.out (.pan (at21,at22)))) (
 some (.brk (([]:List Typ),at7)))) fun(args504,a2w) =>
 (a4q r5 args504).bind fun r23 =>
 Y9 (α:=Int×Typ) (
 a0c n Φ inExpr1 D6 o7 n a2w r23) fun(at549,n550) =>
 some (.ok (n550,at549))) fun at28 =>
 some (.pan (at28,at3))
def a3S (inExpr1:Bool)(o7:List Tok)(at3 D6:Int):Rs (Typ×Int) (Int×Int)->Out
 | .ok (r534,b4k)=>.ret (.agg [.i r534.kind,.str r534.name,.i r534.n,.sl D9 r534.args]) (hP p8 o7 b4k D6)
 | .pan (a8o,a3I)=>.pan (.iface 87 (.agg [.i 20,.i a8o])) (hP p8 o7 a3I D6)
def o9.fs:Nat->o9
 | 0=>⟨fun _ _ _=>none,fun _ _ _ _=>none⟩
 | n+1=>⟨a0L n (o9.fs n),a0s n (o9.fs n)⟩
def A7 (n:Nat)(d9:List Tok)(at2 j4:Int):Option (Rs (Typ×Int) (Int×Int)):=(o9.fs n).A7 d9 at2 j4
def K3 (n:Nat)(inExpr1:Bool)(o7:List Tok)(at3 D6:Int):Option (Rs (Typ×Int) (Int×Int)):=(o9.fs n).K3 inExpr1 o7 at3 D6
def F3 (d9:List Tok)(at2 j4:Int):Option (Rs Str Int) :=
 l5 (H9 1 d9 at2 j4) (fun r4 =>
 some (.ok r4.text)) fun at5 =>
 some (.pan at5)
def a8e (d9:List Tok)(at2 j4:Int):Rs Str Int->Out
 | .ok T9=>.ret (.str T9) [(0,.row [.sl p8 d9,.i (w64 (at2+1)),.i j4])]
 | .pan a0v=>.pan (.iface 87 (.agg [.i 20,.i a0v])) (hP p8 d9 at2 j4)
def U6 (n:Nat)(j4:Int)(d9:List Tok):Nat ->(List Nod)->Int->Option (Lr (List Nod×Int) (Rs (List Nod×Int) (Int×Int)))
  | 0,_,_=>none
  | m5 + 1,b28,a3I =>
      (p9 10 d9 a3I j4).bind fun at7 =>
      Option.bind (α:=Int×Int) (
      (C9 [105,110,111,117,116] d9 a3I j4).bind fun(r8,at9) =>
      cond r8 (
      some (at9,1)) (
      (C9 [99,111,110,115,117,109,101] d9 at9 j4).bind fun(r10,at11) =>
      cond r10 (
      some (at11,2)) (
      some (at11,0)))) fun(b6F,n517) =>
      l5 (F3 d9 b6F j4) (fun r12 =>
      l5 (o5 [58] d9 (w64 (b6F+1)) j4) (fun at13 =>
      l5 (A7 n d9 at13 j4) (fun(r14,at15) =>
      (app 144 b28 ([(⟨10,r12,n517,r14,[],[],at7⟩:Nod)]:List Nod)).bind fun l16 =>
      (o8 [44] d9 at15 j4).bind fun(r17,at18) =>
      cond (!r17) (
      some (.brk (l16,at18))) (
      U6 n j4 d9 m5 l16 at18)) fun(at19,at20) =>
      some (.out (.pan (at19,at20)))) fun(at21,at22) =>
      some (.out (.pan (at21,at22)))) fun at23 =>
      some (.out (.pan (at23,b6F)))
def V9 (n:Nat)(d9:List Tok)(at2 j4:Int):Option (Rs (List Nod×Int) (Int×Int)) :=
 l5 (o5 [40] d9 at2 j4) (fun at4 =>
 (o8 [41] d9 at4 j4).bind fun(r5,at6) =>
 cond r5 (
 some (.ok (([]:List Nod),at6))) (
 Y9 (α:=List Nod×Int) (
 U6 n j4 d9 n ([]:List Nod) at6) fun(l508,b2D) =>
 l5 (o5 [41] d9 b2D j4) (fun at24 =>
 some (.ok (l508,at24))) fun(at25,at26) =>
 some (.pan (at25,at26)))) fun(at27,at28) =>
 some (.pan (at27,at28))
def a3f (d9:List Tok)(at2 j4:Int):Rs (List Nod×Int) (Int×Int)->Out
 | .ok (r510,a5i)=>.ret (.st 1 F5 r510) [(0,.row [.sl p8 d9,.i a5i,.i j4]),(1,.tip (tpe 10 (List.length r510)) (List.length r510))]
 | .pan (a0v,a2v)=>.pan (.iface 87 (.agg [.i 20,.i a0v])) (hP p8 d9 a2v j4)
def W9 (n:Nat)(d9:List Tok)(at2 j4:Int):Option (Rs (Typ×Int) (Int×Int)) :=
 (o8 [45,62] d9 at2 j4).bind fun(r4,at5) =>
 cond r4 (
 l5 (A7 n d9 at5 j4) (fun(r6,at7) =>
 some (.ok (r6,at7))) fun(at8,at9) =>
 some (.pan (at8,at9))) (
 some (.ok ((⟨4,[],0,[]⟩:Typ),at5)))
def a6V (d9:List Tok)(at2 j4:Int):Rs (Typ×Int) (Int×Int)->Out
 | .ok (T9,a0v)=>.ret (.agg [.i T9.kind,.str T9.name,.i T9.n,.sl D9 T9.args]) (hP p8 d9 a0v j4)
 | .pan (a2v,a6y)=>.pan (.iface 87 (.agg [.i 20,.i a2v])) (hP p8 d9 a6y j4)
def Q5 (n:Nat)(j4:Int)(d9:List Tok):Nat ->(List Nod)->Int->Option (Lr (List Nod×Int) (Rs (List Nod×Int) (Int×Int)))
  | 0,_,_=>none
  | m4 + 1,l504,a2w =>
      (p9 8 d9 a2w j4).bind fun at6 =>
      l5 (D5 d9 a2w j4) (fun r7 =>
      l5 (V7 n d9 (w64 (a2w+1)) j4) (fun(r8,at9) =>
      (app 144 l504 ([(⟨8,r7,0,(⟨0,[],0,[]⟩:Typ),[],r8,at6⟩:Nod)]:List Nod)).bind fun l10 =>
      (o8 [44] d9 at9 j4).bind fun(r11,at12) =>
      cond (!r11) (
      some (.brk (l10,at12))) (
      Q5 n j4 d9 m4 l10 at12)) fun(at13,at14) =>
      some (.out (.pan (at13,at14)))) fun at15 =>
      some (.out (.pan (at15,a2w)))
def M6 (n:Nat)(d9:List Tok)(at2 j4:Int):Option (Rs (List Nod×Int) (Int×Int)) :=
 (o8 [60] d9 at2 j4).bind fun(r4,at5) =>
 cond (!r4) (
 some (.ok (([]:List Nod),at5))) (
 Y9 (α:=List Nod×Int) (
 Q5 n j4 d9 n ([]:List Nod) at5) fun(b28,a3I) =>
 l5 (o5 [62] d9 a3I j4) (fun at16 =>
 some (.ok (b28,at16))) fun(at17,at18) =>
 some (.pan (at17,at18)))
def a2x (d9:List Tok)(at2 j4:Int):Rs (List Nod×Int) (Int×Int)->Out
 | .ok (a7G,b2D)=>.ret (.st 1 F5 a7G) [(0,.row [.sl p8 d9,.i b2D,.i j4]),(1,.tip (tpe 10 (List.length a7G)) (List.length a7G))]
 | .pan (a0v,a2v)=>.pan (.iface 87 (.agg [.i 20,.i a0v])) (hP p8 d9 a2v j4)
def Y2 (n:Nat)(j4:Int)(d9:List Tok):Nat ->(List Nod)->Int->Option (Rs (List Nod×Int) (Int×Int))
  | 0,_,_=>none
  | m4 + 1,l509,a5M =>
      (p9 12 d9 a5M j4).bind fun at6 =>
      l5 (A7 n d9 a5M j4) (fun(r7,at8) =>
      Y9 (α:=Int×Str×Int×List Typ) (
      (o8 [61,61] d9 at8 j4).bind fun(r9,at10) =>
      cond r9 (
      l5 (A7 n d9 at10 j4) (fun(r11,at12) =>
      some (.brk (at12,[],2,([r11]:List Typ)))) fun(at13,at14) =>
      some (.out (.pan (at13,at14)))) (
      l5 (o5 [58] d9 at10 j4) (fun at15 =>
      l5 (D5 d9 at15 j4) (fun r16 =>
      some (.brk ((w64 (at15+1)),r16,1,([]:List Typ)))) fun at17 =>
      some (.out (.pan (at17,at15)))) fun(at18,at19) =>
      some (.out (.pan (at18,at19))))) fun(b2E,s518,n519,ts520) =>
      (app 144 l509 ([(⟨12,s518,n519,r7,ts520,[],at6⟩:Nod)]:List Nod)).bind fun l20 =>
      (o8 [44] d9 b2E j4).bind fun(r21,at22) =>
      cond (!r21) (
      some (.ok (l20,at22))) (
      Y2 n j4 d9 m4 l20 at22)) fun(at23,at24) =>
      some (.pan (at23,at24))
def Y8 (n:Nat)(d9:List Tok)(at2 j4:Int):Option (Rs (List Nod×Int) (Int×Int)) :=
 (C9 [119,104,101,114,101] d9 at2 j4).bind fun(r4,at5) =>
 cond (!r4) (
 some (.ok (([]:List Nod),at5))) (
 Y2 n j4 d9 n ([]:List Nod) at5)
def a3C (d9:List Tok)(at2 j4:Int):Rs (List Nod×Int) (Int×Int)->Out
 | .ok (T9,a0v)=>.ret (.st 1 F5 T9) [(0,.row [.sl p8 d9,.i a0v,.i j4]),(1,.tip (tpe 10 (List.length T9)) (List.length T9))]
 | .pan (a2v,a6y)=>.pan (.iface 87 (.agg [.i 20,.i a2v])) (hP p8 d9 a6y j4)
def P7 (n:Nat)(d9:List Tok)(at2 j4:Int):Option (Rs (Str×Typ×List Nod×Int×Int) (Int×Int)) :=
 (p9 7 d9 at2 j4).bind fun at4 =>
 l5 (E9 [102,117,110,99] d9 at2 j4) (fun at5 =>
 l5 (F3 d9 at5 j4) (fun r6 =>
 l5 (M6 n d9 (w64 (at5+1)) j4) (fun(r7,at8) =>
 l5 (V9 n d9 at8 j4) (fun(r9,at10) =>
 (app 144 r7 r9).bind fun l11 =>
 (p9 11 d9 at10 j4).bind fun at12 =>
 Y9 (α:=Int×List Nod) (
 (C9 [116,104,114,111,119,115] d9 at10 j4).bind fun(r13,at14) =>
 cond r13 (
 l5 (o5 [40] d9 at14 j4) (fun at15 =>
 l5 (A7 n d9 at15 j4) (fun(r16,at17) =>
 l5 (o5 [41] d9 at17 j4) (fun at18 =>
 (app 144 l11 ([(⟨11,[],0,r16,[],[],at12⟩:Nod)]:List Nod)).bind fun l19 =>
 some (.brk (at18,l19))) fun(at20,at21) =>
 some (.out (.pan (at20,at21)))) fun(at22,at23) =>
 some (.out (.pan (at22,at23)))) fun(at24,at25) =>
 some (.out (.pan (at24,at25)))) (
 some (.brk (at14,l11)))) fun(a3I,l508) =>
 l5 (W9 n d9 a3I j4) (fun(r26,at27) =>
 l5 (Y8 n d9 at27 j4) (fun(r28,at29) =>
 (app 144 l508 r28).bind fun l30 =>
 some (.ok (r6,r26,l30,at4,at29))) fun(at31,at32) =>
 some (.pan (at31,at32))) fun(at33,at34) =>
 some (.pan (at33,at34))) fun(at35,at36) =>
 some (.pan (at35,at36))) fun(at37,at38) =>
 some (.pan (at37,at38))) fun at39 =>
 some (.pan (at39,at5))) fun(at40,at41) =>
 some (.pan (at40,at41))
def a2j (d9:List Tok)(at2 j4:Int):Rs (Str×Typ×List Nod×Int×Int) (Int×Int)->Out
 | .ok (s509,t510,l511,a5j,at513)=>.ret (.agg (c0 7 s509 0 t510.kind t510.name t510.n (.sl D9 t510.args) (.sl D9 ([]:List Typ)) (.st 1 F5 l511) a5j)) [(0,.row [.sl p8 d9,.i at513,.i j4]),(1,.tip (tpe 10 (List.length l511)) (List.length l511))]
 | .pan (a5h,a0v)=>.pan (.iface 87 (.agg [.i 20,.i a5h])) (hP p8 d9 a0v j4)
def Q6 (n:Nat)(j4:Int)(d9:List Tok):Nat->Int ->(List Nod)->Option (Lr (Int×List Nod) (Rs (Nod×Int) (Int×Int)))
  | 0,_,_=>none
  | m5 + 1,a2v,l504 =>
      (l7 0 9 [116,121,112,101] d9 a2v j4).bind fun r8 =>
      cond r8 (
      (p9 16 d9 a2v j4).bind fun at9 =>
      l5 (D5 d9 (w64 (a2v+1)) j4) (fun r10 =>
      l5 (V7 n d9 (w64 ((w64 (a2v+1))+1)) j4) (fun(r11,at12) =>
      l5 (o5 [59] d9 at12 j4) (fun at13 =>
      (app 144 l504 ([(⟨16,r10,0,(⟨0,[],0,[]⟩:Typ),[],r11,at9⟩:Nod)]:List Nod)).bind fun l14 =>
      Q6 n j4 d9 m5 at13 l14) fun(at15,at16) =>
      some (.out (.pan (at15,at16)))) fun(at17,at18) =>
      some (.out (.pan (at17,at18)))) fun at19 =>
      some (.out (.pan (at19,(w64 (a2v+1)))))) (
      some (.brk (a2v,l504)))
def P5 (n:Nat)(j4:Int)(d9:List Tok):Nat->Int ->(List Nod)->Option (Lr (Int×List Nod) (Rs (Nod×Int) (Int×Int)))
  | 0,_,_=>none
  | m12 + 1,b4i,l522 =>
      (l7 0 9 [102,117,110,99] d9 b4i j4).bind fun r20 =>
      cond r20 (
      l5 (P7 n d9 b4i j4) (fun(s21,t22,l23,at24,at25) =>
      l5 (o5 [59] d9 at25 j4) (fun at26 =>
      (app 144 l522 ([(⟨7,s21,0,t22,[],l23,at24⟩:Nod)]:List Nod)).bind fun l27 =>
      P5 n j4 d9 m12 at26 l27) fun(at28,at29) =>
      some (.out (.pan (at28,at29)))) fun(at30,at31) =>
      some (.out (.pan (at30,at31)))) (
      some (.brk (b4i,l522)))
def Y1 (n:Nat)(d9:List Tok)(at2 j4:Int):Option (Rs (Nod×Int) (Int×Int)) :=
 (p9 5 d9 at2 j4).bind fun at4 =>
 l5 (E9 [112,114,111,116,111,99,111,108] d9 at2 j4) (fun at5 =>
 l5 (D5 d9 at5 j4) (fun r6 =>
 l5 (o5 [123] d9 (w64 (at5+1)) j4) (fun at7 =>
 Y9 (α:=Int×List Nod) (
 Q6 n j4 d9 n at7 ([]:List Nod)) fun(a5i,l512) =>
 Y9 (α:=Int×List Nod) (
 P5 n j4 d9 n a5i l512) fun(b6G,l534) =>
 l5 (o5 [125] d9 b6G j4) (fun at32 =>
 some (.ok ((⟨5,r6,0,(⟨0,[],0,[]⟩:Typ),[],l534,at4⟩:Nod),at32))) fun(at33,at34) =>
 some (.pan (at33,at34))) fun(at35,at36) =>
 some (.pan (at35,at36))) fun at37 =>
 some (.pan (at37,at5))) fun(at38,at39) =>
 some (.pan (at38,at39))
def a2y (d9:List Tok)(at2 j4:Int):Rs (Nod×Int) (Int×Int)->Out
 | .ok (a6v,a8o)=>.ret (.agg (c0 a6v.op a6v.s a6v.n a6v.t.kind a6v.t.name a6v.t.n (.sl D9 a6v.t.args) (.sl D9 a6v.ts) (.sl F5 a6v.l) a6v.at_)) (hP p8 d9 a8o j4)
 | .pan (a5h,a0v)=>.pan (.iface 87 (.agg [.i 20,.i a5h])) (hP p8 d9 a0v j4)
def Y0 (n:Nat)(at4 j4:Int)(d9:List Tok):Nat->Int->Int->Str ->(List Nod)->Option (Lr (Int×Int×Str×List Nod) (Rs (Nod×Int) (Int×Int)))
  | 0,_,_,_,_=>none
  | m3 + 1,a2v,op504,s505,b28 =>
      (o8 [46] d9 a2v j4).bind fun(r6,at7) =>
      cond r6 (
      l5 (F3 d9 at7 j4) (fun r8 =>
      Y0 n at4 j4 d9 m3 (w64 (at7+1)) 55 r8 ([(⟨op504,s505,0,(⟨0,[],0,[]⟩:Typ),[],b28,at4⟩:Nod)]:List Nod)) fun at9 =>
      some (.out (.pan (at9,at7)))) (
      some (.brk (at7,op504,s505,b28)))
def a0K (n:Nat)(d9:List Tok)(at2 j4:Int):Option (Rs (Nod×Int) (Int×Int)) :=
 (p9 54 d9 at2 j4).bind fun at4 =>
 l5 (F3 d9 at2 j4) (fun r5 =>
 Y9 (α:=Int×Int×Str×List Nod) (
 Y0 n at4 j4 d9 n (w64 (at2+1)) 54 r5 ([]:List Nod)) fun(at520,op521,s522,l523) =>
 some (.ok ((⟨op521,s522,0,(⟨0,[],0,[]⟩:Typ),[],l523,at4⟩:Nod),at520))) fun at10 =>
 some (.pan (at10,at2))
def a3A (d9:List Tok)(at2 j4:Int):Rs (Nod×Int) (Int×Int)->Out
 | .ok (a7G,b2D)=>.ret (.agg (c0 a7G.op a7G.s a7G.n a7G.t.kind a7G.t.name a7G.t.n (.sl D9 a7G.t.args) (.sl D9 a7G.ts) (.sl F5 a7G.l) a7G.at_)) (hP p8 d9 b2D j4)
 | .pan (a5h,a0v)=>.pan (.iface 87 (.agg [.i 20,.i a5h])) (hP p8 d9 a0v j4)
def J2 (d9:List Tok)(at2 j4:Int):Option (Rs Int Int) :=
 l5 (H9 3 d9 at2 j4) (fun r4 =>
 (atoi r4.text).bind fun n5 =>
 some (.ok n5)) fun at6 =>
 some (.pan at6)
def a6p (d9:List Tok)(at2 j4:Int):Rs Int Int->Out
 | .ok T9=>.ret (.i T9) [(0,.row [.sl p8 d9,.i (w64 (at2+1)),.i j4])]
 | .pan a0v=>.pan (.iface 87 (.agg [.i 20,.i a0v])) (hP p8 d9 at2 j4)
def a4Q:Option (Unit) :=
 some (())
def b1l:Unit->Out
 | _=>.ret (.sl a0f ([(⟨[[124,124]],false⟩:E8),(⟨[[38,38]],false⟩:E8),(⟨[[61,61],[33,61],[60],[60,61],[62],[62,61]],true⟩:E8),(⟨[[43],[45]],false⟩:E8),(⟨[[42],[47],[37]],false⟩:E8)]:List E8)) []
def Y7 (n:Nat)(s1:List Str)(v2:Str):Nat->Int->Option (Lr (Unit) (Int))
  | 0,_=>none
  | m2 + 1,x501 =>
      cond (ltB x501 (List.length s1:Int)) (
      (idx' s1 x501).bind fun x3 =>
      cond (eqS v2 x3) (
      some (.out (x501))) (
      Y7 n s1 v2 m2 (w64 (x501+1)))) (
      some (.brk ()))
def V4 (n:Nat)(s1:List Str)(v2:Str):Option (Int) :=
 Y9 (α:=Unit) (
 Y7 n s1 v2 n 0) fun _ =>
 some ((-1))
def a1P (s1:List Str)(v2:Str):Int->Out
 | r502=>.ret (.i r502) []
def J8 (n:Nat)(s1:List Str)(v2:Str):Option (Bool) :=
 (V4 n s1 v2).bind fun r3 =>
 some ((leB 0 r3))
def a3E (s1:List Str)(v2:Str):Bool->Out
 | T9=>.ret (.bool T9) []
structure z8 where
 F9:(List Tok)->Int->Int->Option (Rs (Nod×Int) (Int×Int))
def R7 (n:Nat)(Φ:z8)(j4:Int)(d9:List Tok):Nat->Int ->(List Nod)->Option (Lr (Int×List Nod) (Rs (Nod×Int) (Int×Int)))
  | 0,_,_=>none
  | m6 + 1,b2D,l510 =>
      (o8 [44] d9 b2D j4).bind fun(r30,at31) =>
      cond r30 (
      l5 (Φ.F9 d9 at31 j4) (fun(r32,at33) =>
      (app 144 l510 ([r32]:List Nod)).bind fun l34 =>
      R7 n Φ j4 d9 m6 at33 l34) fun(at35,at36) =>
      some (.out (.pan (at35,at36)))) (
      some (.brk (at31,l510)))
def U7 (n:Nat)(Φ:z8)(d9:List Tok)(at2 j4:Int):Option (Rs (Nod×Int) (Int×Int)) :=
 (p9 0 d9 at2 j4).bind fun at4 =>
 Y9 (α:=Int×Int×Str×Int×List Nod) (
 (l7 0 1 [95] d9 at2 j4).bind fun r5 =>
 cond r5 (
 some (.brk ((w64 (at2+1)),40,[],0,([]:List Nod)))) (
 (l7 0 1 [] d9 at2 j4).bind fun r6 =>
 cond r6 (
 l5 (F3 d9 at2 j4) (fun r7 =>
 some (.brk ((w64 (at2+1)),41,r7,0,([]:List Nod)))) fun at8 =>
 some (.out (.pan (at8,at2)))) (
 (l7 0 3 [] d9 at2 j4).bind fun r9 =>
 cond r9 (
 l5 (J2 d9 at2 j4) (fun r10 =>
 some (.brk ((w64 (at2+1)),42,[],r10,([]:List Nod)))) fun at11 =>
 some (.out (.pan (at11,at2)))) (
 (o8 [45] d9 at2 j4).bind fun(r12,at13) =>
 cond r12 (
 l5 (J2 d9 at13 j4) (fun r14 =>
 some (.brk ((w64 (at13+1)),42,[],(w64 (0-r14)),([]:List Nod)))) fun at15 =>
 some (.out (.pan (at15,at13)))) (
 (l7 0 4 [] d9 at13 j4).bind fun r16 =>
 cond r16 (
 l5 (H9 4 d9 at13 j4) (fun r17 =>
 some (.brk ((w64 (at13+1)),44,r17.text,0,([]:List Nod)))) fun at18 =>
 some (.out (.pan (at18,at13)))) (
 (C9 [116,114,117,101] d9 at13 j4).bind fun(r19,at20) =>
 cond r19 (
 some (.brk (at20,43,[],1,([]:List Nod)))) (
 (C9 [102,97,108,115,101] d9 at20 j4).bind fun(r21,at22) =>
 cond r21 (
 some (.brk (at22,43,[],0,([]:List Nod)))) (
 l5 (o5 [46] d9 at22 j4) (fun at23 =>
 l5 (F3 d9 at23 j4) (fun r24 =>
 (o8 [40] d9 (w64 (at23+1)) j4).bind fun(r25,at26) =>
 cond r25 (
 l5 (Φ.F9 d9 at26 j4) (fun(r27,at28) =>
 (app 144 ([]:List Nod) ([r27]:List Nod)).bind fun l29 =>
 a5N (α:=Int×List Nod) (
 R7 n Φ j4 d9 n at28 l29) fun(b0u,l524) =>
 l5 (o5 [41] d9 b0u j4) (fun at37 =>
 some (.brk (at37,45,r24,0,l524))) fun(at38,at39) =>
 some (.out (.pan (at38,at39)))) fun(at40,at41) =>
 some (.out (.pan (at40,at41)))) (
 some (.brk (at26,45,r24,0,([]:List Nod))))) fun at42 =>
 some (.out (.pan (at42,at23)))) fun(at43,at44) =>
 some (.out (.pan (at43,at44))))))))))) fun(a5j,op513,s514,n515,l516) =>
 some (.ok ((⟨op513,s514,n515,(⟨0,[],0,[]⟩:Typ),[],l516,at4⟩:Nod),a5j))
def a2G (d9:List Tok)(at2 j4:Int):Rs (Nod×Int) (Int×Int)->Out
 | .ok (a6v,a8o)=>.ret (.agg (c0 a6v.op a6v.s a6v.n a6v.t.kind a6v.t.name a6v.t.n (.sl D9 a6v.t.args) (.sl D9 a6v.ts) (.sl F5 a6v.l) a6v.at_)) (hP p8 d9 a8o j4)
 | .pan (a3I,b6E)=>.pan (.iface 87 (.agg [.i 20,.i a3I])) (hP p8 d9 b6E j4)
def z8.fs:Nat->z8
 | 0=>⟨fun _ _ _=>none⟩
 | n+1=>⟨U7 n (z8.fs n)⟩
def F9 (n:Nat)(d9:List Tok)(at2 j4:Int):Option (Rs (Nod×Int) (Int×Int)):=(z8.fs n).F9 d9 at2 j4
def a1L (n:Nat):Nat->Nod->Option (Nod)
  | 0,_=>none
  | m1 + 1,n501 =>
      cond (eqB n501.op 55) (
      (idx' n501.l 0).bind fun x2 =>
      a1L n m1 x2) (
      some n501)
def a3h (n:Nat)(e1:Nod):Option (Bool) :=
 Option.bind (α:=Nod) (
 a1L n n e1) fun n503 =>
 some ((eqB n503.op 54))
def a7R (e1:Nod):Bool->Out
 | b1Y=>.ret (.bool b1Y) []
structure j3 where
 D8:(List Tok)->Int->Int->Option (Rs (Nod×Int) (j5×Int))
 G8:(List Tok)->Int->Int->Option (Rs (List Nod×Int) (j5×Int))
 G6:(List Tok)->Int->Int->Option (Rs (Nod×Int) (j5×Int))
 K4:(List Tok)->Int->Int->Option (Rs (Nod×Int) (j5×Int))
 w9:(List Tok)->Int->Int->Option (Rs (Nod×Int) (j5×Int))
 G7:(List Tok)->Int->Int->Option (Rs (Nod×Int) (j5×Int))
 J3:(List Tok)->Int->Int->Option (Rs (Nod×Int) (j5×Int))
 I8:(List Tok)->Int->Int->Option (Rs (Nod×Int) (j5×Int))
 F6:(List Tok)->Int->Int->Option (Rs (List Nod×Int) (j5×Int))
 J7:(List Tok)->Int->Int->Option (Rs (Nod×Int) (j5×Int))
 I9:(List Tok)->Int->Int->Option (Rs (Nod×Int) (j5×Int))
 H8:Nod ->(List E8) ->(List Tok)->Int->Int->Option (Rs (Nod×Int) (j5×Int))
 F7:(List Tok)->Int->Int->Option (Rs (Nod×Int) (j5×Int))
 K5:(List Tok)->Int->Int->Option (Rs (Nod×Int) (j5×Int))
 L6:Int ->(List Tok)->Int->Int->Option (Rs (List Nod×Int×Int) (j5×Int))
def Z7 (n:Nat)(Φ:j3)(d9:List Tok)(at2 j4:Int):Option (Rs (Nod×Int) (j5×Int)) :=
 (p9 20 d9 at2 j4).bind fun at4 =>
 l5 (o5 [123] d9 at2 j4) (fun at5 =>
 l5 (Φ.G8 d9 at5 j4) (fun(r6,at7) =>
 some (.ok ((⟨20,[],0,(⟨0,[],0,[]⟩:Typ),[],r6,at4⟩:Nod),at7))) fun(e8,at9) =>
 some (.pan (e8,at9))) fun(at10,at11) =>
 some (.pan ((⟨(⟨20,at10⟩:Flt)⟩:j5),at11))
def a7v (d9:List Tok)(at2 j4:Int):Rs (Nod×Int) (j5×Int)->Out
 | .ok (a6w,b6E)=>.ret (.agg (c0 a6w.op a6w.s a6w.n a6w.t.kind a6w.t.name a6w.t.n (.sl D9 a6w.t.args) (.sl D9 a6w.ts) (.sl F5 a6w.l) a6w.at_)) (hP p8 d9 b6E j4)
 | .pan (e529,b4j)=>.pan (.iface 87 (.agg [.i e529.fault.code,.i e529.fault.at_])) (hP p8 d9 b4j j4)
def O6 (n:Nat)(Φ:j3)(j4:Int)(d9:List Tok):Nat ->(List Nod)->Int->Option (Lr (List Nod×Int) (Rs (List Nod×Int) (j5×Int)))
  | 0,_,_=>none
  | m2 + 1,l503,a6y =>
      (o8 [125] d9 a6y j4).bind fun(r4,at5) =>
      cond (!r4) (
      l5 (Φ.G6 d9 at5 j4) (fun(r6,at7) =>
      (app 144 l503 ([r6]:List Nod)).bind fun l8 =>
      O6 n Φ j4 d9 m2 l8 at7) fun(e9,at10) =>
      some (.out (.pan (e9,at10)))) (
      some (.brk (l503,at5)))
def P6 (n:Nat)(Φ:j3)(d9:List Tok)(at2 j4:Int):Option (Rs (List Nod×Int) (j5×Int)) :=
 Y9 (α:=List Nod×Int) (
 O6 n Φ j4 d9 n ([]:List Nod) at2) fun(l511,a5j) =>
 some (.ok (l511,a5j))
def a15 (d9:List Tok)(at2 j4:Int):Rs (List Nod×Int) (j5×Int)->Out
 | .ok (r513,b4h)=>.ret (.sl F5 r513) (hP p8 d9 b4h j4)
 | .pan (e555,at556)=>.pan (.iface 87 (.agg [.i e555.fault.code,.i e555.fault.at_])) (hP p8 d9 at556 j4)
def Q7 (n:Nat)(Φ:j3)(d9:List Tok)(at2 j4:Int):Option (Rs (Nod×Int) (j5×Int)) :=
 Option.bind (α:=Str) (
 (l7 0 9 [] d9 at2 j4).bind fun r4 =>
 cond r4 (
 (idx' d9 at2).bind fun x5 =>
 some x5.text) (
 some [])) fun a4i =>
 Option.bind (α:=Bool) (
 cond (eqS a4i [108,101,116]) (
 some (eqS a4i [108,101,116])) (
 some (eqS a4i [118,97,114]))) fun x509 =>
 cond x509 (
 l5 (Φ.K4 d9 at2 j4) (fun(r6,at7) =>
 some (.ok (r6,at7))) fun(e8,at9) =>
 some (.pan (e8,at9))) (
 cond (eqS a4i [105,102]) (
 l5 (Φ.F7 d9 at2 j4) (fun(r10,at11) =>
 some (.ok (r10,at11))) fun(e12,at13) =>
 some (.pan (e12,at13))) (
 cond (eqS a4i [109,97,116,99,104]) (
 l5 (Φ.K5 d9 at2 j4) (fun(r14,at15) =>
 some (.ok (r14,at15))) fun(e16,at17) =>
 some (.pan (e16,at17))) (
 cond (eqS a4i [100,101,102,101,114]) (
 l5 (Φ.L6 31 d9 at2 j4) (fun(l18,at19,at20) =>
 some (.ok ((⟨31,[],0,(⟨0,[],0,[]⟩:Typ),[],l18,at19⟩:Nod),at20))) fun(e21,at22) =>
 some (.pan (e21,at22))) (
 cond (eqS a4i [119,104,105,108,101]) (
 (p9 25 d9 at2 j4).bind fun at23 =>
 l5 (Φ.w9 d9 (w64 (at2+1)) j4) (fun(r24,at25) =>
 l5 (Φ.D8 d9 at25 j4) (fun(r26,at27) =>
 (app 144 ([r24]:List Nod) ([r26]:List Nod)).bind fun l28 =>
 some (.ok ((⟨25,[],0,(⟨0,[],0,[]⟩:Typ),[],l28,at23⟩:Nod),at27))) fun(e29,at30) =>
 some (.pan (e29,at30))) fun(e31,at32) =>
 some (.pan (e31,at32))) (
 cond (eqS a4i [114,101,116,117,114,110]) (
 (p9 28 d9 at2 j4).bind fun at33 =>
 Y9 (α:=Int×List Nod) (
 (o8 [59] d9 (w64 (at2+1)) j4).bind fun(r34,at35) =>
 cond (!r34) (
 l5 (Φ.w9 d9 at35 j4) (fun(r36,at37) =>
 l5 (o5 [59] d9 at37 j4) (fun at38 =>
 some (.brk (at38,([r36]:List Nod)))) fun(at39,at40) =>
 some (.out (.pan ((⟨(⟨20,at39⟩:Flt)⟩:j5),at40)))) fun(e41,at42) =>
 some (.out (.pan (e41,at42)))) (
 some (.brk (at35,([]:List Nod))))) fun(at534,l535) =>
 some (.ok ((⟨28,[],0,(⟨0,[],0,[]⟩:Typ),[],l535,at33⟩:Nod),at534))) (
 cond (eqS a4i [116,104,114,111,119]) (
 (p9 29 d9 at2 j4).bind fun at43 =>
 l5 (Φ.w9 d9 (w64 (at2+1)) j4) (fun(r44,at45) =>
 l5 (o5 [59] d9 at45 j4) (fun at46 =>
 some (.ok ((⟨29,[],0,(⟨0,[],0,[]⟩:Typ),[],[r44],at43⟩:Nod),at46))) fun(at47,at48) =>
 some (.pan ((⟨(⟨20,at47⟩:Flt)⟩:j5),at48))) fun(e49,at50) =>
 some (.pan (e49,at50))) (
 cond (eqS a4i [100,111]) (
 l5 (Φ.L6 30 d9 at2 j4) (fun(l51,at52,at53) =>
 l5 (E9 [99,97,116,99,104] d9 at53 j4) (fun at54 =>
 l5 (F3 d9 at54 j4) (fun r55 =>
 l5 (Φ.D8 d9 (w64 (at54+1)) j4) (fun(r56,at57) =>
 (app 144 l51 ([r56]:List Nod)).bind fun l58 =>
 some (.ok ((⟨30,r55,0,(⟨0,[],0,[]⟩:Typ),[],l58,at52⟩:Nod),at57))) fun(e59,at60) =>
 some (.pan (e59,at60))) fun at61 =>
 some (.pan ((⟨(⟨20,at61⟩:Flt)⟩:j5),at54))) fun(at62,at63) =>
 some (.pan ((⟨(⟨20,at62⟩:Flt)⟩:j5),at63))) fun(e64,at65) =>
 some (.pan (e64,at65))) (
 l5 (Φ.w9 d9 at2 j4) (fun(r66,at67) =>
 (l7 0 8 [61] d9 at67 j4).bind fun r68 =>
 cond r68 (
 (a3h n r66).bind fun r69 =>
 cond (!r69) (
 some (.pan ((⟨(⟨22,r66.at_⟩:Flt)⟩:j5),at67))) (
 l5 (Φ.w9 d9 (w64 (at67+1)) j4) (fun(r70,at71) =>
 (app 144 ([r66]:List Nod) ([r70]:List Nod)).bind fun l72 =>
 l5 (o5 [59] d9 at71 j4) (fun at73 =>
 some (.ok ((⟨22,[],0,(⟨0,[],0,[]⟩:Typ),[],l72,r66.at_⟩:Nod),at73))) fun(at74,at75) =>
 some (.pan ((⟨(⟨20,at74⟩:Flt)⟩:j5),at75))) fun(e76,at77) =>
 some (.pan (e76,at77)))) (
 l5 (o5 [59] d9 at67 j4) (fun at78 =>
 some (.ok ((⟨23,[],0,(⟨0,[],0,[]⟩:Typ),[],[r66],r66.at_⟩:Nod),at78))) fun(at79,at80) =>
 some (.pan ((⟨(⟨20,at79⟩:Flt)⟩:j5),at80)))) fun(e81,at82) =>
 some (.pan (e81,at82))))))))))
def a2k (d9:List Tok)(at2 j4:Int):Rs (Nod×Int) (j5×Int)->Out
 | .ok (b1Y,a2w)=>.ret (.agg (c0 b1Y.op b1Y.s b1Y.n b1Y.t.kind b1Y.t.name b1Y.t.n (.sl D9 b1Y.t.args) (.sl D9 b1Y.ts) (.sl F5 b1Y.l) b1Y.at_)) (hP p8 d9 a2w j4)
 | .pan (e546,at547)=>.pan (.iface 87 (.agg [.i e546.fault.code,.i e546.fault.at_])) (hP p8 d9 at547 j4)
def Z9 (n:Nat)(Φ:j3)(d9:List Tok)(at2 j4:Int):Option (Rs (Nod×Int) (j5×Int)) :=
 (p9 21 d9 at2 j4).bind fun at4 =>
 Y9 (α:=Int×Int) (
 (C9 [118,97,114] d9 at2 j4).bind fun(r5,at6) =>
 cond r5 (
 some (.brk (at6,1))) (
 l5 (E9 [108,101,116] d9 at6 j4) (fun at7 =>
 some (.brk (at7,0))) fun(at8,at9) =>
 some (.out (.pan ((⟨(⟨20,at8⟩:Flt)⟩:j5),at9))))) fun(at522,n523) =>
 l5 (F3 d9 at522 j4) (fun r10 =>
 (o8 [58] d9 (w64 (at522+1)) j4).bind fun(r11,at12) =>
 Y9 (α:=Int×Int×Str×Int×List Typ) (
 cond r11 (
 l5 (A7 n d9 at12 j4) (fun(r13,at14) =>
 some (.brk (at14,r13.kind,r13.name,r13.n,r13.args))) fun(at15,at16) =>
 some (.out (.pan ((⟨(⟨20,at15⟩:Flt)⟩:j5),at16)))) (
 some (.brk (at12,0,[],0,([]:List Typ))))) fun(b2F,c0z,c0H,n527,b94) =>
 Option.bind (α:=Bool×Int) (
 cond (eqB n523 1) (
 cond r11 (
 (o8 [59] d9 b2F j4).bind fun(r17,at18) =>
 some (r17,at18)) (
 some (false,b2F))) (
 some (false,b2F))) fun(x529,b4j) =>
 cond x529 (
 some (.ok ((⟨21,r10,n523,(⟨c0z,c0H,n527,b94⟩:Typ),[],[],at4⟩:Nod),b4j))) (
 l5 (o5 [61] d9 b4j j4) (fun at19 =>
 l5 (Φ.w9 d9 at19 j4) (fun(r20,at21) =>
 l5 (o5 [59] d9 at21 j4) (fun at22 =>
 some (.ok ((⟨21,r10,n523,(⟨c0z,c0H,n527,b94⟩:Typ),[],[r20],at4⟩:Nod),at22))) fun(at23,at24) =>
 some (.pan ((⟨(⟨20,at23⟩:Flt)⟩:j5),at24))) fun(e25,at26) =>
 some (.pan (e25,at26))) fun(at27,at28) =>
 some (.pan ((⟨(⟨20,at27⟩:Flt)⟩:j5),at28)))) fun at29 =>
 some (.pan ((⟨(⟨20,at29⟩:Flt)⟩:j5),at522))
def a3y (d9:List Tok)(at2 j4:Int):Rs (Nod×Int) (j5×Int)->Out
 | .ok (T9,a0v)=>.ret (.agg (c0 T9.op T9.s T9.n T9.t.kind T9.t.name T9.t.n (.sl D9 T9.t.args) (.sl D9 T9.ts) (.sl F5 T9.l) T9.at_)) (hP p8 d9 a0v j4)
 | .pan (e598,at599)=>.pan (.iface 87 (.agg [.i e598.fault.code,.i e598.fault.at_])) (hP p8 d9 at599 j4)
def a0q (n:Nat)(Φ:j3)(d9:List Tok)(at2 j4:Int):Option (Rs (Nod×Int) (j5×Int)) :=
 l5 (Φ.G7 d9 at2 j4) (fun(r4,at5) =>
 (a4Q).bind fun _ =>
 l5 (Φ.H8 r4 ([(⟨[[124,124]],false⟩:E8),(⟨[[38,38]],false⟩:E8),(⟨[[61,61],[33,61],[60],[60,61],[62],[62,61]],true⟩:E8),(⟨[[43],[45]],false⟩:E8),(⟨[[42],[47],[37]],false⟩:E8)]:List E8) d9 at5 j4) (fun(r6,at7) =>
 some (.ok (r6,at7))) fun(e8,at9) =>
 some (.pan (e8,at9))) fun(e10,at11) =>
 some (.pan (e10,at11))
def a7Z (d9:List Tok)(at2 j4:Int):Rs (Nod×Int) (j5×Int)->Out
 | .ok (a1w,a5M)=>.ret (.agg (c0 a1w.op a1w.s a1w.n a1w.t.kind a1w.t.name a1w.t.n (.sl D9 a1w.t.args) (.sl D9 a1w.ts) (.sl F5 a1w.l) a1w.at_)) (hP p8 d9 a5M j4)
 | .pan (e523,b2F)=>.pan (.iface 87 (.agg [.i e523.fault.code,.i e523.fault.at_])) (hP p8 d9 b2F j4)
def a0d (n:Nat)(Φ:j3)(d9:List Tok)(at2 j4:Int):Option (Rs (Nod×Int) (j5×Int)) :=
 (p9 66 d9 at2 j4).bind fun at4 =>
 Y9 (α:=Int×Int) (
 (o8 [45] d9 at2 j4).bind fun(r5,at6) =>
 cond (!r5) (
 (o8 [33] d9 at6 j4).bind fun(r7,at8) =>
 cond (!r7) (
 l5 (Φ.J3 d9 at8 j4) (fun(r9,at10) =>
 some (.out (.ok (r9,at10)))) fun(e11,at12) =>
 some (.out (.pan (e11,at12)))) (
 some (.brk (at8,65)))) (
 some (.brk (at6,66)))) fun(a5h,op502) =>
 l5 (Φ.G7 d9 a5h j4) (fun(r13,at14) =>
 some (.ok ((⟨op502,[],0,(⟨0,[],0,[]⟩:Typ),[],[r13],at4⟩:Nod),at14))) fun(e15,at16) =>
 some (.pan (e15,at16))
def a3B (d9:List Tok)(at2 j4:Int):Rs (Nod×Int) (j5×Int)->Out
 | .ok (a05,a5j)=>.ret (.agg (c0 a05.op a05.s a05.n a05.t.kind a05.t.name a05.t.n (.sl D9 a05.t.args) (.sl D9 a05.ts) (.sl F5 a05.l) a05.at_)) (hP p8 d9 a5j j4)
 | .pan (e543,at544)=>.pan (.iface 87 (.agg [.i e543.fault.code,.i e543.fault.at_])) (hP p8 d9 at544 j4)
def J9 (n:Nat)(Φ:j3)(j4:Int)(d9:List Tok):Nat->Bool->Int->Nod->Option (Rs (Nod×Int) (j5×Int))
  | 0,_,_,_=>none
  | m4 + 1,bare544,at545,n546 =>
      Y9 (α:=Int×Int×Str×List Nod) (
      (o8 [46] d9 at545 j4).bind fun(r7,at8) =>
      cond r7 (
      l5 (F3 d9 at8 j4) (fun r9 =>
      a5N (α:=Int×Int×List Nod) (
      (l7 0 8 [40] d9 (w64 (at8+1)) j4).bind fun r10 =>
      cond r10 (
      l5 (Φ.F6 d9 (w64 (at8+1)) j4) (fun(r11,at12) =>
      (app 144 ([n546]:List Nod) r11).bind fun l13 =>
      some (.brk (at12,57,l13))) fun(e14,at15) =>
      some (.out (.pan (e14,at15)))) (
      some (.brk ((w64 (at8+1)),55,([n546]:List Nod))))) fun(at554,op555,l556) =>
      some (.brk (at554,op555,r9,l556))) fun at16 =>
      some (.out (.pan ((⟨(⟨20,at16⟩:Flt)⟩:j5),at8)))) (
      (l7 0 8 [40] d9 at8 j4).bind fun r17 =>
      cond r17 (
      cond bare544 (
      l5 (Φ.F6 d9 at8 j4) (fun(r18,at19) =>
      some (.brk (at19,56,n546.s,r18))) fun(e20,at21) =>
      some (.out (.pan (e20,at21)))) (
      l5 (Φ.F6 d9 at8 j4) (fun(r22,at23) =>
      (app 144 ([n546]:List Nod) r22).bind fun l24 =>
      some (.brk (at23,60,[],l24))) fun(e25,at26) =>
      some (.out (.pan (e25,at26))))) (
      some (.out (.ok (n546,at8)))))) fun(at557,op558,s559,l560) =>
      J9 n Φ j4 d9 m4 false at557 (⟨op558,s559,0,(⟨0,[],0,[]⟩:Typ),[],l560,n546.at_⟩:Nod)
def U8 (n:Nat)(Φ:j3)(d9:List Tok)(at2 j4:Int):Option (Rs (Nod×Int) (j5×Int)) :=
 (l7 0 1 [] d9 at2 j4).bind fun r4 =>
 l5 (Φ.I8 d9 at2 j4) (fun(r5,at6) =>
 J9 n Φ j4 d9 n r4 at6 r5) fun(e27,at28) =>
 some (.pan (e27,at28))
def a2H (d9:List Tok)(at2 j4:Int):Rs (Nod×Int) (j5×Int)->Out
 | .ok (a05,a5j)=>.ret (.agg (c0 a05.op a05.s a05.n a05.t.kind a05.t.name a05.t.n (.sl D9 a05.t.args) (.sl D9 a05.ts) (.sl F5 a05.l) a05.at_)) (hP p8 d9 a5j j4)
 | .pan (e580,at581)=>.pan (.iface 87 (.agg [.i e580.fault.code,.i e580.fault.at_])) (hP p8 d9 at581 j4)
def X4 (n:Nat)(Φ:j3)(j4:Int)(d9:List Tok):Nat->Int ->(List Nod)->Option (Lr (Int×List Nod) (Rs (Nod×Int) (j5×Int)))
  | 0,_,_=>none
  | m27 + 1,at569,l570 =>
      (o8 [44] d9 at569 j4).bind fun(r34,at35) =>
      cond r34 (
      l5 (Φ.w9 d9 at35 j4) (fun(r36,at37) =>
      (app 144 l570 ([r36]:List Nod)).bind fun l38 =>
      X4 n Φ j4 d9 m27 at37 l38) fun(e39,at40) =>
      some (.out (.pan (e39,at40)))) (
      some (.brk (at35,l570)))
def O0 (n:Nat)(Φ:j3)(d9:List Tok)(at2 j4:Int):Option (Rs (Nod×Int) (j5×Int)) :=
 (p9 0 d9 at2 j4).bind fun at4 =>
 Y9 (α:=Int×Int×Str×Int×Int×Str×Int×List Typ×List Nod) (
 (l7 0 3 [] d9 at2 j4).bind fun r5 =>
 cond r5 (
 l5 (J2 d9 at2 j4) (fun r6 =>
 some (.brk ((w64 (at2+1)),50,[],r6,0,[],0,([]:List Typ),([]:List Nod)))) fun at7 =>
 some (.out (.pan ((⟨(⟨20,at7⟩:Flt)⟩:j5),at2)))) (
 (l7 0 4 [] d9 at2 j4).bind fun r8 =>
 cond r8 (
 l5 (H9 4 d9 at2 j4) (fun r9 =>
 some (.brk ((w64 (at2+1)),52,r9.text,0,0,[],0,([]:List Typ),([]:List Nod)))) fun at10 =>
 some (.out (.pan ((⟨(⟨20,at10⟩:Flt)⟩:j5),at2)))) (
 (l7 0 5 [] d9 at2 j4).bind fun r11 =>
 cond r11 (
 l5 (Φ.J7 d9 at2 j4) (fun(r12,at13) =>
 some (.out (.ok (r12,at13)))) fun(e14,at15) =>
 some (.out (.pan (e14,at15)))) (
 (C9 [116,114,117,101] d9 at2 j4).bind fun(r16,at17) =>
 cond r16 (
 some (.brk (at17,51,[],1,0,[],0,([]:List Typ),([]:List Nod)))) (
 (C9 [102,97,108,115,101] d9 at17 j4).bind fun(r18,at19) =>
 cond r18 (
 some (.brk (at19,51,[],0,0,[],0,([]:List Typ),([]:List Nod)))) (
 (l7 0 1 [] d9 at19 j4).bind fun r20 =>
 cond r20 (
 l5 (F3 d9 at19 j4) (fun r21 =>
 some (.brk ((w64 (at19+1)),54,r21,0,0,[],0,([]:List Typ),([]:List Nod)))) fun at22 =>
 some (.out (.pan ((⟨(⟨20,at22⟩:Flt)⟩:j5),at19)))) (
 (C9 [99,111,110,115,117,109,101] d9 at19 j4).bind fun(r23,at24) =>
 cond r23 (
 l5 (F3 d9 at24 j4) (fun r25 =>
 some (.brk ((w64 (at24+1)),61,r25,0,0,[],0,([]:List Typ),([]:List Nod)))) fun at26 =>
 some (.out (.pan ((⟨(⟨20,at26⟩:Flt)⟩:j5),at24)))) (
 (o8 [91] d9 at24 j4).bind fun(r27,at28) =>
 cond r27 (
 (o8 [93] d9 at28 j4).bind fun(r29,at30) =>
 cond r29 (
 some (.brk (at30,67,[],0,0,[],0,([]:List Typ),([]:List Nod)))) (
 l5 (Φ.w9 d9 at30 j4) (fun(r31,at32) =>
 (app 144 ([]:List Nod) ([r31]:List Nod)).bind fun l33 =>
 a5N (α:=Int×List Nod) (
 X4 n Φ j4 d9 n at32 l33) fun(at587,l588) =>
 l5 (o5 [93] d9 at587 j4) (fun at41 =>
 some (.brk (at41,67,[],0,0,[],0,([]:List Typ),l588))) fun(at42,at43) =>
 some (.out (.pan ((⟨(⟨20,at42⟩:Flt)⟩:j5),at43)))) fun(e44,at45) =>
 some (.out (.pan (e44,at45))))) (
 (o8 [40] d9 at28 j4).bind fun(r46,at47) =>
 cond r46 (
 l5 (Φ.w9 d9 at47 j4) (fun(r48,at49) =>
 l5 (o5 [41] d9 at49 j4) (fun at50 =>
 some (.out (.ok (r48,at50)))) fun(at51,at52) =>
 some (.out (.pan ((⟨(⟨20,at51⟩:Flt)⟩:j5),at52)))) fun(e53,at54) =>
 some (.out (.pan (e53,at54)))) (
 (l7 0 8 [123] d9 at47 j4).bind fun r55 =>
 cond r55 (
 l5 (Φ.I9 d9 at47 j4) (fun(r56,at57) =>
 some (.out (.ok (r56,at57)))) fun(e58,at59) =>
 some (.out (.pan (e58,at59)))) (
 l5 (K3 n true d9 at47 j4) (fun(r60,at61) =>
 (l7 0 8 [40] d9 at61 j4).bind fun r62 =>
 cond r62 (
 l5 (Φ.F6 d9 at61 j4) (fun(r63,at64) =>
 some (.brk (at64,59,[],0,r60.kind,r60.name,r60.n,r60.args,r63))) fun(e65,at66) =>
 some (.out (.pan (e65,at66)))) (
 l5 (o5 [46] d9 at61 j4) (fun at67 =>
 l5 (F3 d9 at67 j4) (fun r68 =>
 (l7 0 8 [40] d9 (w64 (at67+1)) j4).bind fun r69 =>
 cond r69 (
 l5 (Φ.F6 d9 (w64 (at67+1)) j4) (fun(r70,at71) =>
 some (.brk (at71,58,r68,1,r60.kind,r60.name,r60.n,r60.args,r70))) fun(e72,at73) =>
 some (.out (.pan (e72,at73)))) (
 some (.brk ((w64 (at67+1)),58,r68,0,r60.kind,r60.name,r60.n,r60.args,([]:List Nod))))) fun at74 =>
 some (.out (.pan ((⟨(⟨20,at74⟩:Flt)⟩:j5),at67)))) fun(at75,at76) =>
 some (.out (.pan ((⟨(⟨20,at75⟩:Flt)⟩:j5),at76))))) fun(at77,at78) =>
 some (.out (.pan ((⟨(⟨20,at77⟩:Flt)⟩:j5),at78)))))))))))))) fun(b2E,op518,s519,n520,kind521,name522,n523,args524,l525) =>
 some (.ok ((⟨op518,s519,n520,(⟨kind521,name522,n523,args524⟩:Typ),[],l525,at4⟩:Nod),b2E))
def a3R (d9:List Tok)(at2 j4:Int):Rs (Nod×Int) (j5×Int)->Out
 | .ok (a1w,a5M)=>.ret (.agg (c0 a1w.op a1w.s a1w.n a1w.t.kind a1w.t.name a1w.t.n (.sl D9 a1w.t.args) (.sl D9 a1w.ts) (.sl F5 a1w.l) a1w.at_)) (hP p8 d9 a5M j4)
 | .pan (e617,at618)=>.pan (.iface 87 (.agg [.i e617.fault.code,.i e617.fault.at_])) (hP p8 d9 at618 j4)
def Z6 (n:Nat)(Φ:j3)(j4:Int)(d9:List Tok):Nat ->(List Nod)->Int->Option (Lr (List Nod×Int) (Rs (List Nod×Int) (j5×Int)))
  | 0,_,_=>none
  | m5 + 1,l504,a2w =>
      (p9 62 d9 a2w j4).bind fun at7 =>
      a5N (α:=List Nod×Int) (
      (o8 [38] d9 a2w j4).bind fun(r8,at9) =>
      cond r8 (
      l5 (a0K n d9 at9 j4) (fun(r10,at11) =>
      (app 144 l504 ([(⟨62,[],0,(⟨0,[],0,[]⟩:Typ),[],[r10],at7⟩:Nod)]:List Nod)).bind fun l12 =>
      some (.brk (l12,at11))) fun(at13,at14) =>
      some (.out (.pan ((⟨(⟨20,at13⟩:Flt)⟩:j5),at14)))) (
      l5 (Φ.w9 d9 at9 j4) (fun(r15,at16) =>
      (app 144 l504 ([r15]:List Nod)).bind fun l17 =>
      some (.brk (l17,at16))) fun(e18,at19) =>
      some (.out (.pan (e18,at19))))) fun(l551,at552) =>
      (o8 [44] d9 at552 j4).bind fun(r20,at21) =>
      cond (!r20) (
      some (.brk (l551,at21))) (
      Z6 n Φ j4 d9 m5 l551 at21)
def a0p (n:Nat)(Φ:j3)(d9:List Tok)(at2 j4:Int):Option (Rs (List Nod×Int) (j5×Int)) :=
 l5 (o5 [40] d9 at2 j4) (fun at4 =>
 (o8 [41] d9 at4 j4).bind fun(r5,at6) =>
 cond r5 (
 some (.ok (([]:List Nod),at6))) (
 Y9 (α:=List Nod×Int) (
 Z6 n Φ j4 d9 n ([]:List Nod) at6) fun(b28,a3I) =>
 l5 (o5 [41] d9 a3I j4) (fun at22 =>
 some (.ok (b28,at22))) fun(at23,at24) =>
 some (.pan ((⟨(⟨20,at23⟩:Flt)⟩:j5),at24)))) fun(at25,at26) =>
 some (.pan ((⟨(⟨20,at25⟩:Flt)⟩:j5),at26))
def a3Q (d9:List Tok)(at2 j4:Int):Rs (List Nod×Int) (j5×Int)->Out
 | .ok (r557,at558)=>.ret (.sl F5 r557) (hP p8 d9 at558 j4)
 | .pan (e579,at580)=>.pan (.iface 87 (.agg [.i e579.fault.code,.i e579.fault.at_])) (hP p8 d9 at580 j4)
def U5 (n:Nat)(Φ:j3)(at4 j4:Int)(d9:List Tok):Nat->Int ->(List Nod)->Str->Int->Option (Rs (Nod×Int) (j5×Int))
  | 0,_,_,_,_=>none
  | m5 + 1,a5i,l512,s513,b4h =>
      l5 (Φ.w9 d9 a5i j4) (fun(r7,at8) =>
      (app 144 l512 ([r7]:List Nod)).bind fun l9 =>
      (p9 52 d9 at8 j4).bind fun at10 =>
      (l7 0 6 [] d9 at8 j4).bind fun r11 =>
      cond r11 (
      l5 (H9 6 d9 at8 j4) (fun r12 =>
      (app 144 l9 ([(⟨52,r12.text,0,(⟨0,[],0,[]⟩:Typ),[],[],at10⟩:Nod)]:List Nod)).bind fun l13 =>
      U5 n Φ at4 j4 d9 m5 (w64 (at8+1)) l13 r12.text at10) fun at14 =>
      some (.pan ((⟨(⟨20,at14⟩:Flt)⟩:j5),at8))) (
      l5 (H9 7 d9 at8 j4) (fun r15 =>
      (app 144 l9 ([(⟨52,r15.text,0,(⟨0,[],0,[]⟩:Typ),[],[],at10⟩:Nod)]:List Nod)).bind fun l16 =>
      some (.ok ((⟨53,[],0,(⟨0,[],0,[]⟩:Typ),[],l16,at4⟩:Nod),(w64 (at8+1))))) fun at17 =>
      some (.pan ((⟨(⟨20,at17⟩:Flt)⟩:j5),at8)))) fun(e18,at19) =>
      some (.pan (e18,at19))
def X8 (n:Nat)(Φ:j3)(d9:List Tok)(at2 j4:Int):Option (Rs (Nod×Int) (j5×Int)) :=
 (p9 53 d9 at2 j4).bind fun at4 =>
 (p9 52 d9 at2 j4).bind fun at5 =>
 l5 (H9 5 d9 at2 j4) (fun r6 =>
 U5 n Φ at4 j4 d9 n (w64 (at2+1)) ([(⟨52,r6.text,0,(⟨0,[],0,[]⟩:Typ),[],[],at5⟩:Nod)]:List Nod) r6.text at5) fun at20 =>
 some (.pan ((⟨(⟨20,at20⟩:Flt)⟩:j5),at2))
def a6T (d9:List Tok)(at2 j4:Int):Rs (Nod×Int) (j5×Int)->Out
 | .ok (b1Z,b6F)=>.ret (.agg (c0 b1Z.op b1Z.s b1Z.n b1Z.t.kind b1Z.t.name b1Z.t.n (.sl D9 b1Z.t.args) (.sl D9 b1Z.ts) (.sl F5 b1Z.l) b1Z.at_)) (hP p8 d9 b6F j4)
 | .pan (e541,b6H)=>.pan (.iface 87 (.agg [.i e541.fault.code,.i e541.fault.at_])) (hP p8 d9 b6H j4)
def U2 (n:Nat)(Φ:j3)(d9:List Tok)(at2 j4:Int):Option (Rs (Nod×Int) (j5×Int)) :=
 (p9 63 d9 at2 j4).bind fun at4 =>
 (p9 20 d9 at2 j4).bind fun at5 =>
 l5 (o5 [123] d9 at2 j4) (fun at6 =>
 l5 (V9 n d9 at6 j4) (fun(r7,at8) =>
 l5 (W9 n d9 at8 j4) (fun(r9,at10) =>
 l5 (E9 [105,110] d9 at10 j4) (fun at11 =>
 l5 (Φ.G8 d9 at11 j4) (fun(r12,at13) =>
 (app 144 r7 ([(⟨20,[],0,(⟨0,[],0,[]⟩:Typ),[],r12,at5⟩:Nod)]:List Nod)).bind fun l14 =>
 some (.ok ((⟨63,[],0,r9,[],l14,at4⟩:Nod),at13))) fun(e15,at16) =>
 some (.pan (e15,at16))) fun(at17,at18) =>
 some (.pan ((⟨(⟨20,at17⟩:Flt)⟩:j5),at18))) fun(at19,at20) =>
 some (.pan ((⟨(⟨20,at19⟩:Flt)⟩:j5),at20))) fun(at21,at22) =>
 some (.pan ((⟨(⟨20,at21⟩:Flt)⟩:j5),at22))) fun(at23,at24) =>
 some (.pan ((⟨(⟨20,at23⟩:Flt)⟩:j5),at24))
def a6n (d9:List Tok)(at2 j4:Int):Rs (Nod×Int) (j5×Int)->Out
 | .ok (T9,a0v)=>.ret (.agg (c0 T9.op T9.s T9.n T9.t.kind T9.t.name T9.t.n (.sl D9 T9.t.args) (.sl D9 T9.ts) (.sl F5 T9.l) T9.at_)) (hP p8 d9 a0v j4)
 | .pan (e535,at536)=>.pan (.iface 87 (.agg [.i e535.fault.code,.i e535.fault.at_])) (hP p8 d9 at536 j4)
def X7 (n:Nat)(Φ:j3)(a0Z:Int)(P8:List E8)(J5:List Tok):Nat->Int->Int->Int->Nod->Option (Lr (Int×Int×Nod) (Rs (Nod×Int) (j5×Int)))
  | 0,_,_,_,_=>none
  | m6 + 1,k553,x554,b4l,n556 =>
      Option.bind (α:=Bool) (
      cond (ltB b4l (List.length J5:Int)) (
      (idx' J5 b4l).bind fun x6 =>
      cond (eqB x6.kind 8) (
      (idx' P8 k553).bind fun x7 =>
      (idx' J5 b4l).bind fun x8 =>
      (J8 n x7.ops x8.text).bind fun r9 =>
      some r9) (
      some false)) (
      some false)) fun x557 =>
      cond x557 (
      (idx' J5 b4l).bind fun x10 =>
      (subL P8 (w64 (k553+1)) (List.length P8:Int)).bind fun l11 =>
      l5 (Φ.G7 J5 (w64 (b4l+1)) a0Z) (fun(r12,at13) =>
      l5 (Φ.H8 r12 l11 J5 at13 a0Z) (fun(r14,at15) =>
      (idx' P8 k553).bind fun x16 =>
      cond x16.once (
      some (.brk (x554,at15,(⟨64,x10.text,0,(⟨0,[],0,[]⟩:Typ),[],[n556,r14],n556.at_⟩:Nod)))) (
      X7 n Φ a0Z P8 J5 m6 k553 x554 at15 (⟨64,x10.text,0,(⟨0,[],0,[]⟩:Typ),[],[n556,r14],n556.at_⟩:Nod))) fun(e17,at18) =>
      some (.out (.pan (e17,at18)))) fun(e19,at20) =>
      some (.out (.pan (e19,at20)))) (
      some (.brk (x554,b4l,n556)))
def X6 (n:Nat)(Φ:j3)(P8:List E8)(a0Z:Int)(J5:List Tok):Nat->Int->Int->Nod->Option (Lr (Int×Nod) (Rs (Nod×Int) (j5×Int)))
  | 0,_,_,_=>none
  | m3 + 1,x545,at546,n547 =>
      cond (ltB x545 (List.length P8:Int)) (
      a5N (α:=Int×Int×Nod) (
      X7 n Φ a0Z P8 J5 n (w64 ((w64 ((List.length P8:Int)-1))-x545)) x545 at546 n547) fun(x562,at563,n564) =>
      X6 n Φ P8 a0Z J5 m3 (w64 (x562+1)) at563 n564) (
      some (.brk (at546,n547)))
def Z8 (n:Nat)(Φ:j3)(a0g:Nod)(P8:List E8)(J5:List Tok)(at4 a0Z:Int):Option (Rs (Nod×Int) (j5×Int)) :=
 Y9 (α:=Int×Nod) (
 X6 n Φ P8 a0Z J5 n 0 at4 a0g) fun(at568,n569) =>
 some (.ok (n569,at568))
def a3x (a0g:Nod)(P8:List E8)(J5:List Tok)(at4 a0Z:Int):Rs (Nod×Int) (j5×Int)->Out
 | .ok (r570,at571)=>.ret (.agg (c0 r570.op r570.s r570.n r570.t.kind r570.t.name r570.t.n (.sl D9 r570.t.args) (.sl D9 r570.ts) (.sl F5 r570.l) r570.at_)) (hP p8 J5 at571 a0Z)
 | .pan (e523,b2F)=>.pan (.iface 87 (.agg [.i e523.fault.code,.i e523.fault.at_])) (hP p8 J5 b2F a0Z)
def O5 (n:Nat)(Φ:j3)(d9:List Tok)(at2 j4:Int):Option (Rs (Nod×Int) (j5×Int)) :=
 (p9 24 d9 at2 j4).bind fun at4 =>
 l5 (E9 [105,102] d9 at2 j4) (fun at5 =>
 l5 (Φ.w9 d9 at5 j4) (fun(r6,at7) =>
 l5 (Φ.D8 d9 at7 j4) (fun(r8,at9) =>
 (app 144 ([r6]:List Nod) ([r8]:List Nod)).bind fun l10 =>
 Y9 (α:=Int×List Nod) (
 (C9 [101,108,115,101] d9 at9 j4).bind fun(r11,at12) =>
 cond r11 (
 a5N (α:=Int×Nod) (
 (l7 0 9 [105,102] d9 at12 j4).bind fun r13 =>
 cond r13 (
 l5 (Φ.F7 d9 at12 j4) (fun(r14,at15) =>
 some (.brk (at15,r14))) fun(e16,at17) =>
 some (.out (.pan (e16,at17)))) (
 l5 (Φ.D8 d9 at12 j4) (fun(r18,at19) =>
 some (.brk (at19,r18))) fun(e20,at21) =>
 some (.out (.pan (e20,at21))))) fun(b2E,n518) =>
 (app 144 l10 ([n518]:List Nod)).bind fun l22 =>
 some (.brk (b2E,l22))) (
 some (.brk (at12,l10)))) fun(at519,l520) =>
 some (.ok ((⟨24,[],0,(⟨0,[],0,[]⟩:Typ),[],l520,at4⟩:Nod),at519))) fun(e23,at24) =>
 some (.pan (e23,at24))) fun(e25,at26) =>
 some (.pan (e25,at26))) fun(at27,at28) =>
 some (.pan ((⟨(⟨20,at27⟩:Flt)⟩:j5),at28))
def a1Y (d9:List Tok)(at2 j4:Int):Rs (Nod×Int) (j5×Int)->Out
 | .ok (a05,a5j)=>.ret (.agg (c0 a05.op a05.s a05.n a05.t.kind a05.t.name a05.t.n (.sl D9 a05.t.args) (.sl D9 a05.ts) (.sl F5 a05.l) a05.at_)) (hP p8 d9 a5j j4)
 | .pan (e531,b1v)=>.pan (.iface 87 (.agg [.i e531.fault.code,.i e531.fault.at_])) (hP p8 d9 b1v j4)
def X9 (n:Nat)(Φ:j3)(j4:Int)(d9:List Tok):Nat->Int ->(List Nod)->Option (Lr (Int×List Nod) (Rs (Nod×Int) (j5×Int)))
  | 0,_,_=>none
  | m5 + 1,at515,l516 =>
      (l7 0 9 [99,97,115,101] d9 at515 j4).bind fun r9 =>
      cond r9 (
      (p9 27 d9 at515 j4).bind fun at10 =>
      l5 (F9 n d9 (w64 (at515+1)) j4) (fun(r11,at12) =>
      l5 (Φ.D8 d9 at12 j4) (fun(r13,at14) =>
      (app 144 ([r11]:List Nod) ([r13]:List Nod)).bind fun l15 =>
      (app 144 l516 ([(⟨27,[],0,(⟨0,[],0,[]⟩:Typ),[],l15,at10⟩:Nod)]:List Nod)).bind fun l16 =>
      X9 n Φ j4 d9 m5 at14 l16) fun(e17,at18) =>
      some (.out (.pan (e17,at18)))) fun(at19,at20) =>
      some (.out (.pan ((⟨(⟨20,at19⟩:Flt)⟩:j5),at20)))) (
      some (.brk (at515,l516)))
def a0a (n:Nat)(Φ:j3)(d9:List Tok)(at2 j4:Int):Option (Rs (Nod×Int) (j5×Int)) :=
 (p9 26 d9 at2 j4).bind fun at4 =>
 l5 (E9 [109,97,116,99,104] d9 at2 j4) (fun at5 =>
 l5 (Φ.w9 d9 at5 j4) (fun(r6,at7) =>
 l5 (o5 [123] d9 at7 j4) (fun at8 =>
 Y9 (α:=Int×List Nod) (
 X9 n Φ j4 d9 n at8 ([r6]:List Nod)) fun(at525,l526) =>
 (p9 27 d9 at525 j4).bind fun at21 =>
 (p9 40 d9 at525 j4).bind fun at22 =>
 Y9 (α:=Int×List Nod) (
 (C9 [100,101,102,97,117,108,116] d9 at525 j4).bind fun(r23,at24) =>
 cond r23 (
 l5 (Φ.D8 d9 at24 j4) (fun(r25,at26) =>
 (app 144 ([(⟨40,[],0,(⟨0,[],0,[]⟩:Typ),[],[],at22⟩:Nod)]:List Nod) ([r25]:List Nod)).bind fun l27 =>
 (app 144 l526 ([(⟨27,[],0,(⟨0,[],0,[]⟩:Typ),[],l27,at21⟩:Nod)]:List Nod)).bind fun l28 =>
 some (.brk (at26,l28))) fun(e29,at30) =>
 some (.out (.pan (e29,at30)))) (
 some (.brk (at24,l526)))) fun(b2E,l518) =>
 l5 (o5 [125] d9 b2E j4) (fun at31 =>
 some (.ok ((⟨26,[],0,(⟨0,[],0,[]⟩:Typ),[],l518,at4⟩:Nod),at31))) fun(at32,at33) =>
 some (.pan ((⟨(⟨20,at32⟩:Flt)⟩:j5),at33))) fun(at34,at35) =>
 some (.pan ((⟨(⟨20,at34⟩:Flt)⟩:j5),at35))) fun(e36,at37) =>
 some (.pan (e36,at37))) fun(at38,at39) =>
 some (.pan ((⟨(⟨20,at38⟩:Flt)⟩:j5),at39))
def a3z (d9:List Tok)(at2 j4:Int):Rs (Nod×Int) (j5×Int)->Out
 | .ok (a05,a5j)=>.ret (.agg (c0 a05.op a05.s a05.n a05.t.kind a05.t.name a05.t.n (.sl D9 a05.t.args) (.sl D9 a05.ts) (.sl F5 a05.l) a05.at_)) (hP p8 d9 a5j j4)
 | .pan (e541,b6H)=>.pan (.iface 87 (.agg [.i e541.fault.code,.i e541.fault.at_])) (hP p8 d9 b6H j4)
def a0J (n:Nat)(Φ:j3)(op1:Int)(o7:List Tok)(at3 D6:Int):Option (Rs (List Nod×Int×Int) (j5×Int)) :=
 (p9 op1 o7 at3 D6).bind fun at5 =>
 l5 (Φ.D8 o7 (w64 (at3+1)) D6) (fun(r6,at7) =>
 some (.ok (([r6]:List Nod),at5,at7))) fun(e8,at9) =>
 some (.pan (e8,at9))
def a8N (op1:Int)(o7:List Tok)(at3 D6:Int):Rs (List Nod×Int×Int) (j5×Int)->Out
 | .ok (l505,a8o,a3I)=>.ret (.agg [.i op1,.str [],.i 0,.i 0,.str [],.i 0,.sl D9 ([]:List Typ),.sl D9 ([]:List Typ),.sf F5 l505,.i a8o]) (hP p8 o7 a3I D6)
 | .pan (e538,at539)=>.pan (.iface 87 (.agg [.i e538.fault.code,.i e538.fault.at_])) (hP p8 o7 at539 D6)
def j3.fs:Nat->j3
 | 0=>⟨fun _ _ _=>none,fun _ _ _=>none,fun _ _ _=>none,fun _ _ _=>none,fun _ _ _=>none,fun _ _ _=>none,fun _ _ _=>none,fun _ _ _=>none,fun _ _ _=>none,fun _ _ _=>none,fun _ _ _=>none,fun _ _ _ _ _=>none,fun _ _ _=>none,fun _ _ _=>none,fun _ _ _ _=>none⟩
 | n+1=>⟨Z7 n (j3.fs n),P6 n (j3.fs n),Q7 n (j3.fs n),Z9 n (j3.fs n),a0q n (j3.fs n),a0d n (j3.fs n),U8 n (j3.fs n),O0 n (j3.fs n),a0p n (j3.fs n),X8 n (j3.fs n),U2 n (j3.fs n),Z8 n (j3.fs n),O5 n (j3.fs n),a0a n (j3.fs n),a0J n (j3.fs n)⟩
def D8 (n:Nat)(d9:List Tok)(at2 j4:Int):Option (Rs (Nod×Int) (j5×Int)):=(j3.fs n).D8 d9 at2 j4
def G8 (n:Nat)(d9:List Tok)(at2 j4:Int):Option (Rs (List Nod×Int) (j5×Int)):=(j3.fs n).G8 d9 at2 j4
def G6 (n:Nat)(d9:List Tok)(at2 j4:Int):Option (Rs (Nod×Int) (j5×Int)):=(j3.fs n).G6 d9 at2 j4
def K4 (n:Nat)(d9:List Tok)(at2 j4:Int):Option (Rs (Nod×Int) (j5×Int)):=(j3.fs n).K4 d9 at2 j4
def w9 (n:Nat)(d9:List Tok)(at2 j4:Int):Option (Rs (Nod×Int) (j5×Int)):=(j3.fs n).w9 d9 at2 j4
def G7 (n:Nat)(d9:List Tok)(at2 j4:Int):Option (Rs (Nod×Int) (j5×Int)):=(j3.fs n).G7 d9 at2 j4
def J3 (n:Nat)(d9:List Tok)(at2 j4:Int):Option (Rs (Nod×Int) (j5×Int)):=(j3.fs n).J3 d9 at2 j4
def I8 (n:Nat)(d9:List Tok)(at2 j4:Int):Option (Rs (Nod×Int) (j5×Int)):=(j3.fs n).I8 d9 at2 j4
def F6 (n:Nat)(d9:List Tok)(at2 j4:Int):Option (Rs (List Nod×Int) (j5×Int)):=(j3.fs n).F6 d9 at2 j4
def J7 (n:Nat)(d9:List Tok)(at2 j4:Int):Option (Rs (Nod×Int) (j5×Int)):=(j3.fs n).J7 d9 at2 j4
def I9 (n:Nat)(d9:List Tok)(at2 j4:Int):Option (Rs (Nod×Int) (j5×Int)):=(j3.fs n).I9 d9 at2 j4
def H8 (n:Nat)(a0g:Nod)(P8:List E8)(J5:List Tok)(at4 a0Z:Int):Option (Rs (Nod×Int) (j5×Int)):=(j3.fs n).H8 a0g P8 J5 at4 a0Z
def F7 (n:Nat)(d9:List Tok)(at2 j4:Int):Option (Rs (Nod×Int) (j5×Int)):=(j3.fs n).F7 d9 at2 j4
def K5 (n:Nat)(d9:List Tok)(at2 j4:Int):Option (Rs (Nod×Int) (j5×Int)):=(j3.fs n).K5 d9 at2 j4
def L6 (n:Nat)(op1:Int)(o7:List Tok)(at3 D6:Int):Option (Rs (List Nod×Int×Int) (j5×Int)):=(j3.fs n).L6 op1 o7 at3 D6
def Q9 (n:Nat)(d9:List Tok)(at2 j4:Int):Option (Rs (Nod×Int) (j5×Int)) :=
 l5 (P7 n d9 at2 j4) (fun(s4,t5,l6,at7,at8) =>
 l5 (D8 n d9 at8 j4) (fun(r9,at10) =>
 (app 144 l6 ([r9]:List Nod)).bind fun l11 =>
 some (.ok ((⟨7,s4,1,t5,[],l11,at7⟩:Nod),at10))) fun(e12,at13) =>
 some (.pan (e12,at13))) fun(at14,at15) =>
 some (.pan ((⟨(⟨20,at14⟩:Flt)⟩:j5),at15))
def a5L (d9:List Tok)(at2 j4:Int):Rs (Nod×Int) (j5×Int)->Out
 | .ok (a1w,a5M)=>.ret (.agg (c0 a1w.op a1w.s a1w.n a1w.t.kind a1w.t.name a1w.t.n (.sl D9 a1w.t.args) (.sl D9 a1w.ts) (.sl F5 a1w.l) a1w.at_)) (hP p8 d9 a5M j4)
 | .pan (e535,at536)=>.pan (.iface 87 (.agg [.i e535.fault.code,.i e535.fault.at_])) (hP p8 d9 at536 j4)
def U3 (n:Nat)(j4:Int)(d9:List Tok):Nat->Int ->(List Nod)->Option (Lr (Int×List Nod) (Rs (Nod×Int) (j5×Int)))
  | 0,_,_=>none
  | m8 + 1,a2w,b28 =>
      (l7 0 9 [116,121,112,101] d9 a2w j4).bind fun r13 =>
      cond r13 (
      (p9 17 d9 a2w j4).bind fun at14 =>
      l5 (D5 d9 (w64 (a2w+1)) j4) (fun r15 =>
      l5 (o5 [61] d9 (w64 ((w64 (a2w+1))+1)) j4) (fun at16 =>
      l5 (A7 n d9 at16 j4) (fun(r17,at18) =>
      l5 (o5 [59] d9 at18 j4) (fun at19 =>
      (app 144 b28 ([(⟨17,r15,0,r17,[],[],at14⟩:Nod)]:List Nod)).bind fun l20 =>
      U3 n j4 d9 m8 at19 l20) fun(at21,at22) =>
      some (.out (.pan ((⟨(⟨20,at21⟩:Flt)⟩:j5),at22)))) fun(at23,at24) =>
      some (.out (.pan ((⟨(⟨20,at23⟩:Flt)⟩:j5),at24)))) fun(at25,at26) =>
      some (.out (.pan ((⟨(⟨20,at25⟩:Flt)⟩:j5),at26)))) fun at27 =>
      some (.out (.pan ((⟨(⟨20,at27⟩:Flt)⟩:j5),(w64 (a2w+1)))))) (
      some (.brk (a2w,b28)))
def R6 (n:Nat)(j4:Int)(d9:List Tok):Nat->Int ->(List Nod)->Option (Lr (Int×List Nod) (Rs (Nod×Int) (j5×Int)))
  | 0,_,_=>none
  | m16 + 1,b0u,l524 =>
      (l7 0 9 [102,117,110,99] d9 b0u j4).bind fun r28 =>
      cond r28 (
      l5 (Q9 n d9 b0u j4) (fun(r29,at30) =>
      (app 144 l524 ([r29]:List Nod)).bind fun l31 =>
      R6 n j4 d9 m16 at30 l31) fun(e32,at33) =>
      some (.out (.pan (e32,at33)))) (
      some (.brk (b0u,l524)))
def a0r (n:Nat)(d9:List Tok)(at2 j4:Int):Option (Rs (Nod×Int) (j5×Int)) :=
 (p9 6 d9 at2 j4).bind fun at4 =>
 l5 (E9 [101,120,116,101,110,100] d9 at2 j4) (fun at5 =>
 l5 (A7 n d9 at5 j4) (fun(r6,at7) =>
 l5 (o5 [58] d9 at7 j4) (fun at8 =>
 l5 (D5 d9 at8 j4) (fun r9 =>
 l5 (Y8 n d9 (w64 (at8+1)) j4) (fun(r10,at11) =>
 l5 (o5 [123] d9 at11 j4) (fun at12 =>
 Y9 (α:=Int×List Nod) (
 U3 n j4 d9 n at12 r10) fun(at513,l514) =>
 Y9 (α:=Int×List Nod) (
 R6 n j4 d9 n at513 l514) fun(b4k,l536) =>
 l5 (o5 [125] d9 b4k j4) (fun at34 =>
 some (.ok ((⟨6,r9,0,r6,[],l536,at4⟩:Nod),at34))) fun(at35,at36) =>
 some (.pan ((⟨(⟨20,at35⟩:Flt)⟩:j5),at36))) fun(at37,at38) =>
 some (.pan ((⟨(⟨20,at37⟩:Flt)⟩:j5),at38))) fun(at39,at40) =>
 some (.pan ((⟨(⟨20,at39⟩:Flt)⟩:j5),at40))) fun at41 =>
 some (.pan ((⟨(⟨20,at41⟩:Flt)⟩:j5),at8))) fun(at42,at43) =>
 some (.pan ((⟨(⟨20,at42⟩:Flt)⟩:j5),at43))) fun(at44,at45) =>
 some (.pan ((⟨(⟨20,at44⟩:Flt)⟩:j5),at45))) fun(at46,at47) =>
 some (.pan ((⟨(⟨20,at46⟩:Flt)⟩:j5),at47))
def a3d (d9:List Tok)(at2 j4:Int):Rs (Nod×Int) (j5×Int)->Out
 | .ok (a6w,b6E)=>.ret (.agg (c0 a6w.op a6w.s a6w.n a6w.t.kind a6w.t.name a6w.t.n (.sl D9 a6w.t.args) (.sl D9 a6w.ts) (.sl F5 a6w.l) a6w.at_)) (hP p8 d9 b6E j4)
 | .pan (e599,at600)=>.pan (.iface 87 (.agg [.i e599.fault.code,.i e599.fault.at_])) (hP p8 d9 at600 j4)
def U4 (n:Nat)(j4:Int)(d9:List Tok):Nat ->(List Nod)->Int->Option (Lr (List Nod×Int) (Rs (List Nod×Int) (j5×Int)))
  | 0,_,_=>none
  | m3 + 1,l510,a5i =>
      Option.bind (α:=Bool) (
      (l7 0 9 [108,101,116] d9 a5i j4).bind fun r5 =>
      cond r5 (
      some true) (
      (l7 0 9 [118,97,114] d9 a5i j4).bind fun r6 =>
      some r6)) fun x517 =>
      cond x517 (
      (p9 13 d9 a5i j4).bind fun at7 =>
      Option.bind (α:=Int×Int) (
      (C9 [118,97,114] d9 a5i j4).bind fun(r8,at9) =>
      cond r8 (
      some (at9,1)) (
      some ((w64 (at9+1)),0))) fun(a9I,n519) =>
      l5 (F3 d9 a9I j4) (fun r10 =>
      l5 (o5 [58] d9 (w64 (a9I+1)) j4) (fun at11 =>
      l5 (A7 n d9 at11 j4) (fun(r12,at13) =>
      l5 (o5 [59] d9 at13 j4) (fun at14 =>
      (app 144 l510 ([(⟨13,r10,n519,r12,[],[],at7⟩:Nod)]:List Nod)).bind fun l15 =>
      U4 n j4 d9 m3 l15 at14) fun(at16,at17) =>
      some (.out (.pan ((⟨(⟨20,at16⟩:Flt)⟩:j5),at17)))) fun(at18,at19) =>
      some (.out (.pan ((⟨(⟨20,at18⟩:Flt)⟩:j5),at19)))) fun(at20,at21) =>
      some (.out (.pan ((⟨(⟨20,at20⟩:Flt)⟩:j5),at21)))) fun at22 =>
      some (.out (.pan ((⟨(⟨20,at22⟩:Flt)⟩:j5),a9I)))) (
      some (.brk (l510,a5i)))
def V8 (n:Nat)(d9:List Tok)(at2 j4:Int):Option (Rs (List Nod×Int) (j5×Int)) :=
 l5 (o5 [123] d9 at2 j4) (fun at4 =>
 Y9 (α:=List Nod×Int) (
 U4 n j4 d9 n ([]:List Nod) at4) fun(l520,b4i) =>
 (p9 15 d9 b4i j4).bind fun at23 =>
 Y9 (α:=List Nod×Int) (
 (C9 [100,101,105,110,105,116] d9 b4i j4).bind fun(r24,at25) =>
 cond r24 (
 l5 (D8 n d9 at25 j4) (fun(r26,at27) =>
 (app 144 l520 ([(⟨15,[],0,(⟨0,[],0,[]⟩:Typ),[],[r26],at23⟩:Nod)]:List Nod)).bind fun l28 =>
 some (.brk (l28,at27))) fun(e29,at30) =>
 some (.out (.pan (e29,at30)))) (
 some (.brk (l520,at25)))) fun(l533,at534) =>
 l5 (o5 [125] d9 at534 j4) (fun at31 =>
 some (.ok (l533,at31))) fun(at32,at33) =>
 some (.pan ((⟨(⟨20,at32⟩:Flt)⟩:j5),at33))) fun(at34,at35) =>
 some (.pan ((⟨(⟨20,at34⟩:Flt)⟩:j5),at35))
def a3e (d9:List Tok)(at2 j4:Int):Rs (List Nod×Int) (j5×Int)->Out
 | .ok (r522,b0u)=>.ret (.sl F5 r522) (hP p8 d9 b0u j4)
 | .pan (e602,at603)=>.pan (.iface 87 (.agg [.i e602.fault.code,.i e602.fault.at_])) (hP p8 d9 at603 j4)
def U1 (n:Nat)(j4:Int)(d9:List Tok):Nat ->(List Nod)->Int->Int ->(List Typ)->Option (Lr (List Nod×Int×Int×List Typ) (Rs (List Nod×Int) (Int×Int)))
  | 0,_,_,_,_=>none
  | m11 + 1,l532,b6G,n534,ts535 =>
      (o8 [44] d9 b6G j4).bind fun(r17,at18) =>
      cond r17 (
      l5 (A7 n d9 at18 j4) (fun(r19,at20) =>
      (app 56 ts535 ([r19]:List Typ)).bind fun l21 =>
      U1 n j4 d9 m11 l532 at20 n534 l21) fun(at22,at23) =>
      some (.out (.pan (at22,at23)))) (
      some (.brk (l532,at18,n534,ts535)))
def X5 (n:Nat)(j4:Int)(d9:List Tok):Nat ->(List Nod)->Int->Option (Lr (List Nod×Int) (Rs (List Nod×Int) (Int×Int)))
  | 0,_,_=>none
  | m3 + 1,l522,b0u =>
      (o8 [125] d9 b0u j4).bind fun(r5,at6) =>
      cond (!r5) (
      (p9 14 d9 at6 j4).bind fun at7 =>
      Option.bind (α:=Int×Int) (
      (C9 [105,110,100,105,114,101,99,116] d9 at6 j4).bind fun(r8,at9) =>
      cond r8 (
      some (at9,1)) (
      some (at9,0))) fun(b4j,n531) =>
      l5 (E9 [99,97,115,101] d9 b4j j4) (fun at10 =>
      l5 (F3 d9 at10 j4) (fun r11 =>
      a5N (α:=List Nod×Int×Int×List Typ) (
      (o8 [40] d9 (w64 (at10+1)) j4).bind fun(r12,at13) =>
      cond r12 (
      l5 (A7 n d9 at13 j4) (fun(r14,at15) =>
      (app 56 ([]:List Typ) ([r14]:List Typ)).bind fun l16 =>
      a5N (α:=List Nod×Int×Int×List Typ) (
      U1 n j4 d9 n l522 at15 n531 l16) fun(l540,at541,n542,ts543) =>
      l5 (o5 [41] d9 at541 j4) (fun at24 =>
      some (.brk (l540,at24,n542,ts543))) fun(at25,at26) =>
      some (.out (.pan (at25,at26)))) fun(at27,at28) =>
      some (.out (.pan (at27,at28)))) (
      some (.brk (l522,at13,n531,([]:List Typ))))) fun(l544,at545,n546,ts547) =>
      l5 (o5 [59] d9 at545 j4) (fun at29 =>
      (app 144 l544 ([(⟨14,r11,n546,(⟨0,[],0,[]⟩:Typ),ts547,[],at7⟩:Nod)]:List Nod)).bind fun l30 =>
      X5 n j4 d9 m3 l30 at29) fun(at31,at32) =>
      some (.out (.pan (at31,at32)))) fun at33 =>
      some (.out (.pan (at33,at10)))) fun(at34,at35) =>
      some (.out (.pan (at34,at35)))) (
      some (.brk (l522,at6)))
def a0I (n:Nat)(d9:List Tok)(at2 j4:Int):Option (Rs (List Nod×Int) (Int×Int)) :=
 l5 (o5 [123] d9 at2 j4) (fun at4 =>
 Y9 (α:=List Nod×Int) (
 X5 n j4 d9 n ([]:List Nod) at4) fun(l548,at549) =>
 some (.ok (l548,at549))) fun(at36,at37) =>
 some (.pan (at36,at37))
def a3w (d9:List Tok)(at2 j4:Int):Rs (List Nod×Int) (Int×Int)->Out
 | .ok (r550,at551)=>.ret (.sl F5 r550) (hP p8 d9 at551 j4)
 | .pan (a8o,a3I)=>.pan (.iface 87 (.agg [.i 20,.i a8o])) (hP p8 d9 a3I j4)
def Q0 (n:Nat)(d9:List Tok)(at2 j4:Int):Option (Rs (Nod×Int) (j5×Int)) :=
 (l7 0 9 [112,114,111,116,111,99,111,108] d9 at2 j4).bind fun r4 =>
 cond r4 (
 l5 (Y1 n d9 at2 j4) (fun(r5,at6) =>
 some (.ok (r5,at6))) fun(at7,at8) =>
 some (.pan ((⟨(⟨20,at7⟩:Flt)⟩:j5),at8))) (
 (l7 0 9 [101,120,116,101,110,100] d9 at2 j4).bind fun r9 =>
 cond r9 (
 l5 (a0r n d9 at2 j4) (fun(r10,at11) =>
 some (.ok (r10,at11))) fun(e12,at13) =>
 some (.pan (e12,at13))) (
 (l7 0 9 [102,117,110,99] d9 at2 j4).bind fun r14 =>
 cond r14 (
 l5 (Q9 n d9 at2 j4) (fun(r15,at16) =>
 some (.ok (r15,at16))) fun(e17,at18) =>
 some (.pan (e17,at18))) (
 (p9 2 d9 at2 j4).bind fun at19 =>
 (C9 [99,108,97,115,115] d9 at2 j4).bind fun(r20,at21) =>
 cond r20 (
 l5 (D5 d9 at21 j4) (fun r22 =>
 l5 (M6 n d9 (w64 (at21+1)) j4) (fun(r23,at24) =>
 l5 (V8 n d9 at24 j4) (fun(r25,at26) =>
 (app 144 r23 r25).bind fun l27 =>
 some (.ok ((⟨4,r22,0,(⟨0,[],0,[]⟩:Typ),[],l27,at19⟩:Nod),at26))) fun(e28,at29) =>
 some (.pan (e28,at29))) fun(at30,at31) =>
 some (.pan ((⟨(⟨20,at30⟩:Flt)⟩:j5),at31))) fun at32 =>
 some (.pan ((⟨(⟨20,at32⟩:Flt)⟩:j5),at21))) (
 Option.bind (α:=Int×Int) (
 (C9 [109,111,118,101,111,110,108,121] d9 at21 j4).bind fun(r33,at34) =>
 cond r33 (
 some (at34,(w64 (0+1)))) (
 some (at34,0))) fun(b6G,n534) =>
 Option.bind (α:=Int×Int) (
 (C9 [102,114,111,122,101,110] d9 b6G j4).bind fun(r35,at36) =>
 cond r35 (
 some (at36,(w64 (n534+2)))) (
 some (at36,n534))) fun(b4k,n536) =>
 Option.bind (α:=Bool×Int) (
 cond (eqB (IntKind.wrap .i64 ((BitVec.ofInt 64 n536 &&& BitVec.ofInt 64 1).toNat:Nat)) 0) (
 (C9 [101,110,117,109] d9 b4k j4).bind fun(r37,at38) =>
 some (r37,at38)) (
 some (false,b4k))) fun(x537,at538) =>
 cond x537 (
 l5 (D5 d9 at538 j4) (fun r39 =>
 l5 (M6 n d9 (w64 (at538+1)) j4) (fun(r40,at41) =>
 l5 (a0I n d9 at41 j4) (fun(r42,at43) =>
 (app 144 r40 r42).bind fun l44 =>
 some (.ok ((⟨3,r39,n536,(⟨0,[],0,[]⟩:Typ),[],l44,at19⟩:Nod),at43))) fun(at45,at46) =>
 some (.pan ((⟨(⟨20,at45⟩:Flt)⟩:j5),at46))) fun(at47,at48) =>
 some (.pan ((⟨(⟨20,at47⟩:Flt)⟩:j5),at48))) fun at49 =>
 some (.pan ((⟨(⟨20,at49⟩:Flt)⟩:j5),at538))) (
 l5 (E9 [115,116,114,117,99,116] d9 at538 j4) (fun at50 =>
 l5 (D5 d9 at50 j4) (fun r51 =>
 l5 (M6 n d9 (w64 (at50+1)) j4) (fun(r52,at53) =>
 l5 (V8 n d9 at53 j4) (fun(r54,at55) =>
 (app 144 r52 r54).bind fun l56 =>
 some (.ok ((⟨2,r51,n536,(⟨0,[],0,[]⟩:Typ),[],l56,at19⟩:Nod),at55))) fun(e57,at58) =>
 some (.pan (e57,at58))) fun(at59,at60) =>
 some (.pan ((⟨(⟨20,at59⟩:Flt)⟩:j5),at60))) fun at61 =>
 some (.pan ((⟨(⟨20,at61⟩:Flt)⟩:j5),at50))) fun(at62,at63) =>
 some (.pan ((⟨(⟨20,at62⟩:Flt)⟩:j5),at63)))))))
def a1Z (d9:List Tok)(at2 j4:Int):Rs (Nod×Int) (j5×Int)->Out
 | .ok (a1w,a5M)=>.ret (.agg (c0 a1w.op a1w.s a1w.n a1w.t.kind a1w.t.name a1w.t.n (.sl D9 a1w.t.args) (.sl D9 a1w.ts) (.sl F5 a1w.l) a1w.at_)) (hP p8 d9 a5M j4)
 | .pan (e601,at602)=>.pan (.iface 87 (.agg [.i e601.fault.code,.i e601.fault.at_])) (hP p8 d9 at602 j4)
def a2W (n:Nat)(d9:List Tok)(at2 j4 op4:Int)(s5:Str)(n6 a3M:Int)(a3P:Str)(n9:Int)(a07 ts11:List Typ)(l12:List Nod)(at13:Int)(a4y a4z:List Typ)(a4A:List Nod):Option (Rs (Int×Nod) (j5×Int)) :=
 l5 (Q0 n d9 at2 j4) (fun(r17,at18) =>
 some (.ok (at18,r17))) fun(e19,at20) =>
 some (.pan (e19,at20))
def a9t (d9:List Tok)(at2 j4 op4:Int)(s5:Str)(n6 a3M:Int)(a3P:Str)(n9:Int)(a07 ts11:List Typ)(l12:List Nod)(at13:Int)(a4y a4z:List Typ)(a4A:List Nod):Rs (Int×Nod) (j5×Int)->Out
 | .ok (a2v,n504)=>.ret (.tuple []) [(0,.row [.sl p8 d9,.i a2v,.i j4]),(1,.row [.ptr 0 0]),(2,.row (c0 n504.op n504.s n504.n n504.t.kind n504.t.name n504.t.n (.sl D9 n504.t.args) (.sl D9 n504.ts) (.sl F5 n504.l) n504.at_)),(3,.tip (tpe 4 (List.length a4y)) (List.length a4y)),(4,.tip (tpe 4 (List.length a4z)) (List.length a4z)),(5,.tip (tpe 10 (List.length a4A)) (List.length a4A))]
 | .pan (e541,b6H)=>.pan (.iface 87 (.agg [.i e541.fault.code,.i e541.fault.at_])) [(0,.row [.sl p8 d9,.i b6H,.i j4]),(1,.row [.ptr 0 0]),(2,.row (c0 op4 s5 n6 a3M a3P n9 (.sl D9 a07) (.sl D9 ts11) (.sl F5 l12) at13)),(3,.tip (tpe 4 (List.length a4y)) (List.length a4y)),(4,.tip (tpe 4 (List.length a4z)) (List.length a4z)),(5,.tip (tpe 10 (List.length a4A)) (List.length a4A))]
def a1p (n:Nat)(d9:List Tok)(at2 j4 op4:Int)(s5:Str)(n6 a3M:Int)(a3P:Str)(n9:Int)(a07 ts11:List Typ)(l12:List Nod)(at13:Int):Option (Flt×Int×Nod) :=
 l5 (a2W n d9 at2 j4 op4 s5 n6 a3M a3P n9 a07 ts11 l12 at13 a07 ts11 l12) (fun(at14,n15) =>
 some ((⟨0,0⟩:Flt),at14,n15)) fun(e16,at17) =>
 some (e16.fault,at17,(⟨op4,s5,n6,(⟨a3M,a3P,n9,a07⟩:Typ),ts11,l12,at13⟩:Nod))
def a6o (d9:List Tok)(at2 j4 op4:Int)(s5:Str)(n6 a3M:Int)(a3P:Str)(n9:Int)(a07 ts11:List Typ)(l12:List Nod)(at13:Int):Flt×Int×Nod->Out
 |(r503,a6y,n505)=>.ret (.agg [.i r503.code,.i r503.at_]) [(0,.row [.sl p8 d9,.i a6y,.i j4]),(1,.row [.ptr 0 0]),(2,.row (c0 n505.op n505.s n505.n n505.t.kind n505.t.name n505.t.n (.sl D9 n505.t.args) (.sl D9 n505.ts) (.sl F5 n505.l) n505.at_)),(3,.tip (tpe 4 (List.length a07)) (List.length a07)),(4,.tip (tpe 4 (List.length ts11)) (List.length ts11)),(5,.tip (tpe 10 (List.length l12)) (List.length l12))]
def U9 (n:Nat)(o7:List Tok):Nat->Int->Int->Int->Option (Lr (Int) (Int))
  | 0,_,_,_=>none
  | m4 + 1,b2n,i513,b4h =>
      cond (ltB i513 (List.length o7:Int)) (
      a5N (α:=Int) (
      (idx' o7 i513).bind fun x5 =>
      Option.bind (α:=Bool) (
      cond (leB b4h i513) (
      cond (leB b2n 0) (
      cond (eqB x5.kind 9) (
      (J8 n ([[115,116,114,117,99,116],[101,110,117,109],[99,108,97,115,115],[112,114,111,116,111,99,111,108],[101,120,116,101,110,100],[102,117,110,99],[109,111,118,101,111,110,108,121],[102,114,111,122,101,110]]:List Str) x5.text).bind fun r6 =>
      some r6) (
      some false)) (
      some false)) (
      some false)) fun x515 =>
      cond x515 (
      some (.out (i513))) (
      Option.bind (α:=Bool) (
      cond (eqB x5.kind 8) (
      some (eqS x5.text [123])) (
      some false)) fun x516 =>
      cond x516 (
      some (.brk (w64 (b2n+1)))) (
      Option.bind (α:=Bool) (
      cond (eqB x5.kind 8) (
      some (eqS x5.text [125])) (
      some false)) fun x517 =>
      cond x517 (
      some (.brk (w64 (b2n-1)))) (
      some (.brk b2n))))) fun open518 =>
      U9 n o7 m4 open518 (w64 (i513+1)) b4h) (
      some (.brk b4h))
def Q8 (n:Nat)(a5C:Int)(o7:List Tok)(at3 D6:Int):Option (Int) :=
 Option.bind (α:=Int) (
 cond (eqB at3 a5C) (
 some (w64 (at3+1))) (
 some at3)) fun a5i =>
 Y9 (α:=Int) (
 U9 n o7 n 0 a5C a5i) fun at522 =>
 some ((List.length o7:Int))
def a3g (a5C:Int)(o7:List Tok)(at3 D6:Int):Int->Out
 | a5M=>.ret (.tuple []) (hP p8 o7 a5M D6)
structure K8 where
 a0H:Nod->Option (Int×Int)
def a2F (n:Nat)(Φ:K8)(n1:Nod):Nat->Int->Int->Int->Option (Int×Int)
  | 0,_,_,_=>none
  | m3 + 1,b7A,b62,a7O =>
      cond (ltB a7O (List.length n1.l:Int)) (
      (idx' n1.l a7O).bind fun x2 =>
      (Φ.a0H x2).bind fun(r3,r4) =>
      a2F n Φ n1 m3 (w64 (b7A+r3)) (max b62 r4) (w64 (a7O+1))) (
      some (b7A,b62))
def a3v (n:Nat)(Φ:K8)(n1:Nod):Option (Int×Int) :=
 Option.bind (α:=Int×Int) (
 a2F n Φ n1 n 1 0 0) fun(nodes510,depth511) =>
 some ((nodes510,(w64 (depth511+1))))
def a8J (n1:Nod):Int×Int->Out
 |(r512,r513)=>.ret (.tuple [.i r512,.i r513]) []
def K8.fs:Nat->K8
 | 0=>⟨fun _=>none⟩
 | n+1=>⟨a3v n (K8.fs n)⟩
def a0H (n:Nat)(n1:Nod):Option (Int×Int):=(K8.fs n).a0H n1
noncomputable def P9 (n:Nat)(V3:Str)(J5:List Tok):Nat->Int ->(List Flt) ->(List Nod)->Int->Option (List Flt×List Nod)
  | 0,_,_,_,_=>none
  | m7 + 1,a81,a4Z,l517,a9I =>
      Option.bind (α:=Bool) (
      cond (ltB a9I (List.length J5:Int)) (
      some (ltB (List.length a4Z:Int) 20)) (
      some false)) fun x525 =>
      cond x525 (
      (a0l J5 a9I (List.length V3:Int)).bind fun r4 =>
      (a1p n J5 a9I (List.length V3:Int) 0 [] 0 0 [] 0 ([]:List Typ) ([]:List Typ) ([]:List Nod) 0).bind fun(r5,at6,n7) =>
      cond (!((eqB r5.code 0)&&((eqB r5.at_ 0)&&true))) (
      (app 16 a4Z ([r5]:List Flt)).bind fun l8 =>
      (Q8 n a9I J5 at6 (List.length V3:Int)).bind fun at9 =>
      P9 n V3 J5 m7 a81 l8 l517 at9) (
      (a0H n n7).bind fun(r10,r11) =>
      cond (ltB 40 (w64 (1+r11))) (
      (app 16 a4Z ([(⟨21,r4⟩:Flt)]:List Flt)).bind fun l12 =>
      P9 n V3 J5 m7 a81 l12 l517 at6) (
      cond (ltB 4000 (w64 (a81+r10))) (
      (app 16 a4Z ([(⟨2,r4⟩:Flt)]:List Flt)).bind fun l13 =>
      P9 n V3 J5 m7 a81 l13 l517 at6) (
      (app 144 l517 ([n7]:List Nod)).bind fun l14 =>
      P9 n V3 J5 m7 (w64 (a81+r10)) a4Z l14 at6)))) (
      some (a4Z,l517))
noncomputable def a1m (n:Nat)(V3:Str):Option (Nod×List Flt) :=
 (a4p V3).bind fun(r2,J5) =>
 cond (!((eqB r2.code 0)&&((eqB r2.at_ 0)&&true))) (
 some (((⟨0,[],0,(⟨0,[],0,[]⟩:Typ),[],[],0⟩:Nod),([r2]:List Flt)))) (
 Option.bind (α:=List Flt×List Nod) (
 P9 n V3 J5 n 1 ([]:List Flt) ([]:List Nod) 0) fun(c1k,l531) =>
 some (((⟨1,[],0,(⟨0,[],0,[]⟩:Typ),[],l531,0⟩:Nod),c1k)))
def a6O (V3:Str):Nod×List Flt->Out
 |(r532,r533)=>.ret (.tuple [.agg (c0 r532.op r532.s r532.n r532.t.kind r532.t.name r532.t.n (.sl D9 r532.t.args) (.sl D9 r532.ts) (.sl F5 r532.l) r532.at_),.sl a6A r533]) []
noncomputable def a14 (n:Nat)(V3:Str):Option (Bool) :=
 (a7q V3).bind fun _ =>
 cond (ltB 8200 (List.length V3:Int)) (
 (b07).bind fun bb2 =>
 some (bb2)) (
 (a2X V3).bind fun(l3,c4,a5) =>
 (a5A n l3).bind fun(r6,r7) =>
 Option.bind (α:=Bool) (
 cond (!eqB c4 0) (
 some true) (
 cond (!eqB r7 0) (
 some true) (
 (a5r r6).bind fun r8 =>
 some (!r8)))) fun x504 =>
 cond x504 (
 (b07).bind fun bb9 =>
 some (bb9)) (
 (a1m n V3).bind fun(r10,r11) =>
 (a1m n r6).bind fun(r12,r13) =>
 (a0G n r10 r12).bind fun r14 =>
 cond r14 (
 cond (eqB (List.length r11:Int) (List.length r13:Int)) (
 (b07).bind fun bb15 =>
 some (bb15)) (
 some (false))) (
 some (false))))
def a3N (V3:Str):Bool->Out
 | T9=>.ret (.bool T9) []
end Go.Proofs.YtjhfloacokgdiaaGreatDoor
