/- Part 3 of what the proof stands on. -/
import Derived.Test.YtodpmplklniohaaGreatDoorFUB
set_option linter.unusedVariables false
set_option linter.unusedSimpArgs false
set_option maxHeartbeats 2000000
set_option maxRecDepth 20000
set_option synthInstance.maxHeartbeats 400000
set_option synthInstance.maxSize 10000
open Go Gk
variable {p:Addr}{Ad:Array Bool}{af:Array Edge}{fs:Array Field}{ops GJ:Array Oper}{ts:Array TypeId}{held want:Bool}{R:Ending->Wo->Prop}{L L' M:AK}{fd:Field}{fn:Func}{f:FuncId}{I J:Im}{Fx FA kind FH:Int}{As BT Hs:La}{G:List (Bool×Bool)}{pl:List (Nat×Nat)}{T:List Int}{D ks:List Nat}{rest:List Oper}{Ay Bi key nm pw Ap u:Lu}{args cs ds news vs xs zs:Lv}{b bytes c cap d d0 d1 db fuel i k kb lg m n n0 nn o size:Nat}{nd sp:Nat->Bool}{ps:Nat->Int}{a a0 ka:Oa}{op:Op}{P:Program}{S1 S2 g1 g2:Prop}{pos:String}{H X α β σ:Type}{E dst src t' ty:TypeId}{us v v0:Va}{B w:Wo}{C:Wo->Prop}{A:X1}{K K':BK}
namespace Go.Proofs.W9
open Gk Ul Pc FI Xm Tr Tryz Tk
theorem Xww(s:Lu)(hs:s.length<=1000000)(hK:Kx I)(hP:BB I)(As:La)(hS:Aa B w I As):Ce B I As 245 [S s] w (match EZ s with|some (k,d)=>.tuple #[Ab (k:Nat),BH (d:Nat),.bool true]|none=>.tuple #[Ab 0,BH 0,.bool false]):=by
 refine gE 4 (Xtb s 45 hs hK) ?_;clear hS;intro w hS;refine gE 8 (Xtr _ (by have:=Me [45] s;rw[Ye];omega)) ?_;clear hS;intro w hS;rcases Ec:UF ((Xd [45] s).drop 1)with _|d
 ·refine gG 5 (.val (Ex.Dm (m:=7) (s:=1) (.of O) ye Bf) O (gP 1 [] (zJ (some (ad 3 0)) 7 Ig de (Bb [45] s) ⟨O,λ_=>⟨_,O,hP⟩⟩ As) ?_));clear hS;rintro _ w ⟨rfl,hS⟩;refine gM 7 ?_ ?_<;>intro FW JQ
  ·refine gG 3 (⟨?_,hS⟩)
   have:EZ s=none:=by
    unfold EZ;split
    ·rfl
    ·rw[Ec];rfl
   rw[this]
  refine gH 5 (.nil (.ret ?_));refine λ_ A5=>wi A5 O O O ?_
  exfalso;simp at FW
 refine gG 5 (.val (Ex.Dm (m:=7) (s:=1) (.of O) ye Bf) O (gP 1 [] (zJ (some (ad 3 0)) 7 Ig de (Bb [45] s) ⟨O,λ_=>⟨_,O,hP⟩⟩ As) ?_));clear hS;rintro _ w ⟨rfl,hS⟩;refine gM 7 ?_ ?_<;>intro FW JQ
 ·refine gG 3 (⟨?_,hS⟩);have h0:=(Xdz (Bb [45] s)).2 (by simp at FW;omega);rw[EZ,Y7 h0]
 refine gG 5 (⟨?_,hS⟩);obtain⟨h0,h1⟩:=(Xdz (Bb [45] s)).1 (by simp at FW;omega);rw[EZ,Y3 h0,Ec,h1];rfl
theorem RC(s:Lu)(kind:Int)(hs:s.length<=1000000)(hK:Kx I)(hP:BB I)(As:La)(hS:Aa B w I As):Ce B I As 155 [S s,Ab kind] w (.bool (MC s kind)):=by
 refine gE 2 (Xww s hs hK hP) ?_;clear hS;intro w hS;rcases E7:EZ s with _|⟨k,d⟩
 ·exact gG 14 ⟨by rw[MC,E7];rfl,hS⟩
 exact gG 14 ⟨by rw[MC,E7];rfl,hS⟩
theorem Xkl(h:n<=1099511627776):(Go.Lib.decDigits n).length<=13:=by
 rw[Go.Lib.decDigits_length];have key:∀(k n:Nat),n<10^k->1<=k->Go.Lib.nDigits n<=k:=by
  intro k
  induction k with
  | zero=>intro n _ h;omega
  | succ k ih =>
   intro n h _
   by_cases Jo:n<10
   ·rw[Go.Lib.nDigits_small Jo];omega
   ·rw[Go.Lib.nDigits_big Jo];rw[bg]at h;cases k with
    | zero=>simp at h;omega
    | succ k=>have:=ih (n/10) om om;omega
 exact key 13 n om de
theorem cr(n:Nat):Go.Lib.decFrom 0 (Go.Lib.decDigits n)=some n:=by
 induction n using Nat.strongRecOn with
 | _ n ih =>
  have PZ:∀d,d<10->Go.Lib.digitVal (UInt8.ofNat (48+d))=some d:=λd hd =>
   (by decide:∀d:Fin 10,Go.Lib.digitVal (UInt8.ofNat (48+d.val))=some d.val) ⟨d,hd⟩
  by_cases h:n<10
  ·rw[Go.Lib.decDigits,dif_pos h]
   have:=PZ n h
   simp only[Go.Lib.decFrom,this,jz,Yj]
  ·rw[Go.Lib.decDigits,dif_neg h];have h1:=ih (n/10) om;have h2:=Go.Lib.decFrom_take (Go.Lib.decDigits (n/10)++[UInt8.ofNat (48+n%10)]) (Go.Lib.decDigits (n/10)).length 0 (n/10) (UInt8.ofNat (48+n%10)) (n%10) (by rw[U9];exact h1) (by rw[Yq (Yd _),qJ];rfl) (PZ (n%10) om);rw[Yg (by rw[Y0];simp)]at h2;rw[h2];congr 1;omega
theorem Xev(h:n<=1099511627776):Go.Lib.atoiAll (Go.Lib.decDigits n)=.ok (n:Int):=by
 rw[Go.Lib.atoiAll_short _ (oh (Xkl h))];have h1:=cr n;have h2:=(rX n).2.1;have h3:=(rX n).2.2.2;have h4:Go.Lib.atoi (Go.Lib.decDigits n)=some (n:Int):=by
  cases hd:Go.Lib.decDigits n with
  | nil=>exact Yy hd h3
  | cons c r =>
   rw[hd]at h1 h2;have hc:=(Yv.1 h2) c sz;have n45:(c==45)=false:=by
    have:=Xf (p:=λc=>!Ks c||!(c==45)) dk c
    rw[hc]at this;simpa using this
   have n43:(c==43)=false:=by
    have:=Xf (p:=λc=>!Ks c||!(c==43)) dk c
    rw[hc]at this;simpa using this
   rw[Go.Lib.atoi,n45,n43];simp only[Y45,if_false]
   rw[show Go.Lib.decNat (c::r)=some n from h1];rfl
 rw[h4];rfl
theorem Xn3(n:Nat)(hn:n<=1099511627776)(hK:Kx I)(As:La)(hS:Aa B w I As):Calls prog 86 #[Ab (n:Nat)] w (A4 λv w'=>v=S (Go.Lib.decDigits n)/\Aa B w' I As) :=
 (strconv_Itoa n om om w (hK.pow B w As hS)).mono λe w' he=>by
  obtain⟨rfl,k,os,rfl⟩:=he;refine⟨_,O,?_,Xud (w5 hS k) os⟩;unfold Go.Lib.itoa;rw[Y3 om];(try rw[Y8])
theorem Xn2(s:Lu)(hs:s.length<=10000)(hK:Kx I)(As:La)(hS:Aa B w I As):Calls prog 85 #[S s] w (A4 λv w'=>∃n e,v=.tuple #[Ab n,e]/\(∀k:Nat,k<=1099511627776->s=Go.Lib.decDigits k->n=k)/\Aa B w' I As):=by
 have hl:(ByteArray.mk s.toArray).size<=10000:=hs;have LP:(ByteArray.mk s.toArray).data.toList=s:=rfl;cases h:Go.Lib.atoiAll s with
 | ok v =>
  refine(strconv_Atoi_ok ⟨s.toArray⟩ om v h w).mono λe w' he=>?_
  obtain⟨rfl,hw⟩:=he;refine⟨_,O,v,_,O,λk hk e=>?_,?_⟩
  ·subst e;rw[Xev hk]at h;injection h with h;exact h.symm
  ·rcases hw with rfl|⟨t,rfl⟩
   ·exact hS
   ·exact hS.grown (Go.Lib.bytesWorld_below _ _ _)
 | range =>
  obtain⟨te,pe,hv⟩:=hK.rng B w As hS;refine(strconv_Atoi_range ⟨s.toArray⟩ om h _ w hv (.inr ⟨te,pe,O⟩)).mono λe w' he=>?_
  obtain⟨N,rfl,_,_,hb⟩:=he;exact⟨_,O,_,_,O,λk hk e=>(by subst e;rw[Xev hk]at h;cases h),hS.grown hb⟩
 | _ =>
  obtain⟨te,pe,hv⟩:=hK.syn B w As hS;refine(Any.strconv_Atoi_syntax IY ⟨s.toArray⟩ om h _ w hv (.inr ⟨te,pe,O⟩)).mono λe w' he=>?_
  obtain⟨N,rfl,_,_,hb⟩:=he;exact⟨_,O,0,_,O,λk hk e=>(by subst e;rw[Xev hk]at h;cases h),hS.grown hb⟩
abbrev Xa(n:Nt):Lv:=[S n.ticket,S n.url,Ab n.tries,Ab n.next]
theorem Xpb(n:Nt)(hn:n.ticket.length<=1000000)(hu:n.url.length<=9223372036854775807)(hK:Kx I)(hP:BB I)(As:La)(hS:Aa B w I As):Ce B I As 75 [.agg (Xa n).toArray] w (.bool (OP n)):=by
 refine gH 4 ?_;clear hS;intro b1 w hS;refine gE 0 (RC n.ticket 2 hn hK hP) ?_;clear hS;intro w hS;refine gH 3 (.AG (T:=λw=>Aa B w I (Ae b1 [S n.ticket,S n.url,Ab n.tries,Ab n.next] 89::As)) O O O func155 O (λAi=>(X5 (.gd Ai O) (Be O X4))) O (λAi=>RC n.ticket 3 hn hK hP _ hS) hS ?_);clear hS;rintro w hS;refine gH 14 ?_;exact gG 14 ⟨O,hS.s⟩
theorem Xsk{n:Nt}(h:OP n=true):QP n.ticket=true/\0<=n.next/\n.next<=1099511627776/\n.url.length<=100/\0<=n.tries/\n.tries<=9:=by
 unfold OP at h;simp only[Yb,dq1]at h
 obtain⟨⟨⟨⟨⟨h1,h2⟩,h3⟩,h4⟩,h5⟩,h6⟩:=h;exact⟨h1,h5,h6,om,h3,h4⟩
end Go.Proofs.W9
namespace Rk
open Flt
def nz(b:Nat):Nat:=if 9223372036854775808<=b then 18446744073709551615-b else b+9223372036854775808
theorem bx(h:b<18446744073709551616):b&&& 9223372036854775808=if 9223372036854775808<=b then 9223372036854775808 else 0:=by
 apply Nat.eq_of_testBit_eq
 intro i;have e63:b.testBit 63=decide (9223372036854775808<=b):=by
  rw[Nat.testBit_eq_decide_div_mod_eq,show(2:Nat)^63=9223372036854775808 by decide];exact decide_eq_decide.2 om
 rw[Nat.testBit_and,show 9223372036854775808=2^63 by decide,Y5b];rw[show 9223372036854775808=2^63 by decide]at e63
 by_cases hi:63=i
 ·subst hi;rw[e63]
  by_cases hb:2^63<=b
  ·rw[Y7 hb,Y5b];simp[hb]
  ·rw[Y3 hb];simp[hb]
 ·by_cases hb:2^63<=b
  ·rw[Y7 hb,Y5b];simp[hi]
  ·rw[Y3 hb];simp[hi]
theorem Abz(h:b<9223372036854775808):b||| 9223372036854775808=b+9223372036854775808:=by
 have e:=Y4d (i:=63) (b:=b) (by rw[show(2:Nat)^63=9223372036854775808 by decide];exact h) 1;rw[show(2:Nat)^63*1=9223372036854775808 by decide,Nat.or_comm]at e;rw[<-e];omega
def W(x y:Nat):Nat->Option Nat
 | 0=>nf x
 | k+1=>(W x y k).bind λv=>Ieee.double.mul v y
end Rk
namespace Go.Proofs.W9
open Gk Rk Flt
open Tryz
theorem QS(b:Nat)(hb:b<18446744073709551616)(w:Wo):Cz 229 [BQ b] w λv w'=>v=BH (nz b:Nat)/\w=w':=by
 refine gH 2 (.val (.extern func313 kr kr kr (e:=Extern.MathFloatBits.float64bits) kr (Be O X4) O) O (gH 2 (.val (.Aae hb (.of O) (.of O)) O ?_)));refine gN 1 ?_ ?_<;>intro E5
 ·refine gH 1 (.val (.Abv om (.of O)) O (gG 1 ?_));have e:9223372036854775808<=b:=by
   rw[bx hb]at E5;split at E5
   ·assumption
   ·simp at E5
  exact⟨by rw[nz,Y7 e],O⟩
 refine gH 1 (.val (.Ag2 hb (.of O) (.of O)) O (gG 1 ?_));have e:¬ 9223372036854775808<=b:=by
  rw[bx hb]at E5;split at E5
  ·simp at E5
  ·assumption
 exact⟨by rw[nz,Y3 e,Abz om],O⟩
theorem Xcu(a:Int)(w:Wo):Cz 312 [BH a] w λv w'=>v=.bool false/\w=w':=by
 exact gG 5 ⟨by simp,O⟩
theorem Xqe(a b:Int)(w:Wo):Cz 228 [BH a,BH b] w λv w'=>v=Ab (if a<b then -1 else if b<a then 1 else 0)/\w=w':=by
 refine gC 2 (Xcu _ _) ?_;rintro _ _ ⟨rfl,rfl⟩;refine gC 2 (Xcu _ _) ?_;rintro _ _ ⟨rfl,rfl⟩;refine gG 2 (.AF (rfl) (gG 1 (.AF (rfl) ?_)));refine gN 3 ?_ ?_<;>intro C1
 ·exact gG 1 ⟨by rw[Y7 C1],O⟩
 refine gN 3 ?_ ?_<;>intro IG
 ·exact gG 1 ⟨by rw[Y3 om,Y7 IG],O⟩
 exact gG 1 ⟨by rw[Y3 om,Y3 om],O⟩
end Go.Proofs.W9
namespace Xm
open Ul Pc Gk FI Tk Tr
def nt0:Nt:=⟨[],[],0,0⟩
def P1:List Nt->List Nt->Bool
 | _,[]=>false
 | q,n::r=>(q.any λx=>x.ticket==n.ticket)||P1 (q++[n]) r
def Li(q l:List Nt):List Nt×Nat:=if(l.any λn=>!OP n)=true then(q,1)else if P1 q l=true then(q,7)else if 64<q.length+l.length then(q,5)else(q++l,0)
structure Qc where
 x:Nat
 y:Nat
 z:Nat
 tries:Int
def AgW(c:Qc):Int:=max 1 (min c.tries 9)
def jR(q:List Nt)(t:Lu):Int:=D8 (λn=>n.ticket==t) q 0
def Uc(q:List Nt):Prop:=q.length<=64/\∀n∈q,OP n=true
theorem oA{q l:List Nt}(h:Uc q):Uc (Li q l).1:=by
 unfold Li;split
 ·exact h
 ·rename_i h1
  split
  ·exact h
  ·split
   ·exact h
   ·rename_i h3
    refine⟨by(try dsimp only);rw[Y0];omega,λn hn=>?_⟩;rcases Yn.1 hn with e|e
    ·exact h.2 n e
    ·have h9:=Y4w.1 (yD _▸h1) n e;simpa using h9
end Xm
namespace Go.Proofs.W9
open Gk Ul Pc FI Xm Tr Tk
open Tryz
theorem X4p(a:Oa)(cap:Nat)(l:List (Nt))(Hu:l.length<=9223372036854775807)(pr:Nt->Bool)(BC:FuncId)(fn:Func)(EJ:prog.funcs[BC]?=some fn)(BZ:Xb fn=true)(AO:Lv)(As:La)(hE:∀w,Aa B w I As->Mj w Xa 4 a l)(hf:∀(r:Nt) (hr:r∈l) w,Aa B w I As->Calls prog BC ([Value.agg (Xa r).toArray]++AO).toArray w (A4 λv w'=>v=.bool (pr r)/\Aa B w' I As))(hS:Aa B w I As):Ce B I As 156 [.slice a l.length cap,.func (.func BC) #[] AO.toArray] w (Ab (D8 pr l 0)):=by
 refine gG 4 (.lk [0,1,7] (σ:=Nat) (λi _m=>(8,Ab (i:Nat))::_m) (λi w=>i<=l.length/\(∀(j:Nat) t,j<i->l[j]?=some t->pr t=false)/\Aa B w I As) (λi=>l.length-i) 0 ⟨Y4 _,λ_ _ h=>Yy h om,hS⟩ ?_);rintro i w ⟨hi,AL,hS⟩;refine gM 1 ?_ ?_<;>intro GO DV
 ·refine gG 0 ?_;obtain⟨r,hr⟩:∃r,l[i]?=some r:=⟨_,Y2 om⟩
  obtain⟨p,rfl,hx⟩:=hE w hS i r hr;refine gH 6 (.val (.LY (.of O) hx isAgg89 Z6 O) O (.B0 (cap:=AO) EJ BZ (.of O) (Be O X4) O (hf r (Y6 hr) w hS) ?_));clear hS;rintro _ w ⟨rfl,hS⟩;refine gM 0 ?_ ?_<;>intro B6 C1
  ·exact gG 2 ⟨by rw[pJ AL hr B6],hS⟩
  refine gG 2 (rd (i+1) ⟨od,λj t hj ht=>?_,hS⟩);rcases C5 j i with h1|h1
  ·exact AL j t h1 ht
  ·have e:j=i:=om
   subst e;rw[hr]at ht;cases ht;exact B6
 exact gG 1 ⟨by rw[pG (λj t ht=>AL j t (oh ((Y1.1 ht).1)) ht)],hS⟩
theorem Xa1(a:Oa)(cap:Nat)(l:List (Nt))(Hu:l.length<=9223372036854775807)(pr:Nt->Bool)(BC:FuncId)(fn:Func)(EJ:prog.funcs[BC]?=some fn)(BZ:Xb fn=true)(AO:Lv)(As:La)(hE:∀w,Aa B w I As->Mj w Xa 4 a l)(hf:∀(r:Nt) (hr:r∈l) w,Aa B w I As->Calls prog BC ([Value.agg (Xa r).toArray]++AO).toArray w (A4 λv w'=>v=.bool (pr r)/\Aa B w' I As))(hS:Aa B w I As):Ce B I As 76 [.slice a l.length cap,.func (.func BC) #[] AO.toArray] w (.bool (l.any pr)):=by
 refine gP 3 [] (X4p a cap l Hu pr BC fn EJ BZ AO As hE hf) ?_;clear hS;rintro _ w ⟨rfl,hS⟩;exact gG 2 ⟨by rw[<-kG pr l 0],hS⟩
theorem vR{l:List Nt}(hS:Aa B w I As)(hk:As[k]?=some (Ar 89 4 (.slice a l.length c) l.length (X2 Xa (l)))):Mj w Xa 4 a l:=λi r hr=>by
 obtain⟨b,cap,rest,hv,_,_,_,_,Jq⟩:=hS.AP hk (oh ((Y1.1 hr).1));injection hv with h1 h2 h3
 subst h1;have hb:=Jq.block (k:=k) (by rw[Y44 ((Y1.1 hk).1)];rfl);refine⟨_,O,λj v hj=>?_⟩;rw[Addr.add_add];have h3:=zQ (cells:=Xa) (s:=4) (λ_=>rfl) hr hj
 have:=HU hb (o:=i*4+j) (by rw[Y9 (Y1.1 h3).1];exact h3)
 rw[EE,Yj];exact this
theorem zS{α:Type}{cells:α->Lv}(h:∀r,(cells r).all Value.oneCell'=true):∀l:List α,(X2 cells l).all Value.oneCell'=true
 | []=>rfl
 | x::l=>by
  show(cells x++X2 cells l).all _=true
  rw[Y4r,h x,zS h l];rfl
theorem Vi(r:Nt)(t:Lu)(b3:Nat)(As:La)(hS:Aa B w I (Ae b3 [S t] 9::As)):Ce B I (Ae b3 [S t] 9::As) 157 [.agg (Xa r).toArray,ptr b3 0] w (.bool (r.ticket==t)):=by
 refine gG 7 ?_;clear hS;intro b2 w hS;exact⟨O,hS.s⟩
theorem bJ(a:Oa)(c:Nat)(l:List Nt)(hl:l.length<=100000)(t:Lu)(As:La)(hE:∀(w:Wo) (X:X1),Aa B w I (X::As)->Mj w Xa 4 a l)(hS:Aa B w I As):Ce B I As 79 [.slice a l.length c,S t] w (Ab (jR l t)):=by
 refine gH 4 ?_;clear hS;intro b3 w hS;refine gP 0 [] (X4p a c l om (λr=>r.ticket==t) 157 _ func157 O [ptr b3 0] _ (λw h=>hE w _ h) (λr hr w h=>Vi r t b3 _ h)) ?_;clear hS;rintro _ w ⟨rfl,hS⟩;exact gG 1 ⟨O,hS.s⟩
theorem Xba(a:Oa)(c:Nat)(l:List Nt)(hl:l.length<=100000)(hR:RS I a 4 l.length (X2 Xa l))(As:La)(hS:Aa B w I As):Cz 78 [.slice a l.length c] w λv w'=>Aa B w' I (Ar 89 4 v (l).length (X2 Xa (l))::As):=by
 refine gH 2 (.val (Ex.HA (.of O) (.of O) kC) O ?_);refine gM 0 ?_ ?_<;>intro Qe SD
 ·refine gG 1 ?_;cases a with
  | some p=>simp at Qe
  | none =>
  have h0:l=[]:=by
   cases l with
   | nil=>rfl
   | cons x l=>obtain⟨p,h,_⟩:=hR.2 sz;cases h
  subst h0;exact hS.An 89 4
 refine gH 2 ?_;clear hS;intro b5 w hS;replace hS:=hS.Bw (k:=0) (E:=89) (size:=4) (n:=0) O O (Y4 _);try dsimp only[List.set]at hS
 refine .CK (size:=4) (bytes:=48) hS (.of O) (.of O) hR (k:=0) O kC (i:=t89) kr O O O O (zS (λr=>rfl) l) ⟨om,by unfold maxLen;omega⟩ O ?_;clear hS;intro v7 w hS;rw[Yj,Ez]at hS;exact gG 1 (hS)
theorem Xmd(qb:Nat)(lim:Int)(x y z:Nat)(a:Oa)(c:Nat)(q:List Nt)(hq:q.length<=64)(hR:RS I a 4 q.length (X2 Xa q))(hc:q.length<=c)(As:La)(hS:Aa B w I (Ae qb [Ab lim,BQ x,BQ y,BQ z,.slice a q.length c] 178::As)):Cz 114 [ptr qb 0] w λv w'=>∃J ra rc,v=.slice ra q.length rc/\Le I J/\q.length<=rc/\RS J ra 4 q.length (X2 Xa q)/\Aa B w' J (Ae qb [Ab lim,BQ x,BQ y,BQ z,.slice a q.length c] 178::As):=by
 refine gF 5 (Xba a c q om hR) ?_;clear hS;rintro v9 w hS;refine gG 1 ?_;obtain⟨ra,rc,rfl,Cc,_⟩:=hS.vS 0;obtain⟨J,hJ,AJ,hS⟩:=hS.fV 0;exact⟨J,ra,rc,O,hJ,Cc,AJ,hS⟩
theorem T7(cs:Lv)(x y z:Nat)(tr:Int)(h24:cs[24]?=some (BQ x))(h25:cs[25]?=some (BQ y))(h26:cs[26]?=some (BQ z))(h27:cs[27]?=some (Ab tr))(As:La)(hS:Aa B w I As):Cz 24 [.agg cs.toArray] w λv w'=>∃qb,v=ptr qb 0/\Aa B w' I (Ae qb [Ab (max 1 (min tr 9)),BQ x,BQ y,BQ z,.slice none 0 0] 178::As):=by
 refine gG 0 (.Ls (cs:=cs) hS (.of O) O ?_);clear hS;intro b1 w hS;refine gH 2 (.val (.ld (v:=Ab tr) (.of O) hS (k:=0) O Cv h27) O (gH 3 (.val (.ld (v:=BQ x) (.of O) hS (k:=0) O Ud h24) O (gH 1 (.val (.ld (v:=BQ y) (.of O) hS (k:=0) O Ud h25) O (gH 1 (.val (.ld (v:=BQ z) (.of O) hS (k:=0) O Ud h26) O (gG 3 ?_))))))));clear hS;intro Vm w hS;exact⟨Vm,O,hS.s⟩
theorem ZZ(r:Nt)(h1:r.ticket.length<=60)(h2:r.url.length<=120)(hK:Kx I)(hP:BB I)(As:La)(hS:Aa B w I As):Ce B I As 77 [.agg (Xa r).toArray] w (.bool (!OP r)):=by
 refine gH 3 ?_;clear hS;intro b1 w hS;refine gE 0 (Xpb r om om hK hP) ?_;clear hS;intro w hS;exact gG 2 ⟨O,hS.s⟩
theorem Ub(qb:Nat)(lim:Int)(x y z:Nat)(a:Oa)(c:Nat)(q:List Nt)(hq:q.length<=64)(hR:RS I a 4 q.length (X2 Xa q))(hc:q.length<=c)(la:Oa)(lc:Nat)(l:List Nt)(hl:l.length<=70)(hls:∀n∈l,n.ticket.length<=60/\n.url.length<=120)(Qa:RS I la 4 l.length (X2 Xa l))(hK:Kx I)(hP:BB I)(As:La)(hS:Aa B w I (Ae qb [Ab lim,BQ x,BQ y,BQ z,.slice a q.length c] 178::As)):Cz 28 [ptr qb 0,.slice la l.length lc] w λv w'=>∃J a2 c2,v=Ab ((Li q l).2:Nat)/\Le I J/\RS J a2 4 (Li q l).1.length (X2 Xa (Li q l).1)/\(Li q l).1.length<=c2/\Aa B w' J (Ae qb [Ab lim,BQ x,BQ y,BQ z,.slice a2 (Li q l).1.length c2] 178::As):=by
 refine gP 2 [] (Xa1 la lc l om (λn=>!OP n) 77 _ func77 O [] _ (λw h=>aP (cells:=Xa) (s:=4) (λ_=>rfl) h Qa) (λr hr w h=>ZZ r (hls r hr).1 (hls r hr).2 hK hP _ h)) ?_;clear hS;rintro _ w ⟨rfl,hS⟩;refine gM 0 ?_ ?_<;>intro GO DV
 ·refine gG 1 ?_;have hp:Li q l=(q,1):=by unfold Li;rw[Y7 GO]
  rw[hp];exact⟨I,a,c,O,Le.refl _,hR,hc,hS⟩
 refine gF 4 (Xba a c q om hR) ?_;clear hS;rintro v5 w hS;have Bh:=hS;clear hS;refine gG 4 (.lk [0,1,15,16] (σ:=Nat×List Nt×Va) (λ(i,all,v) _m=>(5,v)::(17,Ab (i:Nat))::_m) (λ(i,all,v) w=>i<=l.length/\all=q++l.take i/\P1 q l=P1 all (l.drop i)/\Aa B w I (Ar 89 4 v (all).length (X2 Xa (all))::Ae qb [Ab lim,BQ x,BQ y,BQ z,.slice a q.length c] 178::As)) (λ(i,all,v)=>l.length-i) (0,q,v5) ⟨Y4 _,by simp,O,Bh⟩ ?_);rintro⟨i,all,v⟩ w ⟨hi,AW,uN,hS⟩;clear Bh;refine gN 1 ?_ ?_<;>intro Gy
 ·refine gG 0 ?_;obtain⟨n,hn⟩:∃n,l[i]?=some n:=⟨_,Y2 om⟩
  obtain⟨p,F5,hx⟩:=AQ (cells:=Xa) (s:=4) (λ_=>rfl) Qa hn;subst F5;have Ec:l.drop i=n::l.drop (i+1):=by rw[Yp om,(Y1.1 hn).2]
  have Aau:all.length<=134:=by rw[AW];simp only[Y0,Yl];omega
  refine gG 4 ?_;clear hS;intro b7 w hS;obtain⟨va,vc,rfl,rq,_⟩:=hS.vS 1;refine gH 3 ?_;replace hS:=(hS.pick 1 O);try dsimp only[List.eraseIdx]at hS
  refine gP 0 [] (bJ va vc all om n.ticket _ (λw X h=>vR h (k:=1) O)) ?_;clear hS;rintro _ w ⟨rfl,hS⟩;refine gN 1 ?_ ?_<;>intro E4
  ·refine gG 1 ?_;have SB:(l.any λn=>!OP n)=false:=su GO
   have nr:(all.any λx=>x.ticket==n.ticket)=true:=by
    rw[<-kG _ all 0];exact decide_eq_true (by have h9:=E4;unfold jR at h9;omega)
   have hp:Li q l=(q,7):=by unfold Li;rw[Y3 (nB SB),Y7 (by rw[uN,Ec,P1,nr,Bool.true_or])]
   rw[hp];exact⟨I,a,c,O,Le.refl _,hR,hc,hS.s⟩
  refine gG 7 ?_;clear hS;intro b28 a29 c29 uB w hS;replace hS:=(((hS.pick 2 O).pick 1 O).drop (k:=2) O)
  have er:X2 Xa (all++[n])=X2 Xa all++[S n.ticket,S n.url,Ab n.tries,Ab n.next]:=by simp[X2,Xa]
  have el:(all++[n]).length=all.length+1:=by simp
  have AL:(all.any λx=>x.ticket==n.ticket)=false:=by
   rw[<-kG _ all 0];exact decide_eq_false (by have h9:=E4;unfold jR at h9;omega)
  refine E_ (i+1,all++[n],_) O ⟨od,?_,?_,by rw[er,el];exact hS⟩
  ·rw[AW,Yo,hn,Yu,Yc]
  ·rw[uN,Ec,P1,AL,lB]
 refine gG 0 ?_;have hil:i=l.length:=om
 subst hil;rw[Jm]at AW;have qU:P1 q l=false:=by rw[uN,s5];rfl
 have SB:(l.any λn=>!OP n)=false:=su GO
 have Aau:all.length=q.length+l.length:=by rw[AW,Y0]
 obtain⟨va,vc,rfl,rq,_⟩:=hS.vS 0;refine gN 3 ?_ ?_<;>intro FY
 ·refine gG 1 ?_;have hp:Li q l=(q,5):=by unfold Li;rw[Y3 (nB SB),Y3 (nB qU),Y7 (oh FY)]
  rw[hp];exact⟨I,a,c,O,Le.refl _,hR,hc,hS.s⟩
 refine gG 6 ?_;clear hS;intro w hS;have hp:Li q l=(q++l,0):=by unfold Li;rw[Y3 (nB SB),Y3 (nB qU),Y3 (oh FY)]
 rw[hp];subst AW;obtain⟨J,hJ,AJ,hS⟩:=hS.fV 0;exact⟨J,va,vc,O,hJ,AJ,rq,hS⟩
open Go.RowKit Go.WideShapes Go.ChangeShapes
structure Sv where
 id:Int
 ord:Nat
 urls:Lu
 CT:Bool
 Dl:Bool
 back:Bool
 calls:Lu
 rel:List Lu
abbrev pY(s:Sv)(a:Oa)(c:Nat):Lv:=[Ab s.id,BQ s.ord,S s.urls,.bool s.CT,.bool s.Dl,.bool s.back,S s.calls,.slice a s.rel.length c]
def Na(I:Im)(s:Sv)(l:Lv):Prop:=∃a c,l=pY s a c/\s.rel.length<=c/\RS I a 1 s.rel.length (s.rel.map S)
theorem Na.mono{s:Sv}{l:Lv}(h:Na I s l)(hl:Le I J):Na J s l:=by
 obtain⟨a,c,e,h1,h2⟩:=h;exact⟨a,c,e,h1,h2.mono hl⟩
def Gn(I:Im)(a:Oa)(l:List Sv):Prop:=∀(i:Nat) (s:Sv),l[i]?=some s->∃p ra rc,a=some p/\At I (p.add (i*8)) (pY s ra rc)/\s.rel.length<=rc/\RS I ra 1 s.rel.length (s.rel.map S)
theorem Gn.mono{l:List Sv}(h:Gn I a l)(hl:Le I J):Gn J a l:=λi s hs=>by
 obtain⟨p,ra,rc,e,h1,h2,h3⟩:=h i s hs;exact⟨p,ra,rc,e,h1.mono hl,h2,h3.mono hl⟩
theorem Xqw(h:At I p vs)(n:Nat):At I p (vs.take n):=by
 obtain⟨h1,arr,E,fr,h2,h3⟩:=h;refine⟨h1,arr,E,fr,h2,λj v hj=>?_⟩;rw[jw]at hj;split at hj
 ·exact h3 j v hj
 ·cases hj
theorem lZ(h:¬ n<10):Go.Lib.decDigits n=Go.Lib.decDigits (n/10)++[UInt8.ofNat (48+n%10)]:=by
 rw[Go.Lib.decDigits,dif_neg h]
end Go.Proofs.W9
namespace B3
variable {k:Int->Nat}
def Jn(k:Int->Nat)(x y:Int):Prop:=k x<k y\/(k x=k y/\x<y)
theorem Xn5{x y z:Int}(h:Jn k x y)(h2:Jn k y z):Jn k x z:=by unfold Jn at *;omega
theorem Xx2{x:Int}:¬ Jn k x x:=by unfold Jn;omega
theorem Vo{x y:Int}(h:x<y):Jn k y x↔k y<k x:=by unfold Jn;omega
theorem JZ{x y:Int}(h:x<y)(h2:¬ k y<k x):Jn k x y:=by unfold Jn;omega
def bY(k:Int->Nat)(x y:Int):Int:=if k x<k y then -1 else if k y<k x then 1 else 0
theorem ND{x y:Int}:bY k x y<0↔k x<k y:=by unfold bY;split<;>(try split)<;>omega
abbrev So(k:Int->Nat)(l:List Int):Prop:=l.Pairwise (Jn k)
def Df(A T:List Int):Prop:=∀a∈A,∀t∈T,a<t
def swp(D:List Int)(i j:Nat):List Int:=(D.set i (D.getD j 0)).set j (D.getD i 0)
theorem ic{D:List Int}{j:Nat}(h:i≠j):swp D i j=swp D j i:=by
 unfold swp;rw[List.set_comm _ _ h]
theorem Iz(A B:List Int)(x:Int):(A++x::B).getD A.length 0=x:=by simp[Ya]
theorem wv(A M C:List Int)(p q:Int):swp (A++p::(M++q::C)) A.length (A.length+1+M.length)=A++q::(M++p::C):=by
 have h1:=Iz A (M++q::C) p;have h2:(A++p::(M++q::C)).getD (A.length+1+M.length) 0=q:=by
  have:=Iz (A++p::M) C q
  rw[Y0,List.length_cons,show A.length+(M.length+1)=A.length+1+M.length by omega]at this;simpa using this
 unfold swp;rw[h1,h2];have e1:(A++p::(M++q::C)).set A.length q=A++q::(M++q::C):=by
  rw[yu _ _ (Yd _),qJ];rfl
 rw[e1,yu _ _ om,show A.length+1+M.length-A.length=M.length+1 by omega,Y46,yu _ _ (Yd _),qJ];rfl
theorem oX(A C:List Int)(p q:Int):swp (A++p::q::C) A.length (A.length+1)=A++q::p::C:=by
 have:=wv A [] C p q
 simpa using this
theorem YD{U1 U2:List Int}{x:Int}(h:So k (U1++U2))(h1:∀u∈U1,Jn k u x)(h2:∀u∈U2,Jn k x u):So k (U1++x::U2):=by
 obtain⟨a,b,c⟩:=yw.1 h;refine yw.2 ⟨a,bf.2 ⟨h2,b⟩,λu hu v hv=>?_⟩;rcases Yi.1 hv with rfl|hv
 ·exact h1 u hu
 ·exact c u hu v hv
theorem oS{U:List Int}{p x:Int}(h:So k (U++[p]))(hp:Jn k p x):∀u∈U++[p],Jn k u x:=by
 intro u hu;rcases Yn.1 hu with hu|hu
 ·exact Xn5 ((yw.1 h).2.2 u hu p sz) hp
 ·simp at hu;subst hu;exact hp
theorem cX{V:List Int}{p:Nat}(h:p<V.length):V.getD p 0∈V:=by
 rw[Ya,Y2 h];exact Zw h
theorem cZ{A B:List Int}(h:i<A.length):(A++B).getD i 0=A.getD i 0:=by
 simp[Ya,sV,h]
theorem c6{A B:List Int}(h:A.length<=i):(A++B).getD i 0=B.getD (i-A.length) 0:=by
 simp[Ya,sV,Nat.not_lt.2 h]
theorem mq{F G E:List Int}(h1:F.length<=i)(h2:i<F.length+G.length):(F++(G++E)).getD i 0∈G:=by
 rw[c6 h1,cZ om];exact cX om
theorem KB{U:List Int}(h:0<U.length):∃V q,U=V++[q]:=by
 have A8:U≠[]:=λe=>by rw[e]at h;simp at h
 exact⟨U.dropLast,U.getLast A8,(Y56 A8).symm⟩
theorem lX{U:List Int}(h:0<U.length):∃q V,U=q::V:=by
 cases U with
 | nil=>simp at h
 | cons q V=>exact⟨q,V,O⟩
theorem G3{A A' T':List Int}(h:Df A T)(ha:∀x∈A',x∈A)(ht:∀x∈T',x∈T):Df A' T':=λa h1 t h2=>h a (ha a h1) t (ht t h2)
theorem Xps:∀{X Y:List Int},So k X->So k Y->X.Perm Y->X=Y
 | [],Y,_,_,h=>(List.nil_perm.1 h).symm
 | x::X,[],_,_,h=>by have:=h.length_eq;simp at this
 | x::X,y::Y,hx,hy,h=>by
  obtain⟨KN,hx2⟩:=bf.1 hx;obtain⟨zk,hy2⟩:=bf.1 hy;have e:x=y:=by
   apply Classical.byContradiction
   intro A8;have m1:x∈Y:=by
    rcases Yi.1 (h.mem_iff.1 (Y4v:x∈x::X))with h|h
    ·exact Yy h A8
    ·exact h
   have m2:y∈X:=by
    rcases Yi.1 (h.mem_iff.2 (Y4v:y∈y::Y))with h|h
    ·exact Yy h.symm A8
    ·exact h
   exact Xx2 (Xn5 (KN y m2) (zk x m1))
  subst e;rw[Xps hx2 hy2 (List.Perm.cons_inv h)]
inductive Full(k:Int->Nat)(s:Nat):List Int->Prop
 | nil:Full k s []
 | cons {U T:List Int}:U.length=s->So k U->Df U T->Full k s T->Full k s (U++T)
theorem Full.append{s:Nat}{A B:List Int}(ha:Full k s A)(hb:Full k s B)(hc:Df A B):Full k s (A++B):=by
 induction ha with
 | nil=>simpa using hb
 | cons h1 h2 h3 h4 ih =>
  rename_i U T
  rw[Yc];refine .cons h1 h2 (λa ha t ht=>?_) (ih (G3 hc (λx hx=>sT _ hx) (λx hx=>hx)));rcases Yn.1 ht with ht|ht
  ·exact h3 a ha t ht
  ·exact hc a (sW _ ha) t ht
theorem Full.one{s:Nat}{U:List Int}(h:U.length=s)(hs:So k U):Full k s U:=by
 have:=Full.cons (T:=[]) h hs (λ_ _ _ h=>by cases h) .nil
 simpa using this
def rW(k:Int->Nat)(s:Nat)(D:List Int):Prop:=∃A U,D=A++U/\Full k s A/\U.length<s/\So k U/\Df A U
theorem rW.sorted{s:Nat}{D:List Int}(h:rW k s D)(hl:D.length<=s)(h0:0<s):So k D:=by
 obtain⟨A,U,rfl,hA,hU,hs,hc⟩:=h;cases hA with
 | nil=>simpa using hs
 | cons h1 h2 h3 h4 =>
  rename_i V T
  simp only[Y0]at hl
  have hU0:U=[]:=Yf om;have hT0:T=[]:=Yf om;subst hU0;subst hT0;simpa using h2
theorem PX{A M:List Int}(h:Df A T)(hp:M.Perm A):Df M T:=λa ha=>h a (hp.mem_iff.1 ha)
theorem Ho{A M:List Int}(h:Df A T)(hp:M.Perm T):Df A M:=λa ha t ht=>h a ha t (hp.mem_iff.1 ht)
theorem VF{A B:List Int}(h:Df A T)(h2:Df B T):Df (A++B) T:=λa ha t ht=>by
 rcases Yn.1 ha with ha|ha
 ·exact h a ha t ht
 ·exact h2 a ha t ht
def Cu:Nat->List Int
 | 0=>[]
 | n+1=>Cu n++[(n:Int)]
theorem Hf:∀n,(Cu n).length=n
 | 0=>rfl
 | n+1=>by rw[Cu,Y0,Hf n];rfl
theorem Dp:∀{n:Nat} {x:Int},x∈Cu n↔0<=x/\x<n
 | 0,x=>by simp[Cu]<;>omega
 | n+1,x=>by
  rw[Cu,Yn,Dp]
  simp
  omega
theorem TT:∀n,(Cu n).Pairwise (·<·)
 | 0=>.nil
 | n+1=>by
  rw[Cu];refine yw.2 ⟨TT n,by simp,λa ha b hb=>?_⟩;simp at hb
  have:=Dp.1 ha
  omega
def Ord(k:Int->Nat)(n:Nat)(D:List Int):Prop:=So k D/\D.Perm (Cu n)
theorem Ord.unique{D D':List Int}(h:Ord k n D)(h':Ord k n D'):D=D':=Xps h.1 h'.1 (h.2.trans h'.2.symm)
theorem Ord.len{D:List Int}(h:Ord k n D):D.length=n:=by rw[h.2.length_eq,Hf]
instance (k:Int->Nat)(x y:Int):Decidable (Jn k x y):=by unfold Jn;infer_instance
structure Sel(k:Int->Nat)(n:Nat)(us:List Bool)(Os T:List Int):Prop where
 len:us.length=n
 perm:(Os++T).Perm (Cu n)
 so:So k Os
 before:∀o∈Os,∀t∈T,Jn k o t
 used:∀o∈Os,us.getD o.toNat false=true
 free:∀t∈T,us.getD t.toNat false=false
def zy(k:Int->Nat)(T:List Int)(i:Nat)(b:Int):Prop:=(b=-1/\∀t∈T,(i:Int)<=t)\/(b∈T/\b<i/\∀t∈T,t<i->t=b\/Jn k b t)
theorem zy.lt{b:Int}(h:zy k T i b):b<i:=by
 rcases h with⟨h,_⟩|⟨_,h,_⟩<;>omega
end B3
namespace Go.Proofs.W9
open Gk Rk
open Tryz
structure Cx(I:Im)(l:List Nat)(p:Addr):Prop where
 ex:∃a c,At I p [.slice a l.length c]/\RS I a 1 l.length (l.map BQ)
 small:∀v∈l,v<18446744073709551616
def kx(l:List Nat)(x:Int):Nat:=nz (l.getD x.toNat 0)
theorem Cx.mono{l:List Nat}(h:Cx I l p)(hl:Le I J):Cx J l p:=by
 obtain⟨⟨a,c,h1,h2⟩,h3⟩:=h;exact⟨⟨a,c,h1.mono hl,h2.mono hl⟩,h3⟩
theorem Xpr{l:List Nat}(h:∀v∈l,v<18446744073709551616)(i:Nat):l.getD i 0<18446744073709551616:=by
 by_cases hi:i<l.length
 ·refine h _ ?_;rw[Ya,Y2 hi];exact Zw hi
 ·rw[Ya,jr om];decide
abbrev CF(p:Addr):Va:=.func (.func 227) #[] #[.pointer (some p)]
theorem lW{l:List Nat}(h:Cx I l p)(x y:Int)(h0:0<=x)(h1:x<(l.length:Int))(g0:0<=y)(g1:y<(l.length:Int))(B w:Wo)(As:La)(hS:Aa B w I As):Ce B I As 227 [Ab x,Ab y,.pointer (some p)] w (Ab (B3.bY (kx l) x y)):=by
 obtain⟨sa,sc,hp,hr⟩:=h.ex;obtain⟨pa,rfl,ha⟩:=hr.2 om;refine gG 1 (.qt hS (.val (λw hS=>.Ca (.of O) hS hp isAgg240 O) O (.val (λw hS=>(.mo O)) O ?_)));refine .val (λw hS=>(by first|exact .io O O om om MW KX|exact .ii O O om om MW KX)) O ?_;refine .val (λw hS=>.vF BQ l 0 (i:=x) (.of O) hS ha O Ud h0 h1) O (.call func229 O (Be O X4) O (λw hS=>Ux (QS _ (Xpr h.small (x).toNat) w) hS) (.val (λw hS=>.Ca (.of O) hS hp isAgg240 O) O (.val (λw hS=>(.mo O)) O ?_)));refine .val (λw hS=>(by first|exact .io O O om om MW KX|exact .ii O O om om MW KX)) O ?_;refine .val (λw hS=>.vF BQ l 0 (i:=y) (.of O) hS ha O Ud g0 g1) O (.call func229 O (Be O X4) O (λw hS=>Ux (QS _ (Xpr h.small (y).toNat) w) hS) (.call func228 O (Be O (Be O X4)) O (λw hS=>Ux (Xqe _ _ w) hS) (.val (λw hS=>(.ao O)) O (.nil ?_))));clear hS;intro w hS;refine gG 0 (⟨?_,hS⟩);unfold B3.bY kx;simp only[Int.ofNat_lt]
theorem nt{l:List Nat}(hx:Cx I l p)(F R C:List Int)(hR:R.Pairwise (·<·))(JV:∀x∈R,0<=x/\x<(l.length:Int))(b0 n c:Nat)(r:Lv)(ib:Int)(hib:ib=F.length+R.length)(hn:ib<=n)(hbb:F.length+R.length+C.length<=1000000)(B w:Wo)(As:La)(hS:Aa B w I (Ae b0 ((F++(R++C)).map Ab++r) 3::As)):Cz 401 [.slice (some (ad b0 0)) n c,Ab (F.length:Nat),Ab ib,CF p] w λv w'=>v=.tuple #[]/\∃M,M.Perm R/\B3.So (kx l) M/\Aa B w' I (Ae b0 ((F++(M++C)).map Ab++r) 3::As):=by
 refine gG 3 ?_;have Cp:(F.length:Int)+1=max ((F.length:Int)+(R.take 1).length) (F.length+1)/\(R.take 1=[]->R.drop 1=[])/\B3.So (kx l) (R.take 1)/\B3.Df (R.take 1) (R.drop 1)/\(R.drop 1).Pairwise (·<·)/\(R.take 1++R.drop 1).Perm R/\Aa B w I (Ae b0 ((F++(R.take 1++(R.drop 1++C))).map Ab++r) 3::As):=by
  refine⟨?_,?_,?_,?_,?_,by rw[Mv],?_⟩
  ·cases R<;>simp<;>omega
  ·intro h;cases R with
   | nil=>rfl
   | cons a R=>simp at h
  ·cases R with
   | nil=>exact .nil
   | cons a R=>simp
  ·cases R with
   | nil=>intro _ h;simp at h
   | cons a R=>intro u hu t ht;simp at hu ht;subst hu;exact(bf.1 hR).1 t ht
  ·exact hR.sublist (List.drop_sublist 1 R)
  ·have e:F++(R.take 1++(R.drop 1++C))=F++(R++C):=by rw[<-Yc (R.take 1),Mv]
   rw[e];exact hS
 refine .lk [0,1,2,3] (σ:=Int×List Int×List Int) (λ(i,M,T) _m=>(8,Ab i)::_m) (λ(i,M,T) w=>i=max ((F.length:Int)+M.length) (F.length+1)/\(M=[]->T=[])/\B3.So (kx l) M/\B3.Df M T/\T.Pairwise (·<·)/\(M++T).Perm R/\Aa B w I (Ae b0 ((F++(M++(T++C))).map Ab++r) 3::As)) (λ(i,M,T)=>T.length) ((F.length:Int)+1,R.take 1,R.drop 1) Cp ?_;rintro⟨i,M,T⟩ w ⟨hi,hMT,hM,hc,hT,hP,hS⟩;have Wi:=hP.length_eq;rw[Y0]at Wi;refine gN 3 ?_ ?_<;>intro Dh
 ·refine gG 0 ?_;have hMn:0<M.length:=by
   rcases Nx M.length with h|h
   ·have h2:=hMT (Yf h);rw[h2]at Wi;simp at Wi;omega
   ·exact h
  obtain⟨x,T,rfl⟩:=B3.lX (U:=T) om;simp only[List.length_cons]at Wi
  refine gG 2 ?_;refine .lk [0,1,2,3,8] (σ:=Int×List Int×List Int) (λ(j,U1,U2) _m=>(9,Ab j)::_m) (λ(j,U1,U2) w=>j=(F.length:Int)+U1.length/\B3.So (kx l) (U1++U2)/\(∀u∈U2,B3.Jn (kx l) x u)/\(U1++U2).Perm M/\Aa B w I (Ae b0 ((F++(U1++x::(U2++(T++C)))).map Ab++r) 3::As)) (λ(j,U1,U2)=>U1.length) (i,M,[]) ⟨od,by rw[Yr];exact hM,(λ_ h=>by cases h),by rw[Yr],hS⟩ ?_;rintro⟨j,U1,U2⟩ w ⟨hj,hs,LF,KK,hS⟩;obtain⟨D,hD⟩:∃D,D=F++(U1++x::(U2++(T++C))):=⟨_,O⟩
  rw[<-hD]at hS;have vd:=KK.length_eq;rw[Y0]at vd;have hDl:D.length=F.length+(U1.length+1+U2.length+(T.length+C.length)):=by rw[hD];simp only[Y0,List.length_cons];omega
  have Ac4:∀v∈U1++x::U2,0<=v/\v<(l.length:Int):=λv hv=>by
   refine JV v (hP.mem_iff.1 ?_);rcases Yn.1 hv with h|h
   ·exact sW _ (KK.mem_iff.1 (sW _ h))
   ·rcases Yi.1 h with rfl|h
    ·exact sT _ Y4v
    ·exact sW _ (KK.mem_iff.1 (sT _ h))
  have AaX:∀q:Nat,F.length<=q->q<F.length+(U1.length+1+U2.length)->0<=D.getD q 0/\D.getD q 0<(l.length:Int):=λq h1 h2=>by
   refine Ac4 _ ?_;have e:D=F++((U1++x::U2)++(T++C)):=by rw[hD];simp only[Yc,Yz]
   rw[e];exact B3.mq h1 (by simp only[Y0,List.length_cons];omega)
  have KN:D.getD j.toNat 0=x:=by
   have:=B3.Iz (F++U1) (U2++(T++C)) x
   rw[show(F++U1).length=j.toNat by rw[Y0];omega]at this;rw[hD,<-Yc];exact this
  have BO:∀u∈U1++U2,u<x:=λu hu=>hc u (KK.mem_iff.1 hu) x Y4v
  refine gG 0 (.qt hS (.val (λw hS=>(.mo O)) O (.val (λw hS=>(.mo O)) O (.val (λw hS=>(.gtr (.of O) (.of O))) O (.val (λw hS=>(.mo O)) O (.AA O O O (λAi w hS=>(.mo O)) O (.AA O O O (λAi w hS=>(.mo O)) O (.AA O O O (λAi w hS=>(.mo O)) O ?_))))))));refine .AA O O O (λAi w hS=>(by first|exact .indexAddr (.gd Ai O) (.gd Ai O) (ot Ai) (ot Ai) sJ BU|exact .CJ (.gd Ai O) (.gd Ai O) (ot Ai) (ot Ai) sJ BU)) O ?_;refine .AA O O O (λAi w hS=>.rB Ab D 0 r (i:=j) (.gd Ai O) hS (k:=0) O O Cv (ot Ai) (ot Ai)) O ?_;refine .AA O O O (λAi w hS=>(.mo O)) O (.AA O O O (λAi w hS=>(.mo O)) O (.AA O O O (λAi w hS=>(.sub (.gd Ai O) (.of O) ⟨om,om⟩)) O ?_));refine .AA O O O (λAi w hS=>(by first|exact .indexAddr (.gd Ai O) (.gd Ai O) (ot Ai) (ot Ai) sJ BU|exact .CJ (.gd Ai O) (.gd Ai O) (ot Ai) (ot Ai) sJ BU)) O ?_;refine .AA O O O (λAi w hS=>.rB Ab D 0 r (i:=j-1) (.gd Ai O) hS (k:=0) O O Cv (ot Ai) (ot Ai)) O ?_;refine .tY O O O func227 O (λAi=>.gd Ai O) (λAi=>X5 (.gd Ai O) (X5 (.gd Ai O) X4)) O (λAi w hS=>by have qX:=AaX j.toNat (ot Ai) (ot Ai);have O6:=AaX (j-1).toNat (ot Ai) (ot Ai);exact lW hx _ _ qX.1 qX.2 O6.1 O6.2 B w _ hS) ?_;refine .AA O O O (λAi w hS=>(.lss (.gd Ai O) (.of O))) O (.val (λw hS=>(.pa O O O)) O (.nil ?_));clear hS;intro w hS;refine gN 0 ?_ ?_<;>intro Ft
  ·refine gG 0 (gD [0] [15,17] [0,1,2,3,4,5,6,7,8,9,10,11,12,13,14,15,16,17] ?_);clear hS;intro w hS;refine gH 9 (Br.y 9 (λw _ _ A6 hS=>.rB Ab D 0 r (i:=j-1) (.of O) hS (k:=0) O O Cv om om) (gH 3 (Br.y 13 (λw _ _ A6 hS=>.rB Ab D 0 r (i:=j) (.of O) hS (k:=0) O O Cv om om) (gH 1 (Br.e (.stE Ab _ r hS (k:=0) O (.of O) (.of O) O O BU om (by(try rw[Y5a]);omega) ?_))))));clear hS;intro w hS;dsimp only[List.set]at hS;refine gH 1 (Br.e (.stE Ab _ r hS (k:=0) O (.of O) (.of O) O O BU om (by(try rw[Y5a]);omega) ?_));clear hS;intro w hS;dsimp only[List.set]at hS;refine gG 3 ?_;obtain⟨U3,q,rfl⟩:=B3.KB (U:=U1) om;have e1:D=(F++U3)++q::x::(U2++(T++C)):=by rw[hD];simp only[Yc,Yz,Ez]
   have hq:D.getD (j-1).toNat 0=q:=by
    have:=B3.Iz (F++U3) (x::(U2++(T++C))) q
    rw[show(F++U3).length=(j-1).toNat by rw[Y0];simp only[Y0,List.length_cons,List.length_nil]at hj;omega]at this;rw[e1];exact this
   have hbq:B3.Jn (kx l) x q:=by
    have h:=B3.ND.1 Ft.2;rw[KN,hq]at h;exact(B3.Vo (BO q sz)).2 h
   have e:=B3.oX (F++U3) (U2++(T++C)) q x;rw[<-e1,show(F++U3).length=(j-1).toNat by rw[Y0];simp only[Y0,List.length_cons,List.length_nil]at hj;omega,show(j-1).toNat+1=j.toNat by omega,B3.ic om]at e;unfold B3.swp at e;rw[e]at hS;refine rd (j-1,U3,q::U2) ⟨by simp only[Y0,List.length_cons,List.length_nil]at hj;(try dsimp only);omega,su hs,?_,su KK,?_⟩ sz
   ·intro u hu;rcases Yi.1 hu with rfl|hu
    ·exact hbq
    ·exact LF u hu
   ·rw[Yc]at hS;exact hS
  refine gG 3 ?_;have hLQ:∀u∈U1,B3.Jn (kx l) u x:=by
   intro u hu;obtain⟨U3,q,rfl⟩:=B3.KB (U:=U1) (Y60 hu);have e1:D=(F++U3)++q::x::(U2++(T++C)):=by rw[hD];simp only[Yc,Yz,Ez]
   have hq:D.getD (j-1).toNat 0=q:=by
    have:=B3.Iz (F++U3) (x::(U2++(T++C))) q
    rw[show(F++U3).length=(j-1).toNat by rw[Y0];simp only[Y0,List.length_cons,List.length_nil]at hj;omega]at this;rw[e1];exact this
   simp only[Y0,List.length_cons,List.length_nil]at hj
   have h34:¬ (B3.bY (kx l) (D.getD j.toNat 0) (D.getD (j-1).toNat 0)<0):=by
    rcases Ft with h|h
    ·omega
    ·omega
   rw[B3.ND,KN,hq]at h34;exact B3.oS (yw.1 hs).1 (B3.JZ (BO q sz) h34) u hu
  have hU:B3.So (kx l) (U1++x::U2):=B3.YD hs (hLQ) LF;refine rd (i+1,U1++x::U2,T) ⟨by simp only[Y0,List.length_cons];have:=KK.length_eq;rw[Y0]at this;omega,λh=>by simp at h,hU,?_,(bf.1 hT).2,?_,?_⟩ sz
  ·intro u hu t ht;have h1:u∈U1++U2\/u=x:=by
    rcases Yn.1 hu with h|h
    ·exact .inl (sW _ h)
    ·rcases Yi.1 h with h|h
     ·exact .inr h
     ·exact .inl (sT _ h)
   rcases h1 with h1|rfl
   ·exact hc u (KK.mem_iff.1 h1) t (lx _ ht)
   ·exact(bf.1 hT).1 t ht
  ·refine List.Perm.trans ?_ hP;refine List.Perm.trans (List.Perm.append_right T Y51) ?_;rw[Yz];refine List.Perm.trans (List.Perm.cons x (KK.append_right T)) ?_;exact Y51.symm
  ·rw[hD]at hS;have e:F++(U1++x::(U2++(T++C)))=F++((U1++x::U2)++(T++C)):=by simp only[Yc,Yz]
   rw[e]at hS;exact hS
 refine gG 0 ?_;have hT0:T=[]:=by
  refine Yf ?_;rcases Nx M.length with h|h
  ·have:=hMT (Yf h);rw[this];first|done|rfl
  ·omega
 subst hT0;rw[Yr]at hP;exact⟨O,M,hP,hM,su hS⟩
theorem eP{l:List Nat}(hx:Cx I l p)(F R C:List Int)(hR:R.Pairwise (·<·))(JV:∀x∈R,0<=x/\x<(l.length:Int))(b0 n c:Nat)(r:Lv)(ia ib:Int)(hia:ia=F.length)(hib:ib=F.length+R.length)(hn:ib<=n)(hbb:F.length+R.length+C.length<=1000000)(B w:Wo)(As:La)(hS:Aa B w I (Ae b0 ((F++(R++C)).map Ab++r) 3::As)):Cz 401 [.slice (some (ad b0 0)) n c,Ab ia,Ab ib,CF p] w λv w'=>v=.tuple #[]/\∃M,M.Perm R/\B3.So (kx l) M/\Aa B w' I (Ae b0 ((F++(M++C)).map Ab++r) 3::As):=by
 subst hia;exact nt hx F R C hR JV b0 n c r ib hib hn hbb B w As hS
theorem Xz8{l:List Nat}(hx:Cx I l p)(b0 n c:Nat)(r:Lv)(hn:l.length=n)(hb:n<=20)(B w:Wo)(As:La)(hS:Aa B w I (Ae b0 ((B3.Cu n).map Ab++r) 3::As)):Cz 311 [.slice (some (ad b0 0)) n c,Ab n,CF p] w λv w'=>v=.tuple #[]/\∃D,B3.Ord (kx l) n D/\Aa B w' I (Ae b0 ((D).map Ab++r) 3::As):=by
 refine gG 4 (.lk [0,1,2,6] (σ:=Int×Int×List Int×List Int) (λ(a,b,M,R) _m=>(7,Ab a)::(8,Ab b)::_m) (λ(a,b,M,R) w=>a=M.length/\b=a+20/\B3.Full (kx l) 20 M/\B3.Df M R/\R.Pairwise (·<·)/\(M++R).Perm (B3.Cu n)/\Aa B w I (Ae b0 ((M++R).map Ab++r) 3::As)) (λ(a,b,M,R)=>R.length) (0,20,[],B3.Cu n) ⟨O,O,.nil,(λ_ h=>by cases h),B3.TT n,.refl _,hS⟩ ?_);rintro⟨a,b,M,R⟩ w ⟨ha,LF,hF,hc,hR,hP,hS⟩;have Wi:=hP.length_eq;rw[Y0,B3.Hf]at Wi;have JV:∀x∈R,0<=x/\x<(l.length:Int):=λx hx=>by rw[hn];exact B3.Dp.1 (hP.mem_iff.1 (sT _ hx))
 refine gN 3 ?_ ?_<;>intro DP
 ·refine gH 4 ?_;have hTD:R.take 20++R.drop 20=R:=Mv 20 R;rw[<-hTD]at hS;refine gP 0 [] (eP hx M (R.take 20) (R.drop 20) (hR.sublist (List.take_sublist 20 R)) (λx h=>JV x (sX h)) b0 n c r _ b om (by rw[Yl];omega) om (by rw[Yl,Ye];omega) B w As) ?_;clear hS;rintro _ w ⟨rfl,M2,SA,hMs,hS⟩;refine gG 6 ?_;refine rd (b,b+20,M++M2,R.drop 20) ⟨by have h1:=SA.length_eq;rw[Yl]at h1;(try dsimp only);rw[Y0];omega,O,?_,?_,hR.sublist (List.drop_sublist 20 R),?_,?_⟩ (by(try dsimp only);rw[Ye];omega)
  ·exact hF.append (.one (by rw[SA.length_eq,Yl];omega) hMs) (B3.Ho (B3.G3 hc (λ_ h=>h) (λ_ h=>sX h)) SA)
  ·refine B3.VF (B3.G3 hc (λ_ h=>h) (λ_ h=>List.mem_of_mem_drop h)) (B3.PX ?_ SA);intro u hu t ht;rw[<-Mv 20 R]at hR;exact(yw.1 hR).2.2 u hu t ht
  ·rw[Yc];refine List.Perm.trans (List.Perm.append_left M (SA.append_right _)) ?_;rw[Mv];exact hP
  ·rw[Yc];exact hS
 refine gH 4 ?_;replace hS:Aa B w I (Ae b0 ((M++(R++[])).map Ab++r) 3::As):=su hS
 refine gP 0 [] (eP hx M R [] hR JV b0 n c r _ n om om om (by simp only[List.length_nil];omega) B w As) ?_;clear hS;rintro _ w ⟨rfl,M2,SA,hMs,hS⟩;refine gG 0 (.lk [1,6] (σ:=Unit) (λ_ _m=>_m) (λ_ w=>Aa B w I (Ae b0 ((M++M2).map Ab++r) 3::As)) (λ_=>0) () (su hS) ?_);rintro _ w hS;refine gU 3 (λFW JQ=>?_);refine gG 0 (⟨O,M++M2,⟨(show B3.rW (kx l) 20 (M++M2) from⟨M,M2,O,hF,by rw[SA.length_eq];omega,hMs,B3.Ho hc SA⟩).sorted (by rw[Y0,SA.length_eq];omega) de,(List.Perm.append_left M SA).trans hP⟩,hS⟩)
theorem nw(cv:Va)(w:Wo):Cz 401 [.slice none 0 0,Ab 0,Ab 0,cv] w λv w'=>v=.tuple #[]/\w=w':=by
 obtain⟨w0,LU⟩:∃w0,w=w0:=⟨_,O⟩
 rw[show(λ(v:Va) (w':Wo)=>v=.tuple #[]/\w=w')=(λv w'=>v=.tuple #[]/\w0=w')by rw[LU]];refine gG 3 (.lk [2,8] (σ:=Unit) (λ_ _m=>_m) (λ_ w=>w=w0) (λ_=>0) () LU ?_);rintro _ w hw;refine gG 3 (.AF (rfl) ?_);exact gG 0 ⟨O,hw.symm⟩
theorem Xz9(cv:Va)(w:Wo):Cz 311 [.slice none 0 0,Ab 0,cv] w λv w'=>v=.tuple #[]/\w=w':=by
 obtain⟨w0,LU⟩:∃w0,w=w0:=⟨_,O⟩
 rw[show(λ(v:Va) (w':Wo)=>v=.tuple #[]/\w=w')=(λv w'=>v=.tuple #[]/\w0=w')by rw[LU]];refine gG 4 (.lk [0,1,2,6,7,8] (σ:=Unit) (λ_ _m=>_m) (λ_ w=>w=w0) (λ_=>0) () LU ?_);rintro _ w hw;refine gG 3 (.AF (rfl) (gC 4 (nw _ _) ?_));rintro _ _ ⟨rfl,rfl⟩;refine gG 0 (.lk [1,6] (σ:=Unit) (λ_ _m=>_m) (λ_ w=>w=w0) (λ_=>0) () hw ?_);rintro _ w hw;refine gG 3 (.AF (rfl) ?_);exact gG 0 ⟨O,hw.symm⟩
theorem gR(cv:Va)(w:Wo):Cz 226 [.slice none 0 0,cv] w λv w'=>v=.tuple #[]/\w=w':=by
 refine gC 4 (Xz9 _ _) ?_;rintro _ _ ⟨rfl,rfl⟩;exact gG 0 ⟨O,O⟩
theorem Xvq{l:List Nat}(hx:Cx I l p)(b0 n c:Nat)(r:Lv)(hn:l.length=n)(hb:n<=20)(B w:Wo)(As:La)(hS:Aa B w I (Ae b0 ((B3.Cu n).map Ab++r) 3::As)):Cz 226 [.slice (some (ad b0 0)) n c,CF p] w λv w'=>v=.tuple #[]/\∃D,B3.Ord (kx l) n D/\Aa B w' I (Ae b0 ((D).map Ab++r) 3::As):=by
 refine gP 4 [] (Xz8 hx b0 n c r hn hb B w As) ?_;clear hS;rintro _ w ⟨rfl,D,hD,hS⟩;exact gG 0 ⟨O,D,hD,hS⟩
theorem gS{l:List Nat}(hx:Cx I l p)(u:Va)(n:Nat)(hn:l.length=n)(hb:n<=20)(B w:Wo)(As:La)(hS:Aa B w I (Ar 3 1 u n ((B3.Cu n).map Ab)::As)):Cz 226 [u,CF p] w λv w'=>v=.tuple #[]/\∃D,B3.Ord (kx l) n D/\Aa B w' I (Ar 3 1 u n ((D).map Ab)::As):=by
 rcases Nx n with h0|h0
 ·subst h0;have IK:u=.slice none 0 0\/∃b0 c r,u=.slice (some (ad b0 0)) 0 c/\c<=maxLen/\r.length=c/\Aa B w I (Ae b0 (([]:List Int).map Ab++r) 3::As):=by
   obtain⟨h,⟨h1,h2,rfl,⟨hl,ha⟩,hr⟩,hg⟩:=hS;rcases ha with⟨hv,_,_⟩|⟨b,cap,rest,rfl,rfl,h3,h4,h5⟩
   ·exact .inl hv
   ·exact .inr ⟨b,cap,rest,O,h4,by simp[B3.Cu]at h5;exact h5,_,⟨_,h2,O,O,hr⟩,hg⟩
  rcases IK with rfl|⟨b0,c,r,rfl,Wv,HO,Jq⟩
  ·refine(gR (CF p) w).mono ?_;rintro e w' ⟨v,rfl,rfl,rfl⟩;exact⟨_,O,O,[],⟨.nil,.refl _⟩,hS⟩
  ·refine(Xvq hx b0 0 c r hn de B w As Jq).mono ?_;rintro e w' ⟨v,rfl,rfl,D,hD,C9⟩;have hD0:D=[]:=Yf hD.len;subst hD0;exact⟨_,O,O,[],hD,C9.Bm (k:=0) (n:=0) (xs:=[]) (size:=1) (cap:=c) (rest:=r) O (Y4 _) Wv O (su HO)⟩
 ·obtain⟨b0,c,r,rfl,Dc,Wv,CW,zi,Jq⟩:=hS.AP (k:=0) O h0;refine(Xvq hx b0 n c r hn hb B w As Jq).mono ?_;rintro e w' ⟨v,rfl,rfl,D,hD,C9⟩;refine⟨_,O,O,D,hD,C9.Bm (k:=0) (n:=n) (xs:=D.map Ab) (size:=1) (cap:=c) (rest:=r) O Dc Wv (by rw[Yh,hD.len];omega) ?_⟩;rw[Yh,hD.len];rw[CW]at zi;omega
theorem Ua(l:List Nat)(small:∀v∈l,v<18446744073709551616)(hl:l.length<=20)(a:Oa)(c:Nat)(hr:RS I a 1 l.length (l.map BQ))(As:La)(hS:Aa B w I As):Cz 136 [.slice a l.length c] w λv w'=>∃D va vc,v=.slice va l.length vc/\B3.Ord (kx l) l.length D/\Aa B w' I (Ar 3 1 (.slice va l.length vc) l.length (D.map Ab)::As):=by
 refine gG 6 ?_;clear hS;intro b1 w hS;replace hS:=hS.An 3 1;refine .lk [1,6] (σ:=Nat×Oa×Nat) (λ(k,va,vc) _m=>(3,.slice va k vc)::(7,Ab (k:Nat))::_m) (λ(k,va,vc) w=>k<=l.length/\Aa B w I (Ar 3 1 (.slice va k vc) k ((B3.Cu k).map Ab)::Ae b1 [.slice a l.length c] 240::As)) (λ(k,va,vc)=>l.length-k) (0,none,0) ⟨Y4 _,hS⟩ ?_;rintro⟨k,va,vc⟩ w ⟨hk,hS⟩;refine gN 1 ?_ ?_<;>intro E5
 ·refine gG 9 ?_;clear hS;intro bM a13 c13 Acz w hS;refine rd (k+1,a13,c13) ⟨od,?_⟩;rw[B3.Cu,Ym];exact hS
 refine gH 2 ?_;obtain rfl:k=l.length:=om
 obtain⟨J,hJ,hJb,hT⟩:=hS.fZ 1;clear hS;have hS:=hT;clear hT;try dsimp only[List.eraseIdx]at hS
 have hcx:Cx J l (ad b1 0):=⟨⟨a,c,⟨O,_,_,_,hJb,λj v h=>by simpa using h⟩,hr.mono hJ⟩,small⟩
 refine gP 0 [] (gS hcx _ l.length O om B w As) ?_;clear hS;rintro _ w ⟨rfl,D,hD,hS⟩;exact gG 2 ⟨D,va,vc,O,hD,hS.weaken hJ⟩
open FI
def bad(l:List Sv)(i:Nat)(s:Sv):Nat :=
 if i=16 then 5 else if(decide (s.id<0)||decide (8<(s.rel.length:Int)))=true then 1 else if(l.take i).any (λt=>t.id==s.id)=true then 7
 else if(((FI.jB s.urls).1 !=0)||((FI.jB s.calls).1 !=0))=true then 8 else 0
def ss(l:List Sv):Nat->List Sv->Nat×Nat
 | _,[]=>(0,0)
 | i,s::r=>if bad l i s≠0 then(bad l i s,i)else ss l (i+1) r
def Kn(l:List Sv):Nat×Nat:=ss l 0 l
theorem X84(l:List Sv):∀(n i:Nat) (r:List Sv),(∀j s,j<n->r[j]?=some s->bad l (i+j) s=0)->ss l i r=ss l (i+min n r.length) (r.drop n)
 | 0,i,r,_=>by simp
 | n+1,i,[],_=>by simp[ss]
 | n+1,i,s::r,h=>by
  have h0:=h 0 s om O;rw[Hn]at h0;rw[ss,Y3 (nB h0),X84 l n (i+1) r (λj t hj ht=>by have:=h (j+1) t om (su ht);rw[show i+1+j=i+(j+1)by omega];exact this),Kw,List.length_cons]
  congr 1
  omega
theorem YQ{l:List Sv}{s:Sv}(h:∀j t,j<i->l[j]?=some t->bad l j t=0)(hs:l[i]?=some s)(hb:bad l i s≠0):Kn l=(bad l i s,i):=by
 have hi:=(Y1.1 hs).1;unfold Kn;rw[X84 l i 0 l (λj t hj ht=>by rw[Yj];exact h j t hj ht),Yj,jx om,Yp hi,(Y1.1 hs).2,ss,Y7 hb]
theorem Xzm{l:List Sv}(h:∀j t,l[j]?=some t->bad l j t=0):Kn l=(0,0):=by
 unfold Kn;rw[X84 l l.length 0 l (λj t _ ht=>by rw[Yj];exact h j t ht),s5];rfl
def aG(I:Im)(a:Oa)(L:List Lv)(l:List Sv):Prop:=L.length=l.length/\∀(i:Nat) (s:Sv),l[i]?=some s->∃p c,a=some p/\L[i]?=some c/\At I (p.add (i*8)) c/\Na I s c
theorem aG.mono{L:List Lv}{l:List Sv}(h:aG I a L l)(hl:Le I J):aG J a L l:=⟨h.1,λi s hs=>by
 obtain⟨p,c,e,h0,h1,h2⟩:=h.2 i s hs;exact⟨p,c,e,h0,h1.mono hl,h2.mono hl⟩⟩
def jn(L:List Lv)(D:List Int):List Lv:=D.map λd=>L.getD d.toNat []
def EK(l:List Sv):List Nat:=l.map Sv.ord
theorem gy(xs:Lv)(x y:Va)(r:Lv):((xs++[x])++r).set (0+(xs.length:Int).toNat*1) y=(xs++[y])++r:=by
 (try rw[Y8]);rw[Yj,Gv,Yc,yu _ _ (Yd _)]
 simp
theorem mE{l:Lu}(h:Xg (l.drop (k:Int).toNat) [42,42]=true)(hk:k<l.length):k+1<l.length:=by
 simp[Xg]at h
 omega
theorem dE{l:Lu}(h:Xg (l.drop (k:Int).toNat) [42,42]=true)(hk:k+1<l.length):(at_ l ((k+1:Nat):Int)).toNat=42:=by
 rw[Y8,Xe l (k:=k) om,Xe l (k:=k+1) hk]at h;simp[Xg]at h
 rw[show((k+1:Nat):Int)=(k:Int)+1 from O,h.2.2];rfl
theorem AbL{l:Lu}{Q:List Pl}{AM:List Jw}{Ay:List Int}{X:Except (Int×Int) (List Pl)}(h:Xg (l.drop (k:Int).toNat) [42,42]=false)(hk:k<l.length/\(at_ l (k:Int)).toNat=42)
  (e:(match l.drop (k+1)with
   | d::r'=>if d.toNat=42 then A1 r' ((k:Int)+2) (Q++[(2,0,[])]) AM Ay else A1 (d::r') ((k:Int)+1) (Q++[(3,0,[])]) AM Ay
   | []=>A1 [] ((k:Int)+1) (Q++[(3,0,[])]) AM Ay)=X):A1 (l.drop (k+1)) ((k:Int)+1) (Q++[(3,0,[])]) AM Ay=X:=by
 cases hd:l.drop (k+1)with
 | nil=>rw[hd]at e;exact e
 | cons d r =>
  rw[hd]at e;have A8:¬ d.toNat=42:=λh42=>by
   rw[Y8,Xe l (k:=k) hk.1,hd]at h;have h1:at_ l (k:Int)=42:=JH.1 hk.2;have h2:d=42:=JH.1 h42;rw[h1,h2]at h;simp[Xg]at h
   omega
  simp only[A8,if_false]at e
  exact e
theorem Xqf(l:Lu)(As:La)(hS:Aa B w I As)(hl:l.length<=9223372036854775807):Calls prog 224 #[S l] w (A4 λv w'=>(∃e a J,cmp l=.error (e,a)/\v=.tuple #[.pointer none,Ab e,Ab a]/\Le I J/\Aa B w' J As)\/
   (∃Q p J,cmp l=.ok Q/\v=.tuple #[.pointer (some p),Ab 0,Ab 0]/\Le I J/\Gm J p Q l.length/\Aa B w' J As)):=by
 refine gN 6 ?_ ?_<;>intro B_
 ·exact gG 3 (.inl ⟨_,_,I,by rw[cmp,Y7 om],O,Le.refl I,hS⟩)
 refine gH 2 ?_;clear hS;intro Vm w hS;have hS:=((((Xwr hS).An 3 1).An 248 1).An 497 3).pick 4 O;try dsimp only[List.eraseIdx]at hS
 refine gG 2 ?_;refine .lk [0,5] (σ:=Nat×List Jw×List (Va×List Int)×List Pl×List Hk×Va×Va×Va×List Int×Im) (λ(k,AM,st,Q,P,lv,sv,av,Ay,J) _m=>(6,Ab (k:Nat))::_m) (λ(k,AM,st,Q,P,lv,sv,av,Ay,J) w=>k<=l.length/\Q.length<=k/\st.map (·.2)=AM.reverse.map Hb/\AM.length<=4/\Ay.length=AM.length/\Frames Q Q.length AM/\DH J P Q/\Le I J/\A1 (l.drop k) k Q AM Ay=cmp l/\Aa B w J (Ae Vm [lv,sv,av] 431::Ar 497 3 lv P.length (P.flatMap AD)::Ar 248 1 sv st.length (st.map (·.1))::Ar 3 1 av Ay.length (Ay.map Ab)::Kk 3 st::As)) (λ(k,AM,st,Q,P,lv,sv,av,Ay,J)=>l.length-k) (0,[],[],[],[],.slice none 0 0,.slice none 0 0,.slice none 0 0,[],I) ⟨Y4 _,Yd _,O,by simp,O,trivial,DH.nil _,Le.refl _,by rw[cmp,Y3 om];first|done|rfl,hS⟩ ?_;rintro⟨k,AM,st,Q,P,lv,sv,av,Ay,J⟩ w ⟨hk,hQk,Cp,Gz,IF,hF,hR,hJ,hq,hS⟩;obtain⟨la,lc,rfl,hlc,_⟩:=hS.vS 1;obtain⟨sa,sc,rfl,N0,_⟩:=hS.vS 2;obtain⟨aa,ac,rfl,hac,_⟩:=hS.vS 3;have nh:st.length=AM.length:=by have:=Y5 List.length Cp;simpa using this
 have hPQ:=hR.1;refine gN 4 ?_ ?_<;>intro Gy
 ·refine gN 13 ?_ ?_<;>intro FY
  ·refine gC 1 (YV _ P.length _ _ _ _ _ _ _ hS om) ?_;clear hS;rintro _ w ⟨rfl,L0,hS⟩;refine gG 3 ?_;have e9:=hq;rw[Xe l om,Xn,Y7 om]at e9;refine rd (k+1,AM,st,Q++[(1,0,[])],P++[(1,0,.slice none 0 0)],L0,.slice sa st.length sc,.slice aa Ay.length ac,Ay,J) ⟨om,by rw[Y0];simp;omega,Cp,Gz,IF,hF.app _,hR.snoc _ _ _ _ (B8.nil _),hJ,e9,?_⟩ od;rw[Y0,RR];exact hS
  refine gN 2 ?_ ?_<;>intro Wr
  ·refine gC 3 (pF _ _ _ (by simp;omega) sz) ?_;rintro _ _ ⟨rfl,rfl⟩;refine gM 0 ?_ ?_<;>intro En JR
   ·refine gC 1 (YV _ P.length _ _ _ _ _ _ _ hS om) ?_;clear hS;rintro _ w ⟨rfl,L0,hS⟩;refine gG 6 ?_;have e9:=hq;have JW:k+1<l.length:=mE En om;rw[Xe l om,Xn,Y3 om,Y7 om,Xe l JW]at e9;simp only[]at e9
    rw[Y7 (dE En JW)]at e9;refine rd (k+2,AM,st,Q++[(2,0,[])],P++[(2,0,.slice none 0 0)],L0,.slice sa st.length sc,.slice aa Ay.length ac,Ay,J) ⟨om,by rw[Y0];simp;omega,Cp,Gz,IF,hF.app _,hR.snoc _ _ _ _ (B8.nil _),hJ,e9,?_⟩ od;rw[Y0,RR];exact hS
   refine gC 1 (YV _ P.length _ _ _ _ _ _ _ hS om) ?_;clear hS;rintro _ w ⟨rfl,L0,hS⟩;refine gG 3 ?_;have e9:=hq;rw[Xe l om,Xn,Y3 om,Y7 om]at e9;have e9:=AbL En om e9;refine rd (k+1,AM,st,Q++[(3,0,[])],P++[(3,0,.slice none 0 0)],L0,.slice sa st.length sc,.slice aa Ay.length ac,Ay,J) ⟨om,by rw[Y0];simp;omega,Cp,Gz,IF,hF.app _,hR.snoc _ _ _ _ (B8.nil _),hJ,e9,?_⟩ od;rw[Y0,RR];exact hS
  refine gN 2 ?_ ?_<;>intro uq
  ·refine gN 2 ?_ ?_<;>intro HL
   ·refine gG 4 ?_;have e9:cmp l=.error (24,(k:Int)):=by rw[<-hq,Xe l om,Xn,Y3 om,Y3 om,Y7 om,Y7 om]
    exact .inl ⟨_,_,J,e9,O,hJ,hS.s⟩
   refine gC 2 (Xqx _ P.length _ _ _ _ st Ay _ _ hS om om om) ?_;clear hS;rintro _ w ⟨rfl,L0,D6,ti,vM,hS⟩;refine gG 3 ?_;have e9:=hq;rw[Xe l om,Xn,Y3 om,Y3 om,Y7 om,Y3 om]at e9;have hx:=hR.1;refine rd (k+1,(Q.length,[])::AM,st++[(vM,[(P.length:Int)])],Q++[(4,0,[])],P++[(4,0,.slice none 0 0)],L0,D6,ti,Ay++[(k:Int)],J) ⟨om,by rw[Y0];simp;omega,?_,by simp;omega,by simp[IF],⟨by simp,by simp,by simp,λb hb=>by simp at hb,hF.grow sz sz λi hi E8=>by rw[Y9 hi];exact E8⟩,hR.snoc _ _ _ _ (B8.nil _),hJ,e9,?_⟩ od
   ·simp[Cp,Hb,hx]
   ·simp only[Y0,RR,Ym,jt,Yt,Hm];exact hS
  refine gM 2 ?_ ?_<;>intro HJ dP
  ·refine gT 0 (λHJ dP=>?_);refine gN 2 ?_ ?_<;>intro AaL
   ·refine gG 4 ?_;obtain rfl:AM=[]:=Yf om;have e9:cmp l=.error (10,(k:Int)):=by rw[<-hq,Xe l om,Xn,Y3 om,Y3 om,Y3 om,Y7 om]
    exact .inl ⟨_,_,J,e9,O,hJ,hS.s⟩
   refine gU 2 (λAcj Acs=>?_);refine gG 0 ?_;obtain⟨o,bs,rest,rfl⟩:∃o bs rest,AM=(o,bs)::rest:=by
    cases AM with
    | nil=>exfalso;have:st.length=0:=nh;omega
    | cons f r=>exact⟨f.1,f.2,r,O⟩
   obtain⟨KT,mv,rfl,vp⟩:=Xvt Cp;obtain⟨eh,ek,hf3,hf4,hf5⟩:=id hF;simp only[Ym,Yt,Hm,Y0,jt]at hS
   have hl0:KT.length+1=rest.length+1:=su nh
   have Aax:Ay.length=rest.length+1:=su IF
   have AaZ:rest.length+1<=4:=su Gz
   obtain⟨gs,sc2,rs,nj,vk,vn,Abc,vo,hS⟩:=hS.AP (k:=2) O om;injection nj with nj _ KM;subst nj;subst KM;try dsimp only[List.set]at hS
   have e4:Kk 3 (KT++[(mv,Hb (o,bs))])=Ao ((KT.map λx=>Ar 3 1 x.1 x.2.length (x.2.map Ab))++[Ar 3 1 mv (Hb (o,bs)).length ((Hb (o,bs)).map Ab)]):=by rw[Kk,Ym];rfl
   rw[e4]at hS;replace hS:=hS.pop (k:=4) O;try dsimp only[List.set]at hS
   obtain⟨ma,mc,rfl,hmc,_⟩:=hS.vS 0;have hmk:(Hb (o,bs)).length=bs.length+1:=by simp[Hb]
   have e28:(((KT++[(Value.slice ma (Hb (o,bs)).length mc,Hb (o,bs))]).length:Nat):Int)-1=(KT.length:Int):=by simp
   refine gD [3,1] [22] [0,1,2,3,4,5,6,7,8,9,10,11,12,13,14,15,16,17,18,19,20,21,22] ?_;clear hS;intro w hS;refine gH 13 ?_;refine Br.y 13 (λw _ _ A6 hS=>.lo O hS (k:=0) O QU (v:=Value.slice ma (Hb (o,bs)).length mc) (by rw[e28];simp)) ?_;refine gH 6 ?_;clear hS;intro b86 w hS;refine gH 1 ?_;clear hS;intro a87 c87 AcS w hS;have Ac9:Hb (o,bs++[Q.length])=Hb (o,bs)++[(P.length:Int)]:=by simp[Hb,hR.1]
   refine gH 1 (Br.e ?_);refine .s1 hS (k:=3) O O O O x8 (by rw[e28];simp) ?_;clear hS;intro w hS;try dsimp only[List.set]at hS
   rw[e28,show(KT.length:Int)=((KT.map (·.1)).length:Int)by simp,gy]at hS;replace hS:=hS.Bm (k:=3) (n:=KT.length+1) (cap:=sc) (size:=1) O vk vn sz (su vo);try dsimp only[List.set]at hS
   replace hS:=hS.push (k:=4) O;try dsimp only[List.set]at hS
   replace hS:=hS.say (k:=4) (A':=Kk 3 (KT++[(.slice a87 ((Hb (o,bs)).length+1) c87,Hb (o,bs++[Q.length]))])) O (λh hh=>by rw[Ac9,Kk,Ym];simp only[Yt,Hm,Y0,jt,Ym];exact hh);try dsimp only[List.set]at hS
   refine gC 1 (YV _ P.length _ _ _ _ _ _ _ hS om) ?_;clear hS;rintro _ w ⟨rfl,L0,hS⟩;refine gG 3 ?_;have e9:=hq;rw[Xe l om,Xn,Y3 om,Y3 om,Y3 om,Y7 om]at e9;simp only[]at e9
   have hx:=hR.1;refine rd (k+1,(o,bs++[Q.length])::rest,KT++[(.slice a87 ((Hb (o,bs)).length+1) c87,Hb (o,bs++[Q.length]))],Q++[(5,0,[])],P++[(5,0,.slice none 0 0)],L0,.slice (some (ad gs 0)) (KT.length+1) sc,.slice aa Ay.length ac,Ay,J) ⟨om,by rw[Y0];simp;omega,?_,su Gz,su IF,⟨?_,?_,?_,?_,?_⟩,hR.snoc _ _ _ _ (B8.nil _),hJ,e9,?_⟩ od
   ·simp[vp]
   ·simp;omega
   ·rw[Y9 eh];exact ek
   ·simp;omega
   ·intro b hb;rcases Yn.1 hb with hb|hb
    ·have:=hf4 b hb;simp;omega
    ·simp at hb;subst hb;simp;omega
   ·exact hf5.grow (Yd _) sz λi hi E8=>by rw[Y9 om];exact E8
   ·simp only[Y0,RR,Ym,jt,Yt,Hm];exact hS
  refine gM 2 ?_ ?_<;>intro HJ dP
  ·refine gN 2 ?_ ?_<;>intro AaL
   ·refine gG 4 ?_;obtain rfl:AM=[]:=Yf om;have e9:cmp l=.error (10,(k:Int)):=by rw[<-hq,Xe l om,Xn,Y3 om,Y3 om,Y3 om,Y3 om,Y7 om]
    exact .inl ⟨_,_,J,e9,O,hJ,hS.s⟩
   refine gT 2 (λAcj Acs=>?_);refine gH 1 ?_;obtain⟨o,bs,rest,rfl⟩:∃o bs rest,AM=(o,bs)::rest:=by
    cases AM with
    | nil=>exfalso;have:st.length=0:=nh;omega
    | cons f r=>exact⟨f.1,f.2,r,O⟩
   obtain⟨KT,mv,rfl,vp⟩:=Xvt Cp;obtain⟨eh,ek,hf3,hf4,hf5⟩:=id hF;simp only[Ym,Yt,Hm,Y0,jt]at hS
   have hl0:KT.length+1=rest.length+1:=su nh
   have Aax:Ay.length=rest.length+1:=su IF
   have AaZ:rest.length+1<=4:=su Gz
   refine gC 0 (VA _ _ _ _ mv P Q KT o bs Ay _ hS hR (λb hb=>by have:=hf4 b hb;have hx:=hR.1;omega) (by have hx:=hR.1;omega) 4 0 (hR.vO ek) ek (by have hx:=hR.1;omega) om om om) ?_;clear hS;rintro _ w ⟨rfl,L0,D6,ti,P2,J2,AE,Mx,hS⟩;refine gG 3 ?_;have e9:=hq;rw[Xe l om,Xn,Y3 om,Y3 om,Y3 om,Y3 om,Y7 om]at e9;simp only[]at e9
   have hx:=hR.1;refine rd (k+1,rest,KT,Md Q.length o Q [] bs++[(6,0,[])],P2,L0,D6,ti,Ay.take rest.length,J2) ⟨om,by rw[Y0,zI];simp;omega,vp,by simp at Gz;omega,by simp at IF;simp;omega,hF.close _,by rw[hx]at Mx;exact Mx,hJ.trans AE,e9,?_⟩ od;have e5:(Ay.take rest.length).length=KT.length:=by simp at IF;rw[Yl];omega
   have e6:rest.length=KT.length:=om
   rw[e5,e6];exact hS
  refine gN 2 ?_ ?_<;>intro mN
  ·refine gN 5 ?_ ?_<;>intro AhH
   ·refine gG 4 ?_;have e9:cmp l=.error (10,(k:Int)):=by rw[<-hq,Xe l om,Xn,Y3 om,Y3 om,Y3 om,Y3 om,Y3 om,Y7 om,Yk om]
    exact .inl ⟨_,_,J,e9,O,hJ,hS.s⟩
   refine gC 7 (YV _ P.length _ _ _ _ _ _ _ hS om) ?_;clear hS;rintro _ w ⟨rfl,L0,hS⟩;refine gG 3 ?_;have e9:=hq;rw[Xe l om,Xn,Y3 om,Y3 om,Y3 om,Y3 om,Y3 om,Y7 om,Xe l (k:=k+1) om]at e9;simp only[]at e9
   refine rd (k+2,AM,st,Q++[(0,((at_ l ((k:Int)+1)).toNat:Int),[])],P++[(0,((at_ l ((k:Int)+1)).toNat:Int),.slice none 0 0)],L0,.slice sa st.length sc,.slice aa Ay.length ac,Ay,J) ⟨om,by rw[Y0];simp;omega,Cp,Gz,IF,hF.app _,hR.snoc _ _ _ _ (B8.nil _),hJ,e9,?_⟩ od;rw[Y0,RR];exact hS
  refine gC 2 (YV _ P.length _ _ _ _ _ _ _ hS om) ?_;clear hS;rintro _ w ⟨rfl,L0,hS⟩;refine gG 3 ?_;have e9:=hq;rw[Xe l om,Xn,Y3 om,Y3 om,Y3 om,Y3 om,Y3 om,Y3 om]at e9;refine rd (k+1,AM,st,Q++[(0,((at_ l (k:Int)).toNat:Int),[])],P++[(0,((at_ l (k:Int)).toNat:Int),.slice none 0 0)],L0,.slice sa st.length sc,.slice aa Ay.length ac,Ay,J) ⟨om,by rw[Y0];simp;omega,Cp,Gz,IF,hF.app _,hR.snoc _ _ _ _ (B8.nil _),hJ,e9,?_⟩ od;rw[Y0,RR];exact hS
 refine gN 8 ?_ ?_<;>intro dN
 ·refine gG 0 ?_;obtain⟨b8,c8,r,nj,_,_,_,_,hS⟩:=hS.AP (k:=3) O om;injection nj with nj _ KM;subst nj;subst KM;try dsimp only[List.set]at hS
  refine gQ ?_;clear hS;intro w hS;refine gH 7 (Br.y 7 (λw _ _ A6 hS=>.rB Ab Ay 0 r (.of O) hS (k:=3) O O Cv om om) (gG 3 ?_));have e9:cmp l=.error (23,Ay.getD ((Ay.length:Int)-1).toNat 0):=by rw[<-hq,show((Ay.length:Int)-1).toNat=Ay.length-1 by omega,Yk om,zO,Y7 om]
  exact .inl ⟨_,_,J,e9,O,hJ,hS.s⟩
 refine gC 1 (YV _ _ _ _ _ _ _ _ _ hS om) ?_;clear hS;rintro _ w ⟨rfl,L0,hS⟩;obtain⟨a9,c9,rfl,AaP,_⟩:=hS.vS 1;refine gG 11 ?_;clear hS;intro Ahu w hS;have e9:cmp l=.ok (Q++[(7,0,[])]):=by rw[<-hq,Yk om,zO,Y3 om]
 obtain⟨J2,AE,hrs,hS⟩:=hS.fV 2;try dsimp only[List.eraseIdx]at hS
 obtain⟨J3,BN,GO,hS⟩:=hS.fZ 0;try dsimp only[List.eraseIdx]at hS
 refine .inr ⟨_,_,J3,e9,O,(hJ.trans AE).trans BN,⟨a9,c9,P++[(7,0,.slice none 0 0)],?_,?_,?_,?_⟩,hS.s⟩
 ·refine⟨O,_,_,_,GO,λj u hj=>?_⟩;rw[Y0]at hj;simpa using hj
 ·simpa using AaP
 ·rw[Y0,RR];exact hrs.mono BN
 ·exact((hR.snoc _ _ _ _ (B8.nil _)).mono AE).mono BN
end Go.Proofs.W9
namespace FI
open Go Gk
def qB(k:Int):Bool:=(((k==2)||(k==3))||(k==4))||(k==6)
def Ko(Q:List Pl):Nat->List Bool->Nat->List Bool
 | 0,set,_=>set
 | f+1,set,i=>bif set.getD i false then set else
   bif qB (Q.getD i (7,0,[])).1 then Ko Q f ((Q.getD i (7,0,[])).2.2.foldl (λs t=>Ko Q f s t.toNat) (set.set i true)) (i+1)
   else(Q.getD i (7,0,[])).2.2.foldl (λs t=>Ko Q f s t.toNat) (set.set i true)
def lp(s:List Bool):Nat:=s.countP (λb=>!b)
def DY(s t:List Bool):Prop:=s.length=t.length/\∀i:Nat,s.getD i false=true->t.getD i false=true
theorem DY.refl(s:List Bool):DY s s:=⟨O,λ_ h=>h⟩
theorem DY.trans{s t u:List Bool}(h:DY s t)(k:DY t u):DY s u:=⟨h.1.trans k.1,λi hi=>k.2 i (h.2 i hi)⟩
theorem DY.set(s:List Bool)(i:Nat):DY s (s.set i true):=by
 refine⟨by simp,λj hj=>?_⟩;rw[Ya]at hj ⊢;rw[yB]
 by_cases e:i=j
 ·subst e;have BO:i<s.length:=by
   apply Classical.byContradiction
   intro hn;rw[jr om]at hj;cases hj
  simp[BO]
 ·simpa[e]using hj
theorem Xm5:∀{s t:List Bool},DY s t->lp t<=lp s
 | [],[],_=>Yd _
 | [],_::_,h=>by cases h.1
 | _::_,[],h=>by cases h.1
 | a::s,b::t,h=>by
  have h1:DY s t:=⟨su h.1,λi hi=>by have:=h.2 (i+1) (su hi);simpa using this⟩
  have h2:=Xm5 h1;have h3:=h.2 0;unfold lp at h2 ⊢;cases a<;>cases b<;>simp_all<;>omega
theorem Xq1:∀{s:List Bool} {i:Nat},i<s.length->s.getD i false=false->lp (s.set i true)+1=lp s
 | [],_,h,_=>by simp at h
 | a::s,0,_,h=>by simp at h;subst h;simp[lp]
 | a::s,i+1,h,h2=>by
  have:=Xq1 (s:=s) (i:=i) (su h) (su h2)
  unfold lp at this ⊢;cases a<;>simp_all
theorem zU(Q:List Pl):∀(f:Nat) (s:List Bool) (i:Nat),DY s (Ko Q f s i)
 | 0,s,_=>DY.refl s
 | f+1,s,i=>by
  have fold:∀(l:List Int) (s:List Bool),DY s (l.foldl (λs t=>Ko Q f s t.toNat) s):=by
   intro l
   induction l with
   | nil=>intro s;exact DY.refl s
   | cons x l ih=>intro s;exact(zU Q f s x.toNat).trans (ih _)
  rw[Ko];cases s.getD i false
  ·cases qB (Q.getD i (7,0,[])).1
   ·exact(DY.set s i).trans (fold _ _)
   ·exact((DY.set s i).trans (fold _ _)).trans (zU Q f _ _)
  ·exact DY.refl s
theorem Xu7(Q:List Pl)(f:Nat):∀(l:List Int) (s:List Bool),DY s (l.foldl (λs t=>Ko Q f s t.toNat) s)
 | [],s=>DY.refl s
 | x::l,s=>(zU Q f s x.toNat).trans (Xu7 Q f l _)
def WF(Q:List Pl):Prop:=∀(i:Nat) (q:Pl),Q[i]?=some q->(∀t∈q.2.2,0<=t/\t<(Q.length:Int))/\(qB q.1=true->i+1<Q.length)/\(0<=q.1/\q.1<=7)/\(q.1≠7->i+1<Q.length)/\q.2.2.length<=Q.length
theorem YI(f:β->α->β)(b:β)(l:List α)(k:Nat)(d:α)(h:k<l.length):(l.take (k+1)).foldl f b=f ((l.take k).foldl f b) (l.getD k d):=by
 rw[List.take_succ_eq_append_getElem h,Lm];simp[Ya,h]
theorem WF.at_{Q:List Pl}(h:WF Q)(hi:i<Q.length):(∀t∈(Q.getD i (7,0,[])).2.2,0<=t/\t<(Q.length:Int))/\(qB (Q.getD i (7,0,[])).1=true->i+1<Q.length)/\(0<=(Q.getD i (7,0,[])).1/\(Q.getD i (7,0,[])).1<=7)/\((Q.getD i (7,0,[])).1≠7->i+1<Q.length)/\(Q.getD i (7,0,[])).2.2.length<=Q.length:=by
 have e:Q[i]?=some (Q.getD i (7,0,[])):=by simp[Ya,hi]
 exact h i _ e
def Zc(k c:Int)(b:Ui):Bool:=bif k==0 then c==(b.toNat:Int)else bif (k==1)||(k==3)then(b.toNat:Int)!=47 else k==2
def Kl(Q:List Pl)(F:Nat)(c:Ui)(now:List Bool)(st:List Bool×Bool×Nat)(k:Nat):List Bool×Bool×Nat :=
 bif now.getD k false then
  bif Zc (Q.getD k (7,0,[])).1 (Q.getD k (7,0,[])).2.1 c then
   (Ko Q F st.1 (bif ((Q.getD k (7,0,[])).1==2)||((Q.getD k (7,0,[])).1==3)then k else k+1),true,st.2.2+1)
  else(st.1,st.2.1,st.2.2+1)
 else st
def QG(Q:List Pl)(F:Nat)(c:Ui)(now:List Bool)(steps:Nat):List Bool×Bool×Nat:=iter (Kl Q F c now) (List.replicate Q.length false,false,steps) Q.length
def gu(Q:List Pl)(F:Nat):List UInt8->List Bool->Nat->List Bool×Nat
 | [],now,st=>(now,st)
 | c::r,now,st=>bif (QG Q F c now st).2.1 then gu Q F r (QG Q F c now st).1 (QG Q F c now st).2.2 else((QG Q F c now st).1,(QG Q F c now st).2.2)
def run(Q:List Pl)(l:Lu):List Bool×Nat:=gu Q (Q.length+1) l (Ko Q (Q.length+1) (List.replicate Q.length false) 0) 1
theorem Xss(Q:List Pl)(F:Nat)(c:Ui)(now:List Bool)(st:List Bool×Bool×Nat)(k:Nat):st.2.2<=(Kl Q F c now st k).2.2/\(Kl Q F c now st k).2.2<=st.2.2+1:=by
 unfold Kl;cases now.getD k false<;>cases Zc (Q.getD k (7,0,[])).1 (Q.getD k (7,0,[])).2.1 c<;>simp
theorem XY(Q:List Pl)(F:Nat)(c:Ui)(now:List Bool)(st:List Bool×Bool×Nat)(k:Nat):(Kl Q F c now st k).1.length=st.1.length:=by
 unfold Kl;cases now.getD k false<;>cases Zc (Q.getD k (7,0,[])).1 (Q.getD k (7,0,[])).2.1 c<;>simp
 exact(zU Q F _ _).1.symm
theorem Xav(Q:List Pl)(F:Nat)(c:Ui)(now:List Bool)(st:List Bool×Bool×Nat):∀k,(iter (Kl Q F c now) st k).1.length=st.1.length/\st.2.2<=(iter (Kl Q F c now) st k).2.2/\(iter (Kl Q F c now) st k).2.2<=st.2.2+k
 | 0=>⟨O,Yd _,Yd _⟩
 | k+1=>by
  have h:=Xav Q F c now st k;have h1:=Xss Q F c now (iter (Kl Q F c now) st k) k;have h2:=XY Q F c now (iter (Kl Q F c now) st k) k;rw[iter];omega
theorem At.sub{us:Lv}(h:At I p vs)(hu:∀(j:Nat) (v:Va),us[j]?=some v->vs[j]?=some v):At I p us:=by
 obtain⟨h1,arr,E,fr,h2,h3⟩:=h;exact⟨h1,arr,E,fr,h2,λj v hj=>h3 j v (hu j v hj)⟩
theorem At.place{la:Addr}{P:List Hk}{x:Hk}(h:At I la (P.flatMap AD))(hx:P[i]?=some x):At I (la.add (i*3)) [.int .u8 x.1,.int .u8 x.2.1,x.2.2]:=by
 refine At.sub (h.add (i*3)) λj v hj=>?_
 have hl:j<3:=by have:=(Y1.1 hj).1;simpa using this
 rw[U6]
 have:=Xko AD 3 se P [] i j x hx hl
 rw[Yr]at this;rw[this];exact hj
theorem Gm.opened{Q:List Pl}(h:Gm I p Q n)(hQ:0<Q.length):∃la c P,At I p [.slice (some la) Q.length c,Ab n]/\At I la (P.flatMap AD)/\DH I P Q:=by
 obtain⟨a,c,P,h1,h2,h3,h4⟩:=h;obtain⟨la,rfl,h5⟩:=h3.2 (by rw[h4.1];exact hQ);exact⟨la,c,P,by rw[<-h4.1];exact h1,h5,h4⟩
theorem DH.at_{P:List Hk}{Q:List Pl}(h:DH I P Q)(hi:i<Q.length):∃xa xc,P[i]?=some ((Q.getD i (7,0,[])).1,(Q.getD i (7,0,[])).2.1,.slice xa (Q.getD i (7,0,[])).2.2.length xc)/\∃xp,0<(Q.getD i (7,0,[])).2.2.length->xa=some xp/\At I xp ((Q.getD i (7,0,[])).2.2.map Ab):=by
 have e:Q[i]?=some (Q.getD i (7,0,[])):=by simp[Ya,hi]
 obtain⟨⟨p1,p2,p3⟩,hp⟩:∃p,P[i]?=some p:=⟨_,Y2 (by rw[h.1];exact hi)⟩
 obtain⟨a,b,_,xa,xc,h1,_,h2⟩:=h.2 i _ _ hp e;simp only at a b h1
 subst a;subst b;subst h1;refine⟨xa,xc,hp,?_⟩
 by_cases h0:0<(Q.getD i (7,0,[])).2.2.length
 ·obtain⟨xp,rfl,h3⟩:=h2.2 h0;exact⟨xp,λ_=>⟨O,h3⟩⟩
 ·exact⟨ad 0 0,λh=>Yy h h0⟩
end FI
namespace Go.Proofs.W9
open Gk FI
open Tryz
theorem V3{l:List Int}(h:k<l.length):l.getD k 0∈l:=by
 rw[Ya,Y2 h];exact Zw h
theorem Xgx(l:List Bool):lp l<=l.length:=List.countP_le_length
theorem Xo9:prog.info? 4=some t4:=by kernel_rfl
theorem Xqu(Q:List Pl)(p:Addr)(nn n:Nat)(hW:WF Q)(hn:Q.length=n)(My:n<=100000):∀(f:Nat) (set:List Bool) (i:Int) (b c:Nat) (r:Lv) (B w:Wo) (I:Im) (As:La),
  Aa B w I (Ae b (set.map Value.bool++r) 4::As)->Gm I p Q nn->set.length=n->0<=i->i<n->lp set<f->
  Ce B I (Ae b ((Ko Q f set i.toNat).map Value.bool++r) 4::As) 444 [.pointer (some p),.slice (some (ad b 0)) n c,Ab i] w (.tuple #[]):=by
 intro f
 induction f with
 | zero=>intros;omega
 | succ f ih =>
  intro set i b c r B w I As hS hp BA hi0 mR hf;refine gH 3 (.val (.rB .bool set false r (.of O) hS (k:=0) O O I8 om om) O ?_);refine gM 0 ?_ ?_<;>intro Bu B_
  ·exact gG 0 ⟨O,by rw[Ko,Bu];exact hS⟩
  refine gH 3 (.stE .bool set r (u:=true) hS (k:=0) O (.of O) (.of O) O O EY om om ?_);clear hS;intro w hS;dsimp only[List.set]at hS;refine gG 0 ?_;obtain⟨la,lc,P,zd,hlA,hR⟩:=hp.opened om;obtain⟨xa,xc,hx,xp,hxp⟩:=hR.at_ (i:=i.toNat) om;have ni:=Xq1 (s:=set) (i:=i.toNat) om Bu;have hto:=(hW.at_ (i:=i.toNat) om).2.2.2.2;refine gH 3 (.val (.Ca (.of O) hS zd MN O) O (gH 2 (.val (.Cy (us:=[_,_,_]) (.of O) hS (FI.At.place hlA hx) isAgg497 Q4 O (λ_ _ h=>h)) O (gG 6 ?_))));clear hS;intro b6 w hS;refine .lk [0,1,2,6,24,25] (σ:=Nat) (λk _m=>(26,Ab (k:Nat))::_m) (λk w=>k<=(Q.getD i.toNat (7,0,[])).2.2.length/\Aa B w I (Ae b6 [.int .u8 (Q.getD i.toNat (7,0,[])).1,.int .u8 (Q.getD i.toNat (7,0,[])).2.1,.slice xa (Q.getD i.toNat (7,0,[])).2.2.length xc] 497::Ae b ((((Q.getD i.toNat (7,0,[])).2.2.take k).foldl (λs t=>Ko Q f s t.toNat) (set.set i.toNat true)).map Value.bool++r) 4::As)) (λk=>(Q.getD i.toNat (7,0,[])).2.2.length-k) 0 ⟨Y4 _,hS⟩ ?_;rintro k w ⟨hk,hS⟩;have Qt:=Xu7 Q f ((Q.getD i.toNat (7,0,[])).2.2.take k) (set.set i.toNat true);obtain⟨S1,BW⟩:∃S1,S1=((Q.getD i.toNat (7,0,[])).2.2.take k).foldl (λs t=>Ko Q f s t.toNat) (set.set i.toNat true):=⟨_,O⟩
  rw[<-BW]at hS Qt;refine gN 1 ?_ ?_<;>intro JP
  ·refine gG 0 ?_;obtain⟨AdA,hxA⟩:=hxp om;rw[AdA]at hS ⊢;refine gG 0 ?_
   first|refine .val (.io O O om om sJ BU) O ?_|refine .val (.ii O O om om sJ BU) O ?_
   refine .val (.vF Ab (Q.getD i.toNat (7,0,[])).2.2 0 (.of O) hS hxA O Cv om om) O (gH 4 ?_);replace hS:=hS.pick 1 O;try dsimp only[List.eraseIdx]at hS
   have ht:=(hW.at_ (i:=i.toNat) om).1 ((Q.getD i.toNat (7,0,[])).2.2.getD k 0) (V3 om);refine gC 0 (ih S1 ((Q.getD i.toNat (7,0,[])).2.2.getD k 0) b c r B w I _ hS hp (by have:=Qt.1;simp at this;omega) ht.1 om (oh (Xm5 Qt))) ?_;clear hS;rintro _ w ⟨rfl,hS⟩;replace hS:=hS.pick 1 O;try dsimp only[List.eraseIdx]at hS
   refine gG 2 (rd (k+1) ⟨om,?_⟩);rw[YI _ _ _ _ 0 om,<-BW];exact hS
  refine gH 14 ?_;refine gM 4 ?_ ?_<;>intro LK HL
  ·refine gH 4 ?_;replace hS:=hS.drop (k:=0) O;try dsimp only[List.eraseIdx]at hS
   rw[Yg om]at BW;have hsk:qB (Q.getD i.toNat (7,0,[])).1=true:=LK;have y_:=(hW.at_ (i:=i.toNat) om).2.1 hsk;refine gC 0 (ih S1 (i+1) b c r B w I _ hS hp (by have:=Qt.1;simp at this;omega) om om (oh (Xm5 Qt))) ?_;clear hS;rintro _ w ⟨rfl,hS⟩;refine gG 0 (⟨O,?_⟩);rw[Ko,B_,hsk];simp only[cond_true,cond_false];rw[<-BW];rw[show(i+1).toNat=i.toNat+1 by omega]at hS;exact hS
  refine gG 0 ?_;have hsk:qB (Q.getD i.toNat (7,0,[])).1=false:=LK;replace hS:=hS.drop (k:=0) O;try dsimp only[List.eraseIdx]at hS
  rw[Yg om]at BW;refine⟨O,?_⟩;rw[Ko,B_,hsk];simp only[cond_true,cond_false];rw[<-BW];exact hS
theorem cU(k c:Int)(b:Ui)(v:Va)(As:La)(hS:Aa B w I As):Ce B I As 445 [.agg #[.int .u8 k,.int .u8 c,v],U8 b.toNat] w (.bool (Zc k c b)):=by
 refine gG 6 ?_;clear hS;intro b2 w hS;refine gM 0 ?_ ?_<;>intro KG hc7
 ·exact gG 5 ⟨by rw[Zc,KG];first|done|rfl,hS.s⟩
 refine gM 2 ?_ ?_<;>intro FV DP
 ·refine gM 0 ?_ ?_<;>intro FV DP
  ·exact gG 3 ⟨by rw[Zc,KG,FV];first|done|rfl,hS.s⟩
  refine gH 4 (.nil (.ret ?_));refine λ_ A5=>RN A5 O ?_
  exfalso;simp_all
 refine gM 2 ?_ ?_<;>intro FV DP
 ·exact gG 3 ⟨by rw[Zc,KG,show(k==1)=false by assumption,FV];first|done|rfl,hS.s⟩
 exact gG 4 ⟨by rw[Zc,KG,show(k==1)=false by assumption,FV];first|done|rfl,hS.s⟩
theorem oM(Q:List Pl)(p:Addr)(nn:Nat)(s:Lu)(hW:WF Q)(hQ:0<Q.length)(My:Q.length<=1000)(hnn:nn<=1000)(hs:s.length<=1000000)(As:La)(hS:Aa B w I As)(hp:Gm I p Q nn):Ce B I As 421 [.pointer (some p),S s] w (.tuple #[.bool ((FI.run Q s).1.getD (Q.length-1) false),Ab (min ((FI.run Q s).2:Int) (((nn:Int)+1)*((s.length:Int)+1)))]):=by
 obtain⟨la,lc,P,zd,hlA,hR⟩:=hp.opened om;refine gH 7 ?_;refine .make (l:=Q.length) hS (.of O) (.of O) MR Xo9 O (by simp[t4]<;>omega) om O O O ?_;clear hS;intro qM w hS;refine gH 4 ?_;have MA:=Xgx (List.replicate Q.length false);rw[js]at MA;replace hS:Aa B w I (Ae qM ((List.replicate Q.length false).map Value.bool++[]) 4::As):=by rw[List.map_replicate,Yr];exact hS
 refine gC 0 (Xqu Q p nn Q.length hW O om (Q.length+1) (List.replicate Q.length false) 0 qM _ [] B w I As hS hp sz om om om) ?_;clear hS;rintro _ w ⟨rfl,hS⟩;refine .nil (.seq (.label ?_));refine .ck [0,1] (σ:=List Bool×Nat×Nat) (λ(now,steps,bn) _m=>(6,.slice (some (ad bn 0)) Q.length Q.length)::(7,Ab (steps:Nat))::_m) (λ(now,steps,bn) w=>now.length=Q.length/\(now,steps)=FI.run Q s/\Aa B w I (Ae bn (now.map Value.bool++[]) 4::As)) ?_ ?_
 ·refine gG 3 ?_;refine .lk [0,1,24] (σ:=List Bool×Nat×Nat×Nat) (λ(now,C3,bn,i) _m=>(6,.slice (some (ad bn 0)) Q.length Q.length)::(7,Ab (C3:Nat))::(25,Ab (i:Nat))::_m) (λ(now,C3,bn,i) w=>i<=s.length/\now.length=Q.length/\C3<=1+i*1000/\gu Q (Q.length+1) (s.drop i) now C3=FI.run Q s/\Aa B w I (Ae bn (now.map Value.bool++[]) 4::As)) (λ(now,C3,bn,i)=>s.length-i) (Ko Q (Q.length+1) (List.replicate Q.length false) 0,1,qM,0) ⟨Y4 _,by rw[<-(zU Q _ _ _).1];simp,om,O,hS⟩ ?_;rintro⟨now,C3,bn,i⟩ w ⟨hi,u5,Ads,DR,hS⟩;have Ac5:=Xav Q (Q.length+1) (at_ s (i:Int)) now (List.replicate Q.length false,false,C3);refine gN 1 ?_ ?_<;>intro LM
  ·refine gH 5 (.val (.Ca (.of O) hS zd MN O) O (gH 1 ?_));refine .make (l:=Q.length) hS (.of O) (.of O) MR Xo9 O (by simp[t4]<;>omega) om O O O ?_;clear hS;intro tm w hS;refine gG 5 ?_;refine .lk [0,1,8,9,24,25,34,35] (σ:=List Bool×Bool×Nat×Nat) (λ(next,any,steps,k) _m=>(7,Ab (steps:Nat))::(10,.bool any)::(36,Ab (k:Nat))::_m) (λ(next,any,steps,k) w=>k<=Q.length/\iter (Kl Q (Q.length+1) (at_ s (i:Int)) now) (List.replicate Q.length false,false,C3) k=(next,any,steps)/\Aa B w I (Ae tm (next.map Value.bool++[]) 4::Ae bn (now.map Value.bool++[]) 4::As)) (λ(next,any,steps,k)=>Q.length-k) (List.replicate Q.length false,false,C3,0) ⟨Y4 _,O,by rw[List.map_replicate,Yr];exact hS⟩ ?_;rintro⟨next,any,steps,k⟩ w ⟨hk,hit,hS⟩;have mS:=Ac5 k;rw[hit]at mS;simp only[js]at mS;refine gN 1 ?_ ?_<;>intro Wr
   ·refine gH 1 ?_
    first|refine .val (.io O O om om MR EY) O ?_|refine .val (.ii O O om om MR EY) O ?_
    refine .val (.rB .bool now false [] (.of O) hS (k:=1) O O I8 om om) O ?_;refine gM 4 ?_ ?_<;>intro En JR
    ·refine gG 2 ?_;have AaA:now.getD k false=false:=su En
     have e9:Kl Q (Q.length+1) (at_ s (i:Int)) now (next,any,steps) k=(next,any,steps):=by rw[Kl,AaA];rfl
     refine rd (next,any,steps,k+1) ⟨om,by rw[iter,hit,e9],hS⟩ od
    refine gG 3 ?_;have hnk:now.getD k false=true:=su En
    obtain⟨xa,xc,hx,_⟩:=hR.at_ (i:=k) om;refine gH 3 (.val (.Ca (.of O) hS zd MN O) O (gH 2 (.val (.Cy (us:=[_,_,_]) (.of O) hS (FI.At.place hlA hx) isAgg497 Q4 O (λ_ _ h=>h)) O (gG 2 ?_))));clear hS;intro qL w hS;refine .qt hS (.val (λw hS=>.GG (vs:=[.int .u8 (Q.getD k (7,0,[])).1,.int .u8 (Q.getD k (7,0,[])).2.1,.slice xa (Q.getD k (7,0,[])).2.2.length xc]) (.of O) hS (k:=0) O isAgg497 Q4 O (λj v h=>by simpa using h)) O (.val (λw hS=>(.mo O)) O (.val (λw hS=>(.mo O)) O (.val (λw hS=>(.index (.of O) (.of O) om om BV)) O (.call func445 O (Be O (Be O X4)) O (λw hS=>cU _ _ _ _ _ hS) (.val (λw hS=>(.not (.of O))) O (.nil ?_)))))));clear hS;intro w hS;refine gM 0 ?_ ?_<;>intro HJ dP
    ·refine gG 2 ?_;have hnk:now.getD k false=true:=su En
     have uS:Zc (Q.getD k (7,0,[])).1 (Q.getD k (7,0,[])).2.1 (at_ s (i:Int))=false:=su HJ
     replace hS:=hS.drop (k:=0) O;try dsimp only[List.eraseIdx]at hS
     have e9:Kl Q (Q.length+1) (at_ s (i:Int)) now (next,any,steps) k=(next,any,steps+1):=by rw[Kl,hnk,uS];rfl
     refine rd (next,any,steps+1,k+1) ⟨om,by rw[iter,hit,e9],hS⟩ od
    refine gM 9 ?_ ?_<;>intro AaD AhB
    ·refine gH 3 ?_;have uS:Zc (Q.getD k (7,0,[])).1 (Q.getD k (7,0,[])).2.1 (at_ s (i:Int))=true:=su HJ
     replace hS:=hS.pick 1 O;try dsimp only[List.eraseIdx]at hS
     have MA:=Xgx next;refine gC 0 (Xqu Q p nn Q.length hW O om (Q.length+1) next k tm _ [] B w I _ hS hp om om om om) ?_;clear hS;rintro _ w ⟨rfl,hS⟩;refine gG 2 ?_;have Cp:((Q.getD k (7,0,[])).1==2||(Q.getD k (7,0,[])).1==3)=true:=AaD;replace hS:=hS.drop (k:=1) O;try dsimp only[List.eraseIdx]at hS
     have e9:Kl Q (Q.length+1) (at_ s (i:Int)) now (next,any,steps) k=(Ko Q (Q.length+1) next k,true,steps+1):=by rw[Kl,hnk,uS,Cp];rfl
     refine rd (Ko Q (Q.length+1) next k,true,steps+1,k+1) ⟨om,by rw[iter,hit,e9],hS⟩ od
    refine gH 4 ?_;have uS:Zc (Q.getD k (7,0,[])).1 (Q.getD k (7,0,[])).2.1 (at_ s (i:Int))=true:=su HJ
    have hk7:=(hW.at_ (i:=k) om).2.2.2.1 (λe=>by rw[e,Zc]at uS;simp at uS);replace hS:=hS.pick 1 O;try dsimp only[List.eraseIdx]at hS
    have MA:=Xgx next;refine gC 0 (Xqu Q p nn Q.length hW O om (Q.length+1) next (k+1) tm _ [] B w I _ hS hp om om om om) ?_;clear hS;rintro _ w ⟨rfl,hS⟩;refine gG 2 ?_;have Cp:((Q.getD k (7,0,[])).1==2||(Q.getD k (7,0,[])).1==3)=false:=AaD;replace hS:=hS.drop (k:=1) O;try dsimp only[List.eraseIdx]at hS
    have e9:Kl Q (Q.length+1) (at_ s (i:Int)) now (next,any,steps) k=(Ko Q (Q.length+1) next (k+1),true,steps+1):=by rw[Kl,hnk,uS,Cp];rfl
    refine rd (Ko Q (Q.length+1) next (k+1),true,steps+1,k+1) ⟨om,by rw[iter,hit,e9],hS⟩ od
   refine gM 4 ?_ ?_<;>intro Acl Acv
   ·refine gG 0 ?_;have hkq:k=Q.length:=om
    subst hkq;have hB:QG Q (Q.length+1) (at_ s (i:Int)) now C3=(next,any,steps):=hit;replace hS:=hS.drop (k:=1) O;try dsimp only[List.eraseIdx]at hS
    rw[Xe s om,gu,hB]at DR;rw[Acv]at DR;exact cd (next,steps,tm) ⟨mS.1,DR,hS⟩
   refine gG 2 ?_;have hkq:k=Q.length:=om
   subst hkq;have hB:QG Q (Q.length+1) (at_ s (i:Int)) now C3=(next,any,steps):=hit;replace hS:=hS.drop (k:=1) O;try dsimp only[List.eraseIdx]at hS
   rw[Xe s om,gu,hB]at DR;have mD:any=true:=su Acl
   rw[mD]at DR;exact rd (next,steps,tm,i+1) ⟨om,mS.1,om,DR,hS⟩ od
  refine gG 0 ?_;rw[Yk om]at DR;exact cd (now,C3,bn) ⟨u5,DR,hS⟩
 rintro⟨now,steps,bn⟩ w ⟨u5,DR,hS⟩;refine gG 0 ?_;have hm1:((nn:Int)+1)*((s.length:Int)+1)<=1001*1000001:=Int.mul_le_mul om om om om;have hm0:0<=((nn:Int)+1)*((s.length:Int)+1):=Int.mul_nonneg om om;have hmul:Ic (((nn:Int)+1)*((s.length:Int)+1)):=⟨om,om⟩
 refine gQ ?_;clear hS;intro w hS;refine gH 4 (Br.y 4 (λw _ _ A6 hS=>.Ca (.of O) hS (zd.mono A6) MN O) (gH 3 (Br.y 8 (λw _ _ A6 hS=>.rB .bool now false [] (.of O) hS (k:=0) O O I8 om om) (gH 4 (Br.y 13 (λw _ _ A6 hS=>.Ca (.of O) hS ((zd.add 1).mono A6) Cv O) (gH 4 (Br.y 18 (λw _ _ A6 hS=>.mul (.of O) (.of O) hmul) ?_)))))));exact gG 3 ⟨by rw[<-DR,show((Q.length:Int)-1).toNat=Q.length-1 by omega],hS.s⟩
end Go.Proofs.W9
namespace FI
open Go Gk
inductive Pt
 | nil
 | lit (k c:Int) (r:Pt)
 | KA (r:Pt)
 | H8 (b r:Pt)
namespace Pt
def len:Pt->Nat
 | nil=>0
 | lit _ _ r=>len r+1
 | KA r=>len r+1
 | H8 b r=>len b+len r+2
def dep:Pt->Nat
 | nil=>0
 | lit _ _ r=>dep r
 | KA r=>dep r
 | H8 b r=>max (dep b+1) (dep r)
def flat:Pt->Prop
 | nil=>True
 | lit _ _ r=>flat r
 | KA _=>False
 | H8 _ r=>flat r
def app:Pt->Pt->Pt
 | nil,q=>q
 | lit k c r,q=>lit k c (app r q)
 | KA r,q=>KA (app r q)
 | H8 b r,q=>H8 b (app r q)
def Jt:Pt->Nat->List Int
 | nil,_=>[]
 | lit _ _ r,n=>Jt r (n+1)
 | KA r,n=>((n:Int)+1)::Jt r (n+1)
 | H8 b r,n=>Jt r (n+2+len b)
def marks:Pt->Nat->List Nat
 | nil,_=>[]
 | lit _ _ r,n=>marks r (n+1)
 | KA r,n=>n::marks r (n+1)
 | H8 b r,n=>marks r (n+2+len b)
def EL(es:List Int):Pt->Nat->List Pl
 | nil,_=>[]
 | lit k c r,n=>(k,c,[])::EL es r (n+1)
 | KA r,n=>(5,0,es)::EL es r (n+1)
 | H8 b r,n=>(4,0,Jt b (n+1))::(EL [((n+1+len b:Nat):Int)] b (n+1)++(6,0,[])::EL es r (n+2+len b))
theorem aN:∀(p:Pt) (es:List Int) (n:Nat),(EL es p n).length=p.len
 | nil,_,_=>rfl
 | lit _ _ r,es,n=>by simp[EL,len,aN r]
 | KA r,es,n=>by simp[EL,len,aN r]
 | H8 b r,es,n=>by simp[EL,len,aN b,aN r];omega
end Pt
open Pt
inductive FK:List UInt8->Pt->Prop
 | nil:FK [] .nil
 | one {l p}:FK l p->FK (63::l) (.lit 1 0 p)
 | all {l p}:FK l p->FK (42::42::l) (.lit 2 0 p)
 | jD {l p}:l.head?≠some 42->FK l p->FK (42::l) (.lit 3 0 p)
 | H8 {t l b p}:FK t b->FK l p->FK (40::(t++41::l)) (.H8 b p)
 | KA {l p}:FK l p->FK (124::l) (.KA p)
 | Ea {l p} (c:UInt8):FK l p->FK (92::c::l) (.lit 0 (c.toNat:Int) p)
 | byte {l p} (c:UInt8):c≠63->c≠42->c≠40->c≠124->c≠41->c≠92->FK l p->FK (c::l) (.lit 0 (c.toNat:Int) p)
def bm:List Jw->List Nat->List Jw
 | [],_=>[]
 | (o,bs)::r,ms=>(o,bs++ms)::r
theorem Vb(o:Nat)(bs:List Nat)(r:List Jw)(ms:List Nat):bm ((o,bs)::r) ms=(o,bs++ms)::r:=rfl
theorem bo(s:List Jw):bm s []=s:=by cases s<;>simp[bm]
theorem X6z{A B:List Pl}(h:o<A.length)(xs:List Int):Ga (A++B) o xs=Ga A o xs++B:=by
 unfold Ga;refine U7 λi=>?_
 rw[Zt,sV,sV,List.length_modify,Zt]
 by_cases e:o=i
 ·subst e;simp[h]
 ·simp[e]
theorem Xgp(A:List Pl)(k c:Int)(d xs:List Int)(B:List Pl):Ga (A++(k,c,d)::B) A.length xs=A++(k,c,xs)::B:=by
 unfold Ga;refine U7 λi=>?_
 rw[Zt]
 by_cases e:A.length=i
 ·subst e;simp
 ·simp[e]
  rcases C5 i A.length with hi|hi
  ·rw[Y9 hi,Y9 hi]
  ·obtain⟨j,rfl⟩:∃j,i=A.length+(j+1):=⟨i-A.length-1,om⟩
   rw[Yq om,Yq om]
   simp
theorem Xsv{A:List Pl}{k c:Int}{d:List Int}(h:A[o]?=some (k,c,d)):Ga A o d=A:=by
 unfold Ga;refine U7 λi=>?_
 rw[Zt]
 by_cases e:o=i
 ·subst e;simp[h]
 ·simp[e]
theorem Xpp(A:List Pl)(o:Nat)(x y:List Int):Ga (Ga A o x) o y=Ga A o y:=by
 unfold Ga;refine U7 λi=>?_
 rw[Zt,Zt,Zt]
 by_cases e:o=i
 ·subst e;simp[Option.map_map,Function.comp_def]
 ·simp[e]
theorem X8p(A:List Pl)(o:Nat)(x:List Int):(Ga A o x).length=A.length:=by simp[Ga]
theorem X6j(n o:Nat):∀(p:Pt) (A:List Pl) (k c:Int) (d:List Int),A[o]?=some (k,c,d)->
  Md n o (A++EL [] p A.length) d (marks p A.length)=Ga A o (d++Jt p A.length)++EL [(n:Int)] p A.length
 | .nil,A,k,c,d,h=>by simp[EL,marks,Md,Jt,Xsv h]
 | .lit k' c' r,A,k,c,d,h=>by
  have ho:o<A.length:=(Y1.1 h).1;have ih:=X6j n o r (A++[(k',c',[])]) k c d (by rw[Y9 ho];exact h);rw[Y0,X6z ho]at ih;simpa[EL,marks,Jt]using ih
 | .KA r,A,k,c,d,h=>by
  have ho:o<A.length:=(Y1.1 h).1;have ih:=X6j n o r (Ga A o (d++[(A.length:Int)+1])++[(5,0,[(n:Int)])]) k c (d++[(A.length:Int)+1]) (by
   rw[Y9 (by rw[X8p];exact ho)];simp[Ga,h])
  rw[Y0,X8p,X6z (by rw[X8p];exact ho),Xpp]at ih;rw[marks,Md,EL,X6z ho];have e:=Xgp (Ga A o (d++[(A.length:Int)+1])) 5 0 [] [(n:Int)] (EL [] r (A.length+1));rw[X8p]at e;rw[e];simpa[EL,Jt]using ih
 | .H8 b r,A,k,c,d,h=>by
  have ho:o<A.length:=(Y1.1 h).1;have ih:=X6j n o r (A++((4,0,Jt b (A.length+1))::(EL [((A.length+1+len b:Nat):Int)] b (A.length+1)++[(6,0,[])]))) k c d (by rw[Y9 ho];exact h);have e:(A++((4,0,Jt b (A.length+1))::(EL [((A.length+1+len b:Nat):Int)] b (A.length+1)++[(6,0,[])]))).length=A.length+2+len b:=by
   simp[aN];omega
  rw[e,X6z ho]at ih;simpa[EL,marks,Jt]using ih
theorem uL{l rest:Lu}(h:l.head?≠some 42)(h2:l=[]->rest.head?≠some 42):(l++rest).head?≠some 42:=by
 cases l with
 | nil=>exact h2 O
 | cons y l=>exact h
theorem Xx8{l:Lu}(h:l.head?≠some 42)(i:Int)(Q:List Pl)(AM:List Jw)(Ay:List Int):A1 (42::l) i Q AM Ay=A1 l (i+1) (Q++[(3,0,[])]) AM Ay:=by
 rw[Xn,Y3 de,Y7 de];cases l with
 | nil=>rfl
 | cons d r =>
  have hd:¬ d.toNat=42:=λe=>h (by rw[List.head?_cons];exact Y5 _ (JH.1 e))
  simp only[hd,if_false]
theorem xt{c:Ui}{n:Ui}(h:c≠n):¬ c.toNat=n.toNat:=λe=>h (JH.1 e)
theorem VB{l:Lu}{p:Pt}(h:FK l p):∀(rest:Lu) (i:Int) (Q:List Pl) (AM:List Jw) (Ay:List Int),(l.getLast?=some 42->rest.head?≠some 42)->(p.flat\/AM≠[])->Ay.length=AM.length->AM.length<=4->
  (p.dep+AM.length<=4->A1 (l++rest) i Q AM Ay=A1 rest (i+l.length) (Q++EL [] p Q.length) (bm AM (marks p Q.length)) Ay)/\(4<p.dep+AM.length->∀X,A1 (l++rest) i Q AM Ay≠.ok X):=by
 have sub:∀{x:Ui} {l rest:Lu},((x::l).getLast?=some 42->rest.head?≠some 42)->l.getLast?=some 42->rest.head?≠some 42:=by
  intro x l rest h1 h2;refine h1 ?_;cases l with
  | nil=>simp at h2
  | cons y l=>simpa using h2
 have Ahc:∀{t l rest:Lu},((t++41::l).getLast?=some 42->rest.head?≠some 42)->l.getLast?=some 42->rest.head?≠some 42:=by
  intro t l rest h1 h2;refine h1 ?_;rw[List.getLast?_append];cases l with
  | nil=>simp at h2
  | cons y l=>simp at h2 ⊢;simp[h2]
 induction h with
 | nil=>intro rest i Q AM Ay _ _ _ h4;simp[EL,marks,bo,dep];intro hh;omega
 | @one l p _ ih =>
  intro rest i Q AM Ay hs hf ha h4
  have:=ih rest (i+1) (Q++[(1,0,[])]) AM Ay (sub hs) hf ha h4
  rw[Yz,Xn,Y7 (show(63:Ui).toNat=63 by decide)];simpa[EL,marks,dep,Int.add_assoc,Int.add_comm,Int.add_left_comm]using this
 | @all l p _ ih =>
  intro rest i Q AM Ay hs hf ha h4
  have:=ih rest (i+2) (Q++[(2,0,[])]) AM Ay (sub (sub hs)) hf ha h4
  rw[Yz,Xn,Y3 (show ¬ (42:Ui).toNat=63 by decide),Y7 (show(42:Ui).toNat=42 by decide)];simp only[Yz]
  rw[Y7 (show(42:Ui).toNat=42 by decide)];rw[show i+((42::42::l).length:Nat)=i+2+(l.length:Int)by simp;omega];simpa[EL,marks,dep]using this
 | @jD l p h1 _ ih =>
  intro rest i Q AM Ay hs hf ha h4
  have:=ih rest (i+1) (Q++[(3,0,[])]) AM Ay (sub hs) hf ha h4
  rw[Yz,Xx8 (uL h1 λe=>by subst e;exact hs O)];rw[show i+((42::l).length:Nat)=i+1+(l.length:Int)by simp;omega];simpa[EL,marks,dep]using this
 | @KA l p _ ih =>
  intro rest i Q AM Ay hs hf ha h4;cases AM with
  | nil=>rcases hf with hf|hf;exact hf.elim;exact Yy O hf
  | cons f AM =>
   obtain⟨o,bs⟩:=f
   have:=ih rest (i+1) (Q++[(5,0,[])]) ((o,bs++[Q.length])::AM) Ay (sub hs) (.inr sz) ha h4
   rw[Yz,Xn,Y3 (show ¬ (124:Ui).toNat=63 by decide),Y3 (show ¬ (124:Ui).toNat=42 by decide),Y3 (show ¬ (124:Ui).toNat=40 by decide),Y7 (show(124:Ui).toNat=124 by decide)];simp only[]
   rw[show i+((124::l).length:Nat)=i+1+(l.length:Int)by simp;omega];simpa[EL,marks,dep,bm]using this
 | @Ea l p c _ ih =>
  intro rest i Q AM Ay hs hf ha h4
  have:=ih rest (i+2) (Q++[(0,(c.toNat:Int),[])]) AM Ay (sub (sub hs)) hf ha h4
  rw[Yz,Xn,Y3 (show ¬ (92:Ui).toNat=63 by decide),Y3 (show ¬ (92:Ui).toNat=42 by decide),Y3 (show ¬ (92:Ui).toNat=40 by decide),Y3 (show ¬ (92:Ui).toNat=124 by decide),Y3 (show ¬ (92:Ui).toNat=41 by decide),Y7 (show(92:Ui).toNat=92 by decide)];simp only[Yz]
  rw[show i+((92::c::l).length:Nat)=i+2+(l.length:Int)by simp;omega];simpa[EL,marks,dep]using this
 | @byte l p c h1 h2 h3 h4' h5 h6 _ ih =>
  intro rest i Q AM Ay hs hf ha h4
  have:=ih rest (i+1) (Q++[(0,(c.toNat:Int),[])]) AM Ay (sub hs) hf ha h4
  rw[Yz,Xn,Y3 (show ¬ c.toNat=63 from xt h1),Y3 (show ¬ c.toNat=42 from xt h2),Y3 (show ¬ c.toNat=40 from xt h3),Y3 (show ¬ c.toNat=124 from xt h4'),Y3 (show ¬ c.toNat=41 from xt h5),Y3 (show ¬ c.toNat=92 from xt h6)];rw[show i+((c::l).length:Nat)=i+1+(l.length:Int)by simp;omega];simpa[EL,marks,dep]using this
 | @H8 t l b p _ _ ihb ih =>
  intro rest i Q AM Ay hs hf ha h4;rw[Yz,Yc,Yz,Xn,Y3 (show ¬ (40:Ui).toNat=63 by decide),Y3 (show ¬ (40:Ui).toNat=42 by decide),Y7 (show(40:Ui).toNat=40 by decide)]
  by_cases h5:AM.length=4
  ·rw[Y7 h5];refine⟨λh=>?_,λ_ X h=>by cases h⟩;simp[dep]at h
   omega
  ·rw[Y3 h5];have h1:=ihb (41::(l++rest)) (i+1) (Q++[(4,0,[])]) ((Q.length,[])::AM) (Ay++[i]) (λ_=>by simp) (.inr sz) (by simp[ha]) (by simp;omega)
   by_cases h6:b.dep+(AM.length+1)<=4
   ·have h7:=h1.1 (su h6);rw[h7];have h8:=ih rest (i+1+t.length+1) (Q++((4,0,Jt b (Q.length+1))::(EL [((Q.length+1+len b:Nat):Int)] b (Q.length+1)++[(6,0,[])]))) AM Ay (Ahc (sub hs)) hf ha h4;have hc:=X6j (Q.length+1+len b) Q.length b (Q++[(4,0,[])]) 4 0 [] sz;have hl:=Xgp Q 4 0 [] (Jt b (Q.length+1)) [];simp only[Y0,jt,Ez]at hc
    rw[hl]at hc;rw[Xn,Y3 (show ¬ (41:Ui).toNat=63 by decide),Y3 (show ¬ (41:Ui).toNat=42 by decide),Y3 (show ¬ (41:Ui).toNat=40 by decide),Y3 (show ¬ (41:Ui).toNat=124 by decide),Y7 (show(41:Ui).toNat=41 by decide)];simp only[Vb,Y0,jt,Ez,aN]
    rw[hc];have ht:(Ay++[i]).take AM.length=Ay:=by rw[<-ha];simp
    rw[ht];have e1:(Q++((4,0,Jt b (Q.length+1))::(EL [((Q.length+1+len b:Nat):Int)] b (Q.length+1)++[(6,0,[])]))).length=Q.length+2+len b:=by simp[aN];omega
    rw[e1]at h8;have e2:i+((40::(t++41::l)).length:Nat)=i+1+t.length+1+l.length:=by simp;omega
    rw[e2];have e3:4<(Pt.H8 b p).dep+AM.length↔4<p.dep+AM.length:=by simp[dep];omega
    have e4:(Pt.H8 b p).dep+AM.length<=4↔p.dep+AM.length<=4:=by simp[dep];omega
    rw[e3,e4];simpa[EL,marks]using h8
   ·refine⟨λh=>?_,λ_=>h1.2 (by simp;omega)⟩;simp[dep]at h
    omega
inductive Splits:Nat->List UInt8->Prop
 | last {l p}:FK l p->p.flat->p.dep<=4->Splits 0 l
 | more {d t l p}:FK t p->p.dep+(d+1)<=4->Splits d l->Splits (d+1) (t++41::l)
theorem Splits.lit{l pre:Lu}{k c:Int}(h:Splits d l)(hp:∀{t p},(t.head?=some 42->l.head?=some 42)->FK t p->FK (pre++t) (.lit k c p)):Splits d (pre++l):=by
 cases h with
 | last h1 h2 h3=>exact .last (hp (λh=>h) h1) h2 h3
 | @more d t l p h1 h2 h3 =>
  rw[<-Yc];refine .more (hp ?_ h1) h2 h3;intro e;cases t with
  | nil=>simp at e
  | cons x t=>simpa using e
theorem Splits.H8{t l:Lu}{b:Pt}(h:Splits d l)(h1:FK t b)(h2:b.dep+(d+1)<=4):Splits d (40::(t++41::l)):=by
 cases h with
 | @last _ p k1 k2 k3=>exact .last (.H8 h1 k1) k2 (by simp[dep];omega)
 | @more d t2 l2 p k1 k2 k3 =>
  have:=Splits.more (.H8 h1 k1) (by simp[dep];omega) k3
  simpa using this
theorem je:∀(n:Nat) (l:Lu) (i:Int) (Q:List Pl) (AM:List Jw) (Ay:List Int) (X:List Pl),l.length<=n->Ay.length=AM.length->AM.length<=4->A1 l i Q AM Ay=.ok X->Splits AM.length l
 | n,[],i,Q,AM,Ay,X,_,ha,h4,h=>by
  rw[zO]at h;split at h
  ·cases h
  ·have e:AM.length=0:=om
   rw[e];exact .last .nil trivial (by simp[dep])
 | 0,c::l,_,_,_,_,_,hn,_,_,_=>by simp at hn
 | n+1,c::l,i,Q,AM,Ay,X,hn,ha,h4,h=>by
  have LQ:l.length<=n:=su hn
  rw[Xn]at h;split at h
  ·rename_i e
   have e:c=63:=JH.1 e;subst e;exact(je n l _ _ AM Ay X LQ ha h4 h).lit (pre:=[63]) λ_ hr=>.one hr
  split at h
  ·rename_i e
   have e:c=42:=JH.1 e;subst e;cases l with
   | nil=>exact(je n [] _ _ AM Ay X LQ ha h4 h).lit (pre:=[42]) λ{t p} hd hr=>.jD (λe=>by have:=hd e;simp at this) hr
   | cons d r =>
    simp only at h
    split at h
    ·rename_i e2
     have e2:d=42:=JH.1 e2;subst e2;exact(je n r _ _ AM Ay X (by simp at LQ;omega) ha h4 h).lit (pre:=[42,42]) λ_ hr=>.all hr
    ·rename_i e2
     exact(je n (d::r) _ _ AM Ay X LQ ha h4 h).lit (pre:=[42]) λ{t p} hd hr=>.jD (λe=>by have:=hd e;simp at this;subst this;exact e2 de) hr
  split at h
  ·rename_i e
   have e:c=40:=JH.1 e;subst e;split at h
   ·cases h
   ·rename_i h5
    have hs:=je n l _ _ ((Q.length,[])::AM) (Ay++[i]) X LQ (by simp[ha]) (by simp;omega) h;generalize hm:((Q.length,[])::AM:List Jw).length=m at hs;simp only[List.length_cons]at hm
    cases hs with
    | last=>omega
    | @more d t l b h1 h2 h3 =>
     have hd:d=AM.length:=om
     subst hd;exact h3.H8 h1 h2
  split at h
  ·rename_i e
   have e:c=124:=JH.1 e;subst e;cases AM with
   | nil=>cases h
   | cons f AM =>
    obtain⟨o,bs⟩:=f;have hs:=je n l _ _ ((o,bs++[Q.length])::AM) Ay X LQ ha h4 h;cases hs with
    | more h1 h2 h3=>exact Splits.more (t:=124::_) (.KA h1) h2 h3
  split at h
  ·rename_i e
   have e:c=41:=JH.1 e;subst e;cases AM with
   | nil=>cases h
   | cons f AM =>
    obtain⟨o,bs⟩:=f;have hs:=je n l _ _ AM _ X LQ (by simp at ha;simp;omega) (by simp at h4;omega) h;exact Splits.more (t:=[]) .nil (by simp[dep]at *;omega) hs
  split at h
  ·rename_i e
   have e:c=92:=JH.1 e;subst e;cases l with
   | nil=>cases h
   | cons d r=>exact(je n r _ _ AM Ay X (by simp at LQ;omega) ha h4 h).lit (pre:=[92,d]) λ_ hr=>.Ea d hr
  ·rename_i h1 h2 h3 h4' h5 h6
   have ne:∀{n:Ui},¬ c.toNat=n.toNat->c≠n:=λh e=>h (by rw[e])
   exact(je n l _ _ AM Ay X LQ ha h4 h).lit (pre:=[c]) λ_ hr=>.byte c (ne h1) (ne h2) (ne h3) (ne h4') (ne h5) (ne h6) hr
theorem tF{l:Lu}{Q:List Pl}(h:cmp l=.ok Q):l.length<=200/\∃p,FK l p/\p.flat/\p.dep<=4/\Q=EL [] p 0++[(7,0,[])]:=by
 unfold cmp at h;split at h
 ·cases h
 ·rename_i hl
  refine⟨om,?_⟩;have hs:=je l.length l 0 [] [] [] Q (Yd _) O sz h;cases hs with
  | @last _ p h1 h2 h3 =>
   refine⟨p,h1,h2,h3,?_⟩;have h5:=(VB h1 [] 0 [] [] [] (λ_=>by simp) (.inl h2) O sz).1 (su h3);rw[Yr,h,zO]at h5;simpa using h5
theorem aI:∀(n:Nat) (l:Lu) (i:Int) (Q:List Pl) (AM:List Jw) (o:List Int),l.length<=n->o.length=AM.length->
  (∀e,A1 l i Q AM o=.error e->CP l i o=e/\e.1≠0)/\(∀X,A1 l i Q AM o=.ok X->CP l i o=(0,0))
 | n,[],i,Q,AM,o,_,ho=>by
  rw[zO,Vy];split
  ·exact⟨λe h=>by injection h with h;subst h;exact⟨O,by simp⟩,λX h=>by cases h⟩
  ·exact⟨λe h=>(by cases h),λX h=>rfl⟩
 | 0,c::l,_,_,_,_,hn,_=>by simp at hn
 | n+1,c::l,i,Q,AM,o,hn,ho=>by
  have LQ:l.length<=n:=su hn
  rw[Xn,Xia]
  by_cases FB:c.toNat=63
  ·rw[Y7 FB,Y3 om,Y3 om,Y3 om,Y3 om];exact aI n l _ _ AM o LQ ho
  rw[Y3 FB]
  by_cases h42:c.toNat=42
  ·rw[Y7 h42,Y3 om,Y3 om,Y3 om,Y3 om];cases l with
   | nil=>exact aI n [] _ _ AM o LQ ho
   | cons d r =>
    simp only
    by_cases hd:d.toNat=42
    ·rw[Y7 hd,Xia,Y3 om,Y3 om,Y3 om,Y3 om,show i+1+1=i+2 by omega];exact aI n r _ _ AM o (by simp at LQ;omega) ho
    ·rw[Y3 hd];exact aI n (d::r) _ _ AM o LQ ho
  rw[Y3 h42]
  by_cases h40:c.toNat=40
  ·rw[Y7 h40,Y7 h40,<-ho]
   by_cases h4:o.length=4
   ·rw[Y7 h4,Y7 h4];exact⟨λe h=>by injection h with h;subst h;exact⟨O,by simp⟩,λX h=>by cases h⟩
   ·rw[Y3 h4,Y3 h4];exact aI n l _ _ _ (o++[i]) LQ (by simp[ho])
  rw[Y3 h40,Y3 h40]
  by_cases mu:c.toNat=124
  ·rw[Y7 mu,Y3 om,Y7 mu];cases AM with
   | nil=>rw[Y7 (su ho)];exact⟨λe h=>by injection h with h;subst h;exact⟨O,by simp⟩,λX h=>by cases h⟩
   | cons f AM =>
    rw[Y3 (by simp at ho;omega)];exact aI n l _ _ _ o LQ ho
  rw[Y3 mu,Y3 mu]
  by_cases h41:c.toNat=41
  ·rw[Y7 h41,Y7 h41];cases AM with
   | nil=>rw[Y7 (su ho)];exact⟨λe h=>by injection h with h;subst h;exact⟨O,by simp⟩,λX h=>by cases h⟩
   | cons f AM =>
    obtain⟨fo,fb⟩:=f;simp only[List.length_cons]at ho ⊢
    rw[Y3 om,show AM.length=o.length-1 by omega];exact aI n l _ _ _ _ LQ (by simp;omega)
  rw[Y3 h41,Y3 h41]
  by_cases h92:c.toNat=92
  ·rw[Y7 h92,Y7 h92];cases l with
   | nil=>exact⟨λe h=>by injection h with h;subst h;exact⟨O,by simp⟩,λX h=>by cases h⟩
   | cons d r=>exact aI n r _ _ AM o (by simp at LQ;omega) ho
  rw[Y3 h92,Y3 h92];exact aI n l _ _ AM o LQ ho
def zF(Q:List Pl)(i j:Nat):Prop:=(qB (Q.getD i (7,0,[])).1=true/\j=i+1)\/(∃t∈(Q.getD i (7,0,[])).2.2,j=t.toNat)
inductive Reach(Q:List Pl):Nat->Nat->Prop
 | refl (i:Nat):Reach Q i i
 | step {i j k:Nat}:zF Q i j->Reach Q j k->Reach Q i k
def jZ(Q:List Pl)(a b:List Bool):Prop:=DY a b/\∀x,b.getD x false=true->a.getD x false=false->∀y,zF Q x y->b.getD y false=true
theorem jZ.trans{Q:List Pl}{a b c:List Bool}(h:jZ Q a b)(k:jZ Q b c):jZ Q a c:=by
 refine⟨h.1.trans k.1,λx hx hn y hy=>?_⟩;cases hb:b.getD x false with
 | true=>exact k.1.2 y (h.2 x hb hn y hy)
 | false=>exact k.2 x hx hb y hy
theorem cY(n x:Nat):(List.replicate n false).getD x false=false:=by
 rw[Ya,Y5u];split<;>rfl
section
variable {Q:List Pl} (hW:WF Q) {F:Nat} (hF:Q.length<F) (now:List Bool) (c:Ui)
end
def AbU(Q:List Pl):Prop:=0<Q.length/\∀j,j<Q.length->((Q.getD j (7,0,[])).1=7↔j=Q.length-1)
abbrev AbV:=Lu->Prop
namespace Pt
def ok:Pt->Prop
 | nil=>True
 | lit k _ r=>(0<=k/\k<=3)/\ok r
 | KA r=>ok r
 | H8 b r=>ok b/\ok r
end Pt
theorem FK.ok{l:Lu}{p:Pt}(h:FK l p):p.ok:=by
 induction h with
 | nil=>trivial
 | one _ ih=>exact⟨⟨de,de⟩,ih⟩
 | all _ ih=>exact⟨⟨de,de⟩,ih⟩
 | jD _ _ ih=>exact⟨⟨de,de⟩,ih⟩
 | H8 _ _ h1 h2=>exact⟨h1,h2⟩
 | KA _ ih=>exact ih
 | Ea c _ ih=>exact⟨⟨de,de⟩,ih⟩
 | byte c _ _ _ _ _ _ _ ih=>exact⟨⟨de,de⟩,ih⟩
theorem FK.len{l:Lu}{p:Pt}(h:FK l p):p.len<=l.length:=by
 induction h<;>simp[Pt.len]at*<;>omega
theorem Xlx:∀(p:Pt) (n:Nat),(Jt p n).length<=p.len
 | .nil,_=>by simp[Jt]
 | .lit _ _ r,n=>by have:=Xlx r (n+1);simp[Jt,len];omega
 | .KA r,n=>by have:=Xlx r (n+1);simp[Jt,len];omega
 | .H8 b r,n=>by have:=Xlx r (n+2+len b);simp[Jt,len];omega
theorem Xvy:∀(p:Pt) (n:Nat) (t:Int),t∈Jt p n->(n:Int)<t/\t<=n+p.len
 | .nil,_,_,h=>by simp[Jt]at h
 | .lit _ _ r,n,t,h=>by have:=Xvy r (n+1) t h;simp[len];omega
 | .KA r,n,t,h=>by
  simp only[Jt,Yi]at h
  rcases h with rfl|h
  ·simp[len];omega
  ·have:=Xvy r (n+1) t h;simp[len];omega
 | .H8 b r,n,t,h=>by have:=Xvy r (n+2+len b) t h;simp[len];omega
theorem xH:∀(p:Pt) (es:List Int) (n N:Nat),p.ok->n+p.len<N->(∀t∈es,0<=t/\t<(N:Int))->es.length<=N->∀q∈EL es p n,(∀t∈q.2.2,0<=t/\t<(N:Int))/\(0<=q.1/\q.1<=6)/\q.2.2.length<=N
 | .nil,_,_,_,_,_,_,_,q,h=>by simp[EL]at h
 | .lit k c r,es,n,N,ho,hl,he,hc,q,h=>by
  simp only[len]at hl
  simp only[EL,Yi]at h
  rcases h with rfl|h
  ·exact⟨by simp,⟨ho.1.1,by have:=ho.1.2;simp only;omega⟩,by simp⟩
  ·exact xH r es (n+1) N ho.2 om he hc q h
 | .KA r,es,n,N,ho,hl,he,hc,q,h=>by
  simp only[len]at hl
  simp only[EL,Yi]at h
  rcases h with rfl|h
  ·exact⟨he,⟨by simp,by simp⟩,hc⟩
  ·exact xH r es (n+1) N ho om he hc q h
 | .H8 b r,es,n,N,ho,hl,he,hc,q,h=>by
  simp only[len]at hl
  simp only[EL,Yi,Yn]at h
  rcases h with rfl|h|rfl|h
  ·exact⟨λt ht=>by have:=Xvy b (n+1) t ht;omega,⟨by simp,by simp⟩,by have:=Xlx b (n+1);simp only;omega⟩
  ·exact xH b _ (n+1) N ho.1 om (λt ht=>by simp at ht;omega) (by simp;omega) q h
  ·exact⟨by simp,⟨by simp,by simp⟩,by simp⟩
  ·exact xH r es (n+2+len b) N ho.2 om he hc q h
def kK(p:Pt):List Pl:=EL [] p 0++[(7,0,[])]
theorem Xd1(p:Pt):(kK p).length=p.len+1:=by simp[kK,aN]
theorem Xs8{p:Pt}(ho:p.ok):WF (kK p)/\AbU (kK p):=by
 have hl:=Xd1 p;have AW:∀(i:Nat) (q:Pl),(kK p)[i]?=some q->(i<p.len/\q∈EL [] p 0)\/(i=p.len/\q=(7,0,[])):=by
  intro i q h;unfold kK at h;rcases C5 i p.len with hi|hi
  ·rw[Y9 (by rw[aN];exact hi)]at h;exact .inl ⟨hi,Y6 h⟩
  ·rw[Yq (by rw[aN];exact hi),aN]at h
   by_cases e:i=p.len
   ·subst e;simp at h;exact .inr ⟨O,h.symm⟩
   ·rw[jr (by simp;omega)]at h;cases h
 refine⟨λi q h=>?_,om,λj hj=>?_⟩
 ·rw[hl];rcases AW i q h with⟨hi,hm⟩|⟨hi,rfl⟩
  ·obtain⟨h1,h2,h3⟩:=xH p [] 0 (p.len+1) ho om sz sz q hm;exact⟨h1,λ_=>by omega,⟨h2.1,om⟩,λ_=>by omega,h3⟩
  ·exact⟨by simp,by simp[qB],⟨by simp,by simp⟩,by simp,by simp⟩
 ·have e:(kK p)[j]?=some ((kK p).getD j (7,0,[])):=by simp[Ya,hj]
  rcases AW j _ e with⟨hi,hm⟩|⟨hi,e2⟩
  ·obtain⟨h1,h2,h3⟩:=xH p [] 0 (p.len+1) ho om sz sz _ hm;constructor
   ·intro h;omega
   ·intro h;omega
  ·rw[e2];simp;omega
def zE(Q:List Pl)(n:Nat)(L:List Pl):Prop:=∀(i:Nat) (q:Pl),L[i]?=some q->Q[n+i]?=some q
theorem zE.head{Q:List Pl}{q:Pl}{L:List Pl}(h:zE Q n (q::L)):Q[n]?=some q:=h 0 q O
theorem zE.tail{Q:List Pl}{q:Pl}{L:List Pl}(h:zE Q n (q::L)):zE Q (n+1) L:=λi x hx=>by
 rw[show n+1+i=n+(i+1)by omega];exact h (i+1) x (su hx)
def mat(Q:List Pl)(s:Lu):Bool:=(run Q s).1.getD (Q.length-1) false
def Ou(l s:List UInt8):Bool×Bool:=match cmp l with
 | .ok Q=>(mat Q s,true)
 | .error _=>(false,false)
def seg(s:Lu)(i j:Nat):Lu:=(s.drop i).take (j-i)
def ZO(s:Lu)(fr:List Bool)(L:AbV)(R:List Bool):Prop:=R.length=s.length+1/\∀j,j<=s.length->(R.getD j false=true↔∃i,i<=j/\fr.getD i false=true/\L (seg s i j))
theorem ZO.none(s:Lu)(fr:List Bool):ZO s fr (λ_=>False) (List.replicate (s.length+1) false) :=
 ⟨by simp,λj hj=>⟨λh=>(by rw[cY]at h;cases h),λ⟨_,_,_,h⟩=>h.elim⟩⟩
inductive TZ:List UInt8->Pt->Int->List Int->Prop
 | last {t b} (i:Int):FK t b->b.flat->TZ t b i []
 | more {t1 b1 t2 b2 ps} (i:Int):FK t1 b1->b1.flat->TZ t2 b2 (i+t1.length+1) ps->TZ (t1++124::t2) (b1.app (.KA b2)) i ((i+t1.length)::ps)
theorem TZ.pre{x t:Lu}{b:Pt}{i:Int}{ps:List Int}{f:Pt->Pt}(hf:∀p,p.flat->(f p).flat)(hfa:∀p q,f (p.app q)=(f p).app q)(h:TZ t b (i+x.length) ps)(hp:∀{t1 p},(t1.head?=some 42->t.head?=some 42)->FK t1 p->FK (x++t1) (f p)):TZ (x++t) (f b) i ps:=by
 cases h with
 | last _ h1 h2=>exact .last i (hp (λh=>h) h1) (hf _ h2)
 | @more t1 b1 t2 b2 ps _ h1 h2 h3 =>
  rw[<-Yc,hfa];have e:i+(x.length:Int)+(t1.length:Int)=i+((x++t1).length:Int):=by simp;omega
  rw[e]at h3 ⊢;refine .more i (hp ?_ h1) (hf _ h2) h3;intro e;cases t1 with
  | nil=>simp at e
  | cons y t1=>simpa using e
end FI
namespace Go.Proofs.W9
open Gk FI
open Tryz
def z0:Sv:=⟨0,0,[],false,false,false,[],[]⟩
theorem Xmg(a:Oa)(c:Nat)(l:List Lu)(hl:l.length<=1000000)(hr:RS I a 1 l.length (l.map S))(As:La)(hS:Aa B w I As):Cz 225 [.slice a l.length c] w λv w'=>∃J ra rc,v=.slice ra l.length rc/\Le I J/\l.length<=rc/\RS J ra 1 l.length (l.map S)/\Aa B w' J As:=by
 have fin:∀(v:Va) (w':Wo) (n:Nat) (xs:Lv),n=l.length->xs=l.map S->Go.RowKit.Below w.heap.size w w'->w'.ownsRow w.heap.size 9 1 v n xs->∃J ra rc,v=.slice ra l.length rc/\Le I J/\l.length<=rc/\RS J ra 1 l.length (l.map S)/\Aa B w' J As:=by
  intro v w' n xs hn hx hb ho;subst hn;subst hx;have h2:=hS.NJ hb ho;obtain⟨ra,rc,rfl,h3,_⟩:=h2.vS 0;obtain⟨J,hJ,AJ,Bo⟩:=h2.fV 0;exact⟨J,ra,rc,O,hJ,h3,AJ,Bo⟩
 cases a with
 | none =>
  have h0:l=[]:=by
   rcases Nx l.length with h|h
   ·exact Yf h
   ·obtain⟨p,hp,_⟩:=hr.2 h;cases hp
  subst h0;refine(slices_Clone_string_nil 0 c w).mono λe w' he=>?_
  obtain⟨rfl,rfl⟩:=he;exact⟨_,O,I,none,0,O,Le.refl _,Yd _,RS.nil _ _,hS⟩
 | some p =>
  rcases Nx l.length with h|h
  ·have h0:=Yf h;subst h0;refine(slices_Clone_string_zero p c w).mono λe w' he=>?_
   obtain⟨v',rfl,ho,_,hb⟩:=he;exact⟨_,O,fin v' w' 0 [] O O hb ho⟩
  ·obtain⟨q,hq,hA⟩:=hr.2 h;injection hq with hq
   subst hq;obtain⟨b,off,sp⟩:=p;have ri:sp=none:=hA.1;subst ri;refine(slices_Clone_string b off l.length c (l.map λx=>⟨x.toArray⟩) w (by rw[Yh];exact Yd _) om (λj hj=>?_)).mono λe w' he=>?_
   ·rw[Yh]at hj;have h2:=Pz hS hA (j:=j) (v:=S (l[j])) (by rw[Ys,Y2 hj];rfl);rw[show(⟨b,off,none⟩:Addr).add j=⟨b,off+j,none⟩ from EE b off j]at h2;rw[h2,Ya,Ys,Y2 hj];rfl
   ·obtain⟨v',rfl,ho,_,hb⟩:=he;refine⟨_,O,fin v' w' l.length _ O ?_ hb ho⟩;rw[Yg (by rw[Yh];exact Yd _),s8];rfl
theorem n_(s:Sv)(a:Oa)(c:Nat)(HO:s.rel.length<=1000000)(hr:RS I a 1 s.rel.length (s.rel.map S))(As:La)(hS:Aa B w I As):Cz 355 [.agg #[Ab s.id,BQ s.ord,S s.urls,.bool s.CT,.bool s.Dl,.bool s.back,S s.calls,.slice a s.rel.length c]] w λv w'=>∃J cs,Le I J/\v=.agg (List.toArray cs)/\Na J s cs/\Aa B w' J As:=by
 refine gH 4 ?_;clear hS;intro b1 b2 w hS;refine gF 0 (Xmg a c s.rel HO hr) ?_;clear hS;rintro _ w ⟨J,ra,rc,rfl,hJ,Cc,zf,hS⟩;refine gH 4 ?_;clear hS;intro w hS;exact gG 0 ⟨J,[Ab s.id,BQ s.ord,S s.urls,.bool s.CT,.bool s.Dl,.bool s.back,S s.calls,.slice ra s.rel.length rc],hJ,O,⟨ra,rc,O,Cc,zf⟩,hS.s⟩
abbrev Rw(s:Sv)(a:Oa)(c:Nat)(p q:Addr):Lv:=[Ab s.id,BQ s.ord,S s.urls,.bool s.CT,.bool s.Dl,.bool s.back,S s.calls,.slice a s.rel.length c,.pointer (some p),.pointer (some q)]
def Dd(I:Im)(s:Sv)(l:Lv):Prop:=∃a c p q Q R,l=Rw s a c p q/\s.rel.length<=c/\RS I a 1 s.rel.length (s.rel.map S)/\cmp s.urls=.ok Q/\Gm I p Q s.urls.length/\cmp s.calls=.ok R/\Gm I q R s.calls.length
def EX(I:Im)(a:Oa)(E:List Lv)(l:List Sv):Prop:=E.length=l.length/\∀(i:Nat) (s:Sv),l[i]?=some s->∃p c,a=some p/\E[i]?=some c/\At I (p.add (i*10)) c/\Dd I s c
def sE(w:Wo)(I:Im)(a:Oa)(l:List Sv):Prop:=∀(i:Nat) (s:Sv),l[i]?=some s->∃p c,a=some p/\(∀(j:Nat) v,c[j]?=some v->w.cell? ((p.add (i*10)).add j)=some v)/\Dd I s c
theorem EX.now{E:List Lv}{l:List Sv}(h:EX I a E l)(hS:Aa B w I As):sE w I a l:=λi s hs=>by
 obtain⟨p,c,e,_,h1,h2⟩:=h.2 i s hs;exact⟨p,c,e,λj v hj=>Pz hS h1 hj,h2⟩
theorem cR{T:Nat}{E:List Lv}{l:List Sv}(hS:Aa B w I As)(hk:As[k]?=some (Ar T 10 (.slice a l.length cap) l.length E.flatten))(Jo:∀c∈E,c.length=10)
  (hE:∀(i:Nat) (s:Sv),l[i]?=some s->∃c,E[i]?=some c/\Dd I s c):sE w I a l:=λi s hs=>by
 obtain⟨c,hc,he⟩:=hE i s hs;have hi:=(Y1.1 hs).1;obtain⟨g,Aag,rest,hv,_,_,_,_,Bo⟩:=hS.AP hk om;injection hv with ET HP GQ
 have E6:k<As.length:=(Y1.1 hk).1;have hb:w.heap[g]?=some (Xi (E.flatten++rest) T):=Bo.block (k:=k) (by simp[E6,Ae]);refine⟨⟨g,0,none⟩,c,ET,λj v hj=>?_,he⟩;have ER:j<10:=by
  have h1:=(Y1.1 hj).1;rw[Jo c (Y6 hc)]at h1;exact h1
 rw[Addr.add_add,show(⟨g,0,none⟩:Addr).add (i*10+j)=ad g (0+(i*10+j)) from EE g 0 _,Yj];refine HU hb ?_;have h2:=Xat E Jo i j ER;rw[hc]at h2;have h3:E.flatten[i*10+j]?=some v:=h2.trans hj;rw[Y9 (Y1.1 h3).1];exact h3
theorem eT{g:Option (Nat×Bool)}{t:TypeId}{x:Operand}{d:Option Nat}{s:Nat}(hx:Ev n L x (.pointer (some p)))(hv:∀(j:Nat) v,vs[j]?=some v->w.cell? (p.add j)=some v)(ht:∀w,(isAgg t).run P w=.ok true w)(hs:∀w,(Go.sizeOf t).run P w=.ok s w)
  (hl:vs.length=s):Ex P n L w ⟨d,.load t x,ty,pos,af,g⟩ (.agg vs.toArray) w:=λa ha=>by
 have h:=run_loadCells_list (P:=P) w p vs hv;rw[hl]at h;simp[execOp,hx a ha,Instr.loadAt,Instr.sureAddr,loadVar,ht,hs,h]
def Mg(pr:Sv->Bool):List Sv->Nat->Int
 | [],_=>-1
 | s::r,i=>if pr s then(i:Int)else Mg pr r (i+1)
theorem X9g(pr:Sv->Bool):∀(n:Nat) (r:List Sv) (i:Nat),(∀(j:Nat) s,j<n->r[j]?=some s->pr s=false)->Mg pr r i=Mg pr (r.drop n) (i+min n r.length)
 | 0,r,i,_=>by simp
 | n+1,[],i,_=>by simp[Mg]
 | n+1,s::r,i,h=>by
  rw[Mg,Y3 (by rw[h 0 s om O];decide),X9g pr n r (i+1) (λj t hj ht=>h (j+1) t om (su ht)),Kw,List.length_cons]
  congr 1
  omega
theorem Xxg{pr:Sv->Bool}{l:List Sv}{s:Sv}(h:∀(j:Nat) t,j<i->l[j]?=some t->pr t=false)(hs:l[i]?=some s)(hp:pr s=true):Mg pr l 0=(i:Int):=by
 have hi:=(Y1.1 hs).1;rw[X9g pr i l 0 h,Yj,jx om,Yp hi,(Y1.1 hs).2,Mg,Y7 hp]
theorem Xrc{pr:Sv->Bool}{l:List Sv}(h:∀(j:Nat) t,l[j]?=some t->pr t=false):Mg pr l 0=-1:=by
 rw[X9g pr l.length l 0 (λj t _ ht=>h j t ht),s5];rfl
theorem X6h(a:Oa)(cap:Nat)(l:List Sv)(Hu:l.length<=100000)(pr:Sv->Bool)(BC:FuncId)(fn:Func)(EJ:prog.funcs[BC]?=some fn)(BZ:Xb fn=true)(AO:Lv)(As:La)(hE:∀w,Aa B w I As->sE w I a l)(hf:∀(s:Sv) (c:Lv),Dd I s c->∀w,Aa B w I As->Calls prog BC ([Value.agg c.toArray]++AO).toArray w (A4 λv w'=>v=.bool (pr s)/\Aa B w' I As))(hS:Aa B w I As):Ce B I As 307 [.slice a l.length cap,.func (.func BC) #[] AO.toArray] w (Ab (Mg pr l 0)):=by
 refine gG 4 (.lk [0,1,7] (σ:=Nat) (λi _m=>(8,Ab (i:Nat))::_m) (λi w=>i<=l.length/\(∀(j:Nat) t,j<i->l[j]?=some t->pr t=false)/\Aa B w I As) (λi=>l.length-i) 0 ⟨Y4 _,λ_ _ h=>Yy h om,hS⟩ ?_);rintro i w ⟨hi,AL,hS⟩;refine gN 1 ?_ ?_<;>intro DV
 ·refine gG 0 ?_;obtain⟨s,hs⟩:∃s,l[i]?=some s:=⟨_,Y2 om⟩
  obtain⟨p,c,rfl,hx,he⟩:=hE w hS i s hs;have he2:=he;obtain⟨ra,rc,pp,qq,Q,R,rfl,_⟩:=he2;unfold Rw at hx he;refine gH 6 (.val (eT (.of O) hx isAgg243 sG O) O (.B0 (cap:=AO) EJ BZ (.of O) (Be O X4) O (hf s _ he w hS) ?_));clear hS;rintro _ w ⟨rfl,hS⟩;refine gM 0 ?_ ?_<;>intro B6 C1
  ·exact gG 2 ⟨by rw[Xxg AL hs B6],hS⟩
  refine gG 2 (rd (i+1) ⟨om,λj t hj ht=>?_,hS⟩);rcases C5 j i with h1|h1
  ·exact AL j t h1 ht
  ·have e:j=i:=om
   subst e;rw[hs]at ht;cases ht;exact B6
 exact gG 1 ⟨by rw[Xrc (λj t ht=>AL j t (oh ((Y1.1 ht).1)) ht)],hS⟩
theorem Xd6(a:Oa)(cap:Nat)(l:List Sv)(Hu:l.length<=100000)(pr:Sv->Bool)(BC:FuncId)(fn:Func)(EJ:prog.funcs[BC]?=some fn)(BZ:Xb fn=true)(AO:Lv)(As:La)(hE:∀w,Aa B w I As->sE w I a l)(hf:∀(s:Sv) (c:Lv),Dd I s c->∀w,Aa B w I As->Calls prog BC ([Value.agg c.toArray]++AO).toArray w (A4 λv w'=>v=.bool (pr s)/\Aa B w' I As))(hS:Aa B w I As):Ce B I As 222 [.slice a l.length cap,.func (.func BC) #[] AO.toArray] w (.bool (decide (0<=Mg pr l 0))):=by
 refine gP 3 [] (X6h a cap l Hu pr BC fn EJ BZ AO As hE hf) ?_;clear hS;rintro _ w ⟨rfl,hS⟩;exact gG 2 ⟨O,hS⟩
open Ul Pc Tk Tr
def DE(l:List Al):Lv:=(l.map X8).flatten
theorem Xgf(l:List Al):(DE l).length=l.length*10:=by
 unfold DE
 induction l with
 | nil=>rfl
 | cons r l ih=>rw[Yt,JG,Y0,ih,show(X8 r).length=10 from O,List.length_cons];omega
abbrev B7(tb:Nat)(room:Int)(a:Oa)(c:Nat)(l:List Al)(R:La):La:=Ae tb [Ab room,.slice a l.length c] 186::Ar 188 10 (.slice a l.length c) l.length (DE l)::R
def pC(w:Wo)(a:Oa)(l:List Al):Prop:=∀(i:Nat) (r:Al),l[i]?=some r->∃p,a=some p/\(∀(j:Nat) v,(X8 r)[j]?=some v->w.cell? ((p.add (i*10)).add j)=some v)
theorem XX{l:List Al}{j:Nat}{r:Al}(hr:l[i]?=some r)(hj:(X8 r)[j]?=some v):(DE l)[i*10+j]?=some v:=by
 have h2:=Xat (l.map X8) (λc hc=>by obtain⟨x,_,rfl⟩:=Fg.1 hc;rfl) i j (show j<10 from(Y1.1 hj).1);rw[Ys,hr]at h2;exact h2.trans hj
theorem aK{T:Nat}{l:List Al}(hS:Aa B w I As)(hk:As[k]?=some (Ar T 10 (.slice a l.length cap) l.length (DE l))):pC w a l:=λi r hr=>by
 have hi:=(Y1.1 hr).1;obtain⟨g,Aag,rest,hv,_,_,_,_,Bo⟩:=hS.AP hk om;injection hv with ET HP GQ
 have E6:k<As.length:=(Y1.1 hk).1;have hb:w.heap[g]?=some (Xi (DE l++rest) T):=Bo.block (k:=k) (by simp[E6,Ae]);refine⟨⟨g,0,none⟩,ET,λj v hj=>?_⟩;rw[Addr.add_add,show(⟨g,0,none⟩:Addr).add (i*10+j)=ad g (0+(i*10+j)) from EE g 0 _,Yj];refine HU hb ?_;have h3:=XX hr hj;rw[Y9 (Y1.1 h3).1];exact h3
theorem zn{g:Option (Nat×Bool)}{t:TypeId}{x:Operand}{d:Option Nat}(hx:Ev n L x (.pointer (some p)))(hv:w.cell? p=some v)(ht:∀w,(isAgg t).run P w=.ok false w):Ex P n L w ⟨d,.load t x,ty,pos,af,g⟩ v w:=λa hh=>by
 simp[execOp,hx a hh,Instr.loadAt,Instr.sureAddr,loadVar,ht,load,Sem.run,hv]
theorem Ex.HA{g:Option (Nat×Bool)}{t e:TypeId}{x y:Operand}{d:Option Nat}(hx:Ev n L x (.slice a m c))(hy:Ev n L y (.slice none 0 0))(hT:P.underlying t=some (.slice e)):Ex P n L w ⟨d,.binOp .eql t x y t',ty,pos,af,g⟩ (.bool a.isNone) w :=
 Fa hx hy (λ_ _=>by unfold eqGuard;split<;>simp) (run_eql_slice_nil w t e a m c hT)
theorem Ao.app:∀{Xs As:La} {h:aT},Ao (Xs++As) h↔∃h1 h2,h=h1++h2/\Ao Xs h1/\Ao As h2
 | [],As,h=>⟨λhs=>⟨[],h,O,O,hs⟩,λ⟨h1,h2,e,h3,h4⟩=>by
   have h3:h1=[]:=h3;subst h3;subst e;exact h4⟩
 | X::Xs,As,h=>by
  constructor
  ·rintro⟨h1,h2,rfl,hx,hs⟩;obtain⟨h3,h4,rfl,h5,h6⟩:=(Ao.app (Xs:=Xs)).1 hs;exact⟨h1++h3,h4,by rw[Yc],⟨h1,h3,O,hx,h5⟩,h6⟩
  ·rintro⟨h1,h2,rfl,⟨h3,h4,rfl,hx,h5⟩,h6⟩;exact⟨h3,h4++h2,by rw[Yc],hx,(Ao.app (Xs:=Xs)).2 ⟨h4,h2,O,h5,h6⟩⟩
def zz(T:X->La):X1:=λh=>∃x,Ao (T x) h
theorem Aa.unbox{T:X->La}(hS:Aa B w I (zz T::As)):∃x,Aa B w I (bD (T x) As):=by
 obtain⟨h,⟨h1,h2,rfl,⟨x,hx⟩,h3⟩,hg⟩:=hS;refine⟨x,?_⟩;rw[PQ];exact⟨h1++h2,Ao.app.2 ⟨h1,h2,O,hx,h3⟩,hg⟩
theorem Aa.box{T:X->La}(x:X)(hS:Aa B w I (bD (T x) As)):Aa B w I (zz T::As):=by
 rw[PQ]at hS;obtain⟨h,hs,hg⟩:=hS;obtain⟨h1,h2,rfl,h3,h4⟩:=Ao.app.1 hs;exact⟨h1++h2,⟨h1,h2,O,⟨x,h3⟩,h4⟩,hg⟩
theorem X91(a:Oa)(cap:Nat)(l:List Al)(Hu:l.length<=100000)(pr:Al->Bool)(BC:FuncId)(fn:Func)(EJ:prog.funcs[BC]?=some fn)(BZ:Xb fn=true)(AO:Lv)(As:La)(hE:∀w,Aa B w I As->pC w a l)(hf:∀(r:Al) w,Aa B w I As->Calls prog BC ([Value.agg (X8 r).toArray]++AO).toArray w (A4 λv w'=>v=.bool (pr r)/\Aa B w' I As))(hS:Aa B w I As):Ce B I As 248 [.slice a l.length cap,.func (.func BC) #[] AO.toArray] w (Ab (D8 pr l 0)):=by
 refine gG 4 (.lk [0,1,7] (σ:=Nat) (λi _m=>(8,Ab (i:Nat))::_m) (λi w=>i<=l.length/\(∀(j:Nat) t,j<i->l[j]?=some t->pr t=false)/\Aa B w I As) (λi=>l.length-i) 0 ⟨Y4 _,λ_ _ h=>Yy h om,hS⟩ ?_);rintro i w ⟨hi,AL,hS⟩;refine gN 1 ?_ ?_<;>intro DV
 ·refine gG 0 ?_;obtain⟨r,hr⟩:∃r,l[i]?=some r:=⟨_,Y2 om⟩
  obtain⟨p,rfl,hx⟩:=hE w hS i r hr;refine gH 6 (.val (eT (.of O) hx kV UJ O) O (.B0 (cap:=AO) EJ BZ (.of O) (Be O X4) O (hf r w hS) ?_));clear hS;rintro _ w ⟨rfl,hS⟩;refine gM 0 ?_ ?_<;>intro B6 C1
  ·exact gG 2 ⟨by rw[pJ AL hr B6],hS⟩
  refine gG 2 (rd (i+1) ⟨om,λj t hj ht=>?_,hS⟩);rcases C5 j i with h1|h1
  ·exact AL j t h1 ht
  ·have e:j=i:=om
   subst e;rw[hr]at ht;cases ht;exact B6
 exact gG 1 ⟨by rw[pG (λj t ht=>AL j t (oh ((Y1.1 ht).1)) ht)],hS⟩
theorem lK(r:Al)(name:Lu)(b:Nat)(As:La)(hS:Aa B w I (Ae b [S name] 9::As)):Ce B I (Ae b [S name] 9::As) 249 [.agg (X8 r).toArray,ptr b 0] w (.bool (decide (r.name=name))):=by
 refine gG 7 ?_;clear hS;intro b2 w hS;exact⟨Y5 Value.bool (by rw[yH];simp),hS.s⟩
theorem p5(tb:Nat)(room:Int)(a:Oa)(c:Nat)(l:List Al)(hl:l.length<=100000)(name:Lu)(As:La)(hS:Aa B w I (B7 tb room a c l As)):Ce B I (B7 tb room a c l As) 161 [ptr tb 0,S name] w (Ab (BG l name)):=by
 refine gH 7 ?_;clear hS;intro b3 w hS;refine gP 0 [] (X91 a c l hl (λr=>decide (r.name=name)) 249 _ func249 O [ptr b3 0] (Ae b3 [S name] 9::(B7 tb room a c l As)) (λw h=>aK h (k:=2) O) (λr w h=>lK r name b3 _ h)) ?_;clear hS;rintro _ w ⟨rfl,hS⟩;exact gG 1 ⟨by rw[Xu2];rfl,hS.s⟩
theorem Uy(tb:Nat)(room:Int)(a:Oa)(c:Nat)(l:List Al)(hl:l.length<=100000)(name:Lu)(As:La)(hS:Aa B w I (B7 tb room a c l As)):Ce B I (B7 tb room a c l As) 180 [ptr tb 0,S name] w (.tuple #[.agg (X8 (getD l name)).toArray,.bool (get l name).isSome]):=by
 refine gH 4 ?_;clear hS;intro b4 w hS;refine gE 0 (p5 tb room a c l hl name) ?_;clear hS;intro w hS;replace hS:=hS.px [2];refine gM 3 ?_ ?_<;>intro Dw Eo
 ·refine gG 0 ?_;have hq:0<=BG l name:=su Dw
  obtain⟨j,r,hj,hr,hn⟩:∃(j:Nat) (r:Al),BG l name=(j:Int)/\l[j]?=some r/\get l name=some r:=by
   rcases Tr.get_at l name with⟨h1,_⟩|⟨j,r,h1,h2,_,h3⟩
   ·omega
   ·exact⟨j,r,h1,h2,h3⟩
  have ER:=(Y1.1 hr).1;obtain⟨p,rfl,hx⟩:=aK hS (k:=2) O j r hr;rw[hj];refine gH 3 (.val (.lo O hS (k:=1) O isAgg66 O) O (gH 2 (.val (eT (.of O) hx kV UJ O) O (gH 2 ?_))));clear hS;intro w hS;exact gG 0 ⟨by rw[getD,hn];rfl,hS.y 0 1⟩
 refine gH 3 ?_;clear hS;intro w hS;refine gG 0 (⟨?_,hS.y 0 1⟩);rcases Tr.get_at l name with⟨h1,h2⟩|⟨j,r,h1,_⟩
 ·rw[getD,h2];rfl
 ·exfalso;rw[h1]at Dw;simp at Dw
theorem Xoh{l:List Al}{r:Al}(hr:l[i]?=some r)(name:Lu):kids (l.take (i+1)) name=kids (l.take i) name++(if name≠[]/\r.parent=name then[r.name]else[]):=by
 unfold kids sQ;rw[Yo,hr,Yu,RT,Ym]
 congr 1
 by_cases h1:name=[]
 ·simp[h1]
 ·by_cases h2:r.parent=name
  ·simp[h1,h2]
  ·simp[h1,h2]
theorem Xrr(l:List Al)(name:Lu):(kids l name).length<=l.length:=by
 unfold kids sQ;rw[Yh];exact Yw _ _
theorem Xtc(tb:Nat)(room:Int)(a:Oa)(c:Nat)(l:List Al)(hl:l.length<=100000)(name:Lu)(As:La)(hS:Aa B w I (B7 tb room a c l As)):Cz 377 [ptr tb 0,S name] w λv w'=>∃J ra rc,v=.slice ra (kids l name).length rc/\Le I J/\(kids l name).length<=rc/\RS J ra 1 (kids l name).length ((kids l name).map S)/\Aa B w' J (B7 tb room a c l As):=by
 refine gG 2 ?_;replace hS:=hS.An 9 1;refine gG 6 (.lk [0,1,11,12] (σ:=Va×Nat) (λ(kv,i) _m=>(5,kv)::(13,Ab (i:Nat))::_m) (λ(kv,i) w=>i<=l.length/\Aa B w I (Ar 9 1 kv (kids (l.take i) name).length ((kids (l.take i) name).map S)::B7 tb room a c l As)) (λ(kv,i)=>l.length-i) (.slice none 0 0,0) ⟨Y4 _,hS⟩ ?_);rintro⟨kv,i⟩ w ⟨hi,hS⟩;refine gN 1 ?_ ?_<;>intro Dh
 ·refine gG 0 ?_;obtain⟨r,hr⟩:∃r,l[i]?=some r:=⟨_,Y2 om⟩
  obtain⟨p,rfl,hx⟩:=aK hS (k:=2) O i r hr;have Cw:=Xrr (l.take i) name;rw[Yl]at Cw;refine gH 1 (.val (eT (.of O) hx kV UJ O) O (gG 10 ?_));clear hS;intro b7 w hS;refine gM 0 ?_ ?_<;>intro Fs LL
  ·refine gG 8 ?_;clear hS;intro b28 a29 c29 uB w hS;have e:=Xoh hr name;rw[Y7 (su Fs)]at e;refine rd (.slice a29 ((kids (l.take i) name).length+1) c29,i+1) ⟨od,?_⟩
   (try dsimp only)
   rw[e,Y0,Ym];exact hS.y 0 1
  refine gG 2 ?_;have e:=Xoh hr name;rw[Y3 (su Fs),Yr]at e;refine rd (kv,i+1) ⟨od,?_⟩
  (try dsimp only)
  rw[e];exact hS.y 0 1
 refine gG 2 ?_;have JV:i=l.length:=om
 subst JV;rw[Jm]at hS;obtain⟨ka,kc,rfl,CV,_⟩:=hS.vS 0;obtain⟨J,hJ,AJ,hS⟩:=hS.fV 0;exact⟨J,ka,kc,O,hJ,CV,AJ,hS⟩
theorem Xv6(l:List Al):∀(f:Nat) (i:Int),(PH l f i).length<=f
 | 0,_=>by simp[PH]
 | f+1,i=>by
  rw[PH];split
  ·simp
  ·cases l[i.toNat]? with
   | none=>simp
   | some r =>
    have h:=Xv6 l f (BG l r.parent);simp only[List.length_cons];omega
theorem Xlb{l:List Al}(h:Wf l)(name:Lu):(path l name).length<=l.length:=by
 unfold path qA;rcases aL l name with⟨h1,_⟩|⟨j,r,h1,h2,_⟩
 ·rw[h1,xd l _ om];simp
 ·have h3:=(Y1.1 h2).1;have h4:=Xv6 l ((BG l name).toNat+1) (BG l name);rw[h1]at h4 ⊢;omega
theorem Xtd(tb:Nat)(room:Int)(a:Oa)(c:Nat)(l:List Al)(hl:l.length<=100000)(GR:Wf l)(name:Lu)(As:La)(hS:Aa B w I (B7 tb room a c l As)):Cz 422 [ptr tb 0,S name] w λv w'=>∃J ra rc,v=.slice ra (path l name).length rc/\Le I J/\(path l name).length<=rc/\RS J ra 1 (path l name).length ((path l name).map λr=>S r.name)/\Aa B w' J (B7 tb room a c l As):=by
 refine gE 4 (p5 tb room a c l hl name) ?_;clear hS;intro w hS;replace hS:=hS.An 9 1;refine gG 1 (.lk [0,1] (σ:=Va×Int×List Al) (λ(kv,i,D) _m=>(5,kv)::(6,Ab i)::_m) (λ(kv,i,D) w=>path l name=D++qA l i/\-1<=i/\i<l.length/\Aa B w I (Ar 9 1 kv D.length (D.map λr=>S r.name)::B7 tb room a c l As)) (λ(kv,i,D)=>(i+1).toNat) (.slice none 0 0,BG l name,[]) ⟨O,bL l name,yg l name,hS⟩ ?_);rintro⟨kv,i,D⟩ w ⟨KK,mR,Wy,hS⟩;refine gM 2 ?_ ?_<;>intro Dw Eo
 ·refine gG 0 ?_;obtain⟨q,rfl⟩:∃q:Nat,i=(q:Int):=⟨i.toNat,by simp at Dw;omega⟩
  obtain⟨r,hr⟩:∃r,l[q]?=some r:=⟨_,Y2 om⟩
  obtain⟨p,rfl,hx⟩:=aK hS (k:=2) O q r hr;have jN:q<l.length:=om
  have vr:=(GR.up q r hr).2;have hDl:D.length<=l.length:=by have h1:=Xlb GR name;rw[KK,Y0]at h1;omega
  refine gH 8 (.val (zn (.of O) (hx 1 _ O) BF) O (gG 3 ?_));clear hS;intro b31 a32 c32 Qm w hS;obtain⟨p9,F5,hx⟩:=aK hS (k:=2) O q r hr;cases F5
  refine gH 8 (.val (zn (.of O) (hx 2 _ O) BF) O (gE 0 (p5 tb room (some p) c l hl r.parent) ?_));clear hS;intro w hS;refine gG 1 ?_;refine rd (.slice a32 (D.length+1) c32,BG l r.parent,D++[r]) ⟨by(try dsimp only);rw[KK,fB GR hr,Yc];rfl,bL l _,yg l _,?_⟩
  (try dsimp only)
  rw[Y0,Ym];exact(hS.x [2])
 refine gG 2 ?_;have JV:i<0:=by simp at Dw;omega
 rw[XN l JV,Yr]at KK;subst KK;obtain⟨ka,kc,rfl,CV,_⟩:=hS.vS 0;obtain⟨J,hJ,AJ,hS⟩:=hS.fV 0;exact⟨J,ka,kc,O,hJ,CV,AJ,hS⟩
theorem Xys(l:List Al)(r:Al):DE (l++[r])=DE l++X8 r:=by unfold DE;simp
theorem Xgg{r:Al}:∀{l:List Al} {j:Nat},j<l.length->DE (l.set j r)=(DE l).take (j*10)++X8 r++(DE l).drop (j*10+10)
 | [],j,h=>Yy h sz
 | t::l,0,h=>by
  unfold DE;rw[List.set_cons_zero,Yt,JG,Yt,JG,qD (by exact Yd 10)];rfl
 | t::l,j+1,h=>by
  have h1:=Xgg (r:=r) (l:=l) (j:=j) (su h);have e:∀l:List Al,DE (t::l)=X8 t++DE l:=λl=>rfl
  rw[Y46,e,e,h1,show(j+1)*10=(X8 t).length+j*10 by show(j+1)*10=10+j*10;omega,Y4a,Y5v,Y59];simp only[Yc]
theorem oE(r:Al):(X8 r).all Value.oneCell'=true:=rfl
theorem Xvj:∀(l:List Al),(DE l).all Value.oneCell'=true
 | []=>rfl
 | r::l=>by
  show(X8 r++DE l).all Value.oneCell'=true
  rw[Y4r,oE,Xvj l];rfl
theorem Xj8(l:List Al)(r:Al):(put l r).length=l.length:=by
 unfold put;split
 ·rw[Y5a]
 ·rfl
def TA(n:Int):Int:=max 0 (min n 64)
theorem Xgw(n:Int)(As:La)(hS:Aa B w I As):Cz 67 [Ab n] w λv w'=>∃tb,v=ptr tb 0/\Aa B w' I (B7 tb (TA n) none 0 ([]:List Al) As):=by
 refine gG 7 ?_;clear hS;intro b7 w hS;refine⟨_,O,?_⟩;exact(hS.An 188 10).pick 1 O
theorem Xjy(tb:Nat)(room:Int)(a:Oa)(c:Nat)(l:List Al)(hl:l.length<=100000)(r:Al)(hn:r.name.length<=1000000)(hp:r.parent.length<=1000000)(hK:Ba I)(hP:BB I)(As:La)(hS:Aa B w I (Ae tb [Ab room,.slice a l.length c] 186::Ar 188 10 (.slice a l.length c) l.length (DE l)::As)):Ce B I (Ae tb [Ab room,.slice a (put l r).length c] 186::Ar 188 10 (.slice a (put l r).length c) (put l r).length (DE (put l r))::As) 273 [ptr tb 0,.agg (X8 r).toArray] w (Ab (Zo l r:Nat)):=by
 refine gH 3 ?_;clear hS;intro b3 w hS;refine gE 0 (Xep r hn hp hK hP) ?_;clear hS;intro w hS;refine gM 1 ?_ ?_<;>intro H_ E5
 ·refine gG 1 ?_;have h1:Xt r=false:=su H_
  have hE:Zo l r=1:=by rw[Zo,Y7 h1]
  have hQ:put l r=l:=by rw[put,Y3 (nB hE)]
  rw[hE,hQ];exact⟨O,hS.s⟩
 refine gE 3 (p5 tb room a c l hl r.name) ?_;clear hS;intro w hS;replace hS:=hS.px [2];refine gM 4 ?_ ?_<;>intro FV DP
 ·refine gG 1 ?_;have h1:¬ Xt r=false:=su H_
  have h2:get l r.name=none:=by
   rcases Tr.get_at l r.name with⟨_,h2⟩|⟨j,t,h2,_⟩
   ·exact h2
   ·exfalso;rw[h2]at FV;have:=of_decide_eq_true FV;omega
  have hE:Zo l r=6:=by rw[Zo,Y3 h1,h2]
  have hQ:put l r=l:=by rw[put,Y3 (nB hE)]
  rw[hE,hQ];exact⟨O,hS.y 0 1⟩
 refine gG 0 ?_;obtain⟨j,t,hj,ht,My⟩:∃(j:Nat) (t:Al),BG l r.name=(j:Int)/\l[j]?=some t/\get l r.name=some t:=by
  rcases Tr.get_at l r.name with⟨h1,_⟩|⟨j,t,h1,h2,_,h3⟩
  ·exfalso;rw[h1]at FV;simp at FV
  ·exact⟨j,t,h1,h2,h3⟩
 have ER:=(Y1.1 ht).1;obtain⟨p,rfl,_⟩:=aK hS (k:=2) O j t ht;rw[hj];refine gQ ?_;clear hS;intro w hS;refine gH 7 ?_;refine Br.y 7 (λw _ _ A6 hS=>zn (.of O) (by obtain⟨p9,F5,hx⟩:=aK hS (k:=2) O j t ht;cases F5;exact hx 2 _ O) BF) ?_;refine gM 4 ?_ ?_<;>intro B6 C1
 ·refine gG 1 ?_;have h1:¬ Xt r=false:=su H_
  have h2:t.parent≠r.parent:=su B6
  have hE:Zo l r=8:=by rw[Zo,Y3 h1,My];exact Y7 h2
  have hQ:put l r=l:=by rw[put,Y3 (nB hE)]
  rw[hE,hQ];exact⟨O,hS.y 0 1⟩
 refine gG 0 ?_;obtain⟨gb,bT,Ty,KM,Qh,HK,NV,LP,hS⟩:=hS.AP (k:=2) O om;injection KM with ET HP GQ
 injection ET with ET
 subst ET;subst GQ;try dsimp only[List.set]at hS
 refine gD [0,0,0] [7] [0,1,2,3,4,5,6,7] ?_;clear hS;intro w hS;refine gH 7 (Br.e (.so hS (k:=2) O O O O UJ O (by simp only[Y0];omega) ?_));clear hS;intro w hS;try dsimp only[List.set]at hS
 rw[Yj,yp om,qD om,<-Yc]at hS;replace hS:=hS.py [0];replace hS:=hS.Bm (n:=l.length) (size:=10) (k:=1) O Qh HK (by simp only[Y0,Yl,Ye,List.length_cons,List.length_nil];omega) (by simp only[Y0,Yl,Ye,List.length_cons,List.length_nil];omega);try dsimp only[List.set]at hS
 refine gG 1 ?_;have h1:¬ Xt r=false:=su H_
 have h2:¬ t.parent≠r.parent:=su B6
 have hE:Zo l r=0:=by rw[Zo,Y3 h1,My];exact Y3 h2
 have hQ:put l r=l.set j r:=by rw[put,Y7 hE,hj];(try rw[Y8])
 rw[hE,Xj8,hQ,Xgg ER];exact⟨O,hS⟩
theorem jU(tb:Nat)(room:Int)(a:Oa)(c:Nat)(l:List Al)(hl:l.length<=100000)(r:Al)(hn:r.name.length<=1000000)(hp:r.parent.length<=1000000)(hK:Ba I)(hP:BB I)(As:La)(hS:Aa B w I (Ae tb [Ab room,.slice a l.length c] 186::Ar 188 10 (.slice a l.length c) l.length (DE l)::As)):Cz 81 [ptr tb 0,.agg (X8 r).toArray] w λv w'=>v=Ab (Ld room l r:Nat)/\∃a c,Aa B w' I (Ae tb [Ab room,.slice a (add room l r).length c] 186::Ar 188 10 (.slice a (add room l r).length c) (add room l r).length (DE (add room l r))::As):=by
 refine gH 3 ?_;clear hS;intro b3 w hS;refine gE 0 (Xep r hn hp hK hP) ?_;clear hS;intro w hS;refine gM 2 ?_ ?_<;>intro qQ Wu
 ·refine gG 1 ?_;have hE:Ld room l r=1:=by rw[Ld,Y7 (su qQ)]
  have hQ:add room l r=l:=by rw[add,Y3 (nB hE)]
  rw[hE,hQ];exact⟨O,a,c,hS.s⟩
 refine gE 3 (p5 tb room a c l hl r.name) ?_;clear hS;intro w hS;refine gM 2 ?_ ?_<;>intro GO DV
 ·refine gG 1 ?_;have h1:¬ Xt r=false:=su qQ
  have hE:Ld room l r=7:=by rw[Ld,Y3 h1,Y7 (su GO)]
  have hQ:add room l r=l:=by rw[add,Y3 (nB hE)]
  rw[hE,hQ];exact⟨O,a,c,hS.s⟩
 refine gH 7 (.AG (T:=λw=>Aa B w I (Ae tb [Ab room,.slice a l.length c] 186::Ar 188 10 (.slice a l.length c) l.length (DE l)::Ae b3 [Ab r.kind,S r.name,S r.parent,S r.user,S r.service,S r.url,Ab r.made,Ab r.used,Ab r.Bq,.bool r.fresh] 188::As)) O O O func161 O (λAi=>(X5 (.gd Ai O) (X5 (.gd Ai O) X4))) O (λAi=>p5 tb room a c l hl r.parent _ hS) hS ?_);clear hS;rintro w hS;refine gM 3 ?_ ?_<;>intro JM G8
 ·refine gG 1 ?_;have h1:¬ Xt r=false:=su qQ
  have h2:¬ 0<=BG l r.name:=su GO
  have hE:Ld room l r=6:=by rw[Ld,Y3 h1,Y3 h2,Y7 (su JM)]
  have hQ:add room l r=l:=by rw[add,Y3 (nB hE)]
  rw[hE,hQ];exact⟨O,a,c,hS.s⟩
 refine gG 0 (gQ ?_);clear hS;intro w hS;refine gM 11 ?_ ?_<;>intro LH LM
 ·refine gG 1 ?_;have h1:¬ Xt r=false:=su qQ
  have h2:¬ 0<=BG l r.name:=su GO
  have h3:¬ (r.parent≠[]/\BG l r.parent<0):=λh=>by
   rcases G8 with e|e
   ·exact h.1 e
   ·omega
  have hE:Ld room l r=5:=by rw[Ld,Y3 h1,Y3 h2,Y3 h3,Y7 (su LH)]
  have hQ:add room l r=l:=by rw[add,Y3 (nB hE)]
  rw[hE,hQ];exact⟨O,a,c,hS.s⟩
 refine gG 0 (gD [2,0] [10] [0,1,2,3,4,5,6,7,8,9,10] ?_);clear hS;intro w hS;refine gH 7 ?_;clear hS;intro b43 w hS;refine gH 1 ?_;clear hS;intro a44 c44 uD w hS;refine gH 3 ?_;clear hS;intro w hS;refine gG 1 ?_;have h1:¬ Xt r=false:=su qQ
 have h2:¬ 0<=BG l r.name:=su GO
 have h3:¬ (r.parent≠[]/\BG l r.parent<0):=λh=>by
  rcases G8 with e|e
  ·exact h.1 e
  ·omega
 have hE:Ld room l r=0:=by rw[Ld,Y3 h1,Y3 h2,Y3 h3,Y3 (su LH)]
 have hQ:add room l r=l++[r]:=by rw[add,Y7 hE]
 rw[hE,hQ];refine⟨O,a44,c44,?_⟩;rw[Xys,Y0];exact hS.s
theorem Xb9(a:Oa)(c:Nat)(l:List Al)(hl:l.length<=100000)(As:La)(hS:Aa B w I (Ar 188 10 (.slice a l.length c) l.length (DE l)::As)):Cz 134 [.slice a l.length c] w λv w'=>∃v',v=v'/\Aa B w' I (Ar 188 10 v' l.length (DE l)::Ar 188 10 (.slice a l.length c) l.length (DE l)::As):=by
 refine gH 2 (.val (Ex.HA (.of O) (.of O) Uo) O ?_);refine gM 0 ?_ ?_<;>intro Qe SD
 ·refine gG 1 ?_;cases a with
  | some p=>simp at Qe
  | none =>
  have h0:l=[]:=hS.D5 (k:=0) O λ_ ⟨_,hh⟩=>by
   rcases hh with⟨_,h,_⟩|⟨b,cap,r,hv,_⟩
   ·exact Yf h
   ·cases hv
  subst h0;exact⟨.slice none 0 0,O,hS.An 188 10⟩
 refine gH 2 ?_;clear hS;intro b5 w hS;replace hS:=hS.Bw (k:=0) (E:=188) (size:=10) (n:=0) O O (Y4 _);try dsimp only[List.set]at hS
 refine .H6 (size:=10) (bytes:=120) hS (.of O) (.of O) (k:=0) (j:=1) O O Uo (i:=t188) kr O O O O (Xvj l) ⟨om,by unfold maxLen;omega⟩ O ?_;clear hS;intro v7 w hS;rw[Yj,Ez]at hS;exact gG 1 ⟨v7,O,hS⟩
theorem Xqt(tb:Nat)(room:Int)(a:Oa)(c:Nat)(l:List Al)(hl:l.length<=100000)(As:La)(hS:Aa B w I (B7 tb room a c l As)):Cz 61 [ptr tb 0] w λv w'=>∃J ra rc,v=.slice ra l.length rc/\Le I J/\l.length<=rc/\RS J ra 10 l.length (DE l)/\Aa B w' J (B7 tb room a c l As):=by
 refine gF 5 (Xb9 a c l hl) ?_;clear hS;rintro _ w ⟨v7,rfl,hS⟩;refine gG 1 ?_;obtain⟨ra,rc,rfl,Cc,_⟩:=hS.vS 0;obtain⟨J,hJ,AJ,hS⟩:=hS.fV 0;exact⟨J,ra,rc,O,hJ,Cc,AJ,hS.x [1]⟩
def Xtj(n On:Int):Bool:=On==0||decide (n<On)
def eB(kind:Int):Bool:=kind==1||kind==4
def Ot(ps:List Int)(r:Al)(now:Int):Bool:=decide (1<=r.kind)&&decide (r.kind<=6)&&(Xtj (now-r.made) (ps.getD r.kind.toNat 0)&&Xtj (now-r.used) (ps.getD (7+r.kind.toNat) 0)&&Xtj r.Bq (ps.getD (14+r.kind.toNat) 0))
def UH(r:Al)(now:Int):Al:={ r with Bq:=min (r.Bq+1) 255,used:=max r.used now }
theorem Xez(n On:Int)(w:Wo):Cz 446 [Ab n,Ab On] w λv w'=>v=.bool (Xtj n On)/\w=w':=by
 exact gG 9 ⟨O,O⟩
theorem Wz(kind:Int)(w:Wo):Cz 423 [Ab kind] w λv w'=>v=.bool (eB kind)/\w=w':=by
 exact gG 8 ⟨O,O⟩
theorem Xes(r:Al)(now:Int)(hu:0<=r.Bq)(hu2:r.Bq<=255)(As:La)(hS:Aa B w I As):Ce B I As 274 [.agg (X8 r).toArray,Ab now] w (.agg (X8 (UH r now)).toArray):=by
 refine gH 14 ?_;clear hS;intro b2 b4 w hS;refine gG 0 (gH 2 ?_);clear hS;intro w hS;exact gG 0 ⟨O,hS.s⟩
theorem Ex.Iy{t:TypeId}{g:Option (Nat×Bool)}{x y:Operand}{d:Option Nat}{s:Nat}{e:TypeId}{i:Int}{q:IntKind}(hx:Ev n L x (ptr b o))(hy:Ev n L y (.int q i))(hi:0<=i)(hl:i<(m:Int))(ht:P.underlying t=some (.array m e))(hs:∀w,(Go.sizeOf e).run P w=.ok s w):Ex P n L w ⟨d,.indexAddr t x y,ty,pos,af,g⟩ (ptr b (o+i.toNat*s)) w:=by
 have h:=Ex.Bc (P:=P) (w:=w) (d:=d) (ty:=ty) (pos:=pos) (af:=af) (g:=g) hx hy hi hl ht hs;rw[show(⟨b,o,none⟩:Addr).add (i.toNat*s)=⟨b,o+i.toNat*s,none⟩ from EE b o _]at h;exact h
theorem Xsc{ps:List Int}(E7:ps.length=21)(e:o=k)(h:k<21):(ps.map Ab)[o]?=some (Ab (ps.getD k 0)):=by
 subst e;rw[Ys,Ya,Y2 om];rfl
theorem ZV(ps:List Int)(E7:ps.length=21)(r:Al)(now:Int)(hm:0<=r.made/\r.made<=1099511627776)(hu:0<=r.used/\r.used<=1099511627776)(hn:0<=now/\now<=1099511627776)(As:La)(hS:Aa B w I As):Ce B I As 424 [.agg (ps.map Ab).toArray,.agg (X8 r).toArray,Ab now] w (.bool (Ot ps r now)):=by
 refine gG 11 ?_;clear hS;intro b3 b4 w hS;refine gN 0 ?_ ?_<;>intro Dh
 ·refine gG 1 (⟨Y5 Value.bool ?_,hS.s⟩)
  have:(decide (1<=r.kind)&&decide (r.kind<=6))=false:=by
   rcases Dh with e|e
   ·rw[decide_eq_false om];rfl
   ·rw[decide_eq_false (p:=r.kind<=6) om,jy]
  rw[Ot,this];rfl
 have Jr:1<=r.kind/\r.kind<=6:=om
 refine gG 0 (.qt hS (.val (λw hS=>(.mo O)) O ?_));refine .val (λw hS=>(by exact .fo 6 O Iq O O BU O)) O ?_;refine .val (λw hS=>(by exact(.lo O hS (k:=0) O Cv O))) O ?_;refine .val (λw hS=>(.sub (.of O) (.of O) ⟨om,om⟩)) O (.val (λw hS=>(by exact .fo 0 O Iq O O BU O)) O ?_);refine .val (λw hS=>(by exact(.lo O hS (k:=0) O Cv O))) O ?_;refine .val (λw hS=>(by exact .fo 0 O Um O O Ug O)) O ?_;refine .val (λw hS=>(Ex.Iy (i:=r.kind) (.of O) (.of O) om om Uk BU)) O (.val (λw hS=>(.lo O hS (k:=1) O Cv (Xsc E7 (o:=0+0+r.kind.toNat*1) (k:=r.kind.toNat) om om))) O (.call func446 O (Be O (Be O X4)) O (λw hS=>Ux (Xez _ _ w) hS) (.val (λw hS=>(.mo O)) O (.AA O O O (λAi w hS=>(.mo O)) O ?_))));refine .AA O O O (λAi w hS=>(by exact .fo 7 O Iq O O BU O)) O ?_;refine .AA O O O (λAi w hS=>(by exact(.ld (.gd Ai O) hS (k:=0) O Cv O))) O ?_;refine .AA O O O (λAi w hS=>(.sub (.gd Ai O) (.gd Ai O) ⟨om,om⟩)) O (.AA O O O (λAi w hS=>(by exact .fo 0 O Iq O O BU O)) O ?_);refine .AA O O O (λAi w hS=>(by exact(.ld (.gd Ai O) hS (k:=0) O Cv O))) O ?_;refine .AA O O O (λAi w hS=>(by exact .fo 7 O Um O O Ug O)) O ?_;refine .AA O O O (λAi w hS=>(Ex.Iy (i:=r.kind) (.gd Ai O) (.gd Ai O) om om Uk BU)) O (.AA O O O (λAi w hS=>(.ld (.gd Ai O) hS (k:=1) O Cv (Xsc E7 (o:=0+7+r.kind.toNat*1) (k:=7+r.kind.toNat) om om))) O (.AG O O O func446 O (λAi=>(X5 (.gd Ai O) (X5 (.gd Ai O) X4))) O (λAi w hS=>Ux (Xez _ _ w) hS) (.val (λw hS=>(.pa O O O)) O (.val (λw hS=>(.mo O)) O ?_))));refine .AA O O O (λAi w hS=>(by exact .fo 8 O Iq O O BU O)) O ?_;refine .AA O O O (λAi w hS=>(by exact(.ld (.gd Ai O) hS (k:=0) O Cv O))) O ?_;refine .AA O O O (λAi w hS=>(by exact .fo 0 O Iq O O BU O)) O ?_;refine .AA O O O (λAi w hS=>(by exact(.ld (.gd Ai O) hS (k:=0) O Cv O))) O ?_;refine .AA O O O (λAi w hS=>(by exact .fo 14 O Um O O Ug O)) O ?_;refine .AA O O O (λAi w hS=>(Ex.Iy (i:=r.kind) (.gd Ai O) (.gd Ai O) om om Uk BU)) O (.AA O O O (λAi w hS=>(.ld (.gd Ai O) hS (k:=1) O Cv (Xsc E7 (o:=0+14+r.kind.toNat*1) (k:=14+r.kind.toNat) om om))) O (.AG O O O func446 O (λAi=>(X5 (.gd Ai O) (X5 (.gd Ai O) X4))) O (λAi w hS=>Ux (Xez _ _ w) hS) (.val (λw hS=>(.pa O O O)) O (.val (λw hS=>(.ao O)) O (.nil ?_)))));clear hS;intro w hS;refine gG 0 (⟨Y5 Value.bool ?_,hS.s⟩);rw[Ot,decide_eq_true Jr.1,decide_eq_true Jr.2];rfl
def Vn(ps:List Int)(name:Lu)(now:Int)(r:Al):Bool:=((r.name==name)||eB r.kind)&&!Ot ps r now
def p4(ps:List Int)(l:List Al)(name:Lu)(now:Int):Bool:=!(path l name).any (Vn ps name now)&&decide (0<(path l name).length)
theorem Xov(l:List Al):∀(f:Nat) (i:Int) (r:Al),r∈PH l f i->∃j:Nat,l[j]?=some r
 | 0,_,r,h=>by simp[PH]at h
 | f+1,i,r,h=>by
  rw[PH]at h;split at h
  ·simp at h
  ·split at h
   ·rename_i t ht
    rcases Yi.1 h with e|e
    ·subst e;exact⟨_,ht⟩
    ·exact Xov l f _ r e
   ·simp at h
theorem Xlc{l:List Al}{name:Lu}{r:Al}(h:r∈path l name):∃j:Nat,l[j]?=some r:=Xov l _ _ r h
theorem Xgc{r:Al}(h:Xt r=true):(0<=r.made/\r.made<=1099511627776)/\(0<=r.used/\r.used<=1099511627776)/\0<=r.Bq/\r.Bq<=255:=by
 unfold Xt at h;simp only[Yb,dq1]at h
 omega
theorem Xxd(tb:Nat)(room:Int)(a:Oa)(c:Nat)(l:List Al)(hl:l.length<=100000)(GR:Wf l)(ps:List Int)(E7:ps.length=21)(name:Lu)(now:Int)(hn:0<=now/\now<=1099511627776)(As:La)(hS:Aa B w I (B7 tb room a c l As)):Cz 356 [ptr tb 0,.agg (ps.map Ab).toArray,S name,Ab now] w λv w'=>∃J,Le I J/\v=.bool (p4 ps l name now)/\Aa B w' J (B7 tb room a c l As):=by
 refine gH 4 ?_;clear hS;intro b5 w hS;refine gF 0 (Xtd tb room a c l hl GR name) ?_;clear hS;rintro _ w ⟨J,pa,pc,rfl,hJ,NY,AJ,hS⟩;have NZ:=Xlb GR name;refine gG 4 (.lk [0,2,3,5,9,17,18] (σ:=Nat) (λi _m=>(19,Ab (i:Nat))::_m) (λi w=>i<=(path l name).length/\(∀(j:Nat) r,j<i->(path l name)[j]?=some r->Vn ps name now r=false)/\Aa B w J (B7 tb room a c l (Ae b5 (ps.map Ab) 29::As))) (λi=>(path l name).length-i) 0 ⟨Y4 _,λ_ _ h=>Yy h om,hS⟩ ?_);rintro i w ⟨hi,AL,hS⟩;refine gN 1 ?_ ?_<;>intro FX
 ·refine gG 0 ?_;obtain⟨r,hr⟩:∃r,(path l name)[i]?=some r:=⟨_,Y2 om⟩
  obtain⟨q,hq⟩:=Xlc (Y6 hr);have hgd:getD l r.name=r:=by rw[getD,GR.Aap hq];rfl
  obtain⟨SO,eH,_⟩:=Xgc (GR.right r (Y6 hq));obtain⟨p,rfl,hA⟩:=AJ.2 om;have SM:((path l name).map λr=>S r.name)[i]?=some (S r.name):=by rw[Ys,hr];rfl
  refine gH 1 ?_;refine .val (zn (.of O) (by have h9:=Pz hS hA SM;simpa using h9) BF) O ?_;refine gP 3 [] (Uy tb room _ c l hl r.name _) ?_;clear hS;rintro _ w ⟨rfl,hS⟩;rw[hgd];refine gH 12 ?_;clear hS;intro bM w hS;refine .AG (T:=λw=>Aa B w J (Ae bM [Ab r.kind,S r.name,S r.parent,S r.user,S r.service,S r.url,Ab r.made,Ab r.used,Ab r.Bq,.bool r.fresh] 188::B7 tb room a c l (Ae b5 (ps.map Ab) 29::As))) O O O func423 O (λAi=>(X5 (.gd Ai O) X4)) O (λAi=>Ux (Wz _ w) hS) hS ?_;clear hS;rintro w hS;refine gH 2 ?_;refine .AA O O (λAi=>(.GG (vs:=ps.map Ab) (.of O) hS (k:=3) O isAgg29 Uh (by rw[Yh];exact E7) (λj v hj=>by rw[Yj];exact hj))) O ?_;refine gH 2 (.AG (T:=λw=>Aa B w J (Ae bM [Ab r.kind,S r.name,S r.parent,S r.user,S r.service,S r.url,Ab r.made,Ab r.used,Ab r.Bq,.bool r.fresh] 188::B7 tb room a c l (Ae b5 (ps.map Ab) 29::As))) O O O func424 O (λAi=>(X5 (.gd Ai O) (X5 (.gd Ai O) (X5 (.gd Ai O) X4)))) O (λAi=>ZV ps E7 r now SO eH hn _ hS) hS ?_);clear hS;rintro w hS;refine gM 2 ?_ ?_<;>intro ug dO
  ·refine gG 1 (⟨J,hJ,Y5 Value.bool ?_,hS.s⟩)
   have:(path l name).any (Vn ps name now)=true:=Y4i.2 ⟨r,Y6 hr,ug⟩
   rw[p4,this];rfl
  refine gG 2 (rd (i+1) ⟨od,λj t hj ht=>?_,hS.y 0 1⟩);rcases C5 j i with h1|h1
  ·exact AL j t h1 ht
  ·have e:j=i:=om
   subst e;rw[hr]at ht;cases ht;exact ug
 refine gG 4 (⟨J,hJ,Y5 Value.bool ?_,hS.s⟩)
 have:(path l name).any (Vn ps name now)=false:=by
  rw[Y4w];intro r hr;obtain⟨j,hj,hjr⟩:=Y3x hr;rw[AL j r om (by rw[Y2 hj,hjr])];decide
 rw[p4,this]
 simp
def Abm(c:Ui):Bool:=(decide ((97:Int)<=(c.toNat:Int))&&decide ((c.toNat:Int)<=122))||(decide ((65:Int)<=(c.toNat:Int))&&decide ((c.toNat:Int)<=90))
def sr(s:Lu)(lo least most:Int):Bool:=(s.all λc=>!(decide ((c.toNat:Int)<lo)||decide ((126:Int)<(c.toNat:Int))))&&(decide (least<=(s.length:Int))&&decide ((s.length:Int)<=most))
theorem Xy0(c:Ui)(w:Wo):Cz 314 [U8 c.toNat] w λv w'=>v=.bool (Abm c)/\w=w':=by
 refine gH 14 ?_;exact gG 2 ⟨O,O⟩
theorem Xjq(s:Lu)(lo least most:Int)(hs:s.length<=9223372036854775807)(As:La)(hS:Aa B w I As):Ce B I As 232 [S s,.int .u8 lo,Ab least,Ab most] w (.bool (sr s lo least most)):=by
 refine gG 4 (.lk [0,1,2,3,11] (σ:=Nat) (λi _m=>(12,Ab (i:Nat))::_m) (λi w=>i<=s.length/\(∀(j:Nat) c,j<i->s[j]?=some c->(decide ((c.toNat:Int)<lo)||decide ((126:Int)<(c.toNat:Int)))=false)/\Aa B w I As) (λi=>s.length-i) 0 ⟨Y4 _,λ_ _ h=>Yy h om,hS⟩ ?_);rintro i w ⟨hi,AL,hS⟩;refine gN 1 ?_ ?_<;>intro DP
 ·refine gM 13 ?_ ?_<;>intro JN E4
  ·refine gG 1 (⟨Y5 Value.bool ?_,hS⟩)
   have:(s.all λc=>!(decide ((c.toNat:Int)<lo)||decide ((126:Int)<(c.toNat:Int))))=false:=by
    rw[Y5j];exact⟨_,Y6 (Rx (show i<s.length by omega)),by rw[JN];decide⟩
   rw[sr,this];rfl
  refine gG 2 (rd (i+1) ⟨od,λj c hj hc=>?_,hS⟩);rcases C5 j i with h1|h1
  ·exact AL j c h1 hc
  ·have e:j=i:=om
   subst e;rw[Rx (show j<s.length by omega)]at hc;cases hc;exact JN
 refine gG 11 (⟨Y5 Value.bool ?_,hS⟩)
 have:(s.all λc=>!(decide ((c.toNat:Int)<lo)||decide ((126:Int)<(c.toNat:Int))))=true:=by
  rw[Yv];intro c hc;obtain⟨j,hj,hjr⟩:=Y3x hc;rw[AL j c om (by rw[Y2 hj,hjr])];rfl
 rw[sr,this];rfl
end Go.Proofs.W9
namespace Tr
open Tk
inductive Py(l:List Al)(k:List UInt8):List UInt8->Prop
 | self:Py l k k
 | step {i:Nat} {r:Al} (hr:l[i]?=some r) (h:Py l k r.parent):Py l k r.name
theorem Py.trans{l:List Al}{a b c:Lu}(h:Py l a b)(k:Py l b c):Py l a c:=by
 induction k with
 | self=>exact h
 | step hr _ ih=>exact .step hr ih
theorem Xe1{l:List Al}{name x:Lu}(h:x∈kids l name):name≠[]/\∃(i:Nat) (r:Al),l[i]?=some r/\r.parent=name/\r.name=x:=by
 unfold kids sQ at h;obtain⟨r,hr,hx⟩:=Fg.1 h;obtain⟨h1,h2⟩:=O4.1 hr;simp only[Yb,dq1]at h2
 obtain⟨i,hi,he⟩:=Y3x h1;exact⟨h2.1,i,r,by rw[Y2 hi,he],h2.2,hx⟩
theorem Xl1{l:List Al}(hw:Wf l){name k:Lu}(h:k∈kids l name):BG l name<BG l k/\0<=BG l k/\0<=BG l name:=by
 obtain⟨h0,i,r,hr,hp,hn⟩:=Xe1 h;have h1:=(hw.up i r hr)
 have h2:=hw.at_ hr;subst hp;subst hn;rcases h1.1 with e|e
 ·exact Yy e h0
 ·rw[h2];exact⟨h1.2,om,e⟩
theorem Xa8{l:List Al}:∀(n:Nat) (name x:Lu),x∈EF l n name->Py l name x
 | 0,_,_,h=>by simp[EF]at h
 | n+1,name,x,h=>by
  rw[EF,Yi]at h;rcases h with e|h
  ·subst e;exact .self
  ·obtain⟨k,hk,hx⟩:=s6.1 h;obtain⟨_,i,r,hr,hp,hn⟩:=Xe1 hk;subst hp;subst hn;exact(Py.step hr .self).trans (Xa8 n _ _ hx)
theorem iF{l:List Al}(hw:Wf l){k x:Lu}(h:Py l k x):k=x\/BG l k<BG l x:=by
 induction h with
 | self=>exact .inl O
 | step hr _ ih =>
  have h1:=(hw.up _ _ hr).2;rw[hw.at_ hr];rcases ih with e|e
  ·rw[<-e]at h1;exact .inr h1
  ·exact .inr om
theorem o8{l:List Al}(hw:Wf l){a b x:Lu}(h:Py l a x):Py l b x->Py l a b\/Py l b a:=by
 induction h with
 | self=>exact λk=>.inr k
 | @step i r hr h ih =>
  intro k;generalize hy:r.name=y at k;cases k with
  | self=>rw[<-hy];exact .inl (.step hr h)
  | step hs hp =>
   have e:=hw.one _ _ _ _ hr hs hy;subst e;rw[hr]at hs;cases hs
   exact ih hp
theorem Xxx{l:List Al}(hw:Wf l)(name:Lu):(kids l name).Nodup:=by
 unfold kids sQ;have h1:(l.map Al.name).Nodup:=by
  rw[List.Nodup,Y3n];intro i j hi hj y8 e;simp only[Yh]at hi hj
  simp only[yE]at e
  have:=hw.one i j l[i] l[j] (Y2 hi) (Y2 hj) e
  omega
 exact h1.sublist ((Y4k (l:=l)).map Al.name)
theorem X7j{l:List Al}(hw:Wf l):∀(n:Nat) (name:Lu),(EF l n name).Nodup
 | 0,_=>by simp[EF]
 | n+1,name=>by
  rw[EF,qI];constructor
  ·intro h;obtain⟨k,hk,hx⟩:=s6.1 h;have h1:=Xl1 hw hk;rcases iF hw (Xa8 n k name hx)with e|e
   ·rw[e]at h1;omega
   ·omega
  ·rw[List.Nodup,List.pairwise_flatMap];refine⟨λk _=>X7j hw n k,?_⟩;refine List.Pairwise.imp_of_mem ?_ (Xxx hw name);intro a b ha hb A8 x hx y hy e;subst e;have key:∀{p q:Lu},p∈kids l name->q∈kids l name->p≠q->Py l p q->False:=by
    intro p q hp hq rf hu;cases hu with
    | self=>exact rf O
    | step hr h =>
     rename_i r
     obtain⟨_,i,s,hs,ri,ZF⟩:=Xe1 hq;have e:=hw.one _ _ _ _ hr hs ZF.symm;subst e;rw[hr]at hs;cases hs
     rw[ri]at h;have h1:=Xl1 hw hp;rcases iF hw h with e|e
     ·rw[e]at h1;omega
     ·omega
   rcases o8 hw (Xa8 n a x hx) (Xa8 n b x hy)with h|h
   ·exact key ha hb A8 h
   ·exact key hb ha (Ne.symm A8) h
theorem Xbj{l:List Al}:∀(n:Nat) (name x:Lu),x∈EF l n name->x=name\/∃r∈l,r.name=x
 | 0,_,_,h=>by simp[EF]at h
 | n+1,name,x,h=>by
  rw[EF,Yi]at h;rcases h with e|h
  ·exact .inl e
  ·obtain⟨k,hk,hx⟩:=s6.1 h;obtain⟨_,i,r,hr,hp,hn⟩:=Xe1 hk;rcases Xbj n k x hx with e|e
   ·exact .inr ⟨r,Y6 hr,by rw[hn,e]⟩
   ·exact .inr e
theorem Xg1{α:Type}[DecidableEq α]:∀(a b:List α),a.Nodup->(∀x∈a,x∈b)->a.length<=b.length
 | [],_,_,_=>Y4 _
 | x::a,b,hn,hs=>by
  rw[qI]at hn;have hx:x∈b:=hs x sz;have h1:=Xg1 a (b.erase x) hn.2 (λy hy=>(List.mem_erase_of_ne (by intro e;subst e;exact hn.1 hy)).2 (hs y (by simp[hy])));rw[List.length_erase_of_mem hx]at h1
  have:=Y60 hx
  rw[List.length_cons];omega
theorem Vq{l:List Al}(hw:Wf l)(n:Nat)(name:Lu):(EF l n name).length<=l.length+1:=by
 have h:=Xg1 (EF l n name) (name::l.map Al.name) (X7j hw n name) (λx hx=>by
  rcases Xbj n name x hx with e|⟨r,hr,e⟩
  ·simp[e]
  ·exact lx _ (Fg.2 ⟨r,hr,e⟩))
 simpa using h
theorem Xey{l:List Al}(hw:Wf l):∀(n m:Nat) (name:Lu),0<=BG l name->(l.length:Int)-BG l name<=n->(l.length:Int)-BG l name<=m->EF l n name=EF l m name
 | 0,_,name,_,h,_=>by have:=yg l name;omega
 | _+1,0,name,_,_,h=>by have:=yg l name;omega
 | n+1,m+1,name,h0,hn,hm=>by
  rw[EF,EF]
  congr 1
  rw[List.flatMap_def,List.flatMap_def]
  congr 1
  refine List.map_congr_left λk hk=>?_
  have:=Xl1 hw hk
  exact Xey hw n m k this.2.1 om om
theorem Xkd{l:List Al}(hw:Wf l)(name:Lu):(below l name).length<=l.length:=by
 unfold below;split
 ·rename_i h0
  have h:=Xg1 (EF l l.length name) (l.map Al.name) (X7j hw _ name) (λx hx=>by
   rcases Xbj _ name x hx with e|⟨r,hr,e⟩
   ·rcases aL l name with⟨h1,_⟩|⟨j,r,_,h2,h3,_⟩
    ·omega
    ·exact Fg.2 ⟨r,Y6 h2,by rw[h3,e]⟩
   ·exact Fg.2 ⟨r,hr,e⟩)
  simpa using h
 ·simp
theorem Xi9{l:List Al}{i:Nat}{r:Al}(hr:l[i]?=some r)(h0:r.parent≠[]):∀(n:Nat) (name:Lu),r.parent∈EF l n name->r.name∈EF l (n+1) name
 | 0,_,h=>by simp[EF]at h
 | n+1,name,h=>by
  rw[EF,Yi]at h ⊢;refine .inr (s6.2 ?_);rcases h with e|h
  ·refine⟨r.name,?_,by rw[EF];simp⟩;unfold kids sQ;exact Fg.2 ⟨r,O4.2 ⟨Y6 hr,by simp[<-e,h0]⟩,O⟩
  ·obtain⟨k,hk,hx⟩:=s6.1 h;exact⟨k,hk,Xi9 hr h0 n k hx⟩
theorem bQ{l:List Al}(hw:Wf l){name:Lu}{r:Al}(hr:l[i]?=some r)(h0:r.parent≠[])(h:r.parent∈below l name):r.name∈below l name:=by
 unfold below at h ⊢;split at h
 ·rename_i h1
  rw[Y7 h1,Xey hw l.length (l.length+1) name h1 om om];exact Xi9 hr h0 _ _ h
 ·simp at h
theorem Wf.names{l:List Al}(hw:Wf l):(l.map Al.name).Nodup:=by
 rw[List.Nodup,Y3n];intro i j hi hj y8 e;simp only[Yh]at hi hj
 simp only[yE]at e
 have:=hw.one i j l[i] l[j] (Y2 hi) (Y2 hj) e
 omega
theorem Wf.split{l:List Al}(hw:Wf l){xs ys:List Al}{r:Al}(h:l=xs++r::ys):r.parent=[]\/∃t∈xs,t.name=r.parent:=by
 have hr:l[xs.length]?=some r:=by rw[h];simp
 obtain⟨h1,h2⟩:=hw.up _ _ hr;rcases h1 with e|e
 ·exact .inl e
 ·rcases aL l r.parent with⟨h3,_⟩|⟨j,t,h3,h4,h5,_⟩
  ·omega
  ·refine .inr ⟨t,?_,h5⟩;rw[h,Y9 om]at h4;exact Y6 h4
theorem Wf.of{l:List Al}(h1:∀r∈l,Xt r=true)(h2:(l.map Al.name).Nodup)(h3:∀xs r ys,l=xs++r::ys->r.parent=[]\/∃t∈xs,t.name=r.parent):Wf l:=by
 refine⟨h1,λi j r s hr hs e=>?_,λi r hr=>?_⟩
 ·rw[List.Nodup,Y3n]at h2;obtain⟨hi,e1⟩:=Y1.1 hr;obtain⟨hj,e2⟩:=Y1.1 hs;rcases Nat.lt_trichotomy i j with h|h|h
  ·exact Yy (by rw[yE,yE,e1,e2,e]) (h2 i j (su hi) (su hj) h)
  ·exact h
  ·exact Yy (by rw[yE,yE,e1,e2,e]) (h2 j i (su hj) (su hi) h)
 ·obtain⟨hi,e1⟩:=Y1.1 hr;have ri:l=l.take i++r::l.drop (i+1):=by
   rw[<-e1,<-Yp hi];exact(Mv i l).symm
  rcases h3 _ _ _ ri with e|⟨t,ht,e⟩
  ·refine⟨.inl e,?_⟩;rcases aL l r.parent with⟨h4,_⟩|⟨j,t,h4,h5,h6,_⟩
   ·omega
   ·exact Yy (h6.trans e) (Xce (h1 t (Y6 h5)))
  ·obtain⟨j,hj,e2⟩:=Y3x ht;rw[Yl]at hj;have h7:l[j]?=some t:=by rw[<-e2,List.getElem_take];exact Y2 om
   rcases aL l r.parent with⟨_,h5⟩|⟨q,u,h4,h5,h6,h8⟩
   ·exact Yy e (h5 t (Y6 h7))
   ·have:q<=j:=Nat.le_of_not_lt λhh=>h8 j t hh h7 e
    exact⟨.inr om,om⟩
theorem Wf.drop{l:List Al}(hw:Wf l)(name:Lu):Wf (drop l name):=by
 refine Wf.of (λr hr=>hw.right r (O4.1 hr).1) (hw.names.sublist (Y4k.map Al.name)) λxs r ys h=>?_
 obtain⟨l1,l2,e1,e2,e3⟩:=List.filter_eq_append_iff.1 h;obtain⟨m1,m2,e4,e5,e6,_⟩:=List.filter_eq_cons_iff.1 e3;have ri:l=(l1++m1)++r::m2:=by rw[e1,e4,Yc]
 have hr:l[(l1++m1).length]?=some r:=by rw[ri];simp
 rcases hw.split ri with e|⟨t,ht,e⟩
 ·exact .inl e
 ·by_cases h0:r.parent=[]
  ·exact .inl h0
  ·refine .inr ⟨t,?_,e⟩;have hk:((below l name).contains t.name)=false:=by
    cases hc:(below l name).contains t.name with
    | false=>rfl
    | true =>
     have h1:=bQ hw hr h0 (by rw[<-e];simpa using hc);have h2:(below l name).contains r.name=true:=su h1
     rw[h2]at e6;cases e6
   rcases Yn.1 ht with h1|h1
   ·rw[<-e2];exact O4.2 ⟨h1,by rw[hk];rfl⟩
   ·exact Yy (by rw[hk];rfl) (e5 t h1)
theorem cF(l:List Al)(name:Lu):(drop l name).Sublist l:=Y4k
end Tr
namespace Go.Proofs.W9
open Gk Ul Pc Tk Tr
open Tryz
theorem Xx3(tb:Nat)(room:Int)(a:Oa)(c:Nat)(l:List Al)(hl:l.length<=100000)(GR:Wf l)(ob tx wx:Nat)(As:La):∀(n:Nat) (name:Lu) (out:List Lu) (v:Va) (B w:Wo) (I:Im) (h0:0<=BG l name) (hn:(l.length:Int)-BG l name<=n) (u6:out.length+(EF l n name).length<=1000000) (hS:Aa B w I (Ae ob [v] 69::Ar 9 1 (v) (out).length ((out).map S)::Ae tx [ptr tb 0] 94::Ae wx [.func (.func 430) #[] #[ptr ob 0,ptr tx 0,ptr wx 0]] 520::B7 tb room a c l As)),
  Calls prog 430 #[S name,ptr ob 0,ptr tx 0,ptr wx 0] w (A4 λ_ w'=>∃J v',Le I J/\Aa B w' J (Ae ob [v'] 69::Ar 9 1 (v') ((out++EF l n name)).length (((out++EF l n name)).map S)::Ae tx [ptr tb 0] 94::Ae wx [.func (.func 430) #[] #[ptr ob 0,ptr tx 0,ptr wx 0]] 520::B7 tb room a c l As)):=by
 intro n
 induction n with
 | zero=>intro name out v B w I h0 hn;have:=yg l name;omega
 | succ n ih =>
  intro name out v B w I h0 hn u6 hS;have Adf:=u6;rw[EF,List.length_cons]at Adf;refine gH 7 ?_;clear hS;intro b9 a10 c10 Acy w hS;refine gF 0 (Xtc tb room a c l hl name) ?_;clear hS;rintro _ w ⟨J,ra,rc,rfl,hJ,Cc,AJ,hS⟩;have Cw:=Xrr l name;replace hS:=hS.px [5,5,5,5];refine gG 2 (.lk [1,2,3,13,14] (σ:=Nat×Va×Im) (λ(i,v,J2) _m=>(15,Ab (i:Nat))::_m) (λ(i,v,J2) w=>i<=(kids l name).length/\Le J J2/\Aa B w J2 (Ae ob [v] 69::Ar 9 1 (v) ((out++name::((kids l name).take i).flatMap (EF l n))).length (((out++name::((kids l name).take i).flatMap (EF l n))).map S)::Ae tx [ptr tb 0] 94::Ae wx [.func (.func 430) #[] #[ptr ob 0,ptr tx 0,ptr wx 0]] 520::B7 tb room a c l As)) (λ(i,v,J2)=>(kids l name).length-i) (0,_,J) ⟨Y4 _,Le.refl _,su hS⟩ ?_);rintro⟨i,v,J2⟩ w ⟨hi,AE,hS⟩;refine gN 1 ?_ ?_<;>intro C1
  ·refine gG 0 ?_;obtain⟨k,hk⟩:∃k,(kids l name)[i]?=some k:=⟨_,Y2 om⟩
   have hkm:=Xl1 GR (Y6 hk);have SM:((kids l name).map S)[i]?=some (S k):=by rw[Ys,hk];rfl
   have NT:(((kids l name).take i).flatMap (EF l n)).length+(EF l n k).length<=((kids l name).flatMap (EF l n)).length:=by
    have e:=Mv i (kids l name);have e2:=Yp (l:=kids l name) (i:=i) om;rw[(Y1.1 hk).2]at e2;rw[e2]at e;have e3:=Y5 (λx=>(List.flatMap (EF l n) x).length) e;simp only[RR,lA,Y0]at e3
    omega
   obtain⟨p,rfl,hA⟩:=AJ.2 om;refine gH 1 ?_;refine .val (zn (.of O) (by have h9:=Pz hS (hA.mono AE) SM;simpa using h9) BF) O ?_;refine gH 3 (.B0 (cap:=[ptr ob 0,ptr tx 0,ptr wx 0]) func430 O (.of O) (Be O X4) O (ih k (out++name::((kids l name).take i).flatMap (EF l n)) v B w J2 hkm.2.1 om (by simp only[Y0,List.length_cons,EF]at u6 ⊢;omega) hS) ?_);clear hS;rintro _ w ⟨J3,v3,BN,hS⟩;refine gG 2 (rd (i+1,v3,J3) ⟨od,AE.trans BN,?_⟩);try dsimp only
   rw[Yo,hk,Yu,RR,lA,List.flatMap_nil,Yr,<-Yz,<-Yc];exact hS
  refine gG 0 ?_;have JV:i=(kids l name).length:=om
  subst JV;rw[Jm]at hS;exact⟨J2,v,hJ.trans AE,hS⟩
theorem Xme(tb:Nat)(room:Int)(a:Oa)(c:Nat)(l:List Al)(hl:l.length<=100000)(GR:Wf l)(name:Lu)(As:La)(hS:Aa B w I (B7 tb room a c l As)):Cz 367 [ptr tb 0,S name] w λv w'=>∃J ra rc,v=.slice ra (below l name).length rc/\Le I J/\(below l name).length<=rc/\RS J ra 1 (below l name).length ((below l name).map S)/\Aa B w' J (B7 tb room a c l As):=by
 refine gH 8 ?_;clear hS;intro b2 b5 b6 w hS;refine gE 0 (p5 tb room a c l hl name) ?_;clear hS;intro w hS;replace hS:=hS.px [4,4,4];refine gM 1 ?_ ?_<;>intro Dw Eo
 ·replace hS:=(((hS.An 9 1).pick 1 O).pick 3 O)
  try dsimp only[List.eraseIdx]at hS
  have DL:=(hS.pick 2 O).pick 3 O;try dsimp only[List.eraseIdx]at DL
  clear hS;have hS:=DL;clear DL;refine gH 2 ?_;refine .B0 (cap:=[ptr b5 0,ptr b2 0,ptr b6 0]) func430 O (.of O) (Be O X4) O (Xx3 tb room a c l hl GR b5 b2 b6 As l.length name [] _ B w I (su Dw) om (by have:=Vq GR l.length name;simp only[List.length_nil];omega) hS) ?_;clear hS;rintro _ w ⟨J,v2,hJ,hS⟩;refine gG 2 ?_;rw[Ez]at hS;have hbe:below l name=EF l l.length name:=Y7 (su Dw);rw[hbe];obtain⟨ka,kc,rfl,CV,_⟩:=hS.vS 1;obtain⟨J2,AE,AJ,hS⟩:=hS.fV 1;exact⟨J2,ka,kc,O,hJ.trans AE,CV,AJ,hS.y 0 3⟩
 refine gG 2 ?_;have hbe:below l name=[]:=Y3 (su Dw);rw[hbe];exact⟨I,none,0,O,Le.refl _,Yd _,⟨O,λh=>Yy h sz⟩,hS.s⟩
theorem Xug(p:Lu):∀(l:List Lu) (i:Nat),decide (0<=PK p l i)=l.contains p
 | [],i=>rfl
 | x::l,i=>by
  rw[PK,Y4t];split
  ·rename_i h
   subst h;rw[beq_self_eq_true,Bool.true_or,dq1];omega
  ·rename_i h
   rw[beq_eq_false_iff_ne.2 h,lB,Xug p l (i+1)]
theorem Xmi(a:Oa)(c:Nat)(l:List Lu)(SL:l.length<=100000)(p:Lu)(hA:RS I a 1 l.length (l.map S))(As:La)(hS:Aa B w I As):Ce B I As 370 [.slice a l.length c,S p] w (.bool (l.contains p)):=by
 refine gP 3 [] (zJ a c l SL p hA As) ?_;clear hS;rintro _ w ⟨rfl,hS⟩;exact gG 2 ⟨by rw[<-Xug p l 0],hS⟩
theorem VN(gb:Nat)(ga:Oa)(gc:Nat)(gn:List Lu)(uV:gn.length<=100000)(r:Al)(hA:RS I ga 1 gn.length (gn.map S))(As:La)(hS:Aa B w I (Ae gb [.slice ga gn.length gc] 69::As)):Ce B I (Ae gb [.slice ga gn.length gc] 69::As) 369 [.agg (X8 r).toArray,ptr gb 0] w (.bool (gn.contains r.name)):=by
 refine gH 5 ?_;clear hS;intro b2 w hS;refine gE 0 (Xmi ga gc gn uV r.name hA) ?_;clear hS;intro w hS;exact gG 1 ⟨O,hS.s⟩
theorem WL.clear{s:Nat}{e t:TypeId}{x:Operand}{z:Va}(hS:Aa B w I As)(hk:As[k]?=some (Ae b cs E))(hx:Ev n L x (.slice (some (ad b o)) m cap))(ht:P.underlying t=some (.slice e))(hz:∀w,(zeroValue e).run P w=.ok z w)(hs:z.cells.size=s)(h1:∀v∈z.cells,v.oneCell'=true)(ho:o+m*s<=cs.length)
  (h:∀w' tG,tG.length=cs.length->tG.take o=cs.take o->Aa B w' I (As.set k (Ae b tG E))->WL P n ops K rest L w'):WL P n ops K (⟨none,.call ⟨.builtin .clear,#[x],#[t]⟩,ty,pos,af,none⟩::rest) L w:=by
 subst hs;have go:∀w' v,(∀a,Aw n L a->(execOp a.eval (⟨none,.call ⟨.builtin .clear,#[x],#[t]⟩,ty,pos,af,none⟩:Oper)).run P w=.ok (.value v) w')->WL P n ops K rest L w'->WL P n ops K (⟨none,.call ⟨.builtin .clear,#[x],#[t]⟩,ty,pos,af,none⟩::rest) L w:=by
  intro w' v hx h a ha;refine wpList_plain O λK' hK=>?_
  unfold Oper.wp;rw[hx a ha];exact hK _ _ (h _ (ha.skip v))
 have hb:=hS.block hk;have zm:(Builtin.zeroCells z.cells m).toList.length=m*z.cells.size:=by rw[Zu,size_zeroCells]
 have Cp:=run_storeCells_at P b o E (Builtin.zeroCells z.cells m).toList 0 cs.toArray w hb (by simp only[Hn,zm,yC];exact ho) (λv hv=>by
  rw[Array.mem_toList_iff]at hv;unfold Builtin.zeroCells at hv;obtain⟨i,hi,rfl⟩:=Array.mem_map.1 hv;have Wy:i<m*z.cells.size:=su hi
  have hp:0<z.cells.size:=Nat.pos_of_ne_zero λe=>by rw[e]at Wy;omega
  have BO:=yN i hp;rw[getElem!_pos z.cells (i%z.cells.size) BO];exact h1 _ (Array.getElem_mem BO))
 simp only[Hn]at Cp
 cases m with
 | zero =>
  refine go w (.tuple #[]) (λa ha=>?_) (h w cs O O ?_)
  ·simp[execOp,resolve,invoke,builtin,hx a ha,Builtin.clear_,run_underlying ht]
  ·have e:As.set k (Ae b cs E)=As:=by
    apply U7
    intro i;rw[yB];split
    ·rename_i e;subst e
     split
     ·exact hk.symm
     ·rename_i BO;rw[jr om]
    ·rfl
   rw[e];exact hS
 | succ m =>
  refine go (w.setRow b _) (.tuple #[]) (λa ha=>?_) (h _ _ ?_ ?_ (hS.write (o':=Xi (cs.take o++(Builtin.zeroCells z.cells (m+1)).toList++cs.drop (o+(Builtin.zeroCells z.cells (m+1)).toList.length)) E) hk O O O (setRow_heap w b _ _ E _ hb) λc hc=>setRow_other w b c _ hc))
  ·simp[execOp,resolve,invoke,builtin,hx a ha,Builtin.clear_,run_underlying ht,hz,Cp]
  ·simp only[Y0,Yl,Ye,zm];omega
  ·rw[Yc,yp (by rw[Yl];omega),Y64,Nat.min_self]
theorem X9i{α:Type}(pr:α->Bool):∀(l:List α) (i:Nat),(D8 pr l i=-1/\∀r∈l,pr r=false)\/∃(j:Nat) (r:α),D8 pr l i=((i+j:Nat):Int)/\l[j]?=some r/\pr r=true/\∀t∈l.take j,pr t=false
 | [],i=>.inl ⟨O,λr h=>by simp at h⟩
 | s::l,i=>by
  rw[D8]
  by_cases h:pr s=true
  ·rw[Y7 h];exact .inr ⟨0,s,by simp,O,h,λt ht=>by simp at ht⟩
  ·rw[Y3 h];have h':pr s=false:=su h
   rcases X9i pr l (i+1)with⟨h1,h2⟩|⟨j,r,h1,h2,h3,h4⟩
   ·exact .inl ⟨h1,λr hr=>(Yi.1 hr).elim (λe=>e▸h') (h2 r)⟩
   ·refine .inr ⟨j+1,r,by rw[h1];omega,su h2,h3,λt ht=>?_⟩;rw[qG]at ht;rcases Yi.1 ht with e|ht
    ·exact e▸h'
    ·exact h4 t ht
theorem Xjh:∀(l:List Al) (i:Nat),(DE l).take (i*10)=DE (l.take i)
 | [],i=>by simp[DE]
 | r::l,0=>by simp[DE]
 | r::l,i+1=>by
  have e:∀l:List Al,DE (r::l)=X8 r++DE l:=λl=>rfl
  rw[qG,e,e,<-Xjh l i,show(i+1)*10=(X8 r).length+i*10 by show(i+1)*10=10+i*10;omega,Y4a]
theorem Xh8(a:Oa)(c:Nat)(l:List Al)(hl:l.length<=100000)(pr:Al->Bool)(BC:FuncId)(fn:Func)(EJ:prog.funcs[BC]?=some fn)(BZ:Xb fn=true)(AO:Lv)(Q:X1)(As:La)(hf:∀(r:Al) w (X:La),Aa B w I (Q::X)->Calls prog BC ([Value.agg (X8 r).toArray]++AO).toArray w (A4 λv w'=>v=.bool (pr r)/\Aa B w' I (Q::X)))(hS:Aa B w I (Q::Ar 188 10 (.slice a l.length c) l.length (DE l)::As)):Ce B I (Q::Ar 188 10 (.slice a (l.filter (λx=>!pr x)).length c) (l.filter (λx=>!pr x)).length (DE (l.filter (λx=>!pr x)))::As) 368 [.slice a l.length c,.func (.func BC) #[] AO.toArray] w (.slice a (l.filter (λx=>!pr x)).length c):=by
 refine gP 3 [] (X91 a c l hl pr BC fn EJ BZ AO _ (λw h=>aK h (k:=1) O) (λr w h=>hf r w _ h)) ?_;clear hS;rintro _ w ⟨rfl,hS⟩;refine gM 3 ?_ ?_<;>intro Bu B_
 ·refine gG 2 (?_);have e:l.filter (λx=>!pr x)=l:=by
   rcases X9i pr l 0 with⟨_,h2⟩|⟨j,r,h1,_⟩
   ·exact yy.2 (λt ht=>by rw[h2 t ht];rfl)
   ·exfalso;rw[h1]at Bu;simp at Bu
  rw[e];exact⟨O,hS⟩
 refine gG 0 ?_;obtain⟨k,rk,Jr,JW,qY,uW⟩:∃(j:Nat) (r:Al),D8 pr l 0=(j:Int)/\l[j]?=some r/\pr r=true/\∀t∈l.take j,pr t=false:=by
  rcases X9i pr l 0 with⟨h1,_⟩|⟨j,r,h1,h2,h3,h4⟩
  ·exfalso;rw[h1]at Bu;simp at Bu
  ·exact⟨j,r,by rw[h1];simp,h2,h3,h4⟩
 have Cw:=(Y1.1 JW).1;rw[Jr];refine gG 3 ?_;refine .lk [0,1] (σ:=Nat×Nat×List Al) (λ(i,j,M) _m=>(5,Ab (i:Nat))::(6,Ab (j:Nat))::_m) (λ(i,j,M) w=>i<j/\j<=l.length/\M.length=l.length/\M.drop j=l.drop j/\M.take i=(l.take j).filter (λx=>!pr x)/\Aa B w I (Q::Ar 188 10 (.slice a l.length c) l.length (DE M)::As)) (λ(i,j,M)=>l.length-j) (k,k+1,l) ⟨om,om,O,O,by
  rw[Yo,JW,Yu,RT,yy.2 (λt ht=>by rw[uW t ht];rfl)];simp[qY],hS⟩ ?_
 rintro⟨i,j,M⟩ w ⟨y8,hj,hM,Ec,N3,hS⟩;refine gN 4 ?_ ?_<;>intro IG
 ·refine gG 0 ?_;obtain⟨r,hr⟩:∃r,l[j]?=some r:=⟨_,Y2 om⟩
  have hMr:M[j]?=some r:=by
   have h9:=Y5 (λx=>x[0]?) Ec;simpa[hr]using h9
  have DL:=hS;rw[<-hM]at DL;obtain⟨p,F5,hx⟩:=aK DL (k:=1) O j r hMr;subst F5;clear DL;have NT:((l.take (j+1)).filter (λx=>!pr x))=((l.take j).filter (λx=>!pr x))++[r].filter (λx=>!pr x):=by rw[Yo,hr,Yu,RT]
  have AaT:M.drop (j+1)=l.drop (j+1):=by rw[<-yK,<-yK,Ec]
  refine gH 3 (.val (eT (.of O) hx kV UJ O) O (gH 4 ?_));clear hS;intro b7 w hS;refine .B0 (cap:=AO) EJ BZ (.of O) (Be O X4) O (hf r w _ (hS.x [1])) ?_;clear hS;rintro _ w ⟨rfl,hS⟩;replace hS:=hS.pick 1 O;try dsimp only[List.eraseIdx]at hS
  refine gM 1 ?_ ?_<;>intro LI AaJ
  ·refine gG 0 ?_;obtain⟨gb,bT,Ty,KM,Qh,HK,NV,LP,hS⟩:=hS.AP (k:=2) O om;injection KM with ET HP GQ
   (injection ET with ET;subst ET)
   subst GQ;have q8:=Xgf M;try dsimp only[List.set]at hS
   refine gH 4 (.so hS (k:=2) O O O O UJ O (by simp only[Y0];omega) ?_);clear hS;intro w hS;try dsimp only[List.set]at hS
   rw[Yj,yp om,qD om,<-Yc]at hS;replace hS:=hS.Bm (n:=l.length) (size:=10) (k:=2) O Qh HK (by simp only[Y0,Yl,Ye,List.length_cons,List.length_nil];omega) (by simp only[Y0,Yl,Ye,List.length_cons,List.length_nil];omega);try dsimp only[List.set]at hS
   have e9:(List.take (Int.toNat (i:Int)*10) (DE M)++X8 r++List.drop (Int.toNat (i:Int)*10+10) (DE M))=DE (M.set i r):=by(try rw[Y8]);rw[Xgg om]
   refine gG 6 ?_;refine rd (i+1,j+1,M.set i r) ⟨od,od,by rw[Y5a];exact hM,?_,?_,?_⟩
   ·show(M.set i r).drop (j+1)=_
    rw[List.drop_set_of_lt om,AaT]
   ·show(M.set i r).take (i+1)=_
    rw[Yo,List.take_set_of_le (Yd _),N3,Y44 om,NT,Ln,Y7 (su LI)];rfl
   ·try dsimp only
    rw[<-e9];exact hS.y 0 1
  refine gG 3 (rd (i,j+1,M) ⟨od,od,hM,AaT,?_,hS.y 0 1⟩);try dsimp only
  rw[N3,NT,Ln,Y3 (su LI)]
  simp
 refine gG 0 ?_;have mT:j=l.length:=om
 subst mT;replace hS:=hS.px [1];obtain⟨gb,bT,Ty,KM,Qh,HK,NV,LP,hS⟩:=hS.AP (k:=0) O om;injection KM with ET HP GQ
 subst ET;subst GQ;have q8:=Xgf M;try dsimp only[List.set]at hS
 refine gH 3 ?_;have e8:sliced (some (ad gb 0)) ((i:Int)).toNat l.length c 10=.slice (some (ad gb (0+(i:Int).toNat*10))) (l.length-i) (c-i):=by
  simp only[sliced,Y8,s7,EE]
  rw[Y3 om]
 rw[show(⟨gb,0,none⟩:Addr)=ad gb 0 from O,e8];refine WL.clear (s:=10) hS (k:=0) O (.of O) Uo au O de (by rw[Y0];omega) ?_;clear hS;intro w cs9 uJ uK hS;try dsimp only[List.set]at hS
 refine gG 4 ?_;rw[X9u];refine ?_;have e1:(DE M++Ty).take (i*10)=DE (l.filter (λx=>!pr x)):=by
  rw[yp om,Xjh,N3,Yg om]
 have e2:(l.filter (λx=>!pr x)).length=i:=by
  have h9:=Y5 List.length N3;rw[Yl,Yg om]at h9;omega
 have e3:cs9=DE (l.filter (λx=>!pr x))++cs9.drop (i*10):=by
  rw[<-e1];rw[show 0+(i:Int).toNat*10=i*10 by omega]at uK;rw[<-uK];exact(Mv _ _).symm
 rw[e3]at hS;have e4:=Xgf (l.filter (λx=>!pr x));have e5:=Y5 List.length e3;rw[Y0]at e5;rw[Y0]at uJ;replace hS:=hS.Bm (n:=i) (size:=10) (k:=0) O om HK (by rw[e4,e2]) om
 (try rw[Y8]);rw[e2]
 exact⟨O,hS.x [1]⟩
theorem Xdm(tb:Nat)(room:Int)(a:Oa)(c:Nat)(l:List Al)(hl:l.length<=100000)(GR:Wf l)(name:Lu)(As:La)(hS:Aa B w I (B7 tb room a c l As)):Cz 279 [ptr tb 0,S name] w λv w'=>∃J ra rc,v=.slice ra (below l name).length rc/\Le I J/\(below l name).length<=rc/\RS J ra 1 (below l name).length ((below l name).map S)/\∃a c,Aa B w' J (B7 tb room a c (drop l name) As):=by
 refine gP 3 [] (Xme tb room a c l hl GR name _) ?_;clear hS;rintro _ w ⟨J,ga,gc,rfl,hJ,jK,AJ,hS⟩;refine gH 7 ?_;clear hS;intro b5 w hS;refine gP 0 [1,2] (Xb9 a c l hl _) ?_;clear hS;rintro _ w ⟨v7,rfl,hS⟩;replace hS:=hS.px [2];obtain⟨va,vc,rfl,rq,_⟩:=hS.vS 1;try dsimp only[List.eraseIdx]at hS
 refine .val (.makeFunc (Be O X4)) O ?_;refine gC 0 (Xh8 va vc l hl (λr=>(below l name).contains r.name) 369 _ func369 O [ptr b5 0] (Ae b5 [.slice ga (below l name).length gc] 69) _ (λr w X h=>VN b5 ga gc (below l name) (oh (Xkd GR name)) r AJ X h) (by
   have h9:=((hS.pick 1 O).pick 3 O)
   try dsimp only[List.eraseIdx]at h9
   exact h9)) ?_
 clear hS;rintro _ w ⟨rfl,hS⟩;rw[show l.filter (λx=>!(below l name).contains x.name)=drop l name from O]at hS ⊢;refine gG 5 ?_;clear hS;intro w hS;replace hS:=hS.py [0,2];exact⟨J,ga,gc,O,hJ,jK,AJ,va,vc,hS.x [1]⟩
abbrev Pr:=Lu×Lu
abbrev X3(p:Pr):Lv:=[S p.1,S p.2]
theorem fH(l:List Pr):(X2 X3 l).all Value.oneCell'=true:=by
 unfold X2
 induction l with
 | nil=>rfl
 | cons p l ih=>rw[Yt,JG,Y4r,ih];rfl
structure Us where
 name:Lu
 pw:Lu
 attrs:List Pr
abbrev Xm6(u:Us)(a:Oa)(c:Nat):Lv:=[S u.name,S u.pw,.slice a u.attrs.length c]
def Uw(I:Im)(u:Us)(l:Lv):Prop:=∃a c,l=Xm6 u a c/\u.attrs.length<=c/\RS I a 2 u.attrs.length (X2 X3 u.attrs)
theorem Uw.mono{u:Us}{l:Lv}(h:Uw I u l)(hl:Le I J):Uw J u l:=by
 obtain⟨a,c,e,h1,h2⟩:=h;exact⟨a,c,e,h1,h2.mono hl⟩
def tt(i:Nat)(c:Ui):Bool:=!Abm c&&(((i:Int)==0)||(((decide ((c.toNat:Int)<48)||decide ((57:Int)<(c.toNat:Int)))&&((c.toNat:Int)!=45))&&((c.toNat:Int)!=95)))
def qC:List UInt8->Nat->Bool
 | [],_=>true
 | c::r,i=>!tt i c&&qC r (i+1)
theorem Xh2:∀(s:Lu) (k:Nat),qC s k=true↔∀(j:Nat) c,s[j]?=some c->tt (k+j) c=false
 | [],k=>by simp[qC]
 | c::r,k=>by
  rw[qC,Yb,Xh2 r (k+1)];constructor
  ·rintro⟨h1,h2⟩ j d hd;cases j with
   | zero=>simp at hd;subst hd;simpa using h1
   | succ j=>rw[show k+(j+1)=k+1+j by omega];exact h2 j d (su hd)
  ·intro h;refine⟨by simpa using h 0 c O,λj d hd=>?_⟩;rw[show k+1+j=k+(j+1)by omega];exact h (j+1) d (su hd)
def TY(s:Lu):Bool:=qC s 0&&(!(s==[])&&decide ((s.length:Int)<=60))
def tn(p:Pr):Bool:=!TY p.1||!sr p.2 32 0 60
def jq(u:Us):Bool:=sr u.name 33 1 32&&decide ((1:Int)<=(u.pw.length:Int))&&decide ((u.pw.length:Int)<=60)&&decide ((u.attrs.length:Int)<=8)&&!u.attrs.any tn
def P4(p:Pr):Prop:=p.1.length<=maxLen/\p.2.length<=maxLen
theorem iM(s:Lu)(hs:s.length<=9223372036854775807)(As:La)(hS:Aa B w I As):Ce B I As 231 [S s] w (.bool (TY s)):=by
 refine gG 4 (.lk [0,6] (σ:=Nat) (λi _m=>(7,Ab (i:Nat))::_m) (λi w=>i<=s.length/\(∀(j:Nat) c,j<i->s[j]?=some c->tt j c=false)/\Aa B w I As) (λi=>s.length-i) 0 ⟨Y4 _,λ_ _ h=>Yy h om,hS⟩ ?_);rintro i w ⟨hi,AL,hS⟩;refine gN 1 ?_ ?_<;>intro E5
 ·refine gC 7 (Xy0 _ w) ?_;rintro _ _ ⟨rfl,rfl⟩;refine gH 14 ?_;refine gM 7 ?_ ?_<;>intro CI II
  ·refine gG 1 (⟨Y5 Value.bool ?_,hS⟩)
   have:qC s 0=false:=by
    cases h:qC s 0 with
    | false=>rfl
    | true =>
     have h1:=(Xh2 s 0).1 h i _ (Rx (show i<s.length by omega));rw[Yj]at h1;exact Yy (CI.symm.trans h1) de
   rw[TY,this];rfl
  refine gG 2 (rd (i+1) ⟨od,λj c hj hc=>?_,hS⟩);rcases C5 j i with h1|h1
  ·exact AL j c h1 hc
  ·have e:j=i:=om
   subst e;rw[Rx (show j<s.length by omega)]at hc;cases hc;exact CI
 refine gG 8 (⟨Y5 Value.bool ?_,hS⟩)
 have:qC s 0=true:=(Xh2 s 0).2 λj c hc=>by
  have:=(Y1.1 hc).1
  rw[Yj];exact AL j c om hc
 rw[TY,this]
 simp
theorem bO(p:Pr)(hp:P4 p)(As:La)(hS:Aa B w I As):Ce B I As 230 [.agg (X3 p).toArray] w (.bool (tn p)):=by
 refine gH 4 ?_;clear hS;intro b1 w hS;refine gE 0 (iM p.1 hp.1) ?_;clear hS;intro w hS;refine gH 4 (.AG (T:=λw=>Aa B w I (Ae b1 [S p.1,S p.2] 58::As)) O O O func232 O (λAi=>(X5 (.gd Ai O) (Be O (Be O (Be O X4))))) O (λAi=>Xjq p.2 32 0 60 hp.2 _ hS) hS ?_);clear hS;rintro w hS;exact gG 3 ⟨O,hS.s⟩
theorem Xhc(a:Oa)(cap:Nat)(l:List (Pr))(Hu:l.length<=9223372036854775807)(pr:Pr->Bool)(BC:FuncId)(fn:Func)(EJ:prog.funcs[BC]?=some fn)(BZ:Xb fn=true)(AO:Lv)(As:La)(hE:∀w,Aa B w I As->Mj w X3 2 a l)(hf:∀(r:Pr) (hr:r∈l) w,Aa B w I As->Calls prog BC ([Value.agg (X3 r).toArray]++AO).toArray w (A4 λv w'=>v=.bool (pr r)/\Aa B w' I As))(hS:Aa B w I As):Ce B I As 301 [.slice a l.length cap,.func (.func BC) #[] AO.toArray] w (Ab (D8 pr l 0)):=by
 refine gG 4 (.lk [0,1,7] (σ:=Nat) (λi _m=>(8,Ab (i:Nat))::_m) (λi w=>i<=l.length/\(∀(j:Nat) t,j<i->l[j]?=some t->pr t=false)/\Aa B w I As) (λi=>l.length-i) 0 ⟨Y4 _,λ_ _ h=>Yy h om,hS⟩ ?_);rintro i w ⟨hi,AL,hS⟩;refine gN 1 ?_ ?_<;>intro DV
 ·refine gG 0 ?_;obtain⟨r,hr⟩:∃r,l[i]?=some r:=⟨_,Y2 om⟩
  obtain⟨p,rfl,hx⟩:=hE w hS i r hr;refine gH 6 (.val (.LY (.of O) hx H0 DU O) O (.B0 (cap:=AO) EJ BZ (.of O) (Be O X4) O (hf r (Y6 hr) w hS) ?_));clear hS;rintro _ w ⟨rfl,hS⟩;refine gM 0 ?_ ?_<;>intro B6 C1
  ·exact gG 2 ⟨by rw[pJ AL hr B6],hS⟩
  refine gG 2 (rd (i+1) ⟨od,λj t hj ht=>?_,hS⟩);rcases C5 j i with h1|h1
  ·exact AL j t h1 ht
  ·have e:j=i:=om
   subst e;rw[hr]at ht;cases ht;exact B6
 exact gG 1 ⟨by rw[pG (λj t ht=>AL j t (oh ((Y1.1 ht).1)) ht)],hS⟩
theorem Xbb(a:Oa)(cap:Nat)(l:List (Pr))(Hu:l.length<=9223372036854775807)(pr:Pr->Bool)(BC:FuncId)(fn:Func)(EJ:prog.funcs[BC]?=some fn)(BZ:Xb fn=true)(AO:Lv)(As:La)(hE:∀w,Aa B w I As->Mj w X3 2 a l)(hf:∀(r:Pr) (hr:r∈l) w,Aa B w I As->Calls prog BC ([Value.agg (X3 r).toArray]++AO).toArray w (A4 λv w'=>v=.bool (pr r)/\Aa B w' I As))(hS:Aa B w I As):Ce B I As 233 [.slice a l.length cap,.func (.func BC) #[] AO.toArray] w (.bool (l.any pr)):=by
 refine gP 3 [] (Xhc a cap l Hu pr BC fn EJ BZ AO As hE hf) ?_;clear hS;rintro _ w ⟨rfl,hS⟩;exact gG 2 ⟨by rw[<-kG pr l 0],hS⟩
theorem Xw8(a:Oa)(c:Nat)(l:List (Pr))(hl:l.length<=1000000)(hR:RS I a 2 l.length (X2 X3 l))(As:La)(hS:Aa B w I As):Cz 138 [.slice a l.length c] w λv w'=>∃J ra rc,v=.slice ra l.length rc/\Le I J/\l.length<=rc/\RS J ra 2 l.length (X2 X3 l)/\Aa B w' J As:=by
 refine gH 2 (.val (Ex.HA (.of O) (.of O) H2) O ?_);refine gM 0 ?_ ?_<;>intro Qe SD
 ·refine gG 1 ?_;cases a with
  | some p=>simp at Qe
  | none =>
  have h0:l=[]:=by
   cases l with
   | nil=>rfl
   | cons x l=>obtain⟨p,h,_⟩:=hR.2 sz;cases h
  subst h0;exact⟨I,none,0,O,Le.refl _,Yd _,⟨O,λh=>Yy h sz⟩,hS⟩
 refine gH 2 ?_;clear hS;intro b5 w hS;replace hS:=hS.Bw (k:=0) (E:=58) (size:=2) (n:=0) O O (Y4 _);try dsimp only[List.set]at hS
 refine .CK (size:=2) (bytes:=32) hS (.of O) (.of O) hR (k:=0) O H2 (i:=t58) kr O O O O (fH l) ⟨om,by unfold maxLen;omega⟩ O ?_;clear hS;intro v7 w hS;rw[Yj,Ez]at hS;refine gG 1 ?_;obtain⟨ra,rc,rfl,Cc,_⟩:=hS.vS 0;obtain⟨J,hJ,AJ,hS⟩:=hS.fV 0;exact⟨J,ra,rc,O,hJ,Cc,AJ,hS⟩
theorem YN(u:Us)(a:Oa)(c:Nat)(hn:u.name.length<=9223372036854775807)(Gg:u.attrs.length<=9223372036854775807)(hA:∀p∈u.attrs,P4 p)(hR:RS I a 2 u.attrs.length (X2 X3 u.attrs))(As:La)(hS:Aa B w I As):Ce B I As 137 [.agg (Xm6 u a c).toArray] w (.bool (jq u)):=by
 refine gH 5 ?_;clear hS;intro b1 w hS;refine gE 0 (Xjq u.name 33 1 32 hn) ?_;clear hS;intro w hS;refine gH 14 (gH 8 (.AG (T:=λw=>Aa B w I (Ae b1 (Xm6 u a c) 73::As)) O O O func233 O (λAi=>(X5 (.gd Ai O) (X5 (.gd Ai O) X4))) O (λAi=>Xbb a c u.attrs om tn 230 _ func230 O [] _ (λw h=>aP (λ_=>rfl) h hR) (λp hp w h=>bO p (hA p hp) _ h) hS) hS ?_));clear hS;rintro w hS;exact gG 3 ⟨O,hS.s⟩
def DI(I:Im)(a:Oa)(l:List Us):Prop:=∀(i:Nat) (u:Us),l[i]?=some u->∃p ra rc,a=some p/\At I (p.add (i*3)) (Xm6 u ra rc)/\u.attrs.length<=rc/\RS I ra 2 u.attrs.length (X2 X3 u.attrs)
theorem DI.mono{l:List Us}(h:DI I a l)(hl:Le I J):DI J a l:=λi u hu=>by
 obtain⟨p,ra,rc,e,h1,h2,h3⟩:=h i u hu;exact⟨p,ra,rc,e,h1.mono hl,h2,h3.mono hl⟩
structure Us.fits(u:Us):Prop where
 name:u.name.length<=maxLen
 pw:u.pw.length<=maxLen
 attrs:u.attrs.length<=9223372036854775807/\∀p∈u.attrs,P4 p
def HG:List Us->Nat->List Us->Nat×Nat
 | [],_,_=>(0,0)
 | u::r,i,acc=>if 16<=i then(5,i)else if jq u=false then(1,i)else if acc.any (λt=>t.name==u.name)then(7,i)else HG r (i+1) (acc++[u])
def HB(J:Im)(kv:List (Lu×Va))(l:List Us):Prop:=kv.length=l.length/\∀(i:Nat) (u:Us),l[i]?=some u->∃cs,kv[i]?=some (u.name,.agg (List.toArray cs))/\Uw J u cs
theorem HB.mono{kv:List (Lu×Va)}{l:List Us}(h:HB I kv l)(hl:Le I J):HB J kv l:=⟨h.1,λi u hu=>by
 obtain⟨cs,h1,h2⟩:=h.2 i u hu;exact⟨cs,h1,h2.mono hl⟩⟩
theorem HB.snoc{kv:List (Lu×Va)}{l:List Us}{u:Us}(h:HB J kv l)(hu:Uw J u cs):HB J (kv++[(u.name,.agg cs.toArray)]) (l++[u]):=⟨by simp[h.1],λi t ht=>by
 rcases C5 i l.length with h1|h1
 ·rw[Y9 h1]at ht;rw[Y9 (by rw[h.1];exact h1)];exact h.2 i t ht
 ·have h2:=(Y1.1 ht).1;simp only[Y0,List.length_cons,List.length_nil]at h2
  have e:i=l.length:=om
  subst e;simp at ht;subst ht
  exact⟨cs,by rw[<-h.1];simp,hu⟩⟩
theorem Xrs{J:Im}(name:Lu):∀{kv:List (Lu×Va)} {l:List Us},HB J kv l->(l.find? (λt=>t.name==name)=none/\kv.lookup name=none)\/∃u cs,l.find? (λt=>t.name==name)=some u/\kv.lookup name=some (.agg (List.toArray cs))/\Uw J u cs
 | [],[],_=>.inl ⟨O,O⟩
 | [],u::l,h=>by have:=h.1;simp at this
 | p::kv,[],h=>by have:=h.1;simp at this
 | p::kv,u::l,h=>by
  obtain⟨cs,h1,h2⟩:=h.2 0 u O;simp at h1;subst h1
  have h3:HB J kv l:=⟨su h.1,λi t ht=>by simpa using h.2 (i+1) t (su ht)⟩
  rw[yI]
  by_cases e:u.name=name
  ·subst e;exact .inr ⟨u,cs,by simp,by simp[List.lookup],h2⟩
  ·have e1:(u.name==name)=false:=beq_eq_false_iff_ne.2 e;have e2:(name==u.name)=false:=beq_eq_false_iff_ne.2 (Ne.symm e);simp only[e1,List.lookup,e2]
   exact Xrs name h3
theorem bz(l:List Us)(name:Lu):l.any (λt=>t.name==name)=(l.find? (λt=>t.name==name)).isSome:=by
 rw[yH,Y4i,List.find?_isSome]
def Hj(J:Im)(tb:Nat)(l:List Us):Prop:=∃mb kv,At J (ad tb 0) [.map (some mb)]/\Pn J S mb kv/\HB J kv l
theorem Hj.mono{tb:Nat}{l:List Us}(h:Hj I tb l)(hl:Le I J):Hj J tb l:=by
 obtain⟨mb,kv,h1,h2,h3⟩:=h;exact⟨mb,kv,h1.mono hl,h2.mono hl,h3.mono hl⟩
theorem Xeu(h:J b=some (Xi cs E)):At J (ad b 0) cs:=⟨O,_,E,(0,0),h,λj v hj=>by simpa[ad]using hj⟩
theorem Xgz{u:Us}(h:jq u=true):u.attrs.length<=8:=by
 unfold jq at h;simp only[Yb,dq1]at h
 omega
theorem Xq2(a:Oa)(cap:Nat)(l:List Us)(Hu:l.length<=9223372036854775807)(EI:∀u∈l,u.fits)(hU:DI I a l)(As:La)(hS:Aa B w I As):Cz 65 [.slice a l.length cap] w λv w'=>∃J,Le I J/\(((HG l 0 []).1=0/\∃tb,v=.tuple #[ptr tb 0,Ab 0,Ab 0]/\Hj J tb l)\/((HG l 0 []).1≠0/\v=.tuple #[.pointer none,Ab ((HG l 0 []).1:Nat),Ab ((HG l 0 []).2:Nat)]))/\Aa B w' J As:=by
 refine gG 3 (.mkMap S hS O ?_);clear hS;intro De w hS;refine gG 6 ?_;clear hS;intro bM w hS;refine .lk [0,5,13,14] (σ:=Nat×Im×List (Lu×Va)) (λ(i,J,kv) _m=>(15,Ab (i:Nat))::_m) (λ(i,J,kv) w=>i<=l.length/\Le I J/\HB J kv (l.take i)/\HG (l.drop i) i (l.take i)=HG l 0 []/\Aa B w J (Ae bM [.map (some De)] 252::Ej S De kv::As)) (λ(i,J,kv)=>l.length-i) (0,I,[]) ⟨Y4 _,Le.refl _,⟨O,λi u h=>by simp at h⟩,O,hS⟩ ?_;rintro⟨i,J,kv⟩ w ⟨hi,hJ,O8,hq,hS⟩;refine gN 1 ?_ ?_<;>intro C1
 ·refine gG 0 ?_;obtain⟨u,hu⟩:∃u,l[i]?=some u:=⟨_,Y2 om⟩
  obtain⟨p,ra,rc,dC,hA0,Cc,hRR⟩:=hU i u hu;have hfu:=EI u (Y6 hu);subst dC;have hA:=hA0.mono hJ;have hR:=hRR.mono hJ;have ED:HG (l.drop i) i (l.take i)=if 16<=i then(5,i)else if jq u=false then(1,i)else if(l.take i).any (λt=>t.name==u.name)then(7,i)else HG (l.drop (i+1)) (i+1) (l.take (i+1)):=by
   rw[Yp om,(Y1.1 hu).2,HG];simp only[Yo,hu,Yu]
  rw[hq]at ED;have ez:=Xrs u.name O8;have mD:=bz (l.take i) u.name;refine gG 6 ?_;clear hS;intro b7 w hS;obtain⟨n9,p9,a9,k9,c9,WM⟩:∃n9 p9 a9 k9 c9,(kv.lookup u.name).getD (.agg #[S [],S [],.slice none 0 0])=.agg #[S n9,S p9,.slice a9 k9 c9]:=by
   rcases ez with⟨_,e⟩|⟨t,cs,_,e,ta,tc,ht,_⟩
   ·rw[e];exact⟨_,_,_,_,_,O⟩
   ·rw[e,ht];exact⟨_,_,_,_,_,O⟩
  refine gD [0,0,0] [] [0,1,2,3,4,5,6,7,8,9,10,11,12] ?_;clear hS;intro w hS;refine gH 6 ?_;refine Br.y 6 (v:=.tuple #[.agg #[S n9,S p9,.slice a9 k9 c9],.bool (kv.lookup u.name).isSome]) (λw _ _ A6 hS=>by rw[<-WM];exact .eV (key:=u.name) D3 (hS.Qz (k:=2) O) (.of O) (.of O) Ra BV aD) ?_;refine gH 4 ?_;clear hS;intro b8 w hS;refine gH 1 ?_;clear hS;intro w hS;refine gN 4 ?_ ?_<;>intro JQ
  ·refine gG 4 ?_;have hE:HG l 0 []=(5,i):=by rw[ED];exact Y7 om
   rw[hE];exact⟨J,hJ,.inr ⟨show(5:Nat)≠0 by decide,O⟩,hS.s⟩
  refine gE 1 (YN u ra rc hfu.name hfu.attrs.1 hfu.attrs.2 hR) ?_;clear hS;intro w hS;refine gM 2 ?_ ?_<;>intro DN Ft
  ·refine gG 4 ?_;have hE:HG l 0 []=(1,i):=by rw[ED];rw[Y3 om];exact Y7 (su DN)
   rw[hE];exact⟨J,hJ,.inr ⟨show(1:Nat)≠0 by decide,O⟩,hS.s⟩
  refine gG 2 (.cond O (λG6=>?_) λG6=>?_)
  ·have FZ:=G6;try simp only[Y2y]at FZ
   refine gG 4 ?_;have hE:HG l 0 []=(7,i):=by rw[ED];rw[Y3 om];rw[Y3 (show ¬ jq u=false by simpa using DN)];exact Y7 (by rw[mD];rcases ez with⟨_,e⟩|⟨t,cs,e,_⟩<;>simp_all)
   rw[hE];exact⟨J,hJ,.inr ⟨show(7:Nat)≠0 by decide,O⟩,hS.s⟩
  have FZ:=G6;try simp only[Y2y]at FZ
  refine gG 0 ?_;have hur:jq u=true:=su DN
  have Gg:=Xgz hur;refine gF 2 (Xw8 ra rc u.attrs om hR) ?_;clear hS;rintro _ w ⟨J2,ra2,rc2,rfl,AE,Adn,Mx,hS⟩;refine gG 2 ?_;clear hS;intro w hS;refine .tail 7 kr kr ?_;replace hS:=hS.drew;generalize w.drew=w at hS ⊢;refine .vm O O (.val (.no O) O ?_);refine .val (by first|exact .fo 0 O Rb O O sizeOf250 O|exact .fi 0 O Rb O O sizeOf250 O) O ?_;refine .val (by first|exact(.lo O hS (k:=0) O xX O)|exact(.lo O hS (k:=1) O xX O)|exact(.lo O hS (k:=2) O xX O)|exact(.lo O hS (k:=3) O xX O)) O ?_;refine .val (by first|exact .fo 0 O Ps O O Bf O|exact .fi 0 O Ps O O Bf O) O ?_;refine .val (by first|exact(.lo O hS (k:=0) O BF O)|exact(.lo O hS (k:=1) O BF O)|exact(.lo O hS (k:=2) O BF O)|exact(.lo O hS (k:=3) O BF O)) O ?_;refine .val (by first|exact(.HQ (cs:=[_,_,_]) (.of O) hS (k:=0) O Jy Jz O)|exact(.GG (vs:=[_,_,_]) (.of O) hS (k:=0) O Jy Jz O (λ_ _ h=>h))|exact(.HQ (cs:=[_,_,_]) (.of O) hS (k:=1) O Jy Jz O)|exact(.GG (vs:=[_,_,_]) (.of O) hS (k:=1) O Jy Jz O (λ_ _ h=>h))|exact(.HQ (cs:=[_,_,_]) (.of O) hS (k:=2) O Jy Jz O)|exact(.GG (vs:=[_,_,_]) (.of O) hS (k:=2) O Jy Jz O (λ_ _ h=>h))|exact(.HQ (cs:=[_,_,_]) (.of O) hS (k:=3) O Jy Jz O)|exact(.GG (vs:=[_,_,_]) (.of O) hS (k:=3) O Jy Jz O (λ_ _ h=>h))) O ?_;refine .nil ?_;show WL _ _ _ _ _ _ _
  refine .dr ?_;have AL:kv.lookup u.name=none:=by
   cases h:kv.lookup u.name with
   | none=>rfl
   | some x=>rw[h]at G6;cases G6
  refine .AgY D3 hS (k:=3) O (.of O) (.of O) (.of O) AL Ra BV ?_;clear hS;intro w hS;try dsimp only[List.set]at hS
  refine gG 2 (rd (i+1,J2,kv++[(u.name,Value.agg #[S u.name,S u.pw,Value.slice ra2 u.attrs.length rc2])]) ⟨od,hJ.trans AE,?_,?_,hS.y 0 2⟩)
  ·show HB J2 _ (l.take (i+1))
   rw[Yo,hu];exact(O8.mono AE).snoc ⟨ra2,rc2,O,Adn,Mx⟩
  ·show HG (l.drop (i+1)) (i+1) (l.take (i+1))=_
   rw[ED,Y3 om,Y3 (nB hur),Y3];rw[mD];rcases ez with⟨e,_⟩|⟨t,cs,e,e2,_⟩
   ·rw[e];decide
   ·rw[AL]at e2;cases e2
 refine gG 4 ?_;have e:i=l.length:=om
 subst e;have hE:HG l 0 []=(0,0):=by rw[<-hq,s5];first|done|rfl
 rw[Jm]at O8;rw[hE];obtain⟨J2,AE,hA2,hS⟩:=hS.fZ 0;obtain⟨J3,BN,hM3,hS⟩:=hS.KD (k:=0) O;exact⟨J3,(hJ.trans AE).trans BN,.inl ⟨O,bM,O,De,kv,(Xeu hA2).mono BN,hM3,(O8.mono AE).mono BN⟩,hS⟩
theorem xor_zero{a b:Ui}:(a^^^b).toNat=0↔a=b:=by
 constructor
 ·intro h;have h1:a^^^b=0:=JH.1 (su h);have h2:a^^^b^^^b=0^^^b:=by rw[h1]
  rw[UInt8.xor_assoc,UInt8.xor_self,UInt8.xor_zero,UInt8.zero_xor]at h2;exact h2
 ·intro h;subst h;simp
theorem KP{a:Nat}:a^^^b=0↔a=b:=by
 constructor
 ·intro h;have h2:a^^^b^^^b=0^^^b:=by rw[h]
  rw[Nat.xor_assoc,Nat.xor_self,Nat.xor_zero,Nat.zero_xor]at h2;exact h2
 ·intro h;subst h;simp
theorem gx{a b:Lu}:a=b↔a.length=b.length/\∀j:Nat,j<min a.length b.length->at_ a (j:Int)=at_ b (j:Int):=by
 constructor
 ·intro h;subst h;exact⟨O,λ_ _=>rfl⟩
 ·rintro⟨h1,h2⟩;refine List.ext_getElem h1 λj hj hk=>?_
  have h3:=h2 j om;simpa[at_,Ya,hj,hk]using h3
theorem aE(a b:Lu)(ha:a.length<=9223372036854775807)(hb:b.length<=9223372036854775807)(As:La)(hS:Aa B w I As):Ce B I As 366 [S a,S b] w (.bool (a==b)):=by
 refine gH 5 (.val (.Ahh (a:=a.length) (b:=b.length) om om (.of O) (.of O)) O (gG 7 (.lk [0,1,16] (σ:=Nat×Nat) (λ(i,D) _m=>(5,Ab (D:Nat))::(17,Ab (i:Nat))::_m) (λ(i,D) w=>(i:Int)<=min (a.length:Int) (b.length:Int)/\D<9223372036854775808/\(D=0↔a.length=b.length/\∀j:Nat,j<i->at_ a (j:Int)=at_ b (j:Int))/\Aa B w I As) (λ(i,D)=>min a.length b.length-i) (0,a.length^^^b.length) ⟨om,Nat.xor_lt_two_pow (n:=63) om om,⟨λh=>⟨KP.1 h,λj h=>Yy h om⟩,λh=>KP.2 h.1⟩,hS⟩ ?_)));rintro⟨i,D⟩ w ⟨hi,hD,hq,hS⟩;refine gN 1 ?_ ?_<;>intro Gy
 ·have hx8:=(at_ a (i:Int)^^^at_ b (i:Int)).toNat_lt;refine gG 2 (gQ ?_);clear hS;intro w hS;refine gH 7 (Br.y 7 (λw _ _ A6 hS=>.Ahg (.of O) (.of O)) (gH 1 (Br.y 9 (λw _ _ A6 hS=>.orI (a:=D) (b:=(at_ a (i:Int)^^^at_ b (i:Int)).toNat) om (oh ((at_ a (i:Int)^^^at_ b (i:Int)).toNat_lt)) (.of O) (.of O)) ?_)));refine gG 3 (rd (i+1,D||| (at_ a (i:Int)^^^at_ b (i:Int)).toNat) ⟨od,Y5o (n:=63) hD (oh ((at_ a (i:Int)^^^at_ b (i:Int)).toNat_lt)),?_,hS⟩);show(D||| (at_ a (i:Int)^^^at_ b (i:Int)).toNat)=0↔_
  rw[Nat.or_eq_zero_iff,hq,xor_zero];constructor
  ·rintro⟨⟨h1,h2⟩,h3⟩;refine⟨h1,λj hj=>?_⟩;rcases C5 j i with h|h
   ·exact h2 j h
   ·have e:j=i:=om
    subst e;exact h3
  ·rintro⟨h1,h2⟩;exact⟨⟨h1,λj hj=>h2 j om⟩,h2 i om⟩
 refine gG 3 (⟨Y5 Value.bool ?_,hS⟩);have e:(i:Int)=min (a.length:Int) (b.length:Int):=om
 rw[yH,beq_iff_eq,beq_iff_eq,gx];constructor
 ·intro h;obtain⟨h1,h2⟩:=hq.1 om;exact⟨h1,λj hj=>h2 j om⟩
 ·rintro⟨h1,h2⟩
  have:=hq.2 ⟨h1,λj hj=>h2 j om⟩
  omega
def kQ(l:List Us)(name pw:List UInt8):Bool:=match l.find? (λt=>t.name==name)with
 | some u=>u.pw==pw
 | none=>false
def Ek(l:List Us)(name:List UInt8):List Pr:=match l.find? (λt=>t.name==name)with
 | some u=>u.attrs
 | none=>[]
def p6(l:List Us)(name:Lu)(rel:List Lu):List Pr:=rel.flatMap λx=>(Ek l name).filter λa=>a.1==x
theorem Xi7{A:List Pr}{rel:List Lu}(hA:A.length<=8):(rel.flatMap λx=>A.filter λa=>a.1==x).length<=8*rel.length:=by
 induction rel with
 | nil=>simp
 | cons x r ih =>
  have h:=Yw (λa:Pr=>a.1==x) A;simp only[lA,Y0,List.length_cons]
  omega
theorem Xvw{mb:Nat}{kv:List (Lu×Va)}{l:List Us}(O8:HB I kv l)(EI:∀u∈l,u.fits)(name pw:Lu):∃n9 p9 a9 c9,(kv.lookup name).getD (.agg #[S [],S [],.slice none 0 0])=.agg #[S n9,S p9,.slice a9 (Ek l name).length c9]/\RS I a9 2 (Ek l name).length (X2 X3 (Ek l name))/\p9.length<=9223372036854775807/\((p9==pw)&&(kv.lookup name).isSome)=kQ l name pw:=by
 rcases Xrs name O8 with⟨e1,e2⟩|⟨u,cs,e1,e2,ua,uc,h1,h2,h3⟩
 ·refine⟨[],[],none,0,?_,?_,by simp,?_⟩
  ·rw[e2,Ek,e1];rfl
  ·rw[Ek,e1];exact⟨O,λh=>Yy h sz⟩
  ·rw[e2,kQ,e1];simp
 ·refine⟨u.name,u.pw,ua,uc,?_,?_,(EI u (yr e1)).pw,?_⟩
  ·rw[e2,Ek,e1,h1];rfl
  ·rw[Ek,e1];exact h3
  ·rw[e2,kQ,e1];simp
theorem Xzh(tb:Nat)(l:List Us)(EI:∀u∈l,u.fits)(name pw:Lu)(hpw:pw.length<=9223372036854775807)(hT:Hj I tb l)(As:La)(hS:Aa B w I As):Ce B I As 278 [ptr tb 0,S name,S pw] w (.bool (kQ l name pw)):=by
 refine gG 0 ?_;obtain⟨mb,kv,hTA,hM,O8⟩:=hT;obtain⟨n9,p9,a9,c9,WM,mz,F5,qS⟩:=Xvw (mb:=mb) O8 EI name pw;refine gH 6 ?_;refine .val (v:=.tuple #[.agg #[S n9,S p9,.slice a9 (Ek l name).length c9],.bool (kv.lookup name).isSome]) (by rw[<-WM];exact .eV (key:=name) D3 (hM.now hS) (.of O) (.of O) Ra BV aD) O ?_;refine gH 9 ?_;clear hS;intro b7 w hS;refine gE 0 (aE p9 pw F5 hpw) ?_;clear hS;intro w hS;exact gG 4 ⟨Y5 Value.bool qS,hS.s⟩
theorem Xzg(tb:Nat)(l:List Us)(EI:∀u∈l,u.fits)(name:Lu)(h8:(Ek l name).length<=8)(ra:Oa)(rc:Nat)(rel:List Lu)(HO:rel.length<=1000000)(hT:Hj I tb l)(hRR:RS I ra 1 rel.length (rel.map S))(As:La)(hS:Aa B w I As):Cz 372 [ptr tb 0,S name,.slice ra rel.length rc] w λv w'=>∃J ka kc,v=.slice ka (p6 l name rel).length kc/\Le I J/\(p6 l name rel).length<=kc/\RS J ka 2 (p6 l name rel).length (X2 X3 (p6 l name rel))/\Aa B w' J As:=by
 refine gG 0 ?_;obtain⟨mb,kv,hTA,hM,O8⟩:=hT;obtain⟨n9,p9,a9,c9,WM,mz,F5,qS⟩:=Xvw (mb:=mb) O8 EI name [];refine gG 2 ?_;replace hS:=hS.An 58 2;refine gG 3 (.lk [0,1,12,13] (σ:=Nat×Va) (λ(i,v) _m=>(7,v)::(14,Ab (i:Nat))::_m) (λ(i,v) w=>i<=rel.length/\Aa B w I (Ar 58 2 v ((rel.take i).flatMap (λx=>(Ek l name).filter λa=>a.1==x)).length (X2 X3 ((rel.take i).flatMap (λx=>(Ek l name).filter λa=>a.1==x)))::As)) (λ(i,v)=>rel.length-i) (0,.slice none 0 0) ⟨Y4 _,hS⟩ ?_);rintro⟨i,v⟩ w ⟨hi,hS⟩;refine gN 1 ?_ ?_<;>intro G8
 ·refine gG 0 ?_;obtain⟨x,hx⟩:∃x,rel[i]?=some x:=⟨_,Y2 om⟩
  obtain⟨p,hrp,hA⟩:=hRR.2 om;subst hrp;have y_:(rel.map S)[i]?=some (S x):=by rw[Ys,hx];rfl
  have Mz:=Xi7 (rel:=rel.take i) h8;rw[Yl]at Mz;refine gH 1 ?_;refine .val (.ld1 (.of O) (by have h9:=Pz hS hA y_;simpa using h9) BF) O ?_;refine gH 4 (.val (.Ca (.of O) hS hTA xX O) O (gH 1 ?_));refine .val (v:=.agg #[S n9,S p9,.slice a9 (Ek l name).length c9]) (by have WM:=WM;rw[<-WM];exact .S7 (key:=name) D3 (hM.now hS) (.of O) (.of O) Ra BV aD) O ?_;refine .val (.FR (off:=2) (.of O) Ps O O Lc O) O (gG 2 (.lk [0,1,9,12,13,14,24,25] (σ:=Nat×Va) (λ(j,v) _m=>(7,v)::(26,Ab (j:Nat))::_m) (λ(j,v) w=>j<=(Ek l name).length/\Aa B w I (Ar 58 2 v ((rel.take i).flatMap (λx=>(Ek l name).filter λa=>a.1==x)++((Ek l name).take j).filter (λa=>a.1==x)).length (X2 X3 ((rel.take i).flatMap (λx=>(Ek l name).filter λa=>a.1==x)++((Ek l name).take j).filter (λa=>a.1==x)))::As)) (λ(j,v)=>(Ek l name).length-j) (0,v) ⟨Y4 _,su hS⟩ ?_));rintro⟨j,v⟩ w ⟨hj,hS⟩;refine gN 1 ?_ ?_<;>intro JP
  ·refine gG 0 ?_;obtain⟨y,hy⟩:∃y,(Ek l name)[j]?=some y:=⟨_,Y2 om⟩
   obtain⟨q,WG,F7⟩:=aP (cells:=X3) (s:=2) (λ_=>rfl) hS mz j y hy;have hfj:=Yw (λa:Pr=>a.1==x) ((Ek l name).take j);rw[Yl]at hfj;have ZF:((Ek l name).take (j+1)).filter (λa=>a.1==x)=((Ek l name).take j).filter (λa=>a.1==x)++[y].filter (λa=>a.1==x):=by rw[Yo,hy,Yu,RT]
   have hO2:((rel.take i).flatMap (λx=>(Ek l name).filter λa=>a.1==x)++((Ek l name).take j).filter (λa=>a.1==x)).length=((rel.take i).flatMap (λx=>(Ek l name).filter λa=>a.1==x)).length+(((Ek l name).take j).filter (λa=>a.1==x)).length:=Y0;rw[WG];refine gH 1 (.val (.LY (.of O) F7 H0 DU O) O (gG 6 ?_));clear hS;intro R5 w hS;refine gM 0 ?_ ?_<;>intro Da FY
   ·refine gG 7 ?_;clear hS;intro b36 a37 c37 dW w hS;refine rd (j+1,.slice a37 (((rel.take i).flatMap (λx=>(Ek l name).filter λa=>a.1==x)++((Ek l name).take j).filter (λa=>a.1==x)).length+1) c37) ⟨od,?_⟩;try dsimp only
    rw[ZF,Ln,Y7 (su Da),Y4u,<-Yc,YT,show((rel.take i).flatMap (λx=>(Ek l name).filter λa=>a.1==x)++((Ek l name).take j).filter (λa=>a.1==x)++[y]).length=((rel.take i).flatMap (λx=>(Ek l name).filter λa=>a.1==x)++((Ek l name).take j).filter (λa=>a.1==x)).length+1 from Y0];exact hS.y 0 1
   refine gG 2 (rd (j+1,v) ⟨od,?_⟩);try dsimp only
   rw[ZF,Ln,Y3 (su Da),Y4u,Yr];exact hS.y 0 1
  refine gG 2 (rd (i+1,v) ⟨od,?_⟩);have ej:j=(Ek l name).length:=om
  subst ej;try dsimp only
  rw[Jm]at hS;rw[Yo,hx,Yu,RR,lA,List.flatMap_nil,Yr];exact hS
 refine gG 2 ?_;have ei:i=rel.length:=om
 subst ei;rw[Jm]at hS;obtain⟨ka,kc,rfl,CV,_⟩:=hS.vS 0;obtain⟨J,hJ,AJ,hS⟩:=hS.fV 0;exact⟨J,ka,kc,O,hJ,CV,AJ,hS⟩
open FI
def Gj(I:Im)(l:List UInt8)(po:Option Addr)(e a:Int):Prop:=match cmp l with
 | .error (e',a')=>po=none/\e=e'/\a=a'
 | .ok Q=>∃p,po=some p/\e=0/\a=0/\Gm I p Q l.length
theorem Gj.mono{l:Lu}{po:Oa}{e a:Int}(h:Gj I l po e a)(hl:Le I J):Gj J l po e a:=by
 unfold Gj at h ⊢;cases hq:cmp l with
 | error x=>rw[hq]at h;exact h
 | ok Q=>rw[hq]at h;obtain⟨p,h1,h2,h3,h4⟩:=h;exact⟨p,h1,h2,h3,h4.mono hl⟩
theorem Xmh(l:Lu)(As:La)(hS:Aa B w I As)(hl:l.length<=9223372036854775807):Cz 224 [S l] w λv w'=>∃po e a J,v=.tuple #[.pointer po,Ab e,Ab a]/\Le I J/\Gj J l po e a/\Aa B w' J As:=by
 refine(Xqf l As hS hl).mono λx w' ⟨v,hx,h⟩=>⟨v,hx,?_⟩
 rcases h with⟨e,a,J,h1,h2,h3,h4⟩|⟨Q,p,J,h1,h2,h3,h4,h5⟩
 ·exact⟨none,e,a,J,h2,h3,by rw[Gj,h1];exact⟨O,O,O⟩,h4⟩
 ·exact⟨some p,0,0,J,h2,h3,by rw[Gj,h1];exact⟨p,O,O,O,h4⟩,h5⟩
theorem VC{l:Lu}{Q:List Pl}(h:cmp l=.ok Q):WF Q/\0<Q.length/\Q.length<=201/\l.length<=200:=by
 obtain⟨hl,p,h1,h2,h3,rfl⟩:=tF h;obtain⟨hW,hE⟩:=Xs8 h1.ok;have h4:=Xd1 p;have h5:=h1.len;exact⟨hW,hE.1,by unfold kK at h4;omega,hl⟩
theorem Xmp{l:Lu}{Q:List Pl}(hq:cmp l=.ok Q)(p:Addr)(s:Lu)(hs:s.length<=1000000)(As:La)(hS:Aa B w I As)(hp:Gm I p Q l.length):Ce B I As 354 [.pointer (some p),S s] w (.bool (mat Q s)):=by
 have hf:=VC hq;refine gC 3 (oM Q p l.length s hf.1 hf.2.1 om om hs As hS hp) ?_;clear hS;rintro _ w ⟨rfl,hS⟩;exact gG 7 ⟨O,hS⟩
theorem VU{s:Sv}{Q:List Pl}(hq:cmp s.urls=.ok Q)(a:Oa)(c:Nat)(p q:Addr)(n:Lu)(hn:n.length<=1000000)(b:Nat)(hp:Gm I p Q s.urls.length)(As:La)(hS:Aa B w I (Ae b [S n] 9::As)):Ce B I (Ae b [S n] 9::As) 353 [.agg #[Ab s.id,BQ s.ord,S s.urls,.bool s.CT,.bool s.Dl,.bool s.back,S s.calls,.slice a s.rel.length c,.pointer (some p),.pointer (some q)],ptr b 0] w (.bool (mat Q n)):=by
 refine gH 5 ?_;clear hS;intro b2 w hS;refine gC 0 (Xmp hq p n hn _ hS hp) ?_;clear hS;rintro _ w ⟨rfl,hS⟩;exact gG 1 ⟨O,hS.s⟩
theorem Vv(s:Sv)(a:Oa)(c:Nat)(p q:Addr)(id:Int)(b:Nat)(As:La)(hS:Aa B w I (Ae b [Ab id] 3::As)):Ce B I (Ae b [Ab id] 3::As) 431 [.agg #[Ab s.id,BQ s.ord,S s.urls,.bool s.CT,.bool s.Dl,.bool s.back,S s.calls,.slice a s.rel.length c,.pointer (some p),.pointer (some q)],ptr b 0] w (.bool (s.id==id)):=by
 refine gG 8 ?_;clear hS;intro b2 w hS;exact⟨O,hS.s⟩
theorem W_(s t:Sv)(a ta:Oa)(c tc:Nat)(p q:Addr)(b:Nat)(As:La)(hS:Aa B w I (Ae b [Ab t.id,BQ t.ord,S t.urls,.bool t.CT,.bool t.Dl,.bool t.back,S t.calls,.slice ta t.rel.length tc] 71::As)):Ce B I (Ae b [Ab t.id,BQ t.ord,S t.urls,.bool t.CT,.bool t.Dl,.bool t.back,S t.calls,.slice ta t.rel.length tc] 71::As) 223 [.agg #[Ab s.id,BQ s.ord,S s.urls,.bool s.CT,.bool s.Dl,.bool s.back,S s.calls,.slice a s.rel.length c,.pointer (some p),.pointer (some q)],ptr b 0] w (.bool (s.id==t.id)):=by
 refine gG 9 ?_;clear hS;intro b2 w hS;exact⟨O,hS.s⟩
def Lq(lo:List Sv)(s:Sv):Nat :=
 if 16<=lo.length then 5 else if(decide (s.id<0)||decide (8<(s.rel.length:Int)))=true then 1 else if lo.any (λt=>t.id==s.id)=true then 7
 else if(((jB s.urls).1 !=0)||((jB s.calls).1 !=0))=true then 8 else 0
theorem Xih(pr:Sv->Bool):∀(l:List Sv) (i:Nat),decide (0<=Mg pr l i)=l.any pr
 | [],_=>rfl
 | s::r,i=>by
  rw[Mg,Y5s];cases pr s with
  | true=>simp
  | false=>simpa using Xih pr r (i+1)
theorem xm{l:Lu}{po:Oa}{e a:Int}(h:Gj I l po e a):(e !=0)=((jB l).1 !=0)/\((jB l).1=0->∃p Q,po=some p/\cmp l=.ok Q/\Gm I p Q l.length):=by
 have key:∀e',cmp l=.error e'->(jB l).1=e'.1/\e'.1≠0:=λe' hc=>by
  unfold cmp at hc;unfold jB;split at hc
  ·rename_i hl;rw[Y7 hl];cases hc;exact⟨O,de⟩
  ·rename_i hl
   rw[Y3 hl]
   have:=(aI l.length l 0 [] [] [] (Yd _) O).1 e' hc
   rw[this.1];exact⟨O,this.2⟩
 have AgV:∀Q,cmp l=.ok Q->(jB l).1=0:=λQ hc=>by
  unfold cmp at hc;unfold jB;split at hc
  ·cases hc
  ·rename_i hl
   rw[Y3 hl,(aI l.length l 0 [] [] [] (Yd _) O).2 Q hc]
 unfold Gj at h;cases hc:cmp l with
 | ok Q =>
  rw[hc]at h;obtain⟨p,rfl,rfl,rfl,hp⟩:=h;rw[AgV Q hc];exact⟨O,λ_=>⟨p,Q,O,O,hp⟩⟩
 | error x =>
  obtain⟨e',a'⟩:=x;rw[hc]at h;obtain⟨rfl,rfl,rfl⟩:=h;obtain⟨h1,h2⟩:=key _ hc;rw[h1];exact⟨O,λh3=>Yy h3 h2⟩
theorem fe(s:Sv)(sa:Oa)(sc:Nat)(N0:s.rel.length<=sc)(HO:s.rel.length<=1000000)(hu:s.urls.length<=9223372036854775807)(IL:s.calls.length<=9223372036854775807)(a:Oa)(cap:Nat)(lo:List Sv)(ey:lo.length<=100000)(hr:RS I sa 1 s.rel.length (s.rel.map S))(As:La)(hE:∀w,Aa B w I As->sE w I a lo)(hS:Aa B w I As):Cz 135 [.agg #[Ab s.id,BQ s.ord,S s.urls,.bool s.CT,.bool s.Dl,.bool s.back,S s.calls,.slice sa s.rel.length sc],.slice a lo.length cap] w λv w'=>∃J cs code,Le I J/\v=.tuple #[.agg (List.toArray cs),Ab ((code:Nat):Int)]/\code=Lq lo s/\cs.length=10/\cs.all Value.oneCell'=true/\(code=0->Dd J s cs)/\Aa B w' J As:=by
 refine gG 7 ?_;clear hS;intro b2 b4 w hS;refine gM 0 ?_ ?_<;>intro Bu B_
 ·refine gH 3 ?_;clear hS;intro w hS;refine gG 0 (⟨I,_,5,Le.refl _,O,?_,O,O,λh=>(by cases h),hS.s⟩);unfold Lq;rw[Y7 (by simp only[dq1]at Bu;omega)]
 refine gM 10 ?_ ?_<;>intro EG Gx
 ·refine gH 3 ?_;clear hS;intro w hS;refine gG 0 (⟨I,_,1,Le.refl _,O,?_,O,O,λh=>(by cases h),hS.s⟩);unfold Lq;rw[Y3 (by simp only[dq2]at Bu;omega),Y7 EG]
 refine gG 0 ?_;replace hS:=hS.px [1];refine gP 2 [] (Xd6 a cap lo ey (λt=>t.id==s.id) 223 _ func223 O [ptr b2 0] (Ae b2 [Ab s.id,BQ s.ord,S s.urls,.bool s.CT,.bool s.Dl,.bool s.back,S s.calls,.slice sa s.rel.length sc] 71::Ae b4 [Ab 0,BQ 0,S [],.bool false,.bool false,.bool false,S [],.slice none 0 0,.pointer none,.pointer none] 243::As) (λw h=>hE w ((h.drop (k:=0) O).drop (k:=0) O)) (λt c ht w h=>by
 obtain⟨ta,tc,tp,tq,_,_,rfl,_⟩:=ht;exact W_ t s ta sa tc sc tp tq b2 _ h)) ?_
 clear hS;rintro _ w ⟨rfl,hS⟩;rw[Xih];refine gM 1 ?_ ?_<;>intro BD G9
 ·refine gH 3 ?_;clear hS;intro w hS;refine gG 0 (⟨I,_,7,Le.refl _,O,?_,O,O,λh=>(by cases h),hS.s⟩);unfold Lq;rw[Y3 (by simp only[dq2]at Bu;omega),Y3 (nB EG),Y7 BD]
 refine gC 2 (Xmh s.urls _ hS hu) ?_;clear hS;rintro _ w ⟨po,e1,a1,J1,rfl,Bn,Qh,hS⟩;refine gC 9 (Xmh s.calls _ hS IL) ?_;clear hS;rintro _ w ⟨qo,e2,a2,J2,rfl,AE,HK,hS⟩;refine gM 13 ?_ ?_<;>intro LK HL
 ·refine gH 3 ?_;clear hS;intro w hS;refine gG 0 (⟨J2,_,8,Le.trans Bn AE,O,?_,O,O,λh=>(by cases h),hS.s⟩);have hk:=LK;rw[(xm Qh).1,(xm HK).1]at hk;unfold Lq;rw[Y3 (by simp only[dq2]at Bu;omega),Y3 (nB EG),Y3 (nB BD),Y7 hk]
 refine gF 2 (Xmg sa sc s.rel HO ((hr.mono Bn).mono AE)) ?_;clear hS;rintro _ w ⟨J3,ra,rc,rfl,BN,Cc,zf,hS⟩;refine gH 8 ?_;clear hS;intro w hS;refine gG 0 ?_;have hk:=LK;rw[(xm Qh).1,(xm HK).1]at hk;obtain⟨k1,k2⟩:=Mw.1 hk;simp only[bne_eq_false_iff_eq]at k1 k2
 obtain⟨p,Q,rfl,hq,hp⟩:=(xm Qh).2 k1;obtain⟨q,T,rfl,E8,KK⟩:=(xm HK).2 k2;refine⟨J3,Rw s ra rc p q,0,Le.trans Bn (Le.trans AE BN),O,?_,O,O,λ_=>⟨ra,rc,p,q,Q,T,O,Cc,zf,hq,hp.mono (Le.trans AE BN),E8,KK.mono BN⟩,hS.s⟩;unfold Lq;rw[Y3 (by simp only[dq2]at Bu;omega),Y3 (nB EG),Y3 (nB BD),Y3 (nB hk)]
def Ke(I:Im)(pr:Addr)(lo:List Sv):Prop:=∃a c E,At I pr [.slice a lo.length c]/\lo.length<=c/\EX I a E lo
theorem EX.mono{E:List Lv}{l:List Sv}(h:EX I a E l)(hl:Le I J):EX J a E l:=⟨h.1,λi s hs=>by
 obtain⟨p,c,e,h0,h1,ra,rc,pp,qq,Q,T,e2,h2,h3,h4,h5,h6,h7⟩:=h.2 i s hs;exact⟨p,c,e,h0,h1.mono hl,ra,rc,pp,qq,Q,T,e2,h2,h3.mono hl,h4,h5.mono hl,h6,h7.mono hl⟩⟩
def Pv(J:Im)(C:List Lv)(l:List Sv):Prop:=C.length=l.length/\∀(i:Nat) (s:Sv),l[i]?=some s->∃c,C[i]?=some c/\Na J s c
theorem Pv.mono{K:Im}{C:List Lv}{l:List Sv}(h:Pv J C l)(hl:Le J K):Pv K C l:=⟨h.1,λi s hs=>by
 obtain⟨c,h1,h2⟩:=h.2 i s hs;exact⟨c,h1,h2.mono hl⟩⟩
theorem Xxt:prog.info? 243=some t243:=by kernel_rfl
theorem tw{l:List Sv}(h:∀(j:Nat) t,j<i->l[j]?=some t->bad l j t=0)(hi:i<=l.length):i<=16:=by
 rcases C5 16 i with h1|h1
 ·have:=h 16 _ h1 (Y2 om)
  unfold bad at this;rw[Y7 O]at this;cases this
 ·exact h1
theorem Xti{l:List Sv}{s:Sv}(hi:i<=16)(hl:i<=l.length):Lq (l.take i) s=bad l i s:=by
 unfold Lq bad;rw[Yl,jx hl]
 by_cases h:i=16
 ·rw[Y7 om,Y7 h]
 ·rw[Y3 om,Y3 h]
theorem vH(s:Sv)(sa:Oa)(sc:Nat)(N0:s.rel.length<=sc)(HO:s.rel.length<=1000000)(hu:s.urls.length<=9223372036854775807)(IL:s.calls.length<=9223372036854775807)(a:Oa)(cap:Nat)(lo:List Sv)(n:Nat)(hn:lo.length=n)(ey:n<=100000)(hr:RS I sa 1 s.rel.length (s.rel.map S))(As:La)(hE:∀w,Aa B w I As->sE w I a lo)(hS:Aa B w I As):Cz 135 [.agg #[Ab s.id,BQ s.ord,S s.urls,.bool s.CT,.bool s.Dl,.bool s.back,S s.calls,.slice sa s.rel.length sc],.slice a n cap] w λv w'=>∃J cs code,Le I J/\v=.tuple #[.agg (List.toArray cs),Ab ((code:Nat):Int)]/\code=Lq lo s/\cs.length=10/\cs.all Value.oneCell'=true/\(code=0->Dd J s cs)/\Aa B w' J As:=by
 subst hn;exact fe s sa sc N0 HO hu IL a cap lo ey hr As hE hS
theorem tP{T:Nat}{E:List Lv}{l:List Sv}(hS:Aa B w I As)(hn:l.length=n)(hk:As[k]?=some (Ar T 10 (.slice a n cap) n E.flatten))(Jo:∀c∈E,c.length=10)
  (hE:∀(i:Nat) (s:Sv),l[i]?=some s->∃c,E[i]?=some c/\Dd I s c):sE w I a l:=by
 subst hn;exact cR hS hk Jo hE
theorem Dd.mono{s:Sv}{l:Lv}(h:Dd I s l)(hl:Le I J):Dd J s l:=by
 obtain⟨ra,rc,pp,qq,Q,T,e2,h2,h3,h4,h5,h6,h7⟩:=h;exact⟨ra,rc,pp,qq,Q,T,e2,h2,h3.mono hl,h4,h5.mono hl,h6,h7.mono hl⟩
def Nr(l:List Sv)(D:List Int):List Sv:=D.map λd=>l.getD d.toNat z0
theorem kg(a:Oa)(cap:Nat)(l:List Sv)(Hu:l.length<=20)(u9:∀v∈EK l,v<18446744073709551616)(EI:∀s∈l,s.urls.length<=9223372036854775807/\s.calls.length<=9223372036854775807/\s.rel.length<=1000000)(hl:Gn I a l)(As:La)(hS:Aa B w I As):Cz 64 [.slice a l.length cap] w λv w'=>∃J,Le I J/\Aa B w' J As/\(((Kn l).1≠0/\v=.tuple #[.pointer none,Ab ((Kn l).1:Nat),Ab ((Kn l).2:Nat)])\/((Kn l).1=0/\∃pr D,v=.tuple #[.pointer (some pr),Ab 0,Ab 0]/\B3.Ord (kx (EK l)) l.length D/\Ke J pr (Nr l D))):=by
 refine gG 8 ?_;replace hS:=hS.An 30 1;replace hS:=hS.An 243 10;refine .lk [14,15] (σ:=Nat×Im×Va×Va×List Lv) (λ(i,J,ev,ov,E) _m=>(5,ev)::(6,ov)::(16,Ab (i:Nat))::_m) (λ(i,J,ev,ov,E) w=>i<=l.length/\Le I J/\E.length=i/\(∀c∈E,c.length=10)/\(∀(j:Nat) (s:Sv),(l.take i)[j]?=some s->∃c,E[j]?=some c/\Dd J s c)/\(∀(j:Nat) (t:Sv),j<i->l[j]?=some t->bad l j t=0)/\Aa B w J (Ar 243 10 ev i E.flatten::Ar 30 1 ov i (((EK l).take i).map BQ)::As)) (λ(i,J,ev,ov,E)=>l.length-i) (0,I,.slice none 0 0,.slice none 0 0,[]) ⟨Y4 _,Le.refl _,O,λ_ h=>(by simp at h),λ_ _ h=>(by simp at h),λ_ _ h=>Yy h om,hS⟩ ?_;rintro⟨i,J,ev,ov,E⟩ w ⟨hi,hJ,yS,Jo,mw,Dz,hS⟩;refine gN 1 ?_ ?_<;>intro Gx
 ·refine gG 0 ?_;obtain⟨s,hs⟩:∃s,l[i]?=some s:=⟨_,Y2 om⟩
  obtain⟨p,ra,rc,rfl,hx,Cc,hr⟩:=(hl.mono hJ) i s hs;unfold pY at hx;have AaW:=tw Dz hi;have jO:=EI s (Y6 hs);have Hu:(l.take i).length=i:=by rw[Yl];omega
  have y_:((EK l).take (i+1)).map BQ=((EK l).take i).map BQ++[BQ s.ord]:=by
   rw[Yo,EK,Ys,hs,Ym];rfl
  have htn:l.take (i+1)=l.take i++[s]:=by rw[Yo,hs];rfl
  obtain⟨ea,ec,rfl,hec,_⟩:=hS.vS 0;obtain⟨oa,oc,rfl,zb,_⟩:=hS.vS 1;refine gH 8 ?_;clear hS;intro b8 w hS;refine gP 0 [] (vH s ra rc Cc jO.2.2 jO.1 jO.2.1 ea ec (l.take i) i Hu om hr _ (λw h=>tP h Hu (k:=1) O Jo mw)) ?_;clear hS;rintro _ w ⟨J2,cs,code,AE,rfl,dY,AaR,AW,Ww,hS⟩;refine gH 4 ?_;clear hS;intro b9 w hS;refine .so hS (k:=0) O O O AW sG AaR sz ?_;clear hS;intro w hS;try dsimp only[List.set]at hS
  try simp only[RU,Ez,Yr,Kw,O5,Y57,Yj]at hS
  refine gN 3 ?_ ?_<;>intro G9
  ·refine gG 5 ?_;have LF:=Xti (l:=l) (i:=i) (s:=s) AaW om;have hbn:bad l i s≠0:=by rw[<-LF,<-dY];omega
   have hw:=YQ Dz hs hbn;refine⟨J2,Le.trans hJ AE,hS.s,.inl ⟨by rw[hw];exact hbn,?_⟩⟩;rw[hw,dY,LF]
   done
  refine gG 0 ?_;have dZ:code=0:=om
  obtain⟨sa,sc,pp,qq,Q,T,rfl,N0,Ww⟩:=Ww dZ;have ef:Dd J2 s (Rw s sa sc pp qq):=⟨sa,sc,pp,qq,Q,T,O,N0,Ww⟩
  have dM:bad l i s=0:=by rw[<-Xti (l:=l) (i:=i) AaW om,<-dY,dZ]
  unfold Rw at hS;refine gD [0,0] [] [0,1,4,5,6] ?_;clear hS;intro w hS;refine gH 5 (gB 2 7 [] [2,3,8,9,10] ?_ ?_)
  ·refine gH 1 ?_;clear hS;intro tm w hS;refine gH 0 (gB 3 7 [7,8,9,10] [3,8,9,10] ?_ ?_)
   ·refine gH 1 ?_;clear hS;intro a34 c34 dV w hS;refine gH 1 ?_;clear hS;intro b38 w hS;refine gH 1 ?_;clear hS;intro a39 yQ Qn w hS;refine gG 4 ?_;have en:=((hS.drop (k:=0) O).drop (k:=0) O)
    refine rd (i+1,J2,.slice a34 (i+1) c34,.slice a39 (i+1) yQ,E++[Rw s sa sc pp qq]) ⟨od,Le.trans hJ AE,by(try dsimp only);rw[Y0,yS];rfl,λc hc=>?_,λj u hu=>?_,λj u hj hu=>?_,?_⟩
    ·rcases Yn.1 hc with h|h
     ·exact Jo c h
     ·simp at h;subst h;rfl
    ·(try dsimp only at hu)
     rw[htn]at hu;rcases C5 j i with h1|h1
     ·rw[Y9 om]at hu;obtain⟨c,e1,e2⟩:=mw j u hu;exact⟨c,by rw[Y9 om];exact e1,e2.mono AE⟩
     ·rw[Yq om,Hu]at hu;have qW:j-i=0:=by have:=(Y1.1 hu).1;simp at this;omega
      rw[qW]at hu;cases hu
      exact⟨_,by rw[Yq om,yS,qW];rfl,ef⟩
    ·rcases C5 j i with h1|h1
     ·exact Dz j u h1 hu
     ·have e:j=i:=by(try dsimp only at hj);omega
      subst e;rw[hs]at hu;cases hu;exact dM
    ·(try dsimp only)
     rw[y_,ju];simpa[Rw]using en
   ·refine gH 1 ?_;clear hS;intro b38 w hS;refine gH 1 ?_;clear hS;intro a34 c34 dV w hS;refine gH 1 ?_;clear hS;intro a39 yQ Qn w hS;refine gG 4 ?_;have en:=((hS.drop (k:=0) O).drop (k:=0) O)
    refine rd (i+1,J2,.slice a34 (i+1) c34,.slice a39 (i+1) yQ,E++[Rw s sa sc pp qq]) ⟨od,Le.trans hJ AE,by(try dsimp only);rw[Y0,yS];rfl,λc hc=>?_,λj u hu=>?_,λj u hj hu=>?_,?_⟩
    ·rcases Yn.1 hc with h|h
     ·exact Jo c h
     ·simp at h;subst h;rfl
    ·(try dsimp only at hu)
     rw[htn]at hu;rcases C5 j i with h1|h1
     ·rw[Y9 om]at hu;obtain⟨c,e1,e2⟩:=mw j u hu;exact⟨c,by rw[Y9 om];exact e1,e2.mono AE⟩
     ·rw[Yq om,Hu]at hu;have qW:j-i=0:=by have:=(Y1.1 hu).1;simp at this;omega
      rw[qW]at hu;cases hu
      exact⟨_,by rw[Yq om,yS,qW];rfl,ef⟩
    ·rcases C5 j i with h1|h1
     ·exact Dz j u h1 hu
     ·have e:j=i:=by(try dsimp only at hj);omega
      subst e;rw[hs]at hu;cases hu;exact dM
    ·(try dsimp only)
     rw[y_,ju];simpa[Rw]using en
  ·refine gH 1 ?_;clear hS;intro b38 w hS;refine gH 1 ?_;clear hS;intro tm w hS;refine gH 1 ?_;clear hS;intro a34 c34 dV w hS;refine gH 1 ?_;clear hS;intro a39 yQ Qn w hS;refine gG 4 ?_;have en:=((hS.drop (k:=0) O).drop (k:=0) O)
   refine rd (i+1,J2,.slice a34 (i+1) c34,.slice a39 (i+1) yQ,E++[Rw s sa sc pp qq]) ⟨od,Le.trans hJ AE,by(try dsimp only);rw[Y0,yS];rfl,λc hc=>?_,λj u hu=>?_,λj u hj hu=>?_,?_⟩
   ·rcases Yn.1 hc with h|h
    ·exact Jo c h
    ·simp at h;subst h;rfl
   ·(try dsimp only at hu)
    rw[htn]at hu;rcases C5 j i with h1|h1
    ·rw[Y9 om]at hu;obtain⟨c,e1,e2⟩:=mw j u hu;exact⟨c,by rw[Y9 om];exact e1,e2.mono AE⟩
    ·rw[Yq om,Hu]at hu;have qW:j-i=0:=by have:=(Y1.1 hu).1;simp at this;omega
     rw[qW]at hu;cases hu
     exact⟨_,by rw[Yq om,yS,qW];rfl,ef⟩
   ·rcases C5 j i with h1|h1
    ·exact Dz j u h1 hu
    ·have e:j=i:=by(try dsimp only at hj);omega
     subst e;rw[hs]at hu;cases hu;exact dM
   ·(try dsimp only)
    rw[y_,ju];simpa[Rw]using en
 refine gG 0 ?_;have JV:i=l.length:=om
 subst JV;have Mz:(EK l).length=l.length:=Yh ..;rw[Yg (Yd _)]at mw;rw[Yg om]at hS;obtain⟨oa,oc,rfl,zb,_⟩:=hS.vS 1;obtain⟨ea,ec,rfl,hec,_⟩:=hS.vS 0;obtain⟨J1,Bn,hOR,BW⟩:=hS.fV 1;try dsimp only[List.eraseIdx]at BW
 obtain⟨J2,AE,hER,Bo⟩:=BW.fV 0;clear hS BW;have hS:=Bo;clear Bo;try dsimp only[List.eraseIdx]at hS
 replace hJ:=Le.trans hJ (Le.trans Bn AE);replace hOR:=hOR.mono AE;replace mw:=λj s h=>let⟨c,h1,h2⟩:=mw j s h;(⟨c,h1,Dd.mono h2 (Le.trans Bn AE)⟩:∃c,E[j]?=some c/\Dd J2 s c)
 refine gG 3 ?_;clear hS;intro lO w hS;rw[<-Mz]at hOR ⊢;refine gF 1 (Ua (EK l) u9 om oa oc hOR) ?_;clear hS;rintro _ w ⟨D,va,vc,rfl,hD,hS⟩;obtain⟨J3,BN,hDR,Bo⟩:=hS.fV 0;clear hS;have hS:=Bo;clear Bo;try dsimp only[List.eraseIdx]at hS
 replace hJ:=Le.trans hJ BN;rw[Mz]at hD hDR ⊢;have hDl:=hD.len;refine gG 2 ?_;replace hS:=(hS.An 243 10).pick 1 O;try dsimp only[List.eraseIdx]at hS
 refine .lk [5,11,44,45] (σ:=Va×Nat) (λ(kv,j) _m=>(46,Ab (j:Nat))::_m) (λ(kv,j) w=>j<=l.length/\Aa B w J3 (Ae lO [kv] 247::Ar 243 10 kv j (jn E (D.take j)).flatten::As)) (λ(kv,j)=>l.length-j) (.slice none 0 0,0) ⟨Y4 _,hS⟩ ?_;rintro⟨kv,j⟩ w ⟨hj,hS⟩;refine gN 1 ?_ ?_<;>intro Acp
 ·refine gG 0 ?_;obtain⟨d,hd⟩:∃d,D[j]?=some d:=⟨_,Y2 om⟩
  have hdm:d∈B3.Cu l.length:=hD.2.mem_iff.1 (Y6 hd);have Ec:=B3.Dp.1 hdm;obtain⟨s,hs⟩:∃s,l[d.toNat]?=some s:=⟨_,Y2 om⟩
  obtain⟨c,hc,ra,rc,pp,qq,Q,T,rfl,Ww⟩:=mw d.toNat s hs;obtain⟨pe,rfl,GC⟩:=(hER.mono BN).2 om;have hx:=Xqw (GC.add (d.toNat*10)) 10;rw[wS E Jo d.toNat _ hc]at hx;have hnr:(jn E (D.take (j+1))).flatten=(jn E (D.take j)).flatten++Rw s ra rc pp qq:=by
   unfold jn;rw[Yo,hd,Ym,ju];simp[Ya,hc]
  unfold Rw at hx hnr;obtain⟨dp,rfl,hdp⟩:=hDR.2 om;obtain⟨ka,kc,rfl,CV,_⟩:=hS.vS 1;have hdx:((D.map Ab).drop ((j:Int).toNat*1))[0]?=some (Ab d):=by rw[U6];(try rw[Y8]);rw[Gv,Hn,Ys,hd];rfl
  refine gH 1 (.val (.Ca (v:=Ab d) (.of O) hS (hdp.add _) Cv hdx) O (gG 1 (.dw (λw=>∃R,Aa B w J3 (Ae lO [.slice ka j kc] 247::R)) (λj=>!([13].contains j)) ?_)));replace hS:=hS.drew;generalize w.drew=w at hS ⊢;have hH:∃R,Aa B w J3 (Ae lO [.slice ka j kc] 247::R):=⟨_,(hS.x [0])⟩
  refine .tp 0 O (λw=>(.mo O)) (.tp 1 O (λw=>(.mo O)) (.tp 2 O (λw=>(.no O)) ?_));refine .tp 3 O (λw=>(.fo 0 O MY O O MQ O)) (.tk 4 O hH (λw ⟨R,hS⟩=>((.lo O hS (k:=0) O isAgg239 O))) (.tp 5 O (λw=>(.mo O)) (.tp 6 O (λw=>(.mo O)) ?_)));refine .tp 7 O (λw=>(.ii O O om om MV sG)) (.tk 8 O hH (λw ⟨R,hS⟩=>((.Cy (.of O) hS hx isAgg243 sG O (λ_ _ h=>h)))) (.b1 9 O (.buildSlice (cs:=[_,_,_,_,_,_,_,_,_,_]) hS (QB O pM) MV sG ay O O O O ?_)));clear hS;intro b59 w hS;refine .nil ?_;clear hH;have hH:∃R,Aa B w J3 (Ae lO [.slice ka j kc] 247::R):=⟨_,(hS.x [1])⟩
  refine⟨λ_ _=>hH,?_⟩;refine .b1 10 O (.append (size:=10) (bytes:=96) hS (.of O) (.of O) (k:=1) O MV Xxt O O O O O O O ⟨om,by unfold maxLen;omega⟩ O ?_);clear hS;intro v60 w hS;try dsimp only[List.set]at hS
  obtain⟨a60,c60,rfl,AcN,_⟩:=hS.Av (k:=1) (v:=v60) O;refine .nil ?_;clear hH;have hH:∃R,Aa B w J3 (Ae lO [.slice ka j kc] 247::R):=⟨_,(hS.x [0])⟩
  refine⟨λ_ _=>hH,?_⟩;refine .tp 11 O (λw=>(.no O)) (.tp 12 O (λw=>(.fo 0 O MY O O MQ O)) (.b1 13 O (.s1 hS (k:=0) O O O O MQ sz ?_)));clear hS;intro w hS;try dsimp only[List.set]at hS
  refine .nil ?_;refine And.intro (by intro h;cases h) ?_;refine .dn (gG 2 (rd (.slice a60 (j+1) c60,j+1) ⟨od,?_⟩))
  (try dsimp only)
  rw[hnr];exact hS
 refine gG 4 ?_;have mT:j=l.length:=om
 subst mT;rw[Yg om]at hS;obtain⟨ka,kc,rfl,CV,_⟩:=hS.vS 1;obtain⟨J4,EA,hKR,BW⟩:=hS.fV 1;try dsimp only[List.eraseIdx]at BW
 obtain⟨J5,H9,qQ,Bo⟩:=BW.fZ 0;have hw:Kn l=(0,0):=Xzm (λq t ht=>Dz q t (oh ((Y1.1 ht).1)) ht);have NZ:(Nr l D).length=l.length:=by unfold Nr;rw[Yh,hDl]
 refine⟨J5,Le.trans hJ (Le.trans EA H9),Bo,.inr ⟨by rw[hw],_,D,O,hD,ka,kc,jn E D,?_,by rw[NZ];exact CV,by unfold jn Nr;rw[Yh,Yh],λq s hq=>?_⟩⟩
 ·rw[NZ];exact⟨O,_,_,_,qQ,λq v hq=>by simpa using hq⟩
 ·unfold Nr at hq;rw[Ys]at hq;cases hdq:D[q]? with
  | none=>rw[hdq]at hq;cases hq
  | some d =>
   rw[hdq]at hq;have Ec:=B3.Dp.1 (hD.2.mem_iff.1 (Y6 hdq));obtain⟨u,hu⟩:∃u,l[d.toNat]?=some u:=⟨_,Y2 om⟩
   have ni:u=s:=by
    have h2:=hq;rw[s7,Ya,hu]at h2;exact Option.some.inj h2
   subst ni;obtain⟨c,hc,Ww⟩:=mw d.toNat u hu;have jN:=(Y1.1 hdq).1;obtain⟨kp,rfl,hkp⟩:=(hKR.mono H9).2 om;have hpk:(jn E D)[q]?=some c:=by unfold jn;rw[Ys,hdq];simp[Ya,hc]
   have Ab8:∀c∈jn E D,c.length=10:=λc hc=>by
    unfold jn at hc;obtain⟨d',hd',rfl⟩:=Fg.1 hc;have AhQ:=B3.Dp.1 (hD.2.mem_iff.1 hd');rw[Ya,Y2 om];exact Jo _ (Zw _)
   have hx:=Xqw (hkp.add (q*10)) 10;rw[wS _ Ab8 q _ hpk]at hx;exact⟨kp,c,O,hpk,hx,Ww.mono (Le.trans BN (Le.trans EA H9))⟩
theorem Xfb(pr:Sv->Bool):∀(l:List Sv) (i:Nat),(Mg pr l i=-1/\l.find? pr=none)\/(∃j s,Mg pr l i=((i+j:Nat):Int)/\l[j]?=some s/\pr s=true/\l.find? pr=some s)
 | [],_=>.inl ⟨O,O⟩
 | a::l,i=>by
  rw[Mg,yI];cases ha:pr a with
  | true=>exact .inr ⟨0,a,O,O,ha,O⟩
  | false =>
   rw[Y3 de];rcases Xfb pr l (i+1)with⟨h1,h2⟩|⟨j,s,h1,h2,h3,h4⟩
   ·exact .inl ⟨h1,h2⟩
   ·exact .inr ⟨j+1,s,by rw[h1];congr 1;omega,h2,h3,h4⟩
theorem X9h(pr:Sv->Bool)(l:List Sv):(Mg pr l 0=-1/\l.find? pr=none)\/(∃(j:Nat) (s:Sv),Mg pr l 0=(j:Int)/\l[j]?=some s/\pr s=true/\l.find? pr=some s):=by
 rcases Xfb pr l 0 with h|⟨j,s,h1,h2⟩
 ·exact .inl h
 ·exact .inr ⟨j,s,by rw[h1,Yj],h2⟩
theorem Xl7{l:Lu}{Q:List Pl}(h:cmp l=.ok Q)(s:Lu):(Ou l s).1=mat Q s:=by unfold Ou;rw[h]
def Xo(lo:List Sv)(s:List UInt8):Sv×List UInt8×Nat :=
 if(Ul.nU s).2≠0 then(z0,[],(Ul.nU s).2)else if 100<(Ul.nU s).1.length then(z0,[],2)
 else match lo.find? (λt=>(Ou t.urls (Ul.nU s).1).1)with
  | none=>(z0,[],31)
  | some t=>(t,(Ul.nU s).1,0)
abbrev rR:Lu:=[104,116,116,112,115,58]
def k7(lo:List Sv)(id:Int)(s:List UInt8):List UInt8×Bool :=
 match lo.find? (λt=>t.id==id)with
 | none=>([],false)
 | some u=>if(((((Ul.nU s).2:Int)!=0||decide (100<((Ul.nU s).1.length:Int)))||!(Xg (Ul.nU s).1 rR))||!((Ou u.calls (Ul.nU s).1).1))=true then([],false)else((Ul.nU s).1,true)
theorem Xqr(pr:Addr)(lo:List Sv)(ey:lo.length<=100000)(HO:∀s∈lo,s.rel.length<=1000000)(s:Lu)(hs:s.length<=1000000)(a:Oa)(cc:Nat)(E:List Lv)(hK:Ba I)(ng:At I pr [.slice a lo.length cc])(hE:EX I a E lo)(As:La)(hS:Aa B w I As):Cz 269 [.pointer (some pr),S s] w λv w'=>∃J u c n e,Le I J/\v=.tuple #[.agg (List.toArray c),S n,Ab ((e:Nat):Int)]/\Na J u c/\Xo lo s=(u,n,e)/\Aa B w' J As:=by
 refine gH 4 ?_;clear hS;intro b4 w hS;refine gE 0 (X9w s hs hK) ?_;clear hS;intro w hS;refine gG 13 ?_;clear hS;intro b7 w hS;refine gM 0 ?_ ?_<;>intro El IH
 ·refine gT 3 (λEH Dy=>?_);refine gH 5 ?_;clear hS;intro w hS;refine .nil (.ret ?_);refine λ_ A5=>Tz (b:=_) (cs:=[_,_,_,_,_,_,_,_]) A5 hS (k:=1) O Uf KY O O O O ?_
  exact⟨_,O,I,z0,_,[],2,Le.refl _,O,⟨none,0,O,Yd _,RS.nil _ _⟩,(by unfold Xo;rw[Y3 (by simp at El;omega),Y7 (by simp at El;omega)]),(hS.y 0 2)⟩
 refine gM 2 ?_ ?_<;>intro EH Dy
 ·refine gH 5 ?_;clear hS;intro w hS;refine .nil (.ret ?_);refine λ_ A5=>Tz (b:=_) (cs:=[_,_,_,_,_,_,_,_]) A5 hS (k:=1) O Uf KY O O O O ?_
  exact⟨_,O,I,z0,_,[],_,Le.refl _,O,⟨none,0,O,Yd _,RS.nil _ _⟩,(by unfold Xo;rw[Y7 om]),(hS.y 0 2)⟩
 refine gG 0 ?_;have hz:(Ul.nU s).2=0:=om
 have Ahr:(Ul.nU s).1.length<=100:=by
  rw[hz]at El;simp at El
  omega
 refine gP 5 [] (X6h a cc lo ey (λt=>(Ou t.urls (Ul.nU s).1).1) 353 _ func353 O [ptr b7 0] (Ae b7 [S (Ul.nU s).1] 9::Ae b4 [Ab 0,BQ 0,S [],.bool false,.bool false,.bool false,S [],.slice none 0 0] 71::As) (λw h=>hE.now h) (λt c ht w h=>by
 obtain⟨ta,tc,tp,tq,Q,_,rfl,_,_,hQ,Aa8,_⟩:=ht;refine(VU hQ ta tc tp tq (Ul.nU s).1 om b7 Aa8 _ h).mono λe w' ⟨v,e1,e2,e3⟩=>⟨v,e1,?_,e3⟩
 rw[e2,Xl7 hQ])) ?_
 clear hS;rintro _ w ⟨rfl,hS⟩;refine gN 3 ?_ ?_<;>intro FY
 ·refine gH 4 ?_;clear hS;intro w hS;refine .nil (.ret ?_);refine λ_ A5=>Tz (b:=_) (cs:=[_,_,_,_,_,_,_,_]) A5 hS (k:=1) O Uf KY O O O O ?_
  exact⟨_,O,I,z0,_,[],31,Le.refl _,O,⟨none,0,O,Yd _,RS.nil _ _⟩,(by
   have AL:lo.find? (λt=>(Ou t.urls (Ul.nU s).1).1)=none:=by
    rcases X9h (λt=>(Ou t.urls (Ul.nU s).1).1) lo with⟨_,h⟩|⟨j,u,hj,_⟩
    ·exact h
    ·exfalso;rw[hj]at FY;omega
   unfold Xo;rw[Y3 om,Y3 om,AL]),(hS.y 0 2)⟩
 refine gG 0 ?_;rcases X9h (λt=>(Ou t.urls (Ul.nU s).1).1) lo with⟨u4,_⟩|⟨j,u,hj,hu,jM,SJ⟩
 ·exfalso;rw[u4]at FY;omega
 rw[hj];obtain⟨p,c,rfl,hc,DW,ra,rc,pp,qq,Q,T,rfl,Cc,zf,hQ,hpQ,hT,hpT⟩:=hE.2 j u hu;have ER:=(Y1.1 hu).1;have jO:=HO u (Y6 hu);have hx:=Xqw DW 8;simp only[Rw,qG,RU]at hx
 refine .dw (λw=>∃J9 R,Le I J9/\Aa B w J9 (Ae b7 [S (Ul.nU s).1] 9::R)) (λj=>!([].contains j)) ?_;replace hS:=hS.drew;generalize w.drew=w at hS ⊢;have hH:∃J9 R,Le I J9/\Aa B w J9 (Ae b7 [S (Ul.nU s).1] 9::R):=⟨_,_,Le.refl _,(hS.x [0])⟩
 refine .tp 0 O (λw=>(.mo O)) (.tp 1 O (λw=>(.no O)) ?_);refine .tp 2 O (λw=>(.fi 0 O MY O O MQ O)) (.tk 3 O hH (λw ⟨J9,R,A6,hS⟩=>((.Ca (.of O) hS (At.add (ng.mono A6) _) isAgg239 O))) (.tp 4 O (λw=>(.mo O)) (.tp 5 O (λw=>(.ii O O om om MV sG)) (.tp 6 O (λw=>(.fi 0 O MX O O KY O)) (.tk 7 O hH (λw ⟨J9,R,A6,hS⟩=>((.Cy (.of O) hS (hx.mono A6) Uf KY O (λ_ _ h=>h)))) (.tk 9 O hH (λw ⟨J9,R,A6,hS⟩=>((.lo O hS (k:=0) O BF O))) (.b1 8 O (.call func355 O (Be O X4) O (n_ u ra rc jO zf _ hS) ?_))))))));clear hS;rintro _ w ⟨J2,cs,AE,rfl,zg,hS⟩;obtain⟨sa,sc,rfl,Hv,E8⟩:=zg;have zg:Na J2 u (pY u sa sc):=⟨sa,sc,O,Hv,E8⟩
 refine .nil ?_;clear hH;have hH:∃J9 R,Le I J9/\Aa B w J9 (Ae b7 [S (Ul.nU s).1] 9::R):=⟨_,_,AE,(hS.x [0])⟩
 refine⟨λ_ _=>hH,?_⟩;refine .b1 10 O (.so hS (k:=1) O O O O KY O sz ?_);clear hS;intro w hS;try dsimp only[List.set]at hS
 try simp only[RU,Ez,Yr,Kw,O5,Y57,Yj]at hS
 refine .nil ?_;clear hH;have hH:∃J9 R,Le I J9/\Aa B w J9 (Ae b7 [S (Ul.nU s).1] 9::R):=⟨_,_,AE,(hS.x [0])⟩
 refine⟨λ_ _=>hH,?_⟩;refine .tp 11 O (λw=>(.ao O)) (.tp 12 O (λw=>(.ao O)) (.dn ?_));refine .ret (λ_ A5=>Tz (b:=_) (cs:=[_,_,_,_,_,_,_,_]) A5 hS (k:=1) O Uf KY O O O O ?_);exact⟨_,O,J2,u,_,(Ul.nU s).1,0,AE,O,zg,(by unfold Xo;rw[Y3 om,Y3 om,SJ]),(hS.y 0 2)⟩
theorem Xmx(pr:Addr)(lo:List Sv)(ey:lo.length<=100000)(HO:∀s∈lo,s.rel.length<=1000000)(id:Int)(s:Lu)(hs:s.length<=1000000)(a:Oa)(cc:Nat)(E:List Lv)(hK:Ba I)(ng:At I pr [.slice a lo.length cc])(hE:EX I a E lo)(As:La)(hS:Aa B w I As):Ce B I As 375 [.pointer (some pr),Ab id,S s] w (.tuple #[S (k7 lo id s).1,.bool (k7 lo id s).2]):=by
 refine gH 4 ?_;clear hS;intro b4 w hS;refine gE 0 (X9w s hs hK) ?_;clear hS;intro w hS;refine gP 10 [] (X6h a cc lo ey (λt=>t.id==id) 431 _ func431 O [ptr b4 0] (Ae b4 [Ab id] 3::As) (λw h=>hE.now h) (λt c ht w h=>by
 obtain⟨ta,tc,tp,tq,Q,_,rfl,_,_,hQ,Aa8,_⟩:=ht;exact Vv t ta tc tp tq id b4 _ h)) ?_
 clear hS;rintro _ w ⟨rfl,hS⟩;refine gG 1 ?_;have hi0:=X9h (λt=>t.id==id) lo;rcases hi0 with⟨u4,Aa3⟩|⟨j,u,hj,hu,jM,SJ⟩
 ·have hd:decide (Mg (λt=>t.id==id) lo 0<0)=true:=by rw[u4];rfl
  refine gH 13 (.AG (T:=λw=>Aa B w I (Ae b4 [Ab id] 3::As)) O O O MF O (λAi=>(X5 (.gd Ai O) (Be O X4))) O (λAi=>Ux (pF (Ul.nU s).1 _ w (ot Ai) de) hS) hS ?_);clear hS;rintro w hS;refine gH 4 (.AA (v:=.bool false) O O (λAi=>Yy Ai (by simp[hd])) O (.AA (v:=.bool false) O O (λAi=>Yy Ai (by simp[hd])) O (.AA (v:=.bool false) O O (λAi=>Yy Ai (by simp[hd])) O (.AA (v:=.bool false) O O (λAi=>Yy Ai (by simp[hd])) O (.AA (v:=.bool false) O O (λAi=>Yy Ai (by simp[hd])) O (.AA (v:=.bool false) O O (λAi=>Yy Ai (by simp[hd])) O (.AA (v:=.bool false) O O (λAi=>Yy Ai (by simp[hd])) O (.AA (v:=.bool false) O O (λAi=>Yy Ai (by simp[hd])) O (.AA (v:=.bool false) O O (λAi=>Yy Ai (by simp[hd])) O (.AA (v:=.bool false) O O (λAi=>Yy Ai (by simp[hd])) O ?_))))))))));refine gM 1 ?_ ?_<;>intro CS mK
  ·refine gG 2 (⟨?_,hS.s⟩);unfold k7;rw[Aa3]
  refine gH 3 (.nil (.ret ?_));refine λ_ A5=>fX A5 O O ?_
  exfalso
  rw[hd]at CS;simp at CS
 ·rw[hj];obtain⟨p,c,rfl,hc,DW,ra,rc,pp,qq,Q,T,rfl,Cc,zf,hQ,hpQ,hT,hpT⟩:=hE.2 j u hu;have ER:=(Y1.1 hu).1;have jO:=HO u (Y6 hu);have hx:=DW;refine gH 13 (.AG (T:=λw=>Aa B w I (Ae b4 [Ab id] 3::As)) O O O MF O (λAi=>(X5 (.gd Ai O) (Be O X4))) O (λAi=>Ux (pF (Ul.nU s).1 _ w (ot Ai) de) hS) hS ?_);clear hS;rintro w hS;refine gH 12 (.AG (T:=λw=>Aa B w I (Ae b4 [Ab id] 3::As)) O O O func354 O (λAi=>(X5 (.gd Ai O) (X5 (.gd Ai O) X4))) O (λAi=>Xmp hT qq (Ul.nU s).1 (ot Ai) _ hS hpT) hS ?_);clear hS;rintro w hS;refine gM 2 ?_ ?_<;>intro CS mK
  ·refine gG 2 (⟨?_,hS.s⟩);unfold k7;rw[SJ];simp only
   rw[show decide ((j:Int)<0)=false from decide_eq_false om,lB]at CS;rw[Y7 (by rw[Xl7 hT];exact CS)]
  refine gG 3 (⟨?_,hS.s⟩);unfold k7;rw[SJ];simp only
  rw[show decide ((j:Int)<0)=false from decide_eq_false om,lB]at CS;rw[Y3 (by rw[Xl7 hT,yD];exact CS)]
  done
theorem Ex.vz{d:Option Nat}{t:TypeId}{g:Option (Nat×Bool)}{x y:Operand}{l:Lu}{c:Ui}(hx:Ev n L x (S l))(hy:Ev n L y (BH i))(hc:l[i]?=some c)(hT:P.underlying t=some .string):Ex P n L w ⟨d,.index t x y,ty,pos,af,g⟩ (U8 c.toNat) w :=
 λa ha=>by
  have h1:i<l.length:=(Y1.1 hc).1;have h2:=(Y1.1 hc).2;have h3:0<=(i:Int)/\(i:Int)<((ByteArray.size ⟨l.toArray⟩:Nat):Int):=⟨om,by show(i:Int)<(l.length:Int);omega⟩
  have h:=run_index_string (P:=P) w t ⟨l.toArray⟩ .u64 i hT;rw[dif_pos h3]at h;have h4:(⟨l.toArray⟩:ByteArray)[((i:Nat):Int).toNat]'(by show((i:Nat):Int).toNat<l.length;omega)=c:=h2;rw[h4]at h;simp[execOp,hx a ha,hy a ha,h]
theorem Ex.E0{g:Option (Nat×Bool)}{x:Operand}{d:Option Nat}{l:Lu}(hx:Ev n L x (.slice (some (ad b o)) m cap))(hm:l.length=m)(hS:Aa B w I As)(hk:As[k]?=some (Ae b cs E))(hs:P.underlying src=some (.slice E))(he:P.underlying E=some (.int .u8))(hd:P.underlying dst=some .string)
  (hc:∀j (hj:j<l.length),cs[o+j]?=some (U8 (l[j].toNat:Int))):Ex P n L w ⟨d,.convert src dst x,ty,pos,af,g⟩ (S l) w:=λa ha=>by
 subst hm;have hb:=hS.block hk;have h:=run_convert_bytes_back (P:=P) w src dst E (ad b o) cap l hs he hd (λj hj=>by rw[EE];exact HU hb (hc j hj));simp[execOp,hx a ha,h]
theorem oQ(d i:Nat):((d:Nat):Int)/2^(4*(i:Int)).toNat=((d/16^i:Nat):Int):=by
 rw[show(4*(i:Int)).toNat=4*i by omega,show(16:Nat)^i=2^(4*i)by rw[Nat.pow_mul],Int.natCast_ediv,Int.natCast_pow];rfl
theorem Ts(k:Int):(Nw k).length<=6:=by
 unfold Nw;split
 ·simp
 ·rename_i h
  have:k=1\/k=2\/k=3\/k=4\/k=5\/k=6:=om
  rcases this with e|e|e|e|e|e<;>(subst e;decide)
def dg(n:Nat):Ui:=if n<10 then UInt8.ofNat (48+n)else UInt8.ofNat (87+n)
theorem uR(h:n<16):MD[n]?=some (dg n):=(by decide:∀n:Fin 16,MD[n.val]?=some (dg n.val)) ⟨n,h⟩
theorem Xnh:∀(k n:Nat),GZ (k+1) n=dg (n/16^k%16)::GZ k n
 | 0,n=>by simp[GZ,dg]
 | k+1,n=>by
  rw[GZ,Xnh k (n/16),Nat.div_div_eq_div_mul,<-Nat.pow_succ',Yz,GZ]
theorem TI{α:Type}(z v:α)(X:List α):∀n:Nat,(List.replicate (n+1) z++X).set n v=List.replicate n z++v::X
 | 0=>rfl
 | n+1=>by
  rw[List.replicate_succ,Yz,Y46,TI z v X n];rfl
def lay(i d:Nat):Lv:=List.replicate (16-i) (U8 0)++Ax (GZ i d)
theorem nC(h:i<=16):(lay i d).length=16:=by
 unfold lay;rw[Y0,js,Yh,r4];omega
theorem nD(h:i<16):(lay i d).set (15-i) (U8 (dg (d/16^i%16)).toNat)=lay (i+1) d:=by
 unfold lay;rw[show 16-i=(15-i)+1 by omega,TI,show 16-(i+1)=15-i by omega,Xnh];rfl
theorem nA{j:Nat}{D:Lu}(h:GZ 16 d=D)(hj:j<D.length):(lay 16 d)[0+j]?=some (U8 (D[j].toNat:Int)):=by
 have e:lay 16 d=Ax D:=by unfold lay;rw[h];rfl
 rw[e,Yj,Ys,Y2 hj];rfl
theorem ZW(kind:Int)(d:Nat)(hd:d<18446744073709551616)(hP:BB I)(As:La)(hS:Aa B w I As):Ce B I As 426 [Ab kind,BH (d:Nat)] w (if Nw kind=[]then .tuple #[S [],Ab 8]else .tuple #[S (Nw kind++45::GZ 16 d),Ab 0]):=by
 refine gE 3 (Xhx kind hP) ?_;clear hS;intro w hS;refine gM 3 ?_ ?_<;>intro Bu B_
 ·exact gG 2 ⟨by rw[Y7 (su Bu)],hS⟩
 refine gG 0 ?_;refine .make (l:=16) hS (.of O) (.of O) Db Xx O (by simp[t5]<;>omega) om O O O ?_;clear hS;intro qL w hS;refine gG 1 ?_;replace hS:Aa B w I (Ae qL (lay 0 d) 5::As):=hS;refine gG 3 (.lk [1,6,7,15] (σ:=Nat) (λi _m=>(16,Ab (i:Nat))::_m) (λi w=>i<=16/\Aa B w I (Ae qL (lay i d) 5::As)) (λi=>16-i) 0 ⟨Y4 _,hS⟩ ?_);rintro i w ⟨hi,hS⟩;refine gN 1 ?_ ?_<;>intro Gx
 ·refine gH 8 (.val (.shr (.of O) (.of O) om (by show(4*(i:Int))<=64;omega)) O ?_);rw[oQ d i];refine .val (.qK (a:=d/16^i) (b:=15) (Nat.lt_of_le_of_lt (Nat.div_le_self _ _) hd) om (.of O) (.of O)) O ?_;rw[show(d/16^i)&&& 15=d/16^i%16 from Nat.and_two_pow_sub_one_eq_mod _ 4];refine .val (Ex.vz (l:=MD) (.of O) (.of O) (uR (yN _ de)) BV) O ?_;refine gH 1 (.s1 hS (k:=0) O O O O FJ (by rw[nC hi];omega) ?_);clear hS;intro w hS;try dsimp only[List.set]at hS
  rw[show 0+(15-(i:Int)).toNat*1=15-i by omega,nD (show i<16 by omega)]at hS;refine gG 2 (rd (i+1) ⟨od,hS⟩)
 refine gG 0 ?_;have qO:i=16:=om
 subst qO;have NZ:=Ts kind;have d_:=r4 16 d;generalize hdg:GZ 16 d=D at *;refine gH 3 (.val (Ex.E0 (l:=D) (o:=0) (.of O) d_ hS (k:=0) O Db CY BV (λj hj=>nA hdg hj)) O ?_);exact gG 3 ⟨by rw[Y3 (su Bu),Yc];rfl,hS.s⟩
end Go.Proofs.W9
namespace Gk
open Go
def EN(E:TypeId)(v:Va)(xs:Lv):X1:=λh =>
 (v=.slice none 0 0/\xs=[]/\h=[])\/
  (∃g cs p,v=.slice (some p) 0 0/\xs=[]/\h=[(g,Xi cs E)])\/∃g cap ys rest,v=.slice (some ⟨g,List.length ys,none⟩) xs.length cap/\h=[(g,Xi (ys++xs++rest) E)]/\xs.length<=cap/\cap<=maxLen/\xs.length+rest.length=cap
section
variable {P:Program} {B w w':Wo} {I:Im} {As:La} {k:Nat} {E:TypeId} {v:Va} {xs:Lv}
theorem Aa.pg(hS:Aa B w I As)(E:Nat):Aa B w I (EN E (.slice none 0 0) []::As):=by
 obtain⟨h,hs,hg⟩:=hS;exact⟨h,⟨[],h,O,.inl ⟨O,O,O⟩,hs⟩,hg⟩
theorem Aa.KV(hS:Aa B w I As)(hk:As[k]?=some (EN E v xs)):∃a c,v=.slice a xs.length c/\xs.length<=c/\(xs≠[]->∃p,a=some p) :=
 hS.D5 hk λ_ hh=>by
  rcases hh with⟨rfl,rfl,_⟩|⟨_,_,p,rfl,rfl,_⟩|⟨g,cap,ys,rest,rfl,_,h3,_⟩
  ·exact⟨none,0,O,Yd _,λh=>Yy O h⟩
  ·exact⟨some p,0,O,Yd _,λh=>Yy O h⟩
  ·exact⟨_,_,O,h3,λ_=>⟨_,O⟩⟩
theorem Aa.iK{x:Va}(hS:Aa B w I As)(hk:As[k]?=some (EN E v (x::xs))):∃g off c,v=.slice (some ⟨g,off,none⟩) (xs.length+1) c/\xs.length+1<=c :=
 hS.D5 hk λ_ hh=>by
  rcases hh with⟨_,h,_⟩|⟨_,_,_,_,h,_⟩|⟨g,cap,ys,rest,rfl,_,h3,_⟩
  ·cases h
  ·cases h
  ·exact⟨_,_,_,O,h3⟩
theorem Aa.wI(hS:Aa B w I As)(hk:As[k]?=some (EN E (.slice (some p) m c) xs)){j:Nat}{u:Va}(hu:xs[j]?=some u):w.cell? (p.add j)=some u:=by
 obtain⟨g,hs,hg⟩:=hS;obtain⟨h1,h2,hp,ha,BA,_⟩:=hs.at_ hk;rcases ha with⟨hv,_⟩|⟨_,_,_,_,h,_⟩|⟨b,cap,ys,rest,hv,rfl,h3,h4,h5⟩
 ·cases hv
 ·subst h;simp at hu
 ·injection hv with ET HP GQ
  injection ET with ET
  subst ET;have hb:w.heap[b]?=some (Xi (ys++xs++rest) E):=(hg.perm hp).own b _ sz;rw[show(⟨b,ys.length,none⟩:Addr).add j=ad b (ys.length+j) from EE b ys.length j];refine HU hb ?_;have hj:=(Y1.1 hu).1;rw[Yc,Yq om,Y3y,Y9 hj];exact hu
theorem Aa.pf{g off:Nat}{x:Va}(hS:Aa B w I As)(hk:As[k]?=some (EN E (.slice (some ⟨g,off,none⟩) n c) (x::xs))):Aa B w I (As.set k (EN E (sliced (some ⟨g,off,none⟩) 1 n c 1) xs)) :=
 hS.say hk λ_ hh=>by
  rcases hh with⟨hv,_⟩|⟨_,_,_,_,h,_⟩|⟨b,cap,ys,rest,hv,rfl,h3,h4,h5⟩
  ·cases hv
  ·cases h
  ·injection hv with ET HP GQ
   injection ET with ET
   injection ET with ET hv4
   subst ET;subst GQ;subst hv4;simp only[List.length_cons]at h3 h5 HP
   by_cases h0:c=1
   ·have e:xs=[]:=Yf om;subst e;refine .inr<|.inl ⟨g,_,⟨g,ys.length,none⟩,?_,O,O⟩;unfold sliced;rw[Y7 h0,HP,h0];rfl
   ·refine .inr<|.inr ⟨g,c-1,ys++[x],rest,?_,by simp,om,om,om⟩;unfold sliced;rw[Y3 h0,HP,Y0];rfl
theorem Xdj(w:Wo)(t ty e:TypeId)(i:TypeInfo)(ht:P.underlying t=some (.slice e))(hi:P.info? e=some i)
  (g off QH wm:Nat) (cur:Array Va) (hg:w.heap[g]?=some (.cells cur e (0,0)))
  (a:Addr) (m c:Nat) (news:Lv) (hl:news.length=m*i.size) (D1:∀j u,news[j]?=some u->w.cell? (a.add j)=some u) (h1:∀u∈news,u.oneCell'=true)
  (EC:QH+m<=wm) (EI:off+QH*i.size+news.length<=cur.size) :(Builtin.append_ #[t,t] ty #[.slice (some ⟨g,off,none⟩) QH wm,.slice (some a) m c]).run P w =
   .ok (.slice (some ⟨g,off,none⟩) (QH+m) wm) (w.setRow g (cur.toList.take (off+QH*i.size)++news++cur.toList.drop (off+QH*i.size+news.length)).toArray):=by
 have hf:=run_firstCells_some (P:=P) w i.size m a m c news hl D1;have Cp:=run_storeCells_at P g (off+QH*i.size) e news 0 cur w hg (su EI) h1;simp only[Hn]at Cp
 simp[Builtin.append_,run_underlying ht,Go.sizeOf,typeInfo,hi,Builtin.lenOf,EC,hf,Addr.add_lit,Cp]
theorem wL(z:Array Va)(hz:z.size=1)(n:Nat):(Builtin.zeroCells z n).toList.length=n:=by rw[Zu,size_zeroCells,hz,Gv]
theorem Xgk(hS:Aa B w I As){t:TypeId}{i:TypeInfo}{z:Va}(ht:P.underlying t=some (.slice E))(hi:P.info? E=some i)(hz:i.zero=some z)
  (Bv:i.size=1) (KH:i.bytes=bytes) (N5:z.cells.size=1) (hk:As[k]?=some (EN E v xs))    (hl:news.length=m) (hm:0<m)
  (D1:∀j u,news[j]?=some u->w.cell? (p.add j)=some u) (h1:∀u∈news,u.oneCell'=true) (FB:xs.length+m<=maxLen) (G7:(xs.length+m)*bytes<=140737488355328) :∃v' w',(Builtin.append_ #[t,t] ty #[v,.slice (some p) m c]).run P w=.ok v' w'/\Aa B w' I (As.set k (EN E v' (xs++news))):=by
 subst KH;have E6:k<As.length:=(Y1.1 hk).1;have Qs:xs.length+m<=9223372036854775807:=by simp only[maxLen]at FB;omega
 have fresh:∀(xs:Lv) (DG:Nat),xs.length+m<=maxLen->∀(BT:La),Aa B w I BT->k<BT.length->Aa B (w.drew.alloc (.cells (xs.toArray++news.toArray++Builtin.zeroCells z.cells (grownCap w (xs.length+m) DG E-(xs.length+m))) E)) I
   (BT.set k (EN E (.slice (some ⟨w.heap.size,0,none⟩) (xs.length+m) (grownCap w (xs.length+m) DG E)) (xs++news))):=by
  intro xs DG FB BT hS E6;obtain⟨A0,hk⟩:∃A0,BT[k]?=some A0:=⟨_,Y2 E6⟩
  have IQ:=grownCap_ge w (xs.length+m) DG E;have Wv:grownCap w (xs.length+m) DG E<=maxLen:=grownCap_le_maxLen w (xs.length+m) DG E FB;have Bo:=hS.drew.alloc (.cells (xs.toArray++news.toArray++Builtin.zeroCells z.cells (grownCap w (xs.length+m) DG E-(xs.length+m))) E);have e1:(own w.drew.heap.size (.cells (xs.toArray++news.toArray++Builtin.zeroCells z.cells (grownCap w (xs.length+m) DG E-(xs.length+m))) E))=Ae w.heap.size ((xs++news)++(Builtin.zeroCells z.cells (grownCap w (xs.length+m) DG E-(xs.length+m))).toList) E:=by
   unfold Ae Xi
   congr 2
   apply Array.ext'
   simp
  rw[e1]at Bo;have LD:=Bo.say (k:=0) (A':=EN E (.slice (some ⟨w.heap.size,0,none⟩) (xs.length+m) (grownCap w (xs.length+m) DG E)) (xs++news)) O (λ_ hh=>.inr<|.inr ⟨w.heap.size,_,[],_,by rw[Y0,hl];rfl,by rw[Ez];exact hh,by rw[Y0,hl];exact IQ,Wv,by
   rw[Y0,hl,wL _ N5];omega⟩)
  obtain⟨h,hs,hg⟩:=LD;obtain⟨q1,q2,rfl,Hv,E8⟩:=hs;obtain⟨Fj,Ge,hp,_,BA,_⟩:=Ao.at_ hk E8;obtain⟨h',F6,F0⟩:=BA _ q1 Hv;have g:=hg.perm (hp.append_left q1)
  have:(q1++(Fj++Ge)).Perm ((q1++Ge)++Fj):=by
   rw[Yc];exact(bd).append_left q1
  exact⟨h',F6,(g.perm this).left.perm F0.symm⟩
 obtain⟨g,hs,hg⟩:=hS;obtain⟨Fj,Ge,hp,ha,BA,_⟩:=hs.at_ hk;rcases ha with⟨rfl,rfl,_⟩|⟨_,_,q,rfl,rfl,_⟩|⟨b,cap,ys,rest,rfl,rfl,h3,h4,h5⟩
 ·have hr:=run_append_nil (P:=P) w t ty E i z ht hi hz p m c news (by rw[Bv,hl,Gv]) D1 hm (by simp only[List.length_nil,Yj]at Qs;omega) (by have hb:=G7;simp only[List.length_nil,Yj]at hb;omega);have Wx:=fresh [] 0 (su FB) As ⟨g,hs,hg⟩ E6;simp only[List.length_nil,Yj,Ez,Y4p]at Wx ⊢
  exact⟨_,_,hr,Wx⟩
 ·have hr:=run_append_grow (P:=P) w t ty E i z ht hi hz q 0 0 [] sz (λj u hu=>by simp at hu) p m c news (by rw[Bv,hl,Gv]) D1 om (by simp only[List.length_nil,Yj]at Qs;omega) (growslice_fits om (su G7));have Wx:=fresh [] 0 (su FB) As ⟨g,hs,hg⟩ E6;simp only[List.length_nil,Yj,Ez,Y4p]at Wx hr ⊢
  exact⟨_,_,hr,Wx⟩
 ·obtain⟨h',F6,F0⟩:=BA (Ae b (ys++xs++rest) E) _ O;have Jq:Aa B w I (As.set k (Ae b (ys++xs++rest) E)):=⟨h',F6,hg.perm (hp.trans F0.symm)⟩
  have qZ:(As.set k (Ae b (ys++xs++rest) E))[k]?=some (Ae b (ys++xs++rest) E):=by simp[E6]
  have hblk:=Jq.block qZ
  by_cases EC:xs.length+m<=cap
  ·have hr:=Xdj (P:=P) w t ty E i ht hi b ys.length xs.length cap (ys++xs++rest).toArray hblk p m c news (by rw[Bv,hl,Gv]) D1 h1 EC (by
    simp only[yC,Y0,Bv];omega)
   have e2:((ys++xs++rest).take (ys.length+xs.length*i.size)++news++(ys++xs++rest).drop (ys.length+xs.length*i.size+news.length)).toArray=(ys++(xs++news)++rest.drop news.length).toArray:=by
    rw[Bv,Gv,<-Y0,U9,Y50,Yk (by omega:(ys++xs).length<=(ys++xs).length+news.length)]
    simp
   rw[e2]at hr;refine⟨_,_,hr,?_⟩;have hw:=Jq.write (w':=w.setRow b (ys++(xs++news)++rest.drop news.length).toArray) (o':=Xi (ys++(xs++news)++rest.drop news.length) E) qZ O O O (setRow_heap w b _ _ E _ hblk) (λx hx=>setRow_other w b x _ hx);have Hw:=hw.say (k:=k) (A:=own b (Xi (ys++(xs++news)++rest.drop news.length) E)) (A':=EN E (.slice (some ⟨b,ys.length,none⟩) (xs.length+m) cap) (xs++news)) (by simp[E6]) (λ_ hh=>.inr<|.inr ⟨b,cap,ys,rest.drop news.length,by rw[Y0,hl],hh,by rw[Y0,hl];exact EC,h4,by
    rw[Y0,Ye];omega⟩)
   simpa using Hw
  ·have holds:∀j u,xs[j]?=some u->w.cell? ((⟨b,ys.length,none⟩:Addr).add j)=some u:=λj u hu=>by
    rw[show(⟨b,ys.length,none⟩:Addr).add j=ad b (ys.length+j) from EE b ys.length j];refine HU hblk ?_;have hj:=(Y1.1 hu).1;rw[Yc,Yq om,Y3y,Y9 hj];exact hu
   have hr:=run_append_grow (P:=P) w t ty E i z ht hi hz ⟨b,ys.length,none⟩ xs.length cap xs (by rw[Bv,Gv]) holds p m c news (by rw[Bv,hl,Gv]) D1 om om (growslice_fits om G7);exact⟨_,_,hr,fresh xs cap FB As ⟨g,hs,hg⟩ E6⟩
theorem WL.lI{t:TypeId}{x y:Operand}{i:TypeInfo}{z:Va}(hS:Aa B w I As)(hx:Ev n L x v)(hy:Ev n L y (.slice a m c))(hr:RS I a 1 m news)
  (hk:As[k]?=some (EN E v xs)) (ht:P.underlying t=some (.slice E)) (hi:P.info? E=some i) (hz:i.zero=some z) (Bv:i.size=1) (KH:i.bytes=bytes) (N5:z.cells.size=1)
  (h1:news.all Value.oneCell'=true) (FB:(xs.length+m)*bytes<=140737488355328/\xs.length+m<=maxLen) (hd:Nat.blt d n=true)
  (h:∀v' w',Aa B w' I (As.set k (EN E v' (xs++news)))->WL P n ops K rest ((d,v')::L) w') :WL P n ops K (⟨some d,.call ⟨.builtin .append,#[x,y],#[t,t]⟩,ty,pos,af,none⟩::rest) L w:=by
 rcases Nx m with h0|h0
 ·subst h0;have jQ:news=[]:=Yf (su hr.1);subst jQ;obtain⟨a0,c0,rfl,mJ,_⟩:=hS.KV hk;have hr:(Builtin.append_ #[t,t] ty #[.slice a0 xs.length c0,.slice a 0 c]).run P w=.ok (.slice a0 xs.length c0) w:=by
   cases a0<;>cases a<;>simp[Builtin.append_,run_underlying ht,Go.sizeOf,typeInfo,hi,Builtin.lenOf,Builtin.firstCells,loadCells,loadCellsFrom,storeCells,mJ]
  have E6:k<As.length:=(Y1.1 hk).1;have h2:=h (.slice a0 xs.length c0) w (by
   have:As.set k (EN E (.slice a0 xs.length c0) (xs++[]))=As:=by
    rw[Yr]
    have:=(Y1.1 hk).2
    rw[<-this,sU]
   rw[this];exact hS)
  refine .val (v:=.slice a0 xs.length c0) (w':=w) (λa ha=>?_) hd h2;simp[execOp,resolve,invoke,builtin,hx a ha,hy a ha,hr]
 ·obtain⟨p,rfl,hA⟩:=hr.2 h0;obtain⟨v',w',hr',C9⟩:=Xgk (P:=P) (ty:=ty) hS ht hi hz Bv KH N5 hk (p:=p) (m:=m) (c:=c) (oh hr.1) h0 (λj u hu=>Pz hS hA hu) (Yv.1 h1) FB.2 FB.1
  refine .val (v:=v') (w':=w') (λa ha=>?_) hd (h _ _ C9);simp[execOp,resolve,invoke,builtin,hx a ha,hy a ha,hr']
end
end Gk
namespace Go.Proofs.W9
open Gk Ul Pc Tk Tr
open Tryz
theorem o6(l:List Nat):(l.map λd=>BH (d:Nat)).all Value.oneCell'=true:=by
 rw[List.all_map];exact Yv.2 λ_ _=>rfl
theorem ZP(mb:Nat)(ma:Oa)(mc:Nat)(D:List Nat)(hD:D.length<=1000000)(a:Oa)(c:Nat)(l:List Nat)(hl:l.length<=1000000)(hr:RS I a 1 l.length (l.map λd=>BH (d:Nat)))(As:La)(hS:Aa B w I (Ae mb [.slice ma D.length mc] 193::EN 22 (.slice ma D.length mc) (D.map λd=>BH (d:Nat))::As)):Cz 31 [ptr mb 0,.slice a l.length c] w λv w'=>v=.tuple #[]/\∃a c,Aa B w' I (Ae mb [.slice a (D++l).length c] 193::EN 22 (.slice a (D++l).length c) ((D++l).map λd=>BH (d:Nat))::As):=by
 refine gH 6 ?_;refine WL.lI (bytes:=8) hS (.of O) (.of O) hr (k:=1) O ky (i:=t22) kr O O O O (o6 l) ⟨by rw[Yh];omega,by rw[Yh];unfold maxLen;omega⟩ O ?_;clear hS;intro v10 w hS;try dsimp only[List.set]at hS
 obtain⟨a10,c10,rfl,DO,_⟩:=hS.KV (k:=1) O;refine gG 3 ?_;clear hS;intro w hS;refine⟨O,a10,c10,?_⟩;rw[<-Ym,Yh]at hS;exact hS
theorem Xw9(As:La)(hS:Aa B w I As):Ce B I As 141 [.slice none 0 0] w (.slice none 0 0):=by
 refine gH 2 (.val (Ex.HA (.of O) (.of O) ky) O (gG 0 (.E1 (rfl) ?_)));exact gG 1 ⟨O,hS⟩
theorem Xs1(As:La)(hS:Aa B w I As):Cz 68 [.slice none 0 0] w λv w'=>∃mb,v=ptr mb 0/\Aa B w' I (Ae mb [.slice none (([]:List Nat)).length 0] 193::EN 22 (.slice none (([]:List Nat)).length 0) ((([]:List Nat)).map λd=>BH (d:Nat))::As):=by
 refine gE 2 (Xw9) ?_;clear hS;intro w hS;refine gG 3 ?_;clear hS;intro b6 w hS;exact⟨_,O,(hS.pg 22).pick 1 O⟩
def Kj(pr:List UInt8->Bool)(kind:Int)(D:List Nat):(List UInt8×Nat)×List Nat :=
 if Nw kind=[]then(([],8),D)else match D with
 | []=>(([],6),[])
 | d::D=>if pr (Nw kind++45::GZ 16 d)then(([],7),D)else((Nw kind++45::GZ 16 d,0),D)
theorem ZX(mb:Nat)(ma:Oa)(mc:Nat)(D:List Nat)(hD:∀d∈D,d<18446744073709551616)(kind:Int)(pr:Lu->Bool)(BC:FuncId)(fn:Func)(EJ:prog.funcs[BC]?=some fn)(BZ:Xb fn=true)(AO:Lv)(hP:BB I)(As:La)(hf:∀(M:La) (s:Lu) w,Aa B w I (M++As)->Calls prog BC ([S s]++AO).toArray w (A4 λv w'=>v=.bool (pr s)/\Aa B w' I (M++As)))(hS:Aa B w I (Ae mb [.slice ma D.length mc] 193::EN 22 (.slice ma D.length mc) (D.map λd=>BH (d:Nat))::As)):Cz 357 [ptr mb 0,Ab kind,.func (.func BC) #[] AO.toArray] w λv w'=>v=.tuple #[S (Kj pr kind D).1.1,Ab ((Kj pr kind D).1.2:Nat)]/\∃a c,Aa B w' I (Ae mb [.slice a ((Kj pr kind D).2).length c] 193::EN 22 (.slice a ((Kj pr kind D).2).length c) (((Kj pr kind D).2).map λd=>BH (d:Nat))::As):=by
 refine gE 3 (Xhx kind hP) ?_;clear hS;intro w hS;refine gM 2 ?_ ?_<;>intro CQ DO
 ·refine gG 2 ?_;have e:Kj pr kind D=(([],8),D):=by unfold Kj;rw[Y7 (su CQ)]
  rw[e];exact⟨O,ma,mc,hS⟩
 refine gM 7 ?_ ?_<;>intro dG Dh
 ·refine gG 2 ?_;obtain rfl:D=[]:=by
   cases D with
   | nil=>rfl
   | cons d D=>exfalso;simp at dG;omega
  have e:Kj pr kind []=(([],6),[]):=by unfold Kj;rw[Y3 (su CQ)]
  rw[e];exact⟨O,ma,mc,hS⟩
 refine gG 0 ?_;have hk0:¬ Nw kind=[]:=su CQ
 obtain⟨d,D,rfl⟩:∃d D',D=d::D':=by
  cases D with
  | nil=>simp at dG
  | cons d D'=>exact⟨d,D',O⟩
 obtain⟨mg,mo,GI,hv,hmc⟩:=hS.iK (k:=1) O;injection hv with ET HP GQ
 subst ET;subst GQ;have hx:=hS.wI (k:=1) O (j:=0) (u:=BH (d:Nat)) O;simp only[Yh]at hmc
 refine gH 6 (.val (zn (.of O) hx isAgg22) O (gE 0 (ZW kind d (hD d sz) hP) ?_));clear hS;intro w hS;rw[Y3 hk0];refine gH 10 (.val (.Ia (s:=1) (.of O) (.of O) om (by simp only[List.length_cons];omega) ky US) O ?_);replace hS:=hS.pf (k:=1) O;try dsimp only[List.set]at hS
 refine gH 5 ?_;clear hS;intro w hS;refine .B0 (cap:=AO) EJ BZ (.of O) (Be O X4) O (hf [_,_] _ w hS) ?_;clear hS;rintro _ w ⟨rfl,hS⟩;refine gM 0 ?_ ?_<;>intro En JR
 ·refine gG 2 ?_;have e:Kj pr kind (d::D)=(([],7),D):=by unfold Kj;rw[Y3 hk0];exact Y7 En
  rw[e];exact⟨O,_,_,hS⟩
 refine gG 3 ?_;have e:Kj pr kind (d::D)=((Nw kind++45::GZ 16 d,0),D):=by unfold Kj;rw[Y3 hk0];exact Y3 (nB En)
 rw[e];exact⟨O,_,_,hS⟩
abbrev KS(p:Nat->Int):List Int:=[p 0,p 1,p 2,p 3,p 4,p 5,p 6,p 7,p 8,p 9,p 10,p 11,p 12,p 13,p 14,p 15,p 16,p 17,p 18,p 19,p 20]
structure Wp where
 wb:Nat
 tb:Nat
 mb:Nat
 ub:Nat
 pr:Addr
 lo:List Sv
 us:List Us
 ps:Nat->Int
structure Wd where
 room:Int
 l:List Al
 D:List Nat
 now:Int
abbrev DX(p:Wp)(Z:Wd):Lv:=ptr p.tb 0::ptr p.mb 0::.pointer (some p.pr)::ptr p.ub 0::apV (mpI (KS p.ps)) [Ab Z.now]
def C7(p:Wp)(Z:Wd):Oa×Nat×Oa×Nat->La:=λ⟨a,c,ma,mc⟩=>[Ae p.wb (DX p Z) 101,Ae p.tb [Ab Z.room,.slice a Z.l.length c] 186,Ar 188 10 (.slice a Z.l.length c) Z.l.length (DE Z.l),Ae p.mb [.slice ma Z.D.length mc] 193,EN 22 (.slice ma Z.D.length mc) (Z.D.map λd=>BH (d:Nat))]
abbrev Bg(p:Wp)(Z:Wd):X1:=zz (C7 p Z)
theorem Kv{p:Wp}{Z:Wd}(hS:Aa B w I (Bg p Z::As)):∃a c ma mc,Aa B w I (Ae p.wb (DX p Z) 101::B7 p.tb Z.room a c Z.l (Ae p.mb [.slice ma Z.D.length mc] 193::EN 22 (.slice ma Z.D.length mc) (Z.D.map λd=>BH (d:Nat))::As)):=by
 obtain⟨⟨a,c,ma,mc⟩,h⟩:=Aa.unbox hS;exact⟨a,c,ma,mc,h⟩
structure C0(I:Im)(p:Wp):Prop where
 reg:Ke I p.pr p.lo
 tab:Hj I p.ub p.us
 lo:p.lo.length<=100000
 rel:∀s∈p.lo,s.rel.length<=1000000
 fit:∀u∈p.us,u.fits
 yO:∀u∈p.us,u.attrs.length<=8
 known:Ba I
 pre:BB I
theorem Ke.mono{pr:Addr}{lo:List Sv}(h:Ke I pr lo)(hl:Le I J):Ke J pr lo:=by
 obtain⟨a,c,E,h1,h2,h3⟩:=h;exact⟨a,c,E,h1.mono hl,h2,h3.mono hl⟩
theorem C0.mono{p:Wp}(h:C0 I p)(hl:Le I J):C0 J p:=⟨h.reg.mono hl,h.tab.mono hl,h.lo,h.rel,h.fit,h.yO,h.known.mono hl,h.pre.mono hl⟩
structure BL(Z:Wd):Prop where
 len:Z.l.length<=64
 wf:Wf Z.l
 D:∀d∈Z.D,d<18446744073709551616
 now:0<=Z.now/\Z.now<=1099511627776
 room:Z.room<=64
theorem Aa.swap{M:La}(hS:Aa B w I (M++As)):Aa B w I (As++M):=by
 obtain⟨h,hs,hg⟩:=hS;obtain⟨h1,h2,rfl,h3,h4⟩:=Ao.app.1 hs;exact⟨h2++h1,Ao.app.2 ⟨h2,h1,O,h4,h3⟩,hg.perm bd⟩
def PT(n:Int):Bool:=decide (n<0)||decide (1099511627776<n)
abbrev iC(n:Int):Lv:=[Ab n]
def QE(p:Nat->Int):Bool:=(!((KS p).take 7).any PT&&!(((KS p).drop 7).take 7).any PT)&&!((KS p).drop 14).any PT
theorem Xlk{E:Nat}{l:List Int}(hS:Aa B w I As)(hk:As[k]?=some (Ae b cs E))(h:∀(i:Nat) n,l[i]?=some n->cs[o+i]?=some (Ab n)):Mj w iC 1 (some (ad b o)) l:=λi n hn=>by
 refine⟨_,O,λj v hj=>?_⟩;have hb:=hS.block (b:=b) (o:=Xi cs E) hk
 match j,hj with
 | 0,hj =>
  cases hj
  rw[EE,EE];refine HU hb ?_;rw[Gv];exact h i n hn
 | j+1,hj=>simp[iC]at hj
theorem Xh9(a:Oa)(cap:Nat)(l:List (Int))(Hu:l.length<=9223372036854775807)(pr:Int->Bool)(BC:FuncId)(fn:Func)(EJ:prog.funcs[BC]?=some fn)(BZ:Xb fn=true)(AO:Lv)(As:La)(hE:∀w,Aa B w I As->Mj w iC 1 a l)(hf:∀(r:Int) (hr:r∈l) w,Aa B w I As->Calls prog BC ([Ab r]++AO).toArray w (A4 λv w'=>v=.bool (pr r)/\Aa B w' I As))(hS:Aa B w I As):Ce B I As 234 [.slice a l.length cap,.func (.func BC) #[] AO.toArray] w (Ab (D8 pr l 0)):=by
 refine gG 4 (.lk [0,1,7] (σ:=Nat) (λi _m=>(8,Ab (i:Nat))::_m) (λi w=>i<=l.length/\(∀(j:Nat) t,j<i->l[j]?=some t->pr t=false)/\Aa B w I As) (λi=>l.length-i) 0 ⟨Y4 _,λ_ _ h=>Yy h om,hS⟩ ?_);rintro i w ⟨hi,AL,hS⟩;refine gN 1 ?_ ?_<;>intro DV
 ·refine gG 0 ?_;obtain⟨r,hr⟩:∃r,l[i]?=some r:=⟨_,Y2 om⟩
  obtain⟨p,rfl,hx⟩:=hE w hS i r hr;refine gH 6 ?_;refine .val (.ld1 (.of O) (by have h9:=hx 0 _ O;simpa[Addr.add_add]using h9) Cv) O ?_;refine .B0 (cap:=AO) EJ BZ (.of O) (Be O X4) O (hf r (Y6 hr) w hS) ?_;clear hS;rintro _ w ⟨rfl,hS⟩;refine gM 0 ?_ ?_<;>intro B6 C1
  ·exact gG 2 ⟨by rw[pJ AL hr B6],hS⟩
  refine gG 2 (rd (i+1) ⟨od,λj t hj ht=>?_,hS⟩);rcases C5 j i with h1|h1
  ·exact AL j t h1 ht
  ·have e:j=i:=om
   subst e;rw[hr]at ht;cases ht;exact B6
 exact gG 1 ⟨by rw[pG (λj t ht=>AL j t (oh ((Y1.1 ht).1)) ht)],hS⟩
theorem X3d(a:Oa)(cap:Nat)(l:List (Int))(Hu:l.length<=9223372036854775807)(pr:Int->Bool)(BC:FuncId)(fn:Func)(EJ:prog.funcs[BC]?=some fn)(BZ:Xb fn=true)(AO:Lv)(As:La)(hE:∀w,Aa B w I As->Mj w iC 1 a l)(hf:∀(r:Int) (hr:r∈l) w,Aa B w I As->Calls prog BC ([Ab r]++AO).toArray w (A4 λv w'=>v=.bool (pr r)/\Aa B w' I As))(hS:Aa B w I As):Ce B I As 140 [.slice a l.length cap,.func (.func BC) #[] AO.toArray] w (.bool (l.any pr)):=by
 refine gP 3 [] (Xh9 a cap l Hu pr BC fn EJ BZ AO As hE hf) ?_;clear hS;rintro _ w ⟨rfl,hS⟩;exact gG 2 ⟨by rw[<-kG pr l 0],hS⟩
theorem Xkb(n:Int)(As:La)(hS:Aa B w I As):Ce B I As 139 [Ab n] w (.bool (PT n)):=by
 exact gG 8 ⟨O,hS⟩
theorem Xyq(p:Nat->Int)(As:La)(hS:Aa B w I As):Ce B I As 66 [.agg ((KS p).map Ab).toArray] w (.bool (QE p)):=by
 refine gH 4 ?_;clear hS;intro b1 w hS;refine .val (Ex.Dm (.of O) Uk BU) O (gP 1 [] (X3d (some (ad b1 0)) 7 ((KS p).take 7) (show(7:Nat)<=9223372036854775807 by decide) PT 139 _ func139 O [] _ (λw h=>Xlk h (k:=0) O (λi n hn=>by match i,hn with|0,hn=>exact Y5 (Option.map Ab) hn|1,hn=>exact Y5 (Option.map Ab) hn|2,hn=>exact Y5 (Option.map Ab) hn|3,hn=>exact Y5 (Option.map Ab) hn|4,hn=>exact Y5 (Option.map Ab) hn|5,hn=>exact Y5 (Option.map Ab) hn|6,hn=>exact Y5 (Option.map Ab) hn|i+7,hn=>cases hn)) (λn hn w h=>Xkb n _ h)) ?_);clear hS;rintro _ w ⟨rfl,hS⟩;refine gH 3 (.AA O O (λAi=>(Ex.Dm (.gd Ai O) Uk BU)) O (gH 1 (.AG (T:=λw=>Aa B w I (Ae b1 ((KS p).map Ab) 29::As)) O O O func140 O (λAi=>(X5 (.gd Ai O) (X5 (.gd Ai O) X4))) O (λAi=>X3d (some (ad b1 7)) 7 (((KS p).drop 7).take 7) (show(7:Nat)<=9223372036854775807 by decide) PT 139 _ func139 O [] _ (λw h=>Xlk h (k:=0) O (λi n hn=>by match i,hn with|0,hn=>exact Y5 (Option.map Ab) hn|1,hn=>exact Y5 (Option.map Ab) hn|2,hn=>exact Y5 (Option.map Ab) hn|3,hn=>exact Y5 (Option.map Ab) hn|4,hn=>exact Y5 (Option.map Ab) hn|5,hn=>exact Y5 (Option.map Ab) hn|6,hn=>exact Y5 (Option.map Ab) hn|i+7,hn=>cases hn)) (λn hn w h=>Xkb n _ h) hS) hS ?_)));clear hS;rintro w hS;refine gH 4 (.AA O O (λAi=>(Ex.Dm (.gd Ai O) Uk BU)) O (gH 1 (.AG (T:=λw=>Aa B w I (Ae b1 ((KS p).map Ab) 29::As)) O O O func140 O (λAi=>(X5 (.gd Ai O) (X5 (.gd Ai O) X4))) O (λAi=>X3d (some (ad b1 14)) 7 ((KS p).drop 14) (show(7:Nat)<=9223372036854775807 by decide) PT 139 _ func139 O [] _ (λw h=>Xlk h (k:=0) O (λi n hn=>by match i,hn with|0,hn=>exact Y5 (Option.map Ab) hn|1,hn=>exact Y5 (Option.map Ab) hn|2,hn=>exact Y5 (Option.map Ab) hn|3,hn=>exact Y5 (Option.map Ab) hn|4,hn=>exact Y5 (Option.map Ab) hn|5,hn=>exact Y5 (Option.map Ab) hn|6,hn=>exact Y5 (Option.map Ab) hn|i+7,hn=>cases hn)) (λn hn w h=>Xkb n _ h) hS) hS ?_)));clear hS;rintro w hS;exact gG 3 ⟨O,hS.s⟩
def tick(Z:Wd)(n:Int):Wd:={ Z with now:=min (Z.now+max 0 (min n 1099511627776)) 1099511627776 }
theorem o4{Z:Wd}(h:BL Z)(n:Int):BL (tick Z n):=⟨h.len,h.wf,h.D,by have:=h.now;unfold tick;(try dsimp only);omega,h.room⟩
theorem aH(p:Wp)(Z:Wd)(n:Int)(hZ:BL Z)(As:La)(hS:Aa B w I (Bg p Z::As)):Ce B I (Bg p (tick Z n)::As) 30 [ptr p.wb 0,Ab n] w (.tuple #[]):=by
 refine gG 0 ?_;obtain⟨a,c,ma,mc,hS⟩:=Kv hS;have u5:=hZ.now;refine gG 13 ?_;clear hS;intro w hS;exact⟨O,Aa.box (T:=C7 p _) (a,c,ma,mc) hS⟩
theorem Xr7(tb:Nat)(room:Int)(a:Oa)(c:Nat)(l:List Al)(hl:l.length<=100000)(GR:Wf l)(ps:List Int)(E7:ps.length=21)(name:Lu)(now:Int)(hn:0<=now/\now<=1099511627776)(As:La)(hS:Aa B w I (B7 tb room a c l As)):Calls prog 356 #[ptr tb 0,.agg (ps.map Ab).toArray,S name,Ab now] w (A4 λv w'=>v=.bool (p4 ps l name now)/\Aa B w' I (B7 tb room a c l As)) :=
 (Xxd tb room a c l hl GR ps E7 name now hn As hS).mono λe w' ⟨v,he,J,hJ,hv,hS⟩=>⟨v,he,hv,hS.weaken hJ⟩
theorem wJ{p:Wp}{Z:Wd}{j:Nat}(h:((KS p.ps).map Ab)[j]?=some v):(DX p Z)[0+4+j]?=some v:=by
 have h1:=(Y1.1 h).1;have e:DX p Z=[ptr p.tb 0,ptr p.mb 0,.pointer (some p.pr),ptr p.ub 0]++((KS p.ps).map Ab++[Ab Z.now]):=rfl;rw[e,Yq sz,List.length_cons,List.length_cons,List.length_cons,List.length_cons,List.length_nil,show 0+4+j-(0+1+1+1+1)=j by omega,Y9 h1];exact h
def Xk(ps:Nat->Int)(Z:Wd)(name:Lu)(kind:Int):Al×Bool:=if((((getD Z.l name).kind)!=kind)||!p4 (KS ps) Z.l name Z.now)=true then(r0,false)else(getD Z.l name,true)
theorem zM(name:Lu)(kind:Int)(p:Wp)(Z:Wd)(hZ:BL Z)(As:La)(hS:Aa B w I (Bg p Z::As)):Ce B I (Bg p Z::As) 270 [ptr p.wb 0,S name,Ab kind] w (.tuple #[.agg (X8 (Xk p.ps Z name kind).1).toArray,.bool (Xk p.ps Z name kind).2]):=by
 refine gG 0 ?_;obtain⟨a,c,ma,mc,hS⟩:=Kv hS;have hlen:=hZ.len;refine gH 7 ?_;clear hS;intro b6 w hS;refine gE 0 (Uy p.tb Z.room a c Z.l om name) ?_;clear hS;intro w hS;refine gH 6 ?_;clear hS;intro b8 w hS;refine gG 0 ?_;replace hS:=hS.px [2,2];refine .qt hS (.val (λw hS=>(by exact .fo 0 O Iq O O BU O)) O ?_);refine .val (λw hS=>(by exact(.lo O hS (k:=2) O Cv O))) O ?_;refine .val (λw hS=>(.mo O)) O (.val (λw hS=>(.neq (.of O) (.of O))) O (.val (λw hS=>(.mo O)) O (.AA O O O (λAi w hS=>(.mo O)) O (.AA O O O (λAi w hS=>(.nilCheck (.gd Ai O))) O ?_))));refine .AA O O O (λAi w hS=>(by exact .fieldAddr 0 (.gd Ai O) aU O O Uj O)) O ?_;refine .AA O O O (λAi w hS=>(by exact(.ld (.gd Ai O) hS (k:=4) O Z1 O))) O ?_;refine .AA O O O (λAi w hS=>(.mo O)) O (.AA O O O (λAi w hS=>(.nilCheck (.gd Ai O))) O ?_);refine .AA O O O (λAi w hS=>(by exact .fieldAddr 4 (.gd Ai O) aU O O Uh O)) O ?_;refine .AA O O O (λAi w hS=>(.GG (vs:=(KS p.ps).map Ab) (.gd Ai O) hS (k:=4) O isAgg29 Uh O (λj v hj=>wJ hj))) O (.AA O O O (λAi w hS=>(.mo O)) O (.AA O O O (λAi w hS=>(.mo O)) O (.AA O O O (λAi w hS=>(.nilCheck (.gd Ai O))) O ?_)));refine .AA O O O (λAi w hS=>(by exact .fieldAddr 25 (.gd Ai O) aU O O BU O)) O ?_;refine .AA O O O (λAi w hS=>(by exact(.ld (.gd Ai O) hS (k:=4) O Cv O))) O ?_;refine .AG O O O func356 O (λAi=>(X5 (.gd Ai O) (X5 (.gd Ai O) (X5 (.gd Ai O) (X5 (.gd Ai O) X4))))) O (λAi w hS=>Xr7 p.tb Z.room a c Z.l om hZ.wf (KS p.ps) O name Z.now hZ.now _ hS) (.AA O O O (λAi w hS=>(.not (.gd Ai O))) O (.val (λw hS=>(.po O O O)) O (.nil ?_)));clear hS;intro w hS;refine gM 0 ?_ ?_<;>intro G6 FZ
 ·refine gH 3 ?_;clear hS;intro w hS;refine gG 0 (⟨?_,Aa.box (T:=C7 p _) (a,c,ma,mc) ?_⟩)
  ·rw[Xk,Y7 G6];rfl
  replace hS:=((hS.drop (k:=2) O).drop (k:=2) O).pick 2 O;try dsimp only[List.eraseIdx]at hS
  exact hS
 refine gH 3 ?_;clear hS;intro w hS;refine gG 0 (⟨?_,Aa.box (T:=C7 p _) (a,c,ma,mc) ?_⟩)
 ·rw[Xk,Y3 (nB G6)];done
 replace hS:=((hS.drop (k:=2) O).drop (k:=2) O).pick 2 O;try dsimp only[List.eraseIdx]at hS
 exact hS
theorem nT(p:Wp)(Z:Wd)(a:Oa)(c:Nat)(hlen:Z.l.length<=64)(xb:Nat)(name:Lu)(As:La)(hS:Aa B w I (Ae xb [ptr p.wb 0] 75::Ae p.wb (DX p Z) 101::B7 p.tb Z.room a c Z.l As)):Ce B I (Ae xb [ptr p.wb 0] 75::Ae p.wb (DX p Z) 101::B7 p.tb Z.room a c Z.l As) 358 [S name,ptr xb 0] w (.bool (get Z.l name).isSome):=by
 refine gE 6 (Uy p.tb Z.room a c Z.l om name) ?_;clear hS;intro w hS;replace hS:=hS.px [3,3];refine gG 8 ?_;clear hS;intro b4 w hS;exact⟨O,hS.s⟩
def HR(Z:Wd)(r:Al):(Lu×Nat)×List Nat:=Kj (λs=>(get Z.l s).isSome) r.kind Z.D
def jS(Z:Wd)(r:Al):Al:={ r with name:=(HR Z r).1.1,made:=Z.now,used:=Z.now }
def AH(Z:Wd)(r:Al):(Lu×Nat)×Wd :=
 if(HR Z r).1.2≠0 then(([],39),{ Z with D:=(HR Z r).2 })
 else(if Ld Z.room Z.l (jS Z r)≠0 then([],39)else((HR Z r).1.1,0),{ Z with D:=(HR Z r).2,l:=add Z.room Z.l (jS Z r) })
theorem nX{pr:Lu->Bool}:∀d∈(Kj pr kind D).2,d∈D:=by
 intro d hd;unfold Kj at hd;split at hd
 ·exact hd
 ·split at hd
  ·simp at hd
  ·rename_i x D
   split at hd<;>exact lx _ hd
theorem Xfy{pr:Lu->Bool}:(Kj pr kind D).1.1.length<=23:=by
 unfold Kj;split
 ·simp
 ·split
  ·simp
  ·split
   ·simp
   ·have:=Ts kind
    simp only[Y0,List.length_cons,r4];omega
theorem Kh{Z:Wd}(h:BL Z)(r:Al):BL (AH Z r).2:=by
 unfold AH;have hD:∀d∈(HR Z r).2,d<18446744073709551616:=λd hd=>h.D d (nX d hd)
 split
 ·exact⟨h.len,h.wf,hD,h.now,h.room⟩
 ·refine⟨?_,h.wf.add,hD,h.now,h.room⟩;show(add Z.room Z.l (jS Z r)).length<=64
  unfold add;split
  ·rename_i e
   have:=(bj e).2.2.2
   have:=h.room
   rw[Y0,List.length_cons,List.length_nil];omega
  ·exact h.len
theorem xk(r:Al)(hrp:r.parent.length<=1000000)(p:Wp)(Z:Wd)(hZ:BL Z)(hI:C0 I p)(As:La)(hS:Aa B w I (Bg p Z::As)):Ce B I (Bg p (AH Z r).2::As) 272 [ptr p.wb 0,.agg (X8 r).toArray] w (.tuple #[S (AH Z r).1.1,Ab ((AH Z r).1.2:Nat)]):=by
 refine gG 0 ?_;obtain⟨a,c,ma,mc,hS⟩:=Kv hS;have hlen:=hZ.len;refine gG 4 ?_;clear hS;intro b2 b3 w hS;refine gD [1,0,0] [] [0,1,2,3,4,5,6,7,8,9,10,11,12] ?_;clear hS;intro w hS;refine gP 7 [4,4,4,4,6,6] (ZX p.mb ma mc Z.D hZ.D r.kind (λs=>(get Z.l s).isSome) 358 _ func358 O [ptr b2 0] hI.pre (Ae b2 [ptr p.wb 0] 75::Ae p.wb (DX p Z) 101::B7 p.tb Z.room a c Z.l (Ae b3 [Ab r.kind,S r.name,S r.parent,S r.user,S r.service,S r.url,Ab r.made,Ab r.used,Ab r.Bq,.bool r.fresh] 188::As)) (λM s w h=>(nT p Z a c hlen b2 s (Ae b3 [Ab r.kind,S r.name,S r.parent,S r.user,S r.service,S r.url,Ab r.made,Ab r.used,Ab r.Bq,.bool r.fresh] 188::As++M) (Aa.swap (M:=M) (As:=Ae b2 [ptr p.wb 0] 75::Ae p.wb (DX p Z) 101::B7 p.tb Z.room a c Z.l (Ae b3 [Ab r.kind,S r.name,S r.parent,S r.user,S r.service,S r.url,Ab r.made,Ab r.used,Ab r.Bq,.bool r.fresh] 188::As)) h)).mono λe w9 ⟨v9,he,hv,DL⟩=>⟨v9,he,hv,Aa.swap (M:=Ae b2 [ptr p.wb 0] 75::Ae p.wb (DX p Z) 101::B7 p.tb Z.room a c Z.l (Ae b3 [Ab r.kind,S r.name,S r.parent,S r.user,S r.service,S r.url,Ab r.made,Ab r.used,Ab r.Bq,.bool r.fresh] 188::As)) (As:=M) DL⟩)) ?_;clear hS;rintro _ w ⟨rfl,GU,GI,hS⟩;replace hS:Aa B w I (Ae p.mb [.slice GU (HR Z r).2.length GI] 193::EN 22 (.slice GU (HR Z r).2.length GI) ((HR Z r).2.map λd=>BH (d:Nat))::Ae b2 [ptr p.wb 0] 75::Ae p.wb (DX p Z) 101::B7 p.tb Z.room a c Z.l (Ae b3 [Ab r.kind,S r.name,S r.parent,S r.user,S r.service,S r.url,Ab r.made,Ab r.used,Ab r.Bq,.bool r.fresh] 188::As)):=hS;refine gM 7 ?_ ?_<;>intro BX FX
 ·refine gG 2 ?_;have hE:AH Z r=(([],39),{ Z with D:=(HR Z r).2 }):=Y7 (by simpa[HR]using BX);rw[hE];replace hS:=hS.py [2,5];exact⟨O,Aa.box (T:=C7 p _) (a,c,GU,GI) (hS.x [4,4,4])⟩
 refine .skip (.ck [2,3,6] (σ:=Unit) (λ_ _m=>_m) (λ_ w=>Aa B w I (Ae p.mb [.slice GU (HR Z r).2.length GI] 193::EN 22 (.slice GU (HR Z r).2.length GI) ((HR Z r).2.map λd=>BH (d:Nat))::Ae b2 [ptr p.wb 0] 75::Ae p.wb (DX p Z) 101::B7 p.tb Z.room a c Z.l (Ae b3 [Ab r.kind,S (HR Z r).1.1,S r.parent,S r.user,S r.service,S r.url,Ab Z.now,Ab Z.now,Ab r.Bq,.bool r.fresh] 188::As))) ?_ ?_)
 ·refine gD [2,2] [] [0,1,2,3,4,5,6,7,8,9,10,11,12,13,14] ?_;clear hS;intro w hS;refine gH 11 ?_;clear hS;intro w hS;refine gH 2 ?_;clear hS;intro w hS;refine gH 2 ?_;clear hS;intro w hS;exact gG 0 (cd () hS)
 rintro _ w hS;refine gG 0 (gD [2,5,2] [] [0,1,2,3,4,5,6] ?_);clear hS;intro w hS;refine gF 5 (jU p.tb Z.room a c Z.l om (jS Z r) (by have:=Xfy (pr:=λs=>(get Z.l s).isSome) (kind:=r.kind) (D:=Z.D);exact Yx this de) hrp hI.known hI.pre) ?_;clear hS;rintro _ w ⟨rfl,a2,c2,hS⟩;refine gM 1 ?_ ?_<;>intro G6 FZ
 ·refine gG 2 ?_;have hE:AH Z r=(([],39),{ Z with D:=(HR Z r).2,l:=add Z.room Z.l (jS Z r) }):=by
   rw[AH,Y3 (by simpa[HR]using BX),Y7 (su G6)]
  rw[hE];replace hS:=((hS.pick 5 O).drop (k:=5) O).drop (k:=5) O;try dsimp only[List.eraseIdx]at hS
  exact⟨O,Aa.box (T:=C7 p _) (a2,c2,GU,GI) hS⟩
 refine gG 3 ?_;have hE:AH Z r=(((HR Z r).1.1,0),{ Z with D:=(HR Z r).2,l:=add Z.room Z.l (jS Z r) }):=by
  rw[AH,Y3 (by simpa[HR]using BX),Y3 (su G6)]
 rw[hE];replace hS:=((hS.pick 5 O).drop (k:=5) O).drop (k:=5) O;try dsimp only[List.eraseIdx]at hS
 exact⟨O,Aa.box (T:=C7 p _) (a2,c2,GU,GI) hS⟩
theorem zP{r:Al}(h:Xt r=true):r.name.length<=23/\r.parent.length<=23:=by
 unfold Xt at h;simp only[Yb]at h
 obtain⟨⟨_,h1⟩,h2⟩:=h;constructor
 ·unfold MC at h1;cases hp:EZ r.name with
  | none=>rw[hp]at h1;cases h1
  | some x=>exact(wW (k:=x.1) (d:=x.2) hp).2.2.2.1
 ·unfold pS at h2;split at h2
  ·rename_i e;rw[e];simp
  ·cases hp:EZ r.parent with
   | none=>rw[hp]at h2;cases h2
   | some x=>exact(wW (k:=x.1) (d:=x.2) hp).2.2.2.1
theorem Xad{l:List Al}(hw:Wf l)(name:Lu):(get l name=none/\getD l name=r0)\/(get l name=some (getD l name)/\Xt (getD l name)=true/\(getD l name).name=name):=by
 rcases Tr.get_at l name with⟨_,h⟩|⟨j,r,_,h2,h3,h4⟩
 ·exact .inl ⟨h,by rw[getD,h];rfl⟩
 ·have e:getD l name=r:=by rw[getD,h4];rfl
  exact .inr ⟨by rw[e];exact h4,by rw[e];exact hw.right r (Y6 h2),by rw[e];exact h3⟩
theorem Xik{l:List Al}(hw:Wf l)(name:Lu):(getD l name).name.length<=23/\(getD l name).parent.length<=23/\0<=(getD l name).Bq/\(getD l name).Bq<=255:=by
 rcases Xad hw name with⟨_,e⟩|⟨_,h,_⟩
 ·rw[e];decide
 ·have h1:=zP h;have h2:=Xgc h;exact⟨h1.1,h1.2,h2.2.2⟩
theorem Xei(p:Wp)(Z:Wd)(hZ:BL Z)(hI:C0 I p)(As:La)(hS:Aa B w I (Bg p Z::As)):Ce B I (Bg p (AH Z ⟨6,[],[],[],[],[],0,0,0,false⟩).2::As) 271 [ptr p.wb 0] w (.tuple #[S (AH Z ⟨6,[],[],[],[],[],0,0,0,false⟩).1.1,Ab ((AH Z ⟨6,[],[],[],[],[],0,0,0,false⟩).1.2:Nat)]):=by
 refine gE 4 (xk (⟨6,[],[],[],[],[],0,0,0,false⟩) sz p Z hZ hI) ?_;clear hS;intro w hS;exact gG 4 ⟨O,hS⟩
def Np(Z:Wd)(name:Lu):Wd:={ Z with l:=drop Z.l name }
theorem Xdr{Z:Wd}(h:BL Z)(name:Lu):BL (Np Z name):=⟨Yx (cF Z.l name).length_le h.len,h.wf.drop name,h.D,h.now,h.room⟩
def Gq(us:List Us)(ps:Nat->Int)(Z:Wd)(lt user pw:Lu):(Lu×Nat)×Wd :=
 if(Xk ps Z lt 6).2=false then(([],38),Z)
 else if kQ us user pw=false then(([],37),Np Z lt)
 else((AH Z ⟨1,[],[],user,[],[],0,0,0,true⟩).1,if(AH Z ⟨1,[],[],user,[],[],0,0,0,true⟩).1.2=0 then Np (AH Z ⟨1,[],[],user,[],[],0,0,0,true⟩).2 lt else(AH Z ⟨1,[],[],user,[],[],0,0,0,true⟩).2)
theorem Xok{us:List Us}{Z:Wd}(h:BL Z)(lt user pw:Lu):BL (Gq us ps Z lt user pw).2:=by
 unfold Gq;split
 ·exact h
 ·split
  ·exact Xdr h lt
  ·try dsimp only
   split
   ·exact Xdr (Kh h _) lt
   ·exact Kh h _
theorem T6(lt user pw:Lu)(hpw:pw.length<=9223372036854775807)(p:Wp)(Z:Wd)(hZ:BL Z)(hI:C0 I p)(As:La)(hS:Aa B w I (Bg p Z::As)):Ce B I (Bg p (Gq p.us p.ps Z lt user pw).2::As) 185 [ptr p.wb 0,S lt,S user,S pw] w (.tuple #[S (Gq p.us p.ps Z lt user pw).1.1,Ab ((Gq p.us p.ps Z lt user pw).1.2:Nat)]):=by
 refine gE 4 (zM lt 6 p Z hZ) ?_;clear hS;intro w hS;refine gG 8 ?_;clear hS;intro De w hS;refine gM 0 ?_ ?_<;>intro El IH
 ·refine gG 2 ?_;have hE:Gq p.us p.ps Z lt user pw=(([],38),Z):=by rw[Gq,Y7 (su El)]
  rw[hE];exact⟨O,hS.s⟩
 refine gG 0 ?_;replace hS:=hS.px [1];obtain⟨a,c,ma,mc,hS⟩:=Kv hS;have hlen:=hZ.len;have GR:=hZ.wf;refine gE 6 (Xzh p.ub p.us hI.fit user pw hpw hI.tab) ?_;clear hS;intro w hS;refine gM 1 ?_ ?_<;>intro LI AaJ
 ·refine gF 5 (Xdm p.tb Z.room a c Z.l (oh hlen) GR lt) ?_;clear hS;rintro _ w ⟨J,ga,gc,rfl,hJ,jK,AJ,a9,c9,hS⟩;replace hS:=hS.weaken hJ;refine gG 2 ?_;have hE:Gq p.us p.ps Z lt user pw=(([],37),Np Z lt):=by rw[Gq,Y3 (by rw[show(Xk p.ps Z lt 6).2=true from by simpa using El];decide),Y7 (su LI)]
  rw[hE];exact⟨O,Aa.box (T:=C7 p (Np Z lt)) (a9,c9,ma,mc) ((((((hS.drop (k:=5) O).pick 4 O).pick 4 O).pick 3 O).pick 3 O).pick 4 O)⟩
 refine gG 0 ?_;replace hS:=Aa.box (T:=C7 p _) (a,c,ma,mc) (hS.px [4,4,4,4,4]);refine gE 3 (xk (⟨1,[],[],user,[],[],0,0,0,true⟩) sz p Z hZ hI) ?_;clear hS;intro w hS;refine gM 7 ?_ ?_<;>intro NN Aco
 ·obtain⟨⟨a2,c2,GU,GI⟩,hS⟩:=Aa.unbox hS;replace hS:Aa B _ _ (Ae p.wb (DX p (AH Z ⟨1,[],[],user,[],[],0,0,0,true⟩).2) 101::B7 p.tb (AH Z ⟨1,[],[],user,[],[],0,0,0,true⟩).2.room a2 c2 (AH Z ⟨1,[],[],user,[],[],0,0,0,true⟩).2.l (Ae p.mb [.slice GU (AH Z ⟨1,[],[],user,[],[],0,0,0,true⟩).2.D.length GI] 193::EN 22 (.slice GU (AH Z ⟨1,[],[],user,[],[],0,0,0,true⟩).2.D.length GI) ((AH Z ⟨1,[],[],user,[],[],0,0,0,true⟩).2.D.map λd=>BH (d:Nat))::_)):=hS;have G5:=Kh hZ ⟨1,[],[],user,[],[],0,0,0,true⟩;have KJ:=G5.len;have nk:=G5.wf;refine gF 5 (Xdm p.tb (AH Z ⟨1,[],[],user,[],[],0,0,0,true⟩).2.room a2 c2 (AH Z ⟨1,[],[],user,[],[],0,0,0,true⟩).2.l (oh KJ) nk lt) ?_;clear hS;rintro _ w ⟨J,ga,gc,rfl,hJ,jK,AJ,a9,c9,hS⟩;replace hS:=hS.weaken hJ;refine gG 4 ?_;have hE:Gq p.us p.ps Z lt user pw=((AH Z ⟨1,[],[],user,[],[],0,0,0,true⟩).1,Np (AH Z ⟨1,[],[],user,[],[],0,0,0,true⟩).2 lt):=by rw[Gq,Y3 (by rw[show(Xk p.ps Z lt 6).2=true from by simpa using El];decide),Y3 (su LI),Y7 (su NN)]
  rw[hE];exact⟨O,Aa.box (T:=C7 p (Np (AH Z ⟨1,[],[],user,[],[],0,0,0,true⟩).2 lt)) (a9,c9,GU,GI) ((((((hS.drop (k:=5) O).pick 4 O).pick 4 O).pick 3 O).pick 3 O).pick 4 O)⟩
 refine gG 4 ?_;have hE:Gq p.us p.ps Z lt user pw=((AH Z ⟨1,[],[],user,[],[],0,0,0,true⟩).1,(AH Z ⟨1,[],[],user,[],[],0,0,0,true⟩).2):=by rw[Gq,Y3 (by rw[show(Xk p.ps Z lt 6).2=true from by simpa using El];decide),Y3 (su LI),Y3 (su NN)]
 rw[hE];exact⟨O,hS.s⟩
structure Ak where
 service:Lu
 G2:Lu
 has:Bool
 renew:Bool
 Lx:Bool
 warn:Bool
abbrev lE(q:Ak):Lv:=[S q.service,S q.G2,.bool q.has,.bool q.renew,.bool q.Lx,.bool q.warn]
def Ip(lo:List Sv)(ps:Nat->Int)(Z:Wd)(q:Ak):Nat :=
 if(q.has&&(((Xo lo q.service).2.2:Nat):Int)!=0)=true then 6
 else if(!q.has&&(Xk ps Z q.G2 1).2)=true then 5
 else if(!q.has||q.renew)=true then 1
 else if(((Xk ps Z q.G2 1).2&&(Xo lo q.service).1.CT)&&q.warn)=true then 4
 else if((Xk ps Z q.G2 1).2&&(Xo lo q.service).1.CT)=true then 2
 else if q.Lx=true then 3 else 1
theorem Xee(s:Lu)(hs:s.length<=1000000)(p:Wp)(hI:C0 I p)(As:La)(hS:Aa B w I As):Cz 269 [.pointer (some p.pr),S s] w λv w'=>∃J ra rc,Le I J/\v=.tuple #[.agg (pY (Xo p.lo s).1 ra rc).toArray,S (Xo p.lo s).2.1,Ab (((Xo p.lo s).2.2:Nat):Int)]/\(Xo p.lo s).1.rel.length<=rc/\RS J ra 1 (Xo p.lo s).1.rel.length ((Xo p.lo s).1.rel.map S)/\Aa B w' J As:=by
 obtain⟨a,c,E,h1,h2,h3⟩:=hI.reg;refine(Xqr p.pr p.lo hI.lo hI.rel s hs a c E hI.known h1 h3 As hS).mono λe w' ⟨v,he,J,u,cs,n,e2,hJ,hv,⟨ra,rc,G_,h4,h5⟩,hf,hS⟩=>⟨v,he,J,ra,rc,hJ,?_⟩
 rw[hf];subst G_;exact⟨hv,h4,h5,hS⟩
theorem aJ(s:Lu)(hs:s.length<=1000000)(p:Wp)(hI:C0 I p)(As:La)(hS:Aa B w I As):Calls prog 269 #[.pointer (some p.pr),S s] w (A4 λv w'=>∃ra rc,v=.tuple #[.agg (pY (Xo p.lo s).1 ra rc).toArray,S (Xo p.lo s).2.1,Ab (((Xo p.lo s).2.2:Nat):Int)]/\Aa B w' I As) :=
 (Xee s hs p hI As hS).mono λe w' ⟨v,he,J,ra,rc,hJ,hv,_,_,hS⟩=>⟨v,he,ra,rc,hv,hS.weaken hJ⟩
theorem Xw7(q:Ak)(rh:q.service.length<=1000000)(p:Wp)(Z:Wd)(hZ:BL Z)(hI:C0 I p)(As:La)(hS:Aa B w I (Bg p Z::As)):Ce B I (Bg p Z::As) 179 [ptr p.wb 0,.agg (lE q).toArray] w (Ab ((Ip p.lo p.ps Z q:Nat):Int)):=by
 refine gH 5 ?_;clear hS;intro b3 w hS;refine gE 0 (zM q.G2 1 p Z hZ) ?_;clear hS;intro w hS;refine gH 6 ?_;clear hS;intro b5 w hS;refine .nil (.ck [0,3,6] (σ:=Nat×Oa×Nat) (λ(b7,ra,rc) _m=>(7,ptr b7 0)::(8,S (Xo p.lo q.service).2.1)::(9,Ab (((Xo p.lo q.service).2.2:Nat):Int))::_m) (λ(b7,ra,rc) w=>Aa B w I (Ae b7 [Ab (Xo p.lo q.service).1.id,BQ (Xo p.lo q.service).1.ord,S (Xo p.lo q.service).1.urls,.bool (Xo p.lo q.service).1.CT,.bool (Xo p.lo q.service).1.Dl,.bool (Xo p.lo q.service).1.back,S (Xo p.lo q.service).1.calls,.slice ra (Xo p.lo q.service).1.rel.length rc] 71::Ae b3 [S q.service,S q.G2,.bool q.has,.bool q.renew,.bool q.Lx,.bool q.warn] 295::Bg p Z::As)) ?_ ?_)
 ·replace hS:=hS.px [1];obtain⟨a,c,ma,mc,hS⟩:=Kv hS;refine gD [6,0] [] [0,1,2,3,4,5] ?_;clear hS;intro w hS;refine gH 6 (gB 6 11 [7,8,9,10,11,12,13,14] [6,7,8,9,10,12,13,14] ?_ ?_)
  ·refine gF 0 (aJ q.service rh p hI) ?_;clear hS;rintro _ w ⟨ra,rc,rfl,hS⟩;refine gH 5 ?_;clear hS;intro b7 w hS;refine gH 1 ?_;clear hS;intro w hS;refine gG 2 ?_;replace hS:=Aa.box (T:=C7 p _) (a,c,ma,mc) (hS.px [5,5,5,5,5]);replace hS:=hS.py [2];exact cd (b7,ra,rc) (hS.x [2,2])
  ·refine gH 1 ?_;clear hS;intro b7 w hS;refine gF 0 (aJ q.service rh p hI) ?_;clear hS;rintro _ w ⟨ra,rc,rfl,hS⟩;refine gH 5 ?_;clear hS;intro w hS;refine gG 2 ?_;replace hS:=Aa.box (T:=C7 p _) (a,c,ma,mc) (hS.px [5,5,5,5,5]);replace hS:=hS.py [2];exact cd (b7,ra,rc) (hS.x [2,2])
 rintro⟨b7,ra,rc⟩ w hS;refine gM 7 ?_ ?_<;>intro BD G9
 ·refine gG 1 ?_;have hE:Ip p.lo p.ps Z q=6:=by rw[Ip,Y7 BD]
  rw[hE];exact⟨O,hS.s⟩
 refine gM 7 ?_ ?_<;>intro CI II
 ·refine gG 1 ?_;have hE:Ip p.lo p.ps Z q=5:=by rw[Ip,Y3 (nB BD),Y7 CI]
  rw[hE];exact⟨O,hS.s⟩
 refine gM 8 ?_ ?_<;>intro En JR
 ·refine gG 1 ?_;have hE:Ip p.lo p.ps Z q=1:=by rw[Ip,Y3 (nB BD),Y3 (nB CI),Y7 En]
  rw[hE];exact⟨O,hS.s⟩
 refine gM 10 ?_ ?_<;>intro CS mK
 ·refine gG 1 ?_;have hE:Ip p.lo p.ps Z q=4:=by rw[Ip,Y3 (nB BD),Y3 (nB CI),Y3 (nB En),Y7 CS]
  rw[hE];exact⟨O,hS.s⟩
 refine gM 6 ?_ ?_<;>intro Wm Acr
 ·refine gG 1 ?_;have hE:Ip p.lo p.ps Z q=2:=by rw[Ip,Y3 (nB BD),Y3 (nB CI),Y3 (nB En),Y3 (nB CS),Y7 Wm]
  rw[hE];exact⟨O,hS.s⟩
 refine gM 3 ?_ ?_<;>intro Wn Acu
 ·refine gG 1 ?_;have hE:Ip p.lo p.ps Z q=3:=by rw[Ip,Y3 (nB BD),Y3 (nB CI),Y3 (nB En),Y3 (nB CS),Y3 (nB Wm),Y7 Wn]
  rw[hE];exact⟨O,hS.s⟩
 refine gG 1 ?_;have hE:Ip p.lo p.ps Z q=1:=by rw[Ip,Y3 (nB BD),Y3 (nB CI),Y3 (nB En),Y3 (nB CS),Y3 (nB Wm),Y3 (nB Wn)]
 rw[hE];exact⟨O,hS.s⟩
def HD(lo:List Sv)(ps:Nat->Int)(Z:Wd)(Ap service:Lu)(fresh:Bool):Al:=⟨2,[],Ap,(Xk ps Z Ap 1).1.user,(Xo lo service).2.1,[],0,0,0,fresh⟩
def RM(Z:Wd)(r:Al):Wd:={ Z with l:=put Z.l r }
theorem Xli{Z:Wd}(h:BL Z)(r:Al):BL (RM Z r):=⟨by show(put Z.l r).length<=64;rw[Xj8];exact h.len,h.wf.put,h.D,h.now,h.room⟩
def FM(lo:List Sv)(ps:Nat->Int)(Z:Wd)(Ap service:Lu)(fresh:Bool):((Lu×Lu)×Nat)×Wd :=
 if(Xk ps Z Ap 1).2=false then((([],[]),30),Z)
 else if(Xo lo service).2.2≠0 then((([],[]),31),Z)
 else if(!fresh&&!(Xo lo service).1.CT)=true then((([],[]),36),Z)
 else if(AH Z (HD lo ps Z Ap service fresh)).1.2≠0 then((([],[]),(AH Z (HD lo ps Z Ap service fresh)).1.2),(AH Z (HD lo ps Z Ap service fresh)).2)
 else((((AH Z (HD lo ps Z Ap service fresh)).1.1,(Xo lo service).2.1),0),RM (AH Z (HD lo ps Z Ap service fresh)).2 (UH (Xk ps Z Ap 1).1 (AH Z (HD lo ps Z Ap service fresh)).2.now))
theorem Xo3{lo:List Sv}{Z:Wd}(h:BL Z)(Ap service:Lu)(fresh:Bool):BL (FM lo ps Z Ap service fresh).2:=by
 unfold FM;split
 ·exact h
 ·split
  ·exact h
  ·split
   ·exact h
   ·split
    ·exact Kh h _
    ·exact Xli (Kh h _) _
theorem X7h{Z:Wd}(h:BL Z)(name:Lu)(kind:Int):(Xk ps Z name kind).1.name.length<=23/\(Xk ps Z name kind).1.parent.length<=23/\0<=(Xk ps Z name kind).1.Bq/\(Xk ps Z name kind).1.Bq<=255:=by
 unfold Xk;split
 ·decide
 ·exact Xik h.wf name
theorem Xmk(Ap service:Lu)(fresh:Bool)(htg:Ap.length<=1000000)(rh:service.length<=1000000)(p:Wp)(Z:Wd)(hZ:BL Z)(hI:C0 I p)(As:La)(hS:Aa B w I (Bg p Z::As)):Ce B I (Bg p (FM p.lo p.ps Z Ap service fresh).2::As) 183 [ptr p.wb 0,S Ap,S service,.bool fresh] w (.tuple #[S (FM p.lo p.ps Z Ap service fresh).1.1.1,S (FM p.lo p.ps Z Ap service fresh).1.1.2,Ab ((FM p.lo p.ps Z Ap service fresh).1.2:Nat)]):=by
 refine gE 5 (zM Ap 1 p Z hZ) ?_;clear hS;intro w hS;refine gG 8 ?_;clear hS;intro R5 w hS;refine gM 0 ?_ ?_<;>intro Fs LL
 ·refine gG 3 ?_;have hE:FM p.lo p.ps Z Ap service fresh=((([],[]),30),Z):=by rw[FM,Y7 (su Fs)]
  rw[hE];exact⟨O,hS.s⟩
 refine gG 0 ?_;replace hS:=hS.px [1];obtain⟨a,c,ma,mc,hS⟩:=Kv hS;refine gF 5 (aJ service rh p hI) ?_;clear hS;rintro _ w ⟨ra,rc,rfl,hS⟩;refine gG 11 ?_;clear hS;intro qL w hS;refine gM 0 ?_ ?_<;>intro CI II
 ·refine gG 3 ?_;replace hS:=Aa.box (T:=C7 p _) (a,c,ma,mc) (hS.px [5,5,5,5,5]);have hE:FM p.lo p.ps Z Ap service fresh=((([],[]),31),Z):=by rw[FM,Y3 (by rw[show(Xk p.ps Z Ap 1).2=true from by simpa using Fs];decide),Y7 (su CI)]
  rw[hE];exact⟨O,(hS.y 1 2)⟩
 refine gM 8 ?_ ?_<;>intro E3 Wt
 ·refine gG 3 ?_;replace hS:=Aa.box (T:=C7 p _) (a,c,ma,mc) (hS.px [5,5,5,5,5]);have hE:FM p.lo p.ps Z Ap service fresh=((([],[]),36),Z):=by rw[FM,Y3 (by rw[show(Xk p.ps Z Ap 1).2=true from by simpa using Fs];decide),Y3 (su CI),Y7 E3]
  rw[hE];exact⟨O,(hS.y 1 2)⟩
 refine gG 0 ?_;replace hS:=Aa.box (T:=C7 p _) (a,c,ma,mc) (hS.px [5,5,5,5,5]);refine gE 7 (xk (HD p.lo p.ps Z Ap service fresh) htg p Z hZ hI) ?_;clear hS;intro w hS;refine gM 7 ?_ ?_<;>intro dK mM
 ·refine gG 4 ?_;have hE:FM p.lo p.ps Z Ap service fresh=((([],[]),(AH Z (HD p.lo p.ps Z Ap service fresh)).1.2),(AH Z (HD p.lo p.ps Z Ap service fresh)).2):=by rw[FM,Y3 (by rw[show(Xk p.ps Z Ap 1).2=true from by simpa using Fs];decide),Y3 (su CI),Y3 (nB E3),Y7 (su dK)]
  rw[hE];exact⟨O,hS.s⟩
 refine gG 0 ?_;obtain⟨⟨a2,c2,GU,GI⟩,hS⟩:=Aa.unbox hS;replace hS:Aa B _ _ (Ae p.wb (DX p (AH Z (HD p.lo p.ps Z Ap service fresh)).2) 101::B7 p.tb (AH Z (HD p.lo p.ps Z Ap service fresh)).2.room a2 c2 (AH Z (HD p.lo p.ps Z Ap service fresh)).2.l (Ae p.mb [.slice GU (AH Z (HD p.lo p.ps Z Ap service fresh)).2.D.length GI] 193::EN 22 (.slice GU (AH Z (HD p.lo p.ps Z Ap service fresh)).2.D.length GI) ((AH Z (HD p.lo p.ps Z Ap service fresh)).2.D.map λd=>BH (d:Nat))::_)):=hS;have G5:=Kh hZ (HD p.lo p.ps Z Ap service fresh);have KJ:=G5.len;have Hw:=X7h (ps:=p.ps) hZ Ap 1;refine gD [6,0] [] [0,1,2,3,4,5,6,7,8,9,10] ?_;clear hS;intro w hS;refine gE 9 (Xes (Xk p.ps Z Ap 1).1 (AH Z (HD p.lo p.ps Z Ap service fresh)).2.now Hw.2.2.1 Hw.2.2.2) ?_;clear hS;intro w hS;refine gE 0 (Xjy p.tb (AH Z (HD p.lo p.ps Z Ap service fresh)).2.room a2 c2 (AH Z (HD p.lo p.ps Z Ap service fresh)).2.l om (UH (Xk p.ps Z Ap 1).1 (AH Z (HD p.lo p.ps Z Ap service fresh)).2.now) (Yx Hw.1 de) (Yx Hw.2.1 de) hI.known hI.pre) ?_;clear hS;intro w hS;refine gG 5 ?_;replace hS:=Aa.box (T:=C7 p (RM (AH Z (HD p.lo p.ps Z Ap service fresh)).2 (UH (Xk p.ps Z Ap 1).1 (AH Z (HD p.lo p.ps Z Ap service fresh)).2.now))) (a2,c2,GU,GI) (hS.px [4,4,3,3,4]);have hE:FM p.lo p.ps Z Ap service fresh=((((AH Z (HD p.lo p.ps Z Ap service fresh)).1.1,(Xo p.lo service).2.1),0),RM (AH Z (HD p.lo p.ps Z Ap service fresh)).2 (UH (Xk p.ps Z Ap 1).1 (AH Z (HD p.lo p.ps Z Ap service fresh)).2.now)):=by rw[FM,Y3 (by rw[show(Xk p.ps Z Ap 1).2=true from by simpa using Fs];decide),Y3 (su CI),Y3 (nB E3),Y3 (su dK)]
 rw[hE];exact⟨O,(hS.y 1 2)⟩
structure Cf where
 EV:List Sv
 us:List Us
 ps:Nat->Int
 room:Int
 base:Nat
 ID:Nat
 most:Nat
 tries:Int
abbrev PA(c:Cf)(a:Oa)(cap:Nat)(ua:Oa)(EM:Nat):Lv:=.slice a c.EV.length cap::.slice ua c.us.length EM::apV (mpI (KS c.ps)) [Ab c.room,BQ c.base,BQ c.ID,BQ c.most,Ab c.tries]
structure Cf.fits(c:Cf):Prop where
 EV:c.EV.length<=20
 EK:∀v∈EK c.EV,v<18446744073709551616
 AbJ:∀s∈c.EV,s.urls.length<=9223372036854775807/\s.calls.length<=9223372036854775807/\s.rel.length<=1000000
 us:c.us.length<=9223372036854775807
 AbR:∀u∈c.us,u.fits
def JF(c:Cf):Nat:=if(Kn c.EV).1≠0 then(Kn c.EV).1 else if(HG c.us 0 []).1≠0 then(HG c.us 0 []).1 else if QE c.ps=false then 1 else 0
theorem Tc:∀(l:List Us) (i:Nat) (acc:List Us),(HG l i acc).1=0->∀u∈l,jq u=true
 | [],_,_,_,u,h=>by simp at h
 | t::l,i,acc,h,u,hu=>by
  rw[HG]at h;split at h
  ·cases h
  ·split at h
   ·cases h
   ·rename_i h1
    split at h
    ·cases h
    ·rcases Yi.1 hu with e|hu
     ·subst e;simpa using h1
     ·exact Tc l (i+1) _ h u hu
theorem XB{l:List Sv}{D:List Int}(hO:B3.Ord (kx (EK l)) l.length D):∀s∈Nr l D,s∈l:=by
 intro s hs;unfold Nr at hs;obtain⟨d,hd,rfl⟩:=Fg.1 hs;obtain⟨h1,h2⟩:=B3.Dp.1 (hO.2.mem_iff.1 hd);rw[Ya,Y2 om];exact Zw _
theorem S8{A C:Lv}{j:Nat}(h:vs[j]?=some v):(A++(vs++C))[A.length+j]?=some v:=by
 rw[Yq om,Y3y,Y9 (Y1.1 h).1];exact h
def w0(c:Cf):Wd:=⟨TA c.room,[],[],0⟩
theorem AbS(c:Cf):BL (w0 c):=⟨by simp[w0],Wf.nil,λd h=>by simp[w0]at h,by simp[w0],by unfold w0 TA;(try dsimp only);omega⟩
theorem Xo2(c:Cf)(hc:c.fits)(a:Oa)(cap:Nat)(ua:Oa)(EM:Nat)(hK:Ba I)(hP:BB I)(hl:Gn I a c.EV)(hU:DI I ua c.us)(As:La)(hS:Aa B w I As):Cz 22 [.agg (PA c a cap ua EM).toArray] w λv w'=>∃J,Le I J/\((JF c≠0/\v=.tuple #[.pointer none,Ab (JF c:Nat)]/\Aa B w' J As)\/(JF c=0/\∃p D,B3.Ord (kx (EK c.EV)) c.EV.length D/\p.lo=Nr c.EV D/\p.us=c.us/\p.ps=c.ps/\v=.tuple #[ptr p.wb 0,Ab 0]/\C0 J p/\Aa B w' J (Bg p (w0 c)::As))):=by
 refine gH 5 ?_;clear hS;intro b1 w hS;refine gF 0 (kg a cap c.EV hc.EV hc.EK hc.AbJ hl) ?_;clear hS;rintro v w ⟨J,hJ,hS,hor⟩;obtain⟨pv,e9,i9,rfl,JU,WM⟩:∃(pv:Va) (e9 i9:Nat),v=.tuple #[pv,Ab (e9:Nat),Ab (i9:Nat)]/\e9=(Kn c.EV).1/\(e9=0->∃pr D,pv=.pointer (some pr)/\B3.Ord (kx (EK c.EV)) c.EV.length D/\Ke J pr (Nr c.EV D)):=by
  rcases hor with⟨h1,h2⟩|⟨h1,pr,D,h2,h3,h4⟩
  ·exact⟨_,_,_,h2,O,λh=>Yy h h1⟩
  ·exact⟨_,0,0,h2,h1.symm,λ_=>⟨pr,D,O,h3,h4⟩⟩
 refine gM 9 ?_ ?_<;>intro EG Gx
 ·refine gG 3 ?_;have A8:(Kn c.EV).1≠0:=by rw[<-JU];simpa using EG
  have hE:JF c=e9:=by rw[JF,Y7 A8,JU]
  exact⟨J,hJ,.inl ⟨by rw[hE,JU];exact A8,by rw[hE];first|done|rfl,hS.s⟩⟩
 refine gF 2 (Xq2 ua EM c.us hc.us hc.AbR (hU.mono hJ)) ?_;clear hS;rintro v w ⟨J2,AE,Adg,hS⟩;have LU:(Kn c.EV).1=0:=by rw[<-JU];simpa using EG
 obtain⟨pr,D,rfl,uf,ng⟩:=WM om;obtain⟨uv,f9,j9,rfl,hf9,hy9⟩:∃(uv:Va) (f9 j9:Nat),v=.tuple #[uv,Ab (f9:Nat),Ab (j9:Nat)]/\f9=(HG c.us 0 []).1/\(f9=0->∃ub,uv=ptr ub 0/\Hj J2 ub c.us):=by
  rcases Adg with⟨h1,ub,h2,h3⟩|⟨h1,h2⟩
  ·exact⟨_,0,0,h2,h1.symm,λ_=>⟨ub,O,h3⟩⟩
  ·exact⟨_,_,_,h2,O,λh=>Yy h h1⟩
 refine gM 9 ?_ ?_<;>intro Em JP
 ·refine gG 3 ?_;have A8:(HG c.us 0 []).1≠0:=by rw[<-hf9];simpa using Em
  have hE:JF c=f9:=by rw[JF,Y3 (nB LU),Y7 A8,hf9]
  exact⟨J2,hJ.trans AE,.inl ⟨by rw[hE,hf9];exact A8,by rw[hE];first|done|rfl,hS.s⟩⟩
 refine gH 1 (.val (.GG (vs:=[Ab (c.ps 0),Ab (c.ps 1),Ab (c.ps 2),Ab (c.ps 3),Ab (c.ps 4),Ab (c.ps 5),Ab (c.ps 6),Ab (c.ps 7),Ab (c.ps 8),Ab (c.ps 9),Ab (c.ps 10),Ab (c.ps 11),Ab (c.ps 12),Ab (c.ps 13),Ab (c.ps 14),Ab (c.ps 15),Ab (c.ps 16),Ab (c.ps 17),Ab (c.ps 18),Ab (c.ps 19),Ab (c.ps 20)]) (.of O) hS (k:=0) O isAgg29 Uh O (λj v hj=>S8 (A:=[.slice a c.EV.length cap,.slice ua c.us.length EM]) (C:=[Ab c.room,BQ c.base,BQ c.ID,BQ c.most,Ab c.tries]) hj)) O (gE 0 (Xyq c.ps) ?_));clear hS;intro w hS;have hu0:(HG c.us 0 []).1=0:=by rw[<-hf9];simpa using Em
 obtain⟨ub,rfl,Ach⟩:=hy9 om;refine gM 1 ?_ ?_<;>intro LJ AaK
 ·refine gG 2 ?_;have hE:JF c=1:=by rw[JF,Y3 (nB LU),Y3 (nB hu0),Y7 (su LJ)]
  exact⟨J2,hJ.trans AE,.inl ⟨by rw[hE];decide,by rw[hE];first|done|rfl,hS.s⟩⟩
 refine gG 0 (gD [0] [] [0,1,4,5,6,7,2,3,8,9,10,11] ?_);clear hS;intro w hS;refine gH 5 (Br.y 7 (λw _ _ A6 hS=>.GG (vs:=[Ab (c.ps 0),Ab (c.ps 1),Ab (c.ps 2),Ab (c.ps 3),Ab (c.ps 4),Ab (c.ps 5),Ab (c.ps 6),Ab (c.ps 7),Ab (c.ps 8),Ab (c.ps 9),Ab (c.ps 10),Ab (c.ps 11),Ab (c.ps 12),Ab (c.ps 13),Ab (c.ps 14),Ab (c.ps 15),Ab (c.ps 16),Ab (c.ps 17),Ab (c.ps 18),Ab (c.ps 19),Ab (c.ps 20)]) (.of O) hS (k:=0) O isAgg29 Uh O (λj v hj=>S8 (A:=[.slice a c.EV.length cap,.slice ua c.us.length EM]) (C:=[Ab c.room,BQ c.base,BQ c.ID,BQ c.most,Ab c.tries]) hj)) (gF 0 (Xgw c.room) ?_));clear hS;rintro _ w ⟨tb,rfl,hS⟩;refine gF 0 (Xs1) ?_;clear hS;rintro _ w ⟨mb,rfl,hS⟩;refine gH 2 ?_;clear hS;intro lO w hS;refine gG 2 ?_;have hE:JF c=0:=by rw[JF,Y3 (nB LU),Y3 (nB hu0),Y3 (su LJ)]
 have hp:=XB uf;refine⟨J2,hJ.trans AE,.inr ⟨hE,⟨lO,tb,mb,ub,pr,Nr c.EV D,c.us,c.ps⟩,D,uf,O,O,O,O,⟨ng.mono AE,Ach,?_,λs hs=>(hc.AbJ s (hp s hs)).2.2,hc.AbR,λu hu=>Xgz (Tc c.us 0 [] hu0 u hu),(hK.mono hJ).mono AE,(hP.mono hJ).mono AE⟩,?_⟩⟩
 ·show(Nr c.EV D).length<=100000
  rw[Nr,Yh,uf.len];exact Yx hc.EV de
 ·exact Aa.box (T:=C7 ⟨lO,tb,mb,ub,pr,Nr c.EV D,c.us,c.ps⟩ (w0 c)) (none,0,none,0) (hS.z [2,2,4,4,4] 5 1)
end Go.Proofs.W9
namespace Rq
open Pc Gk Ul Go
def BS(k:UInt8):List UInt8->List (List UInt8)
 | []=>[[]]
 | c::r=>if c=k then[]::BS k r else match BS k r with
  | []=>[[c]]
  | h::t=>(c::h)::t
theorem v_(k:Ui)(s:Lu):BS k s≠[]:=by
 cases s with
 | nil=>simp[BS]
 | cons c r =>
  simp only[BS]
  split
  ·simp
  ·split<;>simp
theorem z6(k:Ui):∀(s:Lu),(∀x∈s,x≠k)->BS k s=[s]
 | [],_=>rfl
 | c::r,h=>by
  rw[BS,Y3 (h c sz),z6 k r (λx hx=>h x (by simp[hx]))]
theorem Xld(k:Ui):∀(a b:Lu),(∀x∈a,x≠k)->BS k (a++k::b)=a::BS k b
 | [],b,_=>by show BS k (k::b)=_;rw[BS,Y7 O]
 | c::r,b,h=>by
  show BS k (c::(r++k::b))=_
  rw[BS,Y3 (h c sz),Xld k r b (λx hx=>h x (by simp[hx]))]
theorem fD{k:Ui}{s:Lu}(h:s[i]?=some k)(AL:∀j,j<i->s[j]?≠some k):BS k s=s.take i::BS k (s.drop (i+1)):=by
 have hi:i<s.length:=(Y1.1 h).1;have e:s=s.take i++k::s.drop (i+1):=by
  conv=>lhs;rw[<-Mv i s]
  rw[Yp hi,(Y1.1 h).2]
 conv=>lhs;rw[e]
 refine Xld k _ _ λx hx ex=>?_
 obtain⟨j,hk⟩:=O3.1 hx;rw[jw]at hk;split at hk
 ·rename_i O7
  exact AL j O7 (by rw[hk,ex])
 ·cases hk
theorem Xz6(c:Ui):∀(n:Nat) (s:Lu),s.length<=n->Go.Lib.splitK [c] 0 (Go.Lib.count s [c]) s=BS c s:=by
 intro n
 induction n with
 | zero =>
  intro s h
  have:s=[]:=Yf om
  subst this;rfl
 | succ n ih =>
  intro s h;have IQ:=Go.Lib.indexByte_ge s c
  by_cases e:Go.Lib.indexByte s c=-1
  ·have hi:Go.Lib.index s [c]=-1:=by rw[Go.Lib.index_one];exact e
   rw[Go.Lib.count_miss hi];refine(z6 c s λx hx ex=>?_).symm;obtain⟨k,hk⟩:=O3.1 hx;exact Go.Lib.indexByte_none e k (by rw[hk,ex])
  ·obtain⟨i,hk⟩:∃k:Nat,Go.Lib.indexByte s c=k:=⟨(Go.Lib.indexByte s c).toNat,om⟩
   obtain⟨h1,h2⟩:=Go.Lib.indexByte_some hk;have BO:i<s.length:=(Y1.1 h1).1;rw[Go.Lib.count_hit sz (by rw[Go.Lib.index_one];exact hk),fD h1 h2];show Go.Lib.splitK [c] 0 (1+Go.Lib.count (s.drop (i+1)) [c]) s=_
   rw[Zz 1,Go.Lib.splitK,Go.Lib.index_one,hk,Y3 sz];simp only[Y8,Hn,List.length_cons,List.length_nil,Yj]
   rw[ih _ (by rw[Ye];omega)]
theorem oq(c:Ui):∀(n:Nat) (s:Lu),s.length<=n->(BS c s).length=Go.Lib.count s [c]+1:=by
 intro n
 induction n with
 | zero =>
  intro s h
  have:s=[]:=Yf om
  subst this;rw[Go.Lib.count_miss (by rw[Go.Lib.index_one];rfl)];rfl
 | succ n ih =>
  intro s h;have IQ:=Go.Lib.indexByte_ge s c
  by_cases e:Go.Lib.indexByte s c=-1
  ·have hi:Go.Lib.index s [c]=-1:=by rw[Go.Lib.index_one];exact e
   rw[Go.Lib.count_miss hi,z6 c s λx hx ex=>?_]
   ·rfl
   ·obtain⟨k,hk⟩:=O3.1 hx;exact Go.Lib.indexByte_none e k (by rw[hk,ex])
  ·obtain⟨i,hk⟩:∃k:Nat,Go.Lib.indexByte s c=k:=⟨(Go.Lib.indexByte s c).toNat,om⟩
   obtain⟨h1,h2⟩:=Go.Lib.indexByte_some hk;have BO:i<s.length:=(Y1.1 h1).1;rw[Go.Lib.count_hit sz (by rw[Go.Lib.index_one];exact hk),fD h1 h2];show(BS c (s.drop (i+1))).length+1=(1+Go.Lib.count (s.drop (i+1)) [c])+1
   rw[ih _ (by rw[Ye];omega)];omega
theorem Xg5(k:Ui):∀(s:Lu),∀x∈BS k s,x.length<=s.length
 | [],x,h=>by simp[BS]at h;subst h;simp
 | c::r,x,h=>by
  have ih:=Xg5 k r;rw[BS]at h;split at h
  ·rcases Yi.1 h with rfl|h
   ·simp
   ·have:=ih x h;simp;omega
  ·cases e:BS k r with
   | nil=>exact Yy e (v_ k r)
   | cons y t =>
    rw[e]at h ih;rcases Yi.1 h with rfl|h
    ·have:=ih y sz;simp;omega
    ·have:=ih x (by simp[h]);simp;omega
theorem To(k:Ui):∀(s:Lu),(BS k s).length<=s.length+1
 | []=>by simp[BS]
 | c::r=>by
  have ih:=To k r;rw[BS];split
  ·simp;omega
  ·cases e:BS k r with
   | nil=>simp
   | cons y t=>rw[e]at ih;simp at ih ⊢;omega
def I6(c:Ui):Bool:=plain c&&c !=46&&c !=95&&c !=126
def L_(s:Lu):Bool:=List.all s I6&&!s.isEmpty
def FE(a b c:Ui):Bool:=decide (a.toNat<=c.toNat)&&decide (c.toNat<=b.toNat)
def RQ(c:Ui):Bool:=decide (33<=c.toNat)&&decide (c.toNat<=126)&&c !=34&&c !=44&&c !=59&&c !=92
def UY(c:Ui):Ui:=if decide (65<=c.toNat)&&decide (c.toNat<=90)then c+32 else c
def FL(a b:Lu):Bool:=a.length==b.length&&a.map UY==b.map UY
def CR:Lu:=[13,10]
def Xq(s:Lu):Lu×Nat×Lu:=if(Go.Lib.cut s CR).2.2=true then((Go.Lib.cut s CR).1,0,(Go.Lib.cut s CR).2.1)else([],3,s)
def sq(s:Lu):Bool:=Go.Lib.hasPrefix s [47]&&List.all s (FE 33 126)
def Ns:Lu:=[72,84,84,80,47,49,46,49]
def kf:Lu:=[71,69,84]
def Jx:Lu:=[80,79,83,84]
def xM(p:List Lu):Bool:=(((((p.length:Nat):Int)!=3||p.getD 0 []==[])||!List.all (p.getD 0 []) (FE 65 90))||!sq (p.getD 1 []))||p.getD 2 []!=Ns
def Xu1(p:List Lu):Bool:=p.getD 0 []!=kf&&p.getD 0 []!=Jx
def PB(l:Lu):Lu×Lu×Nat :=
 if xM (BS 32 l)=true then([],[],17)else if Xu1 (BS 32 l)=true then([],[],16)else((BS 32 l).getD 0 [],(BS 32 l).getD 1 [],0)
theorem Xv7(l:Lu)(k:Nat):((BS 32 l).getD k []).length<=l.length:=by
 rw[Ya];cases h:(BS 32 l)[k]? with
 | none=>simp
 | some x=>exact Xg5 32 l x (Y6 h)
theorem qf{p:List Lu}(h:k<p.length):(p.map S)[k]?=some (S (p.getD k [])):=by
 rw[Ys,Ya,Y2 h];rfl
def CA(c:Ui)(s:Lu):Lu×Lu×Bool:=(Bb [c] s,(Xd [c] s).drop 1,!(Xd [c] s).isEmpty)
def yi(l:Lu):Lu:=Go.Lib.trimS (CA 58 l).2.1 [32,9]
def SH(l:Lu):Bool:=(!(CA 58 l).2.2||!L_ (CA 58 l).1)||!List.all (yi l) (FE 32 126)
def RF(l:Lu):Pq×Nat:=if SH l=true then(([],[]),18)else(((CA 58 l).1,yi l),0)
def NG(s:Lu):Int:=s.foldl (λn c=>IntKind.i64.wrap (IntKind.i64.wrap (10*n)+IntKind.u8.wrap ((c.toNat:Int)-48))) 0
def Si(s:Lu):Bool:=(s !=[]&&decide ((s.length:Int)<=4))&&List.all s (FE 48 57)
def Xv(name:Lu)(hs:List Pq):Lu×Nat:=hs.foldl (λa h=>if FL h.1 name=true then(if a.2=0 then h.2 else a.1,a.2+1)else a) ([],0)
def TE:Lu:=[116,114,97,110,115,102,101,114,45,101,110,99,111,100,105,110,103]
def CL:Lu:=[99,111,110,116,101,110,116,45,108,101,110,103,116,104]
def UB(hs:List Pq):Int×Nat :=
 if 0<(Xv TE hs).2 then(0,18)else if(Xv CL hs).2=0 then(0,0)
 else if(decide (1<((Xv CL hs).2:Int))||!Si (Xv CL hs).1)=true then(0,18)else(NG (Xv CL hs).1,0)
def jk(s:Lu):Bool:=(((Xq s).2.1:Nat):Int)==0&&(Xq s).1==[]
def Fc:Nat->List UInt8->List Pq->List Pq×Nat×List UInt8
 | 0,s,out=>(out,3,s)
 | k+1,s,out =>
  if jk s=true then(out,0,(Xq s).2.2)
  else if(Xq s).2.1≠0 then(out,(Xq s).2.1,(Xq s).2.2)
  else if 32<=out.length then(out,5,(Xq s).2.2)
  else if(RF (Xq s).1).2≠0 then(out,(RF (Xq s).1).2,(Xq s).2.2)
  else Fc k (Xq s).2.2 (out++[(RF (Xq s).1).1])
theorem Xvz(s:Lu)(c:Ui):(Go.Lib.trimB s c).length<=s.length:=by
 have h:∀(p:Ui->Bool) (l:Lu),(l.dropWhile p).length<=l.length:=λp l=>(Y5z p).length_le
 unfold Go.Lib.trimB Go.Lib.trimLeftB Go.Lib.trimRightB;refine Yx (h _ _) ?_;rw[Y4l];refine Yx (h _ _) ?_;rw[Y4l];exact Yd _
theorem Xw1(s p:Lu):(Go.Lib.trimS s p).length<=s.length:=by
 have h:∀(p:Ui->Bool) (l:Lu),(l.dropWhile p).length<=l.length:=λp l=>(Y5z p).length_le
 unfold Go.Lib.trimS Go.Lib.trimLeftS Go.Lib.trimRightS;refine Yx (h _ _) ?_;rw[Y4l];refine Yx (h _ _) ?_;rw[Y4l];exact Yd _
theorem tI(s p:Lu):(Go.Lib.cut s p).1.length<=s.length/\(Go.Lib.cut s p).2.1.length<=s.length:=by
 unfold Go.Lib.cut;split<;>simp<;>omega
theorem aM(c:Ui)(s:Lu):(CA c s).1.length<=s.length/\(CA c s).2.1.length<=s.length:=⟨Xgy [c] s,by
 show((Xd [c] s).drop 1).length<=_
 have:=Me [c] s
 rw[Ye];omega⟩
theorem Xfu(s:Lu):(Xq s).1.length<=s.length/\(Xq s).2.2.length<=s.length:=by
 have h:=tI s CR;unfold Xq;split
 ·exact h
 ·exact⟨Y4 _,Yd _⟩
theorem S6(s:Lu)(h:(Xq s).2.1=0):(Xq s).2.2.length<s.length:=by
 unfold Xq Go.Lib.cut at h ⊢
 by_cases hi:0<=Go.Lib.index s CR
 ·rw[Y7 hi]at h ⊢;have hr:=Go.Lib.index_room s CR hi;have h2:CR.length=2:=rfl;simp only[Y7,Ye]
  omega
 ·rw[Y3 hi]at h;simp at h
theorem ee(l:Lu):(RF l).1.1.length<=l.length/\(RF l).1.2.length<=l.length:=by
 have h:=aM 58 l;unfold RF;split
 ·exact⟨Y4 _,Y4 _⟩
 ·exact⟨h.1,Yx (Xw1 _ _) h.2⟩
theorem Xku{n:Nat}:∀(k:Nat) (s:Lu) (out:List Pq),s.length<=n->out.length<=32->(∀h∈out,h.1.length<=n/\h.2.length<=n)->
  (Fc k s out).1.length<=32/\(∀h∈(Fc k s out).1,h.1.length<=n/\h.2.length<=n)/\(Fc k s out).2.2.length<=n
 | 0,s,out,hs,ho,hh=>⟨ho,hh,hs⟩
 | k+1,s,out,hs,ho,hh=>by
  have h1:=Xfu s;have h2:=ee (Xq s).1;rw[Fc];split
  ·exact⟨ho,hh,by dsimp only;omega⟩
  ·split
   ·exact⟨ho,hh,by dsimp only;omega⟩
   ·split
    ·exact⟨ho,hh,by dsimp only;omega⟩
    ·split
     ·exact⟨ho,hh,by dsimp only;omega⟩
     ·refine Xku k _ _ om (by simp;omega) λh hm=>?_
      rcases Yn.1 hm with hm|hm
      ·exact hh h hm
      ·simp at hm;subst hm;omega
theorem Xim:∀(k j:Nat) (s:Lu) (out:List Pq),s.length<k->s.length<j->Fc k s out=Fc j s out
 | 0,j,s,out,h,_=>Yy h om
 | k+1,0,s,out,_,h=>Yy h om
 | k+1,j+1,s,out,h1,h2=>by
  rw[Fc,Fc];split
  ·rfl
  ·split
   ·rfl
   ·rename_i he
    split
    ·rfl
    ·split
     ·rfl
     ·have:=S6 s (su he)
      exact Xim k j _ _ om om
def JT(nm:Lu)(a:Lu×Nat)(h:Pq):Lu×Nat:=if FL h.1 nm=true then(if a.2=0 then h.2 else a.1,a.2+1)else a
theorem SF(nm:Lu){n:Nat}:∀(hs:List Pq) (a:Lu×Nat),(∀h∈hs,h.2.length<=n)->a.1.length<=n->(hs.foldl (JT nm) a).1.length<=n/\(hs.foldl (JT nm) a).2<=a.2+hs.length
 | [],a,_,ha=>⟨ha,Yd _⟩
 | h::hs,a,hh,ha=>by
  rw[Ky,List.length_cons];have h0:(JT nm a h).1.length<=n/\(JT nm a h).2<=a.2+1:=by
   unfold JT;split
   ·split
    ·exact⟨hh h sz,Yd _⟩
    ·exact⟨ha,Yd _⟩
   ·exact⟨ha,Y65 _⟩
  have h1:=SF nm hs (JT nm a h) (λx hx=>hh x (by simp[hx])) h0.1;exact⟨h1.1,om⟩
theorem SE(nm:Lu):∀(hs:List Pq) (a:Lu×Nat),(hs.foldl (JT nm) a).2<=a.2+hs.length
 | [],a=>Yd _
 | h::hs,a=>by
  rw[Ky,List.length_cons];have h1:=SE nm hs (JT nm a h);have h0:(JT nm a h).2<=a.2+1:=by unfold JT;split<;>simp
  omega
theorem AaU(nm:Lu)(hs:List Pq):(Xv nm hs).2<=hs.length:=Yx (SE nm hs ([],0)) sz
theorem Qo(nm:Lu)(hs:List Pq)(h:∀h∈hs,h.2.length<=n):(Xv nm hs).1.length<=n/\(Xv nm hs).2<=hs.length:=by
 have:=SF nm hs ([],0) h (Y4 _)
 exact⟨this.1,Yx this.2 sz⟩
structure HC where
 Au:Lu
 target:Lu
 Ac:List Pq
 body:Lu
def HC.none:HC:=⟨[],[],[],[]⟩
def sN(n:Nat)(want:Int):Nat:=if(n:Int)<want then 3 else if want<(n:Int)then 9 else 0
def X0(s:Lu):HC×Nat :=
 if 4096<s.length then(.none,2)else if(Xq s).2.1≠0 then(.none,(Xq s).2.1)
 else if(PB (Xq s).1).2.2≠0 then(.none,(PB (Xq s).1).2.2)
 else if(Fc ((Xq s).2.2.length+1) (Xq s).2.2 []).2.1≠0 then(.none,(Fc ((Xq s).2.2.length+1) (Xq s).2.2 []).2.1)
 else if(UB (Fc ((Xq s).2.2.length+1) (Xq s).2.2 []).1).2≠0 then(.none,(UB (Fc ((Xq s).2.2.length+1) (Xq s).2.2 []).1).2)
 else if sN (Fc ((Xq s).2.2.length+1) (Xq s).2.2 []).2.2.length (UB (Fc ((Xq s).2.2.length+1) (Xq s).2.2 []).1).1≠0 then(.none,sN (Fc ((Xq s).2.2.length+1) (Xq s).2.2 []).2.2.length (UB (Fc ((Xq s).2.2.length+1) (Xq s).2.2 []).1).1)
 else(⟨(PB (Xq s).1).1,(PB (Xq s).1).2.1,(Fc ((Xq s).2.2.length+1) (Xq s).2.2 []).1,(Fc ((Xq s).2.2.length+1) (Xq s).2.2 []).2.2⟩,0)
def Iw(name:Lu)(l:List Pq):Lu×Nat:=l.foldl (λa h=>if h.1=name then(if a.2=0 then h.2 else a.1,a.2+1)else a) ([],0)
def NI(name:Lu)(a:Lu×Nat)(h:Pq):Lu×Nat:=if h.1=name then(if a.2=0 then h.2 else a.1,a.2+1)else a
theorem Ss(nm:Lu):∀(hs:List Pq) (a:Lu×Nat),(hs.foldl (NI nm) a).2<=a.2+hs.length
 | [],a=>Yd _
 | h::hs,a=>by
  rw[Ky,List.length_cons];have h1:=Ss nm hs (NI nm a h);have h0:(NI nm a h).2<=a.2+1:=by unfold NI;split<;>simp
  omega
theorem Aaq(nm:Lu)(hs:List Pq):(Iw nm hs).2<=hs.length:=Yx (Ss nm hs ([],0)) sz
theorem Su(nm:Lu){n:Nat}:∀(hs:List Pq) (a:Lu×Nat),(∀h∈hs,h.2.length<=n)->a.1.length<=n->(hs.foldl (NI nm) a).1.length<=n
 | [],a,_,ha=>ha
 | h::hs,a,hh,ha=>by
  rw[Ky];have h0:(NI nm a h).1.length<=n:=by
   unfold NI;split
   ·split
    ·exact hh h sz
    ·exact ha
   ·exact ha
  exact Su nm hs (NI nm a h) (λx hx=>hh x (by simp[hx])) h0
theorem tU(nm:Lu)(hs:List Pq)(h:∀h∈hs,h.2.length<=n):(Iw nm hs).1.length<=n:=Su nm hs ([],0) h (Y4 _)
def Nz(m t:Lu):Bool:=(((H3 (CA 63 t).2.1).2:Nat):Int)!=0||m !=Jx
def CN(m t body:Lu):List Pq×Nat :=
 if Nz m t=true then H3 (CA 63 t).2.1 else
 if(H3 body).2≠0 then([],(H3 body).2)else
 if 32<(H3 (CA 63 t).2.1).1.length+(H3 body).1.length then([],5)else((H3 (CA 63 t).2.1).1++(H3 body).1,0)
def Ox(t:Lu):Bool:=(!(CA 61 t).2.2||!L_ (CA 61 t).1)||!List.all (CA 61 t).2.1 RQ
def HY:List (List UInt8)->List Pq->List Pq×Nat
 | [],out=>(out,0)
 | p::r,out =>
  if Go.Lib.trimB p 32=[]then HY r out else if 20<=out.length then([],5)
  else if Ox (Go.Lib.trimB p 32)=true then([],10)else HY r (out++[((CA 61 (Go.Lib.trimB p 32)).1,(CA 61 (Go.Lib.trimB p 32)).2.1)])
theorem Xgo:∀(l:List Lu) (out:List Pq),out.length<=20->(HY l out).1.length<=20
 | [],out,h=>h
 | p::r,out,h=>by
  rw[HY];split
  ·exact Xgo r out h
  ·split
   ·exact Y4 _
   ·split
    ·exact Y4 _
    ·exact Xgo r _ (by simp;omega)
def pZ:Lu:=[99,111,111,107,105,101]
def Bz:Lu:=[67,65,83,84,71,67]
def Ei(hs:List Pq):Lu×Nat:=((Iw Bz (HY (BS 59 (Xv pZ hs).1) []).1).1,(HY (BS 59 (Xv pZ hs).1) []).2)
theorem Xbz:∀(l:List Lu) (out:List Pq),out.length<=32->(Ji l out).1.length<=32
 | [],out,h=>h
 | x::r,out,h=>by
  rw[Ji];split
  ·exact Xbz r out h
  ·split
   ·exact Y4 _
   ·split
    ·exact Y4 _
    ·exact Xbz r _ (by simp;omega)
theorem Xkr(s:Lu):(H3 s).1.length<=32:=Xbz _ _ de
theorem bI(m t body:Lu):(CN m t body).1.length<=32:=by
 unfold CN;split
 ·exact Xkr _
 ·split
  ·exact Y4 _
  ·split
   ·exact Y4 _
   ·simp;omega
end Rq
namespace Gk
open Go
abbrev Xpx(s:Lu):Lv:=[S s]
theorem AbG(l:List Lu):X2 Xpx l=l.map S:=by
 unfold X2
 induction l with
 | nil=>rfl
 | cons x l ih=>rw[Yt,JG,ih];rfl
theorem AbI{cells:α->Lv}{s:Nat}(hc:∀x,(cells x).length=s){l:List α}(hR:RS I a s l.length (X2 cells l)){x:α}(hx:l[i]?=some x):∃q,a=some q/\At I (q.add (i*s)) (cells x):=Go.Proofs.W9.AQ hc hR hx
end Gk
namespace Go.Proofs.W9
open Gk Ul Pc
open Tryz
theorem Xdt(s:Lu)(i:Nat)(h:i<s.length):AD (s.take (i+1))=AD (s.take i)++G1 (at_ s (i:Int)):=by
 rw[Yo,Rx h,me];show _++AD [_]=_
 rw[show AD [at_ s (i:Int)]=G1 (at_ s (i:Int))++[] from O,Yr]
theorem cN(s:Lu)(i:Nat)(h:i<=s.length):(AD (s.take i)).length<=3*i:=by
 have:=YU (s.take i)
 rw[Yl]at this;omega
theorem Tl{c:Ui}(h:plain c=true):G1 c=[c]:=by rw[G1,Y7 h]
theorem Tj{c:Ui}(h:plain c=false):G1 c=RL c:=by rw[G1,Y3 (nB h)]
theorem X87(s:Lu)(hl:s.length<=1000000)(hd:BJ I)(As:La)(hS:Aa B w I As):Ce B I As 116 [S s] w (S (AD s)):=by
 refine gG 5 ?_;clear hS;intro b3 w hS;replace hS:=(hS.An 5 1).pick 1 O;try dsimp only[List.eraseIdx]at hS
 refine .lk [0,3,7] (σ:=Va×Va×Nat) (λ(p,v,i) _m=>(8,Ab (i:Nat))::_m) (λ(p,v,i) w=>i<=s.length/\(p=.pointer none\/p=ptr b3 0)/\((AD (s.take i))=[]->v=.slice none 0 0)/\Aa B w I (Ae b3 [p,v] 331::Ar 5 1 v ((AD (s.take i))).length (Ax ((AD (s.take i))))::As)) (λ(p,v,i)=>s.length-i) (.pointer none,.slice none 0 0,0) ⟨Y4 _,.inl O,λ_=>rfl,hS⟩ ?_;rintro⟨p,v,i⟩ w ⟨hi,hp,mZ,hS⟩;refine gN 1 ?_ ?_<;>intro DV
 ·have jI:=cN s i om;refine gC 7 (wZ (at_ s (i:Int)) _) ?_;rintro _ _ ⟨rfl,rfl⟩;refine gM 0 ?_ ?_<;>intro JM G8
  ·refine gC 1 (Xk7 b3 p v (AD (s.take i)) (at_ s (i:Int)) hp _ hS om) ?_;clear hS;rintro _ w ⟨rfl,v2,hS⟩;refine gG 2 (rd (ptr b3 0,v2,i+1) ⟨od,.inr O,λh=>Yy h ?_,?_⟩)
   ·try dsimp only
    rw[Xdt s i om,Tl JM];exact λe=>by have:=Y5 List.length e;simp[RL]at this
   ·try dsimp only
    rw[Xdt s i om,Tl JM];exact hS
  refine gE 1 (Xg6 (at_ s (i:Int)) hd) ?_;clear hS;intro w hS;refine gC 0 (Xr b3 p v (AD (s.take i)) (RL (at_ s (i:Int))) hp _ hS (by simp only[RL,List.length_cons,List.length_nil];omega)) ?_;clear hS;rintro _ w ⟨rfl,v2,hS⟩;refine gG 2 (rd (ptr b3 0,v2,i+1) ⟨od,.inr O,λh=>Yy h ?_,?_⟩)
  ·try dsimp only
   rw[Xdt s i om,Tj JM];exact λe=>by have:=Y5 List.length e;simp[RL]at this
  ·try dsimp only
   rw[Xdt s i om,Tj JM];exact hS
 refine gE 0 (wR b3 p v (AD (s.take i)) mZ) ?_;clear hS;intro w hS;refine gG 1 (⟨?_,hS⟩);rw[show i=s.length by omega,Jm]
theorem Xec(c:Ui)(b plus:Bool)(bp:Nat)(As:La)(hS:Aa B w I (Ae bp [.bool plus] 4::As)):Ce B I (Ae bp [.bool plus] 4::As) 348 [U8 c.toNat,.bool b,ptr bp 0] w (S [if b=true then c else dB plus c]):=by
 refine gM 10 ?_ ?_<;>intro dG Dh
 ·refine gG 1 (⟨?_,hS⟩);have hb:=dG;cases b
  ·simp only[Yb,beq_iff_eq,Y4x,Y5p]at hb
   have e:c=43:=JH.1 (by have:=hb.2;show c.toNat=43;omega);rw[Y3 de,dB,hb.1,e];rfl
  ·simp at hb
 refine gH 2 ?_;clear hS;intro jA w hS;refine .val (.oV (c:=c) (.of O) hS (k:=0) O O Db CY BV) O (gG 1 (⟨?_,hS.s⟩));have hb:=dG;cases b
 ·rw[Y3 de,dB,Y3];intro h;simp only[Yb,beq_iff_eq]at h
  rw[h.1,h.2]at hb
  revert hb;decide
 ·rw[Y7 O]
end Go.Proofs.W9
