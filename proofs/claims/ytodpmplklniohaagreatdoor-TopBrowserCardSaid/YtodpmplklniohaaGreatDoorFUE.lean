/- Part 5 of what the proof stands on. -/
import Derived.Test.YtodpmplklniohaaGreatDoorFUD
set_option linter.unusedVariables false
set_option linter.unusedSimpArgs false
set_option maxHeartbeats 2000000
set_option maxRecDepth 20000
set_option synthInstance.maxHeartbeats 400000
set_option synthInstance.maxSize 10000
open Go Gk
variable {p:Addr}{Ad:Array Bool}{af:Array Edge}{fs:Array Field}{ops GJ:Array Oper}{ts:Array TypeId}{held want:Bool}{R:Ending->Wo->Prop}{L L' M:AK}{fd:Field}{fn:Func}{f:FuncId}{I J:Im}{Fx FA kind FH:Int}{As BT Hs:La}{G:List (Bool×Bool)}{pl:List (Nat×Nat)}{T:List Int}{D ks:List Nat}{rest:List Oper}{V:List D7}{Ay Bi key nm pw Ap u:Lu}{args cs ds news vs xs zs:Lv}{b bytes c cap d d0 d1 db fuel i k kb lg m n n0 nn o size:Nat}{nd sp:Nat->Bool}{ps:Nat->Int}{a a0 ka:Oa}{op:Op}{P:Program}{S1 S2 g1 g2:Prop}{pos:String}{H X α β σ:Type}{E dst src t' ty:TypeId}{us v v0:Va}{B w:Wo}{C:Wo->Prop}{A:X1}{K K':BK}
namespace Go.Proofs.W9
open Gk Ul Pc Tk Tr Xm Rq Tryz
theorem Xyl(pt:Lu)(e:Int)(hp:pt.length<=5000)(hZ:Kz I)(As:La)(hS:Aa B w I As):Cz 194 [S pt,Ab e] w λv w'=>UU I (xS pt e) B As v w':=by
 refine gG 3 ?_;clear hS;intro b4 w hS;refine gN 0 ?_ ?_<;>intro y6
 ·refine gE 1 (Xt8 e) ?_;clear hS;intro w hS;refine gF 0 (Xp2 Xob N9 (Zb e)) ?_;clear hS;rintro _ w ⟨J1,i1,rfl,Bn,tZ,hS⟩;refine gF 0 (Xe5 (p_ Xob N9 (Zb e)) _ _ _ _ _ _ _ _ (hZ.mono Bn) (cS de de (oh (Xki e)) tZ) (by have:=Xki e;simp[EW,p_,Dn,Nd.name,Nd.attrs,Nd.text,Nd.kids,Zh,YZ,X72,sP,xN,Xob,xP,N9];omega)) ?_;clear hS;rintro _ w ⟨J9,ra,rc,rfl,Eb,Cc,AJ,hS⟩;refine gH 1 ?_;clear hS;intro w hS;refine gG 0 ?_;unfold xS;rw[Y7 (oh y6)];exact⟨J9,ra,rc,O,Bn.trans Eb,Cc,AJ,hS.s⟩
 refine gE 1 (kH r6 pt _ _ _) ?_;clear hS;intro w hS;refine gH 1 ?_;clear hS;intro qL w hS;replace hS:=hS;try dsimp only[List.eraseIdx]at hS
 obtain⟨F1,Gf,FT,hS⟩:=OH (size:=4) (n:=1) hS O;have hT9:Cb 6 F1 _ (Dn r6 pt []):=Zn (d:=5) (l:=[]) de om de sz (Yd _) (RS.nil _ _) (yk _ _);have LC:Cb 7 F1 _ (HI Xoc [Dn r6 pt []]):=Zn (d:=6) (l:=[]) de de de sz (Yd _) (RS.nil _ _) (kO [(_,Dn r6 pt [])] (H5 O) (Yd 1) FT (su hT9));refine gE 0 (pH Xoc _ _ _) ?_;clear hS;intro w hS;refine gF 0 (Xe5 (HI Xoc [Dn r6 pt []]) _ _ _ _ _ _ _ _ (hZ.mono Gf) LC (by simp[EW,HI,Dn,Nd.name,Nd.attrs,Nd.text,Nd.kids,Zh,YZ,X72,Xoc,r6];omega)) ?_;clear hS;rintro _ w ⟨J9,ra,rc,rfl,Eb,Cc,AJ,hS⟩;refine gH 1 ?_;clear hS;intro w hS;refine gG 0 ?_;unfold xS;rw[Y3 (oh y6)];exact⟨J9,ra,rc,O,Gf.trans Eb,Cc,AJ,hS.s⟩
theorem Xxu:prog.info? 58=some t58:=by kernel_rfl
theorem Ex.AbK{g:Option (Nat×Bool)}{t e:TypeId}{x z u:Operand}{d:Option Nat}{len s:Nat}{hi mx:Int}(hx:Ev n L x (.slice a0 len cap))(hz:Ev n L z (Ab hi))(hu:Ev n L u (Ab mx))(h0:0<=hi)(h2:hi<=mx)(h3:mx<=cap)(ht:P.underlying t=some (.slice e))(hs:∀w,(Go.sizeOf e).run P w=.ok s w):Ex P n L w ⟨d,.slice t x none (some z) (some u),ty,pos,af,g⟩ (sliced a0 0 hi.toNat mx.toNat s) w:=λa ha=>by
 have hT:P.underlying t=some (.slice (P.elem t)):=by rw[Uz ht];exact ht
 have h:=run_slice_hm (P:=P) w t a0 len cap hT .i64 .i64 hi mx h0 h2 h3;rw[Uz ht,hs]at h;simp[execOp,hx a ha,hz a ha,hu a ha,run_sliceAt_slice w t _ _ _ _ hT,h,Result.andThen]
theorem Xmo(n:Int)(h0:0<=n)(hn:n<=1099511627776)(hZ:Kz I)(As:La)(hS:Aa B w I As):Calls prog 86 #[Ab n] w (A4 λv w'=>v=S (Go.Lib.decDigits n.toNat)/\Aa B w' I As):=by
 obtain⟨k,rfl⟩:=Y5r h0;exact Xn3 k om hZ.kx As hS
theorem p8(n:Nat)(hn:n<=1099511627776):(Go.Lib.decDigits n).length<=20:=Yx (Nat.le_of_eq (Go.Lib.decDigits_length n)) (Go.Lib.nDigits_le20 _ om)
theorem Xeh(l:List Lu)(sep:Lu)(kv:Va)(k:Nat)(hl:0<l.length)(hn:l.length<=1000000)(hj:(Go.Lib.join l sep).length<=1000000)(As:La)(hS:Aa B w I As)(hk:As[k]?=some (Ar 9 1 kv l.length (l.map S))):Calls prog 117 #[kv,S sep] w (A4 λv w'=>v=S (Go.Lib.join l sep)/\Aa B w' I As):=by
 obtain⟨b,cap,r,rfl,h1,h2,h3,h4,Bo⟩:=hS.AP hk hl;have Cw:k<As.length:=(Y1.1 hk).1;have hb:w.heap[b]?=some (Xi (l.map S++r) 9):=Bo.block (k:=k) (by simp[Cw,Ae]);have e1:(l.map λx=>(⟨x.toArray⟩:ByteArray)).map (·.data.toList)=l:=by
  rw[s8];exact List.map_id' l
 have DQ:=strings_Join b 0 cap (l.map λx=>(⟨x.toArray⟩:ByteArray)) ⟨sep.toArray⟩ w (λj x hx=>by
  rw[Ys]at hx;obtain⟨y,hy,rfl⟩:=lr.1 hx;have h9:(l.map S++r)[0+j]?=some (S y):=by
   rw[Yj,Y9 (by rw[Yh];exact(Y1.1 hy).1),Ys,hy];rfl
  exact HU hb h9) (Ll.1 hb).1 (by rw[Yh];omega) (by rw[Yh];exact h1) (by rw[e1];show(Go.Lib.join l sep).length<=_;omega)
 rw[e1,Yh]at DQ;refine DQ.mono λe w' he=>?_
 obtain⟨rfl,GO⟩:=he;exact⟨_,O,O,hS.grown GO⟩
structure Ck where
 name:Lu
 value:Lu
 path:Lu
 JI:Int
 Ct:Bool
 IU:Bool
abbrev EO(c:Ck):Lv:=[S c.name,S c.value,S c.path,Ab c.JI,.bool c.Ct,.bool c.IU]
def iV(c:Ck):Bool:=((((L_ c.name&&List.all c.value RQ)&&Go.Lib.hasPrefix c.path [47])&&List.all c.path RQ)&&decide (-1<=c.JI))&&decide (c.JI<=99999999)
def Pj:Lu:=[77,97,120,45,65,103,101,61]
def xJ:Lu:=[83,101,99,117,114,101]
def xj:Lu:=[72,116,116,112,79,110,108,121]
def sw:Lu:=[80,97,116,104,61]
def Xou(c:Ck):List Lu:=[(c.name++[61])++c.value,sw++c.path]
def iZ(c:Ck):List Lu:=if 0<=c.JI then Xou c++[Pj++Go.Lib.decDigits c.JI.toNat]else Xou c
def i_(c:Ck):List Lu:=if c.Ct then iZ c++[xJ]else iZ c
def RB(c:Ck):List Lu:=if c.IU then i_ c++[xj]else i_ c
def L6(c:Ck):Lu×Nat:=if iV c then(Go.Lib.join (RB c) [59,32],0)else([],1)
theorem Xf2(c:Ck)(h1:c.name.length<=100000)(h2:c.value.length<=100000)(h3:c.path.length<=100000)(As:La)(hS:Aa B w I As):Ce B I As 130 [.agg (EO c).toArray] w (.bool (iV c)):=by
 refine gH 4 ?_;clear hS;intro b1 w hS;refine gE 0 (Xf3 c.name om) ?_;clear hS;intro w hS;refine gH 3 (.AG (T:=λw=>Aa B w I _) O O O func175 O (λAi=>(X5 (.gd Ai O) X4)) O (λAi=>Xh0 c.value om _ hS) hS ?_);clear hS;rintro w hS;refine gH 4 (.AG (T:=λw=>Aa B w I _) O O O MF O (λAi=>(X5 (.gd Ai O) (Be O X4))) O (λAi=>Xjv c.path [47] om de _ hS) hS ?_);clear hS;rintro w hS;refine gH 4 (.AG (T:=λw=>Aa B w I _) O O O func175 O (λAi=>(X5 (.gd Ai O) X4)) O (λAi=>Xh0 c.path om _ hS) hS ?_);clear hS;rintro w hS;exact gG 12 ⟨O,hS.s⟩
theorem Xga{c:Ck}(h:iV c=true):c.JI<=99999999:=by
 unfold iV at h;simp only[Yb,dq1]at h
 exact h.2
theorem Xao(c:Ck):(0<(RB c).length/\(RB c).length<=5)/\(iZ c).length<=5/\(i_ c).length<=5:=by
 unfold RB i_ iZ Xou
 repeat' split
 all_goals simp
theorem Xkx(sep:Lu)(n:Nat):∀l:List Lu,(∀x∈l,x.length<=n)->(Go.Lib.join l sep).length<=l.length*(n+sep.length)
 | [],_=>Y4 _
 | [x],h=>by have:=h x sz;simp[Go.Lib.join];omega
 | x::y::l,h=>by
  have h1:=h x sz;have h2:=Xkx sep n (y::l) (λz hz=>h z (by simp[hz]));have e:(Go.Lib.join (x::y::l) sep).length=x.length+(sep.length+(Go.Lib.join (y::l) sep).length):=by simp[Go.Lib.join]
  rw[e,List.length_cons,RV];omega
theorem Xyf(c:Ck)(h1:c.name.length<=10000)(h2:c.value.length<=10000)(h3:c.path.length<=10000)(hag:c.JI<=99999999):∀x∈RB c,x.length<=30000:=by
 have d_:=p8 c.JI.toNat om;have a1:∀x∈Xou c,x.length<=30000:=λx hx=>by
  unfold Xou at hx;simp only[Yi,Fw,or_false]at hx
  rcases hx with rfl|rfl<;>simp only[sw,Y0,List.length_cons,List.length_nil]<;>omega
 have a2:∀x∈iZ c,x.length<=30000:=λx hx=>by
  unfold iZ at hx;split at hx
  ·rcases Yn.1 hx with h|h
   ·exact a1 x h
   ·simp only[Yi,Fw,or_false]at h
    subst h;simp only[Pj,Y0,List.length_cons,List.length_nil];omega
  ·exact a1 x hx
 have a3:∀x∈i_ c,x.length<=30000:=λx hx=>by
  unfold i_ at hx;split at hx
  ·rcases Yn.1 hx with h|h
   ·exact a2 x h
   ·simp only[Yi,Fw,or_false]at h
    subst h;decide
  ·exact a2 x hx
 intro x hx;unfold RB at hx;split at hx
 ·rcases Yn.1 hx with h|h
  ·exact a3 x h
  ·simp only[Yi,Fw,or_false]at h
   subst h;decide
 ·exact a3 x hx
theorem Xip(c:Ck)(h1:c.name.length<=10000)(h2:c.value.length<=10000)(h3:c.path.length<=10000)(hag:c.JI<=99999999):(Go.Lib.join (RB c) [59,32]).length<=1000000:=by
 have h4:=Xkx [59,32] 30000 (RB c) (Xyf c h1 h2 h3 hag);have h5:=Xao c;have h6:(RB c).length*(30000+2)<=5*30002:=U4 _ h5.1.2;simp only[List.length_cons,List.length_nil]at h4
 omega
theorem Xnd(c:Ck)(h1:c.name.length<=10000)(h2:c.value.length<=10000)(h3:c.path.length<=10000)(hZ:Kz I)(As:La)(hS:Aa B w I As):Ce B I As 129 [.agg (EO c).toArray] w (.tuple #[S (L6 c).1,Ab ((L6 c).2:Nat)]):=by
 refine gH 4 ?_;clear hS;intro b1 w hS;refine gE 0 (Xf2 c om om om) ?_;clear hS;intro w hS;refine gM 1 ?_ ?_<;>intro KG hc7
 ·exact gG 2 ⟨by unfold L6;rw[Y3 (su KG)];first|done|rfl,hS.s⟩
 refine gG 0 ?_;have A5:iV c=true:=su KG
 have hag:=(Xga A5)
 have d_:=p8 c.JI.toNat om;refine gH 10 ?_;clear hS;intro b17 w hS;replace hS:=hS.Bw (k:=0) (E:=9) (size:=1) (n:=2) O O (by unfold maxLen;omega);try dsimp only[List.set]at hS
 refine gH 1 (.nil (.ck [1] (σ:=Va) (λkv _m=>(4,kv)::_m) (λkv w=>Aa B w I (Ar 9 1 kv (iZ c).length ((iZ c).map S)::Ae b1 (EO c) 148::As)) ?_ ?_))
 ·refine gN 3 ?_ ?_<;>intro FX
  ·refine gE 3 (Xmo c.JI om om hZ) ?_;clear hS;intro w hS;refine gG 4 ?_;clear hS;intro b26 a27 c27 AcC w hS;have e9:iZ c=_:=Y7 (by exact FX);refine Vw _ O ?_;rw[e9];rw[Ym,Y0];exact(hS.x [1,1])
  refine gG 0 ?_;have e9:iZ c=_:=Y3 om;refine Vw _ O ?_;rw[e9];exact(hS.x [1,1])
 rintro kv w hS;refine .ck [1] (σ:=Va) (λkv _m=>(4,kv)::_m) (λkv w=>Aa B w I (Ar 9 1 kv (i_ c).length ((i_ c).map S)::Ae b1 (EO c) 148::As)) ?_ ?_
 ·refine gM 2 ?_ ?_<;>intro LI AaJ
  ·have NZ:=Xao c;refine gG 4 ?_;clear hS;intro b31 a32 c32 Qm w hS;have e9:i_ c=_:=Y7 (by exact LI);refine Vw _ O ?_;rw[e9];rw[Ym,Y0];exact(hS.x [1,1])
  refine gG 0 ?_;have e9:i_ c=_:=Y3 (nB LI);refine Vw _ O ?_;rw[e9];exact(hS.x [1,1])
 rintro kv w hS;refine .ck [1] (σ:=Va) (λkv _m=>(4,kv)::_m) (λkv w=>Aa B w I (Ar 9 1 kv (RB c).length ((RB c).map S)::Ae b1 (EO c) 148::As)) ?_ ?_
 ·refine gM 2 ?_ ?_<;>intro DN Ft
  ·have NZ:=Xao c;refine gG 4 ?_;clear hS;intro b36 a37 c37 dW w hS;have e9:RB c=_:=Y7 (by exact DN);refine Vw _ O ?_;rw[e9];rw[Ym,Y0];exact(hS.x [1,1])
  refine gG 0 ?_;have e9:RB c=_:=Y3 (nB DN);refine Vw _ O ?_;rw[e9];exact(hS.x [1,1])
 rintro kv w hS;refine gG 0 ?_;have NZ:=Xao c;have ER:=Xip c om om om hag;refine gC 1 (Xeh (RB c) [59,32] kv 0 NZ.1.1 om om _ hS O) ?_;clear hS;rintro _ w ⟨rfl,hS⟩;exact gG 2 ⟨by unfold L6;rw[Y7 A5];first|done|rfl,hS.s⟩
theorem X_(a:Oa)(m s:Nat):sliced a 0 ((m:Nat):Int).toNat ((m:Nat):Int).toNat s=.slice a m m:=by
 unfold sliced;cases a<;>simp[Addr.add]
theorem zH{r:Cr}(h:FN r=true):YW r.status≠[]/\r.Ac.length<=32/\r.body.length<=8192:=by
 unfold FN xT at h;simp only[Yb,ly,Mw,dq2,beq_eq_false_iff_ne,ne_eq]at h
 exact⟨h.1.1.1,om,om⟩
theorem TQ{r:Cr}(h:r.status.toNat<=1000):(Ma r).length<=60:=by
 have h1:=Xg9 r.status;have h2:=p8 r.status.toNat om;unfold Ma H11 CR;simp only[Y0,List.length_cons,List.length_nil];omega
theorem Xc4{r:Cr}(hv:∀h∈r.Ac,h.1.length<=1000000/\h.2.length<=1000000)(hb:r.body.length<=8192):∀h∈DD r,h.1.length<=1000000/\h.2.length<=1000000:=λh hh=>by
 rcases Yn.1 hh with h1|h1
 ·exact hv h h1
 ·simp only[Yi,Fw,or_false]at h1
  subst h1
  have:=p8 r.body.length om
  exact⟨by show Pe.length<=_;decide,by show(Go.Lib.decDigits r.body.length).length<=_;omega⟩
theorem Xge(r:Cr):X2 X3 r.Ac++[S Pe,S (Go.Lib.decDigits r.body.length)]=X2 X3 (DD r):=by
 unfold DD;rw[pN];rfl
theorem w_(r:Cr):(DD r).length=r.Ac.length+1:=by unfold DD;simp
theorem Xja(r:Cr)(ra:Oa)(rc:Nat)(hZ:Kz I)(Cc:r.Ac.length<=rc)(hR:RS I ra 2 r.Ac.length (X2 X3 r.Ac))(hv:∀h∈r.Ac,h.1.length<=1000000/\h.2.length<=1000000)(As:La)(hS:Aa B w I As):Ce B I As 33 [.agg #[Ab r.status,.slice ra r.Ac.length rc,S r.body]] w (.tuple #[S (sD r).1,Ab ((sD r).2:Nat)]):=by
 refine gH 4 ?_;clear hS;intro b1 w hS;refine gE 0 (Xeq r ra rc hR hv) ?_;clear hS;intro w hS;refine gM 1 ?_ ?_<;>intro GO DV
 ·exact gG 2 ⟨by unfold sD;rw[Y3 (su GO)];first|done|rfl,hS.s⟩
 refine gG 0 ?_;have A5:FN r=true:=su GO
 obtain⟨vi,m_,hr3⟩:=zH A5;obtain⟨kst,AhS,hk5⟩:=XU vi;have HO:=Xg9 r.status;have d_:=p8 r.status.toNat om;have hdb:=p8 r.body.length om;have WJ:=TQ (r:=r) om;refine gD [0] [] [0,1,5,6,2,3,4,7,8,9,10] ?_;clear hS;intro w hS;refine gE 4 (Xmo r.status om om hZ) ?_;clear hS;intro w hS;refine gE 2 (Xbg r.status) ?_;clear hS;intro w hS;refine gG 3 (gD [0] [] [0,1,2,3,4,5,6,7,8,9,10,11,17,12,13,14,15,16] ?_);clear hS;intro w hS;refine gH 8 (Br.j 8 (λw=>Ex.as (Ex.AbK (.of O) (.of O) (.of O) om om om H2 DU) (X_ _ _ _)) (gE 4 (Xn3 r.body.length om hZ.kx) ?_));clear hS;intro w hS;refine gH 2 ?_;clear hS;intro b34 w hS;refine gH 0 (Br.e (.lJ (size:=2) (bytes:=32) hS (.of O) (.of O) hR H2 Xxu O O O O O O ⟨om,by unfold maxLen;omega⟩ O ?_));clear hS;intro v35 w hS;replace hS:Aa B w I (Ar 58 2 v35 (DD r).length (X2 X3 (DD r))::Ae b1 [Ab r.status,.slice ra r.Ac.length rc,S r.body] 48::As):=by rw[<-Xge,w_];exact hS
 obtain⟨a35,c35,rfl,II,_⟩:=hS.vS 0;refine gG 1 ?_;have BW:=hS.fV 0;clear hS;obtain⟨J2,AE,Mx,hS⟩:=BW;try dsimp only[List.eraseIdx]at hS
 refine .lk [1,35,36] (σ:=Nat) (λi _m=>(4,S (((DD r).take i).foldl qy (Ma r)))::(37,Ab (i:Nat))::_m) (λi w=>i<=(DD r).length/\Aa B w J2 (Ae b1 [Ab r.status,.slice ra r.Ac.length rc,S r.body] 48::As)) (λi=>(DD r).length-i) 0 ⟨Y4 _,hS⟩ ?_;rintro i w ⟨hi,hS⟩;refine gN 1 ?_ ?_<;>intro Wt
 ·refine gG 0 ?_;obtain⟨x,hx⟩:∃x,(DD r)[i]?=some x:=⟨_,Y2 om⟩
  have CW:=Xc4 hv hr3 x (Y6 hx);obtain⟨q,rfl,F7⟩:=AQ (cells:=X3) (s:=2) (λ_=>rfl) Mx hx;have NT:=Xe0 2000000 ((DD r).take i) (Ma r) (λh hh=>by have:=Xc4 hv hr3 h (sX hh);omega);have SL:=w_ r;rw[Yl]at NT;have Ac0:min i (DD r).length*(2000000+4)<=33*2000004:=U4 _ om;refine gG 14 ?_;clear hS;intro b6 w hS;refine gG 2 (⟨i+1,⟨?_,O,O,O,O,trivial⟩,⟨om,(hS.z [1] 1 1)⟩,om⟩);rw[Yo,hx,Yu,Lm];rfl
 refine gG 0 ?_;have NT:=Xe0 2000000 (DD r) (Ma r) (λh hh=>by have:=Xc4 hv hr3 h hh;omega);have SL:=w_ r;have Ac0:(DD r).length*(2000000+4)<=33*2000004:=U4 _ om;rw[Yg (show(DD r).length<=i by omega)];exact gG 7 ⟨by unfold sD;rw[Y7 A5];first|done|rfl,hS.s.weaken AE⟩
theorem Xj9(tu:Lu)(cs:List Lu)(ca:Oa)(cc:Nat)(IL:cs.length<=1000)(hR:RS I ca 1 cs.length (cs.map S))(As:La)(hS:Aa B w I As):Cz 182 [S tu,.slice ca cs.length cc] w λv w'=>UU I (Ry tu cs) B As v w':=by
 refine gH 4 ?_;clear hS;intro b4 De w hS;replace hS:=hS.Bw (k:=0) (E:=58) (size:=2) (n:=1) O O (by unfold maxLen;omega);try dsimp only[List.set]at hS
 refine gH 6 ?_;clear hS;intro b5 w hS;refine gG 0 ?_;have Bh:=(((hS.pick 2 O).pick 2 O).pick 2 O);clear hS;refine .lk [4,5,12,13] (σ:=Nat×Va) (λ(i,kv) _m=>(14,Ab (i:Nat))::_m) (λ(i,kv) w=>i<=cs.length/\Aa B w I (Ae b5 [Ab 302,kv,S []] 48::Ar 58 2 kv ((Ry tu (cs.take i)).Ac).length (X2 X3 ((Ry tu (cs.take i)).Ac))::Ae b4 [Ab 0,.slice none 0 0,S []] 48::As)) (λ(i,kv)=>cs.length-i) (0,_) ⟨Y4 _,Bh⟩ ?_;rintro⟨i,kv⟩ w ⟨hi,hS⟩;clear Bh;refine gN 1 ?_ ?_<;>intro G8
 ·refine gG 0 ?_;obtain⟨x,hx⟩:∃x,cs[i]?=some x:=⟨_,Y2 om⟩
  obtain⟨q,rfl,F7⟩:=AQ (cells:=tC) (s:=1) (λ_=>rfl) (by rw[jd];exact hR) hx;have NT:((Ry tu (cs.take i)).Ac).length=i+1:=by unfold Ry;simp;omega
  refine gH 13 ?_;clear hS;intro lN a23 c23 dT w hS;refine gG 0 (rd (i+1,.slice a23 ((Ry tu (cs.take i)).Ac.length+1) c23) ⟨od,?_⟩);have e9:(Ry tu (cs.take (i+1))).Ac=(Ry tu (cs.take i)).Ac++[(Ci,x)]:=by unfold Ry;rw[Yo,hx];simp
  (try dsimp only)
  rw[e9,pN,Y0];exact(hS.x [2,2,2])
 refine gG 0 ?_;obtain⟨ra,rc,rfl,Cc,_⟩:=hS.vS 1;rw[Yg (show cs.length<=i by omega)]at hS Cc;refine gH 2 ?_;clear hS;intro w hS;refine gG 0 ?_;have BW:=(((hS.pick 1 O).drop (k:=1) O).drop (k:=1) O)
 clear hS;obtain⟨J,hJ,AJ,hS⟩:=BW.fV 0;try dsimp only[List.eraseIdx]at hS
 exact⟨J,ra,rc,O,hJ,Cc,AJ,hS⟩
structure Nb(x:Sx):Prop where
 user:x.user.length<=100
 BP:x.BP.length<=100
 attrs:x.attrs.length<=64/\∀a∈x.attrs,a.1.length<=100/\a.2.length<=100
 fJ:x.AB.length<=64/\∀p∈x.AB,p.length<=200
def bK(a:Pr):Nd:=Dn (N8++a.1) a.2 []
abbrev Aaf(a:Pr):Lv:=[S (N8++a.1),.slice none 0 0,S a.2,.slice none 0 0]
def fO(p:Lu):Nd:=Dn Xrp p []
abbrev AbC(p:Lu):Lv:=[S Xrp,.slice none 0 0,S p,.slice none 0 0]
def OB(x:Sx):List Nd:=[Dn xO x.user []]
def Zq(x:Sx)(attrs:Bool):List Nd:=if(attrs&&decide (0<((x.attrs.length:Nat):Int)))=true then OB x++[HI xC (x.attrs.map bK)]else OB x
def Zr(x:Sx)(attrs:Bool):List Nd:=if x.BP≠[]then Zq x attrs++[Dn k_ x.BP []]else Zq x attrs
def Zs(x:Sx)(attrs:Bool):List Nd:=if 0<((x.AB.length:Nat):Int)then Zr x attrs++[HI w8 (x.AB.map fO)]else Zr x attrs
def ll(x:Sx)(attrs:Bool):Nd:=.mk C2 [] [] (Zs x attrs)
theorem Xlr(x:Sx)(attrs:Bool):(Zq x attrs).length<=2/\(Zr x attrs).length<=3/\(Zs x attrs).length<=4:=by
 have h1:(OB x).length=1:=rfl;have h2:(Zq x attrs).length<=2:=by unfold Zq;split<;>(try simp only[Y0,List.length_cons,List.length_nil])<;>omega
 have h3:(Zr x attrs).length<=3:=by unfold Zr;split<;>(try simp only[Y0,List.length_cons,List.length_nil])<;>omega
 refine⟨h2,h3,?_⟩;unfold Zs;split<;>(try simp only[Y0,List.length_cons,List.length_nil])<;>omega
theorem Xvx{tx:Lu}(d:Nat)(h1:nm.length<=10000)(h2:tx.length<=10000):Cb (d+1) I [S nm,.slice none 0 0,S tx,.slice none 0 0] (Dn nm tx []) :=
 Zn (d:=d) (l:=[]) h1 h2 (Y4 _) sz (Yd _) (RS.nil _ _) (yk _ _)
theorem Xk9{ck:Nat}{ks:List Nd}(h1:nm.length<=10000)(h:DC d I ka ck ks):Cb (d+1) I [S nm,.slice none 0 0,S [],.slice ka ks.length ck] (HI nm ks) :=
 Zn (d:=d) (l:=[]) h1 (Y4 _) (Y4 _) sz (Yd _) (RS.nil _ _) h
theorem Xuk{ck:Nat}{l:List α}(cs:α->Lv)(nd:α->Nd)(hl:l.length<=10000)(hc:l.length<=ck)(h4:∀x,(cs x).length=4)(hR:RS I ka 4 l.length (X2 cs l))(hN:∀x∈l,Cb d I (cs x) (nd x)):DC d I ka ck (l.map nd):=by
 have:=kO (d:=d) (I:=I) (ka:=ka) (ck:=ck) (l.map λx=>(cs x,nd x)) (by rw[Yh];exact hl) (by rw[Yh];exact hc) (by rw[Yh,s8];exact hR) (λp hp=>by
  obtain⟨x,hx,rfl⟩:=Fg.1 hp;exact hN x hx)
 rwa[s8]at this
theorem XS(x:Sx)(hF:Nb x)(attrs:Bool)(xs:Lv)(hX:Io I x xs)(As:La)(hS:Aa B w I As):Cz 374 [.agg xs.toArray,.bool attrs] w λv w'=>∃J ka kc n,v=.agg #[S C2,.slice none 0 0,S [],.slice ka n kc]/\Le I J/\Cb 7 J [S C2,.slice none 0 0,S [],.slice ka n kc] (ll x attrs)/\Aa B w' J As:=by
 obtain⟨xa,xc,pa,pc,rfl,hac,KF,NY,EP⟩:=hX;have Gf:=hF.attrs.1;have KE:=hF.fJ.1;refine gG 0 (.Ls (cs:=[S x.user,.slice xa x.attrs.length xc,.slice pa x.AB.length pc,S x.BP]) hS (.of O) O ?_);clear hS;intro b2 w hS;refine gH 1 ?_;clear hS;intro b4 w hS;refine gG 0 (gH 1 (gE 1 (kH xO x.user _ _ _) ?_));clear hS;intro w hS;refine gH 1 ?_;clear hS;intro Lo w hS;obtain⟨l,hl⟩:∃l:List (Lv×Nd),l=[([S xO,.slice none 0 0,S x.user,.slice none 0 0],Dn xO x.user [])]:=⟨_,O⟩
 replace hS:=hS.Bw (k:=0) (E:=138) (size:=4) (n:=1) O O (by unfold maxLen;omega);try dsimp only[List.set]at hS
 have LC:∀p∈l,Cb 6 I p.1 p.2:=by
  intro p hp;rw[hl]at hp;simp only[Yi,Fw,or_false]at hp
  subst hp;exact Xvx 5 de (oh hF.user)
 have hM:l.map (·.2)=OB x:=by rw[hl];rfl
 have hl4:l.length=1:=by rw[hl];rfl
 replace hS:Aa B w I (Ar 138 4 (.slice (some (ad Lo 0)) 1 1) (l).length ((l).map (·.1)).flatten::Ae b4 [S [],.slice none 0 0,S [],.slice none 0 0] 138::Ae b2 [S x.user,.slice xa x.attrs.length xc,.slice pa x.AB.length pc,S x.BP] 310::As):=by rw[hl];exact hS
 refine gE 0 (pH C2 _ _ _) ?_;clear hS;intro w hS;refine gH 1 ?_;clear hS;intro b5 w hS;refine gH 1 ?_;clear hS;intro w hS;refine .nil (.ck [2,4,5] (σ:=Im×Va×List (Lv×Nd)) (λ(J,kv,l) _m=>_m) (λ(J,kv,l) w=>Le I J/\(∀p∈l,Cb 6 J p.1 p.2)/\l.map (·.2)=Zq x attrs/\l.length<=4/\Aa B w J (Ae b5 [S C2,.slice none 0 0,S [],kv] 138::Ar 138 4 kv (l).length ((l).map (·.1)).flatten::Ae b2 [S x.user,.slice xa x.attrs.length xc,.slice pa x.AB.length pc,S x.BP] 310::Ae b4 [S [],.slice none 0 0,S [],.slice none 0 0] 138::As)) ?_ ?_)
 ·refine gH 1 (gH 1 (gH 1 (gH 1 (gH 1 (gH 1 ?_)))));refine gM 1 ?_ ?_<;>intro EH Dy
  ·refine gG 1 (gH 1 (gH 1 (gH 1 ?_)));have Bh:=(((((hS.pick 2 O).pick 3 O).pick 3 O).pick 3 O)).An 138 4;clear hS;refine gG 1 (.lk [2,4,5,25,26] (σ:=Nat×Va) (λ(i,kn) _m=>(27,Ab (i:Nat))::(6,kn)::_m) (λ(i,kn) w=>i<=x.attrs.length/\Aa B w I (Ar 138 4 kn (x.attrs.take i).length (X2 Aaf (x.attrs.take i))::Ae b5 [S C2,.slice none 0 0,S [],(.slice (some (ad Lo 0)) 1 1)] 138::Ar 138 4 (.slice (some (ad Lo 0)) 1 1) (l).length ((l).map (·.1)).flatten::Ae b2 [S x.user,.slice xa x.attrs.length xc,.slice pa x.AB.length pc,S x.BP] 310::Ae b4 [S [],.slice none 0 0,S [],.slice none 0 0] 138::As)) (λ(i,kn)=>x.attrs.length-i) (0,.slice none 0 0) ⟨Y4 _,Bh⟩ ?_);rintro⟨i,kn⟩ w ⟨hi,hS⟩;clear Bh;refine gN 1 ?_ ?_<;>intro G9
   ·refine gG 0 ?_;obtain⟨a,ha⟩:∃a,x.attrs[i]?=some a:=⟨_,Y2 om⟩
    have Gg:=hF.attrs.2 a (Y6 ha);obtain⟨q,rfl,F7⟩:=AQ (cells:=X3) (s:=2) (λ_=>rfl) KF ha;refine gH 1 ?_;try rw[Y8]
    refine .val (.Cy (us:=[S a.1,S a.2]) (.of O) hS F7 H0 DU O (λ_ _ h=>h)) O (gH 1 ?_);clear hS;intro b8 w hS;refine gH 1 ?_;clear hS;intro w hS;refine gG 0 ?_;have hti:(x.attrs.take i).length=i:=by rw[Yl];omega
    refine gH 1 (gH 1 (gH 1 (gH 1 (gH 1 (gE 1 (kH (N8++a.1) a.2 _ _ _) ?_)))));clear hS;intro w hS;refine gH 1 ?_;clear hS;intro b38 w hS;refine gH 1 ?_;clear hS;intro a39 yQ Qn w hS;refine gG 1 (gH 1 (gG 1 (E_ (i+1,_) O ⟨od,?_⟩)))
    (try dsimp only)
    rw[Yo,ha,Yu,pN,Y0];exact(hS.z [5,5,5,5,5] 5 1)
   refine gG 0 ?_;rw[Yg (show x.attrs.length<=i by omega)]at hS;obtain⟨na,nc,rfl,Dc,_⟩:=hS.vS 0;have BW:=hS.fV 0;clear hS;obtain⟨J2,AE,hRn,hS⟩:=BW;try dsimp only[List.eraseIdx]at hS
   have ue:Cb 6 J2 _ (HI xC (x.attrs.map bK)):=Xk9 de (Xuk Aaf bK om Dc (λ_=>rfl) hRn (λa ha=>Xvx 4 (by have:=(hF.attrs.2 a ha).1;simp only[N8,Y0,List.length_cons,List.length_nil];omega) (oh ((hF.attrs.2 a ha).2))));rw[Yh]at ue;refine gD [0] [7] [0,1,2,3,4,5,6,7] ?_;clear hS;intro w hS;refine gH 1 (gH 1 (gE 1 (pH xC _ _ _) ?_));clear hS;intro w hS;refine gH 1 ?_;clear hS;intro b45 w hS;refine gH 1 ?_;clear hS;intro a46 c46 AcI w hS;refine gH 1 (gH 1 ?_);clear hS;intro w hS;refine gG 0 ?_;have e9:Zq x attrs=OB x++[HI xC (x.attrs.map bK)]:=Y7 (by exact EH);refine cd (J2,.slice a46 (l.length+1) c46,l++[([S xC,.slice none 0 0,S [],.slice na x.attrs.length nc],HI xC (x.attrs.map bK))]) ⟨AE,?_,?_,?_,?_⟩
   ·intro p hp;rcases Yn.1 hp with hp|hp
    ·exact(LC p hp).mono AE
    ·simp only[Yi,Fw,or_false]at hp
     subst hp;exact ue
   ·rw[Ym,hM,e9];rfl
   ·have:=Y5 List.length hM
    rw[Yh]at this
    have:=Xlr x attrs
    simp only[Y0,List.length_cons,List.length_nil];omega
   ·(try dsimp only)
    rw[Y0,Ym,ju];exact(hS.x [3,3,3,3])
  refine gG 0 ?_;have e9:Zq x attrs=OB x:=Y3 (nB EH);exact Vw (I,_,l) O ⟨Le.refl _,LC,by rw[e9];exact hM,om,(hS.x [2,3,3,3])⟩
 rintro⟨J,kv,l⟩ w ⟨hJ,LC,hM,hl4,hS⟩;refine .ck [2,4,5] (σ:=Im×Va×List (Lv×Nd)) (λ(J,kv,l) _m=>_m) (λ(J,kv,l) w=>Le I J/\(∀p∈l,Cb 6 J p.1 p.2)/\l.map (·.2)=Zr x attrs/\l.length<=4/\Aa B w J (Ae b5 [S C2,.slice none 0 0,S [],kv] 138::Ar 138 4 kv (l).length ((l).map (·.1)).flatten::Ae b2 [S x.user,.slice xa x.attrs.length xc,.slice pa x.AB.length pc,S x.BP] 310::Ae b4 [S [],.slice none 0 0,S [],.slice none 0 0] 138::As)) ?_ ?_
 ·refine gH 1 (gH 1 ?_);refine gM 1 ?_ ?_<;>intro CS mK
  ·refine gD [0,1] [8] [0,1,2,3,4,5,6,7,8] ?_;clear hS;intro w hS;refine gH 1 (gH 1 (gH 1 (gE 1 (kH k_ x.BP _ _ _) ?_)));clear hS;intro w hS;refine gH 1 ?_;clear hS;intro b56 w hS;refine gH 1 ?_;clear hS;intro a57 c57 AcM w hS;refine gH 1 (gH 1 ?_);clear hS;intro w hS;refine gG 0 ?_;have ue:Cb 6 J [S k_,.slice none 0 0,S x.BP,.slice none 0 0] (Dn k_ x.BP []):=Xvx 5 de (oh hF.BP);have e9:Zr x attrs=Zq x attrs++[Dn k_ x.BP []]:=Y7 (su CS);refine cd (J,.slice a57 (l.length+1) c57,l++[([S k_,.slice none 0 0,S x.BP,.slice none 0 0],Dn k_ x.BP [])]) ⟨hJ,?_,?_,?_,?_⟩
   ·intro p hp;rcases Yn.1 hp with hp|hp
    ·exact(LC p hp).mono (Le.refl _)
    ·simp only[Yi,Fw,or_false]at hp
     subst hp;exact ue
   ·rw[Ym,hM,e9];rfl
   ·have:=Y5 List.length hM
    rw[Yh]at this
    have:=Xlr x attrs
    simp only[Y0,List.length_cons,List.length_nil];omega
   ·(try dsimp only)
    rw[Y0,Ym,ju];exact(hS.x [3,3,3,3])
  refine gG 0 ?_;have e9:Zr x attrs=Zq x attrs:=Y3 (su CS);exact Vw (J,_,l) O ⟨hJ,LC,by rw[e9];exact hM,om,(hS.x [3,3,3,3])⟩
 rintro⟨J,kv,l⟩ w ⟨hJ,LC,hM,hl4,hS⟩;refine .ck [2,4,5] (σ:=Im×Va×List (Lv×Nd)) (λ(J,kv,l) _m=>_m) (λ(J,kv,l) w=>Le I J/\(∀p∈l,Cb 6 J p.1 p.2)/\l.map (·.2)=Zs x attrs/\l.length<=4/\Aa B w J (Ae b5 [S C2,.slice none 0 0,S [],kv] 138::Ar 138 4 kv (l).length ((l).map (·.1)).flatten::Ae b2 [S x.user,.slice xa x.attrs.length xc,.slice pa x.AB.length pc,S x.BP] 310::Ae b4 [S [],.slice none 0 0,S [],.slice none 0 0] 138::As)) ?_ ?_
 ·refine gH 1 (gH 1 (gH 1 ?_));refine gN 1 ?_ ?_<;>intro uu
  ·refine gG 1 (gH 1 (gH 1 (gH 1 ?_)));have Bh:=(((((hS.pick 3 O).pick 3 O).pick 3 O).pick 3 O)).An 138 4;clear hS;refine gG 1 (.lk [2,4,5,64,65] (σ:=Nat×Va) (λ(i,kn) _m=>(66,Ab (i:Nat))::(9,kn)::_m) (λ(i,kn) w=>i<=x.AB.length/\Aa B w J (Ar 138 4 kn (x.AB.take i).length (X2 AbC (x.AB.take i))::Ae b5 [S C2,.slice none 0 0,S [],kv] 138::Ar 138 4 kv (l).length ((l).map (·.1)).flatten::Ae b2 [S x.user,.slice xa x.attrs.length xc,.slice pa x.AB.length pc,S x.BP] 310::Ae b4 [S [],.slice none 0 0,S [],.slice none 0 0] 138::As)) (λ(i,kn)=>x.AB.length-i) (0,.slice none 0 0) ⟨Y4 _,Bh⟩ ?_);rintro⟨i,kn⟩ w ⟨hi,hS⟩;clear Bh;refine gN 1 ?_ ?_<;>intro uw
   ·refine gG 0 ?_;obtain⟨a,ha⟩:∃a,x.AB[i]?=some a:=⟨_,Y2 om⟩
    have Gg:=hF.fJ.2 a (Y6 ha);obtain⟨q,rfl,F7⟩:=AQ (cells:=tC) (s:=1) (λ_=>rfl) (by rw[jd];exact EP.mono hJ) ha;refine gH 1 ?_;try rw[Y8]
    refine .val (.Ca (.of O) hS F7 BF O) O ?_;have hti:(x.AB.take i).length=i:=by rw[Yl];omega
    refine gG 1 (gH 1 (gE 1 (kH Xrp a _ _ _) ?_));clear hS;intro w hS;refine gH 1 ?_;clear hS;intro b73 w hS;refine gH 1 ?_;clear hS;intro a74 c74 AcR w hS;refine gG 1 (gH 1 (gG 1 (E_ (i+1,_) O ⟨od,?_⟩)))
    (try dsimp only)
    rw[Yo,ha,Yu,pN,Y0];exact(hS.x [4,4,4,4,4])
   refine gG 0 ?_;rw[Yg (show x.AB.length<=i by omega)]at hS;obtain⟨na,nc,rfl,Dc,_⟩:=hS.vS 0;have BW:=hS.fV 0;clear hS;obtain⟨J2,AE,hRn,hS⟩:=BW;try dsimp only[List.eraseIdx]at hS
   have ue:Cb 6 J2 _ (HI w8 (x.AB.map fO)):=Xk9 de (Xuk AbC fO om Dc (λ_=>rfl) hRn (λa ha=>Xvx 4 de (oh (hF.fJ.2 a ha))));rw[Yh]at ue;refine gD [0] [7] [0,1,2,3,4,5,6,7] ?_;clear hS;intro w hS;refine gH 1 (gH 1 (gE 1 (pH w8 _ _ _) ?_));clear hS;intro w hS;refine gH 1 ?_;clear hS;intro b80 w hS;refine gH 1 ?_;clear hS;intro a81 c81 uG w hS;refine gH 1 (gH 1 ?_);clear hS;intro w hS;refine gG 0 ?_;have e9:Zs x attrs=Zr x attrs++[HI w8 (x.AB.map fO)]:=Y7 (oh uu);refine cd (J2,.slice a81 (l.length+1) c81,l++[([S w8,.slice none 0 0,S [],.slice na x.AB.length nc],HI w8 (x.AB.map fO))]) ⟨hJ.trans AE,?_,?_,?_,?_⟩
   ·intro p hp;rcases Yn.1 hp with hp|hp
    ·exact(LC p hp).mono AE
    ·simp only[Yi,Fw,or_false]at hp
     subst hp;exact ue
   ·rw[Ym,hM,e9];rfl
   ·have:=Y5 List.length hM
    rw[Yh]at this
    have:=Xlr x attrs
    simp only[Y0,List.length_cons,List.length_nil];omega
   ·(try dsimp only)
    rw[Y0,Ym,ju];exact(hS.x [3,3,3,3])
  refine gG 0 ?_;have e9:Zs x attrs=Zr x attrs:=Y3 (oh uu);exact Vw (J,_,l) O ⟨hJ,LC,by rw[e9];exact hM,om,(hS.x [3,3,3,3])⟩
 rintro⟨J,kv,l⟩ w ⟨hJ,LC,hM,hl4,hS⟩;obtain⟨ka,kc,rfl,CV,_⟩:=hS.vS 1;refine gH 1 (gH 1 ?_);clear hS;intro w hS;refine gG 0 ?_;obtain⟨J9,Eb,JL,hS⟩:=hS.fV 1;try dsimp only[List.eraseIdx]at hS
 have Sy:=kO (d:=6) l om CV JL (λp hp=>(LC p hp).mono Eb);rw[hM]at Sy;have Cw:l.length=(Zs x attrs).length:=by rw[<-hM,Yh]
 have hV9:=Xk9 (nm:=C2) de Sy;rw[<-Cw]at hV9;exact⟨J9,ka,kc,l.length,O,hJ.trans Eb,hV9,hS.s⟩
def kL(x:Sx)(e:Nat)(attrs:Bool):Cr:=if e≠0 then NC (p_ xN xP (Zb e))else NC (ll x attrs)
theorem QK{α:Type}(f:α->Nat)(n:Nat):∀l:List α,(∀x∈l,f x<=n)->(l.map f).sum<=l.length*n
 | [],_=>Y4 _
 | x::l,h=>by
  have h1:=h x sz;have h2:=QK f n l (λy hy=>h y (by simp[hy]));rw[Yt,PN,List.length_cons,RV];omega
theorem wu{x:Sx}(hF:Nb x)(attrs:Bool):EW 8 (.mk Zh [(YZ,X72)] [] [ll x attrs])<=1000000:=by
 have b1:=hF.user;have b2:=hF.BP;have t1:∀nm tx:Lu,nm.length<=200->tx.length<=200->∀d,EW (d+1) (Dn nm tx [])<=3000:=λnm tx h1 h2 d=>by
  simp only[EW,Dn,Nd.name,Nd.attrs,Nd.text,Nd.kids,Hm,s9];omega
 have a1:∀(nm:Lu) (ks:List Nd),nm.length<=200->ks.length<=64->(∀k∈ks,EW 5 k<=3000)->EW 6 (HI nm ks)<=200000:=λnm ks h1 h2 h3=>by
  have h4:=QK (EW 5) 3000 ks h3;have h5:ks.length*3000<=64*3000:=U4 _ h2;simp only[EW,HI,Nd.name,Nd.attrs,Nd.text,Nd.kids,Hm,s9,List.length_nil]at h4 ⊢;omega
 have k1:∀k∈OB x,EW 6 k<=200000:=λk hk=>by
  simp only[OB,Yi,Fw,or_false]at hk
  subst hk
  have:EW 6 (Dn xO x.user [])<=3000:=t1 xO x.user de om 5
  omega
 have k2:∀k∈Zq x attrs,EW 6 k<=200000:=λk hk=>by
  unfold Zq at hk;split at hk
  ·rcases Yn.1 hk with hk|hk
   ·exact k1 k hk
   ·simp only[Yi,Fw,or_false]at hk
    subst hk;refine a1 _ _ de (by rw[Yh];exact hF.attrs.1) (λk hk=>?_);obtain⟨a,ha,rfl⟩:=Fg.1 hk
    have:=hF.attrs.2 a ha
    exact t1 _ _ (by simp only[N8,Y0,List.length_cons,List.length_nil];omega) om 4
  ·exact k1 k hk
 have k3:∀k∈Zr x attrs,EW 6 k<=200000:=λk hk=>by
  unfold Zr at hk;split at hk
  ·rcases Yn.1 hk with hk|hk
   ·exact k2 k hk
   ·simp only[Yi,Fw,or_false]at hk
    subst hk
    have:EW 6 (Dn k_ x.BP [])<=3000:=t1 k_ x.BP de om 5
    omega
  ·exact k2 k hk
 have k4:∀k∈Zs x attrs,EW 6 k<=200000:=λk hk=>by
  unfold Zs at hk;split at hk
  ·rcases Yn.1 hk with hk|hk
   ·exact k3 k hk
   ·simp only[Yi,Fw,or_false]at hk
    subst hk;refine a1 _ _ de (by rw[Yh];exact hF.fJ.1) (λk hk=>?_);obtain⟨a,ha,rfl⟩:=Fg.1 hk
    have:=hF.fJ.2 a ha
    exact t1 _ _ de om 4
  ·exact k3 k hk
 have h6:=QK (EW 6) 200000 (Zs x attrs) k4;have h7:=(Xlr x attrs).2.2;have h8:(Zs x attrs).length*200000<=4*200000:=U4 _ h7;have e1:EW 8 (.mk Zh [(YZ,X72)] [] [ll x attrs])=2*19+5+(9+6*26+4)+6*0+EW 7 (ll x attrs):=by
  simp[EW,Nd.name,Nd.attrs,Nd.text,Nd.kids,Zh,YZ,X72]
 have e2:EW 7 (ll x attrs)=2*C2.length+5+0+6*0+((Zs x attrs).map (EW 6)).sum:=by
  simp[EW,ll,Nd.name,Nd.attrs,Nd.text,Nd.kids]
 have e3:C2.length=25:=rfl;rw[e1,e2,e3];omega
theorem Io.len{x:Sx}(h:Io I x xs):xs.length=4:=by
 obtain⟨ka,kc,pa,pc,rfl,_⟩:=h;rfl
theorem Xg7(x:Sx)(e:Nat)(hF:e=0->Nb x)(attrs:Bool)(xs:Lv)(hZ:Kz I)(hX:Io I x xs)(As:La)(hS:Aa B w I As):Cz 282 [.agg xs.toArray,Ab (e:Nat),.bool attrs] w λv w'=>UU I (kL x e attrs) B As v w':=by
 refine gG 4 ?_;clear hS;intro b3 b6 w hS;refine gN 0 ?_ ?_<;>intro E5
 ·refine gE 1 (Xt8 e) ?_;clear hS;intro w hS;refine gF 0 (Xp2 xN xP (Zb e)) ?_;clear hS;rintro _ w ⟨J1,i1,rfl,Bn,tZ,hS⟩;refine gF 0 (Xe5 (p_ xN xP (Zb e)) _ _ _ _ _ _ _ _ (hZ.mono Bn) (cS de de (oh (Xki e)) tZ) (by have:=Xki e;simp[EW,p_,Dn,Nd.name,Nd.attrs,Nd.text,Nd.kids,Zh,YZ,X72,sP,xN,Xob,xP,N9];omega)) ?_;clear hS;rintro _ w ⟨J9,ra,rc,rfl,Eb,Cc,AJ,hS⟩;refine gH 1 ?_;clear hS;intro w hS;refine gG 0 ?_;have e9:kL x e attrs=NC (p_ xN xP (Zb e)):=Y7 (oh E5);rw[e9];exact⟨J9,ra,rc,O,Bn.trans Eb,Cc,AJ,hS.s⟩
 refine gG 0 ?_;refine .val (.GG (vs:=xs) (.of O) hS (k:=1) O isAgg310 sizeOf310 (Io.len hX) (λj v hj=>by rw[Yj];exact hj)) O ?_;refine gF 1 (XS x (hF (oh E5)) attrs xs hX) ?_;clear hS;rintro _ w ⟨J1,ka,kc,kn,rfl,Bn,Wj,hS⟩;refine gF 0 (Xe5 (ll x attrs) _ _ _ _ _ _ _ _ (hZ.mono Bn) Wj (wu (hF (oh E5)) attrs)) ?_;clear hS;rintro _ w ⟨J9,ra,rc,rfl,Eb,Cc,AJ,hS⟩;refine gH 1 ?_;clear hS;intro w hS;refine gG 0 ?_;have e9:kL x e attrs=NC (ll x attrs):=Y3 (oh E5);rw[e9];exact⟨J9,ra,rc,O,Bn.trans Eb,Cc,AJ,hS.s⟩
structure rP where
 url:Lu
 AX:Lu
 BP:Lu
deriving DecidableEq
abbrev lV(k:rP):Lv:=[S k.url,S k.AX,S k.BP]
def c0:rP:=⟨[],[],[]⟩
def fK(lo:List Sv)(Z:Wd)(t:Lu):Sv×Lu×Nat:=Xo lo (getD Z.l t).service
def yl(lo:List Sv)(Z:Wd)(t cb:Lu):Lu×Bool:=k7 lo (fK lo Z t).1.id cb
def XE(Z:Wd)(t:Lu):Bool:=((getD Z.l t).kind !=2&&(getD Z.l t).kind !=3)||(getD Z.l t).Bq==0
def noQ(lo:List Sv)(Z:Wd)(t cb:Lu):Bool:=((((fK lo Z t).2.2:Nat):Int)!=0||!(fK lo Z t).1.Dl)||!(yl lo Z t cb).2
def Ey(lo:List Sv)(Z:Wd)(t cb:Lu):Al:=⟨4,[],t,(getD Z.l t).user,(getD Z.l t).service,(yl lo Z t cb).1,0,0,0,false⟩
def UW(AX:Lu):Al:=⟨5,[],AX,[],[],[],0,0,0,false⟩
def Xh(lo:List Sv)(Z:Wd)(t cb:Lu):(rP×Nat)×Wd :=
 if XE Z t=true then((c0,30),Z)
 else if noQ lo Z t cb=true then((c0,34),Z)
 else if(AH Z (Ey lo Z t cb)).1.2≠0 then((c0,(AH Z (Ey lo Z t cb)).1.2),(AH Z (Ey lo Z t cb)).2)
 else if(AH (AH Z (Ey lo Z t cb)).2 (UW (AH Z (Ey lo Z t cb)).1.1)).1.2≠0 then((c0,(AH (AH Z (Ey lo Z t cb)).2 (UW (AH Z (Ey lo Z t cb)).1.1)).1.2),Np (AH (AH Z (Ey lo Z t cb)).2 (UW (AH Z (Ey lo Z t cb)).1.1)).2 (AH Z (Ey lo Z t cb)).1.1)
 else((⟨(yl lo Z t cb).1,(AH Z (Ey lo Z t cb)).1.1,(AH (AH Z (Ey lo Z t cb)).2 (UW (AH Z (Ey lo Z t cb)).1.1)).1.1⟩,0),(AH (AH Z (Ey lo Z t cb)).2 (UW (AH Z (Ey lo Z t cb)).1.1)).2)
theorem Xtl{lo:List Sv}{Z:Wd}(h:BL Z)(t cb:Lu):BL (Xh lo Z t cb).2:=by
 unfold Xh;split
 ·exact h
 ·split
  ·exact h
  ·split
   ·exact Kh h _
   ·split
    ·exact Xdr (Kh (Kh h _) _) _
    ·exact Kh (Kh h _) _
def Abi(r:Al):Bool:=r.kind==5
def AbB(l:List Al):List Lu:=(l.filter Abi).map Al.name
def Tp(l:List Al)(AX:Lu):Bool:=(kids l AX).any λk=>(getD l k).kind==5
def HF(lo:List Sv)(ps:Nat->Int)(Z:Wd)(AX target:Lu):Al:=⟨3,[],AX,(Xk ps Z AX 4).1.user,(Xo lo target).2.1,[],0,0,0,false⟩
def JC(lo:List Sv)(ps:Nat->Int)(Z:Wd)(AX target:Lu):((Lu×Lu)×Nat)×Wd :=
 if(AX==[]||target==[])=true then((([],[]),33),Z)
 else if(!(Xk ps Z AX 4).2||Tp Z.l AX)=true then((([],[]),30),Z)
 else if((((Xo lo target).2.2:Nat):Int)!=0)=true then((([],[]),36),Z)
 else if(AH Z (HF lo ps Z AX target)).1.2≠0 then((([],[]),(AH Z (HF lo ps Z AX target)).1.2),(AH Z (HF lo ps Z AX target)).2)
 else((((AH Z (HF lo ps Z AX target)).1.1,(Xo lo target).2.1),0),RM (AH Z (HF lo ps Z AX target)).2 (UH (Xk ps Z AX 4).1 (AH Z (HF lo ps Z AX target)).2.now))
theorem WU{lo:List Sv}{Z:Wd}(h:BL Z)(AX target:Lu):BL (JC lo ps Z AX target).2:=by
 unfold JC;split
 ·exact h
 ·split
  ·exact h
  ·split
   ·exact h
   ·split
    ·exact Kh h _
    ·exact Xli (Kh h _) _
theorem XC{Z:Wd}{r:Al}:(AH Z r).1.1.length<=23:=by
 unfold AH;have h:=Xfy (pr:=λs=>(get Z.l s).isSome) (kind:=r.kind) (D:=Z.D);split
 ·exact Y4 _
 ·(try dsimp only)
  split
  ·exact Y4 _
  ·exact h
theorem Xt0{l:List Al}(hw:Wf l)(name:Lu):(getD l name).service.length<=100:=by
 rcases Xad hw name with⟨_,e⟩|⟨_,h2,_⟩
 ·rw[e];decide
 ·unfold Xt at h2;simp only[Yb,dq1]at h2
  show(getD l name).service.length<=100
  omega
theorem jW(id:Int)(s:Lu)(hs:s.length<=1000000)(p:Wp)(hI:C0 I p)(As:La)(hS:Aa B w I As):Ce B I As 375 [.pointer (some p.pr),Ab id,S s] w (.tuple #[S (k7 p.lo id s).1,.bool (k7 p.lo id s).2]):=by
 obtain⟨a,c,E,h1,h2,h3⟩:=hI.reg;exact Xmx p.pr p.lo hI.lo hI.rel id s hs a c E hI.known h1 h3 As hS
theorem Xj7(bad:Int)(AX:Lu)(b7 b3 Lo:Nat)(u:FrameMode)(p:Wp)(Z:Wd)(hZ:BL Z)(As:La)(hS:Aa B w I (Ae b7 [Ab bad] 34::Ae b3 [ptr p.wb 0] 75::Ae Lo [S AX] 9::Bg p Z::As)):CallsD prog 376 #[ptr b7 0,ptr b3 0,ptr Lo 0] u w (λe u' w'=>u'=u/\A4 (λv w'=>Aa B w' I (Ae b7 [Ab bad] 34::Ae b3 [ptr p.wb 0] 75::Ae Lo [S AX] 9::Bg p (if bad=0 then Z else Np Z AX)::As)) e w'):=by
 refine tA func376 O ntmps376 O ?_;dsimp only[UK,Nat.reduceAdd]
 refine gM 2 ?_ ?_<;>intro Qe SD
 ·replace hS:=hS.px [3];obtain⟨a,c,ma,mc,hS⟩:=Kv hS;have hlen:=hZ.len;have GR:=hZ.wf;refine gD [6,6,0] [] [0,1,2,3,4,5] ?_;clear hS;intro w hS;refine gF 5 (Xdm p.tb Z.room a c Z.l (oh hlen) GR AX) ?_;clear hS;rintro _ w ⟨J,ga,gc,rfl,hJ,jK,AJ,a9,c9,hS⟩;replace hS:=hS.weaken hJ;refine gH 0 (mf results376 ?_);replace hS:=Aa.box (T:=C7 p (Np Z AX)) (a9,c9,ma,mc) (hS.px [4,4,3,3,4]);refine⟨_,O,?_⟩;rw[Y3 (su Qe)];exact(hS.x [3,3,3])
 refine .skip (mf results376 (⟨_,O,?_⟩));rw[Y7 (su Qe)];exact hS
theorem Xoz(AX:Lu)(p:Wp)(Z:Wd)(hZ:BL Z)(As:La)(hS:Aa B w I (Bg p Z::As)):Ce B I (Bg p Z::As) 285 [ptr p.wb 0,S AX] w (.bool (Tp Z.l AX)):=by
 refine gG 1 ?_;obtain⟨a,c,ma,mc,hS⟩:=Kv hS;have hlen:=hZ.len;have GR:=hZ.wf;refine gF 5 (Xtc p.tb Z.room a c Z.l om AX) ?_;clear hS;rintro _ w ⟨J,ka,kc,rfl,hJ,CV,AJ,hS⟩;have Cw:=Xrr Z.l AX;refine gG 2 ?_;replace hS:=(((((hS.pick 4 O).pick 4 O).pick 3 O).pick 3 O).pick 4 O)
 refine .lk [0,1,4,14,15] (σ:=Nat) (λi _m=>(16,Ab (i:Nat))::_m) (λi w=>i<=(kids Z.l AX).length/\((kids Z.l AX).take i).any (λk=>(getD Z.l k).kind==5)=false/\Aa B w J (Ae p.wb (DX p Z) 101::B7 p.tb Z.room a c Z.l (Ae p.mb [.slice ma Z.D.length mc] 193::EN 22 (.slice ma Z.D.length mc) (Z.D.map λd=>BH (d:Nat))::As))) (λi=>(kids Z.l AX).length-i) 0 ⟨Y4 _,O,hS⟩ ?_;rintro i w ⟨hi,AL,hS⟩;refine gN 1 ?_ ?_<;>intro Gx
 ·refine gG 0 ?_;obtain⟨k,eu⟩:∃k,(kids Z.l AX)[i]?=some k:=⟨_,Y2 om⟩
  obtain⟨pp,rfl,hA⟩:=AJ.2 om;have SM:((kids Z.l AX).map S)[i]?=some (S k):=by rw[Ys,eu];rfl
  refine gH 1 ?_;refine .val (.ld1 (.of O) (by have h9:=Pz hS hA SM;simpa using h9) BF) O ?_;refine gE 6 (Uy p.tb Z.room a c Z.l om k) ?_;clear hS;intro w hS;refine gG 9 ?_;clear hS;intro b7 w hS;refine gM 0 ?_ ?_<;>intro Aaz LN
  ·refine gG 1 ?_;have hE:Tp Z.l AX=true:=Y4i.2 ⟨k,Y6 eu,Aaz⟩;rw[hE];exact⟨O,Aa.box (T:=C7 p Z) (a,c,ma,mc) (Aa.weaken (hS.z [5,5,4,4,5] 5 1) hJ)⟩
  refine gG 2 (rd (i+1) ⟨od,?_,(hS.z [5,5,4,4,5] 5 1)⟩);rw[Yo,eu,Yu,List.any_append,AL,Y5s,List.any_nil,show((getD Z.l k).kind==5)=false from Aaz];rfl
 refine gG 1 ?_;have JV:i=(kids Z.l AX).length:=om
 rw[JV,Jm]at AL;rw[show Tp Z.l AX=false from AL];exact⟨O,Aa.box (T:=C7 p Z) (a,c,ma,mc) (hS.weaken hJ)⟩
theorem T3(AX target:Lu)(htg:AX.length<=1000000)(rh:target.length<=1000000)(p:Wp)(Z:Wd)(hZ:BL Z)(hI:C0 I p)(As:La)(hS:Aa B w I (Bg p Z::As)):Ce B I (Bg p (JC p.lo p.ps Z AX target).2::As) 193 [ptr p.wb 0,S AX,S target] w (.tuple #[S (JC p.lo p.ps Z AX target).1.1.1,S (JC p.lo p.ps Z AX target).1.1.2,Ab ((JC p.lo p.ps Z AX target).1.2:Nat)]):=by
 refine gM 9 ?_ ?_<;>intro BX FX
 ·refine gG 3 ?_;have hE:JC p.lo p.ps Z AX target=((([],[]),33),Z):=by rw[JC,Y7 BX]
  rw[hE];exact⟨O,hS⟩
 refine gE 2 (zM AX 4 p Z hZ) ?_;clear hS;intro w hS;refine gG 6 ?_;clear hS;intro b9 w hS;replace hS:=hS.px [1];refine gH 5 (.AG (T:=λw=>Aa B w I _) O O O func285 O (λAi=>(X5 (.gd Ai O) (X5 (.gd Ai O) X4))) O (λAi=>Xoz AX p Z hZ _ hS) hS ?_);clear hS;rintro w hS;refine gM 1 ?_ ?_<;>intro Da FY
 ·refine gG 3 ?_;have hE:JC p.lo p.ps Z AX target=((([],[]),30),Z):=by rw[JC,Y3 (nB BX),Y7 Da]
  rw[hE];exact⟨O,hS.s⟩
 refine gG 0 ?_;obtain⟨a,c,ma,mc,hS⟩:=Kv hS;refine gF 5 (aJ target rh p hI) ?_;clear hS;rintro _ w ⟨ra,rc,rfl,hS⟩;refine gG 8 ?_;clear hS;intro R5 w hS;replace hS:=Aa.box (T:=C7 p _) (a,c,ma,mc) (hS.px [5,5,5,5,5]);refine gM 2 ?_ ?_<;>intro Qf JS
 ·refine gG 3 ?_;have hE:JC p.lo p.ps Z AX target=((([],[]),36),Z):=by rw[JC,Y3 (nB BX),Y3 (nB Da),Y7 Qf]
  rw[hE];exact⟨O,hS.s⟩
 refine gE 6 (xk (HF p.lo p.ps Z AX target) htg p Z hZ hI) ?_;clear hS;intro w hS;refine gM 7 ?_ ?_<;>intro HJ dP
 ·refine gG 4 ?_;have hE:JC p.lo p.ps Z AX target=((([],[]),(AH Z (HF p.lo p.ps Z AX target)).1.2),(AH Z (HF p.lo p.ps Z AX target)).2):=by rw[JC,Y3 (nB BX),Y3 (nB Da),Y3 (nB Qf),Y7 (su HJ)]
  rw[hE];exact⟨O,hS.s⟩
 refine gG 0 ?_;obtain⟨⟨a2,c2,GU,GI⟩,hS⟩:=Aa.unbox hS;replace hS:Aa B _ _ (Ae p.wb (DX p (AH Z (HF p.lo p.ps Z AX target)).2) 101::B7 p.tb (AH Z (HF p.lo p.ps Z AX target)).2.room a2 c2 (AH Z (HF p.lo p.ps Z AX target)).2.l (Ae p.mb [.slice GU (AH Z (HF p.lo p.ps Z AX target)).2.D.length GI] 193::EN 22 (.slice GU (AH Z (HF p.lo p.ps Z AX target)).2.D.length GI) ((AH Z (HF p.lo p.ps Z AX target)).2.D.map λd=>BH (d:Nat))::_)):=hS;have G5:=Kh hZ (HF p.lo p.ps Z AX target);have KJ:=G5.len;have Hw:=X7h (ps:=p.ps) hZ AX 4;refine gD [6,0] [] [0,1,2,3,4,5,6,7,8,9,10] ?_;clear hS;intro w hS;refine gE 9 (Xes (Xk p.ps Z AX 4).1 (AH Z (HF p.lo p.ps Z AX target)).2.now Hw.2.2.1 Hw.2.2.2) ?_;clear hS;intro w hS;refine gE 0 (Xjy p.tb (AH Z (HF p.lo p.ps Z AX target)).2.room a2 c2 (AH Z (HF p.lo p.ps Z AX target)).2.l om (UH (Xk p.ps Z AX 4).1 (AH Z (HF p.lo p.ps Z AX target)).2.now) (Yx Hw.1 de) (Yx Hw.2.1 de) hI.known hI.pre) ?_;clear hS;intro w hS;refine gG 5 ?_;replace hS:=Aa.box (T:=C7 p (RM (AH Z (HF p.lo p.ps Z AX target)).2 (UH (Xk p.ps Z AX 4).1 (AH Z (HF p.lo p.ps Z AX target)).2.now))) (a2,c2,GU,GI) (hS.px [4,4,3,3,4]);have hE:JC p.lo p.ps Z AX target=((((AH Z (HF p.lo p.ps Z AX target)).1.1,(Xo p.lo target).2.1),0),RM (AH Z (HF p.lo p.ps Z AX target)).2 (UH (Xk p.ps Z AX 4).1 (AH Z (HF p.lo p.ps Z AX target)).2.now)):=by rw[JC,Y3 (nB BX),Y3 (nB Da),Y3 (nB Qf),Y3 (su HJ)]
 rw[hE];exact⟨O,(hS.y 1 2)⟩
theorem Xju(t cb:Lu)(ht:t.length<=1000000)(hcb:cb.length<=1000000)(p:Wp)(Z:Wd)(hZ:BL Z)(hI:C0 I p)(As:La)(hS:Aa B w I (Bg p Z::As)):Ce B I (Bg p (Xh p.lo Z t cb).2::As) 283 [ptr p.wb 0,S t,S cb] w (.tuple #[.agg (lV (Xh p.lo Z t cb).1.1).toArray,Ab ((Xh p.lo Z t cb).1.2:Nat)]):=by
 refine tB func283 O ntmps283 O ?_;dsimp only[UK,Nat.reduceAdd]
 refine gH 3 ?_;clear hS;intro b3 b6 b7 w hS;refine gG 0 ?_;replace hS:=hS.px [3];obtain⟨a,c,ma,mc,hS⟩:=Kv hS;have hlen:=hZ.len;have GR:=hZ.wf;have zg:=Xt0 hZ.wf t;refine gE 5 (Uy p.tb Z.room a c Z.l om t) ?_;clear hS;intro w hS;refine gH 14 ?_;clear hS;intro b8 w hS;refine gM 5 ?_ ?_<;>intro E3 Wt
 ·refine gH 3 ?_;clear hS;intro w hS;refine .nil (.ret ?_);replace hS:=Aa.box (T:=C7 p Z) (a,c,ma,mc) (hS.px [5,5,4,4,5]);have hE:Xh p.lo Z t cb=((c0,30),Z):=by rw[Xh,Y7 (show XE Z t=true from E3)]
  refine fY O (Xna x6 hS (k:=3) (j:=2) O O xZ ya Ue O O O) ?_;rw[hE];exact⟨_,O,O,(hS.y 1 4)⟩
 refine .skip (.ck [1,2,3,6,7,8] (σ:=Nat×Oa×Nat) (λ(De,ra,rc) _m=>(10,ptr De 0)::(12,Ab (((Xo p.lo (getD Z.l t).service).2.2:Nat):Int))::_m) (λ(De,ra,rc) w=>Aa B w I (Ae De (pY (Xo p.lo (getD Z.l t).service).1 ra rc) 71::Ae b8 (X8 (getD Z.l t)) 188::Ae b7 [Ab 0] 34::Ae b6 [S [],S [],S []] 406::Ae b3 [ptr p.wb 0] 75::Bg p Z::As)) ?_ ?_)
 ·refine gD [0,7,2] [] [0,1,2,3,4,5] ?_;clear hS;intro w hS;refine gH 6 (gB 6 11 [7,8,9,10,11,12,13,14] [6,7,8,9,10,12,13,14] ?_ ?_)
  ·refine gF 0 (aJ (getD Z.l t).service om p hI) ?_;clear hS;rintro _ w ⟨ra,rc,rfl,hS⟩;refine gH 5 ?_;clear hS;intro De w hS;refine gH 1 ?_;clear hS;intro w hS;refine gG 2 ?_;replace hS:=Aa.box (T:=C7 p Z) (a,c,ma,mc) (hS.px [6,6,5,5,6]);exact cd (De,ra,rc) (hS.x [5,5,5,5,5])
  ·refine gH 1 ?_;clear hS;intro De w hS;refine gF 0 (aJ (getD Z.l t).service om p hI) ?_;clear hS;rintro _ w ⟨ra,rc,rfl,hS⟩;refine gH 5 ?_;clear hS;intro w hS;refine gG 2 ?_;replace hS:=Aa.box (T:=C7 p Z) (a,c,ma,mc) (hS.px [6,6,5,5,6]);exact cd (De,ra,rc) (hS.x [5,5,5,5,5])
 rintro⟨De,ra,rc⟩ w hS;refine gG 0 ?_;replace hS:=hS.px [5];obtain⟨a,c,ma,mc,hS⟩:=Kv hS;refine gD [5,8,0] [] [0,1,2,3,4,5,6,7,8,9,10,11,12] ?_;clear hS;intro w hS;refine gE 7 (jW (Xo p.lo (getD Z.l t).service).1.id cb hcb p hI) ?_;clear hS;intro w hS;refine gH 14 ?_;refine gM 2 ?_ ?_<;>intro mI AhF
 ·refine gH 3 ?_;clear hS;intro w hS;refine .nil (.ret ?_);replace hS:=Aa.box (T:=C7 p Z) (a,c,ma,mc) (hS.px [4,4,4,4,4]);have hE:Xh p.lo Z t cb=((c0,34),Z):=by rw[Xh,Y3 (nB (show XE Z t=false from E3)),Y7 (show noQ p.lo Z t cb=true from mI)]
  refine fY O (Xna x6 hS (k:=4) (j:=3) O O xZ ya Ue O O O) ?_;rw[hE];exact⟨_,O,O,(hS.y 1 5)⟩
 refine gG 0 ?_;replace hS:=Aa.box (T:=C7 p _) (a,c,ma,mc) (hS.px [4,4,4,4,4]);refine gE 8 (xk (Ey p.lo Z t cb) ht p Z hZ hI) ?_;clear hS;intro w hS;refine gG 8 ?_;clear hS;intro Lo w hS;refine gM 0 ?_ ?_<;>intro uk dR
 ·refine gH 4 ?_;clear hS;intro w hS;refine .nil (.ret ?_);have hE:Xh p.lo Z t cb=((c0,(AH Z (Ey p.lo Z t cb)).1.2),(AH Z (Ey p.lo Z t cb)).2):=by rw[Xh,Y3 (nB (show XE Z t=false from E3)),Y3 (nB (show noQ p.lo Z t cb=false from mI)),Y7 (su uk)]
  refine fY O (Xna x6 hS (k:=5) (j:=4) O O xZ ya Ue O O O) ?_;rw[hE];exact⟨_,O,O,(hS.z [1] 1 6)⟩
 refine gH 1 (.later (.of O) O (gE 3 (xk (UW (AH Z (Ey p.lo Z t cb)).1.1) (Yx XC de) p (AH Z (Ey p.lo Z t cb)).2 (Kh hZ _) hI) ?_));clear hS;intro w hS;refine gM 7 ?_ ?_<;>intro um AhJ
 ·refine gH 4 ?_;clear hS;intro w hS;refine .nil (.ret ?_);have hE:Xh p.lo Z t cb=((c0,(AH (AH Z (Ey p.lo Z t cb)).2 (UW (AH Z (Ey p.lo Z t cb)).1.1)).1.2),Np (AH (AH Z (Ey p.lo Z t cb)).2 (UW (AH Z (Ey p.lo Z t cb)).1.1)).2 (AH Z (Ey p.lo Z t cb)).1.1):=by rw[Xh,Y3 (nB (show XE Z t=false from E3)),Y3 (nB (show noQ p.lo Z t cb=false from mI)),Y3 (su uk),Y7 (su um)]
  refine AbE func376 O O (λu=>Xj7 (((AH (AH Z (Ey p.lo Z t cb)).2 (UW (AH Z (Ey p.lo Z t cb)).1.1)).1.2:Nat):Int) (AH Z (Ey p.lo Z t cb)).1.1 b7 b3 Lo u p (AH (AH Z (Ey p.lo Z t cb)).2 (UW (AH Z (Ey p.lo Z t cb)).1.1)).2 (Kh (Kh hZ _) _) _ (hS.x [1,6,5])) ?_;clear hS;intro w hS;rw[Y3 (su um)]at hS;refine λa ha=>⟨_,Xna x6 hS (k:=6) (j:=0) O O xZ ya Ue O O O a ha,?_⟩
  rw[hE];exact⟨_,O,O,(hS.z [3] 1 6)⟩
 refine gH 6 ?_;clear hS;intro w hS;refine .nil (.ret ?_);have hE:Xh p.lo Z t cb=((⟨(yl p.lo Z t cb).1,(AH Z (Ey p.lo Z t cb)).1.1,(AH (AH Z (Ey p.lo Z t cb)).2 (UW (AH Z (Ey p.lo Z t cb)).1.1)).1.1⟩,0),(AH (AH Z (Ey p.lo Z t cb)).2 (UW (AH Z (Ey p.lo Z t cb)).1.1)).2):=by rw[Xh,Y3 (nB (show XE Z t=false from E3)),Y3 (nB (show noQ p.lo Z t cb=false from mI)),Y3 (su uk),Y3 (su um)]
 refine AbE func376 O O (λu=>Xj7 0 (AH Z (Ey p.lo Z t cb)).1.1 b7 b3 Lo u p (AH (AH Z (Ey p.lo Z t cb)).2 (UW (AH Z (Ey p.lo Z t cb)).1.1)).2 (Kh (Kh hZ _) _) _ (hS.x [1,6,5])) ?_;clear hS;intro w hS;rw[Y7 O]at hS;refine λa ha=>⟨_,Xna x6 hS (k:=6) (j:=0) O O xZ ya Ue O O O a ha,?_⟩
 rw[hE];exact⟨_,O,O,(hS.z [3] 1 6)⟩
open Go
structure Cg where
 lo:List Sv
 us:List Us
 ps:Nat->Int
 qc:Qc
structure CB where
 Z:Wd
 q:List Nt
 k:St
structure B4 where
 Z:Wd
 q:List Nt
 Aj:Cr
 call:Lu
 C6:Bool
def oL:Cr:=⟨0,[],[]⟩
def Gu(s:CB):B4:=⟨s.Z,s.q,oL,[],false⟩
def sA:Lu:=[114,101,110,101,119]
def xr:Lu:=[103,97,116,101,119,97,121]
def jj:Lu:=[119,97,114,110]
def Abk:Lu:=[116,114,117,101]
def Af:Lu:=[116,105,99,107,101,116]
def X6:Lu:=[112,103,116,85,114,108]
def WZ:Lu:=[112,103,116]
def xD:Lu:=[116,97,114,103,101,116,83,101,114,118,105,99,101]
def AN:Lu:=[104,111,109,101]
def GF:Lu:=[98,121,101]
def Qx:Lu:=[108,111,103,105,110,32,116,105,99,107,101,116,32,105,115,32,110,111,116,32,103,111,111,100]
def A3:Lu:=[110,97,109,101,32,111,114,32,112,97,115,115,119,111,114,100,32,105,115,32,119,114,111,110,103]
def X9(l:List Pq)(name:Lu):Lu:=(Iw name l).1
def rK(l:List Pq)(name:Lu):Bool:=X9 l name==Abk
def HE(s:B4):B4:={ s with C6:=true,Aj:=OJ 503 }
def Nu:Al:=⟨6,[],[],[],[],[],0,0,0,false⟩
def JD(s:B4)(n Kn:Lu):B4 :=
 if(AH s.Z Nu).1.2≠0 then HE { s with Z:=(AH s.Z Nu).2 } else{ s with Z:=(AH s.Z Nu).2,Aj:=CD (AH s.Z Nu).1.1 n Kn }
def yh(n st:Lu)(cs:List Lu):Cr:=Ry (L8 (OY (pU n).1 Af st)) cs
def GY(v:Lu)(JI:Int):Lu:=(L6 ⟨Bz,v,[47],JI,true,true⟩).1
def Hl(r:Cr)(c:Lu):Cr:={ r with Ac:=r.Ac++[(Ci,c)] }
def Vh(l:List Pq)(ck:Lu):Ak:=⟨X9 l X7,ck,decide (0<((Iw X7 l).2:Int)),rK l sA,rK l xr,rK l jj⟩
def F_(g:Cg)(l:List Pq)(ck:Lu)(s:B4):B4 :=
 let n:=(Xo g.lo (X9 l X7)).2.1
 let c:=Ip g.lo g.ps s.Z (Vh l ck)
 if c=6 then{ s with Aj:=OJ 403 } else
 if c=5 then{ s with Aj:=CE AN (getD s.Z.l ck).user } else
 if c=1 then JD s n []else
 if c=4 then{ s with Aj:=CE jj n } else
 if c=3 then{ s with Aj:=Ry n [] } else
 if c=2 then
  let r:=FM g.lo g.ps s.Z ck (X9 l X7) false
  if r.1.2≠0 then HE { s with Z:=r.2 } else{ s with Z:=r.2,Aj:=yh r.1.1.2 r.1.1.1 [] }
 else s
def Nh(g:Cg)(l:List Pq)(Ap sv:Lu)(s:B4):B4 :=
 if sv=[]then{ s with Aj:=Hl (CE AN (X9 l Am)) (GY Ap (-1)) } else
 let r:=FM g.lo g.ps s.Z Ap sv true
 if r.1.2≠0 then HE { s with Z:=r.2 } else{ s with Z:=r.2,Aj:=yh r.1.1.2 r.1.1.1 [GY Ap (-1)] }
def HV(g:Cg)(l:List Pq)(s:B4):B4 :=
 let f:=Xo g.lo (X9 l X7)
 if X9 l X7≠[]/\f.2.2≠0 then{ s with Aj:=OJ 403 } else
 let r:=Gq g.us g.ps s.Z (X9 l BI) (X9 l Am) (X9 l Aq)
 let t:={ s with Z:=r.2 }
 if r.1.2=39 then HE t else if r.1.2=38 then JD t f.2.1 Qx else if r.1.2=37 then JD t f.2.1 A3 else Nh g l r.1.1 (X9 l X7) t
def Mc(g:Cg)(ck:Lu)(s:B4):B4 :=
 let r:=Li s.q (O0 g.lo s.Z ck)
 let t:={ s with Z:=IC s.Z ck,q:=r.1 }
 if r.2≠0 then HE t else{ t with Aj:=Hl (CE GF []) (GY [] 0) }
def A7(l:List Pq)(AB:Bool):Qr:=⟨X9 l Af,X9 l X7,rK l sA,AB⟩
def Xv9(g:Cg)(l:List Pq)(s:B4):B4 :=
 { s with Z:=(Xl g.ps s.Z (A7 l false)).2,Aj:=xR (Nk g.lo g.us g.ps s.Z (A7 l false)).user (((OL g.ps s.Z (A7 l false):Nat):Int)==0) }
def FO(g:Cg)(l:List Pq)(AB attrs:Bool)(s:B4):B4 :=
 let q:=A7 l AB
 let e:=OL g.ps s.Z q
 let Z:=(Xl g.ps s.Z q).2
 if e≠0\/X9 l X6=[]then{ s with Z:=Z,Aj:=kL (Nk g.lo g.us g.ps s.Z q) e attrs } else
 let k:=Xh g.lo Z (X9 l Af) (X9 l X6)
 if k.1.2≠0 then{ s with Z:=k.2,Aj:=kL QM k.1.2 attrs,C6:=((k.1.2:Nat):Int)==39 } else
 { s with Z:=if attrs then RM k.2 { getD k.2.l k.1.1.BP with Bq:=1 } else k.2,call:=(yo k.1.1.url k.1.1.AX k.1.1.BP).1 }
def Xuh(g:Cg)(l:List Pq)(s:B4):B4 :=
 let r:=JC g.lo g.ps s.Z (X9 l WZ) (X9 l xD)
 { s with Z:=r.2,Aj:=xS r.1.1.1 r.1.2,C6:=((r.1.2:Nat):Int)==39 }
def D2:Lu:=[110,111,116,101,58]
def aW(a b:List Nt):List Ch:=(a.filter λn=>decide (jR b n.ticket<0)).map λn=>⟨D2++n.ticket,[],true⟩
def XD(a b:List Nt):List Ch:=(b.filter λn=>!a.contains n).map λn=>⟨D2++n.ticket,(Mq n).1,false⟩
def OI(a b:List Nt):List Ch:=UQ (aW a b++XD a b)
def G0(s:CB)(t:B4):Nat×CB :=
 if t.C6 then(0,{ s with Z:={ s.Z with D:=t.Z.D } })else
 let c:=Xu s.k (Jg s.Z.l t.Z.l++OI s.q t.q)
 if c.1=0 then(0,⟨t.Z,t.q,c.2⟩)else(c.1,⟨{ s.Z with D:=t.Z.D },s.q,c.2⟩)
def Nj(r:Cr):Lu:=(sD r).1
structure qj(lo:List Sv)(us:List Us):Prop where
 rel:∀s∈lo,s.rel.length<=8
 yO:∀u∈us,u.attrs.length<=8/\∀a∈u.attrs,a.1.length<=100/\a.2.length<=100
structure Lp where
 tp:Nat
 qb:Nat
 p:Wp
 ra:Oa
 rc:Nat
 args:List Pq
 ck:Lu
abbrev CX(x:Lp)(s:B4)(ha:Oa)(hc:Nat):X1:=Ae x.tp [ptr x.p.wb 0,ptr x.qb 0,.slice x.ra x.args.length x.rc,S x.ck,Ab s.Aj.status,.slice ha s.Aj.Ac.length hc,S s.Aj.body,S s.call,.bool s.C6] 131
structure Du(I:Im)(x:Lp):Prop where
 wp:C0 I x.p
 kz:Kz I
 ra:RS I x.ra 2 x.args.length (X2 X3 x.args)
 al:x.args.length<=100
 each:∀a∈x.args,a.1.length<=5000/\a.2.length<=5000
 ck:x.ck.length<=5000
 fit:qj x.p.lo x.p.us
theorem Du.mono{x:Lp}(h:Du I x)(hl:Le I J):Du J x:=⟨h.wp.mono hl,h.kz.mono hl,h.ra.mono hl,h.al,h.each,h.ck,h.fit⟩
def Iu(J:Im)(ha:Oa)(hc:Nat)(r:Cr):Prop:=r.Ac.length<=hc/\RS J ha 2 r.Ac.length (X2 X3 r.Ac)
theorem Xub(name:Lu)(n:Nat):∀(l:List Pq) (a:Lu×Nat),(∀h∈l,h.2.length<=n)->a.1.length<=n->(l.foldl (λa h=>if h.1=name then(if a.2=0 then h.2 else a.1,a.2+1)else a) a).1.length<=n
 | [],a,_,ha=>ha
 | h::l,a,hl,ha=>by
  rw[Ky];refine Xub name n l _ (λy hy=>hl y (by simp[hy])) ?_;split
  ·dsimp only
   split
   ·exact hl h sz
   ·exact ha
  ·exact ha
theorem iT{l:List Pq}(h:∀a∈l,a.1.length<=5000/\a.2.length<=5000)(name:Lu):(X9 l name).length<=5000:=Xub name 5000 l ([],0) (λa ha=>(h a ha).2) (Y4 _)
theorem Xdu(lo:List Sv)(s:Lu):(Xo lo s).2.1.length<=100:=by
 unfold Xo;split
 ·exact Y4 _
 ·split
  ·exact Y4 _
  ·split
   ·exact Y4 _
   ·dsimp only;omega
theorem Ng(x:Lp)(s:B4)(ha:Oa)(hc:Nat)(name:Lu)(hX:Du I x)(As:La)(hS:Aa B w I (CX x s ha hc::As)):Ce B I (CX x s ha hc::As) 177 [ptr x.tp 0,S name] w (S (X9 x.args name)):=by
 refine gE 6 (Xeg x.ra x.rc x.args name hX.al hX.ra) ?_;clear hS;intro w hS;exact gG 7 ⟨O,hS⟩
theorem UD(x:Lp)(s:B4)(ha:Oa)(hc:Nat)(name:Lu)(hX:Du I x)(As:La)(hS:Aa B w I (CX x s ha hc::As)):Ce B I (CX x s ha hc::As) 178 [ptr x.tp 0,S name] w (.bool (rK x.args name)):=by
 refine gE 3 (Ng x s ha hc name hX) ?_;clear hS;intro w hS;exact gG 2 ⟨O,hS⟩
theorem xf(x:Lp)(s:B4)(ha:Oa)(hc:Nat)(hX:Du I x)(As:La)(hS:Aa B w I (CX x s ha hc::As)):Cz 44 [ptr x.tp 0] w λv w'=>v=.tuple #[]/\∃J ha hc,Le I J/\Iu J ha hc (HE s).Aj/\Aa B w' J (CX x (HE s) ha hc::As):=by
 refine gF 2 (X6x 503) ?_;clear hS;rintro _ w ⟨J,ra,rc,rfl,hJ,Cc,AJ,hS⟩;refine gG 6 ?_;clear hS;intro w hS;exact⟨O,J,ra,rc,hJ,⟨Cc,AJ⟩,hS⟩
theorem Xgn(x:Lp)(s:B4)(ha:Oa)(hc:Nat)(hX:Du I x)(As:La)(hS:Aa B w I (CX x s ha hc::Bg x.p s.Z::As)):Ce B I (CX x s ha hc::Bg x.p s.Z::As) 176 [ptr x.tp 0] w (.tuple #[S (Xo x.p.lo (X9 x.args X7)).2.1,Ab (((Xo x.p.lo (X9 x.args X7)).2.2:Nat):Int)]):=by
 refine gG 2 ?_;replace hS:=hS.px [1];obtain⟨a,c,ma,mc,hS⟩:=Kv hS;refine gD [5,0] [] [0,1,2,3,4,5,6,7] ?_;clear hS;intro w hS;refine gH 8 (gB 8 14 [] [8,9,10,11,12,13,15,16,17] ?_ ?_)
 ·refine gE 0 (Ng x s ha hc X7 hX) ?_;clear hS;intro w hS;refine gH 0 (gB 9 14 [10,11,12,13,14,15,16,17] [9,10,11,12,13,15,16,17] ?_ ?_)
  ·refine gF 0 (aJ (X9 x.args X7) (oh (iT hX.each X7)) x.p hX.wp) ?_;clear hS;rintro _ w ⟨fa,fc,rfl,hS⟩;refine gH 5 ?_;clear hS;intro b4 w hS;refine gH 1 ?_;clear hS;intro w hS;refine gG 6 ?_;replace hS:=Aa.box (T:=C7 x.p s.Z) (a,c,ma,mc) (hS.px [6,6,6,6,6]);exact⟨O,(hS.z [2] 2 1)⟩
  ·refine gH 1 ?_;clear hS;intro b4 w hS;refine gF 0 (aJ (X9 x.args X7) (oh (iT hX.each X7)) x.p hX.wp) ?_;clear hS;rintro _ w ⟨fa,fc,rfl,hS⟩;refine gH 5 ?_;clear hS;intro w hS;refine gG 6 ?_;replace hS:=Aa.box (T:=C7 x.p s.Z) (a,c,ma,mc) (hS.px [6,6,6,6,6]);exact⟨O,(hS.z [2] 2 1)⟩
 ·refine gH 1 ?_;clear hS;intro b4 w hS;refine gE 0 (Ng x s ha hc X7 hX) ?_;clear hS;intro w hS;refine gF 0 (aJ (X9 x.args X7) (oh (iT hX.each X7)) x.p hX.wp) ?_;clear hS;rintro _ w ⟨fa,fc,rfl,hS⟩;refine gH 5 ?_;clear hS;intro w hS;refine gG 6 ?_;replace hS:=Aa.box (T:=C7 x.p s.Z) (a,c,ma,mc) (hS.px [6,6,6,6,6]);exact⟨O,(hS.z [1] 2 1)⟩
theorem Xvm(vl:Lu)(JI:Int)(hv:vl.length<=5000)(hZ:Kz I)(As:La)(hS:Aa B w I As):Ce B I As 189 [S vl,Ab JI] w (S (GY vl JI)):=by
 refine gE 4 (Xnd ⟨Bz,vl,[47],JI,true,true⟩ (show Bz.length<=10000 by decide) (show vl.length<=10000 by omega) (show([47]:Lu).length<=10000 by decide) hZ) ?_;clear hS;intro w hS;exact gG 7 ⟨O,hS⟩
theorem Xqd(a:Oa)(c:Nat)(l:List Pr)(hl:l.length<=100000)(hR:RS I a 2 l.length (X2 X3 l))(As:La)(hS:Aa B w I As):Cz 138 [.slice a l.length c] w λv w'=>∃kv,v=kv/\Aa B w' I (Ar 58 2 kv (l).length (X2 X3 (l))::As):=by
 refine gH 2 (.val (Ex.HA (.of O) (.of O) H2) O ?_);refine gM 0 ?_ ?_<;>intro Qe SD
 ·refine gG 1 ?_;cases a with
  | some p=>simp at Qe
  | none =>
  have h0:l=[]:=by
   cases l with
   | nil=>rfl
   | cons x l=>obtain⟨p,h,_⟩:=hR.2 sz;cases h
  subst h0;exact⟨_,O,hS.An 58 2⟩
 refine gH 2 ?_;clear hS;intro b5 w hS;replace hS:=hS.Bw (k:=0) (E:=58) (size:=2) (n:=0) O O (Y4 _);try dsimp only[List.set]at hS
 refine .CK (size:=2) (bytes:=32) hS (.of O) (.of O) hR (k:=0) O H2 (i:=t58) kr O O O O (fH l) ⟨om,by unfold maxLen;omega⟩ O ?_;clear hS;intro v7 w hS;rw[Yj,Ez]at hS;exact gG 1 ⟨_,O,hS⟩
theorem Xpo(r:Cr)(ra:Oa)(rc:Nat)(c:Lu)(hl:r.Ac.length<=1000)(hR:RS I ra 2 r.Ac.length (X2 X3 r.Ac))(As:La)(hS:Aa B w I As):Cz 188 [.agg #[Ab r.status,.slice ra r.Ac.length rc,S r.body],S c] w λv w'=>UU I (Hl r c) B As v w':=by
 refine gH 4 ?_;clear hS;intro b2 b4 w hS;refine gF 0 (Xqd ra rc r.Ac om hR) ?_;clear hS;rintro _ w ⟨kv,rfl,hS⟩;obtain⟨va,vc,rfl,rq,_⟩:=hS.vS 0;refine gH 8 ?_;clear hS;intro De a11 c11 uy w hS;refine gG 0 ?_;have BW:=((hS.drop (k:=1) O).drop (k:=1) O)
 clear hS;obtain⟨J,hJ,AJ,hS⟩:=BW.fV 0;try dsimp only[List.eraseIdx]at hS
 have e1:(Hl r c).Ac.length=r.Ac.length+1:=by unfold Hl;simp
 have e2:X2 X3 (Hl r c).Ac=X2 X3 r.Ac++[S Ci,S c]:=by unfold Hl;rw[pN];rfl
 refine ?_;unfold UU;rw[e1,e2];exact⟨J,a11,c11,O,hJ,uy,AJ,hS⟩
theorem Xx1(n st:Lu)(hn:n.length<=100000)(hs:st.length<=100000):UE (OY (pU n).1 Af st):=by
 have h1:=(og n).1;have h2:=pR (pU n).1.query Af st;have e1:Af.length=6:=rfl;exact Xgt (z8 n) (by show(Gt (pU n).1.query Af st).length<=_;omega)
theorem Xpj(n st:Lu)(cs:List Lu)(ca:Oa)(cc:Nat)(hn:n.length<=5000)(Cp:st.length<=5000)(IL:cs.length<=1000)(hZ:Kz I)(hR:RS I ca 1 cs.length (cs.map S))(As:La)(hS:Aa B w I As):Cz 184 [S n,S st,.slice ca cs.length cc] w λv w'=>UU I (yh n st cs) B As v w':=by
 refine gH 2 ?_;clear hS;intro b6 w hS;refine gE 0 (Xcm n om hZ.kn) ?_;clear hS;intro w hS;refine gH 8 ?_;clear hS;intro b7 w hS;refine gE 0 (Xm1 (pU n).1 (z8 n) Af st de om hZ.kn.PZ) ?_;clear hS;intro w hS;refine gE 0 (X9x (OY (pU n).1 Af st) (Xx1 n st om om) hZ.kn) ?_;clear hS;intro w hS;refine gF 1 (Xj9 _ cs ca cc IL hR) ?_;clear hS;rintro _ w ⟨J,fa,fc,rfl,hJ,qV,AJ,hS⟩;refine gH 1 ?_;clear hS;intro w hS;exact gG 0 ⟨J,fa,fc,O,hJ,qV,AJ,hS.s⟩
theorem xG(Z:Wd)(r:Al):(AH Z r).1.1.length<=23:=by
 unfold AH HR;split
 ·simp
 ·dsimp only
  split
  ·simp
  ·exact Xfy
theorem Xgm(x:Lp)(s:B4)(ha:Oa)(hc:Nat)(n wr:Lu)(hn:n.length<=5000)(hwr:wr.length<=5000)(hZ:BL s.Z)(hX:Du I x)(As:La)(hS:Aa B w I (CX x s ha hc::Bg x.p s.Z::As)):Cz 181 [ptr x.tp 0,S n,S wr] w λv w'=>v=.tuple #[]/\∃J ha hc,Le I J/\Iu J ha hc (JD s n wr).Aj/\Aa B w' J (CX x (JD s n wr) ha hc::Bg x.p (JD s n wr).Z::As):=by
 refine gE 4 (Xei x.p s.Z hZ hX.wp) ?_;clear hS;intro w hS;refine gN 7 ?_ ?_<;>intro Gx
 ·refine gF 1 (xf x ({ s with Z:=(AH s.Z Nu).2 }:B4) ha hc hX) ?_;clear hS;rintro _ w ⟨rfl,J,na,nc,hJ,EP,hS⟩;refine gG 0 ?_;have e9:JD s n wr=HE ({ s with Z:=(AH s.Z Nu).2 }:B4):=by unfold JD;rw[Y7 (by have h9:(((AH s.Z Nu).1.2:Nat):Int)≠0:=Gx;omega)]
  rw[e9];exact⟨O,J,na,nc,hJ,EP,(hS.x [1,1])⟩
 refine gF 4 (Xp3 (AH s.Z Nu).1.1 n wr (oh (xG s.Z Nu)) om om hX.kz) ?_;clear hS;rintro _ w ⟨J,na,nc,rfl,hJ,Dc,AJ,hS⟩;refine gG 3 ?_;clear hS;intro w hS;have e9:JD s n wr={ s with Z:=(AH s.Z Nu).2,Aj:=CD (AH s.Z Nu).1.1 n wr }:=by unfold JD;rw[Y3 (by have h9:(((AH s.Z Nu).1.2:Nat):Int)=0:=Gx;omega)]
 rw[e9];exact⟨O,J,na,nc,hJ,⟨Dc,AJ⟩,(hS.x [1])⟩
def Bx(p:Wp)(qc:Qc):Cg:=⟨p.lo,p.us,p.ps,qc⟩
theorem Xo1{l:List Al}(h:Wf l)(name:Lu):(getD l name).user.length<=32:=by
 rcases Tr.get_at l name with⟨_,h2⟩|⟨j,r,_,hr,_,h2⟩
 ·unfold getD;rw[h2];decide
 ·unfold getD;rw[h2]
  have:=h.right r (Y6 hr)
  unfold Xt at this;simp only[Yb,dq1]at this
  show r.user.length<=32
  omega
theorem Co{lo:List Sv}{Z:Wd}{sv:Lu}{fresh:Bool}:(FM lo ps Z Ap sv fresh).1.1.1.length<=5000/\(FM lo ps Z Ap sv fresh).1.1.2.length<=5000:=by
 unfold FM;split
 ·exact⟨Y4 _,Y4 _⟩
 ·split
  ·exact⟨Y4 _,Y4 _⟩
  ·split
   ·exact⟨Y4 _,Y4 _⟩
   ·split
    ·exact⟨Y4 _,Y4 _⟩
    ·exact⟨Yx (xG _ _) de,Yx (Xdu lo sv) de⟩
theorem Vz(lo:List Sv)(ps:Nat->Int)(Z:Wd)(q:Ak):1<=Ip lo ps Z q/\Ip lo ps Z q<=6:=by
 unfold Ip
 repeat' split
 all_goals decide
theorem Xyx(qc:Qc)(x:Lp)(s:B4)(ha:Oa)(hc:Nat)(hZ:BL s.Z)(hX:Du I x)(As:La)(hS:Aa B w I (CX x s ha hc::Bg x.p s.Z::As)):Cz 98 [ptr x.tp 0] w λv w'=>v=.tuple #[]/\∃J ha hc,Le I J/\Iu J ha hc (F_ (Bx x.p qc) x.args x.ck s).Aj/\Aa B w' J (CX x (F_ (Bx x.p qc) x.args x.ck s) ha hc::Bg x.p (F_ (Bx x.p qc) x.args x.ck s).Z::As):=by
 refine gE 1 (Xgn x s ha hc hX) ?_;clear hS;intro w hS;refine gE 9 (Xeg x.ra x.rc x.args X7 hX.al hX.ra) ?_;clear hS;intro w hS;refine gH 5 (.nil (.ck [0,2] (σ:=Nat) (λb6 _m=>(6,ptr b6 0)::_m) (λb6 w=>Aa B w I (Ae b6 [S (X9 x.args X7),S x.ck,.bool (decide (0<((Iw X7 x.args).2:Int))),.bool (rK x.args sA),.bool (rK x.args xr),.bool (rK x.args jj)] 295::CX x s ha hc::Bg x.p s.Z::As)) ?_ ?_))
 ·refine gD [0] [] [0,2,3,4,5,6,7,8,10,12] ?_;clear hS;intro w hS;refine gH 10 (gB 1 15 [] [1,9,11,13,14,16] ?_ ?_)
  ·refine gE 0 (Ng x s ha hc X7 hX) ?_;clear hS;intro w hS;refine gH 0 (gB 9 15 [] [9,11,13,14,16] ?_ ?_)
   ·refine gE 0 (UD x s ha hc sA hX) ?_;clear hS;intro w hS;refine gH 0 (gB 11 15 [] [11,13,14,16] ?_ ?_)
    ·refine gE 0 (UD x s ha hc xr hX) ?_;clear hS;intro w hS;refine gH 0 (gB 13 15 [14,15,16] [13,14,16] ?_ ?_)
     ·refine gE 0 (UD x s ha hc jj hX) ?_;clear hS;intro w hS;refine gH 2 ?_;clear hS;intro b6 w hS;refine gH 1 ?_;clear hS;intro w hS;exact gG 0 (cd b6 (hS.x [2,2,2]))
     ·refine gH 1 ?_;clear hS;intro b6 w hS;refine gE 0 (UD x s ha hc jj hX) ?_;clear hS;intro w hS;refine gH 2 ?_;clear hS;intro w hS;exact gG 0 (cd b6 (hS.x [2,1,2]))
    ·refine gH 1 ?_;clear hS;intro b6 w hS;refine gE 0 (UD x s ha hc xr hX) ?_;clear hS;intro w hS;refine gE 0 (UD x s ha hc jj hX) ?_;clear hS;intro w hS;refine gH 2 ?_;clear hS;intro w hS;exact gG 0 (cd b6 (hS.x [2,1,2]))
   ·refine gH 1 ?_;clear hS;intro b6 w hS;refine gE 0 (UD x s ha hc sA hX) ?_;clear hS;intro w hS;refine gE 0 (UD x s ha hc xr hX) ?_;clear hS;intro w hS;refine gE 0 (UD x s ha hc jj hX) ?_;clear hS;intro w hS;refine gH 2 ?_;clear hS;intro w hS;exact gG 0 (cd b6 (hS.x [2,1,2]))
  ·refine gH 1 ?_;clear hS;intro b6 w hS;refine gE 0 (Ng x s ha hc X7 hX) ?_;clear hS;intro w hS;refine gE 0 (UD x s ha hc sA hX) ?_;clear hS;intro w hS;refine gE 0 (UD x s ha hc xr hX) ?_;clear hS;intro w hS;refine gE 0 (UD x s ha hc jj hX) ?_;clear hS;intro w hS;refine gH 2 ?_;clear hS;intro w hS;exact gG 0 (cd b6 (hS.x [2,1,2]))
 rintro b6 w hS;refine gG 0 (gD [1,0] [] [0,1,2,3,4,5] ?_);clear hS;intro w hS;refine gE 5 (Xw7 (Vh x.args x.ck) (by have:=iT hX.each X7;show(X9 x.args X7).length<=_;omega) x.p s.Z hZ hX.wp) ?_;clear hS;intro w hS;have NT:=Xdu x.p.lo (X9 x.args X7);refine gN 2 ?_ ?_<;>intro D0
 ·refine gF 1 (X6x 403) ?_;clear hS;rintro _ w ⟨J,na,nc,rfl,hJ,Dc,AJ,hS⟩;refine gG 3 ?_;clear hS;intro w hS;have e9:F_ (Bx x.p qc) x.args x.ck s={ s with Aj:=OJ 403 }:=by
   unfold F_ Bx;dsimp only
   rw[Y7 (oh D0)]
  rw[e9];exact⟨O,J,na,nc,hJ,⟨Dc,AJ⟩,hS.s⟩
 refine gN 2 ?_ ?_<;>intro HL
 ·refine gG 0 ?_;obtain⟨a,c,ma,mc,hS⟩:=Kv hS;refine gD [6,0] [] [0,1,2,3,4,5,6,7,8,9,10] ?_;clear hS;intro w hS;refine gH 11 (gB 11 15 [12,13,14,15,16,17] [11,12,13,14,16,17] ?_ ?_)
  ·refine gE 0 (Uy x.p.tb s.Z.room a c s.Z.l (oh hZ.len) x.ck) ?_;clear hS;intro w hS;refine gH 4 ?_;clear hS;intro b7 w hS;refine gH 1 ?_;clear hS;intro w hS;refine gF 4 (wX AN (getD s.Z.l x.ck).user de (oh (Xo1 hZ.wf x.ck)) hX.kz) ?_;clear hS;rintro _ w ⟨J,na,nc,rfl,hJ,Dc,AJ,hS⟩;refine gG 3 ?_;clear hS;intro w hS;replace hS:=Aa.box (T:=C7 x.p s.Z) (a,c,ma,mc) (hS.px [5,5,4,4,5]);have e9:F_ (Bx x.p qc) x.args x.ck s={ s with Aj:=CE AN (getD s.Z.l x.ck).user }:=by
    unfold F_ Bx;dsimp only
    rw[Y3 (oh D0),Y7 (oh HL)]
   rw[e9];exact⟨O,J,na,nc,hJ,⟨Dc,AJ⟩,(hS.z [3] 2 2)⟩
  ·refine gH 1 ?_;clear hS;intro b7 w hS;refine gE 0 (Uy x.p.tb s.Z.room a c s.Z.l (oh hZ.len) x.ck) ?_;clear hS;intro w hS;refine gH 4 ?_;clear hS;intro w hS;refine gF 4 (wX AN (getD s.Z.l x.ck).user de (oh (Xo1 hZ.wf x.ck)) hX.kz) ?_;clear hS;rintro _ w ⟨J,na,nc,rfl,hJ,Dc,AJ,hS⟩;refine gG 3 ?_;clear hS;intro w hS;replace hS:=Aa.box (T:=C7 x.p s.Z) (a,c,ma,mc) (hS.px [5,5,3,3,5]);have e9:F_ (Bx x.p qc) x.args x.ck s={ s with Aj:=CE AN (getD s.Z.l x.ck).user }:=by
    unfold F_ Bx;dsimp only
    rw[Y3 (oh D0),Y7 (oh HL)]
   rw[e9];exact⟨O,J,na,nc,hJ,⟨Dc,AJ⟩,(hS.z [3] 2 2)⟩
 refine gN 2 ?_ ?_<;>intro Qk
 ·refine gF 2 (Xgm x s ha hc _ [] om de hZ hX) ?_;clear hS;rintro _ w ⟨rfl,J,na,nc,hJ,EP,hS⟩;refine gG 0 ?_;have e9:F_ (Bx x.p qc) x.args x.ck s=JD s (Xo x.p.lo (X9 x.args X7)).2.1 []:=by
   unfold F_ Bx;dsimp only
   rw[Y3 (oh D0),Y3 (oh HL),Y7 (oh Qk)]
  rw[e9];exact⟨O,J,na,nc,hJ,EP,hS.s⟩
 refine gN 2 ?_ ?_<;>intro dQ
 ·refine gF 2 (wX jj _ de om hX.kz) ?_;clear hS;rintro _ w ⟨J,na,nc,rfl,hJ,Dc,AJ,hS⟩;refine gG 3 ?_;clear hS;intro w hS;have e9:F_ (Bx x.p qc) x.args x.ck s={ s with Aj:=CE jj (Xo x.p.lo (X9 x.args X7)).2.1 }:=by
   unfold F_ Bx;dsimp only
   rw[Y3 (oh D0),Y3 (oh HL),Y3 (oh Qk),Y7 (oh dQ)]
  rw[e9];exact⟨O,J,na,nc,hJ,⟨Dc,AJ⟩,hS.s⟩
 refine gN 2 ?_ ?_<;>intro dR
 ·refine gF 2 (Xj9 _ [] none 0 de (RS.nil _ _)) ?_;clear hS;rintro _ w ⟨J,na,nc,rfl,hJ,Dc,AJ,hS⟩;refine gG 3 ?_;clear hS;intro w hS;have e9:F_ (Bx x.p qc) x.args x.ck s={ s with Aj:=Ry (Xo x.p.lo (X9 x.args X7)).2.1 [] }:=by
   unfold F_ Bx;dsimp only
   rw[Y3 (oh D0),Y3 (oh HL),Y3 (oh Qk),Y3 (oh dQ),Y7 (oh dR)]
  rw[e9];exact⟨O,J,na,nc,hJ,⟨Dc,AJ⟩,hS.s⟩
 refine gN 2 ?_ ?_<;>intro ux
 ·refine gG 0 (gD [2,1] [] [0,1,2,3,4,5,6,7,8,9,10,11,12,13,14,15,16,17] ?_);clear hS;intro w hS;refine gE 10 (Xmk x.ck (X9 x.args X7) false (oh hX.ck) (oh (iT hX.each X7)) x.p s.Z hZ hX.wp) ?_;clear hS;intro w hS;refine gN 9 ?_ ?_<;>intro dN
  ·refine gF 1 (xf x { s with Z:=(FM x.p.lo x.p.ps s.Z x.ck (X9 x.args X7) false).2 } ha hc hX) ?_;clear hS;rintro _ w ⟨rfl,J,na,nc,hJ,EP,hS⟩;refine gG 0 ?_;have e9:F_ (Bx x.p qc) x.args x.ck s=HE { s with Z:=(FM x.p.lo x.p.ps s.Z x.ck (X9 x.args X7) false).2 }:=by
    unfold F_ Bx;dsimp only
    rw[Y3 (oh D0),Y3 (oh HL),Y3 (oh Qk),Y3 (oh dQ),Y3 (oh dR),Y7 (oh ux)];exact Y7 (oh dN)
   rw[e9];exact⟨O,J,na,nc,hJ,EP,(hS.z [1,1] 2 1)⟩
  refine gF 3 (Xpj _ _ [] none 0 Co.2 Co.1 de hX.kz (RS.nil _ _)) ?_;clear hS;rintro _ w ⟨J,na,nc,rfl,hJ,Dc,AJ,hS⟩;refine gG 3 ?_;clear hS;intro w hS;have e9:F_ (Bx x.p qc) x.args x.ck s={ s with Z:=(FM x.p.lo x.p.ps s.Z x.ck (X9 x.args X7) false).2,Aj:=yh (FM x.p.lo x.p.ps s.Z x.ck (X9 x.args X7) false).1.1.2 (FM x.p.lo x.p.ps s.Z x.ck (X9 x.args X7) false).1.1.1 [] }:=by
   unfold F_ Bx;dsimp only
   rw[Y3 (oh D0),Y3 (oh HL),Y3 (oh Qk),Y3 (oh dQ),Y3 (oh dR),Y7 (oh ux)];exact Y3 (oh dN)
  rw[e9];exact⟨O,J,na,nc,hJ,⟨Dc,AJ⟩,hS.s⟩
 refine .skip (λ_ A5=>mf A5 ?_);exfalso
 have h9:=Vz x.p.lo x.p.ps s.Z (Vh x.args x.ck);have h1:=D0;have h2:=HL;have h3:=Qk;have h4:=dQ;have h5:=dR;have h6:=ux;omega
theorem Xpn(qc:Qc)(Ap sv:Lu)(htg:Ap.length<=5000)(zg:sv.length<=5000)(x:Lp)(s:B4)(ha:Oa)(hc:Nat)(hZ:BL s.Z)(hX:Du I x)(As:La)(hS:Aa B w I (CX x s ha hc::Bg x.p s.Z::As)):Cz 186 [ptr x.tp 0,S Ap,S sv] w λv w'=>v=.tuple #[]/\∃J ha hc,Le I J/\Iu J ha hc (Nh (Bx x.p qc) x.args Ap sv s).Aj/\Aa B w' J (CX x (Nh (Bx x.p qc) x.args Ap sv s) ha hc::Bg x.p (Nh (Bx x.p qc) x.args Ap sv s).Z::As):=by
 refine gE 1 (Xvm Ap (-1) htg hX.kz) ?_;clear hS;intro w hS;refine gM 3 ?_ ?_<;>intro FV DP
 ·refine gE 2 (Ng x s ha hc Am hX) ?_;clear hS;intro w hS;refine gF 0 (wX AN (X9 x.args Am) de (oh (iT hX.each Am)) hX.kz) ?_;clear hS;rintro _ w ⟨J0,oa,oc,rfl,GN,zb,hRo,hS⟩;refine gF 1 (Xpo (CE AN (X9 x.args Am)) oa oc _ (by show(1:Nat)<=1000;decide) hRo) ?_;clear hS;rintro _ w ⟨J,na,nc,rfl,hJ,Dc,AJ,hS⟩;refine gG 3 ?_;clear hS;intro w hS;have e9:Nh (Bx x.p qc) x.args Ap sv s={ s with Aj:=Hl (CE AN (X9 x.args Am)) (GY Ap (-1)) }:=by
   unfold Nh Bx;dsimp only
   exact Y7 (su FV)
  rw[e9];exact⟨O,J,na,nc,(GN.trans hJ),⟨Dc,AJ⟩,hS.s⟩
 refine gE 6 (Xmk Ap sv true om om x.p s.Z hZ hX.wp) ?_;clear hS;intro w hS;refine gN 9 ?_ ?_<;>intro Ft
 ·refine gF 1 (xf x { s with Z:=(FM x.p.lo x.p.ps s.Z Ap sv true).2 } ha hc hX) ?_;clear hS;rintro _ w ⟨rfl,J,na,nc,hJ,EP,hS⟩;refine gG 0 ?_;have e9:Nh (Bx x.p qc) x.args Ap sv s=HE { s with Z:=(FM x.p.lo x.p.ps s.Z Ap sv true).2 }:=by
   unfold Nh Bx;dsimp only
   rw[Y3 (su FV)];exact Y7 (oh Ft)
  rw[e9];exact⟨O,J,na,nc,hJ,EP,(hS.x [1,1])⟩
 refine gH 5 ?_;clear hS;intro b41 w hS;replace hS:=hS;try dsimp only[List.eraseIdx]at hS
 obtain⟨F1,Gf,FT,hS⟩:=OH (size:=1) (n:=1) hS O;refine gF 0 (Xpj _ _ [GY Ap (-1)] _ 1 Co.2 Co.1 sz (hX.kz.mono Gf) FT) ?_;clear hS;rintro _ w ⟨J,na,nc,rfl,hJ,Dc,AJ,hS⟩;refine gG 3 ?_;clear hS;intro w hS;have e9:Nh (Bx x.p qc) x.args Ap sv s={ s with Z:=(FM x.p.lo x.p.ps s.Z Ap sv true).2,Aj:=yh (FM x.p.lo x.p.ps s.Z Ap sv true).1.1.2 (FM x.p.lo x.p.ps s.Z Ap sv true).1.1.1 [GY Ap (-1)] }:=by
  unfold Nh Bx;dsimp only
  rw[Y3 (su FV)];exact Y3 (oh Ft)
 rw[e9];exact⟨O,J,na,nc,(Gf.trans hJ),⟨Dc,AJ⟩,hS.s⟩
theorem Xix(us:List Us)(ps:Nat->Int)(Z:Wd)(lt user pw:Lu):(Gq us ps Z lt user pw).1.1.length<=5000:=by
 unfold Gq;split
 ·exact Y4 _
 ·split
  ·exact Y4 _
  ·exact Yx (xG _ _) de
theorem Xst(qc:Qc)(x:Lp)(s:B4)(ha:Oa)(hc:Nat)(hZ:BL s.Z)(hX:Du I x)(As:La)(hS:Aa B w I (CX x s ha hc::Bg x.p s.Z::As)):Cz 99 [ptr x.tp 0] w λv w'=>v=.tuple #[]/\∃J ha hc,Le I J/\Iu J ha hc (HV (Bx x.p qc) x.args s).Aj/\Aa B w' J (CX x (HV (Bx x.p qc) x.args s) ha hc::Bg x.p (HV (Bx x.p qc) x.args s).Z::As):=by
 refine gE 1 (Ng x s ha hc X7 hX) ?_;clear hS;intro w hS;refine gE 2 (Xgn x s ha hc hX) ?_;clear hS;intro w hS;refine gM 11 ?_ ?_<;>intro DZ Gy
 ·refine gF 1 (X6x 403) ?_;clear hS;rintro _ w ⟨J,na,nc,rfl,hJ,Dc,AJ,hS⟩;refine gG 3 ?_;clear hS;intro w hS;have e9:HV (Bx x.p qc) x.args s={ s with Aj:=OJ 403 }:=by
   unfold HV Bx;dsimp only
   exact Y7 (su DZ)
  rw[e9];exact⟨O,J,na,nc,hJ,⟨Dc,AJ⟩,hS.s⟩
 refine gG 0 ?_;have NT:=Xdu x.p.lo (X9 x.args X7);have Gg:=λnm=>iT hX.each nm
 have AL:¬ (X9 x.args X7≠[]/\(Xo x.p.lo (X9 x.args X7)).2.2≠0):=by
  have h9:=DZ
  revert h9
  cases h1:(X9 x.args X7 !=[])<;>simp_all
 refine gD [0] [] [0,1,2,3,4,6,8,5,7,9,10,11,12,13,14,15] ?_;clear hS;intro w hS;refine gE 7 (Ng x s ha hc BI hX) ?_;clear hS;intro w hS;refine gE 0 (Ng x s ha hc Am hX) ?_;clear hS;intro w hS;refine gE 0 (Ng x s ha hc Aq hX) ?_;clear hS;intro w hS;refine gE 0 (T6 (X9 x.args BI) (X9 x.args Am) (X9 x.args Aq) (oh (Gg Aq)) x.p s.Z hZ hX.wp) ?_;clear hS;intro w hS;have G5:=Xok (us:=x.p.us) (ps:=x.p.ps) hZ (X9 x.args BI) (X9 x.args Am) (X9 x.args Aq);refine gN 8 ?_ ?_<;>intro JR
 ·refine gF 1 (xf x ({ s with Z:=(Gq x.p.us x.p.ps s.Z (X9 x.args BI) (X9 x.args Am) (X9 x.args Aq)).2 }) ha hc hX) ?_;clear hS;rintro _ w ⟨rfl,J,na,nc,hJ,EP,hS⟩;refine gG 0 ?_;have e9:HV (Bx x.p qc) x.args s=HE { s with Z:=(Gq x.p.us x.p.ps s.Z (X9 x.args BI) (X9 x.args Am) (X9 x.args Aq)).2 }:=by
   unfold HV Bx;dsimp only
   rw[Y3 AL];exact Y7 (oh JR)
  rw[e9];exact⟨O,J,na,nc,hJ,EP,(hS.x [1,1])⟩
 refine gN 2 ?_ ?_<;>intro D0
 ·refine gF 2 (Xgm x ({ s with Z:=(Gq x.p.us x.p.ps s.Z (X9 x.args BI) (X9 x.args Am) (X9 x.args Aq)).2 }) ha hc _ Qx om de G5 hX) ?_;clear hS;rintro _ w ⟨rfl,J,na,nc,hJ,EP,hS⟩;refine gG 0 ?_;have e9:HV (Bx x.p qc) x.args s=JD ({ s with Z:=(Gq x.p.us x.p.ps s.Z (X9 x.args BI) (X9 x.args Am) (X9 x.args Aq)).2 }) (Xo x.p.lo (X9 x.args X7)).2.1 Qx:=by
   unfold HV Bx;dsimp only
   rw[Y3 AL];rw[Y3 (oh JR)];exact Y7 (oh D0)
  rw[e9];exact⟨O,J,na,nc,hJ,EP,hS.s⟩
 refine gN 2 ?_ ?_<;>intro mL
 ·refine gF 2 (Xgm x ({ s with Z:=(Gq x.p.us x.p.ps s.Z (X9 x.args BI) (X9 x.args Am) (X9 x.args Aq)).2 }) ha hc _ A3 om de G5 hX) ?_;clear hS;rintro _ w ⟨rfl,J,na,nc,hJ,EP,hS⟩;refine gG 0 ?_;have e9:HV (Bx x.p qc) x.args s=JD ({ s with Z:=(Gq x.p.us x.p.ps s.Z (X9 x.args BI) (X9 x.args Am) (X9 x.args Aq)).2 }) (Xo x.p.lo (X9 x.args X7)).2.1 A3:=by
   unfold HV Bx;dsimp only
   rw[Y3 AL];rw[Y3 (oh JR)];rw[Y3 (oh D0)];exact Y7 (oh mL)
  rw[e9];exact⟨O,J,na,nc,hJ,EP,hS.s⟩
 refine gF 3 (Xpn qc _ _ (Xix x.p.us x.p.ps s.Z _ _ _) (Gg X7) x ({ s with Z:=(Gq x.p.us x.p.ps s.Z (X9 x.args BI) (X9 x.args Am) (X9 x.args Aq)).2 }) ha hc G5 hX) ?_;clear hS;rintro _ w ⟨rfl,J,na,nc,hJ,EP,hS⟩;refine gG 0 ?_;have e9:HV (Bx x.p qc) x.args s=Nh (Bx x.p qc) x.args (Gq x.p.us x.p.ps s.Z (X9 x.args BI) (X9 x.args Am) (X9 x.args Aq)).1.1 (X9 x.args X7) ({ s with Z:=(Gq x.p.us x.p.ps s.Z (X9 x.args BI) (X9 x.args Am) (X9 x.args Aq)).2 }):=by
  unfold HV Bx;dsimp only
  rw[Y3 AL];rw[Y3 (oh JR)];rw[Y3 (oh D0)];rw[Y3 (oh mL)]
 rw[e9];exact⟨O,J,na,nc,hJ,EP,hS.s⟩
theorem Xjj(px:Bool)(x:Lp)(s:B4)(ha:Oa)(hc:Nat)(hZ:BL s.Z)(hX:Du I x)(As:La)(hS:Aa B w I (CX x s ha hc::Bg x.p s.Z::As)):Cz 190 [ptr x.tp 0,.bool px] w λv w'=>∃J cs,Le I J/\v=.tuple #[.agg (List.toArray cs),Ab (OL x.p.ps s.Z (A7 x.args px):Nat)]/\Io J (Nk x.p.lo x.p.us x.p.ps s.Z (A7 x.args px)) cs/\Aa B w' J (CX x s ha hc::Bg x.p (Xl x.p.ps s.Z (A7 x.args px)).2::As):=by
 refine gH 2 ?_;clear hS;intro b4 w hS;refine gG 0 ?_;have Gg:=λnm=>iT hX.each nm
 refine gD [1] [15] [0,1,2,3,4,6,8,10,5,7,9,11,12,13,14,15,16] ?_;clear hS;intro w hS;refine gE 8 (Ng x s ha hc Af hX) ?_;clear hS;intro w hS;refine gE 0 (Ng x s ha hc X7 hX) ?_;clear hS;intro w hS;refine gE 0 (UD x s ha hc sA hX) ?_;clear hS;intro w hS;refine gF 1 (Xzk (A7 x.args px) (by have:=Gg Af;show(X9 x.args Af).length<=_;omega) (by have:=Gg X7;show(X9 x.args X7).length<=_;omega) x.p s.Z hZ hX.wp) ?_;clear hS;rintro _ w ⟨J,cs,hJ,rfl,hsx,hS⟩;obtain⟨ka,kc,pa,pc,rfl,WH,eF,hs3,vj⟩:=hsx;refine gH 3 ?_;clear hS;intro w hS;exact gG 1 ⟨J,_,hJ,O,⟨ka,kc,pa,pc,O,WH,eF,hs3,vj⟩,hS.s⟩
theorem Xua{l:List Al}(h:Wf l)(name:Lu):(getD l name).user.length<=32/\(getD l name).url.length<=100/\(getD l name).service.length<=100:=by
 rcases Tr.get_at l name with⟨_,h2⟩|⟨j,r,_,hr,_,h2⟩
 ·unfold getD;rw[h2];decide
 ·unfold getD;rw[h2]
  have:=h.right r (Y6 hr)
  unfold Xt at this;simp only[Yb,dq1]at this
  show r.user.length<=32/\r.url.length<=100/\r.service.length<=100
  omega
theorem Xnc{lo:List Sv}{us:List Us}{Z:Wd}(h:BL Z)(hc:qj lo us)(q:Qr):Nb (Nk lo us ps Z q):=by
 unfold Nk;split
 ·exact⟨Y4 _,Y4 _,⟨Y4 _,λa ha=>by simp[QM]at ha⟩,⟨Y4 _,λa ha=>by simp[QM]at ha⟩⟩
 ·have hu:(Xl ps Z q).1.1.user.length<=32:=by
   have key:(Xk ps Z q.ticket (Ml q.ticket)).1.user.length<=32:=by
    unfold Xk;split
    ·decide
    ·exact(Xua h.wf q.ticket).1
   unfold Xl
   repeat' split
   all_goals first|exact key|exact Y4 _
  have hw:=xI (ps:=ps) h q;have SC:∀nm,(Ek us nm).length<=8/\∀a∈Ek us nm,a.1.length<=100/\a.2.length<=100:=λnm=>by
   unfold Ek;split
   ·rename_i e;exact hc.yO _ (yr e)
   ·exact⟨Y4 _,λa ha=>by simp at ha⟩
  have hr:(Xo lo (Xl ps Z q).1.1.service).1.rel.length<=8:=by
   rcases Xno lo (Xl ps Z q).1.1.service with e|e
   ·rw[e];decide
   ·exact hc.rel _ e
  refine⟨by dsimp only;omega,Y4 _,⟨?_,λa ha=>?_⟩,⟨?_,λp hp=>?_⟩⟩
  ·have:=Xi7 (rel:=(Xo lo (Xl ps Z q).1.1.service).1.rel) (SC (Xl ps Z q).1.1.user).1
   show(p6 _ _ _).length<=64
   unfold p6;omega
  ·obtain⟨x,_,hx⟩:=s6.1 ha;exact(SC _).2 a (O4.1 hx).1
  ·show(pT _ _).length<=64
   unfold pT;rw[Yh];have h1:=Xlb hw.wf (Xl ps Z q).1.1.name;have h2:=hw.len;exact Yx (Yw ..) om
  ·obtain⟨r,hr,rfl⟩:=Fg.1 hp;obtain⟨j,hj⟩:=Xlc (O4.1 hr).1
   have:=hw.wf.right r (Y6 hj)
   unfold Xt at this;simp only[Yb,dq1]at this
   show r.url.length<=200
   omega
theorem cO{lo:List Sv}{Z:Wd}(h:BL Z)(t:Lu):(O0 lo Z t).length<=70/\∀n∈O0 lo Z t,n.ticket.length<=60/\n.url.length<=120:=by
 unfold O0;split
 ·unfold qe;have h1:=Xor lo Z (below Z.l t);have h2:=Xkd h.wf t;have h3:=h.len;refine⟨om,λn hn=>?_⟩;obtain⟨m,hm,rfl⟩:=Fg.1 hn;have hb:=(O4.1 hm).2;unfold aY at hb;simp only[Yb,PM,beq_iff_eq]at hb
  rcases Tr.get_at Z.l m with⟨_,e⟩|⟨j,r,_,hr,hn,e⟩
  ·have e2:getD Z.l m=r0:=by unfold getD;rw[e];rfl
   rw[e2]at hb;rcases hb.1.1 with h9|h9<;>cases h9
  ·have h4:=zP (h.wf.right r (Y6 hr));have h5:=(Xua h.wf m).2.2;rw[hn]at h4;exact⟨by show m.length<=60;omega,by show(getD Z.l m).service.length<=120;omega⟩
 ·exact⟨Y4 _,λn hn=>by simp at hn⟩
theorem IA{lo:List Sv}{Z:Wd}{t cb:Lu}:(Xh lo Z t cb).1.1.url.length<=100000/\(Xh lo Z t cb).1.1.AX.length<=100000/\(Xh lo Z t cb).1.1.BP.length<=100000:=by
 have hz:c0.url.length<=100000/\c0.AX.length<=100000/\c0.BP.length<=100000:=de
 unfold Xh;split
 ·exact hz
 ·split
  ·exact hz
  ·split
   ·exact hz
   ·split
    ·exact hz
    ·refine⟨?_,Yx (xG _ _) de,Yx (xG _ _) de⟩;show(yl lo Z t cb).1.length<=_
     unfold yl k7;split
     ·exact Y4 _
     ·split
      ·exact Y4 _
      ·rename_i h9
       simp only[PM,dq1,not_or]at h9
       dsimp only;omega
theorem Xyy(qc:Qc)(x:Lp)(s:B4)(ha:Oa)(hc:Nat)(hZ:BL s.Z)(hX:Du I x)(As:La)(hS:Aa B w I (CX x s ha hc::Bg x.p s.Z::As)):Cz 101 [ptr x.tp 0] w λv w'=>v=.tuple #[]/\∃J ha hc,Le I J/\Iu J ha hc (Xv9 (Bx x.p qc) x.args s).Aj/\Aa B w' J (CX x (Xv9 (Bx x.p qc) x.args s) ha hc::Bg x.p (Xv9 (Bx x.p qc) x.args s).Z::As):=by
 refine gF 1 (Xjj false x s ha hc hZ hX) ?_;clear hS;rintro _ w ⟨J1,cs,Bn,rfl,hsx,hS⟩;have Qb:=hX.mono Bn;obtain⟨ka,kc,pa,pc,rfl,WH,eF,hs3,vj⟩:=hsx;refine gH 11 ?_;clear hS;intro b2 w hS;refine gF 0 (Xyk (Nk x.p.lo x.p.us x.p.ps s.Z (A7 x.args false)).user _ (oh ((Xnc (ps:=x.p.ps) hZ hX.fit (A7 x.args false)).user))) ?_;clear hS;rintro _ w ⟨J,na,nc,rfl,hJ,Dc,AJ,hS⟩;refine gG 3 ?_;clear hS;intro w hS;exact⟨O,J,na,nc,Bn.trans hJ,⟨Dc,AJ⟩,(hS.z [2,2] 2 1)⟩
theorem WV(lo:List Sv)(ps:Nat->Int)(Z:Wd)(AX target:Lu):(JC lo ps Z AX target).1.1.1.length<=5000:=by
 unfold JC
 repeat' split
 all_goals first|exact Y4 _|exact Yx (xG _ _) de
theorem Xyw(qc:Qc)(x:Lp)(s:B4)(ha:Oa)(hc:Nat)(hZ:BL s.Z)(hX:Du I x)(As:La)(hS:Aa B w I (CX x s ha hc::Bg x.p s.Z::As)):Cz 106 [ptr x.tp 0] w λv w'=>v=.tuple #[]/\∃J ha hc,Le I J/\Iu J ha hc (Xuh (Bx x.p qc) x.args s).Aj/\Aa B w' J (CX x (Xuh (Bx x.p qc) x.args s) ha hc::Bg x.p (Xuh (Bx x.p qc) x.args s).Z::As):=by
 have Gg:=λnm=>iT hX.each nm
 refine gG 0 (gD [0] [] [0,1,2,3,4,6,5,7,8,9,10,11,12,13,14,15] ?_);clear hS;intro w hS;refine gE 6 (Ng x s ha hc WZ hX) ?_;clear hS;intro w hS;refine gE 0 (Ng x s ha hc xD hX) ?_;clear hS;intro w hS;refine gE 0 (T3 (X9 x.args WZ) (X9 x.args xD) (oh (Gg WZ)) (oh (Gg xD)) x.p s.Z hZ hX.wp) ?_;clear hS;intro w hS;refine gF 11 (Xyl (JC x.p.lo x.p.ps s.Z (X9 x.args WZ) (X9 x.args xD)).1.1.1 (JC x.p.lo x.p.ps s.Z (X9 x.args WZ) (X9 x.args xD)).1.2 (WV x.p.lo x.p.ps s.Z _ _) hX.kz) ?_;clear hS;rintro _ w ⟨J,na,nc,rfl,hJ,Dc,AJ,hS⟩;refine gG 8 ?_;clear hS;intro w hS;exact⟨O,J,na,nc,hJ,⟨Dc,AJ⟩,(hS.x [1])⟩
def Fl(J:Im)(qa:Oa)(qk:Nat)(q:List Nt):Prop:=q.length<=qk/\RS J qa 4 q.length (X2 Xa q)
abbrev GK(qb:Nat)(qc:Qc)(q:List Nt)(qa:Oa)(qk:Nat):X1:=Ae qb [Ab (AgW qc),BQ qc.x,BQ qc.y,BQ qc.z,.slice qa (q).length qk] 178
theorem Xpm(qc:Qc)(qa:Oa)(qk:Nat)(x:Lp)(s:B4)(ha:Oa)(hc:Nat)(hZ:BL s.Z)(hq:s.q.length<=64)(hX:Du I x)(hQ:Fl I qa qk s.q)(As:La)(hS:Aa B w I (CX x s ha hc::GK x.qb qc s.q qa qk::Bg x.p s.Z::As)):Cz 100 [ptr x.tp 0] w λv w'=>v=.tuple #[]/\∃J ha hc qa qk,Le I J/\Iu J ha hc (Mc (Bx x.p qc) x.ck s).Aj/\Fl J qa qk (Mc (Bx x.p qc) x.ck s).q/\Aa B w' J (CX x (Mc (Bx x.p qc) x.ck s) ha hc::GK x.qb qc (Mc (Bx x.p qc) x.ck s).q qa qk::Bg x.p (Mc (Bx x.p qc) x.ck s).Z::As):=by
 refine gG 0 (gD [0] [] [0,1,2,3,4,5,6,7,8,9,10,11,12,13] ?_);clear hS;intro w hS;refine gF 8 (j_ x.ck x.p s.Z hZ hX.wp) ?_;clear hS;rintro _ w ⟨J0,ma9,mc9,ga,gc,GN,rfl,hmc,hRN,jK,hRG,hS⟩;have y3:=hX.mono GN;have hef:=cO (lo:=x.p.lo) hZ x.ck;refine gP 10 [2] (Ub x.qb _ _ _ _ qa qk s.q hq (hQ.2.mono GN) hQ.1 ma9 mc9 (O0 x.p.lo s.Z x.ck) hef.1 hef.2 hRN y3.kz.kx y3.kz.pre _) ?_;clear hS;rintro _ w ⟨J2,a2,c2,rfl,AE,yY,HK,hS⟩;have hX2:=y3.mono AE;refine gN 1 ?_ ?_<;>intro Dx
 ·refine gF 1 (xf x ({ s with Z:=IC s.Z x.ck,q:=(Li s.q (O0 x.p.lo s.Z x.ck)).1 }) ha hc hX2) ?_;clear hS;rintro _ w ⟨rfl,J,na,nc,hJ,EP,hS⟩;replace yY:=yY.mono hJ;refine gG 0 ?_;have e9:Mc (Bx x.p qc) x.ck s=HE ({ s with Z:=IC s.Z x.ck,q:=(Li s.q (O0 x.p.lo s.Z x.ck)).1 }):=by
   unfold Mc Bx;dsimp only
   exact Y7 (oh Dx)
  rw[e9];exact⟨O,J,na,nc,a2,c2,GN.trans (AE.trans hJ),EP,⟨HK,yY⟩,(hS.x [2,2,2])⟩
 refine gF 1 (wX GF [] de de hX2.kz) ?_;clear hS;rintro _ w ⟨J3,oa,oc,rfl,BN,zb,hRo,hS⟩;have mC:=hX2.mono BN;refine gE 0 (Xvm [] 0 de mC.kz) ?_;clear hS;intro w hS;refine gF 0 (Xpo (CE GF []) oa oc _ (by show(1:Nat)<=1000;decide) hRo) ?_;clear hS;rintro _ w ⟨J,na,nc,rfl,hJ,Dc,AJ,hS⟩;replace yY:=(yY.mono BN).mono hJ;refine gG 3 ?_;clear hS;intro w hS;have e9:Mc (Bx x.p qc) x.ck s={ s with Z:=IC s.Z x.ck,q:=(Li s.q (O0 x.p.lo s.Z x.ck)).1,Aj:=Hl (CE GF []) (GY [] 0) }:=by
  unfold Mc Bx;dsimp only
  exact Y3 (oh Dx)
 rw[e9];exact⟨O,J,na,nc,a2,c2,GN.trans (AE.trans (BN.trans hJ)),⟨Dc,AJ⟩,⟨HK,yY⟩,hS.s⟩
theorem oY:Nb QM:=⟨Y4 _,Y4 _,⟨Y4 _,λa ha=>by simp[QM]at ha⟩,⟨Y4 _,λa ha=>by simp[QM]at ha⟩⟩
theorem Xo0{l:List Al}(h:Wf l)(name:Lu):(getD l name).name.length<=1000000/\(getD l name).parent.length<=1000000:=by
 rcases Tr.get_at l name with⟨_,h2⟩|⟨j,r,_,hr,_,h2⟩
 ·unfold getD;rw[h2];decide
 ·unfold getD;rw[h2]
  have:=zP (h.right r (Y6 hr))
  show r.name.length<=_/\r.parent.length<=_
  omega
theorem Xaw(qc:Qc)(px ab:Bool)(x:Lp)(s:B4)(ha:Oa)(hc:Nat)(hZ:BL s.Z)(hX:Du I x)(FU:Iu I ha hc s.Aj)(As:La)(hS:Aa B w I (CX x s ha hc::Bg x.p s.Z::As)):Cz 192 [ptr x.tp 0,.bool px,.bool ab] w λv w'=>v=.tuple #[]/\∃J ha hc,Le I J/\Iu J ha hc (FO (Bx x.p qc) x.args px ab s).Aj/\Aa B w' J (CX x (FO (Bx x.p qc) x.args px ab s) ha hc::Bg x.p (FO (Bx x.p qc) x.args px ab s).Z::As):=by
 refine gF 2 (Xjj px x s ha hc hZ hX) ?_;clear hS;rintro _ w ⟨J1,cs,Bn,rfl,hsx,hS⟩;have Qb:=hX.mono Bn;obtain⟨ka,kc,pa,pc,rfl,WH,eF,hs3,vj⟩:=hsx;refine gH 7 ?_;clear hS;intro b6 w hS;refine gE 0 (Ng x s ha hc X6 Qb) ?_;clear hS;intro w hS;refine gN 7 ?_ ?_<;>intro E4
 ·refine gF 4 (Xg7 (Nk x.p.lo x.p.us x.p.ps s.Z (A7 x.args px)) (OL x.p.ps s.Z (A7 x.args px)) (λ_=>Xnc hZ hX.fit (A7 x.args px)) ab _ Qb.kz ⟨ka,kc,pa,pc,O,WH,eF,hs3,vj⟩) ?_;clear hS;rintro _ w ⟨J,na,nc,rfl,hJ,Dc,AJ,hS⟩;refine gG 3 ?_;clear hS;intro w hS;have e9:FO (Bx x.p qc) x.args px ab s={ s with Z:=(Xl x.p.ps s.Z (A7 x.args px)).2,Aj:=kL (Nk x.p.lo x.p.us x.p.ps s.Z (A7 x.args px)) (OL x.p.ps s.Z (A7 x.args px)) ab }:=by
   unfold FO Bx;dsimp only
   exact Y7 (E4.imp (λh=>by omega) id)
  rw[e9];exact⟨O,J,na,nc,Bn.trans hJ,⟨Dc,AJ⟩,hS.s⟩
 refine .skip ?_;have hZ1:=xI (ps:=x.p.ps) hZ (A7 x.args px);have Gg:=λnm=>iT hX.each nm
 have AL:¬ ((OL x.p.ps s.Z (A7 x.args px))≠0\/X9 x.args X6=[]):=by
  rintro(h1|h1)
  ·exact h1 (oh E4.1)
  ·exact E4.2 h1
 refine .ck [0,2,6] (σ:=Nat) (λb9 _m=>(7,Ab ((Xh x.p.lo (Xl x.p.ps s.Z (A7 x.args px)).2 (X9 x.args Af) (X9 x.args X6)).1.2:Nat))::(9,ptr b9 0)::_m) (λb9 w=>Aa B w J1 (Ae b9 [S (Xh x.p.lo (Xl x.p.ps s.Z (A7 x.args px)).2 (X9 x.args Af) (X9 x.args X6)).1.1.url,S (Xh x.p.lo (Xl x.p.ps s.Z (A7 x.args px)).2 (X9 x.args Af) (X9 x.args X6)).1.1.AX,S (Xh x.p.lo (Xl x.p.ps s.Z (A7 x.args px)).2 (X9 x.args Af) (X9 x.args X6)).1.1.BP] 406::Ae b6 [S (Nk x.p.lo x.p.us x.p.ps s.Z (A7 x.args px)).user,.slice ka (Nk x.p.lo x.p.us x.p.ps s.Z (A7 x.args px)).attrs.length kc,.slice pa (Nk x.p.lo x.p.us x.p.ps s.Z (A7 x.args px)).AB.length pc,S (Nk x.p.lo x.p.us x.p.ps s.Z (A7 x.args px)).BP] 310::CX x s ha hc::Bg x.p (Xh x.p.lo (Xl x.p.ps s.Z (A7 x.args px)).2 (X9 x.args Af) (X9 x.args X6)).2::As)) ?_ ?_
 ·refine gD [0] [] [0,1,2,3,4,6] ?_;clear hS;intro w hS;refine gH 6 (gB 5 11 [] [5,7,8,9,10,12,13] ?_ ?_)
  ·refine gE 0 (Ng x s ha hc Af Qb) ?_;clear hS;intro w hS;refine gH 0 (gB 7 11 [8,9,10,11,12,13] [7,8,9,10,12,13] ?_ ?_)
   ·refine gE 0 (Xju (X9 x.args Af) (X9 x.args X6) (oh (Gg Af)) (oh (Gg X6)) x.p (Xl x.p.ps s.Z (A7 x.args px)).2 hZ1 Qb.wp) ?_;clear hS;intro w hS;refine gH 4 ?_;clear hS;intro b9 w hS;refine gH 1 ?_;clear hS;intro w hS;exact gG 1 (cd b9 (hS.x [1,2,3,3]))
   ·refine gH 1 ?_;clear hS;intro b9 w hS;refine gE 0 (Xju (X9 x.args Af) (X9 x.args X6) (oh (Gg Af)) (oh (Gg X6)) x.p (Xl x.p.ps s.Z (A7 x.args px)).2 hZ1 Qb.wp) ?_;clear hS;intro w hS;refine gH 4 ?_;clear hS;intro w hS;exact gG 1 (cd b9 (hS.x [2,3,3]))
  ·refine gH 1 ?_;clear hS;intro b9 w hS;refine gE 0 (Ng x s ha hc Af Qb) ?_;clear hS;intro w hS;refine gE 0 (Xju (X9 x.args Af) (X9 x.args X6) (oh (Gg Af)) (oh (Gg X6)) x.p (Xl x.p.ps s.Z (A7 x.args px)).2 hZ1 Qb.wp) ?_;clear hS;intro w hS;refine gH 4 ?_;clear hS;intro w hS;exact gG 1 (cd b9 (hS.x [1,3,3]))
 rintro b9 w hS;have G5:=Xtl (lo:=x.p.lo) hZ1 (X9 x.args Af) (X9 x.args X6);refine gN 2 ?_ ?_<;>intro JS
 ·refine gF 5 (Xg7 QM (Xh x.p.lo (Xl x.p.ps s.Z (A7 x.args px)).2 (X9 x.args Af) (X9 x.args X6)).1.2 (λ_=>oY) ab _ Qb.kz (Xvu J1)) ?_;clear hS;rintro _ w ⟨J,na,nc,rfl,hJ,Dc,AJ,hS⟩;refine gG 8 ?_;clear hS;intro w hS;have e9:FO (Bx x.p qc) x.args px ab s={ s with Z:=(Xh x.p.lo (Xl x.p.ps s.Z (A7 x.args px)).2 (X9 x.args Af) (X9 x.args X6)).2,Aj:=kL QM (Xh x.p.lo (Xl x.p.ps s.Z (A7 x.args px)).2 (X9 x.args Af) (X9 x.args X6)).1.2 ab,C6:=(((Xh x.p.lo (Xl x.p.ps s.Z (A7 x.args px)).2 (X9 x.args Af) (X9 x.args X6)).1.2:Nat):Int)==39 }:=by
   unfold FO Bx;dsimp only
   rw[Y3 AL];exact Y7 (oh JS)
  rw[e9];exact⟨O,J,na,nc,Bn.trans hJ,⟨Dc,AJ⟩,hS.s⟩
 refine .skip (.ck [0,9] (σ:=Unit) (λ_ _m=>_m) (λ_ w=>Aa B w J1 (Ae b9 [S (Xh x.p.lo (Xl x.p.ps s.Z (A7 x.args px)).2 (X9 x.args Af) (X9 x.args X6)).1.1.url,S (Xh x.p.lo (Xl x.p.ps s.Z (A7 x.args px)).2 (X9 x.args Af) (X9 x.args X6)).1.1.AX,S (Xh x.p.lo (Xl x.p.ps s.Z (A7 x.args px)).2 (X9 x.args Af) (X9 x.args X6)).1.1.BP] 406::CX x s ha hc::Bg x.p (if ab=true then RM (Xh x.p.lo (Xl x.p.ps s.Z (A7 x.args px)).2 (X9 x.args Af) (X9 x.args X6)).2 { (getD (Xh x.p.lo (Xl x.p.ps s.Z (A7 x.args px)).2 (X9 x.args Af) (X9 x.args X6)).2.l (Xh x.p.lo (Xl x.p.ps s.Z (A7 x.args px)).2 (X9 x.args Af) (X9 x.args X6)).1.1.BP)with Bq:=1 } else(Xh x.p.lo (Xl x.p.ps s.Z (A7 x.args px)).2 (X9 x.args Af) (X9 x.args X6)).2)::As)) ?_ ?_)
 ·refine .ck [0,2,9] (σ:=Nat) (λDe _m=>(10,ptr De 0)::_m) (λDe w=>Aa B w J1 (Ae De [Ab (getD (Xh x.p.lo (Xl x.p.ps s.Z (A7 x.args px)).2 (X9 x.args Af) (X9 x.args X6)).2.l (Xh x.p.lo (Xl x.p.ps s.Z (A7 x.args px)).2 (X9 x.args Af) (X9 x.args X6)).1.1.BP).kind,S (getD (Xh x.p.lo (Xl x.p.ps s.Z (A7 x.args px)).2 (X9 x.args Af) (X9 x.args X6)).2.l (Xh x.p.lo (Xl x.p.ps s.Z (A7 x.args px)).2 (X9 x.args Af) (X9 x.args X6)).1.1.BP).name,S (getD (Xh x.p.lo (Xl x.p.ps s.Z (A7 x.args px)).2 (X9 x.args Af) (X9 x.args X6)).2.l (Xh x.p.lo (Xl x.p.ps s.Z (A7 x.args px)).2 (X9 x.args Af) (X9 x.args X6)).1.1.BP).parent,S (getD (Xh x.p.lo (Xl x.p.ps s.Z (A7 x.args px)).2 (X9 x.args Af) (X9 x.args X6)).2.l (Xh x.p.lo (Xl x.p.ps s.Z (A7 x.args px)).2 (X9 x.args Af) (X9 x.args X6)).1.1.BP).user,S (getD (Xh x.p.lo (Xl x.p.ps s.Z (A7 x.args px)).2 (X9 x.args Af) (X9 x.args X6)).2.l (Xh x.p.lo (Xl x.p.ps s.Z (A7 x.args px)).2 (X9 x.args Af) (X9 x.args X6)).1.1.BP).service,S (getD (Xh x.p.lo (Xl x.p.ps s.Z (A7 x.args px)).2 (X9 x.args Af) (X9 x.args X6)).2.l (Xh x.p.lo (Xl x.p.ps s.Z (A7 x.args px)).2 (X9 x.args Af) (X9 x.args X6)).1.1.BP).url,Ab (getD (Xh x.p.lo (Xl x.p.ps s.Z (A7 x.args px)).2 (X9 x.args Af) (X9 x.args X6)).2.l (Xh x.p.lo (Xl x.p.ps s.Z (A7 x.args px)).2 (X9 x.args Af) (X9 x.args X6)).1.1.BP).made,Ab (getD (Xh x.p.lo (Xl x.p.ps s.Z (A7 x.args px)).2 (X9 x.args Af) (X9 x.args X6)).2.l (Xh x.p.lo (Xl x.p.ps s.Z (A7 x.args px)).2 (X9 x.args Af) (X9 x.args X6)).1.1.BP).used,Ab (getD (Xh x.p.lo (Xl x.p.ps s.Z (A7 x.args px)).2 (X9 x.args Af) (X9 x.args X6)).2.l (Xh x.p.lo (Xl x.p.ps s.Z (A7 x.args px)).2 (X9 x.args Af) (X9 x.args X6)).1.1.BP).Bq,.bool (getD (Xh x.p.lo (Xl x.p.ps s.Z (A7 x.args px)).2 (X9 x.args Af) (X9 x.args X6)).2.l (Xh x.p.lo (Xl x.p.ps s.Z (A7 x.args px)).2 (X9 x.args Af) (X9 x.args X6)).1.1.BP).fresh] 188::Ae b9 [S (Xh x.p.lo (Xl x.p.ps s.Z (A7 x.args px)).2 (X9 x.args Af) (X9 x.args X6)).1.1.url,S (Xh x.p.lo (Xl x.p.ps s.Z (A7 x.args px)).2 (X9 x.args Af) (X9 x.args X6)).1.1.AX,S (Xh x.p.lo (Xl x.p.ps s.Z (A7 x.args px)).2 (X9 x.args Af) (X9 x.args X6)).1.1.BP] 406::CX x s ha hc::Bg x.p (Xh x.p.lo (Xl x.p.ps s.Z (A7 x.args px)).2 (X9 x.args Af) (X9 x.args X6)).2::As)) ?_ ?_
  ·replace hS:=hS.px [3];obtain⟨⟨a,c,ma,mc⟩,hS⟩:=Aa.unbox hS;replace hS:Aa B _ _ (Ae x.p.wb (DX x.p (Xh x.p.lo (Xl x.p.ps s.Z (A7 x.args px)).2 (X9 x.args Af) (X9 x.args X6)).2) 101::B7 x.p.tb (Xh x.p.lo (Xl x.p.ps s.Z (A7 x.args px)).2 (X9 x.args Af) (X9 x.args X6)).2.room a c (Xh x.p.lo (Xl x.p.ps s.Z (A7 x.args px)).2 (X9 x.args Af) (X9 x.args X6)).2.l (Ae x.p.mb [.slice ma (Xh x.p.lo (Xl x.p.ps s.Z (A7 x.args px)).2 (X9 x.args Af) (X9 x.args X6)).2.D.length mc] 193::EN 22 (.slice ma (Xh x.p.lo (Xl x.p.ps s.Z (A7 x.args px)).2 (X9 x.args Af) (X9 x.args X6)).2.D.length mc) ((Xh x.p.lo (Xl x.p.ps s.Z (A7 x.args px)).2 (X9 x.args Af) (X9 x.args X6)).2.D.map λd=>BH (d:Nat))::_)):=hS;refine gD [7,0,4] [] [0,1,2,3,4,5,6,7,8] ?_;clear hS;intro w hS;refine gH 9 (gB 9 13 [10,11,12,13,14,15] [9,10,11,12,14,15] ?_ ?_)
   ·refine gE 0 (Uy x.p.tb (Xh x.p.lo (Xl x.p.ps s.Z (A7 x.args px)).2 (X9 x.args Af) (X9 x.args X6)).2.room a c (Xh x.p.lo (Xl x.p.ps s.Z (A7 x.args px)).2 (X9 x.args Af) (X9 x.args X6)).2.l (oh G5.len) (Xh x.p.lo (Xl x.p.ps s.Z (A7 x.args px)).2 (X9 x.args Af) (X9 x.args X6)).1.1.BP) ?_;clear hS;intro w hS;refine gH 4 ?_;clear hS;intro De w hS;refine gH 1 ?_;clear hS;intro w hS;refine gG 1 ?_;replace hS:=Aa.box (T:=C7 x.p (Xh x.p.lo (Xl x.p.ps s.Z (A7 x.args px)).2 (X9 x.args Af) (X9 x.args X6)).2) (a,c,ma,mc) (hS.px [5,5,4,4,5]);exact cd De (hS.z [4,3,3] 4 1)
   ·refine gH 1 ?_;clear hS;intro De w hS;refine gE 0 (Uy x.p.tb (Xh x.p.lo (Xl x.p.ps s.Z (A7 x.args px)).2 (X9 x.args Af) (X9 x.args X6)).2.room a c (Xh x.p.lo (Xl x.p.ps s.Z (A7 x.args px)).2 (X9 x.args Af) (X9 x.args X6)).2.l (oh G5.len) (Xh x.p.lo (Xl x.p.ps s.Z (A7 x.args px)).2 (X9 x.args Af) (X9 x.args X6)).1.1.BP) ?_;clear hS;intro w hS;refine gH 4 ?_;clear hS;intro w hS;refine gG 1 ?_;replace hS:=Aa.box (T:=C7 x.p (Xh x.p.lo (Xl x.p.ps s.Z (A7 x.args px)).2 (X9 x.args Af) (X9 x.args X6)).2) (a,c,ma,mc) (hS.px [5,5,3,3,5]);exact cd De (hS.z [4,3,3] 4 1)
  rintro De w hS;refine gM 1 ?_ ?_<;>intro AaF AhE
  ·refine gG 2 ?_;clear hS;intro w hS;replace hS:=hS.px [3];obtain⟨⟨a,c,ma,mc⟩,hS⟩:=Aa.unbox hS;replace hS:Aa B _ _ (Ae x.p.wb (DX x.p (Xh x.p.lo (Xl x.p.ps s.Z (A7 x.args px)).2 (X9 x.args Af) (X9 x.args X6)).2) 101::B7 x.p.tb (Xh x.p.lo (Xl x.p.ps s.Z (A7 x.args px)).2 (X9 x.args Af) (X9 x.args X6)).2.room a c (Xh x.p.lo (Xl x.p.ps s.Z (A7 x.args px)).2 (X9 x.args Af) (X9 x.args X6)).2.l (Ae x.p.mb [.slice ma (Xh x.p.lo (Xl x.p.ps s.Z (A7 x.args px)).2 (X9 x.args Af) (X9 x.args X6)).2.D.length mc] 193::EN 22 (.slice ma (Xh x.p.lo (Xl x.p.ps s.Z (A7 x.args px)).2 (X9 x.args Af) (X9 x.args X6)).2.D.length mc) ((Xh x.p.lo (Xl x.p.ps s.Z (A7 x.args px)).2 (X9 x.args Af) (X9 x.args X6)).2.D.map λd=>BH (d:Nat))::_)):=hS;refine gD [7,0,4] [] [0,1,2,3,4,5,6,7,8] ?_;clear hS;intro w hS;refine gE 8 (Xjy x.p.tb (Xh x.p.lo (Xl x.p.ps s.Z (A7 x.args px)).2 (X9 x.args Af) (X9 x.args X6)).2.room a c (Xh x.p.lo (Xl x.p.ps s.Z (A7 x.args px)).2 (X9 x.args Af) (X9 x.args X6)).2.l (oh G5.len) { (getD (Xh x.p.lo (Xl x.p.ps s.Z (A7 x.args px)).2 (X9 x.args Af) (X9 x.args X6)).2.l (Xh x.p.lo (Xl x.p.ps s.Z (A7 x.args px)).2 (X9 x.args Af) (X9 x.args X6)).1.1.BP)with Bq:=1 } (Xo0 G5.wf _).1 (Xo0 G5.wf _).2 Qb.wp.known Qb.wp.pre) ?_;clear hS;intro w hS;refine gG 0 ?_;replace hS:=Aa.box (T:=C7 x.p (RM (Xh x.p.lo (Xl x.p.ps s.Z (A7 x.args px)).2 (X9 x.args Af) (X9 x.args X6)).2 { (getD (Xh x.p.lo (Xl x.p.ps s.Z (A7 x.args px)).2 (X9 x.args Af) (X9 x.args X6)).2.l (Xh x.p.lo (Xl x.p.ps s.Z (A7 x.args px)).2 (X9 x.args Af) (X9 x.args X6)).1.1.BP)with Bq:=1 })) (a,c,ma,mc) (hS.px [4,4,3,3,4]);exact cd () (by rw[Y7 AaF];exact(hS.z [3,3] 3 1))
  exact gG 0 (cd () (by rw[Y3 (nB AaF)];exact(hS.z [3,3,3] 3 1)))
 rintro _ w hS;refine gE 2 (Xwu (Xh x.p.lo (Xl x.p.ps s.Z (A7 x.args px)).2 (X9 x.args Af) (X9 x.args X6)).1.1.url (Xh x.p.lo (Xl x.p.ps s.Z (A7 x.args px)).2 (X9 x.args Af) (X9 x.args X6)).1.1.AX (Xh x.p.lo (Xl x.p.ps s.Z (A7 x.args px)).2 (X9 x.args Af) (X9 x.args X6)).1.1.BP (Yx IA.1 de) IA.2.1 IA.2.2 Qb.kz.kn) ?_;clear hS;intro w hS;refine gG 6 ?_;clear hS;intro w hS;have e9:FO (Bx x.p qc) x.args px ab s={ s with Z:=(if ab=true then RM (Xh x.p.lo (Xl x.p.ps s.Z (A7 x.args px)).2 (X9 x.args Af) (X9 x.args X6)).2 { (getD (Xh x.p.lo (Xl x.p.ps s.Z (A7 x.args px)).2 (X9 x.args Af) (X9 x.args X6)).2.l (Xh x.p.lo (Xl x.p.ps s.Z (A7 x.args px)).2 (X9 x.args Af) (X9 x.args X6)).1.1.BP)with Bq:=1 } else(Xh x.p.lo (Xl x.p.ps s.Z (A7 x.args px)).2 (X9 x.args Af) (X9 x.args X6)).2),call:=(yo (Xh x.p.lo (Xl x.p.ps s.Z (A7 x.args px)).2 (X9 x.args Af) (X9 x.args X6)).1.1.url (Xh x.p.lo (Xl x.p.ps s.Z (A7 x.args px)).2 (X9 x.args Af) (X9 x.args X6)).1.1.AX (Xh x.p.lo (Xl x.p.ps s.Z (A7 x.args px)).2 (X9 x.args Af) (X9 x.args X6)).1.1.BP).1 }:=by
  unfold FO Bx;dsimp only
  rw[Y3 AL];exact Y3 (oh JS)
 rw[e9];exact⟨O,J1,ha,hc,Bn,⟨FU.1,FU.2.mono Bn⟩,hS.s⟩
theorem Xpl(qc:Qc)(x:Lp)(s:B4)(ha:Oa)(hc:Nat)(hZ:BL s.Z)(hX:Du I x)(FU:Iu I ha hc s.Aj)(As:La)(hS:Aa B w I (CX x s ha hc::Bg x.p s.Z::As)):Cz 102 [ptr x.tp 0] w λv w'=>v=.tuple #[]/\∃J ha hc,Le I J/\Iu J ha hc (FO (Bx x.p qc) x.args false false s).Aj/\Aa B w' J (CX x (FO (Bx x.p qc) x.args false false s) ha hc::Bg x.p (FO (Bx x.p qc) x.args false false s).Z::As):=by
 refine gF 1 (Xaw qc false false x s ha hc hZ hX FU) ?_;clear hS;rintro _ w ⟨rfl,J,na,nc,hJ,EP,hS⟩;exact gG 0 ⟨O,J,na,nc,hJ,EP,hS⟩
theorem Xpk(qc:Qc)(x:Lp)(s:B4)(ha:Oa)(hc:Nat)(hZ:BL s.Z)(hX:Du I x)(FU:Iu I ha hc s.Aj)(As:La)(hS:Aa B w I (CX x s ha hc::Bg x.p s.Z::As)):Cz 103 [ptr x.tp 0] w λv w'=>v=.tuple #[]/\∃J ha hc,Le I J/\Iu J ha hc (FO (Bx x.p qc) x.args true false s).Aj/\Aa B w' J (CX x (FO (Bx x.p qc) x.args true false s) ha hc::Bg x.p (FO (Bx x.p qc) x.args true false s).Z::As):=by
 refine gF 1 (Xaw qc true false x s ha hc hZ hX FU) ?_;clear hS;rintro _ w ⟨rfl,J,na,nc,hJ,EP,hS⟩;exact gG 0 ⟨O,J,na,nc,hJ,EP,hS⟩
theorem Xdl(qc:Qc)(x:Lp)(s:B4)(ha:Oa)(hc:Nat)(hZ:BL s.Z)(hX:Du I x)(FU:Iu I ha hc s.Aj)(As:La)(hS:Aa B w I (CX x s ha hc::Bg x.p s.Z::As)):Cz 104 [ptr x.tp 0] w λv w'=>v=.tuple #[]/\∃J ha hc,Le I J/\Iu J ha hc (FO (Bx x.p qc) x.args false true s).Aj/\Aa B w' J (CX x (FO (Bx x.p qc) x.args false true s) ha hc::Bg x.p (FO (Bx x.p qc) x.args false true s).Z::As):=by
 refine gF 1 (Xaw qc false true x s ha hc hZ hX FU) ?_;clear hS;rintro _ w ⟨rfl,J,na,nc,hJ,EP,hS⟩;exact gG 0 ⟨O,J,na,nc,hJ,EP,hS⟩
theorem Xdk(qc:Qc)(x:Lp)(s:B4)(ha:Oa)(hc:Nat)(hZ:BL s.Z)(hX:Du I x)(FU:Iu I ha hc s.Aj)(As:La)(hS:Aa B w I (CX x s ha hc::Bg x.p s.Z::As)):Cz 105 [ptr x.tp 0] w λv w'=>v=.tuple #[]/\∃J ha hc,Le I J/\Iu J ha hc (FO (Bx x.p qc) x.args true true s).Aj/\Aa B w' J (CX x (FO (Bx x.p qc) x.args true true s) ha hc::Bg x.p (FO (Bx x.p qc) x.args true true s).Z::As):=by
 refine gF 1 (Xaw qc true true x s ha hc hZ hX FU) ?_;clear hS;rintro _ w ⟨rfl,J,na,nc,hJ,EP,hS⟩;exact gG 0 ⟨O,J,na,nc,hJ,EP,hS⟩
def RO(g:Cg)(k:Nat)(l:List Pq)(ck:List UInt8)(s:B4):B4:=match k with
 | 0=>F_ g l ck s
 | 1=>HV g l s
 | 2=>Mc g ck s
 | 3=>Xv9 g l s
 | 4=>FO g l false false s
 | 5=>FO g l true false s
 | 6=>FO g l false true s
 | 7=>FO g l true true s
 | _=>Xuh g l s
def Pf:List Nat:=[98,99,100,101,102,103,104,105,106]
def Ep:List Lu:=[[71,69,84,32,47,108,111,103,105,110],[80,79,83,84,32,47,108,111,103,105,110],[71,69,84,32,47,108,111,103,111,117,116],[71,69,84,32,47,118,97,108,105,100,97,116,101],[71,69,84,32,47,115,101,114,118,105,99,101,86,97,108,105,100,97,116,101],[71,69,84,32,47,112,114,111,120,121,86,97,108,105,100,97,116,101],[71,69,84,32,47,112,51,47,115,101,114,118,105,99,101,86,97,108,105,100,97,116,101],[71,69,84,32,47,112,51,47,112,114,111,120,121,86,97,108,105,100,97,116,101],[71,69,84,32,47,112,114,111,120,121]]
theorem cW(s:B4)(n wr:Lu):(JD s n wr).q=s.q:=by unfold JD HE;split<;>rfl
theorem lh{g:Cg}{l:List Pq}{ck:Lu}{s:B4}(hk:k≠2):(RO g k l ck s).q=s.q:=by
 have h4:∀a b,(FO g l a b s).q=s.q:=λa b=>by
  unfold FO;dsimp only
  (repeat' split)
  all_goals rfl
 match k,hk with
 | 0,_=>show(F_ g l ck s).q=s.q;unfold F_ HE;dsimp only;(repeat' split)<;>first|rfl|exact cW _ _ _
 | 1,_=>show(HV g l s).q=s.q;unfold HV Nh HE;dsimp only;(repeat' split)<;>first|rfl|exact cW _ _ _
 | 3,_=>rfl
 | 4,_=>exact h4 _ _
 | 5,_=>exact h4 _ _
 | 6,_=>exact h4 _ _
 | 7,_=>exact h4 _ _
 | k+8,_=>rfl
theorem VT{Z:Wd}(h:BL Z)(t:Lu):BL (IC Z t):=by
 unfold IC;split
 ·exact Xdr h t
 ·exact h
theorem Sn{s:B4}(h:BL s.Z)(n wr:Lu):BL (JD s n wr).Z:=by unfold JD HE;split<;>exact Kh h _
theorem Xzl{g:Cg}{l:List Pq}{sv:Lu}{s:B4}(h:BL s.Z):BL (Nh g l Ap sv s).Z:=by
 unfold Nh HE;dsimp only
 repeat' split
 all_goals first|exact h|exact Xo3 h _ _ _
theorem wk{g:Cg}{l:List Pq}{ck:Lu}{s:B4}(h:BL s.Z):BL (RO g k l ck s).Z:=by
 have h4:∀a b,BL (FO g l a b s).Z:=λa b=>by
  have h1:=xI (ps:=g.ps) h (A7 l a);have h2:=Xtl (lo:=g.lo) h1 (X9 l Af) (X9 l X6);unfold FO;dsimp only;split
  ·exact h1
  ·split
   ·exact h2
   ·dsimp only;split
    ·exact Xli h2 _
    ·exact h2
 match k with
 | 0=>show BL (F_ g l ck s).Z;unfold F_ HE;dsimp only;(repeat' split)<;>first|exact h|exact Sn h _ _|exact Xo3 h _ _ _
 | 1 =>
  have h1:=Xok (us:=g.us) (ps:=g.ps) h (X9 l BI) (X9 l Am) (X9 l Aq);show BL (HV g l s).Z;unfold HV HE;dsimp only;repeat' split
  all_goals first|exact h|exact h1|exact Sn h1 _ _|exact Xzl h1
 | 2=>show BL (Mc g ck s).Z;unfold Mc HE;dsimp only;split<;>exact VT h ck
 | 3=>exact xI h _
 | 4=>exact h4 _ _
 | 5=>exact h4 _ _
 | 6=>exact h4 _ _
 | 7=>exact h4 _ _
 | k+8=>exact WU h _ _
def pE(x:Lp)(qc:Qc)(F:B4)(B:Wo)(I:Im)(As:La)(v:Va)(w':Wo):Prop :=
 v=.tuple #[]/\∃J ha hc qa qk,Le I J/\Iu J ha hc F.Aj/\Fl J qa qk F.q/\Aa B w' J (CX x F ha hc::GK x.qb qc F.q qa qk::Bg x.p F.Z::As)
theorem pV{x:Lp}{qc:Qc}{F:B4}{q:List Nt}{qa:Oa}{qk f:Nat}(hq:F.q=q)(hQ:Fl I qa qk q)
  (h:Calls prog f #[ptr x.tp 0] w (A4 λv w'=>v=.tuple #[]/\∃J ha hc,Le I J/\Iu J ha hc F.Aj/\Aa B w' J (CX x F ha hc::Bg x.p F.Z::GK x.qb qc q qa qk::As))):Calls prog f #[ptr x.tp 0] w (A4 (pE x qc F B I As)) :=
 h.mono λe w' ⟨v,he,hv,J,ha,hc,hJ,hR,hS⟩=>⟨v,he,hv,J,ha,hc,qa,qk,hJ,hR,by rw[hq];exact⟨hQ.1,hQ.2.mono hJ⟩,by rw[hq];exact hS.x [2,1]⟩
theorem gX(qc:Qc)(qa:Oa)(qk:Nat)(x:Lp)(s:B4)(ha:Oa)(hc:Nat)(hZ:BL s.Z)(hq:Uc s.q)(hX:Du I x)(hQ:Fl I qa qk s.q)(FU:Iu I ha hc s.Aj)(As:La)(hS:Aa B w I (CX x s ha hc::GK x.qb qc s.q qa qk::Bg x.p s.Z::As))(k:Nat)(hk:k<9):Calls prog (Pf.getD k 0) #[ptr x.tp 0] w (A4 (pE x qc (RO (Bx x.p qc) k x.args x.ck s) B I As)):=by
 have Bo:=(hS.pick 2 O).pick 1 O
 match k,hk with
 | 0,_=>exact pV (lh (k:=0) de) hQ (Xyx qc x s ha hc hZ hX _ Bo)
 | 1,_=>exact pV (lh (k:=1) de) hQ (Xst qc x s ha hc hZ hX _ Bo)
 | 2,_=>exact Xpm qc qa qk x s ha hc hZ hq.1 hX hQ As hS
 | 3,_=>exact pV (lh (k:=3) de) hQ (Xyy qc x s ha hc hZ hX _ Bo)
 | 4,_=>exact pV (lh (k:=4) de) hQ (Xpl qc x s ha hc hZ hX FU _ Bo)
 | 5,_=>exact pV (lh (k:=5) de) hQ (Xpk qc x s ha hc hZ hX FU _ Bo)
 | 6,_=>exact pV (lh (k:=6) de) hQ (Xdl qc x s ha hc hZ hX FU _ Bo)
 | 7,_=>exact pV (lh (k:=7) de) hQ (Xdk qc x s ha hc hZ hX FU _ Bo)
 | 8,_=>exact pV (lh (k:=8) de) hQ (Xyw qc x s ha hc hZ hX _ Bo)
 | k+9,hk=>exact Yy hk om
def olT(p:Wp)(Z:Wd):Oa×Nat->La:=λ⟨a,c⟩=>[Ae p.wb (DX p Z) 101,Ae p.tb [Ab Z.room,.slice a Z.l.length c] 186,Ar 188 10 (.slice a Z.l.length c) Z.l.length (DE Z.l)]
abbrev olA(p:Wp)(Z:Wd):X1:=zz (olT p Z)
theorem TX(p:Wp)(Z:Wd):(DX p Z).length=26:=rfl
abbrev Ib(vb sb wb qb:Nat):X1:=Ae vb [ptr sb 0,ptr wb 0,ptr qb 0] 84
theorem Vp(qc:Qc)(vb sb qb:Nat)(qa:Oa)(qk:Nat)(q:List Nt)(p:Wp)(Z:Wd)(hZ:BL Z)(hq:Uc q)(hQ:Fl I qa qk q)(As:La)(hS:Aa B w I (Ib vb sb p.wb qb::Bg p Z::GK qb qc q qa qk::As)):Cz 42 [ptr vb 0] w λv w'=>∃J tp nq nb tc fQ fR,v=ptr tp 0/\Le I J/\Fl J fQ fR q/\Aa B w' J (CX ⟨tp,nq,{ p with wb:=nb,tb:=tc },none,0,[],[]⟩ ⟨Z,q,oL,[],false⟩ none 0::GK nq qc q fQ fR::Bg { p with wb:=nb,tb:=tc } Z::olA p Z::Ib vb sb p.wb qb::GK qb qc q qa qk::As):=by
 refine gG 1 ?_;replace hS:=hS.px [1];obtain⟨a,c,ma,mc,hS⟩:=Kv hS;refine gH 5 ?_;refine .val (.GG (vs:=DX p Z) (.of O) hS (k:=0) O isAgg101 sizeOf101 O (λj v hj=>by rw[Yj];exact hj)) O ?_;refine gH 1 ?_;clear hS;intro b3 w hS;refine .CX (vs:=DX p Z) hS (k:=0) O (.of O) (.of O) O sizeOf101 O sz ?_;clear hS;intro w hS;try dsimp only[List.set]at hS
 refine gH 1 (.val (.lo O hS (k:=0) O Z1 O) O (gF 0 (Xpz p.tb Z.room a c Z.l (oh hZ.len)) ?_));clear hS;rintro _ w ⟨tc,na,nc,rfl,hS⟩;refine gH 1 (.s1 hS (k:=4) O O O O Uj (by simp[TX]) ?_);clear hS;intro w hS;try dsimp only[List.set]at hS
 refine gP 4 [9] (XR qb _ _ _ _ qa qk q (oh hq.1) hQ.2 _) ?_;clear hS;rintro _ w ⟨J2,qn,fQ,fR,rfl,AE,Adm,Acg,hS⟩;have Bn:=Le.refl I;refine gG 3 ?_;clear hS;intro tj w hS;replace hS:=Aa.box (T:=olT p Z) (a,c) (hS.px [6,6,8]);replace hS:=Aa.box (T:=C7 { p with wb:=b3,tb:=tc } Z) (na,nc,ma,mc) (hS.px [8,8,7,7,8]);exact⟨J2,tj,qn,b3,tc,fQ,fR,O,Bn.trans AE,⟨Adm,Acg⟩,(hS.x [4,5,3,3,5,5])⟩
theorem fu(r s:Nt)(w:Wo):(Op.equalIn 10000 89 (.agg (Xa r).toArray) (.agg (Xa s).toArray)).run prog w=.ok (decide (r=s)) w:=by
 have hS:prog.underlying 89=some (.struct (prog.fieldsOf 89)):=by kernel_rfl
 have hp:prog.stoodInHeld 89=false:=by kernel_rfl
 have ui:=Dq;have ai:=Cv;have us:=BV;have as9:=BF;rw[show(10000:Nat)=9999+1 from O,run_equalIn_agg w 9999 89 _ _ hS hp];simp only[Program.fieldsOf,Uq]
 obtain⟨t,u,k,n⟩:=r;obtain⟨t',u',k',n'⟩:=s;unfold Xa
 go_simp
 repeat' split
 all_goals simp_all
theorem Ex.Ab6{d:Option Nat}{g:Option (Nat×Bool)}{x y:Operand}{r s:Nt}(hx:Ev n L x (.agg (Xa r).toArray))(hy:Ev n L y (.agg (Xa s).toArray)):Ex prog n L w ⟨d,.binOp .eql 89 x y t',ty,pos,af,g⟩ (.bool (decide (r=s))) w :=
 Fa hx hy (λp q=>run_eqGuard_agg w _ _ _ _ _ _ kr) (by rw[run_eql_struct,fu];rfl)
theorem Xs4(a:Oa)(c:Nat)(l:List Nt)(hl:l.length<=100000)(n:Nt)(hR:RS I a 4 l.length (X2 Xa l))(As:La)(hS:Aa B w I As):Ce B I As 290 [.slice a l.length c,.agg (Xa n).toArray] w (Ab (D8 (λt=>decide (n=t)) l 0)):=by
 refine gG 5 ?_;clear hS;intro b3 w hS;refine .lk [0,3,7] (σ:=Nat) (λi _m=>(8,Ab (i:Nat))::_m) (λi w=>i<=l.length/\(∀(j:Nat) t,j<i->l[j]?=some t->decide (n=t)=false)/\Aa B w I (Ae b3 (Xa n) 89::As)) (λi=>l.length-i) 0 ⟨Y4 _,λ_ _ h=>Yy h om,hS⟩ ?_;rintro i w ⟨hi,AL,hS⟩;refine gN 1 ?_ ?_<;>intro DV
 ·refine gG 2 ?_;obtain⟨x,hx⟩:∃x,l[i]?=some x:=⟨_,Y2 om⟩
  obtain⟨q,rfl,F7⟩:=AQ (cells:=Xa) (s:=4) (λ_=>rfl) hR hx;refine gQ ?_;clear hS;intro w hS;refine Br.y 0 (λw _ _ A6 hS=>(.GG (vs:=Xa n) (.of O) hS (k:=0) O isAgg89 Z6 O (λ_ _ h=>by rw[Yj];exact h))) ?_;refine gH 2 (Br.y 3 (λw _ _ A6 hS=>(Ex.as (.ii O O om om kC Z6) (by rw[Y8]))) ?_);refine Br.y 4 (λw _ _ A6 hS=>(.Cy (us:=Xa x) (.of O) hS (F7.mono A6) isAgg89 Z6 O (λ_ _ h=>h))) (Br.y 5 (λw _ _ A6 hS=>Ex.Ab6 (r:=n) (s:=x) (.of O) (.of O)) ?_);refine gM 0 ?_ ?_<;>intro B6 C1
  ·exact gG 2 ⟨by rw[pJ AL hx B6],hS.s⟩
  refine gG 2 (rd (i+1) ⟨od,λj t hj ht=>?_,hS⟩);rcases C5 j i with h1|h1
  ·exact AL j t h1 ht
  ·have e:j=i:=om
   subst e;rw[hx]at ht;cases ht;exact B6
 exact gG 1 ⟨by rw[pG (λj t ht=>AL j t (oh ((Y1.1 ht).1)) ht)],hS.s⟩
theorem Xho(a:Oa)(c:Nat)(l:List Nt)(hl:l.length<=100000)(n:Nt)(hR:RS I a 4 l.length (X2 Xa l))(As:La)(hS:Aa B w I As):Ce B I As 201 [.slice a l.length c,.agg (Xa n).toArray] w (.bool (l.contains n)):=by
 refine gH 4 ?_;clear hS;intro b3 w hS;refine gE 0 (Xs4 a c l hl n hR) ?_;clear hS;intro w hS;refine gG 2 (⟨Y5 Value.bool ?_,hS.s⟩);rw[kG (λt=>decide (n=t)) l 0,List.contains_eq_any_beq];rfl
theorem Vx(r n:Nt)(b3:Nat)(As:La)(hS:Aa B w I (Ae b3 (Xa n) 89::As)):Ce B I (Ae b3 (Xa n) 89::As) 200 [.agg (Xa r).toArray,ptr b3 0] w (.bool (r.ticket==n.ticket)):=by
 refine gG 8 ?_;clear hS;intro b2 w hS;exact⟨O,hS.s⟩
theorem bU(a:Oa)(c:Nat)(l:List Nt)(hl:l.length<=100000)(n:Nt)(hR:RS I a 4 l.length (X2 Xa l))(As:La)(hS:Aa B w I As):Ce B I As 199 [.slice a l.length c,.agg (Xa n).toArray] w (Ab (jR l n.ticket)):=by
 refine gH 4 ?_;clear hS;intro b3 w hS;refine gP 0 [] (X4p a c l om (λt=>t.ticket==n.ticket) 200 _ func200 O [ptr b3 0] _ (λw h=>aP (cells:=Xa) (s:=4) (λ_=>rfl) h hR) (λr hr w h=>Vx r n b3 _ h)) ?_;clear hS;rintro _ w ⟨rfl,hS⟩;exact gG 1 ⟨O,hS.s⟩
theorem Xr0{la lb:List Nt}(h1:la.length<=1000)(h2:lb.length<=1000)(i:Nat):(((la.take i).filter λn=>decide (jR lb n.ticket<0)).map (λn=>(⟨D2++n.ticket,[],true⟩:Ch))).length<=1000/\(aW la lb++((lb.take i).filter λn=>!la.contains n).map (λn=>(⟨D2++n.ticket,(Mq n).1,false⟩:Ch))).length<=2000/\(aW la lb++XD la lb).length<=2000:=by
 have h3:∀i,(((la.take i).filter λn=>decide (jR lb n.ticket<0)).map (λn=>(⟨D2++n.ticket,[],true⟩:Ch))).length<=la.length:=λi=>by rw[Yh];exact Yx (Yw ..) (by rw[Yl];omega)
 have h4:(aW la lb).length<=la.length:=by unfold aW;rw[Yh];exact Yw ..
 have h5:∀i,(((lb.take i).filter λn=>!la.contains n).map λn=>(⟨D2++n.ticket,(Mq n).1,false⟩:Ch)).length<=lb.length:=λi=>by rw[Yh];exact Yx (Yw ..) (by rw[Yl];omega)
 have h6:(XD la lb).length<=lb.length:=by unfold XD;rw[Yh];exact Yw ..
 refine⟨Yx (h3 i) h1,?_,?_⟩
 ·have:=h5 i;rw[Y0];omega
 ·rw[Y0];omega
theorem Xqz(la lb:List Nt)(aa ba:Oa)(ac bc:Nat)(NV:la.length<=1000)(LP:lb.length<=1000)(hsa:∀n∈la,n.ticket.length<=1000000/\n.url.length<=1000000)(Hw:∀n∈lb,n.ticket.length<=1000000/\n.url.length<=1000000)(hK:Kx I)(hP:BB I)(KF:RS I aa 4 la.length (X2 Xa la))(IE:RS I ba 4 lb.length (X2 Xa lb))(As:La)(hS:Aa B w I As):Cz 113 [.slice aa la.length ac,.slice ba lb.length bc] w λv w'=>∃kv,v=kv/\Aa B w' I (Ar 270 3 kv (OI la lb).length (X2 Fy (OI la lb))::As):=by
 have Bh:=hS.An 270 3;clear hS;refine gG 6 (.lk [0,1,6,13,14] (σ:=Nat×Va) (λ(i,kv) _m=>(5,kv)::(15,Ab (i:Nat))::_m) (λ(i,kv) w=>i<=la.length/\Aa B w I (Ar 270 3 kv (((la.take i).filter λn=>decide (jR lb n.ticket<0)).map (λn=>(⟨D2++n.ticket,[],true⟩:Ch))).length (X2 Fy (((la.take i).filter λn=>decide (jR lb n.ticket<0)).map (λn=>(⟨D2++n.ticket,[],true⟩:Ch))))::As)) (λ(i,kv)=>la.length-i) (0,.slice none 0 0) ⟨Y4 _,Bh⟩ ?_);rintro⟨i,kv⟩ w ⟨hi,hS⟩;clear Bh;refine gM 1 ?_ ?_<;>intro B6 C1
 ·refine gG 0 ?_;obtain⟨x,hx⟩:∃x,la[i]?=some x:=⟨_,Y2 om⟩
  obtain⟨q,rfl,F7⟩:=AQ (cells:=Xa) (s:=4) (λ_=>rfl) KF hx;refine gH 7 ?_;clear hS;intro b8 w hS;refine .B0 (cap:=[]) func199 O (.of O) (Be O (Be O X4)) O (bU ba bc lb om x IE _ hS) ?_;clear hS;rintro _ w ⟨rfl,hS⟩;refine gM 1 ?_ ?_<;>intro EH Dy
  ·have LS:=(Xr0 NV LP i).1;have CW:=hsa x (Y6 hx);refine gG 10 ?_;clear hS;intro b29 a30 c30 AcD w hS;refine E_ (i+1,_) O ⟨od,?_⟩
   (try dsimp only)
   rw[pI _ la i x hx,Y7 (su EH),Ym,Yt,Hm,YT,Y0];exact(hS.z [1] 1 1)
  refine gG 2 (E_ (i+1,_) O ⟨od,?_⟩)
  (try dsimp only)
  rw[pI _ la i x hx,Y3 (su EH),Yr];exact(hS.z [1] 1 1)
 refine gG 3 ?_;rw[show la.take i=la from Yg om]at hS;have e9:aW la lb++((lb.take 0).filter λn=>!la.contains n).map (λn=>(⟨D2++n.ticket,(Mq n).1,false⟩:Ch))=aW la lb:=by simp
 have Bh:=hS;clear hS;refine .lk [0,1,32,33] (σ:=Nat×Va) (λ(i,kv) _m=>(5,kv)::(34,Ab (i:Nat))::_m) (λ(i,kv) w=>i<=lb.length/\Aa B w I (Ar 270 3 kv (aW la lb++((lb.take i).filter λn=>!la.contains n).map (λn=>(⟨D2++n.ticket,(Mq n).1,false⟩:Ch))).length (X2 Fy (aW la lb++((lb.take i).filter λn=>!la.contains n).map (λn=>(⟨D2++n.ticket,(Mq n).1,false⟩:Ch))))::As)) (λ(i,kv)=>lb.length-i) (0,kv) ⟨Y4 _,by rw[e9];exact Bh⟩ ?_;rintro⟨i,kv⟩ w ⟨hi,hS⟩;clear Bh;refine gN 1 ?_ ?_<;>intro II
 ·refine gG 0 ?_;obtain⟨x,hx⟩:∃x,lb[i]?=some x:=⟨_,Y2 om⟩
  obtain⟨q,rfl,F7⟩:=AQ (cells:=Xa) (s:=4) (λ_=>rfl) IE hx;refine gH 6 ?_;clear hS;intro De w hS;refine gE 0 (Xho aa ac la om x KF) ?_;clear hS;intro w hS;refine gM 1 ?_ ?_<;>intro Wl Qi
  ·have CW:=Hw x (Y6 hx);refine gE 1 (ZN x CW.1 CW.2 hK hP) ?_;clear hS;intro w hS;have LS:=(Xr0 NV LP i).2.1;refine gG 14 ?_;clear hS;intro b53 a54 c54 AcL w hS;refine gG 2 ?_;have e5:∀(L:List Ch) (c:Ch),(L++[c]).length=L.length+1:=λL c=>by simp
   refine E_ (i+1,_) O ⟨od,?_⟩
   (try dsimp only)
   rw[pI _ lb i x hx,Y7 Wl,Ym,Yt,Hm,<-Yc,YT,e5];exact(hS.z [1] 1 1)
  refine gG 2 (E_ (i+1,_) O ⟨od,?_⟩)
  (try dsimp only)
  rw[pI _ lb i x hx,Y3 (nB Wl),Yr];exact(hS.z [1] 1 1)
 refine gG 0 ?_;rw[show lb.take i=lb from Yg om]at hS;have LS:=(Xr0 NV LP i).2.2;refine gC 1 (Xpt 203 Xqy (aW la lb++XD la lb) kv 0 _ hS O om) ?_;clear hS;rintro _ w ⟨rfl,hS⟩;try dsimp only[List.set]at hS
 exact gG 2 ⟨_,O,hS⟩
structure Kp where
 sb:Nat
 lg:Nat
 db:Nat
 kb:Nat
 mv:Va
 us:Va
 sv:Va
 pl:Va
def ksT(x:Kp)(s:St):Unit->La:=λ_=>[Ae x.sb [ptr x.lg 0,x.mv] 169,Ae x.lg [ptr x.db 0,Ab (s.log).gen,Ab (s.log).Az,Ab (s.log).used,x.us] 262,Ae x.db [.slice (some (ad x.kb 0)) (s.log).d.kept.length (s.log).d.kept.length,x.sv,x.pl,.bool (s.log).d.off,Ab (s.log).d.left] 107,Ae x.kb (X2 Ax (s.log).d.kept) 358,Ar 360 33 x.sv (s.log).d.Ah.length (X2 Kd (s.log).d.Ah),DJ x.mv (s.A9)]
abbrev IX(x:Kp)(s:St):X1:=zz (ksT x s)
structure Jv(J:Im)(x:Kp)(s:St):Prop where
 st:Ut s
 AY:AU J x.pl s.log.d.AY
 data:B1 J x.us s.log.data
 hv:Bt J
theorem Jv.mono{x:Kp}{s:St}(h:Jv I x s)(hl:Le I J):Jv J x s:=⟨h.st,h.AY.mono hl,h.data.mono hl,h.hv.mono hl⟩
theorem Xr2(x:Kp)(s:St)(l:List Ch)(a:Oa)(c0:Nat)(ES:∀x∈l,x.key.length<=1000000/\x.val.length<=1000000)(SL:l.length<=100000)(Qa:RS I a 3 l.length (X2 Fy l))(hX:Jv I x s)(dz:s.A9.length<=900000)(As:La)(hS:Aa B w I (IX x s::As)):Cz 115 [ptr x.sb 0,.slice a l.length c0] w λv w'=>∃J y,v=Ab ((Xu s l).1:Nat)/\Le I J/\y.sb=x.sb/\y.db=x.db/\Jv J y (Xu s l).2/\Aa B w' J (IX y (Xu s l).2::As):=by
 obtain⟨_,hS⟩:=Aa.unbox hS;exact(Xr3 s x.sb x.lg x.db x.kb x.mv x.us x.sv x.pl l a c0 ES SL hX.hv Qa hX.st dz hX.AY hX.data As hS).mono λe w' ⟨v,he,J,vM,Kc,D6,Ed,hv,hJ,hP,hU,hS⟩ =>
  ⟨v,he,J,{ x with mv:=vM,us:=Kc,sv:=D6,pl:=Ed },hv,hJ,O,O,⟨(Xx9 hX.st l).1,hP,hU,hX.hv.mono hJ⟩,Aa.box (T:=ksT { x with mv:=vM,us:=Kc,sv:=D6,pl:=Ed } (Xu s l).2) () hS⟩
theorem l_(r:Al):(PF r).1.length<=1000:=by
 unfold PF;split
 ·rename_i h
  have h1:=zP h;unfold Xt at h;simp only[Yb,dq1]at h
  simp only[HW,OT,KU,Yt,Hm,JG,Y5x,Y0,List.length_cons,List.length_nil,kJ]
  omega
 ·exact Y4 _
theorem l8(n:Nt):(Mq n).1.length<=1000:=by
 by_cases h:(Mq n).2=0
 ·have h1:=(Xkk h).2
  have:OP n=true:=by
   unfold Mq at h;split at h
   ·assumption
   ·cases h
  unfold OP at this;simp only[Yb,dq1]at this
  omega
 ·unfold Mq at h ⊢;split at h
  ·exact Yy O h
  ·rename_i h9;rw[Y3 h9];exact Y4 _
theorem lT{la lb:List Al}{qa qb:List Nt}(ha:∀r∈la,r.name.length<=1000000)(hb:∀r∈lb,r.name.length<=1000000)(h3:∀n∈qa,n.ticket.length<=900000)(h4:∀n∈qb,n.ticket.length<=900000):∀x∈Jg la lb++OI qa qb,x.key.length<=1000000/\x.val.length<=1000000:=by
 intro x hx;rcases Yn.1 hx with hx|hx
 ·rcases Yn.1 ((X8q _).mem_iff.1 hx)with hx|hx
  ·obtain⟨r,hr,rfl⟩:=Fg.1 hx;exact⟨ha r (O4.1 hr).1,Y4 _⟩
  ·obtain⟨r,hr,rfl⟩:=Fg.1 hx;exact⟨hb r (O4.1 hr).1,Yx (l_ r) de⟩
 ·have hk:∀n:Nt,n.ticket.length<=900000->(D2++n.ticket).length<=1000000:=λn h=>by rw[Y0];have:D2.length=5:=rfl;omega
  rcases Yn.1 ((X8q _).mem_iff.1 hx)with hx|hx
  ·obtain⟨r,hr,rfl⟩:=Fg.1 hx;exact⟨hk r (h3 r (O4.1 hr).1),Y4 _⟩
  ·obtain⟨r,hr,rfl⟩:=Fg.1 hx;exact⟨hk r (h4 r (O4.1 hr).1),Yx (l8 r) de⟩
theorem Xto{la lb:List Al}{qa qb:List Nt}(h1:la.length<=64)(h2:lb.length<=64)(h3:qa.length<=64)(h4:qb.length<=64):(Jg la lb).length<=128/\(OI qa qb).length<=128:=by
 unfold Jg OI;rw[pO,pO,Y0,Y0];unfold RE Ov aW XD;simp only[Yh]
 have a1:=Yw (λx:Al=>decide (BG lb x.name<0)) la;have a2:=Yw (λx:Al=>!(get la x.name).isSome||!decide (getD la x.name=x)) lb;have a3:=Yw (λn:Nt=>decide (jR qb n.ticket<0)) qa;have a4:=Yw (λn:Nt=>!qa.contains n) qb;omega
theorem Xi8{p p2:Wp}{Z Z2:Wd}(hy:p2={ p with wb:=p2.wb,tb:=p2.tb })(hS:Aa B w I (olA p Z::Bg p2 Z2::As)):Aa B w I (Bg p { Z with D:=Z2.D }::As):=by
 obtain⟨⟨a,c⟩,hS⟩:=Aa.unbox hS;replace hS:=hS.pick 3 O;obtain⟨⟨a2,c2,ma,mc⟩,hS⟩:=Aa.unbox hS;have hm:p2.mb=p.mb:=by rw[hy]
 replace hS:Aa B w I (Ae p2.wb (DX p2 Z2) 101::B7 p2.tb Z2.room a2 c2 Z2.l (Ae p2.mb [.slice ma Z2.D.length mc] 193::EN 22 (.slice ma Z2.D.length mc) (Z2.D.map λd=>BH (d:Nat))::Ae p.wb (DX p Z) 101::B7 p.tb Z.room a c Z.l As)):=hS;rw[hm]at hS;replace hS:=((hS.drop (k:=0) O).drop (k:=0) O).drop (k:=0) O;try dsimp only[List.eraseIdx]at hS
 exact Aa.box (T:=C7 p { Z with D:=Z2.D }) (a,c,ma,mc) (hS.x [4,4,4])
theorem xu{q:List Nt}(h:Uc q):∀n∈q,n.ticket.length<=900/\n.url.length<=1000000:=λn hn=>by
 have:=h.2 n hn
 unfold OP at this;simp only[Yb,dq1]at this
 have h1:n.ticket.length<=23:=by
  have h9:=this.1.1.1.1.1;unfold QP MC at h9;cases hp:EZ n.ticket with
  | none=>rw[hp]at h9;simp at h9
  | some x=>exact(wW (k:=x.1) (d:=x.2) hp).2.2.2.1
 exact⟨om,om⟩
theorem mi(qc:Qc)(vb qb:Nat)(qa fQ:Oa)(qk fR:Nat)(p:Wp)(Z:Wd)(q:List Nt)(k:St)(x:Kp)(y:Lp)(t:B4)(ha:Oa)(hc:Nat)(gY:BL Z)(G5:BL t.Z)(hq:Uc q)(E8:Uc t.q)(dz:k.A9.length<=900000)(hy:y.p={ p with wb:=y.p.wb,tb:=y.p.tb })(hI:C0 I p)(hZ:Kz I)(hQ:Fl I qa qk q)(yX:Fl I fQ fR t.q)(hK:Jv I x k)(As:La)(hS:Aa B w I (Ib vb x.sb p.wb qb::olA p Z::GK qb qc q qa qk::CX y t ha hc::GK y.qb qc t.q fQ fR::Bg y.p t.Z::IX x k::As)):Cz 45 [ptr vb 0,ptr y.tp 0] w λv w'=>∃J p9 zr zq zt x9,v=Ab ((G0 ⟨Z,q,k⟩ t).1:Nat)/\Le I J/\(∃wb tb,p9={ p with wb:=wb,tb:=tb })/\x9.sb=x.sb/\x9.db=x.db/\Jv J x9 (G0 ⟨Z,q,k⟩ t).2.k/\Fl J zq zt (G0 ⟨Z,q,k⟩ t).2.q/\Aa B w' J (Ib vb x9.sb p9.wb zr::Bg p9 (G0 ⟨Z,q,k⟩ t).2.Z::GK zr qc (G0 ⟨Z,q,k⟩ t).2.q zq zt::IX x9 (G0 ⟨Z,q,k⟩ t).2.k::CX y t ha hc::As):=by
 refine gM 5 ?_ ?_<;>intro CQ DO
 ·refine gG 1 ?_;have e9:G0 ⟨Z,q,k⟩ t=(0,⟨{ Z with D:=t.Z.D },q,k⟩):=by
   unfold G0;dsimp only
   exact Y7 (su CQ)
  rw[e9];replace hS:=Xi8 hy ((hS.pick 5 O).pick 2 O);try dsimp only[List.eraseIdx]at hS
  exact⟨I,p,qb,qa,qk,x,O,Le.refl _,⟨p.wb,p.tb,O⟩,O,O,hK,hQ,(hS.z [3,5,4,3,4] 5 1)⟩
 refine gG 0 ?_;replace hS:=hS.px [5,2];obtain⟨⟨a0,c0⟩,hS⟩:=Aa.unbox hS;replace hS:Aa B _ _ (Ae p.wb (DX p Z) 101::B7 p.tb Z.room a0 c0 Z.l (Bg y.p t.Z::_)):=hS;replace hS:=hS.px [3];obtain⟨⟨a,c,ma,mc⟩,hS⟩:=Aa.unbox hS;replace hS:Aa B _ _ (Ae y.p.wb (DX y.p t.Z) 101::B7 y.p.tb t.Z.room a c t.Z.l (Ae y.p.mb [.slice ma t.Z.D.length mc] 193::EN 22 (.slice ma t.Z.D.length mc) (t.Z.D.map λd=>BH (d:Nat))::Ae p.wb (DX p Z) 101::B7 p.tb Z.room a0 c0 Z.l _)):=hS;have hs9:=gY.len;have hs8:=G5.len;refine .dw (λw=>∃J9 R,Le I J9/\Aa B w J9 (Ib vb x.sb p.wb qb::Ae p.wb (DX p Z) 101::Ae y.tp [ptr y.p.wb 0,ptr y.qb 0,.slice y.ra y.args.length y.rc,S y.ck,Ab t.Aj.status,.slice ha t.Aj.Ac.length hc,S t.Aj.body,S t.call,.bool t.C6] 131::Ae y.p.wb (DX y.p t.Z) 101::R)) (λj=>!([24,25,26].contains j)) ?_;replace hS:=hS.drew;generalize w.drew=w at hS ⊢;have hH:∃J9 R,Le I J9/\Aa B w J9 (Ib vb x.sb p.wb qb::Ae p.wb (DX p Z) 101::Ae y.tp [ptr y.p.wb 0,ptr y.qb 0,.slice y.ra y.args.length y.rc,S y.ck,Ab t.Aj.status,.slice ha t.Aj.Ac.length hc,S t.Aj.body,S t.call,.bool t.C6] 131::Ae y.p.wb (DX y.p t.Z) 101::R):=⟨_,_,Le.refl _,(hS.x [0,10,6,9])⟩
 refine .tp 0 O (λw=>(.mo O)) (.tp 1 O (λw=>(.no O)) ?_);refine .tp 2 O (λw=>(.fo 1 O Up O O Z4 O)) (.FG (i:=3) O kr kr kr kr hH (λw ⟨J9,R,A6,hS⟩=>(by exact(.lo O hS (k:=0) O isAgg75 O))) O ?_);refine .tp 4 O (λw=>(.no O)) (.tp 5 O (λw=>(.fo 0 O aU O O Uj O)) (.FG (i:=6) O kr kr kr kr hH (λw ⟨J9,R,A6,hS⟩=>(by exact(.lo O hS (k:=1) O Z1 O))) O ?_));refine .tp 7 O (λw=>(.mo O)) (.tp 8 O (λw=>(.no O)) ?_);refine .tp 9 O (λw=>(.fo 0 O jg O O Z4 O)) (.FG (i:=10) O kr kr kr kr hH (λw ⟨J9,R,A6,hS⟩=>(by exact(.lo O hS (k:=2) O isAgg75 O))) O ?_);refine .tp 11 O (λw=>(.no O)) (.tp 12 O (λw=>(.fo 0 O aU O O Uj O)) (.FG (i:=13) O kr kr kr kr hH (λw ⟨J9,R,A6,hS⟩=>(by exact(.lo O hS (k:=3) O Z1 O))) O ?_));refine .tp 15 O (λw=>(.mo O)) (.tp 16 O (λw=>(.no O)) ?_);refine .tp 17 O (λw=>(.fo 2 O Up O O Z5 O)) (.FG (i:=18) O kr kr kr kr hH (λw ⟨J9,R,A6,hS⟩=>(by exact(.lo O hS (k:=0) O isAgg81 O))) O ?_);refine .tp 20 O (λw=>(.mo O)) (.tp 21 O (λw=>(.no O)) ?_);refine .tp 22 O (λw=>(.fo 1 O jg O O Z5 O)) (.FG (i:=23) O kr kr kr kr hH (λw ⟨J9,R,A6,hS⟩=>(by exact(.lo O hS (k:=2) O isAgg81 O))) O ?_);refine .b1 14 O (.call func112 O (Be O (Be O X4)) O (VL p.tb y.p.tb Z.room t.Z.room a0 a c0 c Z.l t.Z.l gY.wf G5.wf om om hI.known hI.pre _ (hS.x [2,2,7,7])) ?_);clear hS;rintro _ w ⟨kv,rfl,hS⟩;try dsimp only[List.eraseIdx]at hS
 refine .nil ?_;clear hH;have hH:∃J9 R,Le I J9/\Aa B w J9 (Ib vb x.sb p.wb qb::Ae p.wb (DX p Z) 101::Ae y.tp [ptr y.p.wb 0,ptr y.qb 0,.slice y.ra y.args.length y.rc,S y.ck,Ab t.Aj.status,.slice ha t.Aj.Ac.length hc,S t.Aj.body,S t.call,.bool t.C6] 131::Ae y.p.wb (DX y.p t.Z) 101::R):=⟨_,_,Le.refl _,(hS.x [5,11,9,10])⟩
 refine⟨λ_ _=>hH,?_⟩;refine .b1 19 O (.call func114 O (Be O X4) O (Xmd qb _ _ _ _ qa qk q hq.1 hQ.2 hQ.1 _ (hS.x [10])) ?_);clear hS;rintro _ w ⟨J1,na,nc,rfl,Bn,Dc,KF,hS⟩;try dsimp only[List.eraseIdx]at hS
 refine .nil ?_;clear hH;have hH:∃J9 R,Le I J9/\Aa B w J9 (Ib vb x.sb p.wb qb::Ae p.wb (DX p Z) 101::Ae y.tp [ptr y.p.wb 0,ptr y.qb 0,.slice y.ra y.args.length y.rc,S y.ck,Ab t.Aj.status,.slice ha t.Aj.Ac.length hc,S t.Aj.body,S t.call,.bool t.C6] 131::Ae y.p.wb (DX y.p t.Z) 101::R):=⟨_,_,Bn,(hS.x [6,11,10,11])⟩
 refine⟨λ_ _=>hH,?_⟩;refine .b1 24 O (.call func114 O (Be O X4) O (Xmd y.qb _ _ _ _ fQ fR t.q E8.1 (yX.2.mono Bn) yX.1 _ (hS.x [12])) ?_);clear hS;rintro _ w ⟨J2,na2,nc2,rfl,AE,AhW,IE,hS⟩;try dsimp only[List.eraseIdx]at hS
 refine .nil ?_;refine And.intro (by intro h;cases h) ?_;refine .b1 25 O (.call func113 O (Be O (Be O X4)) O (Xqz q t.q na na2 nc nc2 (oh hq.1) (oh E8.1) (λn hn=>⟨Yx (xu hq n hn).1 de,(xu hq n hn).2⟩) (λn hn=>⟨Yx (xu E8 n hn).1 de,(xu E8 n hn).2⟩) (hZ.kx.mono (Bn.trans AE)) (hZ.pre.mono (Bn.trans AE)) (KF.mono AE) IE _ hS) ?_);clear hS;rintro _ w ⟨kw,rfl,hS⟩;refine .nil ?_;refine And.intro (by intro h;cases h) ?_;refine .b1 26 O ?_;obtain⟨da,dc,rfl,hdc,_⟩:=hS.vS 0;have BW:=hS.fV 0;clear hS;obtain⟨J3,BN,hRd,hS⟩:=BW;try dsimp only[List.eraseIdx]at hS
 have d_:=Xto (la:=Z.l) (lb:=t.Z.l) (qa:=q) (qb:=t.q) gY.len G5.len hq.1 E8.1;refine .CK (size:=3) (bytes:=40) hS (.of O) (.of O) hRd (k:=2) O Q9 (i:=t270) kr O O O O (zS (λr=>rfl) _) ⟨om,by unfold maxLen;omega⟩ O ?_;clear hS;intro v37 w hS;try dsimp only[List.set]at hS
 refine .nil ?_;refine And.intro (by intro h;cases h) ?_;refine .tp 27 O (λw=>(.ao O)) (.dn ?_);refine gG 0 ?_;obtain⟨la9,lc9,rfl,AhU,_⟩:=hS.vS 2;have BW:=hS.fV 2;clear hS;obtain⟨J4,EA,Qa,hS⟩:=BW;try dsimp only[List.eraseIdx]at hS
 have Eb:Le I J4:=Bn.trans (AE.trans (BN.trans EA));rw[<-pN]at Qa;have q_:(Jg Z.l t.Z.l).length+(OI q t.q).length=(Jg Z.l t.Z.l++OI q t.q).length:=(Y0 ..).symm;rw[q_]at Qa ⊢;refine gF 5 (Xr2 x k (Jg Z.l t.Z.l++OI q t.q) la9 lc9 (lT (λr hr=>(Xe6 gY.wf r hr).1) (λr hr=>(Xe6 G5.wf r hr).1) (λn hn=>Yx (xu hq n hn).1 de) (λn hn=>Yx (xu E8 n hn).1 de)) om Qa (hK.mono Eb) dz) ?_;clear hS;rintro _ w ⟨J5,x5,rfl,H9,vu,zh,hK5,hS⟩;refine gN 3 ?_ ?_<;>intro JS
 ·refine gD [12] [12,15] [0,1,2,3,4,5,6,7,8,9,10,11,12,13,14,15] ?_;clear hS;intro w hS;refine gH 13 ?_;clear hS;intro w hS;refine gH 3 ?_;clear hS;intro w hS;refine gH 2 (.nil (.ret ?_));refine λ_ A5=>RN A5 O ?_
  have e9:G0 ⟨Z,q,k⟩ t=(0,⟨t.Z,t.q,(Xu k (Jg Z.l t.Z.l++OI q t.q)).2⟩):=by
   unfold G0;dsimp only
   rw[Y3 (su CQ)];exact Y7 (oh JS)
  rw[e9];replace hS:=Aa.box (T:=olT p Z) (a0,c0) (hS.px [4,4,10]);replace hS:=Aa.box (T:=C7 y.p t.Z) (a,c,ma,mc) (hS.px [8,8,7,7,8]);exact⟨_,by have h9:=JS;rw[h9];rfl,J5,y.p,y.qb,fQ,fR,x5,O,Eb.trans H9,⟨y.p.wb,y.p.tb,hy⟩,vu,zh,hK5,⟨yX.1,yX.2.mono (Eb.trans H9)⟩,by rw[vu];exact(((((((hS.pick 6 O).pick 3 O).pick 4 O).pick 3 O).pick 6 O).drop (k:=5) O).drop (k:=5) O)⟩
 refine gG 2 ?_;have e9:G0 ⟨Z,q,k⟩ t=((Xu k (Jg Z.l t.Z.l++OI q t.q)).1,⟨{ Z with D:=t.Z.D },q,(Xu k (Jg Z.l t.Z.l++OI q t.q)).2⟩):=by
  unfold G0;dsimp only
  rw[Y3 (su CQ)];exact Y3 (oh JS)
 rw[e9];replace hS:=Aa.box (T:=olT p Z) (a0,c0) (hS.px [4,4,10]);replace hS:=Aa.box (T:=C7 y.p t.Z) (a,c,ma,mc) (hS.px [8,8,7,7,8]);replace hS:=Xi8 hy (hS.pick 1 O);try dsimp only[List.eraseIdx]at hS
 exact⟨J5,p,qb,qa,qk,x5,O,Eb.trans H9,⟨p.wb,p.tb,O⟩,vu,zh,hK5,⟨hQ.1,hQ.2.mono (Eb.trans H9)⟩,by rw[vu];exact(hS.z [5,2,4,3,5] 5 1)⟩
theorem RZ:∀s:Lu,C8 s=BS 38 s
 | []=>rfl
 | c::r=>by
  rw[C8,BS,RZ r];split
  ·rfl
  ·cases BS 38 r<;>rfl
theorem oo{x:Lu}{p:Pq}(h:RH x=some p):p.1.length<=x.length/\p.2.length<=x.length:=by
 unfold RH at h;split at h
 ·cases h
 ·rename_i n hn
  split at h
  ·cases h
  ·rename_i v hv
   cases h
   have h1:=Ul.NF true _ _ hn;have h2:=Ul.NF true _ _ hv;have h3:=aM 61 x;exact⟨Yx h1 h3.1,Yx h2 h3.2⟩
theorem Xby{n:Nat}:∀(l:List Lu) (out:List Pq),(∀x∈l,x.length<=n)->(∀p∈out,p.1.length<=n/\p.2.length<=n)->∀p∈(Ji l out).1,p.1.length<=n/\p.2.length<=n
 | [],out,_,h=>h
 | x::r,out,hl,h=>by
  rw[Ji];split
  ·exact Xby r out (λy hy=>hl y (by simp[hy])) h
  ·split
   ·intro p hp;simp at hp
   ·cases hx:RH x with
    | none=>intro p hp;simp at hp
    | some q =>
     refine Xby r _ (λy hy=>hl y (by simp[hy])) λp hp=>?_
     rcases Yn.1 hp with hp|hp
     ·exact h p hp
     ·simp only[Yi,Fw,or_false]at hp
      subst hp;have h1:=oo hx;have h2:=hl x sz;omega
theorem Xnv(s:Lu):∀p∈(H3 s).1,p.1.length<=s.length/\p.2.length<=s.length:=Xby _ _ (λx hx=>by rw[RZ]at hx;exact Xg5 38 s x hx) (λp hp=>by simp at hp)
theorem Vf{m t body:Lu}(ht:t.length<=n)(hb:body.length<=n):∀p∈(CN m t body).1,p.1.length<=n/\p.2.length<=n:=by
 have h1:∀p∈(H3 (CA 63 t).2.1).1,p.1.length<=n/\p.2.length<=n:=λp hp=>by
  have:=Xnv _ p hp
  have:=(aM 63 t).2
  omega
 unfold CN;split
 ·exact h1
 ·split
  ·intro p hp;simp at hp
  ·split
   ·intro p hp;simp at hp
   ·intro p hp;rcases Yn.1 hp with hp|hp
    ·exact h1 p hp
    ·have:=Xnv _ p hp;omega
theorem Xcg{n:Nat}:∀(l:List Lu) (out:List Pq),(∀x∈l,x.length<=n)->(∀p∈out,p.2.length<=n)->∀p∈(HY l out).1,p.2.length<=n
 | [],out,_,h=>h
 | x::r,out,hl,h=>by
  rw[HY];split
  ·exact Xcg r out (λy hy=>hl y (by simp[hy])) h
  ·split
   ·intro p hp;simp at hp
   ·split
    ·intro p hp;simp at hp
    ·refine Xcg r _ (λy hy=>hl y (by simp[hy])) λp hp=>?_
     rcases Yn.1 hp with hp|hp
     ·exact h p hp
     ·simp only[Yi,Fw,or_false]at hp
      subst hp;have h1:=(aM 61 (Go.Lib.trimB x 32)).2;have h2:=Xvz x 32;have h3:=hl x sz;dsimp only;omega
theorem vC{hs:List Pq}(h:∀h∈hs,h.2.length<=n):(Ei hs).1.length<=n:=by
 have h1:=(Qo pZ hs h).1;exact tU Bz _ λp hp=>Xcg _ _ (λx hx=>Yx (Xg5 59 _ x hx) h1) (λp hp=>by simp at hp) p hp
structure pD(r:HC):Prop where
 Au:r.Au.length<=4096
 target:r.target.length<=4096
 body:r.body.length<=4096
 Ac:r.Ac.length<=32/\∀h∈r.Ac,h.1.length<=4096/\h.2.length<=4096
theorem cT(l:Lu):(PB l).1.length<=l.length/\(PB l).2.1.length<=l.length:=by
 unfold PB
 repeat' split
 all_goals first|exact⟨Y4 _,Y4 _⟩|exact⟨Xv7 l 0,Xv7 l 1⟩
theorem XK(s:Lu):pD (X0 s).1:=by
 have h0:pD HC.none:=⟨Y4 _,Y4 _,Y4 _,Y4 _,λh hh=>by simp[HC.none]at hh⟩
 unfold X0;split
 ·exact h0
 ·rename_i hl
  have h1:=Xfu s;have h2:=cT (Xq s).1;have h3:=Xku (n:=4096) ((Xq s).2.2.length+1) (Xq s).2.2 [] om de (λh hh=>by simp at hh)
  repeat' split
  all_goals first|exact h0|exact⟨by dsimp only;omega,by dsimp only;omega,h3.2.2,h3.1,h3.2.1⟩
theorem Xji(m t body:Lu)(ra:Oa)(n rc:Nat)(ht:t.length<=1000000)(hZ:Kz I)(As:La)(hS:Aa B w I As):Ce B I As 41 [.agg #[S m,S t,.slice ra n rc,S body]] w (S (CA 63 t).1):=by
 refine gH 4 ?_;clear hS;intro b1 w hS;refine gE 0 (xi t 63 om hZ) ?_;clear hS;intro w hS;exact gG 9 ⟨O,hS.s⟩
abbrev Hr(f:Nat):Va:=.func (.func f) #[] #[]
def A2:List (Lu×Va):=[([71,69,84,32,47,108,111,103,105,110],Hr 98),([80,79,83,84,32,47,108,111,103,105,110],Hr 99),([71,69,84,32,47,108,111,103,111,117,116],Hr 100),([71,69,84,32,47,118,97,108,105,100,97,116,101],Hr 101),([71,69,84,32,47,115,101,114,118,105,99,101,86,97,108,105,100,97,116,101],Hr 102),([71,69,84,32,47,112,114,111,120,121,86,97,108,105,100,97,116,101],Hr 103),([71,69,84,32,47,112,51,47,115,101,114,118,105,99,101,86,97,108,105,100,97,116,101],Hr 104),([71,69,84,32,47,112,51,47,112,114,111,120,121,86,97,108,105,100,97,116,101],Hr 105),([71,69,84,32,47,112,114,111,120,121],Hr 106)]
def Xp(key:Lu):Nat:=Ep.idxOf key
theorem Xuq(key:Lu):∀(ps:List Lu) (fs:List Nat),ps.length=fs.length->((ps.zip fs).map λp=>(p.1,Hr p.2)).lookup key=if ps.idxOf key<ps.length then some (Hr (fs.getD (ps.idxOf key) 0))else none
 | [],[],_=>rfl
 | p::ps,f::fs,h=>by
  have ih:=Xuq key ps fs (su h);simp only[List.zip_cons_cons,Yt,List.lookup_cons,List.idxOf_cons,List.length_cons]
  by_cases h1:key=p
  ·subst h1;simp
  ·have h2:(key==p)=false:=su h1
   have h3:(p==key)=false:=by simpa using λe=>h1 e.symm
   rw[h2,h3];simp only[ih,cond_false]
   by_cases h4:ps.idxOf key<ps.length
   ·rw[Y7 h4,Y7 om];simp
   ·rw[Y3 h4,Y3 om]
theorem Xjg(key:Lu):(A2.lookup key).getD .nilFunc=if Xp key<9 then Hr (Pf.getD (Xp key) 0)else .nilFunc:=by
 have h:=Xuq key Ep Pf O;rw[show((Ep.zip Pf).map λp=>(p.1,Hr p.2))=A2 from O]at h;rw[h];show Option.getD (if Xp key<9 then some (Hr (Pf.getD (Xp key) 0))else none) _=_
 split<;>rfl
theorem Ex.Aal{d:Option Nat}{t:TypeId}{g:Option (Nat×Bool)}{x y:Operand}{b:Bool}{a1 a2 a3}(hv:(v=.nilFunc/\b=true)\/∃f,v=Hr f/\b=false)(hx:Ev n L x v)(hy:Ev n L y .nilFunc)(ht:prog.underlying t=some (.func a1 a2 a3)):Ex prog n L w ⟨d,.binOp .eql t x y t',ty,pos,af,g⟩ (.bool b) w:=by
 have h9:∀D,(Op.equalIn (D+1) t v .nilFunc).run prog w=.ok b w:=λD=>by
  rcases hv with⟨rfl,rfl⟩|⟨f,rfl,rfl⟩<;>simp[Op.equalIn,run_underlying ht]
 have h8:(Op.equal t v .nilFunc).run prog w=.ok b w:=h9 9999;rcases hv with⟨rfl,rfl⟩|⟨f,rfl,rfl⟩
 ·exact Fa hx hy (λp q=>by unfold eqGuard;split<;>simp) (by simp only[binOp];simp[h8])
 ·exact Fa hx hy (λp q=>by unfold eqGuard;split<;>simp) (by simp only[binOp];simp[h8])
theorem oW{u:U}(h1:u.Dt.length<=100)(h2:u.host.length<=100)(h3:u.port<=65535):(L8 u).length<=300+u.path.length+u.query.length:=by
 have h4:=p8 u.port om;unfold L8 sC;split<;>split<;>simp only[Y0,List.length_cons,List.length_nil]<;>omega
theorem fy(s:Lu):(pU s).1.Dt.length<=100/\(pU s).1.host.length<=100/\(pU s).1.port<=65535:=by
 have h0:U0.Dt.length<=100/\U0.host.length<=100/\U0.port<=65535:=de
 have ht:∀a b c r,a.length<=100->b.length<=100->c<=65535->(OW a b c r).1.Dt.length<=100/\(OW a b c r).1.host.length<=100/\(OW a b c r).1.port<=65535:=λa b c r h1 h2 h3=>by
  unfold OW
  repeat' split
  all_goals first|exact h0|exact⟨h1,h2,h3⟩
 unfold pU;split
 ·exact h0
 ·split
  ·exact h0
  ·rename_i a r hs
   have h1:a.length<=100:=by
    unfold r9 at hs
    (repeat' split at hs)<;>cases hs<;>decide
   split
   ·rename_i hh
    have h2:(aR r).length<=100:=by unfold qd at hh;simp at hh;omega
    unfold sx;split
    ·split
     ·rename_i hp
      refine ht _ _ _ _ h1 h2 ?_;unfold Jc at hp;simp only[Yb,dq1]at hp
      unfold UM;split<;>omega
     ·exact h0
    ·exact ht _ _ _ _ h1 h2 (Y4 _)
   ·exact h0
theorem bN{n st:Lu}(hn:n.length<=5000)(hs:st.length<=5000):(L8 (OY (pU n).1 Af st)).length<=100000:=by
 have h1:=fy n;have h2:=og n;have h3:=pR (pU n).1.query Af st;have e1:Af.length=6:=rfl;have h4:=oW (u:=OY (pU n).1 Af st) h1.1 h1.2.1 h1.2.2;have h5:(OY (pU n).1 Af st).path.length=(pU n).1.path.length:=rfl;have h6:(OY (pU n).1 Af st).query.length=(Gt (pU n).1.query Af st).length:=rfl;omega
def I9(r:Cr):Prop:=∀h∈r.Ac,h.1.length<=1000000/\h.2.length<=1000000
theorem r8{n:Int}{k b:Lu}(hk:k.length<=1000):I9 (Jk n k b):=λh hh=>by
 simp only[Jk,Yi,Fw,or_false]at hh
 subst hh;exact⟨H5 O,by dsimp only;omega⟩
theorem Xnx{cs:List Lu}(hu:u.length<=1000000)(hc:∀c∈cs,c.length<=1000000):I9 (Ry u cs):=λh hh=>by
 simp only[Ry,Yi,Fg]at hh
 rcases hh with rfl|⟨c,DV,rfl⟩
 ·exact⟨by show ME.length<=_;decide,hu⟩
 ·exact⟨by show Ci.length<=_;decide,hc c DV⟩
theorem gz(v:Lu)(JI:Int)(hv:v.length<=5000):(GY v JI).length<=1000000:=by
 unfold GY L6;split
 ·rename_i h
  exact Xip _ (by show Bz.length<=_;decide) (by show v.length<=_;omega) (by show([47]:Lu).length<=_;decide) (Xga h)
 ·exact Y4 _
theorem Xw5{r:Cr}(h:I9 r){c:Lu}(hc:c.length<=1000000):I9 (Hl r c):=λh1 hh=>by
 rcases Yn.1 hh with hh|hh
 ·exact h h1 hh
 ·simp only[Yi,Fw,or_false]at hh
  subst hh;exact⟨by show Ci.length<=_;decide,hc⟩
theorem Xdy(ks:List Nd):I9 (yj ks):=r8 de
theorem R6(n:Nd):I9 (NC n):=r8 de
theorem Xi5(x:Sx)(e:Nat)(b:Bool):I9 (kL x e b):=by unfold kL;split<;>exact R6 _
theorem VY(a b c:Lu):I9 (CD a b c):=by unfold CD;split<;>exact Xdy _
theorem Xyh(a:Lu)(b:Bool):I9 (xR a b):=by unfold xR;split<;>exact r8 de
theorem Xyj(a:Lu)(e:Int):I9 (xS a e):=by unfold xS;split<;>exact R6 _
theorem Xth{n st:Lu}{cs:List Lu}(hn:n.length<=5000)(hs:st.length<=5000)(hc:∀c∈cs,c.length<=1000000):I9 (yh n st cs):=Xnx (Yx (bN hn hs) de) hc
theorem xq(s:B4):I9 (HE s).Aj:=r8 de
theorem Xu8(s:B4)(n wr:Lu):I9 (JD s n wr).Aj:=by
 unfold JD;split
 ·exact xq _
 ·exact VY _ _ _
theorem Xt3{g:Cg}{l:List Pq}{sv:Lu}{s:B4}(ht:Ap.length<=5000):I9 (Nh g l Ap sv s).Aj:=by
 have hc:=gz Ap (-1) ht;unfold Nh;dsimp only
 split
 ·exact Xw5 (Xdy _) hc
 ·split
  ·exact xq _
  ·exact Xth Co.2 Co.1 (λc h=>by simp at h;subst h;exact hc)
theorem TH{g:Cg}{l:List Pq}{ck:Lu}{s:B4}(h0:I9 s.Aj):I9 (RO g k l ck s).Aj:=by
 have h4:∀a b,I9 (FO g l a b s).Aj:=λa b=>by
  unfold FO;dsimp only;split
  ·exact Xi5 _ _ _
  ·split
   ·exact Xi5 _ _ _
   ·exact h0
 match k with
 | 0 =>
  have hf:=Xdu g.lo (X9 l X7);show I9 (F_ g l ck s).Aj
  unfold F_;dsimp only
  (repeat' split)
  all_goals first|exact h0|exact xq _|exact Xu8 _ _ _|exact r8 de|exact Xdy _|exact Xnx om (λc h=>by simp at h)|exact Xth Co.2 Co.1 (λc h=>by simp at h)
 | 1 =>
  show I9 (HV g l s).Aj
  unfold HV;dsimp only
  (repeat' split)
  all_goals first|exact r8 de|exact xq _|exact Xu8 _ _ _|exact Xt3 (Xix _ _ _ _ _ _)
 | 2 =>
  show I9 (Mc g ck s).Aj
  unfold Mc;dsimp only;split
  ·exact xq _
  ·exact Xw5 (Xdy _) (gz [] 0 de)
 | 3=>exact Xyh _ _
 | 4=>exact h4 _ _
 | 5=>exact h4 _ _
 | 6=>exact h4 _ _
 | 7=>exact h4 _ _
 | k+8=>exact Xyj _ _
theorem Xn9(r:Cr)(ra:Oa)(rc:Nat)(hZ:Kz I)(Cc:r.Ac.length<=rc)(hR:RS I ra 2 r.Ac.length (X2 X3 r.Ac))(hv:I9 r)(As:La)(hS:Aa B w I As):Ce B I As 35 [.agg #[Ab r.status,.slice ra r.Ac.length rc,S r.body]] w (S (Nj r)):=by
 refine gH 3 ?_;clear hS;intro b1 w hS;refine gE 0 (Xja r ra rc hZ Cc hR hv) ?_;clear hS;intro w hS;exact gG 7 ⟨O,hS.s⟩
theorem X8n(n:Int)(hZ:Kz I)(As:La)(hS:Aa B w I As):Ce B I As 34 [Ab n] w (.agg #[S (Nj (OJ n)),S []]):=by
 refine gH 2 ?_;clear hS;intro b2 w hS;refine gF 0 (X6x n) ?_;clear hS;rintro _ w ⟨J,ra,rc,rfl,hJ,Cc,AJ,hS⟩;refine gE 0 (Xn9 (OJ n) ra rc (hZ.mono hJ) Cc AJ (r8 de)) ?_;clear hS;intro w hS;refine gH 2 ?_;clear hS;intro w hS;exact gG 0 ⟨O,hS.s.weaken hJ⟩
theorem Xyr(As:La)(hS:Aa B w I As):Cz 40 [] w λv w'=>∃mb,v=.map (some mb)/\Aa B w' I (Ej S mb A2::As):=by
 refine gG 1 (.mkMap S hS O ?_);clear hS;intro b1 w hS;refine .Dj (kv:=A2.take 0) (key:=Ep.getD 0 []) (val:=Hr 98) D3 hS (k:=0) O (.of O) (.of O) (.of O) O aV BV ?_;clear hS;intro w hS;replace hS:Aa B w I (Ej S b1 (A2.take 1)::As):=hS;refine .Dj (kv:=A2.take 1) (key:=Ep.getD 1 []) (val:=Hr 99) D3 hS (k:=0) O (.of O) (.of O) (.of O) O aV BV ?_;clear hS;intro w hS;replace hS:Aa B w I (Ej S b1 (A2.take 2)::As):=hS;refine .Dj (kv:=A2.take 2) (key:=Ep.getD 2 []) (val:=Hr 100) D3 hS (k:=0) O (.of O) (.of O) (.of O) O aV BV ?_;clear hS;intro w hS;replace hS:Aa B w I (Ej S b1 (A2.take 3)::As):=hS;refine .Dj (kv:=A2.take 3) (key:=Ep.getD 3 []) (val:=Hr 101) D3 hS (k:=0) O (.of O) (.of O) (.of O) O aV BV ?_;clear hS;intro w hS;replace hS:Aa B w I (Ej S b1 (A2.take 4)::As):=hS;refine .Dj (kv:=A2.take 4) (key:=Ep.getD 4 []) (val:=Hr 102) D3 hS (k:=0) O (.of O) (.of O) (.of O) O aV BV ?_;clear hS;intro w hS;replace hS:Aa B w I (Ej S b1 (A2.take 5)::As):=hS;refine .Dj (kv:=A2.take 5) (key:=Ep.getD 5 []) (val:=Hr 103) D3 hS (k:=0) O (.of O) (.of O) (.of O) O aV BV ?_;clear hS;intro w hS;replace hS:Aa B w I (Ej S b1 (A2.take 6)::As):=hS;refine .Dj (kv:=A2.take 6) (key:=Ep.getD 6 []) (val:=Hr 104) D3 hS (k:=0) O (.of O) (.of O) (.of O) O aV BV ?_;clear hS;intro w hS;replace hS:Aa B w I (Ej S b1 (A2.take 7)::As):=hS;refine .Dj (kv:=A2.take 7) (key:=Ep.getD 7 []) (val:=Hr 105) D3 hS (k:=0) O (.of O) (.of O) (.of O) O aV BV ?_;clear hS;intro w hS;replace hS:Aa B w I (Ej S b1 (A2.take 8)::As):=hS;refine .Dj (kv:=A2.take 8) (key:=Ep.getD 8 []) (val:=Hr 106) D3 hS (k:=0) O (.of O) (.of O) (.of O) O aV BV ?_;clear hS;intro w hS;replace hS:Aa B w I (Ej S b1 (A2.take 9)::As):=hS;exact gG 2 ⟨b1,O,hS⟩
structure Sp where
 vb:Nat
 p:Wp
 qb:Nat
 qa:Oa
 qk:Nat
 k:Kp
def svL(g:Cg)(x:Sp)(s:CB):La:=[Ib x.vb x.k.sb x.p.wb x.qb,Bg x.p s.Z,GK x.qb g.qc s.q x.qa x.qk,IX x.k s.k]
abbrev svR(g:Cg)(x:Sp)(s:CB)(R:La):La:=Ib x.vb x.k.sb x.p.wb x.qb::Bg x.p s.Z::GK x.qb g.qc s.q x.qa x.qk::IX x.k s.k::R
structure Fm(J:Im)(g:Cg)(x:Sp)(s:CB):Prop where
 wp:C0 J x.p
 cg:Bx x.p g.qc=g
 kz:Kz J
 fit:qj x.p.lo x.p.us
 kp:Jv J x.k s.k
 qu:Fl J x.qa x.qk s.q
structure C4(s:CB)(n:Nat):Prop where
 Z:BL s.Z
 q:Uc s.q
 A9:s.k.A9.length<=n
theorem Fm.mono{g:Cg}{x:Sp}{s:CB}(h:Fm I g x s)(hl:Le I J):Fm J g x s:=⟨h.wp.mono hl,h.cg,h.kz.mono hl,h.fit,h.kp.mono hl,h.qu.1,h.qu.2.mono hl⟩
theorem C0.cp{p:Wp}(h:C0 J p)(wb tb:Nat):C0 J { p with wb:=wb,tb:=tb }:=⟨h.reg,h.tab,h.lo,h.rel,h.fit,h.yO,h.known,h.pre⟩
theorem Fm.next{g:Cg}{x:Sp}{s s2:CB}(h:Fm I g x s)(hl:Le I J){p9:Wp}(hp:∃wb tb,p9={ x.p with wb:=wb,tb:=tb }){qb:Nat}{qa:Oa}{qk:Nat}{k9:Kp}(hk:Jv J k9 s2.k)(hq:Fl J qa qk s2.q):Fm J g ⟨x.vb,p9,qb,qa,qk,k9⟩ s2:=by
 obtain⟨wb,tb,rfl⟩:=hp;exact⟨(h.wp.mono hl).cp wb tb,h.cg,h.kz.mono hl,h.fit,hk,hq⟩
def Zf:Lu:=[71,69,84,32]
def Xy(r:HC):Lu:=(CA 63 r.target).1
def Gc(g:Cg)(s:CB)(k:Nat)(l:List Pq)(ck:Lu):B4 :=
 let t:=RO g k l ck (Gu s)
 if(t.call==[]&&!FN t.Aj)=true then HE t else t
def Fz(g:Cg)(s:CB)(b:Lu):(Lu×Lu)×CB :=
 let r:=(X0 b).1
 let a:=CN r.Au r.target r.body
 let j:=Ei r.Ac
 if(X0 b).2≠0\/a.2≠0\/j.2≠0 then((Nj (OJ 400),[]),s)else
 if ¬ Xp (Zf++Xy r)<9 then((Nj (OJ 404),[]),s)else
 if ¬ Xp ((r.Au++[32])++Xy r)<9 then((Nj (OJ 405),[]),s)else
 let t:=Gc g s (Xp ((r.Au++[32])++Xy r)) a.1 j.1
 let e:=G0 s t
 if e.1≠0 then((Nj (OJ 503),[]),e.2)else
 if t.call≠[]then(([],t.call),e.2)else((Nj t.Aj,[]),e.2)
theorem oN{g:Cg}{l:List Pq}{ck:Lu}{s:B4}(h:Uc s.q):Uc (RO g k l ck s).q:=by
 by_cases hk:k=2
 ·subst hk;show Uc (Mc g ck s).q
  unfold Mc HE;dsimp only;split<;>exact oA h
 ·rw[lh hk];exact h
theorem Xr6{g:Cg}{s:CB}(h:C4 s n)(k:Nat)(l:List Pq)(ck:Lu):BL (Gc g s k l ck).Z/\Uc (Gc g s k l ck).q/\I9 (Gc g s k l ck).Aj:=by
 have h1:=wk (g:=g) (k:=k) (l:=l) (ck:=ck) (s:=Gu s) h.Z;have h2:=oN (g:=g) (k:=k) (l:=l) (ck:=ck) (s:=Gu s) h.q;have h3:=TH (g:=g) (k:=k) (l:=l) (ck:=ck) (s:=Gu s) (λh hh=>by simp[Gu,oL]at hh);unfold Gc;dsimp only
 split
 ·exact⟨h1,h2,xq _⟩
 ·exact⟨h1,h2,h3⟩
theorem Xxa(s:St)(l:List Ch):(Xu s l).2.A9.length<=s.A9.length+l.length:=by
 by_cases h1:(D_ l []).2≠0\/l=[]
 ·have:Xu s l=((D_ l []).2,s):=by unfold Xu;exact Y7 h1
  rw[this];exact yF _ _
 ·rw[X8b h1];split
  ·exact Xft _ _
  ·exact yF _ _
theorem mh{s:CB}{t:B4}(h:C4 s n)(h1:BL t.Z)(h2:Uc t.q):C4 (G0 s t).2 (n+256):=by
 have hb:BL { s.Z with D:=t.Z.D }:=⟨h.Z.len,h.Z.wf,h1.D,h.Z.now,h.Z.room⟩
 have hl:=Xto (la:=s.Z.l) (lb:=t.Z.l) (qa:=s.q) (qb:=t.q) h.Z.len h1.len h.q.1 h2.1;have hv:(Xu s.k (Jg s.Z.l t.Z.l++OI s.q t.q)).2.A9.length<=n+256:=by
  have h3:=Xxa s.k (Jg s.Z.l t.Z.l++OI s.q t.q);rw[Y0]at h3
  have:=h.A9
  omega
 unfold G0;dsimp only
 split
 ·exact⟨hb,h.q,Yx h.A9 (yF _ _)⟩
 ·split
  ·exact⟨h1,h2,hv⟩
  ·exact⟨hb,h.q,hv⟩
theorem tJ{g:Cg}{s:CB}(h:C4 s n)(b:Lu):C4 (Fz g s b).2 (n+256):=by
 have h0:C4 s (n+256):=⟨h.Z,h.q,Yx h.A9 (yF _ _)⟩
 have h1:=λk l ck=>mh h (Xr6 (g:=g) h k l ck).1 (Xr6 (g:=g) h k l ck).2.1
 unfold Fz;dsimp only
 (repeat' split)
 all_goals first|exact h0|exact h1 _ _ _
theorem tS(k:Nat)(hk:k<9):∃fn,prog.funcs[Pf.getD k 0]?=some fn/\Xb fn=true:=by
 match k,hk with
 | 0,_=>exact⟨_,func98,O⟩
 | 1,_=>exact⟨_,func99,O⟩
 | 2,_=>exact⟨_,func100,O⟩
 | 3,_=>exact⟨_,func101,O⟩
 | 4,_=>exact⟨_,func102,O⟩
 | 5,_=>exact⟨_,func103,O⟩
 | 6,_=>exact⟨_,func104,O⟩
 | 7,_=>exact⟨_,func105,O⟩
 | 8,_=>exact⟨_,func106,O⟩
 | k+9,h=>exact Yy h om
theorem Xjf(key:Lu):((A2.lookup key).getD .nilFunc=.nilFunc/\(!decide (Xp key<9))=true)\/∃f,(A2.lookup key).getD .nilFunc=Hr f/\(!decide (Xp key<9))=false:=by
 rw[Xjg]
 by_cases h:Xp key<9
 ·rw[Y7 h];exact .inr ⟨_,O,by simp[h]⟩
 ·rw[Y3 h];exact .inl ⟨O,by simp[h]⟩
theorem Fl.done{g:Cg}{s:CB}{l:List Pq}{ck:Lu}{qa:Oa}{qk:Nat}(h:Fl I qa qk (RO g k l ck (Gu s)).q)(hl:Le I J):Fl J qa qk (Gc g s k l ck).q:=by
 have e:(Gc g s k l ck).q=(RO g k l ck (Gu s)).q:=by unfold Gc HE;dsimp only;split<;>rfl
 rw[e];exact⟨h.1,h.2.mono hl⟩
theorem AbM{a b c:Va}(h0:cs[k]?=some a)(h1:cs[k+1]?=some b)(h2:cs[k+2]?=some c):∀(j:Nat) v,[a,b,c][j]?=some v->cs[k+j]?=some v
 | 0,v,h=>h0.trans h
 | 1,v,h=>h1.trans h
 | 2,v,h=>h2.trans h
 | j+3,v,h=>by simp at h
theorem tK(g:Cg)(x:Sp)(s:CB)(b:Lu)(hb:b.length<=1000000)(hs:C4 s 800000)(hX:Fm I g x s)(As:La)(hS:Aa B w I (svR g x s As)):Cz 12 [ptr x.vb 0,S b] w λv w'=>v=.agg #[S (Fz g s b).1.1,S (Fz g s b).1.2]/\∃J y,Le I J/\y.vb=x.vb/\y.k.db=x.k.db/\Fm J g y (Fz g s b).2/\Aa B w' J (svL g y (Fz g s b).2++As):=by
 refine gH 3 ?_;clear hS;intro b4 w hS;refine gF 0 (Xem b om hX.kz) ?_;clear hS;rintro _ w ⟨J1,ra,rc,rfl,Bn,Cc,P_,hS⟩;have hpf:=XK b;obtain⟨AhZ,Adi,Adj,Ah0,ve⟩:=hpf;refine gH 7 ?_;clear hS;intro b6 w hS;refine gF 0 (ZJ _ _ _ _ _ _ om om (hX.kz.mono Bn)) ?_;clear hS;rintro _ w ⟨J2,aa,ac,rfl,AE,hac,KF,hS⟩;have P8:=Bn.trans AE;refine gF 6 (ny _ _ _ _ _ _ om (λh hh=>⟨Yx (ve h hh).1 de,Yx (ve h hh).2 de⟩) (hX.kz.mono P8) (P_.mono AE)) ?_;clear hS;rintro _ w ⟨Jj,rfl,hJj,hS⟩;replace hS:=hS.weaken hJj;refine gH 14 ?_;refine gN 1 ?_ ?_<;>intro FZ
 ·refine gH 1 (.B0 (cap:=[]) func34 O (.of O) (Be O X4) O (X8n 400 (hX.kz.mono P8) _ hS) ?_);clear hS;rintro _ w ⟨rfl,hS⟩;refine gH 1 ?_;clear hS;intro w hS;refine gG 0 ?_;have e9:Fz g s b=((Nj (OJ 400),[]),s):=by
   unfold Fz;dsimp only
   rw[Y7 (oh FZ)]
  rw[e9];exact⟨O,I,x,Le.refl _,O,O,hX,((hS.z [5,5,5,5] 4 2)).weaken P8⟩
 refine gF 0 (Xyr) ?_;clear hS;rintro _ w ⟨mb,rfl,hS⟩;have BW:=hS.KD (k:=0) O;clear hS;obtain⟨J3,BN,hM,hS⟩:=BW;try dsimp only[List.eraseIdx]at hS
 have NL:=P8.trans BN;refine gG 1 ?_;have AL:¬ ((X0 b).2≠0\/(CN (X0 b).1.Au (X0 b).1.target (X0 b).1.body).2≠0\/(Ei (X0 b).1.Ac).2≠0):=by
  have h9:=FZ;omega
 have IL:=(aM 63 (X0 b).1.target).1;refine gE 2 (Xji _ _ _ _ _ _ om (hX.kz.mono NL)) ?_;clear hS;intro w hS;refine gH 1 (.val (v:=((A2.lookup (Zf++Xy (X0 b).1)).getD .nilFunc)) (.S7 (key:=(Zf++Xy (X0 b).1)) D3 (hM.now hS) (.of O) (.of O) aV BV zeroValue126) O (.val (Ex.Aal (b:=!decide (Xp (Zf++Xy (X0 b).1)<9)) (Xjf (Zf++Xy (X0 b).1)) (.of O) (.of O) underlying126) O ?_));refine gM 0 ?_ ?_<;>intro uh Ahy
 ·refine gH 1 (.B0 (cap:=[]) func34 O (.of O) (Be O X4) O (X8n 404 (hX.kz.mono NL) _ hS) ?_);clear hS;rintro _ w ⟨rfl,hS⟩;refine gH 1 ?_;clear hS;intro w hS;refine gG 0 ?_;have e9:Fz g s b=((Nj (OJ 404),[]),s):=by
   unfold Fz;dsimp only
   rw[Y3 AL,Y7 (su uh)]
  rw[e9];exact⟨O,I,x,Le.refl _,O,O,hX,((hS.z [5,5,5,5] 4 2)).weaken NL⟩
 refine gG 0 (gD [0] [] [0,1,2,3,4,5,6,7,8] ?_);clear hS;intro w hS;refine gE 5 (Xji _ _ _ _ _ _ om (hX.kz.mono NL)) ?_;clear hS;intro w hS;refine gH 1 (Br.y 7 (v:=((A2.lookup (((X0 b).1.Au++[32])++Xy (X0 b).1)).getD .nilFunc)) (λw _ _ A6 hS=>.S7 (key:=(((X0 b).1.Au++[32])++Xy (X0 b).1)) D3 ((hM.mono A6).now hS) (.of O) (.of O) aV BV zeroValue126) (gH 2 (.val (Ex.Aal (b:=!decide (Xp (((X0 b).1.Au++[32])++Xy (X0 b).1)<9)) (Xjf (((X0 b).1.Au++[32])++Xy (X0 b).1)) (.of O) (.of O) underlying126) O ?_)));refine gM 0 ?_ ?_<;>intro Wm Acr
 ·refine gH 1 (.B0 (cap:=[]) func34 O (.of O) (Be O X4) O (X8n 405 (hX.kz.mono NL) _ hS) ?_);clear hS;rintro _ w ⟨rfl,hS⟩;refine gH 1 ?_;clear hS;intro w hS;refine gG 0 ?_;have e9:Fz g s b=((Nj (OJ 405),[]),s):=by
   unfold Fz;dsimp only
   rw[Y3 AL,Y3 (su uh),Y7 (su Wm)]
  rw[e9];exact⟨O,I,x,Le.refl _,O,O,hX,((hS.z [5,5,5,5] 4 2)).weaken NL⟩
 refine gG 0 ?_;have Jr:Xp (Zf++Xy (X0 b).1)<9:=su uh
 have JW:Xp (((X0 b).1.Au++[32])++Xy (X0 b).1)<9:=su Wm
 rw[show((A2.lookup (((X0 b).1.Au++[32])++Xy (X0 b).1)).getD .nilFunc)=Hr (Pf.getD (Xp (((X0 b).1.Au++[32])++Xy (X0 b).1)) 0) from by rw[Xjg,Y7 JW]];refine gF 1 (Vp g.qc x.vb x.k.sb x.qb x.qa x.qk s.q x.p s.Z hs.Z hs.q (hX.mono NL).qu) ?_;clear hS;rintro _ w ⟨Jb,tp,nq,nb,tc,fQ,fR,rfl,hJb,yX,hS⟩;have t_:=NL.trans hJb;have hXL:Du Jb (⟨tp,nq,{ x.p with wb:=nb,tb:=tc },aa,ac,(CN (X0 b).1.Au (X0 b).1.target (X0 b).1.body).1,(Ei (X0 b).1.Ac).1⟩:Lp):=⟨(hX.wp.mono t_).cp nb tc,hX.kz.mono t_,KF.mono (BN.trans hJb),Yx (bI _ _ _) de,λa ha=>by have:=Vf (m:=(X0 b).1.Au) Adi Adj a ha;omega,Yx (vC (λh hh=>(ve h hh).2)) de,hX.fit⟩
 have hR0:Iu Jb none 0 (Gu s).Aj:=⟨Yd _,RS.nil _ _⟩
 refine gH 13 ?_;clear hS;intro w hS;obtain⟨fn9,Ac2,AaN⟩:=tS (Xp (((X0 b).1.Au++[32])++Xy (X0 b).1)) JW;have vq:=gX g.qc fQ fR (⟨tp,nq,{ x.p with wb:=nb,tb:=tc },aa,ac,(CN (X0 b).1.Au (X0 b).1.target (X0 b).1.body).1,(Ei (X0 b).1.Ac).1⟩:Lp) (Gu s) none 0 hs.Z hs.q hXL yX hR0 _ (((hS.pick 2 O).pick 2 O).pick 2 O) (Xp (((X0 b).1.Au++[32])++Xy (X0 b).1)) JW;rw[show Bx (⟨tp,nq,{ x.p with wb:=nb,tb:=tc },aa,ac,(CN (X0 b).1.Au (X0 b).1.target (X0 b).1.body).1,(Ei (X0 b).1.Ac).1⟩:Lp).p g.qc=g from hX.cg]at vq;refine .B0 (cap:=[]) Ac2 AaN (.of O) (Be O X4) O vq ?_;clear hS vq;rintro _ w ⟨rfl,J4,ha4,SD,qa4,qk4,EA,EP,hQ4,hS⟩;refine .nil (.ck [0,4,5,14] (σ:=Im×Oa×Nat) (λ(J5,y4,Wu) _m=>_m) (λ(J5,y4,Wu) w=>Le J4 J5/\Iu J5 y4 Wu (Gc g s (Xp (((X0 b).1.Au++[32])++Xy (X0 b).1)) (CN (X0 b).1.Au (X0 b).1.target (X0 b).1.body).1 (Ei (X0 b).1.Ac).1).Aj/\Aa B w J5 (CX (⟨tp,nq,{ x.p with wb:=nb,tb:=tc },aa,ac,(CN (X0 b).1.Au (X0 b).1.target (X0 b).1.body).1,(Ei (X0 b).1.Ac).1⟩:Lp) (Gc g s (Xp (((X0 b).1.Au++[32])++Xy (X0 b).1)) (CN (X0 b).1.Au (X0 b).1.target (X0 b).1.body).1 (Ei (X0 b).1.Ac).1) y4 Wu::GK nq g.qc (Gc g s (Xp (((X0 b).1.Au++[32])++Xy (X0 b).1)) (CN (X0 b).1.Au (X0 b).1.target (X0 b).1.body).1 (Ei (X0 b).1.Ac).1).q qa4 qk4::Bg { x.p with wb:=nb,tb:=tc } (Gc g s (Xp (((X0 b).1.Au++[32])++Xy (X0 b).1)) (CN (X0 b).1.Au (X0 b).1.target (X0 b).1.body).1 (Ei (X0 b).1.Ac).1).Z::olA x.p s.Z::Ib x.vb x.k.sb x.p.wb x.qb::GK x.qb g.qc s.q x.qa x.qk::IX x.k s.k::Ae b4 [S [],S []] 52::As)) ?_ ?_)
 ·have hRf:=TH (g:=g) (k:=Xp (((X0 b).1.Au++[32])++Xy (X0 b).1)) (l:=(CN (X0 b).1.Au (X0 b).1.target (X0 b).1.body).1) (ck:=(Ei (X0 b).1.Ac).1) (s:=Gu s) (λh hh=>by simp[Gu,oL]at hh);refine gH 9 (.AA O O (λAi=>(.GG (vs:=[_,_,_]) (.gd Ai O) hS (k:=0) O Il Zl O (AbM O O O))) O (.AG (T:=λw=>Aa B w J4 _) O O O func43 O (λAi=>(X5 (.gd Ai O) X4)) O (λAi=>Xeq (RO g (Xp (((X0 b).1.Au++[32])++Xy (X0 b).1)) (CN (X0 b).1.Au (X0 b).1.target (X0 b).1.body).1 (Ei (X0 b).1.Ac).1 (Gu s)).Aj ha4 SD EP.2 hRf _ hS) hS ?_));clear hS;rintro w hS;refine gM 2 ?_ ?_<;>intro AaG AhG
  ·refine gF 1 (xf (⟨tp,nq,{ x.p with wb:=nb,tb:=tc },aa,ac,(CN (X0 b).1.Au (X0 b).1.target (X0 b).1.body).1,(Ei (X0 b).1.Ac).1⟩:Lp) (RO g (Xp (((X0 b).1.Au++[32])++Xy (X0 b).1)) (CN (X0 b).1.Au (X0 b).1.target (X0 b).1.body).1 (Ei (X0 b).1.Ac).1 (Gu s)) ha4 SD (hXL.mono EA)) ?_;clear hS;rintro _ w ⟨rfl,J5,na,nc,H9,mA,hS⟩;refine gG 0 ?_;have e8:(Gc g s (Xp (((X0 b).1.Au++[32])++Xy (X0 b).1)) (CN (X0 b).1.Au (X0 b).1.target (X0 b).1.body).1 (Ei (X0 b).1.Ac).1)=HE (RO g (Xp (((X0 b).1.Au++[32])++Xy (X0 b).1)) (CN (X0 b).1.Au (X0 b).1.target (X0 b).1.body).1 (Ei (X0 b).1.Ac).1 (Gu s)):=by unfold Gc;dsimp only;rw[Y7 AaG]
   exact cd (J5,na,nc) ⟨H9,by rw[e8];exact mA,by rw[e8];exact((((((((((hS.pick 7 O).pick 8 O).pick 7 O).pick 7 O).pick 7 O).pick 7 O).pick 7 O).pick 7 O).drop (k:=8) O))⟩
  refine gG 0 ?_;have e8:(Gc g s (Xp (((X0 b).1.Au++[32])++Xy (X0 b).1)) (CN (X0 b).1.Au (X0 b).1.target (X0 b).1.body).1 (Ei (X0 b).1.Ac).1)=(RO g (Xp (((X0 b).1.Au++[32])++Xy (X0 b).1)) (CN (X0 b).1.Au (X0 b).1.target (X0 b).1.body).1 (Ei (X0 b).1.Ac).1 (Gu s)):=by unfold Gc;dsimp only;rw[Y3 (nB AaG)]
  exact cd (J4,ha4,SD) ⟨Le.refl _,by rw[e8];exact EP,by rw[e8];exact((((((((((hS.pick 7 O).pick 8 O).pick 7 O).pick 7 O).pick 7 O).pick 7 O).pick 7 O).pick 7 O).drop (k:=8) O))⟩
 rintro⟨J5,y4,Wu⟩ w ⟨H9,mA,hS⟩;have hd:=Xr6 (g:=g) hs (Xp (((X0 b).1.Au++[32])++Xy (X0 b).1)) (CN (X0 b).1.Au (X0 b).1.target (X0 b).1.body).1 (Ei (X0 b).1.Ac).1;have df:=t_.trans (EA.trans H9);refine gF 2 (mi g.qc x.vb x.qb x.qa qa4 x.qk qk4 x.p s.Z s.q s.k x.k (⟨tp,nq,{ x.p with wb:=nb,tb:=tc },aa,ac,(CN (X0 b).1.Au (X0 b).1.target (X0 b).1.body).1,(Ei (X0 b).1.Ac).1⟩:Lp) (Gc g s (Xp (((X0 b).1.Au++[32])++Xy (X0 b).1)) (CN (X0 b).1.Au (X0 b).1.target (X0 b).1.body).1 (Ei (X0 b).1.Ac).1) y4 Wu hs.Z hd.1 hs.q hd.2.1 (oh hs.A9) O (hX.mono df).wp (hX.mono df).kz (hX.mono df).qu (Fl.done hQ4 H9) (hX.mono df).kp) ?_;clear hS;rintro _ w ⟨J6,p9,zr,zq,zt,x9,rfl,jE,F5,vu,zh,Sy,hQ9,hS⟩;have NM:=df.trans jE;refine gN 2 ?_ ?_<;>intro mN
 ·refine gH 1 (.B0 (cap:=[]) func34 O (.of O) (Be O X4) O (X8n 503 (hX.kz.mono NM) _ hS) ?_);clear hS;rintro _ w ⟨rfl,hS⟩;refine gH 1 ?_;clear hS;intro w hS;refine gG 0 ?_;have e9:Fz g s b=((Nj (OJ 503),[]),(G0 s (Gc g s (Xp (((X0 b).1.Au++[32])++Xy (X0 b).1)) (CN (X0 b).1.Au (X0 b).1.target (X0 b).1.body).1 (Ei (X0 b).1.Ac).1)).2):=by
   unfold Fz;dsimp only
   rw[Y3 AL,Y3 (λh=>h Jr),Y3 (λh=>h JW)];exact Y7 (by have h9:(((G0 s (Gc g s (Xp (((X0 b).1.Au++[32])++Xy (X0 b).1)) (CN (X0 b).1.Au (X0 b).1.target (X0 b).1.body).1 (Ei (X0 b).1.Ac).1)).1:Nat):Int)≠0:=mN;omega)
  rw[e9];exact⟨O,J6,⟨x.vb,p9,zr,zq,zt,x9⟩,NM,O,zh,hX.next NM F5 Sy hQ9,(hS.z [3,3,3,3] 4 2)⟩
 refine gM 6 ?_ ?_<;>intro AaH AhI
 ·refine gH 6 ?_;clear hS;intro w hS;refine gG 0 ?_;have e9:Fz g s b=(([],(Gc g s (Xp (((X0 b).1.Au++[32])++Xy (X0 b).1)) (CN (X0 b).1.Au (X0 b).1.target (X0 b).1.body).1 (Ei (X0 b).1.Ac).1).call),(G0 s (Gc g s (Xp (((X0 b).1.Au++[32])++Xy (X0 b).1)) (CN (X0 b).1.Au (X0 b).1.target (X0 b).1.body).1 (Ei (X0 b).1.Ac).1)).2):=by
   unfold Fz;dsimp only
   rw[Y3 AL,Y3 (λh=>h Jr),Y3 (λh=>h JW)];rw[Y3 (by have h9:(((G0 s (Gc g s (Xp (((X0 b).1.Au++[32])++Xy (X0 b).1)) (CN (X0 b).1.Au (X0 b).1.target (X0 b).1.body).1 (Ei (X0 b).1.Ac).1)).1:Nat):Int)=0:=mN;omega)];exact Y7 (su AaH)
  rw[e9];exact⟨O,J6,⟨x.vb,p9,zr,zq,zt,x9⟩,NM,O,zh,hX.next NM F5 Sy hQ9,(hS.z [3,3,3,3] 4 2)⟩
 refine gH 3 (.val (.GG (vs:=[_,_,_]) (.of O) hS (k:=4) O Il Zl O (AbM O O O)) O (gE 0 (Xn9 (Gc g s (Xp (((X0 b).1.Au++[32])++Xy (X0 b).1)) (CN (X0 b).1.Au (X0 b).1.target (X0 b).1.body).1 (Ei (X0 b).1.Ac).1).Aj y4 Wu (hX.kz.mono NM) mA.1 (mA.2.mono jE) hd.2.2) ?_));clear hS;intro w hS;refine gH 2 ?_;clear hS;intro w hS;refine gG 0 ?_;have e9:Fz g s b=((Nj (Gc g s (Xp (((X0 b).1.Au++[32])++Xy (X0 b).1)) (CN (X0 b).1.Au (X0 b).1.target (X0 b).1.body).1 (Ei (X0 b).1.Ac).1).Aj,[]),(G0 s (Gc g s (Xp (((X0 b).1.Au++[32])++Xy (X0 b).1)) (CN (X0 b).1.Au (X0 b).1.target (X0 b).1.body).1 (Ei (X0 b).1.Ac).1)).2):=by
  unfold Fz;dsimp only
  rw[Y3 AL,Y3 (λh=>h Jr),Y3 (λh=>h JW)];rw[Y3 (by have h9:(((G0 s (Gc g s (Xp (((X0 b).1.Au++[32])++Xy (X0 b).1)) (CN (X0 b).1.Au (X0 b).1.target (X0 b).1.body).1 (Ei (X0 b).1.Ac).1)).1:Nat):Int)=0:=mN;omega)];exact Y3 (su AaH)
 rw[e9];exact⟨O,J6,⟨x.vb,p9,zr,zq,zt,x9⟩,NM,O,zh,hX.next NM F5 Sy hQ9,(hS.z [3,3,3,3] 4 2)⟩
structure Fr(n:Nat)(d:Dk):Prop where
 AY:d.AY=[]
 off:d.off=false
 left:d.left<=0
 len:d.kept.length=n
theorem Fr.C6{d:Dk}(h:Fr n d):Xc d=(false,d):=by
 have e:Km d=d:=by unfold Km;rw[Y3 (oh h.left)]
 unfold Xc;rw[Y3 (nB h.off),e,Y7 h.AY]
theorem Xu9{d:Dk}(h:Fr n d){i:Int}{b:Lu}(hi:0<=i/\i<(n:Nat))(hb:b.length<=32):(Xz d i b).1=0/\Fr n (Xz d i b).2:=by
 have e:N7 d i=true:=by unfold N7;rw[h.len,decide_eq_true hi.1,decide_eq_true hi.2];rfl
 unfold Xz;rw[Y3 (nB e),Y3 om,h.C6,Y3 Bool.false_ne_true];exact⟨O,⟨h.AY,h.off,h.left,h.len⟩⟩
theorem Xui:∀(l:List (Int×Lu)) (k:List Lu),(l.foldl UL k).length=k.length
 | [],k=>rfl
 | w::l,k=>by rw[Ky,Xui l];unfold UL;simp
theorem Sq{d:Dk}(h:Fr n d):(Fp d).1=0/\Fr n (Fp d).2:=by
 unfold Fp;rw[h.C6,Y3 Bool.false_ne_true];exact⟨O,⟨h.AY,h.off,h.left,by show(d.Ah.foldl UL d.kept).length=n;rw[Xui];exact h.len⟩⟩
theorem gw{n:Nat}:∀(Fv:List (Dk->Nat×Dk)),(∀st∈Fv,∀d,Fr n d->(st d).1=0/\Fr n (st d).2)->∀d,Fr n d->(Gd Fv d).1=0/\Fr n (Gd Fv d).2
 | [],_,d,h=>⟨O,h⟩
 | f::r,hs,d,h=>by
  obtain⟨h1,h2⟩:=hs f sz d h;rw[Gd,Y3 (nB h1)];exact gw r (λst Cp=>hs st (by simp[Cp])) _ h2
theorem XL(used:Lu)(i:Nat):(jm used i).length<=32:=by
 unfold jm;rw[Ye,Yl];omega
theorem gY{d0:Dk}(h0:Fr n d0)(hn:4<=n){gn ar u:Int}(ha:ar=0\/ar=1){used:Lu}(hu:(used.length:Nat)<=It d0)(Dg:Nat):∀st∈OR d0 gn ar u used Dg,∀d,Fr n d->(st d).1=0/\Fr n (st d).2:=by
 intro st h d hd;unfold OR at h;rcases Yn.1 h with h|h
 ·obtain⟨i,hi,rfl⟩:=Fg.1 h;rw[List.mem_range'_1]at hi;have h1:i<(used.length+31)/32:=by unfold cntF at hi;omega
  have hs:YX d0 ar i=2+ar*GM d0+(i:Nat):=rfl;have h2:It d0=GM d0*32:=rfl;have h3:GM d0=((n:Nat)-2:Int)/2:=by unfold GM;rw[h0.len]
  refine Xu9 hd ?_ (XL used i);rw[hs];rcases ha with rfl|rfl<;>omega
 ·simp only[Yi,Fw,or_false]at h
  rcases h with rfl|rfl|rfl
  ·exact Sq hd
  ·exact Xu9 hd om (by simp[Nq,sO,UR])
  ·exact Sq hd
structure pA(n k:Nat)(L:Lg):Prop where
 d:Fr n L.d
 len:4<=n
 Az:L.Az=0\/L.Az=1
 used:L.used=(L.data.length:Nat)
 room:L.used+746*((k:Nat):Int)<=It L.d
 gen:0<=L.gen/\L.gen+(k:Nat)<262144
theorem pA.less{L:Lg}(h:pA n (k+1) L):pA n k L:=⟨h.d,h.len,h.Az,h.used,by have:=h.room;omega,by have:=h.gen;omega⟩
theorem Ve{L:Lg}(h:pA n (k+1) L){b:Lu}(h1:1<=b.length)(h2:b.length<=740):(Gp L b).1=0/\pA n k (Gp L b).2:=by
 obtain⟨F,hF,el⟩:∃F,Fe b=(F,0)/\F.length=b.length+6:=⟨(IM b).map Ew++b,by unfold Fe;rw[Y3 om,Y3 om],by simp[IM]⟩
 have hR:=h.room;have hG:=h.gen;have hU:=h.used;have hA:(L.data++F).length=L.data.length+F.length:=Y0;unfold Gp;rw[hF];dsimp only
 rw[Y3 de,Y3 om];have hr:=gw (OR L.d (L.gen+1) L.Az (L.used+(F.length:Nat)) (L.data++F) L.used.toNat) (gY h.d h.len h.Az om _) L.d h.d;unfold Ku;dsimp only
 rw[Y3 (nB hr.1)];refine⟨O,⟨hr.2,h.len,h.Az,?_,?_,?_⟩⟩
 ·show L.used+(F.length:Nat)=((L.data++F).length:Nat)
  omega
 ·show L.used+(F.length:Nat)+746*((k:Nat):Int)<=It (Gd _ _).2
  rw[Xsl (d:=L.d) (by rw[hr.2.len,h.d.len])];omega
 ·show 0<=L.gen+1/\L.gen+1+(k:Nat)<262144
  omega
theorem Xtv:∀(l:List Ch) (out:Lu),(∀c∈l,Mh c=true)->(out++(l.map B5).flatten).length<=4000->D_ l out=(out++(l.map B5).flatten,0)
 | [],out,_,h=>by
  rw[D_,Y3 (by simp at h;omega)];simp
 | c::l,out,hr,h=>by
  have e:out++((c::l).map B5).flatten=(out++B5 c)++(l.map B5).flatten:=by simp
  rw[e]at h ⊢;rw[D_,Y7 (hr c sz),Xtv l _ (λx hx=>hr x (by simp[hx])) h]
theorem Xv1{c:Ch}(h:Mh c=true):1<=(B5 c).length/\(B5 c).length<=367:=by
 unfold Mh at h;simp only[Yb,dq1]at h
 unfold B5;simp only[Y0,List.length_cons,List.length_nil]
 omega
theorem VX{l:List Ch}(h:∀c∈l,Mh c=true):(l.map B5).flatten.length<=l.length*367:=by
 induction l with
 | nil=>simp
 | cons c l ih =>
  have h1:=Xv1 (h c sz);have h2:=ih λx hx=>h x (by simp[hx])
  rw[Yt,JG,Y0,List.length_cons];omega
theorem VE{s:St}(h:pA n (k+1) s.log){l:List Ch}(hl:l.length<=2)(hr:∀c∈l,Mh c=true):(Xu s l).1=0/\pA n k (Xu s l).2.log:=by
 have h1:=VX hr;have he:D_ l []=((l.map B5).flatten,0):=Xtv l [] hr (by rw[Ez];omega);unfold Xu;rw[he];dsimp only
 by_cases h0:l=[]
 ·rw[Y7 (.inr h0)];exact⟨O,h.less⟩
 ·rw[Y3 (by rintro(h2|h2);exact h2 O;exact h0 h2)];have vf:1<=(l.map B5).flatten.length:=by
   cases l with
   | nil=>exact Yy O h0
   | cons c l =>
    have:=(Xv1 (hr c sz)).1
    rw[Yt,JG,Y0];omega
  obtain⟨a1,a2⟩:=Ve h (b:=(l.map B5).flatten) vf om;have e5:(if(Gp s.log (l.map B5).flatten).1=5 then K9 (Gp s.log (l.map B5).flatten).2 (UO (OU s.A9 l))else Gp s.log (l.map B5).flatten)=Gp s.log (l.map B5).flatten:=Y3 (nB a1);rw[e5,Y7 a1];exact⟨O,a2⟩
theorem Tw{r:Al}(h:Xt r=true):1<=r.name.length/\r.name.length<=23/\(PF r).1.length<=300:=by
 have h0:=h;unfold Xt at h;simp only[Yb,dq1]at h
 have hn:r.name.length<=23/\r.name≠[]:=by
  have h1:=h.1.2;unfold MC at h1;cases hp:EZ r.name with
  | none=>rw[hp]at h1;cases h1
  | some x=>obtain⟨_,_,_,a,b⟩:=wW hp;exact⟨a,b⟩
 have hq:r.parent.length<=23:=by
  have h1:=h.2;unfold pS at h1;split at h1
  ·rename_i e;rw[e];exact Y4 _
  ·cases hp:EZ r.parent with
   | none=>rw[hp]at h1;cases h1
   | some x=>obtain⟨_,_,_,a,_⟩:=wW hp;exact a
 refine⟨U5.2 hn.2,hn.1,?_⟩;unfold PF;rw[Y7 h0];simp only[HW,OT,KU,Yt,Hm,JG,Y5x,Y0,List.length_cons,List.length_nil,kJ]
 omega
theorem l5{la lb:List Al}(ha:∀r∈la,Xt r=true)(hb:∀r∈lb,Xt r=true)(h1:la.length<=1)(h2:lb.length<=1):(Jg la lb).length<=2/\∀c∈Jg la lb,Mh c=true:=by
 have a1:=Yw (λx:Al=>decide (BG lb x.name<0)) la;have a2:=Yw (λx:Al=>!(get la x.name).isSome||!decide (getD la x.name=x)) lb;refine⟨?_,λc hc=>?_⟩
 ·unfold Jg RE Ov;rw[pO,Y0,Yh,Yh];omega
 ·unfold Jg at hc;have hc:=(X8q _).mem_iff.1 hc;rcases Yn.1 hc with hc|hc
  ·unfold RE at hc;obtain⟨r,hr,rfl⟩:=Fg.1 hc
   have:=Tw (ha r (O4.1 hr).1)
   unfold Mh;simp only[Yb,dq1]
   exact⟨⟨⟨this.1,om⟩,Y4 _⟩,O⟩
  ·unfold Ov at hc;obtain⟨r,hr,rfl⟩:=Fg.1 hc
   have:=Tw (hb r (O4.1 hr).1)
   unfold Mh;simp only[Yb,dq1]
   exact⟨⟨⟨this.1,om⟩,this.2.2⟩,O⟩
theorem Xf1:OI [] []=[]:=Yf (by unfold OI;rw[pO];rfl)
structure M_(k:Nat)(s:CB):Prop where
 q:s.q=[]
 log:pA 200 k s.k.log
 jD:s.Z.l.length<=1
 right:∀r∈s.Z.l,Xt r=true
theorem tO{s:CB}{t:B4}(h:M_ (k+1) s)(hf:t.C6=false)(hq:t.q=[])(hl:t.Z.l.length<=1)(hr:∀r∈t.Z.l,Xt r=true):∃K,G0 s t=(0,⟨t.Z,[],K⟩)/\M_ k ⟨t.Z,[],K⟩:=by
 obtain⟨d1,d2⟩:=l5 h.right hr h.jD hl;have hc:=VE h.log (l:=Jg s.Z.l t.Z.l) d1 d2;refine⟨(Xu s.k (Jg s.Z.l t.Z.l)).2,?_,⟨O,hc.2,hl,hr⟩⟩;unfold G0;rw[Y3 (nB hf),h.q,hq,Xf1,Yr];dsimp only
 rw[Y7 hc.1]
theorem Sk{g:Cg}{kk:Nat}{s:CB}{b j:Lu}{r:HC}{a:List Pq}{t:B4}(h:M_ (k+1) s)(hp:X0 b=(r,0))(ha:CN r.Au r.target r.body=(a,0))(hj:Ei r.Ac=(j,0))(h1:Xp (Zf++Xy r)<9)(h2:Xp ((r.Au++[32])++Xy r)=kk)(eu:kk<9)
  (ht:RO g kk a j (Gu s)=t) (hf:t.C6=false) (hc:t.call=[]) (hrf:FN t.Aj=true) (hq:t.q=[]) (hl:t.Z.l.length<=1) (hr:∀r∈t.Z.l,Xt r=true):∃K,Fz g s b=((Nj t.Aj,[]),⟨t.Z,[],K⟩)/\M_ k ⟨t.Z,[],K⟩:=by
 have hd:Gc g s kk a j=t:=by
  unfold Gc;rw[ht];dsimp only
  rw[Y3 (by rw[hrf,Y5q,jy];decide)]
 obtain⟨K,hE,hK⟩:=tO h hf hq hl hr;refine⟨K,?_,hK⟩;unfold Fz;rw[hp];dsimp only
 rw[ha,hj];dsimp only
 rw[Y3 (by rintro(h9|h9|h9)<;>exact h9 O),Y3 (not_not_intro h1),h2,Y3 (not_not_intro eu),hd,hE];dsimp only
 rw[Y3 de,hc,Y3 de]
abbrev N1(d:Nat):Lu:=Nw 1++45::GZ 16 d
abbrev N6(d:Nat):Lu:=Nw 6++45::GZ 16 d
def Ef(d:Nat):Al:=⟨6,N6 d,[],[],[],[],0,0,0,false⟩
def Eh(d:Nat)(u:Lu):Al:=⟨1,N1 d,[],u,[],[],0,0,0,true⟩
theorem S_(d:Nat):N1 d=jl 1 d:=rfl
theorem Ta(d:Nat):N6 d=jl 6 d:=rfl
theorem Xvi{r:Al}(h1:r.user.length<=32)(h2:r.service=[])(h3:r.url=[])(h4:r.made=0)(h5:r.used=0)(h6:r.Bq=0)(h7:MC r.name r.kind=true)(h8:pS r.kind r.parent=true):Xt r=true:=by
 unfold Xt;rw[h2,h3,h4,h5,h6,h7,h8,decide_eq_true (show((r.user.length:Nat):Int)<=32 by omega)];rfl
theorem Xl6(hd:d<18446744073709551616):Xt (Ef d)=true :=
 Xvi (Y4 _) O O O O O (by show MC (N6 d) 6=true;unfold MC;rw[Ta,wU (k:=6) de de hd];rfl) O
theorem Xlw(hd:d<18446744073709551616)(hu:u.length<=32):Xt (Eh d u)=true :=
 Xvi hu O O O O O (by show MC (N1 d) 1=true;unfold MC;rw[S_,wU (k:=1) de de hd];rfl) O
abbrev WB(l:List Al)(D:List Nat):Wd:=⟨30,l,D,0⟩
theorem rE(hd:d<18446744073709551616){l:List Al}(h1:get l (N6 d)=none)(h2:l.length<=1)(h3:BG l (N6 d)<0):AH (WB l (d::D)) Nu=((N6 d,0),WB (l++[Ef d]) D):=by
 have hn:HR (WB l (d::D)) Nu=((N6 d,0),D):=by
  unfold HR Kj;rw[Y3 de];dsimp only
  rw[Y3]
  ·rfl
  ·show ¬ ((get l (N6 d)).isSome=true)
   rw[h1];decide
 have hR:jS (WB l (d::D)) Nu=Ef d:=by unfold jS;rw[hn];rfl
 have ha:Ld 30 l (Ef d)=0:=by
  unfold Ld;rw[Y3 (by rw[Xl6 hd];decide),Y3 (by show ¬ 0<=BG l (N6 d);omega),Y3 (by rintro⟨h,_⟩;exact h O),Y3 om]
 have ha2:add 30 l (Ef d)=l++[Ef d]:=by unfold add;rw[Y7 ha]
 unfold AH;rw[hn,hR];dsimp only
 rw[Y3 de,ha,ha2,Y3 de]
theorem Abr(hd:d<18446744073709551616){l:List Al}(hu:u.length<=32)(h1:get l (N1 d)=none)(h2:l.length<=1)(h3:BG l (N1 d)<0){r:Al}(hr:r=⟨1,[],[],u,[],[],0,0,0,true⟩):AH (WB l (d::D)) r=((N1 d,0),WB (l++[Eh d u]) D):=by
 subst hr;have hn:HR (WB l (d::D)) ⟨1,[],[],u,[],[],0,0,0,true⟩=((N1 d,0),D):=by
  unfold HR Kj;rw[Y3 (by show ¬ Nw 1=[];decide)];dsimp only
  rw[Y3];show ¬ ((get l (N1 d)).isSome=true)
  rw[h1];decide
 have hR:jS (WB l (d::D)) ⟨1,[],[],u,[],[],0,0,0,true⟩=Eh d u:=by unfold jS;rw[hn];rfl
 have ha:Ld 30 l (Eh d u)=0:=by
  unfold Ld;rw[Y3 (by rw[Xlw hd hu];decide),Y3 (by show ¬ 0<=BG l (N1 d);omega),Y3 (by rintro⟨h,_⟩;exact h O),Y3 om]
 have ha2:add 30 l (Eh d u)=l++[Eh d u]:=by unfold add;rw[Y7 ha]
 unfold AH;rw[hn,hR];dsimp only
 rw[Y3 de,ha,ha2,Y3 de]
theorem Ag0(a b:Nat):N6 a≠N1 b/\N1 b≠N6 a:=by
 have h:N6 a≠N1 b:=λe=>by
  have e2:(76:Ui)::(84::45::GZ 16 a)=84::(71::84::45::GZ 16 b):=e;injection e2 with e2 _
  revert e2;decide
 exact⟨h,λe=>h e.symm⟩
theorem vN{a:Nat}(ha:a<18446744073709551616)(hb:b<18446744073709551616)(h:N6 a=N6 b):a=b:=by
 have h1:EZ (jl 6 a)=some (6,a):=wU de de ha;have h2:EZ (jl 6 b)=some (6,b):=wU de de hb;have h3:jl 6 a=jl 6 b:=h;have h4:some (6,a)=some (6,b):=h1.symm.trans ((Y5 EZ h3).trans h2);exact Y5 Prod.snd (Option.some.inj h4)
end Go.Proofs.W9
namespace Rq
open Pc Gk Ul Go
theorem Sa{l t rest:Lu}{c:Ui}(h:∀x∈l,x≠c):Go.Lib.cut (l++((c::t)++rest)) (c::t)=(l,rest,true):=by
 have hi:Go.Lib.index (l++((c::t)++rest)) (c::t)=(l.length:Int):=Go.Lib.index_hit (λj hj=>by
   unfold Go.Lib.occAt;rw[qD (Y62 hj),Yp hj,Yz,Y32]
   have:(c==l[j])=false:=beq_eq_false_iff_ne.2 λe=>h _ (Zw hj) e.symm
   rw[this,yJ]) sz (by
   unfold Go.Lib.occAt;rw[Zx];exact yq.2 (Y5c _ _))
 unfold Go.Lib.cut;rw[hi,Y7 (Y4q _),Y8,U9,<-Yc]
 congr 2
 rw[show l.length+(c::t).length=(l++(c::t)).length by simp,Zx]
theorem Xl4{l rest:Lu}(h:∀x∈l,x≠13):Xq (l++(CR++rest))=(l,0,rest):=by
 have e:Go.Lib.cut (l++(CR++rest)) CR=(l,rest,true):=Sa h;unfold Xq;rw[e,Y7 O]
def PG(Bi:Lu)(h:Pq):Lu:=h.1++58::(Bi++h.2)
def Oo(Bi:Lu)(s:Lu)(h:Pq):Lu:=s++((((h.1++[58])++Bi)++h.2)++CR)
def Kb(r:HC):Lu:=(((((r.Au++[32])++r.target)++(32::Ns)))++CR)
def iY(r:HC)(Bi:Lu):Lu:=(r.Ac.foldl (Oo Bi) (Kb r)++CR)++r.body
def Mp(Bi:Lu)(hs:List Pq):Lu:=(hs.map λh=>PG Bi h++CR).flatten
theorem Xru(Bi:Lu):∀(hs:List Pq) (s:Lu),hs.foldl (Oo Bi) s=s++Mp Bi hs
 | [],s=>by simp[Mp]
 | h::hs,s=>by
  rw[Ky,Xru Bi hs];simp[Oo,Mp,PG]
structure T1(Bi:Lu)(h:Pq):Prop where
 name:L_ h.1=true
 value:List.all h.2 (FE 32 126)=true
 trim:Go.Lib.trimS (Bi++h.2) [32,9]=h.2
 Bi:∀x∈Bi,x≠13
theorem TP{c:Ui}(h:I6 c=true):c≠13/\c≠58/\c≠32:=by
 refine⟨?_,?_,?_⟩<;>(rintro rfl;revert h;decide)
theorem ry{c:Ui}(h:FE 32 126 c=true):c≠13:=by rintro rfl;revert h;decide
theorem T1.Ag1{h:Pq}(hh:T1 Bi h):∀x∈PG Bi h,x≠13:=by
 intro x hx;have h1:=hh.name;unfold L_ at h1;simp only[Yb]at h1
 unfold PG at hx;rcases Yn.1 hx with hx|hx
 ·exact(TP (Yv.1 h1.1 x hx)).1
 ·rcases Yi.1 hx with rfl|hx
  ·decide
  ·rcases Yn.1 hx with hx|hx
   ·exact hh.Bi x hx
   ·exact ry (Yv.1 hh.value x hx)
theorem Xxo{h:Pq}(hh:T1 Bi h):RF (PG Bi h)=(h,0):=by
 have h1:=hh.name;unfold L_ at h1;simp only[Yb]at h1
 have u:=pQ (Ay:=[58]) (a:=h.1) (b:=58::(Bi++h.2)) (λc hc=>by have:=(TP (Yv.1 h1.1 c hc)).2.1;simp[this]) (λc hc=>by simp at hc;subst hc;decide);have e:CA 58 (PG Bi h)=(h.1,Bi++h.2,true):=by
  unfold CA PG;rw[u.1,u.2];rfl
 have e2:yi (PG Bi h)=h.2:=by unfold yi;rw[e];exact hh.trim
 unfold RF SH;rw[e2,e,hh.name,hh.value];rfl
theorem nQ{h:Pq}:PG Bi h≠[]:=by unfold PG;simp
theorem Xin(Bi:Lu):∀(hs:List Pq) (k:Nat) (out:List Pq) (body:Lu),(∀h∈hs,T1 Bi h)->out.length+hs.length<=32->(Mp Bi hs++(CR++body)).length<k->Fc k (Mp Bi hs++(CR++body)) out=(out++hs,0,body)
 | [],k,out,body,_,_,hk=>by
  cases k with
  | zero=>exact Yy hk sz
  | succ k =>
   have e:Xq (Mp Bi []++(CR++body))=([],0,body):=Xl4 (l:=[]) (λx h=>by simp at h);have e1:jk (Mp Bi []++(CR++body))=true:=by unfold jk;rw[e];rfl
   rw[Fc,Y7 e1,e,Yr]
 | h::hs,k,out,body,hh,hl,hk=>by
  have h0:=hh h sz;have es:Mp Bi (h::hs)++(CR++body)=PG Bi h++(CR++(Mp Bi hs++(CR++body))):=by simp[Mp]
  rw[List.length_cons]at hl;rw[es]at hk ⊢;cases k with
  | zero=>exact Yy hk sz
  | succ k =>
   have e:=Xl4 (l:=PG Bi h) (rest:=Mp Bi hs++(CR++body)) h0.Ag1;have e1:jk (PG Bi h++(CR++(Mp Bi hs++(CR++body))))=false:=by
    unfold jk;rw[e]
    have:(PG Bi h==[])=false:=beq_eq_false_iff_ne.2 nQ
    dsimp only
    rw[this,jy]
   rw[Fc,Y3 (nB e1),e];dsimp only
   rw[Y3 de,Y3 om,Xxo h0,Y3 (λh9=>h9 O)];have JW:(Mp Bi hs++(CR++body)).length<k:=by
    rw[Y0,Y0 («as»:=CR)]at hk
    have:CR.length=2:=rfl
    omega
   rw[Xin Bi hs k (out++[h]) body (λx hx=>hh x (by simp[hx])) (by rw[Y0,jt];omega) JW]
   simp
theorem SS{c:Ui}(h:FE 33 126 c=true):c≠32/\c≠13:=by
 refine⟨?_,?_⟩<;>(rintro rfl;revert h;decide)
theorem Xxj{m t:Lu}(hm:m=kf\/m=Jx)(ht:sq t=true):PB ((m++[32])++t++(32::Ns))=(m,t,0):=by
 have h2:=ht;unfold sq at h2;simp only[Yb]at h2
 have hm1:∀x∈m,x≠32:=by rcases hm with rfl|rfl<;>decide
 have SO:∀x∈t,x≠32:=λx hx=>(SS (Yv.1 h2.2 x hx)).1
 have e:BS 32 ((m++[32])++t++(32::Ns))=[m,t,Ns]:=by
  rw[show(m++[32])++t++(32::Ns)=m++32::(t++32::Ns)by simp,Xld 32 m _ hm1,Xld 32 t _ SO,z6 32 Ns de]
 have e1:xM [m,t,Ns]=false:=by
  unfold xM;show(((((_:Bool)||m==[])||!List.all m (FE 65 90))||!sq t)||_)=false
  rw[ht];rcases hm with rfl|rfl<;>rfl
 have e2:Xu1 [m,t,Ns]=false:=by rcases hm with rfl|rfl<;>rfl
 unfold PB;rw[e,Y3 (nB e1),Y3 (nB e2)];rfl
structure UT(r:HC)(Bi:Lu):Prop where
 Au:r.Au=kf\/r.Au=Jx
 target:sq r.target=true
 Ac:∀h∈r.Ac,T1 Bi h
 jD:r.Ac.length<=32
 size:UB r.Ac=(((r.body.length:Nat):Int),0)
 short:(iY r Bi).length<=4096
theorem wV{r:HC}(h:UT r Bi):X0 (iY r Bi)=(r,0):=by
 have h2:=h.target;unfold sq at h2;simp only[Yb]at h2
 have AL:∀x∈(r.Au++[32])++r.target++(32::Ns),x≠13:=by
  intro x hx;rcases Yn.1 hx with hx|hx
  ·rcases Yn.1 hx with hx|hx
   ·rcases h.Au with e|e
    ·rw[e]at hx;exact(by decide:∀x∈kf++[32],x≠13) x hx
    ·rw[e]at hx;exact(by decide:∀x∈Jx++[32],x≠13) x hx
   ·exact(SS (Yv.1 h2.2 x hx)).2
  ·exact(by decide:∀x∈(32::Ns),x≠13) x hx
 have es:iY r Bi=((r.Au++[32])++r.target++(32::Ns))++(CR++(Mp Bi r.Ac++(CR++r.body))):=by
  unfold iY;rw[Xru];simp[Kb]
 have e1:Xq (iY r Bi)=((r.Au++[32])++r.target++(32::Ns),0,Mp Bi r.Ac++(CR++r.body)):=by rw[es];exact Xl4 AL
 have e2:=Xin Bi r.Ac ((Mp Bi r.Ac++(CR++r.body)).length+1) [] r.body h.Ac (by rw[List.length_nil,Yj];exact h.jD) (Nat.lt_succ_self _);unfold X0;rw[Y3 (oh h.short),e1];dsimp only
 rw[Y3 de,Xxj h.Au h.target,e2];dsimp only
 rw[Ez,h.size];rw[Y3 (λh9=>h9 O),Y3 (λh9=>h9 O),Y3 (λh9=>h9 O),Y3];unfold sN;dsimp only
 rw[Y3 om,Y3 om];decide
theorem Sj:∀(s:Lu) (a k:Nat),(∀c∈s,48<=c.toNat/\c.toNat<=57)->a<10^k->k+s.length<=4->
  s.foldl (λ(n:Int) (c:Ui)=>IntKind.i64.wrap (IntKind.i64.wrap (10*n)+IntKind.u8.wrap ((c.toNat:Int)-48))) (a:Int)=((s.foldl (λn c=>10*n+(c.toNat-48)) a:Nat):Int)
 | [],a,k,_,_,_=>rfl
 | c::s,a,k,hs,ha,hk=>by
  rw[List.length_cons]at hk;have hc:=hs c sz;have Jo:10^k<=10^3:=Y4e de om;have e:IntKind.i64.wrap (IntKind.i64.wrap (10*(a:Int))+IntKind.u8.wrap ((c.toNat:Int)-48))=((10*a+(c.toNat-48):Nat):Int):=by
   rw[IntKind.wrap_i64,IntKind.wrap_i64,IntKind.wrap_u8];omega
  rw[Ky,Ky,e];exact Sj s _ (k+1) (λx hx=>hs x (by simp[hx])) (by rw[bg];omega) om
theorem qN{c:Ui}(h:Ks c=true):48<=c.toNat/\c.toNat<=57:=by
 have h1:=Xf (p:=λc=>!Ks c||(decide (48<=c.toNat)&&decide (c.toNat<=57))) dk c;rw[h]at h1;simpa using h1
theorem Xf7(h:n<1000):(Go.Lib.decDigits n).length<=3:=by
 by_cases h1:n<10
 ·rw[Go.Lib.decDigits_one h1];simp
 ·by_cases h2:n<100
  ·rw[Go.Lib.decDigits_two h1 h2];simp
  ·rw[Go.Lib.decDigits,dif_neg h1,Go.Lib.decDigits_two om om];simp
theorem cx(h:n<1000):NG (Go.Lib.decDigits n)=(n:Int)/\Si (Go.Lib.decDigits n)=true:=by
 obtain⟨h1,h2,_,h4⟩:=rX n;have hd:∀c∈Go.Lib.decDigits n,48<=c.toNat/\c.toNat<=57:=λc hc=>qN (Yv.1 h2 c hc)
 have hl:=Xf7 h;constructor
 ·have h5:=Sj (Go.Lib.decDigits n) 0 0 hd de om;unfold NG;refine h5.trans ?_;exact Y5 Int.ofNat h1
 ·unfold Si;have a1:(Go.Lib.decDigits n !=[])=true:=bne_iff_ne.2 h4;have a2:decide (((Go.Lib.decDigits n).length:Int)<=4)=true:=decide_eq_true om;have a3:List.all (Go.Lib.decDigits n) (FE 48 57)=true:=Yv.2 λc hc=>by
   have:=hd c hc
   unfold FE;have h7:(48:Ui).toNat=48:=rfl;have h8:(57:Ui).toNat=57:=rfl;rw[h7,h8,decide_eq_true this.1,decide_eq_true this.2];rfl
  rw[a1,a2,a3];rfl
theorem Xw0{s p:Lu}(h:∀c∈s,p.contains c=false):Go.Lib.trimS s p=s:=by
 have hr:Go.Lib.trimRightS s p=s:=by
  unfold Go.Lib.trimRightS;cases e:s.reverse with
  | nil=>rw[List.dropWhile_nil,<-e,Y54]
  | cons c r =>
   rw[Y3g,<-e,Y54]
   have:c∈s:=List.mem_reverse.1 (by rw[e];simp)
   rw[h c this];decide
 unfold Go.Lib.trimS;rw[hr];unfold Go.Lib.trimLeftS;cases s with
 | nil=>rfl
 | cons c r=>rw[Y3g (by rw[h c sz];decide)]
theorem YJ{s p:Lu}{g:Ui}(hg:p.contains g=true)(h:∀c∈s,p.contains c=false)(A8:s≠[]):Go.Lib.trimS (g::s) p=s:=by
 have hr:Go.Lib.trimRightS (g::s) p=g::s:=by
  unfold Go.Lib.trimRightS;rw[List.reverse_cons];cases e:s.reverse with
  | nil=>exact Yy (List.reverse_eq_nil_iff.1 e) A8
  | cons c r =>
   have:c∈s:=List.mem_reverse.1 (by rw[e];simp)
   rw[Yz,Y3g (by rw[h c this];decide),<-Yz,<-e,List.reverse_append,Y54];rfl
 unfold Go.Lib.trimS;rw[hr];unfold Go.Lib.trimLeftS;rw[List.dropWhile_cons_of_pos hg];cases s with
 | nil=>rfl
 | cons c r=>rw[Y3g (by rw[h c sz];decide)]
theorem Xrl{l t rest:Lu}{c:Ui}(h:∀x∈l,x≠c):Go.Lib.index (l++((c::t)++rest)) (c::t)=(l.length:Int):=Go.Lib.index_hit (λj hj=>by
   unfold Go.Lib.occAt;rw[qD (Y62 hj),Yp hj,Yz,Y32]
   have:(c==l[j])=false:=beq_eq_false_iff_ne.2 λe=>h _ (Zw hj) e.symm
   rw[this,yJ]) sz (by
   unfold Go.Lib.occAt;rw[Zx];exact yq.2 (Y5c _ _))
theorem eN{l t:Lu}{c:Ui}(h:∀x∈l,x≠c):Go.Lib.index l (c::t)=-1:=Go.Lib.index_none λj hj=>by
 unfold Go.Lib.occAt;rcases C5 j l.length with h1|h1
 ·rw[Yp h1,Y32]
  have:(c==l[j])=false:=beq_eq_false_iff_ne.2 λe=>h _ (Zw h1) e.symm
  rw[this,yJ]
 ·rw[Yk h1];rfl
theorem Xcl{c:Ui}{t:Lu}:∀(L:List Lu),L≠[]->(∀x∈L,∀y∈x,y≠c)->Go.Lib.splitK (c::t) 0 (Go.Lib.count (Go.Lib.join L (c::t)) (c::t)) (Go.Lib.join L (c::t))=L/\Go.Lib.count (Go.Lib.join L (c::t)) (c::t)+1=L.length
 | [],h,_=>Yy O h
 | [x],_,h=>by
  have hi:=eN (t:=t) (h x sz);have e:Go.Lib.join [x] (c::t)=x:=by simp[Go.Lib.join]
  rw[e,Go.Lib.count_miss hi];exact⟨O,O⟩
 | x::y::L,_,h=>by
  have e:Go.Lib.join (x::y::L) (c::t)=x++((c::t)++Go.Lib.join (y::L) (c::t)):=by simp[Go.Lib.join]
  have hi:=Xrl (t:=t) (rest:=Go.Lib.join (y::L) (c::t)) (h x sz);obtain⟨h1,h2⟩:=Xcl (c:=c) (t:=t) (y::L) sz (λz hz=>h z (by simp[hz]));have ed:(x++((c::t)++Go.Lib.join (y::L) (c::t))).drop (x.length+(c::t).length)=Go.Lib.join (y::L) (c::t):=by
   rw[<-Yc,show x.length+(c::t).length=(x++(c::t)).length by simp,Zx]
  rw[e,Go.Lib.count_hit sz hi,ed];refine⟨?_,by rw[List.length_cons,<-h2];omega⟩;rw[Zz 1,Go.Lib.splitK,hi,Y3 sz];show(x++_).take ((x.length:Int).toNat+0)::Go.Lib.splitK (c::t) 0 _ ((x++_).drop ((x.length:Int).toNat+(c::t).length))=_
  rw[Y8,Hn,U9,ed,h1]
theorem Xsx{c:Ui}{a b r:Lu}(ha:∀x∈a,x≠c)(hb:∀x∈b,x≠c):Go.Lib.splitK [c] 0 2 (a++([c]++(b++([c]++r))))=[a,b,r]:=by
 have h1:=Xrl (t:=[]) (rest:=b++([c]++r)) ha;have h2:=Xrl (t:=[]) (rest:=r) hb;have e1:(a++([c]++(b++([c]++r)))).drop (a.length+[c].length)=b++([c]++r):=by
  rw[<-Yc,show a.length+[c].length=(a++[c]).length by simp,Zx]
 have e2:(b++([c]++r)).drop (b.length+[c].length)=r:=by
  rw[<-Yc,show b.length+[c].length=(b++[c]).length by simp,Zx]
 rw[Go.Lib.splitK,h1,Y3 sz];show(a++_).take ((a.length:Int).toNat+0)::Go.Lib.splitK [c] 0 1 ((a++_).drop ((a.length:Int).toNat+[c].length))=_
 rw[Y8,Hn,U9,e1,Go.Lib.splitK,h2,Y3 sz];show a::(b++_).take ((b.length:Int).toNat+0)::Go.Lib.splitK [c] 0 0 ((b++_).drop ((b.length:Int).toNat+[c].length))=_
 rw[Y8,Hn,U9,e2];rfl
abbrev CC:Lu:=[13,10,13,10]
theorem rI{body:Lu}:∀(L:List Lu),(∀x∈L,x≠[]/\∀y∈x,y≠13)->∀j,j<(Go.Lib.join L CR).length->Go.Lib.occAt (Go.Lib.join L CR++(CC++body)) CC j=false
 | [],_,j,h=>Yy h (Nat.not_lt_zero _)
 | [x],h,j,hj=>by
  have e:Go.Lib.join [x] CR=x:=by simp[Go.Lib.join]
  rw[e]at hj ⊢;unfold Go.Lib.occAt;rw[qD (Y62 hj),Yp hj,Yz,Y32]
  have:((13:Ui)==x[j])=false:=beq_eq_false_iff_ne.2 λe=>(h x sz).2 _ (Zw hj) e.symm
  rw[this,yJ]
 | x::y::L,h,j,hj=>by
  have e:Go.Lib.join (x::y::L) CR=x++(13::10::Go.Lib.join (y::L) CR):=by simp[Go.Lib.join,CR]
  rw[e]at hj ⊢;unfold Go.Lib.occAt;rcases C5 j x.length with h1|h1
  ·rw[Yc,qD (Y62 h1),Yp h1,Yz,Y32]
   have:((13:Ui)==x[j])=false:=beq_eq_false_iff_ne.2 λe=>(h x sz).2 _ (Zw h1) e.symm
   rw[this,yJ]
  ·obtain⟨k,rfl⟩:=Nat.exists_eq_add_of_le h1;rw[Yc,Y50,Yk h1,Ez,Y3y]
   match k with
   | 0 =>
    obtain⟨hy,AdB⟩:=h y sz;cases y with
    | nil=>exact Yy O hy
    | cons a y =>
     have ha:((13:Ui)==a)=false:=beq_eq_false_iff_ne.2 λe=>AdB a sz e.symm
     have e2:∃r,Go.Lib.join ((a::y)::L) CR=a::r:=by cases L<;>exact⟨_,O⟩
     obtain⟨r,hr⟩:=e2;rw[hr];simp[List.isPrefixOf,ha]
   | 1=>rfl
   | k+2 =>
    have O6:k<(Go.Lib.join (y::L) CR).length:=by
     rw[Y0,List.length_cons,List.length_cons]at hj;omega
    exact rI (y::L) (λz hz=>h z (by simp[hz])) k O6
theorem tH{body:Lu}{L:List Lu}(h:∀x∈L,x≠[]/\∀y∈x,y≠13):Go.Lib.cut (Go.Lib.join L CR++(CC++body)) CC=(Go.Lib.join L CR,body,true):=by
 have hi:Go.Lib.index (Go.Lib.join L CR++(CC++body)) CC=((Go.Lib.join L CR).length:Int):=Go.Lib.index_hit (rI L h) sz (by
  unfold Go.Lib.occAt;rw[Zx];exact yq.2 (Y5c _ _))
 unfold Go.Lib.cut;rw[hi,Y7 (Y4q _),Y8,U9,<-Yc]
 congr 2
 rw[show(Go.Lib.join L CR).length+CC.length=(Go.Lib.join L CR++CC).length by simp,Zx]
def Uu:Lu:=[72,84,84,80,47,49,46,49]++([32]++([50,48,48]++([32]++[79,75])))
def OV(h:Pq):Lu:=h.1++([58,32]++h.2)
def K_(r:Cr):List Lu:=Uu::(DD r).map OV
theorem Aao(l:List Pq):∀(s:Lu),l.foldl qy s=s++(l.map λh=>OV h++CR).flatten:=by
 induction l with
 | nil=>intro s;simp
 | cons h l ih =>
  intro s;rw[Ky,ih];simp[qy,OV]
theorem SU:∀(x:Lu) (L:List Lu),Go.Lib.join (x::L) CR++CR=x++(CR++(L.map λy=>y++CR).flatten)
 | x,[]=>by simp[Go.Lib.join]
 | x,y::L=>by
  have e:Go.Lib.join (x::y::L) CR=x++(CR++Go.Lib.join (y::L) CR):=by simp[Go.Lib.join]
  rw[e,Yc,Yc,SU y L]
  simp
theorem o5{r:Cr}(h:r.status=200):Ma r=Uu++CR:=by
 unfold Ma;rw[h];decide+kernel
theorem Tm{r:Cr}(h:r.status=200):Lh r=Go.Lib.join (K_ r) CR++(CC++r.body):=by
 have e:=SU Uu ((DD r).map OV);unfold Lh K_;rw[Aao,o5 h,show CC=CR++CR from O,Yc CR,<-Yc (Go.Lib.join _ _),e];simp[s8,Function.comp_def]
theorem mQ{h:Pq}(hh:Di h=false):OV h≠[]/\(∀y∈OV h,y≠13)/\∀y∈h.1,y≠58:=by
 unfold Di at hh;simp only[Mw,sZ]at hh
 have h1:=hh.1.1;have h2:=hh.1.2;unfold L_ at h1;unfold ln at h2;simp only[Yb]at h1 h2
 refine⟨by unfold OV;simp,λy hy=>?_,λy hy=>(TP (Yv.1 h1.1 y hy)).2.1⟩;unfold OV at hy;rcases Yn.1 hy with hy|hy
 ·exact(TP (Yv.1 h1.1 y hy)).1
 ·rcases Yn.1 hy with hy|hy
  ·exact(by decide:∀y∈([58,32]:Lu),y≠13) y hy
  ·exact ry (Yv.1 h2.1 y hy)
theorem cy(n:Nat):∀y∈Go.Lib.decDigits n,y≠13:=λy hy e=>by
 have:=qN (Yv.1 (rX n).2.1 y hy)
 rw[e]at this
 revert this;decide
theorem S5{r:Cr}(hr:FN r=true):∀h∈DD r,OV h≠[]/\(∀y∈OV h,y≠13)/\∀y∈h.1,y≠58:=by
 intro h hh;rcases Yn.1 hh with h1|h1
 ·unfold FN at hr;simp only[Yb]at hr
  have:=Yv.1 hr.2 h h1
  exact mQ (su this)
 ·simp only[Yi,Fw,or_false]at h1
  subst h1;refine⟨by unfold OV;simp,λy hy=>?_,(by decide:∀y∈Pe,y≠58)⟩;unfold OV at hy;rcases Yn.1 hy with hy|hy
  ·exact(by decide:∀y∈Pe,y≠13) y hy
  ·rcases Yn.1 hy with hy|hy
   ·exact(by decide:∀y∈([58,32]:Lu),y≠13) y hy
   ·exact cy _ y hy
theorem Xup{r:Cr}(hr:FN r=true):∀x∈K_ r,x≠[]/\∀y∈x,y≠13:=by
 intro x hx;rcases Yi.1 hx with rfl|hx
 ·exact⟨de,de⟩
 ·obtain⟨h,hh,rfl⟩:=Fg.1 hx
  have:=S5 hr h hh
  exact⟨this.1,this.2.1⟩
theorem b_{r:Cr}(hr:FN r=true){h:Pq}(hh:h∈DD r):Go.Lib.cut (OV h) [58,32]=(h.1,h.2,true):=Sa (t:=[32]) (S5 hr h hh).2.2
theorem fT{r:Cr}(h:r.status=200)(hr:FN r=true):Go.Lib.cut (Lh r) CC=(Go.Lib.join (K_ r) CR,r.body,true):=by
 rw[Tm h];exact tH (Xup hr)
theorem Xjc{r:Cr}(hr:FN r=true):Go.Lib.splitK CR 0 (Go.Lib.count (Go.Lib.join (K_ r) CR) CR) (Go.Lib.join (K_ r) CR)=K_ r/\Go.Lib.count (Go.Lib.join (K_ r) CR) CR+1=(K_ r).length :=
 Xcl (K_ r) (by unfold K_;simp) (λx hx=>(Xup hr x hx).2)
theorem fU:Go.Lib.splitK [32] 0 2 Uu=[[72,84,84,80,47,49,46,49],[50,48,48],[79,75]]:=Xsx de de
end Rq
namespace Xm
open Pc Gk Ul Go FI
theorem nS:∀m∈MK,∀r:Lu,ON (m.2++r)=some m:=by
 intro m hm r;simp only[MK,Yi,Fw,or_false]at hm
 rcases hm with rfl|rfl|rfl|rfl|rfl
 ·exact qE (UC [38,97,109,112,59] r)
 ·unfold ON MK;rw[a_ (by rw[show(([60],[38,108,116,59]):Px).2++r=38::108::(116::59::r) from O,aO de];decide)];exact qE (UC [38,108,116,59] r)
 ·unfold ON MK;rw[a_ (by rw[show(([62],[38,103,116,59]):Px).2++r=38::103::(116::59::r) from O,aO de];decide),
   a_ (by rw[show(([62],[38,103,116,59]):Px).2++r=38::103::(116::59::r) from O,aO de];decide)]
  exact qE (UC [38,103,116,59] r)
 ·unfold ON MK;rw[a_ (by rw[show(([34],[38,113,117,111,116,59]):Px).2++r=38::113::(117::111::116::59::r) from O,aO de];decide),
   a_ (by rw[show(([34],[38,113,117,111,116,59]):Px).2++r=38::113::(117::111::116::59::r) from O,aO de];decide),
   a_ (by rw[show(([34],[38,113,117,111,116,59]):Px).2++r=38::113::(117::111::116::59::r) from O,aO de];decide)]
  exact qE (UC [38,113,117,111,116,59] r)
 ·unfold ON MK;rw[a_ (by rw[show(([39],[38,35,51,57,59]):Px).2++r=38::35::(51::57::59::r) from O,aO de];decide),
   a_ (by rw[show(([39],[38,35,51,57,59]):Px).2++r=38::35::(51::57::59::r) from O,aO de];decide),
   a_ (by rw[show(([39],[38,35,51,57,59]):Px).2++r=38::35::(51::57::59::r) from O,aO de];decide),
   a_ (by rw[show(([39],[38,35,51,57,59]):Px).2++r=38::35::(51::57::59::r) from O,aO de];decide)]
  exact qE (UC [38,35,51,57,59] r)
theorem iD{m:Px}(hm:m∈MK)(r:Lu):Hc (m.2++r)=(Hc r).map (m.1++·):=by
 have h:=nS m hm r;have h1:∃t,m.2=38::t:=by
  simp only[MK,Yi,Fw,or_false]at hm
  rcases hm with rfl|rfl|rfl|rfl|rfl<;>exact⟨_,O⟩
 obtain⟨t,ht⟩:=h1;rw[ht,Yz]at h ⊢;rw[xx,Y7 O,h];dsimp only
 rw[ht,List.length_cons,Nat.add_sub_cancel,Zx]
theorem TS:∀s:Lu,Hc (Ea s)=some s
 | []=>rfl
 | c::s=>by
  have ih:=TS s;show Hc (em c++Ea s)=_
  have hit:∀m:Px,m∈MK->m.1=[c]->Hc (m.2++Ea s)=some (c::s):=λm hm h1=>by
   rw[iD hm,ih,h1];rfl
  unfold em;split
  ·rename_i h;subst h;exact hit ([38],_) (by simp[MK]) O
  ·rename_i h0
   split
   ·rename_i h;subst h;exact hit ([60],_) (by simp[MK]) O
   ·split
    ·rename_i h;subst h;exact hit ([62],_) (by simp[MK]) O
    ·split
     ·rename_i h;subst h;exact hit ([34],_) (by simp[MK]) O
     ·split
      ·rename_i h;subst h;exact hit ([39],_) (by simp[MK]) O
      ·show Hc (c::Ea s)=_
       rw[xx,Y3 h0,ih];rfl
theorem Xu0:∀(s:Lu),∀x∈Ea s,x≠60/\x≠62/\x≠34/\x≠39
 | [],x,h=>by simp[Ea]at h
 | c::s,x,h=>by
  have h2:x∈em c++Ea s:=h;rcases Yn.1 h2 with h3|h3
  ·revert h3
   unfold em;split
   ·intro h3;simp only[Yi,Fw,or_false]at h3;rcases h3 with rfl|rfl|rfl|rfl|rfl<;>decide
   ·split
    ·intro h3;simp only[Yi,Fw,or_false]at h3;rcases h3 with rfl|rfl|rfl|rfl<;>decide
    ·split
     ·intro h3;simp only[Yi,Fw,or_false]at h3;rcases h3 with rfl|rfl|rfl|rfl<;>decide
     ·split
      ·intro h3;simp only[Yi,Fw,or_false]at h3;rcases h3 with rfl|rfl|rfl|rfl|rfl|rfl<;>decide
      ·split
       ·intro h3;simp only[Yi,Fw,or_false]at h3;rcases h3 with rfl|rfl|rfl|rfl|rfl<;>decide
       ·intro h3;simp only[Yi,Fw,or_false]at h3
        subst h3
        rename_i a b c d e
        exact⟨b,c,d,e⟩
  ·exact Xu0 s x h3
theorem Xq0(s:Lu):Mo (Ea s)=some s:=by
 unfold Mo;rw[Y3,TS];rw[Y4i];rintro⟨x,hx,hc⟩;obtain⟨h1,h2,h3,h4⟩:=Xu0 s x hx;simp[M9,h1,h2,h3,h4]at hc
theorem vB{c:Ui}(h:Qw c=true):c≠32/\c≠62/\c≠61/\c≠60:=by
 refine⟨?_,?_,?_,?_⟩<;>(rintro rfl;revert h;decide)
theorem Tb{s:Lu}(h:RG s=true):∀c∈s,c≠32/\c≠62/\c≠61/\c≠60:=by
 unfold RG at h;simp only[Yb]at h
 exact λc hc=>vB (Yv.1 h.2 c hc)
theorem Vj{v:Lu}(rest:Lu)(f:Nat)(out:List Px)(hk:∀c∈key,c≠61):F9 (f+1) (GL (key,v)++rest) out=F9 f rest (out++[(key,v)]):=by
 have e0:GL (key,v)++rest=32::(key++61::34::(Ea v++34::rest)):=by unfold GL;simp
 have u1:=pQ (Ay:=[61]) (a:=key) (b:=61::34::(Ea v++34::rest)) (λc hc=>by have:=hk c hc;simp[this]) (λc hc=>by simp at hc;subst hc;decide);have u2:=pQ (Ay:=[34]) (a:=Ea v) (b:=34::rest) (λc hc=>by have:=Xu0 v c hc;simp[this.2.2.1]) (λc hc=>by simp at hc;subst hc;decide);rw[e0,F9,Y3 (by rw[show(32::(key++61::34::(Ea v++34::rest)))=[32]++(key++61::34::(Ea v++34::rest)) from O,UC];decide)];rw[Kw,O5,u1.1,u1.2,Y3 (by rw[show(61::34::(Ea v++34::rest))=[61,34]++(Ea v++34::rest) from O,UC];decide)];rw[Kw,Kw,O5,u2.1,u2.2,Xq0];dsimp only
 rw[Y3 (by rw[show(34::rest)=[34]++rest from O,UC];decide),Kw,O5]
theorem Xi6:∀(az done:List Px) (rest:Lu) (f:Nat) (out:List Px),Mf done az=true->((az.map GL).flatten++62::rest).length<f->F9 f ((az.map GL).flatten++62::rest) out=some (out++az,62::rest)
 | [],done,rest,f,out,_,hf=>by
  cases f with
  | zero=>exact Yy hf sz
  | succ f =>
   show F9 (f+1) (62::rest) out=_
   rw[Vl 62 de,Yr]
 | a::az,done,rest,f,out,h,hf=>by
  obtain⟨key,v⟩:=a;rw[Mf]at h;simp only[Yb]at h
  have e:(((key,v)::az).map GL).flatten++62::rest=GL (key,v)++((az.map GL).flatten++62::rest):=by simp
  rw[e]at hf ⊢;cases f with
  | zero=>exact Yy hf sz
  | succ f =>
   have h9:1<=(GL (key,v)).length:=by unfold GL;simp
   rw[Vj _ f out (λc hc=>(Tb h.1.1.1 c hc).2.2.1),Xi6 az (done++[(key,v)]) rest f (out++[(key,v)]) h.2 (by rw[Y0]at hf;omega)]
   simp
theorem Xog{d:Nat}(ih:∀(left:Int) (n:Nd) (l2:Int),Cq d left n=some l2->∀rest,Gr d left (CG d n++rest)=some (n,rest,l2))
  (ih2:∀(left:Int) (n:Nd) (l2:Int),Cq d left n=some l2->∃c t,CG d n=60::c::t/\c≠47):∀(ks:List Nd) (left l2:Int),F8 (Cq d) left ks=some l2->∀(f:Nat) (out:List Nd) (rest:Lu),((ks.map (CG d)).flatten++60::47::rest).length<f->Ir (Gr d) f left ((ks.map (CG d)).flatten++60::47::rest) out=some (out++ks,60::47::rest,l2)
 | [],left,l2,h,f,out,rest,hf=>by
  rw[F8]at h;cases h
  cases f with
  | zero=>exact Yy hf sz
  | succ f =>
   show Ir (Gr d) (f+1) left (60::47::rest) out=_
   rw[Ir,Y7 (by rw[show(60::47::rest)=[60,47]++rest from O,UC]),Yr]
 | k::ks,left,l2,h,f,out,rest,hf=>by
  rw[F8]at h;cases hk:Cq d left k with
  | none=>rw[hk]at h;cases h
  | some l1 =>
   rw[hk]at h;dsimp only at h
   have e:((k::ks).map (CG d)).flatten++60::47::rest=CG d k++((ks.map (CG d)).flatten++60::47::rest):=by simp
   obtain⟨c,t,ht,hc⟩:=ih2 left k l1 hk;rw[e]at hf ⊢;cases f with
   | zero=>exact Yy hf sz
   | succ f =>
    rw[Ir,Y3,ih left k l1 hk]
    ·dsimp only
     rw[Xog ih ih2 ks l1 l2 h f (out++[k]) rest (by rw[Y0,ht]at hf;simp only[List.length_cons]at hf;omega)]
     simp
    ·rw[ht,Yz,Yz,aO hc];decide
theorem Xii{left l2:Int}{n:Nd}(h:Cq (d+1) left n=some l2):¬ left-1<0/\RG n.name=true/\Mf [] n.attrs=true/\OQ n.text=true/\F8 (Cq d) (left-1) n.kids=some l2:=by
 rw[Cq]at h;split at h
 ·cases h
 ·rename_i h1
  simp only[not_or,Y5i]at h1
  exact⟨h1.1,h1.2.1,h1.2.2.1,h1.2.2.2.1,h⟩
theorem Xpy{left l2:Int}{n:Nd}(h:Cq d left n=some l2):∃c t,CG d n=60::c::t/\c≠47:=by
 cases d with
 | zero=>cases h
 | succ d =>
  have h2:=(Xii h).2.1;rw[CG];cases hn:n.name with
  | nil=>rw[hn]at h2;cases h2
  | cons c t =>
   refine⟨c,_,by simp only[Yz];rfl,?_⟩;rintro rfl;rw[hn]at h2;unfold RG at h2;simp only[Yb,List.headD_cons]at h2
   exact Yy h2.1.2 de
theorem Xni:∀(d:Nat) (left:Int) (n:Nd) (l2:Int),Cq d left n=some l2->∀rest,Gr d left (CG d n++rest)=some (n,rest,l2)
 | 0,_,_,_,h,_=>by cases h
 | d+1,left,n,l2,h,rest=>by
  obtain⟨h1,h2,h3,h4,h5⟩:=Xii h;obtain⟨nm,az,tx,ks⟩:=n;have Ge:RG nm=true:=h2;have h3':Mf [] az=true:=h3;have h5':F8 (Cq d) (left-1) ks=some l2:=h5;obtain⟨K,hK⟩:∃K,K=(ks.map (CG d)).flatten++60::47::(nm++62::rest):=⟨_,O⟩
  obtain⟨R,hR⟩:∃R,R=(az.map GL).flatten++62::(Ea tx++K):=⟨_,O⟩
  have e:CG (d+1) (.mk nm az tx ks)++rest=60::(nm++R):=by
   rw[hR,hK,CG];simp[Nd.name,Nd.attrs,Nd.text,Nd.kids]
  have P_:∀c,R.head?=some c->([32,62]:Lu).contains c=true:=by
   intro c hc;rw[hR]at hc;cases az with
   | nil=>simp at hc;subst hc;decide
   | cons a az=>simp[GL]at hc;subst hc;decide
  have hKh:∀c,K.head?=some c->([60]:Lu).contains c=true:=by
   intro c hc;rw[hK]at hc;cases ks with
   | nil=>simp at hc;subst hc;decide
   | cons k ks =>
    rw[F8]at h5';cases hk:Cq d (left-1) k with
    | none=>rw[hk]at h5';cases h5'
    | some l1 =>
     obtain⟨c2,t,ht,_⟩:=Xpy hk;simp[ht]at hc;subst hc;decide
  have u1:=pQ (Ay:=[32,62]) (a:=nm) (b:=R) (λc hc=>by have:=Tb Ge c hc;simp[this.1,this.2.1]) P_;have u2:=pQ (Ay:=[60]) (a:=Ea tx) (b:=K) (λc hc=>by have:=Xu0 tx c hc;simp[this.1]) hKh;rw[e,Gr,Y3 (by rintro(e1|e1)<;>first|exact h1 e1|(rw[show(60::(nm++R))=[60]++(nm++R) from O,UC]at e1;cases e1))];rw[Kw,O5,u1.1,u1.2];rw[show F9 (R.length+1) R []=some (az,62::(Ea tx++K))by
   have:=Xi6 az [] (Ea tx++K) (R.length+1) [] h3' (by rw[<-hR];omega)
   rw[<-hR]at this;simpa using this]
  dsimp only
  rw[Y3 (by rw[show(62::(Ea tx++K))=[62]++(Ea tx++K) from O,UC];decide),Kw,O5,u2.1,u2.2,Xq0];dsimp only
  rw[show Ir (Gr d) (K.length+1) (left-1) K []=some (ks,60::47::(nm++62::rest),l2)by
   have:=Xog (λl n l2 h=>Xni d l n l2 h) (λl n l2 h=>Xpy h) ks (left-1) l2 h5' (K.length+1) [] (nm++62::rest) (by rw[<-hK];omega)
   rw[<-hK]at this;simpa using this]
  dsimp only
  have e3:(60::47::(nm++62::rest))=(60::47::nm++[62])++rest:=by simp
  rw[Y3 (by rw[e3,UC];decide)];have e4:(60::47::(nm++62::rest)).drop (nm.length+3)=rest:=by
   rw[e3,show nm.length+3=(60::47::nm++[62]).length by simp,cD]
  rw[e4]
theorem xe{n:Nd}{l:Int}(h:Cq 8 200 n=some l):ym (CG 8 n)=some n:=by
 have h1:=Xni 8 200 n l h [];rw[Yr]at h1;unfold ym;rw[h1];dsimp only
 rw[Y3];rw[h];rintro(h2|h2)
 ·exact h2 O
 ·cases h2
end Xm
namespace Go.Proofs.W9
open Gk Ul Pc Tk Tr Xm Rq Go
open Tryz
abbrev P0:Nat->Int:=λ_=>0
theorem VV(lo:List Sv):Xo lo []=(z0,[],12):=rfl
theorem Sw(r:Al):Tr.get [r] r.name=some r:=by unfold Tr.get;rw[qE];simp
theorem mr{r:Al}{n:Lu}(h:r.name≠n):Tr.get [r] n=none:=by
 unfold Tr.get;rw[a_ (su h),List.find?_nil]
theorem Xtg(r:Al):BG [r] r.name=0:=by unfold BG H7;rw[Y7 O];rfl
theorem th{r:Al}{n:Lu}(h:r.name≠n):BG [r] n=-1:=by unfold BG H7;rw[Y3 h];rfl
theorem zW(r:Al):getD [r] r.name=r:=by unfold getD;rw[Sw];rfl
theorem fC{r:Al}:path [r] r.name=[r]:=by
 unfold path qA;rw[Xtg];rfl
theorem Xn4{r:Al}(hk:r.kind=kind)(hl:Ot (KS P0) r 0=true):Xk P0 (WB [r] D) r.name kind=(r,true):=by
 have ha:p4 (KS P0) [r] r.name 0=true:=by
  unfold p4;rw[fC]
  have:Vn (KS P0) r.name 0 r=false:=by unfold Vn;rw[hl];simp
  simp[this]
 unfold Xk;rw[Y3]
 ·show(getD [r] r.name,true)=_
  rw[zW]
 ·show ¬ ((((getD [r] r.name).kind !=kind)||!p4 (KS P0) [r] r.name 0)=true)
  rw[zW,hk,ha];simp
theorem Vd{l:List Al}{ck:Lu}(h:(getD l ck).kind≠kind):Xk P0 (WB l D) ck kind=(r0,false):=by
 unfold Xk;rw[Y7];show(((getD l ck).kind !=kind)||_)=true
 rw[bne_iff_ne.2 h];rfl
theorem W2{l:List Al}{n:Lu}(h:∀r∈l,r.parent=[])(hn:n≠[]):kids l n=[]:=by
 unfold kids sQ;rw[List.filter_eq_nil_iff.2 λr hr=>by rw[h r hr];simp];rfl
theorem Xbk{l:List Al}{n:Lu}(h:∀r∈l,r.parent=[])(hn:n≠[])(h0:0<=BG l n)(hl:l≠[]):below l n=[n]:=by
 unfold below;rw[Y7 h0];cases l with
 | nil=>exact Yy O hl
 | cons r l =>
  rw[List.length_cons,EF,W2 h hn];rfl
theorem Xtt{r:Al}(h:r.parent=[])(hn:r.name≠[]):drop [r] r.name=[]:=by
 unfold drop;rw[Xbk (λx hx=>by rw[HH.1 hx];exact h) hn (nB (Xtg _)) sz]
 simp
theorem cG{r t:Al}(h:r.parent=[])(h2:t.parent=[])(hn:r.name≠[])(A8:r.name≠t.name):drop [r,t] r.name=[t]:=by
 unfold drop;rw[Xbk (λx hx=>by simp at hx;rcases hx with rfl|rfl<;>assumption) hn (by unfold BG H7;rw[Y7 O];decide) sz]
 have:¬ t.name=r.name:=λe=>A8 e.symm
 simp[this]
theorem Xe2(d:Nat):N1 d≠[]/\N6 d≠[]:=⟨λh=>by revert h;show ¬ (84::_:Lu)=[];simp,λh=>by revert h;show ¬ (76::_:Lu)=[];simp⟩
theorem Xut(d:Nat)(D:List Nat):(Xk P0 (WB [Ef d] D) (N6 d) 6).2=true:=Y5 Prod.snd (Xn4 (r:=Ef d) (kind:=6) (D:=D) O O)
theorem ir(d:Nat)(u:Lu)(D:List Nat):(Xk P0 (WB [Eh d u] D) (N1 d) 1).2=true:=Y5 Prod.snd (Xn4 (r:=Eh d u) (kind:=1) (D:=D) O O)
theorem Xry(EB:d1<18446744073709551616)(hu:u.length<=32):Gq [⟨u,pw,[]⟩] P0 (WB [Ef d0] (d1::D)) (N6 d0) u pw=((N1 d1,0),WB [Eh d1 u] D):=by
 have hc:kQ [⟨u,pw,[]⟩] u pw=true:=by unfold kQ;rw[qE sz];simp
 have A8:(Ef d0).name≠N1 d1:=(Ag0 d0 d1).1;have hm:=Abr (l:=[Ef d0]) (D:=D) (u:=u) EB hu (mr A8) sz (by rw[th A8];decide) O;unfold Gq;rw[Y3 (nB (Xut _ _)),Y3 (nB hc),hm];dsimp only
 rw[Y7 O];have hd:drop ([Ef d0]++[Eh d1 u]) (N6 d0)=[Eh d1 u]:=cG (r:=Ef d0) (t:=Eh d1 u) O O (Xe2 d0).2 A8;unfold Np;dsimp only
 rw[hd]
theorem Xrz{told:Lu}(h:told≠pw):Gq [⟨u,pw,[]⟩] P0 (WB [Ef d0] D) (N6 d0) u told=(([],37),WB [] D):=by
 have hc:kQ [⟨u,pw,[]⟩] u told=false:=by
  unfold kQ;rw[qE sz];exact beq_eq_false_iff_ne.2 λe=>h e.symm
 unfold Gq;rw[Y3 (nB (Xut _ _)),Y7 hc];have hd:drop [Ef d0] (N6 d0)=[]:=Xtt (r:=Ef d0) O (Xe2 d0).2;unfold Np;dsimp only
 rw[hd]
theorem R2(ck:Lu):Vh [] ck=⟨[],ck,false,false,false,false⟩:=rfl
theorem Xy2{g:Cg}(E7:g.ps=P0){ck:Lu}{s:B4}(hd:d<18446744073709551616)(hs:s.Z=WB [] (d::D)):F_ g [] ck s={ s with Z:=WB [Ef d] D,Aj:=CD (N6 d) [] [] }:=by
 have hc:Ip g.lo g.ps s.Z (Vh [] ck)=1:=by
  rw[R2,E7,hs];unfold Ip;dsimp only
  rw[Y3 sz,Y3,Y7 de];rw[show Xk P0 (WB [] (d::D)) ck 1=(r0,false) from Vd (by show(r0.kind:Int)≠1;decide)]
  simp
 have hm:AH s.Z Nu=((N6 d,0),WB [Ef d] D):=by rw[hs];exact rE (l:=[]) hd O sz (by show(-1:Int)<0;decide)
 unfold F_;dsimp only
 rw[hc];rw[Y3 de,Y3 de,Y7 O];unfold JD;rw[hm];dsimp only
 rw[Y3 de];rfl
theorem Xy3{g:Cg}(E7:g.ps=P0){s:B4}(hs:s.Z=WB [Eh d u] D):F_ g [] (N1 d) s={ s with Aj:=CE AN u }:=by
 have hc:Ip g.lo g.ps s.Z (Vh [] (N1 d))=5:=by
  rw[R2,E7,hs];unfold Ip;dsimp only
  rw[Y3 sz,Y7];show(!false&&(Xk P0 (WB [Eh d u] D) (N1 d) 1).2)=true
  rw[ir];rfl
 have hg:getD s.Z.l (N1 d)=Eh d u:=by rw[hs];exact zW (Eh d u)
 unfold F_;dsimp only
 rw[hc,hg];rw[Y3 de,Y7 O];rfl
theorem gK{g:Cg}{s:B4}(hs:s.Z=WB [Eh d u] D)(hq:s.q=[]):Mc g (N1 d) s={ s with Z:=WB [] D,q:=[],Aj:=Hl (CE GF []) (GY [] 0) }:=by
 have hg:getD s.Z.l (N1 d)=Eh d u:=by rw[hs];exact zW (Eh d u)
 have hb:below s.Z.l (N1 d)=[N1 d]:=by rw[hs];exact Xbk (l:=[Eh d u]) (λx hx=>by rw[HH.1 hx];rfl) (Xe2 d).1 (by rw[show N1 d=(Eh d u).name from O,Xtg];decide) sz
 have hn:O0 g.lo s.Z (N1 d)=[]:=by
  unfold O0;rw[hg,Y7 (show(Eh d u).kind=1 from O)];unfold qe aS;rw[hb,List.filter_cons_of_neg,Y4u];rfl;unfold aY;rw[hg];show ¬ (((((1:Int)==2||(1:Int)==3)&&_)&&_)=true)
  simp
 have hd:IC s.Z (N1 d)=WB [] D:=by
  unfold IC;rw[hg,Y7 (show(Eh d u).kind=1 from O),hs];unfold Np
  have:drop [Eh d u] (N1 d)=[]:=Xtt (r:=Eh d u) O (Xe2 d).1
  dsimp only
  rw[this]
 unfold Mc;dsimp only
 rw[hn,hd,hq];rw[Y3 de];rfl
def Iv(lt u told:Lu):List Pq:=[(BI,lt),(Am,u),(Aq,told)]
theorem bH(lt u told:Lu):X9 (Iv lt u told) X7=[]:=rfl
theorem bF(lt u told:Lu):X9 (Iv lt u told) BI=lt:=rfl
theorem PR(lt u told:Lu):X9 (Iv lt u told) Am=u:=rfl
theorem bG(lt u told:Lu):X9 (Iv lt u told) Aq=told:=rfl
theorem Xz2{g:Cg}(E7:g.ps=P0)(ni:g.us=[⟨u,pw,[]⟩]){s:B4}(EB:d1<18446744073709551616)(hu:u.length<=32)(hs:s.Z=WB [Ef d0] (d1::D)):HV g (Iv (N6 d0) u pw) s={ s with Z:=WB [Eh d1 u] D,Aj:=Hl (CE AN u) (GY (N1 d1) (-1)) }:=by
 have hl:=Xry (u:=u) (pw:=pw) (d0:=d0) (D:=D) EB hu;unfold HV;rw[bH,bF,PR,bG,E7,ni,hs,hl];dsimp only
 rw[Y3 (λh=>h.1 O),Y3 de,Y3 de,Y3 de];unfold Nh;rw[Y7 O,PR]
theorem Xz3{g:Cg}{told:Lu}(E7:g.ps=P0)(ni:g.us=[⟨u,pw,[]⟩])(A8:told≠pw){s:B4}(EB:d1<18446744073709551616)(hs:s.Z=WB [Ef d0] (d1::D)):HV g (Iv (N6 d0) u told) s={ s with Z:=WB [Ef d1] D,Aj:=CD (N6 d1) [] A3 }:=by
 have hl:=Xrz (u:=u) (d0:=d0) (D:=d1::D) A8;have hm:AH (WB [] (d1::D)) Nu=((N6 d1,0),WB [Ef d1] D):=rE (l:=[]) EB O sz (by show(-1:Int)<0;decide);unfold HV;rw[bH,bF,PR,bG,E7,ni,hs,hl,VV];dsimp only
 rw[Y3 (λh=>h.1 O),Y3 de,Y3 de,Y7 O];unfold JD;dsimp only
 rw[hm];dsimp only
 rw[Y3 de]
def Fk:Lu:=[67,111,111,107,105,101]
def AV:Lu:=[47,108,111,103,105,110]
def CM:Lu:=[47,108,111,103,111,117,116]
def Nv(l:List Pq):Lu:=Go.Lib.join (l.map λp=>(AD p.1++[61])++AD p.2) [38]
def Oq(l:List Pq):Lu:=Go.Lib.join (l.map λp=>(p.1++[61])++p.2) [59,32]
def Lf(path:Lu)(body AR:List Pq):HC :=
 ⟨if body=[]then kf else Jx,path,(if AR=[]then[]else[(Fk,Oq AR)])++(if body=[]then[]else[(Pe,Go.Lib.decDigits (Nv body).length)]),if body=[]then[]else Nv body⟩
theorem Xt1(c:Ui)(h:QO c=true):RQ c=true/\FE 32 126 c=true/\c≠59/\([32,9]:Lu).contains c=false/\c≠32:=by
 have:=Xf (p:=λc=>!QO c||(RQ c&&FE 32 126 c&&c !=59&&!([32,9]:Lu).contains c&&c !=32)) dk c
 rw[h]at this;simp only[Y5q,lB,Yb,bne_iff_ne,ne_eq,ly]at this
 exact⟨this.1.1.1.1,this.1.1.1.2,this.1.1.2,this.1.2,this.2⟩
theorem OO(hd:d<18446744073709551616):Mb (N1 d):=by
 have h:EZ (jl 1 d)=some (1,d):=wU de de hd;exact Eq.mpr (Y5 Mb (S_ d)) (Xot h)
theorem sB(hd:d<18446744073709551616):Mb (N6 d):=by
 have h:EZ (jl 6 d)=some (6,d):=wU de de hd;exact Eq.mpr (Y5 Mb (Ta d)) (Xot h)
theorem Y_(d:Nat):(N1 d).length=20:=by show(Nw 1++45::GZ 16 d).length=20;rw[Y0,List.length_cons,r4];rfl
theorem RA(d:Nat):(N6 d).length=19:=by show(Nw 6++45::GZ 16 d).length=19;rw[Y0,List.length_cons,r4];rfl
abbrev Gap(Bi:Lu):Prop:=Bi=[]\/Bi=[32]
theorem qT(hg:Gap Bi){name v:Lu}(hn:L_ name=true)(hv:∀c∈v,FE 32 126 c=true/\([32,9]:Lu).contains c=false)(A8:v≠[]):T1 Bi (name,v):=by
 refine⟨hn,Yv.2 λc hc=>(hv c hc).1,?_,?_⟩
 ·rcases hg with rfl|rfl
  ·exact Xw0 λc hc=>(hv c hc).2
  ·exact YJ de (λc hc=>(hv c hc).2) A8
 ·rcases hg with rfl|rfl<;>decide
theorem Xfv(r:HC)(Bi:Lu):(iY r Bi).length=r.Au.length+r.target.length+14+(r.Ac.map λh=>h.1.length+Bi.length+h.2.length+3).sum+r.body.length:=by
 have e:∀hs:List Pq,(Mp Bi hs).length=(hs.map λh=>h.1.length+Bi.length+h.2.length+3).sum:=by
  intro hs
  induction hs with
  | nil=>rfl
  | cons h hs ih =>
   unfold Mp at ih ⊢;rw[Yt,JG,Y0,ih,Yt,PN];simp[PG,CR];omega
 unfold iY;rw[Xru,Y0,Y0,Y0,e];simp[Kb,CR,Ns];omega
abbrev rL(path:Lu):HC:=Lf path [] []
abbrev ZH(path Ap:Lu):HC:=Lf path [] [(Bz,Ap)]
abbrev Pd(lt u told:Lu):HC:=Lf AV (Iv lt u told) []
theorem kR{path:Lu}(hg:Gap Bi)(hp:path=AV\/path=CM):UT (rL path) Bi:=by
 refine⟨.inl O,by rcases hp with rfl|rfl<;>rfl,λh hh=>by simp[rL,Lf]at hh,by simp[rL,Lf],O,?_⟩;rw[Xfv];rcases hp with rfl|rfl
 ·show(3+6+14+0+0:Nat)<=4096;decide
 ·show(3+7+14+0+0:Nat)<=4096;decide
def Ds(Ap:Lu):Lu:=Bz++61::Ap
theorem eU(Ap:Lu):Oq [(Bz,Ap)]=Ds Ap:=by simp[Oq,Ds,Go.Lib.join]
theorem Xgh(path Ap:Lu):(ZH path Ap).Ac=[(Fk,Ds Ap)]:=by
 show[(Fk,Oq [(Bz,Ap)])]++[]=_
 rw[eU];rfl
theorem xz(h:Mb Ap):∀c∈Ds Ap,FE 32 126 c=true/\([32,9]:Lu).contains c=false/\c≠59:=by
 intro c hc;unfold Ds at hc;rcases Yn.1 hc with hc|hc
 ·exact(by decide:∀c∈Bz,FE 32 126 c=true/\([32,9]:Lu).contains c=false/\c≠59) c hc
 ·rcases Yi.1 hc with rfl|hc
  ·decide
  ·have:=Xt1 c (h c hc)
   exact⟨this.2.1,this.2.2.2.1,this.2.2.1⟩
theorem bV(Ap:Lu):Ds Ap≠[]:=by unfold Ds Bz;simp
theorem qg{path:Lu}(hg:Gap Bi)(hp:path=AV\/path=CM)(h:Mb Ap)(hl:Ap.length<=100):UT (ZH path Ap) Bi:=by
 have hh:=Xgh path Ap;refine⟨.inl O,by rcases hp with rfl|rfl<;>rfl,λx hx=>?_,by rw[hh];show 1<=32;decide,by rw[hh];rfl,?_⟩
 ·rw[hh,HH]at hx;subst hx;exact qT hg O (λc hc=>⟨(xz h c hc).1,(xz h c hc).2.1⟩) (bV Ap)
 ·rw[Xfv,hh];have uV:Bi.length<=1:=by rcases hg with rfl|rfl<;>decide
  have h1:(ZH path Ap).target.length<=10:=by
   rcases hp with rfl|rfl
   ·show 6<=10;decide
   ·show 7<=10;decide
  have h2:(ZH path Ap).Au.length=3:=rfl;have h3:(ZH path Ap).body.length=0:=rfl;have h4:Fk.length=6:=rfl;have h5:(Ds Ap).length=7+Ap.length:=by unfold Ds;rw[Y0,List.length_cons];show 6+_=_;omega
  simp only[Yt,Hm,PN,s9]
  omega
theorem TC{path:Lu}(h:Mb Ap):Ei (ZH path Ap).Ac=(Ap,0):=by
 rw[Xgh];have e1:Xv pZ [(Fk,Ds Ap)]=(Ds Ap,1):=rfl;have e2:BS 59 (Ds Ap)=[Ds Ap]:=z6 59 _ λx hx=>(xz h x hx).2.2
 have e3:Go.Lib.trimB (Ds Ap) 32=Ds Ap:=by
  rw[<-Go.Lib.trimS_one];refine Xw0 λc hc=>?_
  have:=(xz h c hc).2.1
  simp only[Y4t,Mw]at this
  simp only[Y4t,this.1];rfl
 have u:=pQ (Ay:=[61]) (a:=Bz) (b:=61::Ap) de (λc hc=>by simp at hc;subst hc;decide);have e4:CA 61 (Ds Ap)=(Bz,Ap,true):=by unfold CA Ds;rw[u.1,u.2];rfl
 have e5:Ox (Ds Ap)=false:=by
  unfold Ox;rw[e4]
  have:List.all Ap RQ=true:=Yv.2 λc hc=>(Xt1 c (h c hc)).1
  dsimp only
  rw[this];rfl
 have e6:HY [Ds Ap] []=([(Bz,Ap)],0):=by
  rw[HY,e3,Y3 (bV Ap),Y3 de,e5,Y3 de,e4];rfl
 unfold Ei;rw[e1];dsimp only
 rw[e2,e6];rfl
theorem Xtk(lt u told:Lu):Nv (Iv lt u told)=Gt (Gt (Gt [] BI lt) Am u) Aq told:=by
 have h1:Gt [] BI lt≠[]:=RW _ _ _;have h2:Gt (Gt [] BI lt) Am u≠[]:=RW _ _ _;rw[Gt,Y3 h2,Gt,Y3 h1,Gt,Y7 O];simp[Nv,Iv,Go.Lib.join]
theorem Vs(lt u told:Lu):H3 (Nv (Iv lt u told))=(Iv lt u told,0):=by
 rw[Xtk];have e0:H3 []=([],0):=rfl;have e1:H3 (Gt [] BI lt)=([(BI,lt)],0):=by rw[Xkq,e0];rfl
 have e2:H3 (Gt (Gt [] BI lt) Am u)=([(BI,lt),(Am,u)],0):=by rw[Xkq,e1];rfl
 rw[Xkq,e2];rfl
theorem Xn7{lt told:Lu}(h1:lt.length<=23)(h2:u.length<=32)(h3:told.length<=60):(Nv (Iv lt u told)).length<1000:=by
 rw[Xtk];have a1:=pR [] BI lt;have a2:=pR (Gt [] BI lt) Am u;have a3:=pR (Gt (Gt [] BI lt) Am u) Aq told;have k1:BI.length=2:=rfl;have k2:Am.length=8:=rfl;have k3:Aq.length=8:=rfl;simp only[List.length_nil]at a1
 omega
theorem Xpf(lt u told:Lu):(Pd lt u told).Ac=[(Pe,Go.Lib.decDigits (Nv (Iv lt u told)).length)]:=rfl
theorem cn(n:Nat):∀c∈Go.Lib.decDigits n,FE 32 126 c=true/\([32,9]:Lu).contains c=false:=λc hc=>by
 have h:=Yv.1 (rX n).2.1 c hc
 have:=Xf (p:=λc=>!Ks c||(FE 32 126 c&&!([32,9]:Lu).contains c)) dk c
 rw[h]at this;simpa using this
theorem Xpg{lt told:Lu}(hg:Gap Bi)(h1:lt.length<=23)(h2:u.length<=32)(h3:told.length<=60):UT (Pd lt u told) Bi:=by
 have hb:=Xn7 h1 h2 h3;have hh:=Xpf lt u told;refine⟨.inr O,O,λx hx=>?_,by rw[hh];show 1<=32;decide,?_,?_⟩
 ·rw[hh,HH]at hx;subst hx;exact qT hg O (cn _) (rX _).2.2.2
 ·rw[hh];obtain⟨d1,d2⟩:=cx hb;have e1:Xv TE [(Pe,Go.Lib.decDigits (Nv (Iv lt u told)).length)]=([],0):=rfl;have e2:Xv CL [(Pe,Go.Lib.decDigits (Nv (Iv lt u told)).length)]=(Go.Lib.decDigits (Nv (Iv lt u told)).length,1):=rfl;unfold UB;rw[e1,e2];dsimp only
  rw[Y3 de,Y3 de,d2,Y3 (show ¬ ((decide ((1:Int)<((1:Nat):Int))||!true)=true)by decide),d1];rfl
 ·rw[Xfv,hh];have uV:Bi.length<=1:=by rcases hg with rfl|rfl<;>decide
  have k1:(Pd lt u told).target.length=6:=rfl;have k2:(Pd lt u told).Au.length=4:=rfl;have k3:(Pd lt u told).body.length=(Nv (Iv lt u told)).length:=rfl;have k4:Pe.length=14:=rfl;have k5:=Xf7 hb;simp only[Yt,Hm,PN,s9]
  omega
theorem Xvk(lt u told:Lu):CN (Pd lt u told).Au (Pd lt u told).target (Pd lt u told).body=(Iv lt u told,0):=by
 show CN Jx AV (Nv (Iv lt u told))=_
 unfold CN;rw[Y3 de,Vs,Y3 (λh=>h O)];rfl
theorem TB(lt u told:Lu):Ei (Pd lt u told).Ac=([],0):=rfl
theorem oI(path:Lu):Ei (rL path).Ac=([],0):=rfl
theorem Xsq{path ck:Lu}{l:List Pq}(hp:path=AV\/path=CM):CN (Lf path [] l).Au (Lf path [] l).target (Lf path [] l).body=([],0):=by
 rcases hp with rfl|rfl<;>rfl
abbrev UZ(r:HC):Lu:=iY r [32]
theorem Xfs{left:Int}{s:Lu}{az:List Pq}(hl:1<=left)(h1:RG nm=true)(h2:Mf [] az=true)(h3:OQ s=true):Cq (d+1) left (Dn nm s az)=some (left-1):=by
 show Cq (d+1) left (.mk nm az s [])=_
 rw[Cq,Y3]
 ·rfl
 ·rintro(h|h|h|h|h)
  ·omega
  ·rw[show(Nd.mk nm az s []).name=nm from O,h1]at h;cases h
  ·rw[show(Nd.mk nm az s []).attrs=az from O,h2]at h;cases h
  ·rw[show(Nd.mk nm az s []).text=s from O,h3]at h;cases h
  ·exact h.2 O
theorem Xg0{left:Int}{az:List Pq}{ks:List Nd}(hl:1<=left)(h1:RG nm=true)(h2:Mf [] az=true):Cq (d+1) left (.mk nm az [] ks)=F8 (Cq d) (left-1) ks:=by
 rw[Cq,Y3]
 ·rfl
 ·rintro(h|h|h|h|h)
  ·omega
  ·rw[show(Nd.mk nm az [] ks).name=nm from O,h1]at h;cases h
  ·rw[show(Nd.mk nm az [] ks).attrs=az from O,h2]at h;cases h
  ·cases h
  ·exact h.1 O
theorem Xfk(ks:List Nd):Cq 8 200 (PC ks)=F8 (Cq 6) 198 ks:=by
 show Cq 8 200 (.mk lf [] [] [.mk HX [] [] ks])=_
 rw[Xg0 de O O,F8,Xg0 (d:=6) de O O];show(match F8 (Cq 6) 198 ks with|none=>none|some l=>F8 (Cq 7) l [])=_
 cases F8 (Cq 6) 198 ks<;>rfl
abbrev aX(kind u:Lu):Nd:=PC [Dn DF u [(OM,kind)]]
abbrev aQ(lt:Lu):Nd:=PC [JB lt []]
abbrev iX(lt ph:Lu):Nd:=PC [Dn DF ph [],JB lt []]
theorem Xo6{kind:Lu}(hk:OQ kind=true)(h:OQ u=true):Cq 8 200 (aX kind u)=some 197:=by
 rw[Xfk,F8,Xfs de O (by rw[Mf,Mf,hk];rfl) h];rfl
theorem Xnw{lt:Lu}{left:Int}(hl:5<=left)(h:OQ lt=true):Cq 6 left (JB lt [])=some (left-5):=by
 have hi:∀(l:Int) (nm v:Lu),1<=l->OQ nm=true->OQ v=true->Cq 5 l (IV nm v)=some (l-1):=λl nm v h1 h2 h3 =>
  Xfs h1 O (by rw[Mf,Mf,Mf,h2,h3];rfl) O
 show Cq 6 left (.mk Ze [(si,sk),(sj,sy)] [] [IV BI lt,IV X7 [],IV Am [],IV Aq []])=_
 rw[Xg0 om O O,F8,hi _ _ _ om O h];dsimp only
 rw[F8,hi _ _ _ om O O];dsimp only
 rw[F8,hi _ _ _ om O O];dsimp only
 rw[F8,hi _ _ _ om O O];dsimp only
 rw[F8]
 congr 1;omega
theorem wT{lt:Lu}(h:OQ lt=true):Cq 8 200 (aQ lt)=some 193:=by
 rw[Xfk,F8,Xnw de h];rfl
theorem Xbx{lt ph:Lu}(h:OQ lt=true)(hw:OQ ph=true):Cq 8 200 (iX lt ph)=some 192:=by
 rw[Xfk,F8,Xfs de O O hw];dsimp only
 rw[F8,Xnw de h];rfl
theorem rY{n:Nd}{l:Int}(h:Cq 8 200 n=some l):Mk n=CG 8 n:=by unfold Mk;rw[h,Y7 (show(some l).isSome=true from O)]
theorem zX(kind u:Lu):(Mk (aX kind u)).length<=100+6*kind.length+6*u.length:=by
 refine Yx (Xke _) ?_;simp only[EW,PC,HI,Dn,Nd.name,Nd.attrs,Nd.text,Nd.kids,Yt,Hm,PN,s9,lf,HX,DF,OM,List.length_cons,List.length_nil]
 omega
theorem Xnt(lt:Lu):(Mk (aQ lt)).length<=1000+6*lt.length:=by
 refine Yx (Xke _) ?_;simp only[EW,PC,HI,Dn,JB,IV,Nd.name,Nd.attrs,Nd.text,Nd.kids,Yt,Hm,PN,s9,lf,HX,DF,OM,Ze,si,sk,sj,sy,BI,X7,Am,Aq,Nl,Zg,Rz,List.length_cons,List.length_nil]
 omega
theorem Xfd(lt ph:Lu):(Mk (iX lt ph)).length<=1100+6*lt.length+6*ph.length:=by
 refine Yx (Xke _) ?_;simp only[EW,PC,HI,Dn,JB,IV,Nd.name,Nd.attrs,Nd.text,Nd.kids,Yt,Hm,PN,s9,lf,HX,DF,OM,Ze,si,sk,sj,sy,BI,X7,Am,Aq,Nl,Zg,Rz,List.length_cons,List.length_nil]
 omega
theorem Xcf{b:Lu}(h:b.length<=8192):FN (Jk 200 YY b)=true:=by
 unfold FN xT;have e:decide ((8192:Int)<((Jk 200 YY b).body.length:Nat))=false:=decide_eq_false (by show ¬ (8192:Int)<(b.length:Nat);omega);rw[e];rfl
theorem Xje{b ck:Lu}(h:b.length<=8192)(hc:ln ck=true):FN (Hl (Jk 200 YY b) ck)=true:=by
 unfold FN xT;have e:decide ((8192:Int)<((Hl (Jk 200 YY b) ck).body.length:Nat))=false:=decide_eq_false (by show ¬ (8192:Int)<(b.length:Nat);omega);have e2:Rq.Di (Ci,ck)=false:=by unfold Rq.Di;rw[hc];rfl
 rw[e];show(_&&((!Rq.Di _)&&((!Rq.Di (Ci,ck))&&true)))=true
 rw[e2];rfl
theorem YK{s:Lu}{c:Ui}(h1:∀b,s[0]?=some b->b≠c)(h2:∀b,s[s.length-1]?=some b->b≠c):Go.Lib.trimB s c=s:=by
 unfold Go.Lib.trimB;rw[Go.Lib.trimRightB_take s c s.length (Yd _) (λj b hj hb=>by
  have:=(Y1.1 hb).1;omega) (λb _ hb=>h2 b hb),Jm,
  Go.Lib.trimLeftB_drop s c 0 (Y4 _) (λj b hj=>Yy hj om) (λb hb=>h1 b hb),O5]
def CH:Lu:=[59,32,80,97,116,104,61,47,59,32,83,101,99,117,114,101,59,32,72,116,116,112,79,110,108,121]
theorem X9r(h:Mb Ap):iV ⟨Bz,Ap,[47],-1,true,true⟩=true:=by
 unfold iV
 have:List.all Ap RQ=true:=Yv.2 λc hc=>(Xt1 c (h c hc)).1
 dsimp only
 rw[this];rfl
theorem Xlm(h:Mb Ap):GY Ap (-1)=Ds Ap++CH:=by
 unfold GY L6;rw[Y7 (X9r h)];show Go.Lib.join [(Bz++[61])++Ap,sw++[47],xJ,xj] [59,32]=_
 simp[Go.Lib.join,Ds,CH,sw,xJ,xj]
theorem gI(h:Mb Ap):ln (GY Ap (-1))=true:=by
 rw[Xlm h];have h1:List.all (Ds Ap++CH) (FE 32 126)=true:=by
  rw[Y4r,Yb];exact⟨Yv.2 λc hc=>(xz h c hc).1,de⟩
 have h2:Go.Lib.trimB (Ds Ap++CH) 32=Ds Ap++CH:=by
  refine YK (λb hb=>?_) (λb hb=>?_)
  ·have e:(Ds Ap++CH)[0]?=some 67:=rfl;rw[e]at hb;cases hb;decide
  ·have e:(Ds Ap++CH)[(Ds Ap++CH).length-1]?=some 121:=by
    rw[Y0,Yq (by have:CH.length=26:=rfl;omega),show(Ds Ap).length+CH.length-1-(Ds Ap).length=25 by(have:CH.length=26:=rfl);omega];rfl
   rw[e]at hb;cases hb;decide
 unfold ln;rw[h1,h2];simp
def rO:Lu:=GY [] 0
theorem bR:ln rO=true:=by decide+kernel
structure YS(u pw:Lu):Prop where
 shown:∀c∈u,33<=c.toNat/\c.toNat<=126
 name:1<=u.length/\u.length<=32
 word:1<=pw.length/\pw.length<=60
theorem YS.sh(h:YS u pw):OQ u=true:=Yv.2 λc hc=>by
 have:=Xf (p:=λc=>!(decide (33<=c.toNat)&&decide (c.toNat<=126))||wo c) dk c
 have h2:=h.shown c hc;rw[decide_eq_true h2.1,decide_eq_true h2.2]at this;simpa using this
theorem Xjo(g:Cg)(x:Sp)(s:CB)(la:Oa)(lc:Nat)(l:List Nat)(hD:s.Z.D.length<=1000000)(hl:l.length<=1000000)(hX:Fm I g x s)(hR:RS I la 1 l.length (l.map λd=>BH (d:Nat)))(As:La)(hS:Aa B w I (svR g x s As)):Ce B I (Ib x.vb x.k.sb x.p.wb x.qb::Bg x.p ({ s.Z with D:=s.Z.D++l })::GK x.qb g.qc s.q x.qa x.qk::IX x.k s.k::As) 10 [ptr x.vb 0,.slice la l.length lc] w (.tuple #[]):=by
 refine gG 0 ?_;replace hS:=hS.px [1];obtain⟨a,c,ma,mc,hS⟩:=Kv hS;refine gF 8 (ZP x.p.mb ma mc s.Z.D hD la lc l hl hR) ?_;clear hS;rintro _ w ⟨rfl,a9,c9,hS⟩;refine gG 0 ?_;replace hS:=Aa.box (T:=C7 x.p { s.Z with D:=s.Z.D++l }) (a,c,a9,c9) (hS.px [1,1,4,4,4]);exact⟨O,(hS.x [3,3,2,3])⟩
def ZC(s:CB):Lu:=(AbB s.Z.l).headD []
theorem Xny(a:Oa)(c:Nat)(As:La)(hS:Aa B w I As):Ce B I As 318 [.slice a 0 c] w (.slice none 0 0):=by
 refine gT 4 (λH_ E5=>?_);exact gG 1 ⟨O,hS⟩
theorem Xxe(y:Va)(a:Oa)(b c:Nat)(As:La)(hS:Aa B w I (Ae b [.slice a 0 c] 172::As)):Ce B I (Ae b [.slice a 0 c] 172::As) 317 [y,ptr b 0] w (.tuple #[]):=by
 refine gE 1 (Xny a c) ?_;clear hS;intro w hS;refine gG 1 (.DT (WI.round ?_));refine gH 1 (.val (v:=.bool false) (.Aha (a:=none) (.of O) (.of O) Db) O (gH 3 (.AA (b:=false) (v:=.bool false) O O (λh=>Yy h de) O ?_)));refine gG 1 (.AF (rfl) ?_);exact gG 0 ⟨O,hS⟩
theorem VQ(a:Oa)(c:Nat)(As:La)(hS:Aa B w I As):Cz 239 [.slice a 0 c] w λv w'=>∃b,v=.func (.func 317) #[] #[ptr b 0]/\Aa B w' I (Ae b [.slice a 0 c] 172::As):=by
 refine gG 4 ?_;clear hS;intro b1 w hS;exact⟨_,O,hS⟩
theorem Xn0(a:Oa)(c:Nat)(As:La)(hS:Aa B w I As):Ce B I As 147 [.slice a 0 c] w (.tuple #[.slice none 0 0,Ab 0]):=by
 refine tD func147 O ntmps147 O (.seq (.q 2 O (.seq (.region (.PO hS zeroValue170 O O ?_)))));clear hS;intro b4 w hS;refine .nil (.seq (.region (.PO hS M7 O O ?_)));clear hS;intro b5 w hS
 first|refine .s1 hS (k:=0) O O O O BU sz ?_|refine .s1 hS (k:=1) O O O O BU sz ?_
 clear hS;intro w hS;try dsimp only[List.set]at hS
 refine .nil (.seq (.seq (.t 1 O (.call func239 O (Be O X4) O (VQ _ _ _ hS) ?_))));clear hS;rintro _ w ⟨bE,rfl,hS⟩;refine .nil (.block ?_);refine .XT hS (.of O) func317 O O (λl D r w hS=>?_) (λD w hS=>?_)
 ·have hS:=hS.pick 2 O;try dsimp only[List.eraseIdx]at hS
  refine(Xxe _ _ _ _ _ hS).mono ?_;rintro e w1 ⟨_,rfl,rfl,hS⟩;have hS:=hS.pick 2 O;try dsimp only[List.eraseIdx]at hS
  exact⟨_,O,hS.x [2]⟩
 refine .seq (.qt hS (.val (λw hS=>(by first|exact(.lo O hS (k:=0) O QT O)|exact(.lo O hS (k:=1) O QT O)|exact(.lo O hS (k:=2) O QT O)|exact(.lo O hS (k:=3) O QT O))) O ?_));refine .val (λw hS=>(by first|exact(.lo O hS (k:=0) O Cv O)|exact(.lo O hS (k:=1) O Cv O)|exact(.lo O hS (k:=2) O Cv O)|exact(.lo O hS (k:=3) O Cv O))) O ?_;refine .val (λw hS=>(.ao O)) O (.val (λw hS=>(.ao O)) O (.nil ?_));clear hS;intro w hS;refine .ret (AbF results147 hS (k:=0) O O O O (λw hS=>?_));exact⟨_,O,O,hS.y 0 3⟩
theorem WS{d:Dk}(h:4<=d.kept.length)(hi:i<2):N7 d (i:Nat)=true:=by unfold N7;simp;omega
theorem Xio{d:Dk}(h:4<=d.kept.length)(hi:(i:Int)<GM d):N7 d (YX d 0 (i:Nat))=true:=by
 unfold N7 YX;unfold GM at hi ⊢;simp only[Yb,dq1]
 omega
structure xW(d:Dk):Prop where
 ok:FP d
 len:4<=d.kept.length
 st:d.Ah=[]
 none:∀i:Nat,i<2->rOk d (i:Nat) (Mn d (i:Nat))=false
theorem V2{n:Int}(h:4<=n):xW (Dv n):=by
 have hl:4<=(Dv n).kept.length:=by simp only[Dv,js];omega
 refine⟨nW n,hl,O,λi hi=>?_⟩;have e:Mn (Dv n) (i:Nat)=ZB:=by
  unfold Mn;rw[show(Dv n).Ah=[] from O,List.foldl_nil,Ya,Y8];unfold Dv at hl ⊢;dsimp only at hl ⊢
  rw[js]at hl;rw[Y5u,Y7 om];rfl
 rw[e];unfold rOk;rw[show(Nq (Mt ZB) (Zj ZB) (RI ZB)==ZB.take 8)=false by kernel_rfl];rfl
def lg0(d:Dk):Lg:=⟨d,0,0,0,[]⟩
def K0(d:Dk):St:=⟨lg0 d,[]⟩
theorem Xxy(d:Dk)(db kb:Nat)(sv pl:Va)(hF:xW d)(hV:Bt I)(As:La)(hS:Aa B w I (CU db kb sv pl d As)):Cz 69 [ptr db 0] w λv w'=>∃J lg us,Le I J/\v=.tuple #[ptr lg 0,Ab 0]/\B1 J us []/\Aa B w' J (Ae lg [ptr db 0,Ab 0,Ab 0,Ab 0,us] 262::CU db kb sv pl d As):=by
 refine gG 0 ?_;have hd:=hF.ok;have hlen:=hF.len;have Cp:d.Ah.length<=1000000:=by rw[hF.st];exact Y4 _
 obtain⟨sa,sc,rfl,N0,_⟩:=hS.vS 2;have ES:=hd.size;have EC:=Xgd hd hlen;refine gE 3 (Xtm d db kb (.slice sa d.Ah.length sc) pl) ?_;clear hS;intro w hS;refine gU 1 (λFV DP=>?_);refine gG 5 ?_;clear hS;intro jA w hS;obtain⟨lg,rfl⟩:∃lg,lg=jA:=⟨_,O⟩
 have Bh:=((((hS.pick 3 O).pick 3 O).pick 3 O).pick 3 O);clear hS;refine .lk [0,4] (σ:=Nat×Im) (λ(i,J) _m=>(17,Ab (i:Nat))::_m) (λ(i,J) w=>i<=2/\Le I J/\Aa B w J (Ae lg [ptr db 0,Ab 0,Ab 0,Ab 0,(.slice none 0 0)] 262::CU db kb (.slice sa d.Ah.length sc) pl d As)) (λ(i,J)=>2-i) (0,I) ⟨Y4 _,Le.refl _,Bh⟩ ?_;rintro⟨i,J⟩ w ⟨hi,hJ,hS⟩;clear Bh;refine gN 1 ?_ ?_<;>intro Gy
 ·have Wy:i<2:=by have h9:=Gy;omega
  refine gF 4 (W3 ⟨d,0,0,0,[]⟩ lg db kb (.slice none 0 0) (.slice sa d.Ah.length sc) pl (i:Nat) (WS hlen Wy) (hV.mono hJ) hd hlen Cp) ?_;clear hS;rintro _ w ⟨J2,AE,KM,hS⟩;rw[hF.none i Wy]at KM;subst KM;refine gG 6 ?_;clear hS;intro b6 w hS;refine gQ ?_;clear hS;intro w hS;refine gG 11 (.AF (rfl) ?_);exact gG 2 (rd (i+1,J2) ⟨od,hJ.trans AE,(hS.z [4,4,4,4] 4 1)⟩)
 obtain rfl:i=2:=by have h9:=Gy;omega
 refine gE 1 (Xfr ⟨d,0,0,0,[]⟩ lg db kb (.slice none 0 0) (.slice sa d.Ah.length sc) pl hlen ES) ?_;clear hS;intro w hS;refine gG 1 ?_;have Bh:=((((hS.pick 3 O).pick 3 O).pick 3 O).pick 3 O);clear hS;replace Bh:=Bh.An 5 1;have Bo:=((((Bh.pick 4 O).pick 4 O).pick 4 O).pick 4 O);clear Bh;refine .lk [0,4,43] (σ:=Nat×Va×Im×Lv) (λ(i,kv,J,xs) _m=>(44,Ab (i:Nat))::_m) (λ(i,kv,J,xs) w=>(i:Int)<=GM d/\xs.length=32*i/\Le I J/\Aa B w J (Ae lg [ptr db 0,Ab 0,Ab 0,Ab 0,kv] 262::CU db kb (.slice sa d.Ah.length sc) pl d (Ar 5 1 kv (xs).length (xs)::As))) (λ(i,kv,J,xs)=>(GM d).toNat-i) (0,.slice none 0 0,J,[]) ⟨by unfold GM;omega,O,hJ,Bo⟩ ?_;rintro⟨i,kv,J,xs⟩ w ⟨hi,CW,hJ,hS⟩;clear Bo;refine gN 1 ?_ ?_<;>intro JS
 ·refine gG 2 ?_;have y7:(i:Int)<GM d:=by have h9:=JS;omega
  have hs9:GM d<=255:=by unfold GM;omega
  have Aba:=Xp9 hd (Xio hlen y7);refine gD [0] [18] [0,1,2,3,4,5,6,7,8,9,10,11,12,13,14,15,16,17,18] ?_;clear hS;intro w hS;refine gE 13 (Xiv ⟨d,0,0,0,[]⟩ lg db kb kv (.slice sa d.Ah.length sc) pl 0 (i:Nat) (.inl O) om hlen ES) ?_;clear hS;intro w hS;refine gF 0 (Xne d db kb sa sc pl (YX d 0 (i:Nat)) hd (Xio hlen y7) Cp) ?_;clear hS;rintro _ w ⟨b61,rfl,hS⟩;refine gH 0 (Br.e (.append (size:=1) (bytes:=1) hS (.of O) (.of O) (k:=4) O Db Xx O O O O (by simp[Ax,Aba]) O (Ni _) ⟨om,by unfold maxLen;omega⟩ O ?_));clear hS;intro v62 w hS;try dsimp only[List.set]at hS
  obtain⟨a62,c62,rfl,AcO,_⟩:=hS.Av (k:=4) (v:=v62) O;refine gH 3 ?_;clear hS;intro w hS;refine gG 2 ?_;have AaI:(Ax (Mn d (YX d 0 (i:Nat)))).length=32:=by rw[pW];exact Aba
  rw[show xs.length+32=(xs++Ax (Mn d (YX d 0 (i:Nat)))).length by rw[Y0,AaI]]at hS;exact E_ (i+1,_,J,xs++Ax (Mn d (YX d 0 (i:Nat)))) O ⟨od,by(try dsimp only);rw[Y0,AaI];omega,hJ,(hS.x [4,3,3,3,4])⟩
 refine gG 0 ?_;obtain⟨va,vc,rfl,rq,_⟩:=hS.vS 4;obtain⟨J4,EA,hRv,hS⟩:=hS.fV 4;try dsimp only[List.eraseIdx]at hS
 obtain⟨a9,JU,_⟩:=QF (lo:=0) (hi:=0) hRv (Y4 _) (Y4 _) rq;refine gD [0] [13] [0,1,2,3,4,5,6,7,8,9,10,11,12,13] ?_;clear hS;intro w hS;refine gH 10 (Br.j 10 (λw=>(.as (.Oy (.of O) (.of O) om om Db FJ) JU)) (gH 3 ?_));clear hS;intro w hS;refine gE 4 (Xn0 a9 vc) ?_;clear hS;intro w hS;refine gG 12 (.AF (rfl) ?_);exact gG 3 ⟨J4,lg,_,hJ.trans EA,O,⟨a9,vc,O,Y4 _,O,λh=>Yy h (Nat.lt_irrefl 0)⟩,hS.s⟩
theorem W4(d:Dk)(lg db kb:Nat)(us sv pl:Va)(hU:B1 I us [])(As:La)(hS:Aa B w I (Ae lg [ptr db 0,Ab 0,Ab 0,Ab 0,us] 262::CU db kb sv pl d As)):Ce B I (Ae lg [ptr db 0,Ab 0,Ab 0,Ab 0,us] 262::CU db kb sv pl d As) 70 [ptr lg 0] w (.slice none 0 0):=by
 obtain⟨da,dc,rfl,hdc,hRd⟩:=id hU;refine gE 5 (Xn0 da dc) ?_;clear hS;intro w hS;exact gG 7 ⟨O,hS.s⟩
theorem Xy7(d:Dk)(db kb:Nat)(sv pl:Va)(hF:xW d)(hV:Bt I)(As:La)(hS:Aa B w I (CU db kb sv pl d As)):Cz 23 [ptr db 0] w λv w'=>∃J sb lg us,Le I J/\v=.tuple #[ptr sb 0,Ab 0]/\B1 J us []/\Aa B w' J (Ae sb [ptr lg 0,(.map none)] 169::Ae lg [ptr db 0,Ab 0,Ab 0,Ab 0,us] 262::CU db kb sv pl d (DJ (.map none) ([])::As)):=by
 refine gF 3 (Xxy d db kb sv pl hF hV) ?_;clear hS;rintro _ w ⟨J,lg,us,hJ,rfl,hU,hS⟩;refine gG 7 (.AF (rfl) (gH 5 ?_));clear hS;intro yP w hS;refine gE 0 (W4 d lg db kb us sv pl hU) ?_;clear hS;intro w hS;refine gG 2 (.DT (WI.round ?_));refine gG 1 (.AF (rfl) (gG 3 ?_));replace hS:=ff hS;exact⟨J,yP,lg,us,hJ,O,hU,hS.s⟩
theorem WY(x:Kp)(s:St)(p:Lu)(hp:p.length<=1000)(hO:Ut s)(dz:s.A9.length<=1000000)(As:La)(hS:Aa B w I (IX x s::As)):Cz 25 [ptr x.sb 0,S p] w λv w'=>∃kv,v=kv/\Aa B w' I (Ar 58 2 kv (I_ s.A9 p).length (X2 X3 (I_ s.A9 p))::IX x s::As):=by
 obtain⟨_,hS⟩:=Aa.unbox hS;exact(eQ s x.sb x.lg x.db x.kb x.mv x.us x.sv x.pl p hp hO.A9 dz As hS).mono λe w' ⟨v,he,kv,hv,hS⟩=>⟨v,he,kv,hv,(Aa.box (T:=ksT x s) () (hS.x [6,6,6,6,6,6])).pick 1 O⟩
theorem Abj{d:Dk}(h:xW d):Ut (K0 d):=⟨⟨h.ok,h.len,⟨Int.le_refl _,show(0:Int)<262144 by decide⟩,.inl O,O,by have:=Xgd h.ok h.len;show(0:Int)<=It d;omega,by show d.Ah.length<=600;rw[h.st];exact Y4 _,.inr h.st⟩,Kg.nil⟩
theorem Xy6(d:Dk)(db kb:Nat)(sv pl:Va)(hF:xW d)(hV:Bt I)(hP:AU I pl d.AY)(As:La)(hS:Aa B w I (CU db kb sv pl d As)):Calls prog 23 #[ptr db 0] w (A4 λv w'=>∃J y,Le I J/\v=.tuple #[ptr y.sb 0,Ab 0]/\y.db=db/\Jv J y (K0 d)/\Aa B w' J (IX y (K0 d)::As)) :=
 (Xy7 d db kb sv pl hF hV As hS).mono λe w' ⟨v,he,J,sb,lg,us,hJ,h1,h2,h3⟩ =>
  ⟨v,he,J,⟨sb,lg,db,kb,.map none,us,sv,pl⟩,hJ,h1,O,⟨Abj hF,hP.mono hJ,h2,hV.mono hJ⟩,Aa.box (T:=ksT ⟨sb,lg,db,kb,.map none,us,sv,pl⟩ (K0 d)) () h3⟩
theorem T5(n:Int)(As:La)(hS:Aa B w I As):Cz 29 [Ab n,.slice none 0 0] w λv w'=>∃tb,v=.tuple #[ptr tb 0,Ab 0]/\Aa B w' I (B7 tb (TA n) none 0 ([]:List Al) As):=by
 refine gF 3 (Xgw n) ?_;clear hS;rintro _ w ⟨tb,rfl,hS⟩;refine gG 1 (.DT (WI.round ?_));refine gG 8 (.AF (rfl) ?_);exact gG 3 ⟨tb,O,hS.s⟩
def qcF(c:Cf):Qc:=⟨c.base,c.ID,c.most,c.tries⟩
def Zi(c:Cf)(d:Dk)(now:Int):Nat×CB:=if JF c≠0 then(JF c,⟨w0 c,[],K0 d⟩)else(0,⟨tick { w0 c with l:=[] } now,[],K0 d⟩)
def zA(c:Cf)(g:Cg):Prop:=∃D,B3.Ord (kx (EK c.EV)) c.EV.length D/\g=⟨Nr c.EV D,c.us,c.ps,qcF c⟩
theorem fF{l:List Sv}{us:List Us}(h:qj l us)(D:List Int):qj (Nr l D) us:=by
 refine⟨λs hs=>?_,h.yO⟩;unfold Nr at hs;obtain⟨i,_,hi⟩:=Fg.1 hs;rw[<-hi,Ya];cases e:l[i.toNat]? with
 | none=>decide
 | some x=>exact h.rel x (Y6 e)
theorem Xzc(c:Cf)(hc:c.fits)(EI:JF c=0->qj c.EV c.us)(g:Cg)(hg:zA c g)(a:Oa)(cap:Nat)(ua:Oa)(EM:Nat)(d:Dk)(db kb:Nat)(sv pl:Va)(hd:xW d)(now:Int)(hZ:Kz I)(hV:Bt I)(hP:AU I pl d.AY)(hl:Gn I a c.EV)(hU:DI I ua c.us)(As:La)(hS:Aa B w I (CU db kb sv pl d As)):Cz 7 [.agg (PA c a cap ua EM).toArray,ptr db 0,Ab now] w λv w'=>∃J,Le I J/\(((Zi c d now).1≠0/\v=.tuple #[.pointer none,Ab ((Zi c d now).1:Nat)]/\Aa B w' J As)\/((Zi c d now).1=0/\∃x:Sp,v=.tuple #[ptr x.vb 0,Ab 0]/\x.k.db=db/\Fm J g x (Zi c d now).2/\C4 (Zi c d now).2 8160/\Aa B w' J (svL g x (Zi c d now).2++As))):=by
 refine gG 0 (.Ls (cs:=PA c a cap ua EM) hS (.of O) O ?_);clear hS;intro b3 w hS;refine gG 2 ?_;refine .val (.GG (vs:=PA c a cap ua EM) (.of O) hS (k:=0) O isAgg32 kl O (λ_ _ h=>by rw[Yj];exact h)) O ?_;refine gF 0 (Xo2 c hc a cap ua EM hZ.kn hZ.pre hl hU) ?_;clear hS;rintro v w ⟨J1,Bn,IK⟩;obtain⟨pv,rfl,G_⟩:∃(pv:Oa),v=.tuple #[.pointer pv,Ab (JF c:Nat)]/\((JF c≠0/\Aa B w J1 (Ae b3 (PA c a cap ua EM) 32::CU db kb sv pl d As))\/(JF c=0/\∃p D,B3.Ord (kx (EK c.EV)) c.EV.length D/\p.lo=Nr c.EV D/\p.us=c.us/\p.ps=c.ps/\pv=some (ad p.wb 0)/\C0 J1 p/\Aa B w J1 (Bg p (w0 c)::Ae b3 (PA c a cap ua EM) 32::CU db kb sv pl d As))):=by
  rcases IK with⟨h1,h2,h3⟩|⟨h1,p,D,h2,h3,h4,h5,h6,h7,h8⟩
  ·exact⟨none,h2,.inl ⟨h1,h3⟩⟩
  ·exact⟨some (ad p.wb 0),by rw[h1];exact h6,.inr ⟨h1,p,D,h2,h3,h4,h5,O,h7,h8⟩⟩
 refine gN 7 ?_ ?_<;>intro E4
 ·refine gG 3 ?_;have u3:JF c≠0:=by have h9:=E4;omega
  rcases G_ with⟨_,hS⟩|⟨h9,_⟩
  ·have e9:Zi c d now=(JF c,⟨w0 c,[],K0 d⟩):=by
    unfold Zi;exact Y7 u3
   rw[e9];exact⟨J1,Bn,.inl ⟨u3,O,hS.s⟩⟩
  ·exact Yy h9 u3
 refine gG 0 ?_;obtain⟨hn0,p,D,hD,ey,ni,E7,rfl,hWp,hS⟩:=G_.resolve_left (λh=>h.1 (oh E4));refine gF 1 (Xy6 d db kb sv pl hd (hV.mono Bn) (hP.mono Bn)) ?_;clear hS;rintro _ w ⟨J2,y,AE,rfl,AdC,hKp,hS⟩;have P8:=Bn.trans AE;refine gG 7 (.AF (rfl) (gH 2 ?_));refine .val (.GG (vs:=PA c a cap ua EM) (.of O) hS (k:=2) O isAgg32 kl O (λ_ _ h=>by rw[Yj];exact h)) O ?_;refine gF 0 (T7 (PA c a cap ua EM) c.base c.ID c.most c.tries O O O O) ?_;clear hS;rintro _ w ⟨qb,rfl,hS⟩;refine gH 5 ?_;clear hS;intro b40 w hS;refine gF 0 (WY y (K0 d) [] de hKp.st (Y4 _)) ?_;clear hS;rintro _ w ⟨kv9,rfl,hS⟩;rw[show I_ (K0 d).A9 []=[] from O]at hS;obtain⟨pa,pc,rfl,NY,_⟩:=hS.vS 0;replace hS:=hS.py [0];rw[show([]:List Pr).length=0 from O];refine gG 2 (.DT (WI.round ?_));refine gG 1 (.AF (rfl) (gG 0 ?_));replace hS:=hS.px [3];obtain⟨⟨a7,c7,ma7,mc7⟩,hS⟩:=Aa.unbox hS;replace hS:Aa B _ _ (Ae p.wb (DX p (w0 c)) 101::B7 p.tb (w0 c).room a7 c7 (w0 c).l (Ae p.mb [.slice ma7 (w0 c).D.length mc7] 193::EN 22 (.slice ma7 (w0 c).D.length mc7) ((w0 c).D.map λd=>BH (d:Nat))::_)):=hS;refine gF 4 (T5 c.room) ?_;clear hS;rintro _ w ⟨tb9,rfl,hS⟩;refine gH 5 (.s1 hS (k:=2) O O O O Uj (by simp[TX]) ?_);clear hS;intro w hS;try dsimp only[List.set]at hS
 refine gG 3 (.AF (rfl) (gG 0 ?_));replace hS:=Aa.box (T:=C7 { p with tb:=tb9 } ({ w0 c with l:=[] }:Wd)) (none,0,ma7,mc7) (hS.px [6,6,3,3,4]);have hZ9:BL ({ w0 c with l:=[] }:Wd):=⟨Y4 _,Wf.nil,λdd hh=>by simp[w0]at hh,by show(0:Int)<=0/\(0:Int)<=1099511627776;omega,(AbS c).room⟩
 refine gE 2 (aH { p with tb:=tb9 } ({ w0 c with l:=[] }:Wd) now hZ9) ?_;clear hS;intro w hS;refine gG 3 ?_;replace hS:Aa B _ J2 (_::_::_::_::_::GK qb (qcF c) [] none 0::_::_):=hS;obtain⟨D9,hD9,Qp⟩:=hg;have hDD:=hD.unique hD9;subst Qp;have e9:Zi c d now=(0,⟨tick ({ w0 c with l:=[] }:Wd) now,[],K0 d⟩):=by
  unfold Zi;exact Y3 (λh=>h hn0)
 rw[e9];refine⟨J2,P8,.inr ⟨O,⟨b40,{ p with tb:=tb9 },qb,none,0,y⟩,O,AdC,⟨?_,?_,hZ.mono P8,?_,hKp,Yd _,RS.nil _ _⟩,⟨o4 hZ9 now,⟨Y4 _,λn hn=>by simp at hn⟩,Y4 _⟩,(hS.z [3,5,2,5] 4 3)⟩⟩
 ·exact(hWp.mono AE).cp p.wb tb9
 ·show(⟨p.lo,p.us,p.ps,qcF c⟩:Cg)=_;rw[ey,ni,E7,hDD]
 ·show qj p.lo p.us;rw[ey,ni];exact fF (EI hn0) D
theorem zN{r:Cr}(h:FN r=true):Nj r=Lh r:=by unfold Nj sD;rw[Y7 h]
def YR:Sv:=⟨1,0,[104,116,116,112,58,47,47,42,42],true,false,true,[],[]⟩
abbrev Nc(u pw:Lu):Us:=⟨u,pw,[]⟩
def Kf(u pw:Lu):Cf:=⟨[YR],[Nc u pw],P0,30,4607182418800017408,4611686018427387904,4621256167635550208,3⟩
def Et(u pw:Lu):Cg:=⟨[YR],[Nc u pw],P0,⟨4607182418800017408,4611686018427387904,4621256167635550208,3⟩⟩
theorem wz:B3.Ord (kx (EK [YR])) 1 [0]:=⟨by decide+kernel,by decide+kernel⟩
theorem AbQ(u pw:Lu):zA (Kf u pw) (Et u pw):=⟨[0],wz,O⟩
theorem im:(Kn [YR]).1=0:=by kernel_rfl
theorem o2(h:YS u pw):jq (Nc u pw)=true:=by
 have h1:sr u 33 1 32=true:=by
  unfold sr;rw[decide_eq_true (show(1:Int)<=(u.length:Int)by have:=h.name;omega),decide_eq_true (show(u.length:Int)<=32 by have:=h.name;omega),Y5p,Y5p];refine Yv.2 λc hc=>?_
  have:=h.shown c hc
  rw[decide_eq_false om,decide_eq_false om];rfl
 unfold jq;rw[show(Nc u pw).name=u from O,h1,decide_eq_true (show(1:Int)<=(((Nc u pw).pw.length:Nat):Int)by show(1:Int)<=(pw.length:Int);have:=h.word;omega),decide_eq_true (show(((Nc u pw).pw.length:Nat):Int)<=60 by show(pw.length:Int)<=60;have:=h.word;omega)];rfl
theorem wy(h:YS u pw):JF (Kf u pw)=0:=by
 have h2:HG [Nc u pw] 0 []=(0,0):=by rw[HG,Y3 de,Y3 (by rw[o2 h];decide),Y3 sz,HG]
 unfold JF;rw[show(Kf u pw).EV=[YR] from O,Y3 (nB im),show(Kf u pw).us=[Nc u pw] from O,h2,Y3 de,show(Kf u pw).ps=P0 from O,Y3 (show ¬ QE P0=false by decide)]
theorem o0(h:YS u pw):(Kf u pw).fits:=⟨by show 1<=20;decide,by show ∀v∈EK [YR],_;decide+kernel,by show ∀s∈[YR],_;decide+kernel,by show 1<=_;decide,λx hx=>by
 rw[show(Kf u pw).us=[Nc u pw] from O,HH]at hx;subst hx;have h1:=h.name;have h2:=h.word;exact⟨by show u.length<=_;unfold maxLen;omega,by show pw.length<=_;unfold maxLen;omega,by show 0<=_;decide,λp hp=>by simp[Nc]at hp⟩⟩
theorem il(u pw:Lu):qj (Kf u pw).EV (Kf u pw).us :=
 ⟨λs hs=>by rw[show(Kf u pw).EV=[YR] from O,HH]at hs;subst hs;decide,λx hx=>by rw[show(Kf u pw).us=[Nc u pw] from O,HH]at hx;subst hx;exact⟨by show 0<=8;decide,λa ha=>by simp[Nc]at ha⟩⟩
theorem o1(h:YS u pw)(n:Int):Zi (Kf u pw) (Dv n) 0=(0,⟨WB [] [],[],K0 (Dv n)⟩):=by
 unfold Zi;rw[Y3 (by rw[wy h];decide)];rfl
theorem wA(D:List Nat):M_ 4 ⟨WB [] D,[],K0 (Dv 200)⟩ :=
 ⟨O,⟨⟨O,O,by show(-1:Int)<=0;decide,by show(List.replicate _ _).length=200;rw[js];decide⟩,de,.inl O,O,by show(0:Int)+746*4<=((((List.replicate _ ZB).length:Nat)-2:Int)/2)*32;rw[js];decide,by show(0:Int)<=0/\(0:Int)+(4:Nat)<262144;decide⟩,by show 0<=1;decide,λr hr=>by cases hr⟩
theorem sf{lt w:Lu}(h:w≠[]):CD lt [] w=yj [Dn DF w [],JB lt []]:=by unfold CD;rw[Y3 h]
theorem kS{s:Lu}(h:Mb s):OQ s=true:=Yv.2 λc hc=>by
 have:=Xf (p:=λc=>!QO c||wo c) dk c
 rw[h c hc]at this;simpa using this
theorem pL(hd:d<18446744073709551616){w:Lu}(hw:w=[]\/w=A3):FN (CD (N6 d) [] w)=true:=by
 have hl:=RA d;rcases hw with rfl|rfl
 ·exact Xcf (by have:=Xnt (N6 d);show(Mk (aQ (N6 d))).length<=_;omega)
 ·rw[sf de];exact Xcf (by have:=Xfd (N6 d) A3;have:A3.length=25:=rfl;show(Mk (iX (N6 d) A3)).length<=_;omega)
theorem Xcd(h:u.length<=32):FN (CE AN u)=true :=
 Xcf (by have:=zX AN u;have:AN.length=4:=rfl;show(Mk (aX AN u)).length<=_;omega)
theorem X9s(h:u.length<=32)(ht:Mb Ap):FN (Hl (CE AN u) (GY Ap (-1)))=true :=
 Xje (by have:=zX AN u;have:AN.length=4:=rfl;show(Mk (aX AN u)).length<=_;omega) (gI ht)
theorem Xgb:FN (Hl (CE GF []) rO)=true :=
 Xje (by have:=zX GF [];have:GF.length<=10:=de
         simp only[List.length_nil]at *;show(Mk (aX GF [])).length<=_;omega) bR
theorem cu(r:Al):Jg [r] [r]=[]:=by
 apply Yf
 unfold Jg;rw[pO];unfold RE Ov;simp[Xtg,Sw,zW]
theorem cP{s:CB}{t:B4}{r:Al}(hs:s.Z.l=[r])(ht:t.Z.l=[r])(hq:s.q=[])(E8:t.q=[])(hf:t.C6=false):G0 s t=(0,⟨t.Z,[],s.k⟩):=by
 have hc:Xu s.k []=(0,s.k):=by unfold Xu;rw[Y7 (.inr O)];rfl
 unfold G0;rw[Y3 (nB hf),hs,ht,hq,E8,cu,Xf1,Yr,hc];rfl
theorem Aak{g:Cg}{kk:Nat}{s s':CB}{b j:Lu}{r:HC}{a:List Pq}{t:B4}(hp:X0 b=(r,0))(ha:CN r.Au r.target r.body=(a,0))(hj:Ei r.Ac=(j,0))(h1:Xp (Zf++Xy r)<9)(h2:Xp ((r.Au++[32])++Xy r)=kk)(eu:kk<9)
  (ht:RO g kk a j (Gu s)=t) (hc:t.call=[]) (hrf:FN t.Aj=true) (hE:G0 s t=(0,s')):Fz g s b=((Nj t.Aj,[]),s'):=by
 have hd:Gc g s kk a j=t:=by
  unfold Gc;rw[ht];dsimp only
  rw[Y3 (by rw[hrf,Y5q,jy];decide)]
 unfold Fz;rw[hp];dsimp only
 rw[ha,hj];dsimp only
 rw[Y3 (by rintro(h9|h9|h9)<;>exact h9 O),Y3 (not_not_intro h1),h2,Y3 (not_not_intro eu),hd,hE];dsimp only
 rw[Y3 de,hc,Y3 de]
section
variable {u pw:Lu} {k:Nat} {s:CB} {d d0 d1:Nat} {D:List Nat}
theorem TL(h:M_ (k+1) s)(hs:s.Z=WB [] (d::D))(hd:d<18446744073709551616):∃K,Fz (Et u pw) s (UZ (rL AV))=((Lh (CD (N6 d) [] []),[]),⟨WB [Ef d] D,[],K⟩)/\M_ k ⟨WB [Ef d] D,[],K⟩:=by
 have hl:=Xy2 (g:=Et u pw) O (ck:=[]) (s:=Gu s) hd hs;obtain⟨K,h1,h2⟩:=Sk (g:=Et u pw) (t:={ Gu s with Z:=WB [Ef d] D,Aj:=CD (N6 d) [] [] }) (kk:=0) h (wV (kR (.inr O) (.inl O))) (Xsq (l:=[]) (ck:=[]) (.inl O)) (oI AV) de de de hl O O (pL hd (.inl O)) h.q (by show 1<=1;decide) (λr hr=>by rw[HH.1 hr];exact Xl6 hd);exact⟨K,by rw[h1,zN (pL hd (.inl O))],h2⟩
theorem gV(h:M_ (k+1) s)(hs:s.Z=WB [Ef d0] (d1::D))(hd:d0<18446744073709551616)(EB:d1<18446744073709551616)(hu:u.length<=32)(hp:pw.length<=60):∃K,Fz (Et u pw) s (UZ (Pd (N6 d0) u pw))=((Lh (Hl (CE AN u) (GY (N1 d1) (-1))),[]),⟨WB [Eh d1 u] D,[],K⟩)/\M_ k ⟨WB [Eh d1 u] D,[],K⟩:=by
 have hl:=Xz2 (g:=Et u pw) (u:=u) (pw:=pw) O O (s:=Gu s) EB hu hs;obtain⟨K,h1,h2⟩:=Sk (g:=Et u pw) (t:={ Gu s with Z:=WB [Eh d1 u] D,Aj:=Hl (CE AN u) (GY (N1 d1) (-1)) }) (kk:=1) h (wV (Xpg (.inr O) (nB (RA _)) hu hp)) (Xvk (N6 d0) u pw) (TB (N6 d0) u pw) (by show Xp (Zf++(CA 63 AV).1)<9;decide) (by show Xp ((Jx++[32])++(CA 63 AV).1)=1;decide) de hl O O (X9s hu (OO EB)) h.q (by show 1<=1;decide) (λr hr=>by rw[HH.1 hr];exact Xlw EB hu);exact⟨K,by rw[h1,zN (X9s hu (OO EB))],h2⟩
theorem gW{told:Lu}(A8:told≠pw)(h:M_ (k+1) s)(hs:s.Z=WB [Ef d0] (d1::D))(hd:d0<18446744073709551616)(EB:d1<18446744073709551616)(hu:u.length<=32)(hp:told.length<=60):∃K,Fz (Et u pw) s (UZ (Pd (N6 d0) u told))=((Lh (CD (N6 d1) [] A3),[]),⟨WB [Ef d1] D,[],K⟩)/\M_ k ⟨WB [Ef d1] D,[],K⟩:=by
 have hl:=Xz3 (g:=Et u pw) (u:=u) (pw:=pw) O O A8 (s:=Gu s) EB hs;obtain⟨K,h1,h2⟩:=Sk (g:=Et u pw) (t:={ Gu s with Z:=WB [Ef d1] D,Aj:=CD (N6 d1) [] A3 }) (kk:=1) h (wV (Xpg (.inr O) (nB (RA _)) hu hp)) (Xvk (N6 d0) u told) (TB (N6 d0) u told) (by show Xp (Zf++(CA 63 AV).1)<9;decide) (by show Xp ((Jx++[32])++(CA 63 AV).1)=1;decide) de hl O O (pL EB (.inr O)) h.q (by show 1<=1;decide) (λr hr=>by rw[HH.1 hr];exact Xl6 EB);exact⟨K,by rw[h1,zN (pL EB (.inr O))],h2⟩
theorem oU(h:M_ k s)(hs:s.Z=WB [Eh d u] D)(hd:d<18446744073709551616)(hu:u.length<=32):∃K,Fz (Et u pw) s (UZ (ZH AV (N1 d)))=((Lh (CE AN u),[]),⟨WB [Eh d u] D,[],K⟩)/\M_ k ⟨WB [Eh d u] D,[],K⟩:=by
 have hl:=Xy3 (g:=Et u pw) O (s:=Gu s) hs;have hE:G0 s { Gu s with Aj:=CE AN u }=(0,⟨WB [Eh d u] D,[],s.k⟩):=by
  have e:=cP (s:=s) (t:={ Gu s with Aj:=CE AN u }) (r:=Eh d u) (by rw[hs]) (by show s.Z.l=_;rw[hs]) h.q h.q O;rw[e];show(0,(⟨s.Z,[],s.k⟩:CB))=_
  rw[hs]
 have h1:=Aak (g:=Et u pw) (t:={ Gu s with Aj:=CE AN u }) (kk:=0) (wV (qg (.inr O) (.inl O) (OO hd) (nB (Y_ _)))) (Xsq (ck:=[]) (.inl O)) (TC (OO hd)) (by show Xp (Zf++(CA 63 AV).1)<9;decide) (by show Xp ((kf++[32])++(CA 63 AV).1)=0;decide) de hl O (Xcd hu) hE;exact⟨s.k,by rw[h1,zN (Xcd hu)],⟨O,h.log,by show 1<=1;decide,λr hr=>by rw[HH.1 hr];exact Xlw hd hu⟩⟩
theorem wq(h:M_ (k+1) s)(hs:s.Z=WB [Eh d u] D)(hd:d<18446744073709551616):∃K,Fz (Et u pw) s (UZ (ZH CM (N1 d)))=((Lh (Hl (CE GF []) rO),[]),⟨WB [] D,[],K⟩)/\M_ k ⟨WB [] D,[],K⟩:=by
 have hl:=gK (g:=Et u pw) (s:=Gu s) hs h.q;obtain⟨K,h1,h2⟩:=Sk (g:=Et u pw) (t:={ Gu s with Z:=WB [] D,q:=[],Aj:=Hl (CE GF []) (GY [] 0) }) (kk:=2) h (wV (qg (.inr O) (.inr O) (OO hd) (nB (Y_ _)))) (Xsq (ck:=[]) (.inr O)) (TC (OO hd)) (by show Xp (Zf++(CA 63 CM).1)<9;decide) (by show Xp ((kf++[32])++(CA 63 CM).1)=2;decide) de hl O O Xgb O (by show 0<=1;decide) (λr hr=>by cases hr);exact⟨K,by rw[h1,show Nj (Hl (CE GF []) (GY [] 0))=_ from zN Xgb];rfl,h2⟩
def zG(u pw told:Lu)(d1:Nat)(r:Cr)(l:List Al):Prop:=(told=pw/\r=Hl (CE AN u) (GY (N1 d1) (-1))/\l=[Eh d1 u])\/(told≠pw/\r=CD (N6 d1) [] A3/\l=[Ef d1])
theorem wt{told:Lu}(h:M_ (k+1) s)(hs:s.Z=WB [Ef d0] (d1::D))(hd:d0<18446744073709551616)(EB:d1<18446744073709551616)(hu:u.length<=32)(hp:told.length<=60):∃r l K,zG u pw told d1 r l/\Fz (Et u pw) s (UZ (Pd (N6 d0) u told))=((Lh r,[]),⟨WB l D,[],K⟩)/\M_ k ⟨WB l D,[],K⟩:=by
 by_cases e:told=pw
 ·subst e;obtain⟨K,h1,h2⟩:=gV (pw:=told) h hs hd EB hu hp;exact⟨_,_,K,.inl ⟨O,O,O⟩,h1,h2⟩
 ·obtain⟨K,h1,h2⟩:=gW (u:=u) (pw:=pw) e h hs hd EB hu hp;exact⟨_,_,K,.inr ⟨e,O,O⟩,h1,h2⟩
end
theorem Xt9{s p a b:Lu}{t:Bool}(he:Go.Lib.cut s p=(a,b,t))(hs:s.length<=1000000)(hZ:Kz I)(As:La)(hS:Aa B w I As):Calls prog 82 #[S s,S p] w (A4 λv w'=>v=.tuple #[S a,S b,.bool t]/\Aa B w' I As):=by
 have h:=Xta s p hs hZ As hS;rw[he]at h;exact h
theorem Xhz(s p:Lu)(L:List Lu)(h1:Go.Lib.splitK p 0 (Go.Lib.count s p) s=L)(h2:Go.Lib.count s p+1=L.length)(hp:1<=p.length)(hs:s.length<=1000000)(hZ:Kz I)(As:La)(hS:Aa B w I As):Calls prog 83 #[S s,S p] w (A4 λv w'=>∃b J,v=.slice (some (ad b 0)) L.length L.length/\Le I J/\RS J (some (ad b 0)) 1 L.length (L.map S)/\Aa B w' J As):=by
 obtain⟨m,hm⟩:=hZ.kn.max B w As hS;refine(strings_Split ⟨s.toArray⟩ ⟨p.toArray⟩ m w (by show s.length<_;omega) hm hp).mono λe w' he=>?_
 obtain⟨rfl,rfl⟩:=he;have e2:(Go.Lib.splitB ⟨p.toArray⟩ 0 (Go.Lib.countB ⟨s.toArray⟩ ⟨p.toArray⟩) ⟨s.toArray⟩).map Value.string=L.map S:=by
  rw[Xgv,Go.Lib.splitB_data];show List.map S (Go.Lib.splitK p 0 (Go.Lib.count s p) s)=_
  rw[h1]
 rw[e2];have Bo:=hS.alloc (.cells (L.map S).toArray 9);obtain⟨J,hJ,hR,LD⟩:=OH (size:=1) (n:=L.length) Bo sz;exact⟨_,O,w.heap.size,J,by rw[<-h2],hJ,hR,LD⟩
theorem Xqs(s:Lu)(c:Ui)(L:List Lu)(h1:Go.Lib.splitK [c] 0 2 s=L)(h3:L.length=3)(h2:2<=s.length)(hs:s.length<=1000000)(hZ:Kz I)(As:La)(hS:Aa B w I As):Calls prog 84 #[S s,S [c],Ab 3] w (A4 λv w'=>∃b J,v=.slice (some (ad b 0)) 3 3/\Le I J/\RS J (some (ad b 0)) 1 3 (L.map S)/\Aa B w' J As):=by
 obtain⟨m,hm⟩:=hZ.kn.max B w As hS;have hn:min 3 ((ByteArray.mk s.toArray).size+1)=3:=by show min 3 (s.length+1)=3;omega
 refine(strings_SplitN ⟨s.toArray⟩ ⟨[c].toArray⟩ 3 m w (by show s.length<_;omega) hm (Yd 1) de de).mono λe w' he=>?_
 obtain⟨rfl,rfl⟩:=he;have e2:(Go.Lib.splitB ⟨[c].toArray⟩ 0 2 ⟨s.toArray⟩).map Value.string=L.map S:=by
  rw[Xgv,Go.Lib.splitB_data];show List.map S (Go.Lib.splitK [c] 0 2 s)=_
  rw[h1]
 have e3:(Go.Lib.splitB ⟨[c].toArray⟩ 0 2 ⟨s.toArray⟩).length=3:=by
  have:=Y5 List.length e2
  simpa[h3]using this
 rw[hn,show 3-1=2 from O,e3];have e4:Go.Lib.cellsOf (Go.Lib.splitB ⟨[c].toArray⟩ 0 2 ⟨s.toArray⟩) 3=(L.map S).toArray:=by
  rw[<-e2]
  conv=>lhs;rw[<-e3]
  exact Go.Lib.cellsOf_full _
 rw[e4];have Bo:=hS.alloc (.cells (L.map S).toArray 9);obtain⟨J,hJ,hR,LD⟩:=OH (size:=1) (n:=3) Bo (by simp[h3]);exact⟨_,O,w.heap.size,J,O,hJ,hR,LD⟩
theorem Xjk(b n:Nat)(h:0<n):sliced (some (ad b 0)) (1:Int).toNat (n+1) (n+1) 1=.slice (some (ad b 1)) n n:=by
 simp only[sliced,s7,EE]
 rw[Y3 (show ¬ n+1=(1:Int).toNat by show ¬ n+1=1;omega)];rfl
theorem Xiw{r:Cr}(hr:FN r=true)(hv:∀h∈r.Ac,h.1.length<=1000/\h.2.length<=1000):∀h∈DD r,h.1.length<=1000/\h.2.length<=1000:=λh hh=>by
 rcases Yn.1 hh with h1|h1
 ·exact hv h h1
 ·simp only[Yi,Fw,or_false]at h1
  subst h1
  have:=p8 r.body.length (oh ((zH hr).2.2))
  exact⟨by show Pe.length<=_;decide,by show(Go.Lib.decDigits r.body.length).length<=_;omega⟩
theorem Tn{r:Cr}(h:r.status=200)(hr:FN r=true)(hv:∀h∈r.Ac,h.1.length<=1000/\h.2.length<=1000):(Lh r).length<=100000/\(Go.Lib.join (K_ r) CR).length<=100000:=by
 have h1:=zH hr;have h2:=TQ (r:=r) om;have h3:=Xe0 2000 (DD r) (Ma r) (λh hh=>by have:=Xiw hr hv h hh;omega);have h4:=w_ r;have h5:(DD r).length*(2000+4)<=33*2004:=U4 _ om;have h6:(Lh r).length<=100000:=by
  unfold Lh;rw[Y0,Y0]
  have:CR.length=2:=rfl
  omega
 refine⟨h6,?_⟩;rw[Tm h,Y0]at h6;omega
theorem Xyv(r:Cr)(h2:r.status=200)(hr:FN r=true)(hv:∀h∈r.Ac,h.1.length<=1000/\h.2.length<=1000)(hZ:Kz I)(As:La)(hS:Aa B w I As):Cz 32 [S (Lh r)] w λv w'=>∃J ra rc,v=.tuple #[.agg #[Ab r.status,.slice ra (DD r).length rc,S r.body],.bool true]/\Le I J/\(DD r).length<=rc/\RS J ra 2 (DD r).length (X2 X3 (DD r))/\Aa B w' J As:=by
 refine gH 3 ?_;clear hS;intro b2 w hS;refine gE 0 (Xt9 (fT h2 hr) (oh ((Tn h2 hr hv).1)) hZ) ?_;clear hS;intro w hS;refine gF 8 (Xhz (Go.Lib.join (K_ r) CR) CR (K_ r) (Xjc hr).1 (Xjc hr).2 de (oh ((Tn h2 hr hv).2)) hZ) ?_;clear hS;rintro _ w ⟨lN,J1,rfl,Bn,jG,hS⟩;refine gG 1 ?_;have SL:(K_ r).length=(DD r).length+1:=by unfold K_;simp
 have hlr:=w_ r;have hrf:=zH hr;obtain⟨q,hq,DW⟩:=AQ (cells:=tC) (s:=1) (λ_=>rfl) (by rw[jd];exact jG) (show(K_ r)[0]?=some Uu from O);cases hq
 refine gF 3 (Xqs Uu 32 _ fU O de de (hZ.mono Bn)) ?_;clear hS;rintro _ w ⟨b26,J2,rfl,AE,Mx,hS⟩;refine gG 8 (.AF (rfl) (gH 4 ?_));clear hS;intro b9 w hS;refine gG 0 ?_;obtain⟨q,hq,KN⟩:=AQ (cells:=tC) (s:=1) (λ_=>rfl) (by rw[jd];exact Mx) (show([[72,84,84,80,47,49,46,49],[50,48,48],[79,75]]:List Lu)[1]?=some [50,48,48] from O);cases hq
 replace KN:At J2 ((ad b26 0).add ((1:Int).toNat*1)) [S [50,48,48]]:=KN;refine gF 3 (Xn2 [50,48,48] de ((hZ.mono Bn).mono AE).kx) ?_;clear hS;rintro _ w ⟨n9,e9,rfl,hn9,hS⟩;obtain rfl:n9=200:=hn9 200 de dk;refine gH 6 ?_;clear hS;intro w hS;refine .val (v:=.slice (some (ad lN 1)) (DD r).length (DD r).length) (.as (.Ia (.of O) (.of O) de om OX Bf) (by rw[SL];exact Xjk lN (DD r).length om)) O ?_;refine gG 2 ?_;replace hS:=(hS.An 58 2).pick 1 O;try dsimp only[List.eraseIdx]at hS
 refine .lk [2,9,46,47] (σ:=Nat×Va) (λ(i,kv) _m=>(48,Ab (i:Nat))::_m) (λ(i,kv) w=>i<=(DD r).length/\Aa B w J2 (Ae b9 [Ab 200,kv,S r.body] 48::Ar 58 2 kv i (X2 X3 ((DD r).take i))::Ae b2 [Ab 0,.slice none 0 0,S []] 48::As)) (λ(i,kv)=>(DD r).length-i) (0,.slice none 0 0) ⟨Y4 _,hS⟩ ?_;rintro⟨i,kv⟩ w ⟨hi,hS⟩;obtain⟨ka,kc,rfl,CV,_⟩:=hS.Av (k:=1) (v:=kv) O;refine gN 1 ?_ ?_<;>intro uq
 ·refine gG 0 ?_;obtain⟨x,hx⟩:∃x,(DD r)[i]?=some x:=⟨_,Y2 om⟩
  obtain⟨q,hq,hxb⟩:=AQ (cells:=tC) (s:=1) (λ_=>rfl) (by rw[jd];exact jG) (show(K_ r)[i+1]?=some (OV x)by unfold K_;rw[Y39,Ys,hx];rfl);cases hq
  have F7:At J2 (ad lN (1+(i:Int).toNat*1)) [S (OV x)]:=by
   rw[show 1+(i:Int).toNat*1=0+(i+1)*1 by omega];exact hxb.mono AE
  refine gE 4 (Xt9 (b_ hr (Y6 hx)) (by have h9:=Xiw hr hv x (Y6 hx);unfold OV;simp only[Y0,List.length_cons,List.length_nil];omega) (hZ.mono (Bn.trans AE))) ?_;clear hS;intro w hS;refine gH 14 ?_;clear hS;intro b63 a64 c64 uF w hS;refine gH 4 ?_;clear hS;intro w hS;refine gG 0 ?_;have e9:(DD r).take (i+1)=(DD r).take i++[x]:=by rw[Yo,hx];rfl
  refine rd (i+1,.slice a64 (i+1) c64) ⟨od,?_⟩
  (try dsimp only)
  rw[e9,pN];exact(hS.x [2,2,2])
 refine gG 0 ?_;obtain rfl:i=(DD r).length:=om
 rw[Jm]at hS;refine gD [0] [] [0,1,2,3,4,5,6] ?_;clear hS;intro w hS;refine gH 6 ?_;clear hS;intro w hS;refine gG 1 ?_;have BW:Aa B w J2 (Ar 58 2 (.slice ka (DD r).length kc) (DD r).length (X2 X3 (DD r))::As):=hS.s;clear hS;obtain⟨J,hJ,AJ,hS⟩:=BW.fV 0;try dsimp only[List.eraseIdx]at hS
 have vf:((0:Int)<((DD r).length:Nat)):=om
 refine⟨J,ka,kc,?_,(Bn.trans AE).trans hJ,CV,AJ,hS⟩;rw[decide_eq_true vf,h2]
theorem RS.take{s:Nat}(h:RS I a s n cs)(hm:m<=n):RS I a s m (cs.take (m*s)):=by
 obtain⟨h1,h2⟩:=h;refine⟨by rw[Yl,h1];exact jx (U4 s hm),λh0=>?_⟩;obtain⟨q,hq,hx⟩:=h2 om;exact⟨q,hq,xl hx _⟩
theorem W7(r:Cr):(X2 X3 (DD r)).take (r.Ac.length*2)=X2 X3 r.Ac:=by
 rw[<-Xge]
 have:(X2 X3 r.Ac).length=r.Ac.length*2:=by
  induction r.Ac with
  | nil=>rfl
  | cons h l ih=>rw[List.length_cons,bh,<-ih];show(X3 h++X2 X3 l).length=_;rw[Y0];simp[X3];omega
 rw[<-this,U9]
theorem YA(a:Oa)(n c:Nat):sliced a 0 n c 2=.slice a n c:=by
 unfold sliced;cases a<;>simp[Addr.add]
theorem wY(r:Cr)(h2:r.status=200)(hr:FN r=true)(hv:∀h∈r.Ac,h.1.length<=1000/\h.2.length<=1000)(hZ:Kz I)(As:La)(hS:Aa B w I As):Cz 11 [S (Lh r)] w λv w'=>∃J ra rc,v=.tuple #[.agg #[Ab r.status,.slice ra r.Ac.length rc,S r.body],Ab 0]/\Le I J/\r.Ac.length<=rc/\RS J ra 2 r.Ac.length (X2 X3 r.Ac)/\Aa B w' J As:=by
 refine gH 3 ?_;clear hS;intro b2 w hS;refine gF 0 (Xyv r h2 hr hv hZ) ?_;clear hS;rintro _ w ⟨J,ra,rc,rfl,hJ,Cc,hR,hS⟩;have hlr:=w_ r;have hrf:=(zH hr).2.1;have P_:=RS.take hR (m:=r.Ac.length) om;rw[W7]at P_;refine gH 8 ?_;clear hS;intro b4 w hS;refine gG 0 (.AF (rfl) (gH 6 ?_));refine .val (v:=.slice ra r.Ac.length rc) (.as (.Oy (.of O) (.of O) om om H2 DU) (by rw[hlr,show((((r.Ac.length+1:Nat):Int))-1).toNat=r.Ac.length by omega];exact YA ra r.Ac.length rc)) O ?_;refine gH 3 ?_;clear hS;intro w hS;refine gE 0 (Xja r ra rc (hZ.mono hJ) om P_ (λh hh=>by have:=hv h hh;omega)) ?_;clear hS;intro w hS;rw[show sD r=(Lh r,0) from Y7 hr];refine gM 12 ?_ ?_<;>intro CI II
 ·refine gH 3 ?_;clear hS;intro w hS;refine .nil (.ret ?_)
  first|refine λ_ A5=>Jl (b:=_) (cs:=[_,_,_]) A5 hS (k:=0) O Il Zl O O O ?_|refine λ_ A5=>Jl (b:=_) (cs:=[_,_,_]) A5 hS (k:=1) O Il Zl O O O ?_
  exfalso
  simp at CI
 refine gH 3 ?_;clear hS;intro w hS;exact gG 0 ⟨J,ra,rc,O,hJ,om,P_,hS.s⟩
theorem Xph(r:Cr)(name:Lu)(hn:name.length<=1000)(hl:r.Ac.length<=33)(hv:∀h∈r.Ac,h.1.length<=1000/\h.2.length<=1000)(ra:Oa)(rc:Nat)(hR:RS I ra 2 r.Ac.length (X2 X3 r.Ac))(As:La)(hS:Aa B w I As):Cz 55 [.agg #[Ab r.status,.slice ra r.Ac.length rc,S r.body],S name] w λv w'=>∃J ka kc,v=.slice ka ((r.Ac.filter λh=>FL h.1 name).map (·.2)).length kc/\Le I J/\((r.Ac.filter λh=>FL h.1 name).map (·.2)).length<=kc/\RS J ka 1 ((r.Ac.filter λh=>FL h.1 name).map (·.2)).length (((r.Ac.filter λh=>FL h.1 name).map (·.2)).map S)/\Aa B w' J As:=by
 refine gG 7 ?_;clear hS;intro b2 w hS;replace hS:=hS.An 9 1;refine .lk [1,2,9,10] (σ:=Nat×Va) (λ(i,kv) _m=>(5,kv)::(11,Ab (i:Nat))::_m) (λ(i,kv) w=>i<=r.Ac.length/\Aa B w I (Ar 9 1 kv (((r.Ac.take i).filter λh=>FL h.1 name).map (·.2)).length ((((r.Ac.take i).filter λh=>FL h.1 name).map (·.2)).map S)::Ae b2 [Ab r.status,.slice ra r.Ac.length rc,S r.body] 48::As)) (λ(i,kv)=>r.Ac.length-i) (0,.slice none 0 0) ⟨Y4 _,hS⟩ ?_;rintro⟨i,kv⟩ w ⟨hi,hS⟩;obtain⟨ka,kc,rfl,CV,_⟩:=hS.Av (k:=0) (v:=kv) O;refine gN 1 ?_ ?_<;>intro B_
 ·refine gG 0 ?_;obtain⟨x,hx⟩:∃x,r.Ac[i]?=some x:=⟨_,Y2 om⟩
  have CW:=hv x (Y6 hx);have E6:(((r.Ac.take i).filter λh=>FL h.1 name).map (·.2)).length<=100:=by
   rw[Yh]
   have:=Yw (λh:Pq=>FL h.1 name) (r.Ac.take i)
   rw[Yl]at this;omega
  obtain⟨q,rfl,F7⟩:=AQ (cells:=X3) (s:=2) (λ_=>rfl) hR hx;refine gH 1 ?_;try rw[Y8]
  refine .val (.Cy (us:=[S x.1,S x.2]) (.of O) hS F7 H0 DU O (λ_ _ h=>h)) O (gH 5 ?_);clear hS;intro b7 w hS;refine gE 0 (Xe9 x.1 name om) ?_;clear hS;intro w hS;refine gM 0 ?_ ?_<;>intro DZ Gy
  ·refine gG 8 ?_;clear hS;intro lN a23 c23 dT w hS;have e9:(((r.Ac.take (i+1)).filter λh=>FL h.1 name).map (·.2))=(((r.Ac.take i).filter λh=>FL h.1 name).map (·.2))++[x.2]:=by rw[Yo,hx,Yu,RT,Ym,Ln,Y7 DZ];simp
   refine rd (i+1,.slice a23 ((((r.Ac.take i).filter λh=>FL h.1 name).map (·.2)).length+1) c23) ⟨od,?_⟩
   (try dsimp only)
   rw[e9,Ym,Y0];exact(hS.z [2,2] 2 1)
  refine gG 2 ?_;have e9:(((r.Ac.take (i+1)).filter λh=>FL h.1 name).map (·.2))=(((r.Ac.take i).filter λh=>FL h.1 name).map (·.2)):=by rw[Yo,hx,Yu,RT,Ym,Ln,Y3 (nB DZ)];simp
  refine rd (i+1,.slice ka (((r.Ac.take i).filter λh=>FL h.1 name).map (·.2)).length kc) ⟨od,?_⟩
  (try dsimp only)
  rw[e9];exact(hS.z [2,2] 2 1)
 refine gG 0 ?_;rw[Yg (show r.Ac.length<=i by omega)]at hS CV ⊢;refine gG 2 ?_;have BW:Aa B w I (Ar 9 1 (.slice ka ((r.Ac.filter λh=>FL h.1 name).map (·.2)).length kc) ((r.Ac.filter λh=>FL h.1 name).map (·.2)).length (((r.Ac.filter λh=>FL h.1 name).map (·.2)).map S)::As):=hS.s;clear hS;obtain⟨J,hJ,AJ,hS⟩:=BW.fV 0;try dsimp only[List.eraseIdx]at hS
 exact⟨J,ka,kc,O,hJ,CV,AJ,hS⟩
theorem Xx6(l:List Pq)(la:Oa)(lc:Nat)(h0:0<l.length)(hl:l.length<=100)(hv:∀h∈l,h.1.length<=1000/\h.2.length<=1000)(hR:RS I la 2 l.length (X2 X3 l))(As:La)(hS:Aa B w I As):Ce B I As 47 [.slice la l.length lc] w (S (Go.Lib.join (l.map (λp:Pq=>(p.1++[61])++p.2)) [59,32])):=by
 refine gG 5 ?_;replace hS:=hS.An 9 1;refine .lk [6,7] (σ:=Nat×Va) (λ(i,kv) _m=>(3,kv)::(8,Ab (i:Nat))::_m) (λ(i,kv) w=>i<=l.length/\Aa B w I (Ar 9 1 kv ((l.take i).map (λp:Pq=>(p.1++[61])++p.2)).length (((l.take i).map (λp:Pq=>(p.1++[61])++p.2)).map S)::As)) (λ(i,kv)=>l.length-i) (0,.slice none 0 0) ⟨Y4 _,hS⟩ ?_;rintro⟨i,kv⟩ w ⟨hi,hS⟩;obtain⟨ka,kc,rfl,CV,_⟩:=hS.Av (k:=0) (v:=kv) O;refine gN 1 ?_ ?_<;>intro DV
 ·refine gG 0 ?_;obtain⟨x,hx⟩:∃x,l[i]?=some x:=⟨_,Y2 om⟩
  have CW:=hv x (Y6 hx);have E6:((l.take i).map (λp:Pq=>(p.1++[61])++p.2)).length<=100:=by rw[Yh,Yl];omega
  obtain⟨q,rfl,F7⟩:=AQ (cells:=X3) (s:=2) (λ_=>rfl) hR hx;refine gH 1 ?_;try rw[Y8]
  refine .val (.Cy (us:=[S x.1,S x.2]) (.of O) hS F7 H0 DU O (λ_ _ h=>h)) O (gG 14 ?_);clear hS;intro b5 qM a20 c20 AcB w hS;have e9:((l.take (i+1)).map (λp:Pq=>(p.1++[61])++p.2))=((l.take i).map (λp:Pq=>(p.1++[61])++p.2))++[(λp:Pq=>(p.1++[61])++p.2) x]:=by rw[Yo,hx];simp
  refine E_ (i+1,_) O ⟨od,?_⟩
  (try dsimp only)
  rw[e9,Ym,Y0];exact(hS.z [1] 1 1)
 refine gG 0 ?_;rw[Yg (show l.length<=i by omega)]at hS ⊢;have ER:=Xkx [59,32] 2001 (l.map (λp:Pq=>(p.1++[61])++p.2)) (λx hx=>by
  obtain⟨p,hp,rfl⟩:=Fg.1 hx;have h9:=hv p hp;simp only[Y0,List.length_cons,List.length_nil]
  omega)
 rw[Yh]at ER;have hjm:=U4 (2001+([59,32]:Lu).length) hl;refine gC 1 (Xeh (l.map (λp:Pq=>(p.1++[61])++p.2)) [59,32] (.slice ka (l.map (λp:Pq=>(p.1++[61])++p.2)).length kc) 0 (by rw[Yh];exact h0) (by rw[Yh];omega) (by simp only[List.length_cons,List.length_nil]at hjm ER;omega) _ hS O) ?_;clear hS;rintro _ w ⟨rfl,hS⟩;exact gG 1 ⟨O,hS.s⟩
theorem Xoy(l:List Pq)(la:Oa)(lc:Nat)(h0:0<l.length)(hl:l.length<=100)(hv:∀h∈l,h.1.length<=1000/\h.2.length<=1000)(hd:BJ I)(hR:RS I la 2 l.length (X2 X3 l))(As:La)(hS:Aa B w I As):Ce B I As 46 [.slice la l.length lc] w (S (Go.Lib.join (l.map (λp:Pq=>(AD p.1++[61])++AD p.2)) [38])):=by
 refine gG 5 ?_;replace hS:=hS.An 9 1;refine .lk [6,7] (σ:=Nat×Va) (λ(i,kv) _m=>(3,kv)::(8,Ab (i:Nat))::_m) (λ(i,kv) w=>i<=l.length/\Aa B w I (Ar 9 1 kv ((l.take i).map (λp:Pq=>(AD p.1++[61])++AD p.2)).length (((l.take i).map (λp:Pq=>(AD p.1++[61])++AD p.2)).map S)::As)) (λ(i,kv)=>l.length-i) (0,.slice none 0 0) ⟨Y4 _,hS⟩ ?_;rintro⟨i,kv⟩ w ⟨hi,hS⟩;obtain⟨ka,kc,rfl,CV,_⟩:=hS.Av (k:=0) (v:=kv) O;refine gN 1 ?_ ?_<;>intro DV
 ·refine gG 0 ?_;obtain⟨x,hx⟩:∃x,l[i]?=some x:=⟨_,Y2 om⟩
  have CW:=hv x (Y6 hx);have E6:((l.take i).map (λp:Pq=>(AD p.1++[61])++AD p.2)).length<=100:=by rw[Yh,Yl];omega
  have hen:=YU x.1;have uQ:=YU x.2;obtain⟨q,rfl,F7⟩:=AQ (cells:=X3) (s:=2) (λ_=>rfl) hR hx;refine gH 1 ?_;try rw[Y8]
  refine .val (.Cy (us:=[S x.1,S x.2]) (.of O) hS F7 H0 DU O (λ_ _ h=>h)) O (gG 2 ?_);clear hS;intro b5 w hS;refine gD [0] [] [0,1,2,5,6,3,4,7,8,9,10,11] ?_;clear hS;intro w hS;refine gE 5 (X87 x.1 om hd) ?_;clear hS;intro w hS;refine gE 1 (X87 x.2 om hd) ?_;clear hS;intro w hS;refine gH 2 ?_;clear hS;intro yP w hS;refine gH 1 ?_;clear hS;intro a22 c22 dS w hS;refine gG 3 ?_;have e9:((l.take (i+1)).map (λp:Pq=>(AD p.1++[61])++AD p.2))=((l.take i).map (λp:Pq=>(AD p.1++[61])++AD p.2))++[(λp:Pq=>(AD p.1++[61])++AD p.2) x]:=by rw[Yo,hx];simp
  refine E_ (i+1,_) O ⟨od,?_⟩
  (try dsimp only)
  rw[e9,Ym,Y0];exact(hS.z [1] 1 1)
 refine gG 0 ?_;rw[Yg (show l.length<=i by omega)]at hS ⊢;have ER:=Xkx [38] 6001 (l.map (λp:Pq=>(AD p.1++[61])++AD p.2)) (λx hx=>by
  obtain⟨p,hp,rfl⟩:=Fg.1 hx;have h9:=hv p hp;have h8:=YU p.1;have h7:=YU p.2;simp only[Y0,List.length_cons,List.length_nil]
  omega)
 rw[Yh]at ER;have hjm:=U4 (6001+([38]:Lu).length) hl;refine gC 1 (Xeh (l.map (λp:Pq=>(AD p.1++[61])++AD p.2)) [38] (.slice ka (l.map (λp:Pq=>(AD p.1++[61])++AD p.2)).length kc) 0 (by rw[Yh];exact h0) (by rw[Yh];omega) (by simp only[List.length_cons,List.length_nil]at hjm ER;omega) _ hS O) ?_;clear hS;rintro _ w ⟨rfl,hS⟩;exact gG 1 ⟨O,hS.s⟩
theorem ZR(s p:Lu)(hs:s.length<=1000000)(As:La)(hS:Aa B w I As):Calls prog 133 #[S s,S p] w (A4 λv w'=>v=.bool (Go.Lib.hasSuffix s p)/\Aa B w' I As):=by
 refine(strings_HasSuffix ⟨s.toArray⟩ ⟨p.toArray⟩ w (by show s.length<=_;omega)).mono λe w' he=>?_
 obtain⟨rfl,rfl⟩:=he;exact⟨_,O,O,hS⟩
theorem ZL(s p:Lu){r:Lu}(h:s=p++r)(As:La)(hS:Aa B w I As):Calls prog 26 #[S s,S p] w (A4 λv w'=>v=.tuple #[S r,.bool true]/\Aa B w' I As):=by
 subst h;have h:=Xa2 (p++r) p As hS;rw[UC,Y7 O,Zx]at h;exact h
theorem Xr1(r:Lu)(hr:0<r.length)(As:La)(hS:Aa B w I As):Ce B I As 60 [S (47::r),S [47]] w (.bool true):=by
 refine gE 3 (ZL (47::r) [47] O) ?_;clear hS;intro w hS;refine gH 11 (.tT (T:=λw=>Aa B w I _) O O O func133 O (λAi ZD=>(X5 (.gd2 Ai ZD O) (Be O X4))) O (λAi ZD=>ZR [47] [47] de _ hS) hS ?_);clear hS;rintro w hS;refine gG 8 (⟨?_,hS⟩);simp[show Go.Lib.hasSuffix [47] [47]=true from O]
def Jd(c:Ck)(x:Lu):Ck :=
 if(CA 61 x).1=[80,97,116,104]then{ c with path:=(CA 61 x).2.1 } else
 if(CA 61 x).1=[77,97,120,45,65,103,101]then{ c with JI:=(val (CA 61 x).2.1:Nat) } else
 if(CA 61 x).1=[83,101,99,117,114,101]then{ c with Ct:=true } else
 if(CA 61 x).1=[72,116,116,112,79,110,108,121]then{ c with IU:=true } else c
structure jY(c:Ck)(s:Lu)(x0:Lu)(L:List Lu):Prop where
 set:L6 c=(s,0)
 split:Go.Lib.splitK [59,32] 0 (Go.Lib.count s [59,32]) s=x0::L
 cnt:Go.Lib.count s [59,32]+1=(x0::L).length
 first:(CA 61 x0).1=c.name/\(CA 61 x0).2.1=c.value
 rest:L.foldl Jd ⟨c.name,c.value,[],-1,false,false⟩=c
 AbX:∀x∈L,(CA 61 x).1=[77,97,120,45,65,103,101]->∃k:Nat,k<=1099511627776/\(CA 61 x).2.1=Go.Lib.decDigits k
 len:s.length<=10000
 each:∀x∈x0::L,x.length<=10000
 jD:L.length<=10
 pos:0<L.length
 name:c.name.length<=10000/\c.value.length<=10000/\c.path.length<=10000
theorem Xx7(c:Ck)(s x0:Lu)(L:List Lu)(h:jY c s x0 L)(hZ:Kz I)(As:La)(hS:Aa B w I As):Cz 56 [S s] w λv w'=>∃J,v=.tuple #[.agg (EO c).toArray,Ab 0]/\Le I J/\Aa B w' J As:=by
 refine gH 3 ?_;clear hS;intro b2 w hS;refine gF 0 (Xhz s [59,32] (x0::L) h.split h.cnt de (oh h.len) hZ) ?_;clear hS;rintro _ w ⟨Vm,J,rfl,hJ,hR,hS⟩;refine gH 4 ?_;clear hS;intro b5 w hS;refine gG 0 ?_;obtain⟨q,hq,DW⟩:=AQ (cells:=tC) (s:=1) (λ_=>rfl) (by rw[jd];exact hR) (show(x0::L)[0]?=some x0 from O);cases hq
 have hfw:=h.jD;have Hu:=h.len;refine gE 3 (xi x0 61 (oh (h.each x0 sz)) (hZ.mono hJ)) ?_;clear hS;intro w hS;rw[h.first.1,h.first.2];refine gH 9 ?_;clear hS;intro w hS;refine .val (v:=.slice (some (ad Vm 1)) L.length L.length) (.as (.Ia (.of O) (.of O) de (by show(1:Int)<=((x0::L).length:Nat);rw[List.length_cons];omega) OX Bf) (by rw[List.length_cons];exact Xjk Vm L.length h.pos)) O ?_;refine gG 2 (.lk [0,2,5,27,28] (σ:=Nat) (λi _m=>(29,Ab (i:Nat))::_m) (λi w=>i<=L.length/\Aa B w J (Ae b5 (EO ((L.take i).foldl Jd ⟨c.name,c.value,[],-1,false,false⟩)) 148::Ae b2 [S [],S [],S [],Ab 0,.bool false,.bool false] 148::As)) (λi=>L.length-i) 0 ⟨Y4 _,hS⟩ ?_);rintro i w ⟨hi,hS⟩;refine gN 1 ?_ ?_<;>intro JQ
 ·refine gG 0 ?_;obtain⟨x,hx⟩:∃x,L[i]?=some x:=⟨_,Y2 om⟩
  obtain⟨q,hq,hxb⟩:=AQ (cells:=tC) (s:=1) (λ_=>rfl) (by rw[jd];exact hR) (show(x0::L)[i+1]?=some x by rw[Y39];exact hx);cases hq
  have F7:At J (ad Vm (1+(i:Int).toNat*1)) [S x]:=by
   rw[show 1+(i:Int).toNat*1=0+(i+1)*1 by omega];exact hxb
  refine gE 4 (xi x 61 (oh (h.each x (by simp[Y6 hx]))) (hZ.mono hJ)) ?_;clear hS;intro w hS;refine gM 10 ?_ ?_<;>intro dH Acn
  ·refine gH 5 ?_;clear hS;intro w hS;refine gG 0 ?_;have e9:(L.take (i+1)).foldl Jd ⟨c.name,c.value,[],-1,false,false⟩=Jd ((L.take i).foldl Jd ⟨c.name,c.value,[],-1,false,false⟩) x:=by rw[Yo,hx,Yu,Lm];rfl
   refine rd (i+1) ⟨od,?_⟩;rw[e9,Jd,Y7 (su dH)];exact(hS.x [1,1])
  refine gM 2 ?_ ?_<;>intro NN Aco
  ·refine gF 1 (Xn2 (CA 61 x).2.1 (by have h9:=aM 61 x;have:=h.each x (by simp[Y6 hx]);omega) (hZ.mono hJ).kx) ?_;clear hS;rintro _ w ⟨n9,e9,rfl,hn9,hS⟩;obtain⟨k9,uX,hd9⟩:=h.AbX x (Y6 hx) (su NN);obtain rfl:n9=((val (CA 61 x).2.1:Nat):Int):=by rw[hn9 k9 uX hd9,hd9,(rX k9).1]
   refine gH 7 ?_;clear hS;intro w hS;refine gG 0 ?_;have e9:(L.take (i+1)).foldl Jd ⟨c.name,c.value,[],-1,false,false⟩=Jd ((L.take i).foldl Jd ⟨c.name,c.value,[],-1,false,false⟩) x:=by rw[Yo,hx,Yu,Lm];rfl
   refine rd (i+1) ⟨od,?_⟩;rw[e9,Jd,Y3 (su dH),Y7 (su NN)];exact(hS.x [1,1])
  refine gM 2 ?_ ?_<;>intro LK HL
  ·refine gH 4 ?_;clear hS;intro w hS;refine gG 0 ?_;have e9:(L.take (i+1)).foldl Jd ⟨c.name,c.value,[],-1,false,false⟩=Jd ((L.take i).foldl Jd ⟨c.name,c.value,[],-1,false,false⟩) x:=by rw[Yo,hx,Yu,Lm];rfl
   refine rd (i+1) ⟨od,?_⟩;rw[e9,Jd,Y3 (su dH),Y3 (su NN),Y7 (su LK)];exact(hS.x [1,1])
  refine gM 2 ?_ ?_<;>intro AaB Acq
  ·refine gH 4 ?_;clear hS;intro w hS;refine gG 0 ?_;have e9:(L.take (i+1)).foldl Jd ⟨c.name,c.value,[],-1,false,false⟩=Jd ((L.take i).foldl Jd ⟨c.name,c.value,[],-1,false,false⟩) x:=by rw[Yo,hx,Yu,Lm];rfl
   refine rd (i+1) ⟨od,?_⟩;rw[e9,Jd,Y3 (su dH),Y3 (su NN),Y3 (su LK),Y7 (su AaB)];exact(hS.x [1,1])
  refine gG 2 ?_;have e9:(L.take (i+1)).foldl Jd ⟨c.name,c.value,[],-1,false,false⟩=Jd ((L.take i).foldl Jd ⟨c.name,c.value,[],-1,false,false⟩) x:=by rw[Yo,hx,Yu,Lm];rfl
  refine rd (i+1) ⟨od,?_⟩;rw[e9,Jd,Y3 (su dH),Y3 (su NN),Y3 (su LK),Y3 (su AaB)];exact(hS.x [1,1])
 refine gG 0 ?_;rw[Yg (show L.length<=i by omega),h.rest]at hS;refine gE 1 (Xnd c h.name.1 h.name.2.1 h.name.2.2 (hZ.mono hJ)) ?_;clear hS;intro w hS;rw[h.set];refine gM 12 ?_ ?_<;>intro Ack AhD
 ·refine gH 3 ?_;clear hS;intro w hS;refine .nil (.ret ?_)
  first|refine λ_ A5=>Jl (b:=_) (cs:=[_,_,_,_,_,_]) A5 hS (k:=0) O ML MO O O O ?_|refine λ_ A5=>Jl (b:=_) (cs:=[_,_,_,_,_,_]) A5 hS (k:=1) O ML MO O O O ?_
  exfalso
  simp at Ack
 refine gH 3 ?_;clear hS;intro w hS;exact gG 0 ⟨J,O,hJ,hS.s⟩
theorem Xha(a:Oa)(cap:Nat)(l:List (Ck))(Hu:l.length<=9223372036854775807)(pr:Ck->Bool)(BC:FuncId)(fn:Func)(EJ:prog.funcs[BC]?=some fn)(BZ:Xb fn=true)(AO:Lv)(As:La)(hE:∀w,Aa B w I As->Mj w EO 6 a l)(hf:∀(r:Ck) (hr:r∈l) w,Aa B w I As->Calls prog BC ([Value.agg (EO r).toArray]++AO).toArray w (A4 λv w'=>v=.bool (pr r)/\Aa B w' I As))(hS:Aa B w I As):Ce B I As 220 [.slice a l.length cap,.func (.func BC) #[] AO.toArray] w (Ab (D8 pr l 0)):=by
 refine gG 4 (.lk [0,1,7] (σ:=Nat) (λi _m=>(8,Ab (i:Nat))::_m) (λi w=>i<=l.length/\(∀(j:Nat) t,j<i->l[j]?=some t->pr t=false)/\Aa B w I As) (λi=>l.length-i) 0 ⟨Y4 _,λ_ _ h=>Yy h om,hS⟩ ?_);rintro i w ⟨hi,AL,hS⟩;refine gN 1 ?_ ?_<;>intro DV
 ·refine gG 0 ?_;obtain⟨r,hr⟩:∃r,l[i]?=some r:=⟨_,Y2 om⟩
  obtain⟨p,rfl,hx⟩:=hE w hS i r hr;refine gH 6 (.val (.LY (.of O) hx ML MO O) O (.B0 (cap:=AO) EJ BZ (.of O) (Be O X4) O (hf r (Y6 hr) w hS) ?_));clear hS;rintro _ w ⟨rfl,hS⟩;refine gM 0 ?_ ?_<;>intro B6 C1
  ·exact gG 2 ⟨by rw[pJ AL hr B6],hS⟩
  refine gG 2 (rd (i+1) ⟨od,λj t hj ht=>?_,hS⟩);rcases C5 j i with h1|h1
  ·exact AL j t h1 ht
  ·have e:j=i:=om
   subst e;rw[hr]at ht;cases ht;exact B6
 exact gG 1 ⟨by rw[pG (λj t ht=>AL j t (oh ((Y1.1 ht).1)) ht)],hS⟩
theorem Xhv(a:Oa)(c:Nat)(l:List Ck)(hl:l.length<=100000)(hR:RS I a 6 l.length (X2 EO l))(As:La)(hS:Aa B w I As):Cz 59 [.slice a l.length c] w λv w'=>Aa B w' I (Ar 148 6 v l.length (X2 EO l)::As):=by
 refine gH 2 (.val (Ex.HA (.of O) (.of O) kB) O ?_);refine gM 0 ?_ ?_<;>intro Qe SD
 ·refine gG 1 ?_;cases a with
  | some p=>simp at Qe
  | none =>
  have h0:l=[]:=by
   cases l with
   | nil=>rfl
   | cons x l=>obtain⟨p,h,_⟩:=hR.2 sz;cases h
  subst h0;exact hS.An 148 6
 refine gH 2 ?_;clear hS;intro b5 w hS;replace hS:=hS.Bw (k:=0) (E:=148) (size:=6) (n:=0) O O (Y4 _);try dsimp only[List.set]at hS
 refine .CK (size:=6) (bytes:=64) hS (.of O) (.of O) hR (k:=0) O kB (i:=t148) kr O O O O (zS (λr=>rfl) l) ⟨om,by unfold maxLen;omega⟩ O ?_;clear hS;intro v7 w hS;rw[Yj,Ez]at hS;exact gG 1 (hS)
theorem Xoa(jb:Nat)(a:Oa)(c:Nat)(l:List Ck)(hl:l.length<=20)(hR:RS I a 6 l.length (X2 EO l))(As:La)(hS:Aa B w I (Ae jb [.slice a l.length c] 109::As)):Cz 18 [ptr jb 0] w λv w'=>∃ka kc,v=.slice ka l.length kc/\Aa B w' I (Ae jb [.slice a l.length c] 109::As):=by
 refine gF 5 (Xhv a c l om hR) ?_;clear hS;rintro v7 w hS;obtain⟨ka,kc,rfl,CV,_⟩:=hS.vS 0;exact gG 1 ⟨ka,kc,O,hS.s⟩
def Mm(c:Ck):List Ck:=if c.JI=0 then[]else[c]
theorem tE{l:List Ck}(hS:Aa B w I As)(hk:As[k]?=some (Ar 148 6 (.slice a l.length c) l.length (X2 EO l))):Mj w EO 6 a l:=λj r hj=>by
 have ER:=(Y1.1 hj).1;obtain⟨g,cap,rest,hv,_,_,_,_,Bo⟩:=hS.AP hk om;injection hv with ET HP GQ
 have E6:k<As.length:=(Y1.1 hk).1;have hb:w.heap[g]?=some (Xi (X2 EO l++rest) 148):=Bo.block (k:=k) (by simp[E6,Ae]);refine⟨⟨g,0,none⟩,ET,λi v hi=>?_⟩;rw[Addr.add_add,show(⟨g,0,none⟩:Addr).add (j*6+i)=ad g (0+(j*6+i)) from EE g 0 _,Yj];refine HU hb ?_;have h3:=zQ (cells:=EO) (s:=6) (λ_=>rfl) hj hi;rw[Y9 (Y1.1 h3).1];exact h3
theorem fN(b5:Nat)(c r:Ck)(As:La)(hS:Aa B w I (Ae b5 (EO c) 148::As)):Ce B I (Ae b5 (EO c) 148::As) 132 [.agg (EO r).toArray,ptr b5 0] w (.bool (r.name==c.name&&r.path==c.path)):=by
 refine gG 0 (.Ls (cs:=EO r) hS (.of O) O ?_);clear hS;intro b1 w hS;refine gG 14 (⟨?_,hS.s⟩);cases r.name==c.name<;>rfl
theorem Xed(a:Oa)(c:Nat)(l:List Ck)(hl:l.length<=1)(pr:Ck->Bool)(hp:∀r∈l,pr r=true)(BC:FuncId)(fn:Func)(EJ:prog.funcs[BC]?=some fn)(BZ:Xb fn=true)(AO:Lv)(Q:X1)(As:La)(hf:∀(r:Ck) w (X:La),Aa B w I (Q::X)->Calls prog BC ([Value.agg (EO r).toArray]++AO).toArray w (A4 λv w'=>v=.bool (pr r)/\Aa B w' I (Q::X)))(hS:Aa B w I (Q::Ar 148 6 (.slice a l.length c) l.length (X2 EO l)::As)):Ce B I (Q::Ar 148 6 (.slice a 0 c) 0 ([])::As) 131 [.slice a l.length c,.func (.func BC) #[] AO.toArray] w (.slice a 0 c):=by
 refine gP 3 [] (Xha a c l om pr BC fn EJ BZ AO _ (λw h=>tE h (k:=1) O) (λr _ w h=>hf r w _ h)) ?_;clear hS;rintro _ w ⟨rfl,hS⟩;refine gM 3 ?_ ?_<;>intro Bu B_
 ·refine gG 0 ?_;have h0:l=[]:=by
   cases l with
   | nil=>rfl
   | cons r l=>simp[D8,hp r sz]at Bu
  subst h0;exact gG 2 ⟨O,hS⟩
 refine gG 0 ?_;obtain⟨r,rfl⟩:∃r,l=[r]:=by
  rcases l with _|⟨r,_|⟨s,l⟩⟩
  ·simp[D8]at Bu
  ·exact⟨r,O⟩
  ·simp only[List.length_cons]at hl;omega
 have hi0:D8 pr [r] 0=((0:Nat):Int):=by simp[D8,hp r sz]
 rw[hi0];refine gG 3 (.DT (WI.round ?_));refine gG 4 (.AF (rfl) (gG 0 ?_));replace hS:=hS.px [1];obtain⟨gb,bT,Ty,KM,Qh,HK,NV,LP,hS⟩:=hS.AP (k:=0) O sz;injection KM with ET HP GQ
 subst ET;subst GQ;try dsimp only[List.set]at hS
 refine gH 3 ?_;have e8:sliced (some (ad gb 0)) (((0:Nat):Int)).toNat [r].length c 6=.slice (some (ad gb (0+0*6))) 1 c:=by
  simp[sliced,EE]
 rw[show(⟨gb,0,none⟩:Addr)=ad gb 0 from O,e8];refine WL.clear (s:=6) hS (k:=0) O (.of O) kB aq O de (by rw[Y0];simp[X2,EO]) ?_;clear hS;intro w cs9 uJ uK hS;try dsimp only[List.set]at hS
 refine gG 4 ?_;rw[X9u];refine ?_;rw[show cs9=[]++cs9 from O]at hS;replace hS:=hS.Bm (n:=0) (size:=6) (k:=0) O (Y4 _) HK sz (by rw[List.length_nil,Yj,uJ,Y0];exact LP);try dsimp only[List.set]at hS
 exact⟨O,hS.s⟩
theorem WX(jb:Nat)(a:Oa)(c:Nat)(l:List Ck)(hl:l.length<=1)(k:Ck)(hk:iV k=true)(h1:k.name.length<=100000)(h2:k.value.length<=100000)(h3:k.path.length<=100000)(hp:∀r∈l,(r.name==k.name&&r.path==k.path)=true)(hR:RS I a 6 l.length (X2 EO l))(As:La)(hS:Aa B w I (Ae jb [.slice a l.length c] 109::As)):Cz 57 [ptr jb 0,.agg (EO k).toArray] w λv w'=>∃J a2 c2,v=Ab 0/\Le I J/\RS J a2 6 (Mm k).length (X2 EO (Mm k))/\Aa B w' J (Ae jb [.slice a2 (Mm k).length c2] 109::As):=by
 refine gG 0 (.Ls (cs:=EO k) hS (.of O) O ?_);clear hS;intro b3 w hS;refine gE 2 (Xf2 k h1 h2 h3) ?_;clear hS;intro w hS;rw[hk];refine gG 1 (.AF (rfl) (gF 4 (Xhv a c l om hR) ?_));clear hS;rintro v7 w hS;obtain⟨ka,kc,rfl,CV,_⟩:=hS.vS 0;replace hS:=hS.px [1];refine gP 1 [] (Xed ka kc l hl (λr:Ck=>r.name==k.name&&r.path==k.path) hp 132 _ func132 O [ptr b3 0] (Ae b3 (EO k) 148) _ (λr w X h=>fN b3 k r X h)) ?_;clear hS;rintro _ w ⟨rfl,hS⟩;refine gN 4 ?_ ?_<;>intro Gy
 ·refine gG 8 ?_;clear hS;intro yP a22 c22 dS w hS;refine .AF (rfl) (gG 6 ?_);clear hS;intro w hS;have e9:Mm k=[k]:=Y3 Gy;have BW:Aa B w I (Ar 148 6 (.slice a22 (Mm k).length c22) (Mm k).length (X2 EO (Mm k))::Ae jb [.slice a22 (Mm k).length c22] 109::As):=by
   rw[e9];have h9:=Aa.drop (k:=0) hS O;exact h9
  obtain⟨J,hJ,AJ,hS⟩:=BW.fV 0;try dsimp only[List.eraseIdx]at hS
  rw[e9]at hS;exact⟨J,_,_,O,hJ,AJ,by rw[e9];exact hS⟩
 refine gG 3 (.AF (rfl) (gG 6 ?_));clear hS;intro w hS;have e9:Mm k=[]:=Y7 (su Gy);have BW:Aa B w I (Ar 148 6 (.slice ka (Mm k).length kc) (Mm k).length (X2 EO (Mm k))::Ae jb [.slice ka (Mm k).length kc] 109::As):=by
  rw[e9];have h9:=Aa.drop (k:=0) hS O;exact h9
 obtain⟨J,hJ,AJ,hS⟩:=BW.fV 0;try dsimp only[List.eraseIdx]at hS
 rw[e9]at hS;exact⟨J,_,_,O,hJ,AJ,by rw[e9];exact hS⟩
abbrev xQ(l:List Ck)(sec:Bool):List Pq:=(l.filter λk=>(sec||!k.Ct)).map λk=>((k.name,k.value):Pq)
theorem X6q(jb:Nat)(a:Oa)(c:Nat)(l:List Ck)(hl:l.length<=20)(hp:∀k∈l,k.path=[47])(r:Lu)(hr:0<r.length)(sec:Bool)(hR:RS I a 6 l.length (X2 EO l))(As:La)(hS:Aa B w I (Ae jb [.slice a l.length c] 109::As)):Cz 19 [ptr jb 0,S (47::r),.bool sec] w λv w'=>∃J ka kc,v=.slice ka (xQ l sec).length kc/\Le I J/\RS J ka 2 (xQ l sec).length (X2 X3 (xQ l sec))/\Aa B w' J (Ae jb [.slice a l.length c] 109::As):=by
 refine gG 8 ?_;replace hS:=hS.An 58 2;refine .lk [1,2,13,14] (σ:=Nat×Va) (λ(i,kv) _m=>(7,kv)::(15,Ab (i:Nat))::_m) (λ(i,kv) w=>i<=l.length/\Aa B w I (Ar 58 2 kv (((l.take i).filter λk=>(sec||!k.Ct)).map λk=>((k.name,k.value):Pq)).length (X2 X3 (((l.take i).filter λk=>(sec||!k.Ct)).map λk=>((k.name,k.value):Pq)))::Ae jb [.slice a l.length c] 109::As)) (λ(i,kv)=>l.length-i) (0,.slice none 0 0) ⟨Y4 _,hS⟩ ?_;rintro⟨i,kv⟩ w ⟨hi,hS⟩;obtain⟨ka,kc,rfl,CV,_⟩:=hS.Av (k:=0) (v:=kv) O;refine gN 1 ?_ ?_<;>intro C1
 ·refine gG 0 ?_;obtain⟨x,hx⟩:∃x,l[i]?=some x:=⟨_,Y2 om⟩
  have E6:(((l.take i).filter λk=>(sec||!k.Ct)).map λk=>((k.name,k.value):Pq)).length<=20:=by
   rw[Yh]
   have:=Yw (λk:Ck=>(sec||!k.Ct)) (l.take i)
   rw[Yl]at this;omega
  have SN:=hp x (Y6 hx);obtain⟨xn,xv,xp,xg,xs,xh⟩:=x;obtain rfl:xp=[47]:=SN;obtain⟨q,rfl,F7⟩:=AQ (cells:=EO) (s:=6) (λ_=>rfl) hR hx;refine gH 1 ?_;try rw[Y8]
  refine .val (.Cy (us:=EO ⟨xn,xv,[47],xg,xs,xh⟩) (.of O) hS F7 ML MO O (λ_ _ h=>h)) O (gH 5 ?_);clear hS;intro b9 w hS;refine gE 0 (Xr1 r hr) ?_;clear hS;intro w hS;refine gN 8 ?_ ?_<;>intro JQ
  ·refine gG 11 ?_;clear hS;intro b37 a38 c38 AcG w hS;have e9:(((l.take (i+1)).filter λk=>(sec||!k.Ct)).map λk=>((k.name,k.value):Pq))=(((l.take i).filter λk=>(sec||!k.Ct)).map λk=>((k.name,k.value):Pq))++[(xn,xv)]:=by rw[Yo,hx,Yu,RT,Ym,Ln,Y7 (su JQ)];simp
   refine rd (i+1,.slice a38 ((((l.take i).filter λk=>(sec||!k.Ct)).map λk=>((k.name,k.value):Pq)).length+1) c38) ⟨od,?_⟩
   (try dsimp only)
   rw[e9,Y0,YT];exact(hS.z [2,2] 2 1)
  refine gG 2 ?_;have e9:(((l.take (i+1)).filter λk=>(sec||!k.Ct)).map λk=>((k.name,k.value):Pq))=(((l.take i).filter λk=>(sec||!k.Ct)).map λk=>((k.name,k.value):Pq)):=by rw[Yo,hx,Yu,RT,Ym,Ln,Y3 (su JQ)];simp
  refine rd (i+1,.slice ka (((l.take i).filter λk=>(sec||!k.Ct)).map λk=>((k.name,k.value):Pq)).length kc) ⟨od,?_⟩
  (try dsimp only)
  rw[e9];exact(hS.z [2,2] 2 1)
 refine gG 0 ?_;rw[Yg (show l.length<=i by omega)]at hS CV ⊢;refine gG 2 ?_;have BW:Aa B w I (Ar 58 2 (.slice ka (xQ l sec).length kc) (xQ l sec).length (X2 X3 (xQ l sec))::Ae jb [.slice a l.length c] 109::As):=hS.s;clear hS;obtain⟨J,hJ,AJ,hS⟩:=BW.fV 0;try dsimp only[List.eraseIdx]at hS
 exact⟨J,ka,kc,O,hJ,AJ,hS⟩
theorem Xya(p q:Pr)(w:Wo):(Op.equalIn 10000 58 (.agg (X3 p).toArray) (.agg (X3 q).toArray)).run prog w=.ok (decide (p=q)) w:=by
 have hS:prog.underlying 58=some (.struct (prog.fieldsOf 58)):=by kernel_rfl
 have hp:prog.stoodInHeld 58=false:=by kernel_rfl
 have us:=BV;have as9:=BF;rw[show(10000:Nat)=9999+1 from O,run_equalIn_agg w 9999 58 _ _ hS hp];simp only[Program.fieldsOf,PI]
 obtain⟨a,b⟩:=p;obtain⟨c,d⟩:=q;unfold X3
 go_simp
 repeat' split
 all_goals simp_all
theorem Ex.Abt{d:Option Nat}{g:Option (Nat×Bool)}{x y:Operand}{r s:Pr}(hx:Ev n L x (.agg (X3 r).toArray))(hy:Ev n L y (.agg (X3 s).toArray)):Ex prog n L w ⟨d,.binOp .neq 58 x y t',ty,pos,af,g⟩ (.bool (!decide (r=s))) w :=
 Fa hx hy (λp q=>run_eqGuard_agg w _ _ _ _ _ _ kr) (by rw[run_neq_struct,Xya];rfl)
theorem Xr8(l:List Pq)(a b:Oa)(ca cb:Nat)(hl:l.length<=1000000)(hA:RS I a 2 l.length (X2 X3 l))(hB:RS I b 2 l.length (X2 X3 l))(As:La)(hS:Aa B w I As):Ce B I As 124 [.slice a l.length ca,.slice b l.length cb] w (.bool true):=by
 refine gM 6 ?_ ?_<;>intro CQ DO
 ·refine gH 1 (.nil (.ret ?_));refine λ_ A5=>RN A5 O ?_
  exfalso
  simp at CQ
 refine gG 3 (.lk [0,1,12] (σ:=Nat) (λi _m=>(13,Ab (i:Nat))::_m) (λi w=>i<=l.length/\Aa B w I As) (λi=>l.length-i) 0 ⟨Y4 _,hS⟩ ?_);rintro i w ⟨hi,hS⟩;refine gN 1 ?_ ?_<;>intro Dh
 ·refine gG 2 ?_;obtain⟨x,DW⟩:∃x,l[i]?=some x:=⟨_,Y2 om⟩
  obtain⟨p,F5,hx⟩:=AQ (cells:=X3) (s:=2) (λ_=>rfl) hA DW;obtain⟨p2,hp8,hy⟩:=AQ (cells:=X3) (s:=2) (λ_=>rfl) hB DW;subst F5;subst hp8;refine gQ ?_;clear hS;intro w hS;refine gH 3 (Br.y 3 (λw _ _ A6 hS=>.Cy (us:=[S x.1,S x.2]) (.of O) hS (hx.mono A6) H0 DU O (λ_ _ h=>h)) (gH 3 (Br.y 7 (λw _ _ A6 hS=>.Cy (us:=[S x.1,S x.2]) (.of O) hS (hy.mono A6) H0 DU O (λ_ _ h=>h)) (Br.y 8 (λw _ _ A6 hS=>Ex.Abt (r:=x) (s:=x) (.of O) (.of O)) ?_))));refine gM 0 ?_ ?_<;>intro Fs LL
  ·refine gH 1 (.nil (.ret ?_));refine λ_ A5=>RN A5 O ?_
   exfalso
   simp at Fs
  exact gG 2 (rd (i+1) ⟨od,hS⟩)
 exact gG 1 ⟨O,hS⟩
theorem Xyu(r:HC)(a b:Oa)(ca cb:Nat)(hl:r.Ac.length<=1000000)(hA:RS I a 2 r.Ac.length (X2 X3 r.Ac))(hB:RS I b 2 r.Ac.length (X2 X3 r.Ac))(As:La)(hS:Aa B w I As):Ce B I As 213 [.agg #[S r.Au,S r.target,.slice a r.Ac.length ca,S r.body],.agg #[S r.Au,S r.target,.slice b r.Ac.length cb,S r.body]] w (.bool true):=by
 refine gH 14 ?_;clear hS;intro b2 b3 w hS;refine gH 14 ?_;refine gM 3 ?_ ?_<;>intro DN Ft
 ·refine gH 1 (.nil (.ret ?_));refine λ_ A5=>RN A5 O ?_
  exfalso
  simp at DN
 refine gG 4 ?_;replace hS:=hS.px [1,1];refine .lk [2,3,36,37] (σ:=Nat) (λi _m=>(38,Ab (i:Nat))::_m) (λi w=>i<=r.Ac.length/\Aa B w I (Ae b3 [S r.Au,S r.target,.slice b r.Ac.length cb,S r.body] 118::Ae b2 [S r.Au,S r.target,.slice a r.Ac.length ca,S r.body] 118::As)) (λi=>r.Ac.length-i) 0 ⟨Y4 _,hS⟩ ?_;rintro i w ⟨hi,hS⟩;refine gN 1 ?_ ?_<;>intro FZ
 ·refine gG 0 ?_;obtain⟨x,DW⟩:∃x,r.Ac[i]?=some x:=⟨_,Y2 om⟩
  obtain⟨p,F5,hx⟩:=AQ (cells:=X3) (s:=2) (λ_=>rfl) hA DW;obtain⟨p2,hp8,hy⟩:=AQ (cells:=X3) (s:=2) (λ_=>rfl) hB DW;subst F5;subst hp8;refine gH 2 ?_;try rw[Y8]
  refine .val (.Cy (us:=[S x.1,S x.2]) (.of O) hS hx H0 DU O (λ_ _ h=>h)) O (gG 3 ?_);clear hS;intro b6 w hS;refine .qt hS (.val (λw hS=>(by first|exact(.HQ (cs:=[_,_]) (.of O) hS (k:=0) O H0 DU O)|exact(.GG (vs:=[_,_]) (.of O) hS (k:=0) O H0 DU O (λ_ _ h=>h))|exact(.HQ (cs:=[_,_]) (.of O) hS (k:=1) O H0 DU O)|exact(.GG (vs:=[_,_]) (.of O) hS (k:=1) O H0 DU O (λ_ _ h=>h))|exact(.HQ (cs:=[_,_]) (.of O) hS (k:=2) O H0 DU O)|exact(.GG (vs:=[_,_]) (.of O) hS (k:=2) O H0 DU O (λ_ _ h=>h)))) O ?_);refine .val (λw hS=>(by first|exact .fo 2 O qp O O JE O|exact .fi 2 O qp O O JE O)) O ?_;refine .val (λw hS=>(by first|exact(.lo O hS (k:=0) O Lc O)|exact(.lo O hS (k:=1) O Lc O)|exact(.lo O hS (k:=2) O Lc O))) O ?_;refine .val (λw hS=>(.mo O)) O (.val (λw hS=>(by first|exact .io O O om om H2 DU|exact .ii O O om om H2 DU)) O ?_);try rw[Y8]
  refine .val (λw hS=>.Cy (us:=[S x.1,S x.2]) (.of O) hS hy H0 DU O (λ_ _ h=>h)) O (.val (λw hS=>Ex.Abt (r:=x) (s:=x) (.of O) (.of O)) O (.nil ?_));clear hS;intro w hS;refine gM 0 ?_ ?_<;>intro dJ uq
  ·refine gH 1 (.nil (.ret ?_));refine λ_ A5=>RN A5 O ?_
   exfalso
   simp at dJ
  exact gG 2 (rd (i+1) ⟨od,(hS.z [2,2] 2 1)⟩)
 exact gG 1 ⟨O,hS.s⟩
theorem Xrv(Bi:Lu)(n:Nat):∀(l:List Pq) (s:Lu),(∀h∈l,h.1.length+h.2.length<=n)->(l.foldl (Oo Bi) s).length<=s.length+l.length*(n+Bi.length+3)
 | [],s,_=>by simp
 | h::l,s,hl=>by
  have h1:=Xrv Bi n l (Oo Bi s h) (λx hx=>hl x (by simp[hx]));have h2:=hl h sz;have h3:(Oo Bi s h).length=s.length+(h.1.length+Bi.length+h.2.length+3):=by unfold Oo CR;simp;omega
  rw[Ky,List.length_cons,bh];omega
theorem Xgi(r:HC)(Bi:Lu)(hg:Bi.length<=1)(a:Oa)(ca:Nat)(hv:r.Au.length<=10/\r.target.length<=1000/\r.body.length<=1000/\∀h∈r.Ac,h.1.length<=1000/\h.2.length<=1000)(hl:r.Ac.length<=32)(hA:RS I a 2 r.Ac.length (X2 X3 r.Ac))(As:La)(hS:Aa B w I As):Ce B I As 119 [.agg #[S r.Au,S r.target,.slice a r.Ac.length ca,S r.body],S Bi] w (S (iY r Bi)):=by
 refine gH 14 ?_;clear hS;intro b2 w hS;refine gG 1 (.lk [1,2,17,18] (σ:=Nat) (λi _m=>(5,S ((r.Ac.take i).foldl (Oo Bi) (Kb r)))::(19,Ab (i:Nat))::_m) (λi w=>i<=r.Ac.length/\Aa B w I (Ae b2 [S r.Au,S r.target,.slice a r.Ac.length ca,S r.body] 118::As)) (λi=>r.Ac.length-i) 0 ⟨Y4 _,hS⟩ ?_);rintro i w ⟨hi,hS⟩;refine gN 1 ?_ ?_<;>intro FX
 ·refine gG 0 ?_;obtain⟨x,hx⟩:∃x,r.Ac[i]?=some x:=⟨_,Y2 om⟩
  have CW:=hv.2.2.2 x (Y6 hx);obtain⟨q,rfl,F7⟩:=AQ (cells:=X3) (s:=2) (λ_=>rfl) hA hx;have jN:=Xrv Bi 2000 (r.Ac.take i) (Kb r) (λh hh=>by have:=hv.2.2.2 h (sX hh);omega);have hqm:(r.Ac.take i).length*(2000+Bi.length+3)<=32*2005:=Y5g (by rw[Yl];omega) om;have hqt:(Kb r).length<=1100:=by unfold Kb CR Ns;simp only[Y0,List.length_cons,List.length_nil];omega
  refine gH 1 ?_;try rw[Y8]
  refine .val (.Cy (us:=[S x.1,S x.2]) (.of O) hS F7 H0 DU O (λ_ _ h=>h)) O (gG 14 ?_);clear hS;intro b7 w hS;refine gG 2 (⟨i+1,⟨?_,O,O,O,O,O,trivial⟩,⟨od,(hS.z [1] 1 1)⟩,od⟩);rw[Yo,hx,Yu,Lm];rfl
 refine gG 0 ?_;have jN:=Xrv Bi 2000 (r.Ac.take i) (Kb r) (λh hh=>by have:=hv.2.2.2 h (sX hh);omega);have hqm:(r.Ac.take i).length*(2000+Bi.length+3)<=32*2005:=Y5g (by rw[Yl];omega) om;have hqt:(Kb r).length<=1100:=by unfold Kb CR Ns;simp only[Y0,List.length_cons,List.length_nil];omega
 refine gG 6 (⟨?_,hS.s⟩);rw[Yg (show r.Ac.length<=i by omega)];first|done|rfl
theorem Xsm(r:HC)(h0:UT r [])(h1:UT r [32])(a:Oa)(ca:Nat)(hv:r.Au.length<=10/\r.target.length<=1000/\r.body.length<=1000/\∀h∈r.Ac,h.1.length<=1000/\h.2.length<=1000)(hl:r.Ac.length<=32)(hZ:Kz I)(hA:RS I a 2 r.Ac.length (X2 X3 r.Ac))(As:La)(hS:Aa B w I As):Cz 118 [.agg #[S r.Au,S r.target,.slice a r.Ac.length ca,S r.body]] w λv w'=>∃J,v=.bool true/\Le I J/\Aa B w' J As:=by
 refine gH 3 ?_;clear hS;intro b1 w hS;refine gE 0 (Xgi r [] (Y4 _) a ca hv hl hA) ?_;clear hS;intro w hS;refine gF 0 (Xem (iY r []) (oh h0.short) hZ) ?_;clear hS;rintro _ w ⟨J,rb,cb,KM,hJ,hcb,IE,hS⟩;rw[wV h0]at KM IE;subst KM;refine gH 11 ?_;clear hS;intro b3 w hS;refine .AG (T:=λw=>Aa B w J _) O O O func213 O (λAi=>(X5 (.gd Ai O) (X5 (.gd Ai O) X4))) O (λAi=>Xyu r rb a cb ca om IE (hA.mono hJ) _ hS) hS ?_;clear hS;rintro w hS;exact gG 2 ⟨J,O,hJ,hS.s⟩
theorem Xsp(r:HC)(h0:UT r [])(h1:UT r [32])(a:Oa)(ca:Nat)(hv:r.Au.length<=10/\r.target.length<=1000/\r.body.length<=1000/\∀h∈r.Ac,h.1.length<=1000/\h.2.length<=1000)(hl:r.Ac.length<=32)(hZ:Kz I)(hA:RS I a 2 r.Ac.length (X2 X3 r.Ac))(As:La)(hS:Aa B w I As):Cz 49 [.agg #[S r.Au,S r.target,.slice a r.Ac.length ca,S r.body]] w λv w'=>∃J,v=.tuple #[S (UZ r),Ab 0]/\Le I J/\Aa B w' J As:=by
 refine gH 4 ?_;clear hS;intro b1 w hS;refine gF 0 (Xsm r h0 h1 a ca hv hl hZ hA) ?_;clear hS;rintro _ w ⟨J,rfl,hJ,hS⟩;refine gG 1 (.AF (rfl) (gE 1 (Xgi r [32] (Yd _) a ca hv hl (hA.mono hJ)) ?_));clear hS;intro w hS;refine gN 4 ?_ ?_<;>intro B_
 ·refine gH 2 (.nil (.ret ?_));refine λ_ A5=>fX A5 O O ?_
  exfalso
  have:=h1.short
  omega
 exact gG 3 ⟨J,O,hJ,hS.s⟩
open FI
def Jh:Nd->List (List UInt8)->Option Nd
 | n,[]=>some n
 | n,p::r=>match SV n p with
  | none=>none
  | some k=>Jh k r
theorem Cb.text:∀{d:Nat} {t1 t2:Lu} {c1 c2:Oa} {k1 l1 k2 l2:Nat} {n:Nd},Cb d I [S t1,.slice c1 k1 l1,S t2,.slice c2 k2 l2] n->t2=n.text
 | 0,_,_,_,_,_,_,_,_,_,h=>h.elim
 | d+1,_,_,_,_,_,_,_,_,n,h=>by
  obtain⟨h1,h2,h3,h4,h5,aa,ca,ka,ck,xs,h6,_⟩:=h;injection h6 with h6 h7;injection h7 with h7 h8;injection h8 with h8 h9;simpa using h8
theorem X8u(n:Nd)(ps:List Lu)(E7:ps.length<=3)(pa:Oa)(pc:Nat)(s1:Lu)(a1:Oa)(n1 m1:Nat)(s2:Lu)(a2:Oa)(n2 m2:Nat)(hN:Cb 8 I [S s1,.slice a1 n1 m1,S s2,.slice a2 n2 m2] n)(hP:RS I pa 1 ps.length (ps.map S))(As:La)(hS:Aa B w I As):Cz 51 [.agg ([S s1,.slice a1 n1 m1,S s2,.slice a2 n2 m2]:Lv).toArray,.slice pa ps.length pc] w λv w'=>∃cs ok,v=.tuple #[.agg (List.toArray cs),.bool ok]/\Cb (8-ps.length) I cs ((Jh n ps).getD fp)/\ok=(Jh n ps).isSome/\(Jh n ps=none->cs=[S [],.slice none 0 0,S [],.slice none 0 0])/\Aa B w' I As:=by
 refine gH 6 ?_;clear hS;intro b2 b4 w hS;refine gG 0 ?_;have Bh:=hS;clear hS;refine .lk [2,4,9,10] (σ:=Nat×Nd×iQ) (λ(i,nd,s1,a1,n1,m1,s2,a2,n2,m2) _m=>(11,Ab (i:Nat))::_m) (λ(i,nd,s1,a1,n1,m1,s2,a2,n2,m2) w=>i<=ps.length/\Jh n ps=Jh nd (ps.drop i)/\Cb (8-i) I [S s1,.slice a1 n1 m1,S s2,.slice a2 n2 m2] nd/\Aa B w I (Ae b4 [S [],.slice none 0 0,S [],.slice none 0 0] 138::Ae b2 [S s1,.slice a1 n1 m1,S s2,.slice a2 n2 m2] 138::As)) (λ(i,nd,s1,a1,n1,m1,s2,a2,n2,m2)=>ps.length-i) (0,n,s1,a1,n1,m1,s2,a2,n2,m2) ⟨Y4 _,O,hN,Bh⟩ ?_;rintro⟨i,nd,s1,a1,n1,m1,s2,a2,n2,m2⟩ w ⟨hi,hfp,yV,hS⟩;clear Bh;refine gN 1 ?_ ?_<;>intro B_
 ·refine gG 0 ?_;obtain⟨p,hp⟩:∃p,ps[i]?=some p:=⟨_,Y2 om⟩
  obtain⟨q0,rfl,hpa⟩:=AQ (cells:=tC) (s:=1) (λ_=>rfl) (by rw[jd];exact hP) hp;have hdp:ps.drop i=p::ps.drop (i+1):=by rw[Yp (Y1.1 hp).1,(Y1.1 hp).2]
  refine gH 1 ?_;try rw[Y8]
  refine .val (.Ca (.of O) hS hpa BF O) O (gH 2 ?_);clear hS;intro b7 w hS;refine gG 0 ?_;obtain⟨d,hd⟩:∃d,8-i=d+1:=⟨7-i,om⟩
  rw[hd]at yV;obtain⟨hnl,WJ,Gg,Cw,SC,aa,ca,ka,ck,xs,G_,HM,qS,KF,JL,CW,WK,jF⟩:=yV;obtain⟨ys,rfl⟩:=bW CW jF;have zl:ys.length=nd.kids.length:=su CW
  injection G_ with e1 G_;injection G_ with e2 G_;injection G_ with e3 G_;injection G_ with e4 G_
  injection e1 with e1;injection e3 with e3;injection e2 with e2 e2b e2c;injection e4 with e4 e4b e4c
  rw[<-zl]at e4b JL;subst e4;subst e4b;subst e4c;have SM:∀(i:Nat) y k,ys[i]?=some y->nd.kids[i]?=some k->y.1=k.name:=λi y k hy hk=>Cb.name (jF i _ k (by rw[Ys,hy];rfl) hk)
  refine gP 3 [] (Xhb a2 m2 ys om (λr=>r.1==p) 123 _ func123 O [ptr b7 0] _ (λw h=>aP (cells:=lU) (s:=4) (λ_=>rfl) h (by exact JL)) (λr hr w h=>Xrb r p b7 _ h)) ?_;clear hS;rintro _ w ⟨rfl,hS⟩;have hfi:=Xnp (λr:iQ=>r.1==p) ys 0;generalize D8 (λr:iQ=>r.1==p) ys 0=ix at hfi;refine gN 3 ?_ ?_<;>intro FX
  ·refine gH 3 ?_;clear hS;intro w hS;refine gG 0 ?_;have hkn:SV nd p=none:=by
    unfold SV;rw[List.find?_eq_none];intro k hk;obtain⟨i,hi⟩:=O3.1 hk;obtain⟨y,hy⟩:∃y,ys[i]?=some y:=⟨_,Y2 (oh ((Y1.1 hi).1))⟩
    rcases hfi with⟨_,h⟩|⟨j,y2,h1,_⟩
    ·have:=h y (Y6 hy)
     rw[SM i y k hy hi]at this;simpa using this
    ·rw[h1]at FX;omega
   have he:Jh n ps=none:=by rw[hfp,hdp,Jh,hkn]
   obtain⟨z,hz⟩:∃z,8-ps.length=z+1:=⟨7-ps.length,om⟩
   refine⟨[S [],.slice none 0 0,S [],.slice none 0 0],false,O,?_,by rw[he];first|done|rfl,λ_=>rfl,hS.s⟩;rw[he,hz];exact rG I z
  refine gG 0 ?_;obtain⟨j,y,hj,hyj,hpy,Ac3⟩:∃j y,ix=((j:Nat):Int)/\ys[j]?=some y/\(y.1==p)=true/\∀(i:Nat) y,i<j->ys[i]?=some y->(y.1==p)=false:=by
   rcases hfi with⟨h,_⟩|⟨j,y,h1,h2,h3,h4⟩
   ·rw[h]at FX;omega
   ·exact⟨j,y,su h1,h2,h3,h4⟩
  subst hj;have ER:=(Y1.1 hyj).1;obtain⟨k,hk⟩:∃k,nd.kids[j]?=some k:=⟨_,Y2 om⟩
  obtain⟨q,WG,hx⟩:=Xoe JL (by rw[Yh]) WK (i:=j) (x:=lU y) (by rw[Ys,hyj];rfl);have dv:=jF j (lU y) k (by rw[Ys,hyj];rfl) hk;have hkd:SV nd p=some k:=Xnn hk (by rw[<-SM j y k hyj hk];exact hpy) (λi k2 hi JW=>by
   obtain⟨y2,hy2⟩:∃y,ys[i]?=some y:=⟨_,Y2 om⟩
   rw[<-SM i y2 k2 hy2 JW];exact Ac3 i y2 hi hy2)
  obtain⟨s3,a3,n3,m3,s4,a4,n4,m4⟩:=y;unfold lU at hx dv;dsimp only at hx dv
  subst WG;refine gH 4 ?_;try rw[Y8]
  refine .val (.Cy (us:=[S s3,.slice a3 n3 m3,S s4,.slice a4 n4 m4]) (.of O) hS hx Je Gb O (λ_ _ h=>h)) O (gH 3 ?_);clear hS;intro w hS;refine gG 0 ?_;have hd9:8-(i+1)=d:=by rw[Nat.sub_add_eq,hd];rfl
  exact rd (i+1,k,s3,a3,n3,m3,s4,a4,n4,m4) ⟨od,by rw[hfp,hdp,Jh,hkd],by(try dsimp only);rw[hd9];exact dv,(hS.z [2,2] 2 1)⟩
 refine gH 3 ?_;clear hS;intro w hS;refine gG 0 ?_;have hie:i=ps.length:=om
 have he:Jh n ps=some nd:=by rw[hfp,Yk om,Jh]
 refine⟨_,true,O,?_,by rw[he];first|done|rfl,λh=>(by rw[he]at h;cases h),hS.s⟩;rw[he,<-hie];exact yV
theorem Xym(n:Nd)(ps:List Lu)(E7:ps.length<=3)(pa:Oa)(pc:Nat)(s1:Lu)(a1:Oa)(n1 m1:Nat)(s2:Lu)(a2:Oa)(n2 m2:Nat)(hN:Cb 8 I [S s1,.slice a1 n1 m1,S s2,.slice a2 n2 m2] n)(hP:RS I pa 1 ps.length (ps.map S))(As:La)(hS:Aa B w I As):Ce B I As 52 [.agg ([S s1,.slice a1 n1 m1,S s2,.slice a2 n2 m2]:Lv).toArray,.slice pa ps.length pc] w (S ((Jh n ps).getD fp).text):=by
 refine gH 4 ?_;clear hS;intro b2 w hS;refine gF 0 (X8u n ps E7 pa pc s1 a1 n1 m1 s2 a2 n2 m2 hN hP) ?_;clear hS;rintro _ w ⟨cs,ok,rfl,du,_,_,hS⟩;obtain⟨t1,c1,k1,l1,t2,c2,k2,l2,rfl⟩:=du.cells;have htx:t2=((Jh n ps).getD fp).text:=Cb.text du;refine gG 9 ?_;clear hS;intro b5 w hS;subst htx;exact⟨O,hS.s⟩
theorem Xp6(r:Cr)(hb:r.body≠[])(a b:Oa)(ca cb:Nat)(hl:r.Ac.length<=1000000)(hA:RS I a 2 r.Ac.length (X2 X3 r.Ac))(hB:RS I b 2 r.Ac.length (X2 X3 r.Ac))(As:La)(hS:Aa B w I As):Ce B I As 53 [.agg #[Ab r.status,.slice a r.Ac.length ca,S r.body],.agg #[Ab r.status,.slice b r.Ac.length cb,S r.body]] w (.bool true):=by
 refine gH 14 ?_;clear hS;intro b2 b3 w hS;refine gH 11 (.AG (T:=λw=>Aa B w I _) O O O func124 O (λAi=>(X5 (.gd Ai O) (X5 (.gd Ai O) X4))) O (λAi=>Xr8 r.Ac a b ca cb hl hA hB _ hS) hS ?_);clear hS;rintro w hS;refine gG 2 (⟨?_,hS.s⟩);simp[hb]
theorem Xuf{x:Lv}{vl:Lu}(h:Cb (d+1) I x (IV nm vl)):∃p c ka kc,x=[S Nl,.slice (some p) 2 c,S [],.slice ka 0 kc]/\At I p [S Zg,S nm,S Rz,S vl]/\2<=c:=by
 obtain⟨_,_,_,_,_,aa,ca,ka,ck,xs,rfl,HM,qS,KF,JL,CW,WK,jF⟩:=h;obtain⟨p,rfl,hp⟩:=KF.2 (by show 0<2;omega);exact⟨p,ca,ka,ck,O,hp,HM⟩
theorem Xre{lt:Lu}(h:Cb (d+2) I cs (JB lt [])):∃a1 c1 q c2 p0 c0 b0 d0 p1 e1 b1 d1,cs=[S Ze,.slice a1 2 c1,S [],.slice (some q) 4 c2]/\At I (q.add 0) [S Nl,.slice (some p0) 2 c0,S [],.slice b0 0 d0]/\At I (q.add 4) [S Nl,.slice (some p1) 2 e1,S [],.slice b1 0 d1]/\At I p0 [S Zg,S BI,S Rz,S lt]/\At I p1 [S Zg,S X7,S Rz,S []]/\4<=c2/\2<=c0/\2<=e1:=by
 obtain⟨_,_,_,_,_,a1,c1,k2,m2,ys,rfl,AhK,AcT,Ahw,Aat,zl,hy4,Aas⟩:=h;obtain⟨y0,jQ⟩:∃y,ys[0]?=some y:=⟨_,Y2 (by rw[zl];show 0<4;omega)⟩
 obtain⟨y1,zk⟩:∃y,ys[1]?=some y:=⟨_,Y2 (by rw[zl];show 1<4;omega)⟩
 obtain⟨q,rfl,hq0⟩:=Xoe Aat zl hy4 jQ;obtain⟨q',hqq,Hv⟩:=Xoe Aat zl hy4 zk;cases hqq
 obtain⟨p0,c0,b0,d0,rfl,WA,mJ⟩:=Xuf (Aas 0 y0 _ jQ O);obtain⟨p1,e1,b1,d1,rfl,HN,he1⟩:=Xuf (Aas 1 y1 _ zk O);exact⟨a1,c1,q,m2,p0,c0,b0,d0,p1,e1,b1,d1,O,hq0,Hv,WA,HN,AcT,mJ,he1⟩
theorem fx{kind:Lu}(h:Cb (d+1) I cs (Dn DF u [(OM,kind)])):∃p c ka kc,cs=[S DF,.slice (some p) 1 c,S u,.slice ka 0 kc]/\At I p [S OM,S kind]/\1<=c:=by
 obtain⟨_,_,_,_,_,aa,ca,ka,ck,xs,rfl,HM,qS,KF,JL,CW,WK,jF⟩:=h;obtain⟨p,rfl,hp⟩:=KF.2 (by show 0<1;omega);exact⟨p,ca,ka,ck,O,hp,HM⟩
section
variable {P:Program} {n:Nat} {fn:Func} {R:Ending->Wo->Prop} {L:AK} {w:Wo}
theorem Ag6{t u r q:Nat}{x y z:Va}(h:fn.results=#[.tmp t,.tmp u,.tmp r,.tmp q])(hv:Gk.look L t=some v)(hx:Gk.look L u=some x)(hy:Gk.look L r=some y)(hz:Gk.look L q=some z)(hR:R (.returned (.tuple #[v,x,y,z])) w)(hd:dl L=[]:=by rfl):UG P n fn R .ret L w :=
 ⟨hd,λa ha=>⟨_,by have h1:=ha.get t v hv;have h2:=ha.get u x hx;have h3:=ha.get r y hy;have h4:=ha.get q z hz;simp only[Lk]at h1 h2 h3 h4;simp[results,h,h1,h2,h3,h4],hR⟩⟩
end
end Go.Proofs.W9
