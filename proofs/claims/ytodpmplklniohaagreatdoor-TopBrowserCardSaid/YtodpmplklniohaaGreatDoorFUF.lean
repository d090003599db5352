/- Part 6 of what the proof stands on. -/
import Derived.Test.YtodpmplklniohaaGreatDoorFUE
import Derived.Test.YtodpmplklniohaaGreatDoorRows
import Derived.Test.YtodpmplklniohaaGreatDoorCards
import Derived.Test.YtodpmplklniohaaGreatDoorChecked
import Derived.LaidByTextLater
set_option linter.unusedVariables false
set_option linter.unusedSimpArgs false
set_option maxHeartbeats 2000000
set_option maxRecDepth 20000
set_option synthInstance.maxHeartbeats 400000
set_option synthInstance.maxSize 10000
open Go Gk
variable {p:Addr}{Ad:Array Bool}{af:Array Edge}{fs:Array Field}{ops GJ:Array Oper}{ts:Array TypeId}{held want:Bool}{R:Ending->Wo->Prop}{L L' M:AK}{fd:Field}{fn:Func}{f:FuncId}{I J:Im}{Fx FA kind FH:Int}{As BT Hs:La}{G:List (Bool×Bool)}{pl:List (Nat×Nat)}{T:List Int}{D ks:List Nat}{rest:List Oper}{V:List D7}{Ay Bi key nm pw Ap u:Lu}{args cs ds news vs xs zs:Lv}{b bytes c cap d d0 d1 db fuel i k kb lg m n n0 nn o size:Nat}{nd sp:Nat->Bool}{ps:Nat->Int}{a a0 ka:Oa}{op:Op}{P:Program}{S1 S2 g1 g2:Prop}{pos:String}{H X α β σ:Type}{E dst src t' ty:TypeId}{us v v0:Va}{B w:Wo}{C:Wo->Prop}{A:X1}{K K':BK}
namespace Go.Proofs.W9
open Gk Ul Pc Tk Tr Xm Rq Go Tryz FI
theorem X8m(lt wr:Lu)(h1:lt.length<=5000)(h3:wr.length<=5000)(n9:Nd)(l:Int)(hF:Cq 8 200 n9=some l)(NR:(CG 8 n9).length<=10000)(hb:(CD lt [] wr).body=CG 8 n9)(A8:(CD lt [] wr).body≠[])(eh:Jh n9 [HX,Ze]=some (JB lt []))(ek:((Jh n9 [HX,DF]).getD fp).text=wr)(hl:(CD lt [] wr).Ac.length<=100)(ra:Oa)(rc:Nat)(hZ:Kz I)(hA:RS I ra 2 (CD lt [] wr).Ac.length (X2 X3 (CD lt [] wr).Ac))(As:La)(hS:Aa B w I As):Cz 14 [.agg #[Ab (CD lt [] wr).status,.slice ra (CD lt [] wr).Ac.length rc,S (CD lt [] wr).body]] w λv w'=>∃J,v=.tuple #[S lt,S [],S wr,.bool true]/\Le I J/\Aa B w' J As:=by
 refine gH 7 ?_;clear hS;intro b1 w hS;refine gF 0 (Xh5 (CD lt [] wr).body (by rw[hb];exact NR) hZ.kx) ?_;clear hS;rintro _ w ⟨J1,s1,a1,n1,m1,s2,a2,n2,m2,e9,nd,rfl,Bn,yU,jG,hS⟩;obtain rfl:nd=n9:=by
  rcases jG with⟨h,_⟩|⟨h,_⟩
  ·rw[hb,xe hF]at h;cases h
  ·rw[hb,xe hF]at h;cases h;rfl
 refine gH 8 ?_;clear hS;intro b6 yP w hS;have DL:=hS.Bw (size:=1) (n:=2) (k:=0) O O (by unfold maxLen;omega);clear hS;obtain⟨J2,AE,Mx,hS⟩:=DL.fV 0;clear DL;try dsimp only[List.eraseIdx,List.set]at hS
 refine gF 0 (X8u nd [HX,Ze] de (some (ad yP 0)) 2 s1 a1 n1 m1 s2 a2 n2 m2 (yU.mono AE) Mx) ?_;clear hS;rintro _ w ⟨cs,ok,rfl,du,_,_,hS⟩;rw[eh]at du;obtain⟨e1,c1,q,c2,p0,d0,k0,d9,p1,f1,k1,d1,rfl,DW,KN,jQ,zk,h4c,h2c,h2f⟩:=Xre (d:=4) du;replace DW:At J2 (q.add ((0:Int).toNat*4)) [S Nl,.slice (some p0) 2 d0,S [],.slice k0 0 d9]:=DW;replace KN:At J2 (q.add ((1:Int).toNat*4)) [S Nl,.slice (some p1) 2 f1,S [],.slice k1 0 d1]:=KN;have eK:At J2 (p0.add ((1:Int).toNat*2)) [S Rz,S lt]:=jQ.add 2;have eL:At J2 (p1.add ((1:Int).toNat*2)) [S Rz,S []]:=zk.add 2;refine gH 8 ?_;clear hS;intro b8 b26 w hS;have DL:=hS.Bw (size:=1) (n:=2) (k:=0) O O (by unfold maxLen;omega);clear hS;obtain⟨J3,BN,hR3,hS⟩:=DL.fV 0;clear DL;try dsimp only[List.eraseIdx,List.set]at hS
 refine gE 0 (Xym nd [HX,DF] de (some (ad b26 0)) 2 s1 a1 n1 m1 s2 a2 n2 m2 ((yU.mono AE).mono BN) hR3) ?_;clear hS;intro w hS;rw[ek];refine gG 1 ?_;replace DW:=DW.mono BN;replace KN:=KN.mono BN;replace eK:=eK.mono BN;replace eL:=eL.mono BN;refine gH 14 (gG 8 (.AF (rfl) (gG 0 (.qt hS (.val (λw hS=>(by first|exact .fo 3 O GX O O x7 O|exact .fi 3 O GX O O x7 O)) O ?_)))));refine .val (λw hS=>(by first|exact(.lo O hS (k:=0) O PE O)|exact(.lo O hS (k:=1) O PE O)|exact(.lo O hS (k:=2) O PE O)|exact(.Ca (.of O) hS (At.add eK _) PE O)|exact(.Ca (.of O) hS (At.add eL _) PE O)|exact(.Ca (.of O) hS (At.add DW _) PE O)|exact(.Ca (.of O) hS (At.add KN _) PE O))) O ?_;refine .val (λw hS=>(by first|exact .io O O om om MS Gb|exact .ii O O om om MS Gb)) O ?_;refine .val (λw hS=>(by first|exact .fo 1 O GX O O JE O|exact .fi 1 O GX O O JE O)) O ?_;refine .val (v:=.slice (some p0) 2 d0) (λw hS=>.Ca (.of O) hS (DW.add 1) Lc O) O (.val (λw hS=>(by first|exact .io O O om om H2 DU|exact .ii O O om om H2 DU)) O ?_);refine .val (λw hS=>(by first|exact .fo 1 O PI O O Bf O|exact .fi 1 O PI O O Bf O)) O ?_;refine .val (v:=S lt) (λw hS=>.Ca (.of O) hS (eK.add 1) BF O) O (.val (λw hS=>(by first|exact .fo 3 O GX O O x7 O|exact .fi 3 O GX O O x7 O)) O ?_);refine .val (λw hS=>(by first|exact(.lo O hS (k:=0) O PE O)|exact(.lo O hS (k:=1) O PE O)|exact(.lo O hS (k:=2) O PE O)|exact(.Ca (.of O) hS (At.add eK _) PE O)|exact(.Ca (.of O) hS (At.add eL _) PE O)|exact(.Ca (.of O) hS (At.add DW _) PE O)|exact(.Ca (.of O) hS (At.add KN _) PE O))) O ?_;refine .val (λw hS=>(by first|exact .io O O om om MS Gb|exact .ii O O om om MS Gb)) O ?_;refine .val (λw hS=>(by first|exact .fo 1 O GX O O JE O|exact .fi 1 O GX O O JE O)) O ?_;refine .val (v:=.slice (some p1) 2 f1) (λw hS=>.Ca (.of O) hS (KN.add 1) Lc O) O (.val (λw hS=>(by first|exact .io O O om om H2 DU|exact .ii O O om om H2 DU)) O ?_);refine .val (λw hS=>(by first|exact .fo 1 O PI O O Bf O|exact .fi 1 O PI O O Bf O)) O ?_;refine .val (v:=S []) (λw hS=>.Ca (.of O) hS (eL.add 1) BF O) O (.val (λw hS=>(.ao O)) O (.val (λw hS=>(.ao O)) O (.nil ?_)));clear hS;intro w hS;refine gG 0 (gD [2] [] [0,1,2,3,4,5,6] ?_);clear hS;intro w hS;refine gF 4 (Xp3 lt [] wr h1 (Y4 _) h3 (((hZ.mono Bn).mono AE).mono BN)) ?_;clear hS;rintro _ w ⟨J4,rb,rd,rfl,EA,hrd,IE,hS⟩;refine gE 0 (Xp6 (CD lt [] wr) A8 ra rb rc rd om ((((hA.mono Bn).mono AE).mono BN).mono EA) IE) ?_;clear hS;intro w hS;refine gG 1 (.AF (rfl) (gH 7 (.nil (.ret ?_))));refine λ_ A5=>Ag6 A5 O O O O ?_
 exact⟨_,O,J4,O,((Bn.trans AE).trans BN).trans EA,(hS.y 0 3)⟩
theorem Xjb(kind u:Lu)(h1:kind.length<=100)(h3:u.length<=10000)(n9:Nd)(l:Int)(hF:Cq 8 200 n9=some l)(NR:(CG 8 n9).length<=10000)(hb:(CE kind u).body=CG 8 n9)(A8:(CE kind u).body≠[])(eh:Jh n9 [HX,DF]=some (Dn DF u [(OM,kind)]))(hl:(CE kind u).Ac.length<=100)(ra:Oa)(rc:Nat)(hZ:Kz I)(hA:RS I ra 2 (CE kind u).Ac.length (X2 X3 (CE kind u).Ac))(As:La)(hS:Aa B w I As):Cz 16 [.agg #[Ab (CE kind u).status,.slice ra (CE kind u).Ac.length rc,S (CE kind u).body]] w λv w'=>∃J,v=.tuple #[S kind,S u,.bool true]/\Le I J/\Aa B w' J As:=by
 refine gH 6 ?_;clear hS;intro b1 w hS;refine gF 0 (Xh5 (CE kind u).body (by rw[hb];exact NR) hZ.kx) ?_;clear hS;rintro _ w ⟨J1,s1,a1,n1,m1,s2,a2,n2,m2,e9,nd,rfl,Bn,yU,jG,hS⟩;obtain rfl:nd=n9:=by
  rcases jG with⟨h,_⟩|⟨h,_⟩
  ·rw[hb,xe hF]at h;cases h
  ·rw[hb,xe hF]at h;cases h;rfl
 refine gH 8 ?_;clear hS;intro b5 b17 w hS;have DL:=hS.Bw (size:=1) (n:=2) (k:=0) O O (by unfold maxLen;omega);clear hS;obtain⟨J2,AE,Mx,hS⟩:=DL.fV 0;clear DL;try dsimp only[List.eraseIdx,List.set]at hS
 refine gF 0 (X8u nd [HX,DF] de (some (ad b17 0)) 2 s1 a1 n1 m1 s2 a2 n2 m2 (yU.mono AE) Mx) ?_;clear hS;rintro _ w ⟨cs,ok,rfl,du,_,_,hS⟩;rw[eh]at du;obtain⟨p0,c0,k0,d0,rfl,DW,h1c⟩:=fx (d:=5) du;replace DW:At J2 (p0.add ((0:Int).toNat*2)) [S OM,S kind]:=DW.add 0;refine gG 6 ?_;clear hS;intro b7 w hS;refine .dw (λw=>∃J9 R,Le J2 J9/\Aa B w J9 (Ae b1 [Ab (CE kind u).status,.slice ra (CE kind u).Ac.length rc,S (CE kind u).body] 48::Ae b7 [S DF,.slice (some p0) 1 c0,S u,.slice k0 0 d0] 138::R)) (λj=>!([].contains j)) ?_;replace hS:=hS.drew;generalize w.drew=w at hS ⊢;have hH:∃J9 R,Le J2 J9/\Aa B w J9 (Ae b1 [Ab (CE kind u).status,.slice ra (CE kind u).Ac.length rc,S (CE kind u).body] 48::Ae b7 [S DF,.slice (some p0) 1 c0,S u,.slice k0 0 d0] 138::R):=⟨_,_,Le.refl _,(hS.x [0,2])⟩
 refine .tp 0 O (λw=>(by first|exact .fo 1 O GX O O JE O|exact .fi 1 O GX O O JE O)) ?_;refine .tk 1 O hH (λw ⟨J9,R,A6,hS⟩=>(by first|exact(.lo O hS (k:=0) O Lc O)|exact(.lo O hS (k:=1) O Lc O)|exact(.Ca (.of O) hS (At.add (DW.mono A6) _) Lc O))) ?_;refine .tp 2 O (λw=>(.D4 (.of O) H2)) (.tp 3 O (λw=>(.neq (.of O) (.of O))) (.tp 4 O (λw=>(.mo O)) ?_));refine .tg 5 O hH O O (λAi w ⟨J9,R,A6,hS⟩=>(by first|exact(.HQ (cs:=[_,_,_]) (.of O) hS (k:=0) O Il Zl O)|exact(.GG (vs:=[_,_,_]) (.of O) hS (k:=0) O Il Zl O (λ_ _ h=>h))|exact(.HQ (cs:=[_,_,_]) (.of O) hS (k:=1) O Il Zl O)|exact(.GG (vs:=[_,_,_]) (.of O) hS (k:=1) O Il Zl O (λ_ _ h=>h))|exact(.Cy (.of O) hS (DW.mono A6) Il Zl O (λ_ _ h=>h))|exact(.Cy (.of O) hS (At.add (DW.mono A6) _) Il Zl O (λ_ _ h=>h)))) ?_;refine .tg 6 O hH O O (λAi w ⟨J9,R,A6,hS⟩=>(by first|exact .fo 1 O GX O O JE O|exact .fi 1 O GX O O JE O)) ?_;refine .tg 7 O hH O O (λAi w ⟨J9,R,A6,hS⟩=>(by first|exact(.ld (.gd Ai O) hS (k:=0) O Lc O)|exact(.ld (.gd Ai O) hS (k:=1) O Lc O)|exact(.Ca (.gd Ai O) hS (At.add (DW.mono A6) _) Lc O))) ?_;refine .tg 8 O hH O O (λAi w ⟨J9,R,A6,hS⟩=>(by first|exact .indexAddr (.gd Ai O) (.of O) (ot Ai) (ot Ai) H2 DU|exact .CJ (.gd Ai O) (.of O) (ot Ai) (ot Ai) H2 DU)) ?_;refine .tg 9 O hH O O (λAi w ⟨J9,R,A6,hS⟩=>(by first|exact .fieldAddr 1 (.gd Ai O) PI O O Bf O|exact .FQ 1 (.gd Ai O) PI O O Bf O)) ?_;refine .tg 10 O hH O O (λAi w ⟨J9,R,A6,hS⟩=>(by first|exact(.ld (.gd Ai O) hS (k:=0) O BF O)|exact(.ld (.gd Ai O) hS (k:=1) O BF O)|exact(.Ca (.gd Ai O) hS (At.add (DW.mono A6) _) BF O))) ?_;refine .tg 11 O hH O O (λAi w ⟨J9,R,A6,hS⟩=>(by first|exact .fo 2 O GX O O Bf O|exact .fi 2 O GX O O Bf O)) ?_;refine .tg 12 O hH O O (λAi w ⟨J9,R,A6,hS⟩=>(by first|exact(.ld (.gd Ai O) hS (k:=0) O BF O)|exact(.ld (.gd Ai O) hS (k:=1) O BF O)|exact(.Ca (.gd Ai O) hS (At.add (DW.mono A6) _) BF O))) ?_;refine .b1 13 O (.DA O O O (.call func58 O (Be O (Be O X4)) O (wX kind u h1 h3 ((hZ.mono Bn).mono AE) _ hS) ?_));clear hS;rintro _ w ⟨J4,rb,rd,rfl,EA,hrd,IE,hS⟩;refine .nil ?_;clear hH;have hH:∃J9 R,Le J2 J9/\Aa B w J9 (Ae b1 [Ab (CE kind u).status,.slice ra (CE kind u).Ac.length rc,S (CE kind u).body] 48::Ae b7 [S DF,.slice (some p0) 1 c0,S u,.slice k0 0 d0] 138::R):=⟨_,_,EA,(hS.x [0,2])⟩
 refine⟨λ_ _=>hH,?_⟩;refine .b1 14 O (.DA O O O (.call func53 O (Be O (Be O X4)) O (Xp6 (CE kind u) A8 ra rb rc rd om (((hA.mono Bn).mono AE).mono EA) IE _ hS) ?_));clear hS;rintro _ w ⟨rfl,hS⟩;refine .nil ?_;clear hH;have hH:∃J9 R,Le J2 J9/\Aa B w J9 (Ae b1 [Ab (CE kind u).status,.slice ra (CE kind u).Ac.length rc,S (CE kind u).body] 48::Ae b7 [S DF,.slice (some p0) 1 c0,S u,.slice k0 0 d0] 138::R):=⟨_,_,EA,(hS.x [0,2])⟩
 refine⟨λ_ _=>hH,?_⟩;refine .tg 15 O hH O O (λAi w ⟨J9,R,A6,hS⟩=>(.not (.of O))) (.tp 16 O (λw=>(.po O O O)) (.dn (.AF (rfl) ?_)));refine gG 0 ?_;replace DW:=DW.mono EA;refine .qt hS (.val (λw hS=>(by first|exact .fo 1 O GX O O JE O|exact .fi 1 O GX O O JE O)) O ?_);refine .val (λw hS=>(by first|exact(.lo O hS (k:=0) O Lc O)|exact(.lo O hS (k:=1) O Lc O)|exact(.lo O hS (k:=2) O Lc O)|exact(.Ca (.of O) hS (At.add DW _) Lc O))) O ?_;refine .val (λw hS=>(by first|exact .io O O om om H2 DU|exact .ii O O om om H2 DU)) O ?_;refine .val (λw hS=>(by first|exact .fo 1 O PI O O Bf O|exact .fi 1 O PI O O Bf O)) O ?_;refine .val (v:=S kind) (λw hS=>.Ca (.of O) hS (DW.add 1) BF O) O (.val (λw hS=>(by first|exact .fo 2 O GX O O Bf O|exact .fi 2 O GX O O Bf O)) O ?_);refine .val (λw hS=>(by first|exact(.lo O hS (k:=0) O BF O)|exact(.lo O hS (k:=1) O BF O)|exact(.lo O hS (k:=2) O BF O)|exact(.Ca (.of O) hS (At.add DW _) BF O))) O ?_;refine .val (λw hS=>(.ao O)) O (.val (λw hS=>(.ao O)) O (.val (λw hS=>(.ao O)) O (.nil ?_)));clear hS;intro w hS;exact gG 0 ⟨J4,O,(Bn.trans AE).trans EA,hS.s⟩
theorem Xhr(m:Nat)(hm:m<=1099511627776)(As:La)(hS:Aa B w I As):Ce B I As 48 [Ab (m:Nat)] w (S (Go.Lib.decDigits m)):=by
 refine gG 2 (.loop (σ:=Nat×Lu) (λ(n,out)=>[(0,Ab (n:Nat)),(3,S out)]) (λ(n,out) w=>n<=m/\Go.Lib.decDigits m=Go.Lib.decDigits n++out/\Aa B w I As) (λ(n,out)=>n) (m,[]) ⟨O,O,trivial⟩ ⟨Yd _,by simp,hS⟩ ?_);rintro⟨n,out⟩ w ⟨hn,hd,hS⟩;refine gN 2 ?_ ?_<;>intro Wu
 ·refine gG 0 ?_;have hbg:=lZ (n:=n) om;have uZ:=Y5 List.length hd;rw[Y0,hbg,Y0]at uZ;have h5:=Xkl hm;refine gH 5 ?_;clear hS;intro De w hS;refine .val (.oV (b:=De) (cap:=1) (c:=UInt8.ofNat (48+n%10)) (i:=(48+(n:Int)%10)) (.of O) hS (k:=0) O (by rw[Y5d];omega) Db CY BV) O ?_;refine gG 6 (E_ (n/10,_) O ⟨od,?_,(hS.y 0 1)⟩);rw[hd,hbg,Yc]
 refine gG 0 ?_;have jO:=Go.Lib.decDigits_one (i:=n) om;have uZ:=Y5 List.length hd;rw[Y0]at uZ;have h5:=Xkl hm;refine gH 4 ?_;clear hS;intro qM w hS;refine .val (.oV (b:=qM) (cap:=1) (c:=UInt8.ofNat (48+n)) (i:=(48+(n:Int))) (.of O) hS (k:=0) O (by rw[Y5d];omega) Db CY BV) O ?_;refine gG 3 (⟨?_,hS.s⟩);rw[hd,jO]
theorem Xso(r:HC)(h0:UT r [])(h1:UT r [32])(m t b:Lu)(hs:List Pq)(e:r=⟨m,t,hs,b⟩)(a:Oa)(ca:Nat)(hv:r.Au.length<=10/\r.target.length<=1000/\r.body.length<=1000/\∀h∈r.Ac,h.1.length<=1000/\h.2.length<=1000)(hl:r.Ac.length<=32)(hZ:Kz I)(hA:RS I a 2 hs.length (X2 X3 hs))(As:La)(hS:Aa B w I As):Cz 49 [.agg #[S m,S t,.slice a hs.length ca,S b]] w λv w'=>∃J,v=.tuple #[S (UZ r),Ab 0]/\Le I J/\Aa B w' J As:=by
 subst e;exact Xsp ⟨m,t,hs,b⟩ h0 h1 a ca hv hl hZ hA As hS
theorem w4(path:Lu)(body AR:List Pq)(hor:body=[]\/AR=[])(h0:UT (Lf path body AR) [])(h1:UT (Lf path body AR) [32])(hv:(Lf path body AR).Au.length<=10/\(Lf path body AR).target.length<=1000/\(Lf path body AR).body.length<=1000/\∀h∈(Lf path body AR).Ac,h.1.length<=1000/\h.2.length<=1000)(hl:(Lf path body AR).Ac.length<=32)(NR:body.length<=100)(IL:AR.length<=100)(hbv:∀h∈body,h.1.length<=1000/\h.2.length<=1000)(hcv:∀h∈AR,h.1.length<=1000/\h.2.length<=1000)(ba ca:Oa)(bc cc:Nat)(hZ:Kz I)(hd:BJ I)(IE:RS I ba 2 body.length (X2 X3 body))(hRc:RS I ca 2 AR.length (X2 X3 AR))(As:La)(hS:Aa B w I As):Cz 13 [S path,.slice none 0 0,.slice ba body.length bc,.slice ca AR.length cc] w λv w'=>∃J,v=S (UZ (Lf path body AR))/\Le I J/\Aa B w' J As:=by
 refine gG 0 ?_;replace hS:=hS.An 58 2;refine gG 8 ?_;clear hS;intro b9 w hS;refine .AF (rfl) ?_;refine gN 3 ?_ ?_<;>intro E4
 ·obtain⟨p,cs,rfl⟩:∃p cs,AR=p::cs:=by
   cases AR with
   | nil=>simp at E4
   | cons p cs=>exact⟨p,cs,O⟩
  obtain rfl:body=[]:=by rcases hor with h|h;exact h;cases h
  refine gD [0] [8] [0,1,2,3,4,5,6,7,8] ?_;clear hS;intro w hS;refine gE 3 (Xx6 (p::cs) ca cc sz IL hcv hRc) ?_;clear hS;intro w hS;refine gH 2 ?_;clear hS;intro b31 w hS;refine gH 1 ?_;clear hS;intro a32 c32 Qm w hS;refine gH 2 ?_;clear hS;intro w hS;refine gG 3 (.AF (rfl) (gH 1 ?_));have DL:=hS;clear hS;obtain⟨J,hJ,AJ,hS⟩:=DL.fV 1;clear DL;try dsimp only[List.eraseIdx]at hS
  refine gF 0 (Xso (Lf path [] (p::cs)) h0 h1 kf path [] [(Fk,Oq (p::cs))] O _ _ hv hl (hZ.mono hJ) AJ) ?_;clear hS;rintro _ w ⟨J2,rfl,AE,hS⟩;exact gG 7 ⟨J2,O,hJ.trans AE,hS.s⟩
 refine gN 3 ?_ ?_<;>intro Wq
 ·refine gG 0 ?_;obtain⟨p,bl,rfl⟩:∃p bl,body=p::bl:=by
   cases body with
   | nil=>simp at Wq
   | cons p bl=>exact⟨p,bl,O⟩
  obtain rfl:AR=[]:=by rcases hor with h|h;cases h;exact h
  refine gH 3 ?_;clear hS;intro w hS;refine gE 0 (Xoy (p::bl) ba bc sz NR hbv hd IE) ?_;clear hS;intro w hS;refine gG 2 ?_;clear hS;intro w hS;refine gD [0] [10] [0,1,2,3,4,5,6,7,8,9,10] ?_;clear hS;intro w hS;refine gE 5 (Xhr (Nv (p::bl)).length (by have:=hv.2.2.1;change (Nv (p::bl)).length<=1000 at this;omega)) ?_;clear hS;intro w hS;refine gH 2 ?_;clear hS;intro b48 w hS;refine gH 1 ?_;clear hS;intro a49 c49 AcK w hS;refine gH 2 ?_;clear hS;intro w hS;refine gH 1 ?_;have DL:=hS;clear hS;obtain⟨J,hJ,AJ,hS⟩:=DL.fV 1;clear DL;try dsimp only[List.eraseIdx]at hS
  refine gF 0 (Xso (Lf path (p::bl) []) h0 h1 Jx path (Nv (p::bl)) [(Pe,Go.Lib.decDigits (Nv (p::bl)).length)] O _ _ hv hl (hZ.mono hJ) AJ) ?_;clear hS;rintro _ w ⟨J2,rfl,AE,hS⟩;exact gG 7 ⟨J2,O,hJ.trans AE,hS.s⟩
 refine gH 1 ?_;obtain rfl:AR=[]:=by cases AR with|nil=>rfl|cons p cs=>simp at E4;omega
 obtain rfl:body=[]:=by cases body with|nil=>rfl|cons p bl=>simp at Wq;omega
 have DL:=hS;clear hS;obtain⟨J,hJ,AJ,hS⟩:=DL.fV 1;clear DL;try dsimp only[List.eraseIdx]at hS
 refine gF 0 (Xso (Lf path [] []) h0 h1 kf path [] [] O _ _ hv hl (hZ.mono hJ) AJ) ?_;clear hS;rintro _ w ⟨J2,rfl,AE,hS⟩;exact gG 7 ⟨J2,O,hJ.trans AE,hS.s⟩
theorem oZ{s t:Nat}{F:TypeId}(h1:J s=some (Xi [Ab 1,BQ 0,S YR.urls,.bool true,.bool false,.bool true,S [],.slice none 0 0] E))(h2:J t=some (Xi [S u,S pw,.slice none 0 0] F)):Gn J (some (ad s 0)) [YR]/\DI J (some (ad t 0)) [Nc u pw]:=by
 constructor
 ·intro i t ht
  match i,ht with
  | 0,ht=>cases ht;exact⟨_,none,0,O,Xeu h1,Yd _,RS.nil _ _⟩
  | i+1,ht=>simp at ht
 ·intro i t ht
  match i,ht with
  | 0,ht=>cases ht;exact⟨_,none,0,O,Xeu h2,Yd _,RS.nil _ _⟩
  | i+1,ht=>simp at ht
theorem Xib(u pw:Lu)(As:La)(hS:Aa B w I As):Cz 5 [S u,S pw] w λv w'=>∃J s t,Le I J/\v=.agg (PA (Kf u pw) (some (ad s 0)) 1 (some (ad t 0)) 1).toArray/\Gn J (some (ad s 0)) [YR]/\DI J (some (ad t 0)) [Nc u pw]/\Aa B w' J As:=by
 refine gH 9 ?_;clear hS;intro b4 b6 De w hS;refine gG 0 ?_
 --['b10','b6','b4']
 obtain⟨J1,Bn,dL,hS⟩:=hS.fZ 1;try dsimp only[List.eraseIdx]at hS
 obtain⟨J2,AE,CQ,hS⟩:=hS.fZ 0;try dsimp only[List.eraseIdx]at hS
 have hcf:=oZ (u:=u) (pw:=pw) (J:=J2) (AE.h _ _ dL) CQ;exact⟨J2,b6,De,Bn.trans AE,O,hcf.1,hcf.2,hS.s⟩
theorem fP(h:Cb (d+1) I cs (Dn DF u [])):∃p c ka kc,cs=[S DF,.slice p 0 c,S u,.slice ka 0 kc]:=by
 obtain⟨_,_,_,_,_,aa,ca,ka,ck,xs,rfl,HM,qS,KF,JL,CW,WK,jF⟩:=h;exact⟨aa,ca,ka,ck,O⟩
theorem Xyn(lt wr:Lu)(n9:Nd)(l:Int)(hF:Cq 8 200 n9=some l)(NR:(CG 8 n9).length<=10000)(hb:(CD lt [] wr).body=CG 8 n9)(eh:Jh n9 [HX,DF]=some (Dn DF wr []))(ra:Oa)(rc:Nat)(hZ:Kz I)(As:La)(hS:Aa B w I As):Cz 16 [.agg #[Ab (CD lt [] wr).status,.slice ra (CD lt [] wr).Ac.length rc,S (CD lt [] wr).body]] w λv w'=>∃J,v=.tuple #[S [],S [],.bool false]/\Le I J/\Aa B w' J As:=by
 refine gH 6 ?_;clear hS;intro b1 w hS;refine gF 0 (Xh5 (CD lt [] wr).body (by rw[hb];exact NR) hZ.kx) ?_;clear hS;rintro _ w ⟨J1,s1,a1,n1,m1,s2,a2,n2,m2,e9,nd,rfl,Bn,yU,jG,hS⟩;obtain rfl:nd=n9:=by
  rcases jG with⟨h,_⟩|⟨h,_⟩
  ·rw[hb,xe hF]at h;cases h
  ·rw[hb,xe hF]at h;cases h;rfl
 refine gH 8 ?_;clear hS;intro b5 b17 w hS;have DL:=hS.Bw (size:=1) (n:=2) (k:=0) O O (by unfold maxLen;omega);clear hS;obtain⟨J2,AE,Mx,hS⟩:=DL.fV 0;clear DL;try dsimp only[List.eraseIdx,List.set]at hS
 refine gF 0 (X8u nd [HX,DF] de (some (ad b17 0)) 2 s1 a1 n1 m1 s2 a2 n2 m2 (yU.mono AE) Mx) ?_;clear hS;rintro _ w ⟨cs,ok,rfl,du,_,_,hS⟩;rw[eh]at du;obtain⟨p0,c0,k0,d0,rfl⟩:=fP (d:=5) du;refine gG 6 ?_;clear hS;intro b7 w hS;refine .dw (λw=>∃R,Aa B w J2 (Ae b1 [Ab (CD lt [] wr).status,.slice ra (CD lt [] wr).Ac.length rc,S (CD lt [] wr).body] 48::Ae b7 [S DF,.slice p0 0 c0,S wr,.slice k0 0 d0] 138::R)) (λj=>!([].contains j)) ?_;replace hS:=hS.drew;generalize w.drew=w at hS ⊢;have hH:∃R,Aa B w J2 (Ae b1 [Ab (CD lt [] wr).status,.slice ra (CD lt [] wr).Ac.length rc,S (CD lt [] wr).body] 48::Ae b7 [S DF,.slice p0 0 c0,S wr,.slice k0 0 d0] 138::R):=⟨_,(hS.x [0,2])⟩
 refine .tp 0 O (λw=>(by first|exact .fo 1 O GX O O JE O|exact .fi 1 O GX O O JE O)) ?_;refine .tk 1 O hH (λw ⟨R,hS⟩=>(by first|exact(.lo O hS (k:=0) O Lc O)|exact(.lo O hS (k:=1) O Lc O))) ?_;refine .tp 2 O (λw=>(.D4 (.of O) H2)) (.tp 3 O (λw=>(.neq (.of O) (.of O))) (.tp 4 O (λw=>(.mo O)) (.FF (v:=.bool true) (i:=5) O kr kr kr kr hH O O (λAi=>Yy Ai de) O (.FF (v:=.bool true) (i:=6) O kr kr kr kr hH O O (λAi=>Yy Ai de) O (.FF (v:=.bool true) (i:=7) O kr kr kr kr hH O O (λAi=>Yy Ai de) O (.FF (v:=.bool true) (i:=8) O kr kr kr kr hH O O (λAi=>Yy Ai de) O (.FF (v:=.bool true) (i:=9) O kr kr kr kr hH O O (λAi=>Yy Ai de) O (.FF (v:=.bool true) (i:=10) O kr kr kr kr hH O O (λAi=>Yy Ai de) O (.FF (v:=.bool true) (i:=11) O kr kr kr kr hH O O (λAi=>Yy Ai de) O (.FF (v:=.bool true) (i:=12) O kr kr kr kr hH O O (λAi=>Yy Ai de) O ?_))))))))));refine .b1 13 O (.off O O O O O O (.nil ?_));clear hH;have hH:∃R,Aa B w J2 (Ae b1 [Ab (CD lt [] wr).status,.slice ra (CD lt [] wr).Ac.length rc,S (CD lt [] wr).body] 48::Ae b7 [S DF,.slice p0 0 c0,S wr,.slice k0 0 d0] 138::R):=⟨_,(hS.x [0,2])⟩
 refine⟨λ_ _=>hH,?_⟩;refine .b1 14 O (.off O O O O O O (.nil ?_));clear hH;have hH:∃R,Aa B w J2 (Ae b1 [Ab (CD lt [] wr).status,.slice ra (CD lt [] wr).Ac.length rc,S (CD lt [] wr).body] 48::Ae b7 [S DF,.slice p0 0 c0,S wr,.slice k0 0 d0] 138::R):=⟨_,(hS.x [0,2])⟩
 refine⟨λ_ _=>hH,?_⟩;refine .FF (v:=.bool true) (i:=15) O kr kr kr kr hH O O (λAi=>Yy Ai de) O (.tp 16 O (λw=>(.po O O O)) (.dn (.E1 (rfl) ?_)));exact gG 3 ⟨J2,O,Bn.trans AE,hS.s⟩
theorem W0(r:Cr)(hl:r.Ac.length<=33)(hv:∀h∈r.Ac,h.1.length<=1000/\h.2.length<=1000)(ra:Oa)(rc:Nat)(uV:((r.Ac.filter λh=>FL h.1 Ci).map (·.2))=[])(jb:Nat)(jv:Va)(hR:RS I ra 2 r.Ac.length (X2 X3 r.Ac))(As:La)(hS:Aa B w I (Ae jb [jv] 109::As)):Cz 15 [ptr jb 0,.agg #[Ab r.status,.slice ra r.Ac.length rc,S r.body]] w λv w'=>∃J,v=.bool true/\Le I J/\Aa B w' J (Ae jb [jv] 109::As):=by
 refine gH 3 ?_;clear hS;intro b3 w hS;refine gF 0 (Xph r Ci de hl hv ra rc hR) ?_;clear hS;rintro _ w ⟨J1,ka,kc,rfl,Bn,CV,hG,hS⟩;rw[uV]at CV hG ⊢;refine gG 2 (.DT (WI.round ?_));refine gG 4 (.AF (rfl) ?_);exact gG 1 ⟨J1,O,Bn,hS.s⟩
theorem Xod(r:Cr)(hl:r.Ac.length<=33)(hv:∀h∈r.Ac,h.1.length<=1000/\h.2.length<=1000)(ra:Oa)(rc:Nat)(k:Ck)(s x0:Lu)(L:List Lu)(hc:jY k s x0 L)(hk:iV k=true)(uV:((r.Ac.filter λh=>FL h.1 Ci).map (·.2))=[s])(jb:Nat)(a:Oa)(c:Nat)(l:List Ck)(NV:l.length<=1)(hp:∀r∈l,(r.name==k.name&&r.path==k.path)=true)(hZ:Kz I)(hR:RS I ra 2 r.Ac.length (X2 X3 r.Ac))(JK:RS I a 6 l.length (X2 EO l))(As:La)(hS:Aa B w I (Ae jb [.slice a l.length c] 109::As)):Cz 15 [ptr jb 0,.agg #[Ab r.status,.slice ra r.Ac.length rc,S r.body]] w λv w'=>∃J a2 c2,v=.bool true/\Le I J/\RS J a2 6 (Mm k).length (X2 EO (Mm k))/\Aa B w' J (Ae jb [.slice a2 (Mm k).length c2] 109::As):=by
 refine gH 3 ?_;clear hS;intro b3 w hS;refine gF 0 (Xph r Ci de hl hv ra rc hR) ?_;clear hS;rintro _ w ⟨J1,ka,kc,rfl,Bn,CV,hG,hS⟩;rw[uV]at CV hG ⊢;refine gG 2 (.DT (WI.round ?_));refine gG 4 (.E1 (rfl) ?_);obtain⟨q,rfl,DW⟩:=AQ (cells:=tC) (s:=1) (λ_=>rfl) (by rw[jd];exact hG) (show([s]:List Lu)[0]?=some s from O);refine gF 4 (Xx7 k s x0 L hc (hZ.mono Bn)) ?_;clear hS;rintro _ w ⟨J2,rfl,AE,hS⟩;refine gH 9 ?_;clear hS;intro b7 w hS;refine .DA O O O (gH 1 (.DA O O O (gH 1 (.DA O O O (gF 0 (WX jb a c l NV k hk (oh hc.name) (oh hc.name) (oh hc.name) hp (JK.mono (Bn.trans AE))) ?_)))));clear hS;rintro _ w ⟨J3,a2,c2,rfl,BN,hR3,hS⟩;refine .DA O O O (gH 1 (.val (.pick (.of O) (.of O) (.of O)) O (gG 0 (.AF (rfl) (gG 3 (WI.round (gG 4 (.AF (rfl) ?_))))))));exact gG 1 ⟨J3,a2,c2,O,(Bn.trans AE).trans BN,hR3,hS.s⟩
abbrev kZ(r:Cr):List Pq:=r.Ac.filter λh=>!(h.1==Ci)
theorem bP(r:Cr)(hl:r.Ac.length<=33)(ra:Oa)(rc:Nat)(hR:RS I ra 2 r.Ac.length (X2 X3 r.Ac))(As:La)(hS:Aa B w I As):Cz 17 [.agg #[Ab r.status,.slice ra r.Ac.length rc,S r.body]] w λv w'=>∃J ka kc,v=.agg #[Ab r.status,.slice ka (kZ r).length kc,S r.body]/\Le I J/\RS J ka 2 (kZ r).length (X2 X3 (kZ r))/\Aa B w' J As:=by
 refine gH 10 ?_;clear hS;intro b1 b2 b3 w hS;refine gG 0 ?_;replace hS:=hS.An 58 2;refine .lk [1,2,3] (σ:=Nat×Va) (λ(i,kv) _m=>(4,Ab (i:Nat))::_m) (λ(i,kv) w=>i<=r.Ac.length/\Aa B w I (Ar 58 2 kv ((r.Ac.take i).filter λh=>!(h.1==Ci)).length (X2 X3 ((r.Ac.take i).filter λh=>!(h.1==Ci)))::Ae b3 [Ab r.status,kv,S r.body] 48::Ae b2 [Ab 0,.slice none 0 0,S []] 48::Ae b1 [Ab r.status,.slice ra r.Ac.length rc,S r.body] 48::As)) (λ(i,kv)=>r.Ac.length-i) (0,.slice none 0 0) ⟨Y4 _,hS⟩ ?_;rintro⟨i,kv⟩ w ⟨hi,hS⟩;obtain⟨ka,kc,rfl,CV,_⟩:=hS.Av (k:=0) (v:=kv) O;refine gN 5 ?_ ?_<;>intro Dh
 ·refine gG 0 ?_;obtain⟨x,hx⟩:∃x,r.Ac[i]?=some x:=⟨_,Y2 om⟩
  have E6:((r.Ac.take i).filter λh=>!(h.1==Ci)).length<=33:=by
   have:=Yw (λh:Pq=>!(h.1==Ci)) (r.Ac.take i)
   rw[Yl]at this;omega
  obtain⟨q,rfl,F7⟩:=AQ (cells:=X3) (s:=2) (λ_=>rfl) hR hx;have hxt:At I (q.add ((i:Int).toNat*2)) [S x.1,S x.2]:=F7;refine gN 7 ?_ ?_<;>intro Dy
  ·refine gD [1,2] [10] [0,1,2,3,4,5,6,7,8,9,10] ?_;clear hS;intro w hS;refine gH 6 (Br.y 6 (λw _ _ A6 hS=>.Cy (us:=[S x.1,S x.2]) (.of O) hS (hxt.mono A6) H0 DU O (λ_ _ h=>h)) (gH 1 ?_));clear hS;intro b31 w hS;refine gH 1 ?_;clear hS;intro a32 c32 Qm w hS;refine gH 2 ?_;clear hS;intro w hS;refine gG 3 ?_;have e9:((r.Ac.take (i+1)).filter λh=>!(h.1==Ci))=((r.Ac.take i).filter λh=>!(h.1==Ci))++[x]:=by rw[Yo,hx,Yu,RT,Ln,Y7 (by simpa[Ci]using Dy)];simp
   refine rd (i+1,.slice a32 (((r.Ac.take i).filter λh=>!(h.1==Ci)).length+1) c32) ⟨od,?_⟩
   (try dsimp only)
   rw[e9,Y0,YT];exact(hS.x [3,3,3,3])
  refine gG 3 ?_;have e9:((r.Ac.take (i+1)).filter λh=>!(h.1==Ci))=((r.Ac.take i).filter λh=>!(h.1==Ci)):=by rw[Yo,hx,Yu,RT,Ln,Y3 (by simpa[Ci]using Dy)];simp
  refine rd (i+1,.slice ka ((r.Ac.take i).filter λh=>!(h.1==Ci)).length kc) ⟨od,?_⟩
  (try dsimp only)
  rw[e9];exact(hS.x [3,3,3,3])
 refine gG 0 ?_;rw[Yg (show r.Ac.length<=i by omega)]at hS CV ⊢;refine gH 2 ?_;clear hS;intro w hS;refine gG 0 ?_;have BW:Aa B w I (Ar 58 2 (.slice ka (kZ r).length kc) (kZ r).length (X2 X3 (kZ r))::As):=hS.s;clear hS;obtain⟨J,hJ,AJ,hS⟩:=BW.fV 0;try dsimp only[List.eraseIdx]at hS
 exact⟨J,ka,kc,O,hJ,AJ,hS⟩
abbrev jC(Ap:Lu):Ck:=⟨Bz,Ap,[47],-1,true,true⟩
abbrev ckB:Ck:=⟨Bz,[],[47],0,true,true⟩
def pB:List Lu:=[sw++[47],xJ,xj]
def PEB:List Lu:=[sw++[47],Pj++[48],xJ,xj]
theorem Xvp(h:Mb Ap):GY Ap (-1)=Go.Lib.join (Ds Ap::pB) [59,32]:=by
 rw[Xlm h];simp[Go.Lib.join,Ds,CH,pB,sw,xJ,xj]
theorem lY(Ap:Lu):CA 61 (Ds Ap)=(Bz,Ap,true):=by
 have u:=pQ (Ay:=[61]) (a:=Bz) (b:=61::Ap) de (λc hc=>by simp at hc;subst hc;decide);unfold CA Ds;rw[u.1,u.2];rfl
theorem wh(h:Mb Ap)(hl:Ap.length<=100):jY (jC Ap) (GY Ap (-1)) (Ds Ap) pB:=by
 have h59:∀x∈Ds Ap::pB,∀y∈x,y≠59:=by
  intro x hx;rcases Yi.1 hx with rfl|hx
  ·exact λy hy=>(xz h y hy).2.2
  ·exact(by decide:∀x∈pB,∀y∈x,y≠59) x hx
 have hs:=Xcl (c:=59) (t:=[32]) (Ds Ap::pB) sz h59;have hv:(Ds Ap).length=7+Ap.length:=by unfold Ds;rw[Y0,List.length_cons];show 6+_=_;omega
 refine⟨?_,?_,?_,?_,?_,λx hx he=>?_,?_,λx hx=>?_,de,de,?_⟩
 ·unfold GY L6;rw[Y7 (X9r h)]
 ·rw[Xvp h];exact hs.1
 ·rw[Xvp h];exact hs.2
 ·rw[lY];exact⟨O,O⟩
 ·rfl
 ·exfalso;revert x;decide
 ·rw[Xlm h,Y0,hv];have:CH.length=26:=rfl;omega
 ·rcases Yi.1 hx with rfl|hx
  ·omega
  ·exact(by decide:∀x∈pB,x.length<=10000) x hx
 ·exact⟨by show Bz.length<=_;decide,by show Ap.length<=_;omega,by show 1<=_;decide⟩
theorem wg:jY ckB rO (Ds []) PEB:=by
 refine⟨by decide+kernel,by decide+kernel,by decide+kernel,by decide+kernel,O,λx hx he=>⟨0,de,?_⟩,by decide+kernel,by decide+kernel,de,de,de⟩
 revert x;decide+kernel
theorem XW:iV ckB=true:=by decide+kernel
theorem oC(Ap:Lu):Mm (jC Ap)=[jC Ap]:=Y3 (by show ¬ (-1:Int)=0;decide)
theorem oB:Mm ckB=[]:=Y7 O
theorem o3(n:Nd):CG 8 n≠[]:=by rw[CG];simp
theorem Xf0{n:Nd}{l:Int}(h:Cq 8 200 n=some l):Mk n≠[]:=by rw[rY h];exact o3 n
theorem Xij(lt:Lu):(CD lt [] []).body=Mk (aQ lt):=rfl
theorem Xbw{lt w:Lu}(h:w≠[]):(CD lt [] w).body=Mk (iX lt w):=by rw[sf h];rfl
theorem Xra(lt:Lu):Jh (aQ lt) [HX,Ze]=some (JB lt []):=rfl
theorem tR(lt:Lu):((Jh (aQ lt) [HX,DF]).getD fp).text=[]:=rfl
theorem mn(lt w:Lu):Jh (iX lt w) [HX,Ze]=some (JB lt []):=rfl
theorem Aam(lt w:Lu):Jh (iX lt w) [HX,DF]=some (Dn DF w []):=rfl
theorem eC(kind u:Lu):Jh (aX kind u) [HX,DF]=some (Dn DF u [(OM,kind)]):=rfl
abbrev CTY:Lu:=[67,111,110,116,101,110,116,45,84,121,112,101]
theorem Xfl(b:Lu):∀h∈(Jk 200 YY b).Ac,h.1.length<=1000/\h.2.length<=1000:=by
 show ∀h∈[(CTY,YY)],_
 decide
theorem Xri{b ck:Lu}(h:ck.length<=1000):∀x∈(Hl (Jk 200 YY b) ck).Ac,x.1.length<=1000/\x.2.length<=1000:=by
 show ∀x∈[(CTY,YY),(Ci,ck)],_
 intro x hx;rcases Yi.1 hx with rfl|hx
 ·decide
 ·rw[HH.1 hx];exact⟨by show Ci.length<=_;decide,h⟩
theorem c_(b:Lu):((Jk 200 YY b).Ac.filter λh=>FL h.1 Ci).map (·.2)=[]:=rfl
theorem Xuc(b ck:Lu):((Hl (Jk 200 YY b) ck).Ac.filter λh=>FL h.1 Ci).map (·.2)=[ck]:=rfl
theorem zG.ok{told:Lu}{r:Cr}{l:List Al}(h:zG u pw told d1 r l)(hd:d1<18446744073709551616)(hu:u.length<=32):r.status=200/\FN r=true/\(∀h∈r.Ac,h.1.length<=1000/\h.2.length<=1000)/\r.Ac.length<=33:=by
 rcases h with⟨_,rfl,_⟩|⟨_,rfl,_⟩
 ·refine⟨O,X9s hu (OO hd),Xri ?_,by show 2<=33;decide⟩;rw[Xlm (OO hd),Y0];have e:(Ds (N1 d1)).length=7+(N1 d1).length:=by unfold Ds;rw[Y0,List.length_cons];show 6+_=_;omega
  rw[e,Y_];decide
 ·refine⟨?_,pL hd (.inr O),?_,?_⟩
  ·rw[sf de];rfl
  ·rw[sf de];exact Xfl _
  ·rw[sf de];show 1<=33;decide
theorem z7{r:HC}(h:UT r [32]):(UZ r).length<=1000000:=Yx h.short de
theorem w7(hd:d<18446744073709551616):(CG 8 (aQ (N6 d))).length<=10000/\(CD (N6 d) [] []).body=CG 8 (aQ (N6 d))/\(CD (N6 d) [] []).body≠[]:=by
 have hf:=wT (kS (sB hd));have hb:=rY hf;have hl:=Xnt (N6 d);have h6:=RA d;refine⟨by rw[<-hb];omega,(Xij _).trans hb,?_⟩;rw[Xij];exact Xf0 hf
theorem Xfe(hd:d<18446744073709551616):(CG 8 (iX (N6 d) A3)).length<=10000/\(CD (N6 d) [] A3).body=CG 8 (iX (N6 d) A3)/\(CD (N6 d) [] A3).body≠[]:=by
 have hf:=Xbx (lt:=N6 d) (ph:=A3) (kS (sB hd)) de;have hb:=rY hf;have hl:=Xfd (N6 d) A3;have h6:=RA d;have hk:A3.length=25:=rfl;refine⟨by rw[<-hb];omega,(Xbw de).trans hb,?_⟩;rw[Xbw de];exact Xf0 hf
theorem Xdx(h:YS u pw):Cq 8 200 (aX AN u)=some 197/\(CG 8 (aX AN u)).length<=10000/\(CE AN u).body=CG 8 (aX AN u)/\(CE AN u).body≠[]:=by
 have hf:=Xo6 (kind:=AN) de h.sh;have hb:=rY hf;have hl:=zX AN u;have hk:AN.length=4:=rfl;have hn:=h.name;exact⟨hf,by rw[<-hb];omega,hb,Xf0 hf⟩
theorem AbH{told:Lu}(hu:u.length<=32)(ht:told.length<=60):((Pd (N6 d) u told).Au.length<=10/\(Pd (N6 d) u told).target.length<=1000/\(Pd (N6 d) u told).body.length<=1000/\∀h∈(Pd (N6 d) u told).Ac,h.1.length<=1000/\h.2.length<=1000)/\∀h∈Iv (N6 d) u told,h.1.length<=1000/\h.2.length<=1000:=by
 have hb:=Xn7 (lt:=N6 d) (nB (RA _)) hu ht;refine⟨⟨by show 4<=10;decide,by show 6<=1000;decide,by show(Nv (Iv (N6 d) u told)).length<=1000;omega,λh hh=>?_⟩,λh hh=>?_⟩
 ·rw[Xpf,HH]at hh;subst hh
  have:=Xf7 hb
  exact⟨by show Pe.length<=_;decide,by dsimp only;omega⟩
 ·unfold Iv at hh;rcases Yi.1 hh with rfl|hh
  ·exact⟨by show 2<=_;decide,by show(N6 d).length<=_;rw[RA];decide⟩
  rcases Yi.1 hh with rfl|hh
  ·exact⟨by show 8<=_;decide,by show u.length<=_;omega⟩
  ·rw[HH.1 hh];exact⟨by show 8<=_;decide,by show told.length<=_;omega⟩
theorem TD{path:Lu}(hp:path=AV\/path=CM):((ZH path (N1 d)).Au.length<=10/\(ZH path (N1 d)).target.length<=1000/\(ZH path (N1 d)).body.length<=1000/\∀h∈(ZH path (N1 d)).Ac,h.1.length<=1000/\h.2.length<=1000)/\∀h∈[(Bz,N1 d)],h.1.length<=1000/\h.2.length<=1000:=by
 have e:(Ds (N1 d)).length=7+(N1 d).length:=by unfold Ds;rw[Y0,List.length_cons];show 6+_=_;omega
 refine⟨⟨by show 3<=10;decide,?_,by show 0<=1000;decide,λh hh=>?_⟩,λh hh=>?_⟩
 ·rcases hp with rfl|rfl
  ·show 6<=1000;decide
  ·show 7<=1000;decide
 ·rw[Xgh,HH]at hh;subst hh;exact⟨by show 6<=_;decide,by show(Ds (N1 d)).length<=_;rw[e,Y_];decide⟩
 ·rw[HH.1 hh];exact⟨by show 6<=_;decide,by show(N1 d).length<=_;rw[Y_];decide⟩
def pj:CB:=⟨WB [] [1],[],K0 (Dv 100)⟩
theorem Aac:YS [117] [112]:=⟨de,de,de⟩
theorem Aab:(Fz (Et [117] [112]) pj (UZ (rL AV))).1=(Lh (CD (N6 1) [] []),[]):=by kernel_rfl
theorem lF:N6 1=[76,84,45,48,48,48,48,48,48,48,48,48,48,48,48,48,48,48,49]:=by kernel_rfl
theorem iy:Mb (N6 1):=sB de
theorem Xls(g:Cg)(x:Sp)(s:CB)(hZ:BL s.Z)(hX:Fm I g x s)(As:La)(hS:Aa B w I (Ib x.vb x.k.sb x.p.wb x.qb::Bg x.p s.Z::GK x.qb g.qc s.q x.qa x.qk::IX x.k s.k::As)):Cz 20 [ptr x.vb 0] w λv w'=>∃J ra rc,v=.slice ra s.Z.l.length rc/\Le I J/\s.Z.l.length<=rc/\RS J ra 10 s.Z.l.length (DE s.Z.l)/\Aa B w' J (Ib x.vb x.k.sb x.p.wb x.qb::Bg x.p (s.Z)::GK x.qb g.qc s.q x.qa x.qk::IX x.k s.k::As):=by
 refine gG 0 ?_;replace hS:=hS.px [1];obtain⟨a,c,ma,mc,hS⟩:=Kv hS;refine gF 8 (Xqt x.p.tb s.Z.room a c s.Z.l (oh hZ.len)) ?_;clear hS;rintro _ w ⟨J,ra,rc,rfl,hJ,Cc,hRA,hS⟩;refine gG 1 ?_;replace hS:=Aa.box (T:=C7 x.p s.Z) (a,c,ma,mc) (hS.px [4,4,3,3,4]);exact⟨J,ra,rc,O,hJ,Cc,hRA,(hS.x [3,3,2,3])⟩
def yn(lo:Int)(c:Ui):Bool:=!(decide ((c.toNat:Int)<lo)||decide ((126:Int)<(c.toNat:Int)))
def vU(u pw:Lu):Bool:=!(((u==[]||decide ((32:Int)<(u.length:Int)))||pw==[])||decide ((60:Int)<(pw.length:Int)))&&u.all (yn 33)
theorem vV(h:vU u pw=true):YS u pw:=by
 unfold vU at h;simp only[Yb,ly,Mw,beq_eq_false_iff_ne,ne_eq,dq2]at h
 obtain⟨⟨⟨⟨h1,h2⟩,h3⟩,h4⟩,h5⟩:=h;have a1:=U5.2 h1;have a2:=U5.2 h3;refine⟨λc hc=>?_,om,om⟩
 have:=Yv.1 h5 c hc
 unfold yn at this;simp only[ly,Mw,dq2]at this
 omega
theorem Xp7(s:Lu)(lo:Int)(hs:s.length<=9223372036854775807)(As:La)(hS:Aa B w I As):Ce B I As 62 [S s,.int .u8 lo] w (.bool (s.all (yn lo))):=by
 refine gG 2 (.lk [0,1] (σ:=Nat) (λi _m=>(5,Ab (i:Nat))::_m) (λi w=>i<=s.length/\(∀(j:Nat) c,j<i->s[j]?=some c->yn lo c=true)/\Aa B w I As) (λi=>s.length-i) 0 ⟨Y4 _,λ_ _ h=>Yy h om,hS⟩ ?_);rintro i w ⟨hi,AL,hS⟩;refine gN 4 ?_ ?_<;>intro DV
 ·refine gN 11 ?_ ?_<;>intro Dx
  ·refine gG 1 (⟨Y5 Value.bool (Eq.symm ?_),hS⟩);rw[Y5j];refine⟨_,Y6 (Rx (show i<s.length by omega)),?_⟩;unfold yn;rw[yD,sZ,PM,dq1,dq1];exact Dx
  refine gG 3 (rd (i+1) ⟨od,λj c hj hc=>?_,hS⟩);rcases C5 j i with h1|h1
  ·exact AL j c h1 hc
  ·have e:j=i:=om
   subst e;rw[Rx (show j<s.length by omega)]at hc;cases hc;unfold yn;rw[ly,Mw,dq2,dq2];omega
 refine gG 1 (⟨Y5 Value.bool (Eq.symm ?_),hS⟩);rw[Yv];intro c hc;obtain⟨j,hj,hjr⟩:=Y3x hc;exact AL j c om (by rw[Y2 hj,hjr])
theorem Xp5(u pw:Lu)(hu:u.length<=9223372036854775807)(hp:pw.length<=9223372036854775807)(ua:Oa)(uc:Nat)(As:La)(hS:Aa B w I As):Ce B I As 21 [.agg #[S u,S pw,.slice ua 0 uc]] w (.bool (vU u pw)):=by
 refine gH 14 ?_;clear hS;intro b1 w hS;refine gH 14 (gH 3 (.AG (T:=λw=>Aa B w I _) O O O func62 O (λAi=>(X5 (.gd Ai O) (Be O X4))) O (λAi=>Xp7 u 33 hu _ hS) hS ?_));clear hS;rintro w hS;refine gN 2 ?_ ?_<;>intro Wq
 ·refine gG 1 (⟨Y5 Value.bool (Eq.symm ?_),hS.s⟩);unfold vU;simp only[qF,sZ,PM,beq_iff_eq,dq1]
  rcases Wq with ((((h|h)|h)|h)|h)|h
  ·exact .inl (.inl (.inl (.inl h)))
  ·exact .inl (.inl (.inl (.inr h)))
  ·exact .inl (.inl (.inr h))
  ·exact .inl (.inr h)
  ·exact Yy h de
  ·exact .inr h
 refine gG 1 (.DT (WI.round ?_));refine gG 5 (.AF (rfl) (gG 1 (⟨Y5 Value.bool (Eq.symm ?_),hS.s⟩)));unfold vU;simp only[Yb,ly,Mw,beq_eq_false_iff_ne,ne_eq,dq2]
 obtain⟨⟨⟨⟨⟨h1,h2⟩,h3⟩,h4⟩,_⟩,h6⟩:=Wq;exact⟨⟨⟨⟨h1,om⟩,h3⟩,om⟩,h6⟩
theorem Xp8(u pw:Lu)(hu:u.length<=9223372036854775807)(hp:pw.length<=9223372036854775807)(a:Oa)(cap:Nat)(hU:DI I a [Nc u pw])(As:La)(hS:Aa B w I As):Ce B I As 6 [.slice a 1 cap] w (.tuple #[Ab (if vU u pw then 0 else 1),Ab 0]):=by
 refine gG 3 (.DT (WI.round ?_));refine gG 4 (.E1 (rfl) (gG 2 (.AF (rfl) ?_)));obtain⟨q,ra,rc,rfl,hx,_,_⟩:=hU 0 (Nc u pw) O;refine gH 3 (.val (.Cy (us:=[S u,S pw,.slice ra 0 rc]) (.of O) hS hx Jy Jz O (λ_ _ h=>h)) O (gE 0 (Xp5 u pw hu hp ra rc) ?_));clear hS;intro w hS;refine gN 3 ?_ ?_<;>intro Dx
 ·exact gG 3 ⟨by rw[Dx];first|done|rfl,hS⟩
 refine gG 1 (.DT (WI.round ?_));refine gG 3 (.AF (rfl) (gG 3 (WI.round (gG 4 (.AF (rfl) ?_)))));exact gG 2 ⟨by rw[Dx];first|done|rfl,hS⟩
theorem Xos(u pw:Lu)(h:YS u pw)(n:Int)(hn:4<=n)(a:Oa)(cap:Nat)(ua:Oa)(EM:Nat)(db kb:Nat)(sv:Va)(hZ:Kz I)(hV:Bt I)(hl:Gn I a [YR])(hU:DI I ua [Nc u pw])(As:La)(hS:Aa B w I (CU db kb sv (.slice none 0 0) (Dv n) As)):Calls prog 7 #[.agg (PA (Kf u pw) a cap ua EM).toArray,ptr db 0,Ab 0] w (A4 λv w'=>∃J x,Le I J/\v=.tuple #[ptr x.vb 0,Ab 0]/\Fm J (Et u pw) x ⟨WB [] [],[],K0 (Dv n)⟩/\C4 ⟨WB [] [],[],K0 (Dv n)⟩ 8160/\Aa B w' J (svL (Et u pw) x ⟨WB [] [],[],K0 (Dv n)⟩++As)) :=
 (Xzc (Kf u pw) (o0 h) (λ_=>il u pw) (Et u pw) (AbQ u pw) a cap ua EM (Dv n) db kb sv (.slice none 0 0) (V2 hn) 0 hZ hV ⟨none,0,O,Yd _,RS.nil _ _⟩ hl hU As hS).mono λe w' ⟨v,he,J,hJ,h9⟩=>by
  rw[o1 h]at h9;rcases h9 with⟨h1,_⟩|⟨_,x,h2,_,h4,h5,h6⟩
  ·exact Yy O h1
  ·exact⟨v,he,J,x,hJ,h2,h4,h5,h6⟩
theorem C4.fed{l:List Al}{k:St}(h:C4 ⟨WB l [],[],k⟩ n)(hD:∀d∈D,d<18446744073709551616):C4 ⟨WB l D,[],k⟩ n:=⟨⟨h.Z.len,h.Z.wf,hD,h.Z.now,h.Z.room⟩,h.q,h.A9⟩
theorem xB{g:Cg}{x:Sp}{s t:CB}{b r:Lu}(h:Fz g s b=((r,[]),t))(hb:b.length<=1000000)(hs:C4 s n)(hn:n<=800000)(hX:Fm I g x s)(As:La)(hS:Aa B w I (svR g x s As)):Calls prog 12 #[ptr x.vb 0,S b] w (A4 λv w'=>v=.agg #[S r,S []]/\∃J y,Le I J/\y.vb=x.vb/\Fm J g y t/\C4 t (n+256)/\Aa B w' J (svL g y t++As)) :=
 (tK g x s b hb ⟨hs.Z,hs.q,Yx hs.A9 hn⟩ hX As hS).mono λe w' ⟨v,he,hv,J,y,hJ,h1,_,h3,h4⟩=>by
  have h5:=tJ (g:=g) hs b;rw[h]at hv h3 h4 h5;exact⟨v,he,hv,J,y,hJ,h1,h3,h5,h4⟩
def zx:CB:=(Fz (Et [117] [112]) pj (UZ (rL AV))).2
theorem s_:Fz (Et [117] [112]) pj (UZ (rL AV))=((Lh (CD (N6 1) [] []),[]),zx):=by
 unfold zx;rw[<-Aab]
theorem Vc(hZ:Kz I)(hV:Bt I)(hD:BJ I)(As:La)(hS:Aa B w I As):Cz 4 [] w λv w'=>v=.bool true/\∃J,Le I J/\Aa B w' J As:=by
 refine gF 1 (Xib [117] [112]) ?_;clear hS;rintro _ w ⟨J1,sb,ub,Bn,rfl,WH,hu1,hS⟩;refine gF 0 (Xtn 100) ?_;clear hS;rintro _ w ⟨db,kb,sv,rfl,hS⟩;refine gF 0 (Xos [117] [112] Aac 100 de (some (ad sb 0)) 1 (some (ad ub 0)) 1 db kb sv (hZ.mono Bn) (hV.mono Bn) WH hu1) ?_;clear hS;rintro _ w ⟨J2,x0,AE,rfl,y3,hs0,hS⟩;replace hS:Aa B _ J2 (Ib x0.vb x0.k.sb x0.p.wb x0.qb::Bg x0.p (⟨WB [] [],[],K0 (Dv 100)⟩:CB).Z::GK x0.qb (Et [117] [112]).qc (⟨WB [] [],[],K0 (Dv 100)⟩:CB).q x0.qa x0.qk::IX x0.k (⟨WB [] [],[],K0 (Dv 100)⟩:CB).k::As):=hS;refine gG 11 (.AF (rfl) (gH 2 ?_));clear hS;intro lN w hS;have DL:=hS.Bw (size:=1) (n:=1) (k:=0) O O (by unfold maxLen;omega);clear hS;obtain⟨J3,BN,hR3,hS⟩:=DL.fV 0;clear DL;try dsimp only[List.eraseIdx,List.set]at hS
 refine gE 0 (Xjo (Et [117] [112]) x0 ⟨WB [] [],[],K0 (Dv 100)⟩ (some (ad lN 0)) 1 [1] (by show 0<=_;decide) de (y3.mono BN) hR3) ?_;clear hS;intro w hS;have mC:=y3.mono BN;have hXa:Fm J3 (Et [117] [112]) x0 pj:=⟨mC.wp,mC.cg,mC.kz,mC.fit,mC.kp,mC.qu⟩
 have hsa:C4 pj 8160:=hs0.fed (λd hd=>by rw[HH.1 hd];decide);replace hS:Aa B _ J3 (Ib x0.vb x0.k.sb x0.p.wb x0.qb::Bg x0.p pj.Z::GK x0.qb (Et [117] [112]).qc pj.q x0.qa x0.qk::IX x0.k pj.k::As):=hS;refine gF 1 (w4 AV [] [] (.inl O) (kR (.inl O) (.inl O)) (kR (.inr O) (.inl O)) ⟨de,de,de,λh hh=>by cases hh⟩ de de de (λh hh=>by cases hh) (λh hh=>by cases hh) none none 0 0 mC.kz (hD.mono (Bn.trans (AE.trans BN))) (RS.nil _ _) (RS.nil _ _)) ?_;clear hS;rintro _ w ⟨J4,rfl,EA,hS⟩;refine gF 0 (xB s_ dk hsa de (hXa.mono EA)) ?_;clear hS;rintro _ w ⟨rfl,J5,x1,H9,KN,Qb,Ah3,hS⟩;replace hS:Aa B _ J5 (Ib x1.vb x1.k.sb x1.p.wb x1.qb::Bg x1.p zx.Z::GK x1.qb (Et [117] [112]).qc zx.q x1.qa x1.qk::IX x1.k zx.k::As):=hS;refine .val (.FR (off:=0) (.of O) Pp O O BF O) O (gF 0 (wY (CD (N6 1) [] []) O (pL de (.inl O)) (Xfl _) Qb.kz) ?_);clear hS;rintro _ w ⟨J6,ra,rc,rfl,jE,Cc,P_,hS⟩;refine gH 7 ?_;clear hS;intro b3 w hS;refine gF 0 (X8m (N6 1) [] de de (aQ (N6 1)) 193 (wT (kS iy)) dk (rY (wT (kS iy))) (Xf0 (wT (kS iy))) (Xra _) (tR _) de ra rc (Qb.kz.mono jE) P_) ?_;clear hS;rintro _ w ⟨J7,rfl,ud,hS⟩;refine gH 14 ?_;exact gG 5 ⟨by rw[lF];first|done|rfl,J7,(((((Bn.trans AE).trans BN).trans EA).trans H9).trans jE).trans ud,hS.s⟩
theorem WW(As:La)(hS:Aa B w I As):Cz 9 [] w λv w'=>∃jb,v=ptr jb 0/\Aa B w' I (Ae jb [.slice none 0 0] 109::As):=by
 refine gG 4 ?_;clear hS;intro b2 w hS;exact⟨_,O,hS⟩
theorem W1{told:Lu}{r:Cr}{l:List Al}(h:zG u pw told d1 r l)(hd:d1<18446744073709551616)(hu:u.length<=32)(ra:Oa)(rc jb:Nat)(hZ:Kz I)(hR:RS I ra 2 r.Ac.length (X2 X3 r.Ac))(As:La)(hS:Aa B w I (Ae jb [.slice none 0 0] 109::As)):Cz 15 [ptr jb 0,.agg #[Ab r.status,.slice ra r.Ac.length rc,S r.body]] w λv w'=>∃J a2 c2 lj,v=.bool true/\Le I J/\RS J a2 6 lj.length (X2 EO lj)/\((told=pw/\lj=[jC (N1 d1)])\/(told≠pw/\lj=[]))/\Aa B w' J (Ae jb [.slice a2 lj.length c2] 109::As):=by
 have ho:=h.ok hd hu;rcases h with⟨e,hr,_⟩|⟨e,hr,_⟩
 ·have hg:((r.Ac.filter λh=>FL h.1 Ci).map (·.2))=[GY (N1 d1) (-1)]:=by rw[hr];exact Xuc _ _
  exact(Xod r ho.2.2.2 ho.2.2.1 ra rc (jC (N1 d1)) (GY (N1 d1) (-1)) (Ds (N1 d1)) pB (wh (OO hd) (nB (Y_ _))) (X9r (OO hd)) hg jb none 0 [] de (λr hr=>by cases hr) hZ hR (RS.nil _ _) As hS).mono λe9 w' ⟨v,he,J,a2,c2,h1,h2,h3,h4⟩=>by
   rw[oC]at h3 h4;exact⟨v,he,J,a2,c2,[jC (N1 d1)],h1,h2,h3,.inl ⟨e,O⟩,h4⟩
 ·have hg:((r.Ac.filter λh=>FL h.1 Ci).map (·.2))=[]:=by rw[hr,sf de];exact c_ _
  exact(W0 r ho.2.2.2 ho.2.2.1 ra rc hg jb (.slice none 0 0) hR As hS).mono λe9 w' ⟨v,he,J,h1,h2,h3⟩=>⟨v,he,J,none,0,[],h1,h2,RS.nil _ _,.inr ⟨e,O⟩,h3⟩
theorem XJ{told:Lu}{r:Cr}{l:List Al}(h:zG u pw told d1 r l)(hd:d1<18446744073709551616)(hU:YS u pw)(ra:Oa)(rc:Nat)(hZ:Kz I)(hR:RS I ra 2 (kZ r).length (X2 X3 (kZ r)))(As:La)(hS:Aa B w I As):Cz 16 [.agg #[Ab r.status,.slice ra (kZ r).length rc,S r.body]] w λv w'=>∃J k t p,v=.tuple #[S k,S t,.bool p]/\Le I J/\((told=pw/\k=AN/\t=u/\p=true)\/(told≠pw/\p=false))/\Aa B w' J As:=by
 have hu:=hU.name.2;rcases h with⟨e,rfl,_⟩|⟨e,rfl,_⟩
 ·have hf:=Xo6 (kind:=AN) de hU.sh;have hl:=zX AN u;have hk:AN.length=4:=rfl;have hb:=rY hf;exact(Xjb AN u de om (aX AN u) 197 hf (by rw[<-hb];omega) hb (Xf0 hf) (eC _ _) (by show 1<=100;decide) ra rc hZ hR As hS).mono λe9 w' ⟨v,he,J,h1,h2,h3⟩=>⟨v,he,J,_,_,_,h1,h2,.inl ⟨e,O,O,O⟩,h3⟩
 ·have hf:=Xbx (lt:=N6 d1) (ph:=A3) (kS (sB hd)) de;have hl:=Xfd (N6 d1) A3;have h6:=RA d1;have hk:A3.length=25:=rfl;have hb:=rY hf;exact(Xyn (N6 d1) A3 (iX (N6 d1) A3) 192 hf (by rw[<-hb];omega) ((Xbw de).trans hb) (Aam _ _) ra rc hZ As hS).mono λe9 w' ⟨v,he,J,h1,h2,h3⟩=>⟨v,he,J,_,_,_,h1,h2,.inr ⟨e,O⟩,h3⟩
theorem Xhf(d0 d1 d2 d3:Nat)(ZC:d0<18446744073709551616)(EB:d1<18446744073709551616)(mO:d2<18446744073709551616)(hd3:d3<18446744073709551616)(u pw told:Lu)(hu:u.length<=9223372036854775807)(hp:pw.length<=9223372036854775807)(htd:told.length<=9223372036854775807)(B w:Wo)(I:Im)(hZ:Kz I)(hV:Bt I)(As:La)(hS:Aa B w I As):Cz 3 [S u,S pw,S told,.agg #[BH (d0:Nat),BH (d1:Nat),BH (d2:Nat),BH (d3:Nat)]] w λv w'=>v=.bool true/\∃J,Le I J/\Aa B w' J As:=by
 refine gG 0 (.Ls (cs:=[BH (d0:Nat),BH (d1:Nat),BH (d2:Nat),BH (d3:Nat)]) hS (.of O) O ?_);clear hS;intro b7 w hS;refine gF 1 (Vc hZ hV hZ.kn.PZ) ?_;clear hS;rintro _ w ⟨rfl,J1,Bn,hS⟩;have hL:=Bn;replace hV:=hV.mono Bn;replace hZ:=hZ.mono Bn;have hD:=hZ.kn.PZ;refine gF 3 (Xib u pw) ?_;clear hS;rintro _ w ⟨J2,sb,ub,AE,rfl,WH,hu1,hS⟩;replace hD:=hD.mono AE;replace hV:=hV.mono AE;replace hZ:=hZ.mono AE;replace hL:=hL.trans AE;refine gH 4 ?_;clear hS;intro De w hS;refine gE 0 (Xp8 u pw hu hp (some (ad ub 0)) 1 hu1) ?_;clear hS;intro w hS;refine gH 13 (.AA (v:=ptr b7 0) O O (λAi=>.as (.Bc (i:=0) (.of O) (.of O) de de JA US) O) O ?_);refine gH 1 (.AA (v:=ptr b7 1) O O (λAi=>.as (.Bc (i:=1) (.of O) (.of O) de de JA US) O) O ?_);refine gH 4 (.AA (v:=ptr b7 0) O O (λAi=>.as (.Bc (i:=0) (.of O) (.of O) de de JA US) O) O ?_);refine gH 1 (.AA (v:=ptr b7 2) O O (λAi=>.as (.Bc (i:=2) (.of O) (.of O) de de JA US) O) O ?_);refine gH 4 (.AA (v:=ptr b7 1) O O (λAi=>.as (.Bc (i:=1) (.of O) (.of O) de de JA US) O) O ?_);refine gH 1 (.AA (v:=ptr b7 2) O O (λAi=>.as (.Bc (i:=2) (.of O) (.of O) de de JA US) O) O ?_);refine gH 4 (.AA (v:=ptr b7 2) O O (λAi=>.as (.Bc (i:=2) (.of O) (.of O) de de JA US) O) O ?_);refine gH 1 (.AA (v:=ptr b7 3) O O (λAi=>.as (.Bc (i:=3) (.of O) (.of O) de de JA US) O) O ?_);refine gN 3 ?_ ?_<;>intro AaM
 ·exact gG 2 ⟨O,J2,hL,hS.s⟩
 refine gG 0 ?_;have hU:YS u pw:=vV (by
  cases h9:vU u pw with
  | true=>rfl
  | false=>exfalso;simp[h9]at AaM)
 have Aa2:d0≠d1:=by intro h9;simp[h9]at AaM
 have A8:N6 d1≠N6 d0:=λh9=>Aa2 (vN EB ZC h9).symm
 refine .dw (λw=>∃J9 R,Le J2 J9/\Aa B w J9 (Ae De (PA (Kf u pw) (some (ad sb 0)) 1 (some (ad ub 0)) 1) 32::R)) (λj=>!([].contains j)) ?_;replace hS:=hS.drew;generalize w.drew=w at hS ⊢;have hH:∃J9 R,Le J2 J9/\Aa B w J9 (Ae De (PA (Kf u pw) (some (ad sb 0)) 1 (some (ad ub 0)) 1) 32::R):=⟨_,_,Le.refl _,(hS.x [0])⟩
 refine .tk 0 O hH (λw ⟨J9,R,A6,hS⟩=>.GG (vs:=PA (Kf u pw) (some (ad sb 0)) 1 (some (ad ub 0)) 1) (.of O) hS (k:=0) O isAgg32 kl O (λ_ _ h=>by rw[Yj];exact h)) ?_;refine .b1 1 O (.call func8 O (Be O X4) O (Xtn 200 _ hS) ?_);clear hS;rintro _ w ⟨db,kb,sv,rfl,hS⟩;refine .nil ?_;clear hH;have hH:∃J9 R,Le J2 J9/\Aa B w J9 (Ae De (PA (Kf u pw) (some (ad sb 0)) 1 (some (ad ub 0)) 1) 32::R):=⟨_,_,Le.refl _,(hS.x [3])⟩
 refine⟨λ_ _=>hH,?_⟩;refine .b1 2 O (.call func7 O (Be O (Be O (Be O X4))) O (Xos u pw hU 200 de (some (ad sb 0)) 1 (some (ad ub 0)) 1 db kb sv hZ hV WH hu1 _ hS) ?_);clear hS;rintro _ w ⟨J3,x0,BN,rfl,hX,hs,hS⟩;replace hD:=hD.mono BN;replace hV:=hV.mono BN;replace hZ:=hZ.mono BN;replace hL:=hL.trans BN;replace hS:Aa B _ J3 (Ib x0.vb x0.k.sb x0.p.wb x0.qb::Bg x0.p (⟨WB [] [],[],K0 (Dv 200)⟩:CB).Z::GK x0.qb (Et u pw).qc (⟨WB [] [],[],K0 (Dv 200)⟩:CB).q x0.qa x0.qk::IX x0.k (⟨WB [] [],[],K0 (Dv 200)⟩:CB).k::_):=hS;try dsimp only[List.append,List.eraseIdx,List.set]at hS
 refine .nil ?_;clear hH;have hH:∃J9 R,Le J2 J9/\Aa B w J9 (Ae De (PA (Kf u pw) (some (ad sb 0)) 1 (some (ad ub 0)) 1) 32::R):=⟨_,_,BN,(hS.x [4])⟩
 refine⟨λ_ _=>hH,?_⟩;refine .tp 3 O (λw=>(.mo O)) (.tp 4 O (λw=>(.extract (.of O) O)) (.tp 5 O (λw=>(.extract (.of O) O)) (.tp 6 O (λw=>(.ao O)) (.tp 7 O (λw=>(.ao O)) (.dn ?_)))));refine gF 0 (WW) ?_;clear hS;rintro _ w ⟨jb,rfl,hS⟩;refine gH 2 (.val (.eqp (.of O) (.of O) underlying37) O (gH 2 (.AA O O (λAi=>(.neq (.gd Ai O) (.of O))) O (gH 3 (.AA O O (λAi=>(.eqp (.gd Ai O) (.of O) underlying42)) O (gG 1 (.AF (rfl) (gH 1 (.val (.Dm (.of O) de JA US) O ?_)))))))));have DL:=hS.Bw (size:=1) (n:=4) (k:=6) O O (by unfold maxLen;omega);clear hS;obtain⟨J4,EA,hR4,hS⟩:=DL.fV 6;clear DL;try dsimp only[List.eraseIdx,List.set]at hS
 replace hD:=hD.mono EA;replace hV:=hV.mono EA;replace hZ:=hZ.mono EA;replace hL:=hL.trans EA;replace hX:=hX.mono EA;refine gE 0 (Xjo (Et u pw) x0 ⟨WB [] [],[],K0 (Dv 200)⟩ (some (ad b7 0)) 4 [d0,d1,d2,d3] (by show 0<=_;decide) (by show 4<=_;decide) hX hR4) ?_;clear hS;intro w hS;replace hX:Fm J4 (Et u pw) x0 ⟨WB [] [d0,d1,d2,d3],[],(K0 (Dv 200))⟩:=⟨hX.wp,hX.cg,hX.kz,hX.fit,hX.kp,hX.qu⟩
 replace hs:C4 ⟨WB [] [d0,d1,d2,d3],[],(K0 (Dv 200))⟩ 8160:=hs.fed (λd hd=>by
  rcases Yi.1 hd with rfl|hd
  ·exact ZC
  rcases Yi.1 hd with rfl|hd
  ·exact EB
  rcases Yi.1 hd with rfl|hd
  ·exact mO
  ·rw[HH.1 hd];exact hd3)
 replace hS:Aa B _ J4 (Ib x0.vb x0.k.sb x0.p.wb x0.qb::Bg x0.p (⟨WB [] [d0,d1,d2,d3],[],(K0 (Dv 200))⟩:CB).Z::GK x0.qb (Et u pw).qc (⟨WB [] [d0,d1,d2,d3],[],(K0 (Dv 200))⟩:CB).q x0.qa x0.qk::IX x0.k (⟨WB [] [d0,d1,d2,d3],[],(K0 (Dv 200))⟩:CB).k::_):=hS;try dsimp only[List.append,List.eraseIdx,List.set]at hS
 refine gF 1 (w4 AV [] [] (.inl O) (kR (.inl O) (.inl O)) (kR (.inr O) (.inl O)) ⟨de,de,de,λh hh=>by cases hh⟩ de de de (λh hh=>by cases hh) (λh hh=>by cases hh) none none 0 0 hZ hD (RS.nil _ _) (RS.nil _ _)) ?_;clear hS;rintro _ w ⟨J5,rfl,H9,hS⟩;replace hD:=hD.mono H9;replace hV:=hV.mono H9;replace hZ:=hZ.mono H9;replace hL:=hL.trans H9;replace hX:=hX.mono H9;obtain⟨K1,Jr,eh⟩:=TL (u:=u) (pw:=pw) (wA [d0,d1,d2,d3]) O ZC;refine gF 0 (xB Jr (z7 (kR (path:=AV) (.inr O) (.inl O))) hs de hX) ?_;clear hS;rintro _ w ⟨rfl,J6,x1,jE,KN,hX,hs,hS⟩;replace hD:=hD.mono jE;replace hV:=hV.mono jE;replace hZ:=hZ.mono jE;replace hL:=hL.trans jE;replace hS:Aa B _ J6 (Ib x1.vb x1.k.sb x1.p.wb x1.qb::Bg x1.p (⟨WB [Ef d0] [d1,d2,d3],[],K1⟩:CB).Z::GK x1.qb (Et u pw).qc (⟨WB [Ef d0] [d1,d2,d3],[],K1⟩:CB).q x1.qa x1.qk::IX x1.k (⟨WB [Ef d0] [d1,d2,d3],[],K1⟩:CB).k::_):=hS;try dsimp only[List.append,List.eraseIdx,List.set]at hS
 rw[<-KN];refine .val (.FR (off:=0) (.of O) Pp O O BF O) O (gF 0 (wY (CD (N6 d0) [] []) O (pL ZC (.inl O)) (Xfl _) hZ) ?_);clear hS;rintro _ w ⟨J7,a1,c1,rfl,ud,Qh,hH1,hS⟩;replace hD:=hD.mono ud;replace hV:=hV.mono ud;replace hZ:=hZ.mono ud;replace hL:=hL.trans ud;replace hX:=hX.mono ud;refine gH 7 ?_;clear hS;intro jA w hS;refine gF 0 (X8m (N6 d0) [] (nB (RA _)) de (aQ (N6 d0)) 193 (wT (kS (sB ZC))) (w7 ZC).1 (w7 ZC).2.1 (w7 ZC).2.2 (Xra _) (tR _) (by show 1<=100;decide) a1 c1 hZ hH1) ?_;clear hS;rintro _ w ⟨J8,rfl,hJ8,hS⟩;replace hD:=hD.mono hJ8;replace hV:=hV.mono hJ8;replace hZ:=hZ.mono hJ8;replace hL:=hL.trans hJ8;replace hX:=hX.mono hJ8;refine gH 14 (gG 1 (.AF (rfl) (gH 8 ?_)));clear hS;intro Ab0 w hS;have DL:=hS.Bw (size:=2) (n:=3) (k:=0) O O (by unfold maxLen;omega);clear hS;obtain⟨J9,Eb,mz,hS⟩:=DL.fV 0;clear DL;try dsimp only[List.eraseIdx,List.set]at hS
 replace hD:=hD.mono Eb;replace hV:=hV.mono Eb;replace hZ:=hZ.mono Eb;replace hL:=hL.trans Eb;replace hX:=hX.mono Eb;have WJ:told.length<=60:=om
 have jN:=AbH hU.name.2 WJ (d:=d0) ;refine gF 0 (w4 AV (Iv (N6 d0) u told) [] (.inr O) (Xpg (.inl O) (nB (RA _)) hU.name.2 WJ) (Xpg (.inr O) (nB (RA _)) hU.name.2 WJ) jN.1 (by show 1<=32;decide) (by show 3<=100;decide) de jN.2 (λh hh=>by cases hh) (some (ad Ab0 0)) none 3 0 hZ hD mz (RS.nil _ _)) ?_;clear hS;rintro _ w ⟨J10,rfl,dh,hS⟩;replace hD:=hD.mono dh;replace hV:=hV.mono dh;replace hZ:=hZ.mono dh;replace hL:=hL.trans dh;replace hX:=hX.mono dh;obtain⟨r2,l2,K2,ht,JW,ek⟩:=wt (u:=u) (pw:=pw) (told:=told) eh O ZC EB hU.name.2 WJ;have ho:=ht.ok EB hU.name.2;refine gF 0 (xB JW (z7 (Xpg (.inr O) (nB (RA _)) hU.name.2 WJ)) hs de hX) ?_;clear hS;rintro _ w ⟨rfl,J11,x2,my,hx2,hX,hs,hS⟩;replace hD:=hD.mono my;replace hV:=hV.mono my;replace hZ:=hZ.mono my;replace hL:=hL.trans my;replace hS:Aa B _ J11 (Ib x2.vb x2.k.sb x2.p.wb x2.qb::Bg x2.p (⟨WB l2 [d2,d3],[],K2⟩:CB).Z::GK x2.qb (Et u pw).qc (⟨WB l2 [d2,d3],[],K2⟩:CB).q x2.qa x2.qk::IX x2.k (⟨WB l2 [d2,d3],[],K2⟩:CB).k::_):=hS;try dsimp only[List.append,List.eraseIdx,List.set]at hS
 rw[<-hx2];refine .val (.FR (off:=0) (.of O) Pp O O BF O) O (gF 0 (wY r2 ho.1 ho.2.1 ho.2.2.1 hZ) ?_);clear hS;rintro _ w ⟨J12,a2,c2,rfl,Gw,HK,hH2,hS⟩;replace hD:=hD.mono Gw;replace hV:=hV.mono Gw;replace hZ:=hZ.mono Gw;replace hL:=hL.trans Gw;replace hX:=hX.mono Gw;refine gH 8 ?_;clear hS;intro lN w hS;refine gF 0 (W1 ht EB hU.name.2 a2 c2 jb hZ hH2) ?_;clear hS;rintro _ w ⟨J13,ja,jc,lj,rfl,P9,JK,hlj,hS⟩;replace hD:=hD.mono P9;replace hV:=hV.mono P9;replace hZ:=hZ.mono P9;replace hL:=hL.trans P9;replace hX:=hX.mono P9;refine gG 7 (.AF (rfl) (gF 1 (bP r2 ho.2.2.2 a2 c2 (hH2.mono P9)) ?_));clear hS;rintro _ w ⟨J14,ba,bc,rfl,LA,hB2,hS⟩;replace hD:=hD.mono LA;replace hV:=hV.mono LA;replace hZ:=hZ.mono LA;replace hL:=hL.trans LA;replace hX:=hX.mono LA;refine gF 0 (XJ ht EB hU ba bc hZ hB2) ?_;clear hS;rintro _ w ⟨J15,pk,pt,pp,rfl,LB,hpg,hS⟩;replace hD:=hD.mono LB;replace hV:=hV.mono LB;replace hZ:=hZ.mono LB;replace hL:=hL.trans LB;replace hX:=hX.mono LB;refine gN 10 ?_ ?_<;>intro KI
 ·refine gG 0 ?_;obtain⟨_,m_,rfl⟩:=ht.resolve_left (λh9=>KI h9.1);subst m_;obtain⟨_,rfl⟩:=hlj.resolve_left (λh9=>KI h9.1);obtain⟨_,rfl⟩:=hpg.resolve_left (λh9=>KI h9.1);refine gF 1 (X8m (N6 d1) A3 (nB (RA _)) de (iX (N6 d1) A3) 192 (Xbx (kS (sB EB)) de) (Xfe EB).1 (Xfe EB).2.1 (Xfe EB).2.2 (mn _ _) (Y5 (λx=>(Option.getD x fp).text) (Aam (N6 d1) A3)) (by rw[sf de];show 1<=100;decide) a2 c2 hZ (((hH2.mono P9).mono LA).mono LB)) ?_;clear hS;rintro _ w ⟨J16,rfl,G4,hS⟩;replace hD:=hD.mono G4;replace hV:=hV.mono G4;replace hZ:=hZ.mono G4;replace hL:=hL.trans G4;replace hX:=hX.mono G4;refine gH 11 (.DA O O O (gH 1 (.DA O O O (gH 1 (.val (.pick (.of O) (.of O) (.of O)) O (gH 1 (.DA O O O (gH 1 (.val (.pick (.of O) (.of O) (.of O)) O (gH 1 (.DA O O O (gH 1 (.DA O O O (gH 1 (.DA O O O (gH 1 ?_))))))))))))))));rw[show(N6 d1==N6 d0)=false from beq_eq_false_iff_ne.2 A8];refine .val (.pick (.of O) (.of O) (.of O)) O (gH 1 (.DA O O O (gH 1 (.DA O O O (gH 1 (.val (.pick (.of O) (.of O) (.of O)) O (gH 1 (.DA O O O (gH 1 (.DA O O O (gF 0 (Xoa jb ja jc [] de (((JK.mono LA).mono LB).mono G4)) ?_)))))))))));clear hS;rintro _ w ⟨k9a,k9c,rfl,hS⟩;refine .DA O O O (gH 1 (.DA O O O (gH 1 (.val (.pick (.of O) (.of O) (.of O)) O ?_))));exact gG 1 ⟨O,J16,hL,hS.s⟩
 refine gG 0 ?_;obtain⟨_,_,rfl⟩:=ht.resolve_right (λh9=>h9.1 KI);obtain⟨_,rfl⟩:=hlj.resolve_right (λh9=>h9.1 KI);obtain⟨_,rfl,rp,rfl⟩:=hpg.resolve_right (λh9=>h9.1 KI);have rp:=rp.symm;subst rp;refine gF 2 (X6q jb ja jc [jC (N1 d1)] (by show 1<=20;decide) (λk hk=>by rw[HH.1 hk]) (AV.drop 1) de true ((JK.mono LA).mono LB)) ?_;clear hS;rintro _ w ⟨J16,k3a,k3c,rfl,G4,hQ3,hS⟩;replace hD:=hD.mono G4;replace hV:=hV.mono G4;replace hZ:=hZ.mono G4;replace hL:=hL.trans G4;replace hX:=hX.mono G4;replace JK:=(((JK.mono LA).mono LB).mono G4)
 refine gF 0 (w4 AV [] [(Bz,N1 d1)] (.inl O) (qg (.inl O) (.inl O) (OO EB) (nB (Y_ _))) (qg (.inr O) (.inl O) (OO EB) (nB (Y_ _))) (TD (.inl O)).1 (by show 1<=32;decide) de (by show 1<=100;decide) (λh hh=>by cases hh) (TD (d:=d1) (.inl O)).2 none k3a 0 k3c hZ hD (RS.nil _ _) hQ3) ?_;clear hS;rintro _ w ⟨J17,rfl,V6,hS⟩;replace hD:=hD.mono V6;replace hV:=hV.mono V6;replace hZ:=hZ.mono V6;replace hL:=hL.trans V6;replace hX:=hX.mono V6;obtain⟨K3,qY,hf3⟩:=oU (u:=u) (pw:=pw) ek O EB hU.name.2;refine gF 0 (xB qY (z7 (qg (path:=AV) (.inr O) (.inl O) (OO EB) (nB (Y_ _)))) hs de hX) ?_;clear hS;rintro _ w ⟨rfl,J18,x3,di,hx3,hX,hs,hS⟩;replace hD:=hD.mono di;replace hV:=hV.mono di;replace hZ:=hZ.mono di;replace hL:=hL.trans di;replace hS:Aa B _ J18 (Ib x3.vb x3.k.sb x3.p.wb x3.qb::Bg x3.p (⟨WB [Eh d1 u] [d2,d3],[],K3⟩:CB).Z::GK x3.qb (Et u pw).qc (⟨WB [Eh d1 u] [d2,d3],[],K3⟩:CB).q x3.qa x3.qk::IX x3.k (⟨WB [Eh d1 u] [d2,d3],[],K3⟩:CB).k::_):=hS;try dsimp only[List.append,List.eraseIdx,List.set]at hS
 rw[<-hx3];refine .val (.FR (off:=0) (.of O) Pp O O BF O) O (gF 0 (wY (CE AN u) O (Xcd hU.name.2) (Xfl _) hZ) ?_);clear hS;rintro _ w ⟨J19,a3,c3,rfl,V7,hc3,hH3,hS⟩;replace hD:=hD.mono V7;replace hV:=hV.mono V7;replace hZ:=hZ.mono V7;replace hL:=hL.trans V7;replace hX:=hX.mono V7;refine gH 7 ?_;clear hS;intro b32 w hS;refine gF 0 (Xjb AN u de (oh hU.name) (aX AN u) 197 (Xdx hU).1 (Xdx hU).2.1 (Xdx hU).2.2.1 (Xdx hU).2.2.2 (eC _ _) (by show 1<=100;decide) a3 c3 hZ hH3) ?_;clear hS;rintro _ w ⟨J20,rfl,V8,hS⟩;replace hD:=hD.mono V8;replace hV:=hV.mono V8;replace hZ:=hZ.mono V8;replace hL:=hL.trans V8;replace hX:=hX.mono V8;replace JK:=((((JK.mono V6).mono di).mono V7).mono V8)
 refine gH 10 (.DA O O O (gH 1 (.DA O O O (gH 1 (.val (.pick (.of O) (.of O) (.of O)) O (gH 1 (.DA O O O (gH 1 (.DA O O O (gH 1 (.DA O O O (gH 1 ?_))))))))))));rw[show(u==u)=true from beq_self_eq_true u];refine .val (.pick (.of O) (.of O) (.of O)) O (gH 1 (.DA O O O (gH 1 (.DA O O O (gH 1 (.val (.pick (.of O) (.of O) (.of O)) O (gH 1 (.DA O O O (gH 1 (.DA O O O (gH 1 (.val (.pick (.of O) (.of O) (.of O)) O (gH 1 (.DA O O O (gH 1 (.DA O O O (gH 1 (.DA O O O (gH 1 ?_)))))))))))))))))));rw[show(u==u)=true from beq_self_eq_true u];refine .val (.pick (.of O) (.of O) (.of O)) O (gH 1 (.DA O O O (gH 1 (.DA O O O ?_))));refine gF 0 (X6q jb ja jc [jC (N1 d1)] (by show 1<=20;decide) (λk hk=>by rw[HH.1 hk]) (AV.drop 1) de false JK) ?_;clear hS;rintro _ w ⟨J21,k9a,k9c,rfl,V9,hQ9,hS⟩;replace hD:=hD.mono V9;replace hV:=hV.mono V9;replace hZ:=hZ.mono V9;replace hL:=hL.trans V9;replace hX:=hX.mono V9;replace JK:=JK.mono V9;refine .DA O O O (gH 1 (.DA O O O (gH 1 (.val (.pick (.of O) (.of O) (.of O)) O (gG 0 (.AF (rfl) ?_))))));refine gF 2 (X6q jb ja jc [jC (N1 d1)] (by show 1<=20;decide) (λk hk=>by rw[HH.1 hk]) (CM.drop 1) de true JK) ?_;clear hS;rintro _ w ⟨J22,k4a,k4c,rfl,V_,hQ4,hS⟩;replace hD:=hD.mono V_;replace hV:=hV.mono V_;replace hZ:=hZ.mono V_;replace hL:=hL.trans V_;replace hX:=hX.mono V_;replace JK:=JK.mono V_;refine gF 0 (w4 CM [] [(Bz,N1 d1)] (.inl O) (qg (.inl O) (.inr O) (OO EB) (nB (Y_ _))) (qg (.inr O) (.inr O) (OO EB) (nB (Y_ _))) (TD (.inr O)).1 (by show 1<=32;decide) de (by show 1<=100;decide) (λh hh=>by cases hh) (TD (d:=d1) (.inr O)).2 none k4a 0 k4c hZ hD (RS.nil _ _) hQ4) ?_;clear hS;rintro _ w ⟨J23,rfl,Wa,hS⟩;replace hD:=hD.mono Wa;replace hV:=hV.mono Wa;replace hZ:=hZ.mono Wa;replace hL:=hL.trans Wa;replace hX:=hX.mono Wa;obtain⟨K4,uW,hf4⟩:=wq (u:=u) (pw:=pw) hf3 O EB;refine gF 0 (xB uW (z7 (qg (path:=CM) (.inr O) (.inr O) (OO EB) (nB (Y_ _)))) hs de hX) ?_;clear hS;rintro _ w ⟨rfl,J24,x4,dj,WK,hX,hs,hS⟩;replace hD:=hD.mono dj;replace hV:=hV.mono dj;replace hZ:=hZ.mono dj;replace hL:=hL.trans dj;replace hS:Aa B _ J24 (Ib x4.vb x4.k.sb x4.p.wb x4.qb::Bg x4.p (⟨WB [] [d2,d3],[],K4⟩:CB).Z::GK x4.qb (Et u pw).qc (⟨WB [] [d2,d3],[],K4⟩:CB).q x4.qa x4.qk::IX x4.k (⟨WB [] [d2,d3],[],K4⟩:CB).k::_):=hS;try dsimp only[List.append,List.eraseIdx,List.set]at hS
 rw[<-WK];refine .val (.FR (off:=0) (.of O) Pp O O BF O) O (gF 0 (wY (Hl (CE GF []) rO) O Xgb (Xri dk) hZ) ?_);clear hS;rintro _ w ⟨J25,a4,c4,rfl,Wb,SD,hH4,hS⟩;replace hD:=hD.mono Wb;replace hV:=hV.mono Wb;replace hZ:=hZ.mono Wb;replace hL:=hL.trans Wb;replace hX:=hX.mono Wb;refine gH 8 ?_;clear hS;intro b37 w hS;refine gF 0 (Xod (Hl (CE GF []) rO) (by show 2<=33;decide) (Xri dk) a4 c4 ckB rO (Ds []) PEB wg XW (Xuc _ _) jb ja jc [jC (N1 d1)] (by show 1<=1;decide) (λr hr=>by rw[HH.1 hr];rfl) hZ hH4 (((JK.mono Wa).mono dj).mono Wb)) ?_;clear hS;rintro _ w ⟨J26,ja2,jc2,rfl,dm,JK,hS⟩;replace hD:=hD.mono dm;replace hV:=hV.mono dm;replace hZ:=hZ.mono dm;replace hL:=hL.trans dm;replace hX:=hX.mono dm;rw[oB]at JK hS;refine gF 3 (X6q jb ja2 jc2 [] (by show 0<=20;decide) (λk hk=>by cases hk) (AV.drop 1) de true JK) ?_;clear hS;rintro _ w ⟨J27,k5a,k5c,rfl,Wc,hQ5,hS⟩;replace hD:=hD.mono Wc;replace hV:=hV.mono Wc;replace hZ:=hZ.mono Wc;replace hL:=hL.trans Wc;replace hX:=hX.mono Wc;replace JK:=JK.mono Wc;refine gF 0 (w4 AV [] [] (.inl O) (kR (.inl O) (.inl O)) (kR (.inr O) (.inl O)) ⟨de,de,de,λh hh=>by cases hh⟩ de de de (λh hh=>by cases hh) (λh hh=>by cases hh) none k5a 0 k5c hZ hD (RS.nil _ _) hQ5) ?_;clear hS;rintro _ w ⟨J28,rfl,We,hS⟩;replace hD:=hD.mono We;replace hV:=hV.mono We;replace hZ:=hZ.mono We;replace hL:=hL.trans We;replace hX:=hX.mono We;obtain⟨K5,hk5,hf5⟩:=TL (u:=u) (pw:=pw) hf4 O mO;refine gF 0 (xB hk5 (z7 (kR (path:=AV) (.inr O) (.inl O))) hs de hX) ?_;clear hS;rintro _ w ⟨rfl,J29,x5,dq,vu,hX,hs,hS⟩;replace hD:=hD.mono dq;replace hV:=hV.mono dq;replace hZ:=hZ.mono dq;replace hL:=hL.trans dq;replace hS:Aa B _ J29 (Ib x5.vb x5.k.sb x5.p.wb x5.qb::Bg x5.p (⟨WB [Ef d2] [d3],[],K5⟩:CB).Z::GK x5.qb (Et u pw).qc (⟨WB [Ef d2] [d3],[],K5⟩:CB).q x5.qa x5.qk::IX x5.k (⟨WB [Ef d2] [d3],[],K5⟩:CB).k::_):=hS;try dsimp only[List.append,List.eraseIdx,List.set]at hS
 rw[<-vu];refine .val (.FR (off:=0) (.of O) Pp O O BF O) O (gF 0 (wY (CD (N6 d2) [] []) O (pL mO (.inl O)) (Xfl _) hZ) ?_);clear hS;rintro _ w ⟨J30,a5,c5,rfl,Wg,Wu,hH5,hS⟩;replace hD:=hD.mono Wg;replace hV:=hV.mono Wg;replace hZ:=hZ.mono Wg;replace hL:=hL.trans Wg;replace hX:=hX.mono Wg;refine gH 7 ?_;clear hS;intro b40 w hS;refine gF 0 (X8m (N6 d2) [] (nB (RA _)) de (aQ (N6 d2)) 193 (wT (kS (sB mO))) (w7 mO).1 (w7 mO).2.1 (w7 mO).2.2 (Xra _) (tR _) (by show 1<=100;decide) a5 c5 hZ hH5) ?_;clear hS;rintro _ w ⟨J31,rfl,Wh,hS⟩;replace hD:=hD.mono Wh;replace hV:=hV.mono Wh;replace hZ:=hZ.mono Wh;replace hL:=hL.trans Wh;replace hX:=hX.mono Wh;refine gH 11 (.DA O O O (gH 1 (.val (.pick (.of O) (.of O) (.of O)) O (gH 1 (.DA O O O (gH 1 (.DA O O O (gF 0 (Xoa jb ja2 jc2 [] de (((((JK.mono We).mono dq).mono Wg)).mono Wh)) ?_))))))));clear hS;rintro _ w ⟨k9a,k9c,rfl,hS⟩;refine .DA O O O (gH 1 (.DA O O O (gH 1 (.val (.pick (.of O) (.of O) (.of O)) O (gH 1 (.DA O O O (gH 1 (.val (.pick (.of O) (.of O) (.of O)) O (gH 1 (.DA O O O (gH 1 (.DA O O O (gF 0 (Xls (Et u pw) x5 ⟨WB [Ef d2] [d3],[],K5⟩ hs.Z hX) ?_)))))))))))));clear hS;rintro _ w ⟨J32,ta,tc,rfl,Acd,htc,hRt,hS⟩;refine .DA O O O (gH 1 (.DA O O O (gH 1 (.val (.pick (.of O) (.of O) (.of O)) O ?_))));exact gG 1 ⟨O,J32,hL.trans Acd,hS.s⟩
end Go.Proofs.W9
namespace Gk
open Go Go.RowKit Go.WideShapes Go.ChangeShapes
section
variable {H:Type} {AD:TypeId×Va->H}
def AbW(AD:TypeId×Va->H)(a:Assume)(C:Checked)(os:Os)(f:FuncId)(fn:Func)(s:ChangeSpec)(conds:List PathCond)(apart:Bool)(X:Wo->Array Va->Prop):Prop :=
  ∃(w:Wo) (tape:Tape) (i:Input),w.os=os/\(w.forCall tape i).Shaped C.prog/\i.vars=[]/\Input.okWide C.prog (w.forCall tape i) .any w.heap.size f i/\
   ((s.pre AD C.prog fn conds apart (w.forCall tape i).memory i.args/\X (w.forCall tape i).memory i.args)/\sizedMet AD C.prog fn (OpenSpec.ofChange s) apart (w.forCall tape i).memory i.args)/\a.holds C.prog (lone (Frame.enter C.prog f i.args .normal) [] (w.forCall tape i))
theorem Xas{a:Assume}{C:Checked}{os:Os}{s:ChangeSpec}{conds:List PathCond}{apart fresh handsOn again:Bool}{X:Wo->Array Va->Prop}
  (hX:∀(w w':Wo) (args:Array Va),w.heap=w'.heap->X w args->X w' args)
  (own:ownKnob C.prog.godebug=none) (started:os.Started) (vP:C.prog.inits.idxOf? f=none) (EJ:C.prog.funcs[f]?=some fn)
  (witness:AbW AD a C os f fn s conds apart X)
  (bZ:∀(W:Wo) (base:Nat) (args:Array Va) (ds gs:List (DataW H)) (before:List MemPlace),
   (∀(j:Nat) t v,fn.params[j]?=some t->args[j]?=some v->Value.okWide C.prog W .any base t v)->
   DataW.Whole AD C.prog fn.params.toList s.vars apart W args.toList ds gs before->X W args->W.ShapedOpen C.prog->
   Calls C.prog f args W λe W'=>∃v,e=.returned v/\s.post AD C.prog fn apart fresh handsOn again W args v W') :
  ReturnsInHanded a C os f .any (λw args=>(s.pre AD C.prog fn conds apart w args/\X w args)/\sizedMet AD C.prog fn (OpenSpec.ofChange s) apart w args) (s.post AD C.prog fn apart fresh handsOn again):=by
 refine returnsInHanded_of_calls own started vP witness ?_;intro w tape i _ Hw _ Dz Aa_ _;obtain⟨_,_,_,fn',Ac1,_,_,_,_,Adx⟩:=Dz;have e:fn'=fn:=Option.some.inj (Ac1.symm.trans EJ);subst e;obtain⟨⟨⟨ds,gs,before,hw,hc⟩,hx⟩,hz⟩:=Aa_;have hw':=DataW.Whole.of_heap (w':=w.forCall tape i) (by rfl) hw;refine(bZ (w.forCall tape i) w.heap.size i.args ds gs before Adx hw' (hX _ _ _ (by rfl) hx) Hw).mono λe W' ⟨v,he,hp⟩=>?_
 subst he;exact ChangeSpec.post_blind hp
end
section
variable {P:Program} {W:Wo}
theorem X5q{name:String}{k:IntKind}{zs:List Int}{g:Nat}{t e:TypeId}
  (hg:P.globalNamed name=some g) (hty:(P.globals[g]?).map (·.type)=some t) (ht:P.underlying t=some (.array n e)) (he:P.underlying e=some (.int k)) (hce:P.cellsOf e=1) (hct:P.cellsOf t=n)
  (h:Lib.VarReads P W name (Lib.tabData k zs)):Lib.TabIs P W name k zs:=by
 obtain⟨g',t',cs,fuel,p,jJ,rj,Qu,hd⟩:=h;obtain rfl:=Option.some.inj (hg.symm.trans jJ);obtain rfl:=Option.some.inj (hty.symm.trans rj);unfold Lib.TabIs;rw[Qu,<-Lib.cells_of_tab ht he hce hct hd]
theorem ig{name:String}{k:IntKind}{zs:List Int}{g:Nat}(hg:P.globalNamed name=some g)(h:Lib.TabIs P W name k zs)(h0:0<zs.length):At (ZG W) (ad g 0) (zs.map λz=>.int k z):=by
 refine PS (by rw[Yh];exact h0) λj v hj=>?_
 rw[Ys]at hj;cases hz:zs[j]? with
 | none=>rw[hz]at hj;cases hj
 | some z =>
  rw[hz]at hj;have ER:=(Y1.1 hz).1;have hc:=h.cell hg j ER;rw[EE,Yj,hc,Ya,hz,<-hj];rfl
variable {B w:Wo} {As:La}
theorem Xn6{o:Obj}(h:W.heap[b]?=some o)(hS:Aa B w (ZG W) As):w.heap[b]?=some o:=by
 obtain⟨_,_,hg⟩:=hS;exact hg.MB b o h
theorem TO{name:String}{k:IntKind}{zs:List Int}(h:Lib.TabIs P W name k zs)(hS:Aa B w (ZG W) As):Lib.TabIs P w name k zs:=by
 unfold Lib.TabIs World.var? at h ⊢;cases hg:P.globalNamed name with
 | none=>rw[hg]at h;cases h
 | some g =>
  rw[hg]at h;simp only[qH]at h ⊢
  cases hb:W.heap[g]? with
  | none=>rw[hb]at h;cases h
  | some o =>
   rw[Xn6 hb hS];rw[hb]at h;exact h
theorem Xkh{a:Addr}(h:W.cell? a=some v)(hS:Aa B w (ZG W) As):w.cell? a=some v:=by
 unfold World.cell? at h ⊢;cases hb:W.heap[a.block]? with
 | none=>rw[hb]at h;cases h
 | some o=>rw[Xn6 hb hS];rw[hb]at h;exact h
end
end Gk
namespace Go.Proofs.W9
open Gk Pc Xm Tk Go.ChangeMaps Go.ChangeShapes Go.RowKit
open Tryz
open Go.Proofs.YtodpmplklniohaaGreatDoor
theorem Xxc:Rows.laid_matricula_pct_digits (H:=Unit)=Lib.tabData .u8 (Gl.map λc=>(c.toNat:Int)):=by kernel_rfl
theorem ow:Rows.laid_internal_strconv_uint64pow10 (H:=Unit)=Lib.tabData .u64 Lib.pow10Tab:=by kernel_rfl
def Xlv(zs:List Lu):DataW H:=.agg (zs.map λz=>.lit (.string z))
theorem oz:Rows.laid_matricula_ticket_prefixes (H:=Unit)=Xlv Ig:=by kernel_rfl
theorem Xhh{AD:TypeId×Va->H}{base:Nat}{t e:TypeId}{zs:List Lu}{p:List MemPlace}
  (ht:P.underlying t=some (.array n e)) (he:P.underlying e=some .string) (hce:P.cellsOf e=1) (hct:P.cellsOf t=n)
  (h:DataW.trod AD P w base sp held fuel t cs=some (Xlv zs,p)):cs=zs.map S:=by
 cases fuel with
 | zero=>simp[DataW.trod]at h
 | succ fuel =>
  simp only[DataW.trod,ht,hce,hct,Gv]at h
  split at h
  ·rename_i hl
   obtain⟨xs,hm,hx⟩:=lr.1 h;have zj:xs.map (·.1)=zs.map λz=>(DataW.lit (.string z):DataW H):=by
    have:=Y5 Prod.fst hx
    simpa[Xlv]using this
   have CW:xs.length=n:=by simpa using Lib.mapM_length hm
   have zm:zs.length=n:=by
    have:=Y5 List.length zj
    simp at this
    omega
   apply U7
   intro i
   by_cases hi:i<n
   ·obtain⟨b,hb,hf⟩:=Lib.mapM_at hm i i (by simp[hi]);obtain⟨z,hc,rfl,_⟩:=DataW.trod_string he hf;have h1:cs[i]?=some (.string z):=by
     have:=Y5 (·[0]?) hc
     simpa[jw,U6]using this
    have h2:(xs.map (·.1))[i]?=some (DataW.lit (.string z.data.toList):DataW H):=by simp[hb]
    rw[zj]at h2;simp only[Ys,lr,DataW.lit.injEq,Lit.string.injEq]at h2
    obtain⟨z',hz',e'⟩:=h2;rw[h1,Ys,hz',e'];rfl
   ·rw[jr om,jr (by simp;omega)]
  ·cases h
theorem ox{W : World}(h : Lib.VarReads prog W "matricula/ticket.prefixes" Rows.laid_matricula_ticket_prefixes): BB (ZG W) := by
 rw[oz]at h;obtain⟨g',t',cs,fuel,p,jJ,rj,Qu,hd⟩:=h;obtain rfl := Option.some.inj ((show prog.globalNamed "matricula/ticket.prefixes" = some 3 by kernel_rfl).symm.trans jJ);obtain rfl:=Option.some.inj ((show(prog.globals[3]?).map (·.type)=some 452 by kernel_rfl).symm.trans rj);have G_:=Xhh ye BV kr kr hd;refine PS de λj v hj=>?_
 have h2:=World.var?_cell jJ Qu j;rw[EE,Yj];rw[<-lu,G_,hj]at h2;exact h2
theorem zK{W:Wo}{y:DataW Unit×List MemPlace}{a b:Lu}(h:DataW.trod (λ_=>()) prog W 0 sp held fuel 58 cs=some y)(hy:y.1=.agg [.lit (.string a),.lit (.string b)]):cs=[S a,S b]:=by
 obtain⟨xs,n,_,hx,IL,CW,hf⟩:=DataW.trod_struct PI h;rw[show prog.cellsOf 58=2 from by kernel_rfl]at IL;have h0:DataW.trod (λ_=>()) prog W 0 sp held n 9 ((cs.drop 0).take (prog.cellsOf 9))=xs[0]?:=hf 0 _ O;have h1:DataW.trod (λ_=>()) prog W 0 sp held n 9 ((cs.drop 1).take (prog.cellsOf 9))=xs[1]?:=hf 1 _ O;rw[show prog.cellsOf 9=1 from by kernel_rfl]at h0 h1;have Adz:xs.length=2:=CW;clear hf CW h;obtain⟨u,v,rfl⟩:∃u v,cs=[u,v]:=by
  match cs,IL with
  | [u,v],_=>exact⟨u,v,O⟩
 obtain⟨x0,x1,rfl⟩:∃u v,xs=[u,v]:=by
  match xs,Adz with
  | [u,v],_=>exact⟨u,v,O⟩
 simp only[Kw,O5,qG,RU]at h0 h1
 obtain⟨s0,e0,ex0,_⟩:=DataW.trod_string BV (h0.trans O);obtain⟨s1,e1,ex1,_⟩:=DataW.trod_string BV (h1.trans O);subst hx;simp only[Yt,Hm,DataW.agg.injEq,List.cons.injEq,and_true]at hy
 rw[ex0,ex1]at hy;simp only[DataW.lit.injEq,Lit.string.injEq]at hy
 obtain⟨rfl,rfl⟩:=hy;injection e0 with e0;injection e1 with e1
 rw[e0,e1]
theorem Xs0{W:Wo}{p:List MemPlace}(h:DataW.trod (λ_=>()) prog W 0 sp held fuel 423 cs=some (Rows.laid_matricula_xml_marks,p)):cs=rT:=by
 obtain⟨xs,n,_,hx,IL,CW,hf⟩:=DataW.trod_array M4 h;rw[show prog.cellsOf 423=10 from by kernel_rfl]at IL;rw[show prog.cellsOf 58=2 from by kernel_rfl]at hf;have hm:=Y5 Prod.fst hx;unfold Rows.laid_matricula_xml_marks at hm
 match cs,IL,xs,CW with
 | [v0,v1,v2,v3,v4,v5,v6,v7,v8,v9],_,[x0,x1,x2,x3,x4],_ =>
  simp only[Yt,Hm,DataW.agg.injEq,List.cons.injEq,and_true]at hm
  obtain⟨m0,m1,m2,m3,m4⟩:=hm;have f0:=zK ((hf 0 de).trans O) m0.symm;have f1:=zK ((hf 1 de).trans O) m1.symm;have f2:=zK ((hf 2 de).trans O) m2.symm;have f3:=zK ((hf 3 de).trans O) m3.symm;have f4:=zK ((hf 4 de).trans O) m4.symm;simp at f0 f1 f2 f3 f4
  obtain⟨rfl,rfl⟩:=f0;obtain⟨rfl,rfl⟩:=f1;obtain⟨rfl,rfl⟩:=f2;obtain⟨rfl,rfl⟩:=f3;obtain⟨rfl,rfl⟩:=f4;rfl
theorem fg{W : World}(h : Lib.VarReads prog W "matricula/xml.marks" Rows.laid_matricula_xml_marks): At (ZG W) (ad 1 0) rT := by
 obtain⟨g',t',cs,fuel,p,jJ,rj,Qu,hd⟩:=h;obtain rfl := Option.some.inj ((show prog.globalNamed "matricula/xml.marks" = some 1 by kernel_rfl).symm.trans jJ);obtain rfl:=Option.some.inj ((show(prog.globals[1]?).map (·.type)=some 423 by kernel_rfl).symm.trans rj);have G_:=Xs0 hd;refine PS de λj v hj=>?_
 have h2:=World.var?_cell jJ Qu j;rw[EE,Yj];rw[<-lu,G_,hj]at h2;exact h2
def HLV:List Int:=[0,274646895,549293790,820201905,1098587580,1361435347,1640403810,1905808397,2197175160,2460548119,2722870694,2987750089,3280807620,3553878443,3811616794,4084100981]
theorem Xxn:Rows.laid_matricula_crc_halves (H:=Unit)=Lib.tabData .u32 HLV:=by kernel_rfl
theorem Xo5:HVV=HLV.map λz=>Value.int .u32 z:=by kernel_rfl
theorem Xxs{AD:TypeId×Va->H}{base:Nat}{t:TypeId}{nm:String}{d:DataW H}{p:List MemPlace}{ms:Array (String×TypeId)}(ht:P.underlying t=some (.interface ms))(h:DataW.trod AD P w base sp held fuel t cs=some (.iface nm d,p)):∃u v,cs=[.iface u v]:=by
 cases fuel with
 | zero=>simp[DataW.trod]at h
 | succ fuel =>
  unfold DataW.trod at h;rw[ht]at h;split at h<;>simp_all
theorem Xty{W:Wo}{nm:String}{gi:Nat}{ty:String}{d:DataW Unit}(hg:prog.globalNamed nm=some gi)(ht:(prog.globals[gi]?).map (·.type)=some 198)(h:Lib.VarReads prog W nm (.iface ty d)):∃te pe,W.cell? ⟨gi,0,none⟩=some (.iface te pe):=by
 obtain⟨g',t',cs,fuel,p,jJ,rj,Qu,hd⟩:=h;obtain rfl:=Option.some.inj (hg.symm.trans jJ);obtain rfl:=Option.some.inj (ht.symm.trans rj);obtain⟨u,v,G_⟩:=Xxs Q_ hd;have h2:=World.var?_cell jJ Qu 0;rw[<-lu,G_]at h2;exact⟨u,v,h2⟩
theorem Abl{W : World}(h1 : Lib.VarReads prog W "matricula/pct.digits" Rows.laid_matricula_pct_digits)(h2 : Lib.VarReads prog W "internal/strconv.uint64pow10" Rows.laid_internal_strconv_uint64pow10)(h3 : Lib.VarReads prog W "matricula/ticket.prefixes" Rows.laid_matricula_ticket_prefixes)(h4 : Lib.VarReads prog W "matricula/xml.marks" Rows.laid_matricula_xml_marks)(h5 : Lib.VarReads prog W "matricula/crc.halves" Rows.laid_matricula_crc_halves)(h6 : Lib.VarReads prog W "strconv.ErrSyntax" Rows.laid_strconv_ErrSyntax)(h7 : Lib.VarReads prog W "strconv.ErrRange" Rows.laid_strconv_ErrRange)(Hw : W.ShapedOpen prog): (Kz (ZG W) ∧ Bt (ZG W)) := by
 rw[Xxc]at h1;rw[ow]at h2;rw[Xxn]at h5;have t1:=X5q (g:=0) kr kr Re CY kr kr h1;have t2:=X5q (g:=7) kr kr ak ae kr kr h2;have t5:=X5q (g:=10) kr kr underlying536 OS kr kr h5;have mU:∀(B w:Wo) (As:La),Aa B w (ZG W) As->∃m,w.cell? ⟨2,0,none⟩=some (.int .i64 m):=λB w As hS=>by
  obtain⟨m,hm⟩:=Go.Proofs.cell_of_shapedOpen_int (g:=2) (t:=3) (zero:=#[Ab 0]) (k:=.i64) Hw dk kr kr kr kr Dq;exact⟨m,Xkh hm hS⟩
 refine⟨⟨⟨ig (g:=0) kr t1 de,λB w As hS=>TO t2 hS,mU⟩,ox h3,⟨fg h4,λB w As hS=>TO t2 hS,mU,λB w As hS=>?_,λB w As hS=>?_⟩⟩,?_⟩
 ·obtain⟨te,pe,h⟩:=Xty (gi:=4) kr kr h6;exact⟨te,pe,Xkh h hS⟩
 ·obtain⟨te,pe,h⟩:=Xty (gi:=5) kr kr h7;exact⟨te,pe,Xkh h hS⟩
 unfold Bt;rw[Xo5];exact ig (g:=10) kr t5 de
open Ul Tr Go.WideShapes
theorem X8j{AD:TypeId×Va->H}{W:Wo}{spare:Nat->Bool}{x:DataW H×List MemPlace}(h:DataW.trod AD prog W 0 spare held fuel 22 cs=some x):∃z:Nat,cs=[BH (z:Nat)]/\z<18446744073709551616:=by
 obtain⟨z,e,_,w⟩:=DataW.trod_int ae h;have w2:=w;simp only[Lit.wf,Yb,dq1]at w2
 have h0:(0:Int)<=z:=w2.1;have h9:z<=18446744073709551615:=w2.2;refine⟨z.toNat,?_,om⟩;rw[e,yx h0]
theorem Xy8{AD:TypeId×Va->H}{W:Wo}{spare:Nat->Bool}{x:DataW H×List MemPlace}(h:DataW.trod AD prog W 0 spare held fuel 23 cs=some x):∃d0 d1 d2 d3:Nat,cs=[BH (d0:Nat),BH (d1:Nat),BH (d2:Nat),BH (d3:Nat)]/\d0<18446744073709551616/\d1<18446744073709551616/\d2<18446744073709551616/\d3<18446744073709551616:=by
 obtain⟨xs,n,_,_,IL,CW,hf⟩:=DataW.trod_array JA h;rw[show prog.cellsOf 23=4 from by kernel_rfl]at IL;rw[show prog.cellsOf 22=1 from by kernel_rfl]at hf
 match cs,IL,xs,CW,hf with
 | [v0,v1,v2,v3],_,[x0,x1,x2,x3],_,hf =>
  obtain⟨d0,e0,h0⟩:=X8j ((hf 0 de).trans O);obtain⟨d1,e1,h1⟩:=X8j ((hf 1 de).trans O);obtain⟨d2,e2,h2⟩:=X8j ((hf 2 de).trans O);obtain⟨d3,e3,h3⟩:=X8j ((hf 3 de).trans O);have a0:v0=BH (d0:Nat):=(List.cons.inj e0).1;have a1:v1=BH (d1:Nat):=(List.cons.inj e1).1;have a2:v2=BH (d2:Nat):=(List.cons.inj e2).1;have a3:v3=BH (d3:Nat):=(List.cons.inj e3).1;rw[a0,a1,a2,a3];exact⟨d0,d1,d2,d3,O,h0,h1,h2,h3⟩
theorem Xs6{r:Reach}{base:Nat}{t:TypeId}{e:TypeId}(ht:P.underlying t=some (.array n e))(h:Value.okWide P w r base t v):∃cs,v=.agg cs/\cs.size=P.cellsOf t:=by
 simp only[Value.okWide,ht]at h
 obtain⟨cs,h1,h2,_⟩:=h;exact⟨cs,h1,h2⟩
open Go
theorem V4(h:P.funcs.any Func.goes=false)(f:FuncId):P.goes f=false:=by
 unfold Program.goes;rw[h,jy,Bool.or_false,Y4w];intro g _;rw[Array.any_eq_false]at h;cases e:P.funcs[g]? with
 | none=>simp
 | some fn =>
  obtain⟨BO,rfl⟩:=Ll.1 e;simpa using h g BO
theorem bA:prog.funcs.any Func.goes=false:=by kernel_rfl
theorem AbT(c:OpenClaim)(h:(match c.start with|.entering=>true|_=>false)=true):false=c.goesBy prog:=by
 unfold OpenClaim.goesBy Program.goesAt Program.goesFrom;cases hs:c.start with
 | entering =>
  cases hf:prog.funcNamed c.func with
  | none=>rfl
  | some f=>simp[Option.any,V4 bA f]
 | _=>rw[hs]at h;cases h
end Go.Proofs.W9
