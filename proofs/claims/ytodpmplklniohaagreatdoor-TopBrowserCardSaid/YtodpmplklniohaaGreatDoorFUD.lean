/- Part 4 of what the proof stands on. -/
import Derived.Test.YtodpmplklniohaaGreatDoorFUC
set_option linter.unusedVariables false
set_option linter.unusedSimpArgs false
set_option maxHeartbeats 2000000
set_option maxRecDepth 20000
set_option synthInstance.maxHeartbeats 400000
set_option synthInstance.maxSize 10000
open Go Gk
variable {p:Addr}{Ad:Array Bool}{af:Array Edge}{fs:Array Field}{ops GJ:Array Oper}{ts:Array TypeId}{held want:Bool}{R:Ending->Wo->Prop}{L L' M:AK}{fd:Field}{fn:Func}{f:FuncId}{I J:Im}{Fx FA kind FH:Int}{As BT Hs:La}{G:List (Bool×Bool)}{pl:List (Nat×Nat)}{T:List Int}{D ks:List Nat}{rest:List Oper}{Ay Bi key nm pw Ap u:Lu}{args cs ds news vs xs zs:Lv}{b bytes c cap d d0 d1 db fuel i k kb lg m n n0 nn o size:Nat}{nd sp:Nat->Bool}{ps:Nat->Int}{a a0 ka:Oa}{op:Op}{P:Program}{S1 S2 g1 g2:Prop}{pos:String}{H X α β σ:Type}{E dst src t' ty:TypeId}{us v v0:Va}{B w:Wo}{C:Wo->Prop}{A:X1}{K K':BK}
namespace Go.Proofs.W9
open Gk Ul Pc Tryz
theorem VP(s:Lu)(hl:s.length<=1000000)(plus:Bool)(bp:Nat)(hd:BJ I)(As:La)(hS:Aa B w I (Ae bp [.bool plus] 4::As)):Cz 347 [S s,.func (.func 348) #[] #[ptr bp 0]] w λv w'=>∃n1 e1,v=.tuple #[S n1,Ab (e1:Nat)]/\(match dec plus s with|none=>n1=[]/\e1=11|some t=>n1=t/\e1=0)/\Aa B w' I As:=by
 refine gG 4 ?_;clear hS;intro b6 w hS;replace hS:=(hS.An 5 1).pick 1 O;try dsimp only[List.eraseIdx]at hS
 refine .lk [0,1,6] (σ:=Lu×Va×Va×Nat) (λ(out,p,v,i) _m=>(7,Ab (i:Nat))::_m) (λ(out,p,v,i) w=>i<=s.length/\out.length+(s.length-i)<=s.length/\dec plus s=(dec plus (s.drop i)).map (out++·)/\(p=.pointer none\/p=ptr b6 0)/\(out=[]->v=.slice none 0 0)/\Aa B w I (Ae b6 [p,v] 331::Ar 5 1 v (out).length (Ax (out))::Ae bp [.bool plus] 4::As)) (λ(out,p,v,i)=>s.length-i) ([],.pointer none,.slice none 0 0,0) ⟨Y4 _,by simp,by simp,.inl O,λ_=>rfl,hS⟩ ?_;rintro⟨out,p,v,i⟩ w ⟨hi,Mz,AL,hp,mZ,hS⟩;refine gN 4 ?_ ?_<;>intro DP
 ·refine gM 4 ?_ ?_<;>intro C_ IG
  ·refine gH 4 (.B0 (cap:=[ptr bp 0]) func348 O (.of O) (Be O (Be O X4)) O (Xec (at_ s (i:Int)) false plus bp _ (hS.x [2])) ?_);clear hS;rintro _ w ⟨rfl,hS⟩;replace hS:=(hS.pick 2 O).pick 2 O;try dsimp only[List.eraseIdx]at hS
   rw[Y3 de];refine gC 0 (Xr b6 p v out ([dB plus (at_ s (i:Int))]) hp _ hS (by simp only[List.length_cons,List.length_nil];omega)) ?_;clear hS;rintro _ w ⟨rfl,v2,hS⟩;refine gG 3 ?_;have cH:at_ s (i:Int)≠37:=λe=>by rw[e]at C_;simp at C_
   refine rd (out++[dB plus (at_ s (i:Int))],ptr b6 0,v2,i+1) ⟨od,by(try dsimp only);rw[Y0];simp only[List.length_cons,List.length_nil];omega,?_,.inr O,λh=>Yy h sz,hS⟩;rw[AL,Xe s om,xo,Y3 cH];cases dec plus (s.drop (i+1))<;>simp
  refine gF 2 (iA s i om hd) ?_;clear hS;rintro _ w ⟨tv,ok,rfl,N4,hS⟩;refine gM 7 ?_ ?_<;>intro Da FY
  ·refine gG 2 (⟨[],11,O,?_,hS.s⟩);have cH:at_ s (i:Int)=37:=JH.1 (by simp only[bne_eq_false_iff_eq]at C_;show(at_ s (i:Int)).toNat=37;omega);have ht:Pc.told (s.drop (i+1))=none:=by
    cases ht:Pc.told (s.drop (i+1))with
    | none=>rfl
    | some v=>rw[ht]at N4;rw[N4.1]at Da;simp at Da
   have:dec plus s=none:=by rw[AL,Xe s om,xo,Y7 cH,ht];rfl
   rw[this];exact⟨O,O⟩
  refine gG 0 ?_;have cH:at_ s (i:Int)=37:=JH.1 (by simp only[bne_eq_false_iff_eq]at C_;show(at_ s (i:Int)).toNat=37;omega);obtain⟨vb,hv⟩:∃v,Pc.told (s.drop (i+1))=some v:=by
   cases ht:Pc.told (s.drop (i+1))with
   | some v=>exact⟨v,O⟩
   | none=>rw[ht]at N4;simp only at N4;rw[N4]at Da;simp at Da
  rw[hv]at N4;obtain⟨_,rfl⟩:=N4;have rr:=r_ hv;rw[Ye]at rr;refine gH 2 (.B0 (cap:=[ptr bp 0]) func348 O (.of O) (Be O (Be O X4)) O (Xec vb true plus bp _ (hS.x [2])) ?_);clear hS;rintro _ w ⟨rfl,hS⟩;replace hS:=(hS.pick 2 O).pick 2 O;try dsimp only[List.eraseIdx]at hS
  rw[Y7 O];refine gC 0 (Xr b6 p v out ([vb]) hp _ hS (by simp only[List.length_cons,List.length_nil];omega)) ?_;clear hS;rintro _ w ⟨rfl,v2,hS⟩;refine gG 6 ?_;refine rd (out++[vb],ptr b6 0,v2,i+3) ⟨od,by(try dsimp only);rw[Y0];simp only[List.length_cons,List.length_nil];omega,?_,.inr O,λh=>Yy h sz,hS⟩;rw[AL,Xe s om,xo,Y7 cH,hv];simp only[yK]
  cases dec plus (s.drop (i+3))<;>simp[Y5v]
 refine gE 0 (wR b6 p v out mZ) ?_;clear hS;intro w hS;refine gG 2 (⟨out,0,O,?_,hS.s⟩)
 have:dec plus s=some out:=by rw[AL,Yk om,Xr4];simp
 rw[this];exact⟨O,O⟩
theorem Xhw(s:Lu)(hl:s.length<=1000000)(plus:Bool)(hd:BJ I)(As:La)(hS:Aa B w I As):Cz 261 [S s,.bool plus] w λv w'=>∃n1 e1,v=.tuple #[S n1,Ab (e1:Nat)]/\(match dec plus s with|none=>n1=[]/\e1=11|some t=>n1=t/\e1=0)/\Aa B w' I As:=by
 refine gH 5 ?_;clear hS;intro b3 w hS;refine gF 0 (VP s hl plus b3 hd) ?_;clear hS;rintro _ w ⟨n1,e1,rfl,hn,hS⟩;exact gG 4 ⟨n1,e1,O,hn,hS⟩
open Tk Tr
def pT(l:List Al)(name:Lu):List Lu:=((path l name).filter λr=>(r.kind:Int)==4).map Al.url
theorem Xqi(p:Wp)(Z:Wd)(a:Oa)(c:Nat)(hlen:Z.l.length<=64)(GR:Wf Z.l)(name:Lu)(As:La)(hS:Aa B w I (Ae p.wb (DX p Z) 101::B7 p.tb Z.room a c Z.l As)):Cz 373 [ptr p.wb 0,S name] w λv w'=>∃J ka kc,v=.slice ka (pT Z.l name).length kc/\Le I J/\(pT Z.l name).length<=kc/\RS J ka 1 (pT Z.l name).length ((pT Z.l name).map S)/\Aa B w' J (Ae p.wb (DX p Z) 101::B7 p.tb Z.room a c Z.l As):=by
 refine gG 2 ?_;replace hS:=hS.An 9 1;refine gF 5 (Xtd p.tb Z.room a c Z.l om GR name) ?_;clear hS;rintro _ w ⟨J,pa,pc,rfl,hJ,NY,AJ,hS⟩;have NZ:=Xlb GR name;replace hS:=hS.px [3,3];refine gG 2 (.lk [0,15,16] (σ:=Nat×Va) (λ(i,kv) _m=>(5,kv)::(17,Ab (i:Nat))::_m) (λ(i,kv) w=>i<=(path Z.l name).length/\Aa B w J (Ar 9 1 kv ((((path Z.l name).take i).filter λr=>(r.kind:Int)==4).map Al.url).length (((((path Z.l name).take i).filter λr=>(r.kind:Int)==4).map Al.url).map S)::Ae p.wb (DX p Z) 101::B7 p.tb Z.room a c Z.l As)) (λ(i,kv)=>(path Z.l name).length-i) (0,.slice none 0 0) ⟨Y4 _,hS⟩ ?_);rintro⟨i,kv⟩ w ⟨hi,hS⟩;refine gM 1 ?_ ?_<;>intro DZ Gy
 ·refine gG 0 ?_;obtain⟨r,hr⟩:∃r,(path Z.l name)[i]?=some r:=⟨_,Y2 om⟩
  obtain⟨q,hq⟩:=Xlc (Y6 hr);have hgd:getD Z.l r.name=r:=by rw[getD,GR.Aap hq];rfl
  obtain⟨pp,rfl,hA⟩:=AJ.2 om;have SM:((path Z.l name).map λr=>S r.name)[i]?=some (S r.name):=by rw[Ys,hr];rfl
  have NT:=Yw (λr:Al=>(r.kind:Int)==4) ((path Z.l name).take i);rw[Yl]at NT;have Mz:((((path Z.l name).take i).filter λr=>(r.kind:Int)==4).map Al.url).length=(((path Z.l name).take i).filter λr=>(r.kind:Int)==4).length:=Yh _;have ZF:((((path Z.l name).take (i+1)).filter λr=>(r.kind:Int)==4).map Al.url)=((((path Z.l name).take i).filter λr=>(r.kind:Int)==4).map Al.url)++([r].filter λr=>(r.kind:Int)==4).map Al.url:=by rw[Yo,hr,Yu,RT,Ym]
  refine gH 1 ?_;refine .val (.ld1 (.of O) (by have h9:=Pz hS hA SM;simpa using h9) BF) O ?_;refine gE 6 (Uy p.tb Z.room a c Z.l om r.name) ?_;clear hS;intro w hS;rw[hgd];refine gG 9 ?_;clear hS;intro b8 w hS;refine gM 0 ?_ ?_<;>intro LJ AaK
  ·refine gG 8 ?_;clear hS;intro b36 a37 c37 dW w hS;refine rd (i+1,.slice a37 (((((path Z.l name).take i).filter λr=>(r.kind:Int)==4).map Al.url).length+1) c37) ⟨od,?_⟩;try dsimp only
   rw[ZF,Ln,Y7 (su LJ),Y4u,Yt,Hm,Ym,show(((((path Z.l name).take i).filter λr=>(r.kind:Int)==4).map Al.url)++[r.url]).length=((((path Z.l name).take i).filter λr=>(r.kind:Int)==4).map Al.url).length+1 from Y0];exact(((((hS.drop (k:=0) O).pick 1 O).pick 1 O).pick 3 O).pick 3 O)
  refine gG 2 (rd (i+1,kv) ⟨od,?_⟩);try dsimp only
  rw[ZF,Ln,Y3 (su LJ),Y4u,Hm,Yr];exact(((((hS.drop (k:=0) O).pick 1 O).pick 1 O).pick 3 O).pick 3 O)
 refine gG 2 ?_;have JV:i=(path Z.l name).length:=om
 subst JV;rw[Jm]at hS;obtain⟨ka,kc,rfl,CV,_⟩:=hS.vS 0;obtain⟨J2,AE,Mx,hS⟩:=hS.fV 0;exact⟨J2,ka,kc,O,hJ.trans AE,CV,Mx,hS⟩
structure Qr where
 ticket:Lu
 service:Lu
 renew:Bool
 AB:Bool
abbrev Tv(q:Qr):Lv:=[S q.ticket,S q.service,.bool q.renew,.bool q.AB]
def Ml(s:List UInt8):Int:=match EZ s with
 | some (k,_)=>(k:Nat)
 | none=>0
def Xl(ps:Nat->Int)(Z:Wd)(q:Qr):(Al×Nat)×Wd :=
 if(q.ticket==[]||q.service==[])=true then((r0,33),Z)
 else if(Ml q.ticket !=2&&Ml q.ticket !=3)=true then((r0,30),Z)
 else if(Ml q.ticket==3&&!q.AB)=true then((r0,32),Z)
 else if(!(Xk ps Z q.ticket (Ml q.ticket)).2||decide (0<(Xk ps Z q.ticket (Ml q.ticket)).1.Bq))=true then((r0,30),Z)
 else(((Xk ps Z q.ticket (Ml q.ticket)).1,0),RM Z (UH (Xk ps Z q.ticket (Ml q.ticket)).1 Z.now))
theorem xI{Z:Wd}(h:BL Z)(q:Qr):BL (Xl ps Z q).2:=by
 unfold Xl
 repeat' split
 all_goals first|exact h|exact Xli h _
theorem Xzj{Z:Wd}(h:BL Z)(q:Qr):(Xl ps Z q).1.1.service.length<=100:=by
 have key:(Xk ps Z q.ticket (Ml q.ticket)).1.service.length<=100:=by
  unfold Xk;split
  ·decide
  ·rcases Xad h.wf q.ticket with⟨_,e⟩|⟨_,h2,_⟩
   ·rw[e];decide
   ·unfold Xt at h2;simp only[Yb,dq1]at h2
    show(getD Z.l q.ticket).service.length<=100
    omega
 unfold Xl
 repeat' split
 all_goals first|exact key|exact Y4 _
theorem Xye(s:Lu):∃(d:Nat) (b:Bool),(match EZ s with|some (k,d)=>Value.tuple #[Ab (k:Nat),BH (d:Nat),.bool true]|none=>.tuple #[Ab 0,BH 0,.bool false])=.tuple #[Ab (Ml s),BH (d:Nat),.bool b]:=by
 unfold Ml;cases EZ s with
 | none=>exact⟨0,false,O⟩
 | some x=>exact⟨x.2,true,O⟩
theorem o_(q:Qr)(hqt:q.ticket.length<=1000000)(p:Wp)(Z:Wd)(hZ:BL Z)(hI:C0 I p)(As:La)(hS:Aa B w I (Bg p Z::As)):Ce B I (Bg p (Xl p.ps Z q).2::As) 371 [ptr p.wb 0,.agg (Tv q).toArray] w (.tuple #[.agg (X8 (Xl p.ps Z q).1.1).toArray,Ab ((Xl p.ps Z q).1.2:Nat)]):=by
 refine gG 11 ?_;clear hS;intro b3 b4 w hS;refine gM 0 ?_ ?_<;>intro DZ Gy
 ·refine gH 3 ?_;clear hS;intro w hS;refine gG 0 ?_;have hE:Xl p.ps Z q=((r0,33),Z):=by rw[Xl,Y7 DZ]
  rw[hE];exact⟨O,hS.s⟩
 refine gF 2 (Xel q.ticket hqt hI.known hI.pre) ?_;clear hS;rintro v w ⟨KM,hS⟩;obtain⟨d9,b99,e9⟩:=Xye q.ticket;have nj:=KM.trans e9;subst nj;refine gM 14 ?_ ?_<;>intro Em JP
 ·refine gH 3 ?_;clear hS;intro w hS;refine gG 0 ?_;have hE:Xl p.ps Z q=((r0,30),Z):=by rw[Xl,Y3 (nB DZ),Y7 Em]
  rw[hE];exact⟨O,hS.s⟩
 refine gM 8 ?_ ?_<;>intro CI II
 ·refine gH 3 ?_;clear hS;intro w hS;refine gG 0 ?_;have hE:Xl p.ps Z q=((r0,32),Z):=by rw[Xl,Y3 (nB DZ),Y3 (nB Em),Y7 CI]
  rw[hE];exact⟨O,hS.s⟩
 refine gE 4 (zM q.ticket (Ml q.ticket) p Z hZ) ?_;clear hS;intro w hS;refine gG 13 ?_;clear hS;intro b9 w hS;refine gM 0 ?_ ?_<;>intro dK mM
 ·refine gH 3 ?_;clear hS;intro w hS;refine gG 0 ?_;have hE:Xl p.ps Z q=((r0,30),Z):=by rw[Xl,Y3 (nB DZ),Y3 (nB Em),Y3 (nB CI),Y7 dK]
  rw[hE];exact⟨O,hS.s⟩
 refine gG 0 ?_;replace hS:=hS.px [1];obtain⟨a,c,ma,mc,hS⟩:=Kv hS;have hlen:=hZ.len;have Hw:=X7h (ps:=p.ps) hZ q.ticket (Ml q.ticket);refine gD [5,0] [] [0,1,2,3,4,5,6,7,8,9,10] ?_;clear hS;intro w hS;refine gE 9 (Xes (Xk p.ps Z q.ticket (Ml q.ticket)).1 Z.now Hw.2.2.1 Hw.2.2.2) ?_;clear hS;intro w hS;refine gE 0 (Xjy p.tb Z.room a c Z.l om (UH (Xk p.ps Z q.ticket (Ml q.ticket)).1 Z.now) (Yx Hw.1 de) (Yx Hw.2.1 de) hI.known hI.pre) ?_;clear hS;intro w hS;refine gH 3 ?_;clear hS;intro w hS;refine gG 0 ?_;replace hS:=Aa.box (T:=C7 p (RM Z (UH (Xk p.ps Z q.ticket (Ml q.ticket)).1 Z.now))) (a,c,ma,mc) (hS.px [4,4,3,3,4]);have hE:Xl p.ps Z q=(((Xk p.ps Z q.ticket (Ml q.ticket)).1,0),RM Z (UH (Xk p.ps Z q.ticket (Ml q.ticket)).1 Z.now)):=by rw[Xl,Y3 (nB DZ),Y3 (nB Em),Y3 (nB CI),Y3 (nB dK)]
 rw[hE];exact⟨O,(hS.y 1 3)⟩
def DB:List (Int×Lu):=[(33,[73,78,86,65,76,73,68,95,82,69,81,85,69,83,84]),(30,[73,78,86,65,76,73,68,95,84,73,67,75,69,84]),(32,[73,78,86,65,76,73,68,95,84,73,67,75,69,84,95,83,80,69,67]),(31,[73,78,86,65,76,73,68,95,83,69,82,86,73,67,69]),(36,[85,78,65,85,84,72,79,82,73,90,69,68,95,83,69,82,86,73,67,69]),(34,[73,78,86,65,76,73,68,95,80,82,79,88,89,95,67,65,76,76,66,65,67,75]),(0,[])]
def ZS:Lu:=[73,78,84,69,82,78,65,76,95,69,82,82,79,82]
def Zb(e:Int):Lu:=(DB.lookup e).getD ZS
theorem Xc7{α β γ:Type}[BEq α](f:β->γ)(k:α):∀l:List (α×β),(l.map λp=>(p.1,f p.2)).lookup k=(l.lookup k).map f
 | []=>rfl
 | (a,b)::l=>by
  rw[Yt,List.lookup,List.lookup];cases k==a with
  | true=>rfl
  | false=>exact Xc7 f k l
theorem VD(As:La)(hS:Aa B w I As):Cz 378 [] w λv w'=>∃mb,v=.map (some mb)/\Aa B w' I (Ej Ab mb (DB.map λp=>(p.1,S p.2))::As):=by
 refine gG 1 (.mkMap Ab hS O ?_);clear hS;intro b1 w hS;refine .Dj (kv:=[]) (key:=33) (val:=S [73,78,86,65,76,73,68,95,82,69,81,85,69,83,84]) O1 hS (k:=0) O (.of O) (.of O) (.of O) O qx M0 ?_;clear hS;intro w hS;replace hS:Aa B w I (Ej Ab b1 [(33,S [73,78,86,65,76,73,68,95,82,69,81,85,69,83,84])]::As):=hS;refine .Dj (kv:=[(33,S [73,78,86,65,76,73,68,95,82,69,81,85,69,83,84])]) (key:=30) (val:=S [73,78,86,65,76,73,68,95,84,73,67,75,69,84]) O1 hS (k:=0) O (.of O) (.of O) (.of O) O qx M0 ?_;clear hS;intro w hS;replace hS:Aa B w I (Ej Ab b1 [(33,S [73,78,86,65,76,73,68,95,82,69,81,85,69,83,84]),(30,S [73,78,86,65,76,73,68,95,84,73,67,75,69,84])]::As):=hS;refine .Dj (kv:=[(33,S [73,78,86,65,76,73,68,95,82,69,81,85,69,83,84]),(30,S [73,78,86,65,76,73,68,95,84,73,67,75,69,84])]) (key:=32) (val:=S [73,78,86,65,76,73,68,95,84,73,67,75,69,84,95,83,80,69,67]) O1 hS (k:=0) O (.of O) (.of O) (.of O) O qx M0 ?_;clear hS;intro w hS;replace hS:Aa B w I (Ej Ab b1 [(33,S [73,78,86,65,76,73,68,95,82,69,81,85,69,83,84]),(30,S [73,78,86,65,76,73,68,95,84,73,67,75,69,84]),(32,S [73,78,86,65,76,73,68,95,84,73,67,75,69,84,95,83,80,69,67])]::As):=hS;refine .Dj (kv:=[(33,S [73,78,86,65,76,73,68,95,82,69,81,85,69,83,84]),(30,S [73,78,86,65,76,73,68,95,84,73,67,75,69,84]),(32,S [73,78,86,65,76,73,68,95,84,73,67,75,69,84,95,83,80,69,67])]) (key:=31) (val:=S [73,78,86,65,76,73,68,95,83,69,82,86,73,67,69]) O1 hS (k:=0) O (.of O) (.of O) (.of O) O qx M0 ?_;clear hS;intro w hS;replace hS:Aa B w I (Ej Ab b1 [(33,S [73,78,86,65,76,73,68,95,82,69,81,85,69,83,84]),(30,S [73,78,86,65,76,73,68,95,84,73,67,75,69,84]),(32,S [73,78,86,65,76,73,68,95,84,73,67,75,69,84,95,83,80,69,67]),(31,S [73,78,86,65,76,73,68,95,83,69,82,86,73,67,69])]::As):=hS;refine .Dj (kv:=[(33,S [73,78,86,65,76,73,68,95,82,69,81,85,69,83,84]),(30,S [73,78,86,65,76,73,68,95,84,73,67,75,69,84]),(32,S [73,78,86,65,76,73,68,95,84,73,67,75,69,84,95,83,80,69,67]),(31,S [73,78,86,65,76,73,68,95,83,69,82,86,73,67,69])]) (key:=36) (val:=S [85,78,65,85,84,72,79,82,73,90,69,68,95,83,69,82,86,73,67,69]) O1 hS (k:=0) O (.of O) (.of O) (.of O) O qx M0 ?_;clear hS;intro w hS;replace hS:Aa B w I (Ej Ab b1 [(33,S [73,78,86,65,76,73,68,95,82,69,81,85,69,83,84]),(30,S [73,78,86,65,76,73,68,95,84,73,67,75,69,84]),(32,S [73,78,86,65,76,73,68,95,84,73,67,75,69,84,95,83,80,69,67]),(31,S [73,78,86,65,76,73,68,95,83,69,82,86,73,67,69]),(36,S [85,78,65,85,84,72,79,82,73,90,69,68,95,83,69,82,86,73,67,69])]::As):=hS;refine .Dj (kv:=[(33,S [73,78,86,65,76,73,68,95,82,69,81,85,69,83,84]),(30,S [73,78,86,65,76,73,68,95,84,73,67,75,69,84]),(32,S [73,78,86,65,76,73,68,95,84,73,67,75,69,84,95,83,80,69,67]),(31,S [73,78,86,65,76,73,68,95,83,69,82,86,73,67,69]),(36,S [85,78,65,85,84,72,79,82,73,90,69,68,95,83,69,82,86,73,67,69])]) (key:=34) (val:=S [73,78,86,65,76,73,68,95,80,82,79,88,89,95,67,65,76,76,66,65,67,75]) O1 hS (k:=0) O (.of O) (.of O) (.of O) O qx M0 ?_;clear hS;intro w hS;replace hS:Aa B w I (Ej Ab b1 [(33,S [73,78,86,65,76,73,68,95,82,69,81,85,69,83,84]),(30,S [73,78,86,65,76,73,68,95,84,73,67,75,69,84]),(32,S [73,78,86,65,76,73,68,95,84,73,67,75,69,84,95,83,80,69,67]),(31,S [73,78,86,65,76,73,68,95,83,69,82,86,73,67,69]),(36,S [85,78,65,85,84,72,79,82,73,90,69,68,95,83,69,82,86,73,67,69]),(34,S [73,78,86,65,76,73,68,95,80,82,79,88,89,95,67,65,76,76,66,65,67,75])]::As):=hS;refine .Dj (kv:=[(33,S [73,78,86,65,76,73,68,95,82,69,81,85,69,83,84]),(30,S [73,78,86,65,76,73,68,95,84,73,67,75,69,84]),(32,S [73,78,86,65,76,73,68,95,84,73,67,75,69,84,95,83,80,69,67]),(31,S [73,78,86,65,76,73,68,95,83,69,82,86,73,67,69]),(36,S [85,78,65,85,84,72,79,82,73,90,69,68,95,83,69,82,86,73,67,69]),(34,S [73,78,86,65,76,73,68,95,80,82,79,88,89,95,67,65,76,76,66,65,67,75])]) (key:=0) (val:=S []) O1 hS (k:=0) O (.of O) (.of O) (.of O) O qx M0 ?_;clear hS;intro w hS;replace hS:Aa B w I (Ej Ab b1 [(33,S [73,78,86,65,76,73,68,95,82,69,81,85,69,83,84]),(30,S [73,78,86,65,76,73,68,95,84,73,67,75,69,84]),(32,S [73,78,86,65,76,73,68,95,84,73,67,75,69,84,95,83,80,69,67]),(31,S [73,78,86,65,76,73,68,95,83,69,82,86,73,67,69]),(36,S [85,78,65,85,84,72,79,82,73,90,69,68,95,83,69,82,86,73,67,69]),(34,S [73,78,86,65,76,73,68,95,80,82,79,88,89,95,67,65,76,76,66,65,67,75]),(0,S [])]::As):=hS
 exact gG 2 ⟨b1,O,hS⟩
theorem Xt8(e:Int)(As:La)(hS:Aa B w I As):Ce B I As 288 [Ab e] w (S (Zb e)):=by
 refine gF 1 (VD) ?_;clear hS;rintro _ w ⟨mb,rfl,hS⟩;refine gH 1 ?_;refine .val (v:=.tuple #[S ((DB.lookup e).getD []),.bool (DB.lookup e).isSome]) (by have h9:=Xc7 S e DB;have e9:((DB.map λp=>(p.1,S p.2)).lookup e).getD (S [])=S ((DB.lookup e).getD []):=by { rw[h9];cases DB.lookup e<;>rfl };have e8:((DB.map λp=>(p.1,S p.2)).lookup e).isSome=(DB.lookup e).isSome:=by { rw[h9];cases DB.lookup e<;>rfl };rw[<-e9,<-e8];exact .eV (key:=e) O1 (hS.Qz (k:=0) O) (.of O) (.of O) qx M0 K8) O ?_;refine gM 6 ?_ ?_<;>intro Dw Eo
 ·refine gG 2 (⟨?_,hS.s⟩);rw[Zb];cases h:DB.lookup e with
  | none=>rw[h]at Dw;cases Dw
  | some s=>rfl
 refine gG 1 (⟨?_,hS.s⟩);rw[Zb];cases h:DB.lookup e with
 | none=>rfl
 | some s=>rw[h]at Dw;cases Dw
structure Sx where
 user:Lu
 attrs:List Pr
 AB:List Lu
 BP:Lu
def QM:Sx:=⟨[],[],[],[]⟩
def Io(J:Im)(x:Sx)(cs:Lv):Prop:=∃ka kc pa pc,cs=[S x.user,.slice ka x.attrs.length kc,.slice pa x.AB.length pc,S x.BP]/\x.attrs.length<=kc/\RS J ka 2 x.attrs.length (X2 X3 x.attrs)/\x.AB.length<=pc/\RS J pa 1 x.AB.length (x.AB.map S)
theorem Xvu(J:Im):Io J QM [S [],.slice none 0 0,.slice none 0 0,S []]:=⟨none,0,none,0,O,Yd _,⟨O,λh=>Yy h (by simp[QM])⟩,Yd _,O,λh=>Yy h (by simp[QM])⟩
theorem Io.mono{x:Sx}(h:Io I x cs)(hl:Le I J):Io J x cs:=by
 obtain⟨ka,kc,pa,pc,e,h1,h2,h3,h4⟩:=h;exact⟨ka,kc,pa,pc,e,h1,h2.mono hl,h3,h4.mono hl⟩
def OL(ps:Nat->Int)(Z:Wd)(q:Qr):Nat :=
 if(Xl ps Z q).1.2≠0 then(Xl ps Z q).1.2
 else if((((Ul.nU q.service).2:Nat):Int)!=0||!((Ul.nU q.service).1==(Xl ps Z q).1.1.service))=true then 31
 else if(q.renew&&!(Xl ps Z q).1.1.fresh)=true then 30 else 0
def Nk(lo:List Sv)(us:List Us)(ps:Nat->Int)(Z:Wd)(q:Qr):Sx :=
 if OL ps Z q≠0 then QM
 else⟨(Xl ps Z q).1.1.user,p6 us (Xl ps Z q).1.1.user (Xo lo (Xl ps Z q).1.1.service).1.rel,pT (Xl ps Z q).2.l (Xl ps Z q).1.1.name,[]⟩
theorem Xno(lo:List Sv)(s:Lu):(Xo lo s).1=z0\/(Xo lo s).1∈lo:=by
 unfold Xo;split
 ·exact .inl O
 ·split
  ·exact .inl O
  ·split
   ·exact .inl O
   ·rename_i h;exact .inr (yr h)
theorem tf{us:List Us}(h:∀u∈us,u.attrs.length<=8)(name:Lu):(Ek us name).length<=8:=by
 unfold Ek;split
 ·rename_i e;exact h _ (yr e)
 ·simp
theorem Xzk(q:Qr)(hqt:q.ticket.length<=1000000)(rh:q.service.length<=1000000)(p:Wp)(Z:Wd)(hZ:BL Z)(hI:C0 I p)(As:La)(hS:Aa B w I (Bg p Z::As)):Cz 281 [ptr p.wb 0,.agg (Tv q).toArray] w λv w'=>∃J cs,Le I J/\v=.tuple #[.agg (List.toArray cs),Ab (OL p.ps Z q:Nat)]/\Io J (Nk p.lo p.us p.ps Z q) cs/\Aa B w' J (Bg p (Xl p.ps Z q).2::As):=by
 refine gH 5 ?_;clear hS;intro b3 b4 w hS;refine gE 0 (o_ q hqt p Z hZ hI) ?_;clear hS;intro w hS;refine gG 8 ?_;clear hS;intro b6 w hS;refine gM 0 ?_ ?_<;>intro C_ IG
 ·refine gH 4 ?_;clear hS;intro w hS;refine gG 0 ?_;have A8:(Xl p.ps Z q).1.2≠0:=su C_
  have hE:OL p.ps Z q=(Xl p.ps Z q).1.2:=by rw[OL,Y7 A8]
  have hX:Nk p.lo p.us p.ps Z q=QM:=Y7 (by rw[hE];exact A8);rw[hE,hX];exact⟨I,_,Le.refl _,O,Xvu I,hS.s⟩
 refine gE 2 (X9w q.service rh hI.known) ?_;clear hS;intro w hS;refine gM 14 ?_ ?_<;>intro BD G9
 ·refine gH 3 ?_;clear hS;intro w hS;refine gG 0 ?_;have hE:OL p.ps Z q=31:=by rw[OL,Y3 (show ¬ (Xl p.ps Z q).1.2≠0 from by simpa using C_),Y7 BD]
  have hX:Nk p.lo p.us p.ps Z q=QM:=Y7 (nB hE);rw[hE,hX];exact⟨I,_,Le.refl _,O,Xvu I,hS.s⟩
 refine gM 8 ?_ ?_<;>intro E3 Wt
 ·refine gH 3 ?_;clear hS;intro w hS;refine gG 0 ?_;have hE:OL p.ps Z q=30:=by rw[OL,Y3 (show ¬ (Xl p.ps Z q).1.2≠0 from by simpa using C_),Y3 (nB BD),Y7 E3]
  have hX:Nk p.lo p.us p.ps Z q=QM:=Y7 (nB hE);rw[hE,hX];exact⟨I,_,Le.refl _,O,Xvu I,hS.s⟩
 refine .skip (.ck [0,4,6] (σ:=Im×Nat×Oa×Nat) (λ(J,b9,ra,rc) _m=>(9,ptr b9 0)::_m) (λ(J,b9,ra,rc) w=>Le I J/\(Xo p.lo (Xl p.ps Z q).1.1.service).1.rel.length<=rc/\RS J ra 1 (Xo p.lo (Xl p.ps Z q).1.1.service).1.rel.length ((Xo p.lo (Xl p.ps Z q).1.1.service).1.rel.map S)/\Aa B w J (Ae b9 [Ab (Xo p.lo (Xl p.ps Z q).1.1.service).1.id,BQ (Xo p.lo (Xl p.ps Z q).1.1.service).1.ord,S (Xo p.lo (Xl p.ps Z q).1.1.service).1.urls,.bool (Xo p.lo (Xl p.ps Z q).1.1.service).1.CT,.bool (Xo p.lo (Xl p.ps Z q).1.1.service).1.Dl,.bool (Xo p.lo (Xl p.ps Z q).1.1.service).1.back,S (Xo p.lo (Xl p.ps Z q).1.1.service).1.calls,.slice ra (Xo p.lo (Xl p.ps Z q).1.1.service).1.rel.length rc] 71::Bg p (Xl p.ps Z q).2::Ae b6 (X8 (Xl p.ps Z q).1.1) 188::Ae b4 [S [],.slice none 0 0,.slice none 0 0,S []] 310::As)) ?_ ?_)
 ·replace hS:=hS.px [1];obtain⟨⟨a2,c2,GU,GI⟩,hS⟩:=Aa.unbox hS;replace hS:Aa B _ _ (Ae p.wb (DX p (Xl p.ps Z q).2) 101::B7 p.tb (Xl p.ps Z q).2.room a2 c2 (Xl p.ps Z q).2.l (Ae p.mb [.slice GU (Xl p.ps Z q).2.D.length GI] 193::EN 22 (.slice GU (Xl p.ps Z q).2.D.length GI) ((Xl p.ps Z q).2.D.map λd=>BH (d:Nat))::_)):=hS;have G5:=xI (ps:=p.ps) hZ q;have KJ:=G5.len;have nk:=G5.wf;have hss:=Xzj (ps:=p.ps) hZ q;refine gD [5,0] [] [0,1,2,3,4,5] ?_;clear hS;intro w hS;refine gH 6 (gB 6 11 [7,8,9,10,11,12,13,14] [6,7,8,9,10,12,13,14] ?_ ?_)
  ·refine gF 0 (Xee (Xl p.ps Z q).1.1.service om p hI) ?_;clear hS;rintro _ w ⟨J,ra,rc,hJ,rfl,Cc,dy,hS⟩;refine gH 5 ?_;clear hS;intro b9 w hS;refine gH 1 ?_;clear hS;intro w hS;refine gG 2 ?_;replace hS:=Aa.box (T:=C7 p (Xl p.ps Z q).2) (a2,c2,GU,GI) (hS.px [5,5,5,5,5]);exact cd (J,b9,ra,rc) ⟨hJ,Cc,dy,(((((hS.drop (k:=4) O).pick 3 O).pick 3 O).pick 2 O).pick 3 O)⟩
  ·refine gH 1 ?_;clear hS;intro b9 w hS;refine gF 0 (Xee (Xl p.ps Z q).1.1.service om p hI) ?_;clear hS;rintro _ w ⟨J,ra,rc,hJ,rfl,Cc,dy,hS⟩;refine gH 5 ?_;clear hS;intro w hS;refine gG 2 ?_;replace hS:=Aa.box (T:=C7 p (Xl p.ps Z q).2) (a2,c2,GU,GI) (hS.px [5,5,5,5,5]);exact cd (J,b9,ra,rc) ⟨hJ,Cc,dy,(((((hS.drop (k:=4) O).pick 3 O).pick 3 O).pick 2 O).pick 3 O)⟩
 rintro⟨J,b9,ra,rc⟩ w ⟨hJ,Cc,dy,hS⟩;refine gG 0 ?_;replace hS:=hS.px [1];obtain⟨⟨a2,c2,GU,GI⟩,hS⟩:=Aa.unbox hS;replace hS:Aa B _ _ (Ae p.wb (DX p (Xl p.ps Z q).2) 101::B7 p.tb (Xl p.ps Z q).2.room a2 c2 (Xl p.ps Z q).2.l (Ae p.mb [.slice GU (Xl p.ps Z q).2.D.length GI] 193::EN 22 (.slice GU (Xl p.ps Z q).2.D.length GI) ((Xl p.ps Z q).2.D.map λd=>BH (d:Nat))::_)):=hS;have G5:=xI (ps:=p.ps) hZ q;have KJ:=G5.len;have nk:=G5.wf;have hIJ:=hI.mono hJ;have SC:=tf hI.yO (Xl p.ps Z q).1.1.user;have HO:(Xo p.lo (Xl p.ps Z q).1.1.service).1.rel.length<=1000000:=by
  rcases Xno p.lo (Xl p.ps Z q).1.1.service with e|e
  ·rw[e];decide
  ·exact hI.rel _ e
 refine gD [6,5,0] [] [0,1,2,3,4,5,6,7,8,9,11,12,13,10,14,15,16,17] ?_;clear hS;intro w hS;refine gF 13 (Xzg p.ub p.us hI.fit (Xl p.ps Z q).1.1.user SC ra rc _ HO (by exact hIJ.tab) (by exact dy)) ?_;clear hS;rintro _ w ⟨Ja,ka,kc,rfl,hJa,CV,KF,hS⟩;refine gF 0 (Xqi p (Xl p.ps Z q).2 a2 c2 KJ nk (Xl p.ps Z q).1.1.name) ?_;clear hS;rintro _ w ⟨Jp,pa,pc,rfl,hJp,NY,EP,hS⟩;refine gH 2 ?_;clear hS;intro w hS;refine gG 1 ?_;replace hS:=Aa.box (T:=C7 p (Xl p.ps Z q).2) (a2,c2,GU,GI) (hS.px [4,4,4,4,4]);have hE:OL p.ps Z q=0:=by rw[OL,Y3 (show ¬ (Xl p.ps Z q).1.2≠0 from by simpa using C_),Y3 (nB BD),Y3 (nB E3)]
 have hX:Nk p.lo p.us p.ps Z q=⟨(Xl p.ps Z q).1.1.user,p6 p.us (Xl p.ps Z q).1.1.user (Xo p.lo (Xl p.ps Z q).1.1.service).1.rel,pT (Xl p.ps Z q).2.l (Xl p.ps Z q).1.1.name,[]⟩:=Y3 (nB hE);rw[hE,hX];refine⟨_,_,?_,O,⟨ka,kc,pa,pc,O,CV,?_,NY,?_⟩,(hS.y 1 3)⟩
 ·exact(hJ.trans hJa).trans hJp
 ·exact KF.mono hJp
 ·exact EP
theorem Xwt(s:Lu)(hs:s.length<=1000000)(hK:Ba I)(As:La)(hS:Aa B w I As):Calls prog 83 #[S s,S [38]] w (A4 λv w'=>∃b,v=.slice (some (ad b 0)) (C8 s).length (C8 s).length/\Aa B w' I (Ae b ((C8 s).map S) 9::As)):=by
 obtain⟨m,hm⟩:=hK.max B w As hS;refine(strings_Split ⟨s.toArray⟩ ⟨[38].toArray⟩ m w (by show s.length<_;omega) hm de).mono λe w' he=>?_
 obtain⟨rfl,rfl⟩:=he;have e1:(C8 s).length=Go.Lib.countB ⟨s.toArray⟩ ⟨[38].toArray⟩+1:=lG _ s (Yd _);have e2:(Go.Lib.splitB ⟨[38].toArray⟩ 0 (Go.Lib.countB ⟨s.toArray⟩ ⟨[38].toArray⟩) ⟨s.toArray⟩).map Value.string=(C8 s).map S:=by
  rw[Xgv,Go.Lib.splitB_data];show List.map S (Go.Lib.splitK [38] 0 (Go.Lib.count s [38]) s)=_
  rw[Xz5 _ s (Yd _)]
 refine⟨_,O,w.heap.size,by rw[e1],?_⟩;rw[e2];exact hS.alloc _
theorem fz(x:Lu)(hl:x.length<=1000000)(hK:Ba I)(As:La)(hS:Aa B w I As):Cz 172 [S x] w λv w'=>∃n1 v1 e1,v=.tuple #[.agg #[S n1,S v1],Ab (e1:Nat)]/\(match RH x with|none=>e1=11|some p=>n1=p.1/\v1=p.2/\e1=0)/\Aa B w' I As:=by
 refine gH 3 ?_;clear hS;intro b2 w hS;refine gE 0 (X86 x 61 hl hK) ?_;clear hS;intro w hS;refine gF 8 (Xhw (Bb [61] x) (by have:=Xgy [61] x;omega) true hK.PZ) ?_;clear hS;rintro _ w ⟨n1,e1,rfl,jL,hS⟩;refine gM 7 ?_ ?_<;>intro LG Dx
 ·refine gH 4 ?_;clear hS;intro w hS;refine gG 0 (⟨[],[],e1,O,?_,hS.s⟩);unfold RH;cases hd:dec true (Bb [61] x)with
  | none=>rw[hd]at jL;exact jL.2
  | some t=>rw[hd]at jL;rw[jL.2]at LG;cases LG
 refine gF 1 (Xhw ((Xd [61] x).drop 1) (by have:=Me [61] x;rw[Ye];omega) true hK.PZ) ?_;clear hS;rintro _ w ⟨n2,e2,rfl,My,hS⟩;refine gH 11 ?_;clear hS;intro w hS;refine gG 0 (⟨n1,n2,e2,O,?_,hS.s⟩);unfold RH;cases hd:dec true (Bb [61] x)with
 | none=>rw[hd]at jL;rw[jL.2]at LG;cases LG
 | some t =>
  rw[hd]at jL;cases he:dec true ((Xd [61] x).drop 1)with
  | none=>rw[he]at My;exact My.2
  | some u=>rw[he]at My;exact⟨jL.1,My.1,My.2⟩
theorem Xwx{s x:Lu}(h:(C8 s)[i]?=some x)(hl:s.length<=1000000):x.length<=1000000:=by
 have h1:=Xqv s;have h2:∀(l:List Lu) (i:Nat),l[i]?=some x->x.length+1<=Ee l:=by
  intro l
  induction l with
  | nil=>intro i h;simp at h
  | cons a l ih =>
   intro i h;rw[show Ee (a::l)=(a.length+1)+Ee l from by simp[Ee]];cases i with
   | zero=>simp at h;subst h;omega
   | succ i=>have:=ih i (su h);omega
 have:=h2 _ _ h
 omega
theorem bt{s x:Lu}(h:(C8 s)[i]?=some x):(C8 s).drop i=x::(C8 s).drop (i+1):=by
 rw[Yp (Y1.1 h).1,(Y1.1 h).2]
def Er:Lu:=[112,103,116,73,100]
def Ie:Lu:=[112,103,116,73,111,117]
theorem ij(Dt host:Lu)(port:Nat)(r:Lu):(OW Dt host port r).1.query.length<=r.length/\(OW Dt host port r).1.path.length<=r.length+1:=by
 unfold OW;split
 ·exact⟨Y4 _,Y4 _⟩
 ·rename_i p hp
  split
  ·exact⟨Y4 _,Y4 _⟩
  ·rename_i q hq
   have a1:=Xla hp;have a2:=Xla hq;have a3:=Xgy [63] r;have a4:=Me [63] r;have a5:=Xtq p;rw[Ye]at a2;refine⟨by show q.length<=_;omega,?_⟩;show(if p=[]then[47]else Kt p).length<=_
   split
   ·simp
   ·omega
theorem og(s:Lu):(pU s).1.query.length<=s.length/\(pU s).1.path.length<=s.length+1:=by
 unfold pU;split
 ·exact⟨Y4 _,Y4 _⟩
 ·split
  ·exact⟨Y4 _,Y4 _⟩
  ·rename_i Dt r hs
   split
   ·have hr:r.length<=s.length:=by
     unfold r9 at hs;split at hs
     ·injection hs with hs;injection hs with e1 e2;subst e2;rw[Ye];omega
     ·split at hs
      ·injection hs with hs;injection hs with e1 e2;subst e2;rw[Ye];omega
      ·cases hs
    have a3:=Me [47,63,35,58] r;unfold sx;split
    ·split
     ·have a4:=Me [47,63,35] ((Xd [47,63,35,58] r).drop 1);rw[Ye]at a4
      have:=ij Dt (aR r) (UM (Bb [47,63,35] ((Xd [47,63,35,58] r).drop 1)) Dt) (Xd [47,63,35] ((Xd [47,63,35,58] r).drop 1))
      omega
     ·exact⟨Y4 _,Y4 _⟩
    ·have:=ij Dt (aR r) 0 (Xd [47,63,35,58] r)
     omega
   ·exact⟨Y4 _,Y4 _⟩
theorem oe{s:Lu}(h:(pU s).2=0):s.length<=2000:=by
 unfold pU at h;split at h
 ·cases h
 ·omega
theorem Xgt{u:U}{n v:Lu}(hu:UE u)(h:(OY u n v).query.length<=10000000):UE (OY u n v):=⟨hu.1,hu.2.1,hu.2.2.1,hu.2.2.2.1,h⟩
def NB(u:U)(AX BP:Lu):U:=OY (OY u Er AX) Ie BP
def yo(url AX BP:Lu):Lu×Nat:=if(pU url).2=0 then(L8 (NB (pU url).1 AX BP),0)else([],(pU url).2)
theorem lS(s AX BP:Lu):(NB (pU s).1 AX BP).query.length<=s.length+37+3*AX.length+3*BP.length:=by
 have h1:=(og s).1;have h2:=pR (pU s).1.query Er AX;have h3:=pR (Gt (pU s).1.query Er AX) Ie BP;have e1:Er.length=5:=rfl;have e2:Ie.length=6:=rfl;show(Gt (Gt (pU s).1.query Er AX) Ie BP).length<=_
 omega
theorem Xx5{s AX BP:Lu}(h:(pU s).2=0)(hp:AX.length<=100000)(hi:BP.length<=100000):UE (OY (pU s).1 Er AX)/\UE (NB (pU s).1 AX BP):=by
 have h0:=oe h;have h1:=(og s).1;have h2:=pR (pU s).1.query Er AX;have h3:=lS s AX BP;have e1:Er.length=5:=rfl;have hs:UE (OY (pU s).1 Er AX):=Xgt (z8 s) (by show(Gt (pU s).1.query Er AX).length<=_;omega);exact⟨hs,Xgt hs (by show(NB (pU s).1 AX BP).query.length<=_;omega)⟩
theorem T4(a:Oa)(c:Nat)(x sep:Lu)(As:La)(hE:∀w,Aa B w I As->Mj w Xpx 1 a [x])(hS:Aa B w I As):Ce B I As 117 [.slice a 1 c,S sep] w (S x):=by
 refine gG 1 ?_;obtain⟨p,rfl,hA⟩:=hE w hS 0 x O;have mJ:=hA 0 _ O;refine gG 4 (.AF (rfl) (gG 2 (.E1 (rfl) (gH 2 (.val (v:=S x) (.ld1 (.of O) (by simpa[Addr.add_add]using mJ) BF) O ?_)))));refine gH 1 (.nil (.ret ?_));refine λ_ A5=>RN A5 O ?_
 exact⟨_,O,O,hS⟩
theorem Xwv(b:Nat)(n v9:Lu)(hn:n.length<=1000000)(KM:v9.length<=1000000)(hd:BJ I)(As:La)(hS:Aa B w I (Ae b [S n,S v9] 58::As)):Ce B I (Ae b [S n,S v9] 58::As) 46 [.slice (some (ad b 0)) 1 1] w (S (AD n++61::AD v9)):=by
 refine gG 5 ?_;replace hS:=hS.An 9 1;refine .lk [6,7] (σ:=Nat×Va) (λ(i,kv) _m=>(3,kv)::(8,Ab (i:Nat))::_m) (λ(i,kv) w=>i<=1/\Aa B w I (Ar 9 1 kv i (([S (AD n++61::AD v9)]:Lv).take i)::Ae b [S n,S v9] 58::As)) (λ(i,kv)=>1-i) (0,.slice none 0 0) ⟨Y4 _,hS⟩ ?_;rintro⟨i,kv⟩ w ⟨hi,hS⟩;refine gM 1 ?_ ?_<;>intro GO DV
 ·refine gG 0 ?_;obtain rfl:i=0:=om
  have hen:=YU n;have uQ:=YU v9;obtain⟨ka,kc,rfl,CV,_⟩:=hS.Av (k:=0) (v:=kv) O;refine gG 4 ?_;clear hS;intro b5 w hS;refine gD [0] [] [0,1,2,5,6,3,4,7,8,9,10,11] ?_;clear hS;intro w hS;refine gE 5 (X87 n om hd) ?_;clear hS;intro w hS;refine gE 1 (X87 v9 om hd) ?_;clear hS;intro w hS;refine gH 2 ?_;clear hS;intro yP w hS;refine gH 1 ?_;clear hS;intro a22 c22 dS w hS;refine gG 3 (E_ (1,_) O ⟨Yd _,?_⟩);rw[show(AD n++[61])++AD v9=(AD n++61::AD v9)by simp]at hS;exact(hS.z [2,2] 2 1)
 refine gG 0 ?_;obtain rfl:i=1:=om
 obtain⟨ka,kc,rfl,CV,_⟩:=hS.Av (k:=0) (v:=kv) O;refine gP 1 [] (T4 ka kc (AD n++61::AD v9) _ _ (λw h=>gp (cells:=Xpx) (s:=1) (λ_=>rfl) h (k:=0) O)) ?_;clear hS;rintro _ w ⟨rfl,hS⟩;exact gG 1 ⟨O,hS.s⟩
theorem Xm1(u:U)(hu:UE u)(n v9:Lu)(hn:n.length<=1000000)(hv:v9.length<=1000000)(hd:BJ I)(As:La)(hS:Aa B w I As):Ce B I As 277 [.agg (uc u).toArray,S n,S v9] w (.agg (uc (OY u n v9)).toArray):=by
 refine gG 0 (.Ls (cs:=[S u.Dt,S u.host,Ab (u.port:Nat),S u.path,S u.query,.bool u.ask]) hS (.of O) O ?_);clear hS;intro b3 w hS;refine gH 1 ?_;clear hS;intro b6 w hS;refine .nil (.ck [1,2,3,6] (σ:=Lu) (λq9 _m=>_m) (λq9 w=>(q9=if u.query=[]then[]else u.query++[38])/\q9.length<=10000001/\Aa B w I (Ae b6 [S [],S [],Ab 0,S [],S [],.bool false] 394::Ae b3 [S u.Dt,S u.host,Ab (u.port:Nat),S u.path,S q9,.bool u.ask] 394::As)) ?_ ?_)
 ·have huq:=hu.2.2.2.2;refine gM 3 ?_ ?_<;>intro GO DV
  ·refine gH 5 ?_;clear hS;intro w hS;refine gG 0 (cd (u.query++[38]) ⟨?_,?_,(hS.x [1,1])⟩)
   ·rw[Y3 (su GO)]
   ·rw[Y0];show _+1<=_;omega
  refine gG 0 (cd u.query ⟨?_,om,(hS.x [1,1])⟩);rw[Y7 (su GO)];simpa using GO
 rintro q9 w ⟨WG,jN,hS⟩;refine gG 0 ?_;have hen:=YU n;have uQ:=YU v9;refine gD [1] [9] [0,1,2,3,4,5,6,7,8,9] ?_;clear hS;intro w hS;refine gH 6 ?_;clear hS;intro qM w hS;refine gE 0 (Xwv qM n v9 hn hv hd) ?_;clear hS;intro w hS;refine gH 3 ?_;clear hS;intro w hS;refine gH 4 ?_;clear hS;intro w hS;refine gG 0 (⟨?_,hS.s⟩);rw[OY,Gt,<-WG]
 done
theorem Xwu(url AX BP:Lu)(hul:url.length<=1000000)(hp:AX.length<=100000)(hi:BP.length<=100000)(hK:Ba I)(As:La)(hS:Aa B w I As):Ce B I As 284 [.agg (List.toArray [S url,S AX,S BP])] w (.tuple #[S (yo url AX BP).1,Ab ((yo url AX BP).2:Nat)]):=by
 refine gG 0 (.Ls (cs:=[S url,S AX,S BP]) hS (.of O) O ?_);clear hS;intro b1 w hS;refine gE 4 (Xcm url hul hK) ?_;clear hS;intro w hS;refine gG 8 ?_;clear hS;intro b4 w hS;refine gN 0 ?_ ?_<;>intro DP
 ·refine gG 3 (⟨?_,hS.s⟩);have h9:=DP;rw[yo,Y3 om]
  done
 refine gG 0 ?_;have hz:(pU url).2=0:=by have h9:=DP;omega
 obtain⟨WH,eF⟩:=Xx5 hz hp hi;refine gD [1,0] [] [0,1,2,4,5,3,6,7,8,9] ?_;clear hS;intro w hS;refine gE 5 (Xm1 (pU url).1 (z8 url) Er AX de om hK.PZ) ?_;clear hS;intro w hS;refine gE 0 (Xm1 (OY (pU url).1 Er AX) WH Ie BP de om hK.PZ) ?_;clear hS;intro w hS;refine gE 0 (X9x (NB (pU url).1 AX BP) eF hK) ?_;clear hS;intro w hS;refine gG 2 (⟨?_,hS.s⟩);rw[yo,Y7 hz];rfl
open FI Xm
theorem YH{l:List Al}(hw:Wf l)(name:Lu):(getD l name).service.length<=100:=by
 rcases Xad hw name with⟨_,e⟩|⟨_,h2,_⟩
 ·rw[e];decide
 ·unfold Xt at h2;simp only[Yb,dq1]at h2
  omega
def aY(lo:List Sv)(Z:Wd)(n:Lu):Bool:=(((getD Z.l n).kind==2||(getD Z.l n).kind==3)&&decide (0<(getD Z.l n).Bq))&&((Xo lo (getD Z.l n).service).2.2==0&&(Xo lo (getD Z.l n).service).1.back)
def ft(Z:Wd)(n:Lu):Nt:=⟨n,(getD Z.l n).service,0,Z.now⟩
def aS(lo:List Sv)(Z:Wd)(ns:List Lu):List Nt:=(ns.filter (aY lo Z)).map (ft Z)
def qe(lo:List Sv)(Z:Wd)(Ap:Lu):List Nt:=aS lo Z (below Z.l Ap)
theorem Xs3{lo:List Sv}{Z:Wd}{ns:List Lu}{x:Lu}(h:ns[k]?=some x):aS lo Z (ns.take (k+1))=aS lo Z (ns.take k)++(if aY lo Z x=true then[ft Z x]else[]):=by
 unfold aS;rw[Yo,h,Yu,RT,Ym,Ln];split<;>simp
theorem Xor(lo:List Sv)(Z:Wd)(ns:List Lu):(aS lo Z ns).length<=ns.length:=by unfold aS;rw[Yh];exact Yw _ _
theorem XF{lo:List Sv}{Z:Wd}{n:Lu}(h:(((getD Z.l n).kind !=2&&(getD Z.l n).kind !=3)||(getD Z.l n).Bq==0)=true):aY lo Z n=false:=by
 refine Y5h.2 λhn=>?_
 unfold aY at hn;simp only[Yb,PM,beq_iff_eq,bne_iff_ne,ne_eq,dq1]at hn h
 omega
theorem Xuz{lo:List Sv}{Z:Wd}{n:Lu}(hw:Wf Z.l)(h:(((getD Z.l n).kind !=2&&(getD Z.l n).kind !=3)||(getD Z.l n).Bq==0)=false):aY lo Z n=((((Xo lo (getD Z.l n).service).2.2:Nat):Int)==0&&(Xo lo (getD Z.l n).service).1.back):=by
 have hu:=(Xik hw n).2.2.1;simp only[Mw,qF,bne_eq_false_iff_eq,beq_eq_false_iff_ne,ne_eq]at h
 unfold aY;rw[show((getD Z.l n).kind==2||(getD Z.l n).kind==3)=true by simp only[PM,beq_iff_eq];omega,decide_eq_true om,U_,U_]
 congr 1
 rw[yH,beq_iff_eq,beq_iff_eq];omega
def O0(lo:List Sv)(Z:Wd)(t:Lu):List Nt:=if(getD Z.l t).kind=1 then qe lo Z t else[]
def VS(Z:Wd)(t:Lu):List Lu:=if(getD Z.l t).kind=1 then below Z.l t else[]
def IC(Z:Wd)(t:Lu):Wd:=if(getD Z.l t).kind=1 then Np Z t else Z
theorem T_(Ap:Lu)(p:Wp)(Z:Wd)(hZ:BL Z)(hI:C0 I p)(As:La)(hS:Aa B w I (Bg p Z::As)):Cz 280 [ptr p.wb 0,S Ap] w λv w'=>∃J na nc,Le I J/\v=.slice na (qe p.lo Z Ap).length nc/\(qe p.lo Z Ap).length<=nc/\RS J na 4 (qe p.lo Z Ap).length (X2 Xa (qe p.lo Z Ap))/\Aa B w' J (Bg p Z::As):=by
 refine gG 2 ?_;obtain⟨a,c,ma,mc,hS⟩:=Kv hS;have hlen:=hZ.len;have NR:=Xkd hZ.wf Ap;refine gF 5 (Xme p.tb Z.room a c Z.l om hZ.wf Ap) ?_;clear hS;rintro _ w ⟨J,ra,rc,rfl,hJ,Cc,hRB,hS⟩;refine gG 2 ?_;replace hS:=(((((hS.pick 4 O).pick 4 O).pick 3 O).pick 3 O).pick 4 O).An 89 4;refine .lk [0,18,19] (σ:=Nat×Va) (λ(k,v) _m=>(5,v)::(20,Ab (k:Nat))::_m) (λ(k,v) w=>k<=(below Z.l Ap).length/\Aa B w J (Ar 89 4 v (aS p.lo Z ((below Z.l Ap).take k)).length (X2 Xa (aS p.lo Z ((below Z.l Ap).take k)))::Ae p.wb (DX p Z) 101::B7 p.tb Z.room a c Z.l (Ae p.mb [.slice ma Z.D.length mc] 193::EN 22 (.slice ma Z.D.length mc) (Z.D.map λd=>BH (d:Nat))::As))) (λ(k,v)=>(below Z.l Ap).length-k) (0,.slice none 0 0) ⟨Y4 _,hS⟩ ?_;rintro⟨k,v⟩ w ⟨hk,hS⟩;refine gN 1 ?_ ?_<;>intro IH
 ·refine gG 0 ?_;obtain⟨x,DW⟩:∃x,(below Z.l Ap)[k]?=some x:=⟨_,Y2 om⟩
  obtain⟨q,WG,hx⟩:=AbI (cells:=Xpx) (s:=1) (λ_=>rfl) (by rw[AbG];exact hRB:RS J ra 1 (below Z.l Ap).length (X2 Xpx (below Z.l Ap))) DW;subst WG;have ED:=Xs3 (lo:=p.lo) (Z:=Z) DW;have zg:=YH hZ.wf x;have hnl:=Xor p.lo Z ((below Z.l Ap).take k);have N3:((below Z.l Ap).take k).length<=k:=by rw[Yl];omega
  refine gE 8 (Uy p.tb Z.room a c Z.l om x) ?_;clear hS;intro w hS;refine gH 14 ?_;clear hS;intro b8 w hS;refine gM 5 ?_ ?_<;>intro Qf JS
  ·refine gG 2 ?_;have mW:aY p.lo Z x=false:=XF Qf;rw[mW]at ED;refine E_ (k+1,_) O ⟨od,?_⟩;try dsimp only
   rw[ED];rw[Y3 de,Yr];exact(hS.z [6,6,4,4,6,6] 6 1)
  refine .skip (.ck [0,5,7,8,18,19,20] (σ:=Nat×Oa×Nat) (λ(De,fa,fc) _m=>(10,ptr De 0)::(12,Ab (((Xo p.lo (getD Z.l x).service).2.2:Nat):Int))::_m) (λ(De,fa,fc) w=>Aa B w J (Ae De (pY (Xo p.lo (getD Z.l x).service).1 fa fc) 71::Ae b8 (X8 (getD Z.l x)) 188::Ar 89 4 v (aS p.lo Z ((below Z.l Ap).take k)).length (X2 Xa (aS p.lo Z ((below Z.l Ap).take k)))::Ae p.wb (DX p Z) 101::B7 p.tb Z.room a c Z.l (Ae p.mb [.slice ma Z.D.length mc] 193::EN 22 (.slice ma Z.D.length mc) (Z.D.map λd=>BH (d:Nat))::As))) ?_ ?_)
  ·refine gD [0,3] [] [0,1,2,3,4,5] ?_;clear hS;intro w hS;refine gH 6 (gB 6 11 [7,8,9,10,11,12,13,14] [6,7,8,9,10,12,13,14] ?_ ?_)
   ·refine gF 0 (aJ (getD Z.l x).service om p (hI.mono hJ)) ?_;clear hS;rintro _ w ⟨fa,fc,rfl,hS⟩;refine gH 5 ?_;clear hS;intro De w hS;refine gH 1 ?_;clear hS;intro w hS;exact gG 2 (cd (De,fa,fc) (hS.x [7,7,5,5,7,7,7,7]))
   ·refine gH 1 ?_;clear hS;intro De w hS;refine gF 0 (aJ (getD Z.l x).service om p (hI.mono hJ)) ?_;clear hS;rintro _ w ⟨fa,fc,rfl,hS⟩;refine gH 5 ?_;clear hS;intro w hS;exact gG 2 (cd (De,fa,fc) (hS.x [7,7,5,5,7,7,7,7]))
  rintro⟨De,fa,fc⟩ w hS;refine gM 6 ?_ ?_<;>intro AaC uu
  ·refine gD [1,2] [] [0,1,2,3,4,5,6,7,8,9,10,11] ?_;clear hS;intro w hS;refine gH 10 ?_;clear hS;intro b72 w hS;refine gH 1 ?_;clear hS;intro a73 c73 AcQ w hS;refine gG 3 ?_;have mW:aY p.lo Z x=true:=(Xuz hZ.wf Qf).trans AaC;rw[mW]at ED;refine E_ (k+1,_) O ⟨od,?_⟩;try dsimp only
   rw[ED];rw[Y7 O,Y0,YT];exact(hS.z [7,7,7,7,7,7] 6 2)
  refine gG 2 ?_;have mW:aY p.lo Z x=false:=(Xuz hZ.wf Qf).trans AaC;rw[mW]at ED;refine E_ (k+1,_) O ⟨od,?_⟩;try dsimp only
  rw[ED];rw[Y3 de,Yr];exact(hS.z [7,7,7,7,7,7] 6 2)
 refine gG 2 ?_;have uX:k=(below Z.l Ap).length:=om
 subst uX;rw[Jm]at hS;obtain⟨na,nc,rfl,Dc,_⟩:=hS.vS 0;obtain⟨J3,BN,hRN,hS⟩:=hS.fV 0;replace hS:=Aa.box (T:=C7 p _) (a,c,ma,mc) (((((hS.pick 4 O).pick 4 O).pick 4 O).pick 4 O).pick 4 O);try dsimp only[List.eraseIdx]at hS
 exact⟨J3,na,nc,hJ.trans BN,O,Dc,hRN,hS⟩
theorem j_(Ap:Lu)(p:Wp)(Z:Wd)(hZ:BL Z)(hI:C0 I p)(As:La)(hS:Aa B w I (Bg p Z::As)):Cz 187 [ptr p.wb 0,S Ap] w λv w'=>∃J na nc ga gc,Le I J/\v=.tuple #[.slice na (O0 p.lo Z Ap).length nc,.slice ga (VS Z Ap).length gc]/\(O0 p.lo Z Ap).length<=nc/\RS J na 4 (O0 p.lo Z Ap).length (X2 Xa (O0 p.lo Z Ap))/\(VS Z Ap).length<=gc/\RS J ga 1 (VS Z Ap).length ((VS Z Ap).map S)/\Aa B w' J (Bg p (IC Z Ap)::As):=by
 refine gG 2 ?_;obtain⟨a,c,ma,mc,hS⟩:=Kv hS;have hlen:=hZ.len;refine gE 5 (Uy p.tb Z.room a c Z.l om Ap) ?_;clear hS;intro w hS;refine gG 9 ?_;clear hS;intro b6 w hS;refine gM 0 ?_ ?_<;>intro BX FX
 ·refine gG 2 ?_;have Jr:¬ (getD Z.l Ap).kind=1:=su BX
  have e1:O0 p.lo Z Ap=[]:=Y3 Jr;have e2:VS Z Ap=[]:=Y3 Jr;have e3:IC Z Ap=Z:=Y3 Jr;rw[e1,e2,e3];replace hS:=Aa.box (T:=C7 p _) (a,c,ma,mc) (hS.px [5,5,4,4,5]);exact⟨I,none,0,none,0,Le.refl _,O,Yd _,RS.nil _ 4,Yd _,RS.nil _ 1,(hS.y 1 1)⟩
 refine gG 0 ?_;replace hS:=Aa.box (T:=C7 p _) (a,c,ma,mc) (hS.px [5,5,4,4,5]);refine gF 2 (T_ Ap p Z hZ hI) ?_;clear hS;rintro _ w ⟨J,na,nc,hJ,rfl,Dc,hRN,hS⟩;refine gG 1 ?_;obtain⟨a,c,ma,mc,hS⟩:=Kv hS;refine gF 6 (Xdm p.tb Z.room a c Z.l om hZ.wf Ap) ?_;clear hS;rintro _ w ⟨J5,ga,gc,rfl,H9,jK,hRG,a5,c5,hS⟩;refine gG 2 ?_;have Jr:(getD Z.l Ap).kind=1:=su BX
 have e1:O0 p.lo Z Ap=qe p.lo Z Ap:=Y7 Jr;have e2:VS Z Ap=(below Z.l Ap):=Y7 Jr;have e3:IC Z Ap=Np Z Ap:=Y7 Jr;rw[e1,e2,e3];replace hS:=Aa.box (T:=C7 p (Np Z Ap)) (a5,c5,ma,mc) (hS.px [4,4,3,3,4]);exact⟨J5,na,nc,ga,gc,hJ.trans H9,O,Dc,hRN.mono H9,jK,hRG,(hS.y 1 1)⟩
open Rq
structure Kz(I:Im):Prop where
 kn:Ba I
 pre:BB I
 kx:Kx I
theorem Kz.mono(h:Kz I)(hl:Le I J):Kz J:=⟨h.kn.mono hl,h.pre.mono hl,h.kx.mono hl⟩
theorem OH(hS:Aa B w I (Ae b cs E::As))(hl:cs.length=n*size):∃J,Le I J/\RS J (some (ad b 0)) size n cs/\Aa B w J As:=by
 obtain⟨J,hJ,hb,C9⟩:=hS.freeze (k:=0) (o:=Xi cs E) O;exact⟨J,hJ,⟨hl,λ_=>⟨_,O,O,_,_,_,hb,λj v hj=>by simpa using hj⟩⟩,C9⟩
theorem Xta(s p:Lu)(hs:s.length<=1000000)(hZ:Kz I)(As:La)(hS:Aa B w I As):Calls prog 82 #[S s,S p] w (A4 λv w'=>v=.tuple #[S (Go.Lib.cut s p).1,S (Go.Lib.cut s p).2.1,.bool (Go.Lib.cut s p).2.2]/\Aa B w' I As):=by
 obtain⟨m,hm⟩:=hZ.kn.max B w As hS;refine(strings_Cut ⟨s.toArray⟩ ⟨p.toArray⟩ m w (by show s.length<_;omega) hm).mono λe w' he=>?_
 obtain⟨rfl,n,rfl⟩:=he;exact⟨_,O,O,w5 hS n⟩
theorem xi(s:Lu)(c:Ui)(hs:s.length<=1000000)(hZ:Kz I)(As:La)(hS:Aa B w I As):Calls prog 82 #[S s,S [c]] w (A4 λv w'=>v=.tuple #[S (CA c s).1,S (CA c s).2.1,.bool (CA c s).2.2]/\Aa B w' I As):=X86 s c hs hZ.kn As hS
theorem Xi0(s:Lu)(c:Ui)(hs:s.length<=1000000)(hZ:Kz I)(As:La)(hS:Aa B w I As):Calls prog 83 #[S s,S [c]] w (A4 λv w'=>∃b,v=.slice (some (ad b 0)) (BS c s).length (BS c s).length/\Aa B w' I (Ae b ((BS c s).map S) 9::As)):=by
 obtain⟨m,hm⟩:=hZ.kn.max B w As hS;refine(strings_Split ⟨s.toArray⟩ ⟨[c].toArray⟩ m w (by show s.length<_;omega) hm (Yd 1)).mono λe w' he=>?_
 obtain⟨rfl,rfl⟩:=he;have e1:(BS c s).length=Go.Lib.countB ⟨s.toArray⟩ ⟨[c].toArray⟩+1:=oq c _ s (Yd _);have e2:(Go.Lib.splitB ⟨[c].toArray⟩ 0 (Go.Lib.countB ⟨s.toArray⟩ ⟨[c].toArray⟩) ⟨s.toArray⟩).map Value.string=(BS c s).map S:=by
  rw[Xgv,Go.Lib.splitB_data];show List.map S (Go.Lib.splitK [c] 0 (Go.Lib.count s [c]) s)=_
  rw[Xz6 c _ s (Yd _)]
 refine⟨_,O,w.heap.size,by rw[e1],?_⟩;rw[e2];exact hS.alloc _
theorem Xn1(s:Lu)(c:Ui)(hc:c.toNat<128)(hs:s.length<=1000000)(As:La)(hS:Aa B w I As):Calls prog 173 #[S s,S [c]] w (A4 λv w'=>v=S (Go.Lib.trimB s c)/\Aa B w' I As):=by
 refine(strings_Trim_one ⟨s.toArray⟩ c hc w (by show s.length<=_;omega)).mono λe w' he=>?_
 obtain⟨rfl,rfl|rfl⟩:=he
 ·exact⟨_,O,O,hS⟩
 ·exact⟨_,O,O,hS.drew⟩
theorem Uv(s p:Lu)(hp:∀c∈p,c.toNat<128)(NZ:p.length<=1000)(hs:s.length<=1000000)(As:La)(hS:Aa B w I As):Calls prog 173 #[S s,S p] w (A4 λv w'=>v=S (Go.Lib.trimS s p)/\Aa B w' I As):=by
 refine(Any.strings_Trim_laid S4 kr ⟨s.toArray⟩ ⟨p.toArray⟩ w (by show s.length<=_;omega) (by show p.length<_;omega) (λj b hb=>hp b (Y6 hb))).mono λe w' he=>?_
 obtain⟨rfl,hb⟩:=he;exact⟨_,O,O,hS.grown hb⟩
theorem Xjv(s p:Lu)(hs:s.length<=100000000)(hp:p.length<=1000)(As:La)(hS:Aa B w I As):Calls prog 150 #[S s,S p] w (A4 λv w'=>v=.bool (Go.Lib.hasPrefix s p)/\Aa B w' I As):=by
 refine(strings_HasPrefix ⟨s.toArray⟩ ⟨p.toArray⟩ w).mono λe w' he=>?_
 obtain⟨rfl,rfl⟩:=he;exact⟨_,O,O,hS⟩
theorem X7z(c:Ui):((((!plain c)||((c.toNat:Int)==46))||((c.toNat:Int)==95))||((c.toNat:Int)==126))=!I6 c:=eq_of_beq (Xf (p:=λc=>((((!plain c)||((c.toNat:Int)==46))||((c.toNat:Int)==95))||((c.toNat:Int)==126))==!I6 c) dk c)
theorem Xsn(s:Lu)(hs:s.length<=1000000)(As:La)(hS:Aa B w I As):Ce B I As 260 [S s] w (.bool (List.all s (I6)&&!s.isEmpty)):=by
 refine gG 4 (.lk [0,6] (σ:=Nat) (λi _m=>(7,Ab (i:Nat))::_m) (λi w=>i<=s.length/\List.all s (I6)=List.all (s.drop i) (I6)/\Aa B w I As) (λi=>s.length-i) 0 ⟨Y4 _,O,hS⟩ ?_);rintro i w ⟨hi,AW,hS⟩;refine gM 1 ?_ ?_<;>intro H_ E5
 ·refine gC 7 (wZ _ _) ?_;rintro _ _ ⟨rfl,rfl⟩;refine gM 13 ?_ ?_<;>intro Em JP
  ·refine gG 1 ?_;have E9:=Em;rw[X7z]at E9;refine⟨Y5 Value.bool ?_,hS⟩;rw[AW,Xe s om,Ny,show I6 (at_ s (i:Int))=false by simpa using E9];rfl
  refine gG 2 ?_;have E9:=Em;rw[X7z]at E9;refine rd (i+1) ⟨om,?_,hS⟩;rw[AW,Xe s om,Ny,show I6 (at_ s (i:Int))=true by simpa using E9,U_]
 refine gG 3 (⟨Y5 Value.bool ?_,hS⟩);rw[AW,Yk om];cases s<;>rfl
theorem X80(c:Ui):((((!plain c)||((c.toNat:Int)==46))||((c.toNat:Int)==95))||((c.toNat:Int)==126))=!I6 c:=eq_of_beq (Xf (p:=λc=>((((!plain c)||((c.toNat:Int)==46))||((c.toNat:Int)==95))||((c.toNat:Int)==126))==!I6 c) dk c)
theorem Xsr(s:Lu)(hs:s.length<=1000000)(As:La)(hS:Aa B w I As):Ce B I As 109 [S s] w (.bool (List.all s (I6)&&!s.isEmpty)):=by
 refine gG 4 (.lk [0,6] (σ:=Nat) (λi _m=>(7,Ab (i:Nat))::_m) (λi w=>i<=s.length/\List.all s (I6)=List.all (s.drop i) (I6)/\Aa B w I As) (λi=>s.length-i) 0 ⟨Y4 _,O,hS⟩ ?_);rintro i w ⟨hi,AW,hS⟩;refine gM 1 ?_ ?_<;>intro H_ E5
 ·refine gC 7 (wZ _ _) ?_;rintro _ _ ⟨rfl,rfl⟩;refine gM 13 ?_ ?_<;>intro Em JP
  ·refine gG 1 ?_;have E9:=Em;rw[X80]at E9;refine⟨Y5 Value.bool ?_,hS⟩;rw[AW,Xe s om,Ny,show I6 (at_ s (i:Int))=false by simpa using E9];rfl
  refine gG 2 ?_;have E9:=Em;rw[X80]at E9;refine rd (i+1) ⟨om,?_,hS⟩;rw[AW,Xe s om,Ny,show I6 (at_ s (i:Int))=true by simpa using E9,U_]
 refine gG 3 (⟨Y5 Value.bool ?_,hS⟩);rw[AW,Yk om];cases s<;>rfl
theorem X7l(c:Ui):((((!plain c)||((c.toNat:Int)==46))||((c.toNat:Int)==95))||((c.toNat:Int)==126))=!I6 c:=eq_of_beq (Xf (p:=λc=>((((!plain c)||((c.toNat:Int)==46))||((c.toNat:Int)==95))||((c.toNat:Int)==126))==!I6 c) dk c)
theorem Xf3(s:Lu)(hs:s.length<=1000000)(As:La)(hS:Aa B w I As):Ce B I As 174 [S s] w (.bool (List.all s (I6)&&!s.isEmpty)):=by
 refine gG 4 (.lk [0,6] (σ:=Nat) (λi _m=>(7,Ab (i:Nat))::_m) (λi w=>i<=s.length/\List.all s (I6)=List.all (s.drop i) (I6)/\Aa B w I As) (λi=>s.length-i) 0 ⟨Y4 _,O,hS⟩ ?_);rintro i w ⟨hi,AW,hS⟩;refine gM 1 ?_ ?_<;>intro H_ E5
 ·refine gC 7 (wZ _ _) ?_;rintro _ _ ⟨rfl,rfl⟩;refine gM 13 ?_ ?_<;>intro Em JP
  ·refine gG 1 ?_;have E9:=Em;rw[X7l]at E9;refine⟨Y5 Value.bool ?_,hS⟩;rw[AW,Xe s om,Ny,show I6 (at_ s (i:Int))=false by simpa using E9];rfl
  refine gG 2 ?_;have E9:=Em;rw[X7l]at E9;refine rd (i+1) ⟨om,?_,hS⟩;rw[AW,Xe s om,Ny,show I6 (at_ s (i:Int))=true by simpa using E9,U_]
 refine gG 3 (⟨Y5 Value.bool ?_,hS⟩);rw[AW,Yk om];cases s<;>rfl
theorem Xb6(c:Ui):((((((decide ((c.toNat:Int)<33))||(decide (126<(c.toNat:Int))))||((c.toNat:Int)==34))||((c.toNat:Int)==44))||((c.toNat:Int)==59))||((c.toNat:Int)==92))=!RQ c:=eq_of_beq (Xf (p:=λc=>((((((decide ((c.toNat:Int)<33))||(decide (126<(c.toNat:Int))))||((c.toNat:Int)==34))||((c.toNat:Int)==44))||((c.toNat:Int)==59))||((c.toNat:Int)==92))==!RQ c) dk c)
theorem Xh0(s:Lu)(hs:s.length<=1000000)(As:La)(hS:Aa B w I As):Ce B I As 175 [S s] w (.bool (List.all s (RQ))):=by
 refine gG 4 (.lk [0,6] (σ:=Nat) (λi _m=>(7,Ab (i:Nat))::_m) (λi w=>i<=s.length/\List.all s (RQ)=List.all (s.drop i) (RQ)/\Aa B w I As) (λi=>s.length-i) 0 ⟨Y4 _,O,hS⟩ ?_);rintro i w ⟨hi,AW,hS⟩;refine gM 1 ?_ ?_<;>intro H_ E5
 ·refine gH 14 ?_;refine gM 14 ?_ ?_<;>intro DN Ft
  ·refine gG 1 ?_;have E9:=DN;rw[Xb6]at E9;refine⟨Y5 Value.bool ?_,hS⟩;rw[AW,Xe s om,Ny,show RQ (at_ s (i:Int))=false by simpa using E9];rfl
  refine gG 2 ?_;have E9:=DN;rw[Xb6]at E9;refine rd (i+1) ⟨om,?_,hS⟩;rw[AW,Xe s om,Ny,show RQ (at_ s (i:Int))=true by simpa using E9,U_]
 refine gG 1 (⟨Y5 Value.bool ?_,hS⟩);rw[AW,Yk om];rfl
theorem Xa7(x y:Ui)(c:Ui):((decide ((c.toNat:Int)<(x.toNat:Int)))||(decide ((y.toNat:Int)<(c.toNat:Int))))=!FE x y c:=by
 unfold FE;rw[yH];simp only[PM,dq1,ly,qF,dq2]
 omega
theorem Xa6(x y:Ui)(s:Lu)(hs:s.length<=1000000)(As:La)(hS:Aa B w I As):Ce B I As 168 [S s,U8 x.toNat,U8 y.toNat] w (.bool (List.all s (FE x y))):=by
 refine gG 4 (.lk [0,1,2,9] (σ:=Nat) (λi _m=>(10,Ab (i:Nat))::_m) (λi w=>i<=s.length/\List.all s (FE x y)=List.all (s.drop i) (FE x y)/\Aa B w I As) (λi=>s.length-i) 0 ⟨Y4 _,O,hS⟩ ?_);rintro i w ⟨hi,AW,hS⟩;refine gN 1 ?_ ?_<;>intro Eo
 ·refine gM 14 ?_ ?_<;>intro Fs LL
  ·refine gG 1 ?_;have E9:=Fs;rw[Xa7 x y]at E9;refine⟨Y5 Value.bool ?_,hS⟩;rw[AW,Xe s om,Ny,show FE x y (at_ s (i:Int))=false by simpa using E9];rfl
  refine gG 2 ?_;have E9:=Fs;rw[Xa7 x y]at E9;refine rd (i+1) ⟨om,?_,hS⟩;rw[AW,Xe s om,Ny,show FE x y (at_ s (i:Int))=true by simpa using E9,U_]
 refine gG 1 (⟨Y5 Value.bool ?_,hS⟩);rw[AW,Yk om];rfl
theorem nR(c:Ui)(h:65<=(c.toNat:Int)/\(c.toNat:Int)<=90):U8 (IntKind.u8.wrap (IntKind.u8.wrap ((c.toNat:Int)+97)-65))=U8 (c+32).toNat:=by
 have:=Xf (p:=λc=>!(decide (65<=(c.toNat:Int))&&decide ((c.toNat:Int)<=90))||(IntKind.u8.wrap (IntKind.u8.wrap ((c.toNat:Int)+97)-65)==((c+32).toNat:Int))) dk c
 rw[decide_eq_true h.1,decide_eq_true h.2]at this;have h2:IntKind.u8.wrap (IntKind.u8.wrap ((c.toNat:Int)+97)-65)=((c+32).toNat:Int):=su this
 rw[h2]
theorem Xgj(c:Ui)(As:La)(hS:Aa B w I As):Ce B I As 196 [U8 c.toNat] w (U8 (UY c).toNat):=by
 refine gM 7 ?_ ?_<;>intro H_ E5
 ·refine gG 4 (⟨?_,hS⟩);unfold UY;rw[Y7 (by have h9:=H_;revert h9;cases hq:(decide (65<=c.toNat)&&decide (c.toNat<=90))<;>simp_all;omega)];exact nR c (su H_)
 refine gG 2 (⟨?_,hS⟩);unfold UY;rw[Y3 (by have h9:=H_;intro h8;simp at h8 h9;omega)]
end Go.Proofs.W9
namespace Rq
open Gk
structure Dk where
 kept:List Lu
 Ah:List (Int×Lu)
 AY:List Bool
 off:Bool
 left:Int
def ZB:Lu:=List.replicate 32 0
def Dv(n:Int):Dk:=⟨List.replicate (max 0 (min n 512)).toNat ZB,[],[],false,-1⟩
def N7(d:Dk)(i:Int):Bool:=decide (0<=i)&&decide (i<(d.kept.length:Nat))
def RP(i:Int)(b:Lu)(w:Int×Lu):Lu:=if w.1=i then w.2 else b
def Mn(d:Dk)(i:Int):Lu:=d.Ah.foldl (RP i) (d.kept.getD i.toNat [])
def Km(d:Dk):Dk:=if 0<d.left then{ d with left:=d.left-1,off:=d.left-1==0 } else d
def Xc(d:Dk):Bool×Dk:=if d.off=true then(true,d)else if(Km d).AY=[]then(false,Km d)else((Km d).AY.headD false,{ Km d with AY:=(Km d).AY.drop 1 })
def Ow(b:Lu):Lu:=b++List.replicate (32-b.length) 0
def Xz(d:Dk)(i:Int)(b:Lu):Nat×Dk:=if N7 d i=false then(4,d)else if 32<b.length then(2,d)else
 if(Xc d).1=true then(21,(Xc d).2)else(0,{ (Xc d).2 with Ah:=(Xc d).2.Ah++[(i,Ow b)] })
def UL(k:List Lu)(w:Int×Lu):List Lu:=k.set w.1.toNat w.2
def Fp(d:Dk):Nat×Dk:=if(Xc d).1=true then(21,(Xc d).2)else(0,{ (Xc d).2 with kept:=(Xc d).2.Ah.foldl UL (Xc d).2.kept,Ah:=[] })
def Nn(d:Dk):Dk:=if d.off=true then d else{ d with Ah:=[] }
structure FP(d:Dk):Prop where
 size:d.kept.length<=512
 kept:∀b∈d.kept,b.length=32
 at_:∀w∈d.Ah,0<=w.1/\w.1<(d.kept.length:Nat)
 what:∀w∈d.Ah,w.2.length=32
 left:-1<=d.left/\d.left<=9223372036854775807
theorem nW(n:Int):FP (Dv n):=by
 refine⟨?_,?_,by simp[Dv],by simp[Dv],by simp[Dv]⟩
 ·simp only[Dv,js];omega
 ·intro b hb;simp only[Dv]at hb;rw[(List.mem_replicate.1 hb).2];rfl
theorem iu{d:Dk}(h:FP d):FP (Km d):=by
 unfold Km;split
 ·exact⟨h.size,h.kept,h.at_,h.what,by have:=h.left;simp only[];omega⟩
 ·exact h
theorem w6{d:Dk}(h:FP d):FP (Xc d).2/\(Xc d).2.kept=d.kept/\(Xc d).2.Ah=d.Ah:=by
 have ht:=iu h;have e1:(Km d).kept=d.kept/\(Km d).Ah=d.Ah:=by unfold Km;split<;>exact⟨O,O⟩
 unfold Xc;split
 ·exact⟨h,O,O⟩
 ·split
  ·exact⟨ht,e1⟩
  ·exact⟨⟨ht.size,ht.kept,ht.at_,ht.what,ht.left⟩,e1⟩
theorem Xv3{b:Lu}(h:b.length<=32):(Ow b).length=32:=by
 unfold Ow;simp;omega
theorem YP{d:Dk}(h:FP d)(i:Int)(b:Lu):FP (Xz d i b).2:=by
 obtain⟨h1,h2,h3⟩:=w6 h;unfold Xz;split
 ·exact h
 ·rename_i hi
  split
  ·exact h
  ·split
   ·exact h1
   ·refine⟨h1.size,h1.kept,λw hw=>?_,λw hw=>?_,h1.left⟩
    ·rcases Yn.1 hw with hw|hw
     ·exact h1.at_ w hw
     ·simp at hw;subst hw
      simp only[N7,qF,dq2,not_or,Decidable.not_not]at hi
      exact⟨hi.1,by rw[h2];exact hi.2⟩
    ·rcases Yn.1 hw with hw|hw
     ·exact h1.what w hw
     ·simp at hw;subst hw
      exact Xv3 om
theorem Xl0:∀(l:List (Int×Lu)) (k:List Lu),(∀w∈l,w.2.length=32)->(∀b∈k,b.length=32)->(l.foldl UL k).length=k.length/\∀b∈l.foldl UL k,b.length=32
 | [],k,_,hk=>⟨O,hk⟩
 | w::l,k,hl,hk=>by
  have h1:∀b∈UL k w,b.length=32:=λb hb=>by
   rcases Y3m hb with hb|hb
   ·exact hk b hb
   ·rw[hb];exact hl w sz
  have:=Xl0 l (UL k w) (λx hx=>hl x (by simp[hx])) h1
  exact⟨by rw[Ky,this.1];unfold UL;simp,this.2⟩
theorem ie{d:Dk}(h:FP d):FP (Fp d).2:=by
 obtain⟨h1,h2,h3⟩:=w6 h;unfold Fp;split
 ·exact h1
 ·have:=Xl0 (Xc d).2.Ah (Xc d).2.kept h1.what h1.kept
  exact⟨by show((Xc d).2.Ah.foldl UL (Xc d).2.kept).length<=512;rw[this.1];exact h1.size,this.2,by simp,by simp,h1.left⟩
theorem cC{d:Dk}(h:FP d):FP (Nn d):=by
 unfold Nn;split
 ·exact h
 ·exact⟨h.size,h.kept,by simp,by simp,h.left⟩
end Rq
namespace Go.Proofs.W9
open Gk Ul Pc Tk Tr Xm Rq
open Tryz
theorem Xrm:prog.info? 358=some t358:=by kernel_rfl
theorem Xrn:prog.info? 360=some t360:=by kernel_rfl
theorem Xpc{cells:α->Lv}{s:Nat}{l:List α}(hc:∀x∈l,(cells x).length=s){j:Nat}{r:α}(hr:l[i]?=some r)(hj:(cells r)[j]?=some v):(X2 cells l)[i*s+j]?=some v:=by
 have h:=wS (l.map cells) (λc h=>by obtain⟨y,hy,rfl⟩:=Fg.1 h;exact hc y hy) i (cells r) (by rw[Ys,hr];rfl);have O6:j<s:=by rw[<-hc r (Y6 hr)];exact(Y1.1 hj).1
 rw[<-h,jw,Y7 O6,U6]at hj;exact hj
theorem Xpd{α:Type}{cells:α->Lv}{s:Nat}:∀{l:List α},(∀x∈l,(cells x).length=s)->(X2 cells l).length=l.length*s
 | [],_=>by simp[X2]
 | x::l,h=>by
  show(cells x++X2 cells l).length=_
  rw[Y0,h x sz,Xpd (λy hy=>h y (by simp[hy])),List.length_cons,RV];omega
theorem Xpe{α:Type}{cells:α->Lv}{s:Nat}:∀{l:List α} {i:Nat} {y:α},(∀x∈l,(cells x).length=s)->(cells y).length=s->i<l.length->(X2 cells l).take (i*s)++cells y++(X2 cells l).drop (i*s+s)=X2 cells (l.set i y)
 | [],i,y,_,_,h=>Yy h (Nat.not_lt_zero _)
 | x::l,0,y,hc,hy,_=>by
  show((cells x++X2 cells l).take (0*s))++cells y++(cells x++X2 cells l).drop (0*s+s)=cells y++X2 cells l
  rw[jz,RU,Ez,Yj,<-hc x sz,Zx]
 | x::l,i+1,y,hc,hy,h=>by
  show((cells x++X2 cells l).take ((i+1)*s))++cells y++(cells x++X2 cells l).drop ((i+1)*s+s)=cells x++X2 cells (l.set i y)
  have hx:=hc x sz;rw[<-Xpe (λz hz=>hc z (by simp[hz])) hy (su h),show(i+1)*s=(cells x).length+i*s by rw[hx,RV];omega,Y4a,show(cells x).length+i*s+s=(cells x).length+(i*s+s)by omega,Y59,Yc,Yc,Yc]
abbrev Kd(w:Int×Lu):Lv:=Ab w.1::Ax w.2
theorem pW(l:Lu):(Ax l).length=l.length:=by simp[Ax]
theorem vD{d:Dk}(h:FP d):∀x∈d.kept,(Ax x).length=32:=λx hx=>by rw[pW];exact h.kept x hx
theorem Xvs{d:Dk}(h:FP d):∀x∈d.Ah,(Kd x).length=33:=λx hx=>by rw[List.length_cons,pW,h.what x hx]
abbrev CU(db kb:Nat)(sv pl:Va)(d:Dk)(R:La):La:=Ae db [.slice (some (ad kb 0)) d.kept.length d.kept.length,sv,pl,.bool d.off,Ab d.left] 107::Ae kb (X2 Ax d.kept) 358::Ar 360 33 sv d.Ah.length (X2 Kd d.Ah)::R
theorem Xtm(d:Dk)(db kb:Nat)(sv pl:Va)(As:La)(hS:Aa B w I (CU db kb sv pl d As)):Ce B I (CU db kb sv pl d As) 142 [ptr db 0] w (Ab (d.kept.length:Nat)):=by
 exact gG 7 ⟨O,hS⟩
theorem Se(i:Int)(d:Dk)(db kb:Nat)(sv pl:Va)(As:La)(hS:Aa B w I (CU db kb sv pl d As)):Ce B I (CU db kb sv pl d As) 238 [ptr db 0,Ab i] w (.bool (N7 d i)):=by
 exact gG 13 ⟨O,hS⟩
theorem VH(d:Dk)(db kb:Nat)(sv pl:Va)(As:La)(hS:Aa B w I (CU db kb sv pl d As)):Cz 392 [ptr db 0] w λv w'=>∃sv,Aa B w' I (CU db kb sv pl (Nn d) As):=by
 refine gM 5 ?_ ?_<;>intro dL y6
 ·refine gG 4 ?_;clear hS;intro w hS;refine⟨.slice none 0 0,?_⟩;unfold Nn;rw[Y3 (su dL)];exact(((hS.y 2 1).An 360 33).pick 2 O).pick 2 O
 refine gG 0 (⟨sv,?_⟩);unfold Nn;rw[Y7 (su dL)];exact hS
def AU(I:Im)(pl:Va)(p:List Bool):Prop:=∃pa pc,pl=.slice pa p.length pc/\p.length<=pc/\RS I pa 1 p.length (p.map Value.bool)
theorem AU.mono{pl:Va}{p:List Bool}(h:AU I pl p)(hl:Le I J):AU J pl p:=by
 obtain⟨pa,pc,h1,h2,h3⟩:=h;exact⟨pa,pc,h1,h2,h3.mono hl⟩
theorem oJ{s:Nat}(h:RS I a s n xs)(hk:k<=n)(hc:n<=c):∃a',sliced a k n c s=.slice a' (n-k) (c-k)/\RS I a' s (n-k) (xs.drop (k*s)):=by
 refine⟨if c=k then a else a.map (·.add (k*s)),O,by rw[Ye,h.1,Nat.sub_mul],λhp=>?_⟩;obtain⟨p,rfl,hq⟩:=h.2 om;rw[Y3 om];exact⟨_,O,hq.add (k*s)⟩
theorem AU.tail{pa:Oa}{pc:Nat}{p:List Bool}(h0:p≠[])(h2:p.length<=pc)(h:RS I pa 1 p.length (p.map Value.bool)):AU I (sliced pa 1 p.length pc 1) (p.drop 1):=by
 have hp:=U5.2 h0;obtain⟨a',e,hr⟩:=oJ h (k:=1) hp h2;rw[e];refine⟨a',pc-1,by rw[Ye],by rw[Ye];omega,?_⟩;rw[Ye,List.map_drop];exact hr
theorem Aan{l:Lv}{s:Nat}(hl:l.length=s)(hz:zs.length=s):RD (λi=>some (i*s,s)) zs [(0,.agg l.toArray)]=some l:=by
 have h1:Nat.beq ((Value.agg l.toArray).cells.toList.length) s=true:=by
  show Nat.beq l.toArray.toList.length s=true
  simpa using hl
 have h2:Nat.ble (0*s+s) zs.length=true:=Y4b om;rw[RD];simp only[h1,h2,Bool.and_self,cond_true]
 rw[RD,sS];show some (List.take (0*s) zs++l.toArray.toList++List.drop (0*s+l.toArray.toList.length) zs)=_
 rw[jz,RU,Ez,Yj,Yk (by simp;omega),Yr]
theorem XI(i:Int){b:Lu}(h:b.length<=32):(Ab i::List.replicate 32 (U8 0)).take 1++Ax b++(Ab i::List.replicate 32 (U8 0)).drop (1+b.length)=Kd (i,Ow b):=by
 unfold Ow;rw[show(1+b.length)=b.length+1 from Zz _ _,Kw,qG,RU];show Ab i::(Ax b++_)=Ab i::Ax (b++List.replicate (32-b.length) 0)
 rw[show Ax (b++List.replicate (32-b.length) 0)=Ax b++Ax (List.replicate (32-b.length) 0)by simp[Ax],List.drop_replicate];simp[Ax]
theorem Xsy(d:Dk)(i:Int)(b:Lu):X2 Kd (d.Ah++[(i,b)])=X2 Kd d.Ah++Kd (i,b):=by
 simp[X2]
theorem Xic(d:Dk)(db kb:Nat)(sv pl:Va)(hO:FP d)(hP:AU I pl d.AY)(As:La)(hS:Aa B w I (Ae db [.slice (some (ad kb 0)) d.kept.length d.kept.length,sv,pl,.bool d.off,Ab d.left] 107::Ae kb (X2 Ax d.kept) 358::Ar 360 33 sv d.Ah.length (X2 Kd d.Ah)::As)):Cz 435 [ptr db 0] w λv w'=>∃sv pl,v=.bool (Xc d).1/\AU I pl (Xc d).2.AY/\Aa B w' I (Ae db [.slice (some (ad kb 0)) (Xc d).2.kept.length (Xc d).2.kept.length,sv,pl,.bool (Xc d).2.off,Ab (Xc d).2.left] 107::Ae kb (X2 Ax (Xc d).2.kept) 358::Ar 360 33 sv (Xc d).2.Ah.length (X2 Kd (Xc d).2.Ah)::As):=by
 obtain⟨pa,pc,rfl,NY,hR⟩:=hP;have Ahq:=hO.left;refine gM 5 ?_ ?_<;>intro KG hc7
 ·refine gG 1 ?_;have e:Xc d=(true,d):=by unfold Xc;rw[Y7 KG]
  rw[e];exact⟨sv,_,O,⟨pa,pc,O,NY,hR⟩,hS⟩
 refine gN 5 ?_ ?_<;>intro B_
 ·refine gH 14 ?_;clear hS;intro w hS;refine gG 9 ?_;clear hS;intro w hS;refine gM 0 ?_ ?_<;>intro Da FY
  ·have GC:d.AY=[]:=Yf (oh FY);refine gG 1 ?_;have et:Km d={ d with left:=d.left-1,off:=d.left-1==0 }:=by unfold Km;exact Y7 (oh B_)
   have e:Xc d=(false,{ d with left:=d.left-1,off:=d.left-1==0 }):=by unfold Xc;rw[Y3 (nB (show d.off=false from KG)),et];exact Y7 GC
   rw[e];exact⟨sv,_,O,⟨pa,pc,O,NY,hR⟩,hS⟩
  refine gG 0 ?_;have GC:d.AY≠[]:=λh=>by rw[h]at Da;cases Da
  have re:=U5.2 GC;obtain⟨p,rfl,hpa⟩:=hR.2 re;have hph:(d.AY.map Value.bool)[0]?=some (.bool (d.AY.headD false)):=by cases hq:d.AY with
   | nil=>exact Yy hq GC
   | cons b r=>rfl
  refine gH 5 (.val (.Ca (v:=.bool (d.AY.headD false)) (.of O) hS (At.add hpa 0) I8 hph) O (gG 12 ?_));clear hS;intro w hS;have et:Km d={ d with left:=d.left-1,off:=d.left-1==0 }:=by unfold Km;exact Y7 (oh B_)
  have e:Xc d=(d.AY.headD false,{ { d with left:=d.left-1,off:=d.left-1==0 } with AY:=d.AY.drop 1 }):=by unfold Xc;rw[Y3 (nB (show d.off=false from KG)),et];exact Y3 GC
  rw[e];exact⟨sv,_,O,.tail GC NY hR,hS⟩
 refine gM 6 ?_ ?_<;>intro Da FY
 ·have GC:d.AY=[]:=Yf (oh FY);refine gG 1 ?_;have et:Km d=d:=by unfold Km;exact Y3 (oh B_)
  have e:Xc d=(false,d):=by unfold Xc;rw[Y3 (nB (show d.off=false from KG)),et];exact Y7 GC
  rw[e];exact⟨sv,_,O,⟨pa,pc,O,NY,hR⟩,hS⟩
 refine gG 0 ?_;have GC:d.AY≠[]:=λh=>by rw[h]at Da;cases Da
 have re:=U5.2 GC;obtain⟨p,rfl,hpa⟩:=hR.2 re;have hph:(d.AY.map Value.bool)[0]?=some (.bool (d.AY.headD false)):=by cases hq:d.AY with
  | nil=>exact Yy hq GC
  | cons b r=>rfl
 refine gH 5 (.val (.Ca (v:=.bool (d.AY.headD false)) (.of O) hS (At.add hpa 0) I8 hph) O (gG 12 ?_));clear hS;intro w hS;have et:Km d=d:=by unfold Km;exact Y3 (oh B_)
 have e:Xc d=(d.AY.headD false,{ d with AY:=d.AY.drop 1 }):=by unfold Xc;rw[Y3 (nB (show d.off=false from KG)),et];exact Y3 GC
 rw[e];exact⟨sv,_,O,.tail GC NY hR,hS⟩
theorem Xid(i:Int)(b:Lu)(ba:Oa)(bc:Nat)(d:Dk)(db kb:Nat)(sv pl:Va)(B w:Wo)(I:Im)(hO:FP d)(hP:AU I pl d.AY)(IE:RS I ba 1 b.length (Ax b))(Cp:d.Ah.length<=1000000)(As:La)(hS:Aa B w I (Ae db [.slice (some (ad kb 0)) d.kept.length d.kept.length,sv,pl,.bool d.off,Ab d.left] 107::Ae kb (X2 Ax d.kept) 358::Ar 360 33 sv d.Ah.length (X2 Kd d.Ah)::As)):Cz 389 [ptr db 0,Ab i,.slice ba b.length bc] w λv w'=>∃sv pl,v=Ab ((Xz d i b).1:Nat)/\AU I pl (Xz d i b).2.AY/\Aa B w' I (Ae db [.slice (some (ad kb 0)) (Xz d i b).2.kept.length (Xz d i b).2.kept.length,sv,pl,.bool (Xz d i b).2.off,Ab (Xz d i b).2.left] 107::Ae kb (X2 Ax (Xz d i b).2.kept) 358::Ar 360 33 sv (Xz d i b).2.Ah.length (X2 Kd (Xz d i b).2.Ah)::As):=by
 refine gE 3 (Se i d db kb sv pl) ?_;clear hS;intro w hS;refine gM 2 ?_ ?_<;>intro H_ E5
 ·refine gG 1 ?_;have e:Xz d i b=(4,d):=by unfold Xz;rw[Y7 (su H_)]
  rw[e];exact⟨_,_,O,hP,hS⟩
 refine gN 4 ?_ ?_<;>intro DP
 ·refine gG 1 ?_;have e:Xz d i b=(2,d):=by unfold Xz;rw[Y3 (by rw[show N7 d i=true by simpa using H_];decide),Y7 om]
  rw[e];exact⟨_,_,O,hP,hS⟩
 refine gF 1 (Xic d db kb sv pl hO hP) ?_;clear hS;rintro _ w ⟨sv1,pl1,rfl,hP1,hS⟩;obtain⟨fo1,yR,fs1⟩:=w6 hO;have Adr:=Y5 List.length fs1;refine gM 1 ?_ ?_<;>intro EG Gx
 ·refine gG 1 ?_;have e:Xz d i b=(21,(Xc d).2):=by unfold Xz;rw[Y3 (by rw[show N7 d i=true by simpa using H_];decide),Y3 om,Y7 EG]
  rw[e];exact⟨_,_,O,hP1,hS⟩
 refine gH 2 (.Ix (cs:=Ab 0::List.replicate 32 (U8 0)) hS M8 O ?_);clear hS;intro b7 w hS;refine .CX (cs:=Ab 0::List.replicate 32 (U8 0)) hS (k:=0) O (.of O) (.of O) O qm O sz ?_;clear hS;intro w hS;replace hS:Aa B w I (Ae b7 (Ab i::List.replicate 32 (U8 0)) 360::Ae db [.slice (some (ad kb 0)) (Xc d).2.kept.length (Xc d).2.kept.length,sv1,pl1,.bool (Xc d).2.off,Ab (Xc d).2.left] 107::Ae kb (X2 Ax (Xc d).2.kept) 358::Ar 360 33 sv1 (Xc d).2.Ah.length (X2 Kd (Xc d).2.Ah)::As):=hS;refine gH 1 (.val (.Dm (.of O) de underlying358 FJ) O ?_);refine gH 1 (.Aah (o:=1) (m:=32) (E:=5) hS (k:=0) O (.of O) (.of O) IE Db FJ (Ni b) om (by simp;omega) O ?_);clear hS;intro w hS;replace hS:=hS.say (k:=0) O (λh hh=>by rw[XI i om]at hh;exact hh);dsimp only[List.set]at hS
 have NZ:=Xv3 (b:=b) om;refine gG 0 (gD [1,0] [10] [0,1,2,3,4,5,6,7,8,9,10] ?_);clear hS;intro w hS;refine gH 5 (Br.y 5 (λw _ _ A6 hS=>(.HQ (cs:=Kd (i,Ow b)) (.of O) hS (k:=1) O isAgg360 qm (by simp[NZ]))) (Br.e (.buildSlice (cs:=Kd (i,Ow b)) hS (QB O pM) Z7 qm M8 O O (Aan (by simp[NZ]) de) O ?_)));clear hS;intro b32 w hS;refine gH 0 (Br.e (.append (size:=33) (bytes:=40) hS (.of O) (.of O) (k:=3) O Z7 Xrn O O O O (by simp[NZ]) O (by simp[Kd,Value.oneCell',Ax]) ⟨om,by unfold maxLen;omega⟩ O ?_));clear hS;intro v33 w hS;dsimp only[List.set]at hS;obtain⟨a33,c33,rfl,uC,_⟩:=hS.Av (k:=3) (v:=v33) O;refine gH 3 ?_;clear hS;intro w hS;refine gG 1 ?_;have e:Xz d i b=(0,{ (Xc d).2 with Ah:=(Xc d).2.Ah++[(i,Ow b)] }):=by unfold Xz;rw[Y3 (by rw[show N7 d i=true by simpa using H_];decide),Y3 om,Y3 (by rw[show(Xc d).1=false from EG];decide)]
 rw[e];replace hS:=((((hS.pick 3 O).pick 3 O).pick 3 O).drop (k:=3) O)
 exact⟨_,_,O,hP1,by rw[Xsy,Y0];exact hS⟩
theorem Xw3{cells:α->Lv}{s E:Nat}{l:List α}(hc:∀x∈l,(cells x).length=s)(hS:Aa B w I As)(hk:As[k]?=some (Ar E s (.slice a l.length c) l.length (X2 cells l))):Mj w cells s a l:=λi r hr=>by
 obtain⟨b,cap,rest,hv,_,_,_,_,Jq⟩:=hS.AP hk (oh ((Y1.1 hr).1));injection hv with h1 h2 h3
 subst h1;have hb:=Jq.block (k:=k) (by rw[Y44 ((Y1.1 hk).1)];rfl);refine⟨_,O,λj v hj=>?_⟩;rw[Addr.add_add];have h3:=Xpc (cells:=cells) (s:=s) hc hr hj
 have:=HU hb (o:=i*s+j) (by rw[Y9 (Y1.1 h3).1];exact h3)
 rw[EE,Yj];exact this
theorem gq(n m:Nat)(x:Ui):X2 Ax (List.replicate n (List.replicate m x))=List.replicate (n*m) (U8 x.toNat):=by
 induction n with
 | zero=>simp[X2]
 | succ n ih =>
  show Ax (List.replicate m x)++X2 Ax (List.replicate n (List.replicate m x))=_
  rw[ih,show Ax (List.replicate m x)=List.replicate m (U8 x.toNat)by simp[Ax],List.replicate_append_replicate,bh,Zz]
theorem Xtn(n:Int)(As:La)(hS:Aa B w I As):Cz 8 [Ab n] w λv w'=>∃db kb sv,v=ptr db 0/\Aa B w' I (Ae db [.slice (some (ad kb 0)) (Dv n).kept.length (Dv n).kept.length,sv,(.slice none 0 0),.bool (Dv n).off,Ab (Dv n).left] 107::Ae kb (X2 Ax (Dv n).kept) 358::Ar 360 33 sv (Dv n).Ah.length (X2 Kd (Dv n).Ah)::As):=by
 obtain⟨l,hl⟩:∃l:Nat,max 0 (min n 512)=(l:Int):=⟨_,(yx om).symm⟩
 refine gH 4 (.Abp (l:=l) (s:=32) (z0:=U8 0) hS (.of (Y5 (λx=>some (Ab x)) hl)) (.of (Y5 (λx=>some (Ab x)) hl)) underlying103 Xrm O (by simp[t358];omega) om O de O O ?_);clear hS;intro kb w hS;refine gG 3 ?_;clear hS;intro b8 w hS;have e1:(Dv n).kept.length=l:=by simp only[Dv,js];omega
 have e2:X2 Ax (Dv n).kept=List.replicate (l*32) (U8 0):=by
  simp only[Dv,ZB]
  rw[gq,show(max 0 (min n 512)).toNat=l by omega];first|done|rfl
 refine⟨b8,kb,.slice none 0 0,O,?_⟩;rw[e1,e2];exact(((hS.An 360 33).pick 2 O).pick 2 O)
theorem VI(d:Dk)(db kb:Nat)(sv pl:Va)(hO:FP d)(hP:AU I pl d.AY)(Cp:d.Ah.length<=1000000)(As:La)(hS:Aa B w I (Ae db [.slice (some (ad kb 0)) d.kept.length d.kept.length,sv,pl,.bool d.off,Ab d.left] 107::Ae kb (X2 Ax d.kept) 358::Ar 360 33 sv d.Ah.length (X2 Kd d.Ah)::As)):Cz 390 [ptr db 0] w λv w'=>∃sv pl,v=Ab ((Fp d).1:Nat)/\AU I pl (Fp d).2.AY/\Aa B w' I (Ae db [.slice (some (ad kb 0)) (Fp d).2.kept.length (Fp d).2.kept.length,sv,pl,.bool (Fp d).2.off,Ab (Fp d).2.left] 107::Ae kb (X2 Ax (Fp d).2.kept) 358::Ar 360 33 sv (Fp d).2.Ah.length (X2 Kd (Fp d).2.Ah)::As):=by
 refine gF 2 (Xic d db kb sv pl hO hP) ?_;clear hS;rintro _ w ⟨sv1,pl1,rfl,hP1,hS⟩;obtain⟨fo1,yR,fs1⟩:=w6 hO;have Adr:=Y5 List.length fs1;refine gM 0 ?_ ?_<;>intro dL y6
 ·refine gG 1 ?_;have e:Fp d=(21,(Xc d).2):=by unfold Fp;exact Y7 dL
  rw[e];exact⟨sv1,pl1,O,hP1,hS⟩
 obtain⟨sa,sc,rfl,N0,_⟩:=hS.vS 2;refine gG 6 ?_;have eu:=λj=>Xl0 ((Xc d).2.Ah.take j) d.kept (λw hw=>fo1.what w (sX hw)) hO.kept
 rw[yR]at hS;have Bh:=hS;clear hS;refine .lk [0,10,11] (σ:=Nat) (λi _m=>(12,Ab (i:Nat))::_m) (λi w=>i<=(Xc d).2.Ah.length/\Aa B w I (Ae db [.slice (some (ad kb 0)) d.kept.length d.kept.length,.slice sa (Xc d).2.Ah.length sc,pl1,.bool (Xc d).2.off,Ab (Xc d).2.left] 107::Ae kb (X2 Ax (((Xc d).2.Ah.take i).foldl UL d.kept)) 358::Ar 360 33 (.slice sa (Xc d).2.Ah.length sc) (Xc d).2.Ah.length (X2 Kd (Xc d).2.Ah)::As)) (λi=>(Xc d).2.Ah.length-i) 0 ⟨Y4 _,Bh⟩ ?_;rintro i w ⟨hi,hS⟩;clear Bh;have Cw:=(eu i).1;have O7:=λx hx=>(pW x).trans ((eu i).2 x hx)
 refine gN 1 ?_ ?_<;>intro DP
 ·refine gG 0 ?_;obtain⟨x,hx⟩:∃x,(Xc d).2.Ah[i]?=some x:=⟨_,Y2 om⟩
  have hxm:=Y6 hx;have F7:=fo1.at_ x hxm;have jP:=fo1.what x hxm;have np:=Y5 List.length yR;obtain⟨q,rfl,hq⟩:=Xw3 (Xvs fo1) hS (k:=2) O i x hx;refine gH 1 ?_;try rw[Y8]
  refine .val (.LY (.of O) hq isAgg360 qm (by simp[jP])) O (.Ix (cs:=Ab 0::List.replicate 32 (U8 0)) hS M8 O ?_);clear hS;intro b4 w hS;refine .so hS (k:=0) O O O (by simp[Kd,Value.oneCell',Ax]) qm (by simp[jP]) sz ?_;clear hS;intro w hS;replace hS:=hS.say (k:=0) O (λh hh=>by rw[RU,Ez,Yk sz,Yr]at hh;exact hh);dsimp only[List.set]at hS
  refine gG 0 (gD [1,0] [9] [0,1,2,3,4,5,6,7,8,9] ?_);clear hS;intro w hS;refine gH 5 (Br.y 5 (λw _ _ A6 hS=>(.ld (v:=Ab x.1) (.of O) hS (k:=1) O Cv O)) (gH 1 ?_));refine Br.y 7 (λw _ _ A6 hS=>(.GG (vs:=Ax x.2) (.of O) hS (k:=1) O isAgg358 ql (by simp[Ax,jP]) (λj v hj=>by rw[Zz,Y39];exact hj))) ?_;refine gH 1 (Br.e ?_);refine .CX (cs:=X2 Ax (((Xc d).2.Ah.take i).foldl UL d.kept)) hS (k:=2) O (.of O) (.of O) (Ni _) ql (by simp[Ax,jP]) (by have h9:=Xpd O7;rw[Cw]at h9;omega) ?_;clear hS;intro w hS;replace hS:=hS.say (k:=2) O (λh hh=>by rw[Yj,Xpe O7 (by simp[Ax,jP]) om]at hh;exact hh);dsimp only[List.set]at hS
  refine gG 2 (rd (i+1) ⟨om,?_⟩);rw[Yo,hx,Yu,Lm];exact(hS.z [3,3,3] 3 1)
 refine gG 5 ?_;clear hS;intro w hS;have e:Fp d=(0,{ (Xc d).2 with kept:=(Xc d).2.Ah.foldl UL (Xc d).2.kept,Ah:=[] }):=by unfold Fp;exact Y3 (nB dL)
 rw[e];have hlen:=(eu (Xc d).2.Ah.length).1;rw[Yg om]at hlen;have y7:i=(Xc d).2.Ah.length:=om
 subst y7;rw[Yg (Yd _)]at hS;refine⟨.slice none 0 0,pl1,O,hP1,?_⟩;rw[<-yR]at hS;simp only[yR]at hlen ⊢
 rw[hlen];rw[yR]at hS;exact(((hS.y 2 1).An 360 33).pick 2 O).pick 2 O
theorem oP{d:Dk}(h:FP d)(n:Int){b:Lu}(hb:b.length=32)(i:Nat):((d.Ah.take i).foldl (RP n) b).length=32:=by
 have key:∀(l:List (Int×Lu)) (b:Lu),(∀w∈l,w.2.length=32)->b.length=32->(l.foldl (RP n) b).length=32:=by
  intro l
  induction l with
  | nil=>intro b _ hb;exact hb
  | cons w l ih =>
   intro b hl hb;refine ih _ (λx hx=>hl x (by simp[hx])) ?_;unfold RP;split
   ·exact hl w sz
   ·exact hb
 exact key _ _ (λw hw=>h.what w (sX hw)) hb
theorem Xne(d:Dk)(db kb:Nat)(sa:Oa)(sc:Nat)(pl:Va)(n:Int)(hO:FP d)(hI:N7 d n=true)(Cp:d.Ah.length<=1000000)(As:La)(hS:Aa B w I (CU db kb (.slice sa d.Ah.length sc) pl d As)):Cz 145 [ptr db 0,Ab n] w λv w'=>∃b5,v=.slice (some (ad b5 0)) 32 32/\Aa B w' I (Ae b5 (Ax (Mn d n)) 358::CU db kb (.slice sa d.Ah.length sc) pl d As):=by
 refine gP 3 [] (Se n d db kb _ pl _) ?_;clear hS;rintro _ w ⟨rfl,hS⟩;refine gG 1 ?_;refine .AF (by rw[hI];rfl) ?_;refine gG 0 ?_;have JV:0<=n/\n<(d.kept.length:Nat):=by have h9:=hI;simp only[N7,Yb,dq1]at h9;exact h9
 have hkn:d.kept[n.toNat]?=some (d.kept.getD n.toNat []):=by rw[Ya,Y2 om];rfl
 have Cw:=hO.kept _ (Y6 hkn);refine gH 6 ?_;refine .val (.GG (vs:=Ax (d.kept.getD n.toNat [])) (.of O) hS (k:=1) O isAgg358 ql (by rw[pW];exact Cw) (λj v hj=>by rw[Yj];exact Xpc (vD hO) hkn hj)) O ?_;refine .Ix (cs:=List.replicate 32 (U8 0)) hS zeroValue358 O ?_;clear hS;intro b5 w hS;refine .so hS (k:=0) O O O (Ni _) ql (by rw[pW];exact Cw) sz ?_;clear hS;intro w hS;replace hS:=hS.say (k:=0) O (λh hh=>by rw[RU,Ez,Yk sz,Yr]at hh;exact hh);dsimp only[List.set]at hS
 have Bh:=hS;clear hS;refine gG 6 (.lk [1,5,22,23] (σ:=Nat) (λi _m=>(24,Ab (i:Nat))::_m) (λi w=>i<=d.Ah.length/\Aa B w I (Ae b5 (Ax ((d.Ah.take i).foldl (RP n) (d.kept.getD n.toNat []))) 358::CU db kb (.slice sa d.Ah.length sc) pl d As)) (λi=>d.Ah.length-i) 0 ⟨Y4 _,Bh⟩ ?_);rintro i w ⟨hi,hS⟩;clear Bh;have HO:(((d.Ah.take i).foldl (RP n) (d.kept.getD n.toNat []))).length=32:=oP hO n Cw i;refine gN 1 ?_ ?_<;>intro E4
 ·refine gG 0 ?_;obtain⟨x,hx⟩:∃x,d.Ah[i]?=some x:=⟨_,Y2 om⟩
  have hxm:=Y6 hx;have jP:=hO.what x hxm;obtain⟨q,rfl,hq⟩:=Xw3 (Xvs hO) hS (k:=3) O i x hx;refine gH 1 ?_;try rw[Y8]
  refine .val (.LY (.of O) hq isAgg360 qm (by simp[jP])) O (.Ix (cs:=Ab 0::List.replicate 32 (U8 0)) hS M8 O ?_);clear hS;intro b7 w hS;refine .so hS (k:=0) O O O (by simp[Kd,Value.oneCell',Ax]) qm (by simp[jP]) sz ?_;clear hS;intro w hS;replace hS:=hS.say (k:=0) O (λh hh=>by rw[RU,Ez,Yk sz,Yr]at hh;exact hh);dsimp only[List.set]at hS
  refine gH 1 (.val (.ld (v:=Ab x.1) (.of O) hS (k:=0) O Cv O) O ?_);refine gN 2 ?_ ?_<;>intro LN
  ·refine gH 1 ?_;refine .val (.GG (vs:=Ax x.2) (.of O) hS (k:=0) O isAgg358 ql (by simp[Ax,jP]) (λj v hj=>by rw[Zz,Y39];exact hj)) O ?_;refine .CX (cs:=Ax ((d.Ah.take i).foldl (RP n) (d.kept.getD n.toNat []))) hS (k:=1) O (.of O) (.of O) (Ni _) ql (by simp[Ax,jP]) (by rw[pW,HO];exact Yd _) ?_;clear hS;intro w hS;replace hS:=hS.say (k:=1) O (λh hh=>by rw[RU,Ez,Yk (by rw[pW,HO];exact Yd _),Yr]at hh;exact hh);dsimp only[List.set]at hS
   refine gG 2 (rd (i+1) ⟨om,?_⟩);rw[Yo,hx,Yu,Lm,show List.foldl (RP n) ((d.Ah.take i).foldl (RP n) (d.kept.getD n.toNat [])) [x]=x.2 from Y7 (oh LN)];exact(hS.z [4,4,4,4] 4 1)
  refine gG 2 (rd (i+1) ⟨om,?_⟩);rw[Yo,hx,Yu,Lm,show List.foldl (RP n) ((d.Ah.take i).foldl (RP n) (d.kept.getD n.toNat [])) [x]=((d.Ah.take i).foldl (RP n) (d.kept.getD n.toNat [])) from Y3 (oh LN)];exact(hS.z [4,4,4,4] 4 1)
 refine gG 0 (.val (.Dm (.of O) de underlying358 FJ) O ?_);refine gG 1 ?_;rw[Yg om]at hS;exact⟨b5,O,hS⟩
theorem Xx4:Bld prog 118 [(0,1),(1,1),(2,1),(3,1)] [S [],S [],.slice none 0 0,S []]:=Eu qp an (λw=>by simp[go_sem])
theorem Xuo(tb:Nat)(s:Lu)(hs:s.length<=1000000)(hZ:Kz I)(As:La)(hS:Aa B w I (Ae tb [S s] 204::As)):Ce B I (Ae tb [S (Xq s).2.2] 204::As) 89 [ptr tb 0] w (.tuple #[S (Xq s).1,Ab ((Xq s).2.1:Nat)]):=by
 refine gE 6 (Xta s CR hs hZ) ?_;clear hS;intro w hS;refine gM 9 ?_ ?_<;>intro EG Gx
 ·refine gG 2 (⟨?_,?_⟩)
  ·unfold Xq;rw[Y3 (su EG)];rfl
  ·unfold Xq;rw[Y3 (su EG)];exact hS
 refine gG 8 ?_;clear hS;intro w hS;refine⟨?_,?_⟩
 ·unfold Xq;rw[Y7 (su EG)];rfl
 ·unfold Xq;rw[Y7 (su EG)];exact hS
theorem eX{a b:Ui}(h:(a.toNat:Int)=b.toNat):(a==b)=true:=by
 have:a=b:=JH.1 om
 rw[this];exact beq_self_eq_true _
theorem eY{a b:Ui}(h:¬ (a.toNat:Int)=b.toNat):(a==b)=false:=by
 cases e:a==b with
 | false=>rfl
 | true=>exact Yy (by rw[eq_of_beq e]) h
theorem Xe9(s t:Lu)(hs:s.length<=1000000)(As:La)(hS:Aa B w I As):Ce B I As 111 [S s,S t] w (.bool (FL s t)):=by
 refine gN 6 ?_ ?_<;>intro DO
 ·refine gG 1 (⟨Y5 Value.bool ?_,hS⟩);unfold FL;rw[show(s.length==t.length)=false from by have h9:=DO;simp;omega];rfl
 have q_:s.length=t.length:=by have h9:=DO;omega
 refine gG 3 (.lk [0,1,12] (σ:=Nat) (λi _m=>(13,Ab (i:Nat))::_m) (λi w=>i<=s.length/\(s.map UY==t.map UY)=((s.drop i).map UY==(t.drop i).map UY)/\Aa B w I As) (λi=>s.length-i) 0 ⟨Y4 _,O,hS⟩ ?_);rintro i w ⟨hi,AW,hS⟩;refine gN 1 ?_ ?_<;>intro Dh
 ·refine gG 2 (.qt hS (.val (λw hS=>(.mo O)) O (.val (λw hS=>(.mo O)) O (.val (λw hS=>(.index (.of O) (.of O) om om BV)) O (.call func196 O (Be O X4) O (λw hS=>Xgj (at_ s (i:Int)) _ hS) (.val (λw hS=>(.mo O)) O (.val (λw hS=>(.mo O)) O (.val (λw hS=>(.index (.of O) (.of O) om om BV)) O (.call func196 O (Be O X4) O (λw hS=>Xgj (at_ t (i:Int)) _ hS) (.val (λw hS=>(.neq (.of O) (.of O))) O (.nil ?_)))))))))));clear hS;intro w hS;refine gM 0 ?_ ?_<;>intro Fs LL
  ·refine gG 1 (⟨Y5 Value.bool ?_,hS⟩);unfold FL;rw[AW,Xe s om,Xe t om,Yt,Yt,Y4s,show(UY (at_ s (i:Int))==UY (at_ t (i:Int)))=false from eY (su Fs),yJ,jy]
  refine gG 2 (rd (i+1) ⟨om,?_,hS⟩);rw[AW,Xe s om,Xe t om,Yt,Yt,Y4s,show(UY (at_ s (i:Int))==UY (at_ t (i:Int)))=true from eX (su Fs),U_]
 refine gG 1 (⟨Y5 Value.bool ?_,hS⟩);unfold FL;rw[AW,Yk om,Yk om,q_];simp
theorem Xzf(s:Lu)(hs:s.length<=1000000)(As:La)(hS:Aa B w I As):Ce B I As 169 [S s] w (.bool (sq s)):=by
 refine gE 2 (Xjv s [47] om de) ?_;clear hS;intro w hS;refine gH 2 (.AG (T:=λw=>Aa B w I As) O O O MG O (λAi=>(X5 (.gd Ai O) (Be O (Be O X4)))) O (λAi=>Xa6 33 126 s hs _ hS) hS ?_);clear hS;rintro w hS;exact gG 2 ⟨O,hS⟩
theorem VW(l:Lu)(hl:l.length<=1000000)(hZ:Kz I)(As:La)(hS:Aa B w I As):Ce B I As 90 [S l] w (.tuple #[.agg #[S (PB l).1,S (PB l).2.1,.slice none 0 0,S []],Ab ((PB l).2.2:Nat)]):=by
 refine gH 3 ?_;clear hS;intro b2 w hS;refine gF 0 (Xi0 l 32 hl hZ) ?_;clear hS;rintro _ w ⟨sb,rfl,hS⟩;refine gH 6 (.AA O O (λAi=>(by exact .indexAddr (.gd Ai O) (.of O) (ot Ai) (ot Ai) OX Bf)) O ?_);refine .AA O O (λAi=>.ld (v:=S ((BS 32 l).getD 0 [])) (.gd Ai O) hS (k:=0) O BF (qf (by have h9:=Ai;simp at h9;omega))) O ?_;refine gH 4 (.AA O O (λAi=>(by exact .indexAddr (.gd Ai O) (.of O) (ot Ai) (ot Ai) OX Bf)) O ?_);refine .AA O O (λAi=>.ld (v:=S ((BS 32 l).getD 0 [])) (.gd Ai O) hS (k:=0) O BF (qf (by have h9:=Ai;simp at h9;omega))) O ?_;refine .AG (T:=λw=>Aa B w I _) O O O MG O (λAi=>(X5 (.gd Ai O) (Be O (Be O X4)))) O (λAi=>Xa6 65 90 ((BS 32 l).getD 0 []) (oh (Xv7 l 0)) _ hS) hS ?_;clear hS;rintro w hS;refine gH 4 (.AA O O (λAi=>(by exact .indexAddr (.gd Ai O) (.of O) (ot Ai) (ot Ai) OX Bf)) O ?_);refine .AA O O (λAi=>.ld (v:=S ((BS 32 l).getD 1 [])) (.gd Ai O) hS (k:=0) O BF (qf (by have h9:=Ai;simp at h9;omega))) O ?_;refine .AG (T:=λw=>Aa B w I _) O O O func169 O (λAi=>(X5 (.gd Ai O) X4)) O (λAi=>Xzf ((BS 32 l).getD 1 []) (oh (Xv7 l 1)) _ hS) hS ?_;clear hS;rintro w hS;refine gH 4 (.AA O O (λAi=>(by exact .indexAddr (.gd Ai O) (.of O) (ot Ai) (ot Ai) OX Bf)) O ?_);refine .AA O O (λAi=>.ld (v:=S ((BS 32 l).getD 2 [])) (.gd Ai O) hS (k:=0) O BF (qf (by have h9:=Ai;simp at h9;omega))) O ?_;refine gM 2 ?_ ?_<;>intro CI II
 ·refine gH 3 ?_;clear hS;intro w hS;exact gG 0 ⟨by unfold PB;rw[Y7 (show xM _=true from CI)];rfl,hS.s⟩
 have h3:(BS 32 l).length=3:=by have h9:=CI;simp at h9;omega
 refine gH 1 (.val (.io O O om om OX Bf) O (.val (.ld (v:=S ((BS 32 l).getD 0 [])) (.of O) hS (k:=0) O BF (qf om)) O (gH 3 (.AA O O (λAi=>(by exact .indexAddr (.gd Ai O) (.of O) (ot Ai) (ot Ai) OX Bf)) O ?_))));refine .AA O O (λAi=>.ld (v:=S ((BS 32 l).getD 0 [])) (.gd Ai O) hS (k:=0) O BF (qf om)) O ?_;refine gM 2 ?_ ?_<;>intro dI D0
 ·refine gH 3 ?_;clear hS;intro w hS;exact gG 0 ⟨by unfold PB;rw[Y3 (nB (show xM _=false from CI)),Y7 (show Xu1 _=true from dI)];rfl,hS.s⟩
 refine gG 0 (.tail 7 kr kr ?_);replace hS:=hS.drew;generalize w.drew=w at hS ⊢;refine .vm O O (.val (by exact .io O O om om OX Bf) O ?_);refine .val (.ld (v:=S ((BS 32 l).getD 0 [])) (.of O) hS (k:=0) O BF (qf om)) O (.vm O O ?_);refine .val (by exact .io O O om om OX Bf) O ?_;refine .val (.ld (v:=S ((BS 32 l).getD 1 [])) (.of O) hS (k:=0) O BF (qf om)) O (.val (.build (cs:=[_,_,_,_]) (QB O (QB O pM)) Xx4 O) O (.nil ?_));show WL _ _ _ _ _ _ _
 refine .dr (gH 2 ?_);clear hS;intro w hS;exact gG 0 ⟨by unfold PB;rw[Y3 (nB (show xM _=false from CI)),Y3 (nB (show Xu1 _=false from dI))];rfl,hS.s⟩
theorem Xxq(l:Lu)(hl:l.length<=1000000)(hZ:Kz I)(As:La)(hS:Aa B w I As):Ce B I As 170 [S l] w (.tuple #[.agg (X3 (RF l).1).toArray,Ab ((RF l).2:Nat)]):=by
 refine gH 3 ?_;clear hS;intro b2 w hS;refine gE 0 (xi l 58 hl hZ) ?_;clear hS;intro w hS;refine gE 8 (Uv (CA 58 l).2.1 [32,9] de de (oh (aM 58 l))) ?_;clear hS;intro w hS;refine gH 5 (.AG (T:=λw=>Aa B w I _) O O O func260 O (λAi=>(X5 (.gd Ai O) X4)) O (λAi=>Xsn (CA 58 l).1 (oh (aM 58 l)) _ hS) hS ?_);clear hS;rintro w hS;refine gH 4 ?_;refine .AG (T:=λw=>Aa B w I _) O O O MG O (λAi=>(X5 (.gd Ai O) (Be O (Be O X4)))) O (λAi=>Xa6 32 126 (yi l) (by have:=aM 58 l;have:=Xw1 (CA 58 l).2.1 [32,9];unfold yi;omega) _ hS) hS ?_;clear hS;rintro w hS;refine gM 2 ?_ ?_<;>intro LH LM
 ·refine gH 3 ?_;clear hS;intro w hS;exact gG 0 ⟨by unfold RF;rw[Y7 (show SH l=true from LH)];rfl,hS.s⟩
 refine gH 5 ?_;clear hS;intro w hS;exact gG 0 ⟨by unfold RF;rw[Y3 (nB (show SH _=false from LH))];rfl,hS.s⟩
theorem cA(n:Int):IntKind.i64.wrap (IntKind.u8.wrap n)=IntKind.u8.wrap n:=by
 have h:0<=IntKind.u8.wrap n/\IntKind.u8.wrap n<256:=by rw[IntKind.wrap_u8];omega
 rw[IntKind.wrap_i64];omega
theorem cz(s:Lu)(i:Nat)(h:i<s.length):some (Ab (IntKind.i64.wrap (IntKind.i64.wrap (10*NG (s.take i))+IntKind.u8.wrap (((at_ s (i:Int)).toNat:Int)-48))))=some (Ab (NG (s.take (i+1)))):=by
 rw[Yo,Rx h,Yu];unfold NG;rw[Lm];rfl
theorem Xxb(s:Lu)(hs:s.length<=1000000)(As:La)(hS:Aa B w I As):Ce B I As 171 [S s] w (.tuple #[Ab (NG s),.bool (Si s)]):=by
 refine gG 6 (.lk [0,7] (σ:=Nat) (λi _m=>(4,Ab (NG (s.take i)))::(8,Ab (i:Nat))::_m) (λi w=>i<=s.length/\Aa B w I As) (λi=>s.length-i) 0 ⟨Y4 _,hS⟩ ?_);rintro i w ⟨hi,hS⟩;refine gN 1 ?_ ?_<;>intro DV
 ·refine gH 3 (.val (.AgZ (.of O) (.of O)) O (gH 4 (.val (.cvi (.of O) CY Dq (cA _)) O (.val (.Aaa (.of O) (.of O)) O ?_))));refine gG 3 (⟨i+1,⟨cz s i om,O,O,O,trivial⟩,⟨om,hS⟩,om⟩)
 refine gH 10 (.AG (T:=λw=>Aa B w I _) O O O MG O (λAi=>(X5 (.gd Ai O) (Be O (Be O X4)))) O (λAi=>Xa6 48 57 s hs _ hS) hS ?_);clear hS;rintro w hS;refine gG 3 ?_;rw[Yg om];exact⟨O,hS⟩
theorem Xkt{hs:List Pq}{x:Pq}(h:hs[i]?=some x):Xv nm (hs.take (i+1))=(if FL x.1 nm=true then(if(Xv nm (hs.take i)).2=0 then x.2 else(Xv nm (hs.take i)).1,(Xv nm (hs.take i)).2+1)else Xv nm (hs.take i)):=by
 rw[Yo,h,Yu];unfold Xv;rw[Lm];rfl
theorem Xbd(m t body:Lu)(ra:Oa)(rc:Nat)(hs:List Pq)(nm:Lu)(hn:hs.length<=100)(ET:∀h∈hs,h.1.length<=1000000)(hR:RS I ra 2 hs.length (X2 X3 hs))(As:La)(hS:Aa B w I As):Ce B I As 95 [.agg #[S m,S t,.slice ra hs.length rc,S body],S nm] w (.tuple #[S (Xv nm hs).1,Ab ((Xv nm hs).2:Nat)]):=by
 refine gG 9 ?_;clear hS;intro b2 w hS;have Bh:=hS.drop (k:=0) O;clear hS;refine .lk [1,2,11,12] (σ:=Nat) (λi _m=>(6,S (Xv nm (hs.take i)).1)::(7,Ab ((Xv nm (hs.take i)).2:Nat))::(13,Ab (i:Nat))::_m) (λi w=>i<=hs.length/\Aa B w I As) (λi=>hs.length-i) 0 ⟨Y4 _,Bh⟩ ?_;rintro i w ⟨hi,hS⟩;clear Bh;refine gN 1 ?_ ?_<;>intro Dh
 ·refine gG 0 ?_;obtain⟨x,hx⟩:∃x,hs[i]?=some x:=⟨_,Y2 om⟩
  have KN:=ET x (Y6 hx);have dX:=AaU nm (hs.take i);rw[Yl]at dX;obtain⟨q,rfl,F7⟩:=AQ (cells:=X3) (s:=2) (λ_=>rfl) hR hx;refine gH 7 ?_;clear hS;intro b9 w hS;refine gE 0 (Xe9 x.1 nm om) ?_;clear hS;intro w hS;refine gM 1 ?_ ?_<;>intro El IH
  ·refine gG 2 ?_;have e9:Xv nm (hs.take (i+1))=Xv nm (hs.take i):=by rw[Xkt hx,Y3 (su El)]
   refine⟨i+1,⟨by rw[e9];rfl,by rw[e9];rfl,O,O,O,O,O,trivial⟩,⟨om,(hS.y 0 1)⟩,om⟩
  refine gN 2 ?_ ?_<;>intro Dy
  ·refine gG 8 ?_;have e9:Xv nm (hs.take (i+1))=(x.2,(Xv nm (hs.take i)).2+1):=by rw[Xkt hx,Y7 (su El),Y7 (oh Dy)]
   refine⟨i+1,⟨by rw[e9];rfl,by rw[e9];rfl,O,O,O,O,O,trivial⟩,⟨om,(hS.y 0 1)⟩,om⟩
  refine gG 5 ?_;have e9:Xv nm (hs.take (i+1))=((Xv nm (hs.take i)).1,(Xv nm (hs.take i)).2+1):=by rw[Xkt hx,Y7 (su El),Y3 (oh Dy)]
  refine⟨i+1,⟨by rw[e9];rfl,by rw[e9];rfl,O,O,O,O,O,trivial⟩,⟨om,(hS.y 0 1)⟩,om⟩
 refine gG 4 ?_;rw[Yg om];exact⟨O,hS⟩
end Go.Proofs.W9
namespace Xm
open Ul Pc Gk FI Tk Tr
def Ki:Nat->Nat->List UInt8
 | 0,_=>[]
 | i+1,x=>UInt8.ofNat (x/256^i)::Ki i x
theorem zY:∀(i x:Nat),(Ki i x).length=i
 | 0,_=>rfl
 | i+1,x=>by rw[Ki,List.length_cons,zY i x]
def Sm(a:Nat)(s:Lu):Nat:=s.foldl (λa c=>256*a+c.toNat) a
theorem Xnr:∀(i x a:Nat),Sm a (Ki i x)=a*256^i+x%256^i
 | 0,x,a=>by simp[Ki,Sm,Nat.mod_one]
 | i+1,x,a=>by
  show Sm (256*a+(UInt8.ofNat (x/256^i)).toNat) (Ki i x)=_
  rw[Xnr i x,show(UInt8.ofNat (x/256^i)).toNat=x/256^i%256 from by simp,bg,Nat.mod_mul,RV]
  have:x/256^i%256*256^i=256^i*(x/256^i%256):=lD ..
  have:256*a*256^i=a*(256^i*256):=by rw[lD 256 a,Y67,lD 256]
  omega
def Mq(n:Nt):Lu×Nat:=if OP n=true then(UInt8.ofNat n.tries.toNat::(Ki 8 n.next.toNat++n.url),0)else([],1)
def oD(t s:Lu):Nt:=⟨t,s.drop 9,((s.headD 0).toNat:Int),(Sm 0 ((s.drop 1).take 8):Int)⟩
def Aaj(t s:Lu):Nt×Nat:=if s.length<9 then(nt0,8)else if OP (oD t s)=true then(oD t s,0)else(nt0,8)
theorem Xkk{n:Nt}(h:(Mq n).2=0):Aaj n.ticket (Mq n).1=(n,0)/\(Mq n).1.length=9+n.url.length:=by
 unfold Mq at h ⊢;split at h
 ·rename_i hr
  rw[Y7 hr];obtain⟨t,u,tr,nx⟩:=n;have hp:0<=nx/\nx<=1099511627776/\0<=tr/\tr<=9:=by
   unfold OP at hr;simp only[Yb,dq1]at hr
   obtain⟨⟨⟨⟨⟨_,_⟩,h3⟩,h4⟩,h5⟩,h6⟩:=hr;exact⟨h5,h6,h3,h4⟩
  have hl:=zY 8 nx.toNat;have h1:oD t (UInt8.ofNat tr.toNat::(Ki 8 nx.toNat++u))=⟨t,u,tr,nx⟩:=by
   unfold oD;simp only[Kw,O5,List.headD_cons]
   rw[show List.take 8 (Ki 8 nx.toNat++u)=Ki 8 nx.toNat from List.take_left' hl,
    show List.drop 8 (Ki 8 nx.toNat++u)=u from List.drop_left' hl,Xnr]
   congr 1
   ·rw[show(UInt8.ofNat tr.toNat).toNat=tr.toNat%256 from by simp];omega
   ·omega
  unfold Aaj;dsimp only
  rw[Y3 (by rw[List.length_cons,Y0,hl];omega),h1,Y7 hr];exact⟨O,by rw[List.length_cons,Y0,hl];omega⟩
 ·cases h
section
open Go
end
end Xm
namespace Rq
open Gk Go
def HVL:List Nat:=[0x00000000,0x105ec76f,0x20bd8ede,0x30e349b1,0x417b1dbc,0x5125dad3,0x61c69362,0x7198540d,0x82f63b78,0x92a8fc17,0xa24bb5a6,0xb21572c9,0xc38d26c4,0xd3d3e1ab,0xe330a81a,0xf36e6f75]
def hix(r b:Int):Int:=bits .and .u32 (bits .xor .u32 r (IntKind.u32.wrap b)) 15
def dA(r b:Int):Int:=bits .xor .u32 (r/2^4) ((HVL.getD (hix r b).toNat 0:Nat):Int)
def vQ(r:Int):Int:=bits .xor .u32 IntKind.u32.max r
def rM(r:Int)(c:Ui):Int:=dA (dA r c.toNat) ((c.toNat:Int)/2^4)
def qz(s:Int)(l:Lu):Int:=vQ (l.foldl rM (vQ s))
def Ew(i:Int):Ui:=UInt8.ofNat (IntKind.u8.wrap i).toNat
theorem lR(i:Int):U8 ((Ew i).toNat:Int)=.int .u8 (IntKind.u8.wrap i):=by
 have h:0<=IntKind.u8.wrap i/\IntKind.u8.wrap i<256:=by rw[IntKind.wrap_u8];omega
 unfold Ew;rw[UInt8.toNat_ofNat_of_lt' (by show(IntKind.u8.wrap i).toNat<256;omega),yx h.1]
theorem iU(l:List Int):Ax (l.map Ew)=l.map λi=>Value.int .u8 (IntKind.u8.wrap i):=by
 unfold Ax;rw[s8];exact List.map_congr_left λi _=>lR i
def hY(b:Lu):Int:=qz (qz 0 ([(b.length:Int)/2^8,(b.length:Int)].map Ew)) b
def IM(b:Lu):List Int:=[(b.length:Int)/2^8,(b.length:Int),hY b/2^24,hY b/2^16,hY b/2^8,hY b]
def Fe(b:Lu):Lu×Nat:=if b.length=0 then([],1)else if 4000<b.length then([],2)else((IM b).map Ew++b,0)
theorem Xvc(b:Lu):(Fe b).1.length<=4006:=by
 unfold Fe;split
 ·simp
 ·split
  ·simp
  ·simp[IM];omega
def Kq:List (List UInt8)->List UInt8->List UInt8×Nat
 | [],out=>(out,0)
 | b::r,out=>if(Fe b).2≠0 then([],(Fe b).2)else Kq r (out++(Fe b).1)
end Rq
namespace Go.Proofs.W9
open Gk Ul Pc Tk Tr Xm Rq
open Tryz
def HVV:Lv:=HVL.map λn:Nat=>.int .u32 (n:Int)
def Bt(I:Im):Prop:=At I ⟨10,0,none⟩ HVV
theorem vt{i:Int}(h0:0<=i)(h1:i<16):(HVV.drop (i.toNat*1))[0]?=some (.int .u32 ((HVL.getD i.toNat 0:Nat):Int)):=by
 obtain⟨k,rfl⟩:=Y5r h0;have h2:k<16:=om
 match k,h2 with
 | 0,_=>exact O
 | 1,_=>exact O
 | 2,_=>exact O
 | 3,_=>exact O
 | 4,_=>exact O
 | 5,_=>exact O
 | 6,_=>exact O
 | 7,_=>exact O
 | 8,_=>exact O
 | 9,_=>exact O
 | 10,_=>exact O
 | 11,_=>exact O
 | 12,_=>exact O
 | 13,_=>exact O
 | 14,_=>exact O
 | 15,_=>exact O
theorem Xo4(r b:Int)(hH:Bt I)(As:La)(hS:Aa B w I As):Ce B I As 439 [.int .u32 r,.int .u8 b] w (.int .u32 (dA r b)):=by
 refine gH 5 (.val (.Hp (.of O) CY OS) O (gH 2 ?_));obtain⟨h0,h15⟩:=td (bits .xor .u32 r (IntKind.u32.wrap b));refine .val (.Bc (m:=16) (.of O) (.of O) h0 h15 underlying536 sH) O (.val (.Ca (.of O) hS (hH.add _) sF (vt h0 h15)) O ?_);exact gG 2 ⟨O,hS⟩
theorem Xop(s:Int)(l:Lu)(a:Oa)(c:Nat)(hl:l.length<=1000000)(hH:Bt I)(hR:RS I a 1 l.length (Ax l))(As:La)(hS:Aa B w I As):Ce B I As 403 [.int .u32 s,.slice a l.length c] w (.int .u32 (qz s l)):=by
 refine gH 2 (.val (.rJ (.of O)) O (gG 4 (.lk [10,11] (σ:=Nat) (λi _m=>(5,.int .u32 (List.foldl rM (vQ s) (l.take i)))::(12,Ab (i:Int))::_m) (λi w=>i<=l.length/\Aa B w I As) (λi=>l.length-i) 0 ⟨Y4 _,hS⟩ ?_)));rintro i w ⟨hi,hS⟩;refine gN 1 ?_ ?_<;>intro DP
 ·obtain⟨q,rfl,hq⟩:=hR.2 om;refine gH 1 (.val (.Ca (.of O) hS (hq.add _) HT (show((Ax l).drop (((i:Nat):Int).toNat*1))[0]?=some (U8 (l.getD i 0).toNat) from PU om om)) O (gE 3 (Xo4 _ _ hH) ?_));clear hS;intro w hS;refine gE 2 (Xo4 _ _ hH) ?_;clear hS;intro w hS;refine gG 3 (⟨i+1,⟨?_,O,O,O,trivial⟩,⟨om,hS⟩,om⟩);rw[Yo,Y2 om,Yu,Lm,show l.getD i 0=l[i]'(by omega)by rw[Ya,Y2 om];rfl];rfl
 refine gH 1 (.val (.rJ (.of O)) O (gG 1 ?_));rw[Yg om];exact⟨O,hS⟩
theorem Ti(l:Lu)(a:Oa)(c:Nat)(hl:l.length<=1000000)(hH:Bt I)(hR:RS I a 1 l.length (Ax l))(As:La)(hS:Aa B w I As):Ce B I As 316 [.slice a l.length c] w (.int .u32 (qz 0 l)):=by
 refine gE 2 (Xop 0 l a c hl hH hR) ?_;clear hS;intro w hS;exact gG 1 ⟨O,hS⟩
theorem Xxf(l m:Lu)(a a2:Oa)(c c2:Nat)(hl:l.length<=1000000)(hm:m.length<=1000000)(hR:RS I a 1 l.length (Ax l))(Mx:RS I a2 1 m.length (Ax m))(As:La)(hS:Aa B w I As):Ce B I As 235 [.slice a l.length c,.slice a2 m.length c2] w (.bool (l==m)):=by
 refine gN 6 ?_ ?_<;>intro DO
 ·refine gH 1 (.nil (.ret ?_));refine λ_ A5=>RN A5 O (⟨_,O,Y5 Value.bool ?_,hS⟩)
  exact(beq_eq_false_iff_ne.2 λh=>by have h9:=DO;rw[h]at h9;exact h9 O).symm
 refine gG 3 ?_;have hlm:l.length=m.length:=by have h9:=DO;omega
 have Bh:=hS;clear hS;refine .lk [0,1,12] (σ:=Nat) (λi _m=>(13,Ab (i:Int))::_m) (λi w=>i<=l.length/\(l==m)=(l.drop i==m.drop i)/\Aa B w I As) (λi=>l.length-i) 0 ⟨Y4 _,O,Bh⟩ ?_;rintro i w ⟨hi,AW,hS⟩;clear Bh;refine gN 1 ?_ ?_<;>intro Dh
 ·refine gG 2 ?_;obtain⟨p,rfl,hp⟩:=hR.2 om;obtain⟨p2,rfl,KK⟩:=Mx.2 om;refine gQ ?_;clear hS;intro w hS;refine gH 3 (Br.y 3 (λw _ _ A6 hS=>.Ca (.of O) hS ((hp.add _).mono A6) HT (show((Ax l).drop (((i:Nat):Int).toNat*1))[0]?=some (U8 (l.getD i 0).toNat) from PU om om)) (gH 3 (Br.y 7 (λw _ _ A6 hS=>.Ca (.of O) hS ((KK.add _).mono A6) HT (show((Ax m).drop (((i:Nat):Int).toNat*1))[0]?=some (U8 (m.getD i 0).toNat) from PU om om)) ?_)));refine gN 1 ?_ ?_<;>intro LL
  ·refine gH 1 (.nil (.ret ?_));refine λ_ A5=>RN A5 O (⟨_,O,Y5 Value.bool ?_,hS⟩)
   rw[AW,Xe l om,Xe m om,Y4s,show(at_ l (i:Int)==at_ m (i:Int))=false from eY (by have h9:=LL;simpa[at_,Ya]using h9)];rfl
  refine gG 2 (⟨i+1,⟨O,O,O,O,trivial⟩,⟨om,?_,hS⟩,om⟩);rw[AW,Xe l om,Xe m om,Y4s,show(at_ l (i:Int)==at_ m (i:Int))=true from eX (by have h9:=LL;simpa[at_,Ya]using h9),U_]
 refine gH 1 (.nil (.ret ?_));refine λ_ A5=>RN A5 O (⟨_,O,Y5 Value.bool ?_,hS⟩)
 rw[AW,Yk om,Yk om];rfl
theorem Bt.mono(h:Bt I)(hl:Le I J):Bt J:=At.mono h hl
theorem h_(l:Lu)(a:Oa)(c:Nat)(hl:l.length<=1000000)(hH:Bt I)(hR:RS I a 1 l.length (Ax l))(As:La)(hS:Aa B w I As):Ce B I As 387 [.slice a l.length c] w (.int .u32 (hY l)):=by
 refine gH 6 (.val (.Hp (.of O) Dq CY) O (gH 1 (.val (.Hp (.of O) Dq CY) O (gH 1 ?_))));clear hS;intro R5 w hS;replace hS:=hS;try dsimp only[List.eraseIdx]at hS
 replace hS:=hS.say (k:=0) (A':=Ae R5 (Ax (([(l.length:Int)/2^8,(l.length:Int)]:List Int).map Ew)) 5) O (λh hh=>by rw[iU];exact hh);dsimp only[List.set]at hS;obtain⟨J,hJ,jG,hS⟩:=hS.Lw sz;refine gE 0 (Ti ([(l.length:Int)/2^8,(l.length:Int)].map Ew) _ _ sz (hH.mono hJ) jG) ?_;clear hS;intro w hS;refine gE 1 (Xop _ l a c hl (hH.mono hJ) (hR.mono hJ)) ?_;clear hS;intro w hS;exact gG 1 ⟨O,hS.weaken hJ⟩
theorem Xvb(l:Lu)(a:Oa)(c:Nat)(hl:l.length<=1000000)(hH:Bt I)(hR:RS I a 1 l.length (Ax l))(As:La)(hS:Aa B w I As):Cz 292 [.slice a l.length c] w λv w'=>∃kv,v=.tuple #[kv,Ab ((Fe l).2:Nat)]/\Aa B w' I (Ar 5 1 kv (Fe l).1.length (Ax (Fe l).1)::As):=by
 refine gN 8 ?_ ?_<;>intro E5
 ·refine gG 2 ?_;have e:Fe l=([],1):=by unfold Fe;exact Y7 (oh E5)
  rw[e];exact⟨_,O,hS.An 5 1⟩
 refine gN 3 ?_ ?_<;>intro Eo
 ·refine gG 2 ?_;have e:Fe l=([],2):=by unfold Fe;rw[Y3 (oh E5)];exact Y7 (oh Eo)
  rw[e];exact⟨_,O,hS.An 5 1⟩
 refine gE 1 (h_ l a c om hH hR) ?_;clear hS;intro w hS;refine gH 3 (.val (.Hp (.of O) Dq CY) O (gH 1 (.val (.Hp (.of O) Dq CY) O (gH 2 (.val (.Hp (.of O) OS CY) O (gH 2 (.val (.Hp (.of O) OS CY) O (gH 2 (.val (.Hp (.of O) OS CY) O (gH 1 (.val (.Hp (.of O) OS CY) O (gH 2 ?_))))))))))));clear hS;intro b32 w hS;replace hS:=hS;try dsimp only[List.eraseIdx]at hS
 replace hS:=hS.say (k:=0) (A':=Ae b32 (Ax ((IM l:List Int).map Ew)) 5) O (λh hh=>by rw[iU];exact hh);dsimp only[List.set]at hS;replace hS:=hS.Bw (size:=1) (n:=6) (k:=0) O (by simp[Ax,IM]) de;refine .CK (size:=1) (bytes:=1) hS (.of O) (.of O) hR (k:=0) O Db Xx O O O O (Ni l) ⟨om,by unfold maxLen;omega⟩ O ?_;clear hS;intro v34 w hS;try dsimp only[List.set]at hS
 refine gG 2 ?_;have e:Fe l=((IM l).map Ew++l,0):=by unfold Fe;rw[Y3 (oh E5)];exact Y3 (oh Eo)
 rw[e];refine⟨v34,O,?_⟩;rw[show((IM l).map Ew++l).length=6+l.length by simp[IM];omega,show Ax ((IM l).map Ew++l)=Ax ((IM l).map Ew)++Ax l from Ym];exact hS
theorem QF{s lo hi:Nat}(h:RS I a s n xs)(h1:lo<=hi)(h2:hi<=n)(h3:n<=c):∃a',sliced a lo hi c s=.slice a' (hi-lo) (c-lo)/\RS I a' s (hi-lo) ((xs.take (hi*s)).drop (lo*s)):=by
 have hm:hi*s<=n*s:=U4 _ h2;refine⟨if c=lo then a else a.map (·.add (lo*s)),O,by rw[Ye,Yl,h.1,jx hm,Nat.sub_mul],λhp=>?_⟩;obtain⟨p,rfl,hq⟩:=h.2 om;rw[Y3 om];refine⟨_,O,(?_:At I p (xs.take (hi*s))).add (lo*s)⟩;exact xl hq _
theorem Xkf{b:Lu}(h:At I p (Ax b))(hk:k<b.length):((Ax b).drop k)[0]?=some (U8 (b.getD k 0).toNat):=by
 rw[U6,Hn];simp[Ax,Ya,hk]
def Ju(I:Im)(xs:List Lu)(cs:Lv):Prop:=cs.length=xs.length/\∀(i:Nat) x,xs[i]?=some x->∃a c,cs[i]?=some (.slice a x.length c)/\x.length<=c/\RS I a 1 x.length (Ax x)
theorem Ju.mono{xs:List Lu}(h:Ju I xs cs)(hl:Le I J):Ju J xs cs:=⟨h.1,λi x hx=>by
 obtain⟨a,c,h1,h2,h3⟩:=h.2 i x hx;exact⟨a,c,h1,h2,h3.mono hl⟩⟩
theorem bq(xs:List Lu)(cs:Lv)(a:Oa)(c:Nat)(ES:∀x∈xs,x.length<=1000000)(CW:xs.length<=1000000)(hH:Bt I)(hX:Ju I xs cs)(hRr:RS I a 1 xs.length cs)(As:La)(hS:Aa B w I As):Cz 296 [.slice a xs.length c] w λv w'=>∃J kv,v=.tuple #[kv,Ab ((Kq xs []).2:Nat)]/\Le I J/\Aa B w' J (Ar 5 1 kv (Kq xs []).1.length (Ax (Kq xs []).1)::As):=by
 refine gG 6 ?_;replace hS:=hS.An 5 1;have Bh:=hS;clear hS;refine .lk [9,10] (σ:=Nat×Lu×Va×Im) (λ(i,out,kv,J) _m=>(4,kv)::(11,Ab (i:Nat))::_m) (λ(i,out,kv,J) w=>i<=xs.length/\Kq xs []=Kq (xs.drop i) out/\out.length<=i*4006/\Le I J/\Aa B w J (Ar 5 1 kv out.length (Ax out)::As)) (λ(i,out,kv,J)=>xs.length-i) (0,[],.slice none 0 0,I) ⟨Y4 _,O,Y4 _,Le.refl _,Bh⟩ ?_;rintro⟨i,out,kv,J⟩ w ⟨hi,FC,Mz,hJ,hS⟩;clear Bh;have hH2:=hH.mono hJ;refine gN 1 ?_ ?_<;>intro B_
 ·refine gG 0 ?_;obtain⟨x,hx⟩:∃x,xs[i]?=some x:=⟨_,Y2 om⟩
  obtain⟨xa,xc,hxc,CW,hRx⟩:=hX.2 i x hx;have zj:=ES x (Y6 hx);have Ec:xs.drop i=x::xs.drop (i+1):=by rw[Yp (Y1.1 hx).1,(Y1.1 hx).2]
  obtain⟨p,dC,hp⟩:=hRr.2 om;rw[Ec]at FC;have NZ:=Xvc x;refine gG 0 ?_;subst dC;refine .val (.ii O O om om MU Jf) O ?_
  (try rw[Y8]);rw[Gv]
  refine .val (.Ca (.of O) hS ((hp.mono hJ).add i) UI (by rw[U6,Hn];exact hxc)) O ?_;refine gF 2 (Xvb x xa xc om hH2 (hRx.mono hJ)) ?_;clear hS;rintro _ w ⟨fv,rfl,hS⟩;refine gN 7 ?_ ?_<;>intro IH
  ·refine gG 3 ?_;have e:Kq xs []=([],(Fe x).2):=by rw[FC,Kq];exact Y7 (oh IH)
   rw[e];exact⟨J,.slice none 0 0,O,hJ,hS.s.An 5 1⟩
  refine gH 2 ?_;obtain⟨fa,fc,rfl,qV,_⟩:=hS.vS 0;obtain⟨J2,AE,AJ,hS⟩:=hS.fV 0;try dsimp only[List.eraseIdx]at hS
  refine .CK (size:=1) (bytes:=1) hS (.of O) (.of O) AJ (k:=0) O Db Xx O O O O (Ni _) ⟨om,by unfold maxLen;omega⟩ O ?_;clear hS;intro v25 w hS;dsimp only[List.set]at hS;refine gG 3 (E_ (i+1,out++(Fe x).1,_,J2) O ⟨od,?_,?_,hJ.trans AE,?_⟩)
  ·(try dsimp only)
   rw[FC,Kq,Y3 (oh IH)]
  ·(try dsimp only)
   rw[Y0,RV];omega
  ·(try dsimp only)
   rw[Y0,show Ax (out++(Fe x).1)=Ax out++Ax (Fe x).1 from Ym];exact hS
 refine gG 3 ?_;have e:Kq xs []=(out,0):=by rw[FC,Yk om];first|done|rfl
 rw[e];exact⟨J,kv,O,hJ,hS⟩
end Go.Proofs.W9
namespace Rq
open Gk Go
structure Lg where
 d:Dk
 gen:Int
 Az:Int
 used:Int
 data:Lu
def GM(d:Dk):Int:=((d.kept.length:Nat)-2:Int)/2
def It(d:Dk):Int:=GM d*32
def YX(d:Dk)(Az i:Int):Int:=2+Az*GM d+i
def I3(gen Az used:Int):Int:=gen*16384+Az*8192+used
def UR(gen Az used:Int):Lu:=[I3 gen Az used/2^24,I3 gen Az used/2^16,I3 gen Az used/2^8,I3 gen Az used].map Ew
def sO(gen Az used:Int):List Int:=[qz 0 (UR gen Az used)/2^24,qz 0 (UR gen Az used)/2^16,qz 0 (UR gen Az used)/2^8,qz 0 (UR gen Az used)]
def Nq(gen Az used:Int):Lu:=(sO gen Az used).map Ew++UR gen Az used
def Gd:List (Dk->Nat×Dk)->Dk->Nat×Dk
 | [],d=>(0,d)
 | f::r,d=>if(f d).1≠0 then(21,Nn (f d).2)else Gd r (f d).2
def jm(used:Lu)(i:Nat):Lu:=(used.take ((i+1)*32)).drop (i*32)
def cntF(n Dg:Nat):Nat:=(n+31)/32-Dg/32
def OR(d0:Dk)(gen Az u:Int)(used:Lu)(Dg:Nat):List (Dk->Nat×Dk) :=
 (List.range' (Dg/32) (cntF used.length Dg)).map (λ(i:Nat) d=>Xz d (YX d0 Az i) (jm used i))++[Fp,λd=>Xz d (gen%2) (Nq gen Az u),Fp]
def Ku(L:Lg)(gen Az u:Int)(used:Lu)(Dg:Nat):Nat×Lg :=
 let r:=Gd (OR L.d gen Az u used Dg) L.d
 if r.1≠0 then(21,{ L with d:=r.2 })else(0,⟨r.2,gen,Az,u,used⟩)
def Gp(L:Lg)(b:Lu):Nat×Lg :=
 if(Fe b).2≠0 then((Fe b).2,L)else
 if It L.d-L.used<((Fe b).1.length:Nat)\/262144<=L.gen+1 then(5,L)else
 Ku L (L.gen+1) L.Az (L.used+((Fe b).1.length:Nat)) (L.data++(Fe b).1) L.used.toNat
def K9(L:Lg)(xs:List Lu):Nat×Lg :=
 if(Kq xs []).2≠0 then((Kq xs []).2,L)else
 if It L.d<((Kq xs []).1.length:Nat)\/262144<=L.gen+1 then(5,L)else
 Ku L (L.gen+1) (1-L.Az) ((Kq xs []).1.length:Nat) (Kq xs []).1 0
structure Zk(L:Lg):Prop where
 d:FP L.d
 len:4<=L.d.kept.length
 gen:0<=L.gen/\L.gen<262144
 Az:L.Az=0\/L.Az=1
 used:L.used=(L.data.length:Nat)
 room:L.used<=It L.d
 st:L.d.Ah.length<=600
 emp:L.d.off=true\/L.d.Ah=[]
def xK(st:Dk->Nat×Dk):Prop:=∀d,FP d->FP (st d).2/\(st d).2.kept.length=d.kept.length/\(st d).2.Ah.length<=d.Ah.length+1
theorem X8t(i:Int)(b:Lu):xK λd=>Xz d i b:=λd h=>by
 obtain⟨h1,h2,h3⟩:=w6 h;refine⟨YP h i b,?_,?_⟩
 ·show(Xz d i b).2.kept.length=_
  unfold Xz;split
  ·rfl
  ·split
   ·rfl
   ·split<;>exact Y5 List.length h2
 ·show(Xz d i b).2.Ah.length<=_
  unfold Xz;split
  ·exact Y65 _
  ·split
   ·exact Y65 _
   ·split
    ·rw[h3];exact Y65 _
    ·rw[Y0,h3];exact Yd _
theorem Xb2:xK Fp:=λd h=>by
 obtain⟨h1,h2,h3⟩:=w6 h
 have:=Xl0 (Xc d).2.Ah (Xc d).2.kept h1.what h1.kept
 refine⟨ie h,?_,?_⟩<;>unfold Fp<;>split<;>simp_all
theorem TF{Fv:List (Dk->Nat×Dk)}{st:Dk->Nat×Dk}(h:Fv[k]?=some st)(d:Dk):Gd (Fv.drop k) d=if(st d).1≠0 then(21,Nn (st d).2)else Gd (Fv.drop (k+1)) (st d).2:=by
 obtain⟨hk,he⟩:=Y1.mp h;rw[Yp hk,he];rfl
theorem VO(d:Dk):(Nn d).AY=d.AY:=by unfold Nn;split<;>rfl
theorem cE(d:Dk):(Nn d).kept.length=d.kept.length/\(Nn d).Ah.length<=d.Ah.length/\((Nn d).off=true\/(Nn d).Ah=[]):=by
 unfold Nn;split
 ·rename_i h;exact⟨O,Yd _,.inl h⟩
 ·exact⟨O,Y4 _,.inr O⟩
theorem TG:∀(Fv:List (Dk->Nat×Dk)),(∀st∈Fv,xK st)->∀d,FP d->FP (Gd Fv d).2/\(Gd Fv d).2.kept.length=d.kept.length/\(Gd Fv d).2.Ah.length<=d.Ah.length+Fv.length/\((Gd Fv d).1≠0->(Gd Fv d).2.off=true\/(Gd Fv d).2.Ah=[])
 | [],_,d,h=>⟨h,O,Yd _,λh=>Yy O h⟩
 | f::r,hs,d,h=>by
  obtain⟨h1,h2,h3⟩:=hs f sz d h;rw[Gd];split
  ·obtain⟨e1,e2,e3⟩:=cE (f d).2;exact⟨cC h1,by rw[e1];exact h2,by rw[List.length_cons];show(Nn (f d).2).Ah.length<=_;omega,λ_=>e3⟩
  ·obtain⟨g1,g2,g3,g4⟩:=TG r (λst Cp=>hs st (by simp[Cp])) (f d).2 h1;exact⟨g1,by rw[g2,h2],by rw[List.length_cons];omega,g4⟩
theorem Xzd(d:Dk)(h:(Fp d).1=0):(Fp d).2.Ah=[]:=by
 unfold Fp at h ⊢;split
 ·rename_i h2;rw[Y7 h2]at h;cases h
 ·rfl
theorem Xpi:∀(Fv:List (Dk->Nat×Dk)) (d:Dk),(Gd (Fv++[Fp]) d).1=0->(Gd (Fv++[Fp]) d).2.Ah=[]
 | [],d,h=>by
  rw[Ez,Gd]at h ⊢;split
  ·rename_i h2;rw[Y7 h2]at h;cases h
  ·rename_i h2;exact Xzd d (Classical.byContradiction h2)
 | f::r,d,h=>by
  rw[Yz,Gd]at h ⊢;split
  ·rename_i h2;rw[Y7 h2]at h;cases h
  ·rename_i h2;rw[Y3 h2]at h;exact Xpi r _ h
theorem Xnk{d:Dk}(h:d.off=true):Xc d=(true,d):=by unfold Xc;rw[Y7 h]
theorem Xq4(i:Int)(b:Lu){d:Dk}(h:d.off=true):(Xz d i b).1≠0/\(Xz d i b).2=d:=by
 unfold Xz;split
 ·exact⟨Y53 _,O⟩
 ·split
  ·exact⟨Y53 _,O⟩
  ·rw[Xnk h,Y7 O];exact⟨Y53 _,O⟩
theorem Xvv{d:Dk}(h:d.off=true):(Fp d).1≠0/\(Fp d).2=d:=by
 unfold Fp;rw[Xnk h,Y7 O];exact⟨Y53 _,O⟩
theorem gr(Fv:List (Dk->Nat×Dk))(A8:Fv≠[]){d:Dk}(h:d.off=true)(hs:∀st∈Fv,(st d).1≠0/\(st d).2=d):Gd Fv d=(21,d):=by
 cases Fv with
 | nil=>exact Yy O A8
 | cons f r =>
  obtain⟨h1,h2⟩:=hs f sz;rw[Gd,Y7 h1,h2];unfold Nn;rw[Y7 h]
theorem gZ(d0:Dk)(gn ar u:Int)(used:Lu)(Dg:Nat):∀st∈OR d0 gn ar u used Dg,xK st:=by
 intro st h;unfold OR at h;rcases Yn.1 h with h|h
 ·obtain⟨i,_,rfl⟩:=Fg.1 h;exact X8t _ _
 ·simp only[Yi,Fw,or_false]at h
  rcases h with rfl|rfl|rfl
  ·exact Xb2
  ·exact X8t _ _
  ·exact Xb2
theorem YG(d0:Dk)(gn ar u:Int)(used:Lu)(Dg:Nat){d:Dk}(hd:d.off=true):∀st∈OR d0 gn ar u used Dg,(st d).1≠0/\(st d).2=d:=by
 intro st h;unfold OR at h;rcases Yn.1 h with h|h
 ·obtain⟨i,_,rfl⟩:=Fg.1 h;exact Xq4 _ _ hd
 ·simp only[Yi,Fw,or_false]at h
  rcases h with rfl|rfl|rfl
  ·exact Xvv hd
  ·exact Xq4 _ _ hd
  ·exact Xvv hd
theorem Xsl{d e:Dk}(h:e.kept.length=d.kept.length):It e=It d:=by unfold It GM;rw[h]
theorem Xgd{d:Dk}(h:FP d)(h4:4<=d.kept.length):32<=It d/\It d<=8160:=by
 have:=h.size;unfold It GM;omega
theorem Tu{L:Lg}(h:Zk L){gn ar u:Int}{used:Lu}(Dg:Nat)(hg:0<=gn/\gn<262144)(ha:ar=0\/ar=1)(hu:u=(used.length:Nat))(hr:u<=It L.d):Zk (Ku L gn ar u used Dg).2:=by
 rcases h.emp with ho|he
 ·have:Ku L gn ar u used Dg=(21,L):=by
   unfold Ku;rw[gr _ (by unfold OR;simp) ho (YG L.d gn ar u used Dg ho)];rfl
  rw[this];exact h
 ·obtain⟨h1,h2,h3,h4⟩:=TG _ (gZ L.d gn ar u used Dg) L.d h.d;have m_:=Xgd h.d h.len;have hlen:(OR L.d gn ar u used Dg).length<=300:=by
   unfold OR;rw[Y0,Yh,List.length_range'];unfold cntF;simp only[List.length_cons,List.length_nil];omega
  rw[he,List.length_nil]at h3;unfold Ku;dsimp only
  split
  ·rename_i hf
   exact⟨h1,by show 4<=(Gd _ _).2.kept.length;rw[h2];exact h.len,h.gen,h.Az,h.used,by show L.used<=It (Gd _ _).2;rw[Xsl h2];exact h.room,by show(Gd _ _).2.Ah.length<=600;omega,h4 hf⟩
  ·rename_i hf
   have hl:(Gd (OR L.d gn ar u used Dg) L.d).2.Ah=[]:=by
    have:OR L.d gn ar u used Dg=((List.range' (Dg/32) (cntF used.length Dg)).map (λ(i:Nat) d=>Xz d (YX L.d ar i) (jm used i))++[Fp,λd=>Xz d (gn%2) (Nq gn ar u)])++[Fp]:=by unfold OR;simp
    rw[this]at hf ⊢;exact Xpi _ _ (Classical.byContradiction hf)
   exact⟨h1,by show 4<=(Gd _ _).2.kept.length;rw[h2];exact h.len,hg,ha,hu,by show u<=It (Gd _ _).2;rw[Xsl h2];exact hr,by show(Gd _ _).2.Ah.length<=600;rw[hl];simp,.inr hl⟩
theorem Xbh{L:Lg}(h:Zk L)(b:Lu):Zk (Gp L b).2:=by
 unfold Gp;split
 ·exact h
 ·split
  ·exact h
  ·rename_i h1
   refine Tu h _ ?_ h.Az ?_ ?_
   ·have:=h.gen;omega
   ·rw[h.used,Y0];omega
   ·omega
theorem Xsi{L:Lg}(h:Zk L)(xs:List Lu):Zk (K9 L xs).2:=by
 unfold K9;split
 ·exact h
 ·split
  ·exact h
  ·rename_i h1
   refine Tu h _ ?_ ?_ O ?_
   ·have:=h.gen;omega
   ·rcases h.Az with h|h<;>rw[h]<;>simp
   ·omega
end Rq
namespace Go.Proofs.W9
open Gk Ul Pc Tk Tr Xm Rq
open Tryz
theorem Xfr(L:Lg)(lg db kb:Nat)(us sv pl:Va)(hL:4<=L.d.kept.length)(yT:L.d.kept.length<=512)(As:La)(hS:Aa B w I (Ae lg [ptr db 0,Ab L.gen,Ab L.Az,Ab L.used,us] 262::CU db kb sv pl L.d As)):Ce B I (Ae lg [ptr db 0,Ab L.gen,Ab L.Az,Ab L.used,us] 262::CU db kb sv pl L.d As) 144 [ptr lg 0] w (Ab (GM L.d)):=by
 refine gE 5 (Xtm L.d db kb sv pl) ?_;clear hS;intro w hS;exact gG 3 ⟨O,hS.s⟩
theorem Xfq(L:Lg)(lg db kb:Nat)(us sv pl:Va)(hL:4<=L.d.kept.length)(yT:L.d.kept.length<=512)(As:La)(hS:Aa B w I (Ae lg [ptr db 0,Ab L.gen,Ab L.Az,Ab L.used,us] 262::CU db kb sv pl L.d As)):Ce B I (Ae lg [ptr db 0,Ab L.gen,Ab L.Az,Ab L.used,us] 262::CU db kb sv pl L.d As) 237 [ptr lg 0] w (Ab (It L.d)):=by
 refine gE 2 (Xfr L lg db kb us sv pl hL yT) ?_;clear hS;intro w hS;have Abd:1<=GM L.d/\GM L.d<=255:=by unfold GM;omega
 exact gG 2 ⟨O,hS⟩
theorem Xiv(L:Lg)(lg db kb:Nat)(us sv pl:Va)(Az i:Int)(ha:Az=0\/Az=1)(hi:0<=i/\i<=100000)(hL:4<=L.d.kept.length)(yT:L.d.kept.length<=512)(As:La)(hS:Aa B w I (Ae lg [ptr db 0,Ab L.gen,Ab L.Az,Ab L.used,us] 262::CU db kb sv pl L.d As)):Ce B I (Ae lg [ptr db 0,Ab L.gen,Ab L.Az,Ab L.used,us] 262::CU db kb sv pl L.d As) 146 [ptr lg 0,Ab Az,Ab i] w (Ab (YX L.d Az i)):=by
 refine gE 3 (Xfr L lg db kb us sv pl hL yT) ?_;clear hS;intro w hS;have Abd:1<=GM L.d/\GM L.d<=255:=by unfold GM;omega
 have hmu:0<=Az*GM L.d/\Az*GM L.d<=255:=by rcases ha with rfl|rfl<;>omega
 refine .val (.mul (.of O) (.of O) ⟨om,om⟩) O ?_;exact gG 4 ⟨O,hS⟩
theorem Xl2(L:Lg)(lg db kb:Nat)(us sv pl:Va)(hL:4<=L.d.kept.length)(yT:L.d.kept.length<=512)(hu:0<=L.used/\L.used<=100000)(As:La)(hS:Aa B w I (Ae lg [ptr db 0,Ab L.gen,Ab L.Az,Ab L.used,us] 262::CU db kb sv pl L.d As)):Ce B I (Ae lg [ptr db 0,Ab L.gen,Ab L.Az,Ab L.used,us] 262::CU db kb sv pl L.d As) 293 [ptr lg 0] w (Ab (It L.d-L.used)):=by
 refine gG 1 (gD [0,0,0,0] [] [0,2,3,4,5,6,1,7,8] ?_);clear hS;intro w hS;refine gE 6 (Xfq L lg db kb us sv pl hL yT) ?_;clear hS;intro w hS;have Abd:1<=GM L.d/\GM L.d<=255:=by unfold GM;omega
 have Abb:It L.d<=255*32/\0<=It L.d:=by unfold It;omega
 exact gG 2 ⟨O,hS.s⟩
theorem Wk(gn ar us:Int)(h1:0<=gn/\gn<262144)(h2:ar=0\/ar=1)(h3:0<=us/\us<8192)(As:La)(hS:Aa B w I As):Cz 315 [.agg #[Ab gn,Ab ar,Ab us]] w λv w'=>∃b,v=.slice (some (ad b 0)) 4 4/\Aa B w' I (Ae b (Ax (UR gn ar us)) 5::As):=by
 refine gG 2 ?_;clear hS;intro b1 w hS;have hn9:0<=I3 gn ar us/\I3 gn ar us<4294967296:=by unfold I3;omega
 refine gH 13 (.val (.Hp (.of O) Dq CY) O (gH 2 (.val (.Hp (.of O) Dq CY) O (gH 2 (.val (.Hp (.of O) Dq CY) O (gH 1 (.val (.Hp (.of O) Dq CY) O (gH 1 ?_))))))));clear hS;intro b25 w hS;replace hS:=hS;try dsimp only[List.eraseIdx]at hS
 replace hS:=hS.say (k:=0) (A':=Ae b25 (Ax (([I3 gn ar us/2^24,I3 gn ar us/2^16,I3 gn ar us/2^8,I3 gn ar us]:List Int).map Ew)) 5) O (λh hh=>by rw[iU];exact hh);dsimp only[List.set]at hS;exact gG 1 ⟨b25,O,(hS.y 1 1)⟩
theorem Xil(gn ar us:Int)(h1:0<=gn/\gn<262144)(h2:ar=0\/ar=1)(h3:0<=us/\us<8192)(hH:Bt I)(As:La)(hS:Aa B w I As):Cz 236 [.agg #[Ab gn,Ab ar,Ab us]] w λv w'=>∃J,Le I J/\Aa B w' J (Ar 5 1 v 8 (Ax (Nq gn ar us))::As):=by
 refine gH 3 ?_;clear hS;intro b1 w hS;refine gF 0 (Wk gn ar us h1 h2 h3) ?_;clear hS;rintro _ w ⟨bw,rfl,hS⟩;obtain⟨J,hJ,hR,hS⟩:=hS.Lw (by simp[UR]);refine gE 2 (Ti (UR gn ar us) _ _ (by simp[UR]) (hH.mono hJ) hR) ?_;clear hS;intro w hS;refine gH 3 (.val (.Hp (.of O) OS CY) O (gH 2 (.val (.Hp (.of O) OS CY) O (gH 2 (.val (.Hp (.of O) OS CY) O (gH 1 (.val (.Hp (.of O) OS CY) O (gH 2 ?_))))))));clear hS;intro tj w hS;replace hS:=hS;try dsimp only[List.eraseIdx]at hS
 replace hS:=hS.say (k:=0) (A':=Ae tj (Ax ((sO gn ar us:List Int).map Ew)) 5) O (λh hh=>by rw[iU];exact hh);dsimp only[List.set]at hS;replace hS:=hS.Bw (size:=1) (n:=4) (k:=0) O (by simp[Ax,sO]) de;refine .CK (size:=1) (bytes:=1) hS (.of O) (.of O) hR (k:=0) O Db Xx O O O O (Ni _) ⟨de,de⟩ O ?_;clear hS;intro v22 w hS;try dsimp only[List.set]at hS
 refine gG 1 (⟨J,hJ,?_⟩);rw[show Ax (Nq gn ar us)=Ax ((sO gn ar us).map Ew)++Ax (UR gn ar us) from Ym];exact hS.s
theorem Xfn:prog.info? 491=some t491:=by kernel_rfl
def Hg(B:Wo)(I:Im)(lg db kb:Nat)(FA Fx FH:Int)(us:Va)(n0:Nat)(f:Va)(st:Dk->Nat×Dk):Prop:=∃BC fn bs cap,f=.func (.func BC) (List.toArray bs) (List.toArray cap)/\prog.funcs[BC]?=some fn/\Xb fn=true/\
 ∀(d:Dk) (sv pl:Va) (w:Wo) (J:Im) (As:La),Le I J->FP d->d.Ah.length<=100000->d.kept.length=n0->AU J pl d.AY->Aa B w J (Ae lg [ptr db 0,Ab FA,Ab Fx,Ab FH,us] 262::CU db kb sv pl d As)->
  Calls prog BC (bs++[]++cap).toArray w (A4 λv w'=>∃J2 D6 Ed,Le J J2/\v=Ab ((st d).1:Nat)/\AU J2 Ed (st d).2.AY/\Aa B w' J2 (Ae lg [ptr db 0,Ab FA,Ab Fx,Ab FH,us] 262::CU db kb D6 Ed (st d).2 As))
theorem Hg.mono{f:Va}{st:Dk->Nat×Dk}(h:Hg B I lg db kb FA Fx FH us n0 f st)(hl:Le I J):Hg B J lg db kb FA Fx FH us n0 f st:=by
 obtain⟨BC,fn,bs,cap,h1,h2,h3,h4⟩:=h;exact⟨BC,fn,bs,cap,h1,h2,h3,λd sv pl w K As hk=>h4 d sv pl w K As (hl.trans hk)⟩
theorem fL(d:Dk)(lg db kb:Nat)(FA Fx FH:Int)(us sv pl:Va)(i:Int)(b:Lu)(pa:Oa)(pc b0 b1 b2:Nat)(h0:At I (ad b0 0) [ptr lg 0])(h1:At I (ad b1 0) [Ab i])(h2:At I (ad b2 0) [.slice pa b.length pc])(hO:FP d)(hP:AU I pl d.AY)(IE:RS I pa 1 b.length (Ax b))(Cp:d.Ah.length<=1000000)(As:La)(hS:Aa B w I (Ae lg [ptr db 0,Ab FA,Ab Fx,Ab FH,us] 262::CU db kb sv pl d As)):Cz 388 [ptr b0 0,ptr b1 0,ptr b2 0] w λv w'=>∃D6 Ed,v=Ab ((Xz d i b).1:Nat)/\AU I Ed (Xz d i b).2.AY/\Aa B w' I (Ae lg [ptr db 0,Ab FA,Ab Fx,Ab FH,us] 262::CU db kb D6 Ed (Xz d i b).2 As):=by
 refine gG 1 (gD [0] [] [0,1,2,3,4,5,6,7] ?_);clear hS;intro w hS;refine Br.y 0 (λw _ _ A6 hS=>(.Ca (v:=ptr lg 0) (.of O) hS (h0.mono A6) kT O)) (gH 3 (Br.y 4 (λw _ _ A6 hS=>(.Ca (v:=Ab i) (.of O) hS (h1.mono A6) Cv O)) (Br.y 5 (λw _ _ A6 hS=>(.Ca (v:=.slice pa b.length pc) (.of O) hS (h2.mono A6) UI O)) (gF 0 (Xid i b pa pc d db kb sv pl B _ I hO hP IE Cp) ?_))));clear hS;rintro _ w ⟨D6,Ed,rfl,ZA,hS⟩;exact gG 1 ⟨D6,Ed,O,ZA,hS.s⟩
theorem fM(d:Dk)(lg db kb:Nat)(FA Fx FH:Int)(us sv pl:Va)(gn ar u:Int)(b0 b1:Nat)(hg:0<=gn/\gn<262144)(ha:ar=0\/ar=1)(hu:0<=u/\u<8192)(hV:Bt I)(h0:At I (ad b0 0) [ptr lg 0])(h1:At I (ad b1 0) [Ab gn,Ab ar,Ab u])(hO:FP d)(hP:AU I pl d.AY)(Cp:d.Ah.length<=1000000)(As:La)(hS:Aa B w I (Ae lg [ptr db 0,Ab FA,Ab Fx,Ab FH,us] 262::CU db kb sv pl d As)):Cz 391 [ptr b0 0,ptr b1 0] w λv w'=>∃J D6 Ed,Le I J/\v=Ab ((Xz d (gn%2) (Nq gn ar u)).1:Nat)/\AU J Ed (Xz d (gn%2) (Nq gn ar u)).2.AY/\Aa B w' J (Ae lg [ptr db 0,Ab FA,Ab Fx,Ab FH,us] 262::CU db kb D6 Ed (Xz d (gn%2) (Nq gn ar u)).2 As):=by
 refine gG 1 (gD [0] [] [0,1,2,3,4,5,6,7,8,9,10] ?_);clear hS;intro w hS;refine Br.y 0 (λw _ _ A6 hS=>(.Ca (v:=ptr lg 0) (.of O) hS (h0.mono A6) kT O)) (gH 4 (Br.y 5 (λw _ _ A6 hS=>(.Ca (v:=Ab gn) (.of O) hS (h1.mono A6) Cv O)) (gH 1 (Br.y 7 (λw _ _ A6 hS=>(.Cy (us:=[Ab gn,Ab ar,Ab u]) (.of O) hS (h1.mono A6) xY Mi O (λ_ _ h=>h))) (gF 0 (Xil gn ar u hg ha hu hV) ?_)))));clear hS;rintro hv w ⟨J1,Bn,hS⟩;obtain⟨ha9,DV,rfl,hhc,_⟩:=hS.vS 0;obtain⟨J2,Gw,P_,hS⟩:=hS.fV 0;try dsimp only[List.eraseIdx]at hS
 have AE:=Bn.trans Gw;have NR:(Nq gn ar u).length=8:=by simp[Nq,sO,UR]
 rw[<-NR]at P_;refine gF 0 (by rw[<-NR];exact Xid (gn%2) (Nq gn ar u) _ _ d db kb sv pl B _ J2 hO (hP.mono AE) P_ Cp) ?_;clear hS;rintro _ w ⟨D6,Ed,rfl,ZA,hS⟩;exact gG 1 ⟨J2,D6,Ed,AE,O,ZA,hS.s⟩
theorem XP{b0 b1 b2:Nat}{i:Int}{b:Lu}{pa:Oa}{pc:Nat}(h0:At I (ad b0 0) [ptr lg 0])(h1:At I (ad b1 0) [Ab i])(h2:At I (ad b2 0) [.slice pa b.length pc])(IE:RS I pa 1 b.length (Ax b)):Hg B I lg db kb FA Fx FH us n0 (.func (.func 388) #[] #[ptr b0 0,ptr b1 0,ptr b2 0]) (λd=>Xz d i b) :=
 ⟨388,_,[],[ptr b0 0,ptr b1 0,ptr b2 0],O,func388,O,λd sv pl w J As hJ hO Cp hn hP hS=>(fL d lg db kb FA Fx FH us sv pl i b pa pc b0 b1 b2 (h0.mono hJ) (h1.mono hJ) (h2.mono hJ) hO hP (IE.mono hJ) om As hS).mono λe w' ⟨v,he,D6,Ed,hv,ZA,Bo⟩=>⟨v,he,J,D6,Ed,Le.refl _,hv,ZA,Bo⟩⟩
theorem XQ{b0 b1:Nat}{gn ar u:Int}(hg:0<=gn/\gn<262144)(ha:ar=0\/ar=1)(hu:0<=u/\u<8192)(hV:Bt I)(h0:At I (ad b0 0) [ptr lg 0])(h1:At I (ad b1 0) [Ab gn,Ab ar,Ab u]):Hg B I lg db kb FA Fx FH us n0 (.func (.func 391) #[] #[ptr b0 0,ptr b1 0]) (λd=>Xz d (gn%2) (Nq gn ar u)) :=
 ⟨391,_,[],[ptr b0 0,ptr b1 0],O,func391,O,λd sv pl w J As hJ hO Cp hn hP hS=>(fM d lg db kb FA Fx FH us sv pl gn ar u b0 b1 hg ha hu (hV.mono hJ) (h0.mono hJ) (h1.mono hJ) hO hP om As hS).mono λe w' ⟨v,he,K,D6,Ed,hK,hv,ZA,Bo⟩=>⟨v,he,K,D6,Ed,hK,hv,ZA,Bo⟩⟩
theorem Xpw:Hg B I lg db kb FA Fx FH us n0 (.func (.func 390) #[ptr db 0] #[]) Fp :=
 ⟨390,_,[ptr db 0],[],O,func390,O,λd sv pl w J As hJ hO Cp hn hP hS=>(VI d db kb sv pl hO hP om _ (hS.x [3,3,3])).mono λe w' ⟨v,he,D6,Ed,hv,ZA,Bo⟩=>⟨v,he,J,D6,Ed,Le.refl _,hv,ZA,(((Bo.pick 3 O)))⟩⟩
def Bk(B:Wo)(I:Im)(lg db kb:Nat)(FA Fx FH:Int)(us:Va)(n0:Nat)(fs:Lv)(Fv:List (Dk->Nat×Dk)):Prop:=fs.length=Fv.length/\∀(k:Nat) f st,fs[k]?=some f->Fv[k]?=some st->Hg B I lg db kb FA Fx FH us n0 f st/\xK st
theorem Bk.mono{fs:Lv}{Fv:List (Dk->Nat×Dk)}(h:Bk B I lg db kb FA Fx FH us n0 fs Fv)(hl:Le I J):Bk B J lg db kb FA Fx FH us n0 fs Fv:=⟨h.1,λk f st hf hs=>⟨(h.2 k f st hf hs).1.mono hl,(h.2 k f st hf hs).2⟩⟩
theorem Bk.app{fs gs:Lv}{Fv tts:List (Dk->Nat×Dk)}(h:Bk B I lg db kb FA Fx FH us n0 fs Fv)(h2:Bk B I lg db kb FA Fx FH us n0 gs tts):Bk B I lg db kb FA Fx FH us n0 (fs++gs) (Fv++tts):=by
 refine⟨by rw[Y0,Y0,h.1,h2.1],λk f st hf hs=>?_⟩;rcases C5 k fs.length with hk|hk
 ·rw[Y9 hk]at hf;rw[Y9 (by rw[<-h.1];exact hk)]at hs;exact h.2 k f st hf hs
 ·rw[Yq hk]at hf;rw[Yq (by rw[<-h.1];exact hk),<-h.1]at hs;exact h2.2 _ f st hf hs
theorem Bk.one{f:Va}{st:Dk->Nat×Dk}(h:Hg B I lg db kb FA Fx FH us n0 f st)(h2:xK st):Bk B I lg db kb FA Fx FH us n0 [f] [st]:=⟨O,λk f' st' hf hs=>by
 cases k with
 | zero=>cases hf;cases hs;exact⟨h,h2⟩
 | succ k=>simp at hf⟩
theorem Bk.nil:Bk B I lg db kb FA Fx FH us n0 [] []:=⟨O,λk f st hf=>by simp at hf⟩
def B1(I:Im)(us:Va)(l:Lu):Prop:=∃a c,us=.slice a l.length c/\l.length<=c/\RS I a 1 l.length (Ax l)
theorem B1.mono{l:Lu}(h:B1 I us l)(hl:Le I J):B1 J us l:=by
 obtain⟨a,c,h1,h2,h3⟩:=h;exact⟨a,c,h1,h2,h3.mono hl⟩
theorem Xv5(used:Lu)(i:Nat):(jm used i).length=min used.length ((i+1)*32)-i*32:=by
 unfold jm;rw[Ye,Yl,Nat.min_comm]
theorem fA(used:Lu)(i:Nat):Ax (jm used i)=((Ax used).take ((min used.length ((i+1)*32))*1)).drop (i*32*1):=by
 unfold jm Ax;rw[List.map_drop,Y66];simp only[Gv]
 rcases Nat.le_total used.length ((i+1)*32)with h|h
 ·rw[jx h,Yg (su h),Yg sz]
 ·rw[Nat.min_eq_right h]
theorem Xul(L:Lg)(lg db kb:Nat)(us sv pl:Va)(gn ar u:Int)(used:Lu)(ua:Oa)(uc Dg:Nat)(fi:Int)(hfi:fi=(Dg:Nat))(hg:0<=gn/\gn<262144)(ha:ar=0\/ar=1)(hu:0<=u/\u<8192)(hul:used.length<=100000)(huc:used.length<=uc)(hfr:Dg<=100000)(hV:Bt I)(hO:Zk L)(hP:AU I pl L.d.AY)(hU:B1 I us L.data)(hRu:RS I ua 1 used.length (Ax used))(As:La)(hS:Aa B w I (Ae lg [ptr db 0,Ab L.gen,Ab L.Az,Ab L.used,us] 262::CU db kb sv pl L.d As)):Cz 294 [ptr lg 0,.agg #[Ab gn,Ab ar,Ab u],.slice ua used.length uc,Ab fi] w λv w'=>∃J D6 Ed Kc,v=Ab ((Ku L gn ar u used Dg).1:Nat)/\Le I J/\AU J Ed (Ku L gn ar u used Dg).2.d.AY/\B1 J Kc (Ku L gn ar u used Dg).2.data/\Aa B w' J (Ae lg [ptr db 0,Ab (Ku L gn ar u used Dg).2.gen,Ab (Ku L gn ar u used Dg).2.Az,Ab (Ku L gn ar u used Dg).2.used,Kc] 262::CU db kb D6 Ed (Ku L gn ar u used Dg).2.d As):=by
 subst hfi;refine gG 3 ?_;clear hS;intro b4 b5 w hS;replace hS:=(hS.pick 1 O);try dsimp only[List.eraseIdx]at hS
 obtain⟨I1,tZ,hq4,hS⟩:=hS.fZ 0;try dsimp only[List.eraseIdx]at hS
 obtain⟨I2,qP,hq5,hS⟩:=hS.fZ 0;try dsimp only[List.eraseIdx]at hS
 have h0:At I2 (ad b4 0) [ptr lg 0]:=⟨O,_,_,_,qP.h _ _ hq4,λj v hj=>by simpa using hj⟩
 have h1:At I2 (ad b5 0) [Ab gn,Ab ar,Ab u]:=⟨O,_,_,_,hq5,λj v hj=>by simpa using hj⟩
 have P7:=tZ.trans qP;refine gG 4 ?_;replace hS:=hS.An 491 1;have Bh:=hS;clear hS;refine .lk [2,4,5] (σ:=Nat×Lv×Va×Im) (λ(i,fs,kv,J) _m=>(9,kv)::(10,Ab (i:Nat))::_m) (λ(i,fs,kv,J) w=>Dg/32<=i/\(i*32<used.length+32\/i=Dg/32)/\Le I2 J/\Bk B J lg db kb L.gen L.Az L.used us L.d.kept.length fs ((List.range' (Dg/32) (i-Dg/32)).map (λ(i:Nat) d=>Xz d (YX L.d ar i) (jm used i)))/\Aa B w J (Ar 491 1 kv fs.length fs::Ae lg [ptr db 0,Ab L.gen,Ab L.Az,Ab L.used,us] 262::CU db kb sv pl L.d As)) (λ(i,fs,kv,J)=>(used.length+31)/32-i) (Dg/32,[],.slice none 0 0,I2) ⟨Yd _,.inr O,Le.refl _,by rw[qJ];exact Bk.nil,Bh⟩ ?_;rintro⟨i,fs,kv,J⟩ w ⟨ey,hhi,hJ,hC,hS⟩;clear Bh;have NT:fs.length=i-Dg/32:=by rw[hC.1];simp
 refine gN 5 ?_ ?_<;>intro Dx
 ·refine gG 0 ?_;obtain⟨a9,JU,mz⟩:=QF (lo:=i*32) (hi:=min used.length ((i+1)*32)) (hRu.mono (P7.trans hJ)) (oh Dx) om huc;rw[<-fA,<-Xv5]at mz;refine gH 8 (.val (.min2 (.of O) (.of O)) O ?_);refine .val (.as (.slc (lo:=((i*32:Nat):Int)) (hi:=((min used.length ((i+1)*32):Nat):Int)) (.of O) (.of (by show some (Ab _)=some (Ab _);congr 2)) (.of (by show some (Ab _)=some (Ab _);congr 2;omega)) om (oh Dx) om Db FJ) (show sliced _ ((i*32:Nat):Int).toNat ((min used.length ((i+1)*32):Nat):Int).toNat _ _=_ from by rw[Y8,Y8,JU,<-Xv5])) O ?_;refine gG 2 ?_;clear hS;intro R5 w hS;refine .val (.Ca (v:=ptr lg 0) (.of O) hS (h0.mono hJ) kT O) O (gH 1 (.val (.Ca (v:=Ab ar) (.of O) hS ((h1.mono hJ).add 1) Cv O) O (gE 1 (Xiv L lg db kb us sv pl ar (i:Int) ha (oh Dx) hO.len hO.d.size) ?_)));clear hS;intro w hS;refine gG 2 ?_;clear hS;intro bM w hS;replace hS:=((hS.pick 5 O).pick 1 O);try dsimp only[List.eraseIdx]at hS
  obtain⟨J1,Bn,Adl,hS⟩:=hS.fZ 0;try dsimp only[List.eraseIdx]at hS
  obtain⟨J2,AE,Adk,hS⟩:=hS.fZ 0;try dsimp only[List.eraseIdx]at hS
  have Acb:At J2 (ad bM 0) [Ab (YX L.d ar (i:Nat))]:=⟨O,_,_,_,AE.h _ _ Adl,λj v hj=>by simpa using hj⟩
  have Aca:At J2 (ad R5 0) [.slice a9 (jm used i).length (uc-i*32)]:=⟨O,_,_,_,Adk,λj v hj=>by simpa using hj⟩
  have Gw:=Bn.trans AE;have hC9:=XP (B:=B) (lg:=lg) (db:=db) (kb:=kb) (n0:=L.d.kept.length) (FA:=L.gen) (Fx:=L.Az) (FH:=L.used) (us:=us) (h0.mono (hJ.trans Gw)) Acb Aca (mz.mono Gw);refine gH 3 ?_;clear hS;intro lO w hS;refine .append (size:=1) (bytes:=8) hS (.of O) (.of O) (k:=4) O Ri Xfn O O O O O O O ⟨om,by unfold maxLen;omega⟩ O ?_;clear hS;intro v43 w hS;dsimp only[List.set]at hS;refine gG 4 ?_;have DV:=Dx;refine E_ (i+1,fs++[.func (.func 388) #[] #[ptr b4 0,ptr bM 0,ptr R5 0]],_,J2) O ⟨od,.inl od,hJ.trans Gw,?_,?_⟩
  ·(try dsimp only)
   rw[show i+1-Dg/32=(i-Dg/32)+1 by omega,List.range'_concat,Ym,Nat.one_mul,show Dg/32+(i-Dg/32)=i by omega];exact(hC.mono Gw).app (.one hC9 (X8t _ _))
  ·(try dsimp only)
   rw[Y0];exact(hS.x [3,3,3,3,4])
 refine gG 0 (.dw (λw=>∃R,Aa B w J (Ae lg [ptr db 0,Ab L.gen,Ab L.Az,Ab L.used,us] 262::R)) (λj=>!([].contains j)) ?_);replace hS:=hS.drew;generalize w.drew=w at hS ⊢;have hH:∃R,Aa B w J (Ae lg [ptr db 0,Ab L.gen,Ab L.Az,Ab L.used,us] 262::R):=⟨_,(hS.x [1])⟩
 refine .tp 0 O (λw=>(.mo O)) (.tk 1 O hH (λw ⟨R,hS⟩=>(.Ca (v:=ptr lg 0) (.of O) hS (h0.mono hJ) kT O)) (.tp 2 O (λw=>(.no O)) ?_));refine .tp 3 O (λw=>(by first|exact .fo 0 O Za O O Z3 O|exact .fi 0 O Za O O Z3 O)) ?_;refine .tk 4 O hH (λw ⟨R,hS⟩=>(.lo O hS (k:=0) O isAgg40 O)) (.tp 5 O (λw=>(.KO (Be O X4) X4)) (.tp 6 O (λw=>(.makeFunc (Be O (Be O X4)))) (.tk 7 O hH (λw ⟨R,hS⟩=>(.Ca (v:=ptr lg 0) (.of O) hS (h0.mono hJ) kT O)) (.tp 8 O (λw=>(.no O)) ?_))));refine .tp 9 O (λw=>(by first|exact .fo 0 O Za O O Z3 O|exact .fi 0 O Za O O Z3 O)) ?_;refine .tk 10 O hH (λw ⟨R,hS⟩=>(.lo O hS (k:=0) O isAgg40 O)) (.tp 11 O (λw=>(.KO (Be O X4) X4)) ?_);refine .b1 12 O (.buildSlice (cs:=[_,_,_]) hS (QB O (QB O (QB O pM))) Ri sizeOf491 zeroValue491 O O O O ?_);clear hS;intro b56 w hS;refine .nil ?_;clear hH;have hH:∃R,Aa B w J (Ae lg [ptr db 0,Ab L.gen,Ab L.Az,Ab L.used,us] 262::R):=⟨_,(hS.x [2])⟩
 refine⟨λ_ _=>hH,?_⟩;refine .b1 13 O (.append (size:=1) (bytes:=8) hS (.of O) (.of O) (k:=0) O Ri Xfn O O O O O O O ⟨om,by unfold maxLen;omega⟩ O ?_);clear hS;intro v57 w hS;dsimp only[List.set]at hS;refine .nil ?_;clear hH;have hH:∃R,Aa B w J (Ae lg [ptr db 0,Ab L.gen,Ab L.Az,Ab L.used,us] 262::R):=⟨_,(hS.x [1])⟩
 refine⟨λ_ _=>hH,?_⟩;refine .tp 14 O (λw=>(.ao O)) (.dn ?_);obtain⟨ca,cc,rfl,hcc,_⟩:=hS.Av (k:=0) (v:=v57) O;refine gG 3 ?_;obtain⟨fs9,uU⟩:∃fs9,fs9=fs++[.func (.func 390) #[ptr db 0] #[],.func (.func 391) #[] #[ptr b4 0,ptr b5 0],.func (.func 390) #[ptr db 0] #[]]:=⟨_,O⟩
 obtain⟨QJ,eG⟩:∃QJ,QJ=OR L.d gn ar u used Dg:=⟨_,O⟩
 have DV:=Dx;have y7:i-Dg/32=cntF used.length Dg:=by unfold cntF;omega
 have BW:=(((((hS.pick 4 O).pick 4 O).pick 4 O).pick 4 O).pick 4 O)
 obtain⟨J4,EA,hRC,Bh⟩:=BW.fV 0;have GN:=hJ.trans EA;have hC4:Bk B J4 lg db kb L.gen L.Az L.used us L.d.kept.length fs9 QJ:=by
  rw[uU,eG];unfold OR;rw[<-y7];exact((hC.mono EA).app ((Bk.one Xpw Xb2).app ((Bk.one (XQ hg ha hu (hV.mono (P7.trans GN)) (h0.mono GN) (h1.mono GN)) (X8t _ _)).app (Bk.one Xpw Xb2))))
 have AhR:fs9.length=fs.length+3:=by rw[uU];simp
 rw[<-uU]at hRC;have hP4:=hP.mono (P7.trans GN);clear hS BW;refine .lk [2,4,5,58,59] (σ:=Nat×Dk×Va×Va×Im) (λ(k,d9,ZI,Tq,J) _m=>(60,Ab (k:Nat))::_m) (λ(k,d9,ZI,Tq,J) w=>k<=fs.length+3/\Gd QJ L.d=Gd (QJ.drop k) d9/\FP d9/\d9.Ah.length<=L.d.Ah.length+k/\d9.kept.length=L.d.kept.length/\AU J Tq d9.AY/\Le J4 J/\Aa B w J (Ae lg [ptr db 0,Ab L.gen,Ab L.Az,Ab L.used,us] 262::CU db kb ZI Tq d9 As)) (λ(k,d9,ZI,Tq,J)=>fs.length+3-k) (0,L.d,sv,pl,J4) ⟨Y4 _,O,hO.d,Yd _,O,hP4,Le.refl _,Bh⟩ ?_;rintro⟨k,d9,ZI,Tq,J⟩ w ⟨hk,KL,hOd,hsd,Cw,Wi,dt,hS⟩;clear Bh;refine gN 1 ?_ ?_<;>intro AaL
 ·refine gG 0 ?_;obtain⟨f,hf⟩:∃f,fs9[k]?=some f:=⟨_,Y2 om⟩
  obtain⟨st,Cp⟩:∃st,QJ[k]?=some st:=⟨_,Y2 (by rw[<-hC4.1];omega)⟩
  obtain⟨⟨BC,fn,bs9,bT,rfl,EJ,BZ,DR⟩,hso⟩:=hC4.2 k f st hf Cp;obtain⟨cp,rfl,hpC⟩:=hRC.2 om;refine gH 1 ?_
  (try rw[Y8]);rw[Gv]
  refine .val (.Ca (.of O) hS (((hpC.mono dt).add k)) isAgg491 (by rw[U6,Hn];exact hf)) O ?_;refine gH 2 (.wH (bs:=bs9) (cap:=bT) EJ BZ (.of O) X4 O (DR d9 ZI Tq w J As dt hOd (oh hO.st) Cw Wi hS) ?_);clear hS;rintro _ w ⟨J3,sv3,pl3,BN,rfl,yW,hS⟩;obtain⟨hO3,qY,hs3⟩:=hso d9 hOd;refine gN 3 ?_ ?_<;>intro uw
  ·refine gG 0 (.val (.Ca (v:=ptr lg 0) (.of O) hS (h0.mono (GN.trans (dt.trans BN))) kT O) O (gF 3 (VH (st d9).2 db kb sv3 pl3) ?_));clear hS;rintro _ w ⟨sv4,hS⟩;refine gG 1 ?_;have WM:(st d9).1≠0:=by have:=uw;omega
   rw[TF Cp,Y7 WM]at KL;have jM:Ku L gn ar u used Dg=(21,{ L with d:=Nn (st d9).2 }):=by
    unfold Ku;rw[<-eG,KL];first|done|rfl
   rw[jM];exact⟨J3,sv4,pl3,us,O,P7.trans (GN.trans (dt.trans BN)),by rw[VO];exact yW,hU.mono (P7.trans (GN.trans (dt.trans BN))),hS.s⟩
  refine gG 2 ?_;have WM:(st d9).1=0:=by have:=uw;omega
  rw[TF Cp,Y3 (by rw[WM];simp)]at KL;refine rd (k+1,(st d9).2,sv3,pl3,J3) ⟨od,KL,hO3,od,by rw[<-Cw];exact qY,yW,dt.trans BN,(hS.x [3,3,3,3])⟩
 refine gG 0 (.dw (λw=>∃R,Aa B w J R) (λj=>!([9].contains j)) ?_);replace hS:=hS.drew;generalize w.drew=w at hS ⊢;have hH:∃R,Aa B w J R:=⟨_,hS⟩
 refine .tk 0 O hH (λw ⟨R,hS⟩=>(.Ca (v:=ptr lg 0) (.of O) hS (h0.mono (GN.trans dt)) kT O)) (.tk 1 O hH (λw ⟨R,hS⟩=>(.Ca (v:=ptr lg 0) (.of O) hS (h0.mono (GN.trans dt)) kT O)) (.tk 2 O hH (λw ⟨R,hS⟩=>(.Cy (us:=[Ab gn,Ab ar,Ab u]) (.of O) hS (h1.mono (GN.trans dt)) xY Mi O (λ_ _ h=>h))) (.tp 3 O (λw=>(.mo O)) (.tp 4 O (λw=>(.no O)) ?_))));refine .tp 5 O (λw=>(by first|exact .fo 1 O Za O O Mi O|exact .fi 1 O Za O O Mi O)) ?_;refine .b1 6 O ?_
 first|refine .so hS (k:=0) O O O O Mi O sz ?_|refine .so hS (k:=1) O O O O Mi O sz ?_|refine .so hS (k:=2) O O O O Mi O sz ?_|refine .so hS (k:=3) O O O O Mi O sz ?_
 clear hS;intro w hS;try dsimp only[List.set]at hS
 try simp only[RU,Ez,Yr,Kw,O5,Y57,Yj]at hS
 refine .nil ?_;clear hH;have hH:∃R,Aa B w J R:=⟨_,hS⟩
 refine⟨λ_ _=>hH,?_⟩;refine .tp 7 O (λw=>(.no O)) (.tp 8 O (λw=>(by first|exact .fo 4 O Za O O Jf O|exact .fi 4 O Za O O Jf O)) ?_);refine .b1 9 O ?_
 first|refine .s1 hS (k:=0) O O O O Jf sz ?_|refine .s1 hS (k:=1) O O O O Jf sz ?_|refine .s1 hS (k:=2) O O O O Jf sz ?_|refine .s1 hS (k:=3) O O O O Jf sz ?_
 clear hS;intro w hS;try dsimp only[List.set]at hS
 refine .nil ?_;refine And.intro (by intro h;cases h) ?_;refine .dn (gG 1 ?_);have uX:QJ.drop k=[]:=Yk (oh hC4.1);rw[uX]at KL;have jM:Ku L gn ar u used Dg=(0,⟨d9,gn,ar,u,used⟩):=by
  unfold Ku;rw[<-eG,KL];first|done|rfl
 rw[jM];exact⟨J,ZI,Tq,_,O,P7.trans (GN.trans dt),Wi,⟨ua,uc,O,huc,hRu.mono (P7.trans (GN.trans dt))⟩,(hS.x [3,3,3,3])⟩
theorem Xqc(a:Oa)(c:Nat)(l:Lu)(hl:l.length<=1000000)(hR:RS I a 1 l.length (Ax l))(As:La)(hS:Aa B w I As):Cz 295 [.slice a l.length c] w λv w'=>∃kv,v=kv/\Aa B w' I (Ar 5 1 kv (l).length (Ax (l))::As):=by
 refine gH 2 (.val (Ex.HA (.of O) (.of O) Db) O ?_);refine gM 0 ?_ ?_<;>intro Qe SD
 ·refine gG 1 ?_;cases a with
  | some p=>simp at Qe
  | none =>
  have h0:l=[]:=by
   cases l with
   | nil=>rfl
   | cons x l=>obtain⟨p,h,_⟩:=hR.2 sz;cases h
  subst h0;exact⟨_,O,hS.An 5 1⟩
 refine gH 2 ?_;clear hS;intro b5 w hS;replace hS:=hS.Bw (k:=0) (E:=5) (size:=1) (n:=0) O O (Y4 _);try dsimp only[List.set]at hS
 refine .CK (size:=1) (bytes:=1) hS (.of O) (.of O) hR (k:=0) O Db Xx O O O O (Ni l) ⟨om,by unfold maxLen;omega⟩ O ?_;clear hS;intro v7 w hS;rw[Yj,Ez]at hS;exact gG 1 ⟨_,O,hS⟩
theorem Xrt(L:Lg)(lg db kb:Nat)(us sv pl:Va)(b:Lu)(ba:Oa)(bc:Nat)(NR:b.length<=1000000)(hV:Bt I)(IE:RS I ba 1 b.length (Ax b))(hO:Zk L)(hP:AU I pl L.d.AY)(hU:B1 I us L.data)(As:La)(hS:Aa B w I (Ae lg [ptr db 0,Ab L.gen,Ab L.Az,Ab L.used,us] 262::CU db kb sv pl L.d As)):Cz 205 [ptr lg 0,.slice ba b.length bc] w λv w'=>∃J D6 Ed Kc,v=Ab ((Gp L b).1:Nat)/\Le I J/\AU J Ed (Gp L b).2.d.AY/\B1 J Kc (Gp L b).2.data/\Aa B w' J (Ae lg [ptr db 0,Ab (Gp L b).2.gen,Ab (Gp L b).2.Az,Ab (Gp L b).2.used,Kc] 262::CU db kb D6 Ed (Gp L b).2.d As):=by
 refine gG 0 ?_;obtain⟨da,dc,rfl,hdc,hRd⟩:=id hU;have NZ:=Xvc b;have Abb:=Xgd hO.d hO.len;have hu9:=hO.used;have A5:=hO.room;have Qp:=hO.gen;have ha9:0<=L.Az/\L.Az<=1:=by rcases hO.Az with h|h<;>rw[h]<;>decide
 refine gF 2 (Xvb b ba bc NR hV IE) ?_;clear hS;rintro _ w ⟨fv,rfl,hS⟩;obtain⟨fa,fc,rfl,qV,_⟩:=hS.vS 0;refine gN 8 ?_ ?_<;>intro DP
 ·refine gG 2 ?_;have e:Gp L b=((Fe b).2,L):=by unfold Gp;exact Y7 (oh DP)
  rw[e];exact⟨I,sv,pl,_,O,Le.refl _,hP,hU,hS.s⟩
 refine gP 3 [4,4,4,4] (Xl2 L lg db kb _ sv pl hO.len hO.d.size om _) ?_;clear hS;rintro _ w ⟨rfl,hS⟩;refine gN 11 ?_ ?_<;>intro Gx
 ·refine gG 1 ?_;have e:Gp L b=(5,L):=by unfold Gp;rw[Y3 (oh DP)];exact Y7 (oh Gx)
  rw[e];exact⟨I,sv,pl,_,O,Le.refl _,hP,hU,hS.s⟩
 refine gG 0 (gD [0] [21] [0,1,2,3,4,5,6,7,8,9,10,11,12,13,14,15,16,17,18,19,20,21] ?_);clear hS;intro w hS;refine gH 14 (gH 7 ?_);clear hS;intro b7 w hS;refine gH 1 ?_;clear hS;intro w hS;refine gG 0 ?_;replace hS:=hS;try dsimp only[List.eraseIdx]at hS
 obtain⟨J,hJ,hq7,hS⟩:=hS.fZ 0;try dsimp only[List.eraseIdx]at hS
 have h7:At J (ad b7 0) [Ab (L.gen+1),Ab L.Az,Ab (L.used+((Fe b).1.length:Nat))]:=⟨O,_,_,_,hq7,λj v hj=>by simpa using hj⟩
 refine gD [0] [14] [0,1,2,3,4,5,7,9,10,11,12,13,6,8,14,15] ?_;clear hS;intro w hS;refine gH 1 (Br.y 1 (λw _ _ A6 hS=>(.Cy (us:=[Ab (L.gen+1),Ab L.Az,Ab (L.used+((Fe b).1.length:Nat))]) (.of O) hS (h7.mono A6) xY Mi O (λ_ _ h=>h))) (gF 10 (Xqc da dc L.data om (hRd.mono hJ)) ?_));clear hS;rintro _ w ⟨nv,rfl,hS⟩;refine gH 0 (Br.e (.H6 (size:=1) (bytes:=1) hS (.of O) (.of O) (k:=0) (j:=5) O O Db Xx O O O O (Ni _) ⟨om,by unfold maxLen;omega⟩ O ?_));clear hS;intro v60 w hS;dsimp only[List.set]at hS;rw[<-Y0,<-show Ax (L.data++(Fe b).1)=Ax L.data++Ax (Fe b).1 from Ym]at hS;obtain⟨na,nc,rfl,Dc,_⟩:=hS.vS 0;obtain⟨J2,AE,AJ,hS⟩:=hS.fV 0;try dsimp only[List.eraseIdx]at hS
 refine gF 0 (Xul L lg db kb _ sv pl (L.gen+1) L.Az (L.used+((Fe b).1.length:Nat)) (L.data++(Fe b).1) na nc L.used.toNat L.used om om hO.Az om (by rw[Y0];omega) Dc om ((hV.mono hJ).mono AE) hO ((hP.mono hJ).mono AE) ((hU.mono hJ).mono AE) AJ) ?_;clear hS;rintro _ w ⟨J3,D6,Ed,Kc,rfl,BN,yW,hU3,hS⟩;refine gG 1 ?_;have e:Gp L b=Ku L (L.gen+1) L.Az (L.used+((Fe b).1.length:Nat)) (L.data++(Fe b).1) L.used.toNat:=by unfold Gp;rw[Y3 (oh DP)];exact Y3 (oh Gx)
 rw[e];exact⟨J3,D6,Ed,Kc,O,hJ.trans (AE.trans BN),yW,hU3,hS.s⟩
theorem Xoi(L:Lg)(lg db kb:Nat)(us sv pl:Va)(xs:List Lu)(cs:Lv)(xa:Oa)(xc:Nat)(ES:∀x∈xs,x.length<=1000000)(CW:xs.length<=1000000)(hV:Bt I)(hX:Ju I xs cs)(hRr:RS I xa 1 xs.length cs)(hO:Zk L)(hP:AU I pl L.d.AY)(hU:B1 I us L.data)(As:La)(hS:Aa B w I (Ae lg [ptr db 0,Ab L.gen,Ab L.Az,Ab L.used,us] 262::CU db kb sv pl L.d As)):Cz 206 [ptr lg 0,.slice xa xs.length xc] w λv w'=>∃J D6 Ed Kc,v=Ab ((K9 L xs).1:Nat)/\Le I J/\AU J Ed (K9 L xs).2.d.AY/\B1 J Kc (K9 L xs).2.data/\Aa B w' J (Ae lg [ptr db 0,Ab (K9 L xs).2.gen,Ab (K9 L xs).2.Az,Ab (K9 L xs).2.used,Kc] 262::CU db kb D6 Ed (K9 L xs).2.d As):=by
 refine gG 0 ?_;have Abb:=Xgd hO.d hO.len;have hu9:=hO.used;have A5:=hO.room;have Qp:=hO.gen;have ha9:0<=L.Az/\L.Az<=1:=by rcases hO.Az with h|h<;>rw[h]<;>decide
 refine gF 2 (bq xs cs xa xc ES CW hV hX hRr) ?_;clear hS;rintro _ w ⟨J,fv,rfl,hJ,hS⟩;obtain⟨fa,fc,rfl,qV,_⟩:=hS.vS 0;refine gN 8 ?_ ?_<;>intro B_
 ·refine gG 2 ?_;have e:K9 L xs=((Kq xs []).2,L):=by unfold K9;exact Y7 (oh B_)
  rw[e];exact⟨J,sv,pl,_,O,hJ,hP.mono hJ,hU.mono hJ,hS.s⟩
 refine gP 3 [4,4,4,4] (Xfq L lg db kb _ sv pl hO.len hO.d.size _) ?_;clear hS;rintro _ w ⟨rfl,hS⟩;refine gN 11 ?_ ?_<;>intro C1
 ·refine gG 1 ?_;have e:K9 L xs=(5,L):=by unfold K9;rw[Y3 (oh B_)];exact Y7 (oh C1)
  rw[e];exact⟨J,sv,pl,_,O,hJ,hP.mono hJ,hU.mono hJ,hS.s⟩
 refine gG 0 (gD [0] [17] [0,1,2,3,4,5,6,7,8,9,10,11,12,13,14,15,16,17,18] ?_);clear hS;intro w hS;refine gH 14 (gH 3 ?_);obtain⟨J2,AE,AJ,hS⟩:=hS.fV 4;try dsimp only[List.eraseIdx]at hS
 refine gF 0 (Xul L lg db kb _ sv pl (L.gen+1) (1-L.Az) ((Kq xs []).1.length:Nat) (Kq xs []).1 fa fc 0 0 O om (by rcases hO.Az with h|h<;>rw[h]<;>simp) om om qV om ((hV.mono hJ).mono AE) hO ((hP.mono hJ).mono AE) ((hU.mono hJ).mono AE) AJ) ?_;clear hS;rintro _ w ⟨J3,D6,Ed,Kc,rfl,BN,yW,hU3,hS⟩;refine gG 1 ?_;have e:K9 L xs=Ku L (L.gen+1) (1-L.Az) ((Kq xs []).1.length:Nat) (Kq xs []).1 0:=by unfold K9;rw[Y3 (oh B_)];exact Y3 (oh C1)
 rw[e];exact⟨J3,D6,Ed,Kc,O,hJ.trans (AE.trans BN),yW,hU3,hS.s⟩
def QD(b:Lu):Nat:=(((b.getD 4 0).toNat*256+(b.getD 5 0).toNat)*256+(b.getD 6 0).toNat)*256+(b.getD 7 0).toNat
theorem QA(m k y:Nat)(hk:m*2^k<4611686018427387904)(hy:y<2^k)(hy2:y<4611686018427387904):bits .or .i64 ((m*2^k:Nat):Int) (y:Int)=((m*2^k+y:Nat):Int):=by
 have e1:(BitVec.ofInt 64 ((m*2^k:Nat):Int)).toNat=m*2^k:=by rw[BitVec.toNat_ofInt];omega
 have e2:(BitVec.ofInt 64 (y:Int)).toNat=y:=by rw[BitVec.toNat_ofInt];omega
 have e3:=Y4d (i:=k) (b:=y) hy m;show IntKind.i64.wrap (((BitVec.ofInt 64 _||| BitVec.ofInt 64 _).toNat:Nat):Int)=_
 rw[BitVec.toNat_or,e1,e2,lD,<-e3,lD,IntKind.wrap_i64];rw[lD]at hk;rw[lD m];omega
theorem Ahe(b:Lu):bits .or .i64 (bits .or .i64 (bits .or .i64 (IntKind.i64.wrap (((b.getD 4 0).toNat:Int)*2^24)) (IntKind.i64.wrap (((b.getD 5 0).toNat:Int)*2^16))) (IntKind.i64.wrap (((b.getD 6 0).toNat:Int)*2^8))) ((b.getD 7 0).toNat:Int)=(QD b:Int):=by
 have h0:=Zy (b.getD 4 0);have h1:=Zy (b.getD 5 0);have h2:=Zy (b.getD 6 0);have h3:=Zy (b.getD 7 0);unfold QD;generalize (b.getD 4 0).toNat=x0 at *;generalize (b.getD 5 0).toNat=x1 at *;generalize (b.getD 6 0).toNat=x2 at *;generalize (b.getD 7 0).toNat=x3 at *;rw[show IntKind.i64.wrap ((x0:Int)*2^24)=((x0*2^24:Nat):Int)by rw[IntKind.wrap_i64];omega,show IntKind.i64.wrap ((x1:Int)*2^16)=((x1*65536:Nat):Int)by rw[IntKind.wrap_i64];omega,show IntKind.i64.wrap ((x2:Int)*2^8)=((x2*256:Nat):Int)by rw[IntKind.wrap_i64];omega];rw[QA x0 24 (x1*65536) om om om,show x0*2^24+x1*65536=(x0*256+x1)*2^16 by omega,QA _ 16 (x2*256) om om om,show(x0*256+x1)*2^16+x2*256=((x0*256+x1)*256+x2)*2^8 by omega,QA _ 8 x3 om om om]
def Mt(b:Lu):Int:=(QD b:Int)/16384
def Zj(b:Lu):Int:=(QD b:Int)/8192%2
def RI(b:Lu):Int:=(QD b:Int)%8192
def rOk(d:Dk)(i:Int)(b:Lu):Bool:=Nq (Mt b) (Zj b) (RI b)==b.take 8&&Mt b%2==i&&decide (RI b<=It d)
theorem Xp9{d:Dk}(h:FP d){i:Int}(hi:N7 d i=true):(Mn d i).length=32:=by
 have hk:(d.kept.getD i.toNat []).length=32:=by
  unfold N7 at hi;simp only[Yb,dq1]at hi
  have BO:i.toNat<d.kept.length:=om
  rw[Ya,Y2 BO];exact h.kept _ (Zw BO)
 have:∀(l:List (Int×Lu)) (b:Lu),(∀w∈l,w.2.length=32)->b.length=32->(l.foldl (RP i) b).length=32:=by
  intro l
  induction l with
  | nil=>intro b _ hb;exact hb
  | cons w l ih =>
   intro b hl hb;refine ih _ (λx hx=>hl x (by simp[hx])) ?_;unfold RP;split
   ·exact hl w sz
   ·exact hb
 exact this _ _ h.what hk
theorem W3(L:Lg)(lg db kb:Nat)(us sv pl:Va)(i:Int)(hi:N7 L.d i=true)(hV:Bt I)(hd:FP L.d)(hlen:4<=L.d.kept.length)(Cp:L.d.Ah.length<=1000000)(As:La)(hS:Aa B w I (Ae lg [ptr db 0,Ab L.gen,Ab L.Az,Ab L.used,us] 262::CU db kb sv pl L.d As)):Cz 143 [ptr lg 0,Ab i] w λv w'=>∃J,Le I J/\v=.tuple #[.agg #[Ab (Mt (Mn L.d i)),Ab (Zj (Mn L.d i)),Ab (RI (Mn L.d i))],.bool (rOk L.d i (Mn L.d i))]/\Aa B w' J (Ae lg [ptr db 0,Ab L.gen,Ab L.Az,Ab L.used,us] 262::CU db kb sv pl L.d As):=by
 refine gG 0 ?_;obtain⟨sa,sc,rfl,N0,_⟩:=hS.vS 3;have HO:=Xp9 hd hi;refine gH 7 ?_;clear hS;intro b4 w hS;refine gF 0 (Xne L.d db kb sa sc pl i hd hi Cp) ?_;clear hS;rintro _ w ⟨b5,rfl,hS⟩;obtain⟨J,hJ,hR,hS⟩:=hS.Lw om;try dsimp only[List.eraseIdx]at hS
 obtain⟨bb,hbb⟩:∃bb,bb=Mn L.d i:=⟨_,O⟩
 rw[<-hbb]at hR HO;refine gG 1 ?_;obtain⟨p,WA,hp⟩:=hR.2 om;injection WA with WA
 subst WA;have Qe:=Zy (bb.getD 4 0);have qQ:=Zy (bb.getD 5 0);have dL:=Zy (bb.getD 6 0);have KG:=Zy (bb.getD 7 0);refine gQ ?_;clear hS;intro w hS;refine gH 2 (Br.y 2 (λw _ _ A6 hS=>(.Ca (v:=U8 (bb.getD 4 0).toNat) (.of O) hS ((hp.add 4).mono A6) HT (Xkf hp om))) (gH 4 (Br.y 7 (λw _ _ A6 hS=>(.Ca (v:=U8 (bb.getD 5 0).toNat) (.of O) hS ((hp.add 5).mono A6) HT (Xkf hp om))) (gH 5 (Br.y 13 (λw _ _ A6 hS=>(.Ca (v:=U8 (bb.getD 6 0).toNat) (.of O) hS ((hp.add 6).mono A6) HT (Xkf hp om))) (gH 5 (Br.y 19 (λw _ _ A6 hS=>(.Ca (v:=U8 (bb.getD 7 0).toNat) (.of O) hS ((hp.add 7).mono A6) HT (Xkf hp om))) (gH 1 (Br.y 21 (λw _ _ A6 hS=>.as (.IW (.inr (.inl O)) (.of O) (.of O)) (Y5 (Value.int .i64) (Ahe bb))) ?_)))))))));have hn9:(QD bb:Int)<4294967296:=by unfold QD;have h0:=Zy (bb.getD 4 0);have h1:=Zy (bb.getD 5 0);have h2:=Zy (bb.getD 6 0);have h3:=Zy (bb.getD 7 0);omega
 refine gH 11 ?_;clear hS;intro b8 w hS;refine gG 0 ?_;replace hS:=hS;try dsimp only[List.eraseIdx]at hS
 obtain⟨J0,GN,hq8,hS⟩:=hS.fZ 0;try dsimp only[List.eraseIdx]at hS
 have h8:At J0 (ad b8 0) [Ab (Mt bb),Ab (Zj bb),Ab (RI bb)]:=⟨O,_,_,_,hq8,λj v hj=>by unfold Mt Zj RI at hj;simpa using hj⟩
 obtain⟨a8,he8,hR8⟩:=QF (lo:=0) (hi:=8) (hR.mono GN) om om (Yd _);have hrg:0<=Mt bb/\Mt bb<262144:=by unfold Mt;omega
 have JU:sliced (some (ad b5 0)) 0 8 32 1=.slice a8 8 32:=by rw[HO]at he8;exact he8
 have hl8:(bb.take 8).length=8:=by rw[Yl];omega
 have mz:RS J0 a8 1 (bb.take 8).length (Ax (bb.take 8)):=by
  have e:Ax (bb.take 8)=((Ax bb).take (8*1)).drop (0*1):=by unfold Ax;rw[Y66];simp
  rw[hl8,e];exact hR8
 refine .dw (λw=>∃J9 R,Le J0 J9/\Aa B w J9 R) (λj=>!([].contains j)) ?_;replace hS:=hS.drew;generalize w.drew=w at hS ⊢;have hH:∃J9 R,Le J0 J9/\Aa B w J9 R:=⟨_,_,Le.refl _,hS⟩
 refine .FG (i:=0) O kr kr kr kr hH (λw ⟨J9,R,A6,hS⟩=>(.Cy (us:=[Ab (Mt bb),Ab (Zj bb),Ab (RI bb)]) (.of O) hS (h8.mono A6) xY Mi O (λ_ _ h=>h))) O (.FG (i:=1) O kr kr kr kr hH (λw ⟨J9,R,A6,hS⟩=>(.Cy (us:=[Ab (Mt bb),Ab (Zj bb),Ab (RI bb)]) (.of O) hS (h8.mono A6) xY Mi O (λ_ _ h=>h))) O (.tp 3 O (λw=>(.mo O)) (.tp 4 O (λw=>(.as (.Oy (hi:=8) (.of O) (.of O) om om Db FJ) JU)) ?_)));refine .b1 2 O (.call func236 O (Be O X4) O (Xil (Mt bb) (Zj bb) (RI bb) (by unfold Mt;omega) (by unfold Zj;omega) (by unfold RI;omega) (hV.mono (hJ.trans GN)) _ hS) ?_);clear hS;rintro hv w ⟨J1,Bn,hS⟩;obtain⟨ha9,DV,rfl,hhc,_⟩:=hS.vS 0;obtain⟨J2,Gw,P_,hS⟩:=hS.fV 0;try dsimp only[List.eraseIdx]at hS
 have AE:=Bn.trans Gw;have NR:(Nq (Mt bb) (Zj bb) (RI bb)).length=8:=by simp[Nq,sO,UR]
 rw[<-NR]at P_;refine .nil ?_;clear hH;have hH:∃J9 R,Le J0 J9/\Aa B w J9 R:=⟨_,_,AE,hS⟩
 refine⟨λ_ _=>hH,?_⟩;refine .b1 5 O ?_;refine .call func235 O (Be O (Be O X4)) O (by have h:=Xxf (Nq (Mt bb) (Zj bb) (RI bb)) (bb.take 8) ha9 a8 DV 32 om (by rw[Yl];omega) P_ (mz.mono AE) _ hS;rw[NR,hl8]at h;exact h) ?_;clear hS;rintro _ w ⟨rfl,hS⟩;refine .nil ?_;clear hH;have hH:∃J9 R,Le J0 J9/\Aa B w J9 R:=⟨_,_,AE,hS⟩
 refine⟨λ_ _=>hH,?_⟩;refine .tp 6 O (λw=>(.mo O)) (.DS (i:=7) O kr kr kr kr hH O O (λAi w ⟨J9,R,A6,hS⟩=>(by first|exact .fo 0 O qs O O BU O|exact .fi 0 O qs O O BU O)) O ?_);refine .DS (i:=8) O kr kr kr kr hH O O (λAi w ⟨J9,R,A6,hS⟩=>(.Ca (v:=Ab (Mt bb)) (.gd Ai O) hS (h8.mono A6) Cv O)) O (.DS (i:=9) O kr kr kr kr hH O O (λAi w ⟨J9,R,A6,hS⟩=>(.rem (.gd Ai O) (.of O) (ot Ai) (ot Ai))) O ?_);refine .DS (i:=10) O kr kr kr kr hH O O (λAi w ⟨J9,R,A6,hS⟩=>(.mo O)) O (.DS (i:=11) O kr kr kr kr hH O O (λAi w ⟨J9,R,A6,hS⟩=>(.eql (.gd Ai O) (.gd Ai O))) O (.tp 12 O (λw=>(.pa O O O)) (.tp 13 O (λw=>(.mo O)) ?_)));refine .DS (i:=14) O kr kr kr kr hH O O (λAi w ⟨J9,R,A6,hS⟩=>(by first|exact .fo 2 O qs O O BU O|exact .fi 2 O qs O O BU O)) O ?_;refine .DS (i:=15) O kr kr kr kr hH O O (λAi w ⟨J9,R,A6,hS⟩=>(.Ca (v:=Ab (RI bb)) (.gd Ai O) hS ((h8.mono A6).add 2) Cv O)) O (.DS (i:=16) O kr kr kr kr hH O O (λAi w ⟨J9,R,A6,hS⟩=>(.mo O)) O ?_);refine .b1 17 O ?_;have hT:=((((hS.pick 2 O).pick 2 O).pick 2 O).pick 4 O);try dsimp only[List.eraseIdx]at hT
 refine .AG (T:=λw=>Aa B w J2 (Ae lg [ptr db 0,Ab L.gen,Ab L.Az,Ab L.used,us] 262::CU db kb (.slice sa L.d.Ah.length sc) pl L.d _)) O O O func237 O (λAi=>(X5 (.gd Ai O) X4)) O (λAi=>Xfq L lg db kb us _ pl hlen hd.size _ hT) hT ?_;clear hS hT;intro w hS;refine .nil ?_;clear hH;have hH:∃J9 R,Le J0 J9/\Aa B w J9 R:=⟨_,_,AE,hS⟩
 refine⟨λ_ _=>hH,?_⟩;refine .DS (i:=18) O kr kr kr kr hH O O (λAi w ⟨J9,R,A6,hS⟩=>(.leq (.gd Ai O) (.gd Ai O))) O (.tp 19 O (λw=>(.pa O O O)) ?_);refine .b1 20 O ?_
 first|refine .so hS (k:=0) O O O O Mi O sz ?_|refine .so hS (k:=1) O O O O Mi O sz ?_|refine .so hS (k:=2) O O O O Mi O sz ?_|refine .so hS (k:=3) O O O O Mi O sz ?_|refine .so hS (k:=4) O O O O Mi O sz ?_
 clear hS;intro w hS;try dsimp only[List.set]at hS
 try simp only[RU,Ez,Yr,Kw,O5,Y57,Yj]at hS
 refine .nil ?_;clear hH;have hH:∃J9 R,Le J0 J9/\Aa B w J9 R:=⟨_,_,AE,hS⟩
 refine⟨λ_ _=>hH,?_⟩;refine .tp 21 O (λw=>(.ao O)) (.dn ?_);refine gG 0 ?_;rw[<-hbb];exact⟨J2,hJ.trans (GN.trans AE),O,hS.s⟩
end Go.Proofs.W9
namespace Gk
open Go
def kF(r:Option Nat):Fence:={ Fence.wide with round:=r }
theorem bS{r:Option Nat}{args:Array Va}(h:Calls P f args w R):CallsIn (kF r) n P f args w R :=
 ⟨trivial,λcs _=>(callsIn_wide (n:=0).2 h).2 cs (room_wide _)⟩
theorem oH{r:Option Nat}{row:String}{args:Array Va}{R:Va->Wo->Prop}(h:Rows P row args w R):RowsIn (kF r) n P row args w R :=
 λc cs _=>let⟨v,w',hr,hs⟩:=h c cs;⟨v,w',hr,stepsIn_wide.2 hs⟩
section
variable {r:Option Nat} {P:Program} {n m:Nat} {ops:Array Oper} {Q Q':Exit->Act->Wo->Prop} {K:BK} {L:AK} {w B:Wo} {I:Im} {As:La}
def Xfz(o:Oper):Bool:=match o.op with
 | .defer _=>false
 | _=>true
theorem Xoq{o:Oper}(h:Xfz o=true):∀c,o.op≠.defer c:=by
 intro c e;unfold Xfz at h;rw[e]at h;cases h
theorem Abx{o:Oper}{a:Act}{k k':Act->Wo->Prop}(hd:Xfz o=true)(hQ:¬ LetsOut Q)(hP:∀c a w,Q (.panic c) a w->Q' (.panic c) a w)(hK:∀a w,k a w->k' a w)
  (h:o.wp P a w k Q\/(o.asks P a w/\LetsOut Q)):o.wpIn (kF r) m P a w k' Q':=by
 rcases h with h|h
 ·refine⟨λ_ _=>trivial,?_⟩;rw[Oper.semAt_eq _ _ _ (Xoq hd)];unfold Oper.wp at h;generalize (execOp a.eval o).run P w=res at h ⊢;cases res with
  | ok x w' =>
   cases x<;>simp only[Oper.upon,Oper.uponIn]at h ⊢<;>
    first
     | exact hK _ _ h
     | exact⟨λh=>by simp[kF,Fence.wide]at h,CallsIn.mono (bS h) (λe TW he=>by cases e<;>first|exact hK _ _ he|exact hP _ _ _ he|exact Yy he hQ)⟩
     | exact⟨λh=>by simp[kF,Fence.wide]at h,RowsIn.mono (oH h) (λ_ _ he=>hK _ _ he)⟩
     | exact h.elim
  | halt x w'=>cases x<;>simp only[Oper.upon,Oper.uponIn]at h ⊢<;>exact hP _ _ _ h
 ·exact Yy h.2 hQ
theorem Xrw{rest:List Oper}(hQ:¬ LetsOut Q)(hP:∀c a w,Q (.panic c) a w->Q' (.panic c) a w)(hN:∀a w,Q .normal a w->wpListIn (kF r) m P ops Q' rest a w):∀(pre:List Oper) (a:Act) (w:Wo),pre.all Xfz=true->wpList P ops Q pre a w->wpListIn (kF r) m P ops Q' (pre++rest) a w
 | [],a,w,_,h=>hN a w h
 | o::pre,a,w,hd,h=>by
  simp only[Ny,Yb]at hd
  unfold wpList at h;show wpListIn (kF r) m P ops Q' (o::(pre++rest)) a w
  unfold wpListIn
  by_cases hw:Region.wanted o (yielded ops a.tmps)=true
  ·rw[Y7 hw]at h ⊢;exact Abx hd.1 hQ hP (λa w=>Xrw hQ hP hN pre a w hd.2) h
  ·rw[Y3 hw]at h ⊢;exact⟨λ_ _=>trivial,Xrw hQ hP hN pre _ _ hd.2 h⟩
def WLR(r:Option Nat)(P:Program)(n:Nat)(ops:Array Oper)(K:BK)(l:List Oper)(L:AK)(w:Wo):Prop:=∀a,Aw n L a->wpListIn (kF r) 0 P ops (UX n K) l a w
theorem WLR.pre{pre rest:List Oper}(hd:pre.all Xfz=true)(hK:∀L w,¬ K .outgrown L w)(h:WL P n ops (HZ (λL w=>WLR r P n ops K rest L w) K) pre L w):WLR r P n ops K (pre++rest) L w:=λa ha=>by
 have hq:¬ LetsOut (UX n (HZ (λL w=>WLR r P n ops K rest L w) K)):=λ⟨_,_,L',_,h⟩=>hK L' _ h
 exact Xrw (Q':=UX n K) hq (λ_ _ _ h=>h) (λa w h=>by obtain⟨L',h1,h2⟩:=h;exact h2 a h1) pre a w hd (h a ha)
theorem WL.off{o:Oper}{j t:Nat}{b:Bool}(hg:o.guard=some (j,want))(AcZ:o.dst=some d)(hj:(ops[j]?).bind (·.dst)=some t)(hb:look L t=some (.bool b))(A8:(b==want)=false)(hd:Nat.blt d n=true)
  (h:WL P n ops K rest ((d,undef)::L) w):WL P n ops K (o::rest) L w:=by
 intro a ha;refine wpList_step λK' hK=>?_
 have hy:=zL ha hj hb;have e:b≠want:=su A8
 rw[Y3 (by simp[Region.wanted,hg,hy,e]),AcZ];exact hK _ _ (h _ (ha.put hd undef))
end
end Gk
namespace Go.Proofs.W9
open Gk Ul Pc Tk Tr Xm Rq
open Tryz
theorem Ju.app{xs:List Lu}(h:Ju I xs cs){x:Lu}(hc:x.length<=c)(hR:RS I a 1 x.length (Ax x)):Ju I (xs++[x]) (cs++[.slice a x.length c]):=by
 refine⟨by rw[Y0,Y0,h.1];rfl,λi y hy=>?_⟩;rcases C5 i xs.length with hi|hi
 ·rw[Y9 hi]at hy;rw[Y9 (by rw[h.1];exact hi)];exact h.2 i y hy
 ·rw[Yq hi]at hy;rw[Yq (by rw[h.1];exact hi),h.1];cases e:i-xs.length with
  | zero=>rw[e]at hy;cases hy;exact⟨a,c,O,hc,hR⟩
  | succ k=>rw[e]at hy;simp at hy
def EB(d:Dk)(i:Int)(h:Int×Int×Int):Int×Int×Int:=if(rOk d i (Mn d i)&&decide (h.1<=Mt (Mn d i)))=true then(Mt (Mn d i),Zj (Mn d i),RI (Mn d i))else h
end Go.Proofs.W9
namespace Gk
open Go Go.ChangeMaps
abbrev D7:=Lu×Lu
def Zp:Value->List UInt8
 | .string b=>b.data.toList
 | _=>[]
theorem qi(l:Lu):Zp (S l)=l:=by simp[Zp]
def EU(e:MapEntry):D7:=(Zp e.key,Zp e.val)
def Pw(es:Array MapEntry):Prop:=∀e∈es.toList,e.key=S (EU e).1/\e.val=S (EU e).2
def rQ(es:Array MapEntry)(AZ:Nat):Prop:=(∀e∈es.toList,e.born<AZ)/\(es.toList.map (·.born)).Nodup
def AgX(b:Nat)(V:List D7):X1:=λh=>∃es AZ,Pw es/\(es.toList.map EU).Perm V/\rQ es AZ/\h=[(b,.map es AZ)]
def DJ(v:Va)(V:List D7):X1:=λh=>(v=.map none/\V=[]/\h=[])\/∃b,v=.map (some b)/\AgX b V h
def iS(v:Va)(r:Nat)(V todo:List D7)(last:Option D7):X1:=λh=>(v=.map none/\V=[]/\todo=[]/\last=none/\h=[(r,.mapIter none 0 #[] 0)])\/
 ∃b es AZ since seen c0,v=.map (some b)/\Pw es/\(es.toList.map EU).Perm V/\rQ es AZ/\(∀e∈es.toList,e.born<since)/\(since<=c0/\since<=AZ)/\((leftOf es seen).toList.map EU).Perm todo/\
  (∀p,last=some p->∃(e:MapEntry) (sn:Array Nat),e∈es.toList/\EU e=p/\seen=sn.push e.born/\c0=AZ)/\h=[(b,.map es AZ),(r,.mapIter (some b) since seen c0)]
section
variable {P:Program} {n:Nat} {K':BK} {L:AK} {w B:Wo} {ops:Array Oper} {rest:List Oper} {I:Im} {As:La} {V V':List D7} {k b:Nat} {t t' kt et ty:TypeId} {x y z:Operand} {pos:String} {af:Array Edge} {d:Nat} {g:Option (Nat×Bool)} {v:Va}
theorem P3(key:Lu):∀(es:List MapEntry) (i:Nat),(∀e∈es,e.key=S (EU e).1)->
  (key ∉ (es.map EU).map Prod.fst/\Instr.findNow .string (S key) es i=some none)\/∃j e,es[j]?=some e/\(EU e).1=key/\Instr.findNow .string (S key) es i=some (some (i+j,e.val))
 | [],_,_=>.inl ⟨by simp,O⟩
 | e::es,i,h=>by
  have h1:=h e sz;have hk:MapKept.IsKey .string e.key:=h1▸D3.is _;obtain⟨r,hr,hi⟩:=MapKept.sameNow_of_keys (D3.is key) hk;cases r with
  | true =>
   have e1:key=(EU e).1:=D3.inj _ _ ((hi.1 O).trans h1);exact .inr ⟨0,e,O,e1.symm,by simp[Instr.findNow,hr]⟩
  | false =>
   have A8:key≠(EU e).1:=λq=>by have:=hi.2 (by rw[h1,q]);cases this
   rcases P3 key es (i+1) (λe he=>h e (by simp[he]))with⟨e1,e2⟩|⟨j,e',e1,e2,e3⟩
   ·refine .inl ⟨?_,by simp[Instr.findNow,hr,e2]⟩;simp only[Yt,Yi,not_or]
    exact⟨A8,e1⟩
   ·exact .inr ⟨j+1,e',su e1,e2,by simp[Instr.findNow,hr,e3];omega⟩
theorem Xbt{l:List D7}(h:key ∉ l.map Prod.fst):l.filter (λp=>p.1 !=key)=l :=
 yy.2 λp hp=>by
  have:p.1≠key:=λe=>h (e▸sY hp)
  simpa using this
theorem Xnm{l:List D7}{j:Nat}{p:D7}(hn:(l.map Prod.fst).Nodup)(hj:l[j]?=some p)(hp:p.1=key):l.filter (λp=>p.1 !=key)=l.eraseIdx j:=by
 have h:=filter_eq_eraseIdx (λq:D7=>q.1==key) l j p hj (su hp) (by
  have h2:l.Pairwise (λa b=>a.1≠b.1):=Y5m.1 hn;exact h2.imp λA8 ⟨h3,h4⟩=>A8 (by rw[eq_of_beq h3,eq_of_beq h4]))
 rw[<-h];rfl
theorem WL.vI(hS:Aa B w I As)(hd:Nat.blt d n=true)(h:∀b w',Aa B w' I (DJ (.map (some b)) []::As)->WL P n ops K' rest ((d,.map (some b))::L) w'):WL P n ops K' (⟨some d,.makeMap t none,ty,pos,af,none⟩::rest) L w:=by
 have h2:Aa B (w.alloc (.map #[] 0)) I (DJ (.map (some w.heap.size)) []::As):=(hS.alloc (.map #[] 0)).say (k:=0) O (A':=DJ (.map (some w.heap.size)) []) λg hg=>.inr ⟨_,O,#[],0,by intro e he;simp at he,List.Perm.refl _,⟨by intro e he;simp at he,by simp⟩,hg⟩
 refine .val (v:=.map (some w.heap.size)) (λa ha=>?_) hd (h _ _ h2);have hr:=run_makeMap_plain (P:=P) w t;simp[execOp,hr]
theorem Aa.L2(hS:Aa B w I As)(hk:As[k]?=some (DJ (.map (some b)) V)):∃es AZ,Pw es/\(es.toList.map EU).Perm V/\rQ es AZ/\w.heap[b]?=some (.map es AZ)/\
  ∀mj PW V',Pw mj->(mj.toList.map EU).Perm V'->rQ mj PW->Aa B { w with heap:=w.heap.setIfInBounds b (.map mj PW) } I (As.set k (DJ (.map (some b)) V')):=by
 have Cw:k<As.length:=(Y1.1 hk).1;obtain⟨⟨⟨es,AZ⟩,h1,h2,h3⟩,BW⟩:=hS.opened (X:={ x:Array MapEntry×Nat // Pw x.1/\(x.1.toList.map EU).Perm V/\rQ x.1 x.2 }) (T:=λx=>own b (.map x.1.1 x.1.2)) hk λg hg=>by
  rcases hg with⟨h,_⟩|⟨b',h,es,AZ,h1,h2,h3,rfl⟩
  ·cases h
  ·cases h;exact⟨⟨(es,AZ),h1,h2,h3⟩,O⟩
 have hb:w.heap[b]?=some (.map es AZ):=BW.block (k:=k) (by simp[Cw]);refine⟨es,AZ,h1,h2,h3,hb,λmj PW V' e1 e2 e3=>?_⟩;have hw:=BW.write (k:=k) (b:=b) (o:=.map es AZ) (w':={ w with heap:=w.heap.setIfInBounds b (.map mj PW) }) (o':=.map mj PW) (by simp[Cw]) O O O (MapKept.heap_set hb).1 (λc hc=>(MapKept.heap_set hb).2 c hc);have hf:=hw.say (k:=k) (A:=own b (.map mj PW)) (A':=DJ (.map (some b)) V') (by simp[Cw]) λg hg=>.inr ⟨b,O,mj,PW,e1,e2,e3,hg⟩
 simpa using hf
theorem fm{val:Lu}(hS:Aa B w I As)(hk:As[k]?=some (DJ (.map (some b)) V))(hn:(V.map Prod.fst).Nodup)(hV:V'.Perm ((key,val)::V.filter λp=>p.1 !=key))(ht:P.underlying t=some (.map kt et))(LO:P.underlying kt=some .string):∃w',(Instr.mapUpdate t (.map (some b)) (S key) (S val)).run P w=.ok () w'/\Aa B w' I (As.set k (DJ (.map (some b)) V')):=by
 obtain⟨es,AZ,h1,h2,h3,hb,vr⟩:=hS.L2 hk;have hc:(Instr.checkKey false 10000 kt (S key)).run P w=.ok () w:=MapKept.run_checkKey LO (D3.is key) _ 9999;have My:((es.toList.map EU).map Prod.fst).Nodup:=(h2.map Prod.fst).nodup_iff.2 hn;rcases P3 key es.toList 0 (λe he=>(h1 e he).1)with⟨AL,hf⟩|⟨j,e,hj,hke,hf⟩
 ·refine⟨_,?_,vr (es.push { key:=S key,val:=S val,born:=AZ }) (AZ+1) V' ?_ ?_ ?_⟩
  ·simp[Instr.mapUpdate,run_underlying ht,MapKept.run_getObj_map hb,hc,MapKept.run_findKey LO hf,MapKept.run_setObj_map _ hb,Result.andThen]
  ·intro e he;rw[yA]at he;rcases Yn.1 he with he|he
   ·exact h1 e he
   ·simp at he;subst he;exact⟨by show S key=S (Zp (S key));rw[qi],by show S val=S (Zp (S val));rw[qi]⟩
  ·rw[yA,Ym];refine List.Perm.trans ?_ hV.symm;have e1:V.filter (λp=>p.1 !=key)=V:=Xbt λhm=>AL ((h2.map Prod.fst).mem_iff.2 hm)
   rw[e1];show((es.toList.map EU)++[(Zp (S key),Zp (S val))]).Perm _
   rw[qi,qi];exact(List.perm_append_singleton _ _).trans (h2.cons _)
  ·refine⟨λe he=>?_,?_⟩
   ·rw[yA]at he;rcases Yn.1 he with he|he
    ·have:=h3.1 e he;omega
    ·simp at he;subst he;exact Nat.lt_succ_self _
   ·rw[yA,Ym,Y5l];refine⟨h3.2,by simp,λa ha c hc=>?_⟩;simp at hc
    obtain⟨e,he,rfl⟩:=Fg.1 ha
    have:=h3.1 e he;omega
 ·rw[Yj]at hf;have ER:j<es.size:=by have:=(Y1.1 hj).1;simpa using this
  have hej:es[j]?=some e:=by rw[<-lu];exact hj
  have hks:e.key=S key:=by rw[(h1 e (Y6 hj)).1,hke]
  have mV:(es.modify j λe=>{ e with key:=S key,val:=S val }).toList=es.toList.set j { e with key:=S key,val:=S val }:=by
   refine U7 λi=>?_
   rw[lu,Y3j,yB]
   by_cases hi:j=i
   ·subst hi;rw[Y7 O,Y7 O,Y7 (su ER),hej];rfl
   ·rw[Y3 hi,Y3 hi,lu]
  refine⟨_,?_,vr (es.modify j λe=>{ e with key:=S key,val:=S val }) AZ V' ?_ ?_ ?_⟩
  ·have hsb:Instr.sameBits 10000 (S key) (S key)=true:=by show((⟨key.toArray⟩:ByteArray)==⟨key.toArray⟩)=true;exact beq_self_eq_true (α:=Array Ui) _
   simp[Instr.mapUpdate,run_underlying ht,MapKept.run_getObj_map hb,hc,MapKept.run_findKey LO hf,MapKept.run_setObj_map _ hb,Result.andThen,hej,Instr.keyThatStays,hks,hsb]
  ·intro e' he;rw[mV]at he;rcases Y3m he with he|he
   ·exact h1 e' he
   ·subst he;exact⟨by show S key=S (Zp (S key));rw[qi],by show S val=S (Zp (S val));rw[qi]⟩
  ·rw[mV,Y61];refine List.Perm.trans ?_ hV.symm;show((es.toList.map EU).set j (Zp (S key),Zp (S val))).Perm _
   rw[qi,qi];have e2:(es.toList.map EU)[j]?=some (EU e):=by rw[Ys,hj];rfl
   have e3:=Xnm My e2 hke;have e4:(V.filter λp=>p.1 !=key).Perm ((es.toList.map EU).eraseIdx j):=by rw[<-e3];exact(h2.filter _).symm
   refine List.Perm.trans ?_ ((e4.symm).cons _);have hl:j<(es.toList.map EU).length:=su ER
   have e5:(es.toList.map EU).set j (key,val)=(es.toList.map EU).take j++(key,val)::(es.toList.map EU).drop (j+1):=List.set_eq_take_append_cons_drop .. |>.trans (Y7 hl);rw[e5,List.eraseIdx_eq_take_drop_succ];exact Y51
  ·refine⟨λe' he=>?_,?_⟩
   ·rw[mV]at he;rcases Y3m he with he|he
    ·exact h3.1 e' he
    ·subst he;exact h3.1 e (Y6 hj)
   ·rw[mV,Y61];have e6:(es.toList.map (·.born))[j]?=some e.born:=by rw[Ys,hj];rfl
    obtain⟨e7,e8⟩:=Y1.1 e6;show((es.toList.map (·.born)).set j e.born).Nodup
    rw[<-e8,sU];exact h3.2
theorem WL.rF{val:Lu}(hS:Aa B w I As)(hk:As[k]?=some (DJ (.map (some b)) V))(hx:Ev n L x (.map (some b)))(hy:Ev n L y (S key))(hz:Ev n L z (S val))(hn:(V.map Prod.fst).Nodup)(hV:V'.Perm ((key,val)::V.filter λp=>p.1 !=key))(ht:P.underlying t=some (.map kt et))(LO:P.underlying kt=some .string)
  (h:∀w',Aa B w' I (As.set k (DJ (.map (some b)) V'))->WL P n ops K' rest L w'):WL P n ops K' (⟨none,.mapUpdate t x y z,ty,pos,af,none⟩::rest) L w:=by
 obtain⟨w',hr,C9⟩:=fm hS hk hn hV ht LO;refine .st (w':=w') (λa ha=>?_) (h _ C9);simp[execOp,hx a ha,hy a ha,hz a ha,hr]
theorem fh(hS:Aa B w I As)(hk:As[k]?=some (DJ (.map (some b)) V))(hn:(V.map Prod.fst).Nodup)(hV:V'.Perm (V.filter λp=>p.1 !=key))(ht:P.underlying t=some (.map kt et))(LO:P.underlying kt=some .string):∃w',(Builtin.delete_ #[t,t'] ty #[.map (some b),S key]).run P w=.ok (.tuple #[]) w'/\Aa B w' I (As.set k (DJ (.map (some b)) V')):=by
 obtain⟨es,AZ,h1,h2,h3,hb,vr⟩:=hS.L2 hk;have hc:(Instr.checkKey es.isEmpty 10000 kt (S key)).run P w=.ok () w:=MapKept.run_checkKey LO (D3.is key) _ 9999;have My:((es.toList.map EU).map Prod.fst).Nodup:=(h2.map Prod.fst).nodup_iff.2 hn;rcases P3 key es.toList 0 (λe he=>(h1 e he).1)with⟨AL,hf⟩|⟨j,e,hj,hke,hf⟩
 ·refine⟨_,?_,vr es AZ V' h1 ?_ h3⟩
  ·simp[Builtin.delete_,run_underlying ht,MapKept.run_getObj_map hb,hc,MapKept.run_findKey LO hf,MapKept.run_setObj_map _ hb,Result.andThen]
  ·have e1:V.filter (λp=>p.1 !=key)=V:=Xbt λhm=>AL ((h2.map Prod.fst).mem_iff.2 hm)
   rw[e1]at hV;exact h2.trans hV.symm
 ·rw[Yj]at hf;have her:(es.eraseIdxIfInBounds j).toList=es.toList.eraseIdx j:=by simp
  refine⟨_,?_,vr (es.eraseIdxIfInBounds j) AZ V' ?_ ?_ ?_⟩
  ·simp[Builtin.delete_,run_underlying ht,MapKept.run_getObj_map hb,hc,MapKept.run_findKey LO hf,MapKept.run_setObj_map _ hb,Result.andThen]
  ·intro e' he;rw[her]at he;exact h1 e' (Y5k he)
  ·rw[her,map_eraseIdx];have e2:(es.toList.map EU)[j]?=some (EU e):=by rw[Ys,hj];rfl
   rw[<-Xnm My e2 hke];exact(h2.filter _).trans hV.symm
  ·refine⟨λe' he=>?_,?_⟩
   ·rw[her]at he;exact h3.1 e' (Y5k he)
   ·rw[her,map_eraseIdx];exact h3.2.sublist (List.eraseIdx_sublist ..)
theorem WL.Abq(hS:Aa B w I As)(hk:As[k]?=some (DJ (.map (some b)) V))(hx:Ev n L x (.map (some b)))(hy:Ev n L y (S key))(hn:(V.map Prod.fst).Nodup)(hV:V'.Perm (V.filter λp=>p.1 !=key))(ht:P.underlying t=some (.map kt et))(LO:P.underlying kt=some .string)
  (h:∀w',Aa B w' I (As.set k (DJ (.map (some b)) V'))->WL P n ops K' rest L w'):WL P n ops K' (⟨none,.call ⟨.builtin .delete,#[x,y],#[t,t']⟩,ty,pos,af,none⟩::rest) L w:=by
 obtain⟨w',hr,C9⟩:=fh (ty:=ty) (t':=t') hS hk hn hV ht LO;intro a ha;refine wpList_plain O λK'' hK=>?_
 unfold Oper.wp;have he:(execOp a.eval (⟨none,.call ⟨.builtin .delete,#[x,y],#[t,t']⟩,ty,pos,af,none⟩:Oper)).run P w=.ok (.value (.tuple #[])) w':=by
  simp[execOp,resolve,invoke,builtin,hx a ha,hy a ha,hr]
 rw[he];exact hK _ _ (h _ C9 _ ha)
theorem WL.fS(hS:Aa B w I As)(hk:As[k]?=some (DJ v V))(hx:Ev n L x v)(ht:P.underlying t=some (.map kt et))(hd:Nat.blt d n=true)
  (h:∀r w',Aa B w' I (As.set k (iS v r V V none))->WL P n ops K' rest ((d,ptr r 0)::L) w'):WL P n ops K' (⟨some d,.range t x,ty,pos,af,none⟩::rest) L w:=by
 have Cw:k<As.length:=(Y1.1 hk).1;have hp:v=.map none\/∃b,v=.map (some b):=hS.D5 hk λg hg=>by
  rcases hg with⟨h,_⟩|⟨b,h,_⟩
  ·exact .inl h
  ·exact .inr ⟨b,h⟩
 rcases hp with rfl|⟨b,rfl⟩
 ·have hr:=run_range_nilMap (P:=P) w t kt et ht;have BW:=hS.say (k:=k) (A':=Ao [DJ (.map none) V]) hk λg hg=>⟨g,[],by simp,hg,O⟩
  have Bo:=(BW.alloc (.mapIter none 0 #[] 0)).push (k:=k) (Bs:=[DJ (.map none) V]) (by simp[Cw]);rw[lC]at Bo;refine .val (w':=w.alloc (.mapIter none 0 #[] 0)) (v:=ptr w.heap.size 0) (λa ha=>?_) hd (h w.heap.size _ ?_)
  ·simp[execOp,hx a ha,hr]
  ·have:=Bo.say (k:=k) (A:=Ao ([DJ (.map none) V]++[own w.heap.size (.mapIter none 0 #[] 0)])) (A':=iS (.map none) w.heap.size V V none) (by simp[Cw]) λg hg=>by
    obtain⟨g1,g2,rfl,ha,hb⟩:=hg;obtain⟨g3,g4,rfl,hc,hd⟩:=hb;rcases ha with⟨_,hV,rfl⟩|⟨b,h,_⟩
    ·have e1:g3=_:=hc;have e2:g4=[]:=hd;subst e1;subst e2;exact .inl ⟨O,hV,hV,O,O⟩
    ·cases h
   simpa using this
 ·obtain⟨es,AZ,h1,h2,h3,hb,vr⟩:=hS.L2 hk;have hr:=run_range_map (P:=P) w t kt et b es AZ ht hb;obtain⟨⟨⟨es2,Ab4⟩,q1,q2,q3⟩,Bh⟩:=hS.opened (X:={ x:Array MapEntry×Nat // Pw x.1/\(x.1.toList.map EU).Perm V/\rQ x.1 x.2 }) (T:=λx=>own b (.map x.1.1 x.1.2)) hk λg hg=>by
   rcases hg with⟨h,_⟩|⟨b',h,es,AZ,h1,h2,h3,rfl⟩
   ·cases h
   ·cases h;exact⟨⟨(es,AZ),h1,h2,h3⟩,O⟩
  have LF:w.heap[b]?=some (.map es2 Ab4):=Bh.block (k:=k) (by simp[Cw]);rw[hb]at LF;injection LF with LF
  injection LF with e1 e2
  subst e1;subst e2;have BW:=Bh.say (k:=k) (A:=own b (.map es AZ)) (A':=Ao [own b (.map es AZ)]) (by simp[Cw]) λg hg=>⟨g,[],by simp,hg,O⟩
  rw[lC]at BW;have Bo:=(BW.alloc (.mapIter (some b) AZ #[] AZ)).push (k:=k) (Bs:=[own b (.map es AZ)]) (by simp[Cw]);rw[lC]at Bo;refine .val (w':=w.alloc (.mapIter (some b) AZ #[] AZ)) (v:=ptr w.heap.size 0) (λa ha=>?_) hd (h w.heap.size _ ?_)
  ·simp[execOp,hx a ha,hr]
  ·have:=Bo.say (k:=k) (A:=Ao ([own b (.map es AZ)]++[own w.heap.size (.mapIter (some b) AZ #[] AZ)])) (A':=iS (.map (some b)) w.heap.size V V none) (by simp[Cw]) λg hg=>by
    obtain⟨g1,g2,rfl,ha,hb⟩:=hg;obtain⟨g3,g4,rfl,hc,hd⟩:=hb;have e0:g1=_:=ha;have e1:g3=_:=hc;have e2:g4=[]:=hd;subst e0;subst e1;subst e2;exact .inr ⟨b,es,AZ,AZ,#[],AZ,O,h1,h2,h3,h3.1,⟨Yd _,Yd _⟩,(show(leftOf es #[]).toList=es.toList by simp[leftOf])▸h2,λp hp=>(by cases hp),O⟩
   simpa using this
theorem Xp0:∀{l:List MapEntry} {e:MapEntry},(l.map (·.born)).Nodup->e∈l->l.Perm (e::l.filter λx=>!(x.born==e.born))
 | [],e,_,h=>by simp at h
 | x::l,e,hn,h=>by
  simp only[Yt,qI]at hn
  rcases Yi.1 h with rfl|h
  ·have:(e::l).filter (λx=>!(x.born==e.born))=l:=by
    rw[Ln,Y3 sz];exact yy.2 λy hy=>by
     have:y.born≠e.born:=λq=>hn.1 (q▸sY hy)
     simpa using this
   rw[this]
  ·have A8:x.born≠e.born:=λq=>hn.1 (q▸sY h)
   rw[Ln,Y7 (su A8)];exact((Xp0 hn.2 h).cons x).trans (List.Perm.swap _ _ _)
theorem W6{es:Array MapEntry}{seen:Array Nat}{e:MapEntry}(hn:(es.toList.map (·.born)).Nodup)(he:e∈(leftOf es seen).toList):(leftOf es seen).toList.Perm (e::(leftOf es (seen.push e.born)).toList):=by
 have e1:∀sn:Array Nat,(leftOf es sn).toList=es.toList.filter λx=>!sn.contains x.born:=λsn=>by simp[leftOf]
 have e2:(leftOf es (seen.push e.born)).toList=(leftOf es seen).toList.filter λx=>!(x.born==e.born):=by
  rw[e1,e1,List.filter_filter];refine List.filter_congr λx _=>?_
  rw[contains_push,Bool.not_or,Bool.and_comm]
 rw[e2];refine Xp0 ?_ he;rw[e1];exact hn.sublist (Y4k.map _)
theorem WL.rH{r:Nat}{todo:List D7}{last:Option D7}(hS:Aa B w I As)(hk:As[k]?=some (iS v r V todo last))(hx:Ev n L x (ptr r 0))(hd:Nat.blt d n=true)
  (h0:todo=[]->WL P n ops K' rest ((d,.tuple #[.bool false])::L) w)
  (h1:∀p rN w',todo.Perm (p::rN)->Aa B w' I (As.set k (iS v r V rN (some p)))->WL P n ops K' rest ((d,.tuple #[.bool true,S p.1,S p.2])::L) w'):WL P n ops K' (⟨some d,.next x false,ty,pos,af,none⟩::rest) L w:=by
 have Cw:k<As.length:=(Y1.1 hk).1;have hp:(v=.map none)\/∃b,v=.map (some b):=hS.D5 hk λg hg=>by
  rcases hg with⟨h,_⟩|⟨b,es,AZ,since,seen,c0,h,_⟩
  ·exact .inl h
  ·exact .inr ⟨b,h⟩
 rcases hp with rfl|⟨b,rfl⟩
 ·obtain⟨⟨u,hu⟩,BW⟩:=hS.opened (X:={ x:Unit // todo=[] }) (T:=λx=>own r (.mapIter none 0 #[] 0)) hk λg hg=>by
   rcases hg with⟨_,hV,ht,_,h⟩|⟨b,es,AZ,since,seen,c0,h,_⟩
   ·exact⟨⟨(),ht⟩,h⟩
   ·cases h
  have hb:w.heap[r]?=some (.mapIter none 0 #[] 0):=BW.block (k:=k) (by simp[Cw]);refine .val (v:=.tuple #[.bool false]) (λa ha=>?_) hd (h0 hu);have hr:(Instr.next (ptr r 0) false ty).run P w=.ok (.tuple #[.bool false]) w:=by
   simp[Instr.next,getObj,Sem.run_bind,Sem.run,hb,Result.andThen]
  simp[execOp,hx a ha,hr]
 ·obtain⟨⟨⟨es,AZ,since,seen,c0⟩,q1,q2,q3,q4,q5,q6⟩,BW⟩:=hS.opened (X:={ x:Array MapEntry×Nat×Nat×Array Nat×Nat // Pw x.1/\(x.1.toList.map EU).Perm V/\rQ x.1 x.2.1/\(∀e∈x.1.toList,e.born<x.2.2.1)/\(x.2.2.1<=x.2.2.2.2/\x.2.2.1<=x.2.1)/\((leftOf x.1 x.2.2.2.1).toList.map EU).Perm todo })
    (T:=λx=>Ao [own b (.map x.1.1 x.1.2.1),own r (.mapIter (some b) x.1.2.2.1 x.1.2.2.2.1 x.1.2.2.2.2)]) hk λg hg=>by
   rcases hg with⟨h,_⟩|⟨b',es,AZ,since,seen,c0,h,q1,q2,q3,q4,q5,q6,q7,rfl⟩
   ·cases h
   ·cases h;exact⟨⟨(es,AZ,since,seen,c0),q1,q2,q3,q4,q5,q6⟩,[(b,.map es AZ)],[(r,.mapIter (some b) since seen c0)],O,O,_,[],by simp,O,O⟩
  dsimp only at q1 q2 q3 q4 q5 q6 BW
  have Bo:=BW.pop (k:=k) (Bs:=[own b (.map es AZ)]) (A:=own r (.mapIter (some b) since seen c0)) (by simp[Cw]);rw[lC]at Bo;have vh:w.heap[r]?=some (.mapIter (some b) since seen c0):=Bo.block (k:=0) O;have y5:w.heap[b]?=some (.map es AZ):=by
   have h9:=Bo.say (k:=k+1) (A:=Ao [own b (.map es AZ)]) (A':=own b (.map es AZ)) (by simp[Cw]) λg ⟨g1,g2,e,ha,hb⟩=>by
    have:g2=[]:=hb
    subst this;rw[Yr]at e;subst e;exact ha
   exact h9.block (k:=k+1) (by simp[Cw])
  rcases run_next_at (P:=P) w ty r b since c0 seen es AZ vh y5 q4 q5.1 with⟨hz,DR⟩|⟨e,he,w1,Gg,DR⟩
  ·have ht:todo=[]:=by
    have:(leftOf es seen).toList=[]:=Yf (su hz)
    rw[this]at q6;exact List.nil_perm.1 q6
   refine .val (v:=.tuple #[.bool false]) (λa ha=>?_) hd (h0 ht);simp[execOp,hx a ha,DR]
  ·have LD:Aa B w1 I (own r (.mapIter (some b) since seen c0)::As.set k (Ao [own b (.map es AZ)])):=by
    rcases Gg with rfl|rfl
    ·exact Bo
    ·exact Bo.drew
   have vi:w1.heap[r]?=some (.mapIter (some b) since seen c0):=LD.block (k:=0) O;have HO:r<w1.heap.size:=(Ll.1 vi).1;have yZ:=LD.write (k:=0) (b:=r) (o':=.mapIter (some b) since (seen.push e.born) AZ) (w':=setBlock w1 r (.mapIter (some b) since (seen.push e.born) AZ)) O O O O (by
    show(w1.heap.setIfInBounds r _)[r]?=_
    simp[Y2s,HO]) (λc hc=>by
    show(w1.heap.setIfInBounds r _)[c]?=_
    simp[Y3p (Ne.symm hc)])
   have hS5:=Aa.push (A:=own r (.mapIter (some b) since (seen.push e.born) AZ)) (As:=As.set k (Ao [own b (.map es AZ)])) (k:=k) (Bs:=[own b (.map es AZ)]) yZ (by simp[Cw]);rw[lC]at hS5;have hle:=W6 q3.2 he;have hee:e∈es.toList:=(mem_left he).1;have hS6:=hS5.say (k:=k) (A:=Ao ([own b (.map es AZ)]++[own r (.mapIter (some b) since (seen.push e.born) AZ)])) (A':=iS (.map (some b)) r V ((leftOf es (seen.push e.born)).toList.map EU) (some (EU e))) (by simp[Cw]) λg hg=>by
    obtain⟨g1,g2,rfl,ha,hb⟩:=hg;obtain⟨g3,g4,rfl,hc,hd⟩:=hb;have e0:g1=_:=ha;have e1:g3=_:=hc;have e2:g4=[]:=hd;subst e0;subst e1;subst e2;exact .inr ⟨b,es,AZ,since,seen.push e.born,AZ,O,q1,q2,q3,q4,⟨q5.2,q5.2⟩,List.Perm.refl _,λp hp=>(by cases hp;exact⟨e,seen,hee,O,O,O⟩),O⟩
   rw[lC]at hS6;have GC:todo.Perm (EU e::(leftOf es (seen.push e.born)).toList.map EU):=q6.symm.trans (hle.map EU);have hg:=h1 (EU e) _ _ GC hS6;have O8:=q1 e hee;rw[<-O8.1,<-O8.2]at hg;refine .val (v:=.tuple #[.bool true,e.key,e.val]) (λa ha=>?_) hd hg;simp[execOp,hx a ha,DR]
theorem Ex.cQ{d:Option Nat}{r:Nat}{todo:List D7}{p:D7}(hS:Aa B w I As)(hk:As[k]?=some (iS v r V todo (some p)))(hx:Ev n L x (ptr r 0)):Ex P n L w ⟨d,.entry x,ty,pos,af,g⟩ (.tuple #[S p.1,S p.2]) w:=λa ha=>by
 obtain⟨gh,hs,hg⟩:=hS;obtain⟨g1,g2,hp,hA,_⟩:=hs.at_ hk;rcases hA with⟨h,hV,ht,h0,_⟩|⟨b,es,AZ,since,seen,c0,h,q1,q2,q3,q4,q5,q6,q7,rfl⟩
 ·cases h0
 ·have hG:=hg.perm hp;have y5:w.heap[b]?=some (.map es AZ):=hG.own b _ sz;obtain⟨e,sn,he,rfl,rfl,rfl⟩:=q7 p O;have vh:w.heap[r]?=some (.mapIter (some b) since (sn.push e.born) c0):=hG.own r _ sz;have DR:=run_entry_at (P:=P) w r b since sn es c0 e vh y5 he q3.2;have O8:=q1 e he;rw[O8.1,O8.2]at DR;simp[execOp,hx a ha,DR]
theorem Aa.f_{r:Nat}{todo:List D7}{last:Option D7}(hS:Aa B w I As)(hk:As[k]?=some (iS v r V todo last)):Aa B w I (As.set k (DJ v V)):=by
 have Cw:k<As.length:=(Y1.1 hk).1;have hp:(v=.map none)\/∃b,v=.map (some b):=hS.D5 hk λg hg=>by
  rcases hg with⟨h,_⟩|⟨b,es,AZ,since,seen,c0,h,_⟩
  ·exact .inl h
  ·exact .inr ⟨b,h⟩
 have BW:=hS.say (k:=k) (A':=Ao ([DJ v V]++[λh=>∃o,h=[(r,o)]])) hk λg hg=>by
  rcases hg with⟨h,hV,ht,_,rfl⟩|⟨b,es,AZ,since,seen,c0,h,q1,q2,q3,q4,q5,q6,q7,rfl⟩
  ·exact⟨[],[(r,.mapIter none 0 #[] 0)],O,.inl ⟨h,hV,O⟩,[(r,.mapIter none 0 #[] 0)],[],by simp,⟨.mapIter none 0 #[] 0,O⟩,O⟩
  ·exact⟨[(b,.map es AZ)],[(r,.mapIter (some b) since seen c0)],O,.inr ⟨b,h,es,AZ,q1,q2,q3,O⟩,[(r,.mapIter (some b) since seen c0)],[],by simp,⟨.mapIter (some b) since seen c0,O⟩,O⟩
 have Bo:=(BW.pop (k:=k) (Bs:=[DJ v V]) (A:=λh=>∃o,h=[(r,o)]) (by simp[Cw])).drop (k:=0) O;simp only[Y5t,lC]at Bo
 have LD:=Bo.say (k:=k) (A:=Ao [DJ v V]) (A':=DJ v V) (by simp[Cw]) λg ⟨g1,g2,e,ha,hb⟩=>by
  have:g2=[]:=hb
  subst this;rw[Yr]at e;subst e;exact ha
 simpa using LD
theorem ff(hS:Aa B w I As):Aa B w I (DJ (.map none) []::As):=by
 obtain⟨g,hs,hg⟩:=hS;exact⟨g,⟨[],g,O,.inl ⟨O,O,O⟩,hs⟩,hg⟩
theorem Ex.Vu{d:Option Nat}{l:Lu}(hx:Ev n L x (.slice a l.length cap))(hS:Aa B w I As)(hR:RS I a 1 l.length (Ax l))(hs:P.underlying src=some (.slice E))(he:P.underlying E=some (.int .u8))(hd:P.underlying dst=some .string):Ex P n L w ⟨d,.convert src dst x,ty,pos,af,g⟩ (S l) w:=by
 cases a with
 | some p =>
  intro a hh;have h:=run_convert_bytes_back (P:=P) w src dst E p cap l hs he hd (λj hj=>by
   obtain⟨q,hq,hA⟩:=hR.2 om;cases hq
   exact Pz hS hA (by simp[Ax,hj]))
  simp[execOp,hx a hh,h]
 | none =>
  have h0:l=[]:=by
   cases l with
   | nil=>rfl
   | cons c l=>obtain⟨q,hq,_⟩:=hR.2 sz;cases hq
  subst h0;intro a hh;have hv:=hx a hh;have h:=run_convert_bytes_string (P:=P) w src dst E none 0 cap hs he hd;have h2:(Conv.bytesToString (.slice none 0 cap)).run P w=.ok (S []) w:=rfl;rw[h2]at h;have HP:a.eval x=.slice none 0 cap:=hv;simp[execOp,HP,h]
end
open Go.Sort Go.Proofs
section
variable {α:Type} [Inhabited α] {B w:Wo} {I:Im} {As:La} {AD:α->Lv} {s:Nat}
theorem Xnq(hk:∀x,(AD x).length=s)(hs:0<s)(d:Array α):(flatK AD s d).toList=X2 AD d.toList:=by
 refine U7 λt=>?_
 rcases C5 t (d.size*s)with ht|ht
 ·have hq:t/s<d.size:=Nat.div_lt_of_lt_mul (by rwa[lD]at ht);have hr:t%s<s:=yN _ hs;have h1:d.toList[t/s]?=some d[t/s]:=by simp[hq]
  have h2:(AD d[t/s])[t%s]?=some (AD d[t/s])[t%s]! := by
   have:t%s<(AD d[t/s]).length:=by rw[hk];exact hr
   rw[Y2 this,List.getElem!_eq_getElem?_getD,Y2 this];rfl
  have h3:=zQ hk h1 h2;rw[Nat.div_add_mod' t s]at h3;rw[h3,lu,O2 (su ht)]
  congr 1
  simp[flatK,hq]
 ·rw[jr (by rw[Zu,size_flatK];exact ht),jr (by rw[zR hk];simpa using ht)]
theorem Aa.grow(os:List Obj):∀{w:Wo},Aa B w I As->Aa B (Go.Sort.grow w os.toArray) I As:=by
 induction os with
 | nil=>intro w h;simpa[Go.Sort.grow]using h
 | cons o os ih =>
  intro w h;have h1:=ih ((h.alloc o).drop (k:=0) O);have e:Go.Sort.grow (w.alloc o) os.toArray=Go.Sort.grow w (o::os).toArray:=by
   have e2:w.heap.push o++os.toArray=w.heap++(o::os).toArray:=by
    apply Array.toList_inj.mp
    simp only[Array.toList_append,yA,Yc]
    rfl
   show({ w with heap:=w.heap.push o++os.toArray }:Wo)={ w with heap:=w.heap++(o::os).toArray }
   rw[e2]
  rw[<-e];exact h1
theorem Aa.iJ{E:Nat}{a:Addr}(hS:Aa B w I As)(hv:As[k]?=some (Ar E s (.slice (some a) n c) n xs)):∃(b:Nat) (r:Lv),a=⟨b,0,none⟩/\n<=c/\c<=maxLen/\xs.length=n*s/\xs.length+r.length=c*s/\Aa B w I (As.set k (Ae b (xs++r) E)):=by
 obtain⟨g,hs,hg⟩:=hS;obtain⟨h1,h2,hp,⟨hl,ha⟩,BA,_⟩:=hs.at_ hv;rcases ha with⟨h0,_,_⟩|⟨b,cap,rest,h0,rfl,h3,h4,h5⟩
 ·cases h0
 ·obtain⟨h',F6,F0⟩:=BA (Ae b (xs++rest) E) _ O;cases h0
  exact⟨b,rest,O,h3,h4,hl,h5,h',F6,hg.perm (hp.trans F0.symm)⟩
theorem Aa.gO{E:Nat}{a:Addr}{l:List α}(hk:∀x,(AD x).length=s)(hs:0<s)(hS:Aa B w I As)(hn:l.length=n)(hv:As[k]?=some (Ar E s (.slice (some a) n c) n (X2 AD l))):∃g,a=⟨g,0,none⟩/\g<w.heap.size/\HoldsK AD s w g 0 l.toArray/\∀(m:Nat) (d:Array α) (os:Array Obj),d.size=n->Aa B (sortWorldK AD s w g 0 m d os) I (As.set k (Ar E s (.slice (some a) n c) n (X2 AD d.toList))):=by
 obtain⟨g,r,rfl,h1,h2,h3,h4,BW⟩:=hS.iJ hv;have Cw:k<As.length:=(Y1.1 hv).1;have hb:w.heap[g]?=some (Xi (X2 AD l++r) E):=BW.block (k:=k) (by simp[Cw,Ae]);have hg:g<w.heap.size:=(Ll.1 hb).1;refine⟨g,O,hg,λj hj=>?_,λm d os hd=>?_⟩
 ·rw[size_flatK]at hj;have O6:j<(X2 AD l).length:=by rw[zR hk];simpa using hj
  have e:(flatK AD s l.toArray)[j]! = (X2 AD l)[j]:=by
   have h9:=Y5 (λq=>q[j]?) (Xnq hk hs l.toArray);simp only[lu,Y2 O6]at h9
   rw[getElem!_def,h9]
  constructor
  ·show w.cell? ⟨g,0+j,none⟩=_
   simp only[World.cell?,hb,Xi,Yj]
   rw[e];simp[Y9 O6,O6]
  ·show w.frozen? ⟨g,0+j,none⟩=_
   simp[World.frozen?,hb,Xi]
 ·have hlen:(X2 AD d.toList).length=n*s:=by rw[zR hk];simp[hd]
  have BM:putCells id 0 (flatK AD s d) (X2 AD l++r).toArray=(X2 AD d.toList++r).toArray:=by
   refine Array.ext_getElem? λt=>?_
   simp only[putCells,Array.getElem?_mapIdx,Y49,Yj,yM,id,Y4,true_and,size_flatK]
   have NT:=Xnq hk hs d;rcases C5 t (d.size*s)with ht|ht
   ·have h8:t<(X2 AD l).length:=by rw[h3,<-hd];exact ht
    have h7:t<(X2 AD d.toList).length:=by rw[hlen,<-hd];exact ht
    rw[Y9 h8,Y9 h7,Y2 h8,s7,Y7 ht];have h9:=Y5 (λq=>q[t]?) NT;simp only[lu]at h9
    rw[getElem!_def,h9,Y2 h7]
   ·have h8:(X2 AD l).length<=t:=by rw[h3,<-hd];exact ht
    have h7:(X2 AD d.toList).length<=t:=by rw[hlen,<-hd];exact ht
    rw[Yq h8,Yq h7,h3,hlen];cases r[t-n*s]? with
    | none=>rfl
    | some v=>simp[show ¬ t<d.size*s by omega]
  have Bo:Aa B (Go.Sort.ahead w m) I (As.set k (Ae g (X2 AD l++r) E)):=BW.world O O O O;have LD:=Bo.write (k:=k) (b:=g) (o:=Xi (X2 AD l++r) E) (o':=Xi (X2 AD d.toList++r) E) (w':=putRowK AD s (Go.Sort.ahead w m) g 0 d) (by simp[Cw,Ae]) O O O (by
   show((Go.Sort.ahead w m).heap.modify g (onCells (putCells id 0 (flatK AD s d))))[g]?=_
   rw[Y3j,Y7 O];show(w.heap[g]?).map _=_
   rw[hb];simp only[s7,Xi,onCells,BM]) (λc hc=>by
   show((Go.Sort.ahead w m).heap.modify g (onCells (putCells id 0 (flatK AD s d))))[c]?=_
   rw[Y3j,Y3 (Ne.symm hc)])
  have yZ:=LD.Bm (k:=k) (g:=g) (cap:=c) (rest:=r) (xs:=X2 AD d.toList) (n:=n) (E:=E) (size:=s) (by simp[Cw,Ae]) h1 h2 hlen (by rw[hlen,<-h3];exact h4);rw[lC,lC]at yZ;have h9:=Aa.grow os.toList yZ;unfold sortWorldK;simpa using h9
end
end Gk
open Go Gk
variable {V:List D7}
namespace Rq
open Gk Go Go.Lib Go.Proofs Go.Sort
def GH(a b:Lu):Bool:=decide (compareBytes a b<0)
theorem pK:∀a:Lu,GH a a=false
 | []=>rfl
 | x::a=>by have:=pK a;unfold GH at this ⊢;simp[compareBytes];simpa using this
theorem Xus(x y:Ui)(a b:Lu):GH (x::a) (y::b)=(decide (x<y)||(x==y&&GH a b)):=by
 unfold GH;rw[compareBytes]
 by_cases h:x<y
 ·simp[h]
 ·by_cases h2:y<x
  ·have:x≠y:=λe=>by subst e;exact Yy h2 h
   simp[h,h2,this]
  ·have e:x=y:=UInt8.le_antisymm (Y63.1 h2) (Y63.1 h);subst e
   simp
theorem Xfw(a:Lu):GH a []=false:=by cases a<;>rfl
theorem rZ:∀a b c:Lu,GH a b=true->GH b c=true->GH a c=true
 | [],b,c,h1,h2=>by
  cases c with
  | nil=>rw[Xfw]at h2;cases h2
  | cons z c=>rfl
 | x::a,[],c,h1,h2=>by rw[Xfw]at h1;cases h1
 | x::a,y::b,[],h1,h2=>by rw[Xfw]at h2;cases h2
 | x::a,y::b,z::c,h1,h2=>by
  rw[Xus]at *;simp only[PM,Yb,dq1,beq_iff_eq]at *
  rcases h1 with h1|⟨rfl,h1⟩
  ·rcases h2 with h2|⟨rfl,h2⟩
   ·exact .inl (UInt8.lt_trans h1 h2)
   ·exact .inl h1
  ·rcases h2 with h2|⟨rfl,h2⟩
   ·exact .inl h2
   ·exact .inr ⟨O,rZ a b c h1 h2⟩
theorem Xl5:∀a b:Lu,GH a b=false->GH b a=false->a=b
 | [],[],_,_=>rfl
 | [],y::b,h,_=>by cases h
 | x::a,[],_,h=>by cases h
 | x::a,y::b,h1,h2=>by
  rw[Xus]at *;simp only[Mw,qF,dq2,beq_eq_false_iff_ne]at *
  have e:x=y:=UInt8.le_antisymm (Y63.1 h2.1) (Y63.1 h1.1);subst e;rw[Xl5 a b (h1.2.resolve_left (λh=>h O)) (h2.2.resolve_left (λh=>h O))]
theorem Xom{a b:Lu}(h:GH a b=true):GH b a=false:=by
 cases h2:GH b a with
 | false=>rfl
 | true=>have:=rZ _ _ _ h h2;rw[pK]at this;cases this
theorem Xiy(a b c:Lu)(h1:GH a b=false)(h2:GH b c=false):GH a c=false:=by
 cases h:GH a c with
 | false=>rfl
 | true =>
  cases h3:GH b a with
  | true=>have:=rZ _ _ _ h3 h;rw[h2]at this;cases this
  | false=>have:=Xl5 a b h1 h3;subst this;rw[h2]at h;cases h
def bX(p q:D7):Int:=compareBytes p.1 q.1
theorem Ahf:SWO (ltOf bX) where
 irrefl x:=pK x.1
 trans x y z:=rZ x.1 y.1 z.1
 ntrans x y z:=Xiy x.1 y.1 z.1
structure Kg(V:List D7):Prop where
 L4:V.Pairwise λp q=>GH p.1 q.1=true
 each:∀p∈V,(1<=p.1.length/\p.1.length<=64)/\p.2.length<=300
theorem Kg.nodup(h:Kg V):(V.map Prod.fst).Nodup:=by
 refine Y5m.2 (h.L4.imp λ{p q} rf e=>?_);rw[e,pK]at rf;cases rf
theorem Kg.nil:Kg []:=⟨List.Pairwise.nil,λp hp=>by simp at hp⟩
def Lj(k v:List UInt8):List D7->List D7
 | []=>[(k,v)]
 | p::r=>if p.1=k then(k,v)::r else if GH k p.1 then(k,v)::p::r else p::Lj k v r
def l4(k:Lu)(V:List D7):List D7:=V.filter λp=>p.1 !=k
theorem Xlh{k v:Lu}:∀{V:List D7} {p:D7},p∈Lj k v V->p=(k,v)\/p∈V
 | [],p,h=>by simp[Lj]at h;exact .inl h
 | q::V,p,h=>by
  unfold Lj at h;split at h
  ·rcases Yi.1 h with h|h
   ·exact .inl h
   ·exact .inr (by simp[h])
  ·split at h
   ·rcases Yi.1 h with h|h
    ·exact .inl h
    ·exact .inr h
   ·rcases Yi.1 h with h|h
    ·exact .inr (by simp[h])
    ·rcases Xlh h with h|h
     ·exact .inl h
     ·exact .inr (by simp[h])
theorem Xse{k v:Lu}(hk:1<=k.length/\k.length<=64)(hv:v.length<=300)(h:Kg V):Kg (Lj k v V):=by
 refine⟨?_,λp hp=>?_⟩
 ·have:∀V:List D7,V.Pairwise (λp q=>GH p.1 q.1=true)->(Lj k v V).Pairwise λp q=>GH p.1 q.1=true:=by
   intro V
   induction V with
   | nil=>intro _;simp[Lj]
   | cons q V ih =>
    intro h;obtain⟨h1,h2⟩:=bf.1 h;unfold Lj;split
    ·rename_i e
     exact bf.2 ⟨λp hp=>by have:=h1 p hp;rw[e]at this;exact this,h2⟩
    ·rename_i A8
     split
     ·rename_i BO
      refine bf.2 ⟨λp hp=>?_,h⟩;rcases Yi.1 hp with rfl|hp
      ·exact BO
      ·exact rZ _ _ _ BO (h1 p hp)
     ·rename_i BO
      refine bf.2 ⟨λp hp=>?_,ih h2⟩;rcases Xlh hp with rfl|hp
      ·cases h9:GH q.1 k with
       | true=>rfl
       | false=>exact Yy (Xl5 q.1 k h9 (su BO)) A8
      ·exact h1 p hp
  exact this V h.L4
 ·rcases Xlh hp with rfl|hp
  ·exact⟨hk,hv⟩
  ·exact h.each p hp
theorem Sh(k:Lu)(h:Kg V):Kg (l4 k V):=⟨h.L4.filter _,λp hp=>h.each p (O4.1 hp).1⟩
theorem Xaq(k v:Lu):∀{V:List D7},V.Pairwise (λp q=>GH p.1 q.1=true)->(Lj k v V).Perm ((k,v)::V.filter λp=>p.1 !=k)
 | [],_=>List.Perm.refl _
 | q::V,h=>by
  obtain⟨h1,h2⟩:=bf.1 h;unfold Lj;split
  ·rename_i e
   rw[Ln,Y3 (su e)]
   have:V.filter (λp=>p.1 !=k)=V:=yy.2 λp hp=>by
    have h3:=h1 p hp
    have:p.1≠k:=λe2=>by rw[e,e2,pK]at h3;cases h3
    simpa using this
   rw[this]
  ·rename_i A8
   have hf:(q::V).filter (λp=>p.1 !=k)=q::V.filter λp=>p.1 !=k:=by rw[Ln,Y7 (su A8)]
   rw[hf];split
   ·rename_i BO
    have:V.filter (λp=>p.1 !=k)=V:=yy.2 λp hp=>by
     have h3:=rZ _ _ _ BO (h1 p hp)
     have:p.1≠k:=λe2=>by rw[e2,pK]at h3;cases h3
     simpa using this
    rw[this]
   ·exact((Xaq k v h2).cons q).trans (List.Perm.swap _ _ _)
theorem Xpu{l:List D7}(hp:l.Perm V)(hV:V.Pairwise λp q=>GH p.1 q.1=true)(hl:l.Pairwise λp q=>GH q.1 p.1=false):l=V:=by
 refine List.Perm.eq_of_pairwise (le:=λp q=>GH q.1 p.1=false) (λa b ha hb h1 h2=>?_) hl (hV.imp λh=>Xom h) hp;have e:=Xl5 a.1 b.1 h2 h1;have ha2:=hp.mem_iff.1 ha;have hn:(V.map Prod.fst).Nodup:=Y5m.2 (hV.imp λ{p q} rf e=>by rw[e,pK]at rf;cases rf)
 have:∀(V:List D7),(V.map Prod.fst).Nodup->∀a∈V,∀b∈V,a.1=b.1->a=b:=by
  intro V
  induction V with
  | nil=>intro _ a ha;simp at ha
  | cons q V ih =>
   intro hn a ha b hb e;simp only[Yt,qI]at hn
   rcases Yi.1 ha with h1|h1<;>rcases Yi.1 hb with h2|h2
   ·rw[h1,h2]
   ·exact Yy (by rw[<-h1,e];exact sY h2) hn.1
   ·exact Yy (by rw[<-h2,<-e];exact sY h1) hn.1
   ·exact ih hn.2 a h1 b h2 e
 exact this V hn a ha2 b hb e
structure Ch where
 key:Lu
 val:Lu
 gone:Bool
abbrev Fy(c:Ch):Lv:=[S c.key,S c.val,.bool c.gone]
def Mh(c:Ch):Bool:=decide (1<=c.key.length)&&decide (c.key.length<=64)&&decide (c.val.length<=300)&&(!c.gone||c.val==[])
def aZ(c:Ch):Int:=if c.gone then 65535 else(c.val.length:Nat)
def B5(c:Ch):Lu:=Ew (c.key.length:Nat)::c.key++[Ew (aZ c/256),Ew (aZ c)]++c.val
def D_:List Ch->List UInt8->List UInt8×Nat
 | [],out=>if 4000<out.length then([],2)else(out,0)
 | c::l,out=>if Mh c then D_ l (out++B5 c)else([],1)
def jo(V:List D7)(c:Ch):List D7:=if c.gone then l4 c.key V else Lj c.key c.val V
def OU(V:List D7)(l:List Ch):List D7:=l.foldl jo V
theorem Xum(h:Kg V):∀{l:List Ch},(∀c∈l,Mh c=true)->Kg (OU V l):=by
 intro l
 induction l generalizing V with
 | nil=>intro _;exact h
 | cons c l ih =>
  intro hl;refine ih ?_ (λc hc=>hl c (by simp[hc]))
  have:=hl c sz
  simp only[Mh,Yb,dq1]at this
  unfold jo;split
  ·exact Sh _ h
  ·exact Xse ⟨this.1.1.1,this.1.1.2⟩ this.1.2 h
def I_(V:List D7)(pre:Lu):List D7:=V.filter λp=>hasPrefix p.1 pre
def RJ:List D7->List (List UInt8)->List (List UInt8)
 | [],out=>out
 | p::V,out =>
  let b:=B5 ⟨p.1,p.2,false⟩
  if out≠[]/\(out.getLastD []).length+b.length<=4000 then RJ V (out.dropLast++[out.getLastD []++b])else RJ V (out++[b])
def UO(V:List D7):List Lu:=RJ (I_ V []) []
structure St where
 log:Lg
 A9:List D7
def Xu(s:St)(l:List Ch):Nat×St :=
 if(D_ l []).2≠0\/l=[]then((D_ l []).2,s)else
 let V:=OU s.A9 l
 let a:=Gp s.log (D_ l []).1
 let r:=if a.1=5 then K9 a.2 (UO V)else a
 if r.1=0 then(0,⟨r.2,V⟩)else(r.1,⟨r.2,s.A9⟩)
end Rq
namespace Go.Proofs.W9
open Gk Ul Pc Tk Tr Xm Rq
open Tryz
theorem Xyp(c:Ch)(hk:c.key.length<=1000000)(hv:c.val.length<=1000000)(As:La)(hS:Aa B w I As):Ce B I As 149 [.agg (Fy c).toArray] w (.bool (Mh c)):=by
 refine gH 14 ?_;clear hS;intro b1 w hS;refine gH 14 (gG 1 (⟨Y5 Value.bool ?_,hS.s⟩));unfold Mh;rw[show decide ((1:Int)<=(c.key.length:Nat))=decide (1<=c.key.length) from decide_eq_decide.2 om,show decide (((c.key.length:Nat):Int)<=64)=decide (c.key.length<=64) from decide_eq_decide.2 om,show decide (((c.val.length:Nat):Int)<=300)=decide (c.val.length<=300) from decide_eq_decide.2 om]
theorem Xl8(c:Ch)(hk:c.key.length<=1000000)(hv:c.val.length<=1000000)(As:La)(hS:Aa B w I As):Cz 291 [.agg (Fy c).toArray] w λv w'=>∃kv,v=kv/\Aa B w' I (Ar 5 1 kv (B5 c).length (Ax (B5 c))::As):=by
 refine gH 6 ?_;clear hS;intro b1 w hS;refine .nil (.ck [1] (σ:=Unit) (λ_ _m=>(3,Ab (aZ c))::_m) (λ_ w=>Aa B w I (Ae b1 (Fy c) 270::As)) ?_ ?_)
 ·refine gM 2 ?_ ?_<;>intro GO DV
  ·refine gG 1 ?_;refine⟨(),⟨by(try show _=_);unfold aZ;rw[GO];rfl,O,trivial⟩,hS⟩
  refine gG 0 ?_;refine⟨(),⟨by(try show _=_);unfold aZ;rw[GO];rfl,O,trivial⟩,hS⟩
 rintro _ w hS;refine gH 3 (.val (.Hp (.of O) Dq CY) O (gH 1 ?_));clear hS;intro Vm w hS;replace hS:=hS;try dsimp only[List.eraseIdx]at hS
 replace hS:=hS.say (k:=0) (A':=Ae Vm (Ax [Ew (c.key.length:Nat)]) 5) O (λh hh=>by rw[show[Ew (c.key.length:Nat)]=[((c.key.length:Nat):Int)].map Ew from O,iU];exact hh);dsimp only[List.set]at hS;replace hS:=hS.Bw (size:=1) (n:=1) (k:=0) O O de;dsimp only[List.set]at hS;refine gH 2 (.Fh hS (.of O) (.of O) (k:=0) O Db BV Xx O O O om O ?_);clear hS;intro v17 w hS;try dsimp only[List.set]at hS
 refine gG 1 (.dw (λw=>∃R,Aa B w I (Ae b1 (Fy c) 270::R)) (λj=>!([].contains j)) ?_);replace hS:=hS.drew;generalize w.drew=w at hS ⊢;have hH:∃R,Aa B w I (Ae b1 (Fy c) 270::R):=⟨_,(hS.x [1])⟩
 refine .tp 0 O (λw=>(.mo O)) (.tp 1 O (λw=>(.mo O)) (.tp 2 O (λw=>(.shr (.of O) (.of O) de de)) (.tp 3 O (λw=>(.Hp (.of O) Dq CY)) (.tp 4 O (λw=>(.mo O)) (.tp 5 O (λw=>(.Hp (.of O) Dq CY)) ?_)))));refine .tp 8 O (λw=>(by first|exact .fo 1 O yc O O Bf O|exact .fi 1 O yc O O Bf O)) ?_;refine .tk 9 O hH (λw ⟨R,hS⟩=>(.lo O hS (k:=0) O BF O)) (.b1 6 O (.buildSlice (cs:=[_,_]) hS (QB O (QB O pM)) Db FJ OG O O O O ?_));clear hS;intro b24 w hS;refine .nil ?_;clear hH;have hH:∃R,Aa B w I (Ae b1 (Fy c) 270::R):=⟨_,(hS.x [2])⟩
 refine⟨λ_ _=>hH,?_⟩;refine .b1 7 O ?_
 first|refine .append (size:=1) (bytes:=1) hS (.of O) (.of O) (k:=0) O Db Xx O O O O O O O ⟨om,by unfold maxLen;omega⟩ O ?_|refine .append (size:=1) (bytes:=1) hS (.of O) (.of O) (k:=1) O Db Xx O O O O O O O ⟨om,by unfold maxLen;omega⟩ O ?_
 clear hS;intro v25 w hS;try dsimp only[List.set]at hS
 first|obtain⟨a25,c25,rfl,dU,_⟩:=hS.Av (k:=0) (v:=v25) O|obtain⟨a25,c25,rfl,dU,_⟩:=hS.Av (k:=1) (v:=v25) O
 refine .nil ?_;clear hH;have hH:∃R,Aa B w I (Ae b1 (Fy c) 270::R):=⟨_,(hS.x [1])⟩
 refine⟨λ_ _=>hH,?_⟩;refine .b1 10 O (.Fh hS (.of O) (.of O) (k:=0) O Db BV Xx O O O om O ?_);clear hS;intro v28 w hS;try dsimp only[List.set]at hS
 refine .nil ?_;clear hH;have hH:∃R,Aa B w I (Ae b1 (Fy c) 270::R):=⟨_,(hS.x [1])⟩
 refine⟨λ_ _=>hH,?_⟩;refine .tp 11 O (λw=>(.ao O)) (.dn ?_);refine gG 0 ?_;have e1:Ax (B5 c)=Ax [Ew (c.key.length:Nat)]++Ax c.key++[Value.int IntKind.u8 (IntKind.u8.wrap (aZ c/2^Int.toNat 8)),Value.int IntKind.u8 (IntKind.u8.wrap (aZ c))]++Ax c.val:=by
  have e3:[Value.int IntKind.u8 (IntKind.u8.wrap (aZ c/2^Int.toNat 8)),Value.int IntKind.u8 (IntKind.u8.wrap (aZ c))]=Ax ([aZ c/256,aZ c].map Ew):=by rw[iU];first|done|rfl
  rw[e3];show Ax _=_
  unfold B5 Ax
  simp
 have e2:(B5 c).length=1+c.key.length+2+c.val.length:=by unfold B5;simp;omega
 rw[<-e1,<-e2]at hS;exact⟨_,O,hS.s⟩
theorem R7(c:Ch):(Fy c).length=3:=rfl
theorem Xtw:∀(l:List Ch) (out:Lu),(D_ l out).2=0->(D_ l out).1.length<=4000
 | [],out,h=>by
  unfold D_ at h ⊢;split
  ·rename_i h2;rw[Y7 h2]at h;cases h
  ·rename_i h2;exact Nat.le_of_not_lt h2
 | c::l,out,h=>by
  unfold D_ at h ⊢;split
  ·rename_i h2;rw[Y7 h2]at h;exact Xtw l _ h
  ·rename_i h2;rw[Y3 h2]at h;cases h
theorem cJ(l:List Ch)(a:Oa)(c0:Nat)(ES:∀x∈l,x.key.length<=1000000/\x.val.length<=1000000)(SL:l.length<=100000)(hR:RS I a 3 l.length (X2 Fy l))(As:La)(hS:Aa B w I As):Cz 204 [.slice a l.length c0] w λv w'=>∃kv,v=.tuple #[kv,Ab ((D_ l []).2:Nat)]/\Aa B w' I (Ar 5 1 kv ((D_ l []).1).length (Ax ((D_ l []).1))::As):=by
 refine gG 6 ?_;replace hS:=hS.An 5 1;have Bh:=hS;clear hS;refine .lk [7,8] (σ:=Nat×Lu×Va) (λ(i,out,kv) _m=>(4,kv)::(9,Ab (i:Nat))::_m) (λ(i,out,kv) w=>i<=l.length/\D_ l []=D_ (l.drop i) out/\out.length<=i*400/\Aa B w I (Ar 5 1 kv (out).length (Ax (out))::As)) (λ(i,out,kv)=>l.length-i) (0,[],.slice none 0 0) ⟨Y4 _,O,Y4 _,Bh⟩ ?_;rintro⟨i,out,kv⟩ w ⟨hi,FC,Mz,hS⟩;clear Bh;refine gN 1 ?_ ?_<;>intro DO
 ·refine gG 0 ?_;obtain⟨x,hx⟩:∃x,l[i]?=some x:=⟨_,Y2 om⟩
  have zj:=ES x (Y6 hx);have Ec:l.drop i=x::l.drop (i+1):=by rw[Yp (Y1.1 hx).1,(Y1.1 hx).2]
  obtain⟨p,dC,hp⟩:=aP (l:=l) (cells:=Fy) (s:=3) R7 hS hR i x hx;subst dC;refine gG 0 (.val (.ii O O om om Q9 x_) O ?_);refine .val (.as (.LY (vs:=Fy x) (.of O) (by intro j v hj;rw[Y8];exact hp j v hj) QV x_ O) O) O ?_;refine gH 3 ?_;clear hS;intro b6 w hS;refine gE 0 (Xyp x om om) ?_;clear hS;intro w hS;refine gM 1 ?_ ?_<;>intro JM G8
  ·refine gG 2 ?_;have e:D_ l []=([],1):=by rw[FC,Ec,D_];exact Y3 (by have h9:=JM;simpa using h9)
   rw[e];exact⟨.slice none 0 0,O,hS.s.An 5 1⟩
  refine gG 0 ?_;have A5:Mh x=true:=su JM
  have hr8:=A5;simp only[Mh,Yb,dq1]at hr8
  have LS:(B5 x).length<=400:=by unfold B5;simp;omega
  refine gF 2 (Xl8 x om om) ?_;clear hS;rintro _ w ⟨fv,rfl,hS⟩;obtain⟨fa,fc,rfl,qV,_⟩:=hS.vS 0;refine .H6 (size:=1) (bytes:=1) hS (.of O) (.of O) (k:=2) (j:=0) O O Db Xx O O O O (Ni _) ⟨om,by unfold maxLen;omega⟩ O ?_;clear hS;intro v19 w hS;dsimp only[List.set]at hS;rw[<-Y0,<-show Ax (out++B5 x)=Ax out++Ax (B5 x) from Ym]at hS;refine gG 3 (E_ (i+1,out++B5 x,_) O ⟨od,?_,?_,(hS.z [2] 1 2)⟩)
  ·(try dsimp only)
   rw[FC,Ec,D_,Y7 A5]
  ·(try dsimp only)
   rw[Y0,RV];omega
 obtain⟨ka,kc,rfl,CV,_⟩:=hS.vS 0;refine gN 3 ?_ ?_<;>intro Dy
 ·refine gG 2 ?_;have e:D_ l []=([],2):=by rw[FC,Yk om,D_];exact Y7 (oh Dy)
  rw[e];exact⟨.slice none 0 0,O,hS.s.An 5 1⟩
 refine gG 3 ?_;have e:D_ l []=(out,0):=by rw[FC,Yk om,D_];exact Y3 (oh Dy)
 rw[e];exact⟨_,O,hS⟩
theorem W5(V:List Pr)(mv:Va)(hV:Kg V)(l:List Ch)(a:Oa)(c0:Nat)(ES:∀x∈l,Mh x=true)(SL:l.length<=1000000)(hR:RS I a 3 l.length (X2 Fy l))(As:La)(hS:Aa B w I (DJ mv V::As)):Cz 72 [mv,.slice a l.length c0] w λv w'=>∃mb,v=.map (some mb)/\Aa B w' I (DJ (.map (some mb)) (OU V l)::DJ mv V::As):=by
 refine gG 1 (.vI hS O ?_);clear hS;intro mb w hS;refine gH 2 (.fS hS (k:=1) O (.of O) MT O ?_);clear hS;intro rg w hS;try dsimp only[List.set]at hS
 have Bh:=((hS.pick 1 O).pick 1 O);clear hS;refine gG 0 (.lk [1,5,12] (σ:=List Pr×List Pr×Option Pr) (λ(V1,todo,last) _m=>_m) (λ(V1,todo,last) w=>Kg V1/\(V1++todo).Perm V/\Aa B w I (DJ (.map (some mb)) V1::iS mv rg V todo last::As)) (λ(V1,todo,last)=>todo.length) ([],V,none) ⟨Kg.nil,List.Perm.refl _,Bh⟩ ?_);rintro⟨V1,todo,last⟩ w ⟨Wj,WE,hS⟩;clear Bh;refine gG 0 (WL.rH hS (k:=1) O (.of O) O (λht=>?_) (λKR OC w F5 hS=>?_))
 ·refine gG 1 (.AF (rfl) (gG 3 ?_));subst ht;rw[Yr]at WE;have hVe:V1=V:=Xpu WE hV.L4 (Wj.L4.imp λh=>Xom h);rw[hVe]at hS;replace hS:=hS.f_ (k:=1) O;try dsimp only[List.set]at hS
  have Bh:=((hS.pick 1 O).pick 1 O);clear hS;refine .lk [5,21,22] (σ:=Nat×List Pr) (λ(i,V1) _m=>(23,Ab (i:Nat))::_m) (λ(i,V1) w=>i<=l.length/\Kg V1/\OU V l=OU V1 (l.drop i)/\Aa B w I (DJ (.map (some mb)) V1::DJ mv V::As)) (λ(i,V1)=>l.length-i) (0,V) ⟨Y4 _,hV,O,Bh⟩ ?_;rintro⟨i,V1⟩ w ⟨hi,Wj,FC,hS⟩;clear Bh;refine gN 1 ?_ ?_<;>intro LL
  ·refine gG 0 ?_;obtain⟨x,hx⟩:∃x,l[i]?=some x:=⟨_,Y2 om⟩
   have zj:=ES x (Y6 hx);have zi:=zj;simp only[Mh,Yb,dq1]at zi
   have Ec:l.drop i=x::l.drop (i+1):=by rw[Yp (Y1.1 hx).1,(Y1.1 hx).2]
   obtain⟨p,dC,hp⟩:=aP (l:=l) (cells:=Fy) (s:=3) R7 hS hR i x hx;subst dC;refine gG 0 (.val (.ii O O om om Q9 x_) O ?_);refine .val (.as (.LY (vs:=Fy x) (.of O) (by intro j v hj;rw[Y8];exact hp j v hj) QV x_ O) O) O ?_;refine gG 4 ?_;clear hS;intro b9 w hS;refine gM 0 ?_ ?_<;>intro BD G9
   ·refine gH 3 (.Abq (V':=l4 x.key V1) hS (k:=1) O (.of O) (.of O) Wj.nodup (List.Perm.refl _) MT BV ?_);clear hS;intro w hS;try dsimp only[List.set]at hS
    refine gG 2 (rd (i+1,l4 x.key V1) ⟨od,Sh _ Wj,?_,(hS.z [2,2] 2 1)⟩)
    (try dsimp only)
    rw[FC,Ec];show OU (jo V1 x) _=_
    unfold jo;rw[Y7 (su BD)]
   refine gH 5 (.rF (V':=Lj x.key x.val V1) hS (k:=1) O (.of O) (.of O) (.of O) Wj.nodup (Xaq _ _ Wj.L4) MT BV ?_);clear hS;intro w hS;try dsimp only[List.set]at hS
   refine gG 2 (rd (i+1,Lj x.key x.val V1) ⟨od,Xse ⟨zi.1.1.1,zi.1.1.2⟩ zi.1.2 Wj,?_,(hS.z [2,2] 2 1)⟩)
   (try dsimp only)
   rw[FC,Ec];show OU (jo V1 x) _=_
   unfold jo;rw[Y3 (nB BD)]
  refine gG 2 ?_;rw[FC,Yk om];exact⟨mb,O,(hS.x [1,1])⟩
 try dsimp only[List.set]at hS
 refine gG 1 (.E1 (rfl) (gG 0 (.val (.cQ hS (k:=1) O (.of O)) O (gG 4 ?_))));have hkp:KR.1 ∉ V1.map Prod.fst:=by
  intro hm;have hn:=((WE.trans (List.Perm.refl V)).map Prod.fst).nodup_iff.2 hV.nodup;rw[Ym,Y5l]at hn;exact hn.2.2 _ hm _ ((F5.map Prod.fst).mem_iff.2 sz) O
 have hpV:KR∈V:=WE.mem_iff.1 (sT _ (F5.mem_iff.2 sz));have JU:=hV.each KR hpV;have hV2:Kg (Lj KR.1 KR.2 V1):=Xse JU.1 JU.2 Wj;refine gH 3 (.rF (V':=Lj KR.1 KR.2 V1) hS (k:=0) O (.of O) (.of O) (.of O) Wj.nodup (Xaq _ _ Wj.L4) MT BV ?_);clear hS;intro w hS;try dsimp only[List.set]at hS
 refine gG 0 ?_;refine rd (Lj KR.1 KR.2 V1,OC,some KR) ⟨hV2,?_,((hS.pick 1 O).pick 1 O)⟩ (by have h9:=F5.length_eq;(try dsimp only);simp only[List.length_cons]at h9;omega)
 (try dsimp only)
 have h7:=Xaq KR.1 KR.2 Wj.L4;rw[Xbt hkp]at h7;exact(h7.append_right OC).trans ((Y51.symm.trans (F5.symm.append_left V1)).trans WE)
section
open Go.Shelf Go.RowKit Go.Lib Go.Sort
theorem q9q{B : Func}(h : (((P.funcs[f]?).map Func.name).getD default == "runtime.NumGoroutine") = false := by kernel_rfl)(k : P.funcs[f]? = some { B with name := ((P.funcs[f]?).map Func.name).getD default } := by kernel_rfl): Bears P f B := ⟨_, h, k⟩
abbrev YF: Ren := ⟨λ|6 => 151|15 => 243|14 => 242|28 => 327|29 => 328|20 => 319|21 => 320|22 => 321|23 => 322|24 => 323|25 => 324|26 => 325|27 => 326|46 => 404|47 => 405|48 => 406|49 => 407|50 => 408|57 => 440|n => n, λ|22 => 46|24 => 58|25 => 276|39 => 180|53 => 437|55 => 22|46 => 442|45 => 441|50 => 291|66 => 501|70 => 340|76 => 525|77 => 526|n => n, λ|n => n⟩
theorem OA: SlLaysF0.n6 prog YF := by constructor<;>first|kernel_rfl|(intro w;kernel_rfl)|exact q9q
theorem Xyb(x y:Pr)(W:Wo):Calls prog 152 #[.agg #[S x.1,S x.2],.agg #[S y.1,S y.2]] W λe w'=>e=.returned (.int .i64 (bX x y))/\∃q vZ,w'=grow (W.drewN q) vZ:=by
 have DQ:=λW'=>strings_Compare ⟨x.1.toArray⟩ ⟨y.1.toArray⟩ W'
 change ∀W',Calls prog 153 _ _ _ at DQ;have e9:compareBytes (⟨x.1.toArray⟩:ByteArray).data.toList (⟨y.1.toArray⟩:ByteArray).data.toList=bX x y:=rfl;rw[e9]at DQ;generalize bX x y=r at DQ ⊢
 go_enter func152,ntmps152
 go_wp2_with (go_at_call 153;refine(DQ _).mono ?_;rintro e w' ⟨rfl,rfl⟩)
 go_ret
 exact⟨O,0,_,by rw[alloc_eq_grow,alloc_eq_grow,grow_grow];rfl⟩
theorem YE(l:List Pr)(v9:Va)(k:Nat)(As:La)(hS:Aa B w I As)(hk:As[k]?=some (Ar 58 2 v9 l.length (X2 X3 l)))(hl:l.length<=1000000):Cz 151 [v9,.func (.func 152) #[] #[]] w λv w'=>v=.tuple #[]/\∃l',l'.Perm l/\l'.Pairwise (λp q=>GH q.1 p.1=false)/\Aa B w' I (As.set k (Ar 58 2 v9 l'.length (X2 X3 l'))):=by
 have Cw:k<As.length:=(Y1.1 hk).1;obtain⟨a,c,rfl,hc,_⟩:=hS.Av hk;cases a with
 | none =>
  have h0:l=[]:=hS.D5 hk λ_ ⟨_,hh⟩=>by
   rcases hh with⟨_,h,_⟩|⟨b,cap,r,hv,_⟩
   ·exact Yf h
   ·cases hv
  subst h0;refine(AnyF.slices_SortFunc_none OA none c (.func (.func 152) #[] #[]) w).mono ?_;rintro e w' ⟨rfl,rfl⟩;have e1:As.set k (Ar 58 2 (.slice none 0 c) 0 (X2 X3 []))=As:=by
   have:=(Y1.1 hk).2
   exact(Y5 (As.set k) this.symm).trans (sU _)
  exact⟨_,O,O,[],List.Perm.refl _,List.Pairwise.nil,by show Aa B w' I (As.set k (Ar 58 2 (.slice none 0 c) 0 (X2 X3 [])));rw[e1];exact hS⟩
 | some a =>
  obtain⟨g,rfl,hg,hH,NQ⟩:=Aa.gO (AD:=X3) (s:=2) (λ_=>rfl) de hS O hk;have eg:∀args w,(callFunc 152 args).run prog w=.ok (.enter 152 args) w:=enters_of func152 kr O;have DQ:=AnyQ.slices_SortFunc OA 2 H0 DU X3 (λ_=>rfl) (λx v hv=>by simp[X3]at hv;rcases hv with rfl|rfl<;>rfl) bX Ahf 152 #[] g 0 c l.toArray w eg (λ_ _ _ _ x y=>Xyb x y _) hH hg (by simp;omega);refine DQ.mono ?_;rintro e w' ⟨rfl,d',m,os,⟨HN,KK,vd⟩,hs,rfl⟩;have ES:d'.size=l.length:=su HN
  have Aa9:d'.toList.Perm l:=by
   have h8:List.take l.length d'.toList=d'.toList:=Yg (by rw[Zu,ES];exact Yd _);rw[<-h8];simpa using vd
  refine⟨_,O,O,d'.toList,Aa9,Y3n.2 λi j hi hj y8=>?_,?_⟩
  ·have Wy:i<d'.size:=su hi
   have O6:j<d'.size:=su hj
   have h9:=hs i j (Y4 _) y8 (by show j<l.length;rw[<-ES];exact O6);rw[getElem!_pos d' j O6,getElem!_pos d' i Wy]at h9;exact h9
  ·have h9:=NQ m d' os ES;have e3:d'.toList.length=l.length:=by rw[Zu,ES]
   rw[e3];exact h9
end
theorem Xyc{V W:List Pr}(h:V.Perm W)(p:Lu):(I_ V p).Perm (I_ W p):=h.filter _
theorem Xj1(l:List Pr)(x:Pr)(p:Lu):I_ (l++[x]) p=I_ l p++(if Go.Lib.hasPrefix x.1 p then[x]else[]):=by
 unfold I_;rw[RT];congr 1;rw[Ln];rfl
theorem Xj0(V:List Pr)(mv:Va)(hV:Kg V)(dz:V.length<=1000000)(p:Lu)(hp:p.length<=1000)(As:La)(hS:Aa B w I (DJ mv V::As)):Cz 73 [mv,S p] w λv w'=>∃kv,v=kv/\Aa B w' I (Ar 58 2 kv (I_ V p).length (X2 X3 (I_ V p))::DJ mv V::As):=by
 refine gH 3 (.fS hS (k:=0) O (.of O) MT O ?_);clear hS;intro rg w hS;try dsimp only[List.set]at hS
 have Bh:=(hS).An 58 2;clear hS;refine gG 0 (.lk [1,9] (σ:=List Pr×List Pr×Option Pr×Va) (λ(done,todo,last,kv) _m=>(5,kv)::_m) (λ(done,todo,last,kv) w=>(done++todo).Perm V/\Aa B w I (Ar 58 2 kv (I_ done p).length (X2 X3 (I_ done p))::iS mv rg V todo last::As)) (λ(done,todo,last,kv)=>todo.length) ([],V,none,.slice none 0 0) ⟨List.Perm.refl _,Bh⟩ ?_);rintro⟨done,todo,last,kv⟩ w ⟨WE,hS⟩;clear Bh;refine gG 0 (WL.rH hS (k:=1) O (.of O) O (λht=>?_) (λKR OC w F5 hS=>?_))
 ·refine gG 1 (.AF (rfl) (gG 0 ?_));subst ht;rw[Yr]at WE;replace hS:=hS.f_ (k:=1) O;try dsimp only[List.set]at hS
  have d_:(I_ done p).length<=1000000:=by
   have h1:(I_ done p).length<=done.length:=Yw ..;have h2:=WE.length_eq;omega
  refine gC 1 (YE (I_ done p) kv 0 _ hS O d_) ?_;clear hS;rintro _ w ⟨rfl,l9,q_,hs9,hS⟩;try dsimp only[List.set]at hS
  refine gG 2 ?_;have e9:l9=I_ V p:=Xpu (q_.trans (Xyc WE p)) (hV.L4.filter _) hs9;rw[e9]at hS;exact⟨kv,O,hS.s⟩
 try dsimp only[List.set]at hS
 refine gG 1 (.E1 (rfl) (gG 0 (.val (.cQ hS (k:=1) O (.of O)) O (gG 4 ?_))));have hpV:KR∈V:=WE.mem_iff.1 (sT _ (F5.mem_iff.2 sz));have JU:=hV.each KR hpV;have d_:(I_ done p).length<=1000000:=by
  have h1:(I_ done p).length<=done.length:=Yw ..;have h2:=WE.length_eq;rw[Y0]at h2;omega
 refine gE 2 (Xjv KR.1 p om hp) ?_;clear hS;intro w hS;refine gM 0 ?_ ?_<;>intro EG Gx
 ·refine gG 7 ?_;clear hS;intro lN a23 c23 dT w hS;refine E_ (done++[KR],OC,some KR,_) O ⟨?_,?_⟩ (by have h9:=F5.length_eq;(try dsimp only);simp only[List.length_cons]at h9;omega)
  ·(try dsimp only)
   rw[Yc];exact((F5.symm.append_left done)).trans WE
  ·(try dsimp only)
   rw[Xj1];rw[Y7 EG];rw[YT,Y0];exact(hS.x [1,1])
 refine gG 0 ?_;refine E_ (done++[KR],OC,some KR,_) O ⟨?_,?_⟩ (by have h9:=F5.length_eq;(try dsimp only);simp only[List.length_cons]at h9;omega)
 ·(try dsimp only)
  rw[Yc];exact((F5.symm.append_left done)).trans WE
 ·(try dsimp only)
  rw[Xj1];rw[Y3 (nB EG),Yr]
  skip
  exact(hS.x [1,1])
theorem Xz4(p:Pr)(V:List Pr):RJ (p::V) []=RJ V ([]++[B5 ⟨p.1,p.2,false⟩]):=by
 rw[RJ];exact Y3 sz
theorem YC{p:Pr}{V:List Pr}{dn:List Lu}{la:Lu}(h:la.length+(B5 ⟨p.1,p.2,false⟩).length<=4000):RJ (p::V) (dn++[la])=RJ V (dn++[la++B5 ⟨p.1,p.2,false⟩]):=by
 rw[RJ];have e1:(dn++[la]).getLastD []=la:=by simp
 have e2:(dn++[la]).dropLast=dn:=by simp
 rw[e1,e2];exact Y7 ⟨by simp,h⟩
theorem gL{p:Pr}{V:List Pr}{dn:List Lu}{la:Lu}(h:¬ la.length+(B5 ⟨p.1,p.2,false⟩).length<=4000):RJ (p::V) (dn++[la])=RJ V ((dn++[la])++[B5 ⟨p.1,p.2,false⟩]):=by
 rw[RJ];have e1:(dn++[la]).getLastD []=la:=by simp
 rw[e1];exact Y3 λh2=>h h2.2
def UP(i:Nat)(dn:List Lu)(la:Lu):List Lu:=if i=0 then[]else dn++[la]
def p7(i:Nat)(cs:Lv)(lv:Va):Lv:=if i=0 then[]else cs++[lv]
theorem YB(V:List Pr)(mv:Va)(hV:Kg V)(dz:V.length<=1000000)(As:La)(hS:Aa B w I (DJ mv V::As)):Cz 207 [mv] w λv w'=>∃J a c cs,v=.slice a (UO V).length c/\Le I J/\(UO V).length<=V.length/\(∀x∈UO V,x.length<=4000)/\Ju J (UO V) cs/\RS J a 1 (UO V).length cs/\Aa B w' J (DJ mv V::As):=by
 refine gF 3 (Xj0 V mv hV dz [] (Y4 _)) ?_;clear hS;rintro _ w ⟨pv,rfl,hS⟩;obtain⟨pa,pc,rfl,NY,_⟩:=hS.vS 0;have BW:=hS.fV 0;clear hS;obtain⟨J0,GN,EP,hS⟩:=BW;try dsimp only[List.eraseIdx]at hS
 generalize hQ:I_ V []=Q at NY EP ⊢;have ZF:UO V=RJ Q []:=by rw[<-hQ];rfl
 have Bh:=(hS.An 5 1).An 172 1;clear hS;refine gG 2 (.lk [9,10] (σ:=Nat×List Lu×Lv×Lu×Va×Va×Im) (λ(i,dn,cs,la,lv,kv,J) _m=>(3,kv)::(11,Ab (i:Nat))::_m) (λ(i,dn,cs,la,lv,kv,J) w=>i<=Q.length/\UO V=RJ (Q.drop i) (UP i dn la)/\(i=0->dn=[]/\cs=[])/\dn.length<=i-1/\(∀x∈dn,x.length<=4000)/\la.length<=4000/\Ju J dn cs/\Le J0 J/\Aa B w J (Ar 172 1 kv (UP i dn la).length (p7 i cs lv)::Ar 5 1 lv (la).length (Ax (la))::DJ mv V::As)) (λ(i,dn,cs,la,lv,kv,J)=>Q.length-i) (0,[],[],[],.slice none 0 0,.slice none 0 0,J0) ⟨Y4 _,ZF,λ_=>⟨O,O⟩,Y4 _,λx hx=>by simp at hx,Y4 _,⟨O,λi x h=>by simp at h⟩,Le.refl _,Bh⟩ ?_);rintro⟨i,dn,cs,la,lv,kv,J⟩ w ⟨hi,FC,hz,hdn,hds,hla,hX,hJ,hS⟩;clear Bh;have hQl:Q.length<=1000000:=by have:Q.length<=V.length:=by { rw[<-hQ];exact Yw .. };omega
 refine gN 1 ?_ ?_<;>intro B_
 ·refine .skip (.seq (.block (.seq ?_)));rcases Nx i with h0|h0
  ·obtain⟨rfl,rfl⟩:=hz h0;have ZE:UP i [] la=[]:=Y7 h0;have dX:p7 i [] lv=[]:=Y7 h0;rw[ZE,dX,List.length_nil]at hS;obtain⟨ka,kc,rfl,CV,_⟩:=hS.vS 0;obtain⟨pr,mY⟩:∃pr,Q[i]?=some pr:=⟨_,Y2 om⟩
   have vg:pr∈V:=by have h:=Y6 mY;rw[<-hQ]at h;exact(O4.1 h).1
   have JU:=hV.each pr vg;have LS:(B5 ⟨pr.1,pr.2,false⟩).length<=400:=by unfold B5;simp;omega
   have Ec:Q.drop i=pr::Q.drop (i+1):=by rw[Yp (Y1.1 mY).1,(Y1.1 mY).2]
   obtain⟨p,dC,hp⟩:=aP (l:=Q) (cells:=X3) (s:=2) (λ_=>rfl) hS (EP.mono hJ) i pr mY;subst dC;refine gG 0 (.val (.ii O O om om H2 DU) O ?_);refine .val (.as (.LY (vs:=X3 pr) (.of O) (by intro j v hj;rw[Y8];exact hp j v hj) H0 DU O) O) O ?_;refine gH 7 ?_;clear hS;intro b5 w hS;refine gF 0 (Xl8 ⟨pr.1,pr.2,false⟩ od od) ?_;clear hS;rintro _ w ⟨fv,rfl,hS⟩;obtain⟨fa,fc,rfl,qV,_⟩:=hS.vS 0;refine gH 10 (.AA (v:=ptr 0 0) O O (λAi=>Yy Ai de) O (.AA (v:=.slice none 0 0) O O (λAi=>Yy Ai de) O ?_));refine gG 6 (.AF (rfl) (gG 7 ?_));clear hS;intro b50 a51 c51 uE w hS;refine E_ (i+1,[],[],B5 ⟨pr.1,pr.2,false⟩,.slice fa (B5 ⟨pr.1,pr.2,false⟩).length fc,_,J) O ⟨od,?_,λh=>Yy h od,by(try dsimp only);simp,λx hx=>by simp at hx,od,⟨O,λi x h=>by simp at h⟩,hJ,?_⟩
   ·(try dsimp only)
    rw[FC,Ec,ZE,show UP (i+1) [] (B5 ⟨pr.1,pr.2,false⟩)=[]++[B5 ⟨pr.1,pr.2,false⟩] from Y3 om];exact Xz4 pr _
   ·(try dsimp only)
    rw[show UP (i+1) [] (B5 ⟨pr.1,pr.2,false⟩)=[]++[B5 ⟨pr.1,pr.2,false⟩] from Y3 om,show p7 (i+1) [] (Value.slice fa (B5 ⟨pr.1,pr.2,false⟩).length fc)=[]++[Value.slice fa (B5 ⟨pr.1,pr.2,false⟩).length fc] from Y3 om];exact(hS.z [4,1,3] 3 2)
  have ZE:UP i dn la=dn++[la]:=Y3 om;have dX:p7 i cs lv=cs++[lv]:=Y3 om;rw[ZE,dX,Y0,jt]at hS;obtain⟨W8,W9,rfl,u0,_⟩:=hS.vS 1;obtain⟨ob,oc,KQ,rfl,zb,u9,AhY,mX,hS⟩:=hS.AP (k:=0) O sz;dsimp only[List.set]at hS
  obtain⟨pr,mY⟩:∃pr,Q[i]?=some pr:=⟨_,Y2 om⟩
  have vg:pr∈V:=by have h:=Y6 mY;rw[<-hQ]at h;exact(O4.1 h).1
  have JU:=hV.each pr vg;have LS:(B5 ⟨pr.1,pr.2,false⟩).length<=400:=by unfold B5;simp;omega
  have Ec:Q.drop i=pr::Q.drop (i+1):=by rw[Yp (Y1.1 mY).1,(Y1.1 mY).2]
  obtain⟨p,dC,hp⟩:=aP (l:=Q) (cells:=X3) (s:=2) (λ_=>rfl) hS (EP.mono hJ) i pr mY;subst dC;refine gG 0 (.val (.ii O O om om H2 DU) O ?_);refine .val (.as (.LY (vs:=X3 pr) (.of O) (by intro j v hj;rw[Y8];exact hp j v hj) H0 DU O) O) O ?_;refine gH 7 ?_;clear hS;intro b5 w hS;refine gF 0 (Xl8 ⟨pr.1,pr.2,false⟩ od od) ?_;clear hS;rintro _ w ⟨fv,rfl,hS⟩;obtain⟨fa,fc,rfl,qV,_⟩:=hS.vS 0;refine gH 10 (.AA O O (λAi=>.indexAddr (.gd Ai O) (.gd Ai O) om om MU Jf) O ?_);refine .AA (v:=.slice W8 la.length W9) O O (λAi=>(.ld (.gd Ai O) hS (k:=2) O UI (by have e:∀q,q=cs.length->(cs++[Value.slice W8 la.length W9]++KQ)[q]?=some (Value.slice W8 la.length W9):=by { intro q hq;subst hq;simp };exact e _ (by rw[hX.1];omega)))) O ?_;refine gN 6 ?_ ?_<;>intro Wq
  ·refine gH 6 (.val (.io O O om om MU Jf) O ?_);refine .val (.ld (v:=.slice W8 la.length W9) (.of O) hS (k:=2) O UI (by have e:∀q,q=cs.length->(cs++[Value.slice W8 la.length W9]++KQ)[q]?=some (Value.slice W8 la.length W9):=by { intro q hq;subst hq;simp };exact e _ (by rw[hX.1];omega))) O ?_;refine gH 1 (.H6 (size:=1) (bytes:=1) hS (.of O) (.of O) (k:=3) (j:=0) O O Db Xx O O O O (Ni _) ⟨om,by unfold maxLen;omega⟩ O ?_);clear hS;intro v46 w hS;dsimp only[List.set]at hS;obtain⟨na,nc,rfl,Dc,_⟩:=hS.Av (k:=3) (v:=v46) O;refine .val (.io O O om om MU Jf) O (.s1 hS (k:=2) O O O O Jf (by simp only[Y0,List.length_cons,List.length_nil,hX.1];omega) ?_);clear hS;intro w hS;dsimp only[List.set]at hS;have hse:∀q,q=cs.length->(cs++[Value.slice W8 la.length W9]++KQ).set q (.slice na (la.length+(B5 ⟨pr.1,pr.2,false⟩).length) nc)=(cs++[.slice na (la.length+(B5 ⟨pr.1,pr.2,false⟩).length) nc])++KQ:=by
    intro q hq;subst hq;simp
   rw[hse _ (by rw[hX.1];omega)]at hS;refine gG 2 ?_;replace hS:=(((((hS.pick 4 O).pick 4 O).pick 4 O).drop (k:=3) O).drop (k:=3) O)
   replace hS:=hS.Bm (k:=0) (g:=ob) (cap:=oc) (rest:=KQ) (xs:=cs++[.slice na (la.length+(B5 ⟨pr.1,pr.2,false⟩).length) nc]) (n:=dn.length+1) (E:=172) (size:=1) O (su zb) u9 (by rw[Y0,hX.1];simp) (by rw[Y0,hX.1];rw[Y0,hX.1]at mX;simpa using mX);try dsimp only[List.set]at hS
   refine rd (i+1,dn,cs,la++B5 ⟨pr.1,pr.2,false⟩,.slice na (la++B5 ⟨pr.1,pr.2,false⟩).length nc,.slice (some ⟨ob,0,none⟩) (dn.length+1) oc,J) ⟨od,?_,λh=>Yy h od,od,hds,by(try dsimp only);rw[Y0];omega,hX,hJ,?_⟩
   ·(try dsimp only)
    rw[FC,Ec,show UP (i+1) dn (la++B5 ⟨pr.1,pr.2,false⟩)=dn++[la++B5 ⟨pr.1,pr.2,false⟩] from Y3 om,ZE];exact YC om
   ·(try dsimp only)
    rw[show UP (i+1) dn (la++B5 ⟨pr.1,pr.2,false⟩)=dn++[la++B5 ⟨pr.1,pr.2,false⟩] from Y3 om,show p7 (i+1) cs (Value.slice na (la++B5 ⟨pr.1,pr.2,false⟩).length nc)=cs++[Value.slice na (la++B5 ⟨pr.1,pr.2,false⟩).length nc] from Y3 om,Y0,Y0,show Ax (la++B5 ⟨pr.1,pr.2,false⟩)=Ax la++Ax (B5 ⟨pr.1,pr.2,false⟩) from Ym];exact hS
  replace hS:=(hS.pick 2 O);try dsimp only[List.eraseIdx]at hS
  replace hS:=hS.Bm (k:=0) (g:=ob) (cap:=oc) (rest:=KQ) (xs:=cs++[.slice W8 la.length W9]) (n:=dn.length+1) (E:=172) (size:=1) O (su zb) u9 (by rw[Y0,hX.1];simp) (by rw[Y0,hX.1];rw[Y0,hX.1]at mX;simpa using mX);try dsimp only[List.set]at hS
  refine gG 7 ?_;clear hS;intro b50 a51 c51 uE w hS;replace hS:=(((((hS.pick 4 O).pick 4 O).pick 3 O).pick 3 O).drop (k:=4) O)
  obtain⟨J2,AE,Qa,hS⟩:=hS.fV 2;try dsimp only[List.eraseIdx]at hS
  refine E_ (i+1,dn++[la],cs++[.slice W8 la.length W9],B5 ⟨pr.1,pr.2,false⟩,.slice fa (B5 ⟨pr.1,pr.2,false⟩).length fc,_,J2) O ⟨od,?_,λh=>Yy h od,by(try dsimp only);rw[Y0];simp only[List.length_cons,List.length_nil];omega,λx hx=>?_,od,(hX.mono AE).app u0 Qa,hJ.trans AE,?_⟩
  ·(try dsimp only)
   rw[FC,Ec,show UP (i+1) (dn++[la]) (B5 ⟨pr.1,pr.2,false⟩)=(dn++[la])++[B5 ⟨pr.1,pr.2,false⟩] from Y3 om,ZE];exact gL om
  ·rcases Yn.1 hx with hx|hx
   ·exact hds x hx
   ·simp at hx;subst hx;exact hla
  ·(try dsimp only)
   rw[show UP (i+1) (dn++[la]) (B5 ⟨pr.1,pr.2,false⟩)=(dn++[la])++[B5 ⟨pr.1,pr.2,false⟩] from Y3 om,show p7 (i+1) (cs++[Value.slice W8 la.length W9]) (Value.slice fa (B5 ⟨pr.1,pr.2,false⟩).length fc)=(cs++[Value.slice W8 la.length W9])++[Value.slice fa (B5 ⟨pr.1,pr.2,false⟩).length fc] from Y3 om,Y0,Y0];exact hS
 refine gH 2 (.nil (.ret ?_));refine λ_ A5=>RN A5 O ?_
 have uO:UO V=UP i dn la:=by rw[FC,Yk om];rfl
 have hQl:Q.length<=V.length:=by rw[<-hQ];exact Yw ..
 rw[uO];rcases Nx i with h0|h0
 ·obtain⟨rfl,rfl⟩:=hz h0;have ZE:UP i [] la=[]:=Y7 h0;have dX:p7 i [] lv=[]:=Y7 h0;rw[ZE,dX,List.length_nil]at hS;rw[ZE];obtain⟨ka,kc,rfl,CV,_⟩:=hS.vS 0;obtain⟨J2,AE,JL,hS⟩:=hS.fV 0;try dsimp only[List.eraseIdx]at hS
  exact⟨_,O,J2,ka,kc,[],O,GN.trans (hJ.trans AE),Y4 _,λx hx=>by simp at hx,⟨O,λi x h=>by simp at h⟩,JL,hS.y 0 1⟩
 have ZE:UP i dn la=dn++[la]:=Y3 om;have dX:p7 i cs lv=cs++[lv]:=Y3 om;rw[ZE,dX]at hS;rw[ZE];obtain⟨W8,W9,rfl,u0,_⟩:=hS.vS 1;obtain⟨ka,kc,rfl,CV,_⟩:=hS.vS 0;obtain⟨J2,AE,Qa,hS⟩:=hS.fV 1;try dsimp only[List.eraseIdx]at hS
 obtain⟨J3,BN,JL,hS⟩:=hS.fV 0;try dsimp only[List.eraseIdx]at hS
 refine⟨_,O,J3,ka,kc,cs++[.slice W8 la.length W9],O,GN.trans (hJ.trans (AE.trans BN)),by rw[Y0,jt];omega,λx hx=>?_,((hX.mono AE).app u0 Qa).mono BN,JL,hS⟩;rcases Yn.1 hx with hx|hx
 ·exact hds x hx
 ·simp at hx;subst hx;exact hla
structure Ut(s:St):Prop where
 log:Zk s.log
 A9:Kg s.A9
theorem Xbp:∀(l:List Ch) (out:Lu),(D_ l out).2=0->∀c∈l,Mh c=true
 | [],_,_,c,h=>by simp at h
 | x::l,out,h,c,hc=>by
  rw[D_]at h;split at h
  ·rename_i hx
   rcases Yi.1 hc with rfl|hc
   ·exact hx
   ·exact Xbp l _ h c hc
  ·cases h
theorem Xvd(k v:Lu):∀V:List Pr,(Lj k v V).length<=V.length+1
 | []=>by simp[Lj]
 | p::V=>by
  unfold Lj;split
  ·simp
  ·split
   ·simp
   ·have:=Xvd k v V;simp only[List.length_cons];omega
theorem Xft(l:List Ch):∀V:List Pr,(OU V l).length<=V.length+l.length:=by
 induction l with
 | nil=>intro V;exact Yd _
 | cons c l ih =>
  intro V;have h1:=ih (jo V c);have h2:(jo V c).length<=V.length+1:=by
   unfold jo;split
   ·exact Nat.le_succ_of_le (Yw ..)
   ·exact Xvd _ _ _
  show(OU (jo V c) l).length<=_
  rw[List.length_cons];omega
def OZ(s:St)(l:List Ch):Nat×Lg:=if(Gp s.log (D_ l []).1).1=5 then K9 (Gp s.log (D_ l []).1).2 (UO (OU s.A9 l))else Gp s.log (D_ l []).1
theorem R8{s:St}(h:Zk s.log)(l:List Ch):Zk (OZ s l).2:=by
 unfold OZ;split
 ·exact Xsi (Xbh h _) _
 ·exact Xbh h _
theorem X8b{s:St}{l:List Ch}(h:¬ ((D_ l []).2≠0\/l=[])):Xu s l=if(OZ s l).1=0 then(0,⟨(OZ s l).2,OU s.A9 l⟩)else((OZ s l).1,⟨(OZ s l).2,s.A9⟩):=by
 unfold Xu OZ;rw[Y3 h]
theorem Xx9{s:St}(h:Ut s)(l:List Ch):Ut (Xu s l).2/\(Xu s l).2.A9.length<=s.A9.length+l.length:=by
 by_cases h1:(D_ l []).2≠0\/l=[]
 ·have:Xu s l=((D_ l []).2,s):=by unfold Xu;exact Y7 h1
  rw[this];exact⟨h,yF _ _⟩
 ·rw[X8b h1];have hr:=Xbp l [] om;split
  ·exact⟨⟨R8 h.log l,Xum h.A9 hr⟩,Xft _ _⟩
  ·exact⟨⟨R8 h.log l,h.A9⟩,yF _ _⟩
theorem eQ(s:St)(sb lg db kb:Nat)(mv us sv pl:Va)(p:Lu)(hp:p.length<=1000)(hV:Kg s.A9)(dz:s.A9.length<=1000000)(As:La)(hS:Aa B w I (Ae sb [ptr lg 0,mv] 169::Ae lg [ptr db 0,Ab (s.log).gen,Ab (s.log).Az,Ab (s.log).used,us] 262::CU db kb sv pl (s.log).d (DJ mv (s.A9)::As))):Cz 25 [ptr sb 0,S p] w λv w'=>∃kv,v=kv/\Aa B w' I (Ar 58 2 kv (I_ s.A9 p).length (X2 X3 (I_ s.A9 p))::Ae sb [ptr lg 0,mv] 169::Ae lg [ptr db 0,Ab (s.log).gen,Ab (s.log).Az,Ab (s.log).used,us] 262::CU db kb sv pl (s.log).d (DJ mv (s.A9)::As)):=by
 refine gF 6 (Xj0 s.A9 mv hV dz p hp) ?_;clear hS;rintro _ w ⟨kv,rfl,hS⟩;exact gG 1 ⟨_,O,hS.s⟩
theorem Xr3(s:St)(sb lg db kb:Nat)(mv us sv pl:Va)(l:List Ch)(a:Oa)(c0:Nat)(ES:∀x∈l,x.key.length<=1000000/\x.val.length<=1000000)(SL:l.length<=100000)(hV:Bt I)(Qa:RS I a 3 l.length (X2 Fy l))(hO:Ut s)(dz:s.A9.length<=900000)(hP:AU I pl s.log.d.AY)(hU:B1 I us s.log.data)(As:La)(hS:Aa B w I (Ae sb [ptr lg 0,mv] 169::Ae lg [ptr db 0,Ab (s.log).gen,Ab (s.log).Az,Ab (s.log).used,us] 262::CU db kb sv pl (s.log).d (DJ mv (s.A9)::As))):Cz 115 [ptr sb 0,.slice a l.length c0] w λv w'=>∃J vM Kc D6 Ed,v=Ab ((Xu s l).1:Nat)/\Le I J/\AU J Ed (Xu s l).2.log.d.AY/\B1 J Kc (Xu s l).2.log.data/\Aa B w' J (Ae sb [ptr lg 0,vM] 169::Ae lg [ptr db 0,Ab ((Xu s l).2.log).gen,Ab ((Xu s l).2.log).Az,Ab ((Xu s l).2.log).used,Kc] 262::CU db kb D6 Ed ((Xu s l).2.log).d (DJ vM ((Xu s l).2.A9)::As)):=by
 refine gF 2 (cJ l a c0 ES SL Qa) ?_;clear hS;rintro _ w ⟨bv,rfl,hS⟩;obtain⟨ba,bc,rfl,hbc,_⟩:=hS.vS 0;refine gN 12 ?_ ?_<;>intro IG
 ·refine gG 2 ?_;have e:Xu s l=((D_ l []).2,s):=by
   unfold Xu;refine Y7 ?_;have h9:=IG;rcases h9 with h|h
   ·exact .inl om
   ·exact .inr (Yf om)
  rw[e];exact⟨I,mv,us,sv,pl,O,Le.refl _,hP,hU,hS.s⟩
 refine gG 0 ?_;have A8:¬ ((D_ l []).2≠0\/l=[]):=by
  have h9:=IG;rintro(h|h)
  ·omega
  ·subst h;simp at h9
 have jI:=Xtw l [] om;have hri:=Xbp l [] om;have hV9:=Xum hO.A9 hri;have q_:=Xft l s.A9;refine gF 5 (W5 s.A9 mv hO.A9 l a c0 hri om Qa) ?_;clear hS;rintro _ w ⟨mb,rfl,hS⟩;refine gH 1 (.nil (.ck [0,7] (σ:=Im×Va×Va×Va) (λ(J,ZI,Tq,zv) _m=>(6,Ab ((OZ s l).1:Nat))::_m) (λ(J,ZI,Tq,zv) w=>Le I J/\AU J Tq (OZ s l).2.d.AY/\B1 J zv (OZ s l).2.data/\Aa B w J (Ae sb [ptr lg 0,mv] 169::Ae lg [ptr db 0,Ab ((OZ s l).2).gen,Ab ((OZ s l).2).Az,Ab ((OZ s l).2).used,zv] 262::CU db kb ZI Tq ((OZ s l).2).d (DJ mv (s.A9)::DJ (.map (some mb)) (OU s.A9 l)::As))) ?_ ?_))
 ·refine gH 5 ?_;obtain⟨J1,Bn,IE,hS⟩:=hS.fV 2;try dsimp only[List.eraseIdx]at hS
  refine gF 0 (Xrt s.log lg db kb us sv pl (D_ l []).1 ba bc om (hV.mono Bn) IE hO.log (hP.mono Bn) (hU.mono Bn)) ?_;clear hS;rintro _ w ⟨J2,D6,Ed,Kc,rfl,AE,ZA,hU2,hS⟩;refine gN 3 ?_ ?_<;>intro Ft
  ·refine gD [6] [] [0,1,2,3,4,5,6,7] ?_;clear hS;intro w hS;refine gF 5 (YB (OU s.A9 l) (.map (some mb)) hV9 om) ?_;clear hS;rintro _ w ⟨J3,xa,xc,xs,rfl,BN,hsl,hse,hX,hRx,hS⟩;refine gF 0 (Xoi (Gp s.log (D_ l []).1).2 lg db kb Kc D6 Ed (UO (OU s.A9 l)) xs xa xc (λx hx=>by have:=hse x hx;omega) om ((hV.mono (Bn.trans AE)).mono BN) hX hRx (Xbh hO.log _) (ZA.mono BN) (hU2.mono BN)) ?_;clear hS;rintro _ w ⟨J4,sv4,pl4,us4,rfl,EA,hP4,hU4,hS⟩;have Ahv:=BN.trans EA;refine gG 1 ?_;have e:OZ s l=K9 (Gp s.log (D_ l []).1).2 (UO (OU s.A9 l)):=Y7 (oh Ft);rw[e];exact cd ⟨J4,sv4,pl4,us4⟩ ⟨Bn.trans (AE.trans (BN.trans EA)),hP4,hU4,(hS.x [4,5,5,5,5,5,6])⟩
  refine gG 0 ?_;have e:OZ s l=Gp s.log (D_ l []).1:=Y3 (oh Ft);rw[e];exact cd ⟨J2,D6,Ed,Kc⟩ ⟨Bn.trans AE,ZA,hU2,(hS.x [4,5,5,5,5,5,6])⟩
 rintro⟨J,ZI,Tq,zv⟩ w ⟨hJ,hP9,hU9,hS⟩;refine gN 2 ?_ ?_<;>intro dO
 ·refine gG 7 ?_;clear hS;intro w hS;rw[X8b A8,Y7 (oh dO)];exact⟨J,_,zv,ZI,Tq,by have h9:=dO;rw[h9];rfl,hJ,hP9,hU9,(((((((hS.pick 6 O).pick 5 O).pick 5 O).pick 5 O).pick 5 O).pick 5 O).drop (k:=6) O)⟩
 refine gG 2 ?_;rw[X8b A8,Y3 (oh dO)];exact⟨J,mv,zv,ZI,Tq,O,hJ,hP9,hU9,hS.s⟩
open FI
theorem Xur:∀(i x k:Nat),k<i->(Ki i x)[k]?=some (UInt8.ofNat (x/256^(i-1-k)))
 | 0,_,_,h=>Yy h om
 | i+1,x,0,_=>by rw[Ki];simp
 | i+1,x,k+1,h=>by rw[Ki,Y39,Xur i x k om,show i+1-1-(k+1)=i-1-k by omega]
theorem ZN(n:Nt)(hn:n.ticket.length<=1000000)(hu:n.url.length<=1000000)(hK:Kx I)(hP:BB I)(As:La)(hS:Aa B w I As):Ce B I As 202 [.agg (Xa n).toArray] w (.tuple #[S (Mq n).1,Ab ((Mq n).2:Nat)]):=by
 refine gH 4 ?_;clear hS;intro b1 w hS;refine gE 0 (Xpb n om om hK hP) ?_;clear hS;intro w hS;refine gM 1 ?_ ?_<;>intro H_ E5
 ·exact gG 2 ⟨by unfold Mq;rw[Y3 (su H_)];first|done|rfl,hS.s⟩
 refine gG 0 ?_;have hr:OP n=true:=su H_
 obtain⟨_,DW,KN,hur,ht0,SO⟩:=Xsk hr;have y5:Value.int .u8 n.tries=U8 ((UInt8.ofNat n.tries.toNat).toNat:Int):=by
  congr 1
  rw[show(UInt8.ofNat n.tries.toNat).toNat=n.tries.toNat%256 from by simp];omega
 refine gH 4 ?_;clear hS;intro bM w hS;rw[y5]at hS;replace hS:=hS.Bw (k:=0) (E:=5) (size:=1) (n:=1) O O de;try dsimp only[List.set]at hS
 refine gG 2 (.lk [1] (σ:=Nat×Va) (λ(k,v) _m=>(4,v)::(5,Ab (7-(k:Int)))::_m) (λ(k,v) w=>k<=8/\Aa B w I (Ar 5 1 v (k+1) (Ax (UInt8.ofNat n.tries.toNat::(Ki 8 n.next.toNat).take k))::Ae b1 [S n.ticket,S n.url,Ab n.tries,Ab n.next] 89::As)) (λ(k,v)=>8-k) (0,.slice (some (ad bM 0)) 1 1) ⟨Y4 _,hS⟩ ?_);rintro⟨k,v⟩ w ⟨hk,hS⟩;refine gN 2 ?_ ?_<;>intro Dh
 ·refine gG 0 ?_;have hk8:(Ki 8 n.next.toNat)[k]?=some (UInt8.ofNat (n.next.toNat/256^(7-k))):=Xur 8 _ k (oh Dh);have hcw:IntKind.u8.wrap (n.next/2^(8*(7-(k:Int))).toNat)=((UInt8.ofNat (n.next.toNat/256^(7-k))).toNat:Int):=by
   rw[IntKind.wrap_u8,show(8*(7-(k:Int))).toNat=8*(7-k)by have h9:=Dh;omega,Int.pow_mul];rw[show(UInt8.ofNat (n.next.toNat/256^(7-k))).toNat=n.next.toNat/256^(7-k)%256 from by simp];rw[Int.natCast_emod,Int.natCast_ediv,Int.natCast_pow,yx DW];rfl
  have N3:(Ki 8 n.next.toNat).take (k+1)=(Ki 8 n.next.toNat).take k++[UInt8.ofNat (n.next.toNat/256^(7-k))]:=by rw[Yo,hk8];rfl
  refine gH 5 (.val (Ex.shr (.of O) (.of O) (oh Dh) (by show _<=(64:Int);omega)) O ?_);refine .val (Ex.Hp (.of O) Dq CY) O (gH 1 ?_);clear hS;intro b24 w hS;rw[hcw]at hS;refine gG 5 ?_;clear hS;intro a25 c25 dU w hS;replace hS:=hS.px [1,1];refine⟨(k+1,_),⟨O,by(try dsimp only);rw[show(7-((k+1:Nat):Int))=7-(k:Int)-1 by omega];rfl,O,trivial⟩,⟨by(try dsimp only);have h9:=Dh;omega,?_⟩,by(try dsimp only);have h9:=Dh;omega⟩;rw[N3];simpa using hS
 refine gG 0 ?_;have uX:k=8:=by have h9:=Dh;omega
 subst uX;rw[Yg (by rw[zY];exact Yd _)]at hS;obtain⟨gb,cap,r,rfl,Qh,HK,NV,LP,hS⟩:=hS.AP (k:=0) O om;try dsimp only[List.set]at hS
 have q_:(UInt8.ofNat n.tries.toNat::Ki 8 n.next.toNat).length=8+1:=by rw[List.length_cons,zY]
 have SL:=zY 8 n.next.toNat;rw[<-q_];refine gH 1 ?_;refine .val (Gk.Ex.E0 (l:=UInt8.ofNat n.tries.toNat::Ki 8 n.next.toNat) (o:=0) (.of O) hS (k:=0) O Db CY BV (λj hj=>by
  rw[Yj,Y9 (by rw[Yh];exact hj),Ys,Y2 hj];rfl)) O ?_
 exact gG 5 ⟨by unfold Mq;rw[Y7 hr];first|done|rfl,hS.s⟩
def IZ(n:Int):Lu:=((List.range 8).map λj=>n/2^(8*(7-j))).map Ew
def gf(n:Int)(i:Nat):Lv:=(List.range 8).map λj=>if 8<=i+j then Value.int .u8 (IntKind.u8.wrap (n/2^(8*(7-j))))else Value.int .u8 0
theorem gk(n:Int)(h:i<8):(gf n i).set (0+(7-(i:Int)).toNat*1) (.int .u8 (IntKind.u8.wrap (n/2^(8*(i:Int)).toNat)))=gf n (i+1):=by
 rcases (by omega:i=0\/i=1\/i=2\/i=3\/i=4\/i=5\/i=6\/i=7)with rfl|rfl|rfl|rfl|rfl|rfl|rfl|rfl<;>rfl
theorem gj(n:Int):gf n 8=Ax (IZ n):=by unfold IZ;rw[iU];rfl
theorem kJ(n:Int):(IZ n).length=8:=by simp[IZ]
def OT(l:List Lu):Lu:=(l.map λs=>Ew (s.length:Nat)::s).flatten
def HW(r:Al):Lu:=[r.kind,r.Bq,if r.fresh then 1 else 0].map Ew++IZ r.made++IZ r.used
def KU(r:Al):List Lu:=[r.parent,r.user,r.service,r.url]
def PF(r:Al):Lu×Nat:=if Xt r then(HW r++OT (KU r),0)else([],1)
theorem Xe4(n:Int)(As:La)(hS:Aa B w I As):Cz 246 [Ab n] w λv w'=>∃b,v=.slice (some (ad b 0)) 8 8/\Aa B w' I (Ae b (Ax (IZ n)) 5::As):=by
 refine gG 1 ?_;refine .make (l:=8) hS (.of O) (.of O) Db Xx O (by simp[t5]<;>omega) om O O O ?_;clear hS;intro b5 w hS;refine gG 4 (.lk [0,3,7] (σ:=Nat) (λi _m=>(8,Ab (i:Nat))::_m) (λi w=>i<=8/\Aa B w I (Ae b5 (gf n i) 5::As)) (λi=>8-i) 0 ⟨Y4 _,hS⟩ ?_);rintro i w ⟨hi,hS⟩;refine gN 1 ?_ ?_<;>intro DV
 ·have hi8:i<8:=by have h9:=DV;omega
  refine gH 8 (.val (Ex.shr (.of O) (.of O) om (by show 8*(i:Int)<=64;omega)) O ?_);refine .val (.Hp (.of O) Dq CY) O (.val (.io O O om om Db FJ) O ?_);refine .s1 hS (k:=0) O O O O FJ (by simp[gf];omega) ?_;clear hS;intro w hS;dsimp only[List.set_cons_zero]at hS;refine gG 2 (rd (i+1) ⟨od,?_⟩);rw[<-gk n hi8];exact hS
 refine gG 2 ?_;have h8:i=8:=by have h9:=DV;omega
 subst h8;rw[gj]at hS;exact⟨b5,O,hS⟩
theorem Sr(b:Bool):IntKind.u8.wrap (if b then 1 else 0)=if b then 1 else 0:=by cases b<;>rfl
theorem Xbv(l:List Lu)(x:Lu):OT (l++[x])=OT l++(Ew (x.length:Nat)::x):=by simp[OT]
theorem cK(r:Al)(hn:r.name.length<=1000000)(hp:r.parent.length<=1000000)(hK:Ba I)(hP:BB I)(As:La)(hS:Aa B w I As):Ce B I As 159 [.agg (X8 r).toArray] w (.tuple #[S (PF r).1,Ab ((PF r).2:Nat)]):=by
 refine gH 4 ?_;clear hS;intro b1 w hS;refine gE 0 (Xep r hn hp hK hP) ?_;clear hS;intro w hS;refine gM 1 ?_ ?_<;>intro CQ DO
 ·refine gG 2 ?_;have e:PF r=([],1):=by unfold PF;exact Y3 (su CQ)
  rw[e];exact⟨O,hS.s⟩
 refine gH 1 (.nil (.ck [1] (σ:=Unit) (λ_ _m=>(4,.int .u8 (if r.fresh then 1 else 0))::_m) (λ_ w=>Aa B w I (Ae b1 (X8 r) 188::As)) ?_ ?_))
 ·refine gM 2 ?_ ?_<;>intro Bu B_
  ·refine gG 1 ?_;refine⟨(),⟨by(try show _=_);rw[Bu];rfl,O,trivial⟩,hS⟩
  refine gG 0 ?_;refine⟨(),⟨by(try show _=_);rw[Bu];rfl,O,trivial⟩,hS⟩
 rintro _ w hS;refine .ck [1] (σ:=Va) (λkv _m=>(5,kv)::_m) (λkv w=>Aa B w I (Ar 5 1 kv (HW r).length (Ax (HW r))::Ae b1 (X8 r) 188::As)) ?_ ?_
 ·refine .dw (λw=>∃R,Aa B w I (Ae b1 (X8 r) 188::R)) (λj=>!([].contains j)) ?_;replace hS:=hS.drew;generalize w.drew=w at hS ⊢;have hH:∃R,Aa B w I (Ae b1 (X8 r) 188::R):=⟨_,(hS.x [0])⟩
  refine .tp 0 O (λw=>(.fo 0 O Iq O O BU O)) (.tk 1 O hH (λw ⟨R,hS⟩=>(.lo O hS (k:=0) O Cv O)) (.tp 2 O (λw=>(.Hp (.of O) Dq CY)) ?_));refine .tp 3 O (λw=>(.fo 8 O Iq O O BU O)) (.tk 4 O hH (λw ⟨R,hS⟩=>(.lo O hS (k:=0) O Cv O)) (.tp 5 O (λw=>(.Hp (.of O) Dq CY)) (.tp 6 O (λw=>(.mo O)) ?_)));refine .tp 8 O (λw=>(.fo 6 O Iq O O BU O)) (.tk 9 O hH (λw ⟨R,hS⟩=>(.lo O hS (k:=0) O Cv O)) (.tp 12 O (λw=>(.fo 7 O Iq O O BU O)) (.tk 13 O hH (λw ⟨R,hS⟩=>(.lo O hS (k:=0) O Cv O)) (.branch [7,10] kr O (WO.cons O ?_ (WO.cons O ?_ (WO.nil)))))))
  ·refine .buildSlice (cs:=[_,_,_]) hS (QB O (QB O (QB O pM))) Db FJ OG O O O O ?_;clear hS;intro tj w hS;replace hS:=hS;try dsimp only[List.eraseIdx]at hS
   replace hS:=hS.say (k:=0) (A':=Ae tj (Ax ([r.kind,r.Bq,if r.fresh then 1 else 0].map Ew)) 5) O (λh hh=>by rw[iU];simp only[Yt,Hm];rw[Sr];exact hh);dsimp only[List.set]at hS;replace hS:=hS.Bw (size:=1) (n:=3) (k:=0) O O de;dsimp only[List.set]at hS;refine .nil ?_;clear hH;have hH:∃R,Aa B w I (Ae b1 (X8 r) 188::R):=⟨_,(hS.x [1])⟩
   refine⟨λ_ _=>hH,?_⟩;refine .b1 10 O (.call MI O (Be O X4) O (Xe4 r.made _ hS) ?_);clear hS;rintro _ w ⟨n23,rfl,hS⟩;refine .nil ?_;clear hH;have hH:∃R,Aa B w I (Ae b1 (X8 r) 188::R):=⟨_,(hS.x [2])⟩
   refine⟨λ_ _=>hH,?_⟩;refine .b1 11 O (.append (size:=1) (bytes:=1) hS (.of O) (.of O) (k:=0) O Db Xx O O O O (by simp[Ax,kJ]) O (Ni _) ⟨om,by unfold maxLen;omega⟩ O ?_);clear hS;intro v24 w hS;try dsimp only[List.set]at hS
   obtain⟨a24,c24,rfl,IJ,_⟩:=hS.Av (k:=0) (v:=v24) O;refine .nil ?_;clear hH;have hH:∃R,Aa B w I (Ae b1 (X8 r) 188::R):=⟨_,(hS.x [1])⟩
   refine⟨λ_ _=>hH,?_⟩;refine .b1 14 O (.call MI O (Be O X4) O (Xe4 r.used _ hS) ?_);clear hS;rintro _ w ⟨n27,rfl,hS⟩;refine .nil ?_;clear hH;have hH:∃R,Aa B w I (Ae b1 (X8 r) 188::R):=⟨_,(hS.x [2])⟩
   refine⟨λ_ _=>hH,?_⟩;refine .b1 15 O (.append (size:=1) (bytes:=1) hS (.of O) (.of O) (k:=0) O Db Xx O O O O (by simp[Ax,kJ]) O (Ni _) ⟨om,by unfold maxLen;omega⟩ O ?_);clear hS;intro v28 w hS;try dsimp only[List.set]at hS
   obtain⟨a28,c28,rfl,uA,_⟩:=hS.Av (k:=0) (v:=v28) O;refine .nil ?_;clear hH;have hH:∃R,Aa B w I (Ae b1 (X8 r) 188::R):=⟨_,(hS.x [1])⟩
   refine⟨λ_ _=>hH,?_⟩;refine .tp 16 O (λw=>(.ao O)) (.dn ?_);have e9:Ax (HW r)=Ax ([r.kind,r.Bq,if r.fresh then 1 else 0].map Ew)++Ax (IZ r.made)++Ax (IZ r.used):=by simp[HW,Ax]
   have e8:(HW r).length=3+8+8:=by simp[HW,kJ]
   refine Vw _ O ?_;rw[e9,e8];exact(hS.x [1,1])
  ·refine .call MI O (Be O X4) O (Xe4 r.made _ hS) ?_;clear hS;rintro _ w ⟨n23,rfl,hS⟩;refine .nil ?_;clear hH;have hH:∃R,Aa B w I (Ae b1 (X8 r) 188::R):=⟨_,(hS.x [1])⟩
   refine⟨λ_ _=>hH,?_⟩;refine .b1 7 O (.buildSlice (cs:=[_,_,_]) hS (QB O (QB O (QB O pM))) Db FJ OG O O O O ?_);clear hS;intro tj w hS;replace hS:=hS;try dsimp only[List.eraseIdx]at hS
   replace hS:=hS.say (k:=0) (A':=Ae tj (Ax ([r.kind,r.Bq,if r.fresh then 1 else 0].map Ew)) 5) O (λh hh=>by rw[iU];simp only[Yt,Hm];rw[Sr];exact hh);dsimp only[List.set]at hS;replace hS:=hS.Bw (size:=1) (n:=3) (k:=0) O O de;dsimp only[List.set]at hS;refine .nil ?_;clear hH;have hH:∃R,Aa B w I (Ae b1 (X8 r) 188::R):=⟨_,(hS.x [2])⟩
   refine⟨λ_ _=>hH,?_⟩;refine .b1 11 O ?_;replace hS:=hS.pick 1 O;try dsimp only[List.eraseIdx]at hS
   refine .append (size:=1) (bytes:=1) hS (.of O) (.of O) (k:=0) O Db Xx O O O O (by simp[Ax,kJ]) O (Ni _) ⟨om,by unfold maxLen;omega⟩ O ?_;clear hS;intro v24 w hS;try dsimp only[List.set]at hS
   obtain⟨a24,c24,rfl,IJ,_⟩:=hS.Av (k:=0) (v:=v24) O;refine .nil ?_;clear hH;have hH:∃R,Aa B w I (Ae b1 (X8 r) 188::R):=⟨_,(hS.x [1])⟩
   refine⟨λ_ _=>hH,?_⟩;refine .b1 14 O (.call MI O (Be O X4) O (Xe4 r.used _ hS) ?_);clear hS;rintro _ w ⟨n27,rfl,hS⟩;refine .nil ?_;clear hH;have hH:∃R,Aa B w I (Ae b1 (X8 r) 188::R):=⟨_,(hS.x [2])⟩
   refine⟨λ_ _=>hH,?_⟩;refine .b1 15 O (.append (size:=1) (bytes:=1) hS (.of O) (.of O) (k:=0) O Db Xx O O O O (by simp[Ax,kJ]) O (Ni _) ⟨om,by unfold maxLen;omega⟩ O ?_);clear hS;intro v28 w hS;try dsimp only[List.set]at hS
   obtain⟨a28,c28,rfl,uA,_⟩:=hS.Av (k:=0) (v:=v28) O;refine .nil ?_;clear hH;have hH:∃R,Aa B w I (Ae b1 (X8 r) 188::R):=⟨_,(hS.x [1])⟩
   refine⟨λ_ _=>hH,?_⟩;refine .tp 16 O (λw=>(.ao O)) (.dn ?_);have e9:Ax (HW r)=Ax ([r.kind,r.Bq,if r.fresh then 1 else 0].map Ew)++Ax (IZ r.made)++Ax (IZ r.used):=by simp[HW,Ax]
   have e8:(HW r).length=3+8+8:=by simp[HW,kJ]
   refine Vw _ O ?_;rw[e9,e8];exact(hS.x [1,1])
 rintro kv w hS;refine gG 11 ?_;clear hS;intro b37 w hS;have A5:Xt r=true:=su CQ
 have hr8:=A5;simp only[Xt,Yb,dq1]at hr8
 have htx:∀x∈KU r,x.length<=1000000:=by
  intro x hx;simp only[KU,Yi,Fw,or_false]at hx
  rcases hx with rfl|rfl|rfl|rfl<;>omega
 have Bh:=((hS.pick 1 O).drop (k:=2) O);clear hS;have e7:HW r++OT ((KU r).take 0)=HW r:=by simp[OT]
 refine .lk [37,38] (σ:=Nat×Va) (λ(i,kv) _m=>(5,kv)::(39,Ab (i:Nat))::_m) (λ(i,kv) w=>i<=4/\(HW r++OT ((KU r).take i)).length<=19+i*1000001/\Aa B w I (Ar 5 1 kv (HW r++OT ((KU r).take i)).length (Ax (HW r++OT ((KU r).take i)))::Ae b37 ((KU r).map S) 9::As)) (λ(i,kv)=>4-i) (0,kv) ⟨Y4 _,by rw[e7];simp[HW,kJ],by rw[e7];exact Bh⟩ ?_;rintro⟨i,kv⟩ w ⟨hi,Mz,hS⟩;refine gN 1 ?_ ?_<;>intro Acn
 ·refine gG 0 ?_;obtain⟨x,hx⟩:∃x,(KU r)[i]?=some x:=⟨_,Y2 (by show i<4;omega)⟩
  have CW:x.length<=1000000:=htx x (Y6 hx);have N3:(KU r).take (i+1)=(KU r).take i++[x]:=by rw[Yo,hx];rfl
  refine gH 1 ?_;refine .val (.ld (v:=S x) (.of O) hS (k:=1) O BF (by(try rw[Y8]);rw[Gv,Yj,Ys,hx];rfl)) O ?_;refine gH 4 (.val (.Hp (.of O) Dq CY) O (gH 1 ?_));clear hS;intro b47 w hS;replace hS:=hS;try dsimp only[List.eraseIdx]at hS
  replace hS:=hS.say (k:=0) (A':=Ae b47 (Ax [Ew (x.length:Nat)]) 5) O (λh hh=>by rw[show[Ew (x.length:Nat)]=[((x.length:Nat):Int)].map Ew from O,iU];exact hh);dsimp only[List.set]at hS;refine .append (size:=1) (bytes:=1) hS (.of O) (.of O) (k:=0) O Db Xx O O O O O O (Ni _) ⟨om,by unfold maxLen;omega⟩ O ?_;clear hS;intro v48 w hS;try dsimp only[List.set]at hS
  refine gH 1 (.Fh hS (.of O) (.of O) (k:=0) O Db BV Xx O O O om O ?_);clear hS;intro v50 w hS;try dsimp only[List.set]at hS
  refine gG 3 (E_ (i+1,_) O ⟨od,?_,?_⟩)
  ·(try dsimp only)
   rw[N3,Xbv,<-Yc,Y0,List.length_cons];omega
  ·(try dsimp only)
   have e6:Ax (HW r++OT ((KU r).take (i+1)))=Ax (HW r++OT ((KU r).take i))++Ax [Ew (x.length:Nat)]++Ax x:=by rw[N3,Xbv];simp[Ax]
   have e5:(HW r++OT ((KU r).take (i+1))).length=(HW r++OT ((KU r).take i)).length+1+x.length:=by rw[N3,Xbv,<-Yc,Y0,List.length_cons];omega
   rw[e6,e5];exact(hS.x [1,1])
 refine gG 0 ?_;obtain⟨ka,kc,rfl,CV,_⟩:=hS.vS 0;obtain⟨J,hJ,JL,hS⟩:=hS.fV 0;try dsimp only[List.eraseIdx]at hS
 refine gH 1 (.val (.Vu (.of O) hS JL Db CY BV) O (gG 2 ?_));have e:PF r=(HW r++OT (KU r),0):=by unfold PF;exact Y7 A5
 have h4:(KU r).take i=KU r:=Yg (by show 4<=i;omega);rw[e];rw[h4];exact⟨O,hS.s.weaken hJ⟩
theorem XV(r s:Al)(w:Wo):(Op.equalIn 10000 188 (.agg (X8 r).toArray) (.agg (X8 s).toArray)).run prog w=.ok (decide (r=s)) w:=by
 have hS:prog.underlying 188=some (.struct (prog.fieldsOf 188)):=by kernel_rfl
 have hp:prog.stoodInHeld 188=false:=by kernel_rfl
 have ui:=Dq;have ai:=Cv;have us:=BV;have as9:=BF;have ub:=OE;have ab:=I8;rw[show(10000:Nat)=9999+1 from O,run_equalIn_agg w 9999 188 _ _ hS hp];simp only[Program.fieldsOf,Iq]
 obtain⟨k,n,pa,u,sv,ur,m,us',uc,f⟩:=r;obtain⟨k',n',pa',u',zu,ur',m',Ah7,uc',f'⟩:=s;unfold X8
 go_simp
 repeat' split
 all_goals simp_all
theorem Ex.Abu{d:Option Nat}{g:Option (Nat×Bool)}{x y:Operand}{r s:Al}(hx:Ev n L x (.agg (X8 r).toArray))(hy:Ev n L y (.agg (X8 s).toArray)):Ex prog n L w ⟨d,.binOp .neq 188 x y t',ty,pos,af,g⟩ (.bool (!decide (r=s))) w :=
 Fa hx hy (λp q=>run_eqGuard_agg w _ _ _ _ _ _ kr) (by rw[run_neq_struct,XV];rfl)
section
open Go.Shelf Go.RowKit Go.Lib Go.Sort
abbrev Oz: Ren := ⟨λ|6 => 197|15 => 243|14 => 289|28 => 327|29 => 328|20 => 379|21 => 380|22 => 381|23 => 382|24 => 383|25 => 384|26 => 385|27 => 386|46 => 432|47 => 405|48 => 406|49 => 433|50 => 434|57 => 448|n => n, λ|22 => 173|24 => 270|25 => 320|39 => 180|53 => 437|55 => 22|46 => 442|45 => 441|50 => 291|66 => 501|70 => 340|76 => 525|77 => 526|n => n, λ|n => n⟩
theorem I4: SlLaysF0.n6 prog Oz := by constructor<;>first|kernel_rfl|(intro w;kernel_rfl)|exact q9q
instance:Inhabited Ch:=⟨⟨[],[],false⟩⟩
def Zm(p q:Ch):Int:=compareBytes p.key q.key
theorem AbP:SWO (ltOf Zm) where
 irrefl x:=pK x.key
 trans x y z:=rZ x.key y.key z.key
 ntrans x y z:=Xiy x.key y.key z.key
def UQ(l:List Ch):List Ch:=(pdq (ltOf Zm) l.toArray 0 l.toArray.size (Lib.bitLen l.toArray.size) true true).toList
theorem X8q(l:List Ch):(UQ l).Perm l:=by
 have h:=(pdq_sorts (ltOf Zm) AbP l.toArray 0 l.toArray.size (Lib.bitLen l.toArray.size) true true (Y4 _) (Yd _) (Or.inl O)).1;obtain⟨h1,h2,h3⟩:=h;have ES:(UQ l).length=l.length:=by unfold UQ;rw[Zu,h1];simp
 have h8:List.take l.length (UQ l)=UQ l:=Yg (by rw[ES];exact Yd _);rw[<-h8];unfold UQ;simpa using h3
theorem pO(l:List Ch):(UQ l).length=l.length:=(X8q l).length_eq
def ZK(gc:Nat):Prop:=(∀args w,(callFunc gc args).run prog w=.ok (.enter gc args) w)/\∀(x y:Ch) (W:Wo),Calls prog gc #[.agg (Fy x).toArray,.agg (Fy y).toArray] W λe w'=>e=.returned (.int .i64 (Zm x y))/\∃q vZ,w'=grow (W.drewN q) vZ
theorem Xpt(gc:Nat)(jK:ZK gc)(l:List Ch)(v9:Va)(k:Nat)(As:La)(hS:Aa B w I As)(hk:As[k]?=some (Ar 270 3 v9 l.length (X2 Fy l)))(hl:l.length<=1000000):Ce B I (As.set k (Ar 270 3 v9 (UQ l).length (X2 Fy (UQ l)))) 197 [v9,.func (.func gc) #[] #[]] w (.tuple #[]):=by
 have Cw:k<As.length:=(Y1.1 hk).1;obtain⟨a,c,rfl,hc,_⟩:=hS.Av hk;cases a with
 | none =>
  have h0:l=[]:=hS.D5 hk λ_ ⟨_,hh⟩=>by
   rcases hh with⟨_,h,_⟩|⟨b,cap,r,hv,_⟩
   ·exact Yf h
   ·cases hv
  subst h0;refine(AnyF.slices_SortFunc_none I4 none c (.func (.func gc) #[] #[]) w).mono ?_;rintro e w' ⟨rfl,rfl⟩;have e0:UQ []=[]:=Yf (pO []);have e1:As.set k (Ar 270 3 (.slice none 0 c) 0 (X2 Fy []))=As:=by
   have:=(Y1.1 hk).2
   exact(Y5 (As.set k) this.symm).trans (sU _)
  refine⟨_,O,O,?_⟩;rw[e0];show Aa B w' I (As.set k (Ar 270 3 (.slice none 0 c) 0 (X2 Fy [])))
  rw[e1];exact hS
 | some a =>
  obtain⟨g,rfl,hg,hH,NQ⟩:=Aa.gO (AD:=Fy) (s:=3) (λ_=>rfl) de hS O hk;have DQ:=AnyQ.slices_SortFunc_eq I4 3 QV x_ Fy (λ_=>rfl) (λx v hv=>by simp[Fy]at hv;rcases hv with rfl|rfl|rfl<;>rfl) Zm AbP gc #[] g 0 c l.toArray w jK.1 (λ_ _ _ _ x y=>jK.2 x y _) hH hg (by simp;omega);refine DQ.mono ?_;rintro e w' ⟨rfl,m,os,rfl⟩;have ES:(pdq (ltOf Zm) l.toArray 0 l.toArray.size (Lib.bitLen l.toArray.size) true true).size=l.length:=by
   have:=pO l;unfold UQ at this;rwa[Zu]at this
  refine⟨_,O,O,?_⟩;have h9:=NQ m _ os ES;rw[pO l];exact h9
end
section
open Go.Shelf Go.RowKit Go.Lib Go.Sort
theorem VK(x y:Ch)(W:Wo):Calls prog 198 #[.agg #[S x.key,S x.val,.bool x.gone],.agg #[S y.key,S y.val,.bool y.gone]] W λe w'=>e=.returned (.int .i64 (Zm x y))/\∃q vZ,w'=grow (W.drewN q) vZ:=by
 have DQ:=λW'=>strings_Compare ⟨x.key.toArray⟩ ⟨y.key.toArray⟩ W'
 change ∀W',Calls prog 153 _ _ _ at DQ;have e9:compareBytes (⟨x.key.toArray⟩:ByteArray).data.toList (⟨y.key.toArray⟩:ByteArray).data.toList=Zm x y:=rfl;rw[e9]at DQ;generalize Zm x y=r at DQ ⊢
 go_enter func198,ntmps198
 go_wp2_with (go_at_call 153;refine(DQ _).mono ?_;rintro e w' ⟨rfl,rfl⟩)
 go_ret
 exact⟨O,0,_,by rw[alloc_eq_grow,alloc_eq_grow,grow_grow];rfl⟩
theorem ct:ZK 198:=⟨enters_of func198 kr O,λx y W=>VK x y W⟩
end
section
open Go.Shelf Go.RowKit Go.Lib Go.Sort
theorem Xnb(x y:Ch)(W:Wo):Calls prog 203 #[.agg #[S x.key,S x.val,.bool x.gone],.agg #[S y.key,S y.val,.bool y.gone]] W λe w'=>e=.returned (.int .i64 (Zm x y))/\∃q vZ,w'=grow (W.drewN q) vZ:=by
 have DQ:=λW'=>strings_Compare ⟨x.key.toArray⟩ ⟨y.key.toArray⟩ W'
 change ∀W',Calls prog 153 _ _ _ at DQ;have e9:compareBytes (⟨x.key.toArray⟩:ByteArray).data.toList (⟨y.key.toArray⟩:ByteArray).data.toList=Zm x y:=rfl;rw[e9]at DQ;generalize Zm x y=r at DQ ⊢
 go_enter func203,ntmps203
 go_wp2_with (go_at_call 153;refine(DQ _).mono ?_;rintro e w' ⟨rfl,rfl⟩)
 go_ret
 exact⟨O,0,_,by rw[alloc_eq_grow,alloc_eq_grow,grow_grow];rfl⟩
theorem Xqy:ZK 203:=⟨enters_of func203 kr O,λx y W=>Xnb x y W⟩
end
def RE(la lb:List Al):List Ch:=(la.filter λx=>decide (BG lb x.name<0)).map λx=>⟨x.name,[],true⟩
def Ov(la lb:List Al):List Ch:=(lb.filter λx=>!(get la x.name).isSome||!decide (getD la x.name=x)).map λx=>⟨x.name,(PF x).1,false⟩
def Jg(la lb:List Al):List Ch:=UQ (RE la lb++Ov la lb)
theorem pI(p:α->Bool)(l:List α)(i:Nat)(x:α)(h:l[i]?=some x):(l.take (i+1)).filter p=(l.take i).filter p++(if p x then[x]else[]):=by
 rw[Yo,h,Yu,RT];congr 1;rw[Ln];rfl
theorem Xv2{la lb:List Al}(h1:la.length<=10000)(h2:lb.length<=10000)(i:Nat):(RE la lb++((lb.take i).filter λx=>!(get la x.name).isSome||!decide (getD la x.name=x)).map λx=>(⟨x.name,(PF x).1,false⟩:Ch)).length<=20000:=by
 have h3:(RE la lb).length<=la.length:=by unfold RE;rw[Yh];exact Yw ..
 have h4:((lb.take i).filter λx=>!(get la x.name).isSome||!decide (getD la x.name=x)).length<=lb.length:=Yx (Yw ..) (by rw[Yl];omega);rw[Y0,Yh];omega
theorem Xe6{l:List Al}(h:Wf l):∀r∈l,r.name.length<=1000000/\r.parent.length<=1000000:=λr hr=>by have:=zP (h.right r hr);omega
theorem VL(ta tb:Nat)(ra rb:Int)(a a2:Oa)(c c2:Nat)(la lb:List Al)(hla:Wf la)(hlb:Wf lb)(NV:la.length<=10000)(LP:lb.length<=10000)(hK:Ba I)(hP:BB I)(As:La)(hS:Aa B w I (B7 ta ra a c la (B7 tb rb a2 c2 lb As))):Cz 112 [ptr ta 0,ptr tb 0] w λv w'=>∃kv,v=kv/\Aa B w' I (Ar 270 3 kv (Jg la lb).length (X2 Fy (Jg la lb))::B7 ta ra a c la (B7 tb rb a2 c2 lb As)):=by
 have Bh:=(((((hS.pick 3 O).pick 3 O).pick 3 O).pick 3 O)).An 270 3;clear hS;refine gG 8 (.lk [0,1,17,18] (σ:=Nat×Va) (λ(i,kv) _m=>(5,kv)::(19,Ab (i:Nat))::_m) (λ(i,kv) w=>i<=la.length/\Aa B w I (Ar 270 3 kv (((la.take i).filter λx=>decide (BG lb x.name<0)).map λx=>(⟨x.name,[],true⟩:Ch)).length (X2 Fy (((la.take i).filter λx=>decide (BG lb x.name<0)).map λx=>(⟨x.name,[],true⟩:Ch)))::B7 ta ra a c la (B7 tb rb a2 c2 lb As))) (λ(i,kv)=>la.length-i) (0,.slice none 0 0) ⟨Y4 _,Bh⟩ ?_);rintro⟨i,kv⟩ w ⟨hi,hS⟩;clear Bh;refine gN 1 ?_ ?_<;>intro FX
 ·refine gG 0 ?_;obtain⟨x,hx⟩:∃x,la[i]?=some x:=⟨_,Y2 om⟩
  have CW:=Xe6 hla x (Y6 hx);obtain⟨p,rfl,hp⟩:=aK (l:=la) hS (k:=2) O i x hx;refine gG 0 (.val (.ii O O om om Uo UJ) O ?_);refine .val (.as (.LY (vs:=X8 x) (.of O) (by intro j v hj;rw[Y8];exact hp j v hj) kV UJ O) O) O ?_;refine gH 5 ?_;clear hS;intro b7 w hS;refine gE 0 (p5 tb rb a2 c2 lb om x.name) ?_;clear hS;intro w hS;refine gM 1 ?_ ?_<;>intro Em JP
  ·have LS:(((la.take i).filter λx=>decide (BG lb x.name<0)).map λx=>(⟨x.name,[],true⟩:Ch)).length<=10000:=by rw[Yh];exact Yx (Yw ..) (by rw[Yl];omega)
   refine gG 9 ?_;clear hS;intro b32 a33 c33 uC w hS;refine E_ (i+1,_) O ⟨od,?_⟩
   (try dsimp only)
   rw[pI _ la i x hx,Y7 (su Em),Ym,Yt,Hm,YT,Y0];exact(hS.z [1,1,5,5,5] 5 1)
  refine gG 2 (E_ (i+1,_) O ⟨od,?_⟩)
  (try dsimp only)
  rw[pI _ la i x hx,Y3 (su Em),Yr];exact(hS.z [1,1,5,5,5] 5 1)
 refine gG 6 ?_;rw[show la.take i=la from Yg om]at hS;have e9:RE la lb++((lb.take 0).filter λx=>!(get la x.name).isSome||!decide (getD la x.name=x)).map (λx=>(⟨x.name,(PF x).1,false⟩:Ch))=RE la lb:=by simp
 have Bh:=(((((hS.pick 4 O).pick 4 O).pick 4 O).pick 4 O).pick 4 O);clear hS;refine .lk [0,1,38,39] (σ:=Nat×Va) (λ(i,kv) _m=>(5,kv)::(40,Ab (i:Nat))::_m) (λ(i,kv) w=>i<=lb.length/\Aa B w I (Ar 270 3 kv (RE la lb++((lb.take i).filter λx=>!(get la x.name).isSome||!decide (getD la x.name=x)).map λx=>(⟨x.name,(PF x).1,false⟩:Ch)).length (X2 Fy (RE la lb++((lb.take i).filter λx=>!(get la x.name).isSome||!decide (getD la x.name=x)).map λx=>(⟨x.name,(PF x).1,false⟩:Ch)))::B7 ta ra a c la (B7 tb rb a2 c2 lb As))) (λ(i,kv)=>lb.length-i) (0,kv) ⟨Y4 _,by rw[e9];exact Bh⟩ ?_;rintro⟨i,kv⟩ w ⟨hi,hS⟩;clear Bh;refine gN 1 ?_ ?_<;>intro Qi
 ·refine gG 0 ?_;obtain⟨x,hx⟩:∃x,lb[i]?=some x:=⟨_,Y2 om⟩
  have CW:=Xe6 hlb x (Y6 hx);obtain⟨p,rfl,hp⟩:=aK (l:=lb) hS (k:=4) O i x hx;refine gG 0 (.val (.ii O O om om Uo UJ) O ?_);refine .val (.as (.LY (vs:=X8 x) (.of O) (by intro j v hj;rw[Y8];exact hp j v hj) kV UJ O) O) O ?_;refine gH 5 ?_;clear hS;intro b9 w hS;refine gE 0 (Uy ta ra a c la om x.name) ?_;clear hS;intro w hS;refine gH 9 ?_;clear hS;intro De w hS;refine .AA O O (λAi=>(.GG (vs:=X8 (getD la x.name)) (.of O) hS (k:=0) O kV UJ O (λj v hj=>by rw[Yj];exact hj))) O ?_;refine .AA O O (λAi=>(.GG (vs:=X8 x) (.of O) hS (k:=3) O kV UJ O (λj v hj=>by rw[Yj];exact hj))) O ?_;refine .AA O O (λAi=>Ex.Abu (r:=getD la x.name) (s:=x) (.gd Ai O) (.gd Ai O)) O ?_;refine gM 1 ?_ ?_<;>intro HJ dP
  ·refine gG 0 ?_;have SN:(!(get la x.name).isSome||!decide (getD la x.name=x))=true:=by
    have h9:=HJ
    revert h9
    cases(get la x.name).isSome<;>simp[gd]
   have LS:=Xv2 NV LP i;refine gE 1 (cK x CW.1 CW.2 hK hP) ?_;clear hS;intro w hS;refine gH 14 ?_;clear hS;intro b68 a69 c69 AcP w hS;refine gG 1 ?_;have e5:∀(L:List Ch) (c:Ch),(L++[c]).length=L.length+1:=λL c=>by simp
   refine E_ (i+1,_) O ⟨od,?_⟩
   (try dsimp only)
   rw[pI _ lb i x hx,Y7 SN,Ym,Yt,Hm,<-Yc,YT,e5];exact(hS.z [6,6,4,4,6] 5 2)
  refine gG 2 ?_;have SN:(!(get la x.name).isSome||!decide (getD la x.name=x))=false:=by
   have h9:=HJ
   revert h9
   cases(get la x.name).isSome<;>simp[gd]
  refine E_ (i+1,_) O ⟨od,?_⟩
  (try dsimp only)
  rw[pI _ lb i x hx,Y3 (nB SN),Yr];exact(hS.z [6,6,4,4,6] 5 2)
 refine gG 0 ?_;rw[show lb.take i=lb from Yg om]at hS;have LS:(RE la lb++Ov la lb).length<=1000000:=by
  have h:=Xv2 NV LP lb.length;rw[Jm]at h;unfold Ov;omega
 refine gC 1 (Xpt 198 ct (RE la lb++Ov la lb) kv 0 _ hS O LS) ?_;clear hS;rintro _ w ⟨rfl,hS⟩;try dsimp only[List.set]at hS
 exact gG 2 ⟨_,O,(hS.x [4,4,4,4,4])⟩
theorem Xpz(tb:Nat)(room:Int)(a:Oa)(c:Nat)(l:List Al)(hl:l.length<=100000)(As:La)(hS:Aa B w I (B7 tb room a c l As)):Cz 107 [ptr tb 0] w λv w'=>∃tc na nc,v=ptr tc 0/\Aa B w' I (B7 tc room na nc l (B7 tb room a c l As)):=by
 refine gG 1 (gD [0] [] [0,1,2,3,4,5,6,7,8,9,10,11] ?_);clear hS;intro w hS;refine gF 8 (Xb9 a c l hl) ?_;clear hS;rintro _ w ⟨v9,rfl,hS⟩;obtain⟨na,nc,rfl,Dc,_⟩:=hS.vS 0;refine gH 2 ?_;clear hS;intro qL w hS;exact gG 1 ⟨qL,na,nc,O,hS.s⟩
theorem XR(qb:Nat)(lim:Int)(x y z:Nat)(a:Oa)(c:Nat)(q:List Nt)(hq:q.length<=100000)(hR:RS I a 4 q.length (X2 Xa q))(As:La)(hS:Aa B w I (Ae qb [Ab lim,BQ x,BQ y,BQ z,.slice a q.length c] 178::As)):Cz 108 [ptr qb 0] w λv w'=>∃J qc na nc,v=ptr qc 0/\Le I J/\q.length<=nc/\RS J na 4 q.length (X2 Xa q)/\Aa B w' J (Ae qc [Ab lim,BQ x,BQ y,BQ z,.slice na q.length nc] 178::Ae qb [Ab lim,BQ x,BQ y,BQ z,.slice a q.length c] 178::As):=by
 refine gH 10 ?_;clear hS;intro b3 w hS;refine gF 0 (Xba a c q hq hR) ?_;clear hS;rintro v11 w hS;obtain⟨na,nc,rfl,Dc,_⟩:=hS.vS 0;have BW:=hS.fV 0;clear hS;obtain⟨J,hJ,hRn,hS⟩:=BW;try dsimp only[List.eraseIdx]at hS
 refine gG 2 ?_;clear hS;intro w hS;exact gG 1 ⟨J,b3,na,nc,O,hJ,Dc,hRn,hS.s⟩
abbrev tC(s:Lu):Lv:=[S s]
theorem jd:∀l:List Lu,X2 tC l=l.map S
 | []=>rfl
 | s::l=>by
  have:=jd l
  unfold X2 at this ⊢;rw[Yt,JG,this];rfl
theorem Xxz(m t body:Lu)(ra:Oa)(rc:Nat)(hs:List Pq)(hn:hs.length<=100)(hv:∀h∈hs,h.1.length<=1000000/\h.2.length<=1000000)(hR:RS I ra 2 hs.length (X2 X3 hs))(As:La)(hS:Aa B w I As):Ce B I As 92 [.agg #[S m,S t,.slice ra hs.length rc,S body]] w (.tuple #[Ab (UB hs).1,Ab ((UB hs).2:Nat)]):=by
 refine gH 4 ?_;clear hS;intro b1 w hS;refine gE 0 (Xbd m t body ra rc hs TE hn (λh hm=>(hv h hm).1) hR) ?_;clear hS;intro w hS;refine gN 7 ?_ ?_<;>intro C1
 ·exact gG 2 ⟨by unfold UB;rw[Y7 (oh C1)];rfl,hS.s⟩
 refine gE 1 (Xbd m t body ra rc hs CL hn (λh hm=>(hv h hm).1) hR) ?_;clear hS;intro w hS;refine gN 7 ?_ ?_<;>intro Dy
 ·exact gG 2 ⟨by unfold UB;rw[Y3 (oh C1),Y7 (oh Dy)];rfl,hS.s⟩
 refine gE 1 (Xxb (Xv CL hs).1 (Qo CL hs (λh hm=>(hv h hm).2)).1) ?_;clear hS;intro w hS;refine gM 11 ?_ ?_<;>intro DN Ft
 ·exact gG 2 ⟨by unfold UB;rw[Y3 (oh C1),Y3 (oh Dy),Y7 DN];rfl,hS.s⟩
 exact gG 3 ⟨by unfold UB;rw[Y3 (oh C1),Y3 (oh Dy),Y3 (nB DN)];rfl,hS.s⟩
theorem Xrh(tb:Nat)(s0:Lu)(hs:s0.length<=1000000)(hZ:Kz I)(As:La)(hS:Aa B w I (Ae tb [S s0] 204::As)):Cz 91 [ptr tb 0] w λv w'=>∃J ra rc,v=.tuple #[.slice ra (Fc (s0.length+1) s0 []).1.length rc,Ab ((Fc (s0.length+1) s0 []).2.1:Nat)]/\Le I J/\(Fc (s0.length+1) s0 []).1.length<=rc/\RS J ra 2 (Fc (s0.length+1) s0 []).1.length (X2 X3 (Fc (s0.length+1) s0 []).1)/\Aa B w' J (Ae tb [S (Fc (s0.length+1) s0 []).2.2] 204::As):=by
 refine gG 4 ?_;replace hS:=hS.An 58 2;refine .lk [0,5] (σ:=Lu×List Pq×Va) (λ(s,out,kv) _m=>(4,kv)::_m) (λ(s,out,kv) w=>s.length<=1000000/\Fc (s0.length+1) s0 []=Fc (s.length+1) s out/\out.length<=32/\Aa B w I (Ar 58 2 kv out.length (X2 X3 out)::Ae tb [S s] 204::As)) (λ(s,out,kv)=>s.length) (s0,[],.slice none 0 0) ⟨hs,O,Y4 _,hS⟩ ?_;rintro⟨s,out,kv⟩ w ⟨hs,hH,Mz,hS⟩;obtain⟨ka,kc,rfl,CV,_⟩:=hS.Av (k:=0) (v:=kv) O;have hle:=Xfu s
 conv at hH=>rhs;rw[Fc]
 refine gE 1 (Xuo tb s hs hZ) ?_;clear hS;intro w hS;refine gM 11 ?_ ?_<;>intro C_ IG
 ·refine gG 4 ?_;rw[hH,Y7 (show jk s=true from C_)];replace hS:=hS.px [1];obtain⟨J,hJ,AJ,hS⟩:=hS.fV 0;exact⟨J,ka,kc,O,hJ,CV,AJ,hS⟩
 refine gN 7 ?_ ?_<;>intro LM
 ·refine gG 4 ?_;clear hS;intro b8 w hS;refine .AF (rfl) (gG 2 (.E1 (rfl) (gG 6 ?_)));rw[hH,Y3 (nB (show jk s=false from C_)),Y3 (oh LM),Y7 (oh LM)];replace hS:=(((hS.pick 1 O).pick 2 O).drop (k:=2) O)
  obtain⟨J,hJ,AJ,hS⟩:=hS.fV 0;exact⟨J,ka,kc,O,hJ,CV,AJ,hS⟩
 refine gG 3 ?_;clear hS;intro b8 w hS;refine gN 0 ?_ ?_<;>intro G9
 ·refine gE 1 (Xxq (Xq s).1 (oh (Xfu s)) hZ) ?_;clear hS;intro w hS;refine gG 7 ?_;clear hS;intro w hS;refine gM 0 ?_ ?_<;>intro CI II
  ·refine gG 6 ?_;rw[hH,Y3 (nB (show jk s=false from C_)),Y3 (oh G9),Y3 (oh LM),Y7 (oh II)];replace hS:=(((hS.pick 1 O).pick 2 O).drop (k:=2) O)
   obtain⟨J,hJ,AJ,hS⟩:=hS.fV 0;exact⟨J,ka,kc,O,hJ,CV,AJ,hS⟩
  refine gG 5 ?_;clear hS;intro b39 a40 c40 AcH w hS;have e0:(Xq s).2.1=0:=by have h9:=G9;omega
  have BO:=S6 s e0;refine E_ ((Xq s).2.2,out++[(RF (Xq s).1).1],_) O ⟨od,?_,by(try dsimp only);rw[Y0];show _+1<=32;omega,?_⟩ (BO)
  ·(try dsimp only)
   rw[hH,Y3 (nB (show jk s=false from C_)),Y3 om,Y3 om,Y3 (oh II)];exact Xim _ _ _ _ om om
  ·(try dsimp only)
   rw[YT,show(out++[(RF (Xq s).1).1]).length=out.length+1 from Y0];exact(hS.z [1,2] 2 1)
 refine gT 2 (λCI II=>?_);refine gG 6 ?_;rw[hH,Y3 (nB (show jk s=false from C_)),Y7 (oh G9)];replace hS:=(((hS.pick 1 O).pick 2 O).drop (k:=2) O)
 obtain⟨J,hJ,AJ,hS⟩:=hS.fV 0;exact⟨J,ka,kc,O,hJ,CV,AJ,hS⟩
theorem Xyt(s:Lu)(hs:s.length<=1000000)(n:Int)(As:La)(hS:Aa B w I As):Ce B I As 93 [S s,Ab n] w (Ab (sN s.length n:Nat)):=by
 refine gN 6 ?_ ?_<;>intro Wu
 ·exact gG 1 ⟨by unfold sN;rw[Y7 (oh Wu)];rfl,hS⟩
 refine gN 5 ?_ ?_<;>intro DO
 ·exact gG 1 ⟨by unfold sN;rw[Y3 (oh Wu),Y7 (oh DO)];rfl,hS⟩
 exact gG 1 ⟨by unfold sN;rw[Y3 (oh Wu),Y3 (oh DO)];rfl,hS⟩
theorem Xem(s:Lu)(hs:s.length<=1000000)(hZ:Kz I)(As:La)(hS:Aa B w I As):Cz 37 [S s] w λv w'=>∃J ra rc,v=.tuple #[.agg #[S (X0 s).1.Au,S (X0 s).1.target,.slice ra (X0 s).1.Ac.length rc,S (X0 s).1.body],Ab ((X0 s).2:Nat)]/\Le I J/\(X0 s).1.Ac.length<=rc/\RS J ra 2 (X0 s).1.Ac.length (X2 X3 (X0 s).1.Ac)/\Aa B w' J As:=by
 refine gG 5 ?_;clear hS;intro b2 w hS;refine gN 0 ?_ ?_<;>intro Eo
 ·refine gH 3 ?_;clear hS;intro w hS;refine gG 0 ?_;rw[show X0 s=_ from by unfold X0;rw[Y7 (oh Eo)]];exact⟨I,none,0,O,Le.refl _,Yd _,RS.nil _ _,hS.s⟩
 refine gH 5 ?_;clear hS;intro Lo w hS;refine gE 0 (Xuo Lo s om hZ) ?_;clear hS;intro w hS;have hle:=Xfu s;refine gN 7 ?_ ?_<;>intro Dx
 ·refine gH 4 ?_;clear hS;intro w hS;refine gG 0 ?_;rw[show X0 s=_ from by unfold X0;rw[Y3 (oh Eo),Y7 (oh Dx)]];exact⟨I,none,0,O,Le.refl _,Yd _,RS.nil _ _,hS.s⟩
 refine gE 1 (VW (Xq s).1 om hZ) ?_;clear hS;intro w hS;refine gG 8 ?_;clear hS;intro b7 w hS;refine gN 0 ?_ ?_<;>intro LN
 ·refine gF 1 (Xrh Lo (Xq s).2.2 om hZ) ?_;clear hS;rintro _ w ⟨J,ra,rc,rfl,hJ,Cc,AJ,hS⟩;have hhl:=Xku (n:=s.length) ((Xq s).2.2.length+1) (Xq s).2.2 [] om de sz;refine gG 9 ?_;clear hS;intro w hS;refine gM 0 ?_ ?_<;>intro G6 FZ
  ·refine gE 1 (Xxz _ _ _ ra rc (Fc ((Xq s).2.2.length+1) (Xq s).2.2 []).1 om (λh hm=>by have:=hhl.2.1 h hm;omega) AJ) ?_;clear hS;intro w hS;refine gM 7 ?_ ?_<;>intro dI D0
   ·refine gE 5 (Xyt (Fc ((Xq s).2.2.length+1) (Xq s).2.2 []).2.2 om (UB (Fc ((Xq s).2.2.length+1) (Xq s).2.2 []).1).1) ?_;clear hS;intro w hS;refine gM 3 ?_ ?_<;>intro JO Qj
    ·refine gH 4 ?_;clear hS;intro w hS;refine gG 0 ?_;rw[show X0 s=_ from by unfold X0;rw[Y3 (oh Eo),Y3 (oh Dx),Y3 (oh LN),Y3 (oh FZ),Y3 (oh D0),Y7 (oh Qj)]];exact⟨J,none,0,O,hJ,Yd _,RS.nil _ _,hS.s⟩
    refine gH 9 ?_;clear hS;intro w hS;refine gG 0 ?_;rw[show X0 s=_ from by unfold X0;rw[Y3 (oh Eo),Y3 (oh Dx),Y3 (oh LN),Y3 (oh FZ),Y3 (oh D0),Y3 (oh Qj)]];exact⟨J,ra,rc,O,hJ,Cc,AJ,hS.s⟩
   refine gT 2 (λJO Qj=>?_);refine gH 4 ?_;clear hS;intro w hS;refine gG 0 ?_;rw[show X0 s=_ from by unfold X0;rw[Y3 (oh Eo),Y3 (oh Dx),Y3 (oh LN),Y3 (oh FZ),Y7 (oh D0)]];exact⟨J,none,0,O,hJ,Yd _,RS.nil _ _,hS.s⟩
  refine gU 2 (λdI D0=>?_);refine gT 2 (λJO Qj=>?_);refine gH 4 ?_;clear hS;intro w hS;refine gG 0 ?_;rw[show X0 s=_ from by unfold X0;rw[Y3 (oh Eo),Y3 (oh Dx),Y3 (oh LN),Y7 (oh FZ)]];exact⟨J,none,0,O,hJ,Yd _,RS.nil _ _,hS.s⟩
 refine gU 3 (λG6 FZ=>?_);refine gU 2 (λdI D0=>?_);refine gT 2 (λJO Qj=>?_);refine gH 4 ?_;clear hS;intro w hS;refine gG 0 ?_;rw[show X0 s=_ from by unfold X0;rw[Y3 (oh Eo),Y3 (oh Dx),Y7 (oh LN)]];exact⟨I,none,0,O,Le.refl _,Yd _,RS.nil _ _,hS.s⟩
def ZQ(I:Im)(F:List Pq×Nat)(B:Wo)(As:La)(v:Va)(w:Wo):Prop:=∃kv,v=.tuple #[kv,Ab (F.2:Nat)]/\Aa B w I (Ar 58 2 kv F.1.length (X2 X3 F.1)::As)
theorem Xnu{F:List Pq×Nat}{e:Nat}(h:F=([],e))(hJ:Le I I)(hS:Aa B w I As):ZQ I F B As (.tuple #[.slice none 0 0,Ab (e:Nat)]) w:=by
 subst h;exact⟨_,O,hS.An 58 2⟩
theorem cV{F:List Pq×Nat}{kv:Va}{out:List Pq}(h:F=(out,0))(hJ:Le I I)(hS:Aa B w I (Ar 58 2 kv out.length (X2 X3 out)::As)):ZQ I F B As (.tuple #[kv,Ab 0]) w:=by
 subst h;exact⟨_,O,hS⟩
theorem Xmj(s:Lu)(hl:s.length<=1000000)(hK:Ba I)(As:La)(hS:Aa B w I As):Cz 94 [S s] w λv w'=>ZQ I (H3 s) B As v w':=by
 refine gF 5 (Xwt s hl hK) ?_;clear hS;rintro _ w ⟨R5,rfl,hS⟩;refine gG 2 ?_;have Gg:=Xl3 (C8 s);rw[Xqv]at Gg;replace hS:=hS.An 58 2;refine .lk [5,11,12] (σ:=List Pr×Va×Nat) (λ(out,kv,i) _m=>(4,kv)::(13,Ab (i:Nat))::_m) (λ(out,kv,i) w=>i<=(C8 s).length/\H3 s=Ji ((C8 s).drop i) out/\out.length<=32/\Aa B w I (Ar 58 2 kv out.length (X2 X3 out)::Ae R5 ((C8 s).map S) 9::As)) (λ(out,kv,i)=>(C8 s).length-i) ([],.slice none 0 0,0) ⟨Y4 _,O,Y4 _,hS⟩ ?_;rintro⟨out,kv,i⟩ w ⟨hi,FC,Mz,hS⟩;refine gN 1 ?_ ?_<;>intro Dh
 ·refine gG 0 ?_;obtain⟨x,hx⟩:∃x,(C8 s)[i]?=some x:=⟨_,Y2 om⟩
  have CW:=Xwx hx hl;have Ec:=bt hx;rw[Ec]at FC;have SM:((C8 s).map S)[i]?=some (S x):=by rw[Ys,hx];rfl
  refine gH 1 ?_;refine .val (.ld (v:=S x) (.of O) hS (k:=1) O BF (by rw[Yj];(try rw[Y8]);rw[Gv,Ys,hx];rfl)) O ?_;refine gM 3 ?_ ?_<;>intro DZ Gy
  ·refine gG 2 (rd (out,kv,i+1) ⟨od,?_,Mz,hS⟩);rw[FC,Ji,Y7 (su DZ)]
  refine gF 1 (fz x CW hK) ?_;clear hS;rintro _ w ⟨n1,v1,e1,rfl,SN,hS⟩;obtain⟨ka,kc,rfl,CV,_⟩:=hS.Av (k:=0) (v:=kv) O;refine gG 10 ?_;clear hS;intro b8 w hS;refine gN 0 ?_ ?_<;>intro LL
  ·refine gT 3 (λE3 Wt=>?_);exact gG 3 (Xnu (e:=5) (by rw[FC,Ji,Y3 (su DZ),Y7 om]) (Le.refl _) hS.s)
  refine gM 3 ?_ ?_<;>intro BD G9
  ·refine gG 0 ?_;have ze:RH x=none:=by
    cases hq:RH x with
    | none=>rfl
    | some p=>rw[hq]at SN;rw[SN.2.2]at BD;cases BD
   rw[ze]at SN;subst SN;refine gT 4 (λE3 Wt=>?_);exact gG 3 (Xnu (e:=11) (by rw[FC,Ji,Y3 (su DZ),Y3 om,ze]) (Le.refl _) hS.s)
  refine gG 0 ?_;obtain⟨p,re⟩:∃p,RH x=some p:=by
   cases hq:RH x with
   | some p=>exact⟨p,O⟩
   | none=>rw[hq]at SN;rw[SN]at BD;cases BD
  rw[re]at SN;obtain⟨rfl,rfl,rfl⟩:=SN;refine gG 7 ?_;clear hS;intro b34 a35 c35 AcE w hS;refine E_ (out++[p],_,i+1) O ⟨od,?_,by(try dsimp only);rw[Y0];show _+1<=32;omega,?_⟩
  ·try dsimp only
   rw[FC,Ji,Y3 (su DZ),Y3 om,re]
  ·try dsimp only
   rw[YT,show(out++[p]).length=out.length+1 from Y0];exact(hS.z [2,2] 2 1)
 refine gG 2 (.AF (rfl) ?_);exact gG 3 (cV (by rw[FC,Yk om];rfl) (Le.refl _) hS.s)
theorem Xfh{hs:List Pq}{x:Pq}(h:hs[i]?=some x):Iw nm (hs.take (i+1))=(if x.1=nm then(if(Iw nm (hs.take i)).2=0 then x.2 else(Iw nm (hs.take i)).1,(Iw nm (hs.take i)).2+1)else Iw nm (hs.take i)):=by
 rw[Yo,h,Yu];unfold Iw;rw[Lm];rfl
theorem Xeg(ra:Oa)(rc:Nat)(l:List Pq)(nm:Lu)(hn:l.length<=100)(hR:RS I ra 2 l.length (X2 X3 l))(As:La)(hS:Aa B w I As):Ce B I As 97 [.slice ra l.length rc,S nm] w (.tuple #[S (Iw nm l).1,Ab ((Iw nm l).2:Nat)]):=by
 have Bh:=hS;clear hS;refine gG 7 (.lk [1,10,11] (σ:=Nat) (λi _m=>(6,S (Iw nm (l.take i)).1)::(7,Ab ((Iw nm (l.take i)).2:Nat))::(12,Ab (i:Nat))::_m) (λi w=>i<=l.length/\Aa B w I As) (λi=>l.length-i) 0 ⟨Y4 _,Bh⟩ ?_);rintro i w ⟨hi,hS⟩;clear Bh;refine gN 1 ?_ ?_<;>intro DP
 ·refine gG 0 ?_;obtain⟨x,hx⟩:∃x,l[i]?=some x:=⟨_,Y2 om⟩
  have dX:=Aaq nm (l.take i);rw[Yl]at dX;obtain⟨q,rfl,F7⟩:=AQ (cells:=X3) (s:=2) (λ_=>rfl) hR hx;refine gG 8 ?_;clear hS;intro b9 w hS;refine gM 0 ?_ ?_<;>intro C_ IG
  ·refine gG 2 ?_;have e9:Iw nm (l.take (i+1))=Iw nm (l.take i):=by rw[Xfh hx,Y3 (su C_)]
   refine⟨i+1,⟨by rw[e9];rfl,by rw[e9];rfl,O,O,O,O,trivial⟩,⟨om,(hS.y 0 1)⟩,om⟩
  refine gN 2 ?_ ?_<;>intro IH
  ·refine gG 8 ?_;have e9:Iw nm (l.take (i+1))=(x.2,(Iw nm (l.take i)).2+1):=by rw[Xfh hx,Y7 (su C_),Y7 (oh IH)]
   refine⟨i+1,⟨by rw[e9];rfl,by rw[e9];rfl,O,O,O,O,trivial⟩,⟨om,(hS.y 0 1)⟩,om⟩
  refine gG 5 ?_;have e9:Iw nm (l.take (i+1))=((Iw nm (l.take i)).1,(Iw nm (l.take i)).2+1):=by rw[Xfh hx,Y7 (su C_),Y3 (oh IH)]
  refine⟨i+1,⟨by rw[e9];rfl,by rw[e9];rfl,O,O,O,O,trivial⟩,⟨om,(hS.y 0 1)⟩,om⟩
 refine gG 4 ?_;rw[Yg om];exact⟨O,hS⟩
theorem pN{cells:α->Lv}(l m:List α):X2 cells (l++m)=X2 cells l++X2 cells m:=by
 unfold X2;rw[Ym,ju]
theorem ZJ(m t body:Lu)(ra:Oa)(rc:Nat)(hs:List Pq)(ht:t.length<=1000000)(hb:body.length<=1000000)(hZ:Kz I)(As:La)(hS:Aa B w I As):Cz 38 [.agg #[S m,S t,.slice ra hs.length rc,S body]] w λv w'=>∃J ra rc,v=.tuple #[.slice ra (CN m t body).1.length rc,Ab ((CN m t body).2:Nat)]/\Le I J/\(CN m t body).1.length<=rc/\RS J ra 2 (CN m t body).1.length (X2 X3 (CN m t body).1)/\Aa B w' J As:=by
 refine gH 5 ?_;clear hS;intro b1 w hS;refine gE 0 (xi t 63 om hZ) ?_;clear hS;intro w hS;refine gF 8 (Xmj (CA 63 t).2.1 (oh (aM 63 t)) hZ.kn) ?_;clear hS;rintro _ w ⟨k1,rfl,hS⟩;obtain⟨qa,qc,rfl,hqc,_⟩:=hS.vS 0;have eh:=Xkr (CA 63 t).2.1;refine gM 12 ?_ ?_<;>intro BD G9
 ·refine gG 4 ?_;rw[show(CN m t body)=_ from by unfold CN;rw[Y7 (show Nz m t=true from BD)]];replace hS:=hS.py [1];obtain⟨J,hJ,AJ,hS⟩:=hS.fV 0;exact⟨J,qa,qc,O,hJ,hqc,AJ,hS⟩
 refine gF 2 (Xmj body om hZ.kn) ?_;clear hS;rintro _ w ⟨k2,rfl,hS⟩;obtain⟨ma,mc,rfl,hmc,_⟩:=hS.vS 0;have ek:=Xkr body;refine gN 8 ?_ ?_<;>intro Wr
 ·refine gG 3 ?_;rw[show(CN m t body)=_ from by unfold CN;rw[Y3 (nB (show Nz m t=false from BD)),Y7 (oh Wr)]];exact⟨I,none,0,O,Le.refl _,Yd _,RS.nil _ _,hS.s⟩
 refine gM 7 ?_ ?_<;>intro Wl Qi
 ·refine gG 2 ?_;rw[show(CN m t body)=_ from by unfold CN;rw[Y3 (nB (show Nz m t=false from BD)),Y3 (oh Wr),Y7 (oh Qi)]];exact⟨I,none,0,O,Le.refl _,Yd _,RS.nil _ _,hS.s⟩
 refine gG 0 ?_;obtain⟨J0,GN,hRm,hS⟩:=hS.fV 0;try dsimp only[List.eraseIdx]at hS
 refine gH 2 (.CK (size:=2) (bytes:=32) hS (.of O) (.of O) hRm (k:=0) O H2 (i:=t58) kr O O O O (zS (λr=>rfl) _) ⟨om,by unfold maxLen;omega⟩ O ?_);clear hS;intro v50 w hS;dsimp only[List.set]at hS;refine gG 2 ?_;rw[show(CN m t body)=_ from by unfold CN;rw[Y3 (nB (show Nz m t=false from BD)),Y3 (oh Wr),Y3 (oh Qi)]];have he2:(H3 body).2=0:=by have h9:=Wr;omega
 replace hS:=hS.py [1];rw[<-pN,<-Y0]at hS;obtain⟨za,zc,rfl,hzc,_⟩:=hS.vS 0;obtain⟨J,hJ,AJ,hS⟩:=hS.fV 0;exact⟨J,za,zc,O,GN.trans hJ,hzc,AJ,hS⟩
theorem aF(s:Lu)(hs:s.length<=1000000)(hZ:Kz I)(As:La)(hS:Aa B w I As):Cz 96 [S s] w λv w'=>∃J ra rc,v=.tuple #[.slice ra (HY (BS 59 s) []).1.length rc,Ab ((HY (BS 59 s) []).2:Nat)]/\Le I J/\(HY (BS 59 s) []).1.length<=rc/\RS J ra 2 (HY (BS 59 s) []).1.length (X2 X3 (HY (BS 59 s) []).1)/\Aa B w' J As:=by
 refine gF 4 (Xi0 s 59 hs hZ) ?_;clear hS;rintro _ w ⟨R5,rfl,hS⟩;refine gG 2 ?_;have Gg:=To 59 s;replace hS:=hS.An 58 2;refine .lk [11,12] (σ:=List Pq×Va×Nat) (λ(out,kv,i) _m=>(4,kv)::(13,Ab (i:Nat))::_m) (λ(out,kv,i) w=>i<=(BS 59 s).length/\HY (BS 59 s) []=HY ((BS 59 s).drop i) out/\out.length<=20/\Aa B w I (Ar 58 2 kv out.length (X2 X3 out)::Ae R5 ((BS 59 s).map S) 9::As)) (λ(out,kv,i)=>(BS 59 s).length-i) ([],.slice none 0 0,0) ⟨Y4 _,O,Y4 _,hS⟩ ?_;rintro⟨out,kv,i⟩ w ⟨hi,FC,Mz,hS⟩;obtain⟨ka,kc,rfl,CV,_⟩:=hS.Av (k:=0) (v:=kv) O;refine gN 1 ?_ ?_<;>intro Dh
 ·refine gG 0 ?_;obtain⟨x,hx⟩:∃x,(BS 59 s)[i]?=some x:=⟨_,Y2 om⟩
  have CW:=Xg5 59 s x (Y6 hx);have WJ:=Xvz x 32;have Ec:(BS 59 s).drop i=x::(BS 59 s).drop (i+1):=by rw[Yp (Y1.1 hx).1,(Y1.1 hx).2]
  rw[Ec]at FC;have IL:=aM 61 (Go.Lib.trimB x 32);refine gH 1 ?_;refine .val (.ld (v:=S x) (.of O) hS (k:=1) O BF (by rw[Yj];(try rw[Y8]);rw[Gv,Ys,hx];rfl)) O ?_;refine gE 2 (Xn1 x 32 de om) ?_;clear hS;intro w hS;refine gM 3 ?_ ?_<;>intro BX FX
  ·refine gG 2 (E_ (out,_,i+1) O ⟨od,?_,Mz,(hS.x [1,1])⟩);rw[FC,HY,Y7 (su BX)]
  refine gN 3 ?_ ?_<;>intro Dy
  ·refine gG 2 ?_;rw[FC,show HY (x::(BS 59 s).drop (i+1)) out=_ from by rw[HY,Y3 (su BX),Y7 (oh Dy)]];exact⟨I,none,0,O,Le.refl _,Yd _,RS.nil _ _,hS.s⟩
  refine gE 1 (xi (Go.Lib.trimB x 32) 61 om hZ) ?_;clear hS;intro w hS;refine gH 11 (.AG (T:=λw=>Aa B w I _) O O O func174 O (λAi=>(X5 (.gd Ai O) X4)) O (λAi=>Xf3 (CA 61 (Go.Lib.trimB x 32)).1 om _ hS) hS ?_);clear hS;rintro w hS;refine gH 4 (.AG (T:=λw=>Aa B w I _) O O O func175 O (λAi=>(X5 (.gd Ai O) X4)) O (λAi=>Xh0 (CA 61 (Go.Lib.trimB x 32)).2.1 om _ hS) hS ?_);clear hS;rintro w hS;refine gM 2 ?_ ?_<;>intro Wl Qi
  ·refine gG 2 ?_;rw[FC,show HY (x::(BS 59 s).drop (i+1)) out=_ from by rw[HY,Y3 (su BX),Y3 (oh Dy),Y7 (show Ox _=true from Wl)]];exact⟨I,none,0,O,Le.refl _,Yd _,RS.nil _ _,hS.s⟩
  refine gG 9 ?_;clear hS;intro b46 a47 c47 AcJ w hS;refine E_ (out++[((CA 61 (Go.Lib.trimB x 32)).1,(CA 61 (Go.Lib.trimB x 32)).2.1)],_,i+1) O ⟨od,?_,by(try dsimp only);rw[Y0];show _+1<=20;omega,?_⟩
  ·(try dsimp only)
   rw[FC,HY,Y3 (su BX),Y3 (oh Dy),Y3 (nB (show Ox _=false from Wl))]
  ·(try dsimp only)
   rw[YT,Y0];exact(hS.x [1,1])
 refine gG 3 ?_;rw[FC,Yk om,HY];replace hS:=hS.py [1];obtain⟨J,hJ,AJ,hS⟩:=hS.fV 0;exact⟨J,ka,kc,O,hJ,CV,AJ,hS⟩
theorem ny(m t body:Lu)(ra:Oa)(rc:Nat)(hs:List Pq)(hn:hs.length<=100)(hv:∀h∈hs,h.1.length<=1000000/\h.2.length<=1000000)(hZ:Kz I)(hR:RS I ra 2 hs.length (X2 X3 hs))(As:La)(hS:Aa B w I As):Cz 39 [.agg #[S m,S t,.slice ra hs.length rc,S body]] w λv w'=>∃J,v=.tuple #[S (Ei hs).1,Ab ((Ei hs).2:Nat)]/\Le I J/\Aa B w' J As:=by
 refine gH 4 ?_;clear hS;intro b1 w hS;refine gE 0 (Xbd m t body ra rc hs pZ hn (λh hm=>(hv h hm).1) hR) ?_;clear hS;intro w hS;refine gF 6 (aF (Xv pZ hs).1 (Qo pZ hs (λh hm=>(hv h hm).2)).1 hZ) ?_;clear hS;rintro _ w ⟨J,sa,sc,rfl,hJ,N0,hRs,hS⟩;refine gE 6 (Xeg sa sc _ Bz (by have:=Xgo (BS 59 (Xv pZ hs).1) [] de;omega) hRs) ?_;clear hS;intro w hS;exact gG 9 ⟨J,O,hJ,hS.s⟩
end Go.Proofs.W9
namespace Rq
open Pc Gk Ul
structure Cr where
 status:Int
 Ac:List Pq
 body:Lu
def Eg:List (Int×Lu):=[(200,[79,75]),(302,[70,111,117,110,100]),(400,[66,97,100,32,82,101,113,117,101,115,116]),(403,[70,111,114,98,105,100,100,101,110]),(404,[78,111,116,32,70,111,117,110,100]),(405,[77,101,116,104,111,100,32,78,111,116,32,65,108,108,111,119,101,100]),(503,[83,101,114,118,105,99,101,32,85,110,97,118,97,105,108,97,98,108,101])]
def YW(n:Int):Lu:=(Eg.lookup n).getD []
theorem XU{n:Int}(h:YW n≠[]):∃k:Nat,n=(k:Int)/\k<=503:=by
 unfold YW Eg at h;simp only[List.lookup]at h
 repeat' split at h
 all_goals first
  | (rename_i hk;have:=eq_of_beq hk;subst this;exact⟨_,O,de⟩)
  | exact Yy O h
theorem Xg9(n:Int):(YW n).length<=19:=by
 unfold YW Eg;simp only[List.lookup]
 repeat' split
 all_goals decide
def ln(s:Lu):Bool:=List.all s (FE 32 126)&&Go.Lib.trimB s 32==s
def Pe:Lu:=[67,111,110,116,101,110,116,45,76,101,110,103,116,104]
def xT(r:Cr):Bool:=(YW r.status==[]||decide (32<((r.Ac.length:Nat):Int)))||decide (8192<((r.body.length:Nat):Int))
def Di(h:Pq):Bool:=(!L_ h.1||!ln h.2)||FL h.1 Pe
def FN(r:Cr):Bool:=!xT r&&r.Ac.all (λh=>!Di h)
def H11:Lu:=[72,84,84,80,47,49,46,49,32]
def Ma(r:Cr):Lu:=(((H11++Go.Lib.decDigits r.status.toNat)++[32])++YW r.status)++CR
def qy(s:Lu)(h:Pq):Lu:=s++(((h.1++[58,32])++h.2)++CR)
def DD(r:Cr):List Pq:=r.Ac++[(Pe,Go.Lib.decDigits r.body.length)]
def Lh(r:Cr):Lu:=((DD r).foldl qy (Ma r)++CR)++r.body
def sD(r:Cr):Lu×Nat:=if FN r=true then(Lh r,0)else([],1)
theorem Xe0(n:Nat):∀(l:List Pq) (s:Lu),(∀h∈l,h.1.length+h.2.length<=n)->(l.foldl qy s).length<=s.length+l.length*(n+4)
 | [],s,_=>by simp
 | h::l,s,hl=>by
  rw[Ky,List.length_cons,RV];have h1:=Xe0 n l (qy s h) (λx hx=>hl x (by simp[hx]));have h2:=hl h sz;have h3:(qy s h).length=s.length+(h.1.length+h.2.length+4):=by
   unfold qy CR;simp only[Y0,List.length_cons,List.length_nil];omega
  omega
def Jk(status:Int)(kind body:Lu):Cr:=⟨status,[([67,111,110,116,101,110,116,45,84,121,112,101],kind)],body⟩
def ME:Lu:=[76,111,99,97,116,105,111,110]
def Ci:Lu:=[83,101,116,45,67,111,111,107,105,101]
def Ry(tq:Lu)(AR:List Lu):Cr:=⟨302,(ME,tq)::AR.map (λc=>(Ci,c)),[]⟩
end Rq
namespace Go.Proofs.W9
open Gk Ul Pc Tk Tr Xm Rq
open Tryz
theorem Xsf(As:La)(hS:Aa B w I As):Cz 167 [] w λv w'=>∃mb,v=.map (some mb)/\Aa B w' I (Ej Ab mb (Eg.map λp=>(p.1,S p.2))::As):=by
 refine gG 1 (.mkMap Ab hS O ?_);clear hS;intro b1 w hS;refine .Dj (kv:=[]) (key:=200) (val:=S [79,75]) O1 hS (k:=0) O (.of O) (.of O) (.of O) O qv Dq ?_;clear hS;intro w hS;replace hS:Aa B w I (Ej Ab b1 [(200,S [79,75])]::As):=hS;refine .Dj (kv:=[(200,S [79,75])]) (key:=302) (val:=S [70,111,117,110,100]) O1 hS (k:=0) O (.of O) (.of O) (.of O) O qv Dq ?_;clear hS;intro w hS;replace hS:Aa B w I (Ej Ab b1 [(200,S [79,75]),(302,S [70,111,117,110,100])]::As):=hS;refine .Dj (kv:=[(200,S [79,75]),(302,S [70,111,117,110,100])]) (key:=400) (val:=S [66,97,100,32,82,101,113,117,101,115,116]) O1 hS (k:=0) O (.of O) (.of O) (.of O) O qv Dq ?_;clear hS;intro w hS;replace hS:Aa B w I (Ej Ab b1 [(200,S [79,75]),(302,S [70,111,117,110,100]),(400,S [66,97,100,32,82,101,113,117,101,115,116])]::As):=hS;refine .Dj (kv:=[(200,S [79,75]),(302,S [70,111,117,110,100]),(400,S [66,97,100,32,82,101,113,117,101,115,116])]) (key:=403) (val:=S [70,111,114,98,105,100,100,101,110]) O1 hS (k:=0) O (.of O) (.of O) (.of O) O qv Dq ?_;clear hS;intro w hS;replace hS:Aa B w I (Ej Ab b1 [(200,S [79,75]),(302,S [70,111,117,110,100]),(400,S [66,97,100,32,82,101,113,117,101,115,116]),(403,S [70,111,114,98,105,100,100,101,110])]::As):=hS;refine .Dj (kv:=[(200,S [79,75]),(302,S [70,111,117,110,100]),(400,S [66,97,100,32,82,101,113,117,101,115,116]),(403,S [70,111,114,98,105,100,100,101,110])]) (key:=404) (val:=S [78,111,116,32,70,111,117,110,100]) O1 hS (k:=0) O (.of O) (.of O) (.of O) O qv Dq ?_;clear hS;intro w hS;replace hS:Aa B w I (Ej Ab b1 [(200,S [79,75]),(302,S [70,111,117,110,100]),(400,S [66,97,100,32,82,101,113,117,101,115,116]),(403,S [70,111,114,98,105,100,100,101,110]),(404,S [78,111,116,32,70,111,117,110,100])]::As):=hS;refine .Dj (kv:=[(200,S [79,75]),(302,S [70,111,117,110,100]),(400,S [66,97,100,32,82,101,113,117,101,115,116]),(403,S [70,111,114,98,105,100,100,101,110]),(404,S [78,111,116,32,70,111,117,110,100])]) (key:=405) (val:=S [77,101,116,104,111,100,32,78,111,116,32,65,108,108,111,119,101,100]) O1 hS (k:=0) O (.of O) (.of O) (.of O) O qv Dq ?_;clear hS;intro w hS;replace hS:Aa B w I (Ej Ab b1 [(200,S [79,75]),(302,S [70,111,117,110,100]),(400,S [66,97,100,32,82,101,113,117,101,115,116]),(403,S [70,111,114,98,105,100,100,101,110]),(404,S [78,111,116,32,70,111,117,110,100]),(405,S [77,101,116,104,111,100,32,78,111,116,32,65,108,108,111,119,101,100])]::As):=hS;refine .Dj (kv:=[(200,S [79,75]),(302,S [70,111,117,110,100]),(400,S [66,97,100,32,82,101,113,117,101,115,116]),(403,S [70,111,114,98,105,100,100,101,110]),(404,S [78,111,116,32,70,111,117,110,100]),(405,S [77,101,116,104,111,100,32,78,111,116,32,65,108,108,111,119,101,100])]) (key:=503) (val:=S [83,101,114,118,105,99,101,32,85,110,97,118,97,105,108,97,98,108,101]) O1 hS (k:=0) O (.of O) (.of O) (.of O) O qv Dq ?_;clear hS;intro w hS;replace hS:Aa B w I (Ej Ab b1 [(200,S [79,75]),(302,S [70,111,117,110,100]),(400,S [66,97,100,32,82,101,113,117,101,115,116]),(403,S [70,111,114,98,105,100,100,101,110]),(404,S [78,111,116,32,70,111,117,110,100]),(405,S [77,101,116,104,111,100,32,78,111,116,32,65,108,108,111,119,101,100]),(503,S [83,101,114,118,105,99,101,32,85,110,97,118,97,105,108,97,98,108,101])]::As):=hS;exact gG 2 ⟨b1,O,hS⟩
theorem Xbg(e:Int)(As:La)(hS:Aa B w I As):Ce B I As 87 [Ab e] w (S (YW e)):=by
 refine gF 1 (Xsf) ?_;clear hS;rintro _ w ⟨mb,rfl,hS⟩;refine gH 1 ?_;refine .val (v:=S (YW e)) (by have h9:=Xc7 S e Eg;have e9:((Eg.map λp=>(p.1,S p.2)).lookup e).getD (S [])=S (YW e):=by { rw[h9];unfold YW;cases Eg.lookup e<;>rfl };rw[<-e9];exact .S7 (key:=e) O1 (hS.Qz (k:=0) O) (.of O) (.of O) qv Dq K8) O ?_;exact gG 1 ⟨O,hS.s⟩
theorem TR(c:Ui):((decide ((c.toNat:Int)<32))||(decide (126<(c.toNat:Int))))=!FE 32 126 c:=eq_of_beq (Xf (p:=λc=>((decide ((c.toNat:Int)<32))||(decide (126<(c.toNat:Int))))==!FE 32 126 c) dk c)
theorem iq(s:Lu)(hs:s.length<=1000000)(As:La)(hS:Aa B w I As):Ce B I As 110 [S s] w (.bool (ln s)):=by
 refine gG 4 (.lk [0,5] (σ:=Nat) (λi _m=>(6,Ab (i:Nat))::_m) (λi w=>i<=s.length/\List.all s (FE 32 126)=List.all (s.drop i) (FE 32 126)/\Aa B w I As) (λi=>s.length-i) 0 ⟨Y4 _,O,hS⟩ ?_);rintro i w ⟨hi,AW,hS⟩;refine gN 1 ?_ ?_<;>intro hc7
 ·refine gM 12 ?_ ?_<;>intro DZ Gy
  ·refine gG 1 ?_;have E9:=DZ;rw[TR]at E9;refine⟨Y5 Value.bool ?_,hS⟩;unfold ln;rw[AW,Xe s om,Ny,show FE 32 126 (at_ s (i:Int))=false by simpa using E9];rfl
  refine gG 2 ?_;have E9:=DZ;rw[TR]at E9;refine rd (i+1) ⟨om,?_,hS⟩;rw[AW,Xe s om,Ny,show FE 32 126 (at_ s (i:Int))=true by simpa using E9,U_]
 refine gE 1 (Xn1 s 32 de hs) ?_;clear hS;intro w hS;refine gG 3 (⟨Y5 Value.bool ?_,hS⟩);unfold ln;rw[AW,Yk om];rfl
theorem Xeq(r:Cr)(ra:Oa)(rc:Nat)(hR:RS I ra 2 r.Ac.length (X2 X3 r.Ac))(hv:∀h∈r.Ac,h.1.length<=1000000/\h.2.length<=1000000)(As:La)(hS:Aa B w I As):Ce B I As 43 [.agg #[Ab r.status,.slice ra r.Ac.length rc,S r.body]] w (.bool (FN r)):=by
 refine gH 1 ?_;clear hS;intro b1 w hS;refine gG 1 (gH 1 (gE 1 (Xbg r.status) ?_));clear hS;intro w hS;refine gH 1 (gH 1 (gH 1 (gH 1 (gH 1 (gH 1 (gH 1 (gH 1 (gH 1 (gH 1 (gH 1 (gH 1 ?_)))))))))));refine gM 1 ?_ ?_<;>intro BX FX
 ·exact gG 1 ⟨by unfold FN;rw[show xT r=true from BX];rfl,hS.s⟩
 refine gH 1 (gH 1 (gH 1 ?_));have Bh:=hS.drop (k:=0) O;clear hS;refine gG 1 (.lk [22,23] (σ:=Nat) (λi _m=>(24,Ab (i:Nat))::_m) (λi w=>i<=r.Ac.length/\r.Ac.all (λh=>!Di h)=(r.Ac.drop i).all (λh=>!Di h)/\Aa B w I As) (λi=>r.Ac.length-i) 0 ⟨Y4 _,O,Bh⟩ ?_);rintro i w ⟨hi,AW,hS⟩;clear Bh;refine gN 1 ?_ ?_<;>intro E4
 ·refine gG 0 ?_;obtain⟨x,hx⟩:∃x,r.Ac[i]?=some x:=⟨_,Y2 om⟩
  have CW:=hv x (Y6 hx);obtain⟨q,rfl,F7⟩:=AQ (cells:=X3) (s:=2) (λ_=>rfl) hR hx;refine gH 1 (gH 1 (gH 1 ?_));clear hS;intro b4 w hS;refine gG 1 ?_;clear hS;intro w hS;refine gH 1 (gE 1 (Xsr x.1 om) ?_);clear hS;intro w hS;refine gH 1 (gH 1 (gH 1 (gH 1 (.AG (T:=λw=>Aa B w I _) O O O func110 O (λAi=>(X5 (.gd Ai O) X4)) O (λAi=>iq x.2 om _ hS) hS ?_))));clear hS;rintro w hS;refine gH 1 (gH 1 (gH 1 (gH 1 (gH 1 (.AG (T:=λw=>Aa B w I _) O O O func111 O (λAi=>(X5 (.gd Ai O) (Be O X4))) O (λAi=>Xe9 x.1 Pe om _ hS) hS ?_)))));clear hS;rintro w hS;refine gM 1 ?_ ?_<;>intro En JR
  ·refine gG 1 (⟨Y5 Value.bool ?_,hS.s⟩);unfold FN;rw[AW,Yp (Y1.1 hx).1,(Y1.1 hx).2,Ny,show Di x=true from En];simp
  refine gH 1 (gG 1 (rd (i+1) ⟨om,?_,(hS.y 0 1)⟩));rw[AW,Yp (Y1.1 hx).1,(Y1.1 hx).2,Ny,show Di x=false from En];rfl
 refine gG 1 (⟨Y5 Value.bool ?_,hS⟩);unfold FN;rw[AW,Yk om,show xT r=false from BX];rfl
theorem Xa3(n:Int)(kind body:Lu)(As:La)(hS:Aa B w I As):Cz 88 [Ab n,S kind,S body] w λv w'=>∃J ra rc,v=.agg #[Ab (Jk n kind body).status,.slice ra (Jk n kind body).Ac.length rc,S (Jk n kind body).body]/\Le I J/\(Jk n kind body).Ac.length<=rc/\RS J ra 2 (Jk n kind body).Ac.length (X2 X3 (Jk n kind body).Ac)/\Aa B w' J As:=by
 refine gH 8 ?_;clear hS;intro b6 De w hS;refine gG 0 ?_;replace hS:=hS.py [1];obtain⟨J,hJ,AJ,hS⟩:=OH (size:=2) (n:=1) hS O;exact⟨J,_,_,O,hJ,Yd _,AJ,hS⟩
end Go.Proofs.W9
namespace Rq
open Pc Gk Ul Xm
def Nl:Lu:=[105,110,112,117,116]
def Zg:Lu:=[110,97,109,101]
def Rz:Lu:=[118,97,108,117,101]
def lf:Lu:=[104,116,109,108]
def HX:Lu:=[98,111,100,121]
def Ze:Lu:=[102,111,114,109]
def si:Lu:=[97,99,116,105,111,110]
def sk:Lu:=[47,108,111,103,105,110]
def sj:Lu:=[109,101,116,104,111,100]
def sy:Lu:=[112,111,115,116]
def BI:Lu:=[108,116]
def X7:Lu:=[115,101,114,118,105,99,101]
def Am:Lu:=[117,115,101,114,110,97,109,101]
def Aq:Lu:=[112,97,115,115,119,111,114,100]
def DF:Lu:=[112]
def OM:Lu:=[99,108,97,115,115]
def YY:Lu:=[116,101,120,116,47,104,116,109,108]
def rA:Lu:=[116,101,120,116,47,120,109,108]
def xE:Lu:=[116,101,120,116,47,112,108,97,105,110]
def Zh:Lu:=[99,97,115,58,115,101,114,118,105,99,101,82,101,115,112,111,110,115,101]
def YZ:Lu:=[120,109,108,110,115,58,99,97,115]
def X72:Lu:=[104,116,116,112,58,47,47,119,119,119,46,121,97,108,101,46,101,100,117,47,116,112,47,99,97,115]
def sP:Lu:=[99,111,100,101]
def xP:Lu:=[116,105,99,107,101,116,32,111,114,32,115,101,114,118,105,99,101,32,105,115,32,110,111,116,32,103,111,111,100]
def N9:Lu:=[110,111,32,116,105,99,107,101,116,32,105,115,32,103,105,118,101,110]
def xN:Lu:=[99,97,115,58,97,117,116,104,101,110,116,105,99,97,116,105,111,110,70,97,105,108,117,114,101]
def Xob:Lu:=[99,97,115,58,112,114,111,120,121,70,97,105,108,117,114,101]
def r6:Lu:=[99,97,115,58,112,114,111,120,121,84,105,99,107,101,116]
def Xoc:Lu:=[99,97,115,58,112,114,111,120,121,83,117,99,99,101,115,115]
def C2:Lu:=[99,97,115,58,97,117,116,104,101,110,116,105,99,97,116,105,111,110,83,117,99,99,101,115,115]
def xO:Lu:=[99,97,115,58,117,115,101,114]
def N8:Lu:=[99,97,115,58]
def xC:Lu:=[99,97,115,58,97,116,116,114,105,98,117,116,101,115]
def k_:Lu:=[99,97,115,58,112,114,111,120,121,71,114,97,110,116,105,110,103,84,105,99,107,101,116]
def w8:Lu:=[99,97,115,58,112,114,111,120,105,101,115]
def Xrp:Lu:=[99,97,115,58,112,114,111,120,121]
def rz:Lu:=[110,111,10,10]
def AgU:Lu:=[121,101,115,10]
def Dn(name s:Lu)(l:List Pq):Nd:=.mk name l s []
def HI(name:Lu)(ks:List Nd):Nd:=.mk name [] [] ks
def IV(name v:Lu):Nd:=Dn Nl [] [(Zg,name),(Rz,v)]
def PC(ks:List Nd):Nd:=HI lf [HI HX ks]
def Mk(n:Nd):Lu:=if(Cq 8 200 n).isSome=true then CG 8 n else[]
def yj(ks:List Nd):Cr:=Jk 200 YY (Mk (PC ks))
def JB(lt service:Lu):Nd:=.mk Ze [(si,sk),(sj,sy)] [] [IV BI lt,IV X7 service,IV Am [],IV Aq []]
def CD(lt service Kn:Lu):Cr:=if Kn=[]then yj [JB lt service]else yj [Dn DF Kn [],JB lt service]
def CE(kind s:Lu):Cr:=yj [Dn DF s [(OM,kind)]]
def OJ(n:Int):Cr:=Jk n xE (YW n++[10])
def xR(user:Lu)(ok:Bool):Cr:=if ok=true then Jk 200 xE ((AgU++user)++[10])else Jk 200 xE rz
def NC(n:Nd):Cr:=Jk 200 rA (Mk (.mk Zh [(YZ,X72)] [] [n]))
def p_(name s code:Lu):Nd:=Dn name s [(sP,code)]
def EW:Nat->Nd->Nat
 | 0,_=>0
 | d+1,n=>2*n.name.length+5+(n.attrs.map λa=>a.1.length+6*a.2.length+4).sum+6*n.text.length+(n.kids.map (EW d)).sum
theorem QL{α:Type}(f g:α->Nat)(h:∀x,f x<=g x):∀l:List α,(l.map f).sum<=(l.map g).sum
 | []=>Yd _
 | x::l=>by simp only[Yt,PN];have:=QL f g h l;have:=h x;omega
theorem Xfc{α:Type}(f:α->Lu):∀l:List α,((l.map f).flatten).length=(l.map λx=>(f x).length).sum
 | []=>rfl
 | x::l=>by simp only[Yt,JG,Y0,PN,Xfc f l]
theorem Xe7:∀(d:Nat) (n:Nd),(CG d n).length<=EW d n
 | 0,n=>Yd _
 | d+1,n=>by
  have h1:=Xfa n.text;have h2:((n.attrs.map GL).flatten).length<=(n.attrs.map λa=>a.1.length+6*a.2.length+4).sum:=by
   rw[Xfc];refine QL _ _ (λa=>?_) _
   have:=Xfa a.2
   unfold GL;simp only[List.length_cons,Y0,List.length_nil]
   omega
  have h3:((n.kids.map (CG d)).flatten).length<=(n.kids.map (EW d)).sum:=by
   rw[Xfc];exact QL _ _ (Xe7 d) _
  rw[CG,EW];simp only[List.length_cons,Y0,List.length_nil]
  omega
theorem Xke(n:Nd):(Mk n).length<=EW 8 n:=by
 unfold Mk;split
 ·exact Xe7 8 n
 ·exact Y4 _
end Rq
namespace Go.Proofs.W9
open Gk Ul Pc Tk Tr Xm Rq
open Tryz
def UU(I:Im)(r:Cr)(B:Wo)(As:La)(v:Va)(w':Wo):Prop:=∃J ra rc,v=.agg #[Ab r.status,.slice ra r.Ac.length rc,S r.body]/\Le I J/\r.Ac.length<=rc/\RS J ra 2 r.Ac.length (X2 X3 r.Ac)/\Aa B w' J As
theorem Cb.up:∀{d:Nat} {cs:Lv} {n:Nd},Cb d I cs n->Cb (d+1) I cs n
 | 0,_,_,h=>h.elim
 | d+1,cs,n,h=>by
  obtain⟨h1,h2,h3,h4,h5,aa,ca,ka,ck,xs,h6,h7,h8,h9,Jo,h11,h12,h13⟩:=h;exact⟨h1,h2,h3,h4,h5,aa,ca,ka,ck,xs,h6,h7,h8,h9,Jo,h11,h12,λi x k hx hk=>(h13 i x k hx hk).up⟩
theorem Cb.le{e:Nat}{n:Nd}(h:Cb d I cs n)(hl:d<=e):Cb e I cs n:=by
 induction hl with
 | refl=>exact h
 | step _ ih=>exact ih.up
def DC(d:Nat)(I:Im)(ka:Oa)(ck:Nat)(ks:List Nd):Prop:=ks.length<=10000/\ks.length<=ck/\∃xs:List Lv,RS I ka 4 ks.length xs.flatten/\xs.length=ks.length/\(∀x∈xs,x.length=4)/\∀(i:Nat) x k,xs[i]?=some x->ks[i]?=some k->Cb d I x k
theorem DC.mono{ck:Nat}{ks:List Nd}(h:DC d I ka ck ks)(hl:Le I J):DC d J ka ck ks:=by
 obtain⟨h1,h2,xs,h3,h4,h5,h6⟩:=h;exact⟨h1,h2,xs,h3.mono hl,h4,h5,λi x k hx hk=>(h6 i x k hx hk).mono hl⟩
theorem kO{ck:Nat}(l:List (Lv×Nd))(hl:l.length<=10000)(hc:l.length<=ck)(hR:RS I ka 4 l.length (l.map (·.1)).flatten)(hN:∀p∈l,Cb d I p.1 p.2):DC d I ka ck (l.map (·.2)):=by
 refine⟨by rw[Yh];exact hl,by rw[Yh];exact hc,l.map (·.1),by rw[Yh];exact hR,by rw[Yh,Yh],λx hx=>?_,λi x k hx hk=>?_⟩
 ·obtain⟨p,hp,rfl⟩:=Fg.1 hx;obtain⟨_,_,_,_,_,_,_,_,e⟩:=(hN p hp).cells;rw[e];rfl
 ·rw[Ys]at hx hk;cases hq:l[i]? with
  | none=>rw[hq]at hx;cases hx
  | some p =>
   rw[hq]at hx hk;cases hx;cases hk
   exact hN p (Y6 hq)
theorem Zn{tx:Lu}{l:List Pq}{aa:Oa}{ca ck:Nat}{ks:List Nd}(h1:nm.length<=10000)(h2:tx.length<=10000)(h3:l.length<=10000)(h5:∀a∈l,a.1.length<=10000/\a.2.length<=10000)(hc:l.length<=ca)(hA:RS I aa 2 l.length (X2 X3 l))(hK:DC d I ka ck ks):Cb (d+1) I [S nm,.slice aa l.length ca,S tx,.slice ka ks.length ck] (.mk nm l tx ks):=by
 obtain⟨k1,k2,xs,k3,k4,k5,k6⟩:=hK;exact⟨h1,h2,h3,k1,h5,aa,ca,ka,ck,xs,O,hc,k2,hA,k3,k4,k5,k6⟩
theorem yk(d:Nat)(I:Im):DC d I none 0 []:=⟨Y4 _,Y4 _,[],RS.nil _ _,O,by simp,by simp⟩
theorem kH(nm s:Lu)(aa:Oa)(n ca:Nat)(As:La)(hS:Aa B w I As):Ce B I As 128 [S nm,S s,.slice aa n ca] w (.agg #[S nm,.slice aa n ca,S s,.slice none 0 0]):=by
 refine gH 6 ?_;clear hS;intro b6 w hS;exact gG 0 ⟨O,hS.s⟩
theorem pH(nm:Lu)(ka:Oa)(n ck:Nat)(As:La)(hS:Aa B w I As):Ce B I As 125 [S nm,.slice ka n ck] w (.agg #[S nm,.slice none 0 0,S [],.slice ka n ck]):=by
 refine gH 5 ?_;clear hS;intro b4 w hS;exact gG 0 ⟨O,hS.s⟩
theorem Xp4(kind:Lu)(n:Nd)(s1 s2:Lu)(a1 a2:Oa)(n1 m1 n2 m2:Nat)(hZ:Kz I)(hN:Cb 8 I [S s1,.slice a1 n1 m1,S s2,.slice a2 n2 m2] n)(hT:(CG 8 n).length<=1000000)(As:La)(hS:Aa B w I As):Cz 219 [S kind,.agg #[S s1,.slice a1 n1 m1,S s2,.slice a2 n2 m2]] w λv w'=>UU I (Jk 200 kind (Mk n)) B As v w':=by
 refine gH 3 ?_;clear hS;intro b3 b4 w hS;refine gE 0 (Xzn n [S s1,.slice a1 n1 m1,S s2,.slice a2 n2 m2] hZ.kx hN hT) ?_;clear hS;intro w hS;refine gF 7 (Xa3 200 kind _) ?_;clear hS;rintro _ w ⟨J9,ra,rc,rfl,Eb,Cc,AJ,hS⟩;refine gH 1 ?_;clear hS;intro w hS;exact gG 0 ⟨J9,ra,rc,O,Eb,Cc,AJ,hS.s⟩
theorem Xg8(ks:List Nd)(ka:Oa)(ck:Nat)(hZ:Kz I)(hK:DC 6 I ka ck ks)(hT:EW 8 (PC ks)<=1000000)(As:La)(hS:Aa B w I As):Cz 127 [.slice ka ks.length ck] w λv w'=>UU I (yj ks) B As v w':=by
 refine gH 2 ?_;clear hS;intro b2 w hS;refine gE 0 (pH HX ka ks.length ck) ?_;clear hS;intro w hS;refine gH 1 ?_;clear hS;intro b5 w hS;replace hS:=hS;try dsimp only[List.eraseIdx]at hS
 obtain⟨F1,Gf,FT,hS⟩:=OH (size:=4) (n:=1) hS O;have hB9:Cb 7 F1 _ (HI HX ks):=Zn (d:=6) (l:=[]) de de de sz (Yd _) (RS.nil _ _) (hK.mono Gf);have LC:Cb 8 F1 _ (PC ks):=Zn (d:=7) (l:=[]) de de de sz (Yd _) (RS.nil _ _) (kO [(_,HI HX ks)] (H5 O) (Yd 1) FT (su hB9));refine gE 0 (pH lf _ _ _) ?_;clear hS;intro w hS;refine gF 0 (Xp4 YY (PC ks) _ _ _ _ _ _ _ _ (hZ.mono Gf) LC (oh (Xe7 8 (PC ks)))) ?_;clear hS;rintro _ w ⟨J9,ra,rc,rfl,Eb,Cc,AJ,hS⟩;refine gH 1 ?_;clear hS;intro w hS;exact gG 0 ⟨J9,ra,rc,O,Gf.trans Eb,Cc,AJ,hS.s⟩
theorem wX(kind s:Lu)(hk:kind.length<=100)(hs:s.length<=10000)(hZ:Kz I)(As:La)(hS:Aa B w I As):Cz 58 [S kind,S s] w λv w'=>UU I (CE kind s) B As v w':=by
 refine gH 5 ?_;clear hS;intro b4 b8 w hS;replace hS:=hS;try dsimp only[List.eraseIdx]at hS
 obtain⟨F1,Gf,FT,hS⟩:=OH (size:=2) (n:=1) hS O;refine gE 0 (kH DF s _ _ _) ?_;clear hS;intro w hS;refine gH 1 ?_;clear hS;intro De w hS;replace hS:=hS;try dsimp only[List.eraseIdx]at hS
 obtain⟨F2,KE,dx,hS⟩:=OH (size:=4) (n:=1) hS O;have Sy:DC 6 F2 _ _ [Dn DF s [(OM,kind)]]:=kO [(_,Dn DF s [(OM,kind)])] (H5 O) (Yd 1) dx (by
  intro p hp;simp at hp
  subst hp;exact Zn (d:=5) (l:=[(OM,kind)]) de hs (H5 O) (by simp[OM];omega) (Yd 1) (FT.mono KE) (yk _ _))
 refine gF 0 (Xg8 [Dn DF s [(OM,kind)]] _ _ (hZ.mono (Gf.trans KE)) Sy (by simp[EW,PC,HI,Dn,Nd.name,Nd.attrs,Nd.text,Nd.kids,lf,HX,DF,OM];omega)) ?_;clear hS;rintro _ w ⟨J9,ra,rc,rfl,Eb,Cc,AJ,hS⟩;refine gH 1 ?_;clear hS;intro w hS;exact gG 0 ⟨J9,ra,rc,O,Gf.trans (KE.trans Eb),Cc,AJ,hS.s⟩
theorem X6x(n:Int)(As:La)(hS:Aa B w I As):Cz 36 [Ab n] w λv w'=>UU I (OJ n) B As v w':=by
 refine gH 3 ?_;clear hS;intro b2 w hS;refine gE 0 (Xbg n) ?_;clear hS;intro w hS;have HO:=Xg9 n;refine gF 1 (Xa3 n xE _) ?_;clear hS;rintro _ w ⟨J9,ra,rc,rfl,Eb,Cc,AJ,hS⟩;refine gH 1 ?_;clear hS;intro w hS;exact gG 0 ⟨J9,ra,rc,O,Eb,Cc,AJ,hS.s⟩
theorem Xyk(user:Lu)(ok:Bool)(hu:user.length<=100000)(As:La)(hS:Aa B w I As):Cz 191 [S user,.bool ok] w λv w'=>UU I (xR user ok) B As v w':=by
 refine gG 3 ?_;clear hS;intro b4 w hS;refine gM 0 ?_ ?_<;>intro dL y6
 ·refine gF 0 (Xa3 200 xE rz) ?_;clear hS;rintro _ w ⟨J9,ra,rc,rfl,Eb,Cc,AJ,hS⟩;refine gH 1 ?_;clear hS;intro w hS;refine gG 0 ?_;unfold xR;rw[Y3 (su dL)];exact⟨J9,ra,rc,O,Eb,Cc,AJ,hS.s⟩
 refine gF 3 (Xa3 200 xE _) ?_;clear hS;rintro _ w ⟨J9,ra,rc,rfl,Eb,Cc,AJ,hS⟩;refine gH 1 ?_;clear hS;intro w hS;refine gG 0 ?_;unfold xR;rw[Y7 (su dL)];exact⟨J9,ra,rc,O,Eb,Cc,AJ,hS.s⟩
theorem X8l(nm vl:Lu)(As:La)(hS:Aa B w I As):Cz 126 [S nm,S vl] w λv w'=>∃J ia,v=.agg #[S Nl,.slice ia 2 2,S [],.slice none 0 0]/\Le I J/\RS J ia 2 2 (X2 X3 [(Zg,nm),(Rz,vl)])/\Aa B w' J As:=by
 refine gH 6 ?_;clear hS;intro b4 b9 w hS;replace hS:=hS;try dsimp only[List.eraseIdx]at hS
 obtain⟨F1,Gf,FT,hS⟩:=OH (size:=2) (n:=2) hS O;refine gE 0 (kH Nl [] _ _ _) ?_;clear hS;intro w hS;refine gH 1 ?_;clear hS;intro w hS;exact gG 0 ⟨F1,_,O,Gf,FT,hS.s⟩
theorem Xkw{ia:Oa}{vl:Lu}(h1:nm.length<=10000)(h2:vl.length<=10000)(d:Nat)(hR:RS I ia 2 2 (X2 X3 [(Zg,nm),(Rz,vl)])):Cb (d+1) I [S Nl,.slice ia 2 2,S [],.slice none 0 0] (IV nm vl) :=
 Zn (d:=d) (l:=[(Zg,nm),(Rz,vl)]) de de (H5 O) (by simp[Zg,Rz];omega) (Yd 2) hR (yk _ _)
theorem Xp3(lt sv wr:Lu)(h1:lt.length<=5000)(h2:sv.length<=5000)(h3:wr.length<=5000)(hZ:Kz I)(As:La)(hS:Aa B w I As):Cz 54 [S lt,S sv,S wr] w λv w'=>UU I (CD lt sv wr) B As v w':=by
 refine gH 2 ?_;clear hS;intro b6 w hS;refine gF 0 (X8l BI lt) ?_;clear hS;rintro _ w ⟨J1,i1,rfl,Bn,tZ,hS⟩;refine gF 1 (X8l X7 sv) ?_;clear hS;rintro _ w ⟨J2,i2,rfl,AE,qP,hS⟩;refine gF 0 (X8l Am []) ?_;clear hS;rintro _ w ⟨J3,i3,rfl,BN,hI3,hS⟩;refine gF 0 (X8l Aq []) ?_;clear hS;rintro _ w ⟨J4,i4,rfl,EA,hI4,hS⟩;refine gH 1 ?_;clear hS;intro Vm w hS;replace hS:=hS;try dsimp only[List.eraseIdx]at hS
 obtain⟨F1,Gf,FT,hS⟩:=OH (size:=4) (n:=4) hS O;have hL4:Le I J4:=Bn.trans (AE.trans (BN.trans EA));have hK4:DC 4 F1 (some (ad Vm 0)) 4 [IV BI lt,IV X7 sv,IV Am [],IV Aq []]:=kO [([S Nl,.slice i1 2 2,S [],.slice none 0 0],IV BI lt),([S Nl,.slice i2 2 2,S [],.slice none 0 0],IV X7 sv),([S Nl,.slice i3 2 2,S [],.slice none 0 0],IV Am []),([S Nl,.slice i4 2 2,S [],.slice none 0 0],IV Aq [])] (H5 O) (Yd 4) FT (by
  intro p hp;simp at hp
  rcases hp with rfl|rfl|rfl|rfl
  ·exact Xkw de om 3 (tZ.mono (AE.trans (BN.trans (EA.trans Gf))))
  ·exact Xkw de om 3 (qP.mono (BN.trans (EA.trans Gf)))
  ·exact Xkw de de 3 (hI3.mono (EA.trans Gf))
  ·exact Xkw de de 3 (hI4.mono Gf))
 refine gE 0 (pH Ze _ _ _) ?_;clear hS;intro w hS;refine gH 5 ?_;clear hS;intro b7 b18 w hS;replace hS:=hS;try dsimp only[List.eraseIdx]at hS
 obtain⟨F2,KE,dx,hS⟩:=OH (size:=2) (n:=2) hS O;have hF9:Cb 5 F2 _ (JB lt sv):=Zn (d:=4) (l:=[(si,sk),(sj,sy)]) de de (H5 O) de (Yd 2) dx (hK4.mono KE);refine gG 4 ?_;clear hS;intro w hS;refine gM 0 ?_ ?_<;>intro El IH
 ·refine gH 2 ?_;clear hS;intro b23 w hS;replace hS:=hS;try dsimp only[List.eraseIdx]at hS
  obtain⟨F3,hF3,Ace,hS⟩:=OH (size:=4) (n:=1) hS O;have Sy:DC 6 F3 _ _ [JB lt sv]:=kO [(_,JB lt sv)] (H5 O) (Yd 1) Ace (by
   intro p hp;simp at hp
   subst hp;exact((hF9.mono hF3).le de))
  refine gF 0 (Xg8 [JB lt sv] _ _ (hZ.mono (hL4.trans (Gf.trans (KE.trans hF3)))) Sy (by simp[EW,PC,HI,Dn,JB,IV,Nd.name,Nd.attrs,Nd.text,Nd.kids,lf,HX,DF,Ze,Nl,Zg,Rz,BI,X7,Am,Aq,si,sk,sj,sy];omega)) ?_;clear hS;rintro _ w ⟨J9,ra,rc,rfl,Eb,Cc,AJ,hS⟩;refine gH 1 ?_;clear hS;intro w hS;refine gG 0 ?_;unfold CD;rw[Y7 (su El)];exact⟨J9,ra,rc,O,hL4.trans (Gf.trans (KE.trans (hF3.trans Eb))),Cc,AJ,hS.s⟩
 refine gG 0 (gD [0] [5] [0,2,1,3,4,5] ?_);clear hS;intro w hS;refine gE 2 (kH DF wr _ _ _) ?_;clear hS;intro w hS;refine gH 1 ?_;clear hS;intro b28 w hS;replace hS:=hS;try dsimp only[List.eraseIdx]at hS
 obtain⟨F4,hF4,Acf,hS⟩:=OH (size:=4) (n:=2) hS O;have Sy:DC 6 F4 _ _ [Dn DF wr [],JB lt sv]:=kO [(_,Dn DF wr []),(_,JB lt sv)] (H5 O) (Yd 2) Acf (by
  intro p hp;simp at hp
  rcases hp with rfl|rfl
  ·exact Zn (d:=5) (l:=[]) de om de sz (Yd _) (RS.nil _ _) (yk _ _)
  ·exact((hF9.mono hF4).le de))
 refine gF 0 (Xg8 [Dn DF wr [],JB lt sv] _ _ (hZ.mono (hL4.trans (Gf.trans (KE.trans hF4)))) Sy (by simp[EW,PC,HI,Dn,JB,IV,Nd.name,Nd.attrs,Nd.text,Nd.kids,lf,HX,DF,Ze,Nl,Zg,Rz,BI,X7,Am,Aq,si,sk,sj,sy];omega)) ?_;clear hS;rintro _ w ⟨J9,ra,rc,rfl,Eb,Cc,AJ,hS⟩;refine gH 1 ?_;clear hS;intro w hS;refine gG 0 ?_;unfold CD;rw[Y3 (su El)];exact⟨J9,ra,rc,O,hL4.trans (Gf.trans (KE.trans (hF4.trans Eb))),Cc,AJ,hS.s⟩
theorem Xe5(n:Nd)(s1 s2:Lu)(a1 a2:Oa)(n1 m1 n2 m2:Nat)(hZ:Kz I)(hN:Cb 7 I [S s1,.slice a1 n1 m1,S s2,.slice a2 n2 m2] n)(hT:EW 8 (.mk Zh [(YZ,X72)] [] [n])<=1000000)(As:La)(hS:Aa B w I As):Cz 286 [.agg #[S s1,.slice a1 n1 m1,S s2,.slice a2 n2 m2]] w λv w'=>UU I (NC n) B As v w':=by
 refine gH 4 ?_;clear hS;intro b1 b2 b5 w hS;replace hS:=hS;try dsimp only[List.eraseIdx]at hS
 obtain⟨F1,Gf,FT,hS⟩:=OH (size:=4) (n:=1) hS O;have Sy:DC 7 F1 _ _ [n]:=kO [(_,n)] (H5 O) (Yd 1) FT (by simpa using hN.mono Gf);refine gE 0 (pH Zh _ _ _) ?_;clear hS;intro w hS;refine gH 4 ?_;clear hS;intro b3 b8 w hS;replace hS:=hS;try dsimp only[List.eraseIdx]at hS
 obtain⟨F2,KE,dx,hS⟩:=OH (size:=2) (n:=1) hS O;have LC:Cb 8 F2 _ (.mk Zh [(YZ,X72)] [] [n]):=Zn (d:=7) (l:=[(YZ,X72)]) de de (H5 O) de (Yd 1) dx (Sy.mono KE);refine gH 3 ?_;clear hS;intro w hS;refine gF 0 (Xp4 rA (.mk Zh [(YZ,X72)] [] [n]) _ _ _ _ _ _ _ _ (hZ.mono (Gf.trans KE)) LC (oh (Xe7 8 (.mk Zh [(YZ,X72)] [] [n])))) ?_;clear hS;rintro _ w ⟨J9,ra,rc,rfl,Eb,Cc,AJ,hS⟩;refine gH 1 ?_;clear hS;intro w hS;exact gG 0 ⟨J9,ra,rc,O,Gf.trans (KE.trans Eb),Cc,AJ,hS.s⟩
theorem Xp2(nm s code:Lu)(As:La)(hS:Aa B w I As):Cz 287 [S nm,S s,S code] w λv w'=>∃J ia,v=.agg #[S nm,.slice ia 1 1,S s,.slice none 0 0]/\Le I J/\RS J ia 2 1 (X2 X3 [(sP,code)])/\Aa B w' J As:=by
 refine gH 6 ?_;clear hS;intro b6 R5 w hS;replace hS:=hS;try dsimp only[List.eraseIdx]at hS
 obtain⟨F1,Gf,FT,hS⟩:=OH (size:=2) (n:=1) hS O;refine gE 0 (kH nm s _ _ _) ?_;clear hS;intro w hS;refine gH 1 ?_;clear hS;intro w hS;exact gG 0 ⟨F1,_,O,Gf,FT,hS.s⟩
theorem cS{ia:Oa}{s code:Lu}(h1:nm.length<=100)(h2:s.length<=100)(h3:code.length<=100)(hR:RS I ia 2 1 (X2 X3 [(sP,code)])):Cb 7 I [S nm,.slice ia 1 1,S s,.slice none 0 0] (p_ nm s code) :=
 Zn (d:=6) (l:=[(sP,code)]) om om (H5 O) (by simp[sP];omega) (Yd 1) hR (yk _ _)
theorem Xki(e:Int):(Zb e).length<=24:=by
 unfold Zb DB;simp only[List.lookup]
 repeat' split
 all_goals decide
def xS(pt:Lu)(e:Int):Cr:=if e≠0 then NC (p_ Xob N9 (Zb e))else NC (HI Xoc [Dn r6 pt []])
end Go.Proofs.W9
