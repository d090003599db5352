/- Part 6 of what the proof stands on. -/
import Derived.Test.YtnbngknffkcefaaGreatDoorF30E
import Derived.Test.YtnbngknffkcefaaGreatDoorCards
set_option linter.unusedVariables false
set_option linter.unusedSimpArgs false
set_option maxHeartbeats 4000000
set_option maxRecDepth 100000
set_option synthInstance.maxHeartbeats 400000
set_option synthInstance.maxSize 10000
open Go Gk
variable {p:Addr}{listed:Array Bool}{af:Array Edge}{fs:Array Field}{ops Ed:Array Oper}{ts:Array TypeId}{held w1 want:Bool}{R:Ending->Wo->Prop}{L L' M:AB}{fd:Field}{fn:Func}{f:FuncId}{I J:Im}{DF DI hi DM:Int}{N Bh Hs:La}{G:List (Bool×Bool)}{pl:List (Nat×Nat)}{D Os T:List Int}{rest:List Oper}{V:List CN}{Ar key nm Ay:Lu}{args cs ds news vs xs zs:Lv}{b bytes c cap db fuel i k kb lg m n n0 nn o off size u:Nat}{spare:Nat->Bool}{ps:Nat->Int}{a a0 ka:Oa}{op:Op}{d:Option Nat}{P:Program}{S1 S2 g1 g2:Prop}{pos:String}{H X α β σ:Type}{E dst src t' ty:TypeId}{us v v0:Va}{B w:Wo}{C:Wo->Prop}{A:X1}{K K':Bk}
namespace Go.Proofs.W9
open Gk Ul Pc Tk Tr Xm Rq DN Tryz
theorem Xyh(s:Lu)(ds:s.length<=10000)(ao:∀c∈s,c≠38)(d:Nat)(ih:∀(j:Nat) (m left l:Int) (n:Nd) (r:Lu) (B w:Wo) (I:Im) (N:La) (b7:1<=m) (ay:m+(d:Int)=9) (ha:j<=s.length) (hE:Il d left (s.drop j)=some (n,r,l)) (f:Aa B w I N),Calls prog 200 #[S s,Ab (j:Nat),Ab m] w (AY λv w'=>∃J cs,v=.tuple #[.agg (cs:Lv).toArray,Ab ((s.length-r.length:Nat):Int)]/\Le I J/\Bt d J cs n/\Aa B w' J N))
  (j:Nat) (m left l:Int) (n:Nd) (r:Lu)   (N:La) (b7:1<=m) (ay:m+((d+1:Nat):Int)=9) (ha:j<=s.length) (hE:Il (d+1) left (s.drop j)=some (n,r,l)) (f:Aa B w I N):Calls prog 200 #[S s,Ab (j:Nat),Ab m] w (AY λv w'=>∃J cs,v=.tuple #[.agg (cs:Lv).toArray,Ab ((s.length-r.length:Nat):Int)]/\Le I J/\Bt (d+1) J cs n/\Aa B w' J N):=by
 refine gH 5 ?_;intro b6 b8 w f;refine gG 0 ?_;obtain⟨az,t3,tv,ks,q9,dl,X,P,D,ae,C,E,rfl,G⟩:=wz hE;have X:=oX X;have dd:((at_ s (j:Int)).toNat:Int)=60:=by rw[X.2];rfl
 rw[Gj]at P E G;obtain⟨nm,t⟩:∃nm,nm=AP [32,62] (s.drop (j+1)):=⟨_,O⟩
 obtain⟨p2,Y⟩:∃p2,p2=j+1+nm.length:=⟨_,O⟩
 rw[<-t]at E G;rw[<-Xog,<-t,Gj,<-Y]at P;have ce:=Zb [32,62] (s.drop (j+1));rw[<-t,Y6]at ce;refine gU 14 (λcz c2=>?_);refine gG 5 (.lk [0,2,6,8,1] (σ:=Nat) (λe _m=>(9,Ab (e:Nat))::_m) (λe w=>j+1<=e/\e<=s.length/\e+(AP [32,62] (s.drop e)).length=p2/\Aa B w I (Ac b8 [S [],.slice none 0 0,S [],.slice none 0 0] 140::Ac b6 [S [],.slice none 0 0,S [],.slice none 0 0] 140::N)) (λe=>s.length-e) (j+1) ⟨Ya _,om,by rw[<-t,Y],f⟩ ?_);rintro e w ⟨dg,dh,dt,f⟩;refine gH 14 ?_;refine gN 2 ?_ ?_<;>intro c3
 ·refine gG 3 ?_;have A:=lC (s:=s) (i:=e) om om om;exact rd (e+1) ⟨om,od,od,f⟩
 refine gG 0 ?_;have b9:e=p2:=by
  have:=eP (s:=s) (i:=e) om
  omega
 subst b9;have a7:=Oy (x:=nm) s (j+1) e (by rw[Y,aS,t];exact sk _ _) (Z:=(j:Int)+1) O;refine gH 5 ?_;rw[a7];refine gH 3 ?_;intro w f;refine gG 0 ?_;replace f:=f.Ai 124 2;refine .lk [0,2,6,8] (σ:=Nat×List Px×Va) (λ(p,g,av) _m=>(1,Ab (p:Nat))::_m) (λ(p,g,av) w=>e<=p/\p<=s.length/\Kd ((s.drop p).length+1) (s.drop p) g=some (az,t3)/\g.length<=p/\(∀a∈g,a.1.length<=s.length/\a.2.length<=s.length)/\Aa B w I (An 124 2 av (g).length (X2 EM (g))::Ac b8 [S nm,av,S [],.slice none 0 0] 140::Ac b6 [S [],.slice none 0 0,S [],.slice none 0 0] 140::N)) (λ(p,g,av)=>s.length-p) (e,[],.slice none 0 0) ⟨Ya _,om,P,Y4 _,λ_ h=>Yz h sz,f⟩ ?_;rintro⟨p,g,av⟩ w ⟨dq,cg,au,dp,a4,f⟩;obtain⟨aa,ac,rfl,bs,_⟩:=f.AG (k:=0) (v:=av) O;refine gN 10 ?_ ?_<;>intro c4
 ·refine gG 0 ?_;have F:Xl (s.drop p) [32]=true:=dZ om (CS.1 (by show _=32;omega));obtain⟨v,h1,hv,L,H⟩:=Xi6 au F;rw[Gj]at h1 hv L H;rw[xN 61 s (p+1)]at h1 hv L H;obtain⟨o,a3⟩:∃o,o=p+1+(AP [61] (s.drop (p+1))).length:=⟨_,O⟩
  rw[<-a3]at h1 hv L H;rw[Gj]at hv L H;rw[xN 34 s (o+2)]at L H;obtain⟨q,hq⟩:∃q,q=o+2+(AP [34] (s.drop (o+2))).length:=⟨_,O⟩
  rw[<-hq]at L H;rw[Gj]at H;have bn:=Od h1;have dc:((at_ s ((o:Int)+1)).toNat:Int)=34:=by rw[bn.2.2];rfl
  have c7:=oX L;have di:=YG (s:=s) (c:=61) (i:=p) om (by show _≠61;omega);have cn:=Oy (x:=AP [34] (s.drop (o+2))) s (o+2) q (by rw[hq,aS];exact sk _ _) (Z:=(o:Int)+2) O;have ab:=g_ hv (λc hc=>ao c (yi ((Y6l _).mem hc)));obtain⟨rfl,ab⟩:=ab;have cq:=Zb [34] (s.drop (o+2));rw[Y6]at cq;refine gE 2 (xq s p 61 o om cg om) ?_;intro w f;refine gU 13 (λc0 c5=>?_);refine gE 3 (xq s (o+2) 34 q hq.symm om om) ?_;intro w f;refine gU 5 (λc1 c6=>?_);refine gH 5 ?_;rw[cn];refine gE 0 (X6s (AP [34] (s.drop (o+2))) ab om) ?_;intro w f;refine gU 7 (λbu b0=>?_);refine gG 0 (gD [1] [12] [0,1,2,3,4,5,6,7,8,9,10,11,12] ?_);intro w f;refine gH 10 ?_;intro cv w f;refine gH 1 ?_;intro ai am aw w f;refine gH 2 ?_;intro w f;refine gG 3 ?_;have cl:=Oy (x:=AP [61] (s.drop (p+1))) s (p+1) o (by rw[a3,aS];exact sk _ _) (Z:=(p:Int)+1) O;rw[cl]at f;refine rd (q+1,g++[(AP [61] (s.drop (p+1)),AP [34] (s.drop (o+2)))],.slice ai (g.length+1) am) ⟨od,od,?_,by(try dsimp only);rw[Y0];show _+1<=_;omega,λh hm=>?_,?_⟩
  ·(try dsimp only)
   rw[<-H];exact Xeu _ _ _ _ om (by rw[Y6,Y6];omega)
  ·rcases Ys.1 hm with A|A
   ·exact a4 h A
   ·rw[PQ]at A;subst A;exact⟨by have:=Zb [61] (s.drop (p+1));rw[Y6]at this;(try dsimp only);omega,od⟩
  ·(try dsimp only)
   rw[KP,show(g++[(AP [61] (s.drop (p+1)),AP [34] (s.drop (o+2)))]).length=g.length+1 from Y0];exact(f.x [2,2,2])
 refine gG 0 ?_;have cf:Xl (s.drop p) [32]=false:=by
  cases hh:Xl (s.drop p) [32]with
  | false=>rfl
  | true =>
   have A:=oX hh;have h8:((at_ s (p:Int)).toNat:Int)=32:=by rw[A.2];rfl
   exfalso;omega
 obtain⟨bt,co⟩:=Xi7 au cf;rw[co]at D ae C;have D:=oX D;have de:((at_ s (p:Int)).toNat:Int)=62:=by rw[D.2];rfl
 rw[Gj]at ae C;obtain⟨q5,ad⟩:∃q5,p+1+(AP [60] (s.drop (p+1))).length=q5:=⟨_,O⟩
 rw[xN 60 s (p+1),ad]at C;have cp:=Zb [60] (s.drop (p+1));rw[Y6]at cp;obtain⟨rfl,ch⟩:=g_ ae (λc hc=>ao c (yi ((Y6l _).mem hc)));have cm:=Oy (x:=AP [60] (s.drop (p+1))) s (p+1) q5 (by rw[<-ad,aS];exact sk _ _) (Z:=(p:Int)+1) O;refine gU 10 (λbv b1=>?_);refine gE 5 (xq s _ 60 q5 ad om om) ?_;intro w f;refine gH 5 ?_;rw[cm];refine gE 0 (X6s _ ch om) ?_;intro w f;refine gU 7 (λbw b2=>?_);refine gH 5 ?_;intro w f;refine gG 0 ?_;have T:=f.fV 0;obtain⟨J,hJ,bp,f⟩:=T;replace f:=Aa.Ai ((f.pick 1 O).pick 1 O) 140 4;refine .lk [0,2,6,8] (σ:=Nat×Int×List Nd×List Lv×Va×Im) (λ(z,lq,u,xs,kv,M) _m=>(1,Ab (z:Nat))::_m) (λ(z,lq,u,xs,kv,M) w=>q5<=z/\z<=s.length/\Jk (Il d) ((s.drop z).length+1) lq (s.drop z) u=some (ks,q9,l)/\Le J M/\xs.length=u.length/\(∀x∈xs,x.length=4)/\(∀(i:Nat) x k,xs[i]?=some x->u[i]?=some k->Bt d M x k)/\u.length<=z/\Aa B w M (An 140 4 kv xs.length xs.flatten::Ac b8 [S nm,.slice aa g.length ac,S (AP [60] (s.drop (p+1))),kv] 140::Ac b6 [S [],.slice none 0 0,S [],.slice none 0 0] 140::N)) (λ(z,lq,u,xs,kv,M)=>s.length-z) (q5,left-1,[],[],.slice none 0 0,J) ⟨Ya _,om,C,Le.refl _,O,λ_ h=>Yz h sz,λi x k h=>by simp at h,Y4 _,f⟩ ?_;rintro⟨z,lq,u,xs,kv,M⟩ w ⟨du,ct,W,Q,y,a9,ar,dk,f⟩;obtain⟨ka,kc,rfl,dj,_⟩:=f.AG (k:=0) (v:=kv) O;refine gH 14 ?_;refine gN 4 ?_ ?_<;>intro b3
 ·refine gG 0 ?_;have a5:Xl (s.drop z) [60,47]=false:=by
   cases hh:Xl (s.drop z) [60,47]with
   | false=>rfl
   | true =>
    have A:=Od hh;have h8:((at_ s ((z:Int)+1)).toNat:Int)=47:=by rw[A.2.2];rfl
    exfalso;omega
  obtain⟨k,q2,l2,V,cb⟩:=wD W a5;refine gP 4 [] (ih z _ lq l2 k q2 B _ M _ om (by push_cast at ay;omega) ct V) ?_;rintro _ w ⟨M2,db,rfl,ap,aq,f⟩;obtain⟨s1,a1,n1,m1,s2,a2,n2,m2,rfl⟩:=aq.cells;refine gG 8 ?_;intro da w f;refine gU 0 (λbx b4=>?_);refine gH 9 ?_;intro cw aj an ax w f;refine gG 0 ?_;have cr:=XL (Xnz _ _ _ _ _ _ V);have cd:=wy _ _ _ _ _ _ V;rw[Y6]at cd;have K:(xs++[[S s1,.slice a1 n1 m1,S s2,.slice a2 n2 m2]]).length=xs.length+1:=by simp
  have ba:(xs++[[S s1,.slice a1 n1 m1,S s2,.slice a2 n2 m2]]).flatten=xs.flatten++[S s1,.slice a1 n1 m1,S s2,.slice a2 n2 m2]:=by simp
  refine rd (s.length-q2.length,l2,u++[k],xs++[[S s1,.slice a1 n1 m1,S s2,.slice a2 n2 m2]],.slice aj (xs.length+1) an,M2) ⟨od,od,?_,Q.trans ap,by simp[y],λx hx=>?_,λi x k2 hx hk=>?_,by(try dsimp only);rw[Y0];show _+1<=_;omega,?_⟩
  ·(try dsimp only)
   rw[cr,<-cb];exact Xim (λl s k r l2 h=>wy _ _ _ _ _ _ h) _ _ _ _ _ om (by rw[Y6];omega)
  ·rcases Ys.1 hx with h|h
   ·exact a9 x h
   ·rw[PQ.1 h];rfl
  ·rcases Yt i xs.length with h|h
   ·rw[Ye h]at hx;rw[Ye om]at hk;exact(ar i x k2 hx hk).mono ap
   ·have hi:i=xs.length:=by have:=(Y1.1 hx).1;rw[K]at this;omega
    subst hi;rw[Yw (Ya _),jN]at hx;rw[y,Yw (Ya _),jN]at hk;cases hx;cases hk
    exact aq
  ·(try dsimp only)
   rw[K,ba];exact(f.z [3,3,3] 3 1)
 refine gG 0 ?_;have a0:=VG W (λh=>by
  have h8:((at_ s (z:Int)).toNat:Int)=60:=by rw[h.2.1];rfl
  have h7:((at_ s ((z:Int)+1)).toNat:Int)≠47:=λe=>h.2.2 (CS.1 (by show _=47;omega))
  have h6:=h.1;omega)
 obtain⟨cc,cj,dm⟩:=Xoy W a0;rw[cj]at E G;have F:=xZ E;have a6:=F.1 sz;simp only[Y5,Y0,Yh]at a6
 refine gH 14 ?_;refine gN 9 ?_ ?_<;>intro U
 ·refine gH 3 ?_;intro w f;refine .nil (.ret ?_);refine λ_ ck=>gW (b:=_) (cs:=[_,_,_,_]) ck f (k:=2) O mK mQ O O O ?_
  have b5:List.take (((z:Int)+(([60,47]++nm++[62]:Lu).length:Int)).toNat-(z:Int).toNat) (List.drop (z:Int).toNat s)=[60,47]++nm++[62]:=by
   rw[show((z:Int)+(([60,47]++nm++[62]:Lu).length:Int)).toNat-(z:Int).toNat=([60,47]++nm++[62]:Lu).length by omega,Yd];exact F.2
  exfalso
  rcases U with h|h
  ·simp only[Y0,Y5,Yh]at h;omega
  ·exact h b5
 refine gH 7 ?_;intro w f;refine gG 0 ?_;have T:=f.fV 0;obtain⟨M3,R,bq,f⟩:=T;try dsimp only[List.eraseIdx]at f
 have dr:r.length=s.length-z-(nm.length+3):=by rw[G,Y6,Y6]
 have bo:(z:Int)+(([60,47]++nm++[62]:Lu).length:Int)=((s.length-r.length:Nat):Int):=by
  simp only[Y0,Y5,Yh];omega
 rw[bo];refine⟨M3,[S nm,.slice aa g.length ac,S (AP [60] (s.drop (p+1))),.slice ka xs.length kc],O,(hJ.trans Q).trans R,?_,f.s⟩;rw[Gj,<-t,bt,cc];refine⟨by show nm.length<=10000;omega,by show(AP [60] (s.drop (p+1))).length<=10000;omega,by show g.length<=10000;omega,by show u.length<=10000;omega,λa ha=>by have:=a4 a ha;omega,aa,ac,ka,kc,xs,?_,bs,by show u.length<=kc;omega,(bp.mono Q).mono R,?_,y,a9,λi x k hx hk=>(ar i x k hx hk).mono R⟩
 ·show[S nm,.slice aa g.length ac,S (AP [60] (s.drop (p+1))),.slice ka xs.length kc]=[S nm,.slice aa g.length ac,S (AP [60] (s.drop (p+1))),.slice ka u.length kc]
  rw[y]
 ·show RS M3 ka 4 u.length xs.flatten
  rw[<-y];exact bq
theorem Qt(s:Lu)(f:s.length<=10000)(e:∀c∈s,c≠38):∀(d:Nat) (b:Nat) (a left l:Int) (n:Nd) (r:Lu) (B w:Wo) (I:Im) (N:La) (o:1<=a) (p:a+(d:Int)=9) (u:b<=s.length) (g:Il d left (s.drop b)=some (n,r,l)) (t:Aa B w I N),Calls prog 200 #[S s,Ab (b:Nat),Ab a] w (AY λv w'=>∃J cs,v=.tuple #[.agg (cs:Lv).toArray,Ab ((s.length-r.length:Nat):Int)]/\Le I J/\Bt d J cs n/\Aa B w' J N):=by
 intro d
 induction d with
 | zero=>intro b a left l n r B w I N _ _ _ g;cases g
 | succ d q=>exact λb a left l n r B w I N h i j k m=>Xyh s f e d q b a left l n r N h i j k m
theorem Xo7{d:Nat}{left l:Int}{n:Nd}(h:CD (d+1) left n=some l):0<=left-1/\HI n.name=true/\TM [] n.attrs=true/\TR n.text=true/\¬ (n.text≠[]/\n.kids≠[])/\Kb (CD d) (left-1) n.kids=some l:=by
 rw[CD]at h;split at h
 ·cases h
 ·rename_i a
  simp only[not_or,yo]at a
  exact⟨om,a.2.1,a.2.2.1,a.2.2.2.1,a.2.2.2.2,h⟩
theorem Xd1{f:Int->Nd->Option Int}{l m:Int}{k:Nd}{r:List Nd}(h:Kb f l (k::r)=some m):∃a,f l k=some a/\Kb f a r=some m:=by
 rw[Kb]at h;split at h
 ·cases h
 ·rename_i a b
  exact⟨a,b,h⟩
theorem U9:∀(d:Nat) (n:Nd) (cs:Lv) (a left l2:Int) (B w:Wo) (I:Im) (N:La),a=(d:Int)->a<=100->0<=left->left<=1000->Bt d I cs n->CD d left n=some l2->Aa B w I N->
  Ce B I N 299 [.agg cs.toArray,Ab left,Ab a] w (Ab l2):=by
 intro d
 induction d with
 | zero=>intro n cs a left l2 B w I N _ _ _ _ r;exact r.elim
 | succ d ih =>
  intro n cs a left l2 B w I N hd ab h0 h1 r U b;obtain⟨ad,ae,W,ac,X,Q,T,ka,ck,xs,rfl,Y,Z,V,t,F,E,p⟩:=r;refine gG 2 ?_;clear b;intro R w b;obtain⟨z,_,_,_,_,y⟩:=Xo7 U;refine gU 6 (λG J=>?_);refine gG 4 (.lk [2,3] (σ:=Nat×Int) (λ(i,l) _m=>(1,Ab l)::(7,Ab (i:Nat))::_m) (λ(i,l) w=>i<=n.kids.length/\Kb (CD d) l (n.kids.drop i)=some l2/\0<=l/\l<=1000/\Aa B w I (Ac R [S n.name,.slice Q n.attrs.length T,S n.text,.slice ka n.kids.length ck] 140::N)) (λ(i,l)=>n.kids.length-i) (0,left-1) ⟨Y4 _,y,z,om,b⟩ ?_);rintro⟨i,l⟩ w ⟨hi,c,e,o,b⟩;refine gN 5 ?_ ?_<;>intro K
  ·obtain⟨k,M⟩:∃k,n.kids[i]?=some k:=⟨_,Y2 om⟩
   obtain⟨x,m⟩:∃x,xs[i]?=some x:=⟨_,Y2 om⟩
   have f:=p i x k m M;obtain⟨q,D,hx⟩:=iU t F E m;subst D;obtain⟨s1,a1,n1,m1,s2,a2,n2,m2,u⟩:=f.cells;subst u;have v:n.kids.drop i=k::n.kids.drop (i+1):=by rw[Ym om,(Y1.1 M).2]
   rw[v]at c;obtain⟨P,g,j⟩:=Xd1 c;have C:=oJ d l k P e g;refine gH 4 ?_;try rw[Yd]
   refine .val (.as (.B5 (.of O) b hx mK mQ O (λ_ _ h=>h)) O) O (gP 3 [] (ih k _ _ l P B _ I _ om om e o f g) ?_);clear b;rintro _ w ⟨rfl,b⟩;refine gU 3 (λH L=>?_);exact gG 3 (A_ (_,_) O ⟨od,j,C.1,od,b⟩)
  refine gG 2 ?_;rw[Yb om]at c;have A:l=l2:=by cases c;rfl
  subst A;exact⟨O,b.s⟩
theorem Xnf:∀(l done:List Px),TM done l=true->∀(i:Nat) (a:Px),l[i]?=some a->HI a.1=true/\TR a.2=true/\(∀b∈done,b.1≠a.1)/\∀(j:Nat) (b:Px),j<i->l[j]?=some b->b.1≠a.1
 | [],_,_,i,a,h=>by simp at h
 | x::r,done,f,i,a,h=>by
  rw[TM,Y8,Y8,Y8]at f;obtain⟨⟨⟨k,m⟩,d⟩,n⟩:=f;cases i with
  | zero =>
   rw[yg]at h;cases h
   refine⟨k,m,λb c e=>?_,λj b p=>by omega⟩;have o:(done.any λb=>b.1==x.1)=true:=gh.2 ⟨b,c,by rw[e];simp⟩;rw[o]at d;cases d
  | succ i =>
   rw[pC]at h;obtain⟨q,s,g,t⟩:=Xnf r _ n i a h;refine⟨q,s,λb c=>g b (f_ _ c),λj b p c=>?_⟩;cases j with
   | zero =>
    rw[yg]at c;cases c
    exact g x (aU _ (PQ.2 O))
   | succ j=>exact t j b om (by rw[pC]at c;exact c)
theorem Wr:∀(d:Nat) (n:Nd) (cs:Lv) (left F:Int) (B w:Wo) (I:Im) (N:La),0<=left->left<=1000->Bt d I cs n->CD d left n=some F->Aa B w I N->
  Ce B I N 300 [.agg cs.toArray] w (.bool true):=by
 intro d
 induction d with
 | zero=>intro n cs left F B w I N _ _ Q;exact Q.elim
 | succ d ih =>
  intro n cs left F B w I N h0 h1 Q hF c;obtain⟨a6,a7,az,a5,U,aa,G,ka,ck,xs,rfl,a0,a3,o,R,al,ai,P⟩:=Q;refine gG 2 ?_;intro b1 w c;obtain⟨Y,ab,M,ag,ah,X⟩:=Xo7 hF;refine gE 2 (Xd6 _ ab om) ?_;intro w c;refine gE 3 (Xav _ ag om) ?_;intro w c;refine gH 14 ?_;refine gN 4 ?_ ?_<;>intro r
  ·refine gH 1 (.nil (.ret ?_));refine λ_ f=>GD f O ?_
   exfalso
   rcases r with (h|h)|⟨h1,h2⟩
   ·cases h
   ·cases h
   ·exact ah ⟨h1,λe=>by rw[e]at h2;simp at h2⟩
  refine gG 1 (.lk [1] (σ:=Nat) (λi _m=>(5,Ab (i:Nat))::_m) (λi w=>i<=n.attrs.length/\Aa B w I (Ac b1 [S n.name,.slice aa n.attrs.length G,S n.text,.slice ka n.kids.length ck] 140::N)) (λi=>n.attrs.length-i) 0 ⟨Y4 _,c⟩ ?_);rintro i w ⟨hi,c⟩;refine gN 5 ?_ ?_<;>intro ar
  ·obtain⟨a,g⟩:∃a,n.attrs[i]?=some a:=⟨_,Y2 om⟩
   obtain⟨J,K,_,L⟩:=Xnf _ _ M i a g;have aq:=U a (Y7 g);obtain⟨pa,ad,aj⟩:=Be (cells:=EM) (λ_=>rfl) o g;subst ad;refine gH 4 (.val (.as (.B5 (.of O) c aj Zk Ij O (λ_ _ h=>h)) O) O (gH 4 ?_));intro b6 w c;refine gE 0 (Xd6 a.1 J om) ?_;intro w c;refine gH 4 (.Au (T:=λw=>Aa B w I _) O O O func393 O (λy=>(X6 (.gd y O) X4)) O (λy=>Xav a.2 K om _ c) c ?_);clear c;rintro w c;refine gN 2 ?_ ?_<;>intro t
   ·refine gH 1 (.nil (.ret ?_));refine λ_ f=>GD f O ?_
    exfalso
    rcases t with h|h<;>cases h
   refine gG 1 (.lk [1,5,6] (σ:=Nat) (λk _m=>(7,Ab (k:Nat))::_m) (λk w=>k<=i/\Aa B w I (Ac b6 [S a.1,S a.2] 124::Ac b1 [S n.name,.slice (some pa) n.attrs.length G,S n.text,.slice ka n.kids.length ck] 140::N)) (λk=>i-k) 0 ⟨Y4 _,c⟩ ?_);rintro k w ⟨a4,c⟩;refine gN 3 ?_ ?_<;>intro au
   ·refine gG 0 ?_;obtain⟨b,p⟩:∃b,n.attrs[k]?=some b:=⟨_,Y2 om⟩
    have ac:=L k b om p;obtain⟨pb,ae,ak⟩:=Be (cells:=EM) (λ_=>rfl) o p;cases ae
    refine .qt c (.val (λw c=>(by exact .fo 1 O Zn O O Gr O)) O ?_);refine .val (λw c=>(by exact(.lo O c (k:=1) O SZ O))) O ?_;refine .val (λw c=>(.mo O)) O (.val (λw c=>(by exact .ii O O om om Iq Ij)) O ?_);refine .val (λw c=>(by exact .fi 0 O Zm O O AQ O)) O ?_;refine .val (λw c=>(by exact(.BS (.of O) c (At.add ak _) Bg O))) O ?_;refine .val (λw c=>(by exact .fo 0 O Zm O O AQ O)) O ?_;refine .val (λw c=>(by exact(.lo O c (k:=0) O Bg O))) O ?_;refine .val (λw c=>(.eqs (.of O) (.of O))) O (.nil ?_);intro w c;refine gN 0 ?_ ?_<;>intro u
    ·refine gH 1 (.nil (.ret ?_));refine λ_ f=>GD f O ?_
     exact Yz (su u) ac
    exact gG 3 (rd (k+1) ⟨om,(c.x [1,1])⟩)
   exact gG 3 (rd (i+1) ⟨om,(c.z [1] 1 1)⟩)
  refine gG 1 (.lk [1] (σ:=Nat×Int) (λ(i,l) _m=>(8,Ab (i:Nat))::_m) (λ(i,l) w=>i<=n.kids.length/\Kb (CD d) l (n.kids.drop i)=some F/\0<=l/\l<=1000/\Aa B w I (Ac b1 [S n.name,.slice aa n.attrs.length G,S n.text,.slice ka n.kids.length ck] 140::N)) (λ(i,l)=>n.kids.length-i) (0,left-1) ⟨Y4 _,X,Y,om,c⟩ ?_);rintro⟨i,l⟩ w ⟨hi,C,j,H,c⟩;refine gN 5 ?_ ?_<;>intro av
  ·refine gG 0 ?_;obtain⟨k,hk⟩:∃k,n.kids[i]?=some k:=⟨_,Y2 om⟩
   obtain⟨x,E⟩:∃x,xs[i]?=some x:=⟨_,Y2 om⟩
   have m:=P i x k E hk;obtain⟨q,af,hx⟩:=iU R al ai E;subst af;obtain⟨s1,a1,n1,m1,s2,a2,n2,m2,V⟩:=m.cells;subst V;have W:n.kids.drop i=k::n.kids.drop (i+1):=by rw[Ym om,(Y1.1 hk).2]
   rw[W]at C;obtain⟨l3,A,D⟩:=Xd1 C;have Z:=oJ d l k l3 j A;refine gH 4 (.val (.as (.B5 (.of O) c hx mK mQ O (λ_ _ h=>h)) O) O (gP 0 [] (ih k _ l l3 B _ I _ j H m A) ?_));rintro _ w ⟨rfl,c⟩;refine gN 1 ?_ ?_<;>intro v
   ·refine gH 1 (.nil (.ret ?_));refine λ_ f=>GD f O ?_
    exfalso
    cases v
   exact gG 3 (rd (i+1,l3) ⟨om,D,Z.1,om,c⟩)
  exact gG 1 ⟨O,c.s⟩
theorem Xau(n:Nd)(cs:Lv)(c:Int)(e:Bt 8 I cs n)(d:CD 8 200 n=some c)(N:La)(a:Aa B w I N):Ce B I N 201 [.agg cs.toArray] w (.bool true):=by
 obtain⟨s1,h,l,j,o,i,m,k,f⟩:=e.cells;subst f;refine gG 2 ?_;clear a;intro b1 w a;have g:=oJ 8 200 n c de d;refine gP 1 [] (U9 8 n _ 8 200 c B _ I _ O de de de e d) ?_;clear a;rintro _ w ⟨rfl,a⟩;refine gH 3 (.Au (T:=λw=>Aa B w I _) O O O func300 O (λb=>(X6 (.gd b O) X4)) O (λb=>Wr 8 n [S s1,.slice h l j,S o,.slice i m k] 200 c B _ I _ de de e d a) a ?_);clear a;rintro w a;exact gG 2 ⟨by rw[decide_eq_true g.1];rfl,a.s⟩
theorem Xd8(s:Lu)(n:Nd)(l g:Int)(p:s.length<=10000)(b:∀c∈s,c≠38)(k:Il 8 200 s=some (n,[],l))(m:CD 8 200 n=some g)(N:La)(a:Aa B w I N):Cz 117 [S s] w λv w'=>∃J cs,v=.tuple #[.agg (cs:Lv).toArray,Ab 0]/\Le I J/\Bt 8 J cs n/\Aa B w' J N:=by
 refine gH 3 ?_;clear a;intro y w a;refine gP 0 [] (Qt s p b 8 0 1 200 l n [] B _ I _ de de (Y4 _) k) ?_;clear a;rintro _ w ⟨J,j,rfl,o,d,a⟩;obtain⟨s1,h,t,q,x,i,u,r,rfl⟩:=d.cells;rw[show s.length-([]:Lu).length=s.length from O];refine gG 10 ?_;clear a;intro z w a;refine gU 0 (λe f=>?_);refine gE 1 (Xau n _ g d m) ?_;clear a;intro w a;refine gG 3 (.Aw (rfl) (gH 3 ?_));clear a;intro w a;exact gG 0 ⟨J,[S s1,.slice h t q,S x,.slice i u r],O,o,d,a.s⟩
def uP(c:Ui):Bool:=!(c==38||c==60||c==62||c==34||c==39)
def Wy:Nat->Nd->Bool
 | 0,_=>false
 | d+1,n=>n.attrs.all (λa=>a.2.all uP)&&n.text.all uP&&n.kids.all (Wy d)
theorem gV{s:Lu}(h:s.all uP=true):∀c∈s,ig c:=by
 intro c b;have a:=Dj.1 h c b;unfold uP at a;simp only[PR,EB,beq_eq_false_iff_ne]at a
 exact⟨a.1.1.1.1,a.1.1.1.2,a.1.1.2,a.1.2,a.2⟩
theorem Wz{d:Nat}{n:Nd}(h:Wy (d+1) n=true):(∀a∈n.attrs,∀c∈a.2,ig c)/\(∀c∈n.text,ig c)/\∀k∈n.kids,Wy d k=true:=by
 rw[Wy,Y8,Y8]at h;exact⟨λa b=>gV (Dj.1 h.1.1 a b),gV h.1.2,λk e=>Dj.1 h.2 k e⟩
theorem RM:∀(d:Nat) (n:Nd) (cs:Lv) (B w:Wo) (I:Im) (N:La),Bt d I cs n->Wy d n=true->(Cb d n).length<=100000->Aa B w I N->
  Ce B I N 394 [.agg cs.toArray] w (S (Cb d n)):=by
 intro d
 induction d with
 | zero=>intro n cs B w I N u;exact u.elim
 | succ d Z =>
  intro n cs B w I N u Q hT c;obtain⟨X,Y,R,W,T,K,L,ka,ck,xs,rfl,U,V,v,y,J,H,t⟩:=u;refine gG 2 ?_;intro b1 w c;obtain⟨C,o,D⟩:=Wz Q;refine gG 5 ?_;refine .lk [1] (σ:=Nat×Lu) (λ(i,e) _m=>(3,S e)::(4,Ab (i:Nat))::_m) (λ(i,e) w=>i<=n.attrs.length/\e++(((n.attrs.drop i).map G_).flatten++(62::n.text++(((n.kids.drop 0).map (Cb d)).flatten++(60::47::n.name++[62]))))=Cb (d+1) n/\Aa B w I (Ac b1 [S n.name,.slice K n.attrs.length L,S n.text,.slice ka n.kids.length ck] 140::N)) (λ(i,e)=>n.attrs.length-i) (0,60::n.name) ⟨Y4 _,by rw[Cb,ox o];simp[Yg],c⟩ ?_;rintro⟨i,e⟩ w ⟨hi,b,c⟩;refine gN 5 ?_ ?_<;>intro M
  ·refine gG 0 ?_;obtain⟨a,j⟩:∃a,n.attrs[i]?=some a:=⟨_,Y2 om⟩
   have g:=C a (Y7 j);have l:n.attrs.drop i=a::n.attrs.drop (i+1):=by rw[Ym om,(Y1.1 j).2]
   rw[l,Yu,Fx]at b;have f:=Yc List.length b;simp only[G_,Y0,Y5,Yh,ox g]at f
   obtain⟨pa,E,p⟩:=Be (cells:=EM) (λ_=>rfl) v j;subst E;refine .qt c (.val (λw c=>(.mo O)) O ?_);refine .val (λw c=>(.cat (.of O) (.of O) (by(try simp only[Y0,Y5,Yh]);omega))) O (.val (λw c=>(by exact .fo 1 O Zn O O Gr O)) O ?_);refine .val (λw c=>(by exact(.lo O c (k:=0) O SZ O))) O ?_;refine .val (λw c=>(.mo O)) O (.val (λw c=>(by exact .ii O O om om Iq Ij)) O ?_);refine .val (λw c=>(by exact .fi 0 O Zm O O AQ O)) O ?_;refine .val (λw c=>(by exact(.BS (.of O) c (At.add p _) Bg O))) O ?_;refine .val (λw c=>(.cat (.of O) (.of O) (by(try simp only[Y0,Y5,Yh]);omega))) O (.val (λw c=>(.cat (.of O) (.of O) (by(try simp only[Y0,Y5,Yh]);omega))) O (.val (λw c=>(by exact .fo 1 O Zn O O Gr O)) O ?_));refine .val (λw c=>(by exact(.lo O c (k:=0) O SZ O))) O ?_;refine .val (λw c=>(.mo O)) O (.val (λw c=>(by exact .ii O O om om Iq Ij)) O ?_);refine .val (λw c=>(by exact .fi 1 O Zm O O AQ O)) O ?_;refine .val (λw c=>(by exact(.BS (.of O) c (At.add p _) Bg O))) O ?_;refine .call func451 O (A3 O X4) O (λw c=>X90 a.2 g om _ c) (.val (λw c=>(.cat (.of O) (.of O) (by(try simp only[Y0,Y5,Yh]);omega))) O (.val (λw c=>(.cat (.of O) (.of O) (by(try simp only[Y0,Y5,Yh]);omega))) O (.val (λw c=>(.ao O)) O (.nil ?_))));intro w c;refine gG 3 (A_ (i+1,_) O ⟨om,?_,c⟩);rw[<-b,G_,ox g];simp[Yg]
  refine gG 0 ?_;rw[Yb om,ED,ur,Db]at b;have f:=Yc List.length b;simp only[Y0,Y5,Yh]at f
  refine gE 4 (X90 _ o om) ?_;intro w c;refine gG 3 ?_;refine .lk [1] (σ:=Nat×Lu) (λ(i,e) _m=>(3,S e)::(5,Ab (i:Nat))::_m) (λ(i,e) w=>i<=n.kids.length/\e++(((n.kids.drop i).map (Cb d)).flatten++(60::47::n.name++[62]))=Cb (d+1) n/\Aa B w I (Ac b1 [S n.name,.slice K n.attrs.length L,S n.text,.slice ka n.kids.length ck] 140::N)) (λ(i,e)=>n.kids.length-i) (0,(e++[62])++n.text) ⟨Y4 _,by rw[<-b];simp[Yg],c⟩ ?_;rintro⟨i,e⟩ w ⟨hi,b,c⟩;refine gN 5 ?_ ?_<;>intro P
  ·refine gG 0 ?_;obtain⟨k,A⟩:∃k,n.kids[i]?=some k:=⟨_,Y2 om⟩
   obtain⟨x,r⟩:∃x,xs[i]?=some x:=⟨_,Y2 om⟩
   have m:=t i x k r A;obtain⟨q,G,hx⟩:=iU y J H r;subst G;obtain⟨s1,a1,n1,m1,s2,a2,n2,m2,z⟩:=m.cells;subst z;have l:n.kids.drop i=k::n.kids.drop (i+1):=by rw[Ym om,(Y1.1 A).2]
   rw[l,Yu,Fx]at b;have f:=Yc List.length b;simp only[Y0]at f
   have F:=D k (Y7 A);refine gH 5 (.val (.as (.B5 (.of O) c hx mK mQ O (λ_ _ h=>h)) O) O (gP 0 [] (Z k _ B _ I _ m F om) ?_));rintro _ w ⟨rfl,c⟩;refine gG 5 (A_ (i+1,_) O ⟨om,?_,c⟩);rw[<-b];simp[Yg]
  refine gG 0 ?_;rw[Yb om,ED,ur,Db]at b;have f:=Yc List.length b;simp only[Y0,Y5,Yh]at f
  exact gG 7 ⟨by rw[<-b];simp[Yg],c.s⟩
theorem Xll(n:Nd)(cs:Lv)(d:Int)(b:Bt 8 I cs n)(e:CD 8 200 n=some d)(f:Wy 8 n=true)(g:(Cb 8 n).length<=100000)(N:La)(a:Aa B w I N):Ce B I N 301 [.agg cs.toArray] w (.tuple #[S (Cb 8 n),Ab 0]):=by
 obtain⟨s1,h,l,j,o,i,m,k,c⟩:=b.cells;subst c;refine gH 4 ?_;intro b1 w a;refine gE 0 (Xau n _ d b e) ?_;intro w a;refine gG 3 (.Aw (rfl) (gP 1 [] (RM 8 n _ B _ I _ b f g) ?_));rintro _ w ⟨rfl,a⟩;exact gG 2 ⟨O,a.s⟩
def GO(nm a:Lu):Nd:=.mk [105,110,112,117,116] [([110,97,109,101],nm),([118,97,108,117,101],a)] [] []
theorem rB(nm f:Lu)(l:nm.length<=10000)(m:f.length<=10000)(N:La)(b:Aa B w I N):Cz 118 [S nm,S f] w λv w'=>∃J cs,v=.agg (cs:Lv).toArray/\Le I J/\(∀d,Bt (d+1) J cs (GO nm f))/\Aa B w' J N:=by
 refine gH 8 ?_;clear b;intro o g w b;refine gG 0 ?_;have c:=b.A2 (size:=2) (n:=2) (k:=0) O O (by unfold maxLen;omega);clear b;obtain⟨J,h,j,b⟩:=c.fV 0;clear c;try dsimp only[List.eraseIdx,List.set]at b
 refine⟨J,[S [105,110,112,117,116],.slice (some (ad g 0)) 2 2,S [],.slice none 0 0],O,h,λd=>⟨by show 5<=10000;omega,Y4 _,by show 2<=10000;omega,Y4 _,λa e=>?_,some (ad g 0),2,none,0,[],O,Ya _,Ya _,j,RS.nil _ _,O,λx hx=>Yz hx sz,λi x k hx=>by simp at hx⟩,b.s⟩;rcases Yp.1 e with rfl|e
 ·exact⟨by show 4<=10000;omega,l⟩
 ·rw[PQ]at e;subst e;exact⟨by show 5<=10000;omega,m⟩
theorem Xho(d:Lu)(n:Nd)(cs:Lv)(g:Int)(f:Bt 8 I cs n)(i:CD 8 200 n=some g)(j:Wy 8 n=true)(k:(Cb 8 n).length<=100000)(N:La)(b:Aa B w I N):Cz 202 [S d,.agg cs.toArray] w λv w'=>∃a m c,v=.agg #[Ab 200,.slice a m c,S (Cb 8 n)]/\Aa B w' I N:=by
 obtain⟨s1,l,u,r,y,o,x,t,e⟩:=f.cells;subst e;refine gH 3 ?_;clear b;intro p q w b;refine gE 0 (Xll n _ g f i j k) ?_;clear b;intro w b;refine gH 11 ?_;clear b;intro h w b;exact gG 0 ⟨_,_,_,O,b.s⟩
structure CA(d:Nat)(I:Im)(ka:Oa)(xs:List Lv)(ks:List Nd):Prop where
 row:RS I ka 4 ks.length xs.flatten
 len:xs.length=ks.length
 four:∀x∈xs,x.length=4
 each:∀(i:Nat) x k,xs[i]?=some x->ks[i]?=some k->Bt d I x k
theorem CA.mono{d:Nat}{xs:List Lv}{ks:List Nd}(h:CA d I ka xs ks)(a:Le I J):CA d J ka xs ks:=⟨h.row.mono a,h.len,h.four,λi x k hx b=>(h.each i x k hx b).mono a⟩
theorem CA.nd{d:Nat}{xs:List Lv}{b:List Nd}(h:CA d I ka xs b)(nm:Lu)(i:nm.length<=10000)(c:Nat)(f:b.length<=c)(g:b.length<=10000):Bt (d+1) I [S nm,.slice none 0 0,S [],.slice ka b.length c] (.mk nm [] [] b) :=
 ⟨i,Y4 _,Y4 _,g,λa e=>Yz e (by simp[Nd.attrs]),none,0,ka,c,xs,O,Ya _,f,RS.nil _ _,h.row,h.len,h.four,h.each⟩
theorem CA.one{d:Nat}{x:Lv}{k:Nd}(h:Bt d I x k)(b:x.length=4)(c:RS I (some p) 4 1 x):CA d I (some p) [x] [k] :=
 ⟨by rw[Y6i];exact c,O,λy a=>by rw[PQ.1 a];exact b,λi y f a e=>by
  cases i with
  | zero=>cases a;cases e;exact h
  | succ i=>simp at a⟩
def Gh(a:List Nd):Nd:=.mk [104,116,109,108] [] [] [.mk [98,111,100,121] [] [] a]
theorem Xtf(ka:Oa)(g:Nat)(xs:List Lv)(d:List Nd)(i:Int)(f:d.length<=g)(r:d.length<=10000)(j:CD 8 200 (Gh d)=some i)(o:Wy 8 (Gh d)=true)(q:(Cb 8 (Gh d)).length<=100000)(l:CA 6 I ka xs d)(N:La)(b:Aa B w I N):Cz 120 [.slice ka d.length g] w λv w'=>∃J a m c,Le I J/\v=.agg #[Ab 200,.slice a m c,S (Cb 8 (Gh d))]/\Aa B w' J N:=by
 refine gH 5 ?_;clear b;intro u x w b;have e:=b.A2 (size:=4) (k:=0) O O (by unfold maxLen;omega);clear b;obtain⟨J,h,p,b⟩:=e.fV 0;clear e;try dsimp only[List.eraseIdx,List.set]at b
 have n:=(CA.one ((l.mono h).nd [98,111,100,121] (by show 4<=10000;omega) g f r) O p).nd [104,116,109,108] (by show 4<=10000;omega) 1 (Ya _) (by show 1<=10000;omega);refine gF 0 (Xho _ _ _ i n j o q) ?_;clear b;rintro _ w ⟨t,z,y,rfl,b⟩;refine gH 1 ?_;clear b;intro w b;exact gG 0 ⟨J,_,_,_,h,O,b.s⟩
theorem Xza(p q:Pr)(w:Wo):(Op.equalIn 10000 124 (.agg (X5 p).toArray) (.agg (X5 q).toArray)).run prog w=.ok (decide (p=q)) w:=by
 have e:prog.underlying 124=some (.struct (prog.fieldsOf 124)):=by kernel_rfl
 have f:prog.stoodInHeld 124=false:=by kernel_rfl
 rw[show(10000:Nat)=9999+1 from O,run_equalIn_agg w 9999 124 _ _ e f];simp only[Program.fieldsOf,Zm]
 obtain⟨a,b⟩:=p;obtain⟨c,d⟩:=q;unfold X5
 go_simp
 repeat' split
 all_goals simp_all
theorem Ex.Ac6{g:Option (Nat×Bool)}{x y:Operand}{r s:Pr}(hx:Ev n L x (.agg (X5 r).toArray))(a:Ev n L y (.agg (X5 s).toArray)):Ex prog n L w ⟨d,.binOp .neq 124 x y t',ty,pos,af,g⟩ (.bool (!decide (r=s))) w :=
 CV hx a (λp q=>run_eqGuard_agg w _ _ _ _ _ _ kr) (by rw[run_neq_struct,Xza];rfl)
def Kg(lt sv:Lu):Nd:=.mk [102,111,114,109] [([97,99,116,105,111,110],[47,108,111,103,105,110]),([109,101,116,104,111,100],[112,111,115,116])] [] [GO [108,116] lt,GO [115,101,114,118,105,99,101] sv,GO [117,115,101,114,110,97,109,101] [],GO [112,97,115,115,119,111,114,100] []]
theorem te{d:Nat}{x:Lv}{n:Nd}(h:Bt d I x n):x.length=4:=by
 obtain⟨s1,a,f,c,i,b,g,e,rfl⟩:=h.cells;rfl
theorem cJ{q:Addr}{d e f g:Lv}(lt sv:Lu)(h:Bt 5 J d (GO [108,116] lt))(j:Bt 5 J e (GO [115,101,114,118,105,99,101] sv))(l:Bt 5 J f (GO [117,115,101,114,110,97,109,101] []))(m:Bt 5 J g (GO [112,97,115,115,119,111,114,100] []))
  (o:RS J (some p) 2 2 [S [97,99,116,105,111,110],S [47,108,111,103,105,110],S [109,101,116,104,111,100],S [112,111,115,116]]) (n:RS J (some q) 4 4 [d,e,f,g].flatten):Bt 6 J [S [102,111,114,109],.slice (some p) 2 2,S [],.slice (some q) 4 4] (Kg lt sv):=by
 refine⟨by show 4<=10000;omega,Y4 _,by show 2<=10000;omega,by show 4<=10000;omega,λa b=>?_,some p,2,some q,4,[d,e,f,g],O,Ya _,Ya _,o,n,O,λx hx=>?_,λi x k hx c=>?_⟩
 ·rcases Yp.1 b with rfl|b
  ·exact⟨by show 6<=10000;omega,by show 6<=10000;omega⟩
  ·rw[PQ]at b;subst b;exact⟨by show 6<=10000;omega,by show 4<=10000;omega⟩
 ·simp only[Yp,E6,or_false]at hx
  rcases hx with rfl|rfl|rfl|rfl
  ·exact te h
  ·exact te j
  ·exact te l
  ·exact te m
 ·rcases i with _|_|_|_|i
  ·cases hx;cases c;exact h
  ·cases hx;cases c;exact j
  ·cases hx;cases c;exact l
  ·cases hx;cases c;exact m
  ·simp at hx
theorem NY{l:List α}(h:l.length=1):∃x,l=[x]:=List.length_eq_one_iff.1 h
theorem Xoq{ks:List Nd}(h:Bt 8 I cs (Gh ks)):∃e g p ck d f ka s xs,cs=[S [104,116,109,108],.slice e 0 g,S [],.slice (some p) 1 ck]/\At I p [S [98,111,100,121],.slice d 0 f,S [],.slice ka ks.length s]/\1<=ck/\ks.length<=s/\ks.length<=10000/\CA 6 I ka xs ks:=by
 obtain⟨_,_,_,_,_,e,g,ka,ck,xs,rfl,v,k,t,j,m,y,i⟩:=h;obtain⟨x,rfl⟩:=NY m;have u:=i 0 x _ O O;obtain⟨_,_,_,l,_,d,f,z,A,B,rfl,r,c,q,b,o,n,a⟩:=u;obtain⟨p,rfl,w⟩:=j.2 (by show 0<1;omega);exact⟨e,g,p,ck,d,f,z,A,B,O,w,k,c,l,⟨b,o,n,a⟩⟩
theorem Xvg{d:Nat}{x:Lv}{e:Lu}(h:Bt (d+1) I x (GO nm e)):∃p c ka n,x=[S [105,110,112,117,116],.slice (some p) 2 c,S [],.slice ka 0 n]/\At I p [S [110,97,109,101],S nm,S [118,97,108,117,101],S e]/\2<=c:=by
 obtain⟨_,_,_,_,_,o,f,ka,ck,xs,rfl,b,j,a,i,m,l,g⟩:=h;obtain⟨p,rfl,k⟩:=a.2 (by show 0<2;omega);exact⟨p,f,ka,ck,O,k,b⟩
theorem QC{xs:List Lv}{lt sv:Lu}(h:CA 6 I ka xs [Kg lt sv]):∃p k m q A i c0 l n j e1 b1 o,ka=some p/\At I p [S [102,111,114,109],.slice k 2 m,S [],.slice (some q) 4 A]/\At I (q.add 0) [S [105,110,112,117,116],.slice (some i) 2 c0,S [],.slice l 0 n]/\At I (q.add 4) [S [105,110,112,117,116],.slice (some j) 2 e1,S [],.slice b1 0 o]/\At I i [S [110,97,109,101],S [108,116],S [118,97,108,117,101],S lt]/\At I j [S [110,97,109,101],S [115,101,114,118,105,99,101],S [118,97,108,117,101],S sv]/\4<=A/\2<=c0/\2<=e1:=by
 obtain⟨F,H,P,E⟩:=h;obtain⟨x,rfl⟩:=NY H;have G:=E 0 x _ O O;obtain⟨_,_,_,_,_,k,m,Q,K,D,rfl,C,d,B,c,a,g,b⟩:=G;obtain⟨p,rfl,J⟩:=F.2 (by show 0<1;omega);obtain⟨L,e⟩:∃y,D[0]?=some y:=⟨_,Y2 (by rw[a];show 0<4;omega)⟩
 obtain⟨M,f⟩:∃y,D[1]?=some y:=⟨_,Y2 (by rw[a];show 1<4;omega)⟩
 obtain⟨q,rfl,v⟩:=iU c a g e;obtain⟨R,z,w⟩:=iU c a g f;cases z
 obtain⟨i,c0,l,n,rfl,t,r⟩:=Xvg (b 0 L _ e O);obtain⟨j,e1,b1,o,rfl,u,s⟩:=Xvg (b 1 M _ f O);exact⟨p,k,m,q,K,i,c0,l,n,j,e1,b1,o,O,J,v,w,t,u,d,r,s⟩
theorem Xlg(lt sv:Lu)(K:lt.length<=10000)(L:sv.length<=10000)(M:Int)(hF:CD 8 200 (Gh [Kg lt sv])=some M)(hP:Wy 8 (Gh [Kg lt sv])=true)(hT:(Cb 8 (Gh [Kg lt sv])).length<=100000)(N:La)(d:Aa B w I N):Cz 54 [S lt,S sv,S []] w λv w'=>∃J a m c,Le I J/\v=.agg #[Ab 200,.slice a m c,S (Cb 8 (Gh [Kg lt sv]))]/\Aa B w' J N:=by
 refine gH 8 ?_;intro b6 x b7 w d;refine gF 0 (rB _ lt (by show 2<=10000;omega) K) ?_;rintro _ w ⟨J1,ab,rfl,A,o,d⟩;obtain⟨a2,Q,au,aj,a6,V,ay,an,e⟩:=(o 0).cells;subst e;refine gF 1 (rB _ sv (by show 7<=10000;omega) L) ?_;rintro _ w ⟨J2,ac,rfl,j,r,d⟩;obtain⟨a3,R,av,ak,a7,W,az,ao,e⟩:=(r 0).cells;subst e;refine gF 0 (rB _ [] (by show 8<=10000;omega) (Y4 _)) ?_;rintro _ w ⟨J3,ae,rfl,h,t,d⟩;obtain⟨a4,T,aw,al,a8,X,a0,ap,e⟩:=(t 0).cells;subst e;refine gF 0 (rB [112,97,115,115,119,111,114,100] [] (by show 8<=10000;omega) (Y4 _)) ?_;rintro _ w ⟨J4,af,rfl,g,u,d⟩;obtain⟨a5,U,ax,am,ba,Y,a1,aq,e⟩:=(u 0).cells;subst e;refine gH 8 ?_;intro y z w d;refine gG 0 (.Aw (rfl) (gH 1 ?_));have b:=d.A2 (size:=2) (n:=2) (k:=3) O O (by unfold maxLen;omega);obtain⟨J5,C,F,d⟩:=b.fV 3;clear b;have b:=d.A2 (size:=4) (n:=4) (k:=1) O O (by unfold maxLen;omega);obtain⟨J6,l,G,d⟩:=b.fV 1;clear b;have b:=d.A2 (size:=4) (n:=1) (k:=0) O O (by unfold maxLen;omega);obtain⟨J7,i,H,d⟩:=b.fV 0;clear b;try dsimp only[List.eraseIdx,List.set]at d
 have f:=(C.trans l).trans i;have E:=cJ (p:=ad x 0) (q:=ad y 0) lt sv ((o 4).mono (((j.trans h).trans g).trans f)) ((r 4).mono ((h.trans g).trans f)) ((t 4).mono (g.trans f)) ((u 4).mono f) (F.mono (l.trans i)) (G.mono i);refine gF 0 (Xtf (some (ad z 0)) 1 _ [Kg lt sv] M (Ya _) (by show 1<=10000;omega) hF hP hT (CA.one E O H)) ?_;rintro _ w ⟨P,Z,m9,c9,D,rfl,d⟩;refine gH 1 ?_;intro w d;exact gG 0 ⟨P,Z,m9,c9,(((A.trans j).trans h).trans g).trans (f.trans D),O,d.s⟩
theorem Xzp(n:Addr)(z:Nat)(s:Lu)(j:List Nd)(l m:Int)(E:s.length<=10000)(g:∀c∈s,c≠38)(x:Il 8 200 s=some (Gh j,[],l))(y:CD 8 200 (Gh j)=some m)(o:Addr)(V:At I n [S [67,111,110,116,101,110,116,45,84,121,112,101],S [116,101,120,116,47,104,116,109,108]])(f:At I o [S [104,116,109,108],S [98,111,100,121]])(N:La)(a:Aa B w I N):Cz 116 [.agg #[Ab 200,.slice (some n) 1 z,S s],S [116,101,120,116,47,104,116,109,108],.slice (some o) 2 2] w λv w'=>∃J s1 t H F L i K G,v=.tuple #[.agg ([S s1,.slice t H F,S L,.slice i K G]:Lv).toArray,.bool true]/\Le I J/\Aa B w' J N:=by
 refine gH 14 ?_;intro P Q w a;refine gH 5 (.Aj O O (λe=>Ex.Ac6 (r:=([67,111,110,116,101,110,116,45,84,121,112,101],[116,101,120,116,47,104,116,109,108])) (s:=([67,111,110,116,101,110,116,45,84,121,112,101],[116,101,120,116,47,104,116,109,108])) (.gd e O) (.gd e O)) O (gG 1 (.Aw kr (gF 2 (Xd8 s _ l m E g x y) ?_))));rintro _ w ⟨q,u,rfl,b,h,a⟩;obtain⟨M,U,p,ck,i,T,ka,X,xs,d,hx,A,D,C,W⟩:=Xoq h;subst d;replace f:=f.mono b;refine gH 8 ?_;intro R w a;refine gG 0 (.Aw (rfl) (gG 1 (.EI (WI.round ?_))));refine gG 4 (.Ct (rfl) (gG 0 (.qt a (.val (λw a=>(by exact .fo 0 O Zn O O AQ O)) O ?_))));refine .val (λw a=>(by exact(.lo O a (k:=0) O Bg O))) O ?_;refine .val (λw a=>(.mo O)) O (.val (λw a=>(.mo O)) O ?_);refine .val (λw a=>(by exact .ii O O om om D6 AQ)) O ?_;refine .val (λw a=>(by exact(.BS (.of O) a (At.add f _) Bg O))) O ?_;refine .val (λw a=>(.uL (.of O) (.of O))) O (.nil ?_);intro w a;refine .Aw (rfl) (gG 5 (.Ct (rfl) (gG 4 (.Aw (rfl) (gH 8 ?_)))));intro w a;refine gG 0 (WI.round (gG 4 (.Ct (rfl) (gG 0 (.qt a (.val (λw a=>(by exact .fo 0 O Zn O O AQ O)) O ?_))))));refine .val (λw a=>(by exact(.lo O a (k:=0) O Bg O))) O ?_;refine .val (λw a=>(.mo O)) O (.val (λw a=>(.mo O)) O ?_);refine .val (λw a=>(by exact .ii O O om om D6 AQ)) O ?_;refine .val (λw a=>(by exact(.BS (.of O) a (At.add f _) Bg O))) O ?_;refine .val (λw a=>(.uL (.of O) (.of O))) O (.nil ?_);intro w a;refine .Aw (rfl) (gG 5 (.Aw (rfl) (gG 3 (WI.round (gG 4 (.Aw (rfl) (gH 3 ?_)))))));intro w a;exact gG 0 ⟨q,_,_,_,_,_,_,_,_,O,b,a.s⟩
theorem Xtc(x:Addr)(C:Nat)(s:Lu)(i:List Nd)(l u:Int)(D:s.length<=10000)(b:∀c∈s,c≠38)(z:Il 8 200 s=some (Gh i,[],l))(A:CD 8 200 (Gh i)=some u)(n:Nat)(P:i.length=n)(G:At I x [S [67,111,110,116,101,110,116,45,84,121,112,101],S [116,101,120,116,47,104,116,109,108]])(N:La)(a:Aa B w I N):Cz 53 [.agg #[Ab 200,.slice (some x) 1 C,S s]] w λv w'=>∃J ka j xs,v=.tuple #[.slice ka n j,.bool true]/\Le I J/\n<=j/\CA 6 J ka xs i/\Aa B w' J N:=by
 refine gH 5 ?_;intro b1 E w a;have e:=a.A2 (size:=1) (n:=2) (k:=0) O O (by unfold maxLen;omega);obtain⟨Q,d,r,a⟩:=e.fV 0;clear e;try dsimp only[List.eraseIdx,List.set]at a
 obtain⟨pn,h,K⟩:=r.2 om;cases h
 refine gF 0 (Xzp x C s i l u D b z A _ (G.mono d) K) ?_;rintro _ w ⟨R,s1,T,n1,m1,s2,U,n2,m2,rfl,m,a⟩;refine gG 8 ?_;intro W w a;refine .Aw (rfl) (gF 2 (Xd8 s _ l u D b z A) ?_);rintro _ w ⟨y,F,rfl,o,q,a⟩;obtain⟨V,Z,p,ck,e2,Y,ka,j,xs,f,hx,L,g,M,H⟩:=Xoq q;subst f;have t:At y (p.add ((0:Int).toNat*4)) _:=hx.add 0;rw[P]at hx t g;refine gH 14 ?_;intro X w a;refine gG 5 (.Aw (rfl) ?_);exact gG 7 ⟨y,ka,j,xs,O,(d.trans m).trans o,g,H,a.s⟩
section
variable {P:Program} {n:Nat} {fn:Func} {R:Ending->Wo->Prop} {L:AB} {w:Wo}
theorem qP{t r q:Nat}{x y z:Va}(h:fn.results=#[.tmp t,.tmp u,.tmp r,.tmp q])(j:Gk.look L t=some v)(hx:Gk.look L u=some x)(k:Gk.look L r=some y)(l:Gk.look L q=some z)(g:R (.returned (.tuple #[v,x,y,z])) w)(i:dl L=[]:=by rfl):MN P n fn R .ret L w :=
 ⟨i,λa b=>⟨_,by have c:=b.get t v j;have d:=b.get u x hx;have e:=b.get r y k;have f:=b.get q z l;simp only[GF]at c d e f;simp[results,h,c,d,e,f],g⟩⟩
end
theorem Xgb(u:Addr)(z:Nat)(s:Lu)(lt sv:Lu)(l t:Int)(V:s.length<=10000)(j:∀c∈s,c≠38)(L:Il 8 200 s=some (Gh [Kg lt sv],[],l))(x:CD 8 200 (Gh [Kg lt sv])=some t)(Q:Wy 8 (Gh [Kg lt sv])=true)(T:Cb 8 (Gh [Kg lt sv])=s)(R:(Cb 8 (Gh [Kg lt sv])).length<=100000)(n:lt.length<=10000)(o:sv.length<=10000)(M:At I u [S [67,111,110,116,101,110,116,45,84,121,112,101],S [116,101,120,116,47,104,116,109,108]])(N:La)(a:Aa B w I N):Cz 22 [.agg #[Ab 200,.slice (some u) 1 z,S s]] w λv w'=>∃J,v=.tuple #[S lt,S sv,S [],.bool true]/\Le I J/\Aa B w' J N:=by
 refine gH 6 ?_;intro b1 w a;refine gF 0 (Xtc u z s _ l t V j L x 1 O M) ?_;rintro _ w ⟨i,ka,kc,xs,rfl,k,U,P,a⟩;obtain⟨p,F,D,q,E,p0,c0,k0,d0,p1,f1,k1,d1,rfl,hx,f,g,W,X,K,G,H⟩:=QC P;have r:At i (p.add ((((1:Nat):Int)-1).toNat*4)) _:=hx.add 0;replace f:At i (q.add ((0:Int).toNat*4)) _:=f;replace g:At i (q.add ((1:Int).toNat*4)) _:=g;refine gH 14 (gG 3 (.Aw (rfl) (gG 4 (.Aw (rfl) (gH 5 (.val (.B5 (us:=[S [102,111,114,109],.slice F 2 D,S [],.slice (some q) 4 E]) (.of O) a r mK mQ O (λ_ _ h=>h)) O (gH 14 ?_)))))));intro Z w a;refine gG 10 (.Aw (rfl) (gH 14 (gF 7 (Xlg lt sv n o t x Q R) ?_)));rintro _ w ⟨A,Y,m9,c9,m,e,a⟩;rw[T]at e;subst e;refine gG 7 ?_;intro C w a;refine gN 0 ?_ ?_<;>intro d
 ·refine gH 4 (.nil (.ret ?_));refine λ_ b=>qP b O O O O ?_
  exfalso
  simp at d
 refine gH 7 (.nil (.ret ?_));refine λ_ b=>qP b O O O O ?_
 exact⟨_,O,A,O,k.trans m,(a.y 0 3)⟩
theorem X8z(m:Nat)(h:m<=1099511627776)(N:La)(d:Aa B w I N):Ce B I N 47 [Ab (m:Nat)] w (S (Go.Lib.decDigits m)):=by
 refine gG 2 (.loop (σ:=Nat×Lu) (λ(n,b)=>[(0,Ab (n:Nat)),(3,S b)]) (λ(n,b) w=>n<=m/\Go.Lib.decDigits m=Go.Lib.decDigits n++b/\Aa B w I N) (λ(n,b)=>n) (m,[]) ⟨O,O,trivial⟩ ⟨Ya _,by simp,d⟩ ?_);rintro⟨n,b⟩ w ⟨q,f,d⟩;refine gN 2 ?_ ?_<;>intro p
 ·have e:=bW (n:=n) om;have a:=Yc List.length f;rw[Y0,e,Y0]at a;have o:=oH h;refine gH 5 ?_;clear d;intro j w d;refine .val (.XI (cap:=1) (c:=UInt8.ofNat (48+n%10)) (i:=(48+(n:Int)%10)) (.of O) d (k:=0) O (by rw[yn];omega) BV BP A8) O ?_;refine gG 6 (A_ (_,_) O ⟨od,?_,(d.y 0 1)⟩);rw[f,e,Yg]
 have g:=Go.Lib.decDigits_one (i:=n) om;have a:=Yc List.length f;rw[Y0]at a;have o:=oH h;refine gH 4 ?_;clear d;intro l w d;refine .val (.XI (cap:=1) (c:=UInt8.ofNat (48+n)) (i:=(48+(n:Int))) (.of O) d (k:=0) O (by rw[yn];omega) BV BP A8) O ?_;refine gG 3 (⟨?_,d.s⟩);rw[f,g]
theorem Xat(n:Int)(N:La)(g:Aa B w I N):Ce B I N 48 [Ab n] w (S (Gd n)):=by
 refine gM 4 ?_ ?_<;>intro b m
 ·exact gG 1 ⟨by unfold Gd Bb;simp only[List.lookup,show(n==200)=true from b];rfl,g⟩
 refine gM 2 ?_ ?_<;>intro c o
 ·exact gG 1 ⟨by unfold Gd Bb;simp only[List.lookup,show(n==200)=false from b,show(n==302)=true from c];rfl,g⟩
 refine gM 2 ?_ ?_<;>intro e p
 ·exact gG 1 ⟨by unfold Gd Bb;simp only[List.lookup,show(n==200)=false from b,show(n==302)=false from c,show(n==400)=true from e];rfl,g⟩
 refine gM 2 ?_ ?_<;>intro a i
 ·exact gG 1 ⟨by unfold Gd Bb;simp only[List.lookup,show(n==200)=false from b,show(n==302)=false from c,show(n==400)=false from e,show(n==403)=true from a];rfl,g⟩
 refine gM 2 ?_ ?_<;>intro d j
 ·exact gG 1 ⟨by unfold Gd Bb;simp only[List.lookup,show(n==200)=false from b,show(n==302)=false from c,show(n==400)=false from e,show(n==403)=false from a,show(n==404)=true from d];rfl,g⟩
 refine gM 2 ?_ ?_<;>intro f k
 ·exact gG 1 ⟨by unfold Gd Bb;simp only[List.lookup,show(n==200)=false from b,show(n==302)=false from c,show(n==400)=false from e,show(n==403)=false from a,show(n==404)=false from d,show(n==405)=true from f];rfl,g⟩
 refine gM 2 ?_ ?_<;>intro h l
 ·exact gG 1 ⟨by unfold Gd Bb;simp only[List.lookup,show(n==200)=false from b,show(n==302)=false from c,show(n==400)=false from e,show(n==403)=false from a,show(n==404)=false from d,show(n==405)=false from f,show(n==503)=true from h];rfl,g⟩
 exact gG 1 ⟨by unfold Gd Bb;simp only[List.lookup,show(n==200)=false from b,show(n==302)=false from c,show(n==400)=false from e,show(n==403)=false from a,show(n==404)=false from d,show(n==405)=false from f,show(n==503)=false from h];rfl,g⟩
theorem Xlj(r:Co)(l:Oa)(t:Nat)(D:r.Af.length<=100000)(C:r.body.length<=1000000)(v:∀h∈r.Af,h.1.length<=1000000/\h.2.length<=1000000)(u:RS I l 2 r.Af.length (X2 X5 r.Af))(N:La)(a:Aa B w I N):Ce B I N 49 [.agg ([Ab r.status,.slice l r.Af.length t,S r.body]:Lv).toArray] w (.bool (fB r)):=by
 refine gH 4 ?_;clear a;intro b1 w a;refine gE 0 (Xat _) ?_;clear a;intro w a;refine gM 13 ?_ ?_<;>intro c m
 ·refine gG 1 (⟨Yc Value.bool ?_,a.s⟩);unfold fB;rw[show aA r=true from c];rfl
 refine gG 1 (.lk [1] (σ:=Nat) (λi _m=>(3,Ab (i:Nat))::_m) (λi w=>i<=r.Af.length/\r.Af.all (λh=>!Uy h&&!qW h.2)=(r.Af.drop i).all (λh=>!Uy h&&!qW h.2)/\Aa B w I (Ac b1 [Ab r.status,.slice l r.Af.length t,S r.body] 61::N)) (λi=>r.Af.length-i) 0 ⟨Y4 _,O,a⟩ ?_);rintro i w ⟨hi,b,a⟩;refine gN 5 ?_ ?_<;>intro n
 ·obtain⟨x,j⟩:∃x,r.Af[i]?=some x:=⟨_,Y2 om⟩
  have y:=v x (Y7 j);obtain⟨q,k,hx⟩:=aN (cells:=X5) (λ_=>rfl) u j;subst k;unfold X5 at hx;have g:r.Af.drop i=x::r.Af.drop (i+1):=by rw[Ym (Y1.1 j).1,(Y1.1 j).2]
  refine gH 13 ?_;clear a;intro A w a;refine gE 0 (vh x.1 om) ?_;clear a;intro w a;refine gH 4 (.Au (T:=λw=>Aa B w I _) O O O func70 O (λd=>(X6 (.gd d O) (A3 O X4))) O (λd=>u9 32 x.2 om _ a) a ?_);clear a;rintro w a;refine gH 5 (.Au (T:=λw=>Aa B w I _) O O O func73 O (λd=>(X6 (.gd d O) (A3 O X4))) O (λd=>Xd4 x.1 CL om _ a) a ?_);clear a;rintro w a;refine gM 1 ?_ ?_<;>intro e o
  ·refine gG 1 (⟨Yc Value.bool ?_,a.s⟩);unfold fB;rw[show aA r=false from c,b,g,DR,show Uy x=true from e];simp
  refine gH 14 ?_;refine gM 2 ?_ ?_<;>intro f p
  ·refine gG 1 (⟨Yc Value.bool ?_,a.s⟩);unfold fB;rw[show aA r=false from c,b,g,DR,show qW x.2=true from f];simp
  refine gG 3 (rd (i+1) ⟨om,?_,(a.z [1] 1 1)⟩);rw[b,g,DR,show Uy x=false from e,show qW x.2=false from f];rfl
 refine gG 1 (⟨Yc Value.bool ?_,a.s⟩);unfold fB;rw[show aA r=false from c,b,Yb om];rfl
theorem vg(s:Lu)(hs:s.length<=100000)(N:La)(b:Aa B w I N):Cz 15 [S s] w λv w'=>∃J ra rc,v=.tuple #[.agg #[Ab (DQ s).status,.slice ra (DQ s).Af.length rc,S (DQ s).body],Ab ((if(Hc s).isSome=true then 0 else 10:Nat):Int)]/\Le I J/\(DQ s).Af.length<=rc/\RS J ra 2 (DQ s).Af.length (X2 X5 (DQ s).Af)/\Aa B w' J N:=by
 refine gH 6 ?_;intro b2 b4 w b;refine gE 0 (rG s 0 om (Y4 _)) ?_;intro w b;have a9:=Y_ s;refine gN 7 ?_ ?_<;>intro M
 ·refine gH 3 ?_;intro w b;refine gG 0 ?_;have f:Hc s=none:=by
   have h3:=tM M;rw[FY]at h3;unfold Hc;rw[Y9 (nB h3)]
  have m:DQ s=LS:=by unfold DQ;rw[f];rfl
  rw[m,f];exact⟨I,none,0,O,Le.refl _,Ya _,RS.nil _ _,b.s⟩
 refine gG 0 ?_;have t:(X3 s).2.1=0/\GR s 0=((s.length-(X3 s).2.2.length:Nat):Int):=by
  have d:=NZ (s:=s) (a:=0) (oh M);rw[FY]at d;exact d
 have ac:s.drop (s.length-(X3 s).2.2.length)=(X3 s).2.2:=by
  have d:=Za (s:=s) (a:=0) (Y4 _) (by rw[FY];exact t.1);rw[FY]at d;exact d
 rw[t.2];refine gH 6 ?_;intro b7 aj w b;refine gG 0 (.lk [0,2,4,5,6,7,8] (σ:=Nat) (λi _m=>(9,Ab (i:Nat))::_m) (λi w=>i<=7/\Aa B w I (Ac b7 [Ab (ll (X3 s).1 (Cy.take i) 0),.slice none 0 0,S []] 61::Ac aj (Cy.map λk=>Ab ((k:Nat):Int)) 3::Ac b4 [Ab 0,.slice none 0 0,S []] 61::Ac b2 [Ab 0,.slice none 0 0,S []] 61::N)) (λi=>7-i) 0 ⟨Y4 _,(b.x [1])⟩ ?_);rintro i w ⟨hi,b⟩;refine gN 4 ?_ ?_<;>intro aw
 ·refine gG 0 ?_;obtain⟨u,H⟩:∃k,Cy[i]?=some k:=⟨_,Y2 (by show i<7;omega)⟩
  have a8:u<=503:=(by decide:∀k∈Cy,k<=503) u (Y7 H);have E:(Cy.map λk=>Ab ((k:Nat):Int))[i]?=some (Ab (u:Nat)):=by rw[Yr,H];rfl
  have a5:=oH (n:=u) om;have bc:=r7 (u:Int);refine .qt b (.val (λw b=>(.mo O)) O (.val (λw b=>(.mo O)) O (.val (λw b=>(.mo O)) O ?_)));refine .val (λw b=>(by exact .io O O om om aE Bl)) O ?_;refine .val (v:=Ab (u:Nat)) (λw b=>.lo O b (k:=1) O BJ (by rw[Yk];(try rw[Yd]);rw[Dm];exact E)) O ?_;refine .call func47 O (A3 O X4) O (λw b=>X8z u om _ b) (.val (λw b=>(.cat (.of O) (.of O) (by(try simp only[Y0,Y5,Yh]);omega))) O (.val (λw b=>(.cat (.of O) (.of O) (by(try simp only[Y0,Y5,Yh]);omega))) O (.val (λw b=>(.mo O)) O (.val (λw b=>(.mo O)) O ?_))));refine .val (λw b=>(by exact .io O O om om aE Bl)) O ?_;refine .val (v:=Ab (u:Nat)) (λw b=>.lo O b (k:=1) O BJ (by rw[Yk];(try rw[Yd]);rw[Dm];exact E)) O ?_;refine .call func48 O (A3 O X4) O (λw b=>Xat (u:Int) _ b) (.val (λw b=>(.cat (.of O) (.of O) (by(try simp only[Y0,Y5,Yh]);omega))) O (.val (λw b=>(.eqs (.of O) (.of O))) O (.nil ?_)));intro w b;refine gM 0 ?_ ?_<;>intro K ax
  ·refine gH 3 ?_;refine .val (v:=Ab (u:Nat)) (.lo O b (k:=1) O BJ (by rw[Yk];(try rw[Yd]);rw[Dm];exact E)) O ?_;refine gH 5 ?_;intro w b;refine gG 0 (rd (i+1) ⟨om,?_⟩);rw[Xww _ i u H,Y9 (show(X3 s).1=X_ u from eq_of_beq K)];exact(b.x [3,3,3,3])
  refine gG 3 (rd (i+1) ⟨om,?_⟩);rw[Xww _ i u H,Y3 (show ¬ (X3 s).1=X_ u from λe=>Yz (beq_iff_eq.2 e) (by have d:((X3 s).1==X_ u)=false:=K;rw[d];exact Bool.noConfusion))];exact(b.x [3,3,3,3])
 refine gG 1 ?_;replace b:=b.py [1];rw[show Cy.take i=Cy from Yo (by show 7<=i;omega)]at b;replace b:=b.Ai 124 2;refine .lk [0,2,4,7] (σ:=Nat×List Pq×Va×Lu) (λ(a,c,W,size) _m=>(6,Ab (a:Nat))::(10,S size)::_m) (λ(a,c,W,size) w=>a<=s.length/\fQ s=Z9 ((s.drop a).length+1) (s.drop a) c size/\c.length<=a/\size.length<=s.length/\(∀h∈c,h.1.length<=s.length/\h.2.length<=s.length)/\Aa B w I (An 124 2 W c.length (X2 X5 c)::Ac b7 [Ab (ll (X3 s).1 Cy 0),W,S []] 61::Ac b4 [Ab 0,.slice none 0 0,S []] 61::Ac b2 [Ab 0,.slice none 0 0,S []] 61::N)) (λ(a,c,W,size)=>s.length-a) (s.length-(X3 s).2.2.length,[],.slice none 0 0,[]) ⟨om,by rw[ac];rfl,Y4 _,Y4 _,λ_ h=>Yz h sz,b⟩ ?_;rintro⟨a,c,W,size⟩ w ⟨ha,G,bb,ap,U,b⟩;obtain⟨ka,kc,rfl,ao,_⟩:=b.AG (k:=0) (v:=W) O
 conv at G=>rhs;rw[Z9]
 refine gE 2 (rG s a om ha) ?_;intro w b;have ae:=Y_ (s.drop a);rw[Y6]at ae;refine gN 7 ?_ ?_<;>intro P
 ·refine gH 3 ?_;intro w b;refine gG 0 ?_;have f:Hc s=none:=by
   have A:fQ s=none:=by rw[G,Y9 (by rw[tM P];decide)]
   unfold Hc;rw[Y3 (by rw[t.1];exact λh=>h O),A]
  have m:DQ s=LS:=by unfold DQ;rw[f];rfl
  rw[m,f];exact⟨I,none,0,O,Le.refl _,Ya _,RS.nil _ _,b.s⟩
 have l:=NZ (s:=s) (a:=a) (oh P);refine gM 2 ?_ ?_<;>intro o ay
 ·refine gG 0 ?_;rw[l.2];obtain⟨J2,Z,aa,hT⟩:=b.fV 0;have b:=hT;clear hT;try dsimp only[List.eraseIdx]at b
  have q:=Za ha l.1;refine gH 5 ?_;intro w b;refine gG 0 ?_;rw[Yd,q]at b;refine gE 1 (Xlj (H4 s (c,size,(X3 (s.drop a)).2.2)) ka kc (by show c.length<=_;omega) (by show(X3 (s.drop a)).2.2.length<=_;omega) (λh hh=>by have:=U h hh;omega) aa) ?_;intro w b;refine gH 8 (.Au (T:=λw=>Aa B w J2 _) O O O func47 O (λad=>(X6 (.gd ad O) X4)) O (λad=>X8z (X3 (s.drop a)).2.2.length om _ b) b ?_);clear b;rintro w b;refine gM 2 ?_ ?_<;>intro C am
  ·refine gH 3 ?_;intro w b;refine gG 0 ?_;have V:fQ s=some (c,size,(X3 (s.drop a)).2.2):=by rw[G,Y3 (by rw[l.1];exact λh=>h O),Y9 (su o)]
   have f:Hc s=none:=by
    unfold Hc;rw[Y3 (by rw[t.1];exact λh=>h O),V];show(if(fB (H4 s (c,size,(X3 (s.drop a)).2.2))&&size==Go.Lib.decDigits (X3 (s.drop a)).2.2.length)=true then some (H4 s (c,size,(X3 (s.drop a)).2.2))else none)=_
    rw[Y3 (λh=>?_)];have Q:=ny.1 h;have d:=C;rw[Q.1]at d;have A:(size !=Go.Lib.decDigits (X3 (s.drop a)).2.2.length)=true:=su d
    unfold bne at A;rw[Q.2]at A;cases A
   have m:DQ s=LS:=by unfold DQ;rw[f];rfl
   rw[m,f];exact⟨J2,none,0,O,Z,Ya _,RS.nil _ _,b.s⟩
  refine gH 3 ?_;intro w b;refine gG 0 ?_;have V:fQ s=some (c,size,(X3 (s.drop a)).2.2):=by rw[G,Y3 (by rw[l.1];exact λh=>h O),Y9 (su o)]
  have f:Hc s=some (H4 s (c,size,(X3 (s.drop a)).2.2)):=by
   unfold Hc;rw[Y3 (by rw[t.1];exact λh=>h O),V];show(if(fB (H4 s (c,size,(X3 (s.drop a)).2.2))&&size==Go.Lib.decDigits (X3 (s.drop a)).2.2.length)=true then some (H4 s (c,size,(X3 (s.drop a)).2.2))else none)=_
   rw[Y9];have d:=EB.1 C;have Q:=d.1;have A:=d.2;rw[nD]at Q;rw[Q,Cv];simpa using A
  have m:DQ s=(H4 s (c,size,(X3 (s.drop a)).2.2)):=by unfold DQ;rw[f];rfl
  rw[m,f];exact⟨J2,ka,kc,O,Z,ao,aa,b.s⟩
 refine gM 2 ?_ ?_<;>intro p az
 ·refine gH 3 ?_;intro w b;refine gG 0 ?_;have f:Hc s=none:=by
   have A:fQ s=none:=by rw[G,Y3 (by rw[l.1];exact λh=>h O),Y3 (su o),Y9 (su p)]
   unfold Hc;rw[Y3 (by rw[t.1];exact λh=>h O),A]
  have m:DQ s=LS:=by unfold DQ;rw[f];rfl
  rw[m,f];exact⟨I,none,0,O,Le.refl _,Ya _,RS.nil _ _,b.s⟩
 refine gG 1 (.lk [0,2,4,5,6,7,10] (σ:=Nat) (λk _m=>(11,Ab (k:Nat))::_m) (λk w=>k<=(X3 (s.drop a)).1.length/\(∀j,j<k->Go.Lib.occAt (X3 (s.drop a)).1 Ic j=false)/\Aa B w I (An 124 2 (.slice ka c.length kc) c.length (X2 X5 c)::Ac b7 [Ab (ll (X3 s).1 Cy 0),(.slice ka c.length kc),S []] 61::Ac b4 [Ab 0,.slice none 0 0,S []] 61::Ac b2 [Ab 0,.slice none 0 0,S []] 61::N)) (λk=>(X3 (s.drop a)).1.length-k) 0 ⟨Y4 _,λ_ h=>Yz h om,b⟩ ?_);rintro k w ⟨hk,F,b⟩;refine gH 14 ?_;refine gM 4 ?_ ?_<;>intro y a0
 ·refine gG 3 ?_;have d:=y;have an:k+1<(X3 (s.drop a)).1.length:=by have Q:=(ny.1 d).1;rw[dq1]at Q;omega
  refine rd (k+1) ⟨om,λj hj=>?_,(b.x [3,3,3,3])⟩;rcases Yt j k with h1|h1
  ·exact F j h1
  ·have e:j=k:=om
   subst e;rw[tP _ j an,(ny.1 d).2];rfl
 refine gN 5 ?_ ?_<;>intro z
 ·refine gH 3 ?_;intro w b;refine gG 0 ?_;have f:Hc s=none:=by
   have g:=bU (s:=(X3 (s.drop a)).1) (λj hj=>F j (oh z));have A:fQ s=none:=by rw[G,Y3 (by rw[l.1];exact λh=>h O),Y3 (su o),Y3 (by have d:size=[]:=(su p);rw[d];exact λh=>h O),Y9 (by rw[g])]
   unfold Hc;rw[Y3 (by rw[t.1];exact λh=>h O),A]
  have m:DQ s=LS:=by unfold DQ;rw[f];rfl
  rw[m,f];exact⟨I,none,0,O,Le.refl _,Ya _,RS.nil _ _,b.s⟩
 refine gM 4 ?_ ?_<;>intro D a1
 ·refine gM 7 ?_ ?_<;>intro L a2
  ·refine gH 3 ?_;intro w b;refine gG 0 ?_;have r:k+1<(X3 (s.drop a)).1.length:=by have d:=z;omega
   have g:=Lj (s:=(X3 (s.drop a)).1) (i:=k) r (by
    have d:=y;rw[decide_eq_true (show((k:Int)+1)<(((X3 (s.drop a)).1.length:Nat):Int)by omega),Cv]at d;rw[tP _ k r,d];rfl) F
   have f:Hc s=none:=by
    have A:fQ s=none:=by rw[G,Y3 (by rw[l.1];exact λh=>h O),Y3 (su o),Y3 (by have d:size=[]:=(su p);rw[d];exact λh=>h O),Y3 (by rw[g];exact Bool.noConfusion),g,Y9 (show(X3 (s.drop a)).1.take k=YT from eq_of_beq D),Y9 (show(X3 (s.drop a)).1.drop (k+2)=[] from by have d:=L;rw[show((k:Int)+2).toNat=k+2 by omega]at d;simpa using d)]
    unfold Hc;rw[Y3 (by rw[t.1];exact λh=>h O),A]
   have m:DQ s=LS:=by unfold DQ;rw[f];rfl
   rw[m,f];exact⟨I,none,0,O,Le.refl _,Ya _,RS.nil _ _,b.s⟩
  refine gG 0 ?_;have r:k+1<(X3 (s.drop a)).1.length:=by have d:=z;omega
  have g:=Lj (s:=(X3 (s.drop a)).1) (i:=k) r (by
   have d:=y;rw[decide_eq_true (show((k:Int)+1)<(((X3 (s.drop a)).1.length:Nat):Int)by omega),Cv]at d;rw[tP _ k r,d];rfl) F
  have R:(X3 (s.drop a)).2.2.length<(s.drop a).length:=mj _ l.1;rw[Y6]at R;have q:=Za ha l.1;refine⟨(s.length-(X3 (s.drop a)).2.2.length,c,.slice ka c.length kc,(X3 (s.drop a)).1.drop (k+2)),⟨(by rw[l.2];rfl),O,O,O,O,O,trivial⟩,⟨om,?_,od,by(try dsimp only);rw[Y6];omega,U,(b.x [3,3,3,3])⟩,od⟩
  (try dsimp only)
  rw[G,Y3 (by rw[l.1];exact λh=>h O),Y3 (su o),Y3 (by have d:size=[]:=(su p);rw[d];exact λh=>h O),Y3 (by rw[g];exact Bool.noConfusion),g,Y9 (show(X3 (s.drop a)).1.take k=YT from eq_of_beq D),Y3 (show ¬ (X3 (s.drop a)).1.drop (k+2)=[] from by have d:=L;rw[show((k:Int)+2).toNat=k+2 by omega]at d;simpa using d),q];exact rD _ _ _ _ _ (by rw[Y6];omega) om
 refine gD [1] [13] [0,1,2,3,4,5,6,7,8,9,10,11,12,13] ?_;intro w b;refine gH 11 ?_;intro aq w b;refine gH 1 ?_;intro X Y ab w b;refine gH 2 ?_;intro w b;refine gG 0 ?_;have r:k+1<(X3 (s.drop a)).1.length:=by have d:=z;omega
 have g:=Lj (s:=(X3 (s.drop a)).1) (i:=k) r (by
  have d:=y;rw[decide_eq_true (show((k:Int)+1)<(((X3 (s.drop a)).1.length:Nat):Int)by omega),Cv]at d;rw[tP _ k r,d];rfl) F
 have R:(X3 (s.drop a)).2.2.length<(s.drop a).length:=mj _ l.1;rw[Y6]at R;have q:=Za ha l.1;refine⟨(s.length-(X3 (s.drop a)).2.2.length,c++[((X3 (s.drop a)).1.take k,(X3 (s.drop a)).1.drop (k+2))],.slice X (c.length+1) Y,size),⟨(by rw[l.2];rfl),O,O,O,O,O,trivial⟩,⟨om,?_,by(try dsimp only);rw[Y0];show _+1<=_;omega,ap,λh hm=>?_,?_⟩,od⟩
 ·(try dsimp only)
  rw[G,Y3 (by rw[l.1];exact λh=>h O),Y3 (su o),Y3 (by have d:size=[]:=(su p);rw[d];exact λh=>h O),Y3 (by rw[g];exact Bool.noConfusion),g,Y3 (show ¬ (X3 (s.drop a)).1.take k=YT from λe=>Yz (beq_iff_eq.2 e) (by have d:((X3 (s.drop a)).1.take k==YT)=false:=D;rw[d];exact Bool.noConfusion)),q];exact rD _ _ _ _ _ (by rw[Y6];omega) om
 ·rcases Ys.1 hm with d|d
  ·exact U h d
  ·rw[PQ]at d;subst d;exact⟨by(try dsimp only);rw[Yl];omega,by(try dsimp only);rw[Y6];omega⟩
 ·(try dsimp only)
  rw[KP,show(c++[((X3 (s.drop a)).1.take k,(X3 (s.drop a)).1.drop (k+2))]).length=c.length+1 from Y0];exact(b.x [3,3,3,3])
def eV:Sv:=⟨0,0,[104,116,116,112,58,47,47,97,47,42,42],true,false,false,[],[]⟩
def FF:Us:=⟨[117],[112],[]⟩
def Mm:Cf:=⟨[eV],[FF],λ_=>0,9,0,0,0,0⟩
theorem bJ:Bc.Ord (kx (C4 [eV])) 1 [0]:=⟨by decide+kernel,by decide+kernel⟩
theorem Uw:Mm.fits:=⟨de,by decide+kernel,by decide+kernel,de,λu a=>by
 rw[show Mm.us=[FF] from O,PQ]at a;subst a;exact⟨de,de,de,λp b=>by simp[FF]at b⟩⟩
theorem Uv{s:Nat}{F:TypeId}(b:J s=some (Xh [Ab 0,AM 0,S eV.urls,.bool true,.bool false,.bool false,S [],.slice none 0 0] E))(c:J u=some (Xh [S FF.name,S FF.pw,.slice none 0 0] F)):B2 J (some (ad s 0)) [eV]/\BC J (some (ad u 0)) [FF]:=by
 constructor
 ·intro i t a
  match i,a with
  | 0,a=>cases a;exact⟨_,none,0,O,wk b,Ya _,RS.nil _ _⟩
  | i+1,a=>simp at a
 ·intro i t a
  match i,a with
  | 0,a=>cases a;exact⟨_,none,0,O,wk c,Ya _,RS.nil _ _⟩
  | i+1,a=>simp at a
def J_:Cg:=⟨[eV],[FF],λ_=>0,⟨0,0,0,0⟩⟩
theorem jS:OP Mm J_:=⟨[0],bJ,O⟩
def nS:BF:={ (D5 Mm (Da 60) 0).2 with Z:={ (D5 Mm (Da 60) 0).2.Z with D:=(D5 Mm (Da 60) 0).2.Z.D++[1] } }
def uR:Lu:=[71,69,84,32,47,120,32,72,84,84,80,47,49,46,49,13,10,13,10]
def uS:Lu:=[71,69,84,32,47,108,111,103,105,110,32,72,84,84,80,47,49,46,49,13,10,13,10]
def ON:(Lu×Lu)×BF:=DA J_ nS uR
def JZ:(Lu×Lu)×BF:=DA J_ ON.2 uS
theorem bI:(D5 Mm (Da 60) 0).1=0:=by kernel_rfl
theorem jR:(Hc ON.1.1).isSome=true/\(DQ ON.1.1).status=404/\ON.1.1.length<=100000:=by
 refine⟨by kernel_rfl,by kernel_rfl,Yx kr⟩
theorem Uu:(Hc JZ.1.1).isSome=true/\(DQ JZ.1.1).status=200/\JZ.1.1.length<=100000/\(DQ JZ.1.1).body.length<=10000:=by
 refine⟨by kernel_rfl,by kernel_rfl,Yx kr,Yx kr⟩
theorem Ni:JZ.2.Z.D=[]/\JZ.2.Z.l.length=1:=⟨by kernel_rfl,by kernel_rfl⟩
theorem Xnt(N:La)(a:Aa B w I N):Cz 20 [] w λv w'=>∃J s u,Le I J/\v=.agg (Ie Mm (some (ad s 0)) 1 (some (ad u 0)) 1).toArray/\B2 J (some (ad s 0)) [eV]/\BC J (some (ad u 0)) [FF]/\Aa B w' J N:=by
 refine gH 7 ?_;clear a;intro l i j w a;refine gG 0 ?_;obtain⟨k,d,f,a⟩:=a.fZ 0;obtain⟨g,b,e,a⟩:=a.fZ 0;try dsimp only[List.eraseIdx]at a
 have c:=Uv (J:=g) e (b.h _ _ f);exact⟨g,i,j,d.trans b,O,c.1,c.2,a.s⟩
abbrev Ss:Lu:=[76,84,45,48,48,48,48,48,48,48,48,48,48,48,48,48,48,48,49]
def Su:Lu:=(DQ JZ.1.1).body
theorem Xug:(DQ JZ.1.1).Af=[([67,111,110,116,101,110,116,45,84,121,112,101],[116,101,120,116,47,104,116,109,108])]:=by kernel_rfl
theorem bG:Il 8 200 Su=some (Gh [Kg Ss []],[],193):=by kernel_rfl
theorem bH:CD 8 200 (Gh [Kg Ss []])=some 193:=by kernel_rfl
theorem Ut:Wy 8 (Gh [Kg Ss []])=true:=by kernel_rfl
theorem Nj:Cb 8 (Gh [Kg Ss []])=Su:=by kernel_rfl
theorem pX:∀c∈Su,c≠38:=by
 have h:Su.all (λc=>c !=38)=true:=by kernel_rfl
 intro c a;simpa using Dj.1 h c a
theorem pY{a:Nat}(e:B2 J (some (ad a 0)) [eV])(f:BC J (some (ad b 0)) [FF]):ZK J Mm (some (ad a 0)) (some (ad b 0)) :=
 ⟨Uw,λ_=>⟨λs c=>by rw[show Mm.BL=[eV] from O,PQ]at c;subst c;decide,λu d=>by rw[show Mm.us=[FF] from O,PQ]at d;subst d;exact⟨de,λa g=>by simp[FF]at g⟩⟩,e,f⟩
theorem Xro(hZ:Kz I)(hV:A4 I)(N:La)(b:Aa B w I N):Cz 4 [] w λv w'=>v=.bool true/\∃J,Le I J/\Aa B w' J N:=by
 refine gF 1 (Xnt) ?_;rintro _ w ⟨J1,sb,ub,f,rfl,L,M,b⟩;refine gF 0 (Xir Mm J_ jS (some (ad sb 0)) 1 (some (ad ub 0)) 1 60 de (hZ.mono f) (hV.mono f) (pY L M)) ?_;rintro _ w ⟨X,db,pv,D,rfl,b⟩;refine gG 5 ?_;obtain⟨⟨o9,t⟩,b⟩:=Aa.unbox b;rcases o9 with _|z
 ·exact Yz bI t.1
 obtain⟨ai,rfl,W,r,K⟩:=t;replace b:Aa B _ X (Hu J_ z (D5 Mm (Da 60) 0).2 N):=b;refine gG 2 (.Aw (rfl) (gH 2 ?_));intro C w b;have q:=b.A2 (size:=1) (n:=1) (k:=0) O O (by unfold maxLen;omega);obtain⟨T,g,G,b⟩:=q.fV 0;clear q;try dsimp only[List.eraseIdx,List.set]at b
 refine gE 0 (Xjb J_ z (D5 Mm (Da 60) 0).2 (some (ad C 0)) 1 [1] (by rw[N_];exact Y4 _) de (r.mono g) G) ?_;intro w b;have c:=r.mono g;have H:BB T J_ z nS:=⟨c.wp,c.cg,c.kz,c.fit,c.kp,c.qu⟩
 have x:AZ nS 8160:=NB (o:=⟨3,[],0,[1],[]⟩) K ⟨de,de,de,λd hd=>by rw[PQ.1 hd];decide⟩;replace b:Aa B _ T (Hu J_ z nS N):=b;refine gF 1 (tF J_ z nS uR de (x.up om) H) ?_;rintro _ w ⟨a,U,R,E,P,am,l,b⟩;replace a:_=Value.agg #[S ON.1.1,S ON.1.2]:=a;subst a;replace l:BB U J_ R ON.2:=l;have y:AZ ON.2 8416:=Ll x uR;replace b:Aa B _ U (Hu J_ R ON.2 N):=b;rw[<-P];refine gH 3 ?_;intro b3 w b;refine gF 0 (tF J_ R ON.2 uS de (y.up om) l) ?_;rintro _ w ⟨a,V,A,F,Q,an,e,b⟩;replace a:_=Value.agg #[S JZ.1.1,S JZ.1.2]:=a;subst a;replace e:BB V J_ A JZ.2:=e;have hsc:AZ JZ.2 8672:=Ll y uS;replace b:Aa B _ V (Hu J_ A JZ.2 (Ac b3 [S ON.1.1,S ON.1.2] 58::N)):=b;rw[<-Q];refine gH 4 ?_;intro b4 w b;refine gF 0 (vg ON.1.1 jR.2.2) ?_;rintro _ w ⟨J6,ra,rc,a,h,aj,ac,b⟩;rw[jR.2.1,Y9 jR.1]at a;subst a;refine gH 8 ?_;intro b5 w b;refine gF 0 (vg JZ.1.1 Uu.2.2.1) ?_;rintro _ w ⟨J7,rb,rd,a,i,ak,p,b⟩;rw[Uu.2.1,Y9 Uu.1,Xug]at a;rw[Xug]at p;obtain⟨ph,u,hH⟩:=p.2 de;subst u;subst a;refine gH 7 ?_;intro b7 w b;refine gF 0 (Xgb ph rd Su Ss [] 193 193 Uu.2.2.2 pX bG bH Ut Nj (by rw[Nj];have:=Uu.2.2.2;exact Yq this de) de de hH) ?_;rintro _ w ⟨J8,rfl,j,b⟩;refine gH 13 (.C3 O O O (gH 1 (.C3 O O O (gH 1 (.val (.pick (.of O) (.of O) (.of O)) O (gH 1 (.C3 O O O (gH 1 (.val (.pick (.of O) (.of O) (.of O)) O (gH 1 (.C3 O O O (gH 1 (.C3 O O O (gH 1 (.val (.pick (.of O) (.of O) (.of O)) O (gH 1 (.C3 O O O (gH 1 (.C3 O O O (gF 0 (u_ J_ A JZ.2 hsc.Z (e.mono ((h.trans i).trans j))) ?_))))))))))))))))))));rintro _ w ⟨Y,ta,tc,a,m,al,ae,b⟩;rw[Ni.2]at a;subst a;refine .C3 O O O (gH 1 (.C3 O O O (gH 1 (.val (.pick (.of O) (.of O) (.of O)) O (gH 1 (.C3 O O O (gH 1 (.C3 O O O (gF 0 (v8 J_ A JZ.2 (e.mono (((h.trans i).trans j).trans m))) ?_)))))))));rintro _ w ⟨a,b⟩;rw[Ni.1]at a;subst a;refine .C3 O O O (gH 1 (.val (.pick (.of O) (.of O) (.of O)) O ?_));exact gG 1 ⟨O,Y,(((((((f.trans D).trans g).trans E).trans F).trans h).trans i).trans j).trans m,b.s⟩
theorem Wq(k:Int->Nat):∀T:List Int,T.Nodup->∃D,Bc.So k D/\D.Perm T
 | [],_=>⟨[],List.Pairwise.nil,List.Perm.refl _⟩
 | x::T,h=>by
  obtain⟨hx,n⟩:=T6.1 h;obtain⟨D,j,l⟩:=Wq k T n;have c:∀d∈D,d≠x:=λd o e=>hx (e▸l.mem_iff.1 o)
  have g:∀v∈D.filter (λd=>!decide (Bc.DG k d x)),Bc.DG k x v:=λv a=>by
   have i:=Iy.1 a;rcases Bc.P0 (k:=k) (c v i.1)with b|b
   ·simp[b]at i
   ·exact b
  have f:∀v∈D.filter (λd=>decide (Bc.DG k d x)),Bc.DG k v x:=λv a=>by simpa using(Iy.1 a).2
  refine⟨D.filter (λd=>decide (Bc.DG k d x))++x::D.filter (λd=>!decide (Bc.DG k d x)),Bc.lj (j.filter _) (Sl.2 ⟨g,j.filter _⟩) λu m v a=>?_,?_⟩
  ·rcases Yp.1 a with rfl|a
   ·exact f u m
   ·exact Bc.Dv (f u m) (g v a)
  ·exact pK.trans (List.Perm.cons _ ((List.filter_append_perm _ D).trans l))
theorem pZ(c:Cf):∃g,OP c g:=by
 obtain⟨D,a,b⟩:=Wq (kx (C4 c.BL)) (Bc.Bu c.BL.length) ((Bc.Ia _).imp λh=>by omega);exact⟨_,D,⟨a,b⟩,O⟩
def YV:List Lu:=[[47,108,111,103,105,110],[47,108,111,103,111,117,116],[47,118,97,108,105,100,97,116,101],[47,115,101,114,118,105,99,101,86,97,108,105,100,97,116,101],[47,112,114,111,120,121,86,97,108,105,100,97,116,101],[47,112,51,47,115,101,114,118,105,99,101,86,97,108,105,100,97,116,101],[47,112,51,47,112,114,111,120,121,86,97,108,105,100,97,116,101],[47,112,114,111,120,121]]
def jt(b:Lu):Lu:=(C_ 63 (X0 b).1.target).1
def Gy(b:Lu):Int:=if E7 b=true then 400 else if YV.contains (jt b)=true then 405 else 404
def okB(b:Lu):Bool:=!E7 b&&YV.contains (jt b)&&((X0 b).1.Ax==[71,69,84]||jt b==[47,108,111,103,105,110])
theorem PV{m x K:Lu}(h:m++x=K):m=K.take (K.length-x.length)/\x=K.drop (K.length-x.length):=by
 subst h;rw[Y0,Nat.add_sub_cancel,T8,pO];exact⟨O,O⟩
theorem Xpt(key:Lu):CP key<9↔key∈BO:=by
 rw[<-List.idxOf_lt_length_iff];exact Iff.rfl
theorem cM(p:Lu):(aK++p)∈BO↔YV.contains p=true:=by
 rw[pF];constructor
 ·intro h;unfold aK BO at h;simp at h
  rcases h with rfl|rfl|rfl|rfl|rfl|rfl|rfl|rfl<;>decide
 ·intro h;unfold YV at h;simp only[Yp,E6,or_false]at h
  rcases h with rfl|rfl|rfl|rfl|rfl|rfl|rfl|rfl<;>decide
theorem dH{m p:Lu}(a:YV.contains p=true)(c:p≠[47,108,111,103,105,110])(d:m≠[71,69,84]):¬ ((m++[32])++p)∈BO:=by
 intro h;rw[pF]at a;rw[Yg]at h;unfold YV at a;unfold BO at h;simp only[Yp,E6,or_false]at a h
 rcases a with rfl|rfl|rfl|rfl|rfl|rfl|rfl|rfl
 ·exact c O
 all_goals
  rcases h with h|h|h|h|h|h|h|h|h
  all_goals
   have b:=PV h
   first|exact Yz b.2 de|exact d b.1
theorem cy{g:Cg}{s:BF}{b:Lu}(h:okB b=false):DA g s b=((Dq (Xq (Gy b)),[]),s):=by
 unfold DA Gy;have i:((X0 b).2≠0\/(BH (X0 b).1.Ax (X0 b).1.target (X0 b).1.body).2≠0\/(Dh (X0 b).1.Af).2≠0)↔E7 b=true:=by
  unfold E7;simp only[EC,bne_iff_ne,ne_eq,Int.natCast_eq_zero,or_assoc]
 by_cases c:E7 b=true
 ·rw[Y9 (i.2 c),Y9 c]
 ·rw[Y3 (λe=>c (i.1 e)),Y3 c];have f:=(Xpt (aK++CO (X0 b).1)).trans (cM _)
  by_cases a:YV.contains (jt b)=true
  ·rw[Y3 (not_not_intro (f.2 a)),Y9 a];have d:okB b=false:=h;unfold okB at d;rw[a,uq.2 c]at d;simp at d
   rw[Y9];rw[Xpt];exact dH a d.2 d.1
  ·rw[Y9 (λe=>a (f.1 e)),Y3 a]
theorem WN(b:Lu):(Hc (Dq (Xq (Gy b)))).isSome=true/\(DQ (Dq (Xq (Gy b)))).status=Gy b/\(Dq (Xq (Gy b))).length<=100000:=by
 have h:∀n:Int,n=400\/n=404\/n=405->(Hc (Dq (Xq n))).isSome=true/\(DQ (Dq (Xq n))).status=n/\(Dq (Xq n)).length<=100000:=by
  intro n a;rcases a with rfl|rfl|rfl<;>exact⟨by kernel_rfl,by kernel_rfl,Yx kr⟩
 refine h _ ?_;unfold Gy;split
 ·exact .inl O
 ·split
  ·exact .inr (.inr O)
  ·exact .inr (.inl O)
theorem CX.cons{a ea:Oa}{b:Lu}{l:List Fm}{L:List Or}(d:L.map Or.o=l)(e:RS J a 5 (1+L.length) ([Ab 0,S b,Ab 0,.slice none 0 0,.slice none 0 0]++X2 oV L))(c:∀r∈L,Gp J r.o r.da r.la):CX J a (⟨0,b,0,[],[]⟩::l):=by
 refine⟨⟨⟨0,b,0,[],[]⟩,none,0,none,0⟩::L,by rw[Yu,d],?_,λr f=>?_⟩
 ·rw[Y5,Ku];exact e
 ·rcases Yp.1 f with rfl|h
  ·exact⟨RS.nil _ _,RS.nil _ _⟩
  ·exact c r h
theorem Xij(x:Kp)(s:St)(b:Ep I x s)(N:La)(a:Aa B w I (EW x s::N)):Cz 9 [ptr x.db 0] w λv w'=>Aa B w' I (An 5 1 v (s.log.d.kept.flatten).length (Ao s.log.d.kept.flatten)::EW x s::N):=by
 obtain⟨_,a⟩:=Aa.unbox a;exact(Xya s.log.d x.db x.kb x.sv x.pl b.st.log.d (Yq b.st.log.d.size de) _ (a.x [4,4,4])).mono λe w' ⟨v,c,a⟩ =>
  ⟨v,c,(Aa.box (T:=nN x s) () (a.x [6,4,4,4,6,6])).pick 1 O⟩
theorem Xbk(c:Cf)(a:Oa)(cap:Nat)(ua:Oa)(m:Nat)(l:List Fm)(ea:Oa)(ec:Nat)(cz:l.length<=1759218604390)(a1:∀o∈l,i_ o)(b:Lu)(bm:b.length<=9223372036854775807)(B w:Wo)(I:Im)(hZ:Kz I)(hV:A4 I)(hC:Ky I c a cap ua m)(hL:CX I ea l)(N:La)(f:Aa B w I N):Cz 3 [.agg (Ie c a cap ua m).toArray,.slice ea l.length ec,S b] w λv w'=>v=.bool true/\∃J,Le I J/\Aa B w' J N:=by
 have T:∀o∈(⟨0,b,0,[],[]⟩:Fm)::l,i_ o:=λo ho=>by
  rcases Yp.1 ho with rfl|ho
  ·exact⟨bm,by show(0:Int)<=9223372036854775807;decide,Y4 _,Y4 _,λd hd=>by simp at hd⟩
  ·exact a1 o ho
 obtain⟨L,ag,ah,bb⟩:=id hL;have U:L.length=l.length:=by rw[<-ag,Yj]
 rw[U]at ah;refine gG 0 (.GJ (cs:=Ie c a cap ua m) f (.of O) O ?_);intro b3 w f;refine gF 1 (Xro hZ hV) ?_;rintro _ w ⟨rfl,J0,af,f⟩;refine gG 1 (gD [0] [6] [0,1,2,4,3,5,6,7] ?_);intro w f;refine A1.y 0 (λw _ _ cv f=>.DY (vs:=Ie c a cap ua m) (.of O) f (k:=0) O IK IQ O (λ_ _ h=>by rw[Yk];exact h)) ?_;refine gH 3 (A1.e (.buildSlice (cs:=[Ab 0,S b,Ab 0,.slice none 0 0,.slice none 0 0]) f (IC O TC) ZQ sizeOf36 zeroValue36 O O O O ?_));intro cq w f;replace f:=f.A2 (k:=0) (size:=5) (n:=1) O O (by unfold maxLen;omega);try dsimp only[List.set]at f
 refine gH 0 (A1.e (.Bz (size:=5) (bytes:=80) f (.of O) (.of O) (ah.mono af) (k:=0) O ZQ (i:=t36) kr O O O O (fk (λr=>rfl) _) ⟨om,by unfold maxLen;omega⟩ O ?_));intro dd w f;try dsimp only[List.set]at f
 obtain⟨xa,xc,rfl,c4,_⟩:=f.vS 0;have F:=f.fV 0;clear f;obtain⟨J1,ba,bh,f⟩:=F;try dsimp only[List.eraseIdx]at f
 have j:=af.trans ba;have bk:=CX.cons (ea:=ea) ag (b:=b) (by rw[U];exact bh) (λr hr=>(bb r hr).mono j);have bs:1+l.length=((⟨0,b,0,[],[]⟩:Fm)::l).length:=by rw[Y5,Ku]
 rw[bs];refine gE 0 (Qv c a cap ua m (⟨0,b,0,[],[]⟩::l) xa xc (by rw[Y5];omega) T (hC.mono j) bk) ?_;intro w f;refine gM 3 ?_ ?_<;>intro aw ce
 ·exact gG 2 ⟨O,J1,j,f.s⟩
 refine gG 0 ?_;obtain⟨az,bq,a0⟩:=Xs6 (c:=c) (l:=⟨0,b,0,[],[]⟩::l) (su aw) T;have cw:b.length<=5000:=(a0 ⟨0,b,0,[],[]⟩ sz).b;have br:∀o∈l,o.fits:=λo ho=>a0 o (by simp[ho])
 rw[Y5]at bq;have bp:ZK J1 c a ua:=⟨Qw hC az,λh0=>cG az h0,(hC.mono j).BL,(hC.mono j).us⟩
 obtain⟨g,hg⟩:=pZ c;refine gG 0 ?_;refine .val (.DY (vs:=Ie c a cap ua m) (.of O) f (k:=0) O IK IQ O (λ_ _ h=>by rw[Yk];exact h)) O ?_;refine gF 1 (Mh c g hg a cap ua m 200 de ea ec l om br (hZ.mono j) (hV.mono j) bp (hL.mono j)) ?_;rintro _ w ⟨J2,db,pv,nv,V,rfl,f⟩;refine gH 7 (.nil (.seq (.seq ?_)));rcases f with⟨rfl,f⟩|⟨x,s,bi,f⟩
 ·refine gG 6 (.Ct (rfl) ?_);exact gG 6 ⟨O,J2,j.trans V,f.s⟩
 obtain⟨a3,ay,hX,hs,cu⟩:=bi;subst a3;subst ay;have bu:=wK b;refine gG 6 (.Aw (rfl) (gF 1 (u_ g x s hs.Z hX) ?_));rintro _ w ⟨J3,ta,tc,rfl,K,c3,bg,f⟩;refine gF 2 (Xgt g x s hs.q (hX.mono K)) ?_;rintro _ w ⟨J4,na,nc,rfl,M,c1,bf,f⟩;have aq:=(hX.mono K).mono M;refine gF 2 (Xij x.k s.k aq.kp) ?_;rintro bv w f;obtain⟨ai,aj,rfl,_,_⟩:=f.vS 0;have F:=f.fV 0;clear f;obtain⟨J5,D,bd,f⟩:=F;try dsimp only[List.eraseIdx]at f
 have ar:=aq.mono D;refine gE 2 (v8 g x s ar) ?_;intro w f;refine gF 2 (Xpj b om) ?_;rintro _ w ⟨J6,ra,rn,rc,aa,an,ac,ck,rfl,u,f⟩;refine gH 11 ?_;intro cp w f;refine gE 0 (Xd7 _ _ _ ra rn rc (oh bu.target)) ?_;intro w f;refine gH 9 ?_;intro a9 w f;have ap:=f.A2 (size:=1) (n:=8) (k:=0) O O (by unfold maxLen;omega);obtain⟨J7,A,bc,f⟩:=ap.fV 0;clear ap;try dsimp only[List.eraseIdx,List.set]at f
 have bl:=(ar.mono u).mono A;refine gE 0 (Xzn (some (ad a9 0)) 8 YV (jt b) de bc) ?_;intro w f;refine gM 14 ?_ ?_<;>intro ax cf
 ·exact gG 2 ⟨O,J7,(j.trans V).trans ((((K.trans M).trans D).trans u).trans A),f.s⟩
 refine gG 0 ?_;have bt:okB b=false:=ax;have X:=WN b;refine gF 2 (tF g x s b om (hs.up om) bl) ?_;rintro _ w ⟨H,J8,y,P,bw,bx,hY,f⟩;rw[cy bt]at H hY f;subst H;simp only[eH,Em,Db]at f
 rw[<-bw,<-bx];replace hY:BB J8 g y s:=hY;refine gH 4 ?_;intro ab w f;refine gF 0 (vg (Dq (Xq (Gy b))) X.2.2) ?_;rintro _ w ⟨J9,a4,a5,H,E,ch,ca,f⟩;rw[X.2.1,Y9 X.1]at H;subst H;have av:=hY.mono E;refine gH 7 ?_;intro ae w f;refine .nil (.ck [19,23,7,9,10,12,13,14,15,24,25,26] (σ:=Int) (λn _m=>(27,Ab n)::_m) (λn w=>n=(if((!E7 b)&&!YV.contains (jt b))=true then 404 else 400)/\Aa B w J9 (Ac ae [Ab (Gy b),.slice a4 (DQ (Dq (Xq (Gy b)))).Af.length a5,S (DQ (Dq (Xq (Gy b)))).body] 61::Ac ab [S (Dq (Xq (Gy b))),S []] 58::Hu g y s N)) ?_ ?_)
 ·refine gM 5 ?_ ?_<;>intro G bn
  ·exact gG 1 (En _ O ⟨(Y9 G).symm,(f.z [5,5,5,5,5,5] 6 2)⟩)
  exact gG 0 (En _ O ⟨(Y3 (nB G)).symm,(f.z [5,5,5,5,5,5] 6 2)⟩)
 rintro n w ⟨hn,f⟩;refine .ck [7,9,10,12,13,14,15,24,25,26] (σ:=Unit) (λ⟨⟩ _m=>(27,Ab (Gy b))::_m) (λ⟨⟩ w=>Aa B w J9 (Ac ae [Ab (Gy b),.slice a4 (DQ (Dq (Xq (Gy b)))).Af.length a5,S (DQ (Dq (Xq (Gy b)))).body] 61::Ac ab [S (Dq (Xq (Gy b))),S []] 58::Hu g y s N)) ?_ ?_
 ·refine gM 4 ?_ ?_<;>intro W bo
  ·refine gG 1 ?_;have Y:Gy b=405:=by
    have h9:=ny.1 W;unfold Gy;rw[Y3 (by have h8:=h9.1;rw[PR]at h8;rw[h8];decide),Y9 h9.2]
   rw[<-Y];exact cd ⟨⟩ (f.x [5,5,5,5,5,5])
  refine gG 0 ?_;have Y:n=Gy b:=by
   rw[hn];unfold Gy;cases h1:E7 b<;>cases h2:YV.contains (jt b)<;>simp_all
  subst Y;exact cd ⟨⟩ (f.x [5,5,5,5,5,5])
 rintro⟨⟩ w f;refine gH 2 (.C3 O O O (gH 1 (.C3 O O O (gH 1 (.val (.pick (.of O) (.of O) (.of O)) O (gH 1 (.C3 O O O (gH 1 (.C3 O O O (gH 1 (.C3 O O O (gH 1 (.C3 O O O (gH 1 ?_))))))))))))));rw[beq_self_eq_true];refine .val (.pick (.of O) (.of O) (.of O)) O (gH 1 (.C3 O O O (gH 1 (.C3 O O O (gH 1 (.C3 O O O (gH 1 (.val (.pick (.of O) (.of O) (.of O)) O (gH 1 (.C3 O O O (gH 1 (.C3 O O O (gF 0 (u_ g y s hs.Z av) ?_)))))))))))));rintro _ w ⟨cj,b1,b2,rfl,p,ci,ao,f⟩;have Q:=av.mono p;refine .C3 O O O (gH 1 (.C3 O O O (.call func16 O (A3 O (A3 O X4)) O (Xgc b1 ta b2 tc s.Z.l (oh hs.Z.len) ao (bg.mono ((((((M.trans D).trans u).trans A).trans P).trans E).trans p)) _ f) ?_)));rintro _ w ⟨rfl,f⟩;refine .val (.pick (.of O) (.of O) (.of O)) O (gH 1 (.C3 O O O (gH 1 (.C3 O O O (gF 0 (Xgt g y s hs.q Q) ?_)))));rintro _ w ⟨cl,bz,b0,rfl,t,cg,am,f⟩;have R:=Q.mono t;refine .C3 O O O (gH 1 (.C3 O O O (.call func17 O (A3 O (A3 O X4)) O (Xle bz na b0 nc s.q (oh hs.q.1) am (bf.mono ((((((D.trans u).trans A).trans P).trans E).trans p).trans t)) _ f) ?_)));rintro _ w ⟨rfl,f⟩;refine .val (.pick (.of O) (.of O) (.of O)) O (gH 1 (.C3 O O O (gH 1 (.C3 O O O (gF 0 (Xij y.k s.k R.kp) ?_)))));rintro cr w f;obtain⟨ak,al,rfl,_,_⟩:=f.vS 0;have F:=f.fV 0;clear f;obtain⟨a8,C,be,f⟩:=F;try dsimp only[List.eraseIdx]at f
 have au:=R.mono C;refine .C3 O O O (gH 1 (.C3 O O O (.call func18 O (A3 O (A3 O X4)) O (Xpn ak ai al aj s.k.log.d.kept.flatten be (bd.mono ((((((u.trans A).trans P).trans E).trans p).trans t).trans C)) _ f) ?_)));rintro _ w ⟨rfl,f⟩;refine .val (.pick (.of O) (.of O) (.of O)) O (gH 1 (.C3 O O O (gH 1 (.C3 O O O (gE 0 (v8 g y s au) ?_)))));intro w f;refine .C3 O O O (gH 1 (.C3 O O O (gH 1 ?_)));rw[beq_self_eq_true];refine .val (.pick (.of O) (.of O) (.of O)) O ?_;exact gG 1 ⟨O,a8,(j.trans V).trans (((((((((K.trans M).trans D).trans u).trans A).trans P).trans E).trans p).trans t).trans C),f.s⟩
end Go.Proofs.W9
namespace Gk
open Go Go.RowKit Go.WideShapes Go.ChangeShapes
section
variable {H:Type} {Aq:TypeId×Va->H}
def u0(Aq:TypeId×Va->H)(a:Assume)(C:Checked)(e:Go.Os)(f:FuncId)(fn:Func)(s:ChangeSpec)(d:List PathCond)(c:Bool)(X:Wo->Array Va->Prop):Prop :=
  ∃(w:Wo) (b:Tape) (i:Input),w.os=e/\(w.forCall b i).Shaped C.prog/\i.vars=[]/\Input.okWide C.prog (w.forCall b i) .any w.heap.size f i/\
   ((s.pre Aq C.prog fn d c (w.forCall b i).memory i.args/\X (w.forCall b i).memory i.args)/\sizedMet Aq C.prog fn (OpenSpec.ofChange s) c (w.forCall b i).memory i.args)/\a.holds C.prog (lone (Frame.enter C.prog f i.args .normal) [] (w.forCall b i))
theorem X9i{a:Assume}{C:Checked}{os:Go.Os}{s:ChangeSpec}{k:List PathCond}{b l d h:Bool}{X:Wo->Array Va->Prop}
  (I:∀(w w':Wo) (args:Array Va),w.heap=w'.heap->X w args->X w' args)
  (own:ownKnob C.prog.godebug=none) (m:os.Started) (o:C.prog.inits.idxOf? f=none) (A:C.prog.funcs[f]?=some fn)
  (n:u0 Aq a C os f fn s k b X)
  (g:∀(W:Wo) (q:Nat) (args:Array Va) (ds y:List (DataW H)) (c:List MemPlace),
   (∀(j:Nat) t v,fn.params[j]?=some t->args[j]?=some v->Value.okWide C.prog W .any q t v)->
   DataW.Whole Aq C.prog fn.params.toList s.vars b W args.toList ds y c->X W args->W.ShapedOpen C.prog->(DataW.weightsEach C.prog (fn.params.toList++s.plain.varTypes C.prog) (ds++y)).all (·<=reachBytes)=true->
   Calls C.prog f args W λe F=>∃v,e=.returned v/\s.post Aq C.prog fn b l d h W args v F) :
  ReturnsInHanded a C os f .any (λw args=>(s.pre Aq C.prog fn k b w args/\X w args)/\sizedMet Aq C.prog fn (OpenSpec.ofChange s) b w args) (s.post Aq C.prog fn b l d h):=by
 refine returnsInHanded_of_calls own m o n ?_;intro w p i _ D _ B u _;obtain⟨_,_,_,z,r,_,_,_,_,x⟩:=B;have e:z=fn:=Option.some.inj (r.symm.trans A);subst e;obtain⟨⟨⟨ds,y,c,G,M⟩,hx⟩,L⟩:=u;have E:=DataW.Whole.of_heap (w':=w.forCall p i) (by rfl) G;refine(g (w.forCall p i) w.heap.size i.args ds y c x E (I _ _ _ (by rfl) hx) D (L.weights G)).mono λe F ⟨v,J,K⟩=>?_
 subst J;exact ChangeSpec.post_blind K
end
section
variable {P:Program} {W:Wo}
theorem u4{name:String}{k:IntKind}{zs:List Int}{g:Nat}{t e:TypeId}
  (m:P.globalNamed name=some g) (i:(P.globals[g]?).map (·.type)=some t) (o:P.underlying t=some (.array n e)) (l:P.underlying e=some (.int k)) (b:P.cellsOf e=1) (c:P.cellsOf t=n)
  (h:Lib.VarReads P W name (Lib.tabData k zs)):Lib.TabIs P W name k zs:=by
 obtain⟨q,t',cs,fuel,p,d,f,a,j⟩:=h;obtain rfl:=Option.some.inj (m.symm.trans d);obtain rfl:=Option.some.inj (i.symm.trans f);unfold Lib.TabIs;rw[a,<-Lib.cells_of_tab o l b c j]
theorem XR{name:String}{k:IntKind}{zs:List Int}{g:Nat}(f:P.globalNamed name=some g)(h:Lib.TabIs P W name k zs)(d:0<zs.length):At (EV W) (ad g 0) (zs.map λz=>.int k z):=by
 refine tB (by rw[Yj];exact d) λj v a=>?_
 rw[Yr]at a;cases b:zs[j]? with
 | none=>rw[b]at a;cases a
 | some z =>
  rw[b]at a;have c:=(Y1.1 b).1;have e:=h.cell f j c;rw[CY,Yk,e,Yf,b,<-a];rfl
variable {B w:Wo} {N:La}
theorem Xnh{o:Obj}(h:W.heap[b]?=some o)(a:Aa B w (EV W) N):w.heap[b]?=some o:=by
 obtain⟨_,_,c⟩:=a;exact c.GN b o h
theorem OD{name:String}{k:IntKind}{zs:List Int}(h:Lib.TabIs P W name k zs)(c:Aa B w (EV W) N):Lib.TabIs P w name k zs:=by
 unfold Lib.TabIs World.var? at h ⊢;cases b:P.globalNamed name with
 | none=>rw[b]at h;cases h
 | some g =>
  rw[b]at h;simp only[gi]at h ⊢
  cases a:W.heap[g]? with
  | none=>rw[a]at h;cases h
  | some o =>
   rw[Xnh a c];rw[a]at h;exact h
theorem UF{a:Addr}(h:W.cell? a=some v)(c:Aa B w (EV W) N):w.cell? a=some v:=by
 unfold World.cell? at h ⊢;cases b:W.heap[a.block]? with
 | none=>rw[b]at h;cases h
 | some o=>rw[Xnh b c];rw[b]at h;exact h
end
end Gk
namespace Go.Proofs.W9
open Gk Pc Xm Tk Go.ChangeMaps Go.ChangeShapes Go.RowKit
open Tryz
open Go.Proofs.YtnbngknffkcefaaGreatDoor
theorem Xye:Rows.laid_matricula_pct_digits (H:=Unit)=Lib.tabData .u8 (CU.map λc=>(c.toNat:Int)):=by kernel_rfl
theorem dY:Rows.laid_internal_strconv_uint64pow10 (H:=Unit)=Lib.tabData .u64 Lib.pow10Tab:=by kernel_rfl
def xx(zs:List Lu):DataW H:=.agg (zs.map λz=>.lit (.string z))
theorem ee:Rows.laid_matricula_ticket_prefixes (H:=Unit)=xx KE:=by kernel_rfl
theorem Xhh{Aq:TypeId×Va->H}{a:Nat}{y:Nat->Bool}{t e:TypeId}{zs:List Lu}{p:List MemPlace}
  (u:P.underlying t=some (.array n e)) (r:P.underlying e=some .string) (f:P.cellsOf e=1) (g:P.cellsOf t=n)
  (h:DataW.trod Aq P w a y held fuel t cs=some (xx zs,p)):cs=zs.map S:=by
 cases fuel with
 | zero=>simp[DataW.trod]at h
 | succ fuel =>
  simp only[DataW.trod,u,f,g,Dm]at h
  split at h
  ·rename_i A
   obtain⟨xs,k,hx⟩:=K5.1 h;have c:xs.map (·.1)=zs.map λz=>(DataW.lit (.string z):DataW H):=by
    have:=Yc Prod.fst hx
    simpa[xx]using this
   have v:xs.length=n:=by simpa using Lib.mapM_length k
   have x:zs.length=n:=by
    have:=Yc List.length c
    simp at this
    omega
   apply PS
   intro i
   by_cases hi:i<n
   ·obtain⟨b,o,s⟩:=Lib.mapM_at k i i (by simp[hi]);obtain⟨z,q,rfl,_⟩:=DataW.trod_string r s;have m:cs[i]?=some (.string z):=by
     have:=Yc (·[0]?) q
     simpa[PO,Hk]using this
    have d:(xs.map (·.1))[i]?=some (DataW.lit (.string z.data.toList):DataW H):=by simp[o]
    rw[c]at d;simp only[Yr,K5,DataW.lit.injEq,Lit.string.injEq]at d
    obtain⟨B,j,l⟩:=d;rw[m,Yr,j,l];rfl
   ·rw[Zy om,Zy (by simp;omega)]
  ·cases h
theorem eb{W : World}(h : Lib.VarReads prog W "matricula/ticket.prefixes" Rows.laid_matricula_ticket_prefixes): Bf (EV W) := by
 rw[ee]at h;obtain⟨i,t',cs,fuel,p,a,d,b,f⟩:=h;obtain rfl := Option.some.inj ((show prog.globalNamed "matricula/ticket.prefixes" = some 3 by kernel_rfl).symm.trans a);obtain rfl:=Option.some.inj ((show(prog.globals[3]?).map (·.type)=some 516 by kernel_rfl).symm.trans d);have c:=Xhh mV A8 kr kr f;refine tB de λj v g=>?_
 have e:=World.var?_cell a b j;rw[CY,Yk];rw[<-fX,c,g]at e;exact e
theorem oj{W:Wo}{o:Nat->Bool}{y:DataW Unit×List MemPlace}{a b:Lu}(h:DataW.trod (λ_=>()) prog W 0 o held fuel 124 cs=some y)(f:y.1=.agg [.lit (.string a),.lit (.string b)]):cs=[S a,S b]:=by
 obtain⟨xs,n,_,hx,c,d,m⟩:=DataW.trod_struct Zm h;rw[show prog.cellsOf 124=2 from by kernel_rfl]at c;have k:DataW.trod (λ_=>()) prog W 0 o held n 9 ((cs.drop 0).take (prog.cellsOf 9))=xs[0]?:=m 0 _ O;have l:DataW.trod (λ_=>()) prog W 0 o held n 9 ((cs.drop 1).take (prog.cellsOf 9))=xs[1]?:=m 1 _ O;rw[show prog.cellsOf 9=1 from by kernel_rfl]at k l;have e:xs.length=2:=d;clear m d h;obtain⟨u,v,rfl⟩:∃u v,cs=[u,v]:=by
  match cs,c with
  | [u,v],_=>exact⟨u,v,O⟩
 obtain⟨q,r,rfl⟩:∃u v,xs=[u,v]:=by
  match xs,e with
  | [u,v],_=>exact⟨u,v,O⟩
 simp only[Ks,FY,Iw,Gl]at k l
 obtain⟨p,e0,i,_⟩:=DataW.trod_string A8 (k.trans O);obtain⟨s1,g,j,_⟩:=DataW.trod_string A8 (l.trans O);subst hx;simp only[Yu,ED,DataW.agg.injEq,List.cons.injEq,and_true]at f
 rw[i,j]at f;simp only[DataW.lit.injEq,Lit.string.injEq]at f
 obtain⟨rfl,rfl⟩:=f;injection e0 with e0;injection g with g
 rw[e0,g]
theorem Xss{W:Wo}{r:Nat->Bool}{p:List MemPlace}(h:DataW.trod (λ_=>()) prog W 0 r held fuel 518 cs=some (Rows.laid_matricula_xml_marks,p)):cs=rq:=by
 obtain⟨xs,n,_,hx,b,d,a⟩:=DataW.trod_array underlying518 h;rw[show prog.cellsOf 518=10 from by kernel_rfl]at b;rw[show prog.cellsOf 124=2 from by kernel_rfl]at a;have c:=Yc Prod.fst hx;unfold Rows.laid_matricula_xml_marks at c
 match cs,b,xs,d with
 | [v0,s,t,u,v,w,x,y,z,A],_,[B,C,D,E,F],_ =>
  simp only[Yu,ED,DataW.agg.injEq,List.cons.injEq,and_true]at c
  obtain⟨k,l,m,o,q⟩:=c;have e:=oj ((a 0 de).trans O) k.symm;have f:=oj ((a 1 de).trans O) l.symm;have g:=oj ((a 2 de).trans O) m.symm;have i:=oj ((a 3 de).trans O) o.symm;have j:=oj ((a 4 de).trans O) q.symm;simp at e f g i j
  obtain⟨rfl,rfl⟩:=e;obtain⟨rfl,rfl⟩:=f;obtain⟨rfl,rfl⟩:=g;obtain⟨rfl,rfl⟩:=i;obtain⟨rfl,rfl⟩:=j;rfl
theorem VY{W : World}(h : Lib.VarReads prog W "matricula/xml.marks" Rows.laid_matricula_xml_marks): At (EV W) (ad 4 0) rq := by
 obtain⟨i,t',cs,fuel,p,a,d,b,f⟩:=h;obtain rfl := Option.some.inj ((show prog.globalNamed "matricula/xml.marks" = some 4 by kernel_rfl).symm.trans a);obtain rfl:=Option.some.inj ((show(prog.globals[4]?).map (·.type)=some 518 by kernel_rfl).symm.trans d);have c:=Xss f;refine tB de λj v g=>?_
 have e:=World.var?_cell a b j;rw[CY,Yk];rw[<-fX,c,g]at e;exact e
def HLV:List Int:=[0,274646895,549293790,820201905,1098587580,1361435347,1640403810,1905808397,2197175160,2460548119,2722870694,2987750089,3280807620,3553878443,3811616794,4084100981]
theorem Xyp:Rows.laid_matricula_crc_halves (H:=Unit)=Lib.tabData .u32 HLV:=by kernel_rfl
theorem Xon:uW=HLV.map λz=>Value.int .u32 z:=by kernel_rfl
theorem qn{W : World}(d : Lib.VarReads prog W "matricula/pct.digits" Rows.laid_matricula_pct_digits)(e : Lib.VarReads prog W "internal/strconv.uint64pow10" Rows.laid_internal_strconv_uint64pow10)(i : Lib.VarReads prog W "matricula/ticket.prefixes" Rows.laid_matricula_ticket_prefixes)(j : Lib.VarReads prog W "matricula/xml.marks" Rows.laid_matricula_xml_marks)(f : Lib.VarReads prog W "matricula/crc.halves" Rows.laid_matricula_crc_halves)(c : W.ShapedOpen prog): (Kz (EV W) ∧ A4 (EV W)) := by
 rw[Xye]at d;rw[dY]at e;rw[Xyp]at f;have n:=u4 (g:=0) kr kr MA BP kr kr d;have h:=u4 (g:=5) kr kr underlying524 Ti kr kr e;have o:=u4 (g:=8) kr kr underlying540 MP kr kr f;have a:∀(B w:Wo) (N:La),Aa B w (EV W) N->∃m,w.cell? ⟨1,0,none⟩=some (.int .i64 m):=λB w N b=>by
  obtain⟨m,l⟩:=Go.Proofs.cell_of_shapedOpen_int (g:=1) (t:=3) (zero:=#[Ab 0]) (k:=.i64) c dk kr kr kr kr B1;exact⟨m,UF l b⟩
 refine⟨⟨⟨XR (g:=0) kr n de,λB w N b=>OD h b,a⟩,eb i,⟨VY j,λB w N b=>OD h b,a⟩⟩,?_⟩;unfold A4;rw[Xon];exact XR (g:=8) kr o de
theorem r3{cells:α->Lv}{fit:α->Prop}{t e:TypeId}{Aq:TypeId×Va->H}{W:Wo}{x:DataW H×List MemPlace}(q:prog.underlying t=some (.slice e))(d:prog.cellsOf e=c)(f:0<c)
  (one:∀n cs y,DataW.trod Aq prog W 0 spare held n e cs=some y->∃z:α,cs=cells z/\fit z) (h:DataW.trod Aq prog W 0 spare held fuel t cs=some x) :∃(a:Oa) (cap:Nat) (l:List α),cs=[.slice a l.length cap]/\l.length<=cap/\cap<=maxLen/\RS (EV W) a c l.length (X2 cells l)/\∀z∈l,fit z:=by
 obtain⟨a,cap,L,n,rfl,i,m,v,j,o⟩:=r4 q d f h;have key:∀L:List Lv,(∀l∈L,∃y,DataW.trod Aq prog W 0 spare held n e l=some y)->∃l:List α,L=l.map cells/\∀z∈l,fit z:=by
  intro L
  induction L with
  | nil=>intro _;exact⟨[],O,λz h=>by simp at h⟩
  | cons c L s =>
   intro h;obtain⟨y,r⟩:=h c sz;obtain⟨z,rfl,p⟩:=one n c y r;obtain⟨l,rfl,k⟩:=s (λc d=>h c (by simp[d]));exact⟨z::l,O,λu g=>by
    rcases Yp.1 g with e|g
    ·subst e;exact p
    ·exact k u g⟩
 obtain⟨l,rfl,b⟩:=key L o;rw[Yj]at i j;exact⟨a,cap,l,by rw[Yj],i,m,j,b⟩
open Ul Tr Go.WideShapes
theorem open_pair{Aq:TypeId×Va->H}{W:Wo}{x:DataW H×List MemPlace}(h:DataW.trod Aq prog W 0 spare held fuel 124 cs=some x):∃z:Pr,cs=X5 z/\o8 z:=by
 obtain⟨xs,n,_,_,c,d,g⟩:=DataW.trod_struct Zm h;rw[show prog.cellsOf 124=2 from by kernel_rfl]at c;obtain⟨j,a⟩:∃y,DataW.trod Aq prog W 0 spare held n 9 ((cs.drop 0).take (prog.cellsOf 9))=some y:=⟨_,(g 0 _ O).trans (Y2 (nB d))⟩
 rw[show prog.cellsOf 9=1 from by kernel_rfl]at a;obtain⟨k,b⟩:∃y,DataW.trod Aq prog W 0 spare held n 9 ((cs.drop 1).take (prog.cellsOf 9))=some y:=⟨_,(g 1 _ O).trans (Y2 (nB d))⟩
 rw[show prog.cellsOf 9=1 from by kernel_rfl]at b;obtain⟨v0,e,rfl⟩:∃v0 e,cs=[v0,e]:=by
  match cs,c with
  | [v0,e],_=>exact⟨v0,e,O⟩
 simp only[Ks,FY,Iw,Gl]at a b
 obtain⟨z0,e0,_,w0⟩:=DataW.trod_string A8 a;obtain⟨i,f,_,w1⟩:=DataW.trod_string A8 b;simp only[List.cons.injEq,and_true]at e0 f
 subst e0 f;exact⟨(z0.data.toList,i.data.toList),O,⟨w0,w1⟩⟩
theorem Wn{Aq:TypeId×Va->H}{W:Wo}{x:DataW H×List MemPlace}(h:DataW.trod Aq prog W 0 spare held fuel 135 cs=some x):∃u:Us,Jc (EV W) u cs/\u.fits:=by
 obtain⟨xs,n,_,_,g,b,k⟩:=DataW.trod_struct fF h;rw[show prog.cellsOf 135=3 from by kernel_rfl]at g;obtain⟨v,d⟩:∃y,DataW.trod Aq prog W 0 spare held n 9 ((cs.drop 0).take (prog.cellsOf 9))=some y:=⟨_,(k 0 _ O).trans (Y2 (nB b))⟩
 rw[show prog.cellsOf 9=1 from by kernel_rfl]at d;obtain⟨w,e⟩:∃y,DataW.trod Aq prog W 0 spare held n 9 ((cs.drop 1).take (prog.cellsOf 9))=some y:=⟨_,(k 1 _ O).trans (Y2 (nB b))⟩
 rw[show prog.cellsOf 9=1 from by kernel_rfl]at e;obtain⟨z,f⟩:∃y,DataW.trod Aq prog W 0 spare held n 49 ((cs.drop 2).take (prog.cellsOf 49))=some y:=⟨_,(k 2 _ O).trans (Y2 (nB b))⟩
 rw[show prog.cellsOf 49=1 from by kernel_rfl]at f;obtain⟨v0,i,j,rfl⟩:∃v0 i j,cs=[v0,i,j]:=by
  match cs,g with
  | [v0,i,j],_=>exact⟨v0,i,j,O⟩
 simp only[Ks,FY,Iw,Gl]at d e f
 obtain⟨z0,e0,_,w0⟩:=DataW.trod_string A8 d;obtain⟨t,m,_,w1⟩:=DataW.trod_string A8 e;obtain⟨a,c,l,o,p,q,r,s⟩:=r3 (cells:=X5) (c:=2) (fit:=o8) Iq kr de (λn cs y h=>open_pair h) f;simp only[List.cons.injEq,and_true]at e0 m o
 subst e0 m o;exact⟨⟨z0.data.toList,t.data.toList,l⟩,⟨a,c,O,p,r⟩,⟨w0,w1,Yq p q,s⟩⟩
theorem Q_{Aq:TypeId×Va->H}{W:Wo}{x:DataW H×List MemPlace}(h:DataW.trod Aq prog W 0 spare held fuel 23 cs=some x):∃(a:Oa) (cap:Nat) (l:List Us),cs=[.slice a l.length cap]/\l.length<=cap/\cap<=maxLen/\BC (EV W) a l/\∀u∈l,u.fits:=by
 obtain⟨a,cap,L,n,rfl,j,k,m,o,q⟩:=r4 (c:=3) underlying23 kr de h;have key:∀L:List Lv,(∀l∈L,∃y,DataW.trod Aq prog W 0 spare held n 135 l=some y)->∃l:List Us,L.length=l.length/\∀(i:Nat) (u:Us),l[i]?=some u->u.fits/\∃c,L[i]?=some c/\Jc (EV W) u c:=by
  intro L
  induction L with
  | nil=>intro _;exact⟨[],O,λi s h=>by simp at h⟩
  | cons c L B =>
   intro h;obtain⟨y,A⟩:=h c sz;obtain⟨s,z,v⟩:=Wn A;obtain⟨l,d,e⟩:=B (λc f=>h c (by simp[f]));refine⟨s::l,by simp[d],λi u b=>?_⟩;cases i with
   | zero=>simp at b;subst b;exact⟨v,c,O,z⟩
   | succ i=>simpa using e i u (su b)
 obtain⟨l,d,e⟩:=key L q;refine⟨a,cap,l,by rw[d],by rw[<-d];exact j,k,λi u b=>?_,λu b=>?_⟩
 ·obtain⟨_,c,f,C,D,rfl,r,t⟩:=e i u b;obtain⟨p,rfl,w⟩:=o.2 (oh ((Y1.1 f).1));have g:=mh (w.add (i*3)) 3;rw[ZY L m i _ f]at g;exact⟨p,C,D,O,g,r,t⟩
 ·obtain⟨i,hi⟩:=EA.1 b;exact(e i u hi).1
theorem xm{Aq:TypeId×Va->H}{W:Wo}{x:DataW H×List MemPlace}(h:DataW.trod Aq prog W 0 spare held fuel 24 cs=some x):∃l:List Int,l.length=7/\cs=l.map Ab:=by
 obtain⟨xs,n,_,_,b,j,f⟩:=DataW.trod_array KG h;rw[show prog.cellsOf 24=7 from by kernel_rfl]at b;rw[show prog.cellsOf 3=1 from by kernel_rfl]at f;have a:∀v∈cs,∃z:Int,v=Ab z:=by
  intro v d;obtain⟨i,hi⟩:=EA.1 d;have c:=(Y1.1 hi).1;obtain⟨y,k⟩:∃y,xs[i]?=some y:=⟨_,Y2 om⟩
  have g:=(f i om).trans k;obtain⟨z,e,_⟩:=DataW.trod_int B1 g;rw[Dm,Ym c,Iw,Gl,(Y1.1 hi).2]at e;exact⟨z,(List.cons.inj e).1⟩
 have key:∀cs:Lv,(∀v∈cs,∃z:Int,v=Ab z)->∃l:List Int,cs=l.map Ab:=by
  intro cs
  induction cs with
  | nil=>intro _;exact⟨[],O⟩
  | cons v r m =>
   intro h;obtain⟨z,rfl⟩:=h v sz;obtain⟨l,rfl⟩:=m (λv d=>h v (by simp[d]));exact⟨z::l,O⟩
 obtain⟨l,rfl⟩:=key cs a;exact⟨l,su b,O⟩
theorem k6{L:List Int}(h:L.length=21):C0 (λi=>L.getD i 0)=L:=by
 match L,h with
 | [a0,n,o,p,q,r,s,t,u,v,a,b,c,d,e,f,g,j,k,l,m],_=>rfl
theorem Wl{Aq:TypeId×Va->H}{W:Wo}{x:DataW H×List MemPlace}(h:DataW.trod Aq prog W 0 spare held fuel 26 cs=some x):∃p:Nat->Int,cs=(C0 p).map Ab:=by
 obtain⟨xs,n,_,_,t,o,F⟩:=DataW.trod_struct KH h;rw[show prog.cellsOf 26=21 from by kernel_rfl]at t;obtain⟨R,q⟩:∃y,DataW.trod Aq prog W 0 spare held n 24 ((cs.drop 0).take (prog.cellsOf 24))=some y:=⟨_,(F 0 _ O).trans (Y2 (nB o))⟩
 rw[show prog.cellsOf 24=7 from by kernel_rfl]at q;obtain⟨S,r⟩:∃y,DataW.trod Aq prog W 0 spare held n 24 ((cs.drop 7).take (prog.cellsOf 24))=some y:=⟨_,(F 1 _ O).trans (Y2 (nB o))⟩
 rw[show prog.cellsOf 24=7 from by kernel_rfl]at r;obtain⟨T,s⟩:∃y,DataW.trod Aq prog W 0 spare held n 24 ((cs.drop 14).take (prog.cellsOf 24))=some y:=⟨_,(F 2 _ O).trans (Y2 (nB o))⟩
 rw[show prog.cellsOf 24=7 from by kernel_rfl]at s;obtain⟨v0,u,v,w,z,A,B,C,D,E,a,b,c,d,e,f,g,j,k,l,m,rfl⟩:∃v0 u v w z A B C D E a b c d e f g j k l m,cs=[v0,u,v,w,z,A,B,C,D,E,a,b,c,d,e,f,g,j,k,l,m]:=by
  match cs,t with
  | [v0,u,v,w,z,A,B,C,D,E,a,b,c,d,e,f,g,j,k,l,m],_=>exact⟨v0,u,v,w,z,A,B,C,D,E,a,b,c,d,e,f,g,j,k,l,m,O⟩
 simp only[Ks,FY,Iw,Gl]at q r s
 obtain⟨J,M,e0⟩:=xm q;obtain⟨K,P,G⟩:=xm r;obtain⟨L,Q,I⟩:=xm s;refine⟨λi=>(J++(K++L)).getD i 0,?_⟩;rw[k6 (by simp only[Y0];omega),Yn,Yn,<-e0,<-G,<-I];rfl
theorem qH{Aq:TypeId×Va->H}{W:Wo}{x:DataW H×List MemPlace}(h:DataW.trod Aq prog W 0 spare held fuel 29 cs=some x):∃(c:Cf) (a:Oa) (cap:Nat) (Q:Oa) (H_:Nat),cs=Ie c a cap Q H_/\Ky (EV W) c a cap Q H_:=by
 obtain⟨xs,n,_,_,P,b,C⟩:=DataW.trod_struct Gu h;rw[show prog.cellsOf 29=28 from by kernel_rfl]at P;obtain⟨y0,D⟩:∃y,DataW.trod Aq prog W 0 spare held n 22 ((cs.drop 0).take (prog.cellsOf 22))=some y:=⟨_,(C 0 _ O).trans (Y2 (nB b))⟩
 rw[show prog.cellsOf 22=1 from by kernel_rfl]at D;obtain⟨y1,E⟩:∃y,DataW.trod Aq prog W 0 spare held n 23 ((cs.drop 1).take (prog.cellsOf 23))=some y:=⟨_,(C 1 _ O).trans (Y2 (nB b))⟩
 rw[show prog.cellsOf 23=1 from by kernel_rfl]at E;obtain⟨y2,F⟩:∃y,DataW.trod Aq prog W 0 spare held n 26 ((cs.drop 2).take (prog.cellsOf 26))=some y:=⟨_,(C 2 _ O).trans (Y2 (nB b))⟩
 rw[show prog.cellsOf 26=21 from by kernel_rfl]at F;obtain⟨y3,G⟩:∃y,DataW.trod Aq prog W 0 spare held n 3 ((cs.drop 23).take (prog.cellsOf 3))=some y:=⟨_,(C 3 _ O).trans (Y2 (nB b))⟩
 rw[show prog.cellsOf 3=1 from by kernel_rfl]at G;obtain⟨y4,I⟩:∃y,DataW.trod Aq prog W 0 spare held n 27 ((cs.drop 24).take (prog.cellsOf 27))=some y:=⟨_,(C 4 _ O).trans (Y2 (nB b))⟩
 rw[show prog.cellsOf 27=1 from by kernel_rfl]at I;obtain⟨y5,J⟩:∃y,DataW.trod Aq prog W 0 spare held n 27 ((cs.drop 25).take (prog.cellsOf 27))=some y:=⟨_,(C 5 _ O).trans (Y2 (nB b))⟩
 rw[show prog.cellsOf 27=1 from by kernel_rfl]at J;obtain⟨y6,K⟩:∃y,DataW.trod Aq prog W 0 spare held n 27 ((cs.drop 26).take (prog.cellsOf 27))=some y:=⟨_,(C 6 _ O).trans (Y2 (nB b))⟩
 rw[show prog.cellsOf 27=1 from by kernel_rfl]at K;obtain⟨y7,M⟩:∃y,DataW.trod Aq prog W 0 spare held n 3 ((cs.drop 27).take (prog.cellsOf 3))=some y:=⟨_,(C 7 _ O).trans (Y2 (nB b))⟩
 rw[show prog.cellsOf 3=1 from by kernel_rfl]at M;obtain⟨v0,R,S,T,U,V,X,Y,Z,v9,d,e,f,g,j,k,m,o,p,q,r,t,u,v,w,z,A,B,rfl⟩:∃v0 R S T U V X Y Z v9 d e f g j k m o p q r t u v w z A B,cs=[v0,R,S,T,U,V,X,Y,Z,v9,d,e,f,g,j,k,m,o,p,q,r,t,u,v,w,z,A,B]:=by
  match cs,P with
  | [v0,R,S,T,U,V,X,Y,Z,v9,d,e,f,g,j,k,m,o,p,q,r,t,u,v,w,z,A,B],_=>exact⟨v0,R,S,T,U,V,X,Y,Z,v9,d,e,f,g,j,k,m,o,p,q,r,t,u,v,w,z,A,B,O⟩
 simp only[Ks,FY,Iw,Gl]at D E F G I J K M
 obtain⟨a,cap,L,l,e0,h1,h2,h3,h4,h5,h6⟩:=Q9 D;obtain⟨Q,H_,us,e1,h7,h8,h9,ab⟩:=Q_ E;obtain⟨ps,e2⟩:=Wl F;obtain⟨z3,e3,_⟩:=DataW.trod_int B1 G;obtain⟨z4,e4,_⟩:=rI S8 I;obtain⟨z5,e5,_⟩:=rI S8 J;obtain⟨z6,e6,_⟩:=rI S8 K;obtain⟨z7,e7,_⟩:=DataW.trod_int B1 M;simp only[List.cons.injEq,and_true]at e0 e1 e3 e4 e5 e6 e7
 subst e0 e1 e3 e4 e5 e6 e7;refine⟨⟨l,us,ps,z3,z4,z5,z6,z7⟩,a,cap,Q,H_,?_,lr h4 h5 (λi s hs=>(h6 i s hs).2),h9,⟨by rw[<-h3];exact h1,h2⟩,Yq h7 h8,λs hs=>?_,ab⟩
 ·show _=Value.slice a l.length cap::Value.slice Q us.length H_::((C0 ps).map Ab++_)
  rw[<-e2,<-h3];rfl
 ·obtain⟨i,hi⟩:=EA.1 hs;exact(h6 i s hi).1
abbrev tW(d:Nat):Lv:=[Bo (d:Nat)]
theorem ek(l:List Nat):X2 tW l=l.map λd=>Bo (d:Nat):=by
 unfold X2
 induction l with
 | nil=>rfl
 | cons x l a=>rw[Yu,Fx,a];rfl
theorem Ra{Aq:TypeId×Va->H}{W:Wo}{x:DataW H×List MemPlace}(h:DataW.trod Aq prog W 0 spare held fuel 73 cs=some x):∃z:Nat,cs=tW z/\z<18446744073709551616:=by
 obtain⟨z,e,_,w⟩:=DataW.trod_int Ti h;have a:=w;simp only[Lit.wf,Y8,dq1]at a
 have b:(0:Int)<=z:=a.1;have c:z<=18446744073709551615:=a.2;refine⟨z.toNat,?_,om⟩;rw[e,tW,jC b]
abbrev xH(b:Bool):Lv:=[.bool b]
theorem k_(l:List Bool):X2 xH l=l.map Value.bool:=by
 unfold X2
 induction l with
 | nil=>rfl
 | cons x l a=>rw[Yu,Fx,a];rfl
theorem Q8{Aq:TypeId×Va->H}{W:Wo}{x:DataW H×List MemPlace}(h:DataW.trod Aq prog W 0 spare held fuel 4 cs=some x):∃z:Bool,cs=xH z/\True:=by
 obtain⟨z,e,_⟩:=DataW.trod_bool KJ h;exact⟨z,e,trivial⟩
theorem dP{Aq:TypeId×Va->H}{W:Wo}{x:DataW H×List MemPlace}(h:DataW.trod Aq prog W 0 spare held fuel 36 cs=some x):∃r:Or,cs=oV r/\Gp (EV W) r.o r.da r.la/\i_ r.o:=by
 obtain⟨xs,n,_,_,m,a,p⟩:=DataW.trod_struct KI h;rw[show prog.cellsOf 36=5 from by kernel_rfl]at m;obtain⟨S,b⟩:∃y,DataW.trod Aq prog W 0 spare held n 3 ((cs.drop 0).take (prog.cellsOf 3))=some y:=⟨_,(p 0 _ O).trans (Y2 (nB a))⟩
 rw[show prog.cellsOf 3=1 from by kernel_rfl]at b;obtain⟨T,d⟩:∃y,DataW.trod Aq prog W 0 spare held n 9 ((cs.drop 1).take (prog.cellsOf 9))=some y:=⟨_,(p 1 _ O).trans (Y2 (nB a))⟩
 rw[show prog.cellsOf 9=1 from by kernel_rfl]at d;obtain⟨U,e⟩:∃y,DataW.trod Aq prog W 0 spare held n 3 ((cs.drop 2).take (prog.cellsOf 3))=some y:=⟨_,(p 2 _ O).trans (Y2 (nB a))⟩
 rw[show prog.cellsOf 3=1 from by kernel_rfl]at e;obtain⟨V,f⟩:∃y,DataW.trod Aq prog W 0 spare held n 33 ((cs.drop 3).take (prog.cellsOf 33))=some y:=⟨_,(p 3 _ O).trans (Y2 (nB a))⟩
 rw[show prog.cellsOf 33=1 from by kernel_rfl]at f;obtain⟨X,g⟩:∃y,DataW.trod Aq prog W 0 spare held n 34 ((cs.drop 4).take (prog.cellsOf 34))=some y:=⟨_,(p 4 _ O).trans (Y2 (nB a))⟩
 rw[show prog.cellsOf 34=1 from by kernel_rfl]at g;obtain⟨v0,q,s,t,u,rfl⟩:∃v0 q s t u,cs=[v0,q,s,t,u]:=by
  match cs,m with
  | [v0,q,s,t,u],_=>exact⟨v0,q,s,t,u,O⟩
 simp only[Ks,FY,Iw,Gl]at b d e f g
 obtain⟨z0,e0,_,_⟩:=DataW.trod_int B1 b;obtain⟨R,B,_,w1⟩:=DataW.trod_string A8 d;obtain⟨G,C,_,Q⟩:=DataW.trod_int B1 e;obtain⟨I,J,dl,D,v,i,j,w⟩:=r3 (cells:=tW) (c:=1) (fit:=λz=>z<18446744073709551616) S_ kr de (λn cs y h=>Ra h) f;obtain⟨L,M,P,E,A,k,l,_⟩:=r3 (cells:=xH) (c:=1) (fit:=λ_=>True) Pb kr de (λn cs y h=>Q8 h) g;simp only[List.cons.injEq,and_true]at e0 B C D E
 subst e0 B C D E;rw[ek]at j;rw[k_]at l;have F:=Q;simp only[Lit.wf,Y8,dq1]at F
 have K:G<=9223372036854775807:=F.2;unfold maxLen at i k w1;exact⟨⟨⟨z0,R.data.toList,G,dl,P⟩,I,J,L,M⟩,O,⟨j,l⟩,⟨w1,K,Yq v i,Yq A k,w⟩⟩
theorem qI{Aq:TypeId×Va->H}{W:Wo}{x:DataW H×List MemPlace}(h:DataW.trod Aq prog W 0 spare held fuel 30 cs=some x):∃(a:Oa) (cap:Nat) (l:List Fm),cs=[.slice a l.length cap]/\l.length<=cap/\cap<=maxLen/\CX (EV W) a l/\∀e∈l,i_ e:=by
 obtain⟨a,cap,L,rfl,f,g,i,d⟩:=r3 (cells:=oV) (c:=5) (fit:=λr=>Gp (EV W) r.o r.da r.la/\i_ r.o) ZQ kr de (λn cs y h=>dP h) h;refine⟨a,cap,L.map Or.o,by rw[Yj],by rw[Yj];exact f,g,⟨L,O,i,λr b=>(d r b).1⟩,λe j=>?_⟩;obtain⟨r,b,rfl⟩:=Dt.1 j;exact(d r b).2
theorem Xq7{Aq:TypeId×Va->H}{W:Wo}{t e:TypeId}{len:Nat}{x:DataW H×List MemPlace}(g:P.underlying t=some (.slice e))(h:DataW.trod Aq P W 0 spare held fuel t [.slice a len cap]=some x)(i:(x.1.weights P t).all (·<=reachBytes)=true):len*P.bytesOf e<=reachBytes:=by
 rcases DataW.trod_slice g h with⟨b,_⟩|⟨a,j,d,c,rest,n,_,b,rfl,_,_,_,f,_⟩
 ·cases b;rw[PT];exact Y4 _
 ·cases b
  simp only[DataW.weights,g,DR,Y8,dq1,Yj]at i
  exact Yq (T4 _ om) i.1
open Go
theorem QH(h:P.funcs.any Func.goes=false)(f:FuncId):P.goes f=false:=by
 unfold Program.goes;rw[h,T7,Bool.or_false,yp];intro g _;rw[Array.any_eq_false]at h;cases e:P.funcs[g]? with
 | none=>simp
 | some fn =>
  obtain⟨a,rfl⟩:=Jo.1 e;simpa using h g a
theorem Uj:prog.funcs.any Func.goes=false:=by kernel_rfl
theorem uI(c:OpenClaim)(h:(match c.start with|.entering=>true|_=>false)=true):false=c.goesBy prog:=by
 unfold OpenClaim.goesBy Program.goesAt Program.goesFrom;cases a:c.start with
 | entering =>
  cases b:prog.funcNamed c.func with
  | none=>rfl
  | some f=>simp[Option.any,QH Uj f]
 | _=>rw[a]at h;cases h
end Go.Proofs.W9
