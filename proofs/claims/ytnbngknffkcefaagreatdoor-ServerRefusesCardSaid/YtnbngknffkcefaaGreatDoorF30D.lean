/- Part 4 of what the proof stands on. -/
import Derived.Test.YtnbngknffkcefaaGreatDoorF30C
set_option linter.unusedVariables false
set_option linter.unusedSimpArgs false
set_option maxHeartbeats 4000000
set_option maxRecDepth 100000
set_option synthInstance.maxHeartbeats 400000
set_option synthInstance.maxSize 10000
open Go Gk
variable {p:Addr}{listed:Array Bool}{af:Array Edge}{fs:Array Field}{ops Ed:Array Oper}{ts:Array TypeId}{held w1 want:Bool}{R:Ending->Wo->Prop}{L L' M:AB}{fd:Field}{fn:Func}{f:FuncId}{I J:Im}{DF DI hi DM:Int}{N Bh Hs:La}{G:List (Bool×Bool)}{pl:List (Nat×Nat)}{D Os T:List Int}{rest:List Oper}{Ar key nm Ay:Lu}{args cs ds news vs xs zs:Lv}{b bytes c cap db fuel i k kb lg m n n0 nn o off size u:Nat}{spare:Nat->Bool}{ps:Nat->Int}{a a0 ka:Oa}{op:Op}{d:Option Nat}{P:Program}{S1 S2 g1 g2:Prop}{pos:String}{H X α β σ:Type}{E dst src t' ty:TypeId}{us v v0:Va}{B w:Wo}{C:Wo->Prop}{A:X1}{K K':Bk}
namespace Go.Proofs.W9
open Gk Ul Pc Tryz Tk Tr
theorem Mf(q:Qr)(X:q.ticket.length<=1000000)(W:q.service.length<=1000000)(p:Wp)(Z:Wd)(K:A6 Z)(o:BK I p)(N:La)(a:Aa B w I (AN p Z::N)):Cz 255 [ptr p.wb 0,.agg (Oi q).toArray] w λv w'=>∃J cs,Le I J/\v=.tuple #[.agg (List.toArray cs),Ab (Ke p.ps Z q:Nat)]/\FN J (Kf p.lo p.us p.ps Z q) cs/\Aa B w' J (AN p (Xo p.ps Z q).2::N):=by
 refine gH 5 ?_;intro b3 b4 w a;refine gE 0 (eR q X p Z K o) ?_;intro w a;refine gG 8 ?_;intro b6 w a;refine gM 0 ?_ ?_<;>intro g aa
 ·refine gH 4 ?_;intro w a;refine gG 0 ?_;have H:(Xo p.ps Z q).1.2≠0:=su g
  have h:Ke p.ps Z q=(Xo p.ps Z q).1.2:=by rw[Ke,Y9 H]
  have z:Kf p.lo p.us p.ps Z q=ID:=Y9 (by rw[h];exact H);rw[h,z];exact⟨I,_,Le.refl _,O,pj I,a.s⟩
 refine gE 2 (vz _ W o.known) ?_;intro w a;refine gM 14 ?_ ?_<;>intro j ab
 ·refine gH 3 ?_;intro w a;refine gG 0 ?_;have h:Ke p.ps Z q=31:=by rw[Ke,Y3 (show ¬ (Xo p.ps Z q).1.2≠0 from by simpa using g),Y9 j]
  have z:Kf p.lo p.us p.ps Z q=ID:=Y9 (nB h);rw[h,z];exact⟨I,_,Le.refl _,O,pj I,a.s⟩
 refine gM 8 ?_ ?_<;>intro r ac
 ·refine gH 3 ?_;intro w a;refine gG 0 ?_;have h:Ke p.ps Z q=30:=by rw[Ke,Y3 (show ¬ (Xo p.ps Z q).1.2≠0 from by simpa using g),Y3 (nB j),Y9 r]
  have z:Kf p.lo p.us p.ps Z q=ID:=Y9 (nB h);rw[h,z];exact⟨I,_,Le.refl _,O,pj I,a.s⟩
 refine .skip (.ck [0,4,6] (σ:=Im×Nat×Oa×Nat) (λ(J,E,A,C) _m=>(9,ptr E 0)::_m) (λ(J,E,A,C) w=>Le I J/\(Xk p.lo (Xo p.ps Z q).1.1.service).1.rel.length<=C/\RS J A 1 (Xk p.lo (Xo p.ps Z q).1.1.service).1.rel.length ((Xk p.lo (Xo p.ps Z q).1.1.service).1.rel.map S)/\Aa B w J (Ac E [Ab (Xk p.lo (Xo p.ps Z q).1.1.service).1.id,AM (Xk p.lo (Xo p.ps Z q).1.1.service).1.ord,S (Xk p.lo (Xo p.ps Z q).1.1.service).1.urls,.bool (Xk p.lo (Xo p.ps Z q).1.1.service).1.BT,.bool (Xk p.lo (Xo p.ps Z q).1.1.service).1.B7,.bool (Xk p.lo (Xo p.ps Z q).1.1.service).1.back,S (Xk p.lo (Xo p.ps Z q).1.1.service).1.calls,.slice A (Xk p.lo (Xo p.ps Z q).1.1.service).1.rel.length C] 133::AN p (Xo p.ps Z q).2::Ac b6 (Xa (Xo p.ps Z q).1.1) 126::Ac b4 [S [],.slice none 0 0,.slice none 0 0,S []] 246::N)) ?_ ?_)
 ·replace a:=a.px [1];obtain⟨⟨u,x,c,f⟩,a⟩:=Aa.unbox a;replace a:Aa B _ _ (Ac p.wb (Ca p (Xo p.ps Z q).2) 85::Ba p.tb (Xo p.ps Z q).2.room u x (Xo p.ps Z q).2.l (Ac p.mb [.slice c (Xo p.ps Z q).2.D.length f] 161::Cp 73 (.slice c (Xo p.ps Z q).2.D.length f) ((Xo p.ps Z q).2.D.map λd=>Bo (d:Nat))::_)):=a;have i:=mw (ps:=p.ps) K q;have m:=i.len;have t:=i.wf;have af:=Me (ps:=p.ps) K q;refine gD [5,0] [] [0,1,2,3,4,5] ?_;intro w a;refine gH 6 (gB 6 11 [7,8,9,10,11,12,13,14] [6,7,8,9,10,12,13,14] ?_ ?_)
  ·refine gF 0 (X72 _ om p o) ?_;rintro _ w ⟨J,A,C,F,rfl,n,b,a⟩;refine gH 5 ?_;intro E w a;refine gH 1 ?_;intro w a;refine gG 2 ?_;replace a:=Aa.box (T:=Bm p _) (u,x,c,f) (a.px [5,5,5,5,5]);exact En (J,_,_,_) O ⟨F,n,b,(((((a.drop (k:=4) O).pick 3 O).pick 3 O).pick 2 O).pick 3 O)⟩
  ·refine gH 1 ?_;intro E w a;refine gF 0 (X72 _ om p o) ?_;rintro _ w ⟨J,A,C,F,rfl,n,b,a⟩;refine gH 5 ?_;intro w a;refine gG 2 ?_;replace a:=Aa.box (T:=Bm p _) (u,x,c,f) (a.px [5,5,5,5,5]);exact En (J,_,_,_) O ⟨F,n,b,(((((a.drop (k:=4) O).pick 3 O).pick 3 O).pick 2 O).pick 3 O)⟩
 rintro⟨J,E,A,C⟩ w ⟨F,n,b,a⟩;refine gG 0 ?_;replace a:=a.px [1];obtain⟨⟨u,x,c,f⟩,a⟩:=Aa.unbox a;replace a:Aa B _ _ (Ac p.wb (Ca p (Xo p.ps Z q).2) 85::Ba p.tb (Xo p.ps Z q).2.room u x (Xo p.ps Z q).2.l (Ac p.mb [.slice c (Xo p.ps Z q).2.D.length f] 161::Cp 73 (.slice c (Xo p.ps Z q).2.D.length f) ((Xo p.ps Z q).2.D.map λd=>Bo (d:Nat))::_)):=a;have i:=mw (ps:=p.ps) K q;have m:=i.len;have t:=i.wf;have L:=o.mono F;have R:=Uq o.gu (Xo p.ps Z q).1.1.user;have Y:(Xk p.lo (Xo p.ps Z q).1.1.service).1.rel.length<=1000000:=by
  rcases rX p.lo (Xo p.ps Z q).1.1.service with e|e
  ·rw[e];decide
  ·exact o.rel _ e
 refine gD [6,5,0] [] [0,1,2,3,4,5,6,7,8,9,11,12,13,10,14,15,16,17] ?_;intro w a;refine gF 13 (Xjc _ _ o.fit _ R A C _ Y (by exact L.tab) (by exact b)) ?_;rintro _ w ⟨Ja,ka,kc,rfl,M,U,P,a⟩;refine gF 0 (Xeo p _ u x m t (Xo p.ps Z q).1.1.name) ?_;rintro _ w ⟨Jp,pa,pc,rfl,G,V,Q,a⟩;refine gH 2 ?_;intro w a;refine gG 1 ?_;replace a:=Aa.box (T:=Bm p (Xo p.ps Z q).2) (u,x,c,f) (a.px [4,4,4,4,4]);have h:Ke p.ps Z q=0:=by rw[Ke,Y3 (show ¬ (Xo p.ps Z q).1.2≠0 from by simpa using g),Y3 (nB j),Y3 (nB r)]
 have z:Kf p.lo p.us p.ps Z q=⟨(Xo p.ps Z q).1.1.user,R4 p.us (Xo p.ps Z q).1.1.user (Xk p.lo (Xo p.ps Z q).1.1.service).1.rel,R1 (Xo p.ps Z q).2.l (Xo p.ps Z q).1.1.name,[]⟩:=Y3 (nB h);rw[h,z];refine⟨_,_,?_,O,⟨ka,kc,pa,pc,O,U,?_,V,?_⟩,(a.y 1 3)⟩
 ·exact(F.trans M).trans G
 ·exact P.mono G
 ·exact Q
theorem Xxv(s:Lu)(i:s.length<=1000000)(f:AX I)(N:La)(a:Aa B w I N):Calls prog 138 #[S s,S [38]] w (AY λv w'=>∃b,v=.slice (some (ad b 0)) (BW s).length (BW s).length/\Aa B w' I (Ac b ((BW s).map S) 9::N)):=by
 obtain⟨m,h⟩:=f.max B w N a;refine(strings_Split ⟨s.toArray⟩ ⟨[38].toArray⟩ m w (by show s.length<_;omega) h de).mono λe w' g=>?_
 obtain⟨rfl,rfl⟩:=g;have c:(BW s).length=Go.Lib.countB ⟨s.toArray⟩ ⟨[38].toArray⟩+1:=aZ _ s (Ya _);have d:(Go.Lib.splitB ⟨[38].toArray⟩ 0 (Go.Lib.countB ⟨s.toArray⟩ ⟨[38].toArray⟩) ⟨s.toArray⟩).map Value.string=(BW s).map S:=by
  rw[x6,Go.Lib.splitB_data];show List.map S (Go.Lib.splitK [38] 0 (Go.Lib.count s [38]) s)=_
  rw[LX _ s (Ya _)]
 refine⟨_,O,w.heap.size,by rw[c],?_⟩;rw[d];exact a.alloc _
theorem Xtd(s:Lu)(Q:s.length<=1000000)(N:La)(c:Aa B w I N):Cz 74 [S s,U8 38] w λv w'=>Aa B w' I (An 9 1 v (BW s).length ((BW s).map S)::N):=by
 refine gG 4 ?_;replace c:=c.Ai 9 1;refine .lk [0,1] (σ:=Va×List Lu×Nat×Nat) (λ(p,b,a,i) _m=>(5,p)::(6,Ab (a:Nat))::(7,Ab (i:Nat))::_m) (λ(p,b,a,i) w=>i<=s.length/\a<=i/\BW s=b++BW (s.drop a)/\(∀j,a<=j->j<i->at_ s (j:Int)≠38)/\Aa B w I (An 9 1 p b.length (b.map S)::N)) (λ(p,b,a,i)=>s.length-i) (.slice none 0 0,[],0,0) ⟨Y4 _,Y4 _,O,λ_ m n=>by(try dsimp only at m n);omega,c⟩ ?_;rintro⟨p,b,a,i⟩ w ⟨hi,L,f,h,c⟩;refine gN 4 ?_ ?_<;>intro A
 ·refine gM 5 ?_ ?_<;>intro d C
  ·have l:=Yc List.length f;rw[Y0]at l;have g:=iP (BW s);rw[mg]at g;have M:1<=(BW (s.drop a)).length:=K6.2 (Ue _);obtain⟨ka,P,rfl,u,_⟩:=c.vS 0;refine gH 4 (.val (.H7 (.of O) (.of O) (.of O) om om om A8) O ?_);simp only[Yd]
   refine gG 9 ?_;intro F D H r w c;refine A_ (_,b++[(s.drop a).take (i-a)],_,_) O ⟨od,od,?_,λj m n=>by(try dsimp only at m n);omega,?_⟩
   ·rw[f,Lb (i:=i-a) (by rw[Hk,show a+(i-a)=i by omega,D4 om];congr 1;exact CS.1 (by show(at_ s (i:Int)).toNat=38;simp only[beq_iff_eq]at d;omega)) (λq k e=>by
     rw[Hk,D4 om]at e;injection e with e
     exact h (a+q) om om e),Gj,show a+(i-a+1)=i+1 by omega,Yg]
    rfl
   ·rw[Yn,Y0];exact c
  refine gG 3 (A_ (_,b,a,i+1) O ⟨om,om,f,λj m n=>?_,c⟩);rcases Yt j i with z|z
  ·exact h j m z
  ·have e:j=i:=by(try dsimp only at n);omega
   subst e;simp only[beq_eq_false_iff_ne]at d
   exact λe=>d (by rw[e];rfl)
 have l:=Yc List.length f;rw[Y0]at l;have g:=iP (BW s);rw[mg]at g;obtain⟨ka,P,rfl,u,_⟩:=c.vS 0;refine gH 3 (.val (.Ee (.of O) (.of O) om om A8) O ?_);simp only[Yd]
 refine gG 3 ?_;intro G E J t w c;have o:BW s=b++[s.drop a]:=by
  rw[f,sq (s.drop a) λx hx K=>?_];obtain⟨q,k⟩:=EA.1 hx;rw[Hk]at k;have y:=(Y1.1 k).1;rw[D4 y]at k;injection k with k
  exact h (a+q) om om (k.trans K)
 refine ?_;rw[o,Yn,Y0];exact c
theorem Wu(x:Lu)(m:x.length<=1000000)(h:AX I)(N:La)(d:Aa B w I N):Cz 144 [S x] w λv w'=>∃g k e,v=.tuple #[.agg #[S g,S k],Ab (e:Nat)]/\(match KU x with|none=>e=11|some p=>g=p.1/\k=p.2/\e=0)/\Aa B w' I N:=by
 refine gH 3 ?_;intro o w d;refine gE 0 (rK x 61 m h) ?_;intro w d;refine gF 8 (Xhx _ (by have:=Zb [61] x;omega) _ h.gw) ?_;rintro _ w ⟨g,e,rfl,a,d⟩;refine gM 7 ?_ ?_<;>intro b i
 ·refine gH 4 ?_;intro w d;refine gG 0 (⟨[],[],e,O,?_,d.s⟩);unfold KU;cases f:dec true (AP [61] x)with
  | none=>rw[f]at a;exact a.2
  | some t=>rw[f]at a;rw[a.2]at b;cases b
 refine gF 1 (Xhx _ (by have:=Ih [61] x;rw[Y6];omega) _ h.gw) ?_;rintro _ w ⟨n,l,rfl,c,d⟩;refine gH 11 ?_;intro w d;refine gG 0 (⟨g,n,l,O,?_,d.s⟩);unfold KU;cases f:dec true (AP [61] x)with
 | none=>rw[f]at a;rw[a.2]at b;cases b
 | some t =>
  rw[f]at a;cases j:dec true ((Xn [61] x).drop 1)with
  | none=>rw[j]at c;exact c.2
  | some u=>rw[j]at c;exact⟨a.1,c.1,c.2⟩
def Mo(I:Im)(F:List Pr×Nat)(B:Wo)(N:La)(v:Va)(w:Wo):Prop:=∃J a b,v=.tuple #[.slice a F.1.length b,Ab (F.2:Nat)]/\Le I J/\F.1.length<=b/\RS J a 2 F.1.length (X2 X5 F.1)/\Aa B w J N
theorem oy{F:List Pr×Nat}{e:Nat}(h:F=([],e))(a:Le I J)(b:Aa B w J N):Mo I F B N (.tuple #[.slice none 0 0,Ab (e:Nat)]) w:=by
 subst h;exact⟨J,none,0,O,a,Ya _,⟨O,λh=>Yz h sz⟩,b⟩
theorem Xv8{F:List Pr×Nat}{f:Va}{a:List Pr}(h:F=(a,0))(i:Le I J)(b:Aa B w J (An E 2 f a.length (X2 X5 a)::N)):Mo I F B N (.tuple #[f,Ab 0]) w:=by
 subst h;obtain⟨ka,j,rfl,e,_⟩:=b.vS 0;obtain⟨g,c,d,b⟩:=b.fV 0;exact⟨g,ka,j,O,i.trans c,e,d,b⟩
theorem Xi4{s x:Lu}(h:(BW s)[i]?=some x)(e:s.length<=1000000):x.length<=1000000:=by
 have d:=mg s;have b:∀(l:List Lu) (i:Nat),l[i]?=some x->x.length+1<=CT l:=by
  intro l
  induction l with
  | nil=>intro i h;simp at h
  | cons a l c =>
   intro i h;rw[show CT (a::l)=(a.length+1)+CT l from by simp[CT]];cases i with
   | zero=>simp at h;subst h;omega
   | succ i=>have:=c i (su h);omega
 have:=b _ _ h
 omega
theorem Xuc{s x:Lu}(h:(BW s)[i]?=some x):(BW s).drop i=x::(BW s).drop (i+1):=by
 rw[Ym (Y1.1 h).1,(Y1.1 h).2]
theorem lG{x:Lu}(m:k<=x.length)(i:∀j,j<k->at_ x (j:Int)≠61)(l:k<x.length->at_ x (k:Int)=61):AP [61] x=x.take k/\Xn [61] x=x.drop k:=by
 have h:=wT (Ar:=[61]) (a:=x.take k) (b:=x.drop k) (λc d=>by
  obtain⟨j,e⟩:=EA.1 d;rw[PO]at e;split at e
  ·rename_i g
   rw[D4 om]at e;injection e with e
   have:=i j g
   rw[e]at this;simpa using this
  ·cases e) (λc d=>by
  rcases Yt k x.length with f|f
  ·rw[X7 x f]at d;simp at d
   rw[<-d,l f];rfl
  ·rw[Yb f]at d;cases d)
 rw[Fw]at h;exact h
theorem Xg9(s:Lu)(hl:s.length<=1000000)(N:La)(b:Aa B w I N):Cz 72 [S s] w λv w'=>Mo I (KY s) B N v w':=by
 refine gF 4 (Xtd s hl) ?_;clear b;rintro pv w b;obtain⟨ap,ai,rfl,ac,_⟩:=b.vS 0;obtain⟨J,E,F,U⟩:=b.fV 0;clear b;have b:=U;clear U;try dsimp only[List.eraseIdx]at b
 have G:=iP (BW s);rw[mg]at G;refine gG 2 ?_;replace b:=b.Ai 124 2;refine .lk [0,5] (σ:=List Pr×Va×Nat) (λ(a,q,i) _m=>(4,q)::(6,Ab (i:Nat))::_m) (λ(a,q,i) w=>i<=(BW s).length/\KY s=Ji ((BW s).drop i) a/\a.length<=32/\Aa B w J (An 124 2 q a.length (X2 X5 a)::N)) (λ(a,q,i)=>(BW s).length-i) ([],.slice none 0 0,0) ⟨Y4 _,O,Y4 _,b⟩ ?_;rintro⟨a,q,i⟩ w ⟨hi,g,P,b⟩;refine gM 4 ?_ ?_<;>intro V W
 ·obtain⟨x,hx⟩:∃x,(BW s)[i]?=some x:=⟨_,Y2 om⟩
  have ao:=Xi4 hx hl;have H:=Xuc hx;rw[H]at g;obtain⟨pp,rfl,hA⟩:=F.2 om;have M:((BW s).map S)[i]?=some (S x):=by rw[Yr,hx];rfl
  refine gH 3 ?_;refine .val (.ld1 (.of O) (by have h9:=Xv b hA M;simpa using h9) Bg) O ?_;refine gM 3 ?_ ?_<;>intro d X
  ·refine gG 3 (rd (a,q,i+1) ⟨od,?_,P,b⟩);rw[g,Ji,Y9 (su d)]
  obtain⟨ka,kc,rfl,an,_⟩:=b.vS 0;refine gN 3 ?_ ?_<;>intro Y
  ·exact gG 2 (oy (e:=5) (by rw[g,Ji,Y3 (su d),Y9 om]) E b.s)
  refine gG 1 (.lk [0,4,5,6,7] (σ:=Nat) (λk _m=>(8,Ab (k:Nat))::_m) (λk w=>k<=x.length/\(∀j,j<k->at_ x (j:Int)≠61)/\Aa B w J (An 124 2 (.slice ka a.length kc) a.length (X2 X5 a)::N)) (λk=>x.length-k) 0 ⟨Y4 _,λ_ h=>Yz h om,b⟩ ?_);rintro k w ⟨hk,y,b⟩;refine gM 10 ?_ ?_<;>intro f Z
  ·have am:k<x.length:=by
    have K:=f;simp only[Y8,dq1]at K
    omega
   have L:at_ x (k:Int)≠61:=λe=>by
    rw[e]at f;simp at f
   refine gG 3 (rd (k+1) ⟨om,λj hj=>?_,b⟩);rcases Yt j k with D|D
   ·exact y j D
   ·have e:j=k:=om
    subst e;exact L
  refine gG 0 ?_;have p:AP [61] x=x.take k/\Xn [61] x=x.drop k:=lG hk y λD=>by
   have K:=f;simp only[decide_eq_true (show(k:Int)<(x.length:Int)by omega),Cv,bne_eq_false_iff_eq]at K
   exact CS.1 (by show(at_ x (k:Int)).toNat=61;omega)
  refine gH 2 (.val (.gZ (.of O) (.of O) om om A8) O ?_)
  (try rw[Yd]);rw[<-p.1]
  refine gF 0 (Xas _ (by have:=Zb [61] x;omega) _) ?_;rintro _ w ⟨T,e1,rfl,l,b⟩;refine gH 7 (.nil (.ck [0,4,5,6,7,8,9,10] (σ:=Lu×Nat) (λ(n,o) _m=>(11,S n)::(12,Ab (o:Nat))::_m) (λ(n,o) w=>(match dec true ((Xn [61] x).drop 1)with|none=>n=[]/\o=11|some t=>n=t/\o=0)/\Aa B w J (An 124 2 (.slice ka a.length kc) a.length (X2 X5 a)::N)) ?_ ?_))
  ·refine gN 4 ?_ ?_<;>intro aa
   ·refine gH 3 (.val (.Ee (.of O) (.of O) om om A8) O ?_);rw[show((k:Int)+1).toNat=k+1 by omega,show x.drop (k+1)=(Xn [61] x).drop 1 by rw[p.2,Gj]];refine gF 0 (Xas _ (by have:=Ih [61] x;rw[Y6];omega) _) ?_;rintro _ w ⟨n,o,rfl,c,b⟩;exact gG 5 (cd (n,o) ⟨c,b⟩)
   refine gG 0 (cd ([],0) ⟨?_,b⟩);rw[p.2,Yb (show x.length<=k by omega)];exact⟨O,O⟩
  rintro⟨n,o⟩ w ⟨c,b⟩;refine gM 6 ?_ ?_<;>intro m ab
  ·refine gG 2 ?_;have Q:KU x=none:=by
    unfold KU;cases A:dec true (AP [61] x)with
    | none=>rfl
    | some t =>
     rw[A]at l;cases C:dec true ((Xn [61] x).drop 1)with
     | none=>rfl
     | some u=>rw[C]at c;rw[l.2,c.2]at m;exact Yz m de
   exact oy (e:=11) (by rw[g,Ji,Y3 (su d),Y3 om,Q]) E b.s
  refine gG 0 ?_;have R:KU x=some (T,n):=by
   unfold KU;have r:=m;simp only[EB,bne_eq_false_iff_eq]at r
   cases A:dec true (AP [61] x)with
   | none=>rw[A]at l;rw[l.2]at r;have:=r.1;omega
   | some t =>
    rw[A]at l;cases C:dec true ((Xn [61] x).drop 1)with
    | none=>rw[C]at c;rw[c.2]at r;have:=r.2;omega
    | some u=>rw[C]at c;rw[l.1,c.1]
  refine gG 10 ?_;intro ag af ah z w b;refine A_ (a++[(T,n)],_,i+1) O ⟨od,?_,by(try dsimp only);rw[Y0];show _+1<=32;omega,?_⟩
  ·try dsimp only
   rw[g,Ji,Y3 (su d),Y3 om,R]
  ·try dsimp only
   rw[KP,show(a++[(T,n)]).length=a.length+1 from Y0];exact b
 exact gG 3 (Xv8 (by rw[g,Yb om];rfl) E b)
def De:Lu:=[112,103,116,73,100]
def Hz:Lu:=[112,103,116,73,111,117]
theorem XS(c a:Lu)(b:Nat)(r:Lu):(Kk c a b r).1.query.length<=r.length/\(Kk c a b r).1.path.length<=r.length+1:=by
 unfold Kk;split
 ·exact⟨Y4 _,Y4 _⟩
 ·rename_i p e
  split
  ·exact⟨Y4 _,Y4 _⟩
  ·rename_i q f
   have g:=tf e;have d:=tf f;have h:=Zb [63] r;have i:=Ih [63] r;have j:=Xuw p;rw[Y6]at d;refine⟨by show q.length<=_;omega,?_⟩;show(if p=[]then[47]else Hi p).length<=_
   split
   ·simp
   ·omega
theorem Wt(s:Lu):(pU s).1.query.length<=s.length/\(pU s).1.path.length<=s.length+1:=by
 unfold pU;split
 ·exact⟨Y4 _,Y4 _⟩
 ·split
  ·exact⟨Y4 _,Y4 _⟩
  ·rename_i b r a
   split
   ·have g:r.length<=s.length:=by
     unfold iO at a;split at a
     ·injection a with a;injection a with e c;subst c;rw[Y6];omega
     ·split at a
      ·injection a with a;injection a with e c;subst c;rw[Y6];omega
      ·cases a
    have f:=Ih [47,63,35,58] r;unfold iQ;split
    ·split
     ·have d:=Ih [47,63,35] ((Xn [47,63,35,58] r).drop 1);rw[Y6]at d
      have:=XS b (TP r) (PG (AP [47,63,35] ((Xn [47,63,35,58] r).drop 1)) b) (Xn [47,63,35] ((Xn [47,63,35,58] r).drop 1))
      omega
     ·exact⟨Y4 _,Y4 _⟩
    ·have:=XS b (TP r) 0 (Xn [47,63,35,58] r)
     omega
   ·exact⟨Y4 _,Y4 _⟩
theorem dT{s:Lu}(h:(pU s).2=0):s.length<=2000:=by
 unfold pU at h;split at h
 ·cases h
 ·omega
theorem wR{u:U}{n v:Lu}(a:Py u)(h:(MX u n v).query.length<=10000000):Py (MX u n v):=⟨a.1,a.2.1,a.2.2.1,a.2.2.2.1,h⟩
def jl(u:U)(b a:Lu):U:=MX (MX u De b) Hz a
def Zu(a c b:Lu):Lu×Nat:=if(pU a).2=0 then(GZ (jl (pU a).1 c b),0)else([],(pU a).2)
theorem Nl(s a b:Lu):(jl (pU s).1 a b).query.length<=s.length+37+3*a.length+3*b.length:=by
 have e:=(Wt s).1;have f:=oF (pU s).1.query De a;have g:=oF (GH (pU s).1.query De a) Hz b;have c:De.length=5:=rfl;have d:Hz.length=6:=rfl;show(GH (GH (pU s).1.query De a) Hz b).length<=_
 omega
theorem Xy6{s a b:Lu}(h:(pU s).2=0)(j:a.length<=100000)(hi:b.length<=100000):Py (MX (pU s).1 De a)/\Py (jl (pU s).1 a b):=by
 have e:=dT h;have f:=(Wt s).1;have g:=oF (pU s).1.query De a;have i:=Nl s a b;have d:De.length=5:=rfl;have c:Py (MX (pU s).1 De a):=wR (oQ s) (by show(GH (pU s).1.query De a).length<=_;omega);exact⟨c,wR c (by show(jl (pU s).1 a b).query.length<=_;omega)⟩
theorem OV(a:Oa)(c:Nat)(x e:Lu)(N:La)(h:∀w,Aa B w I N->Jg w pk 1 a [x])(f:Aa B w I N):Ce B I N 347 [.slice a 1 c,S e] w (S x):=by
 refine gG 1 ?_;obtain⟨p,rfl,g⟩:=h w f 0 x O;have b:=g 0 _ O;refine gG 4 (.Aw (rfl) (gG 2 (.Ct (rfl) (gH 2 (.val (.ld1 (.of O) (by simpa[Addr.add_add]using b) Bg) O ?_)))));refine gH 1 (.nil (.ret ?_));refine λ_ d=>GD d O ?_
 exact⟨_,O,O,f⟩
theorem Xxx(b:Nat)(n c:Lu)(x:n.length<=1000000)(u:c.length<=1000000)(g:Bw I)(N:La)(a:Aa B w I (Ac b [S n,S c] 124::N)):Ce B I (Ac b [S n,S c] 124::N) 309 [.slice (some (ad b 0)) 1 1] w (S (Aq n++61::Aq c)):=by
 refine gG 5 ?_;replace a:=a.Ai 9 1;refine .lk [6,7] (σ:=Nat×Va) (λ(i,d) _m=>(3,d)::(8,Ab (i:Nat))::_m) (λ(i,d) w=>i<=1/\Aa B w I (An 9 1 d i (([S (Aq n++61::Aq c)]:Lv).take i)::Ac b [S n,S c] 124::N)) (λ(i,d)=>1-i) (0,.slice none 0 0) ⟨Y4 _,a⟩ ?_;rintro⟨i,d⟩ w ⟨hi,a⟩;refine gM 1 ?_ ?_<;>intro p q
 ·obtain rfl:i=0:=om
  have r:=YZ n;have t:=YZ c;obtain⟨ka,j,rfl,f,_⟩:=a.vS 0;refine gG 4 ?_;intro v w a;refine gD [0] [] [0,1,2,5,6,3,4,7,8,9,10,11] ?_;intro w a;refine gE 5 (vC n om g) ?_;intro w a;refine gE 1 (vC c om g) ?_;intro w a;refine gH 2 ?_;intro m w a;refine gH 1 ?_;intro l o e w a;refine gG 3 (A_ (1,_) O ⟨Ya _,?_⟩);rw[show(Aq n++[61])++Aq c=(Aq n++61::Aq c)by simp]at a;exact(a.z [2,2] 2 1)
 obtain rfl:i=1:=om
 obtain⟨ka,j,rfl,f,_⟩:=a.vS 0;refine gP 1 [] (OV ka j _ _ _ (λw h=>WZ (cells:=pk) (λ_=>rfl) h (k:=0) O)) ?_;rintro _ w ⟨rfl,a⟩;exact gG 1 ⟨O,a.s⟩
theorem xB(u:U)(p:Py u)(n d:Lu)(m:n.length<=1000000)(r:d.length<=1000000)(j:Bw I)(N:La)(a:Aa B w I N):Ce B I N 205 [.agg (uc u).toArray,S n,S d] w (.agg (uc (MX u n d)).toArray):=by
 refine gG 0 (.GJ a (.of O) O ?_);intro g w a;refine gH 1 ?_;intro h w a;refine .nil (.ck [1,2,3,6] (σ:=Lu) (λc _m=>_m) (λc w=>(c=if u.query=[]then[]else u.query++[38])/\c.length<=10000001/\Aa B w I (Ac h [S [],S [],Ab 0,S [],S [],.bool false] 302::Ac g [S u.ZE,S u.host,Ab (u.port:Nat),S u.path,S c,.bool u.ask] 302::N)) ?_ ?_)
 ·have q:=p.2.2.2.2;refine gM 3 ?_ ?_<;>intro b i
  ·refine gH 5 ?_;intro w a;refine gG 0 (En (_) O ⟨?_,?_,(a.x [1,1])⟩)
   ·rw[Y3 (su b)]
   ·rw[Y0];show _+1<=_;omega
  refine gG 0 (cd u.query ⟨?_,om,(a.x [1,1])⟩);rw[Y9 (su b)];simpa using b
 rintro c w ⟨f,o,a⟩;refine gG 0 ?_;have k:=YZ n;have l:=YZ d;refine gD [1] [9] [0,1,2,3,4,5,6,7,8,9] ?_;intro w a;refine gH 6 ?_;intro e w a;refine gE 0 (Xxx e n d m r j) ?_;intro w a;refine gH 3 ?_;intro w a;refine gH 4 ?_;intro w a;refine gG 0 (⟨?_,a.s⟩);rw[MX,GH,<-f]
 done
theorem Xi1(a c b:Lu)(i:a.length<=1000000)(l:c.length<=100000)(hi:b.length<=100000)(f:AX I)(N:La)(d:Aa B w I N):Ce B I N 123 [.agg (List.toArray [S a,S c,S b])] w (.tuple #[S (Zu a c b).1,Ab ((Zu a c b).2:Nat)]):=by
 refine gG 0 (.GJ d (.of O) O ?_);intro b1 w d;refine gE 4 (v_ a i f) ?_;intro w d;refine gG 8 ?_;intro m w d;refine gN 0 ?_ ?_<;>intro e
 ·refine gG 3 (⟨?_,d.s⟩);have k:=e;rw[Zu,Y3 om]
  done
 refine gG 0 ?_;have j:(pU a).2=0:=by have k:=e;omega
 obtain⟨g,h⟩:=Xy6 j l hi;refine gD [1,0] [] [0,1,2,4,5,3,6,7,8,9] ?_;intro w d;refine gE 5 (xB (pU a).1 (oQ a) De c de om f.gw) ?_;intro w d;refine gE 0 (xB _ g _ b de om f.gw) ?_;intro w d;refine gE 0 (vA _ h f) ?_;intro w d;refine gG 2 (⟨?_,d.s⟩);rw[Zu,Y9 j];rfl
open DN Xm
theorem RH{l:List Ah}(b:Wf l)(name:Lu):(getD l name).service.length<=100:=by
 rcases rY b name with⟨_,e⟩|⟨_,a,_⟩
 ·rw[e];decide
 ·unfold C7 at a;simp only[Y8,dq1]at a
  omega
def Zr(lo:List Sv)(Z:Wd)(n:Lu):Bool:=(((getD Z.l n).kind==2||(getD Z.l n).kind==3)&&decide (0<(getD Z.l n).AV))&&((Xk lo (getD Z.l n).service).2.2==0&&(Xk lo (getD Z.l n).service).1.back)
def Wb(Z:Wd)(n:Lu):Nt:=⟨n,(getD Z.l n).service,0,Z.now⟩
def Zd(lo:List Sv)(Z:Wd)(a:List Lu):List Nt:=(a.filter (Zr lo Z)).map (Wb Z)
def iV(lo:List Sv)(Z:Wd)(Ay:Lu):List Nt:=Zd lo Z (below Z.l Ay)
theorem Xsx{lo:List Sv}{Z:Wd}{a:List Lu}{x:Lu}(h:a[k]?=some x):Zd lo Z (a.take (k+1))=Zd lo Z (a.take k)++(if Zr lo Z x=true then[Wb Z x]else[]):=by
 unfold Zd;rw[Yv,h,DE,T5,Yn,Jq];split<;>simp
theorem Xp6(lo:List Sv)(Z:Wd)(a:List Lu):(Zd lo Z a).length<=a.length:=by unfold Zd;rw[Yj];exact EP _ _
theorem Q4{lo:List Sv}{Z:Wd}{n:Lu}(h:(((getD Z.l n).kind !=2&&(getD Z.l n).kind !=3)||(getD Z.l n).AV==0)=true):Zr lo Z n=false:=by
 refine uq.2 λa=>?_
 unfold Zr at a;simp only[Y8,EC,beq_iff_eq,bne_iff_ne,ne_eq,dq1]at a h
 omega
theorem Xw3{lo:List Sv}{Z:Wd}{n:Lu}(a:Wf Z.l)(h:(((getD Z.l n).kind !=2&&(getD Z.l n).kind !=3)||(getD Z.l n).AV==0)=false):Zr lo Z n=((((Xk lo (getD Z.l n).service).2.2:Nat):Int)==0&&(Xk lo (getD Z.l n).service).1.back):=by
 have b:=(Xif a n).2.2.1;simp only[EB,Zx,bne_eq_false_iff_eq,beq_eq_false_iff_ne,ne_eq]at h
 unfold Zr;rw[show((getD Z.l n).kind==2||(getD Z.l n).kind==3)=true by simp only[EC,beq_iff_eq];omega,decide_eq_true om,Cv,Cv]
 congr 1
 rw[pM,beq_iff_eq,beq_iff_eq];omega
def FW(lo:List Sv)(Z:Wd)(t:Lu):List Nt:=if(getD Z.l t).kind=1 then iV lo Z t else[]
def Ln(Z:Wd)(t:Lu):List Lu:=if(getD Z.l t).kind=1 then below Z.l t else[]
def Kn(Z:Wd)(t:Lu):Wd:=if(getD Z.l t).kind=1 then FQ Z t else Z
theorem O2(Ay:Lu)(p:Wp)(Z:Wd)(n:A6 Z)(M:BK I p)(N:La)(b:Aa B w I (AN p Z::N)):Cz 225 [ptr p.wb 0,S Ay] w λv w'=>∃J y A,Le I J/\v=.slice y (iV p.lo Z Ay).length A/\(iV p.lo Z Ay).length<=A/\RS J y 4 (iV p.lo Z Ay).length (X2 X8 (iV p.lo Z Ay))/\Aa B w' J (AN p Z::N):=by
 refine gG 2 ?_;obtain⟨a,c,r,t,b⟩:=El b;have U:=n.len;have ab:=w7 n.wf Ay;refine gF 5 (Xmo p.tb Z.room a c Z.l om n.wf Ay) ?_;rintro _ w ⟨J,ra,rc,rfl,C,ad,F,b⟩;refine gG 2 ?_;replace b:=(((((b.pick 4 O).pick 4 O).pick 3 O).pick 3 O).pick 4 O).Ai 128 4;refine .lk [0,18,19] (σ:=Nat×Va) (λ(k,v) _m=>(5,v)::(20,Ab (k:Nat))::_m) (λ(k,v) w=>k<=(below Z.l Ay).length/\Aa B w J (An 128 4 v (Zd p.lo Z ((below Z.l Ay).take k)).length (X2 X8 (Zd p.lo Z ((below Z.l Ay).take k)))::Ac p.wb (Ca p Z) 85::Ba p.tb Z.room a c Z.l (Ac p.mb [.slice r Z.D.length t] 161::Cp 73 (.slice r Z.D.length t) (Z.D.map λd=>Bo (d:Nat))::N))) (λ(k,v)=>(below Z.l Ay).length-k) (0,.slice none 0 0) ⟨Y4 _,b⟩ ?_;rintro⟨k,v⟩ w ⟨hk,b⟩;refine gN 1 ?_ ?_<;>intro P
 ·obtain⟨x,o⟩:∃x,(below Z.l Ay)[k]?=some x:=⟨_,Y2 om⟩
  obtain⟨q,L,hx⟩:=aN (cells:=pk) (s:=1) (λ_=>rfl) (by rw[qS];exact F:RS J ra 1 (below Z.l Ay).length (X2 pk (below Z.l Ay))) o;subst L;have e:=Xsx (lo:=p.lo) (Z:=Z) o;have ae:=RH n.wf x;have ac:=Xp6 p.lo Z ((below Z.l Ay).take k);have af:((below Z.l Ay).take k).length<=k:=by rw[Yl];omega
  refine gE 8 (E5 p.tb Z.room a c Z.l om x) ?_;intro w b;refine gH 14 ?_;intro Y w b;refine gM 5 ?_ ?_<;>intro g Q
  ·refine gG 2 ?_;have h:Zr p.lo Z x=false:=Q4 g;rw[h]at e;refine A_ (k+1,_) O ⟨om,?_⟩;rw[e];rw[Y3 de,Yy];exact(b.z [6,6,4,4,6,6] 6 1)
  refine .skip (.ck [0,5,7,8,18,19,20] (σ:=Nat×Oa×Nat) (λ(f,j,m) _m=>(10,ptr f 0)::(12,Ab (((Xk p.lo (getD Z.l x).service).2.2:Nat):Int))::_m) (λ(f,j,m) w=>Aa B w J (Ac f (fw (Xk p.lo (getD Z.l x).service).1 j m) 133::Ac Y (Xa (getD Z.l x)) 126::An 128 4 v (Zd p.lo Z ((below Z.l Ay).take k)).length (X2 X8 (Zd p.lo Z ((below Z.l Ay).take k)))::Ac p.wb (Ca p Z) 85::Ba p.tb Z.room a c Z.l (Ac p.mb [.slice r Z.D.length t] 161::Cp 73 (.slice r Z.D.length t) (Z.D.map λd=>Bo (d:Nat))::N))) ?_ ?_)
  ·refine gD [0,3] [] [0,1,2,3,4,5] ?_;intro w b;refine gH 6 (gB 6 11 [7,8,9,10,11,12,13,14] [6,7,8,9,10,12,13,14] ?_ ?_)
   ·refine gF 0 (TD (getD Z.l x).service om p (M.mono C)) ?_;rintro _ w ⟨j,m,rfl,b⟩;refine gH 5 ?_;intro f w b;refine gH 1 ?_;intro w b;exact gG 2 (cd (f,j,m) (b.x [7,7,5,5,7,7,7,7]))
   ·refine gH 1 ?_;intro f w b;refine gF 0 (TD (getD Z.l x).service om p (M.mono C)) ?_;rintro _ w ⟨j,m,rfl,b⟩;refine gH 5 ?_;intro w b;exact gG 2 (cd (f,j,m) (b.x [7,7,5,5,7,7,7,7]))
  rintro⟨f,j,m⟩ w b;refine gM 6 ?_ ?_<;>intro i R
  ·refine gD [1,2] [] [0,1,2,3,4,5,6,7,8,9,10,11] ?_;intro w b;refine gH 10 ?_;intro X w b;refine gH 1 ?_;intro W aa u w b;refine gG 3 ?_;have h:Zr p.lo Z x=true:=(Xw3 n.wf g).trans i;rw[h]at e;refine A_ (k+1,_) O ⟨om,?_⟩;rw[e];rw[Y9 O,Y0,KP];exact(b.z [7,7,7,7,7,7] 6 2)
  refine gG 2 ?_;have h:Zr p.lo Z x=false:=(Xw3 n.wf g).trans i;rw[h]at e;refine A_ (k+1,_) O ⟨om,?_⟩;rw[e];rw[Y3 de,Yy];exact(b.z [7,7,7,7,7,7] 6 2)
 refine gG 2 ?_;have H:k=(below Z.l Ay).length:=om
 subst H;rw[Fy]at b;obtain⟨y,A,rfl,K,_⟩:=b.vS 0;obtain⟨V,E,G,b⟩:=b.fV 0;replace b:=Aa.box (T:=Bm p _) (a,c,r,t) (((((b.pick 4 O).pick 4 O).pick 4 O).pick 4 O).pick 4 O);exact⟨V,y,A,C.trans E,O,K,G,b⟩
theorem Mn(Ay:Lu)(p:Wp)(Z:Wd)(t:A6 Z)(F:BK I p)(N:La)(b:Aa B w I (AN p Z::N)):Cz 130 [ptr p.wb 0,S Ay] w λv w'=>∃J k m g h,Le I J/\v=.tuple #[.slice k (FW p.lo Z Ay).length m,.slice g (Ln Z Ay).length h]/\(FW p.lo Z Ay).length<=m/\RS J k 4 (FW p.lo Z Ay).length (X2 X8 (FW p.lo Z Ay))/\(Ln Z Ay).length<=h/\RS J g 1 (Ln Z Ay).length ((Ln Z Ay).map S)/\Aa B w' J (AN p (Kn Z Ay)::N):=by
 refine gG 2 ?_;obtain⟨a,c,i,j,b⟩:=El b;have A:=t.len;refine gE 5 (E5 _ Z.room a c Z.l om Ay) ?_;intro w b;refine gG 9 ?_;intro H w b;refine gM 0 ?_ ?_<;>intro e z
 ·refine gG 2 ?_;have d:¬ (getD Z.l Ay).kind=1:=su e
  have n:FW p.lo Z Ay=[]:=Y3 d;have o:Ln Z Ay=[]:=Y3 d;have q:Kn Z Ay=Z:=Y3 d;rw[n,o,q];replace b:=Aa.box (T:=Bm p _) (a,c,i,j) (b.px [5,5,4,4,5]);exact⟨I,none,0,none,0,Le.refl _,O,Ya _,RS.nil _ 4,Ya _,RS.nil _ 1,(b.y 1 1)⟩
 replace b:=Aa.box (T:=Bm p _) (a,c,i,j) (b.px [5,5,4,4,5]);refine gF 2 (O2 Ay p Z t F) ?_;rintro _ w ⟨J,k,m,G,rfl,x,s,b⟩;refine gG 1 ?_;obtain⟨a,c,i,j,b⟩:=El b;refine gF 6 (fm p.tb Z.room a c Z.l om t.wf Ay) ?_;rintro _ w ⟨C,g,h,rfl,f,u,r,D,E,b⟩;refine gG 2 ?_;have d:(getD Z.l Ay).kind=1:=su e
 have n:FW p.lo Z Ay=iV p.lo Z Ay:=Y9 d;have o:Ln Z Ay=(below Z.l Ay):=Y9 d;have q:Kn Z Ay=FQ Z Ay:=Y9 d;rw[n,o,q];replace b:=Aa.box (T:=Bm p (FQ Z Ay)) (D,E,i,j) (b.px [4,4,3,3,4]);exact⟨C,k,m,g,h,G.trans f,O,x,s.mono f,u,r,(b.y 1 1)⟩
open Rq
structure Kz(I:Im):Prop where
 kn:AX I
 pre:Bf I
 kx:Kx I
theorem Kz.mono(h:Kz I)(a:Le I J):Kz J:=⟨h.kn.mono a,h.pre.mono a,h.kx.mono a⟩
theorem MI(d:Aa B w I (Ac b cs E::N))(g:cs.length=n*size):∃J,Le I J/\RS J (some (ad b 0)) size n cs/\Aa B w J N:=by
 obtain⟨J,c,e,a⟩:=d.fZ 0;exact⟨J,c,⟨g,λ_=>⟨_,O,O,_,_,_,e,λj v f=>by simpa using f⟩⟩,a⟩
theorem SB(s p:Lu)(f:s.length<=1000000)(b:Kz I)(N:La)(a:Aa B w I N):Calls prog 85 #[S s,S p] w (AY λv w'=>v=.tuple #[S (Go.Lib.cut s p).1,S (Go.Lib.cut s p).2.1,.bool (Go.Lib.cut s p).2.2]/\Aa B w' I N):=by
 obtain⟨m,d⟩:=b.kn.max B w N a;refine(strings_Cut ⟨s.toArray⟩ ⟨p.toArray⟩ m w (by show s.length<_;omega) d).mono λe w' c=>?_
 obtain⟨rfl,n,rfl⟩:=c;exact⟨_,O,O,lW a n⟩
theorem sn(s:Lu)(c:Ui)(d:s.length<=1000000)(b:Kz I)(N:La)(a:Aa B w I N):Calls prog 85 #[S s,S [c]] w (AY λv w'=>v=.tuple #[S (C_ c s).1,S (C_ c s).2.1,.bool (C_ c s).2.2]/\Aa B w' I N):=rK s c d b.kn N a
theorem Xhz(s:Lu)(c:Ui)(j:s.length<=1000000)(g:Kz I)(N:La)(a:Aa B w I N):Calls prog 138 #[S s,S [c]] w (AY λv w'=>∃b,v=.slice (some (ad b 0)) (AK c s).length (AK c s).length/\Aa B w' I (Ac b ((AK c s).map S) 9::N)):=by
 obtain⟨m,i⟩:=g.kn.max B w N a;refine(strings_Split ⟨s.toArray⟩ ⟨[c].toArray⟩ m w (by show s.length<_;omega) i (Ya 1)).mono λe w' h=>?_
 obtain⟨rfl,rfl⟩:=h;have d:(AK c s).length=Go.Lib.countB ⟨s.toArray⟩ ⟨[c].toArray⟩+1:=dV c _ s (Ya _);have f:(Go.Lib.splitB ⟨[c].toArray⟩ 0 (Go.Lib.countB ⟨s.toArray⟩ ⟨[c].toArray⟩) ⟨s.toArray⟩).map Value.string=(AK c s).map S:=by
  rw[x6,Go.Lib.splitB_data];show List.map S (Go.Lib.splitK [c] 0 (Go.Lib.count s [c]) s)=_
  rw[LY c _ s (Ya _)]
 refine⟨_,O,w.heap.size,by rw[d],?_⟩;rw[f];exact a.alloc _
theorem Xnd(s:Lu)(c:Ui)(b:c.toNat<128)(f:s.length<=1000000)(N:La)(a:Aa B w I N):Calls prog 145 #[S s,S [c]] w (AY λv w'=>v=S (Go.Lib.trimB s c)/\Aa B w' I N):=by
 refine(strings_Trim_one ⟨s.toArray⟩ c b w (by show s.length<=_;omega)).mono λe w' d=>?_
 obtain⟨rfl,rfl|rfl⟩:=d
 ·exact⟨_,O,O,a⟩
 ·exact⟨_,O,O,a.drew⟩
theorem Po(s p:Lu)(g:∀c∈p,c.toNat<128)(h:p.length<=1000)(i:s.length<=1000000)(N:La)(d:Aa B w I N):Calls prog 145 #[S s,S p] w (AY λv w'=>v=S (Go.Lib.trimS s p)/\Aa B w' I N):=by
 refine(Any.strings_Trim_laid NW kr ⟨s.toArray⟩ ⟨p.toArray⟩ w (by show s.length<=_;omega) (by show p.length<_;omega) (λj b a=>g b (Y7 a))).mono λe w' f=>?_
 obtain⟨rfl,a⟩:=f;exact⟨_,O,O,d.grown a⟩
theorem wX(s p:Lu)(d:s.length<=100000000)(c:p.length<=1000)(N:La)(a:Aa B w I N):Calls prog 234 #[S s,S p] w (AY λv w'=>v=.bool (Go.Lib.hasPrefix s p)/\Aa B w' I N):=by
 refine(strings_HasPrefix ⟨s.toArray⟩ ⟨p.toArray⟩ w).mono λe w' b=>?_
 obtain⟨rfl,rfl⟩:=b;exact⟨_,O,O,a⟩
theorem X7t(c:Ui):((((!plain c)||((c.toNat:Int)==46))||((c.toNat:Int)==95))||((c.toNat:Int)==126))=!Ef c:=eq_of_beq (Xc (p:=λc=>((((!plain c)||((c.toNat:Int)==46))||((c.toNat:Int)==95))||((c.toNat:Int)==126))==!Ef c) dk c)
theorem Xto(s:Lu)(h:s.length<=1000000)(N:La)(d:Aa B w I N):Ce B I N 235 [S s] w (.bool (List.all s (Ef)&&!s.isEmpty)):=by
 refine gG 4 (.lk [0,6] (σ:=Nat) (λi _m=>(7,Ab (i:Nat))::_m) (λi w=>i<=s.length/\List.all s (Ef)=List.all (s.drop i) (Ef)/\Aa B w I N) (λi=>s.length-i) 0 ⟨Y4 _,O,d⟩ ?_);rintro i w ⟨hi,a,d⟩;refine gM 1 ?_ ?_<;>intro f g
 ·refine gC 7 (lV _ _) ?_;rintro _ _ ⟨rfl,rfl⟩;refine gM 13 ?_ ?_<;>intro c e
  ·refine gG 1 ?_;have b:=c;rw[X7t]at b;refine⟨Yc Value.bool ?_,d⟩;rw[a,X7 s om,DR,show Ef (at_ s (i:Int))=false by simpa using b];rfl
  refine gG 2 ?_;have b:=c;rw[X7t]at b;refine rd (i+1) ⟨om,?_,d⟩;rw[a,X7 s om,DR,show Ef (at_ s (i:Int))=true by simpa using b,Cv]
 refine gG 3 (⟨Yc Value.bool ?_,d⟩);rw[a,Yb om];cases s<;>rfl
theorem X7u(c:Ui):((((!plain c)||((c.toNat:Int)==46))||((c.toNat:Int)==95))||((c.toNat:Int)==126))=!Ef c:=eq_of_beq (Xc (p:=λc=>((((!plain c)||((c.toNat:Int)==46))||((c.toNat:Int)==95))||((c.toNat:Int)==126))==!Ef c) dk c)
theorem Xtp(s:Lu)(h:s.length<=1000000)(N:La)(d:Aa B w I N):Ce B I N 101 [S s] w (.bool (List.all s (Ef)&&!s.isEmpty)):=by
 refine gG 4 (.lk [0,6] (σ:=Nat) (λi _m=>(7,Ab (i:Nat))::_m) (λi w=>i<=s.length/\List.all s (Ef)=List.all (s.drop i) (Ef)/\Aa B w I N) (λi=>s.length-i) 0 ⟨Y4 _,O,d⟩ ?_);rintro i w ⟨hi,a,d⟩;refine gM 1 ?_ ?_<;>intro f g
 ·refine gC 7 (lV _ _) ?_;rintro _ _ ⟨rfl,rfl⟩;refine gM 13 ?_ ?_<;>intro c e
  ·refine gG 1 ?_;have b:=c;rw[X7u]at b;refine⟨Yc Value.bool ?_,d⟩;rw[a,X7 s om,DR,show Ef (at_ s (i:Int))=false by simpa using b];rfl
  refine gG 2 ?_;have b:=c;rw[X7u]at b;refine rd (i+1) ⟨om,?_,d⟩;rw[a,X7 s om,DR,show Ef (at_ s (i:Int))=true by simpa using b,Cv]
 refine gG 3 (⟨Yc Value.bool ?_,d⟩);rw[a,Yb om];cases s<;>rfl
theorem X7b(c:Ui):((((!plain c)||((c.toNat:Int)==46))||((c.toNat:Int)==95))||((c.toNat:Int)==126))=!Ef c:=eq_of_beq (Xc (p:=λc=>((((!plain c)||((c.toNat:Int)==46))||((c.toNat:Int)==95))||((c.toNat:Int)==126))==!Ef c) dk c)
theorem Xf1(s:Lu)(h:s.length<=1000000)(N:La)(d:Aa B w I N):Ce B I N 146 [S s] w (.bool (List.all s (Ef)&&!s.isEmpty)):=by
 refine gG 4 (.lk [0,6] (σ:=Nat) (λi _m=>(7,Ab (i:Nat))::_m) (λi w=>i<=s.length/\List.all s (Ef)=List.all (s.drop i) (Ef)/\Aa B w I N) (λi=>s.length-i) 0 ⟨Y4 _,O,d⟩ ?_);rintro i w ⟨hi,a,d⟩;refine gM 1 ?_ ?_<;>intro f g
 ·refine gC 7 (lV _ _) ?_;rintro _ _ ⟨rfl,rfl⟩;refine gM 13 ?_ ?_<;>intro c e
  ·refine gG 1 ?_;have b:=c;rw[X7b]at b;refine⟨Yc Value.bool ?_,d⟩;rw[a,X7 s om,DR,show Ef (at_ s (i:Int))=false by simpa using b];rfl
  refine gG 2 ?_;have b:=c;rw[X7b]at b;refine rd (i+1) ⟨om,?_,d⟩;rw[a,X7 s om,DR,show Ef (at_ s (i:Int))=true by simpa using b,Cv]
 refine gG 3 (⟨Yc Value.bool ?_,d⟩);rw[a,Yb om];cases s<;>rfl
theorem Xb9(c:Ui):((((((decide ((c.toNat:Int)<33))||(decide (126<(c.toNat:Int))))||((c.toNat:Int)==34))||((c.toNat:Int)==44))||((c.toNat:Int)==59))||((c.toNat:Int)==92))=!HO c:=eq_of_beq (Xc (p:=λc=>((((((decide ((c.toNat:Int)<33))||(decide (126<(c.toNat:Int))))||((c.toNat:Int)==34))||((c.toNat:Int)==44))||((c.toNat:Int)==59))||((c.toNat:Int)==92))==!HO c) dk c)
theorem wU(s:Lu)(h:s.length<=1000000)(N:La)(d:Aa B w I N):Ce B I N 147 [S s] w (.bool (List.all s (HO))):=by
 refine gG 4 (.lk [0,6] (σ:=Nat) (λi _m=>(7,Ab (i:Nat))::_m) (λi w=>i<=s.length/\List.all s (HO)=List.all (s.drop i) (HO)/\Aa B w I N) (λi=>s.length-i) 0 ⟨Y4 _,O,d⟩ ?_);rintro i w ⟨hi,a,d⟩;refine gM 1 ?_ ?_<;>intro f g
 ·refine gH 14 ?_;refine gM 14 ?_ ?_<;>intro c e
  ·refine gG 1 ?_;have b:=c;rw[Xb9]at b;refine⟨Yc Value.bool ?_,d⟩;rw[a,X7 s om,DR,show HO (at_ s (i:Int))=false by simpa using b];rfl
  refine gG 2 ?_;have b:=c;rw[Xb9]at b;refine rd (i+1) ⟨om,?_,d⟩;rw[a,X7 s om,DR,show HO (at_ s (i:Int))=true by simpa using b,Cv]
 refine gG 1 (⟨Yc Value.bool ?_,d⟩);rw[a,Yb om];rfl
theorem X9x(x y:Ui)(c:Ui):((decide ((c.toNat:Int)<(x.toNat:Int)))||(decide ((y.toNat:Int)<(c.toNat:Int))))=!B_ x y c:=by
 unfold B_;rw[pM];simp only[EC,dq1,PR,Zx,dq2]
 omega
theorem rU(x y:Ui)(s:Lu)(g:s.length<=1000000)(N:La)(d:Aa B w I N):Ce B I N 139 [S s,U8 x.toNat,U8 y.toNat] w (.bool (List.all s (B_ x y))):=by
 refine gG 4 (.lk [0,1,2,9] (σ:=Nat) (λi _m=>(10,Ab (i:Nat))::_m) (λi w=>i<=s.length/\List.all s (B_ x y)=List.all (s.drop i) (B_ x y)/\Aa B w I N) (λi=>s.length-i) 0 ⟨Y4 _,O,d⟩ ?_);rintro i w ⟨hi,a,d⟩;refine gN 1 ?_ ?_<;>intro e
 ·refine gM 14 ?_ ?_<;>intro c f
  ·refine gG 1 ?_;have b:=c;rw[X9x x y]at b;refine⟨Yc Value.bool ?_,d⟩;rw[a,X7 s om,DR,show B_ x y (at_ s (i:Int))=false by simpa using b];rfl
  refine gG 2 ?_;have b:=c;rw[X9x x y]at b;refine rd (i+1) ⟨om,?_,d⟩;rw[a,X7 s om,DR,show B_ x y (at_ s (i:Int))=true by simpa using b,Cv]
 refine gG 1 (⟨Yc Value.bool ?_,d⟩);rw[a,Yb om];rfl
theorem dF(c:Ui)(h:65<=(c.toNat:Int)/\(c.toNat:Int)<=90):U8 (IntKind.u8.wrap (IntKind.u8.wrap ((c.toNat:Int)+97)-65))=U8 (c+32).toNat:=by
 have:=Xc (p:=λc=>!(decide (65<=(c.toNat:Int))&&decide ((c.toNat:Int)<=90))||(IntKind.u8.wrap (IntKind.u8.wrap ((c.toNat:Int)+97)-65)==((c+32).toNat:Int))) dk c
 rw[decide_eq_true h.1,decide_eq_true h.2]at this;have a:IntKind.u8.wrap (IntKind.u8.wrap ((c.toNat:Int)+97)-65)=((c+32).toNat:Int):=su this
 rw[a]
theorem Xgi(c:Ui)(N:La)(d:Aa B w I N):Ce B I N 167 [U8 c.toNat] w (U8 (Ek c).toNat):=by
 refine gM 7 ?_ ?_<;>intro a f
 ·refine gG 4 (⟨?_,d⟩);unfold Ek;rw[Y9 (by have b:=a;revert b;cases g:(decide (65<=c.toNat)&&decide (c.toNat<=90))<;>simp_all;omega)];exact dF c (su a)
 refine gG 2 (⟨?_,d⟩);unfold Ek;rw[Y3 (by have b:=a;intro e;simp at e b;omega)]
theorem Xng:rf prog 51 [(0,1),(1,1),(2,1),(3,1)] [S [],S [],.slice none 0 0,S []]:=CZ Pd iz (λw=>by simp[go_sem])
theorem Xvs(c:Nat)(s:Lu)(f:s.length<=1000000)(e:Kz I)(N:La)(b:Aa B w I (Ac c [S s] 172::N)):Ce B I (Ac c [S (X3 s).2.2] 172::N) 80 [ptr c 0] w (.tuple #[S (X3 s).1,Ab ((X3 s).2.1:Nat)]):=by
 refine gE 6 (SB s CR f e) ?_;intro w b;refine gM 9 ?_ ?_<;>intro a d
 ·refine gG 2 (⟨?_,?_⟩)
  ·unfold X3;rw[Y3 (su a)];rfl
  ·unfold X3;rw[Y3 (su a)];exact b
 refine gG 8 ?_;intro w b;refine⟨?_,?_⟩
 ·unfold X3;rw[Y9 (su a)];rfl
 ·unfold X3;rw[Y9 (su a)];exact b
theorem LJ{a b:Ui}(h:(a.toNat:Int)=b.toNat):(a==b)=true:=by
 have:a=b:=CS.1 om
 rw[this];exact beq_self_eq_true _
theorem LK{a b:Ui}(h:¬ (a.toNat:Int)=b.toNat):(a==b)=false:=by
 cases e:a==b with
 | false=>rfl
 | true=>exact Yz (by rw[eq_of_beq e]) h
theorem Xmn(s t:Lu)(j:s.length<=1000000)(N:La)(a:Aa B w I N):Ce B I N 103 [S s,S t] w (.bool (MM s t)):=by
 refine gN 6 ?_ ?_<;>intro d
 ·refine gG 1 (⟨Yc Value.bool ?_,a⟩);unfold MM;rw[show(s.length==t.length)=false from by have h:=d;simp;omega];rfl
 have e:s.length=t.length:=by have h:=d;omega
 refine gG 3 (.lk [0,1,12] (σ:=Nat) (λi _m=>(13,Ab (i:Nat))::_m) (λi w=>i<=s.length/\(s.map Ek==t.map Ek)=((s.drop i).map Ek==(t.drop i).map Ek)/\Aa B w I N) (λi=>s.length-i) 0 ⟨Y4 _,O,a⟩ ?_);rintro i w ⟨hi,b,a⟩;refine gN 1 ?_ ?_<;>intro f
 ·refine gG 2 (.qt a (.val (λw a=>(.mo O)) O (.val (λw a=>(.mo O)) O (.val (λw a=>(.index (.of O) (.of O) om om A8)) O (.call func167 O (A3 O X4) O (λw a=>Xgi (at_ s (i:Int)) _ a) (.val (λw a=>(.mo O)) O (.val (λw a=>(.mo O)) O (.val (λw a=>(.index (.of O) (.of O) om om A8)) O (.call func167 O (A3 O X4) O (λw a=>Xgi (at_ t (i:Int)) _ a) (.val (λw a=>(.neq (.of O) (.of O))) O (.nil ?_)))))))))));intro w a;refine gM 0 ?_ ?_<;>intro c g
  ·refine gG 1 (⟨Yc Value.bool ?_,a⟩);unfold MM;rw[b,X7 s om,X7 t om,Yu,Yu,nE,show(Ek (at_ s (i:Int))==Ek (at_ t (i:Int)))=false from LK (su c),pN,T7]
  refine gG 2 (rd (i+1) ⟨om,?_,a⟩);rw[b,X7 s om,X7 t om,Yu,Yu,nE,show(Ek (at_ s (i:Int))==Ek (at_ t (i:Int)))=true from LJ (su c),Cv]
 refine gG 1 (⟨Yc Value.bool ?_,a⟩);unfold MM;rw[b,Yb om,Yb om,e];simp
theorem Mc(s:Lu)(c:s.length<=1000000)(N:La)(a:Aa B w I N):Ce B I N 140 [S s] w (.bool (tu s)):=by
 refine gE 2 (wX s _ om de) ?_;intro w a;refine gH 2 (.Au (T:=λw=>Aa B w I N) O O O IG O (λb=>(X6 (.gd b O) (A3 O (A3 O X4)))) O (λb=>rU 33 126 s c _ a) a ?_);clear a;rintro w a;exact gG 2 ⟨O,a⟩
theorem QA(l:Lu)(i:l.length<=1000000)(h:Kz I)(N:La)(b:Aa B w I N):Ce B I N 81 [S l] w (.tuple #[.agg #[S (Et l).1,S (Et l).2.1,.slice none 0 0,S []],Ab ((Et l).2.2:Nat)]):=by
 refine gH 3 ?_;intro j w b;refine gF 0 (Xhz l 32 i h) ?_;rintro _ w ⟨m,rfl,b⟩;refine gH 6 (.Aj O O (λa=>(by exact .indexAddr (.gd a O) (.of O) (ot a) (ot a) D6 AQ)) O ?_);refine .Aj O O (λa=>.ld (.gd a O) b (k:=0) O Bg (G8 (by have e:=a;simp at e;omega))) O ?_;refine gH 4 (.Aj O O (λa=>(by exact .indexAddr (.gd a O) (.of O) (ot a) (ot a) D6 AQ)) O ?_);refine .Aj O O (λa=>.ld (.gd a O) b (k:=0) O Bg (G8 (by have e:=a;simp at e;omega))) O ?_;refine .Au (T:=λw=>Aa B w I _) O O O IG O (λa=>(X6 (.gd a O) (A3 O (A3 O X4)))) O (λa=>rU 65 90 ((AK 32 l).getD 0 []) (oh (mC l 0)) _ b) b ?_;clear b;rintro w b;refine gH 4 (.Aj O O (λa=>(by exact .indexAddr (.gd a O) (.of O) (ot a) (ot a) D6 AQ)) O ?_);refine .Aj O O (λa=>.ld (.gd a O) b (k:=0) O Bg (G8 (by have e:=a;simp at e;omega))) O ?_;refine .Au (T:=λw=>Aa B w I _) O O O func140 O (λa=>(X6 (.gd a O) X4)) O (λa=>Mc ((AK 32 l).getD 1 []) (oh (mC l 1)) _ b) b ?_;clear b;rintro w b;refine gH 4 (.Aj O O (λa=>(by exact .indexAddr (.gd a O) (.of O) (ot a) (ot a) D6 AQ)) O ?_);refine .Aj O O (λa=>.ld (.gd a O) b (k:=0) O Bg (G8 (by have e:=a;simp at e;omega))) O ?_;refine gM 2 ?_ ?_<;>intro c f
 ·refine gH 3 ?_;intro w b;exact gG 0 ⟨by unfold Et;rw[Y9 (show fz _=true from c)];rfl,b.s⟩
 refine gH 1 (.val (.io O O om om D6 AQ) O (.val (.lo O b (k:=0) O Bg (G8 om)) O (gH 3 (.Aj O O (λa=>(by exact .indexAddr (.gd a O) (.of O) (ot a) (ot a) D6 AQ)) O ?_))));refine .Aj O O (λa=>.ld (.gd a O) b (k:=0) O Bg (G8 om)) O ?_;refine gM 2 ?_ ?_<;>intro d g
 ·refine gH 3 ?_;intro w b;exact gG 0 ⟨by unfold Et;rw[Y3 (nB (show fz _=false from c)),Y9 (show o6 _=true from d)];rfl,b.s⟩
 refine gG 0 (.tail 7 kr kr ?_);replace b:=b.drew;generalize w.drew=w at b ⊢;refine .vm O O (.val (by exact .io O O om om D6 AQ) O ?_);refine .val (.lo O b (k:=0) O Bg (G8 om)) O (.vm O O ?_);refine .val (by exact .io O O om om D6 AQ) O ?_;refine .val (.ld (v:=S ((AK 32 l).getD 1 [])) (.of O) b (k:=0) O Bg (G8 om)) O (.val (.build (cs:=[_,_,_,_]) (IC O (IC O TC)) Xng O) O (.nil ?_));show WL _ _ _ _ _ _ _
 refine .dr (gH 2 ?_);intro w b;exact gG 0 ⟨by unfold Et;rw[Y3 (nB (show fz _=false from c)),Y3 (nB (show o6 _=false from d))];rfl,b.s⟩
theorem Xyt(l:Lu)(f:l.length<=1000000)(e:Kz I)(N:La)(a:Aa B w I N):Ce B I N 141 [S l] w (.tuple #[.agg (X5 (Io l).1).toArray,Ab ((Io l).2:Nat)]):=by
 refine gH 3 ?_;intro g w a;refine gE 0 (sn l 58 f e) ?_;intro w a;refine gE 8 (Po _ _ de de (oh (TI 58 l))) ?_;intro w a;refine gH 5 (.Au (T:=λw=>Aa B w I _) O O O func235 O (λb=>(X6 (.gd b O) X4)) O (λb=>Xto (C_ 58 l).1 (oh (TI 58 l)) _ a) a ?_);clear a;rintro w a;refine gH 4 ?_;refine .Au (T:=λw=>Aa B w I _) O O O IG O (λb=>(X6 (.gd b O) (A3 O (A3 O X4)))) O (λb=>rU 32 126 (ni l) (by have:=TI 58 l;have:=sO (C_ 58 l).2.1 [32,9];unfold ni;omega) _ a) a ?_;clear a;rintro w a;refine gM 2 ?_ ?_<;>intro c d
 ·refine gH 3 ?_;intro w a;exact gG 0 ⟨by unfold Io;rw[Y9 (show nh l=true from c)];rfl,a.s⟩
 refine gH 5 ?_;intro w a;exact gG 0 ⟨by unfold Io;rw[Y3 (nB (show nh _=false from c))];rfl,a.s⟩
theorem Xut(n:Int):IntKind.i64.wrap (IntKind.u8.wrap n)=IntKind.u8.wrap n:=by
 have h:0<=IntKind.u8.wrap n/\IntKind.u8.wrap n<256:=by rw[IntKind.wrap_u8];omega
 rw[IntKind.wrap_i64];omega
theorem Xus(s:Lu)(i:Nat)(h:i<s.length):some (Ab (IntKind.i64.wrap (IntKind.i64.wrap (10*GK (s.take i))+IntKind.u8.wrap (((at_ s (i:Int)).toNat:Int)-48))))=some (Ab (GK (s.take (i+1)))):=by
 rw[Yv,D4 h,DE];unfold GK;rw[M7];rfl
theorem Xyd(s:Lu)(d:s.length<=1000000)(N:La)(a:Aa B w I N):Ce B I N 142 [S s] w (.tuple #[Ab (GK s),.bool (TW s)]):=by
 refine gG 6 (.lk [0,7] (σ:=Nat) (λi _m=>(4,Ab (GK (s.take i)))::(8,Ab (i:Nat))::_m) (λi w=>i<=s.length/\Aa B w I N) (λi=>s.length-i) 0 ⟨Y4 _,a⟩ ?_);rintro i w ⟨hi,a⟩;refine gN 1 ?_ ?_<;>intro c
 ·refine gH 3 (.val (.kS (.of O) (.of O)) O (gH 4 (.val (.uF (.of O) BP B1 (Xut _)) O (.val (.jO (.of O) (.of O)) O ?_))));refine gG 3 (⟨i+1,⟨Xus s i om,O,O,O,trivial⟩,⟨om,a⟩,om⟩)
 refine gH 10 (.Au (T:=λw=>Aa B w I _) O O O IG O (λb=>(X6 (.gd b O) (A3 O (A3 O X4)))) O (λb=>rU 48 57 s d _ a) a ?_);clear a;rintro w a;refine gG 3 ?_;rw[Yo om];exact⟨O,a⟩
theorem xe{a:List Pq}{x:Pq}(h:a[i]?=some x):Xe nm (a.take (i+1))=(if MM x.1 nm=true then(if(Xe nm (a.take i)).2=0 then x.2 else(Xe nm (a.take i)).1,(Xe nm (a.take i)).2+1)else Xe nm (a.take i)):=by
 rw[Yv,h,DE];unfold Xe;rw[M7];rfl
theorem vD(m t f:Lu)(p:Oa)(v:Nat)(a:List Pq)(nm:Lu)(C:a.length<=100)(l:∀h∈a,h.1.length<=1000000)(r:RS I p 2 a.length (X2 X5 a))(N:La)(c:Aa B w I N):Ce B I N 87 [.agg #[S m,S t,.slice p a.length v,S f],S nm] w (.tuple #[S (Xe nm a).1,Ab ((Xe nm a).2:Nat)]):=by
 refine gG 9 ?_;intro z w c;have g:=c.drop (k:=0) O;clear c;refine .lk [1,2,11,12] (σ:=Nat) (λi _m=>(6,S (Xe nm (a.take i)).1)::(7,Ab ((Xe nm (a.take i)).2:Nat))::(13,Ab (i:Nat))::_m) (λi w=>i<=a.length/\Aa B w I N) (λi=>a.length-i) 0 ⟨Y4 _,g⟩ ?_;rintro i w ⟨hi,c⟩;clear g;refine gN 1 ?_ ?_<;>intro n
 ·obtain⟨x,hx⟩:∃x,a[i]?=some x:=⟨_,Y2 om⟩
  have s:=l x (Y7 hx);have j:=gz nm (a.take i);rw[Yl]at j;obtain⟨q,rfl,u⟩:=Be (cells:=X5) (λ_=>rfl) r hx;refine gH 7 ?_;intro A w c;refine gE 0 (Xmn x.1 nm om) ?_;intro w c;refine gM 1 ?_ ?_<;>intro b o
  ·refine gG 2 ?_;have d:Xe nm (a.take (i+1))=Xe nm (a.take i):=by rw[xe hx,Y3 (su b)]
   refine⟨i+1,⟨by rw[d];rfl,by rw[d];rfl,O,O,O,O,O,trivial⟩,⟨om,(c.y 0 1)⟩,om⟩
  refine gN 2 ?_ ?_<;>intro e
  ·refine gG 8 ?_;have d:Xe nm (a.take (i+1))=(x.2,(Xe nm (a.take i)).2+1):=by rw[xe hx,Y9 (su b),Y9 (oh e)]
   refine⟨i+1,⟨by rw[d];rfl,by rw[d];rfl,O,O,O,O,O,trivial⟩,⟨om,(c.y 0 1)⟩,om⟩
  refine gG 5 ?_;have d:Xe nm (a.take (i+1))=((Xe nm (a.take i)).1,(Xe nm (a.take i)).2+1):=by rw[xe hx,Y9 (su b),Y3 (oh e)]
  refine⟨i+1,⟨by rw[d];rfl,by rw[d];rfl,O,O,O,O,O,trivial⟩,⟨om,(c.y 0 1)⟩,om⟩
 refine gG 4 ?_;rw[Yo om];exact⟨O,c⟩
theorem rG(s:Lu)(a:Nat)(q:s.length<=1000000)(m:a<=s.length)(N:La)(d:Aa B w I N):Ce B I N 46 [S s,Ab (a:Nat)] w (.tuple #[S (X3 (s.drop a)).1,Ab (GR s a)]):=by
 refine gG 4 (.lk [0,1] (σ:=Nat) (λi _m=>(6,Ab (i:Nat))::_m) (λi w=>a<=i/\i<=s.length/\(∀j,a<=j->j<i->Go.Lib.occAt s CR j=false)/\Aa B w I N) (λi=>s.length-i) a ⟨Ya _,m,λ_ _ h=>Yz h om,d⟩ ?_);rintro i w ⟨g,hi,c,d⟩;refine gN 5 ?_ ?_<;>intro n
 ·refine gM 11 ?_ ?_<;>intro b o
  ·refine gG 8 ?_;have k:=VN g om (by rw[We s i om];exact b) c;refine⟨?_,d⟩;unfold GR;rw[k,Y9 O,Y6];simp only[Yd]
   rw[show((i:Int)+2)=((s.length-(s.length-(i+2)):Nat):Int)by omega]
  refine gG 3 (rd (i+1) ⟨om,om,λj f p=>?_,d⟩);rcases Yt j i with l|l
  ·exact c j f l
  ·have e:j=i:=om
   subst e;rw[We s j om];exact b
 refine gG 2 ?_;have k:=QW m (λj f p=>c j f om);refine⟨?_,d⟩;unfold GR;rw[k,Y3 (λh=>by cases h)]
theorem X6r(c:Ui):((((decide (((c.toNat:Nat):Int)<97)||decide (122<((c.toNat:Nat):Int)))&&(decide (((c.toNat:Nat):Int)<65)||decide (90<((c.toNat:Nat):Int))))&&(decide (((c.toNat:Nat):Int)<48)||decide (57<((c.toNat:Nat):Int))))&&(((c.toNat:Nat):Int)!=45))=!Ef c:=eq_of_beq (Xc (p:=λc=>((((decide (((c.toNat:Nat):Int)<97)||decide (122<((c.toNat:Nat):Int)))&&(decide (((c.toNat:Nat):Int)<65)||decide (90<((c.toNat:Nat):Int))))&&(decide (((c.toNat:Nat):Int)<48)||decide (57<((c.toNat:Nat):Int))))&&(((c.toNat:Nat):Int)!=45))==!Ef c) dk c)
theorem vh(s:Lu)(g:s.length<=1000000)(N:La)(d:Aa B w I N):Ce B I N 69 [S s] w (.bool (List.all s (Ef)&&!s.isEmpty)):=by
 refine gG 2 (.lk [0] (σ:=Nat) (λi _m=>(3,Ab (i:Nat))::_m) (λi w=>i<=s.length/\List.all s (Ef)=List.all (s.drop i) (Ef)/\Aa B w I N) (λi=>s.length-i) 0 ⟨Y4 _,O,d⟩ ?_);rintro i w ⟨hi,a,d⟩;refine gN 4 ?_ ?_<;>intro f
 ·refine gH 14 (gH 14 ?_);refine gM 2 ?_ ?_<;>intro c e
  ·refine gG 1 ?_;have b:=c;rw[X6r]at b;refine⟨Yc Value.bool ?_,d⟩;rw[a,X7 s om,DR,show Ef (at_ s (i:Int))=false by simpa using b];rfl
  refine gG 3 ?_;have b:=c;rw[X6r]at b;refine rd (i+1) ⟨om,?_,d⟩;rw[a,X7 s om,DR,show Ef (at_ s (i:Int))=true by simpa using b,Cv]
 refine gG 3 (⟨Yc Value.bool ?_,d⟩);rw[a,Yb om];cases s<;>rfl
theorem X5r(lo:Ui)(c:Ui):(decide (((c.toNat:Nat):Int)<((lo.toNat:Nat):Int))||decide (126<((c.toNat:Nat):Int)))=!B_ lo 126 c:=by
 unfold B_;rw[Bool.not_and,show(126:Ui).toNat=126 from O,<-decide_not,<-decide_not]
 congr 1<;>exact decide_eq_decide.2 om
theorem u9(lo:Ui)(s:Lu)(g:s.length<=1000000)(N:La)(d:Aa B w I N):Ce B I N 70 [S s,U8 lo.toNat] w (.bool (List.all s (B_ lo 126))):=by
 refine gG 2 (.lk [0,1] (σ:=Nat) (λi _m=>(5,Ab (i:Nat))::_m) (λi w=>i<=s.length/\List.all s (B_ lo 126)=List.all (s.drop i) (B_ lo 126)/\Aa B w I N) (λi=>s.length-i) 0 ⟨Y4 _,O,d⟩ ?_);rintro i w ⟨hi,a,d⟩;refine gN 4 ?_ ?_<;>intro f
 ·refine gM 11 ?_ ?_<;>intro c e
  ·refine gG 1 ?_;have b:=c;rw[X5r lo]at b;refine⟨Yc Value.bool ?_,d⟩;rw[a,X7 s om,DR,show B_ lo 126 (at_ s (i:Int))=false by simpa using b];rfl
  refine gG 3 ?_;have b:=c;rw[X5r lo]at b;refine rd (i+1) ⟨om,?_,d⟩;rw[a,X7 s om,DR,show B_ lo 126 (at_ s (i:Int))=true by simpa using b,Cv]
 refine gG 1 (⟨Yc Value.bool ?_,d⟩);rw[a,Yb om];rfl
theorem X6t(c:Ui):(((((decide (((c.toNat:Nat):Int)<33)||decide (126<((c.toNat:Nat):Int)))||(((c.toNat:Nat):Int)==34))||(((c.toNat:Nat):Int)==44))||(((c.toNat:Nat):Int)==59))||(((c.toNat:Nat):Int)==92))=!HO c:=eq_of_beq (Xc (p:=λc=>(((((decide (((c.toNat:Nat):Int)<33)||decide (126<((c.toNat:Nat):Int)))||(((c.toNat:Nat):Int)==34))||(((c.toNat:Nat):Int)==44))||(((c.toNat:Nat):Int)==59))||(((c.toNat:Nat):Int)==92))==!HO c) dk c)
theorem Xpp(s:Lu)(g:s.length<=1000000)(N:La)(d:Aa B w I N):Ce B I N 76 [S s] w (.bool (List.all s (HO))):=by
 refine gG 2 (.lk [0] (σ:=Nat) (λi _m=>(3,Ab (i:Nat))::_m) (λi w=>i<=s.length/\List.all s (HO)=List.all (s.drop i) (HO)/\Aa B w I N) (λi=>s.length-i) 0 ⟨Y4 _,O,d⟩ ?_);rintro i w ⟨hi,a,d⟩;refine gN 4 ?_ ?_<;>intro f
 ·refine gH 14 ?_;refine gM 12 ?_ ?_<;>intro c e
  ·refine gG 1 ?_;have b:=c;rw[X6t]at b;refine⟨Yc Value.bool ?_,d⟩;rw[a,X7 s om,DR,show HO (at_ s (i:Int))=false by simpa using b];rfl
  refine gG 3 ?_;have b:=c;rw[X6t]at b;refine rd (i+1) ⟨om,?_,d⟩;rw[a,X7 s om,DR,show HO (at_ s (i:Int))=true by simpa using b,Cv]
 refine gG 1 (⟨Yc Value.bool ?_,d⟩);rw[a,Yb om];rfl
theorem tT(c:Ui):(((c.toNat:Nat):Int)==32||((c.toNat:Nat):Int)==9)=[32,9].contains c:=eq_of_beq (Xc (p:=λc=>(((c.toNat:Nat):Int)==32||((c.toNat:Nat):Int)==9)==[32,9].contains c) dk c)
theorem tn(c:Ui):(((c.toNat:Nat):Int)==32)=(c==32):=eq_of_beq (Xc (p:=λc=>(((c.toNat:Nat):Int)==32)==(c==32)) dk c)
theorem Xtj(s:Lu)(o:s.length<=1000000)(N:La)(e:Aa B w I N):Ce B I N 68 [S s] w (S (Go.Lib.trimS s [32,9])):=by
 refine gG 1 (.loop (σ:=Lu) (λt=>[(0,S t)]) (λt w=>t.length<=s.length/\s.dropWhile (λc=>[32,9].contains c)=t.dropWhile (λc=>[32,9].contains c)/\Aa B w I N) (λt=>t.length) s ⟨O,trivial⟩ ⟨Ya _,O,e⟩ ?_);rintro t w ⟨m,l,e⟩;refine gM 13 ?_ ?_<;>intro b j
 ·refine gG 3 ?_;have f:0<t.length:=by have a:=b;simp only[Y8,dq1]at a;omega
  refine rd (t.drop 1) ⟨by rw[Y6];omega,?_,e⟩ (by rw[Y6];omega);rw[l,Nz f (by have a:=b;simp only[Y8]at a;rw[<-tT];exact a.2)]
 refine gG 0 ?_;have i:s.dropWhile (λc=>[32,9].contains c)=t:=by
  rw[l];exact NA λa=>by
   have g:=b;rw[decide_eq_true (show(0:Int)<(t.length:Nat)by omega),Cv]at g;rw[<-tT];exact g
 refine .loop (σ:=Lu) (λu=>[(0,S u)]) (λu w=>u.length<=s.length/\H0 (λc=>[32,9].contains c) (s.dropWhile (λc=>[32,9].contains c))=H0 (λc=>[32,9].contains c) u/\Aa B w I N) (λu=>u.length) t ⟨O,trivial⟩ ⟨m,by rw[i],e⟩ ?_;rintro u w ⟨n,h,e⟩;refine gH 14 ?_;refine gM 5 ?_ ?_<;>intro d k
 ·refine gG 6 ?_;have f:0<u.length:=by have a:=d;simp only[Y8,dq1]at a;omega
  refine A_ _ O ⟨by rw[Yl];omega,?_,e⟩ (by rw[Yl];omega);rw[h,Oj f O (by have a:=d;simp only[Y8]at a;rw[<-tT];exact a.2)]
 refine gG 2 (⟨?_,e⟩);rw[RP,h];refine Yc S (Xwl λa=>?_).symm;have g:=d;rw[decide_eq_true (show(0:Int)<(u.length:Nat)by omega),Cv]at g;rw[<-tT];exact g
theorem Xpo(s:Lu)(o:s.length<=1000000)(N:La)(e:Aa B w I N):Ce B I N 75 [S s] w (S (Go.Lib.trimB s 32)):=by
 refine gG 1 (.loop (σ:=Lu) (λt=>[(0,S t)]) (λt w=>t.length<=s.length/\s.dropWhile (λc=>c==32)=t.dropWhile (λc=>c==32)/\Aa B w I N) (λt=>t.length) s ⟨O,trivial⟩ ⟨Ya _,O,e⟩ ?_);rintro t w ⟨m,l,e⟩;refine gM 8 ?_ ?_<;>intro b j
 ·refine gG 3 ?_;have f:0<t.length:=by have a:=b;simp only[Y8,dq1]at a;omega
  refine rd (t.drop 1) ⟨by rw[Y6];omega,?_,e⟩ (by rw[Y6];omega);rw[l,Nz f (by have a:=b;simp only[Y8]at a;rw[<-tn];exact a.2)]
 refine gG 0 ?_;have i:s.dropWhile (λc=>c==32)=t:=by
  rw[l];exact NA λa=>by
   have g:=b;rw[decide_eq_true (show(0:Int)<(t.length:Nat)by omega),Cv]at g;rw[<-tn];exact g
 refine .loop (σ:=Lu) (λu=>[(0,S u)]) (λu w=>u.length<=s.length/\H0 (λc=>c==32) (s.dropWhile (λc=>c==32))=H0 (λc=>c==32) u/\Aa B w I N) (λu=>u.length) t ⟨O,trivial⟩ ⟨m,by rw[i],e⟩ ?_;rintro u w ⟨n,h,e⟩;refine gM 11 ?_ ?_<;>intro d k
 ·refine gG 6 ?_;have f:0<u.length:=by have a:=d;simp only[Y8,dq1]at a;omega
  refine A_ _ O ⟨by rw[Yl];omega,?_,e⟩ (by rw[Yl];omega);rw[h,Oj f O (by have a:=d;simp only[Y8]at a;rw[<-tn];exact a.2)]
 refine gG 2 (⟨?_,e⟩);rw[RO,h];refine Yc S (Xwl λa=>?_).symm;have g:=d;rw[decide_eq_true (show(0:Int)<(u.length:Nat)by omega),Cv]at g;rw[<-tn];exact g
theorem VU{c:Ui}(h:(decide (65<=((c.toNat:Nat):Int))&&decide (((c.toNat:Nat):Int)<=90))=true):some (Value.int .u8 (IntKind.u8.wrap (((c.toNat:Nat):Int)+32)))=some (U8 (Ek c).toNat):=by
 have a:=Xc (p:=λc=>!(decide (65<=((c.toNat:Nat):Int))&&decide (((c.toNat:Nat):Int)<=90))||(IntKind.u8.wrap (((c.toNat:Nat):Int)+32)==(((Ek c).toNat:Nat):Int))) dk c;rw[h,jK,K9]at a;rw[eq_of_beq a]
theorem VR{c:Ui}(h:(decide (65<=((c.toNat:Nat):Int))&&decide (((c.toNat:Nat):Int)<=90))=false):some (Value.int .u8 ((c.toNat:Nat):Int))=some (U8 (Ek c).toNat):=by
 have a:Ek c=c:=by
  unfold Ek;rw[Y3];simp only[Y8,dq1,Bool.and_eq_false_imp,dq2]at h ⊢
  omega
 rw[a]
theorem Xd4(s t:Lu)(o:s.length<=1000000)(N:La)(a:Aa B w I N):Ce B I N 73 [S s,S t] w (.bool (MM s t)):=by
 refine gN 6 ?_ ?_<;>intro f
 ·refine gG 1 (⟨Yc Value.bool ?_,a⟩);unfold MM;rw[show(s.length==t.length)=false from by have n:=f;simp;omega];rfl
 have g:s.length=t.length:=by have n:=f;omega
 refine gG 1 (.lk [0,1] (σ:=Nat) (λi _m=>(5,Ab (i:Nat))::_m) (λi w=>i<=s.length/\(s.map Ek==t.map Ek)=((s.drop i).map Ek==(t.drop i).map Ek)/\Aa B w I N) (λi=>s.length-i) 0 ⟨Y4 _,O,a⟩ ?_);rintro i w ⟨hi,b,a⟩;refine gN 4 ?_ ?_<;>intro h
 ·refine gH 8 (.nil (.ck [0,1,5,7] (σ:=Ui) (λx _m=>(6,U8 x.toNat)::_m) (λx w=>x=Ek (at_ s (i:Int))/\Aa B w I N) ?_ ?_))
  ·refine gM 6 ?_ ?_<;>intro c j
   ·exact gG 3 ⟨_,⟨VU c,O,O,O,O,trivial⟩,O,a⟩
   exact gG 0 ⟨_,⟨VR c,O,O,O,O,trivial⟩,O,a⟩
  rintro x w ⟨hx,a⟩;refine .ck [0,1,5,6] (σ:=Ui) (λy _m=>(7,U8 y.toNat)::_m) (λy w=>y=Ek (at_ t (i:Int))/\Aa B w I N) ?_ ?_
  ·refine gM 6 ?_ ?_<;>intro d k
   ·exact gG 3 ⟨_,⟨VU d,O,O,O,O,trivial⟩,O,a⟩
   exact gG 0 ⟨_,⟨VR d,O,O,O,O,trivial⟩,O,a⟩
  rintro y w ⟨m,a⟩;refine gM 3 ?_ ?_<;>intro e l
  ·refine gG 1 (⟨Yc Value.bool ?_,a⟩);unfold MM;rw[b,X7 s om,X7 t om,Yu,Yu,nE,show(Ek (at_ s (i:Int))==Ek (at_ t (i:Int)))=false from by rw[<-hx,<-m];exact LK (su e),pN,T7]
  refine gG 3 (rd (i+1) ⟨om,?_,a⟩);rw[b,X7 s om,X7 t om,Yu,Yu,nE,show(Ek (at_ s (i:Int))==Ek (at_ t (i:Int)))=true from by rw[<-hx,<-m];exact LJ (su e),Cv]
 refine gG 1 (⟨Yc Value.bool ?_,a⟩);unfold MM;rw[b,Yb om,Yb om,g];simp
theorem Xg8(c:Ui)(s:Lu)(R:s.length<=1000000)(N:La)(d:Aa B w I N):Cz 74 [S s,U8 c.toNat] w λv w'=>Aa B w' I (An 9 1 v (AK c s).length ((AK c s).map S)::N):=by
 refine gG 4 ?_;replace d:=d.Ai 9 1;refine .lk [0,1] (σ:=Va×List Lu×Nat×Nat) (λ(p,b,a,i) _m=>(5,p)::(6,Ab (a:Nat))::(7,Ab (i:Nat))::_m) (λ(p,b,a,i) w=>i<=s.length/\a<=i/\AK c s=b++AK c (s.drop a)/\(∀j,a<=j->j<i->at_ s (j:Int)≠c)/\Aa B w I (An 9 1 p b.length (b.map S)::N)) (λ(p,b,a,i)=>s.length-i) (.slice none 0 0,[],0,0) ⟨Y4 _,Y4 _,O,λ_ m n=>by(try dsimp only at m n);omega,d⟩ ?_;rintro⟨p,b,a,i⟩ w ⟨hi,M,g,h,d⟩;refine gN 4 ?_ ?_<;>intro C
 ·refine gM 5 ?_ ?_<;>intro f D
  ·have l:=Yc List.length g;rw[Y0]at l;have y:=oW c s;have P:1<=(AK c (s.drop a)).length:=K6.2 (tQ c _);obtain⟨ka,Q,rfl,u,_⟩:=d.vS 0;refine gH 4 (.val (.H7 (.of O) (.of O) (.of O) om om om A8) O ?_);simp only[Yd]
   refine gG 9 ?_;intro G E J r w d;refine A_ (_,b++[(s.drop a).take (i-a)],_,_) O ⟨od,od,?_,λj m n=>by(try dsimp only at m n);omega,?_⟩
   ·rw[g,LO (i:=i-a) (by rw[Hk,show a+(i-a)=i by omega,D4 om];congr 1;exact CS.1 (by show(at_ s (i:Int)).toNat=c.toNat;simp only[beq_iff_eq]at f;omega)) (λq k e=>by
     rw[Hk,D4 om]at e;injection e with e
     exact h (a+q) om om e),Gj,show a+(i-a+1)=i+1 by omega,Yg]
    rfl
   ·rw[Yn,Y0];exact d
  refine gG 3 (A_ (_,b,a,i+1) O ⟨om,om,g,λj m n=>?_,d⟩);rcases Yt j i with A|A
  ·exact h j m A
  ·have e:j=i:=by(try dsimp only at n);omega
   subst e;simp only[beq_eq_false_iff_ne]at f
   exact λe=>f (by rw[e])
 have l:=Yc List.length g;rw[Y0]at l;have y:=oW c s;obtain⟨ka,Q,rfl,u,_⟩:=d.vS 0;refine gH 3 (.val (.Ee (.of O) (.of O) om om A8) O ?_);simp only[Yd]
 refine gG 3 ?_;intro H F K t w d;have o:AK c s=b++[s.drop a]:=by
  rw[g,sH c (s.drop a) λx hx L=>?_];obtain⟨q,k⟩:=EA.1 hx;rw[Hk]at k;have z:=(Y1.1 k).1;rw[D4 z]at k;injection k with k
  exact h (a+q) om om (k.trans L)
 refine ?_;rw[o,Yn,Y0];exact d
theorem u7(m t b:Lu)(v:Oa)(z:Nat)(a:List Pq)(nm:Lu)(H:a.length<=100)(u:∀h∈a,h.1.length<=1000000)(D:RS I v 2 a.length (X2 X5 a))(N:La)(d:Aa B w I N):Ce B I N 31 [.agg #[S m,S t,.slice v a.length z,S b],S nm] w (.tuple #[S (Xe nm a).1,Ab ((Xe nm a).2:Nat)]):=by
 refine gG 10 ?_;intro A w d;refine .lk [1,2] (σ:=Lu×Nat×Nat×Int) (λ(o,n,i,j) _m=>(6,S o)::(7,Ab (n:Nat))::(8,Ab j)::_m) (λ(o,n,i,j) w=>j=(i:Int)-1/\i<=a.length/\Xe nm (a.drop i)=(o,n)/\Aa B w I (Ac A [S m,S t,.slice v a.length z,S b] 51::N)) (λ(o,n,i,j)=>i) ([],0,a.length,(a.length:Int)-1) ⟨O,Ya _,by rw[Yb (Ya _)];rfl,d⟩ ?_;rintro⟨o,n,i,j⟩ w ⟨G,hi,l,d⟩;have f:=gz nm (a.drop i);rw[l,Y6]at f;dsimp only at f
 refine gN 2 ?_ ?_<;>intro e
 ·obtain⟨k,rfl⟩:∃k,i=k+1:=⟨i-1,by have F:=e;omega⟩
  obtain rfl:j=(k:Int):=om
  obtain⟨x,p⟩:∃x,a[k]?=some x:=⟨_,Y2 om⟩
  obtain⟨q,r,hx⟩:=aN (cells:=X5) (λ_=>rfl) D p;subst r;have g:a.drop k=x::a.drop (k+1):=by rw[Ym (Y1.1 p).1,(Y1.1 p).2]
  have E:=u x (Y7 p);refine gE 7 (Xd4 x.1 nm om) ?_;intro w d;refine gM 2 ?_ ?_<;>intro c y
  ·refine gG 13 (A_ (_,_,k,_) O ⟨O,om,by rw[g,Xfi nm,Y9 (su c),l],d⟩)
  refine gG 3 (A_ (_,n,k,_) O ⟨O,om,by rw[g,Xfi nm,Y3 (su c),l],d⟩)
 refine gG 4 ?_;have C:i=0:=om
 subst C;rw[FY]at l;rw[l];exact⟨O,d.s⟩
theorem Xte(l:List Pq)(p:Oa)(t:Nat)(nm:Lu)(y:l.length<=100000)(s:RS I p 2 l.length (X2 X5 l))(N:La)(b:Aa B w I N):Ce B I N 33 [.slice p l.length t,S nm] w (.tuple #[S (DD nm l).1,Ab ((DD nm l).2:Nat)]):=by
 refine gG 8 ?_;refine .lk [0,1] (σ:=Lu×Nat×Nat×Int) (λ(g,n,i,j) _m=>(6,S g)::(7,Ab (n:Nat))::(8,Ab j)::_m) (λ(g,n,i,j) w=>j=(i:Int)-1/\i<=l.length/\DD nm (l.drop i)=(g,n)/\Aa B w I N) (λ(g,n,i,j)=>i) ([],0,l.length,(l.length:Int)-1) ⟨O,Ya _,by rw[Yb (Ya _)];rfl,b⟩ ?_;rintro⟨g,n,i,j⟩ w ⟨v,hi,f,b⟩;have d:=gy nm (l.drop i);rw[f,Y6]at d;dsimp only at d
 refine gN 2 ?_ ?_<;>intro c
 ·obtain⟨k,rfl⟩:∃k,i=k+1:=⟨i-1,by have u:=c;omega⟩
  obtain rfl:j=(k:Int):=om
  obtain⟨x,m⟩:∃x,l[k]?=some x:=⟨_,Y2 om⟩
  obtain⟨q,h,hx⟩:=aN (cells:=X5) (λ_=>rfl) s m;subst h;have e:l.drop k=x::l.drop (k+1):=by rw[Ym (Y1.1 m).1,(Y1.1 m).2]
  refine gM 7 ?_ ?_<;>intro a o
  ·refine gG 12 (A_ (_,_,k,_) O ⟨O,om,by rw[e,Xvb nm,Y9 (su a),f],b⟩)
  refine gG 3 (A_ (_,n,k,_) O ⟨O,om,by rw[e,Xvb nm,Y3 (su a),f],b⟩)
 refine gG 4 ?_;have r:i=0:=om
 subst r;rw[FY]at f;rw[f];exact⟨O,b⟩
theorem oG{s:Lu}{c:Ui}(hi:i<s.length)(k:at_ s (i:Int)=c)(g:∀j,j<i->at_ s (j:Int)≠c):C_ c s=(s.take i,s.drop (i+1),true):=by
 have e:s=s.take i++s.drop i:=(Fw i s).symm;have h:=wT (Ar:=[c]) (a:=s.take i) (b:=s.drop i) (λx hx=>by
  obtain⟨j,d⟩:=EA.1 hx;rw[PO]at d;split at d
  ·rename_i f
   rw[D4 om]at d;injection d with d
   have:=g j f
   rw[d]at this;simpa using this
  ·cases d) (λx hx=>by
  rw[X7 s hi,k]at hx;simp at hx
  rw[<-hx];simp)
 rw[<-e]at h;unfold C_;rw[h.1,h.2,Gj,X7 s hi];rfl
theorem wu{s:Lu}{c:Ui}(f:∀j,j<s.length->at_ s (j:Int)≠c):C_ c s=(s,[],false):=by
 have h:=wT (Ar:=[c]) (a:=s) (b:=[]) (λx hx=>by
  obtain⟨j,d⟩:=EA.1 hx;have e:=(Y1.1 d).1;rw[D4 e]at d;injection d with d
  have:=f j e
  rw[d]at this;simpa using this) (λx hx=>by simp at hx)
 rw[Yy]at h;unfold C_;rw[h.1,h.2];rfl
theorem Xd7(m t d:Lu)(n:Oa)(p o:Nat)(u:t.length<=1000000)(N:La)(f:Aa B w I N):Ce B I N 12 [.agg #[S m,S t,.slice n p o,S d]] w (.tuple #[S (C_ 63 t).1,S (C_ 63 t).2.1]):=by
 refine gG 4 ?_;intro b1 w f;refine .lk [1] (σ:=Nat) (λi _m=>(4,Ab (i:Nat))::_m) (λi w=>i<=t.length/\(∀j,j<i->at_ t (j:Int)≠63)/\Aa B w I (Ac b1 [S m,S t,.slice n p o,S d] 51::N)) (λi=>t.length-i) 0 ⟨Y4 _,λ_ h=>Yz h om,f⟩ ?_;rintro i w ⟨hi,g,f⟩;refine gN 5 ?_ ?_<;>intro b
 ·refine gM 5 ?_ ?_<;>intro a l
  ·refine gG 0 (gQ ?_);intro w f;refine gG 11 ?_;have b:=oG (c:=63) (i:=i) om (CS.1 (by show(at_ t (i:Int)).toNat=63;have q:=a;simp only[beq_iff_eq]at q;omega)) g;refine⟨?_,f.s⟩;rw[b];rfl
  refine gG 3 (rd (i+1) ⟨om,λj r=>?_,f⟩);rcases Yt j i with k|k
  ·exact g j k
  ·have e:j=i:=om
   subst e;intro e;rw[e]at a;exact Yz a de
 refine gG 4 ?_;have b:=wu (c:=63) (λj r=>g j om);refine⟨?_,f.s⟩;rw[b]
def TQ(a:List Pq):Int:=if(Xy a).2≠0 then -1 else(Xy a).1
theorem vX{a:List Pq}(h:(Xy a).2=18):TQ a=-1:=by unfold TQ;rw[h,Y9 de]
theorem Xpl{a:List Pq}{n:Int}(h:Xy a=(n,0)):TQ a=n:=by unfold TQ;rw[h,Y3 (λh=>h O)]
theorem VK{a:List Pq}(h:(decide ((0:Int)<((Xe TE a).2:Nat))||decide ((1:Int)<((Xe CL a).2:Nat)))=true):(Xy a).2=18:=by
 simp only[EC,dq1]at h
 unfold Xy
 by_cases b:0<(Xe TE a).2
 ·rw[Y9 b]
 ·rw[Y3 b,Y3 om,Y9];rw[EC];exact .inl (decide_eq_true om)
theorem VL{a:List Pq}(h:(decide ((0:Int)<((Xe TE a).2:Nat))||decide ((1:Int)<((Xe CL a).2:Nat)))=false)(b:(Xe CL a).2=0):Xy a=(0,0):=by
 simp only[EB,dq2]at h
 unfold Xy;rw[Y3 om,Y9 b]
theorem xR{a:List Pq}(h:(decide ((0:Int)<((Xe TE a).2:Nat))||decide ((1:Int)<((Xe CL a).2:Nat)))=false)(b:(Xe CL a).2≠0):Xy a=if TW (Xe CL a).1=true then(GK (Xe CL a).1,0)else(0,18):=by
 simp only[EB,dq2]at h
 unfold Xy;rw[Y3 om,Y3 b,decide_eq_false h.2,K9];cases TW (Xe CL a).1<;>rfl
theorem UL(c:Ui):(decide (((c.toNat:Nat):Int)<48)||decide (57<((c.toNat:Nat):Int)))=!B_ 48 57 c:=eq_of_beq (Xc (p:=λc=>(decide (((c.toNat:Nat):Int)<48)||decide (57<((c.toNat:Nat):Int)))==!B_ 48 57 c) dk c)
theorem bZ{s:Lu}(h:(s==[]||decide ((4:Int)<(s.length:Nat)))=true):TW s=false:=by
 unfold TW;rw[EC,dq1]at h;rcases h with h|h
 ·rw[eq_of_beq h];rfl
 ·rw[decide_eq_false om,T7,pN]
theorem UN{s:Lu}(h:(s==[]||decide ((4:Int)<(s.length:Nat)))=false):(s !=[]&&decide ((s.length:Int)<=4))=true:=by
 rw[EB,dq2]at h;rw[decide_eq_true om,pP];unfold bne;rw[h.1];rfl
theorem Xlh(m t g:Lu)(l:Oa)(n:Nat)(b:List Pq)(y:b.length<=100)(z:∀h∈b,h.1.length<=1000000/\h.2.length<=1000000)(p:RS I l 2 b.length (X2 X5 b))(N:La)(d:Aa B w I N):Ce B I N 71 [.agg #[S m,S t,.slice l b.length n,S g]] w (Ab (TQ b)):=by
 refine gH 3 ?_;intro b1 w d;refine gE 0 (u7 m t _ l n b TE y (λh o=>(z h o).1) p) ?_;intro w d;refine gE 6 (u7 m t _ l n b CL y (λh o=>(z h o).1) p) ?_;intro w d;refine gM 11 ?_ ?_<;>intro a r
 ·exact gG 1 ⟨by rw[vX (VK a)],d.s⟩
 refine gM 2 ?_ ?_<;>intro q c
 ·exact gG 1 ⟨by rw[Xpl (VL a (oh c))],d.s⟩
 refine gM 7 ?_ ?_<;>intro j u
 ·refine gG 1 ?_;refine⟨by rw[vX];rw[xR a (oh c),Y3];rw[bZ j];decide,d.s⟩
 refine gG 2 (.lk [5] (σ:=Nat) (λi _m=>(7,Ab (GK ((Xe CL b).1.take i)))::(8,Ab (i:Nat))::_m) (λi w=>i<=(Xe CL b).1.length/\List.all (Xe CL b).1 (B_ 48 57)=List.all ((Xe CL b).1.drop i) (B_ 48 57)/\Aa B w I (Ac b1 [S m,S t,.slice l b.length n,S g] 51::N)) (λi=>(Xe CL b).1.length-i) 0 ⟨Y4 _,O,d⟩ ?_);rintro i w ⟨hi,e,d⟩;refine gN 4 ?_ ?_<;>intro v
 ·refine gM 10 ?_ ?_<;>intro k x
  ·refine gG 1 ?_;have f:=k;rw[UL]at f;refine⟨by rw[vX];rw[xR a (oh c),Y3];unfold TW;rw[e,X7 _ om,DR,show B_ 48 57 (at_ (Xe CL b).1 (i:Int))=false by simpa using f,pN,T7];decide,d.s⟩
  refine gH 1 (.val (.kS (.of O) (.of O)) O (gH 4 (.val (.uF (.of O) BP B1 (Xut _)) O (.val (.jO (.of O) (.of O)) O ?_))));refine gG 4 ?_;have f:=k;rw[UL]at f;refine⟨i+1,⟨Xus (Xe CL b).1 i om,O,O,trivial⟩,⟨om,?_,d⟩,om⟩;rw[e,X7 _ om,DR,show B_ 48 57 (at_ (Xe CL b).1 (i:Int))=true by simpa using f,Cv]
 refine gG 2 (⟨?_,d.s⟩);rw[Xpl (by rw[xR a (oh c),Y9];unfold TW;rw[e,Yb om,UN j];rfl),Yo om]
def o7(p:List Lu):Bool:=((((((p.length:Nat):Int)!=3||p.getD 0 []==[])||p.getD 1 []==[])||((at_ (p.getD 1 []) 0).toNat:Int)!=47)||!List.all (p.getD 1 []) (B_ 33 126))||p.getD 2 []!=h_
theorem q4(s:Lu):(!tu s)=((s==[]||((at_ s 0).toNat:Int)!=47)||!List.all s (B_ 33 126)):=by
 have e:∀a:Ui,(47==a)=(((a.toNat:Nat):Int)==47):=λa=>eq_of_beq (Xc (p:=λa=>(47==a)==(((a.toNat:Nat):Int)==47)) dk a)
 cases s with
 | nil=>rfl
 | cons c r =>
  unfold tu;rw[show Go.Lib.hasPrefix (c::r) [47]=(47==c)by simp[Go.Lib.hasPrefix,List.isPrefixOf],e c,show((c::r)==[])=false from O,show at_ (c::r) 0=c from O,K9,Bool.not_and];rfl
theorem sW(p:List Lu):fz p=(o7 p||!List.all (p.getD 0 []) (B_ 65 90)):=by
 unfold fz o7;rw[q4];generalize (((p.length:Nat):Int)!=3)=a;generalize (p.getD 0 []==[])=b;generalize (p.getD 1 []==[])=c;generalize (((at_ (p.getD 1 []) 0).toNat:Int)!=47)=d;generalize List.all (p.getD 1 []) (B_ 33 126)=e;generalize (p.getD 2 []!=h_)=a6;generalize List.all (p.getD 0 []) (B_ 65 90)=f
 revert a b c d e a6 f;decide
theorem YH(c:Ui):(decide (((c.toNat:Nat):Int)<65)||decide (90<((c.toNat:Nat):Int)))=!B_ 65 90 c:=eq_of_beq (Xc (p:=λc=>(decide (((c.toNat:Nat):Int)<65)||decide (90<((c.toNat:Nat):Int)))==!B_ 65 90 c) dk c)
theorem Xlf(l:Lu)(E:l.length<=1000000)(N:La)(b:Aa B w I N):Cz 67 [S l] w λv w'=>∃J,Le I J/\v=.tuple #[.agg #[S (Et l).1,S (Et l).2.1,.slice none 0 0,S []],Ab ((Et l).2.2:Nat)]/\Aa B w' J N:=by
 refine gH 3 ?_;clear b;intro C w b;refine gF 0 (Xg8 32 l E) ?_;clear b;rintro K w b;obtain⟨G,D,rfl,A,_⟩:=b.vS 0;obtain⟨J,o,q,r⟩:=b.fV 0;clear b;have b:=r;clear r;try dsimp only[List.eraseIdx]at b
 obtain⟨H,rfl,f⟩:=q.2 (by exact K6.2 (tQ 32 l));refine gH 6 (.Aj O O (λa=>.AD (.gd a O) (.of O) om (by simp at a;omega) D6 AQ) O ?_);refine .Aj O O (λa=>.ld1 (v:=S ((AK 32 l).getD 0 [])) (.gd a O) (by have c:=Xv b f (G8 (p:=(AK 32 l)) (k:=0) (by have d:=a;simp at d;omega));simpa using c) Bg) O ?_;refine gH 4 (.Aj O O (λa=>.AD (.gd a O) (.of O) om (by simp at a;omega) D6 AQ) O ?_);refine .Aj O O (λa=>.ld1 (v:=S ((AK 32 l).getD 1 [])) (.gd a O) (by have c:=Xv b f (G8 (p:=(AK 32 l)) (k:=1) (by have d:=a;simp at d;omega));simpa using c) Bg) O ?_;refine gH 4 (.Aj O O (λa=>.AD (.gd a O) (.of O) om (by simp at a;omega) D6 AQ) O ?_);refine .Aj O O (λa=>.ld1 (v:=S ((AK 32 l).getD 1 [])) (.gd a O) (by have c:=Xv b f (G8 (p:=(AK 32 l)) (k:=1) (by have d:=a;simp at d;omega));simpa using c) Bg) O ?_;refine .Aj O O (λa=>(.index (.gd a O) (.of O) om (by have d:=a;simp only[EB,beq_eq_false_iff_ne]at d;have c:=K6.2 d.2;omega) A8)) O ?_;refine gH 4 (.Aj O O (λa=>.AD (.gd a O) (.of O) om (by simp at a;omega) D6 AQ) O ?_);refine .Aj O O (λa=>.ld1 (v:=S ((AK 32 l).getD 1 [])) (.gd a O) (by have c:=Xv b f (G8 (p:=(AK 32 l)) (k:=1) (by have d:=a;simp at d;omega));simpa using c) Bg) O ?_;refine .Au (T:=λw=>Aa B w J _) O O O func70 O (λa=>(X6 (.gd a O) (A3 O X4))) O (λa=>u9 33 ((AK 32 l).getD 1 []) (oh (mC l 1)) _ b) b ?_;clear b;rintro w b;refine gH 4 (.Aj O O (λa=>.AD (.gd a O) (.of O) om (by simp at a;omega) D6 AQ) O ?_);refine .Aj O O (λa=>.ld1 (v:=S ((AK 32 l).getD 2 [])) (.gd a O) (by have c:=Xv b f (G8 (p:=(AK 32 l)) (k:=2) (by have d:=a;simp at d;omega));simpa using c) Bg) O ?_;refine gM 2 ?_ ?_<;>intro g u
 ·refine gH 3 ?_;intro w b;exact gG 0 ⟨J,o,by unfold Et;rw[Y9 (by rw[sW,show o7 _=true from g];rfl)];rfl,b.s⟩
 have F:=mC l 0;refine gG 1 (.lk [2,4] (σ:=Nat) (λi _m=>(5,Ab (i:Nat))::_m) (λi w=>i<=((AK 32 l).getD 0 []).length/\List.all ((AK 32 l).getD 0 []) (B_ 65 90)=List.all (((AK 32 l).getD 0 []).drop i) (B_ 65 90)/\Aa B w J (Ac C [S [],S [],.slice none 0 0,S []] 51::N)) (λi=>((AK 32 l).getD 0 []).length-i) 0 ⟨Y4 _,O,b⟩ ?_);rintro i w ⟨hi,e,b⟩;refine gH 3 ?_;refine .val (v:=S ((AK 32 l).getD 0 [])) (.ld1 (.of O) (by have c:=Xv b f (G8 (p:=(AK 32 l)) (k:=0) om);simpa using c) Bg) O ?_;refine gM 2 ?_ ?_<;>intro t x
 ·refine gH 2 ?_;refine .val (v:=S ((AK 32 l).getD 0 [])) (.ld1 (.of O) (by have c:=Xv b f (G8 (p:=(AK 32 l)) (k:=0) om);simpa using c) Bg) O ?_;refine gH 5 (.Aj O O (λa=>.AD (.gd a O) (.of O) om (by simp at a;omega) D6 AQ) O ?_);refine .Aj O O (λa=>.ld1 (v:=S ((AK 32 l).getD 0 [])) (.gd a O) (by have c:=Xv b f (G8 (p:=(AK 32 l)) (k:=0) (by have d:=a;simp at d;omega));simpa using c) Bg) O ?_;refine gM 4 ?_ ?_<;>intro j y
  ·refine gH 3 ?_;intro w b;refine gG 0 ?_;have h:=j;rw[YH]at h;exact⟨J,o,by unfold Et;rw[Y9 (by rw[sW,e,X7 _ om,DR,show B_ 65 90 (at_ ((AK 32 l).getD 0 []) (i:Int))=false by simpa using h];simp)];rfl,b.s⟩
  refine gG 3 ?_;have h:=j;rw[YH]at h;refine rd (i+1) ⟨om,?_,b⟩;rw[e,X7 _ om,DR,show B_ 65 90 (at_ ((AK 32 l).getD 0 []) (i:Int))=true by simpa using h,Cv]
 refine gH 2 ?_;refine .val (v:=S ((AK 32 l).getD 0 [])) (.ld1 (.of O) (by have c:=Xv b f (G8 (p:=(AK 32 l)) (k:=0) om);simpa using c) Bg) O ?_;refine gH 3 (.Aj O O (λa=>.AD (.gd a O) (.of O) om (by simp at a;omega) D6 AQ) O ?_);refine .Aj O O (λa=>.ld1 (v:=S ((AK 32 l).getD 0 [])) (.gd a O) (by have c:=Xv b f (G8 (p:=(AK 32 l)) (k:=0) (by have d:=a;simp at d;omega));simpa using c) Bg) O ?_;refine gM 2 ?_ ?_<;>intro m z
 ·refine gH 3 ?_;intro w b;refine gG 0 ?_;have n:fz (AK 32 l)=false:=by rw[sW,show o7 _=false from g,e,Yb om];rfl
  exact⟨J,o,by unfold Et;rw[Y3 (nB n),Y9 (show o6 _=true from m)];rfl,b.s⟩
 refine gG 0 (.tail 7 kr kr ?_);replace b:=b.drew;generalize w.drew=w at b ⊢;refine .vm O O (.val (by exact .ii O O om om D6 AQ) O ?_);refine .val (v:=S ((AK 32 l).getD 0 [])) (.ld1 (.of O) (by have c:=Xv b f (G8 (p:=(AK 32 l)) (k:=0) om);simpa using c) Bg) O ?_;refine .vm O O (.val (by exact .ii O O om om D6 AQ) O ?_);refine .val (v:=S ((AK 32 l).getD 1 [])) (.ld1 (.of O) (by have c:=Xv b f (G8 (p:=(AK 32 l)) (k:=1) om);simpa using c) Bg) O ?_;refine .val (.build (cs:=[_,_,_,_]) (IC O (IC O TC)) Xng O) O (.nil ?_);show WL _ _ _ _ _ _ _
 refine .dr (gH 2 ?_);intro w b;refine gG 0 ?_;have n:fz (AK 32 l)=false:=by rw[sW,show o7 _=false from g,e,Yb om];rfl
 exact⟨J,o,by unfold Et;rw[Y3 (nB n),Y3 (nB (show o6 _=false from m))];rfl,b.s⟩
theorem NZ{s:Lu}{a:Nat}(h:¬ GR s a<0):(X3 (s.drop a)).2.1=0/\GR s a=((s.length-(X3 (s.drop a)).2.2.length:Nat):Int):=by
 unfold GR at h ⊢
 by_cases b:(X3 (s.drop a)).2.1=0
 ·exact⟨b,Y9 b⟩
 ·rw[Y3 b]at h;exact Yz de h
theorem tM{s:Lu}{a:Nat}(h:GR s a<0):(X3 (s.drop a)).2.1=3:=by
 unfold GR at h
 by_cases b:(X3 (s.drop a)).2.1=0
 ·rw[Y9 b]at h;omega
 ·unfold X3 at b ⊢;split
  ·rename_i c;rw[Y9 c]at b;exact Yz O b
  ·rfl
theorem QX(t:Lu)(h:(X3 t).2.1=0):(X3 t).2.2=t.drop (t.length-(X3 t).2.2.length):=by
 have a:=Y_ t;unfold X3 at h a ⊢;split at h
 ·rename_i b
  rw[Y9 b]at a ⊢;unfold Go.Lib.cut at b a ⊢;split at b
  ·rename_i c
   rw[Y9 c]at a ⊢;dsimp only at a ⊢
   rw[Y6]at a ⊢;rcases Yt t.length ((Go.Lib.index t CR).toNat+CR.length)with d|d
   ·rw[Yb om,Yb om]
   ·congr 1;omega
  ·cases b
 ·cases h
theorem Za{s:Lu}{a:Nat}(c:a<=s.length)(h:(X3 (s.drop a)).2.1=0):s.drop (s.length-(X3 (s.drop a)).2.2.length)=(X3 (s.drop a)).2.2:=by
 have b:=Y_ (s.drop a);rw[Y6]at b
 conv=>rhs;rw[QX _ h,Gj,Y6]
 congr 1;omega
theorem Xvr(a:List Pq):(Xy a).2=0\/(Xy a).2=18:=by
 unfold Xy
 repeat' split
 all_goals simp
theorem kf{s:Lu}(h:TW s=true):0<=GK s:=by
 unfold TW at h;simp only[Y8,dq1]at h
 have m:=h.1.2;have f:∀c∈s,48<=((c.toNat:Nat):Int)/\((c.toNat:Nat):Int)<=57:=λc j=>by
  have k:=Dj.1 h.2 c j;unfold B_ at k;simp only[Y8,dq1]at k
  have q:(48:Ui).toNat=48:=rfl;have t:(57:Ui).toNat=57:=rfl;omega
 have st:∀(n:Int) (c:Ui),c∈s->0<=n->n<=100000->IntKind.i64.wrap (IntKind.i64.wrap (10*n)+IntKind.u8.wrap (((c.toNat:Nat):Int)-48))=10*n+(((c.toNat:Nat):Int)-48):=λn c j o g=>by
  have i:=f c j;rw[IntKind.wrap_i64,IntKind.wrap_i64,IntKind.wrap_u8];omega
 unfold GK;rcases s with _|⟨a,_|⟨b,_|⟨c,_|⟨d,_|⟨e,r⟩⟩⟩⟩⟩
 ·decide
 ·have g:=f a sz;simp only[List.foldl]
  rw[st 0 a sz om om];omega
 ·have g:=f a sz;have i:=f b sz;simp only[List.foldl]
  rw[st 0 a sz om om,st _ b sz om om];omega
 ·have g:=f a sz;have i:=f b sz;have l:=f c sz;simp only[List.foldl]
  rw[st 0 a sz om om,st _ b sz om om,st _ c sz om om];omega
 ·have g:=f a sz;have i:=f b sz;have l:=f c sz;have p:=f d sz;simp only[List.foldl]
  rw[st 0 a sz om om,st _ b sz om om,st _ c sz om om,st _ d sz om om];omega
 ·simp only[Y5]at m;omega
theorem kN{c:List Pq}(h:(Xy c).2=0):0<=(Xy c).1:=by
 unfold Xy at h ⊢;split at h
 ·cases h
 ·rename_i d
  rw[Y3 d];split at h
  ·rename_i a;rw[Y9 a];exact uD _
  ·rename_i a
   rw[Y3 a];split at h
   ·cases h
   ·rename_i b
    rw[Y3 b];refine kf ?_;cases e:TW (Xe CL c).1 with
    | true=>rfl
    | false=>rw[e]at b;simp at b
theorem Xpk{b:List Pq}(h:TQ b<0):(Xy b).2=18:=by
 rcases Xvr b with a|a
 ·have:=kN a
  unfold TQ at h;rw[Y3 (λh=>h a)]at h;omega
 ·exact a
theorem wM{hs:List Pq}(h:¬ TQ hs<0):(Xy hs).2=0/\TQ hs=(Xy hs).1:=by
 rcases Xvr hs with a|a
 ·exact⟨a,by unfold TQ;rw[Y3 (λh=>h a)]⟩
 ·exact Yz (by unfold TQ;rw[Y9 (nB a)];decide) h
theorem Xli(s:Lu)(hs:s.length<=1000000)(N:La)(d:Aa B w I N):Cz 29 [S s] w λv w'=>∃J ra rc,v=.tuple #[.agg #[S (X0 s).1.Ax,S (X0 s).1.target,.slice ra (X0 s).1.Af.length rc,S (X0 s).1.body],Ab ((X0 s).2:Nat)]/\Le I J/\(X0 s).1.Af.length<=rc/\RS J ra 2 (X0 s).1.Af.length (X2 X5 (X0 s).1.Af)/\Aa B w' J N:=by
 refine gG 5 ?_;intro b2 w d;refine gN 0 ?_ ?_<;>intro m
 ·refine gH 3 ?_;intro w d;refine gG 0 ?_;rw[show X0 s=(I_.none,2) from by
   unfold X0;rw[Y9 (oh m)]]
  exact⟨I,none,0,O,Le.refl _,Ya _,RS.nil _ _,d.s⟩
 refine gE 1 (rG s 0 hs (Y4 _)) ?_;intro w d;have a1:=Y_ s;refine gN 7 ?_ ?_<;>intro Q
 ·refine gH 3 ?_;intro w d;refine gG 0 ?_;have V:=tM Q;rw[FY]at V;rw[show X0 s=(I_.none,3) from by
   unfold X0;rw[Y3 (oh m),Y9 (nB V),V]]
  exact⟨I,none,0,O,Le.refl _,Ya _,RS.nil _ _,d.s⟩
 refine gG 0 ?_;have p:(X3 s).2.1=0/\GR s 0=((s.length-(X3 s).2.2.length:Nat):Int):=by
  have l:=NZ (s:=s) (a:=0) (oh Q);rw[FY]at l;exact l
 have ac:s.drop (s.length-(X3 s).2.2.length)=(X3 s).2.2:=by
  have l:=Za (s:=s) (a:=0) (Y4 _) (by rw[FY];exact p.1);rw[FY]at l;exact l
 rw[p.2];refine gF 1 (Xlf (X3 s).1 om) ?_;rintro _ w ⟨J,K,rfl,d⟩;refine gG 8 ?_;intro b6 w d;refine gN 0 ?_ ?_<;>intro n
 ·refine gH 4 ?_;intro w d;refine gG 0 ?_;rw[show X0 s=(I_.none,(Et (X3 s).1).2.2) from by
   unfold X0;rw[Y3 (oh m),Y3 (nB p.1),Y9 (oh n)]]
  exact⟨J,none,0,O,K,Ya _,RS.nil _ _,d.s⟩
 refine gG 0 ?_;replace d:=d.Ai 124 2;refine .lk [0,2,6] (σ:=Nat×List Pq×Va) (λ(a,b,kv) _m=>(5,Ab (a:Nat))::_m) (λ(a,b,kv) w=>a<=s.length/\(CW ((X3 s).2.2.length+1) (X3 s).2.2 [])=CW ((s.drop a).length+1) (s.drop a) b/\b.length<=32/\(∀h∈b,h.1.length<=1000000/\h.2.length<=1000000)/\Aa B w J (An 124 2 kv b.length (X2 X5 b)::Ac b6 [S (Et (X3 s).1).1,S (Et (X3 s).1).2.1,kv,S []] 51::Ac b2 [S [],S [],.slice none 0 0,S []] 51::N)) (λ(a,b,kv)=>s.length-a) (s.length-(X3 s).2.2.length,[],.slice none 0 0) ⟨om,by rw[ac],Y4 _,λ_ h=>Yz h sz,d⟩ ?_;rintro⟨a,b,kv⟩ w ⟨Z,H,a2,X,d⟩;obtain⟨ka,kc,rfl,al,_⟩:=d.AG (k:=0) (v:=kv) O
 conv at H=>rhs;rw[CW]
 refine gE 2 (rG s a hs Z) ?_;intro w d;have ae:=Y_ (s.drop a);rw[Y6]at ae;refine gN 7 ?_ ?_<;>intro R
 ·refine gH 3 ?_;intro w d;refine gG 0 ?_;have V:=tM R;have f:(CW ((X3 s).2.2.length+1) (X3 s).2.2 [])=(b,3,(X3 (s.drop a)).2.2):=by rw[H,Y3 (by unfold HH;rw[V];simp),Y9 (nB V),V]
  rw[show X0 s=(I_.none,3) from by
   unfold X0;rw[Y3 (oh m),Y3 (nB p.1),Y3 (oh n),Y9 (by rw[f];show(3:Nat)≠0;decide),f]]
  exact⟨J,none,0,O,K,Ya _,RS.nil _ _,d.s⟩
 have g:=NZ (s:=s) (a:=a) (oh R);refine gM 2 ?_ ?_<;>intro o au
 ·refine gG 0 ?_;rw[g.2];obtain⟨J2,L,ab,hT⟩:=d.fV 0;have d:=hT;clear hT;try dsimp only[List.eraseIdx]at d
  refine gE 1 (Xlh _ _ _ ka kc b om (λh hm=>⟨(X h hm).1,(X h hm).2⟩) ab) ?_;intro w d;refine gN 3 ?_ ?_<;>intro u
  ·refine gH 3 ?_;intro w d;refine gG 0 ?_;have f:(CW ((X3 s).2.2.length+1) (X3 s).2.2 [])=(b,0,(X3 (s.drop a)).2.2):=by rw[H,Y9 (by unfold HH;rw[g.1];simpa using o)]
   have r:=Za Z g.1;have Y:((s.length:Int)-((s.length-(X3 (s.drop a)).2.2.length:Nat):Int))=(((X3 (s.drop a)).2.2.length:Nat):Int):=om
   rw[show X0 s=(I_.none,18) from by
    unfold X0;rw[Y3 (oh m),Y3 (nB p.1),Y3 (oh n),Y3 (by rw[f];exact λh=>h O),f];dsimp only
    rw[Y9 (by rw[Xpk u];decide),Xpk u]]
   exact⟨J2,none,0,O,K.trans L,Ya _,RS.nil _ _,d.s⟩
  refine gN 6 ?_ ?_<;>intro A
  ·refine gH 3 ?_;intro w d;refine gG 0 ?_;have f:(CW ((X3 s).2.2.length+1) (X3 s).2.2 [])=(b,0,(X3 (s.drop a)).2.2):=by rw[H,Y9 (by unfold HH;rw[g.1];simpa using o)]
   have r:=Za Z g.1;have Y:((s.length:Int)-((s.length-(X3 (s.drop a)).2.2.length:Nat):Int))=(((X3 (s.drop a)).2.2.length:Nat):Int):=om
   have z:=wM (hs:=b) (oh u);have U:=z.2;have C:Se (X3 (s.drop a)).2.2.length (Xy b).1=3:=by unfold Se;rw[Y9 (oh A)]
   rw[show X0 s=(I_.none,3) from by
    unfold X0;rw[Y3 (oh m),Y3 (nB p.1),Y3 (oh n),Y3 (by rw[f];exact λh=>h O),f];rw[Y3 (λh=>h z.1),Y9 (nB C),C]]
   exact⟨J2,none,0,O,K.trans L,Ya _,RS.nil _ _,d.s⟩
  refine gN 6 ?_ ?_<;>intro E
  ·refine gH 3 ?_;intro w d;refine gG 0 ?_;have f:(CW ((X3 s).2.2.length+1) (X3 s).2.2 [])=(b,0,(X3 (s.drop a)).2.2):=by rw[H,Y9 (by unfold HH;rw[g.1];simpa using o)]
   have r:=Za Z g.1;have Y:((s.length:Int)-((s.length-(X3 (s.drop a)).2.2.length:Nat):Int))=(((X3 (s.drop a)).2.2.length:Nat):Int):=om
   have z:=wM (hs:=b) (oh u);have U:=z.2;have C:Se (X3 (s.drop a)).2.2.length (Xy b).1=9:=by unfold Se;rw[Y3 (oh A),Y9 (oh E)]
   rw[show X0 s=(I_.none,9) from by
    unfold X0;rw[Y3 (oh m),Y3 (nB p.1),Y3 (oh n),Y3 (by rw[f];exact λh=>h O),f];rw[Y3 (λh=>h z.1),Y9 (nB C),C]]
   exact⟨J2,none,0,O,K.trans L,Ya _,RS.nil _ _,d.s⟩
  refine gH 8 ?_;intro w d;refine gG 0 ?_;have f:(CW ((X3 s).2.2.length+1) (X3 s).2.2 [])=(b,0,(X3 (s.drop a)).2.2):=by rw[H,Y9 (by unfold HH;rw[g.1];simpa using o)]
  have r:=Za Z g.1;have Y:((s.length:Int)-((s.length-(X3 (s.drop a)).2.2.length:Nat):Int))=(((X3 (s.drop a)).2.2.length:Nat):Int):=om
  have z:=wM (hs:=b) (oh u);have U:=z.2;have C:Se (X3 (s.drop a)).2.2.length (Xy b).1=0:=by unfold Se;rw[Y3 (oh A),Y3 (oh E)]
  rw[show X0 s=(⟨(Et (X3 s).1).1,(Et (X3 s).1).2.1,b,(X3 (s.drop a)).2.2⟩,0) from by
   unfold X0;rw[Y3 (oh m),Y3 (nB p.1),Y3 (oh n),Y3 (by rw[f];exact λh=>h O),f];rw[Y3 (λh=>h z.1),Y3 (by rw[C];exact λh=>h O)]]
  rw[Yd,r];exact⟨J2,ka,kc,O,K.trans L,al,ab,d.s⟩
 refine gN 4 ?_ ?_<;>intro t
 ·refine gH 3 ?_;intro w d;refine gG 0 ?_;have q:HH (s.drop a)=false:=by unfold HH;rw[g.1,show((((0:Nat):Nat):Int)==0)=true from O,Cv];simpa using o
  have f:(CW ((X3 s).2.2.length+1) (X3 s).2.2 [])=(b,5,(X3 (s.drop a)).2.2):=by rw[H,Y3 (nB q),Y3 (nB g.1),Y9 (oh t)]
  rw[show X0 s=(I_.none,5) from by
   unfold X0;rw[Y3 (oh m),Y3 (nB p.1),Y3 (oh n),Y9 (by rw[f];show(5:Nat)≠0;decide),f]]
  exact⟨J,none,0,O,K,Ya _,RS.nil _ _,d.s⟩
 refine gG 1 (.lk [0,2,4,5,6] (σ:=Nat) (λk _m=>(8,Ab (k:Nat))::_m) (λk w=>k<=(X3 (s.drop a)).1.length/\(∀j,j<k->at_ (X3 (s.drop a)).1 (j:Int)≠58)/\Aa B w J (An 124 2 (.slice ka b.length kc) b.length (X2 X5 b)::Ac b6 [S (Et (X3 s).1).1,S (Et (X3 s).1).2.1,.slice ka b.length kc,S []] 51::Ac b2 [S [],S [],.slice none 0 0,S []] 51::N)) (λk=>(X3 (s.drop a)).1.length-k) 0 ⟨Y4 _,λ_ h=>Yz h om,d⟩ ?_);rintro k w ⟨hk,M,d⟩;refine gM 10 ?_ ?_<;>intro D av
 ·refine gG 3 ?_;have l:=D;simp only[Y8,dq1,bne_iff_ne]at l
  refine rd (k+1) ⟨om,λj hj=>?_,(d.x [2,2,2])⟩;rcases Yt j k with h1|h1
  ·exact M j h1
  ·have e:j=k:=om
   subst e;intro e;exact l.2 (by rw[e];rfl)
 refine gN 4 ?_ ?_<;>intro F
 ·refine gH 3 ?_;intro w d;refine gG 0 ?_;have q:HH (s.drop a)=false:=by unfold HH;rw[g.1,show((((0:Nat):Nat):Int)==0)=true from O,Cv];simpa using o
  have y:=wu (s:=(X3 (s.drop a)).1) (c:=58) (λj hj=>M j (oh F));have G:Io (X3 (s.drop a)).1=(([],[]),18):=by unfold Io nh;rw[y];rfl
  have f:(CW ((X3 s).2.2.length+1) (X3 s).2.2 [])=(b,18,(X3 (s.drop a)).2.2):=by rw[H,Y3 (nB q),Y3 (nB g.1),Y3 (oh t),G,Y9 de]
  rw[show X0 s=(I_.none,18) from by
   unfold X0;rw[Y3 (oh m),Y3 (nB p.1),Y3 (oh n),Y9 (by rw[f];show(18:Nat)≠0;decide),f]]
  exact⟨J,none,0,O,K,Ya _,RS.nil _ _,d.s⟩
 refine gE 4 (Xtj ((X3 (s.drop a)).1.drop (k+1)) (by rw[Y6];omega)) ?_;intro w d;refine gE 4 (vh ((X3 (s.drop a)).1.take k) (by rw[Yl];omega)) ?_;intro w d;refine gH 2 ?_;refine .Au (T:=λw=>Aa B w J _) O O O func70 O (λad=>(X6 (.gd ad O) (A3 O X4))) O (λad=>u9 32 (Go.Lib.trimS ((X3 (s.drop a)).1.drop (k+1)) [32,9]) (by have l:=sO ((X3 (s.drop a)).1.drop (k+1)) [32,9];rw[Y6]at l;omega) _ d) d ?_;clear d;rintro w d;refine gM 4 ?_ ?_<;>intro P aw
 ·refine gH 3 ?_;intro w d;refine gG 0 ?_;have q:HH (s.drop a)=false:=by unfold HH;rw[g.1,show((((0:Nat):Nat):Int)==0)=true from O,Cv];simpa using o
  have W:k<(X3 (s.drop a)).1.length:=by have l:=F;omega
  have y:=oG (s:=(X3 (s.drop a)).1) (c:=58) (i:=k) W (CS.1 (by
   have l:=D;rw[decide_eq_true (show(k:Int)<(((X3 (s.drop a)).1.length:Nat):Int)by omega),Cv]at l;show(at_ (X3 (s.drop a)).1 (k:Int)).toNat=58
   simp only[bne_eq_false_iff_eq]at l
   omega)) M
  have G:Io (X3 (s.drop a)).1=(([],[]),18):=by
   unfold Io nh ni;rw[y,Y9];have l:=P;rw[PR]at l;rcases Zx.1 l with l|l
   ·rw[show H8 _=false from l];simp
   ·rw[show List.all (Go.Lib.trimS ((X3 (s.drop a)).1.drop (k+1)) [32,9]) (B_ 32 126)=false from l];simp
  have f:(CW ((X3 s).2.2.length+1) (X3 s).2.2 [])=(b,18,(X3 (s.drop a)).2.2):=by rw[H,Y3 (nB q),Y3 (nB g.1),Y3 (oh t),G,Y9 de]
  rw[show X0 s=(I_.none,18) from by
   unfold X0;rw[Y3 (oh m),Y3 (nB p.1),Y3 (oh n),Y9 (by rw[f];show(18:Nat)≠0;decide),f]]
  exact⟨J,none,0,O,K,Ya _,RS.nil _ _,d.s⟩
 refine gG 0 (gD [1] [10] [0,1,2,3,4,5,6,7,8,9,10] ?_);intro w d;refine gH 8 ?_;intro az w d;refine gH 1 ?_;intro aj ak ag w d;refine gH 2 ?_;intro w d;refine gG 0 ?_;have q:HH (s.drop a)=false:=by unfold HH;rw[g.1,show((((0:Nat):Nat):Int)==0)=true from O,Cv];simpa using o
 have W:k<(X3 (s.drop a)).1.length:=by have l:=F;omega
 have y:=oG (s:=(X3 (s.drop a)).1) (c:=58) (i:=k) W (CS.1 (by
  have l:=D;rw[decide_eq_true (show(k:Int)<(((X3 (s.drop a)).1.length:Nat):Int)by omega),Cv]at l;show(at_ (X3 (s.drop a)).1 (k:Int)).toNat=58
  simp only[bne_eq_false_iff_eq]at l
  omega)) M
 have G:Io (X3 (s.drop a)).1=(((X3 (s.drop a)).1.take k,Go.Lib.trimS ((X3 (s.drop a)).1.drop (k+1)) [32,9]),0):=by
  unfold Io nh ni;rw[y,Y3];have l:=P;rw[nD]at l;have l:=ny.1 l;rw[show H8 _=true from l.1,show List.all (Go.Lib.trimS ((X3 (s.drop a)).1.drop (k+1)) [32,9]) (B_ 32 126)=true from l.2];simp
 have am:(X3 (s.drop a)).2.2.length<(s.drop a).length:=mj _ g.1;rw[Y6]at am;have r:=Za Z g.1;have an:=sO ((X3 (s.drop a)).1.drop (k+1)) [32,9];rw[Y6]at an;refine⟨(s.length-(X3 (s.drop a)).2.2.length,b++[((X3 (s.drop a)).1.take k,Go.Lib.trimS ((X3 (s.drop a)).1.drop (k+1)) [32,9])],.slice aj (b.length+1) ak),⟨(by rw[g.2];rfl),O,O,O,trivial⟩,⟨om,?_,by(try dsimp only);rw[Y0];show _+1<=32;have l:=t;omega,λh hm=>?_,?_⟩,od⟩
 ·(try dsimp only)
  rw[H,Y3 (nB q),Y3 (nB g.1),Y3 (oh t),G,Y3 (λh=>h O),r];exact vT _ _ _ _ (by rw[Y6];omega) om
 ·rcases Ys.1 hm with l|l
  ·exact X h l
  ·rw[PQ]at l;subst l;exact⟨by(try dsimp only);rw[Yl];omega,od⟩
 ·(try dsimp only)
  rw[KP,show(b++[((X3 (s.drop a)).1.take k,Go.Lib.trimS ((X3 (s.drop a)).1.drop (k+1)) [32,9])]).length=b.length+1 from Y0];exact(d.x [2,2,2])
theorem Xtb(m t b:Lu)(x:Oa)(z y:Nat)(H:t.length<=1000000)(C:b.length<=1000000)(N:La)(d:Aa B w I N):Cz 30 [.agg #[S m,S t,.slice x z y,S b]] w λv w'=>∃J a n c,v=.tuple #[.slice a n c,Ab ((BH m t b).2:Nat)]/\Le I J/\Aa B w' J N:=by
 refine gH 4 ?_;intro b1 w d;refine gE 0 (Xd7 m t _ x z y H) ?_;intro w d;refine gF 6 (Xg9 _ (oh ((TI 63 t).2))) ?_;rintro _ w ⟨J,M,P,rfl,j,D,o,d⟩;have F:=oL (C_ 63 t).2.1;refine gM 12 ?_ ?_<;>intro e q
 ·refine gG 4 ?_;rw[show(BH m t b).2=_ from by unfold BH;rw[Y9 (show aG m t=true from e)]];exact⟨J,_,_,_,O,j,d.s⟩
 refine gF 2 (Xg9 _ C) ?_;rintro _ w ⟨l,Q,R,rfl,g,G,p,d⟩;refine gN 7 ?_ ?_<;>intro f
 ·refine gG 3 ?_;rw[show(BH m t b).2=_ from by unfold BH;rw[Y3 (nB (show aG m t=false from e)),Y9 (oh f)]];exact⟨l,_,_,_,O,j.trans g,d.s⟩
 have u:=oL b;refine gN 6 ?_ ?_<;>intro h
 ·refine gG 2 ?_;rw[show(BH m t b).2=_ from by unfold BH;rw[Y3 (nB (show aG m t=false from e)),Y3 (oh f),Y9 (oh h)]];exact⟨l,_,_,_,O,j.trans g,d.s⟩
 refine gG 0 (.buildSlice d TC Iq Ij Tj O O O O ?_);intro A w d;replace d:=d.A2 (k:=0) (E:=124) (size:=2) O O (Y4 _);refine gH 1 (.Bz (bytes:=32) d (.of O) (.of O) (o.mono g) (k:=0) O Iq (i:=t124) kr O O O O (fk (λr=>rfl) _) ⟨om,by unfold maxLen;omega⟩ O ?_);intro K w d;refine gH 1 (.Bz (bytes:=32) d (.of O) (.of O) p (k:=0) O Iq (i:=t124) kr O O O O (fk (λr=>rfl) _) ⟨om,by unfold maxLen;omega⟩ O ?_);intro L w d;try dsimp only[List.set]at d
 refine gG 2 ?_;rw[show(BH m t b).2=_ from by unfold BH;rw[Y3 (nB (show aG m t=false from e)),Y3 (oh f),Y3 (oh h)]];obtain⟨T,U,rfl,_,_⟩:=d.vS 0;exact⟨l,_,_,_,O,j.trans g,d.s⟩
theorem Xth(s:Lu)(hl:s.length<=1000000)(N:La)(d:Aa B w I N):Cz 32 [S s] w λv w'=>Mo I (EN (AK 59 s) []) B N v w':=by
 refine gF 4 (Xg8 59 s hl) ?_;rintro pv w d;obtain⟨ae,W,rfl,R,_⟩:=d.vS 0;obtain⟨J,z,E,L⟩:=d.fV 0;have d:=L;clear L;have U:=oW 59 s;obtain⟨pp,rfl,X⟩:=E.2 (by exact K6.2 (tQ 59 s));refine gG 2 ?_;replace d:=d.Ai 124 2;refine .lk [0,5] (σ:=List Pq×Va×Nat) (λ(b,y,i) _m=>(4,y)::(6,Ab (i:Nat))::_m) (λ(b,y,i) w=>i<=(AK 59 s).length/\EN (AK 59 s) []=EN ((AK 59 s).drop i) b/\b.length<=20/\Aa B w J (An 124 2 y b.length (X2 X5 b)::N)) (λ(b,y,i)=>(AK 59 s).length-i) ([],.slice none 0 0,0) ⟨Y4 _,O,Y4 _,d⟩ ?_;rintro⟨b,y,i⟩ w ⟨hi,m,H,d⟩;refine gN 4 ?_ ?_<;>intro M
 ·obtain⟨x,hx⟩:∃x,(AK 59 s)[i]?=some x:=⟨_,Y2 om⟩
  have ac:=mr 59 s x (Y7 hx);have ab:=xz x 32;have F:(AK 59 s).drop i=x::(AK 59 s).drop (i+1):=by rw[Ym (Y1.1 hx).1,(Y1.1 hx).2]
  rw[F,EN]at m;have G:((AK 59 s).map S)[i]?=some (S x):=by rw[Yr,hx];rfl
  obtain⟨ka,kc,rfl,Z,_⟩:=d.vS 0;refine gH 3 ?_;refine .val (.ld1 (.of O) (by have a:=Xv d X G;simpa using a) Bg) O ?_;refine gE 0 (Xpo x om) ?_;intro w d;refine gN 3 ?_ ?_<;>intro g
  ·refine gG 3 (A_ (b,_,i+1) O ⟨om,?_,H,d⟩);rw[m,Y9 (by have a:=g;exact a)]
  refine gN 3 ?_ ?_<;>intro l
  ·exact gG 2 (oy (e:=5) (by rw[m,Y3 (by have a:=g;exact a),Y9 (oh l)]) z d.s)
  refine gG 1 (.lk [0,4,5,6,7] (σ:=Nat) (λk _m=>(8,Ab (k:Nat))::_m) (λk w=>k<=(Go.Lib.trimB x 32).length/\(∀j,j<k->at_ (Go.Lib.trimB x 32) (j:Int)≠61)/\Aa B w J (An 124 2 (.slice ka b.length kc) b.length (X2 X5 b)::N)) (λk=>(Go.Lib.trimB x 32).length-k) 0 ⟨Y4 _,λ_ h=>Yz h om,d⟩ ?_);rintro k w ⟨hk,q,d⟩;refine gM 10 ?_ ?_<;>intro n P
  ·refine gG 3 ?_;have a:=n;simp only[Y8,dq1,bne_iff_ne]at a
   refine rd (k+1) ⟨om,λj Y=>?_,d⟩;rcases Yt j k with K|K
   ·exact q j K
   ·have e:j=k:=om
    subst e;intro e;exact a.2 (by rw[e];rfl)
  refine gN 4 ?_ ?_<;>intro o
  ·refine gG 2 ?_;have f:=wu (c:=61) (λj Y=>q j (oh o));have p:aP (Go.Lib.trimB x 32)=true:=by unfold aP;rw[f];rfl
   exact oy (e:=10) (by rw[m,Y3 (by have a:=g;exact a),Y3 (oh l),Y9 p]) z d.s
  refine gE 3 (vh ((Go.Lib.trimB x 32).take k) (by rw[Yl];omega)) ?_;intro w d;refine gH 5 (.Au (T:=λw=>Aa B w J _) O O O func76 O (λu=>(X6 (.gd u O) X4)) O (λu=>Xpp ((Go.Lib.trimB x 32).drop (k+1)) (by rw[Y6];omega) _ d) d ?_);clear d;rintro w d;refine gM 4 ?_ ?_<;>intro r Q
  ·refine gG 2 ?_;have t:k<(Go.Lib.trimB x 32).length:=by have a:=o;omega
   have f:=oG (c:=61) (i:=k) t (CS.1 (by
    have a:=n;rw[decide_eq_true (show(k:Int)<(((Go.Lib.trimB x 32).length:Nat):Int)by omega),Cv]at a;show(at_ (Go.Lib.trimB x 32) (k:Int)).toNat=61
    simp only[bne_eq_false_iff_eq]at a
    omega)) q
   have p:aP (Go.Lib.trimB x 32)=true:=by
    unfold aP;rw[f];have a:=r;rw[PR]at a;rcases Zx.1 a with a|a
    ·rw[show H8 _=false from a];simp
    ·rw[show List.all ((Go.Lib.trimB x 32).drop (k+1)) HO=false from a];simp
   exact oy (e:=10) (by rw[m,Y3 (by have a:=g;exact a),Y3 (oh l),Y9 p]) z d.s
  refine gG 0 (gD [] [] [0,1,2,3,4,5,6,7,8,9,10,11] ?_);intro w d;refine gH 10 ?_;intro V w d;refine gH 1 ?_;intro C D A w d;refine gG 4 ?_;have t:k<(Go.Lib.trimB x 32).length:=by have a:=o;omega
  have f:=oG (c:=61) (i:=k) t (CS.1 (by
   have a:=n;rw[decide_eq_true (show(k:Int)<(((Go.Lib.trimB x 32).length:Nat):Int)by omega),Cv]at a;show(at_ (Go.Lib.trimB x 32) (k:Int)).toNat=61
   simp only[bne_eq_false_iff_eq]at a
   omega)) q
  have p:aP (Go.Lib.trimB x 32)=false:=by
   unfold aP;rw[f];have a:=r;rw[nD]at a;have a:=ny.1 a;rw[show H8 _=true from a.1,show List.all ((Go.Lib.trimB x 32).drop (k+1)) HO=true from a.2];rfl
  refine rd (b++[((Go.Lib.trimB x 32).take k,(Go.Lib.trimB x 32).drop (k+1))],.slice C (b.length+1) D,i+1) ⟨om,?_,by rw[Y0];show _+1<=20;have a:=l;omega,?_⟩
  ·(try dsimp only)
   rw[m,Y3 (by have a:=g;exact a),Y3 (oh l),Y3 (nB p),f]
  ·(try dsimp only)
   rw[KP,show(b++[((Go.Lib.trimB x 32).take k,(Go.Lib.trimB x 32).drop (k+1))]).length=b.length+1 from Y0];exact d
 exact gG 3 (Xv8 (by rw[m,Yb om];rfl) z d)
end Go.Proofs.W9
namespace Rq
open Gk
structure Dk where
 kept:List Lu
 Ae:List (Int×Lu)
 AH:List Bool
 off:Bool
 left:Int
def ZB:Lu:=List.replicate 32 0
def Da(n:Int):Dk:=⟨List.replicate (max 0 (min n 512)).toNat ZB,[],[],false,-1⟩
def LB(d:Dk)(i:Int):Bool:=decide (0<=i)&&decide (i<(d.kept.length:Nat))
def M5(i:Int)(b:Lu)(w:Int×Lu):Lu:=if w.1=i then w.2 else b
def PI(d:Dk)(i:Int):Lu:=d.Ae.foldl (M5 i) (d.kept.getD i.toNat [])
def Ip(d:Dk):Dk:=if 0<d.left then{ d with left:=d.left-1,off:=d.left-1==0 } else d
def Xg(d:Dk):Bool×Dk:=if d.off=true then(true,d)else if(Ip d).AH=[]then(false,Ip d)else((Ip d).AH.headD false,{ Ip d with AH:=(Ip d).AH.drop 1 })
def Rc(b:Lu):Lu:=b++List.replicate (32-b.length) 0
def CQ(d:Dk)(i:Int)(b:Lu):Nat×Dk:=if LB d i=false then(4,d)else if 32<b.length then(2,d)else
 if(Xg d).1=true then(21,(Xg d).2)else(0,{ (Xg d).2 with Ae:=(Xg d).2.Ae++[(i,Rc b)] })
def Zq(k:List Lu)(w:Int×Lu):List Lu:=k.set w.1.toNat w.2
def DW(d:Dk):Nat×Dk:=if(Xg d).1=true then(21,(Xg d).2)else(0,{ (Xg d).2 with kept:=(Xg d).2.Ae.foldl Zq (Xg d).2.kept,Ae:=[] })
def Jh(d:Dk):Dk:=if d.off=true then d else{ d with Ae:=[] }
structure Dz(d:Dk):Prop where
 size:d.kept.length<=512
 kept:∀b∈d.kept,b.length=32
 at_:∀w∈d.Ae,0<=w.1/\w.1<(d.kept.length:Nat)
 what:∀w∈d.Ae,w.2.length=32
 left:-1<=d.left/\d.left<=9223372036854775807
theorem dM(n:Int):Dz (Da n):=by
 refine⟨?_,?_,by simp[Da],by simp[Da],by simp[Da]⟩
 ·simp only[Da,fY];omega
 ·intro b a;simp only[Da]at a;rw[(List.mem_replicate.1 a).2];rfl
theorem XV{d:Dk}(h:Dz d):Dz (Ip d):=by
 unfold Ip;split
 ·exact⟨h.size,h.kept,h.at_,h.what,by have:=h.left;simp only[];omega⟩
 ·exact h
theorem lX{d:Dk}(h:Dz d):Dz (Xg d).2/\(Xg d).2.kept=d.kept/\(Xg d).2.Ae=d.Ae:=by
 have a:=XV h;have b:(Ip d).kept=d.kept/\(Ip d).Ae=d.Ae:=by unfold Ip;split<;>exact⟨O,O⟩
 unfold Xg;split
 ·exact⟨h,O,O⟩
 ·split
  ·exact⟨a,b⟩
  ·exact⟨⟨a.size,a.kept,a.at_,a.what,a.left⟩,b⟩
theorem Xw9{b:Lu}(h:b.length<=32):(Rc b).length=32:=by
 unfold Rc;simp;omega
theorem RX{d:Dk}(h:Dz d)(i:Int)(b:Lu):Dz (CQ d i b).2:=by
 obtain⟨c,e,f⟩:=lX h;unfold CQ;split
 ·exact h
 ·rename_i hi
  split
  ·exact h
  ·split
   ·exact c
   ·refine⟨c.size,c.kept,λw a=>?_,λw a=>?_,c.left⟩
    ·rcases Ys.1 a with a|a
     ·exact c.at_ w a
     ·simp at a;subst a
      simp only[LB,Zx,dq2,not_or,Decidable.not_not]at hi
      exact⟨hi.1,by rw[e];exact hi.2⟩
    ·rcases Ys.1 a with a|a
     ·exact c.what w a
     ·simp at a;subst a
      exact Xw9 om
theorem s8:∀(l:List (Int×Lu)) (k:List Lu),(∀w∈l,w.2.length=32)->(∀b∈k,b.length=32)->(l.foldl Zq k).length=k.length/\∀b∈l.foldl Zq k,b.length=32
 | [],k,_,c=>⟨O,c⟩
 | w::l,k,d,c=>by
  have e:∀b∈Zq k w,b.length=32:=λb a=>by
   rcases pB a with a|a
   ·exact c b a
   ·rw[a];exact d w sz
  have:=s8 l (Zq k w) (λx hx=>d x (by simp[hx])) e
  exact⟨by rw[Kt,this.1];unfold Zq;simp,this.2⟩
theorem XQ{d:Dk}(h:Dz d):Dz (DW d).2:=by
 obtain⟨a,b,c⟩:=lX h;unfold DW;split
 ·exact a
 ·have:=s8 (Xg d).2.Ae (Xg d).2.kept a.what a.kept
  exact⟨by show((Xg d).2.Ae.foldl Zq (Xg d).2.kept).length<=512;rw[this.1];exact a.size,this.2,by simp,by simp,a.left⟩
theorem UR{d:Dk}(h:Dz d):Dz (Jh d):=by
 unfold Jh;split
 ·exact h
 ·exact⟨h.size,h.kept,by simp,by simp,h.left⟩
end Rq
namespace Go.Proofs.W9
open Gk Ul Pc Tk Tr Xm Rq
open Tryz
theorem Xyu:prog.info? 96=some t96:=by kernel_rfl
theorem Xsg:prog.info? 467=some t467:=by kernel_rfl
theorem wN{cells:α->Lv}{s:Nat}{l:List α}(d:∀x∈l,(cells x).length=s){j:Nat}{r:α}(e:l[i]?=some r)(a:(cells r)[j]?=some v):(X2 cells l)[i*s+j]?=some v:=by
 have h:=ZY (l.map cells) (λc h=>by obtain⟨y,f,rfl⟩:=Dt.1 h;exact d y f) i (cells r) (by rw[Yr,e];rfl);have b:j<s:=by rw[<-d r (Y7 e)];exact(Y1.1 a).1
 rw[<-h,PO,Y9 b,Hk]at a;exact a
theorem Xpu{α:Type}{cells:α->Lv}{s:Nat}:∀{l:List α},(∀x∈l,(cells x).length=s)->(X2 cells l).length=l.length*s
 | [],_=>by simp[X2]
 | x::l,h=>by
  show(cells x++X2 cells l).length=_
  rw[Y0,h x sz,Xpu (λy a=>h y (by simp[a])),Y5,F0];omega
theorem Xpv{α:Type}{cells:α->Lv}{s:Nat}:∀{l:List α} {i:Nat} {y:α},(∀x∈l,(cells x).length=s)->(cells y).length=s->i<l.length->(X2 cells l).take (i*s)++cells y++(X2 cells l).drop (i*s+s)=X2 cells (l.set i y)
 | [],i,y,_,_,h=>Yz h (Nat.not_lt_zero _)
 | x::l,0,y,a,b,_=>by
  show((cells x++X2 cells l).take (0*s))++cells y++(cells x++X2 cells l).drop (0*s+s)=cells y++X2 cells l
  rw[PT,Gl,Db,Yk,<-a x sz,pO]
 | x::l,i+1,y,a,b,h=>by
  show((cells x++X2 cells l).take ((i+1)*s))++cells y++(cells x++X2 cells l).drop ((i+1)*s+s)=cells x++X2 cells (l.set i y)
  have hx:=a x sz;rw[<-Xpv (λz c=>a z (by simp[c])) b (su h),show(i+1)*s=(cells x).length+i*s by rw[hx,F0];omega,ya,show(cells x).length+i*s+s=(cells x).length+(i*s+s)by omega,Y5u,Yg,Yg,Yg]
abbrev Ib(w:Int×Lu):Lv:=Ab w.1::Ao w.2
theorem TH(l:Lu):(Ao l).length=l.length:=by simp[Ao]
theorem VF{d:Dk}(h:Dz d):∀x∈d.kept,(Ao x).length=32:=λx hx=>by rw[TH];exact h.kept x hx
theorem Xwx{d:Dk}(h:Dz d):∀x∈d.Ae,(Ib x).length=33:=λx hx=>by rw[Y5,TH,h.what x hx]
abbrev BI(db kb:Nat)(sv pl:Va)(d:Dk)(R:La):La:=Ac db [.slice (some (ad kb 0)) d.kept.length d.kept.length,sv,pl,.bool d.off,Ab d.left] 94::Ac kb (X2 Ao d.kept) 96::An 467 33 sv d.Ae.length (X2 Ib d.Ae)::R
theorem Xuo(d:Dk)(db kb:Nat)(sv pl:Va)(N:La)(a:Aa B w I (BI db kb sv pl d N)):Ce B I (BI db kb sv pl d N) 284 [ptr db 0] w (Ab (d.kept.length:Nat)):=by
 exact gG 7 ⟨O,a⟩
theorem Nv(i:Int)(d:Dk)(db kb:Nat)(sv pl:Va)(N:La)(a:Aa B w I (BI db kb sv pl d N)):Ce B I (BI db kb sv pl d N) 385 [ptr db 0,Ab i] w (.bool (LB d i)):=by
 exact gG 13 ⟨O,a⟩
theorem Qj(d:Dk)(db kb:Nat)(sv pl:Va)(N:La)(b:Aa B w I (BI db kb sv pl d N)):Cz 370 [ptr db 0] w λv w'=>∃sv,Aa B w' I (BI db kb sv pl (Jh d) N):=by
 refine gM 5 ?_ ?_<;>intro a c
 ·refine gG 4 ?_;intro w b;refine⟨.slice none 0 0,?_⟩;unfold Jh;rw[Y3 (su a)];exact(((b.y 2 1).Ai 467 33).pick 2 O).pick 2 O
 refine gG 0 (⟨sv,?_⟩);unfold Jh;rw[Y9 (su a)];exact b
def Az(I:Im)(pl:Va)(p:List Bool):Prop:=∃pa a,pl=.slice pa p.length a/\p.length<=a/\RS I pa 1 p.length (p.map Value.bool)
theorem Az.mono{pl:Va}{p:List Bool}(h:Az I pl p)(d:Le I J):Az J pl p:=by
 obtain⟨pa,e,a,b,c⟩:=h;exact⟨pa,e,a,b,c.mono d⟩
theorem Az.nil(I:Im):Az I (.slice none 0 0) []:=⟨none,0,O,Ya _,RS.nil _ _⟩
theorem Oq{s:Nat}(h:RS I a s n xs)(f:k<=n)(e:n<=c):∃b,sliced a k n c s=.slice b (n-k) (c-k)/\RS I b s (n-k) (xs.drop (k*s)):=by
 refine⟨if c=k then a else a.map (·.add (k*s)),O,by rw[Y6,h.1,Nat.sub_mul],λg=>?_⟩;obtain⟨p,rfl,d⟩:=h.2 om;rw[Y3 om];exact⟨_,O,d.add (k*s)⟩
theorem Az.tail{pa:Oa}{a:Nat}{p:List Bool}(c:p≠[])(d:p.length<=a)(h:RS I pa 1 p.length (p.map Value.bool)):Az I (sliced pa 1 p.length a 1) (p.drop 1):=by
 have f:=K6.2 c;obtain⟨b,e,g⟩:=Oq h (k:=1) f d;rw[e];refine⟨b,a-1,by rw[Y6],by rw[Y6];omega,?_⟩;rw[Y6,yC];exact g
theorem qe{l:Lv}{s:Nat}(c:l.length=s)(d:zs.length=s):MS (λi=>some (i*s,s)) zs [(0,.agg l.toArray)]=some l:=by
 have a:Nat.beq ((Value.agg l.toArray).cells.toList.length) s=true:=by
  show Nat.beq l.toArray.toList.length s=true
  simpa using c
 have b:Nat.ble (0*s+s) zs.length=true:=ud om;rw[MS];simp only[a,b,Bool.and_self,cond_true]
 rw[MS,jv];show some (List.take (0*s) zs++l.toArray.toList++List.drop (0*s+l.toArray.toList.length) zs)=_
 rw[PT,Gl,Db,Yk,Yb (by simp;omega),Yy]
theorem Re(i:Int){b:Lu}(h:b.length<=32):(Ab i::List.replicate 32 (U8 0)).take 1++Ao b++(Ab i::List.replicate 32 (U8 0)).drop (1+b.length)=Ib (i,Rc b):=by
 unfold Rc;rw[show(1+b.length)=b.length+1 from Ku _ _,Ks,Iw,Gl];show Ab i::(Ao b++_)=Ab i::Ao (b++List.replicate (32-b.length) 0)
 rw[show Ao (b++List.replicate (32-b.length) 0)=Ao b++Ao (List.replicate (32-b.length) 0)by simp[Ao],List.drop_replicate];simp[Ao]
theorem Xtv(d:Dk)(i:Int)(b:Lu):X2 Ib (d.Ae++[(i,b)])=X2 Ib d.Ae++Ib (i,b):=by
 simp[X2]
theorem Xia(d:Dk)(db kb:Nat)(sv pl:Va)(x:Dz d)(y:Az I pl d.AH)(N:La)(g:Aa B w I (Ac db [.slice (some (ad kb 0)) d.kept.length d.kept.length,sv,pl,.bool d.off,Ab d.left] 94::Ac kb (X2 Ao d.kept) 96::An 467 33 sv d.Ae.length (X2 Ib d.Ae)::N)):Cz 430 [ptr db 0] w λv w'=>∃sv pl,v=.bool (Xg d).1/\Az I pl (Xg d).2.AH/\Aa B w' I (Ac db [.slice (some (ad kb 0)) (Xg d).2.kept.length (Xg d).2.kept.length,sv,pl,.bool (Xg d).2.off,Ab (Xg d).2.left] 94::Ac kb (X2 Ao (Xg d).2.kept) 96::An 467 33 sv (Xg d).2.Ae.length (X2 Ib (Xg d).2.Ae)::N):=by
 obtain⟨pa,u,rfl,k,m⟩:=y;have s:=x.left;refine gM 5 ?_ ?_<;>intro i z
 ·refine gG 1 ?_;have e:Xg d=(true,d):=by unfold Xg;rw[Y9 i]
  rw[e];exact⟨sv,_,O,⟨pa,u,O,k,m⟩,g⟩
 refine gN 5 ?_ ?_<;>intro f
 ·refine gH 14 ?_;intro w g;refine gG 9 ?_;intro w g;refine gM 0 ?_ ?_<;>intro c j
  ·have a:d.AH=[]:=Yi (oh j);refine gG 1 ?_;have l:Ip d={ d with left:=d.left-1,off:=d.left-1==0 }:=by unfold Ip;exact Y9 (oh f)
   have e:Xg d=(false,{ d with left:=d.left-1,off:=d.left-1==0 }):=by unfold Xg;rw[Y3 (nB (show d.off=false from i)),l];exact Y9 a
   rw[e];exact⟨sv,_,O,⟨pa,u,O,k,m⟩,g⟩
  have a:d.AH≠[]:=λh=>by rw[h]at c;cases c
  have q:=K6.2 a;obtain⟨p,rfl,n⟩:=m.2 q;have o:(d.AH.map Value.bool)[0]?=some (.bool (d.AH.headD false)):=by cases t:d.AH with
   | nil=>exact Yz t a
   | cons b r=>rfl
  refine gH 5 (.val (.BS (.of O) g (At.add n 0) IL o) O (gG 12 ?_));intro w g;have l:Ip d={ d with left:=d.left-1,off:=d.left-1==0 }:=by unfold Ip;exact Y9 (oh f)
  have e:Xg d=(d.AH.headD false,{ { d with left:=d.left-1,off:=d.left-1==0 } with AH:=d.AH.drop 1 }):=by unfold Xg;rw[Y3 (nB (show d.off=false from i)),l];exact Y3 a
  rw[e];exact⟨sv,_,O,.tail a k m,g⟩
 refine gM 6 ?_ ?_<;>intro c j
 ·have a:d.AH=[]:=Yi (oh j);refine gG 1 ?_;have l:Ip d=d:=by unfold Ip;exact Y3 (oh f)
  have e:Xg d=(false,d):=by unfold Xg;rw[Y3 (nB (show d.off=false from i)),l];exact Y9 a
  rw[e];exact⟨sv,_,O,⟨pa,u,O,k,m⟩,g⟩
 have a:d.AH≠[]:=λh=>by rw[h]at c;cases c
 have q:=K6.2 a;obtain⟨p,rfl,n⟩:=m.2 q;have o:(d.AH.map Value.bool)[0]?=some (.bool (d.AH.headD false)):=by cases t:d.AH with
  | nil=>exact Yz t a
  | cons b r=>rfl
 refine gH 5 (.val (.BS (.of O) g (At.add n 0) IL o) O (gG 12 ?_));intro w g;have l:Ip d=d:=by unfold Ip;exact Y3 (oh f)
 have e:Xg d=(d.AH.headD false,{ d with AH:=d.AH.drop 1 }):=by unfold Xg;rw[Y3 (nB (show d.off=false from i)),l];exact Y3 a
 rw[e];exact⟨sv,_,O,.tail a k m,g⟩
theorem Xib(i:Int)(b:Lu)(s:Oa)(F:Nat)(d:Dk)(db kb:Nat)(sv pl:Va)(B w:Wo)(I:Im)(t:Dz d)(p:Az I pl d.AH)(q:RS I s 1 b.length (Ao b))(M:d.Ae.length<=1000000)(N:La)(a:Aa B w I (Ac db [.slice (some (ad kb 0)) d.kept.length d.kept.length,sv,pl,.bool d.off,Ab d.left] 94::Ac kb (X2 Ao d.kept) 96::An 467 33 sv d.Ae.length (X2 Ib d.Ae)::N)):Cz 366 [ptr db 0,Ab i,.slice s b.length F] w λv w'=>∃sv pl,v=Ab ((CQ d i b).1:Nat)/\Az I pl (CQ d i b).2.AH/\Aa B w' I (Ac db [.slice (some (ad kb 0)) (CQ d i b).2.kept.length (CQ d i b).2.kept.length,sv,pl,.bool (CQ d i b).2.off,Ab (CQ d i b).2.left] 94::Ac kb (X2 Ao (CQ d i b).2.kept) 96::An 467 33 sv (CQ d i b).2.Ae.length (X2 Ib (CQ d i b).2.Ae)::N):=by
 refine gE 3 (Nv i d db kb sv pl) ?_;intro w a;refine gM 2 ?_ ?_<;>intro c L
 ·refine gG 1 ?_;have e:CQ d i b=(4,d):=by unfold CQ;rw[Y9 (su c)]
  rw[e];exact⟨_,_,O,p,a⟩
 refine gN 4 ?_ ?_<;>intro u
 ·refine gG 1 ?_;have e:CQ d i b=(2,d):=by unfold CQ;rw[Y3 (by rw[show LB d i=true by simpa using c];decide),Y9 om]
  rw[e];exact⟨_,_,O,p,a⟩
 refine gF 1 (Xia d db kb sv pl t p) ?_;rintro _ w ⟨l,r,rfl,j,a⟩;obtain⟨J,H,o⟩:=lX t;have A:=Yc List.length o;refine gM 1 ?_ ?_<;>intro f x
 ·refine gG 1 ?_;have e:CQ d i b=(21,(Xg d).2):=by unfold CQ;rw[Y3 (by rw[show LB d i=true by simpa using c];decide),Y3 om,Y9 f]
  rw[e];exact⟨_,_,O,j,a⟩
 refine gH 2 (.EE a I9 O ?_);intro E w a;refine .so a (k:=0) O O O O fE O sz ?_;intro w a;replace a:Aa B w I (Ac E (Ab i::List.replicate 32 (U8 0)) 467::Ac db [.slice (some (ad kb 0)) (Xg d).2.kept.length (Xg d).2.kept.length,l,r,.bool (Xg d).2.off,Ab (Xg d).2.left] 94::Ac kb (X2 Ao (Xg d).2.kept) 96::An 467 33 l (Xg d).2.Ae.length (X2 Ib (Xg d).2.Ae)::N):=a;refine gH 1 (.val (.B8 (.of O) de iw DT) O ?_);refine gH 1 (.p4 (m:=32) a (k:=0) O (.of O) (.of O) q BV DT (HD b) om (by simp;omega) O ?_);intro w a;replace a:=a.say (k:=0) O (λh z=>by rw[Re i om]at z;exact z);dsimp only[List.set]at a
 have g:=Xw9 (b:=b) om;refine gG 0 (gD [1,0] [10] [0,1,2,3,4,5,6,7,8,9,10] ?_);intro w a;refine gH 5 (A1.y 5 (λw _ _ K a=>(.QT (.of O) a (k:=1) O isAgg467 fE (by simp[g]))) (A1.e (.buildSlice a (IC O TC) iv fE I9 O O (qe (by simp[g]) de) O ?_)));intro D w a;refine gH 0 (A1.e (.append (bytes:=40) a (.of O) (.of O) (k:=3) O iv Xsg O O O O (by simp[g]) O (by simp[Ib,Value.oneCell',Ao]) ⟨om,by unfold maxLen;omega⟩ O ?_));intro P w a;dsimp only[List.set]at a;obtain⟨C,G,rfl,n,_⟩:=a.vS 3;refine gH 3 ?_;intro w a;refine gG 1 ?_;have e:CQ d i b=(0,{ (Xg d).2 with Ae:=(Xg d).2.Ae++[(i,Rc b)] }):=by unfold CQ;rw[Y3 (by rw[show LB d i=true by simpa using c];decide),Y3 om,Y3 (by rw[show(Xg d).1=false from f];decide)]
 rw[e];replace a:=((((a.pick 3 O).pick 3 O).pick 3 O).drop (k:=3) O)
 exact⟨_,_,O,j,by rw[Xtv,Y0];exact a⟩
theorem Xx6{cells:α->Lv}{s E:Nat}{l:List α}(o:∀x∈l,(cells x).length=s)(m:Aa B w I N)(f:N[k]?=some (An E s (.slice a l.length c) l.length (X2 cells l))):Jg w cells s a l:=λi r g=>by
 obtain⟨b,cap,rest,q,_,_,_,_,e⟩:=m.AF f (oh ((Y1.1 g).1));injection q with h t d
 subst h;have n:=e.block (k:=k) (by rw[pD ((Y1.1 f).1)];rfl);refine⟨_,O,λj v p=>?_⟩;rw[Addr.add_add];have d:=wN (cells:=cells) o g p
 have:=Xz n (by rw[Ye (Y1.1 d).1];exact d)
 rw[CY,Yk];exact this
theorem W0(n m:Nat)(x:Ui):X2 Ao (List.replicate n (List.replicate m x))=List.replicate (n*m) (U8 x.toNat):=by
 induction n with
 | zero=>simp[X2]
 | succ n a =>
  show Ao (List.replicate m x)++X2 Ao (List.replicate n (List.replicate m x))=_
  rw[a,show Ao (List.replicate m x)=List.replicate m (U8 x.toNat)by simp[Ao],List.replicate_append_replicate,Sn,Ku]
theorem UK(n:Int)(N:La)(a:Aa B w I N):Cz 50 [Ab n] w λv w'=>∃db kb sv,v=ptr db 0/\Aa B w' I (Ac db [.slice (some (ad kb 0)) (Da n).kept.length (Da n).kept.length,sv,(.slice none 0 0),.bool (Da n).off,Ab (Da n).left] 94::Ac kb (X2 Ao (Da n).kept) 96::An 467 33 sv (Da n).Ae.length (X2 Ib (Da n).Ae)::N):=by
 obtain⟨l,b⟩:∃l:Nat,max 0 (min n 512)=(l:Int):=⟨_,(jC om).symm⟩
 refine gH 4 (.qw (l:=l) (z0:=U8 0) a (.of (Yc (λx=>some (Ab x)) b)) (.of (Yc (λx=>some (Ab x)) b)) underlying91 Xyu O (by simp[t96];omega) om O de O O ?_);intro kb w a;refine gG 3 ?_;intro c w a;have d:(Da n).kept.length=l:=by simp only[Da,fY];omega
 have e:X2 Ao (Da n).kept=List.replicate (l*32) (U8 0):=by
  simp only[Da,ZB]
  rw[W0,show(max 0 (min n 512)).toNat=l by omega];first|done|rfl
 refine⟨c,kb,.slice none 0 0,O,?_⟩;rw[d,e];exact(((a.Ai 467 33).pick 2 O).pick 2 O)
theorem Qk(d:Dk)(db kb:Nat)(sv pl:Va)(C:Dz d)(M:Az I pl d.AH)(T:d.Ae.length<=1000000)(N:La)(a:Aa B w I (Ac db [.slice (some (ad kb 0)) d.kept.length d.kept.length,sv,pl,.bool d.off,Ab d.left] 94::Ac kb (X2 Ao d.kept) 96::An 467 33 sv d.Ae.length (X2 Ib d.Ae)::N)):Cz 367 [ptr db 0] w λv w'=>∃sv pl,v=Ab ((DW d).1:Nat)/\Az I pl (DW d).2.AH/\Aa B w' I (Ac db [.slice (some (ad kb 0)) (DW d).2.kept.length (DW d).2.kept.length,sv,pl,.bool (DW d).2.off,Ab (DW d).2.left] 94::Ac kb (X2 Ao (DW d).2.kept) 96::An 467 33 sv (DW d).2.Ae.length (X2 Ib (DW d).2.Ae)::N):=by
 refine gF 2 (Xia d db kb sv pl C M) ?_;rintro _ w ⟨F,m,rfl,n,a⟩;obtain⟨g,b,u⟩:=lX C;have H:=Yc List.length u;refine gM 0 ?_ ?_<;>intro p P
 ·refine gG 1 ?_;have e:DW d=(21,(Xg d).2):=by unfold DW;exact Y9 p
  rw[e];exact⟨F,m,O,n,a⟩
 obtain⟨J,K,rfl,S,_⟩:=a.vS 2;refine gG 6 ?_;have l:=λj=>s8 ((Xg d).2.Ae.take j) d.kept (λw U=>g.what w (pH U)) C.kept
 rw[b]at a;have o:=a;clear a;refine .lk [0,10,11] (σ:=Nat) (λi _m=>(12,Ab (i:Nat))::_m) (λi w=>i<=(Xg d).2.Ae.length/\Aa B w I (Ac db [.slice (some (ad kb 0)) d.kept.length d.kept.length,.slice J (Xg d).2.Ae.length K,m,.bool (Xg d).2.off,Ab (Xg d).2.left] 94::Ac kb (X2 Ao (((Xg d).2.Ae.take i).foldl Zq d.kept)) 96::An 467 33 (.slice J (Xg d).2.Ae.length K) (Xg d).2.Ae.length (X2 Ib (Xg d).2.Ae)::N)) (λi=>(Xg d).2.Ae.length-i) 0 ⟨Y4 _,o⟩ ?_;rintro i w ⟨hi,a⟩;clear o;have E:=(l i).1;have s:=λx hx=>(TH x).trans ((l i).2 x hx)
 refine gN 1 ?_ ?_<;>intro G
 ·obtain⟨x,hx⟩:∃x,(Xg d).2.Ae[i]?=some x:=⟨_,Y2 om⟩
  have t:=Y7 hx;have V:=g.at_ x t;have f:=g.what x t;have W:=Yc List.length b;obtain⟨q,rfl,R⟩:=Xx6 (Xwx g) a (k:=2) O i x hx;refine gH 1 (.val (.IA (.of O) R isAgg467 fE (by simp[f])) O (.EE a I9 O ?_));intro X w a;refine .so a (k:=0) O O O (by simp[Ib,Value.oneCell',Ao]) fE (by simp[f]) sz ?_;intro w a;replace a:=a.say (k:=0) O (λh r=>by rw[Gl,Db,Yb sz,Yy]at r;exact r);dsimp only[List.set]at a
  refine gG 0 (gD [1,0] [9] [0,1,2,3,4,5,6,7,8,9] ?_);intro w a;refine gH 5 (A1.y 5 (λw _ _ A a=>(.lo O a (k:=1) O BJ O)) (gH 1 ?_));refine A1.y 7 (λw _ _ A a=>(.DY (vs:=Ao x.2) (.of O) a (k:=1) O isAgg96 Gt (by simp[Ao,f]) (λj v Q=>by rw[Ku,pC];exact Q))) ?_;refine gH 1 (A1.e ?_);refine .BG (cs:=X2 Ao (((Xg d).2.Ae.take i).foldl Zq d.kept)) a (k:=2) O (.of O) (.of O) (HD _) Gt (by simp[Ao,f]) (by have L:=Xpu s;rw[E]at L;omega) ?_;intro w a;replace a:=a.say (k:=2) O (λh r=>by rw[Yk,Xpv s (by simp[Ao,f]) om]at r;exact r);refine gG 2 (rd (i+1) ⟨om,?_⟩);rw[Yv,hx,DE,M7];exact(a.z [3,3,3] 3 1)
 refine gG 5 ?_;intro w a;have e:DW d=(0,{ (Xg d).2 with kept:=(Xg d).2.Ae.foldl Zq (Xg d).2.kept,Ae:=[] }):=by unfold DW;exact Y3 (nB p)
 rw[e];have c:=(l (Xg d).2.Ae.length).1;rw[Yo om]at c;have D:i=(Xg d).2.Ae.length:=om
 subst D;rw[Yo (Ya _)]at a;refine⟨.slice none 0 0,m,O,n,?_⟩;rw[<-b]at a;simp only[b]at c ⊢
 rw[c];rw[b]at a;exact(((a.y 2 1).Ai 467 33).pick 2 O).pick 2 O
theorem ez{d:Dk}(h:Dz d)(n:Int){b:Lu}(a:b.length=32)(i:Nat):((d.Ae.take i).foldl (M5 n) b).length=32:=by
 have key:∀(l:List (Int×Lu)) (b:Lu),(∀w∈l,w.2.length=32)->b.length=32->(l.foldl (M5 n) b).length=32:=by
  intro l
  induction l with
  | nil=>intro b _ a;exact a
  | cons w l f =>
   intro b c a;refine f _ (λx hx=>c x (by simp[hx])) ?_;unfold M5;split
   ·exact c w sz
   ·exact a
 exact key _ _ (λw e=>h.what w (pH e)) a
theorem Xnu(d:Dk)(db kb:Nat)(t:Oa)(u:Nat)(pl:Va)(n:Int)(l:Dz d)(A:LB d n=true)(F:d.Ae.length<=1000000)(N:La)(a:Aa B w I (BI db kb (.slice t d.Ae.length u) pl d N)):Cz 287 [ptr db 0,Ab n] w λv w'=>∃g,v=.slice (some (ad g 0)) 32 32/\Aa B w' I (Ac g (Ao (PI d n)) 96::BI db kb (.slice t d.Ae.length u) pl d N):=by
 refine gP 3 [] (Nv n d db kb _ pl _) ?_;rintro _ w ⟨rfl,a⟩;refine gG 1 ?_;refine .Aw (by rw[A];rfl) ?_;have D:0<=n/\n<(d.kept.length:Nat):=by have y:=A;simp only[LB,Y8,dq1]at y;exact y
 have o:d.kept[n.toNat]?=some (d.kept.getD n.toNat []):=by rw[Yf,Y2 om];rfl
 have f:=l.kept _ (Y7 o);refine gH 6 ?_;refine .val (.DY (.of O) a (k:=1) O isAgg96 Gt (by rw[TH];exact f) (λj v r=>by rw[Yk];exact wN (VF l) o r)) O ?_;refine .EE a zeroValue96 O ?_;intro g w a;refine .so a (k:=0) O O O (HD _) Gt (by rw[TH];exact f) sz ?_;intro w a;replace a:=a.say (k:=0) O (λh e=>by rw[Gl,Db,Yb sz,Yy]at e;exact e);dsimp only[List.set]at a
 have m:=a;clear a;refine gG 6 (.lk [1,5,22,23] (σ:=Nat) (λi _m=>(24,Ab (i:Nat))::_m) (λi w=>i<=d.Ae.length/\Aa B w I (Ac g (Ao ((d.Ae.take i).foldl (M5 n) (d.kept.getD n.toNat []))) 96::BI db kb (.slice t d.Ae.length u) pl d N)) (λi=>d.Ae.length-i) 0 ⟨Y4 _,m⟩ ?_);rintro i w ⟨hi,a⟩;clear m;have p:(((d.Ae.take i).foldl (M5 n) (d.kept.getD n.toNat []))).length=32:=ez l n f i;refine gN 1 ?_ ?_<;>intro C
 ·refine gG 0 ?_;obtain⟨x,hx⟩:∃x,d.Ae[i]?=some x:=⟨_,Y2 om⟩
  have s:=Y7 hx;have b:=l.what x s;obtain⟨q,rfl,E⟩:=Xx6 (Xwx l) a (k:=3) O i x hx;refine gH 1 (.val (.IA (.of O) E isAgg467 fE (by simp[b])) O (.EE a I9 O ?_));intro G w a;refine .so a (k:=0) O O O (by simp[Ib,Value.oneCell',Ao]) fE (by simp[b]) sz ?_;intro w a;replace a:=a.say (k:=0) O (λh e=>by rw[Gl,Db,Yb sz,Yy]at e;exact e);refine gH 1 (.val (.ld (v:=Ab x.1) (.of O) a (k:=0) O BJ O) O ?_);refine gN 2 ?_ ?_<;>intro c
  ·refine gH 1 ?_;refine .val (.DY (vs:=Ao x.2) (.of O) a (k:=0) O isAgg96 Gt (by simp[Ao,b]) (λj v r=>by rw[Ku,pC];exact r)) O ?_;refine .BG (cs:=Ao ((d.Ae.take i).foldl (M5 n) (d.kept.getD n.toNat []))) a (k:=1) O (.of O) (.of O) (HD _) Gt (by simp[Ao,b]) (by rw[TH,p];exact Ya _) ?_;intro w a;replace a:=a.say (k:=1) O (λh e=>by rw[Gl,Db,Yb (by rw[TH,p];exact Ya _),Yy]at e;exact e);refine gG 2 (rd (i+1) ⟨om,?_⟩);rw[Yv,hx,DE,M7,show List.foldl (M5 n) ((d.Ae.take i).foldl (M5 n) (d.kept.getD n.toNat [])) [x]=x.2 from Y9 (oh c)];exact(a.z [4,4,4,4] 4 1)
  refine gG 2 (rd (i+1) ⟨om,?_⟩);rw[Yv,hx,DE,M7,show List.foldl (M5 n) ((d.Ae.take i).foldl (M5 n) (d.kept.getD n.toNat [])) [x]=((d.Ae.take i).foldl (M5 n) (d.kept.getD n.toNat [])) from Y3 (oh c)];exact(a.z [4,4,4,4] 4 1)
 refine gG 0 (.val (.B8 (.of O) de iw DT) O ?_);refine gG 1 ?_;rw[Yo om]at a;exact⟨g,O,a⟩
end Go.Proofs.W9
namespace Xm
open Ul Pc Gk DN Tk Tr
def Ha:Nat->Nat->List UInt8
 | 0,_=>[]
 | i+1,x=>UInt8.ofNat (x/256^i)::Ha i x
theorem sD:∀(i x:Nat),(Ha i x).length=i
 | 0,_=>rfl
 | i+1,x=>by rw[Ha,Y5,sD i x]
def ND(a:Nat)(s:Lu):Nat:=s.foldl (λa c=>256*a+c.toNat) a
theorem Xo9:∀(i x a:Nat),ND a (Ha i x)=a*256^i+x%256^i
 | 0,x,a=>by simp[Ha,ND,Nat.mod_one]
 | i+1,x,a=>by
  show ND (256*a+(UInt8.ofNat (x/256^i)).toNat) (Ha i x)=_
  rw[Xo9 i x,show(UInt8.ofNat (x/256^i)).toNat=x/256^i%256 from by simp,T9,Nat.mod_mul,F0]
  have:x/256^i%256*256^i=256^i*(x/256^i%256):=FZ ..
  have:256*a*256^i=a*(256^i*256):=by rw[FZ 256 a,Jr,FZ 256]
  omega
def Ir(n:Nt):Lu×Nat:=if FO n=true then(UInt8.ofNat n.tries.toNat::(Ha 8 n.next.toNat++n.url),0)else([],1)
def ef(t s:Lu):Nt:=⟨t,s.drop 9,((s.headD 0).toNat:Int),(ND 0 ((s.drop 1).take 8):Int)⟩
def p7(t s:Lu):Nt×Nat:=if s.length<9 then(uM,8)else if FO (ef t s)=true then(ef t s,0)else(uM,8)
theorem bX{n:Nt}(h:(Ir n).2=0):p7 n.ticket (Ir n).1=(n,0)/\(Ir n).1.length=9+n.url.length:=by
 unfold Ir at h ⊢;split at h
 ·rename_i c
  rw[Y9 c];obtain⟨t,u,b,a⟩:=n;have k:0<=a/\a<=1099511627776/\0<=b/\b<=9:=by
   unfold FO at c;simp only[Y8,dq1]at c
   obtain⟨⟨⟨⟨⟨_,_⟩,f⟩,g⟩,i⟩,j⟩:=c;exact⟨i,j,f,g⟩
  have d:=sD 8 a.toNat;have e:ef t (UInt8.ofNat b.toNat::(Ha 8 a.toNat++u))=⟨t,u,b,a⟩:=by
   unfold ef;simp only[Ks,FY,List.headD_cons]
   rw[show List.take 8 (Ha 8 a.toNat++u)=Ha 8 a.toNat from List.take_left' d,
    show List.drop 8 (Ha 8 a.toNat++u)=u from List.drop_left' d,Xo9]
   congr 1
   ·rw[show(UInt8.ofNat b.toNat).toNat=b.toNat%256 from by simp];omega
   ·omega
  unfold p7;rw[Y3 (by rw[Y5,Y0,d];omega),e,Y9 c];exact⟨O,by rw[Y5,Y0,d];omega⟩
 ·cases h
section
open Go
end
end Xm
namespace Rq
open Gk Go
def uV:List Nat:=[0x00000000,0x105ec76f,0x20bd8ede,0x30e349b1,0x417b1dbc,0x5125dad3,0x61c69362,0x7198540d,0x82f63b78,0x92a8fc17,0xa24bb5a6,0xb21572c9,0xc38d26c4,0xd3d3e1ab,0xe330a81a,0xf36e6f75]
def uJ(r b:Int):Int:=bits .and .u32 (bits .xor .u32 r (IntKind.u32.wrap b)) 15
def Vo(r b:Int):Int:=bits .xor .u32 (r/2^4) ((uV.getD (uJ r b).toNat 0:Nat):Int)
def kV(r:Int):Int:=bits .xor .u32 IntKind.u32.max r
def gY(r:Int)(c:Ui):Int:=Vo (Vo r c.toNat) ((c.toNat:Int)/2^4)
def fN(s:Int)(l:Lu):Int:=kV (l.foldl gY (kV s))
def C8(i:Int):Ui:=UInt8.ofNat (IntKind.u8.wrap i).toNat
theorem bO(i:Int):U8 ((C8 i).toNat:Int)=.int .u8 (IntKind.u8.wrap i):=by
 have h:0<=IntKind.u8.wrap i/\IntKind.u8.wrap i<256:=by rw[IntKind.wrap_u8];omega
 unfold C8;rw[UInt8.toNat_ofNat_of_lt' (by show(IntKind.u8.wrap i).toNat<256;omega),jC h.1]
theorem YY(l:List Int):Ao (l.map C8)=l.map λi=>Value.int .u8 (IntKind.u8.wrap i):=by
 unfold Ao;rw[jM];exact List.map_congr_left λi _=>bO i
def XM(b:Lu):Int:=fN (fN 0 ([(b.length:Int)/2^8,(b.length:Int)].map C8)) b
def HU(b:Lu):List Int:=[(b.length:Int)/2^8,(b.length:Int),XM b/2^24,XM b/2^16,XM b/2^8,XM b]
def D8(b:Lu):Lu×Nat:=if b.length=0 then([],1)else if 4000<b.length then([],2)else((HU b).map C8++b,0)
theorem Xwh(b:Lu):(D8 b).1.length<=4006:=by
 unfold D8;split
 ·simp
 ·split
  ·simp
  ·simp[HU];omega
def HL:List (List UInt8)->List UInt8->List UInt8×Nat
 | [],a=>(a,0)
 | b::r,a=>if(D8 b).2≠0 then([],(D8 b).2)else HL r (a++(D8 b).1)
end Rq
namespace Go.Proofs.W9
open Gk Ul Pc Tk Tr Xm Rq
open Tryz
def uW:Lv:=uV.map λn:Nat=>.int .u32 (n:Int)
def A4(I:Im):Prop:=At I ⟨8,0,none⟩ uW
theorem kE{i:Int}(a:0<=i)(c:i<16):(uW.drop (i.toNat*1))[0]?=some (.int .u32 ((uV.getD i.toNat 0:Nat):Int)):=by
 obtain⟨k,rfl⟩:=Y6b a;have b:k<16:=om
 match k,b with
 | 0,_=>exact O
 | 1,_=>exact O
 | 2,_=>exact O
 | 3,_=>exact O
 | 4,_=>exact O
 | 5,_=>exact O
 | 6,_=>exact O
 | 7,_=>exact O
 | 8,_=>exact O
 | 9,_=>exact O
 | 10,_=>exact O
 | 11,_=>exact O
 | 12,_=>exact O
 | 13,_=>exact O
 | 14,_=>exact O
 | 15,_=>exact O
theorem Xom(r b:Int)(e:A4 I)(N:La)(d:Aa B w I N):Ce B I N 470 [.int .u32 r,.int .u8 b] w (.int .u32 (Vo r b)):=by
 refine gH 5 (.val (.ET (.of O) BP MP) O (gH 2 ?_));obtain⟨c,a⟩:=jP (bits .xor .u32 r (IntKind.u32.wrap b));refine .val (.Dn (m:=16) (.of O) (.of O) c a underlying540 IW) O (.val (.BS (.of O) d (e.add _) IM (kE c a)) O ?_);exact gG 2 ⟨O,d⟩
theorem Xp3(s:Int)(l:Lu)(a:Oa)(c:Nat)(h:l.length<=1000000)(d:A4 I)(f:RS I a 1 l.length (Ao l))(N:La)(b:Aa B w I N):Ce B I N 428 [.int .u32 s,.slice a l.length c] w (.int .u32 (fN s l)):=by
 refine gH 2 (.val (.gR (.of O)) O (gG 4 (.lk [10,11] (σ:=Nat) (λi _m=>(5,.int .u32 (List.foldl gY (kV s) (l.take i)))::(12,Ab (i:Int))::_m) (λi w=>i<=l.length/\Aa B w I N) (λi=>l.length-i) 0 ⟨Y4 _,b⟩ ?_)));rintro i w ⟨hi,b⟩;refine gN 1 ?_ ?_<;>intro e
 ·obtain⟨q,rfl,g⟩:=f.2 om;refine gH 1 (.val (.BS (.of O) b (g.add _) Gc (show((Ao l).drop (((i:Nat):Int).toNat*1))[0]?=some (U8 (l.getD i 0).toNat) from Lf om om)) O (gE 3 (Xom _ _ d) ?_));intro w b;refine gE 2 (Xom _ _ d) ?_;intro w b;refine gG 3 (⟨i+1,⟨?_,O,O,O,trivial⟩,⟨om,b⟩,om⟩);rw[Yv,Y2 om,DE,M7,show l.getD i 0=l[i]'(by omega)by rw[Yf,Y2 om];rfl];rfl
 refine gH 1 (.val (.gR (.of O)) O (gG 1 ?_));rw[Yo om];exact⟨O,b⟩
theorem N7(l:Lu)(a:Oa)(c:Nat)(f:l.length<=1000000)(d:A4 I)(e:RS I a 1 l.length (Ao l))(N:La)(b:Aa B w I N):Ce B I N 429 [.slice a l.length c] w (.int .u32 (fN 0 l)):=by
 refine gE 2 (Xp3 0 l a c f d e) ?_;intro w b;exact gG 1 ⟨O,b⟩
theorem Xyi(l m:Lu)(a r:Oa)(c t:Nat)(x:l.length<=1000000)(z:m.length<=1000000)(u:RS I a 1 l.length (Ao l))(o:RS I r 1 m.length (Ao m))(N:La)(b:Aa B w I N):Ce B I N 384 [.slice a l.length c,.slice r m.length t] w (.bool (l==m)):=by
 refine gN 6 ?_ ?_<;>intro n
 ·refine gH 1 (.nil (.ret ?_));refine λ_ e=>GD e O (⟨_,O,Yc Value.bool ?_,b⟩)
  exact(beq_eq_false_iff_ne.2 λh=>by have j:=n;rw[h]at j;exact j O).symm
 refine gG 3 ?_;have k:=b;clear b;refine .lk [0,1,12] (σ:=Nat) (λi _m=>(13,Ab (i:Int))::_m) (λi w=>i<=l.length/\(l==m)=(l.drop i==m.drop i)/\Aa B w I N) (λi=>l.length-i) 0 ⟨Y4 _,O,k⟩ ?_;rintro i w ⟨hi,d,b⟩;clear k;refine gN 1 ?_ ?_<;>intro s
 ·refine gG 2 ?_;obtain⟨p,rfl,v⟩:=u.2 om;obtain⟨A,rfl,q⟩:=o.2 om;refine gQ ?_;intro w b;refine gH 3 (A1.y 3 (λw _ _ g b=>.BS (.of O) b ((v.add _).mono g) Gc (show((Ao l).drop (((i:Nat):Int).toNat*1))[0]?=some (U8 (l.getD i 0).toNat) from Lf om om)) (gH 3 (A1.y 7 (λw _ _ g b=>.BS (.of O) b ((q.add _).mono g) Gc (show((Ao m).drop (((i:Nat):Int).toNat*1))[0]?=some (U8 (m.getD i 0).toNat) from Lf om om)) ?_)));refine gN 1 ?_ ?_<;>intro f
  ·refine gH 1 (.nil (.ret ?_));refine λ_ e=>GD e O (⟨_,O,Yc Value.bool ?_,b⟩)
   rw[d,X7 l om,X7 m om,nE,show(at_ l (i:Int)==at_ m (i:Int))=false from LK (by have j:=f;simpa[at_,Yf]using j)];rfl
  refine gG 2 (⟨i+1,⟨O,O,O,O,trivial⟩,⟨om,?_,b⟩,om⟩);rw[d,X7 l om,X7 m om,nE,show(at_ l (i:Int)==at_ m (i:Int))=true from LJ (by have j:=f;simpa[at_,Yf]using j),Cv]
 refine gH 1 (.nil (.ret ?_));refine λ_ e=>GD e O (⟨_,O,Yc Value.bool ?_,b⟩)
 rw[d,Yb om,Yb om];rfl
theorem A4.mono(h:A4 I)(a:Le I J):A4 J:=At.mono h a
theorem XN(l:Lu)(a:Oa)(c:Nat)(m:l.length<=1000000)(g:A4 I)(i:RS I a 1 l.length (Ao l))(N:La)(b:Aa B w I N):Ce B I N 364 [.slice a l.length c] w (.int .u32 (XM l)):=by
 refine gH 6 (.val (.ET (.of O) B1 BP) O (gH 1 (.val (.ET (.of O) B1 BP) O (gH 1 ?_))));intro e w b;replace b:=b;replace b:=b.say (k:=0) (A':=Ac e (Ao (([(l.length:Int)/2^8,(l.length:Int)]:List Int).map C8)) 5) O (λh j=>by rw[YY];exact j);dsimp only[List.set]at b;obtain⟨J,d,f,b⟩:=b.HS sz;refine gE 0 (N7 _ _ _ sz (g.mono d) f) ?_;intro w b;refine gE 1 (Xp3 _ l a c m (g.mono d) (i.mono d)) ?_;intro w b;exact gG 1 ⟨O,b.weaken d⟩
theorem Xwg(l:Lu)(a:Oa)(c:Nat)(q:l.length<=1000000)(o:A4 I)(j:RS I a 1 l.length (Ao l))(N:La)(b:Aa B w I N):Cz 272 [.slice a l.length c] w λv w'=>∃m,v=.tuple #[m,Ab ((D8 l).2:Nat)]/\Aa B w' I (An 5 1 m (D8 l).1.length (Ao (D8 l).1)::N):=by
 refine gN 8 ?_ ?_<;>intro f
 ·refine gG 2 ?_;have e:D8 l=([],1):=by unfold D8;exact Y9 (oh f)
  rw[e];exact⟨_,O,b.Ai 5 1⟩
 refine gN 3 ?_ ?_<;>intro d
 ·refine gG 2 ?_;have e:D8 l=([],2):=by unfold D8;rw[Y3 (oh f)];exact Y9 (oh d)
  rw[e];exact⟨_,O,b.Ai 5 1⟩
 refine gE 1 (XN l a c om o j) ?_;intro w b;refine gH 3 (.val (.ET (.of O) B1 BP) O (gH 1 (.val (.ET (.of O) B1 BP) O (gH 2 (.val (.ET (.of O) MP BP) O (gH 2 (.val (.ET (.of O) MP BP) O (gH 2 (.val (.ET (.of O) MP BP) O (gH 1 (.val (.ET (.of O) MP BP) O (gH 2 ?_))))))))))));intro g w b;replace b:=b;replace b:=b.say (k:=0) (A':=Ac g (Ao ((HU l:List Int).map C8)) 5) O (λh p=>by rw[YY];exact p);dsimp only[List.set]at b;replace b:=b.A2 (size:=1) (n:=6) (k:=0) O (by simp[Ao,HU]) de;refine .Bz (bytes:=1) b (.of O) (.of O) j (k:=0) O BV Xw O O O O (HD l) ⟨om,by unfold maxLen;omega⟩ O ?_;intro i w b;refine gG 2 ?_;have e:D8 l=((HU l).map C8++l,0):=by unfold D8;rw[Y3 (oh f)];exact Y3 (oh d)
 rw[e];refine⟨i,O,?_⟩;rw[show((HU l).map C8++l).length=6+l.length by simp[HU];omega,show Ao ((HU l).map C8++l)=Ao ((HU l).map C8)++Ao l from Yn];exact b
theorem LR{s lo hi:Nat}(h:RS I a s n xs)(g:lo<=hi)(d:hi<=n)(i:n<=c):∃b,sliced a lo hi c s=.slice b (hi-lo) (c-lo)/\RS I b s (hi-lo) ((xs.take (hi*s)).drop (lo*s)):=by
 have e:hi*s<=n*s:=T4 _ d;refine⟨if c=lo then a else a.map (·.add (lo*s)),O,by rw[Y6,Yl,h.1,M8 e,Nat.sub_mul],λj=>?_⟩;obtain⟨p,rfl,f⟩:=h.2 om;rw[Y3 om];refine⟨_,O,(?_:At I p (xs.take (hi*s))).add (lo*s)⟩;exact sr f _
theorem sR{b:Lu}(h:At I p (Ao b))(a:k<b.length):((Ao b).drop k)[0]?=some (U8 (b.getD k 0).toNat):=by
 rw[Hk,ER];simp[Ao,Yf,a]
def Gn(I:Im)(xs:List Lu)(cs:Lv):Prop:=cs.length=xs.length/\∀(i:Nat) x,xs[i]?=some x->∃a c,cs[i]?=some (.slice a x.length c)/\x.length<=c/\RS I a 1 x.length (Ao x)
theorem Gn.mono{xs:List Lu}(h:Gn I xs cs)(f:Le I J):Gn J xs cs:=⟨h.1,λi x hx=>by
 obtain⟨a,c,b,d,e⟩:=h.2 i x hx;exact⟨a,c,b,d,e.mono f⟩⟩
theorem Ud(xs:List Lu)(cs:Lv)(a:Oa)(c:Nat)(y:∀x∈xs,x.length<=1000000)(A:xs.length<=1000000)(E:A4 I)(F:Gn I xs cs)(q:RS I a 1 xs.length cs)(N:La)(d:Aa B w I N):Cz 276 [.slice a xs.length c] w λv w'=>∃J g,v=.tuple #[g,Ab ((HL xs []).2:Nat)]/\Le I J/\Aa B w' J (An 5 1 g (HL xs []).1.length (Ao (HL xs []).1)::N):=by
 refine gG 6 ?_;replace d:=d.Ai 5 1;have l:=d;clear d;refine .lk [9,10] (σ:=Nat×Lu×Va×Im) (λ(i,b,g,J) _m=>(4,g)::(11,Ab (i:Nat))::_m) (λ(i,b,g,J) w=>i<=xs.length/\HL xs []=HL (xs.drop i) b/\b.length<=i*4006/\Le I J/\Aa B w J (An 5 1 g b.length (Ao b)::N)) (λ(i,b,g,J)=>xs.length-i) (0,[],.slice none 0 0,I) ⟨Y4 _,O,Y4 _,Le.refl _,l⟩ ?_;rintro⟨i,b,g,J⟩ w ⟨hi,f,H,j,d⟩;clear l;have m:=E.mono j;refine gN 1 ?_ ?_<;>intro C
 ·obtain⟨x,hx⟩:∃x,xs[i]?=some x:=⟨_,Y2 om⟩
  obtain⟨Q,R,z,A,r⟩:=F.2 i x hx;have M:=y x (Y7 hx);have u:xs.drop i=x::xs.drop (i+1):=by rw[Ym (Y1.1 hx).1,(Y1.1 hx).2]
  obtain⟨p,t,K⟩:=q.2 om;rw[u]at f;have L:=Xwh x;refine gG 0 ?_;subst t;refine .val (.ii O O om om IZ Gz) O ?_
  (try rw[Yd]);rw[Dm]
  refine .val (.BS (.of O) d ((K.mono j).add i) E1 (by rw[Hk,ER];exact z)) O ?_;refine gF 2 (Xwg x Q R om m (r.mono j)) ?_;rintro _ w ⟨U,rfl,d⟩;refine gN 7 ?_ ?_<;>intro h
  ·refine gG 3 ?_;have e:HL xs []=([],(D8 x).2):=by rw[f,HL];exact Y9 (oh h)
   rw[e];exact⟨J,.slice none 0 0,O,j,d.s.Ai 5 1⟩
  refine gH 2 ?_;obtain⟨S,T,rfl,G,_⟩:=d.vS 0;obtain⟨D,n,o,d⟩:=d.fV 0;try dsimp only[List.eraseIdx]at d
  refine .Bz (bytes:=1) d (.of O) (.of O) o (k:=0) O BV Xw O O O O (HD _) ⟨om,by unfold maxLen;omega⟩ O ?_;intro P w d;dsimp only[List.set]at d;refine gG 3 (A_ (i+1,b++(D8 x).1,_,D) O ⟨om,?_,?_,j.trans n,?_⟩)
  ·(try dsimp only)
   rw[f,HL,Y3 (oh h)]
  ·(try dsimp only)
   rw[Y0,F0];omega
  ·(try dsimp only)
   rw[Y0,show Ao (b++(D8 x).1)=Ao b++Ao (D8 x).1 from Yn];exact d
 refine gG 3 ?_;have e:HL xs []=(b,0):=by rw[f,Yb om];first|done|rfl
 rw[e];exact⟨J,g,O,j,d⟩
end Go.Proofs.W9
namespace Rq
open Gk Go
structure Lg where
 d:Dk
 gen:Int
 AL:Int
 used:Int
 data:Lu
def Fs(d:Dk):Int:=((d.kept.length:Nat)-2:Int)/2
def HK(d:Dk):Int:=Fs d*32
def TN(d:Dk)(a i:Int):Int:=2+a*Fs d+i
def JQ(c a b:Int):Int:=c*16384+a*8192+b
def T2(c a b:Int):Lu:=[JQ c a b/2^24,JQ c a b/2^16,JQ c a b/2^8,JQ c a b].map C8
def ng(c a b:Int):List Int:=[fN 0 (T2 c a b)/2^24,fN 0 (T2 c a b)/2^16,fN 0 (T2 c a b)/2^8,fN 0 (T2 c a b)]
def Kh(c a b:Int):Lu:=(ng c a b).map C8++T2 c a b
def EO:List (Dk->Nat×Dk)->Dk->Nat×Dk
 | [],d=>(0,d)
 | f::r,d=>if(f d).1≠0 then(21,Jh (f d).2)else EO r (f d).2
def fP(a:Lu)(i:Nat):Lu:=(a.take ((i+1)*32)).drop (i*32)
def cntF(n a:Nat):Nat:=(n+31)/32-a/32
def TS(f:Dk)(e a u:Int)(b:Lu)(c:Nat):List (Dk->Nat×Dk) :=
 (List.range' (c/32) (cntF b.length c)).map (λ(i:Nat) d=>CQ d (TN f a i) (fP b i))++[DW,λd=>CQ d (e%2) (Kh e a u),DW]
def HN(L:Lg)(c a u:Int)(b:Lu)(e:Nat):Nat×Lg :=
 let r:=EO (TS L.d c a u b e) L.d
 if r.1≠0 then(21,{ L with d:=r.2 })else(0,⟨r.2,c,a,u,b⟩)
def Gv(L:Lg)(b:Lu):Nat×Lg :=
 if(D8 b).2≠0 then((D8 b).2,L)else
 if HK L.d-L.used<((D8 b).1.length:Nat)\/262144<=L.gen+1 then(5,L)else
 HN L (L.gen+1) L.AL (L.used+((D8 b).1.length:Nat)) (L.data++(D8 b).1) L.used.toNat
def G5(L:Lg)(xs:List Lu):Nat×Lg :=
 if(HL xs []).2≠0 then((HL xs []).2,L)else
 if HK L.d<((HL xs []).1.length:Nat)\/262144<=L.gen+1 then(5,L)else
 HN L (L.gen+1) (1-L.AL) ((HL xs []).1.length:Nat) (HL xs []).1 0
structure E0(L:Lg):Prop where
 d:Dz L.d
 len:4<=L.d.kept.length
 gen:0<=L.gen/\L.gen<262144
 AL:L.AL=0\/L.AL=1
 used:L.used=(L.data.length:Nat)
 room:L.used<=HK L.d
 st:L.d.Ae.length<=600
 emp:L.d.off=true\/L.d.Ae=[]
def my(st:Dk->Nat×Dk):Prop:=∀d,Dz d->Dz (st d).2/\(st d).2.kept.length=d.kept.length/\(st d).2.Ae.length<=d.Ae.length+1
theorem rR(i:Int)(b:Lu):my λd=>CQ d i b:=λd h=>by
 obtain⟨e,c,a⟩:=lX h;refine⟨RX h i b,?_,?_⟩
 ·show(CQ d i b).2.kept.length=_
  unfold CQ;split
  ·rfl
  ·split
   ·rfl
   ·split<;>exact Yc List.length c
 ·show(CQ d i b).2.Ae.length<=_
  unfold CQ;split
  ·exact uE _
  ·split
   ·exact uE _
   ·split
    ·rw[a];exact uE _
    ·rw[Y0,a];exact Ya _
theorem sj:my DW:=λd h=>by
 obtain⟨a,b,c⟩:=lX h
 have:=s8 (Xg d).2.Ae (Xg d).2.kept a.what a.kept
 refine⟨XQ h,?_,?_⟩<;>unfold DW<;>split<;>simp_all
theorem Ot{a:List (Dk->Nat×Dk)}{st:Dk->Nat×Dk}(h:a[k]?=some st)(d:Dk):EO (a.drop k) d=if(st d).1≠0 then(21,Jh (st d).2)else EO (a.drop (k+1)) (st d).2:=by
 obtain⟨c,b⟩:=Y1.mp h;rw[Ym c,b];rfl
theorem Qp(d:Dk):(Jh d).AH=d.AH:=by unfold Jh;split<;>rfl
theorem US(d:Dk):(Jh d).kept.length=d.kept.length/\(Jh d).Ae.length<=d.Ae.length/\((Jh d).off=true\/(Jh d).Ae=[]):=by
 unfold Jh;split
 ·rename_i h;exact⟨O,Ya _,.inl h⟩
 ·exact⟨O,Y4 _,.inr O⟩
theorem Ou:∀(a:List (Dk->Nat×Dk)),(∀st∈a,my st)->∀d,Dz d->Dz (EO a d).2/\(EO a d).2.kept.length=d.kept.length/\(EO a d).2.Ae.length<=d.Ae.length+a.length/\((EO a d).1≠0->(EO a d).2.off=true\/(EO a d).2.Ae=[])
 | [],_,d,h=>⟨h,O,Ya _,λh=>Yz O h⟩
 | f::r,g,d,h=>by
  obtain⟨c,e,n⟩:=g f sz d h;rw[EO];split
  ·obtain⟨i,l,j⟩:=US (f d).2;exact⟨UR c,by rw[i];exact e,by rw[Y5];show(Jh (f d).2).Ae.length<=_;omega,λ_=>j⟩
  ·obtain⟨g1,g2,m,k⟩:=Ou r (λst b=>g st (by simp[b])) (f d).2 c;exact⟨g1,by rw[g2,e],by rw[Y5];omega,k⟩
theorem Mb(d:Dk)(h:(DW d).1=0):(DW d).2.Ae=[]:=by
 unfold DW at h ⊢;split
 ·rename_i a;rw[Y9 a]at h;cases h
 ·rfl
theorem Xpx:∀(b:List (Dk->Nat×Dk)) (d:Dk),(EO (b++[DW]) d).1=0->(EO (b++[DW]) d).2.Ae=[]
 | [],d,h=>by
  rw[Db,EO]at h ⊢;split
  ·rename_i a;rw[Y9 a]at h;cases h
  ·rename_i a;exact Mb d (Classical.byContradiction a)
 | f::r,d,h=>by
  rw[Em,EO]at h ⊢;split
  ·rename_i a;rw[Y9 a]at h;cases h
  ·rename_i a;rw[Y3 a]at h;exact Xpx r _ h
theorem Xo0{d:Dk}(h:d.off=true):Xg d=(true,d):=by unfold Xg;rw[Y9 h]
theorem Xqr(i:Int)(b:Lu){d:Dk}(h:d.off=true):(CQ d i b).1≠0/\(CQ d i b).2=d:=by
 unfold CQ;split
 ·exact⟨uu _,O⟩
 ·split
  ·exact⟨uu _,O⟩
  ·rw[Xo0 h,Y9 O];exact⟨uu _,O⟩
theorem Xx0{d:Dk}(h:d.off=true):(DW d).1≠0/\(DW d).2=d:=by
 unfold DW;rw[Xo0 h,Y9 O];exact⟨uu _,O⟩
theorem W1(a:List (Dk->Nat×Dk))(b:a≠[]){d:Dk}(h:d.off=true)(g:∀st∈a,(st d).1≠0/\(st d).2=d):EO a d=(21,d):=by
 cases a with
 | nil=>exact Yz O b
 | cons f r =>
  obtain⟨c,e⟩:=g f sz;rw[EO,Y9 c,e];unfold Jh;rw[Y9 h]
theorem XH(d:Dk)(e c u:Int)(a:Lu)(b:Nat):∀st∈TS d e c u a b,my st:=by
 intro st h;rcases Ys.1 h with h|h
 ·obtain⟨i,_,rfl⟩:=Dt.1 h;exact rR _ _
 ·simp only[Yp,E6,or_false]at h
  rcases h with rfl|rfl|rfl
  ·exact sj
  ·exact rR _ _
  ·exact sj
theorem RG(f:Dk)(g e u:Int)(a:Lu)(c:Nat){d:Dk}(b:d.off=true):∀st∈TS f g e u a c,(st d).1≠0/\(st d).2=d:=by
 intro st h;rcases Ys.1 h with h|h
 ·obtain⟨i,_,rfl⟩:=Dt.1 h;exact Xqr _ _ b
 ·simp only[Yp,E6,or_false]at h
  rcases h with rfl|rfl|rfl
  ·exact Xx0 b
  ·exact Xqr _ _ b
  ·exact Xx0 b
theorem Oo{d e:Dk}(h:e.kept.length=d.kept.length):HK e=HK d:=by unfold HK Fs;rw[h]
theorem tm{d:Dk}(h:Dz d)(a:4<=d.kept.length):32<=HK d/\HK d<=8160:=by
 have:=h.size;unfold HK Fs;omega
theorem Oh{L:Lg}(h:E0 L){e c u:Int}{a:Lu}(b:Nat)(r:0<=e/\e<262144)(p:c=0\/c=1)(v:u=(a.length:Nat))(s:u<=HK L.d):E0 (HN L e c u a b).2:=by
 rcases h.emp with m|q
 ·have:HN L e c u a b=(21,L):=by
   unfold HN;rw[W1 _ (by unfold TS;simp) m (RG L.d e c u a b m)];rfl
  rw[this];exact h
 ·obtain⟨j,f,n,o⟩:=Ou _ (XH L.d e c u a b) L.d h.d;have t:=tm h.d h.len;have l:(TS L.d e c u a b).length<=300:=by
   unfold TS;rw[Y0,Yj,List.length_range'];unfold cntF;simp only[Y5,Yh];omega
  rw[q,Yh]at n;unfold HN;dsimp only
  split
  ·rename_i g
   exact⟨j,by show 4<=(EO _ _).2.kept.length;rw[f];exact h.len,h.gen,h.AL,h.used,by show L.used<=HK (EO _ _).2;rw[Oo f];exact h.room,by show(EO _ _).2.Ae.length<=600;omega,o g⟩
  ·rename_i g
   have k:(EO (TS L.d e c u a b) L.d).2.Ae=[]:=by
    have:TS L.d e c u a b=((List.range' (b/32) (cntF a.length b)).map (λ(i:Nat) d=>CQ d (TN L.d c i) (fP a i))++[DW,λd=>CQ d (e%2) (Kh e c u)])++[DW]:=by unfold TS;simp
    rw[this]at g ⊢;exact Xpx _ _ (Classical.byContradiction g)
   exact⟨j,by show 4<=(EO _ _).2.kept.length;rw[f];exact h.len,r,p,v,by show u<=HK (EO _ _).2;rw[Oo f];exact s,by show(EO _ _).2.Ae.length<=600;rw[k];simp,.inr k⟩
theorem vG{L:Lg}(h:E0 L)(b:Lu):E0 (Gv L b).2:=by
 unfold Gv;split
 ·exact h
 ·split
  ·exact h
  ·rename_i a
   refine Oh h _ ?_ h.AL ?_ ?_
   ·have:=h.gen;omega
   ·rw[h.used,Y0];omega
   ·omega
theorem Xgd{L:Lg}(h:E0 L)(xs:List Lu):E0 (G5 L xs).2:=by
 unfold G5;split
 ·exact h
 ·split
  ·exact h
  ·rename_i a
   refine Oh h _ ?_ ?_ O ?_
   ·have:=h.gen;omega
   ·rcases h.AL with h|h<;>rw[h]<;>simp
   ·omega
end Rq
namespace Go.Proofs.W9
open Gk Ul Pc Tk Tr Xm Rq
open Tryz
theorem wF(L:Lg)(lg db kb:Nat)(us sv pl:Va)(c:4<=L.d.kept.length)(b:L.d.kept.length<=512)(N:La)(a:Aa B w I (Ac lg [ptr db 0,Ab L.gen,Ab L.AL,Ab L.used,us] 370::BI db kb sv pl L.d N)):Ce B I (Ac lg [ptr db 0,Ab L.gen,Ab L.AL,Ab L.used,us] 370::BI db kb sv pl L.d N) 286 [ptr lg 0] w (Ab (Fs L.d)):=by
 refine gE 5 (Xuo L.d db kb sv pl) ?_;intro w a;exact gG 3 ⟨O,a.s⟩
theorem wE(L:Lg)(lg db kb:Nat)(us sv pl:Va)(e:4<=L.d.kept.length)(a:L.d.kept.length<=512)(N:La)(b:Aa B w I (Ac lg [ptr db 0,Ab L.gen,Ab L.AL,Ab L.used,us] 370::BI db kb sv pl L.d N)):Ce B I (Ac lg [ptr db 0,Ab L.gen,Ab L.AL,Ab L.used,us] 370::BI db kb sv pl L.d N) 277 [ptr lg 0] w (Ab (HK L.d)):=by
 refine gE 2 (wF L lg db kb us sv pl e a) ?_;intro w b;have c:1<=Fs L.d/\Fs L.d<=255:=by unfold Fs;omega
 exact gG 2 ⟨O,b⟩
theorem Xio(L:Lg)(lg db kb:Nat)(us sv pl:Va)(a i:Int)(g:a=0\/a=1)(hi:0<=i/\i<=100000)(f:4<=L.d.kept.length)(b:L.d.kept.length<=512)(N:La)(c:Aa B w I (Ac lg [ptr db 0,Ab L.gen,Ab L.AL,Ab L.used,us] 370::BI db kb sv pl L.d N)):Ce B I (Ac lg [ptr db 0,Ab L.gen,Ab L.AL,Ab L.used,us] 370::BI db kb sv pl L.d N) 288 [ptr lg 0,Ab a,Ab i] w (Ab (TN L.d a i)):=by
 refine gE 3 (wF L lg db kb us sv pl f b) ?_;intro w c;have e:1<=Fs L.d/\Fs L.d<=255:=by unfold Fs;omega
 have h:0<=a*Fs L.d/\a*Fs L.d<=255:=by rcases g with rfl|rfl<;>omega
 refine .val (.mul (.of O) (.of O) ⟨om,om⟩) O ?_;exact gG 4 ⟨O,c⟩
theorem Xkw(L:Lg)(lg db kb:Nat)(us sv pl:Va)(f:4<=L.d.kept.length)(a:L.d.kept.length<=512)(g:0<=L.used/\L.used<=100000)(N:La)(b:Aa B w I (Ac lg [ptr db 0,Ab L.gen,Ab L.AL,Ab L.used,us] 370::BI db kb sv pl L.d N)):Ce B I (Ac lg [ptr db 0,Ab L.gen,Ab L.AL,Ab L.used,us] 370::BI db kb sv pl L.d N) 273 [ptr lg 0] w (Ab (HK L.d-L.used)):=by
 refine gG 1 (gD [0,0,0,0] [] [0,2,3,4,5,6,1,7,8] ?_);intro w b;refine gE 6 (wE L lg db kb us sv pl f a) ?_;intro w b;have e:1<=Fs L.d/\Fs L.d<=255:=by unfold Fs;omega
 have c:HK L.d<=255*32/\0<=HK L.d:=by unfold HK;omega
 exact gG 2 ⟨O,b.s⟩
theorem QI(c a us:Int)(g:0<=c/\c<262144)(i:a=0\/a=1)(j:0<=us/\us<8192)(N:La)(d:Aa B w I N):Cz 431 [.agg #[Ab c,Ab a,Ab us]] w λv w'=>∃b,v=.slice (some (ad b 0)) 4 4/\Aa B w' I (Ac b (Ao (T2 c a us)) 5::N):=by
 refine gG 2 ?_;intro b1 w d;refine gH 13 (.val (.ET (.of O) B1 BP) O (gH 2 (.val (.ET (.of O) B1 BP) O (gH 2 (.val (.ET (.of O) B1 BP) O (gH 1 (.val (.ET (.of O) B1 BP) O (gH 1 ?_))))))));intro e w d;replace d:=d;replace d:=d.say (k:=0) (A':=Ac e (Ao (([JQ c a us/2^24,JQ c a us/2^16,JQ c a us/2^8,JQ c a us]:List Int).map C8)) 5) O (λh f=>by rw[YY];exact f);dsimp only[List.set]at d;exact gG 1 ⟨e,O,(d.y 1 1)⟩
theorem Xig(c b us:Int)(g:0<=c/\c<262144)(i:b=0\/b=1)(j:0<=us/\us<8192)(l:A4 I)(N:La)(a:Aa B w I N):Cz 369 [.agg #[Ab c,Ab b,Ab us]] w λv w'=>∃J,Le I J/\Aa B w' J (An 5 1 v 8 (Ao (Kh c b us))::N):=by
 refine gH 3 ?_;intro b1 w a;refine gF 0 (QI c b us g i j) ?_;rintro _ w ⟨p,rfl,a⟩;obtain⟨J,e,f,a⟩:=a.HS (by simp[T2]);refine gE 2 (N7 _ _ _ (by simp[T2]) (l.mono e) f) ?_;intro w a;refine gH 3 (.val (.ET (.of O) MP BP) O (gH 2 (.val (.ET (.of O) MP BP) O (gH 2 (.val (.ET (.of O) MP BP) O (gH 1 (.val (.ET (.of O) MP BP) O (gH 2 ?_))))))));intro d w a;replace a:=a;replace a:=a.say (k:=0) (A':=Ac d (Ao ((ng c b us:List Int).map C8)) 5) O (λh m=>by rw[YY];exact m);dsimp only[List.set]at a;replace a:=a.A2 (size:=1) (n:=4) (k:=0) O (by simp[Ao,ng]) de;refine .Bz (bytes:=1) a (.of O) (.of O) f (k:=0) O BV Xw O O O O (HD _) ⟨de,de⟩ O ?_;intro o w a;try dsimp only[List.set]at a
 refine gG 1 (⟨J,e,?_⟩);rw[show Ao (Kh c b us)=Ao ((ng c b us).map C8)++Ao (T2 c b us) from Yn];exact a.s
theorem Xfl:prog.info? 151=some t151:=by kernel_rfl
def EK(B:Wo)(I:Im)(lg db kb:Nat)(DI DF DM:Int)(us:Va)(n0:Nat)(f:Va)(st:Dk->Nat×Dk):Prop:=∃a fn g cap,f=.func (.func a) (List.toArray g) (List.toArray cap)/\prog.funcs[a]?=some fn/\Xf fn=true/\
 ∀(d:Dk) (sv pl:Va) (w:Wo) (J:Im) (N:La),Le I J->Dz d->d.Ae.length<=100000->d.kept.length=n0->Az J pl d.AH->Aa B w J (Ac lg [ptr db 0,Ab DI,Ab DF,Ab DM,us] 370::BI db kb sv pl d N)->
  Calls prog a (g++[]++cap).toArray w (AY λv w'=>∃c e b,Le J c/\v=Ab ((st d).1:Nat)/\Az c b (st d).2.AH/\Aa B w' c (Ac lg [ptr db 0,Ab DI,Ab DF,Ab DM,us] 370::BI db kb e b (st d).2 N))
theorem EK.mono{f:Va}{st:Dk->Nat×Dk}(h:EK B I lg db kb DI DF DM us n0 f st)(k:Le I J):EK B J lg db kb DI DF DM us n0 f st:=by
 obtain⟨a,fn,b,cap,c,e,g,i⟩:=h;exact⟨a,fn,b,cap,c,e,g,λd sv pl w K N j=>i d sv pl w K N (k.trans j)⟩
theorem WH(d:Dk)(lg db kb:Nat)(DI DF DM:Int)(us sv pl:Va)(i:Int)(b:Lu)(pa:Oa)(m k b1 l:Nat)(n:At I (ad k 0) [ptr lg 0])(o:At I (ad b1 0) [Ab i])(p:At I (ad l 0) [.slice pa b.length m])(q:Dz d)(r:Az I pl d.AH)(h:RS I pa 1 b.length (Ao b))(j:d.Ae.length<=1000000)(N:La)(c:Aa B w I (Ac lg [ptr db 0,Ab DI,Ab DF,Ab DM,us] 370::BI db kb sv pl d N)):Cz 365 [ptr k 0,ptr b1 0,ptr l 0] w λv w'=>∃f e,v=Ab ((CQ d i b).1:Nat)/\Az I e (CQ d i b).2.AH/\Aa B w' I (Ac lg [ptr db 0,Ab DI,Ab DF,Ab DM,us] 370::BI db kb f e (CQ d i b).2 N):=by
 refine gG 1 (gD [0] [] [0,1,2,3,4,5,6,7] ?_);intro w c;refine A1.y 0 (λw _ _ a c=>(.BS (.of O) c (n.mono a) aC O)) (gH 3 (A1.y 4 (λw _ _ a c=>(.BS (.of O) c (o.mono a) BJ O)) (A1.y 5 (λw _ _ a c=>(.BS (.of O) c (p.mono a) E1 O)) (gF 0 (Xib i b pa m d db kb sv pl B _ I q r h j) ?_))));rintro _ w ⟨f,e,rfl,g,c⟩;exact gG 1 ⟨f,e,O,g,c.s⟩
theorem WJ(d:Dk)(lg db kb:Nat)(DI DF DM:Int)(us sv pl:Va)(b e u:Int)(q b1:Nat)(F:0<=b/\b<262144)(C:e=0\/e=1)(H:0<=u/\u<8192)(A:A4 I)(t:At I (ad q 0) [ptr lg 0])(r:At I (ad b1 0) [Ab b,Ab e,Ab u])(x:Dz d)(z:Az I pl d.AH)(o:d.Ae.length<=1000000)(N:La)(a:Aa B w I (Ac lg [ptr db 0,Ab DI,Ab DF,Ab DM,us] 370::BI db kb sv pl d N)):Cz 368 [ptr q 0,ptr b1 0] w λv w'=>∃J g f,Le I J/\v=Ab ((CQ d (b%2) (Kh b e u)).1:Nat)/\Az J f (CQ d (b%2) (Kh b e u)).2.AH/\Aa B w' J (Ac lg [ptr db 0,Ab DI,Ab DF,Ab DM,us] 370::BI db kb g f (CQ d (b%2) (Kh b e u)).2 N):=by
 refine gG 1 (gD [0] [] [0,1,2,3,4,5,6,7,8,9,10] ?_);intro w a;refine A1.y 0 (λw _ _ c a=>(.BS (.of O) a (t.mono c) aC O)) (gH 4 (A1.y 5 (λw _ _ c a=>(.BS (.of O) a (r.mono c) BJ O)) (gH 1 (A1.y 7 (λw _ _ c a=>(.B5 (.of O) a (r.mono c) mM Ik O (λ_ _ h=>h))) (gF 0 (Xig b e u F C H A) ?_)))));rintro L w ⟨K,m,a⟩;obtain⟨D,E,rfl,G,_⟩:=a.vS 0;obtain⟨p,i,k,a⟩:=a.fV 0;try dsimp only[List.eraseIdx]at a
 have j:=m.trans i;have l:(Kh b e u).length=8:=by simp[Kh,ng,T2]
 rw[<-l]at k;refine gF 0 (by rw[<-l];exact Xib (b%2) (Kh b e u) _ _ d db kb sv pl B _ p x (z.mono j) k o) ?_;rintro _ w ⟨g,f,rfl,n,a⟩;exact gG 1 ⟨p,g,f,j,O,n,a.s⟩
theorem Rj{a b1 c:Nat}{i:Int}{b:Lu}{pa:Oa}{m:Nat}(n:At I (ad a 0) [ptr lg 0])(o:At I (ad b1 0) [Ab i])(p:At I (ad c 0) [.slice pa b.length m])(h:RS I pa 1 b.length (Ao b)):EK B I lg db kb DI DF DM us n0 (.func (.func 365) #[] #[ptr a 0,ptr b1 0,ptr c 0]) (λd=>CQ d i b) :=
 ⟨365,_,[],[ptr a 0,ptr b1 0,ptr c 0],O,func365,O,λd sv pl w J N f q u y r s=>(WH d lg db kb DI DF DM us sv pl i b pa m a b1 c (n.mono f) (o.mono f) (p.mono f) q r (h.mono f) om N s).mono λe w' ⟨v,t,l,k,x,g,j⟩=>⟨v,t,J,l,k,Le.refl _,x,g,j⟩⟩
theorem Rl{c b1:Nat}{a b u:Int}(t:0<=a/\a<262144)(r:b=0\/b=1)(y:0<=u/\u<8192)(q:A4 I)(k:At I (ad c 0) [ptr lg 0])(l:At I (ad b1 0) [Ab a,Ab b,Ab u]):EK B I lg db kb DI DF DM us n0 (.func (.func 368) #[] #[ptr c 0,ptr b1 0]) (λd=>CQ d (a%2) (Kh a b u)) :=
 ⟨368,_,[],[ptr c 0,ptr b1 0],O,func368,O,λd sv pl w J N f n x A o p=>(WJ d lg db kb DI DF DM us sv pl a b u c b1 t r y (q.mono f) (k.mono f) (l.mono f) n o om N p).mono λe w' ⟨v,s,K,j,i,m,z,g,h⟩=>⟨v,s,K,j,i,m,z,g,h⟩⟩
theorem Xqg:EK B I lg db kb DI DF DM us n0 (.func (.func 367) #[ptr db 0] #[]) DW :=
 ⟨367,_,[ptr db 0],[],O,func367,O,λd sv pl w J N m g k n h i=>(Qk d db kb sv pl g h om _ (i.x [3,3,3])).mono λe w' ⟨v,j,f,c,l,a,b⟩=>⟨v,j,J,f,c,Le.refl _,l,a,(((b.pick 3 O)))⟩⟩
def A7(B:Wo)(I:Im)(lg db kb:Nat)(DI DF DM:Int)(us:Va)(n0:Nat)(fs:Lv)(a:List (Dk->Nat×Dk)):Prop:=fs.length=a.length/\∀(k:Nat) f st,fs[k]?=some f->a[k]?=some st->EK B I lg db kb DI DF DM us n0 f st/\my st
theorem A7.mono{fs:Lv}{sts:List (Dk->Nat×Dk)}(h:A7 B I lg db kb DI DF DM us n0 fs sts)(c:Le I J):A7 B J lg db kb DI DF DM us n0 fs sts:=⟨h.1,λk f st a b=>⟨(h.2 k f st a b).1.mono c,(h.2 k f st a b).2⟩⟩
theorem A7.app{fs g:Lv}{b c:List (Dk->Nat×Dk)}(h:A7 B I lg db kb DI DF DM us n0 fs b)(i:A7 B I lg db kb DI DF DM us n0 g c):A7 B I lg db kb DI DF DM us n0 (fs++g) (b++c):=by
 refine⟨by rw[Y0,Y0,h.1,i.1],λk f st d e=>?_⟩;rcases Yt k fs.length with a|a
 ·rw[Ye a]at d;rw[Ye (by rw[<-h.1];exact a)]at e;exact h.2 k f st d e
 ·rw[Yw a]at d;rw[Yw (by rw[<-h.1];exact a),<-h.1]at e;exact i.2 _ f st d e
theorem A7.one{f:Va}{st:Dk->Nat×Dk}(h:EK B I lg db kb DI DF DM us n0 f st)(b:my st):A7 B I lg db kb DI DF DM us n0 [f] [st]:=⟨O,λk e d a c=>by
 cases k with
 | zero=>cases a;cases c;exact⟨h,b⟩
 | succ k=>simp at a⟩
theorem A7.nil:A7 B I lg db kb DI DF DM us n0 [] []:=⟨O,λk f st a=>by simp at a⟩
def Bi(I:Im)(us:Va)(l:Lu):Prop:=∃a c,us=.slice a l.length c/\l.length<=c/\RS I a 1 l.length (Ao l)
theorem Bi.mono{l:Lu}(h:Bi I us l)(f:Le I J):Bi J us l:=by
 obtain⟨a,c,b,d,e⟩:=h;exact⟨a,c,b,d,e.mono f⟩
theorem Xwa(a:Lu)(i:Nat):(fP a i).length=min a.length ((i+1)*32)-i*32:=by
 unfold fP;rw[Y6,Yl,Nat.min_comm]
theorem Wv(a:Lu)(i:Nat):Ao (fP a i)=((Ao a).take ((min a.length ((i+1)*32))*1)).drop (i*32*1):=by
 unfold fP Ao;rw[yC,yD];simp only[Dm]
 rcases Nat.le_total a.length ((i+1)*32)with h|h
 ·rw[M8 h,Yo (su h),Yo sz]
 ·rw[Nat.min_eq_right h]
theorem Xvo(L:Lg)(lg db kb:Nat)(us sv pl:Va)(q m u:Int)(b:Lu)(ua:Oa)(uc Fz:Nat)(fi:Int)(bd:fi=(Fz:Nat))(hg:0<=q/\q<262144)(ha:m=0\/m=1)(hu:0<=u/\u<8192)(ck:b.length<=100000)(ap:b.length<=uc)(cd:Fz<=100000)(hV:A4 I)(hO:E0 L)(hP:Az I pl L.d.AH)(hU:Bi I us L.data)(ah:RS I ua 1 b.length (Ao b))(N:La)(a:Aa B w I (Ac lg [ptr db 0,Ab L.gen,Ab L.AL,Ab L.used,us] 370::BI db kb sv pl L.d N)):Cz 274 [ptr lg 0,.agg #[Ab q,Ab m,Ab u],.slice ua b.length uc,Ab fi] w λv w'=>∃J bm au aw,v=Ab ((HN L q m u b Fz).1:Nat)/\Le I J/\Az J au (HN L q m u b Fz).2.d.AH/\Bi J aw (HN L q m u b Fz).2.data/\Aa B w' J (Ac lg [ptr db 0,Ab (HN L q m u b Fz).2.gen,Ab (HN L q m u b Fz).2.AL,Ab (HN L q m u b Fz).2.used,aw] 370::BI db kb bm au (HN L q m u b Fz).2.d N):=by
 subst bd;refine gG 3 ?_;intro b4 b5 w a;replace a:=(a.pick 1 O)
 obtain⟨I1,a6,bj,a⟩:=a.fZ 0;obtain⟨I2,Y,bk,a⟩:=a.fZ 0;have F:At I2 (ad b4 0) [ptr lg 0]:=⟨O,_,_,_,Y.h _ _ bj,λj v M=>by simpa using M⟩
 have h1:At I2 (ad b5 0) [Ab q,Ab m,Ab u]:=⟨O,_,_,_,bk,λj v M=>by simpa using M⟩
 have g:=a6.trans Y;refine gG 4 ?_;replace a:=a.Ai 151 1;have C:=a;clear a;refine .lk [2,4,5] (σ:=Nat×Lv×Va×Im) (λ(i,fs,kv,J) _m=>(9,kv)::(10,Ab (i:Nat))::_m) (λ(i,fs,kv,J) w=>Fz/32<=i/\(i*32<b.length+32\/i=Fz/32)/\Le I2 J/\A7 B J lg db kb L.gen L.AL L.used us L.d.kept.length fs ((List.range' (Fz/32) (i-Fz/32)).map (λ(i:Nat) d=>CQ d (TN L.d m i) (fP b i)))/\Aa B w J (An 151 1 kv fs.length fs::Ac lg [ptr db 0,Ab L.gen,Ab L.AL,Ab L.used,us] 370::BI db kb sv pl L.d N)) (λ(i,fs,kv,J)=>(b.length+31)/32-i) (Fz/32,[],.slice none 0 0,I2) ⟨Ya _,.inr O,Le.refl _,by rw[jN];exact A7.nil,C⟩ ?_;rintro⟨i,fs,kv,J⟩ w ⟨cg,cf,G,hC,a⟩;clear C;have cb:fs.length=i-Fz/32:=by rw[hC.1];simp
 refine gN 5 ?_ ?_<;>intro o
 ·refine gG 0 ?_;obtain⟨a9,bc,af⟩:=LR (lo:=i*32) (hi:=min b.length ((i+1)*32)) (ah.mono (g.trans G)) (oh o) om ap;rw[<-Wv,<-Xwa]at af;refine gH 8 (.val (.min2 (.of O) (.of O)) O ?_);refine .val (.as (.slc (lo:=((i*32:Nat):Int)) (hi:=((min b.length ((i+1)*32):Nat):Int)) (.of O) (.of (by show some (Ab _)=some (Ab _);congr 2)) (.of (by show some (Ab _)=some (Ab _);congr 2;omega)) om (oh o) om BV DT) (show sliced _ ((i*32:Nat):Int).toNat ((min b.length ((i+1)*32):Nat):Int).toNat _ _=_ from by rw[Yd,Yd,bc,<-Xwa])) O ?_;refine gG 2 ?_;intro T w a;refine .val (.BS (v:=ptr lg 0) (.of O) a (F.mono G) aC O) O (gH 1 (.val (.BS (v:=Ab m) (.of O) a ((h1.mono G).add 1) BJ O) O (gE 1 (Xio L lg db kb us sv pl m _ ha (oh o) hO.len hO.d.size) ?_)));intro w a;refine gG 2 ?_;intro U w a;replace a:=((a.pick 5 O).pick 1 O)
  obtain⟨J1,a7,am,a⟩:=a.fZ 0;obtain⟨J2,Z,al,a⟩:=a.fZ 0;have X:At J2 (ad U 0) [Ab (TN L.d m (i:Nat))]:=⟨O,_,_,_,Z.h _ _ am,λj v M=>by simpa using M⟩
  have W:At J2 (ad T 0) [.slice a9 (fP b i).length (uc-i*32)]:=⟨O,_,_,_,al,λj v M=>by simpa using M⟩
  have y:=a7.trans Z;have a5:=Rj (B:=B) (lg:=lg) (db:=db) (kb:=kb) (n0:=L.d.kept.length) (DI:=L.gen) (DF:=L.AL) (DM:=L.used) (us:=us) (F.mono (G.trans y)) X W (af.mono y);refine gH 3 ?_;intro b0 w a;refine .append (size:=1) (bytes:=8) a (.of O) (.of O) (k:=4) O MB Xfl O O O O O O O ⟨om,by unfold maxLen;omega⟩ O ?_;intro cl w a;dsimp only[List.set]at a;refine gG 4 ?_;have bb:=o;refine A_ (i+1,fs++[.func (.func 365) #[] #[ptr b4 0,ptr U 0,ptr T 0]],_,J2) O ⟨od,.inl od,G.trans y,?_,?_⟩
  ·(try dsimp only)
   rw[show i+1-Fz/32=(i-Fz/32)+1 by omega,List.range'_concat,Yn,pS,show Fz/32+(i-Fz/32)=i by omega];exact(hC.mono y).app (.one a5 (rR _ _))
  ·(try dsimp only)
   rw[Y0];exact(a.x [3,3,3,3,4])
 refine gG 0 (.dw (λw=>∃R,Aa B w J (Ac lg [ptr db 0,Ab L.gen,Ab L.AL,Ab L.used,us] 370::R)) (λj=>!([].contains j)) ?_);replace a:=a.drew;generalize w.drew=w at a ⊢;have n:∃R,Aa B w J (Ac lg [ptr db 0,Ab L.gen,Ab L.AL,Ab L.used,us] 370::R):=⟨_,(a.x [1])⟩
 refine .tp 0 O (λw=>(.mo O)) (.tk 1 O n (λw ⟨R,a⟩=>(.BS (v:=ptr lg 0) (.of O) a (F.mono G) aC O)) (.tp 2 O (λw=>(.no O)) ?_));refine .tp 3 O (λw=>(by first|exact .fo 0 O Sa O O S4 O|exact .fi 0 O Sa O O S4 O)) ?_;refine .tk 4 O n (λw ⟨R,a⟩=>(.lo O a (k:=0) O isAgg37 O)) (.tp 5 O (λw=>(.Hq (A3 O X4) X4)) (.tp 6 O (λw=>(.makeFunc (A3 O (A3 O X4)))) (.tk 7 O n (λw ⟨R,a⟩=>(.BS (v:=ptr lg 0) (.of O) a (F.mono G) aC O)) (.tp 8 O (λw=>(.no O)) ?_))));refine .tp 9 O (λw=>(by first|exact .fo 0 O Sa O O S4 O|exact .fi 0 O Sa O O S4 O)) ?_;refine .tk 10 O n (λw ⟨R,a⟩=>(.lo O a (k:=0) O isAgg37 O)) (.tp 11 O (λw=>(.Hq (A3 O X4) X4)) ?_);refine .b1 12 O (.buildSlice (cs:=[_,_,_]) a (IC O (IC O (IC O TC))) MB sizeOf151 zeroValue151 O O O O ?_);intro b2 w a;refine .nil ?_;clear n;have n:∃R,Aa B w J (Ac lg [ptr db 0,Ab L.gen,Ab L.AL,Ab L.used,us] 370::R):=⟨_,(a.x [2])⟩
 refine⟨λ_ _=>n,?_⟩;refine .b1 13 O (.append (size:=1) (bytes:=8) a (.of O) (.of O) (k:=0) O MB Xfl O O O O O O O ⟨om,by unfold maxLen;omega⟩ O ?_);intro bq w a;dsimp only[List.set]at a;refine .nil ?_;clear n;have n:∃R,Aa B w J (Ac lg [ptr db 0,Ab L.gen,Ab L.AL,Ab L.used,us] 370::R):=⟨_,(a.x [1])⟩
 refine⟨λ_ _=>n,?_⟩;refine .tp 14 O (λw=>(.ao O)) (.dn ?_);obtain⟨ca,cc,rfl,b9,_⟩:=a.AG (k:=0) (v:=bq) O;refine gG 3 ?_;obtain⟨A,D⟩:∃A,A=fs++[.func (.func 367) #[ptr db 0] #[],.func (.func 368) #[] #[ptr b4 0,ptr b5 0],.func (.func 367) #[ptr db 0] #[]]:=⟨_,O⟩
 obtain⟨L4,r⟩:∃L4,L4=TS L.d q m u b Fz:=⟨_,O⟩
 have bb:=o;have bf:i-Fz/32=cntF b.length Fz:=by unfold cntF;omega
 have ai:=(((((a.pick 4 O).pick 4 O).pick 4 O).pick 4 O).pick 4 O)
 obtain⟨J4,aa,ag,C⟩:=ai.fV 0;have e:=G.trans aa;have K:A7 B J4 lg db kb L.gen L.AL L.used us L.d.kept.length A L4:=by
  rw[D,r];unfold TS;rw[<-bf];exact((hC.mono aa).app ((A7.one Xqg sj).app ((A7.one (Rl hg ha hu (hV.mono (g.trans e)) (F.mono e) (h1.mono e)) (rR _ _)).app (A7.one Xqg sj))))
 have bw:A.length=fs.length+3:=by rw[D];simp
 rw[<-D]at ag;have ba:=hP.mono (g.trans e);clear a ai;refine .lk [2,4,5,58,59] (σ:=Nat×Dk×Va×Va×Im) (λ(k,p,z,t,J) _m=>(60,Ab (k:Nat))::_m) (λ(k,p,z,t,J) w=>k<=fs.length+3/\EO L4 L.d=EO (L4.drop k) p/\Dz p/\p.Ae.length<=L.d.Ae.length+k/\p.kept.length=L.d.kept.length/\Az J t p.AH/\Le J4 J/\Aa B w J (Ac lg [ptr db 0,Ab L.gen,Ab L.AL,Ab L.used,us] 370::BI db kb z t p N)) (λ(k,p,z,t,J)=>fs.length+3-k) (0,L.d,sv,pl,J4) ⟨Y4 _,O,hO.d,Ya _,O,ba,Le.refl _,C⟩ ?_;rintro⟨k,p,z,t,J⟩ w ⟨hk,c,ab,ci,ak,ae,l,a⟩;clear C;refine gN 1 ?_ ?_<;>intro bu
 ·refine gG 0 ?_;obtain⟨f,hf⟩:∃f,A[k]?=some f:=⟨_,Y2 om⟩
  obtain⟨st,Q⟩:∃st,L4[k]?=some st:=⟨_,Y2 (by rw[<-K.1];omega)⟩
  obtain⟨⟨b3,fn,a2,V,rfl,be,aj,an⟩,bl⟩:=K.2 k f st hf Q;obtain⟨cp,rfl,bi⟩:=ag.2 om;refine gH 1 ?_
  (try rw[Yd]);rw[Dm]
  refine .val (.BS (.of O) a (((bi.mono l).add k)) isAgg151 (by rw[Hk,ER];exact hf)) O ?_;refine gH 2 (.lH (bs:=a2) (cap:=V) be aj (.of O) X4 O (an p z t w J N l ab (oh hO.st) ak ae a) ?_);rintro _ w ⟨J3,bn,av,E,rfl,ac,a⟩;obtain⟨a8,bg,ch⟩:=bl p ab;refine gN 3 ?_ ?_<;>intro H
  ·refine gG 0 (.val (.BS (v:=ptr lg 0) (.of O) a (F.mono (e.trans (l.trans E))) aC O) O (gF 3 (Qj (st p).2 db kb bn av) ?_));rintro _ w ⟨bo,a⟩;refine gG 1 ?_;have S:(st p).1≠0:=by have:=H;omega
   rw[Ot Q,Y9 S]at c;have P:HN L q m u b Fz=(21,{ L with d:=Jh (st p).2 }):=by
    unfold HN;rw[<-r,c];first|done|rfl
   rw[P];exact⟨J3,bo,av,us,O,g.trans (e.trans (l.trans E)),by rw[Qp];exact ac,hU.mono (g.trans (e.trans (l.trans E))),a.s⟩
  refine gG 2 ?_;have S:(st p).1=0:=by have:=H;omega
  rw[Ot Q,Y3 (by rw[S];simp)]at c;refine A_ (k+1,_,_,_,_) O ⟨od,c,a8,od,by rw[<-ak];exact bg,ac,l.trans E,(a.x [3,3,3,3])⟩
 refine gG 0 (.dw (λw=>∃R,Aa B w J R) (λj=>!([9].contains j)) ?_);replace a:=a.drew;generalize w.drew=w at a ⊢;have n:∃R,Aa B w J R:=⟨_,a⟩
 refine .tk 0 O n (λw ⟨R,a⟩=>(.BS (v:=ptr lg 0) (.of O) a (F.mono (e.trans l)) aC O)) (.tk 1 O n (λw ⟨R,a⟩=>(.BS (v:=ptr lg 0) (.of O) a (F.mono (e.trans l)) aC O)) (.tk 2 O n (λw ⟨R,a⟩=>(.B5 (us:=[Ab q,Ab m,Ab u]) (.of O) a (h1.mono (e.trans l)) mM Ik O (λ_ _ h=>h))) (.tp 3 O (λw=>(.mo O)) (.tp 4 O (λw=>(.no O)) ?_))));refine .tp 5 O (λw=>(by first|exact .fo 1 O Sa O O Ik O|exact .fi 1 O Sa O O Ik O)) ?_;refine .b1 6 O ?_
 first|refine .so a (k:=0) O O O O Ik O sz ?_|refine .so a (k:=1) O O O O Ik O sz ?_|refine .so a (k:=2) O O O O Ik O sz ?_|refine .so a (k:=3) O O O O Ik O sz ?_
 intro w a;refine .nil ?_;clear n;have n:∃R,Aa B w J R:=⟨_,a⟩
 refine⟨λ_ _=>n,?_⟩;refine .tp 7 O (λw=>(.no O)) (.tp 8 O (λw=>(by first|exact .fo 4 O Sa O O Gz O|exact .fi 4 O Sa O O Gz O)) ?_);refine .b1 9 O ?_
 first|refine .s1 a (k:=0) O O O O Gz sz ?_|refine .s1 a (k:=1) O O O O Gz sz ?_|refine .s1 a (k:=2) O O O O Gz sz ?_|refine .s1 a (k:=3) O O O O Gz sz ?_
 intro w a;refine .nil ?_;refine And.intro (by intro h;cases h) ?_;refine .dn (gG 1 ?_);have bh:L4.drop k=[]:=Yb (oh K.1);rw[bh]at c;have P:HN L q m u b Fz=(0,⟨p,q,m,u,b⟩):=by
  unfold HN;rw[<-r,c];first|done|rfl
 rw[P];exact⟨J,z,t,_,O,g.trans (e.trans l),ae,⟨ua,uc,O,ap,ah.mono (g.trans (e.trans l))⟩,(a.x [3,3,3,3])⟩
theorem Xqy(a:Oa)(c:Nat)(l:Lu)(m:l.length<=1000000)(e:RS I a 1 l.length (Ao l))(N:La)(b:Aa B w I N):Cz 275 [.slice a l.length c] w λv w'=>∃f,v=f/\Aa B w' I (An 5 1 f (l).length (Ao (l))::N):=by
 refine gH 2 (.val (Ex.F9 (.of O) (.of O) BV) O ?_);refine gM 0 ?_ ?_<;>intro d i
 ·refine gG 1 ?_;cases a with
  | some p=>simp at d
  | none =>
  have g:l=[]:=by
   cases l with
   | nil=>rfl
   | cons x l=>obtain⟨p,h,_⟩:=e.2 sz;cases h
  subst g;exact⟨_,O,b.Ai 5 1⟩
 refine gH 2 ?_;intro j w b;replace b:=b.A2 (k:=0) (size:=1) O O (Y4 _);refine .Bz (bytes:=1) b (.of O) (.of O) e (k:=0) O BV Xw O O O O (HD l) ⟨om,by unfold maxLen;omega⟩ O ?_;intro n w b;rw[Yk,Db]at b;exact gG 1 ⟨_,O,b⟩
theorem Xsm(L:Lg)(lg db kb:Nat)(us sv pl:Va)(b:Lu)(q:Oa)(H:Nat)(E:b.length<=1000000)(K:A4 I)(A:RS I q 1 b.length (Ao b))(f:E0 L)(u:Az I pl L.d.AH)(p:Bi I us L.data)(N:La)(a:Aa B w I (Ac lg [ptr db 0,Ab L.gen,Ab L.AL,Ab L.used,us] 370::BI db kb sv pl L.d N)):Cz 181 [ptr lg 0,.slice q b.length H] w λv w'=>∃J n i l,v=Ab ((Gv L b).1:Nat)/\Le I J/\Az J i (Gv L b).2.d.AH/\Bi J l (Gv L b).2.data/\Aa B w' J (Ac lg [ptr db 0,Ab (Gv L b).2.gen,Ab (Gv L b).2.AL,Ab (Gv L b).2.used,l] 370::BI db kb n i (Gv L b).2.d N):=by
 obtain⟨R,S,rfl,V,C⟩:=id p;have Z:=Xwh b;have M:=tm f.d f.len;have ab:=f.used;have aa:=f.room;have X:=f.gen;have U:0<=L.AL/\L.AL<=1:=by rcases f.AL with h|h<;>rw[h]<;>decide
 refine gF 2 (Xwg b q H E K A) ?_;rintro _ w ⟨fv,rfl,a⟩;obtain⟨fa,fc,rfl,W,_⟩:=a.vS 0;refine gN 8 ?_ ?_<;>intro c
 ·refine gG 2 ?_;have e:Gv L b=((D8 b).2,L):=by unfold Gv;exact Y9 (oh c)
  rw[e];exact⟨I,sv,pl,_,O,Le.refl _,u,p,a.s⟩
 refine gP 3 [4,4,4,4] (Xkw L lg db kb _ sv pl f.len f.d.size om _) ?_;rintro _ w ⟨rfl,a⟩;refine gN 11 ?_ ?_<;>intro m
 ·refine gG 1 ?_;have e:Gv L b=(5,L):=by unfold Gv;rw[Y3 (oh c)];exact Y9 (oh m)
  rw[e];exact⟨I,sv,pl,_,O,Le.refl _,u,p,a.s⟩
 refine gG 0 (gD [0] [21] [0,1,2,3,4,5,6,7,8,9,10,11,12,13,14,15,16,17,18,19,20,21] ?_);intro w a;refine gH 14 (gH 7 ?_);intro Q w a;refine gH 1 ?_;intro w a;refine gG 0 ?_;replace a:=a;obtain⟨J,o,G,a⟩:=a.fZ 0;try dsimp only[List.eraseIdx]at a
 have T:At J (ad Q 0) [Ab (L.gen+1),Ab L.AL,Ab (L.used+((D8 b).1.length:Nat))]:=⟨O,_,_,_,G,λj v Y=>by simpa using Y⟩
 refine gD [0] [14] [0,1,2,3,4,5,7,9,10,11,12,13,6,8,14,15] ?_;intro w a;refine gH 1 (A1.y 1 (λw _ _ t a=>(.B5 (.of O) a (T.mono t) mM Ik O (λ_ _ h=>h))) (gF 10 (Xqy R S _ om (C.mono o)) ?_));rintro _ w ⟨nv,rfl,a⟩;refine gH 0 (A1.e (.D_ (bytes:=1) a (.of O) (.of O) (k:=0) (j:=5) O O BV Xw O O O O (HD _) ⟨om,by unfold maxLen;omega⟩ O ?_));intro af w a;dsimp only[List.set]at a;rw[<-Y0,<-show Ao (L.data++(D8 b).1)=Ao L.data++Ao (D8 b).1 from Yn]at a;obtain⟨na,nc,rfl,F,_⟩:=a.vS 0;obtain⟨J2,g,z,a⟩:=a.fV 0;try dsimp only[List.eraseIdx]at a
 refine gF 0 (Xvo L lg db kb _ sv pl _ _ _ _ na nc L.used.toNat L.used om om f.AL om (by rw[Y0];omega) F om ((K.mono o).mono g) f ((u.mono o).mono g) ((p.mono o).mono g) z) ?_;rintro _ w ⟨P,n,i,l,rfl,r,x,D,a⟩;refine gG 1 ?_;have e:Gv L b=HN L (L.gen+1) L.AL (L.used+((D8 b).1.length:Nat)) (L.data++(D8 b).1) L.used.toNat:=by unfold Gv;rw[Y3 (oh c)];exact Y3 (oh m)
 rw[e];exact⟨P,n,i,l,O,o.trans (g.trans r),x,D,a.s⟩
theorem Xd2(L:Lg)(lg db kb:Nat)(us sv pl:Va)(xs:List Lu)(cs:Lv)(A:Oa)(E:Nat)(y:∀x∈xs,x.length<=1000000)(z:xs.length<=1000000)(C:A4 I)(K:Gn I xs cs)(q:RS I A 1 xs.length cs)(j:E0 L)(n:Az I pl L.d.AH)(r:Bi I us L.data)(N:La)(a:Aa B w I (Ac lg [ptr db 0,Ab L.gen,Ab L.AL,Ab L.used,us] 370::BI db kb sv pl L.d N)):Cz 182 [ptr lg 0,.slice A xs.length E] w λv w'=>∃J l g i,v=Ab ((G5 L xs).1:Nat)/\Le I J/\Az J g (G5 L xs).2.d.AH/\Bi J i (G5 L xs).2.data/\Aa B w' J (Ac lg [ptr db 0,Ab (G5 L xs).2.gen,Ab (G5 L xs).2.AL,Ab (G5 L xs).2.used,i] 370::BI db kb l g (G5 L xs).2.d N):=by
 have D:=tm j.d j.len;have P:=j.gen;have M:0<=L.AL/\L.AL<=1:=by rcases j.AL with h|h<;>rw[h]<;>decide
 refine gF 2 (Ud xs cs A E y z C K q) ?_;rintro _ w ⟨J,R,rfl,c,a⟩;obtain⟨G,H,rfl,u,_⟩:=a.vS 0;refine gN 8 ?_ ?_<;>intro b
 ·refine gG 2 ?_;have e:G5 L xs=((HL xs []).2,L):=by unfold G5;exact Y9 (oh b)
  rw[e];exact⟨J,sv,pl,_,O,c,n.mono c,r.mono c,a.s⟩
 refine gP 3 [4,4,4,4] (wE L lg db kb _ sv pl j.len j.d.size _) ?_;rintro _ w ⟨rfl,a⟩;refine gN 11 ?_ ?_<;>intro k
 ·refine gG 1 ?_;have e:G5 L xs=(5,L):=by unfold G5;rw[Y3 (oh b)];exact Y9 (oh k)
  rw[e];exact⟨J,sv,pl,_,O,c,n.mono c,r.mono c,a.s⟩
 refine gG 0 (gD [0] [17] [0,1,2,3,4,5,6,7,8,9,10,11,12,13,14,15,16,17,18] ?_);intro w a;refine gH 14 (gH 3 ?_);obtain⟨Q,f,p,a⟩:=a.fV 4;try dsimp only[List.eraseIdx]at a
 refine gF 0 (Xvo L lg db kb _ sv pl _ _ _ (HL xs []).1 G H 0 0 O om (by rcases j.AL with h|h<;>rw[h]<;>simp) om om u om ((C.mono c).mono f) j ((n.mono c).mono f) ((r.mono c).mono f) p) ?_;rintro _ w ⟨F,l,g,i,rfl,m,o,t,a⟩;refine gG 1 ?_;have e:G5 L xs=HN L (L.gen+1) (1-L.AL) ((HL xs []).1.length:Nat) (HL xs []).1 0:=by unfold G5;rw[Y3 (oh b)];exact Y3 (oh k)
 rw[e];exact⟨F,l,g,i,O,c.trans (f.trans m),o,t,a.s⟩
def LQ(b:Lu):Nat:=(((b.getD 4 0).toNat*256+(b.getD 5 0).toNat)*256+(b.getD 6 0).toNat)*256+(b.getD 7 0).toNat
theorem LN(m k y:Nat)(d:m*2^k<4611686018427387904)(e:y<2^k)(f:y<4611686018427387904):bits .or .i64 ((m*2^k:Nat):Int) (y:Int)=((m*2^k+y:Nat):Int):=by
 have a:(BitVec.ofInt 64 ((m*2^k:Nat):Int)).toNat=m*2^k:=by rw[BitVec.toNat_ofInt];omega
 have b:(BitVec.ofInt 64 (y:Int)).toNat=y:=by rw[BitVec.toNat_ofInt];omega
 have c:=yb (i:=k) e m;show IntKind.i64.wrap (((BitVec.ofInt 64 _||| BitVec.ofInt 64 _).toNat:Nat):Int)=_
 rw[BitVec.toNat_or,a,b,FZ,<-c,FZ,IntKind.wrap_i64];rw[FZ]at d;rw[FZ m];omega
theorem Adj(b:Lu):bits .or .i64 (bits .or .i64 (bits .or .i64 (IntKind.i64.wrap (((b.getD 4 0).toNat:Int)*2^24)) (IntKind.i64.wrap (((b.getD 5 0).toNat:Int)*2^16))) (IntKind.i64.wrap (((b.getD 6 0).toNat:Int)*2^8))) ((b.getD 7 0).toNat:Int)=(LQ b:Int):=by
 have f:=Sm (b.getD 4 0);have g:=Sm (b.getD 5 0);have h:=Sm (b.getD 6 0);have i:=Sm (b.getD 7 0);unfold LQ;generalize (b.getD 4 0).toNat=a at *;generalize (b.getD 5 0).toNat=c at *;generalize (b.getD 6 0).toNat=d at *;generalize (b.getD 7 0).toNat=e at *;rw[show IntKind.i64.wrap ((a:Int)*2^24)=((a*2^24:Nat):Int)by rw[IntKind.wrap_i64];omega,show IntKind.i64.wrap ((c:Int)*2^16)=((c*65536:Nat):Int)by rw[IntKind.wrap_i64];omega,show IntKind.i64.wrap ((d:Int)*2^8)=((d*256:Nat):Int)by rw[IntKind.wrap_i64];omega];rw[LN a 24 (c*65536) om om om,show a*2^24+c*65536=(a*256+c)*2^16 by omega,LN _ 16 (d*256) om om om,show(a*256+c)*2^16+d*256=((a*256+c)*256+d)*2^8 by omega,LN _ 8 e om om om]
def Kq(b:Lu):Int:=(LQ b:Int)/16384
def T0(b:Lu):Int:=(LQ b:Int)/8192%2
def PH(b:Lu):Int:=(LQ b:Int)%8192
def rOk(d:Dk)(i:Int)(b:Lu):Bool:=Kh (Kq b) (T0 b) (PH b)==b.take 8&&Kq b%2==i&&decide (PH b<=HK d)
theorem Xph{d:Dk}(h:Dz d){i:Int}(hi:LB d i=true):(PI d i).length=32:=by
 have f:(d.kept.getD i.toNat []).length=32:=by
  unfold LB at hi;simp only[Y8,dq1]at hi
  have a:i.toNat<d.kept.length:=om
  rw[Yf,Y2 a];exact h.kept _ (jG a)
 have:∀(l:List (Int×Lu)) (b:Lu),(∀w∈l,w.2.length=32)->b.length=32->(l.foldl (M5 i) b).length=32:=by
  intro l
  induction l with
  | nil=>intro b _ c;exact c
  | cons w l g =>
   intro b e c;refine g _ (λx hx=>e x (by simp[hx])) ?_;unfold M5;split
   ·exact e w sz
   ·exact c
 exact this _ _ h.what f
theorem QR(L:Lg)(lg db kb:Nat)(us sv pl:Va)(i:Int)(hi:LB L.d i=true)(hV:A4 I)(V:Dz L.d)(D:4<=L.d.kept.length)(Y:L.d.Ae.length<=1000000)(N:La)(a:Aa B w I (Ac lg [ptr db 0,Ab L.gen,Ab L.AL,Ab L.used,us] 370::BI db kb sv pl L.d N)):Cz 285 [ptr lg 0,Ab i] w λv w'=>∃J,Le I J/\v=.tuple #[.agg #[Ab (Kq (PI L.d i)),Ab (T0 (PI L.d i)),Ab (PH (PI L.d i))],.bool (rOk L.d i (PI L.d i))]/\Aa B w' J (Ac lg [ptr db 0,Ab L.gen,Ab L.AL,Ab L.used,us] 370::BI db kb sv pl L.d N):=by
 obtain⟨sa,sc,rfl,aq,_⟩:=a.vS 3;have E:=Xph V hi;refine gH 7 ?_;intro b4 w a;refine gF 0 (Xnu L.d db kb sa sc pl i V hi Y) ?_;rintro _ w ⟨b5,rfl,a⟩;obtain⟨J,hJ,M,a⟩:=a.HS om;obtain⟨c,x⟩:∃c,c=PI L.d i:=⟨_,O⟩
 rw[<-x]at M E;refine gG 1 ?_;obtain⟨p,r,o⟩:=M.2 om;injection r with r
 subst r;have ai:=Sm (c.getD 4 0);have aj:=Sm (c.getD 5 0);have ak:=Sm (c.getD 6 0);have al:=Sm (c.getD 7 0);refine gQ ?_;intro w a;refine gH 2 (A1.y 2 (λw _ _ b a=>(.BS (v:=U8 (c.getD 4 0).toNat) (.of O) a ((o.add 4).mono b) Gc (sR o om))) (gH 4 (A1.y 7 (λw _ _ b a=>(.BS (v:=U8 (c.getD 5 0).toNat) (.of O) a ((o.add 5).mono b) Gc (sR o om))) (gH 5 (A1.y 13 (λw _ _ b a=>(.BS (v:=U8 (c.getD 6 0).toNat) (.of O) a ((o.add 6).mono b) Gc (sR o om))) (gH 5 (A1.y 19 (λw _ _ b a=>(.BS (v:=U8 (c.getD 7 0).toNat) (.of O) a ((o.add 7).mono b) Gc (sR o om))) (gH 1 (A1.y 21 (λw _ _ b a=>.as (.F7 (.inr (.inl O)) (.of O) (.of O)) (Yc (Value.int .i64) (Adj c))) ?_)))))))));have an:(LQ c:Int)<4294967296:=by unfold LQ;have h0:=Sm (c.getD 4 0);have h1:=Sm (c.getD 5 0);have h2:=Sm (c.getD 6 0);have h3:=Sm (c.getD 7 0);omega
 refine gH 11 ?_;intro b8 w a;refine gG 0 ?_;replace a:=a;obtain⟨n,q,X,a⟩:=a.fZ 0;try dsimp only[List.eraseIdx]at a
 have F:At n (ad b8 0) [Ab (Kq c),Ab (T0 c),Ab (PH c)]:=⟨O,_,_,_,X,λj v hj=>by unfold Kq T0 PH at hj;simpa using hj⟩
 obtain⟨H,A,P⟩:=LR (lo:=0) (hi:=8) (M.mono q) om om (Ya _);have ap:0<=Kq c/\Kq c<262144:=by unfold Kq;omega
 have W:sliced (some (ad b5 0)) 0 8 32 1=.slice H 8 32:=by rw[E]at A;exact A
 have C:(c.take 8).length=8:=by rw[Yl];omega
 have Q:RS n H 1 (c.take 8).length (Ao (c.take 8)):=by
  have e:Ao (c.take 8)=((Ao c).take (8*1)).drop (0*1):=by unfold Ao;rw[yD];simp
  rw[C,e];exact P
 refine .dw (λw=>∃g R,Le n g/\Aa B w g R) (λj=>!([].contains j)) ?_;replace a:=a.drew;generalize w.drew=w at a ⊢;have l:∃g R,Le n g/\Aa B w g R:=⟨_,_,Le.refl _,a⟩
 refine .DL (i:=0) O kr kr kr kr l (λw ⟨g,R,b,a⟩=>(.B5 (us:=[Ab (Kq c),Ab (T0 c),Ab (PH c)]) (.of O) a (F.mono b) mM Ik O (λ_ _ h=>h))) O (.DL (i:=1) O kr kr kr kr l (λw ⟨g,R,b,a⟩=>(.B5 (us:=[Ab (Kq c),Ab (T0 c),Ab (PH c)]) (.of O) a (F.mono b) mM Ik O (λ_ _ h=>h))) O (.tp 3 O (λw=>(.mo O)) (.tp 4 O (λw=>(.as (.JR (hi:=8) (.of O) (.of O) om om BV DT) W)) ?_)));refine .b1 2 O (.call func369 O (A3 O X4) O (Xig (Kq c) (T0 c) (PH c) (by unfold Kq;omega) (by unfold T0;omega) (by unfold PH;omega) (hV.mono (hJ.trans q)) _ a) ?_);rintro hv w ⟨J1,K,a⟩;obtain⟨S,U,rfl,am,_⟩:=a.vS 0;obtain⟨Z,t,u,a⟩:=a.fV 0;try dsimp only[List.eraseIdx]at a
 have m:=K.trans t;have z:(Kh (Kq c) (T0 c) (PH c)).length=8:=by simp[Kh,ng,T2]
 rw[<-z]at u;refine .nil ?_;clear l;have l:∃g R,Le n g/\Aa B w g R:=⟨_,_,m,a⟩
 refine⟨λ_ _=>l,?_⟩;refine .b1 5 O ?_;refine .call func384 O (A3 O (A3 O X4)) O (by have h:=Xyi (Kh (Kq c) (T0 c) (PH c)) (c.take 8) S H U 32 om (by rw[Yl];omega) u (Q.mono m) _ a;rw[z,C]at h;exact h) ?_;rintro _ w ⟨rfl,a⟩;refine .nil ?_;clear l;have l:∃g R,Le n g/\Aa B w g R:=⟨_,_,m,a⟩
 refine⟨λ_ _=>l,?_⟩;refine .tp 6 O (λw=>(.mo O)) (.Cu (i:=7) O kr kr kr kr l O O (λf w ⟨g,R,b,a⟩=>(by first|exact .fo 0 O fI O O Bl O|exact .fi 0 O fI O O Bl O)) O ?_);refine .Cu (i:=8) O kr kr kr kr l O O (λf w ⟨g,R,b,a⟩=>(.BS (v:=Ab (Kq c)) (.gd f O) a (F.mono b) BJ O)) O (.Cu (i:=9) O kr kr kr kr l O O (λf w ⟨g,R,b,a⟩=>(.rem (.gd f O) (.of O) (ot f) (ot f))) O ?_);refine .Cu (i:=10) O kr kr kr kr l O O (λf w ⟨g,R,b,a⟩=>(.mo O)) O (.Cu (i:=11) O kr kr kr kr l O O (λf w ⟨g,R,b,a⟩=>(.eql (.gd f O) (.gd f O))) O (.tp 12 O (λw=>(.pa O O O)) (.tp 13 O (λw=>(.mo O)) ?_)));refine .Cu (i:=14) O kr kr kr kr l O O (λf w ⟨g,R,b,a⟩=>(by first|exact .fo 2 O fI O O Bl O|exact .fi 2 O fI O O Bl O)) O ?_;refine .Cu (i:=15) O kr kr kr kr l O O (λf w ⟨g,R,b,a⟩=>(.BS (v:=Ab (PH c)) (.gd f O) a ((F.mono b).add 2) BJ O)) O (.Cu (i:=16) O kr kr kr kr l O O (λf w ⟨g,R,b,a⟩=>(.mo O)) O ?_);refine .b1 17 O ?_;have G:=((((a.pick 2 O).pick 2 O).pick 2 O).pick 4 O);try dsimp only[List.eraseIdx]at G
 refine .Au (T:=λw=>Aa B w Z (Ac lg [ptr db 0,Ab L.gen,Ab L.AL,Ab L.used,us] 370::BI db kb (.slice sa L.d.Ae.length sc) pl L.d _)) O O O func277 O (λf=>(X6 (.gd f O) X4)) O (λf=>wE L lg db kb us _ pl D V.size _ G) G ?_;clear a G;intro w a;refine .nil ?_;clear l;have l:∃g R,Le n g/\Aa B w g R:=⟨_,_,m,a⟩
 refine⟨λ_ _=>l,?_⟩;refine .Cu (i:=18) O kr kr kr kr l O O (λf w ⟨g,R,b,a⟩=>(.leq (.gd f O) (.gd f O))) O (.tp 19 O (λw=>(.pa O O O)) ?_);refine .b1 20 O ?_
 first|refine .so a (k:=0) O O O O Ik O sz ?_|refine .so a (k:=1) O O O O Ik O sz ?_|refine .so a (k:=2) O O O O Ik O sz ?_|refine .so a (k:=3) O O O O Ik O sz ?_|refine .so a (k:=4) O O O O Ik O sz ?_
 intro w a;try dsimp only[List.set]at a
 try simp only[Gl,Db,Yy,Ks,FY,List.drop_nil,Yk]at a
 refine .nil ?_;clear l;have l:∃g R,Le n g/\Aa B w g R:=⟨_,_,m,a⟩
 refine⟨λ_ _=>l,?_⟩;refine .tp 21 O (λw=>(.ao O)) (.dn ?_);refine gG 0 ?_;rw[<-x];exact⟨Z,hJ.trans (q.trans m),O,a.s⟩
end Go.Proofs.W9
namespace Gk
open Go
def ZV(r:Option Nat):Fence:={ Fence.wide with round:=r }
theorem UD{r:Option Nat}{args:Array Va}(h:Calls P f args w R):CallsIn (ZV r) n P f args w R :=
 ⟨trivial,λcs _=>(callsIn_wide (n:=0).2 h).2 cs (room_wide _)⟩
theorem en{r:Option Nat}{a:String}{args:Array Va}{R:Va->Wo->Prop}(h:Rows P a args w R):RowsIn (ZV r) n P a args w R :=
 λc cs _=>let⟨v,w',b,d⟩:=h c cs;⟨v,w',b,stepsIn_wide.2 d⟩
section
variable {r:Option Nat} {P:Program} {n m:Nat} {ops:Array Oper} {Q Q':Exit->Act->Wo->Prop} {K:Bk} {L:AB} {w B:Wo} {I:Im} {N:La}
def mn(o:Oper):Bool:=match o.op with
 | .defer _=>false
 | _=>true
theorem Xp5{o:Oper}(h:mn o=true):∀c,o.op≠.defer c:=by
 intro c e;unfold mn at h;rw[e]at h;cases h
theorem qG{o:Oper}{a:Act}{k j:Act->Wo->Prop}(l:mn o=true)(i:¬ LetsOut Q)(g:∀c a w,Q (.panic c) a w->Q' (.panic c) a w)(d:∀a w,k a w->j a w)
  (h:o.wp P a w k Q\/(o.asks P a w/\LetsOut Q)):o.wpIn (ZV r) m P a w j Q':=by
 rcases h with h|h
 ·refine⟨λ_ _=>trivial,?_⟩;rw[Oper.semAt_eq _ _ _ (Xp5 l)];unfold Oper.wp at h;generalize (execOp a.eval o).run P w=f at h ⊢;cases f with
  | ok x w' =>
   cases x<;>simp only[Oper.upon,Oper.uponIn]at h ⊢<;>
    first
     | exact d _ _ h
     | exact⟨λh=>by simp[ZV,Fence.wide]at h,CallsIn.mono (UD h) (λe n b=>by cases e<;>first|exact d _ _ b|exact g _ _ _ b|exact Yz b i)⟩
     | exact⟨λh=>by simp[ZV,Fence.wide]at h,RowsIn.mono (en h) (λ_ _ b=>d _ _ b)⟩
     | exact h.elim
  | halt x w'=>cases x<;>simp only[Oper.upon,Oper.uponIn]at h ⊢<;>exact g _ _ _ h
 ·exact Yz h.2 i
theorem s_{rest:List Oper}(f:¬ LetsOut Q)(e:∀c a w,Q (.panic c) a w->Q' (.panic c) a w)(d:∀a w,Q .normal a w->wpListIn (ZV r) m P ops Q' rest a w):∀(pre:List Oper) (a:Act) (w:Wo),pre.all mn=true->wpList P ops Q pre a w->wpListIn (ZV r) m P ops Q' (pre++rest) a w
 | [],a,w,_,h=>d a w h
 | o::pre,a,w,b,h=>by
  simp only[DR,Y8]at b
  unfold wpList at h;show wpListIn (ZV r) m P ops Q' (o::(pre++rest)) a w
  unfold wpListIn
  by_cases g:Region.wanted o (yielded ops a.tmps)=true
  ·rw[Y9 g]at h ⊢;exact qG b.1 f e (λa w=>s_ f e d pre a w b.2) h
  ·rw[Y3 g]at h ⊢;exact⟨λ_ _=>trivial,s_ f e d pre _ _ b.2 h⟩
def fe(r:Option Nat)(P:Program)(n:Nat)(ops:Array Oper)(K:Bk)(l:List Oper)(L:AB)(w:Wo):Prop:=∀a,Ap n L a->wpListIn (ZV r) 0 P ops (K2 n K) l a w
theorem fe.nil(h:K .normal L w):fe r P n ops K [] L w:=λa b=>⟨L,b,h⟩
theorem fe.pre{pre rest:List Oper}(f:pre.all mn=true)(d:∀L w,¬ K .outgrown L w)(h:WL P n ops (Ft (λL w=>fe r P n ops K rest L w) K) pre L w):fe r P n ops K (pre++rest) L w:=λa e=>by
 have g:¬ LetsOut (K2 n (Ft (λL w=>fe r P n ops K rest L w) K)):=λ⟨_,_,L',_,h⟩=>d L' _ h
 exact s_ (Q':=K2 n K) g (λ_ _ _ h=>h) (λa w h=>by obtain⟨L',b,c⟩:=h;exact c a b) pre a w f (h a e)
theorem fe.of{l:List Oper}(d:l.all mn=true)(b:∀L w,¬ K .outgrown L w)(h:WL P n ops K l L w):fe r P n ops K l L w:=λa c=>by
 have e:¬ LetsOut (K2 n K):=λ⟨_,_,L',_,h⟩=>b L' _ h
 have:=s_ (rest:=[]) (Q':=K2 n K) (r:=r) (m:=0) e (λ_ _ _ h=>h) (λa w h=>h) l a w d (h a c)
 rwa[Yy]at this
end
end Gk
namespace Go.Proofs.W9
open Gk Ul Pc Tk Tr Xm Rq
open Tryz
theorem Gn.app{xs:List Lu}(h:Gn I xs cs){x:Lu}(f:x.length<=c)(d:RS I a 1 x.length (Ao x)):Gn I (xs++[x]) (cs++[.slice a x.length c]):=by
 refine⟨by rw[Y0,Y0,h.1];rfl,λi y b=>?_⟩;rcases Yt i xs.length with hi|hi
 ·rw[Ye hi]at b;rw[Ye (by rw[h.1];exact hi)];exact h.2 i y b
 ·rw[Yw hi]at b;rw[Yw (by rw[h.1];exact hi),h.1];cases e:i-xs.length with
  | zero=>rw[e]at b;cases b;exact⟨a,c,O,f,d⟩
  | succ k=>rw[e]at b;simp at b
end Go.Proofs.W9
namespace Gk
open Go Go.ChangeMaps
abbrev CN:=Lu×Lu
def Fh:Value->List UInt8
 | .string b=>b.data.toList
 | _=>[]
theorem fD(l:Lu):Fh (S l)=l:=by simp[Fh]
def Dc(e:MapEntry):CN:=(Fh e.key,Fh e.val)
def KN(a:Array MapEntry):Prop:=∀e∈a.toList,e.key=S (Dc e).1/\e.val=S (Dc e).2
def hN(b:Array MapEntry)(a:Nat):Prop:=(∀e∈b.toList,e.born<a)/\(b.toList.map (·.born)).Nodup
def Ac3(b:Nat)(V:List CN):X1:=λh=>∃c a,KN c/\(c.toList.map Dc).Perm V/\hN c a/\h=[(b,.map c a)]
def Cr(v:Va)(V:List CN):X1:=λh=>(v=.map none/\V=[]/\h=[])\/∃b,v=.map (some b)/\Ac3 b V h
def YW(v:Va)(r:Nat)(V f:List CN)(last:Option CN):X1:=λh=>(v=.map none/\V=[]/\f=[]/\last=none/\h=[(r,.mapIter none 0 #[] 0)])\/
 ∃b g d a c c0,v=.map (some b)/\KN g/\(g.toList.map Dc).Perm V/\hN g d/\(∀e∈g.toList,e.born<a)/\(a<=c0/\a<=d)/\((leftOf g c).toList.map Dc).Perm f/\
  (∀p,last=some p->∃(e:MapEntry) (i:Array Nat),e∈g.toList/\Dc e=p/\c=i.push e.born/\c0=d)/\h=[(b,.map g d),(r,.mapIter (some b) a c c0)]
section
variable {P:Program} {n:Nat} {K':Bk} {L:AB} {w B:Wo} {ops:Array Oper} {rest:List Oper} {I:Im} {N:La} {V V':List CN} {k b:Nat} {t t' kt et ty:TypeId} {x y z:Operand} {pos:String} {af:Array Edge} {d:Nat} {g:Option (Nat×Bool)} {v:Va}
theorem Ls(key:Lu):∀(a:List MapEntry) (i:Nat),(∀e∈a,e.key=S (Dc e).1)->
  (key ∉ (a.map Dc).map Prod.fst/\Instr.findNow .string (S key) a i=some none)\/∃j e,a[j]?=some e/\(Dc e).1=key/\Instr.findNow .string (S key) a i=some (some (i+j,e.val))
 | [],_,_=>.inl ⟨by simp,O⟩
 | e::a,i,h=>by
  have d:=h e sz;have n:MapKept.IsKey .string e.key:=d▸CJ.is _;obtain⟨r,g,hi⟩:=MapKept.sameNow_of_keys (CJ.is key) n;cases r with
  | true =>
   have b:key=(Dc e).1:=CJ.inj _ _ ((hi.1 O).trans d);exact .inr ⟨0,e,O,b.symm,by simp[Instr.findNow,g]⟩
  | false =>
   have f:key≠(Dc e).1:=λq=>by have:=hi.2 (by rw[d,q]);cases this
   rcases Ls key a (i+1) (λe m=>h e (by simp[m]))with⟨b,c⟩|⟨j,k,b,c,l⟩
   ·refine .inl ⟨?_,by simp[Instr.findNow,g,c]⟩;simp only[Yu,Yp,not_or]
    exact⟨f,b⟩
   ·exact .inr ⟨j+1,k,su b,c,by simp[Instr.findNow,g,l];omega⟩
theorem vM{l:List CN}(h:key ∉ l.map Prod.fst):l.filter (λp=>p.1 !=key)=l :=
 nA.2 λp a=>by
  have:p.1≠key:=λe=>h (e▸gg a)
  simpa using this
theorem Xo2{l:List CN}{j:Nat}{p:CN}(i:(l.map Prod.fst).Nodup)(g:l[j]?=some p)(k:p.1=key):l.filter (λp=>p.1 !=key)=l.eraseIdx j:=by
 have h:=filter_eq_eraseIdx (λq:CN=>q.1==key) l j p g (su k) (by
  have d:l.Pairwise (λa b=>a.1≠b.1):=yr.1 i;exact d.imp λc ⟨e,f⟩=>c (by rw[eq_of_beq e,eq_of_beq f]))
 rw[<-h];rfl
theorem WL.kQ(i:Aa B w I N)(j:Nat.blt d n=true)(h:∀b w',Aa B w' I (Cr (.map (some b)) []::N)->WL P n ops K' rest ((d,.map (some b))::L) w'):WL P n ops K' (⟨some d,.makeMap t none,ty,pos,af,none⟩::rest) L w:=by
 have f:Aa B (w.alloc (.map #[] 0)) I (Cr (.map (some w.heap.size)) []::N):=(i.alloc (.map #[] 0)).say (k:=0) O λg l=>.inr ⟨_,O,#[],0,by intro e c;simp at c,List.Perm.refl _,⟨by intro e c;simp at c,by simp⟩,l⟩
 refine .val (λa o=>?_) j (h _ _ f);have m:=run_makeMap_plain (P:=P) w t;simp[execOp,m]
theorem Aa.HZ(y:Aa B w I N)(s:N[k]?=some (Cr (.map (some b)) V)):∃f e,KN f/\(f.toList.map Dc).Perm V/\hN f e/\w.heap[b]?=some (.map f e)/\
  ∀d a l,KN d->(d.toList.map Dc).Perm l->hN d a->Aa B { w with heap:=w.heap.setIfInBounds b (.map d a) } I (N.set k (Cr (.map (some b)) l)):=by
 have i:k<N.length:=(Y1.1 s).1;obtain⟨⟨⟨f,e⟩,m,n,p⟩,j⟩:=y.opened (X:={ x:Array MapEntry×Nat // KN x.1/\(x.1.toList.map Dc).Perm V/\hN x.1 x.2 }) (T:=λx=>own b (.map x.1.1 x.1.2)) s λg r=>by
  rcases r with⟨h,_⟩|⟨E,h,f,e,m,n,p,rfl⟩
  ·cases h
  ·cases h;exact⟨⟨(f,e),m,n,p⟩,O⟩
 have q:w.heap[b]?=some (.map f e):=j.block (k:=k) (by simp[i]);refine⟨f,e,m,n,p,q,λd a l t u v=>?_⟩;have D:=j.write (k:=k) (o:=.map f e) (w':={ w with heap:=w.heap.setIfInBounds b (.map d a) }) (o':=.map d a) (by simp[i]) O O O (MapKept.heap_set q).1 (λc z=>(MapKept.heap_set q).2 c z);have C:=D.say (k:=k) (A:=own b (.map d a)) (A':=Cr (.map (some b)) l) (by simp[i]) λg r=>.inr ⟨b,O,d,a,t,u,v,r⟩
 simpa using C
theorem V4{val:Lu}(U:Aa B w I N)(X:N[k]?=some (Cr (.map (some b)) V))(hn:(V.map Prod.fst).Nodup)(G:V'.Perm ((key,val)::V.filter λp=>p.1 !=key))(H:P.underlying t=some (.map kt et))(l:P.underlying kt=some .string):∃w',(Instr.mapUpdate t (.map (some b)) (S key) (S val)).run P w=.ok () w'/\Aa B w' I (N.set k (Cr (.map (some b)) V')):=by
 obtain⟨f,h,u,v,m,x,s⟩:=U.HZ X;have y:(Instr.checkKey false 10000 kt (S key)).run P w=.ok () w:=MapKept.run_checkKey l (CJ.is key) _ 9999;have D:((f.toList.map Dc).map Prod.fst).Nodup:=(v.map Prod.fst).nodup_iff.2 hn;rcases Ls key f.toList 0 (λe d=>(u e d).1)with⟨E,z⟩|⟨j,e,n,r,z⟩
 ·refine⟨_,?_,s (f.push { key:=S key,val:=S val,born:=h }) (h+1) V' ?_ ?_ ?_⟩
  ·simp[Instr.mapUpdate,run_underlying H,MapKept.run_getObj_map x,y,MapKept.run_findKey l z,MapKept.run_setObj_map _ x,Result.andThen]
  ·intro e d;rw[nF]at d;rcases Ys.1 d with d|d
   ·exact u e d
   ·simp at d;subst d;exact⟨by show S key=S (Fh (S key));rw[fD],by show S val=S (Fh (S val));rw[fD]⟩
  ·rw[nF,Yn];refine List.Perm.trans ?_ G.symm;have J:V.filter (λp=>p.1 !=key)=V:=vM λZ=>E ((v.map Prod.fst).mem_iff.2 Z)
   rw[J];show((f.toList.map Dc)++[(Fh (S key),Fh (S val))]).Perm _
   rw[fD,fD];exact(List.perm_append_singleton _ _).trans (v.cons _)
  ·refine⟨λe d=>?_,?_⟩
   ·rw[nF]at d;rcases Ys.1 d with d|d
    ·have:=m.1 e d;omega
    ·simp at d;subst d;exact Nat.lt_succ_self _
   ·rw[nF,Yn,yq];refine⟨m.2,by simp,λa W c y=>?_⟩;simp at y
    obtain⟨e,d,rfl⟩:=Dt.1 W
    have:=m.1 e d;omega
 ·rw[Yk]at z;have q:j<f.size:=by have:=(Y1.1 n).1;simpa using this
  have o:f[j]?=some e:=by rw[<-fX];exact n
  have C:e.key=S key:=by rw[(u e (Y7 n)).1,r]
  have g:(f.modify j λe=>{ e with key:=S key,val:=S val }).toList=f.toList.set j { e with key:=S key,val:=S val }:=by
   refine PS λi=>?_
   rw[fX,pE,nG]
   by_cases hi:j=i
   ·subst hi;rw[Y9 O,Y9 O,Y9 (su q),o];rfl
   ·rw[Y3 hi,Y3 hi,fX]
  refine⟨_,?_,s (f.modify j λe=>{ e with key:=S key,val:=S val }) h V' ?_ ?_ ?_⟩
  ·have F:Instr.sameBits 10000 (S key) (S key)=true:=by show((⟨key.toArray⟩:ByteArray)==⟨key.toArray⟩)=true;exact beq_self_eq_true (α:=Array Ui) _
   simp[Instr.mapUpdate,run_underlying H,MapKept.run_getObj_map x,y,MapKept.run_findKey l z,MapKept.run_setObj_map _ x,Result.andThen,o,Instr.keyThatStays,C,F]
  ·intro A d;rw[g]at d;rcases pB d with d|d
   ·exact u A d
   ·subst d;exact⟨by show S key=S (Fh (S key));rw[fD],by show S val=S (Fh (S val));rw[fD]⟩
  ·rw[g,uA];refine List.Perm.trans ?_ G.symm;show((f.toList.map Dc).set j (Fh (S key),Fh (S val))).Perm _
   rw[fD,fD];have K:(f.toList.map Dc)[j]?=some (Dc e):=by rw[Yr,n];rfl
   have L:=Xo2 D K r;have M:(V.filter λp=>p.1 !=key).Perm ((f.toList.map Dc).eraseIdx j):=by rw[<-L];exact(v.filter _).symm
   refine List.Perm.trans ?_ ((M.symm).cons _);have Y:j<(f.toList.map Dc).length:=su q
   have Q:(f.toList.map Dc).set j (key,val)=(f.toList.map Dc).take j++(key,val)::(f.toList.map Dc).drop (j+1):=List.set_eq_take_append_cons_drop .. |>.trans (Y9 Y);rw[Q,Y5f];exact pK
  ·refine⟨λA d=>?_,?_⟩
   ·rw[g]at d;rcases pB d with d|d
    ·exact m.1 A d
    ·subst d;exact m.1 e (Y7 n)
   ·rw[g,uA];have R:(f.toList.map (·.born))[j]?=some e.born:=by rw[Yr,n];rfl
    obtain⟨e7,T⟩:=Y1.1 R;show((f.toList.map (·.born)).set j e.born).Nodup
    rw[<-T,jz];exact m.2
theorem WL.gL{val:Lu}(f:Aa B w I N)(i:N[k]?=some (Cr (.map (some b)) V))(hx:Ev n L x (.map (some b)))(o:Ev n L y (S key))(q:Ev n L z (S val))(j:(V.map Prod.fst).Nodup)(g:V'.Perm ((key,val)::V.filter λp=>p.1 !=key))(m:P.underlying t=some (.map kt et))(e:P.underlying kt=some .string)
  (h:∀w',Aa B w' I (N.set k (Cr (.map (some b)) V'))->WL P n ops K' rest L w'):WL P n ops K' (⟨none,.mapUpdate t x y z,ty,pos,af,none⟩::rest) L w:=by
 obtain⟨w',l,c⟩:=V4 f i j g m e;refine .st (w':=w') (λa d=>?_) (h _ c);simp[execOp,hx a d,o a d,q a d,l]
theorem VZ(C:Aa B w I N)(E:N[k]?=some (Cr (.map (some b)) V))(G:(V.map Prod.fst).Nodup)(r:V'.Perm (V.filter λp=>p.1 !=key))(y:P.underlying t=some (.map kt et))(f:P.underlying kt=some .string):∃w',(Builtin.delete_ #[t,t'] ty #[.map (some b),S key]).run P w=.ok (.tuple #[]) w'/\Aa B w' I (N.set k (Cr (.map (some b)) V')):=by
 obtain⟨c,g,o,i,q,l,h⟩:=C.HZ E;have x:(Instr.checkKey c.isEmpty 10000 kt (S key)).run P w=.ok () w:=MapKept.run_checkKey f (CJ.is key) _ 9999;have u:((c.toList.map Dc).map Prod.fst).Nodup:=(i.map Prod.fst).nodup_iff.2 G;rcases Ls key c.toList 0 (λe d=>(o e d).1)with⟨v,m⟩|⟨j,e,D,s,m⟩
 ·refine⟨_,?_,h c g V' o ?_ q⟩
  ·simp[Builtin.delete_,run_underlying y,MapKept.run_getObj_map l,x,MapKept.run_findKey f m,MapKept.run_setObj_map _ l,Result.andThen]
  ·have z:V.filter (λp=>p.1 !=key)=V:=vM λF=>v ((i.map Prod.fst).mem_iff.2 F)
   rw[z]at r;exact i.trans r.symm
 ·rw[Yk]at m;have a:(c.eraseIdxIfInBounds j).toList=c.toList.eraseIdx j:=by simp
  refine⟨_,?_,h (c.eraseIdxIfInBounds j) g V' ?_ ?_ ?_⟩
  ·simp[Builtin.delete_,run_underlying y,MapKept.run_getObj_map l,x,MapKept.run_findKey f m,MapKept.run_setObj_map _ l,Result.andThen]
  ·intro n d;rw[a]at d;exact o n (yf d)
  ·rw[a,map_eraseIdx];have A:(c.toList.map Dc)[j]?=some (Dc e):=by rw[Yr,D];rfl
   rw[<-Xo2 u A s];exact(i.filter _).trans r.symm
  ·refine⟨λn d=>?_,?_⟩
   ·rw[a]at d;exact q.1 n (yf d)
   ·rw[a,map_eraseIdx];exact q.2.sublist (List.eraseIdx_sublist ..)
theorem WL.qx(i:Aa B w I N)(m:N[k]?=some (Cr (.map (some b)) V))(hx:Ev n L x (.map (some b)))(s:Ev n L y (S key))(o:(V.map Prod.fst).Nodup)(j:V'.Perm (V.filter λp=>p.1 !=key))(r:P.underlying t=some (.map kt et))(e:P.underlying kt=some .string)
  (h:∀w',Aa B w' I (N.set k (Cr (.map (some b)) V'))->WL P n ops K' rest L w'):WL P n ops K' (⟨none,.call ⟨.builtin .delete,#[x,y],#[t,t']⟩,ty,pos,af,none⟩::rest) L w:=by
 obtain⟨w',q,c⟩:=VZ (ty:=ty) (t':=t') i m o j r e;intro a d;refine wpList_plain O λf g=>?_
 unfold Oper.wp;have l:(execOp a.eval (⟨none,.call ⟨.builtin .delete,#[x,y],#[t,t']⟩,ty,pos,af,none⟩:Oper)).run P w=.ok (.value (.tuple #[])) w':=by
  simp[execOp,resolve,invoke,builtin,hx a d,s a d,q]
 rw[l];exact g _ _ (h _ c _ d)
theorem WL.WM(G:Aa B w I N)(D:N[k]?=some (Cr v V))(hx:Ev n L x v)(W:P.underlying t=some (.map kt et))(s:Nat.blt d n=true)
  (h:∀r w',Aa B w' I (N.set k (YW v r V V none))->WL P n ops K' rest ((d,ptr r 0)::L) w'):WL P n ops K' (⟨some d,.range t x,ty,pos,af,none⟩::rest) L w:=by
 have e:k<N.length:=(Y1.1 D).1;have R:v=.map none\/∃b,v=.map (some b):=G.CM D λg i=>by
  rcases i with⟨h,_⟩|⟨b,h,_⟩
  ·exact .inl h
  ·exact .inr ⟨b,h⟩
 rcases R with rfl|⟨b,rfl⟩
 ·have S:=run_range_nilMap (P:=P) w t kt et W;have l:=G.say (k:=k) (A':=Am [Cr (.map none) V]) D λg i=>⟨g,[],by simp,i,O⟩
  have f:=(l.alloc (.mapIter none 0 #[] 0)).push (k:=k) (Bs:=[Cr (.map none) V]) (by simp[e]);rw[Zz]at f;refine .val (w':=w.alloc (.mapIter none 0 #[] 0)) (λa o=>?_) s (h w.heap.size _ ?_)
  ·simp[execOp,hx a o,S]
  ·have:=f.say (k:=k) (A:=Am ([Cr (.map none) V]++[own w.heap.size (.mapIter none 0 #[] 0)])) (A':=YW (.map none) w.heap.size V V none) (by simp[e]) λg i=>by
    obtain⟨g1,g2,rfl,o,q⟩:=i;obtain⟨J,K,rfl,Q,s⟩:=q;rcases o with⟨_,U,rfl⟩|⟨b,h,_⟩
    ·have y:J=_:=Q;have z:K=[]:=s;subst y;subst z;exact .inl ⟨O,U,U,O,O⟩
    ·cases h
   simpa using this
 ·obtain⟨j,c,M,E,F,q,Y⟩:=G.HZ D;have S:=run_range_map (P:=P) w t kt et b j c W q;obtain⟨⟨⟨H,u⟩,q1,q2,q3⟩,C⟩:=G.opened (X:={ x:Array MapEntry×Nat // KN x.1/\(x.1.toList.map Dc).Perm V/\hN x.1 x.2 }) (T:=λx=>own b (.map x.1.1 x.1.2)) D λg i=>by
   rcases i with⟨h,_⟩|⟨Z,h,j,c,M,E,F,rfl⟩
   ·cases h
   ·cases h;exact⟨⟨(j,c),M,E,F⟩,O⟩
  have m:w.heap[b]?=some (.map H u):=C.block (k:=k) (by simp[e]);rw[q]at m;injection m with m
  injection m with y z
  subst y;subst z;have l:=C.say (k:=k) (A:=own b (.map j c)) (A':=Am [own b (.map j c)]) (by simp[e]) λg i=>⟨g,[],by simp,i,O⟩
  rw[Zz]at l;have f:=(l.alloc (.mapIter (some b) c #[] c)).push (k:=k) (Bs:=[own b (.map j c)]) (by simp[e]);rw[Zz]at f;refine .val (w':=w.alloc (.mapIter (some b) c #[] c)) (v:=ptr w.heap.size 0) (λa o=>?_) s (h w.heap.size _ ?_)
  ·simp[execOp,hx a o,S]
  ·have:=f.say (k:=k) (A:=Am ([own b (.map j c)]++[own w.heap.size (.mapIter (some b) c #[] c)])) (A':=YW (.map (some b)) w.heap.size V V none) (by simp[e]) λg i=>by
    obtain⟨g1,g2,rfl,o,q⟩:=i;obtain⟨J,K,rfl,Q,s⟩:=q;have e0:g1=_:=o;have y:J=_:=Q;have z:K=[]:=s;subst e0;subst y;subst z;exact .inr ⟨b,j,c,c,#[],c,O,M,E,F,F.1,⟨Ya _,Ya _⟩,(show(leftOf j #[]).toList=j.toList by simp[leftOf])▸E,λp R=>(by cases R),O⟩
   simpa using this
theorem Xpb:∀{l:List MapEntry} {e:MapEntry},(l.map (·.born)).Nodup->e∈l->l.Perm (e::l.filter λx=>!(x.born==e.born))
 | [],e,_,h=>by simp at h
 | x::l,e,a,h=>by
  simp only[Yu,T6]at a
  rcases Yp.1 h with rfl|h
  ·have:(e::l).filter (λx=>!(x.born==e.born))=l:=by
    rw[Jq,Y3 sz];exact nA.2 λy c=>by
     have:y.born≠e.born:=λq=>a.1 (q▸gg c)
     simpa using this
   rw[this]
  ·have b:x.born≠e.born:=λq=>a.1 (q▸gg h)
   rw[Jq,Y9 (su b)];exact((Xpb a.2 h).cons x).trans (List.Perm.swap _ _ _)
theorem QV{b:Array MapEntry}{a:Array Nat}{e:MapEntry}(h:(b.toList.map (·.born)).Nodup)(g:e∈(leftOf b a).toList):(leftOf b a).toList.Perm (e::(leftOf b (a.push e.born)).toList):=by
 have c:∀d:Array Nat,(leftOf b d).toList=b.toList.filter λx=>!d.contains x.born:=λd=>by simp[leftOf]
 have f:(leftOf b (a.push e.born)).toList=(leftOf b a).toList.filter λx=>!(x.born==e.born):=by
  rw[c,c,List.filter_filter];refine List.filter_congr λx _=>?_
  rw[contains_push,Bool.not_or,Bool.and_comm]
 rw[f];refine Xpb ?_ g;rw[c];exact h.sublist (ug.map _)
theorem WL.A9{r:Nat}{todo:List CN}{last:Option CN}(Y:Aa B w I N)(U:N[k]?=some (YW v r V todo last))(hx:Ev n L x (ptr r 0))(J:Nat.blt d n=true)
  (h0:todo=[]->WL P n ops K' rest ((d,.tuple #[.bool false])::L) w)
  (h1:∀p s w',todo.Perm (p::s)->Aa B w' I (N.set k (YW v r V s (some p)))->WL P n ops K' rest ((d,.tuple #[.bool true,S p.1,S p.2])::L) w'):WL P n ops K' (⟨some d,.next x false,ty,pos,af,none⟩::rest) L w:=by
 have m:k<N.length:=(Y1.1 U).1;have hp:(v=.map none)\/∃b,v=.map (some b):=Y.CM U λg t=>by
  rcases t with⟨h,_⟩|⟨b,l,j,f,i,c0,h,_⟩
  ·exact .inl h
  ·exact .inr ⟨b,h⟩
 rcases hp with rfl|⟨b,rfl⟩
 ·obtain⟨⟨u,hu⟩,y⟩:=Y.opened (X:={ x:Unit // todo=[] }) (T:=λx=>own r (.mapIter none 0 #[] 0)) U λg t=>by
   rcases t with⟨_,hV,ht,_,h⟩|⟨b,l,j,f,i,c0,h,_⟩
   ·exact⟨⟨(),ht⟩,h⟩
   ·cases h
  have H:w.heap[r]?=some (.mapIter none 0 #[] 0):=y.block (k:=k) (by simp[m]);refine .val (λa z=>?_) J (h0 hu);have hr:(Instr.next (ptr r 0) false ty).run P w=.ok (.tuple #[.bool false]) w:=by
   simp[Instr.next,getObj,Sem.run_bind,Sem.run,H,Result.andThen]
  simp[execOp,hx a z,hr]
 ·obtain⟨⟨⟨l,j,f,i,c0⟩,q1,W,Q,R,C,D⟩,y⟩:=Y.opened (X:={ x:Array MapEntry×Nat×Nat×Array Nat×Nat // KN x.1/\(x.1.toList.map Dc).Perm V/\hN x.1 x.2.1/\(∀e∈x.1.toList,e.born<x.2.2.1)/\(x.2.2.1<=x.2.2.2.2/\x.2.2.1<=x.2.1)/\((leftOf x.1 x.2.2.2.1).toList.map Dc).Perm todo })
    (T:=λx=>Am [own b (.map x.1.1 x.1.2.1),own r (.mapIter (some b) x.1.2.2.1 x.1.2.2.2.1 x.1.2.2.2.2)]) U λg t=>by
   rcases t with⟨h,_⟩|⟨b',l,j,f,i,c0,h,q1,W,Q,R,C,D,q7,rfl⟩
   ·cases h
   ·cases h;exact⟨⟨(l,j,f,i,c0),q1,W,Q,R,C,D⟩,[(b,.map l j)],[(r,.mapIter (some b) f i c0)],O,O,_,[],by simp,O,O⟩
  dsimp only at q1 W Q R C D y
  have o:=y.pop (k:=k) (Bs:=[own b (.map l j)]) (A:=own r (.mapIter (some b) f i c0)) (by simp[m]);rw[Zz]at o;have ah:w.heap[r]?=some (.mapIter (some b) f i c0):=o.block (k:=0) O;have ab:w.heap[b]?=some (.map l j):=by
   have h9:=o.say (k:=k+1) (A:=Am [own b (.map l j)]) (by simp[m]) λg ⟨g1,g2,e,z,H⟩=>by
    have:g2=[]:=H
    subst this;rw[Yy]at e;subst e;exact z
   exact h9.block (k:=k+1) (by simp[m])
  rcases run_next_at (P:=P) w ty r b f c0 i l j ah ab R C.1 with⟨hz,q⟩|⟨e,he,w1,aa,q⟩
  ·have ht:todo=[]:=by
    have:(leftOf l i).toList=[]:=Yi (su hz)
    rw[this]at D;exact List.nil_perm.1 D
   refine .val (λa z=>?_) J (h0 ht);simp[execOp,hx a z,q]
  ·have E:Aa B w1 I (own r (.mapIter (some b) f i c0)::N.set k (Am [own b (.map l j)])):=by
    rcases aa with rfl|rfl
    ·exact o
    ·exact o.drew
   have ai:w1.heap[r]?=some (.mapIter (some b) f i c0):=E.block (k:=0) O;have aj:r<w1.heap.size:=(Jo.1 ai).1;have Z:=E.write (k:=0) (o':=.mapIter (some b) f (i.push e.born) j) (w':=setBlock w1 r (.mapIter (some b) f (i.push e.born) j)) O O O O (by
    show(w1.heap.setIfInBounds r _)[r]?=_
    simp[pz,aj]) (λc hc=>by
    show(w1.heap.setIfInBounds r _)[c]?=_
    simp[x_ (Ne.symm hc)])
   have F:=Aa.push (A:=own r (.mapIter (some b) f (i.push e.born) j)) (N:=N.set k (Am [own b (.map l j)])) (k:=k) (Bs:=[own b (.map l j)]) Z (by simp[m]);rw[Zz]at F;have ad:=QV Q.2 he;have K:e∈l.toList:=(mem_left he).1;have G:=F.say (k:=k) (A:=Am ([own b (.map l j)]++[own r (.mapIter (some b) f (i.push e.born) j)])) (A':=YW (.map (some b)) r V ((leftOf l (i.push e.born)).toList.map Dc) (some (Dc e))) (by simp[m]) λg t=>by
    obtain⟨g1,g2,rfl,z,H⟩:=t;obtain⟨g3,g4,rfl,hc,J⟩:=H;have e0:g1=_:=z;have e1:g3=_:=hc;have e2:g4=[]:=J;subst e0;subst e1;subst e2;exact .inr ⟨b,l,j,f,i.push e.born,j,O,q1,W,Q,R,⟨C.2,C.2⟩,List.Perm.refl _,λp hp=>(by cases hp;exact⟨e,i,K,O,O,O⟩),O⟩
   rw[Zz]at G;have ag:todo.Perm (Dc e::(leftOf l (i.push e.born)).toList.map Dc):=D.symm.trans (ad.map Dc);have t:=h1 (Dc e) _ _ ag G;have M:=q1 e K;rw[<-M.1,<-M.2]at t;refine .val (λa z=>?_) J t;simp[execOp,hx a z,q]
theorem Ex.U4{d:Option Nat}{r:Nat}{j:List CN}{p:CN}(C:Aa B w I N)(F:N[k]?=some (YW v r V j (some p)))(hx:Ev n L x (ptr r 0)):Ex P n L w ⟨d,.entry x,ty,pos,af,g⟩ (.tuple #[S p.1,S p.2]) w:=λa D=>by
 obtain⟨M,H,E⟩:=C;obtain⟨g1,g2,G,A,_⟩:=H.at_ F;rcases A with⟨h,Q,R,z,_⟩|⟨b,q,l,c,u,c0,h,q1,T,J,U,W,X,K,rfl⟩
 ·cases z
 ·have s:=E.perm G;have m:w.heap[b]?=some (.map q l):=s.own b _ sz;obtain⟨e,y,t,rfl,rfl,rfl⟩:=K p O;have o:w.heap[r]?=some (.mapIter (some b) c (y.push e.born) c0):=s.own r _ sz;have f:=run_entry_at (P:=P) w r b c y q c0 e o m t J.2;have i:=q1 e t;rw[i.1,i.2]at f;simp[execOp,hx a D,f]
theorem Aa.WV{r:Nat}{j:List CN}{last:Option CN}(s:Aa B w I N)(q:N[k]?=some (YW v r V j last)):Aa B w I (N.set k (Cr v V)):=by
 have i:k<N.length:=(Y1.1 q).1;have C:(v=.map none)\/∃b,v=.map (some b):=s.CM q λg p=>by
  rcases p with⟨h,_⟩|⟨b,l,d,a,c,c0,h,_⟩
  ·exact .inl h
  ·exact .inr ⟨b,h⟩
 have m:=s.say (k:=k) (A':=Am ([Cr v V]++[λh=>∃o,h=[(r,o)]])) q λg p=>by
  rcases p with⟨h,t,D,_,rfl⟩|⟨b,l,d,a,c,c0,h,q1,y,z,E,F,G,H,rfl⟩
  ·exact⟨[],[(r,.mapIter none 0 #[] 0)],O,.inl ⟨h,t,O⟩,[(r,.mapIter none 0 #[] 0)],[],by simp,⟨.mapIter none 0 #[] 0,O⟩,O⟩
  ·exact⟨[(b,.map l d)],[(r,.mapIter (some b) a c c0)],O,.inr ⟨b,h,l,d,q1,y,z,O⟩,[(r,.mapIter (some b) a c c0)],[],by simp,⟨.mapIter (some b) a c c0,O⟩,O⟩
 have f:=(m.pop (k:=k) (Bs:=[Cr v V]) (A:=λh=>∃o,h=[(r,o)]) (by simp[i])).drop (k:=0) O;simp only[Y6c,Zz]at f
 have n:=f.say (k:=k) (A:=Am [Cr v V]) (A':=Cr v V) (by simp[i]) λg ⟨g1,g2,e,u,x⟩=>by
  have:g2=[]:=x
  subst this;rw[Yy]at e;subst e;exact u
 simpa using n
theorem VX(a:Aa B w I N):Aa B w I (Cr (.map none) []::N):=by
 obtain⟨g,c,b⟩:=a;exact⟨g,⟨[],g,O,.inl ⟨O,O,O⟩,c⟩,b⟩
theorem Ex.EF{d:Option Nat}{l:Lu}(hx:Ev n L x (.slice a l.length cap))(u:Aa B w I N)(i:RS I a 1 l.length (Ao l))(o:P.underlying src=some (.slice E))(m:P.underlying E=some (.int .u8))(k:P.underlying dst=some .string):Ex P n L w ⟨d,.convert src dst x,ty,pos,af,g⟩ (S l) w:=by
 cases a with
 | some p =>
  intro a b;have h:=run_convert_bytes_back (P:=P) w src dst E p cap l o m k (λj v=>by
   obtain⟨q,e,t⟩:=i.2 om;cases e
   exact Xv u t (by simp[Ao,v]))
  simp[execOp,hx a b,h]
 | none =>
  have r:l=[]:=by
   cases l with
   | nil=>rfl
   | cons c l=>obtain⟨q,e,_⟩:=i.2 sz;cases e
  subst r;intro a b;have y:=hx a b;have h:=run_convert_bytes_string (P:=P) w src dst E none 0 cap o m k;have s:(Conv.bytesToString (.slice none 0 cap)).run P w=.ok (S []) w:=rfl;rw[s]at h;have f:a.eval x=.slice none 0 cap:=y;simp[execOp,f,h]
end
open Go.Sort Go.Proofs
section
variable {α:Type} [Inhabited α] {B w:Wo} {I:Im} {N:La} {Aq:α->Lv} {s:Nat}
theorem Xo8(b:∀x,(Aq x).length=s)(i:0<s)(d:Array α):(flatK Aq s d).toList=X2 Aq d.toList:=by
 refine PS λt=>?_
 rcases Yt t (d.size*s)with a|a
 ·have e:t/s<d.size:=yj (by rwa[FZ]at a);have h:t%s<s:=T_ _ i;have f:d.toList[t/s]?=some d[t/s]:=by simp[e]
  have g:(Aq d[t/s])[t%s]?=some (Aq d[t/s])[t%s]! := by
   have:t%s<(Aq d[t/s]).length:=by rw[b];exact h
   rw[Y2 this,List.getElem!_eq_getElem?_getD,Y2 this];rfl
  have c:=l0 b f g;rw[Nat.div_add_mod' t s]at c;rw[c,fX,Iv (su a)]
  congr 1
  simp[flatK,e]
 ·rw[Zy (by rw[Sj,size_flatK];exact a),Zy (by rw[R0 b];simpa using a)]
theorem Aa.grow(a:List Obj):∀{w:Wo},Aa B w I N->Aa B (Go.Sort.grow w a.toArray) I N:=by
 induction a with
 | nil=>intro w h;simpa[Go.Sort.grow]using h
 | cons o a d =>
  intro w h;have c:=d ((h.alloc o).drop (k:=0) O);have e:Go.Sort.grow (w.alloc o) a.toArray=Go.Sort.grow w (o::a).toArray:=by
   have b:w.heap.push o++a.toArray=w.heap++(o::a).toArray:=by
    apply Array.toList_inj.mp
    simp only[Array.toList_append,nF,Yg]
    rfl
   show({ w with heap:=w.heap.push o++a.toArray }:Wo)={ w with heap:=w.heap++(o::a).toArray }
   rw[b]
  rw[<-e];exact c
theorem Aa.YL{E:Nat}{a:Addr}(o:Aa B w I N)(x:N[k]?=some (An E s (.slice (some a) n c) n xs)):∃(b:Nat) (r:Lv),a=⟨b,0,none⟩/\n<=c/\c<=maxLen/\xs.length=n*s/\xs.length+r.length=c*s/\Aa B w I (N.set k (Ac b (xs++r) E)):=by
 obtain⟨g,v,q⟩:=o;obtain⟨y,z,u,⟨t,p⟩,d,_⟩:=v.at_ x;rcases p with⟨e,_,_⟩|⟨b,cap,rest,e,rfl,j,l,m⟩
 ·cases e
 ·obtain⟨i,h,f⟩:=d (Ac b (xs++rest) E) _ O;cases e
  exact⟨b,rest,O,j,l,t,m,i,h,q.perm (u.trans f.symm)⟩
theorem Aa.XD{E:Nat}{a:Addr}{l:List α}(J:∀x,(Aq x).length=s)(R:0<s)(W:Aa B w I N)(Z:l.length=n)(S:N[k]?=some (An E s (.slice (some a) n c) n (X2 Aq l))):∃g,a=⟨g,0,none⟩/\g<w.heap.size/\HoldsK Aq s w g 0 l.toArray/\∀(m:Nat) (d:Array α) (P:Array Obj),d.size=n->Aa B (sortWorldK Aq s w g 0 m d P) I (N.set k (An E s (.slice (some a) n c) n (X2 Aq d.toList))):=by
 obtain⟨g,r,rfl,T,U,D,V,y⟩:=W.YL S;have p:k<N.length:=(Y1.1 S).1;have H:w.heap[g]?=some (Xh (X2 Aq l++r) E):=y.block (k:=k) (by simp[p,Ac]);have Y:g<w.heap.size:=(Jo.1 H).1;refine⟨g,O,Y,λj Q=>?_,λm d P A=>?_⟩
 ·rw[size_flatK]at Q;have i:j<(X2 Aq l).length:=by rw[R0 J];simpa using Q
  have e:(flatK Aq s l.toArray)[j]! = (X2 Aq l)[j]:=by
   have h:=Yc (λq=>q[j]?) (Xo8 J R l.toArray);simp only[fX,Y2 i]at h
   rw[getElem!_def,h]
  constructor
  ·show w.cell? ⟨g,0+j,none⟩=_
   simp only[World.cell?,H,Xh,Yk]
   rw[e];simp[Ye i,i]
  ·show w.frozen? ⟨g,0+j,none⟩=_
   simp[World.frozen?,H,Xh]
 ·have f:(X2 Aq d.toList).length=n*s:=by rw[R0 J];simp[A]
  have C:putCells id 0 (flatK Aq s d) (X2 Aq l++r).toArray=(X2 Aq d.toList++r).toArray:=by
   refine Array.ext_getElem? λt=>?_
   simp only[putCells,Array.getElem?_mapIdx,pG,Yk,nM,id,Y4,true_and,size_flatK]
   have M:=Xo8 J R d;rcases Yt t (d.size*s)with u|u
   ·have G:t<(X2 Aq l).length:=by rw[D,<-A];exact u
    have F:t<(X2 Aq d.toList).length:=by rw[f,<-A];exact u
    rw[Ye G,Ye F,Y2 G,gn,Y9 u];have h:=Yc (λq=>q[t]?) M;simp only[fX]at h
    rw[getElem!_def,h,Y2 F]
   ·have G:(X2 Aq l).length<=t:=by rw[D,<-A];exact u
    have F:(X2 Aq d.toList).length<=t:=by rw[f,<-A];exact u
    rw[Yw G,Yw F,D,f];cases r[t-n*s]? with
    | none=>rfl
    | some v=>simp[show ¬ t<d.size*s by omega]
  have K:Aa B (Go.Sort.ahead w m) I (N.set k (Ac g (X2 Aq l++r) E)):=y.world O O O O;have L:=K.write (k:=k) (b:=g) (o:=Xh (X2 Aq l++r) E) (o':=Xh (X2 Aq d.toList++r) E) (w':=putRowK Aq s (Go.Sort.ahead w m) g 0 d) (by simp[p,Ac]) O O O (by
   show((Go.Sort.ahead w m).heap.modify g (onCells (putCells id 0 (flatK Aq s d))))[g]?=_
   rw[pE,Y9 O];show(w.heap[g]?).map _=_
   rw[H];simp only[gn,Xh,onCells,C]) (λc X=>by
   show((Go.Sort.ahead w m).heap.modify g (onCells (putCells id 0 (flatK Aq s d))))[c]?=_
   rw[pE,Y3 (Ne.symm X)])
  have z:=L.AR (k:=k) (g:=g) (cap:=c) (rest:=r) (xs:=X2 Aq d.toList) (E:=E) (size:=s) (by simp[p,Ac]) T U f (by rw[f,<-D];exact V);rw[Zz,Zz]at z;have h:=Aa.grow P.toList z;unfold sortWorldK;simpa using h
end
end Gk
open Go Gk
variable {V:List CN}
namespace Rq
open Gk Go Go.Lib Go.Proofs Go.Sort
def Ec(a b:Lu):Bool:=decide (compareBytes a b<0)
theorem fj:∀a:Lu,Ec a a=false
 | []=>rfl
 | x::a=>by have:=fj a;unfold Ec at this ⊢;simp[compareBytes];simpa using this
theorem Xvw(x y:Ui)(a b:Lu):Ec (x::a) (y::b)=(decide (x<y)||(x==y&&Ec a b)):=by
 unfold Ec;rw[compareBytes]
 by_cases h:x<y
 ·simp[h]
 ·by_cases c:y<x
  ·have:x≠y:=λe=>by subst e;exact Yz c h
   simp[h,c,this]
  ·have e:x=y:=UInt8.le_antisymm (uC.1 c) (uC.1 h);subst e
   simp
theorem wH(a:Lu):Ec a []=false:=by cases a<;>rfl
theorem iI:∀a b c:Lu,Ec a b=true->Ec b c=true->Ec a c=true
 | [],b,c,e,d=>by
  cases c with
  | nil=>rw[wH]at d;cases d
  | cons z c=>rfl
 | x::a,[],c,e,d=>by rw[wH]at e;cases e
 | x::a,y::b,[],e,d=>by rw[wH]at d;cases d
 | x::a,y::b,z::c,e,d=>by
  rw[Xvw]at *;simp only[EC,Y8,dq1,beq_iff_eq]at *
  rcases e with e|⟨rfl,e⟩
  ·rcases d with d|⟨rfl,d⟩
   ·exact .inl (UInt8.lt_trans e d)
   ·exact .inl e
  ·rcases d with d|⟨rfl,d⟩
   ·exact .inl d
   ·exact .inr ⟨O,iI a b c e d⟩
theorem td:∀a b:Lu,Ec a b=false->Ec b a=false->a=b
 | [],[],_,_=>rfl
 | [],y::b,h,_=>by cases h
 | x::a,[],_,h=>by cases h
 | x::a,y::b,c,d=>by
  rw[Xvw]at *;simp only[EB,Zx,dq2,beq_eq_false_iff_ne]at *
  have e:x=y:=UInt8.le_antisymm (uC.1 d.1) (uC.1 c.1);subst e;rw[td a b (c.2.resolve_left (λh=>h O)) (d.2.resolve_left (λh=>h O))]
theorem Xp1{a b:Lu}(h:Ec a b=true):Ec b a=false:=by
 cases c:Ec b a with
 | false=>rfl
 | true=>have:=iI _ _ _ h c;rw[fj]at this;cases this
theorem Xiq(a b c:Lu)(f:Ec a b=false)(d:Ec b c=false):Ec a c=false:=by
 cases h:Ec a c with
 | false=>rfl
 | true =>
  cases e:Ec b a with
  | true=>have:=iI _ _ _ e h;rw[d]at this;cases this
  | false=>have:=td a b f e;subst this;rw[d]at h;cases h
def UH(p q:CN):Int:=compareBytes p.1 q.1
theorem Adk:SWO (ltOf UH) where
 irrefl x:=fj x.1
 trans x y z:=iI x.1 y.1 z.1
 ntrans x y z:=Xiq x.1 y.1 z.1
structure G4(V:List CN):Prop where
 H3:V.Pairwise λp q=>Ec p.1 q.1=true
 each:∀p∈V,(1<=p.1.length/\p.1.length<=64)/\p.2.length<=300
theorem G4.nodup(h:G4 V):(V.map Prod.fst).Nodup:=by
 refine yr.2 (h.H3.imp λ{p q} a e=>?_);rw[e,fj]at a;cases a
theorem G4.nil:G4 []:=⟨List.Pairwise.nil,λp a=>by simp at a⟩
def Jn(k v:List UInt8):List CN->List CN
 | []=>[(k,v)]
 | p::r=>if p.1=k then(k,v)::r else if Ec k p.1 then(k,v)::p::r else p::Jn k v r
def bY(k:Lu)(V:List CN):List CN:=V.filter λp=>p.1 !=k
theorem xn{k v:Lu}:∀{V:List CN} {p:CN},p∈Jn k v V->p=(k,v)\/p∈V
 | [],p,h=>by simp[Jn]at h;exact .inl h
 | q::V,p,h=>by
  unfold Jn at h;split at h
  ·rcases Yp.1 h with h|h
   ·exact .inl h
   ·exact .inr (by simp[h])
  ·split at h
   ·rcases Yp.1 h with h|h
    ·exact .inl h
    ·exact .inr h
   ·rcases Yp.1 h with h|h
    ·exact .inr (by simp[h])
    ·rcases xn h with h|h
     ·exact .inl h
     ·exact .inr (by simp[h])
theorem x1{k v:Lu}(i:1<=k.length/\k.length<=64)(j:v.length<=300)(h:G4 V):G4 (Jn k v V):=by
 refine⟨?_,λp a=>?_⟩
 ·have:∀V:List CN,V.Pairwise (λp q=>Ec p.1 q.1=true)->(Jn k v V).Pairwise λp q=>Ec p.1 q.1=true:=by
   intro V
   induction V with
   | nil=>intro _;simp[Jn]
   | cons q V l =>
    intro h;obtain⟨c,f⟩:=Sl.1 h;unfold Jn;split
    ·rename_i e
     exact Sl.2 ⟨λp a=>by have:=c p a;rw[e]at this;exact this,f⟩
    ·rename_i d
     split
     ·rename_i b
      refine Sl.2 ⟨λp a=>?_,h⟩;rcases Yp.1 a with rfl|a
      ·exact b
      ·exact iI _ _ _ b (c p a)
     ·rename_i b
      refine Sl.2 ⟨λp a=>?_,l f⟩;rcases xn a with rfl|a
      ·cases g:Ec q.1 k with
       | true=>rfl
       | false=>exact Yz (td q.1 k g (su b)) d
      ·exact c p a
  exact this V h.H3
 ·rcases xn a with rfl|a
  ·exact⟨i,j⟩
  ·exact h.each p a
theorem Nx(k:Lu)(h:G4 V):G4 (bY k V):=⟨h.H3.filter _,λp a=>h.each p (Iy.1 a).1⟩
theorem r6(k v:Lu):∀{V:List CN},V.Pairwise (λp q=>Ec p.1 q.1=true)->(Jn k v V).Perm ((k,v)::V.filter λp=>p.1 !=k)
 | [],_=>List.Perm.refl _
 | q::V,h=>by
  obtain⟨g,i⟩:=Sl.1 h;unfold Jn;split
  ·rename_i e
   rw[Jq,Y3 (su e)]
   have:V.filter (λp=>p.1 !=k)=V:=nA.2 λp f=>by
    have a:=g p f
    have:p.1≠k:=λb=>by rw[e,b,fj]at a;cases a
    simpa using this
   rw[this]
  ·rename_i d
   have j:(q::V).filter (λp=>p.1 !=k)=q::V.filter λp=>p.1 !=k:=by rw[Jq,Y9 (su d)]
   rw[j];split
   ·rename_i c
    have:V.filter (λp=>p.1 !=k)=V:=nA.2 λp f=>by
     have a:=iI _ _ _ c (g p f)
     have:p.1≠k:=λb=>by rw[b,fj]at a;cases a
     simpa using this
    rw[this]
   ·exact((r6 k v i).cons q).trans (List.Perm.swap _ _ _)
theorem Xqc{l:List CN}(n:l.Perm V)(m:V.Pairwise λp q=>Ec p.1 q.1=true)(o:l.Pairwise λp q=>Ec q.1 p.1=false):l=V:=by
 refine List.Perm.eq_of_pairwise (le:=λp q=>Ec q.1 p.1=false) (λa b g k c d=>?_) o (m.imp λh=>Xp1 h) n;have e:=td a.1 b.1 d c;have j:=n.mem_iff.1 g;have f:(V.map Prod.fst).Nodup:=yr.2 (m.imp λ{p q} i e=>by rw[e,fj]at i;cases i)
 have:∀(V:List CN),(V.map Prod.fst).Nodup->∀a∈V,∀b∈V,a.1=b.1->a=b:=by
  intro V
  induction V with
  | nil=>intro _ a g;simp at g
  | cons q V r =>
   intro f a g b k e;simp only[Yu,T6]at f
   rcases Yp.1 g with c|c<;>rcases Yp.1 k with d|d
   ·rw[c,d]
   ·exact Yz (by rw[<-c,e];exact gg d) f.1
   ·exact Yz (by rw[<-d,<-e];exact gg c) f.1
   ·exact r f.2 a c b d e
 exact this V f a j b k e
structure Ch where
 key:Lu
 val:Lu
 gone:Bool
abbrev DX(c:Ch):Lv:=[S c.key,S c.val,.bool c.gone]
def Zg(c:Ch):Bool:=decide (1<=c.key.length)&&decide (c.key.length<=64)&&decide (c.val.length<=300)&&(!c.gone||c.val==[])
def T1(c:Ch):Int:=if c.gone then 65535 else(c.val.length:Nat)
def BX(c:Ch):Lu:=C8 (c.key.length:Nat)::c.key++[C8 (T1 c/256),C8 (T1 c)]++c.val
def Ds:List Ch->List UInt8->List UInt8×Nat
 | [],a=>if 4000<a.length then([],2)else(a,0)
 | c::l,a=>if Zg c then Ds l (a++BX c)else([],1)
def Zt(V:List CN)(c:Ch):List CN:=if c.gone then bY c.key V else Jn c.key c.val V
def PF(V:List CN)(l:List Ch):List CN:=l.foldl Zt V
theorem Xvp(h:G4 V):∀{l:List Ch},(∀c∈l,Zg c=true)->G4 (PF V l):=by
 intro l
 induction l generalizing V with
 | nil=>intro _;exact h
 | cons c l d =>
  intro a;refine d ?_ (λc b=>a c (by simp[b]))
  have:=a c sz
  simp only[Zg,Y8,dq1]at this
  unfold Zt;split
  ·exact Nx _ h
  ·exact x1 ⟨this.1.1.1,this.1.1.2⟩ this.1.2 h
def Gw(V:List CN)(pre:Lu):List CN:=V.filter λp=>hasPrefix p.1 pre
def MV:List CN->List (List UInt8)->List (List UInt8)
 | [],a=>a
 | p::V,a =>
  let b:=BX ⟨p.1,p.2,false⟩
  if a≠[]/\(a.getLastD []).length+b.length<=4000 then MV V (a.dropLast++[a.getLastD []++b])else MV V (a++[b])
def PJ(V:List CN):List Lu:=MV (Gw V []) []
structure St where
 log:Lg
 AE:List CN
def Eh(s:St)(l:List Ch):Nat×St :=
 if(Ds l []).2≠0\/l=[]then((Ds l []).2,s)else
 let V:=PF s.AE l
 let a:=Gv s.log (Ds l []).1
 let r:=if a.1=5 then G5 a.2 (PJ V)else a
 if r.1=0 then(0,⟨r.2,V⟩)else(r.1,⟨r.2,s.AE⟩)
def Jd(s:St):Nat×St:=((G5 s.log (PJ s.AE)).1,⟨(G5 s.log (PJ s.AE)).2,s.AE⟩)
end Rq
namespace Go.Proofs.W9
open Gk Ul Pc Tk Tr Xm Rq
open Tryz
theorem Xzq(c:Ch)(b:c.key.length<=1000000)(d:c.val.length<=1000000)(N:La)(a:Aa B w I N):Ce B I N 270 [.agg (DX c).toArray] w (.bool (Zg c)):=by
 refine gH 14 ?_;intro b1 w a;refine gH 14 (gG 1 (⟨Yc Value.bool ?_,a.s⟩));unfold Zg;rw[show decide ((1:Int)<=(c.key.length:Nat))=decide (1<=c.key.length) from decide_eq_decide.2 om,show decide (((c.key.length:Nat):Int)<=64)=decide (c.key.length<=64) from decide_eq_decide.2 om,show decide (((c.val.length:Nat):Int)<=300)=decide (c.val.length<=300) from decide_eq_decide.2 om]
theorem xl(c:Ch)(A:c.key.length<=1000000)(C:c.val.length<=1000000)(N:La)(a:Aa B w I N):Cz 271 [.agg (DX c).toArray] w λv w'=>∃l,v=l/\Aa B w' I (An 5 1 l (BX c).length (Ao (BX c))::N):=by
 refine gH 6 ?_;intro b1 w a;refine .nil (.ck [1] (σ:=Unit) (λ_ _m=>(3,Ab (T1 c))::_m) (λ_ w=>Aa B w I (Ac b1 (DX c) 257::N)) ?_ ?_)
 ·refine gM 2 ?_ ?_<;>intro e r
  ·refine gG 1 ?_;refine⟨(),⟨by(try show _=_);unfold T1;rw[e];rfl,O,trivial⟩,a⟩
  refine gG 0 ?_;refine⟨(),⟨by(try show _=_);unfold T1;rw[e];rfl,O,trivial⟩,a⟩
 rintro _ w a;refine gH 3 (.val (.ET (.of O) B1 BP) O (gH 1 ?_));intro g w a;replace a:=a;replace a:=a.say (k:=0) (A':=Ac g (Ao [C8 (c.key.length:Nat)]) 5) O (λh t=>by rw[show[C8 (c.key.length:Nat)]=[((c.key.length:Nat):Int)].map C8 from O,YY];exact t);dsimp only[List.set]at a;replace a:=a.A2 (size:=1) (n:=1) (k:=0) O O de;dsimp only[List.set]at a;refine gH 2 (.Du a (.of O) (.of O) (k:=0) O BV A8 Xw O O O om O ?_);intro u w a;refine gG 1 (.dw (λw=>∃R,Aa B w I (Ac b1 (DX c) 257::R)) (λj=>!([].contains j)) ?_);replace a:=a.drew;generalize w.drew=w at a ⊢;have b:∃R,Aa B w I (Ac b1 (DX c) 257::R):=⟨_,(a.x [1])⟩
 refine .tp 0 O (λw=>(.mo O)) (.tp 1 O (λw=>(.mo O)) (.tp 2 O (λw=>(.shr (.of O) (.of O) de de)) (.tp 3 O (λw=>(.ET (.of O) B1 BP)) (.tp 4 O (λw=>(.mo O)) (.tp 5 O (λw=>(.ET (.of O) B1 BP)) ?_)))));refine .tp 8 O (λw=>(by first|exact .fo 1 O mT O O AQ O|exact .fi 1 O mT O O AQ O)) ?_;refine .tk 9 O b (λw ⟨R,a⟩=>(.lo O a (k:=0) O Bg O)) (.b1 6 O (.buildSlice (cs:=[_,_]) a (IC O (IC O TC)) BV DT MG O O O O ?_));intro m w a;refine .nil ?_;clear b;have b:∃R,Aa B w I (Ac b1 (DX c) 257::R):=⟨_,(a.x [2])⟩
 refine⟨λ_ _=>b,?_⟩;refine .b1 7 O ?_
 first|refine .append (bytes:=1) a (.of O) (.of O) (k:=0) O BV Xw O O O O O O O ⟨om,by unfold maxLen;omega⟩ O ?_|refine .append (bytes:=1) a (.of O) (.of O) (k:=1) O BV Xw O O O O O O O ⟨om,by unfold maxLen;omega⟩ O ?_
 intro y w a
 first|obtain⟨f,i,rfl,d,_⟩:=a.AG (k:=0) O|obtain⟨f,i,rfl,d,_⟩:=a.vS 1
 refine .nil ?_;clear b;have b:∃R,Aa B w I (Ac b1 (DX c) 257::R):=⟨_,(a.x [1])⟩
 refine⟨λ_ _=>b,?_⟩;refine .b1 10 O (.Du a (.of O) (.of O) (k:=0) O BV A8 Xw O O O om O ?_);intro z w a;try dsimp only[List.set]at a
 refine .nil ?_;clear b;have b:∃R,Aa B w I (Ac b1 (DX c) 257::R):=⟨_,(a.x [1])⟩
 refine⟨λ_ _=>b,?_⟩;refine .tp 11 O (λw=>(.ao O)) (.dn ?_);refine gG 0 ?_;have o:Ao (BX c)=Ao [C8 (c.key.length:Nat)]++Ao c.key++[Value.int IntKind.u8 (IntKind.u8.wrap (T1 c/2^Int.toNat 8)),Value.int IntKind.u8 (IntKind.u8.wrap (T1 c))]++Ao c.val:=by
  have q:[Value.int IntKind.u8 (IntKind.u8.wrap (T1 c/2^Int.toNat 8)),Value.int IntKind.u8 (IntKind.u8.wrap (T1 c))]=Ao ([T1 c/256,T1 c].map C8):=by rw[YY];first|done|rfl
  rw[q];show Ao _=_
  unfold BX Ao
  simp
 have p:(BX c).length=1+c.key.length+2+c.val.length:=by unfold BX;simp;omega
 rw[<-o,<-p]at a;exact⟨_,O,a.s⟩
theorem Np(c:Ch):(DX c).length=3:=rfl
theorem Xuz:∀(l:List Ch) (a:Lu),(Ds l a).2=0->(Ds l a).1.length<=4000
 | [],a,h=>by
  unfold Ds at h ⊢;split
  ·rename_i b;rw[Y9 b]at h;cases h
  ·rename_i b;exact Nat.le_of_not_lt b
 | c::l,a,h=>by
  unfold Ds at h ⊢;split
  ·rename_i b;rw[Y9 b]at h;exact Xuz l _ h
  ·rename_i b;rw[Y3 b]at h;cases h
theorem UY(l:List Ch)(a:Oa)(c0:Nat)(t:∀x∈l,x.key.length<=1000000/\x.val.length<=1000000)(H:l.length<=100000)(D:RS I a 3 l.length (X2 DX l))(N:La)(c:Aa B w I N):Cz 179 [.slice a l.length c0] w λv w'=>∃h,v=.tuple #[h,Ab ((Ds l []).2:Nat)]/\Aa B w' I (An 5 1 h ((Ds l []).1).length (Ao ((Ds l []).1))::N):=by
 refine gG 6 ?_;replace c:=c.Ai 5 1;have m:=c;clear c;refine .lk [7,8] (σ:=Nat×Lu×Va) (λ(i,b,h) _m=>(4,h)::(9,Ab (i:Nat))::_m) (λ(i,b,h) w=>i<=l.length/\Ds l []=Ds (l.drop i) b/\b.length<=i*400/\Aa B w I (An 5 1 h (b).length (Ao (b))::N)) (λ(i,b,h)=>l.length-i) (0,[],.slice none 0 0) ⟨Y4 _,O,Y4 _,m⟩ ?_;rintro⟨i,b,h⟩ w ⟨hi,d,J,c⟩;clear m;refine gN 1 ?_ ?_<;>intro u
 ·obtain⟨x,hx⟩:∃x,l[i]?=some x:=⟨_,Y2 om⟩
  have L:=t x (Y7 hx);have n:l.drop i=x::l.drop (i+1):=by rw[Ym (Y1.1 hx).1,(Y1.1 hx).2]
  obtain⟨p,q,K⟩:=R3 (l:=l) (cells:=DX) Np c D i x hx;subst q;refine gG 0 (.val (.ii O O om om Mw mS) O ?_);refine .val (.as (.IA (.of O) (by intro j v F;rw[Yd];exact K j v F) Ms mS O) O) O ?_;refine gH 3 ?_;intro P w c;refine gE 0 (Xzq x om om) ?_;intro w c;refine gM 1 ?_ ?_<;>intro f y
  ·refine gG 2 ?_;have e:Ds l []=([],1):=by rw[d,n,Ds];exact Y3 (by have C:=f;simpa using C)
   rw[e];exact⟨.slice none 0 0,O,c.s.Ai 5 1⟩
  refine gG 0 ?_;have o:Zg x=true:=su f
  have r:=o;simp only[Zg,Y8,dq1]at r
  have A:(BX x).length<=400:=by unfold BX;simp;omega
  refine gF 2 (xl x om om) ?_;rintro _ w ⟨S,rfl,c⟩;obtain⟨Q,R,rfl,E,_⟩:=c.vS 0;refine .D_ (bytes:=1) c (.of O) (.of O) (k:=2) (j:=0) O O BV Xw O O O O (HD _) ⟨om,by unfold maxLen;omega⟩ O ?_;intro M w c;dsimp only[List.set]at c;rw[<-Y0,<-show Ao (b++BX x)=Ao b++Ao (BX x) from Yn]at c;refine gG 3 (A_ (i+1,_,_) O ⟨om,?_,?_,(c.z [2] 1 2)⟩)
  ·(try dsimp only)
   rw[d,n,Ds,Y9 o]
  ·(try dsimp only)
   rw[Y0,F0];omega
 obtain⟨ka,T,rfl,G,_⟩:=c.vS 0;refine gN 3 ?_ ?_<;>intro g
 ·refine gG 2 ?_;have e:Ds l []=([],2):=by rw[d,Yb om,Ds];exact Y9 (oh g)
  rw[e];exact⟨.slice none 0 0,O,c.s.Ai 5 1⟩
 refine gG 3 ?_;have e:Ds l []=(b,0):=by rw[d,Yb om,Ds];exact Y3 (oh g)
 rw[e];exact⟨_,O,c⟩
theorem QU(V:List Pr)(y:Va)(A:G4 V)(l:List Ch)(a:Oa)(c0:Nat)(H:∀x∈l,Zg x=true)(T:l.length<=1000000)(R:RS I a 3 l.length (X2 DX l))(N:La)(b:Aa B w I (Cr y V::N)):Cz 180 [y,.slice a l.length c0] w λv w'=>∃s,v=.map (some s)/\Aa B w' I (Cr (.map (some s)) (PF V l)::Cr y V::N):=by
 refine gG 1 (.kQ b O ?_);intro s w b;refine gH 2 (.WM b (k:=1) O (.of O) IY O ?_);intro rg w b;have f:=((b.pick 1 O).pick 1 O);clear b;refine gG 0 (.lk [1,5,12] (σ:=List Pr×List Pr×Option Pr) (λ(V1,d,last) _m=>_m) (λ(V1,d,last) w=>G4 V1/\(V1++d).Perm V/\Aa B w I (Cr (.map (some s)) V1::YW y rg V d last::N)) (λ(V1,d,last)=>d.length) ([],V,none) ⟨G4.nil,List.Perm.refl _,f⟩ ?_);rintro⟨V1,d,last⟩ w ⟨c,g,b⟩;clear f;refine gG 0 (WL.A9 b (k:=1) O (.of O) O (λX=>?_) (λe r w m b=>?_))
 ·refine gG 1 (.Aw (rfl) (gG 3 ?_));subst X;rw[Yy]at g;have D:V1=V:=Xqc g A.H3 (c.H3.imp λh=>Xp1 h);rw[D]at b;replace b:=b.WV (k:=1) O;have f:=((b.pick 1 O).pick 1 O);clear b;refine .lk [5,21,22] (σ:=Nat×List Pr) (λ(i,V1) _m=>(23,Ab (i:Nat))::_m) (λ(i,V1) w=>i<=l.length/\G4 V1/\PF V l=PF V1 (l.drop i)/\Aa B w I (Cr (.map (some s)) V1::Cr y V::N)) (λ(i,V1)=>l.length-i) (0,V) ⟨Y4 _,A,O,f⟩ ?_;rintro⟨i,V1⟩ w ⟨hi,c,q,b⟩;clear f;refine gN 1 ?_ ?_<;>intro L
  ·refine gG 0 ?_;obtain⟨x,hx⟩:∃x,l[i]?=some x:=⟨_,Y2 om⟩
   have J:=H x (Y7 hx);have n:=J;simp only[Zg,Y8,dq1]at n
   have t:l.drop i=x::l.drop (i+1):=by rw[Ym (Y1.1 hx).1,(Y1.1 hx).2]
   obtain⟨p,E,W⟩:=R3 (l:=l) (cells:=DX) Np b R i x hx;subst E;refine gG 0 (.val (.ii O O om om Mw mS) O ?_);refine .val (.as (.IA (.of O) (by intro j v S;rw[Yd];exact W j v S) Ms mS O) O) O ?_;refine gG 4 ?_;intro Y w b;refine gM 0 ?_ ?_<;>intro o M
   ·refine gH 3 (.qx (V':=bY x.key V1) b (k:=1) O (.of O) (.of O) c.nodup (List.Perm.refl _) IY A8 ?_);intro w b;refine gG 2 (rd (i+1,bY x.key V1) ⟨om,Nx _ c,?_,(b.z [2,2] 2 1)⟩);rw[q,t];show PF (Zt V1 x) _=_
    unfold Zt;rw[Y9 (su o)]
   refine gH 5 (.gL (V':=Jn x.key x.val V1) b (k:=1) O (.of O) (.of O) (.of O) c.nodup (r6 _ _ c.H3) IY A8 ?_);intro w b;refine gG 2 (A_ (i+1,_) O ⟨om,x1 ⟨n.1.1.1,n.1.1.2⟩ n.1.2 c,?_,(b.z [2,2] 2 1)⟩);rw[q,t];show PF (Zt V1 x) _=_
   unfold Zt;rw[Y3 (nB o)]
  refine gG 2 ?_;rw[q,Yb om];exact⟨s,O,(b.x [1,1])⟩
 refine gG 1 (.Ct (rfl) (gG 0 (.val (.U4 b (k:=1) O (.of O)) O (gG 4 ?_))));have F:e.1 ∉ V1.map Prod.fst:=by
  intro U;have P:=((g.trans (List.Perm.refl V)).map Prod.fst).nodup_iff.2 A.nodup;rw[Yn,yq]at P;exact P.2.2 _ U _ ((m.map Prod.fst).mem_iff.2 sz) O
 have G:e∈V:=g.mem_iff.1 (aU _ (m.mem_iff.2 sz));have u:=A.each e G;have C:G4 (Jn e.1 e.2 V1):=x1 u.1 u.2 c;refine gH 3 (.gL (V':=Jn e.1 e.2 V1) b (k:=0) O (.of O) (.of O) (.of O) c.nodup (r6 _ _ c.H3) IY A8 ?_);intro w b;refine gG 0 ?_;refine A_ (_,_,_) O ⟨C,?_,((b.pick 1 O).pick 1 O)⟩ (by have Q:=m.length_eq;(try dsimp only);simp only[Y5]at Q;omega);have K:=r6 e.1 e.2 c.H3;rw[vM F]at K;exact(K.append_right r).trans ((pK.symm.trans (m.symm.append_left V1)).trans g)
section
open Go.Shelf Go.RowKit Go.Lib Go.Sort
theorem q9q{B : Func}(h : (((P.funcs[f]?).map Func.name).getD default == "runtime.NumGoroutine") = false := by kernel_rfl)(k : P.funcs[f]? = some { B with name := ((P.funcs[f]?).map Func.name).getD default } := by kernel_rfl): Bears P f B := ⟨_, h, k⟩
abbrev RF:Ren:=⟨λ|6=>291|15=>267|14=>389|28=>361|29=>362|20=>442|21=>443|22=>444|23=>445|24=>446|25=>447|26=>448|27=>449|46=>473|47=>424|48=>425|49=>474|50=>475|57=>486|n=>n,λ|22=>49|24=>124|25=>400|39=>291|53=>450|55=>73|46=>444|45=>443|50=>230|66=>491|70=>478|76=>531|77=>532|n=>n,λ|n=>n⟩
theorem JT:SlLaysF0.n6 prog RF:=by constructor<;>first|kernel_rfl|(intro w;kernel_rfl)|exact q9q
theorem Xzb(x y:Pr)(W:Wo):Calls prog 292 #[.agg #[S x.1,S x.2],.agg #[S y.1,S y.2]] W λe w'=>e=.returned (.int .i64 (UH x y))/\∃q qL,w'=grow (W.drewN q) qL:=by
 have a:=λb=>strings_Compare ⟨x.1.toArray⟩ ⟨y.1.toArray⟩ b
 change ∀b,Calls prog 172 _ _ _ at a;have c:compareBytes (⟨x.1.toArray⟩:ByteArray).data.toList (⟨y.1.toArray⟩:ByteArray).data.toList=UH x y:=rfl;rw[c]at a;generalize UH x y=r at a ⊢
 go_enter func292,ntmps292
 go_wp2_with (go_at_call 172;refine(a _).mono ?_;rintro e w' ⟨rfl,rfl⟩)
 go_ret
 exact⟨O,0,_,by rw[alloc_eq_grow,alloc_eq_grow,grow_grow];rfl⟩
theorem RE(l:List Pr)(J:Va)(k:Nat)(N:La)(z:Aa B w I N)(A:N[k]?=some (An 124 2 J l.length (X2 X5 l)))(Z:l.length<=1000000):Cz 291 [J,.func (.func 292) #[] #[]] w λv w'=>v=.tuple #[]/\∃D,D.Perm l/\D.Pairwise (λp q=>Ec q.1 p.1=false)/\Aa B w' I (N.set k (An 124 2 J D.length (X2 X5 D))):=by
 obtain⟨a,c,rfl,Y,_⟩:=z.AG A;cases a with
 | none =>
  have P:l=[]:=z.CM A λ_ ⟨_,T⟩=>by
   rcases T with⟨_,h,_⟩|⟨b,cap,r,C,_⟩
   ·exact Yi h
   ·cases C
  subst P;refine(AnyF.slices_SortFunc_none JT none c (.func (.func 292) #[] #[]) w).mono ?_;rintro e w' ⟨rfl,rfl⟩;have K:N.set k (An 124 2 (.slice none 0 c) 0 (X2 X5 []))=N:=by
   have:=(Y1.1 A).2
   exact(Yc (N.set k) this.symm).trans (jz _)
  exact⟨_,O,O,[],List.Perm.refl _,List.Pairwise.nil,by show Aa B w' I (N.set k (An 124 2 (.slice none 0 c) 0 (X2 X5 [])));rw[K];exact z⟩
 | some a =>
  obtain⟨g,rfl,S,R,n⟩:=Aa.XD (Aq:=X5) (λ_=>rfl) de z O A;have M:∀args w,(callFunc 292 args).run prog w=.ok (.enter 292 args) w:=enters_of func292 kr O;have s:=AnyQ.slices_SortFunc JT 2 Zk Ij X5 (λ_=>rfl) (λx v C=>by simp[X5]at C;rcases C with rfl|rfl<;>rfl) UH Adk 292 #[] g 0 c l.toArray w M (λ_ _ _ _ x y=>Xzb x y _) R S (by simp;omega);refine s.mono ?_;rintro e w' ⟨rfl,d,m,X,⟨G,V,H⟩,W,rfl⟩;have f:d.size=l.length:=su G
  have o:d.toList.Perm l:=by
   have Q:List.take l.length d.toList=d.toList:=Yo (by rw[Sj,f];exact Ya _);rw[<-Q];simpa using H
  refine⟨_,O,O,d.toList,o,tY.2 λi j hi U F=>?_,?_⟩
  ·have E:i<d.size:=su hi
   have t:j<d.size:=su U
   have u:=W i j (Y4 _) F (by show j<l.length;rw[<-f];exact t);rw[getElem!_pos d j t,getElem!_pos d i E]at u;exact u
  ·have u:=n m d X f;have L:d.toList.length=l.length:=by rw[Sj,f]
   rw[L];exact u
end
theorem Xzc{V W:List Pr}(h:V.Perm W)(p:Lu):(Gw V p).Perm (Gw W p):=h.filter _
theorem Xit(l:List Pr)(x:Pr)(p:Lu):Gw (l++[x]) p=Gw l p++(if Go.Lib.hasPrefix x.1 p then[x]else[]):=by
 unfold Gw;rw[T5];congr 1;rw[Jq];rfl
theorem Xis(V:List Pr)(m:Va)(u:G4 V)(F:V.length<=1000000)(p:Lu)(H:p.length<=1000)(N:La)(a:Aa B w I (Cr m V::N)):Cz 192 [m,S p] w λv w'=>∃g,v=g/\Aa B w' I (An 124 2 g (Gw V p).length (X2 X5 (Gw V p))::Cr m V::N):=by
 refine gH 3 (.WM a (k:=0) O (.of O) IY O ?_);intro rg w a;have i:=(a).Ai 124 2;clear a;refine gG 0 (.lk [1,9] (σ:=List Pr×List Pr×Option Pr×Va) (λ(done,b,last,g) _m=>(5,g)::_m) (λ(done,b,last,g) w=>(done++b).Perm V/\Aa B w I (An 124 2 g (Gw done p).length (X2 X5 (Gw done p))::YW m rg V b last::N)) (λ(done,b,last,g)=>b.length) ([],V,none,.slice none 0 0) ⟨List.Perm.refl _,i⟩ ?_);rintro⟨done,b,last,g⟩ w ⟨c,a⟩;clear i;refine gG 0 (WL.A9 a (k:=1) O (.of O) O (λJ=>?_) (λd f w e a=>?_))
 ·refine gG 1 (.Aw (rfl) (gG 0 ?_));subst J;rw[Yy]at c;replace a:=a.WV (k:=1) O;have j:(Gw done p).length<=1000000:=by
   have E:(Gw done p).length<=done.length:=EP ..;have t:=c.length_eq;omega
  refine gC 1 (RE _ g 0 _ a O j) ?_;rintro _ w ⟨rfl,K,o,r,a⟩;try dsimp only[List.set]at a
  refine gG 2 ?_;have D:K=Gw V p:=Xqc (o.trans (Xzc c p)) (u.H3.filter _) r;rw[D]at a;exact⟨g,O,a.s⟩
 try dsimp only[List.set]at a
 refine gG 1 (.Ct (rfl) (gG 0 (.val (.U4 a (k:=1) O (.of O)) O (gG 4 ?_))));have q:d∈V:=c.mem_iff.1 (aU _ (e.mem_iff.2 sz));have G:=u.each d q;have j:(Gw done p).length<=1000000:=by
  have E:(Gw done p).length<=done.length:=EP ..;have t:=c.length_eq;rw[Y0]at t;omega
 refine gE 2 (wX _ p om H) ?_;intro w a;refine gM 0 ?_ ?_<;>intro h y
 ·refine gG 7 ?_;intro A z C l w a;refine A_ (done++[d],f,some d,_) O ⟨?_,?_⟩ (by have n:=e.length_eq;(try dsimp only);simp only[Y5]at n;omega)
  ·(try dsimp only)
   rw[Yg];exact((e.symm.append_left done)).trans c
  ·(try dsimp only)
   rw[Xit];rw[Y9 h];rw[KP,Y0];exact(a.x [1,1])
 refine gG 0 ?_;refine A_ (done++[d],f,some d,_) O ⟨?_,?_⟩ (by have n:=e.length_eq;(try dsimp only);simp only[Y5]at n;omega)
 ·(try dsimp only)
  rw[Yg];exact((e.symm.append_left done)).trans c
 ·(try dsimp only)
  rw[Xit];rw[Y3 (nB h),Yy]
  skip
  exact(a.x [1,1])
theorem LV(p:Pr)(V:List Pr):MV (p::V) []=MV V ([]++[BX ⟨p.1,p.2,false⟩]):=by
 rw[MV];exact Y3 sz
theorem RC{p:Pr}{V:List Pr}{dn:List Lu}{la:Lu}(h:la.length+(BX ⟨p.1,p.2,false⟩).length<=4000):MV (p::V) (dn++[la])=MV V (dn++[la++BX ⟨p.1,p.2,false⟩]):=by
 rw[MV];have a:(dn++[la]).getLastD []=la:=by simp
 have b:(dn++[la]).dropLast=dn:=by simp
 rw[a,b];exact Y9 ⟨by simp,h⟩
theorem XC{p:Pr}{V:List Pr}{dn:List Lu}{la:Lu}(h:¬ la.length+(BX ⟨p.1,p.2,false⟩).length<=4000):MV (p::V) (dn++[la])=MV V ((dn++[la])++[BX ⟨p.1,p.2,false⟩]):=by
 rw[MV];have a:(dn++[la]).getLastD []=la:=by simp
 rw[a];exact Y3 λb=>h b.2
def PK(i:Nat)(dn:List Lu)(a:Lu):List Lu:=if i=0 then[]else dn++[a]
def fy(i:Nat)(cs:Lv)(a:Va):Lv:=if i=0 then[]else cs++[a]
theorem Xq9(V:List Pr)(mv:Va)(hV:G4 V)(ay:V.length<=1000000)(N:La)(b:Aa B w I (Cr mv V::N)):Cz 183 [mv] w λv w'=>∃J a c cs,v=.slice a (PJ V).length c/\Le I J/\(PJ V).length<=V.length/\(∀x∈PJ V,x.length<=4000)/\Gn J (PJ V) cs/\RS J a 1 (PJ V).length cs/\Aa B w' J (Cr mv V::N):=by
 refine gF 3 (Xis V mv hV ay [] (Y4 _)) ?_;rintro _ w ⟨pv,rfl,b⟩;obtain⟨pa,pc,rfl,a3,_⟩:=b.vS 0;have aw:=b.fV 0;clear b;obtain⟨J0,ab,W,b⟩:=aw;generalize hQ:Gw V []=Q at a3 W ⊢;have a6:PJ V=MV Q []:=by rw[<-hQ];rfl
 have ae:=(b.Ai 5 1).Ai 46 1;clear b;refine gG 2 (.lk [9,10] (σ:=Nat×List Lu×Lv×Lu×Va×Va×Im) (λ(i,dn,cs,la,G,kv,J) _m=>(3,kv)::(11,Ab (i:Nat))::_m) (λ(i,dn,cs,la,G,kv,J) w=>i<=Q.length/\PJ V=MV (Q.drop i) (PK i dn la)/\(i=0->dn=[]/\cs=[])/\dn.length<=i-1/\(∀x∈dn,x.length<=4000)/\la.length<=4000/\Gn J dn cs/\Le J0 J/\Aa B w J (An 46 1 kv (PK i dn la).length (fy i cs G)::An 5 1 G (la).length (Ao (la))::Cr mv V::N)) (λ(i,dn,cs,la,G,kv,J)=>Q.length-i) (0,[],[],[],.slice none 0 0,.slice none 0 0,J0) ⟨Y4 _,a6,λ_=>⟨O,O⟩,Y4 _,λx hx=>by simp at hx,Y4 _,⟨O,λi x h=>by simp at h⟩,Le.refl _,ae⟩ ?_);rintro⟨i,dn,cs,la,G,kv,J⟩ w ⟨hi,M,hz,bi,Y,ah,C,S,b⟩;clear ae;have av:Q.length<=1000000:=by have:Q.length<=V.length:=by { rw[<-hQ];exact EP .. };omega
 refine gN 1 ?_ ?_<;>intro bb
 ·refine .skip (.seq (.block (.seq ?_)));rcases Ix i with H|H
  ·obtain⟨rfl,rfl⟩:=hz H;have m:PK i [] la=[]:=Y9 H;have u:fy i [] G=[]:=Y9 H;rw[m,u,Yh]at b;obtain⟨ka,kc,rfl,ag,_⟩:=b.vS 0;obtain⟨pr,o⟩:∃pr,Q[i]?=some pr:=⟨_,Y2 om⟩
   have F:pr∈V:=by have h:=Y7 o;rw[<-hQ]at h;exact(Iy.1 h).1
   have az:=hV.each pr F;have aj:(BX ⟨pr.1,pr.2,false⟩).length<=400:=by unfold BX;simp;omega
   have L:Q.drop i=pr::Q.drop (i+1):=by rw[Ym (Y1.1 o).1,(Y1.1 o).2]
   obtain⟨p,X,hp⟩:=R3 (l:=Q) (cells:=X5) (s:=2) (λ_=>rfl) b (W.mono S) i pr o;subst X;refine gG 0 (.val (.ii O O om om Iq Ij) O ?_);refine .val (.as (.IA (vs:=X5 pr) (.of O) (by intro j v hj;rw[Yd];exact hp j v hj) Zk Ij O) O) O ?_;refine gH 7 ?_;intro b5 w b;refine gF 0 (xl ⟨pr.1,pr.2,false⟩ od od) ?_;rintro _ w ⟨fv,rfl,b⟩;obtain⟨P,R,rfl,a0,_⟩:=b.vS 0;refine gH 10 (.Aj (v:=ptr 0 0) O O (λr=>Yz r de) O (.Aj (v:=.slice none 0 0) O O (λr=>Yz r de) O ?_));refine gG 6 (.Aw (rfl) (gG 7 ?_));intro ar aq au K w b;refine A_ (i+1,[],[],BX ⟨pr.1,pr.2,false⟩,.slice P (BX ⟨pr.1,pr.2,false⟩).length R,_,J) O ⟨om,?_,λh=>Yz h om,by simp,λx hx=>by simp at hx,om,⟨O,λi x h=>by simp at h⟩,S,?_⟩
   ·(try dsimp only)
    rw[M,L,m,show PK (i+1) [] (BX ⟨pr.1,pr.2,false⟩)=[]++[BX ⟨pr.1,pr.2,false⟩] from Y3 om];exact LV pr _
   ·(try dsimp only)
    rw[show PK (i+1) [] (BX ⟨pr.1,pr.2,false⟩)=[]++[BX ⟨pr.1,pr.2,false⟩] from Y3 om,show fy (i+1) [] (Value.slice P (BX ⟨pr.1,pr.2,false⟩).length R)=[]++[Value.slice P (BX ⟨pr.1,pr.2,false⟩).length R] from Y3 om];exact(b.z [4,1,3] 3 2)
  have m:PK i dn la=dn++[la]:=Y3 om;have u:fy i cs G=cs++[G]:=Y3 om;rw[m,u,Y0,aT]at b;obtain⟨d,f,rfl,D,_⟩:=b.vS 1;obtain⟨ob,oc,Ht,rfl,ai,ak,bd,A,b⟩:=b.AF (k:=0) O sz;obtain⟨pr,o⟩:∃pr,Q[i]?=some pr:=⟨_,Y2 om⟩
  have F:pr∈V:=by have h:=Y7 o;rw[<-hQ]at h;exact(Iy.1 h).1
  have az:=hV.each pr F;have aj:(BX ⟨pr.1,pr.2,false⟩).length<=400:=by unfold BX;simp;omega
  have L:Q.drop i=pr::Q.drop (i+1):=by rw[Ym (Y1.1 o).1,(Y1.1 o).2]
  obtain⟨p,X,hp⟩:=R3 (l:=Q) (cells:=X5) (s:=2) (λ_=>rfl) b (W.mono S) i pr o;subst X;refine gG 0 (.val (.ii O O om om Iq Ij) O ?_);refine .val (.as (.IA (vs:=X5 pr) (.of O) (by intro j v hj;rw[Yd];exact hp j v hj) Zk Ij O) O) O ?_;refine gH 7 ?_;intro b5 w b;refine gF 0 (xl ⟨pr.1,pr.2,false⟩ od od) ?_;rintro _ w ⟨fv,rfl,b⟩;obtain⟨P,R,rfl,a0,_⟩:=b.vS 0;refine gH 10 (.Aj O O (λr=>.indexAddr (.gd r O) (.gd r O) om om IZ Gz) O ?_);refine .Aj (v:=.slice d la.length f) O O (λr=>(.ld (.gd r O) b (k:=2) O E1 (by have e:∀q,q=cs.length->(cs++[Value.slice d la.length f]++Ht)[q]?=some (Value.slice d la.length f):=by { intro q hq;subst hq;simp };exact e _ (by rw[C.1];omega)))) O ?_;refine gN 6 ?_ ?_<;>intro bc
  ·refine gH 6 (.val (.io O O om om IZ Gz) O ?_);refine .val (.ld (v:=.slice d la.length f) (.of O) b (k:=2) O E1 (by have e:∀q,q=cs.length->(cs++[Value.slice d la.length f]++Ht)[q]?=some (Value.slice d la.length f):=by { intro q hq;subst hq;simp };exact e _ (by rw[C.1];omega))) O ?_;refine gH 1 (.D_ (size:=1) (bytes:=1) b (.of O) (.of O) (k:=3) (j:=0) O O BV Xw O O O O (HD _) ⟨om,by unfold maxLen;omega⟩ O ?_);intro a9 w b;dsimp only[List.set]at b;obtain⟨Z,nc,rfl,bj,_⟩:=b.AG (k:=3) (v:=a9) O;refine .val (.io O O om om IZ Gz) O (.s1 b (k:=2) O O O O Gz (by simp only[Y0,Y5,Yh,C.1];omega) ?_);intro w b;dsimp only[List.set]at b;have a5:∀q,q=cs.length->(cs++[Value.slice d la.length f]++Ht).set q (.slice Z (la.length+(BX ⟨pr.1,pr.2,false⟩).length) nc)=(cs++[.slice Z (la.length+(BX ⟨pr.1,pr.2,false⟩).length) nc])++Ht:=by
    intro q hq;subst hq;simp
   rw[a5 _ (by rw[C.1];omega)]at b;refine gG 2 ?_;replace b:=(((((b.pick 4 O).pick 4 O).pick 4 O).drop (k:=3) O).drop (k:=3) O)
   replace b:=b.AR (k:=0) (g:=ob) (cap:=oc) (rest:=Ht) (xs:=cs++[.slice Z (la.length+(BX ⟨pr.1,pr.2,false⟩).length) nc]) (n:=dn.length+1) (E:=46) (size:=1) O (su ai) ak (by rw[Y0,C.1];simp) (by rw[Y0,C.1];rw[Y0,C.1]at A;simpa using A);refine rd (i+1,dn,cs,la++BX ⟨pr.1,pr.2,false⟩,.slice Z (la++BX ⟨pr.1,pr.2,false⟩).length nc,.slice (some ⟨ob,0,none⟩) (dn.length+1) oc,J) ⟨om,?_,λh=>Yz h om,om,Y,by rw[Y0];omega,C,S,?_⟩
   ·(try dsimp only)
    rw[M,L,show PK (i+1) dn (la++BX ⟨pr.1,pr.2,false⟩)=dn++[la++BX ⟨pr.1,pr.2,false⟩] from Y3 om,m];exact RC om
   ·(try dsimp only)
    rw[show PK (i+1) dn (la++BX ⟨pr.1,pr.2,false⟩)=dn++[la++BX ⟨pr.1,pr.2,false⟩] from Y3 om,show fy (i+1) cs (Value.slice Z (la++BX ⟨pr.1,pr.2,false⟩).length nc)=cs++[Value.slice Z (la++BX ⟨pr.1,pr.2,false⟩).length nc] from Y3 om,Y0,Y0,show Ao (la++BX ⟨pr.1,pr.2,false⟩)=Ao la++Ao (BX ⟨pr.1,pr.2,false⟩) from Yn];exact b
  replace b:=(b.pick 2 O)
  replace b:=b.AR (k:=0) (g:=ob) (cap:=oc) (rest:=Ht) (xs:=cs++[.slice d la.length f]) (n:=dn.length+1) (E:=46) (size:=1) O (su ai) ak (by rw[Y0,C.1];simp) (by rw[Y0,C.1];rw[Y0,C.1]at A;simpa using A);try dsimp only[List.set]at b
  refine gG 7 ?_;intro ar aq au K w b;replace b:=(((((b.pick 4 O).pick 4 O).pick 3 O).pick 3 O).drop (k:=4) O)
  obtain⟨J2,t,U,b⟩:=b.fV 2;try dsimp only[List.eraseIdx]at b
  refine A_ (i+1,dn++[la],cs++[.slice d la.length f],BX ⟨pr.1,pr.2,false⟩,.slice P (BX ⟨pr.1,pr.2,false⟩).length R,_,J2) O ⟨om,?_,λh=>Yz h om,by rw[Y0];simp only[Y5,Yh];omega,λx hx=>?_,om,(C.mono t).app D U,S.trans t,?_⟩
  ·(try dsimp only)
   rw[M,L,show PK (i+1) (dn++[la]) (BX ⟨pr.1,pr.2,false⟩)=(dn++[la])++[BX ⟨pr.1,pr.2,false⟩] from Y3 om,m];exact XC om
  ·rcases Ys.1 hx with hx|hx
   ·exact Y x hx
   ·simp at hx;subst hx;exact ah
  ·(try dsimp only)
   rw[show PK (i+1) (dn++[la]) (BX ⟨pr.1,pr.2,false⟩)=(dn++[la])++[BX ⟨pr.1,pr.2,false⟩] from Y3 om,show fy (i+1) (cs++[Value.slice d la.length f]) (Value.slice P (BX ⟨pr.1,pr.2,false⟩).length R)=(cs++[Value.slice d la.length f])++[Value.slice P (BX ⟨pr.1,pr.2,false⟩).length R] from Y3 om,Y0,Y0];exact b
 refine gH 2 (.nil (.ret ?_));refine λ_ a4=>GD a4 O ?_
 have af:PJ V=PK i dn la:=by rw[M,Yb om];rfl
 have av:Q.length<=V.length:=by rw[<-hQ];exact EP ..
 rw[af];rcases Ix i with H|H
 ·obtain⟨rfl,rfl⟩:=hz H;have m:PK i [] la=[]:=Y9 H;have u:fy i [] G=[]:=Y9 H;rw[m,u,Yh]at b;rw[m];obtain⟨ka,kc,rfl,ag,_⟩:=b.vS 0;obtain⟨J2,t,T,b⟩:=b.fV 0;try dsimp only[List.eraseIdx]at b
  exact⟨_,O,J2,ka,kc,[],O,ab.trans (S.trans t),Y4 _,λx hx=>by simp at hx,⟨O,λi x h=>by simp at h⟩,T,b.y 0 1⟩
 have m:PK i dn la=dn++[la]:=Y3 om;have u:fy i cs G=cs++[G]:=Y3 om;rw[m,u]at b;rw[m];obtain⟨d,f,rfl,D,_⟩:=b.vS 1;obtain⟨ka,kc,rfl,ag,_⟩:=b.vS 0;obtain⟨J2,t,U,b⟩:=b.fV 1;try dsimp only[List.eraseIdx]at b
 obtain⟨J3,ac,T,b⟩:=b.fV 0;try dsimp only[List.eraseIdx]at b
 refine⟨_,O,J3,ka,kc,cs++[.slice d la.length f],O,ab.trans (S.trans (t.trans ac)),by rw[Y0,aT];omega,λx hx=>?_,((C.mono t).app D U).mono ac,T,b⟩;rcases Ys.1 hx with hx|hx
 ·exact Y x hx
 ·simp at hx;subst hx;exact ah
structure HB(s:St):Prop where
 log:E0 s.log
 AE:G4 s.AE
theorem vK:∀(l:List Ch) (a:Lu),(Ds l a).2=0->∀c∈l,Zg c=true
 | [],_,_,c,h=>by simp at h
 | x::l,a,h,c,b=>by
  rw[Ds]at h;split at h
  ·rename_i hx
   rcases Yp.1 b with rfl|b
   ·exact hx
   ·exact vK l _ h c b
  ·cases h
theorem Xwi(k v:Lu):∀V:List Pr,(Jn k v V).length<=V.length+1
 | []=>by simp[Jn]
 | p::V=>by
  unfold Jn;split
  ·simp
  ·split
   ·simp
   ·have:=Xwi k v V;simp only[Y5];omega
theorem wG(l:List Ch):∀V:List Pr,(PF V l).length<=V.length+l.length:=by
 induction l with
 | nil=>intro V;exact Ya _
 | cons c l a =>
  intro V;have b:=a (Zt V c);have d:(Zt V c).length<=V.length+1:=by
   unfold Zt;split
   ·exact Nat.le_succ_of_le (EP ..)
   ·exact Xwi _ _ _
  show(PF (Zt V c) l).length<=_
  rw[Y5];omega
def Kl(s:St)(l:List Ch):Nat×Lg:=if(Gv s.log (Ds l []).1).1=5 then G5 (Gv s.log (Ds l []).1).2 (PJ (PF s.AE l))else Gv s.log (Ds l []).1
theorem Nr{s:St}(h:E0 s.log)(l:List Ch):E0 (Kl s l).2:=by
 unfold Kl;split
 ·exact Xgd (vG h _) _
 ·exact vG h _
theorem rM{s:St}{l:List Ch}(h:¬ ((Ds l []).2≠0\/l=[])):Eh s l=if(Kl s l).1=0 then(0,⟨(Kl s l).2,PF s.AE l⟩)else((Kl s l).1,⟨(Kl s l).2,s.AE⟩):=by
 unfold Eh Kl;rw[Y3 h]
theorem Xy8{s:St}(h:HB s)(l:List Ch):HB (Eh s l).2/\(Eh s l).2.AE.length<=s.AE.length+l.length:=by
 by_cases a:(Ds l []).2≠0\/l=[]
 ·have:Eh s l=((Ds l []).2,s):=by unfold Eh;exact Y9 a
  rw[this];exact⟨h,K7 _ _⟩
 ·rw[rM a];have b:=vK l [] om;split
  ·exact⟨⟨Nr h.log l,Xvp h.AE b⟩,wG _ _⟩
  ·exact⟨⟨Nr h.log l,h.AE⟩,K7 _ _⟩
theorem Xry{s:St}(h:HB s):HB (Jd s).2:=⟨Xgd h.log _,h.AE⟩
theorem VB(s:St)(e lg db kb:Nat)(a us sv pl:Va)(p:Lu)(h:p.length<=1000)(g:G4 s.AE)(b:s.AE.length<=1000000)(N:La)(f:Aa B w I (Ac e [ptr lg 0,a] 273::Ac lg [ptr db 0,Ab (s.log).gen,Ab (s.log).AL,Ab (s.log).used,us] 370::BI db kb sv pl (s.log).d (Cr a (s.AE)::N))):Cz 110 [ptr e 0,S p] w λv w'=>∃c,v=c/\Aa B w' I (An 124 2 c (Gw s.AE p).length (X2 X5 (Gw s.AE p))::Ac e [ptr lg 0,a] 273::Ac lg [ptr db 0,Ab (s.log).gen,Ab (s.log).AL,Ab (s.log).used,us] 370::BI db kb sv pl (s.log).d (Cr a (s.AE)::N)):=by
 refine gF 6 (Xis _ a g b p h) ?_;rintro _ w ⟨c,rfl,f⟩;exact gG 1 ⟨_,O,f.s⟩
theorem Xrx(s:St)(L lg db kb:Nat)(u us sv pl:Va)(l:List Ch)(a:Oa)(c0:Nat)(W:∀x∈l,x.key.length<=1000000/\x.val.length<=1000000)(U:l.length<=100000)(hV:A4 I)(C:RS I a 3 l.length (X2 DX l))(K:HB s)(aj:s.AE.length<=900000)(hP:Az I pl s.log.d.AH)(hU:Bi I us s.log.data)(N:La)(b:Aa B w I (Ac L [ptr lg 0,u] 273::Ac lg [ptr db 0,Ab (s.log).gen,Ab (s.log).AL,Ab (s.log).used,us] 370::BI db kb sv pl (s.log).d (Cr u (s.AE)::N))):Cz 106 [ptr L 0,.slice a l.length c0] w λv w'=>∃J H n p j,v=Ab ((Eh s l).1:Nat)/\Le I J/\Az J j (Eh s l).2.log.d.AH/\Bi J n (Eh s l).2.log.data/\Aa B w' J (Ac L [ptr lg 0,H] 273::Ac lg [ptr db 0,Ab ((Eh s l).2.log).gen,Ab ((Eh s l).2.log).AL,Ab ((Eh s l).2.log).used,n] 370::BI db kb p j ((Eh s l).2.log).d (Cr H ((Eh s l).2.AE)::N)):=by
 refine gF 2 (UY l a c0 W U C) ?_;rintro _ w ⟨bv,rfl,b⟩;obtain⟨ba,bc,rfl,al,_⟩:=b.vS 0;refine gN 12 ?_ ?_<;>intro q
 ·refine gG 2 ?_;have e:Eh s l=((Ds l []).2,s):=by
   unfold Eh;refine Y9 ?_;have y:=q;rcases y with h|h
   ·exact .inl om
   ·exact .inr (Yi om)
  rw[e];exact⟨I,u,us,sv,pl,O,Le.refl _,hP,hU,b.s⟩
 have F:¬ ((Ds l []).2≠0\/l=[]):=by
  have y:=q;rintro(h|h)
  ·omega
  ·subst h;simp at y
 have am:=Xuz l [] om;have G:=vK l [] om;have T:=Xvp K.AE G;have an:=wG l s.AE;refine gF 5 (QU _ u K.AE l a c0 G om C) ?_;rintro _ w ⟨mb,rfl,b⟩;refine gH 1 (.nil (.ck [0,7] (σ:=Im×Va×Va×Va) (λ(J,m,f,g) _m=>(6,Ab ((Kl s l).1:Nat))::_m) (λ(J,m,f,g) w=>Le I J/\Az J f (Kl s l).2.d.AH/\Bi J g (Kl s l).2.data/\Aa B w J (Ac L [ptr lg 0,u] 273::Ac lg [ptr db 0,Ab ((Kl s l).2).gen,Ab ((Kl s l).2).AL,Ab ((Kl s l).2).used,g] 370::BI db kb m f ((Kl s l).2).d (Cr u (s.AE)::Cr (.map (some mb)) (PF s.AE l)::N))) ?_ ?_))
 ·refine gH 5 ?_;obtain⟨J1,c,Q,b⟩:=b.fV 2;try dsimp only[List.eraseIdx]at b
  refine gF 0 (Xsm _ lg db kb us sv pl _ ba bc om (hV.mono c) Q K.log (hP.mono c) (hU.mono c)) ?_;rintro _ w ⟨J2,p,j,n,rfl,t,z,D,b⟩;refine gN 3 ?_ ?_<;>intro r
  ·refine gD [6] [] [0,1,2,3,4,5,6,7] ?_;intro w b;refine gF 5 (Xq9 _ (.map (some mb)) T om) ?_;rintro _ w ⟨J3,xa,xc,xs,rfl,o,ao,V,hX,R,b⟩;refine gF 0 (Xd2 _ lg db kb n p j _ xs xa xc (λx hx=>by have:=V x hx;omega) om ((hV.mono (c.trans t)).mono o) hX R (vG K.log _) (z.mono o) (D.mono o)) ?_;rintro _ w ⟨J4,Y,X,Z,rfl,M,P,S,b⟩;refine gG 1 ?_;have e:Kl s l=G5 (Gv s.log (Ds l []).1).2 (PJ (PF s.AE l)):=Y9 (oh r);rw[e];exact cd ⟨J4,Y,X,Z⟩ ⟨c.trans (t.trans (o.trans M)),P,S,(b.x [4,5,5,5,5,5,6])⟩
  refine gG 0 ?_;have e:Kl s l=Gv s.log (Ds l []).1:=Y3 (oh r);rw[e];exact cd ⟨J2,p,j,n⟩ ⟨c.trans t,z,D,(b.x [4,5,5,5,5,5,6])⟩
 rintro⟨J,m,f,g⟩ w ⟨hJ,A,E,b⟩;refine gN 2 ?_ ?_<;>intro i
 ·refine gG 7 ?_;intro w b;rw[rM F,Y9 (oh i)];exact⟨J,_,g,m,f,by have y:=i;rw[y];rfl,hJ,A,E,(((((((b.pick 6 O).pick 5 O).pick 5 O).pick 5 O).pick 5 O).pick 5 O).drop (k:=6) O)⟩
 refine gG 2 ?_;rw[rM F,Y3 (oh i)];exact⟨J,u,g,m,f,O,hJ,A,E,b.s⟩
theorem Xns(s:St)(n lg db kb:Nat)(c us sv pl:Va)(z:A4 I)(r:HB s)(A:s.AE.length<=900000)(u:Az I pl s.log.d.AH)(y:Bi I us s.log.data)(N:La)(g:Aa B w I (Ac n [ptr lg 0,c] 273::Ac lg [ptr db 0,Ab (s.log).gen,Ab (s.log).AL,Ab (s.log).used,us] 370::BI db kb sv pl (s.log).d (Cr c (s.AE)::N))):Cz 132 [ptr n 0] w λv w'=>∃J f o e,v=Ab ((Jd s).1:Nat)/\Le I J/\Az J e (Jd s).2.log.d.AH/\Bi J f (Jd s).2.log.data/\Aa B w' J (Ac n [ptr lg 0,c] 273::Ac lg [ptr db 0,Ab ((Jd s).2.log).gen,Ab ((Jd s).2.log).AL,Ab ((Jd s).2.log).used,f] 370::BI db kb o e ((Jd s).2.log).d (Cr c ((Jd s).2.AE)::N)):=by
 refine gG 1 (gD [0] [] [0,1,2,3,4,5,6,7,8,9,10] ?_);intro w g;refine gF 8 (Xq9 _ c r.AE om) ?_;rintro _ w ⟨G,E,F,xs,rfl,a,D,l,C,j,g⟩;refine gF 0 (Xd2 _ lg db kb us sv pl _ xs E F (λx hx=>by have:=l x hx;omega) om (z.mono a) C j r.log (u.mono a) (y.mono a)) ?_;rintro _ w ⟨t,p,m,q,rfl,h,i,k,g⟩;have b:=a.trans h;exact gG 1 ⟨t,q,p,m,O,b,i,k,(g.x [4,4,4,4,4,5])⟩
open DN
theorem Xvv:∀(i x k:Nat),k<i->(Ha i x)[k]?=some (UInt8.ofNat (x/256^(i-1-k)))
 | 0,_,_,h=>Yz h om
 | i+1,x,0,_=>by rw[Ha];simp
 | i+1,x,k+1,h=>by rw[Ha,pC,Xvv i x k om,show i+1-1-(k+1)=i-1-k by omega]
theorem SF(n:Nt)(R:n.ticket.length<=1000000)(T:n.url.length<=1000000)(A:Kx I)(C:Bf I)(N:La)(a:Aa B w I N):Ce B I N 177 [.agg (X8 n).toArray] w (.tuple #[S (Ir n).1,Ab ((Ir n).2:Nat)]):=by
 refine gH 4 ?_;intro b1 w a;refine gE 0 (Xps n om om A C) ?_;intro w a;refine gM 1 ?_ ?_<;>intro c F
 ·exact gG 2 ⟨by unfold Ir;rw[Y3 (su c)];first|done|rfl,a.s⟩
 have u:FO n=true:=su c
 obtain⟨_,q,M,L,J,K⟩:=vv u;have g:Value.int .u8 n.tries=U8 ((UInt8.ofNat n.tries.toNat).toNat:Int):=by
  congr 1
  rw[show(UInt8.ofNat n.tries.toNat).toNat=n.tries.toNat%256 from by simp];omega
 refine gH 4 ?_;intro e w a;rw[g]at a;replace a:=a.A2 (k:=0) (size:=1) O O de;refine gG 2 (.lk [1] (σ:=Nat×Va) (λ(k,v) _m=>(4,v)::(5,Ab (7-(k:Int)))::_m) (λ(k,v) w=>k<=8/\Aa B w I (An 5 1 v (k+1) (Ao (UInt8.ofNat n.tries.toNat::(Ha 8 n.next.toNat).take k))::Ac b1 [S n.ticket,S n.url,Ab n.tries,Ab n.next] 128::N)) (λ(k,v)=>8-k) (0,.slice (some (ad e 0)) 1 1) ⟨Y4 _,a⟩ ?_);rintro⟨k,v⟩ w ⟨Q,a⟩;refine gN 2 ?_ ?_<;>intro b
 ·have i:(Ha 8 n.next.toNat)[k]?=some (UInt8.ofNat (n.next.toNat/256^(7-k))):=Xvv 8 _ k (oh b);have h:IntKind.u8.wrap (n.next/2^(8*(7-(k:Int))).toNat)=((UInt8.ofNat (n.next.toNat/256^(7-k))).toNat:Int):=by
   rw[IntKind.wrap_u8,show(8*(7-(k:Int))).toNat=8*(7-k)by have f:=b;omega,Int.pow_mul];rw[show(UInt8.ofNat (n.next.toNat/256^(7-k))).toNat=n.next.toNat/256^(7-k)%256 from by simp];rw[Int.natCast_emod,Int.natCast_ediv,Int.natCast_pow,jC q];rfl
  have p:(Ha 8 n.next.toNat).take (k+1)=(Ha 8 n.next.toNat).take k++[UInt8.ofNat (n.next.toNat/256^(7-k))]:=by rw[Yv,i];rfl
  refine gH 5 (.val (Ex.shr (.of O) (.of O) (oh b) (by show _<=(64:Int);omega)) O ?_);refine .val (Ex.ET (.of O) B1 BP) O (gH 1 ?_);intro y w a;rw[h]at a;refine gG 5 ?_;intro x z d w a;replace a:=a.px [1,1];refine⟨(k+1,_),⟨O,by rw[show(7-((k+1:Nat):Int))=7-(k:Int)-1 by omega];rfl,O,trivial⟩,⟨by(try dsimp only);have f:=b;omega,?_⟩,by(try dsimp only);have f:=b;omega⟩;rw[p];simpa using a
 have m:k=8:=by have f:=b;omega
 subst m;rw[Yo (by rw[sD];exact Ya _)]at a;obtain⟨P,cap,r,rfl,D,E,G,H,a⟩:=a.AF (k:=0) O om;try dsimp only[List.set]at a
 have o:(UInt8.ofNat n.tries.toNat::Ha 8 n.next.toNat).length=8+1:=by rw[Y5,sD]
 rw[<-o];refine gH 1 ?_;refine .val (Gk.Ex.Dp (l:=UInt8.ofNat n.tries.toNat::Ha 8 n.next.toNat) (.of O) a (k:=0) O BV BP A8 (λj t=>by
  rw[Yk,Ye (by rw[Yj];exact t),Yr,Y2 t];rfl)) O ?_
 exact gG 5 ⟨by unfold Ir;rw[Y9 u];first|done|rfl,a.s⟩
def F8(n:Int):Lu:=((List.range 8).map λj=>n/2^(8*(7-j))).map C8
def WW(n:Int)(i:Nat):Lv:=(List.range 8).map λj=>if 8<=i+j then Value.int .u8 (IntKind.u8.wrap (n/2^(8*(7-j))))else Value.int .u8 0
theorem WY(n:Int)(h:i<8):(WW n i).set (0+(7-(i:Int)).toNat*1) (.int .u8 (IntKind.u8.wrap (n/2^(8*(i:Int)).toNat)))=WW n (i+1):=by
 rcases (by omega:i=0\/i=1\/i=2\/i=3\/i=4\/i=5\/i=6\/i=7)with rfl|rfl|rfl|rfl|rfl|rfl|rfl|rfl<;>rfl
theorem WX(n:Int):WW n 8=Ao (F8 n):=by unfold F8;rw[YY];rfl
theorem fq(n:Int):(F8 n).length=8:=by simp[F8]
def KT(l:List Lu):Lu:=(l.map λs=>C8 (s.length:Nat)::s).flatten
def FT(r:Ah):Lu:=[r.kind,r.AV,if r.fresh then 1 else 0].map C8++F8 r.made++F8 r.used
def H9(r:Ah):List Lu:=[r.parent,r.user,r.service,r.url]
def PD(r:Ah):Lu×Nat:=if C7 r then(FT r++KT (H9 r),0)else([],1)
theorem sF(n:Int)(N:La)(a:Aa B w I N):Cz 265 [Ab n] w λv w'=>∃b,v=.slice (some (ad b 0)) 8 8/\Aa B w' I (Ac b (Ao (F8 n)) 5::N):=by
 refine gG 1 ?_;refine .make (l:=8) a (.of O) (.of O) BV Xw O (by simp[t5]<;>omega) om O O O ?_;intro e w a;refine gG 4 (.lk [0,3,7] (σ:=Nat) (λi _m=>(8,Ab (i:Nat))::_m) (λi w=>i<=8/\Aa B w I (Ac e (WW n i) 5::N)) (λi=>8-i) 0 ⟨Y4 _,a⟩ ?_);rintro i w ⟨hi,a⟩;refine gN 1 ?_ ?_<;>intro c
 ·have d:i<8:=by have g:=c;omega
  refine gH 8 (.val (Ex.shr (.of O) (.of O) om (by show 8*(i:Int)<=64;omega)) O ?_);refine .val (.ET (.of O) B1 BP) O (.val (.io O O om om BV DT) O ?_);refine .s1 a (k:=0) O O O O DT (by simp[WW];omega) ?_;intro w a;dsimp only[List.set_cons_zero]at a;refine gG 2 (rd (i+1) ⟨om,?_⟩);rw[<-WY n d];exact a
 refine gG 2 ?_;have f:i=8:=by have g:=c;omega
 subst f;rw[WX]at a;exact⟨e,O,a⟩
theorem NG(b:Bool):IntKind.u8.wrap (if b then 1 else 0)=if b then 1 else 0:=by cases b<;>rfl
theorem vP(l:List Lu)(x:Lu):KT (l++[x])=KT l++(C8 (x.length:Nat)::x):=by simp[KT]
theorem UZ(r:Ah)(hn:r.name.length<=1000000)(hp:r.parent.length<=1000000)(hK:AX I)(hP:Bf I)(N:La)(a:Aa B w I N):Ce B I N 169 [.agg (Xa r).toArray] w (.tuple #[S (PD r).1,Ab ((PD r).2:Nat)]):=by
 refine gH 4 ?_;intro b1 w a;refine gE 0 (wi r hn hp hK hP) ?_;intro w a;refine gM 1 ?_ ?_<;>intro g U
 ·refine gG 2 ?_;have e:PD r=([],1):=by unfold PD;exact Y3 (su g)
  rw[e];exact⟨O,a.s⟩
 refine gH 1 (.nil (.ck [1] (σ:=Unit) (λ_ _m=>(4,.int .u8 (if r.fresh then 1 else 0))::_m) (λ_ w=>Aa B w I (Ac b1 (Xa r) 126::N)) ?_ ?_))
 ·refine gM 2 ?_ ?_<;>intro l V
  ·refine gG 1 ?_;refine⟨(),⟨by(try show _=_);rw[l];rfl,O,trivial⟩,a⟩
  refine gG 0 ?_;refine⟨(),⟨by(try show _=_);rw[l];rfl,O,trivial⟩,a⟩
 rintro _ w a;refine .ck [1] (σ:=Va) (λc _m=>(5,c)::_m) (λc w=>Aa B w I (An 5 1 c (FT r).length (Ao (FT r))::Ac b1 (Xa r) 126::N)) ?_ ?_
 ·refine .dw (λw=>∃R,Aa B w I (Ac b1 (Xa r) 126::R)) (λj=>!([].contains j)) ?_;replace a:=a.drew;generalize w.drew=w at a ⊢;have b:∃R,Aa B w I (Ac b1 (Xa r) 126::R):=⟨_,(a.x [0])⟩
  refine .tp 0 O (λw=>(.fo 0 O FP O O Bl O)) (.tk 1 O b (λw ⟨R,a⟩=>(.lo O a (k:=0) O BJ O)) (.tp 2 O (λw=>(.ET (.of O) B1 BP)) ?_));refine .tp 3 O (λw=>(.fo 8 O FP O O Bl O)) (.tk 4 O b (λw ⟨R,a⟩=>(.lo O a (k:=0) O BJ O)) (.tp 5 O (λw=>(.ET (.of O) B1 BP)) (.tp 6 O (λw=>(.mo O)) ?_)));refine .tp 8 O (λw=>(.fo 6 O FP O O Bl O)) (.tk 9 O b (λw ⟨R,a⟩=>(.lo O a (k:=0) O BJ O)) (.tp 12 O (λw=>(.fo 7 O FP O O Bl O)) (.tk 13 O b (λw ⟨R,a⟩=>(.lo O a (k:=0) O BJ O)) (.branch [7,10] kr O (WO.cons O ?_ (WO.cons O ?_ (WO.nil)))))))
  ·refine .buildSlice (cs:=[_,_,_]) a (IC O (IC O (IC O TC))) BV DT MG O O O O ?_;intro m w a;replace a:=a;replace a:=a.say (k:=0) (A':=Ac m (Ao ([r.kind,r.AV,if r.fresh then 1 else 0].map C8)) 5) O (λh t=>by rw[YY];simp only[Yu,ED];rw[NG];exact t);dsimp only[List.set]at a;replace a:=a.A2 (size:=1) (n:=3) (k:=0) O O de;dsimp only[List.set]at a;refine .nil ?_;clear b;have b:∃R,Aa B w I (Ac b1 (Xa r) 126::R):=⟨_,(a.x [1])⟩
   refine⟨λ_ _=>b,?_⟩;refine .b1 10 O (.call II O (A3 O X4) O (sF r.made _ a) ?_);rintro _ w ⟨P,rfl,a⟩;refine .nil ?_;clear b;have b:∃R,Aa B w I (Ac b1 (Xa r) 126::R):=⟨_,(a.x [2])⟩
   refine⟨λ_ _=>b,?_⟩;refine .b1 11 O (.append (size:=1) (bytes:=1) a (.of O) (.of O) (k:=0) O BV Xw O O O O (by simp[Ao,fq]) O (HD _) ⟨om,by unfold maxLen;omega⟩ O ?_);intro p w a;obtain⟨y,D,rfl,d,_⟩:=a.AG (k:=0) (v:=p) O;refine .nil ?_;clear b;have b:∃R,Aa B w I (Ac b1 (Xa r) 126::R):=⟨_,(a.x [1])⟩
   refine⟨λ_ _=>b,?_⟩;refine .b1 14 O (.call II O (A3 O X4) O (sF r.used _ a) ?_);rintro _ w ⟨Q,rfl,a⟩;refine .nil ?_;clear b;have b:∃R,Aa B w I (Ac b1 (Xa r) 126::R):=⟨_,(a.x [2])⟩
   refine⟨λ_ _=>b,?_⟩;refine .b1 15 O (.append (size:=1) (bytes:=1) a (.of O) (.of O) (k:=0) O BV Xw O O O O (by simp[Ao,fq]) O (HD _) ⟨om,by unfold maxLen;omega⟩ O ?_);intro q w a;obtain⟨z,E,rfl,f,_⟩:=a.AG (k:=0) (v:=q) O;refine .nil ?_;clear b;have b:∃R,Aa B w I (Ac b1 (Xa r) 126::R):=⟨_,(a.x [1])⟩
   refine⟨λ_ _=>b,?_⟩;refine .tp 16 O (λw=>(.ao O)) (.dn ?_);have G:Ao (FT r)=Ao ([r.kind,r.AV,if r.fresh then 1 else 0].map C8)++Ao (F8 r.made)++Ao (F8 r.used):=by simp[FT,Ao]
   have F:(FT r).length=3+8+8:=by simp[FT,fq]
   refine En _ O ?_;rw[G,F];exact(a.x [1,1])
  ·refine .call II O (A3 O X4) O (sF r.made _ a) ?_;rintro _ w ⟨P,rfl,a⟩;refine .nil ?_;clear b;have b:∃R,Aa B w I (Ac b1 (Xa r) 126::R):=⟨_,(a.x [1])⟩
   refine⟨λ_ _=>b,?_⟩;refine .b1 7 O (.buildSlice (cs:=[_,_,_]) a (IC O (IC O (IC O TC))) BV DT MG O O O O ?_);intro m w a;replace a:=a;replace a:=a.say (k:=0) (A':=Ac m (Ao ([r.kind,r.AV,if r.fresh then 1 else 0].map C8)) 5) O (λh t=>by rw[YY];simp only[Yu,ED];rw[NG];exact t);dsimp only[List.set]at a;replace a:=a.A2 (size:=1) (n:=3) (k:=0) O O de;dsimp only[List.set]at a;refine .nil ?_;clear b;have b:∃R,Aa B w I (Ac b1 (Xa r) 126::R):=⟨_,(a.x [2])⟩
   refine⟨λ_ _=>b,?_⟩;refine .b1 11 O ?_;replace a:=a.pick 1 O;refine .append (size:=1) (bytes:=1) a (.of O) (.of O) (k:=0) O BV Xw O O O O (by simp[Ao,fq]) O (HD _) ⟨om,by unfold maxLen;omega⟩ O ?_;intro p w a;obtain⟨y,D,rfl,d,_⟩:=a.AG (k:=0) (v:=p) O;refine .nil ?_;clear b;have b:∃R,Aa B w I (Ac b1 (Xa r) 126::R):=⟨_,(a.x [1])⟩
   refine⟨λ_ _=>b,?_⟩;refine .b1 14 O (.call II O (A3 O X4) O (sF r.used _ a) ?_);rintro _ w ⟨Q,rfl,a⟩;refine .nil ?_;clear b;have b:∃R,Aa B w I (Ac b1 (Xa r) 126::R):=⟨_,(a.x [2])⟩
   refine⟨λ_ _=>b,?_⟩;refine .b1 15 O (.append (size:=1) (bytes:=1) a (.of O) (.of O) (k:=0) O BV Xw O O O O (by simp[Ao,fq]) O (HD _) ⟨om,by unfold maxLen;omega⟩ O ?_);intro q w a;obtain⟨z,E,rfl,f,_⟩:=a.AG (k:=0) (v:=q) O;refine .nil ?_;clear b;have b:∃R,Aa B w I (Ac b1 (Xa r) 126::R):=⟨_,(a.x [1])⟩
   refine⟨λ_ _=>b,?_⟩;refine .tp 16 O (λw=>(.ao O)) (.dn ?_);have G:Ao (FT r)=Ao ([r.kind,r.AV,if r.fresh then 1 else 0].map C8)++Ao (F8 r.made)++Ao (F8 r.used):=by simp[FT,Ao]
   have F:(FT r).length=3+8+8:=by simp[FT,fq]
   refine En _ O ?_;rw[G,F];exact(a.x [1,1])
 rintro c w a;refine gG 11 ?_;intro A w a;have u:C7 r=true:=su g
 have L:=u;simp only[C7,Y8,dq1]at L
 have M:∀x∈H9 r,x.length<=1000000:=by
  intro x hx;simp only[H9,Yp,E6,or_false]at hx
  rcases hx with rfl|rfl|rfl|rfl<;>omega
 have K:=((a.pick 1 O).drop (k:=2) O);clear a;have T:FT r++KT ((H9 r).take 0)=FT r:=by simp[KT]
 refine .lk [37,38] (σ:=Nat×Va) (λ(i,c) _m=>(5,c)::(39,Ab (i:Nat))::_m) (λ(i,c) w=>i<=4/\(FT r++KT ((H9 r).take i)).length<=19+i*1000001/\Aa B w I (An 5 1 c (FT r++KT ((H9 r).take i)).length (Ao (FT r++KT ((H9 r).take i)))::Ac A ((H9 r).map S) 9::N)) (λ(i,c)=>4-i) (0,c) ⟨Y4 _,by rw[T];simp[FT,fq],by rw[T];exact K⟩ ?_;rintro⟨i,c⟩ w ⟨hi,af,a⟩;refine gN 1 ?_ ?_<;>intro W
 ·obtain⟨x,hx⟩:∃x,(H9 r)[i]?=some x:=⟨_,Y2 (by show i<4;omega)⟩
  have ah:x.length<=1000000:=M x (Y7 hx);have o:(H9 r).take (i+1)=(H9 r).take i++[x]:=by rw[Yv,hx];rfl
  refine gH 1 ?_;refine .val (.ld (v:=S x) (.of O) a (k:=1) O Bg (by(try rw[Yd]);rw[Dm,Yk,Yr,hx];rfl)) O ?_;refine gH 4 (.val (.ET (.of O) B1 BP) O (gH 1 ?_));intro C w a;replace a:=a;replace a:=a.say (k:=0) (A':=Ac C (Ao [C8 (x.length:Nat)]) 5) O (λh t=>by rw[show[C8 (x.length:Nat)]=[((x.length:Nat):Int)].map C8 from O,YY];exact t);dsimp only[List.set]at a;refine .append (size:=1) (bytes:=1) a (.of O) (.of O) (k:=0) O BV Xw O O O O O O (HD _) ⟨om,by unfold maxLen;omega⟩ O ?_;intro ai w a;refine gH 1 (.Du a (.of O) (.of O) (k:=0) O BV A8 Xw O O O om O ?_);intro aj w a;refine gG 3 (A_ (i+1,_) O ⟨om,?_,?_⟩)
  ·(try dsimp only)
   rw[o,vP,<-Yg,Y0,Y5];omega
  ·(try dsimp only)
   have Y:Ao (FT r++KT ((H9 r).take (i+1)))=Ao (FT r++KT ((H9 r).take i))++Ao [C8 (x.length:Nat)]++Ao x:=by rw[o,vP];simp[Ao]
   have X:(FT r++KT ((H9 r).take (i+1))).length=(FT r++KT ((H9 r).take i)).length+1+x.length:=by rw[o,vP,<-Yg,Y0,Y5];omega
   rw[Y,X];exact(a.x [1,1])
 obtain⟨ka,kc,rfl,ad,_⟩:=a.vS 0;obtain⟨J,hJ,H,a⟩:=a.fV 0;try dsimp only[List.eraseIdx]at a
 refine gH 1 (.val (.EF (.of O) a H BV BP A8) O (gG 2 ?_));have e:PD r=(FT r++KT (H9 r),0):=by unfold PD;exact Y9 u
 have Z:(H9 r).take i=H9 r:=Yo (by show 4<=i;omega);rw[e];rw[Z];exact⟨O,a.s.weaken hJ⟩
theorem Rr(r s:Ah)(w:Wo):(Op.equalIn 10000 126 (.agg (Xa r).toArray) (.agg (Xa s).toArray)).run prog w=.ok (decide (r=s)) w:=by
 have b:prog.underlying 126=some (.struct (prog.fieldsOf 126)):=by kernel_rfl
 have c:prog.stoodInHeld 126=false:=by kernel_rfl
 rw[show(10000:Nat)=9999+1 from O,run_equalIn_agg w 9999 126 _ _ b c];simp only[Program.fieldsOf,FP]
 obtain⟨k,n,pa,u,sv,t,m,i,uc,f⟩:=r;obtain⟨l,p,d,q,e,h,o,a,g,j⟩:=s;unfold Xa
 go_simp
 repeat' split
 all_goals simp_all
theorem Ex.gO{g:Option (Nat×Bool)}{x y:Operand}{r s:Ah}(hx:Ev n L x (.agg (Xa r).toArray))(a:Ev n L y (.agg (Xa s).toArray)):Ex prog n L w ⟨d,.binOp .neq 126 x y t',ty,pos,af,g⟩ (.bool (!decide (r=s))) w :=
 CV hx a (λp q=>run_eqGuard_agg w _ _ _ _ _ _ kr) (by rw[run_neq_struct,Rr];rfl)
section
open Go.Shelf Go.RowKit Go.Lib Go.Sort
abbrev JS:Ren:=⟨λ|6=>170|15=>267|14=>266|28=>361|29=>362|20=>353|21=>354|22=>355|23=>356|24=>357|25=>358|26=>359|27=>360|46=>423|47=>424|48=>425|49=>426|50=>427|57=>469|n=>n,λ|22=>182|24=>257|25=>261|39=>291|53=>450|55=>73|46=>444|45=>443|50=>230|66=>491|70=>478|76=>531|77=>532|n=>n,λ|n=>n⟩
theorem F_:SlLaysF0.n6 prog JS:=by constructor<;>first|kernel_rfl|(intro w;kernel_rfl)|exact q9q
instance:Inhabited Ch:=⟨⟨[],[],false⟩⟩
def E8(p q:Ch):Int:=compareBytes p.key q.key
theorem qZ:SWO (ltOf E8) where
 irrefl x:=fj x.key
 trans x y z:=iI x.key y.key z.key
 ntrans x y z:=Xiq x.key y.key z.key
def PL(l:List Ch):List Ch:=(pdq (ltOf E8) l.toArray 0 l.toArray.size (Lib.bitLen l.toArray.size) true true).toList
theorem v7(l:List Ch):(PL l).Perm l:=by
 have h:=(pdq_sorts (ltOf E8) qZ l.toArray 0 l.toArray.size (Lib.bitLen l.toArray.size) true true (Y4 _) (Ya _) (Or.inl O)).1;obtain⟨b,e,c⟩:=h;have a:(PL l).length=l.length:=by unfold PL;rw[Sj,b];simp
 have d:List.take l.length (PL l)=PL l:=Yo (by rw[a];exact Ya _);rw[<-d];unfold PL;simpa using c
theorem oC(l:List Ch):(PL l).length=l.length:=(v7 l).length_eq
def SA(a:Nat):Prop:=(∀args w,(callFunc a args).run prog w=.ok (.enter a args) w)/\∀(x y:Ch) (W:Wo),Calls prog a #[.agg (DX x).toArray,.agg (DX y).toArray] W λe w'=>e=.returned (.int .i64 (E8 x y))/\∃q b,w'=grow (W.drewN q) b
theorem Xqb(j:Nat)(i:SA j)(l:List Ch)(s:Va)(k:Nat)(N:La)(n:Aa B w I N)(o:N[k]?=some (An 257 3 s l.length (X2 DX l)))(G:l.length<=1000000):Ce B I (N.set k (An 257 3 s (PL l).length (X2 DX (PL l)))) 170 [s,.func (.func j) #[] #[]] w (.tuple #[]):=by
 obtain⟨a,c,rfl,F,_⟩:=n.AG o;cases a with
 | none =>
  have u:l=[]:=n.CM o λ_ ⟨_,D⟩=>by
   rcases D with⟨_,h,_⟩|⟨b,cap,r,p,_⟩
   ·exact Yi h
   ·cases p
  subst u;refine(AnyF.slices_SortFunc_none F_ none c (.func (.func j) #[] #[]) w).mono ?_;rintro e w' ⟨rfl,rfl⟩;have e0:PL []=[]:=Yi (oC []);have t:N.set k (An 257 3 (.slice none 0 c) 0 (X2 DX []))=N:=by
   have:=(Y1.1 o).2
   exact(Yc (N.set k) this.symm).trans (jz _)
  refine⟨_,O,O,?_⟩;rw[e0];show Aa B w' I (N.set k (An 257 3 (.slice none 0 c) 0 (X2 DX [])))
  rw[t];exact n
 | some a =>
  obtain⟨g,rfl,C,A,d⟩:=Aa.XD (Aq:=DX) (λ_=>rfl) de n O o;have f:=AnyQ.slices_SortFunc_eq F_ 3 Ms mS DX (λ_=>rfl) (λx v p=>by simp[DX]at p;rcases p with rfl|rfl|rfl<;>rfl) E8 qZ j #[] g 0 c l.toArray w i.1 (λ_ _ _ _ x y=>i.2 x y _) A C (by simp;omega);refine f.mono ?_;rintro e w' ⟨rfl,m,E,rfl⟩;have q:(pdq (ltOf E8) l.toArray 0 l.toArray.size (Lib.bitLen l.toArray.size) true true).size=l.length:=by
   have:=oC l;unfold PL at this;rwa[Sj]at this
  refine⟨_,O,O,?_⟩;have z:=d m _ E q;rw[oC l];exact z
end
section
open Go.Shelf Go.RowKit Go.Lib Go.Sort
theorem Ql(x y:Ch)(W:Wo):Calls prog 171 #[.agg #[S x.key,S x.val,.bool x.gone],.agg #[S y.key,S y.val,.bool y.gone]] W λe w'=>e=.returned (.int .i64 (E8 x y))/\∃q qL,w'=grow (W.drewN q) qL:=by
 have a:=λb=>strings_Compare ⟨x.key.toArray⟩ ⟨y.key.toArray⟩ b
 change ∀b,Calls prog 172 _ _ _ at a;have c:compareBytes (⟨x.key.toArray⟩:ByteArray).data.toList (⟨y.key.toArray⟩:ByteArray).data.toList=E8 x y:=rfl;rw[c]at a;generalize E8 x y=r at a ⊢
 go_enter func171,ntmps171
 go_wp2_with (go_at_call 172;refine(a _).mono ?_;rintro e w' ⟨rfl,rfl⟩)
 go_ret
 exact⟨O,0,_,by rw[alloc_eq_grow,alloc_eq_grow,grow_grow];rfl⟩
theorem UM:SA 171:=⟨enters_of func171 kr O,λx y W=>Ql x y W⟩
end
section
open Go.Shelf Go.RowKit Go.Lib Go.Sort
theorem Xnl(x y:Ch)(W:Wo):Calls prog 178 #[.agg #[S x.key,S x.val,.bool x.gone],.agg #[S y.key,S y.val,.bool y.gone]] W λe w'=>e=.returned (.int .i64 (E8 x y))/\∃q qL,w'=grow (W.drewN q) qL:=by
 have a:=λb=>strings_Compare ⟨x.key.toArray⟩ ⟨y.key.toArray⟩ b
 change ∀b,Calls prog 172 _ _ _ at a;have c:compareBytes (⟨x.key.toArray⟩:ByteArray).data.toList (⟨y.key.toArray⟩:ByteArray).data.toList=E8 x y:=rfl;rw[c]at a;generalize E8 x y=r at a ⊢
 go_enter func178,ntmps178
 go_wp2_with (go_at_call 172;refine(a _).mono ?_;rintro e w' ⟨rfl,rfl⟩)
 go_ret
 exact⟨O,0,_,by rw[alloc_eq_grow,alloc_eq_grow,grow_grow];rfl⟩
theorem Xrs:SA 178:=⟨enters_of func178 kr O,λx y W=>Xnl x y W⟩
end
def TY(a b:List Ah):List Ch:=(a.filter λx=>decide (BA b x.name<0)).map λx=>⟨x.name,[],true⟩
def V9(a b:List Ah):List Ch:=(b.filter λx=>!(get a x.name).isSome||!decide (getD a x.name=x)).map λx=>⟨x.name,(PD x).1,false⟩
def PC(a b:List Ah):List Ch:=PL (TY a b++V9 a b)
theorem fg(p:α->Bool)(l:List α)(i:Nat)(x:α)(h:l[i]?=some x):(l.take (i+1)).filter p=(l.take i).filter p++(if p x then[x]else[]):=by
 rw[Yv,h,DE,T5];congr 1;rw[Jq];rfl
theorem Xw7{a b:List Ah}(c:a.length<=10000)(d:b.length<=10000)(i:Nat):(TY a b++((b.take i).filter λx=>!(get a x.name).isSome||!decide (getD a x.name=x)).map λx=>(⟨x.name,(PD x).1,false⟩:Ch)).length<=20000:=by
 have e:(TY a b).length<=a.length:=by unfold TY;rw[Yj];exact EP ..
 have f:((b.take i).filter λx=>!(get a x.name).isSome||!decide (getD a x.name=x)).length<=b.length:=Yq (EP ..) (by rw[Yl];omega);rw[Y0,Yj];omega
theorem sL{l:List Ah}(h:Wf l):∀r∈l,r.name.length<=1000000/\r.parent.length<=1000000:=λr a=>by have:=lZ (h.right r a);omega
theorem Qm(u y:Nat)(F G:Int)(a A:Oa)(c C:Nat)(b lb:List Ah)(M:Wf b)(P:Wf lb)(D:b.length<=10000)(E:lb.length<=10000)(hK:AX I)(hP:Bf I)(N:La)(d:Aa B w I (Ba u F a c b (Ba y G A C lb N))):Cz 104 [ptr u 0,ptr y 0] w λv w'=>∃e,v=e/\Aa B w' I (An 257 3 e (PC b lb).length (X2 DX (PC b lb))::Ba u F a c b (Ba y G A C lb N)):=by
 have f:=(((((d.pick 3 O).pick 3 O).pick 3 O).pick 3 O)).Ai 257 3;clear d;refine gG 8 (.lk [0,1,17,18] (σ:=Nat×Va) (λ(i,e) _m=>(5,e)::(19,Ab (i:Nat))::_m) (λ(i,e) w=>i<=b.length/\Aa B w I (An 257 3 e (((b.take i).filter λx=>decide (BA lb x.name<0)).map λx=>(⟨x.name,[],true⟩:Ch)).length (X2 DX (((b.take i).filter λx=>decide (BA lb x.name<0)).map λx=>(⟨x.name,[],true⟩:Ch)))::Ba u F a c b (Ba y G A C lb N))) (λ(i,e)=>b.length-i) (0,.slice none 0 0) ⟨Y4 _,f⟩ ?_);rintro⟨i,e⟩ w ⟨hi,d⟩;clear f;refine gN 1 ?_ ?_<;>intro R
 ·refine gG 0 ?_;obtain⟨x,hx⟩:∃x,b[i]?=some x:=⟨_,Y2 om⟩
  have t:=sL M x (Y7 hx);obtain⟨p,rfl,Q⟩:=TF (l:=b) d (k:=2) O i x hx;refine gG 0 (.val (.ii O O om om KK Jf) O ?_);refine .val (.as (.IA (.of O) (by intro j v q;rw[Yd];exact Q j v q) R9 Jf O) O) O ?_;refine gH 5 ?_;intro b7 w d;refine gE 0 (fx y G A C lb om x.name) ?_;intro w d;refine gM 1 ?_ ?_<;>intro n S
  ·have g:(((b.take i).filter λx=>decide (BA lb x.name<0)).map λx=>(⟨x.name,[],true⟩:Ch)).length<=10000:=by rw[Yj];exact Yq (EP ..) (by rw[Yl];omega)
   refine gG 9 ?_;intro Y V aa H w d;refine A_ (i+1,_) O ⟨om,?_⟩;rw[fg _ b i x hx,Y9 (su n),Yn,Yu,ED,KP,Y0];exact(d.z [1,1,5,5,5] 5 1)
  refine gG 2 (A_ (i+1,_) O ⟨om,?_⟩);rw[fg _ b i x hx,Y3 (su n),Yy];exact(d.z [1,1,5,5,5] 5 1)
 refine gG 6 ?_;rw[show b.take i=b from Yo om]at d;have e9:TY b lb++((lb.take 0).filter λx=>!(get b x.name).isSome||!decide (getD b x.name=x)).map (λx=>(⟨x.name,(PD x).1,false⟩:Ch))=TY b lb:=by simp
 have f:=(((((d.pick 4 O).pick 4 O).pick 4 O).pick 4 O).pick 4 O);clear d;refine .lk [0,1,38,39] (σ:=Nat×Va) (λ(i,e) _m=>(5,e)::(40,Ab (i:Nat))::_m) (λ(i,e) w=>i<=lb.length/\Aa B w I (An 257 3 e (TY b lb++((lb.take i).filter λx=>!(get b x.name).isSome||!decide (getD b x.name=x)).map λx=>(⟨x.name,(PD x).1,false⟩:Ch)).length (X2 DX (TY b lb++((lb.take i).filter λx=>!(get b x.name).isSome||!decide (getD b x.name=x)).map λx=>(⟨x.name,(PD x).1,false⟩:Ch)))::Ba u F a c b (Ba y G A C lb N))) (λ(i,e)=>lb.length-i) (0,e) ⟨Y4 _,by rw[e9];exact f⟩ ?_;rintro⟨i,e⟩ w ⟨hi,d⟩;clear f;refine gN 1 ?_ ?_<;>intro T
 ·refine gG 0 ?_;obtain⟨x,hx⟩:∃x,lb[i]?=some x:=⟨_,Y2 om⟩
  have t:=sL P x (Y7 hx);obtain⟨p,rfl,Q⟩:=TF (l:=lb) d (k:=4) O i x hx;refine gG 0 (.val (.ii O O om om KK Jf) O ?_);refine .val (.as (.IA (.of O) (by intro j v q;rw[Yd];exact Q j v q) R9 Jf O) O) O ?_;refine gH 5 ?_;intro b9 w d;refine gE 0 (E5 u F a c b om x.name) ?_;intro w d;refine gH 9 ?_;intro X w d;refine .Aj O O (λm=>(.DY (.of O) d (k:=0) O R9 Jf O (λj v q=>by rw[Yk];exact q))) O ?_;refine .Aj O O (λm=>(.DY (.of O) d (k:=3) O R9 Jf O (λj v q=>by rw[Yk];exact q))) O ?_;refine .Aj O O (λm=>Ex.gO (r:=getD b x.name) (.gd m O) (.gd m O)) O ?_;refine gM 1 ?_ ?_<;>intro o U
  ·refine gG 0 ?_;have s:(!(get b x.name).isSome||!decide (getD b x.name=x))=true:=by
    have K:=o
    revert K
    cases(get b x.name).isSome<;>simp[gd]
   have g:=Xw7 D E i;refine gE 1 (UZ x t.1 t.2 hK hP) ?_;intro w d;refine gH 14 ?_;intro Z W ab J w d;refine gG 1 ?_;have e5:∀(L:List Ch) (c:Ch),(L++[c]).length=L.length+1:=λL c=>by simp
   refine A_ (i+1,_) O ⟨om,?_⟩;rw[fg _ lb i x hx,Y9 s,Yn,Yu,ED,<-Yg,KP,e5];exact(d.z [6,6,4,4,6] 5 2)
  refine gG 2 ?_;have s:(!(get b x.name).isSome||!decide (getD b x.name=x))=false:=by
   have K:=o
   revert K
   cases(get b x.name).isSome<;>simp[gd]
  refine A_ (i+1,_) O ⟨om,?_⟩;rw[fg _ lb i x hx,Y3 (nB s),Yy];exact(d.z [6,6,4,4,6] 5 2)
 refine gG 0 ?_;rw[show lb.take i=lb from Yo om]at d;have g:(TY b lb++V9 b lb).length<=1000000:=by
  have h:=Xw7 D E lb.length;rw[Fy]at h;unfold V9;omega
 refine gC 1 (Xqb 171 UM (TY b lb++V9 b lb) e 0 _ d O g) ?_;rintro _ w ⟨rfl,d⟩;exact gG 2 ⟨_,O,(d.x [4,4,4,4,4])⟩
theorem Xqk(h:Nat)(b:Int)(a:Oa)(c:Nat)(l:List Ah)(j:l.length<=100000)(N:La)(d:Aa B w I (Ba h b a c l N)):Cz 99 [ptr h 0] w λv w'=>∃i f g,v=ptr i 0/\Aa B w' I (Ba i b f g l (Ba h b a c l N)):=by
 refine gG 1 (gD [0] [] [0,1,2,3,4,5,6,7,8,9,10,11] ?_);intro w d;refine gF 8 (vB a c l j) ?_;rintro _ w ⟨m,rfl,d⟩;obtain⟨f,g,rfl,k,_⟩:=d.vS 0;refine gH 2 ?_;intro e w d;exact gG 1 ⟨e,f,g,O,d.s⟩
theorem Rm(i:Nat)(lim:Int)(x y z:Nat)(a:Oa)(c:Nat)(q:List Nt)(n:q.length<=100000)(m:RS I a 4 q.length (X2 X8 q))(N:La)(b:Aa B w I (Ac i [Ab lim,AM x,AM y,AM z,.slice a q.length c] 159::N)):Cz 100 [ptr i 0] w λv w'=>∃J j d e,v=ptr j 0/\Le I J/\q.length<=e/\RS J d 4 q.length (X2 X8 q)/\Aa B w' J (Ac j [Ab lim,AM x,AM y,AM z,.slice d q.length e] 159::Ac i [Ab lim,AM x,AM y,AM z,.slice a q.length c] 159::N):=by
 refine gH 10 ?_;intro k w b;refine gF 0 (rJ a c q n m) ?_;rintro o w b;obtain⟨d,e,rfl,h,_⟩:=b.vS 0;have g:=b.fV 0;clear b;obtain⟨J,l,f,b⟩:=g;try dsimp only[List.eraseIdx]at b
 refine gG 2 ?_;intro w b;exact gG 1 ⟨J,k,d,e,O,l,h,f,b.s⟩
end Go.Proofs.W9
namespace Gk
open Go
section
variable {P:Program} {n:Nat} {K:Bk} {L:AB} {w:Wo} {ops:Array Oper} {rest:List Oper}
theorem WL.UW{d j t:Nat}{c:List (Bool×Bool)}{b:Bool}(T:Va->Wo->Prop){xs:List Operand}
  (R:(ops[j]?).bind (·.dst)=some t) (V:Nat.blt t n=true) (J:look L t=some (CH c (.bool b))) (Q:P.funcs[f]?=some fn) (B:Xf fn=true)
  (hx:(∀p∈c++[(b,want)],p.1=p.2)->∀a,Ap n L a->xs.map a.eval=vs) (F:Nat.blt d n=true)
  (l:(∀p∈c++[(b,want)],p.1=p.2)->Calls P f vs.toArray w (AY T)) (G:(¬ ∀p∈c++[(b,want)],p.1=p.2)->T v0 w)
  (h:∀v w',T v w'->WL P n ops K rest ((d,CH (c++[(b,want)]) v)::L) w'):WL P n ops K (⟨some d,.call ⟨.value (.func f),xs.toArray,ts⟩,ty,pos,af,some (j,want)⟩::rest) L w:=by
 intro a s;refine wpList_step λK' E=>?_
 have u:t<a.tmps.size:=by have:=Yx V;rw[s.size];omega
 have x:=s.get t _ J;have m:yielded ops a.tmps j=match CH c (.bool b)with|.bool b=>some b|_=>none:=by
  obtain⟨o,S,C⟩:=fW.1 R;rw[GF,Iv u]at x;simp only[gj]at x
  have y:a.tmps[t]?=some (CH c (.bool b)):=by rw[Iv u,x]
  simp only[yielded,S,C,gi,y]
  generalize CH c (.bool b)=g;cases g<;>rfl
 by_cases e:∀p∈c++[(b,want)],p.1=p.2
 ·have r:∀p∈c,p.1=p.2:=λp k=>e p (by simp[k])
  have q:b=want:=e (b,want) sz;rw[Ka r]at m;rw[Y9 (by simp[Region.wanted,m,q])];have M:(execOp a.eval (⟨some d,.call ⟨.value (.func f),xs.toArray,ts⟩,ty,pos,af,some (j,want)⟩:Oper)).run P w=.ok (.enter f vs.toArray) w:=by
   unfold Xf at B;simp only[Y8]at B
   obtain⟨H,y⟩:=B;have z : ¬ fn.name = "runtime.NumGoroutine" := by simpa using H
   have A:¬ fn.body=none:=by intro e;rw[e]at y;cases y
   have x:=hx e a s;simp[execOp,resolve,Act.eval,Deferred.ofValue,invoke,callFunc,program,Sem.run,Q,z,A,<-x]
  unfold Oper.wp;rw[M];refine(l e).mono λX D U=>?_
  obtain⟨v,rfl,I⟩:=U;have i:=h v D I _ (s.put F (CH (c++[(b,want)]) v));rw[Ka e]at i;exact E _ _ i
 ·have W:Region.wanted (⟨some d,.call ⟨.value (.func f),xs.toArray,ts⟩,ty,pos,af,some (j,want)⟩:Oper) (yielded ops a.tmps)=false:=by
   by_cases r:∀p∈c,p.1=p.2
   ·rw[Ka r]at m;have q:¬ b=want:=λq=>e λp k=>by
     rcases Ys.1 k with k|k
     ·exact r p k
     ·simp at k;subst k;exact q
    simp[Region.wanted,m,q]
   ·rw[TJ r]at m;simp[Region.wanted,m,undef]
  rw[Y3 (by simp[W])];have i:=h v0 w (G e) _ (s.put F (CH (c++[(b,want)]) v0));rw[TJ e]at i;exact E _ _ i
theorem WL.p_{d j t:Nat}{b:Bool}(T:Va->Wo->Prop){xs:List Operand}
  (s:(ops[j]?).bind (·.dst)=some t) (x:Nat.blt t n=true) (m:look L t=some (.bool b)) (r:P.funcs[f]?=some fn) (o:Xf fn=true)
  (hx:b=want->∀a,Ap n L a->xs.map a.eval=vs) (q:Nat.blt d n=true)
  (g:b=want->Calls P f vs.toArray w (AY T)) (l:¬ b=want->T v0 w)
  (h:∀v w',T v w'->WL P n ops K rest ((d,gd b want v)::L) w'):WL P n ops K (⟨some d,.call ⟨.value (.func f),xs.toArray,ts⟩,ty,pos,af,some (j,want)⟩::rest) L w :=
 WL.UW (c:=[]) T s x m r o (λe=>hx (e (b,want) sz)) q (λe=>g (e (b,want) sz)) (λu=>l λk=>u λp i=>by simp at i;subst i;exact k) h
end
end Gk
namespace Go.Proofs.W9
open Gk Ul Pc Tk Tr Xm Rq
open Tryz
abbrev tC(s:Lu):Lv:=[S s]
theorem tS:∀l:List Lu,X2 tC l=l.map S
 | []=>rfl
 | s::l=>by
  have:=tS l
  unfold X2 at this ⊢;rw[Yu,Fx,this];rfl
theorem Xh9(a:Oa)(cap:Nat)(l:List Lu)(C:l.length<=9223372036854775807)(q:Lu->Bool)(f:FuncId)(fn:Func)(o:prog.funcs[f]?=some fn)(m:Xf fn=true)(b:Lv)(N:La)(y:∀w,Aa B w I N->Jg w tC 1 a l)(A:∀(r:Lu) (n:r∈l) w,Aa B w I N->Calls prog f ([S r]++b).toArray w (AY λv w'=>v=.bool (q r)/\Aa B w' I N))(c:Aa B w I N):Ce B I N 323 [.slice a l.length cap,.func (.func f) #[] b.toArray] w (Ab (Eu q l 0)):=by
 refine gG 4 (.lk [0,1,7] (σ:=Nat) (λi _m=>(8,Ab (i:Nat))::_m) (λi w=>i<=l.length/\(∀(j:Nat) t,j<i->l[j]?=some t->q t=false)/\Aa B w I N) (λi=>l.length-i) 0 ⟨Y4 _,λ_ _ h=>Yz h om,c⟩ ?_);rintro i w ⟨hi,g,c⟩;refine gN 1 ?_ ?_<;>intro z
 ·obtain⟨r,n⟩:∃r,l[i]?=some r:=⟨_,Y2 om⟩
  obtain⟨p,rfl,hx⟩:=y w c i r n;refine gH 6 ?_;refine .val (.ld1 (.of O) (by have x:=hx 0 _ O;simpa[Addr.add_add]using x) Bg) O ?_;refine .Bv (cap:=b) o m (.of O) (A3 O X4) O (A r (Y7 n) w c) ?_;rintro _ w ⟨rfl,c⟩;refine gM 0 ?_ ?_<;>intro d u
  ·exact gG 2 ⟨by rw[iG g n d],c⟩
  refine gG 2 (rd (i+1) ⟨om,λj t D k=>?_,c⟩);rcases Yt j i with s|s
  ·exact g j t s k
  ·have e:j=i:=om
   subst e;rw[n]at k;cases k;exact d
 exact gG 1 ⟨by rw[iF (λj t k=>g j t (oh ((Y1.1 k).1)) k)],c⟩
theorem Xbf(a:Oa)(cap:Nat)(l:List Lu)(g:l.length<=9223372036854775807)(e:Lu->Bool)(b:FuncId)(fn:Func)(f:prog.funcs[b]?=some fn)(d:Xf fn=true)(c:Lv)(N:La)(i:∀w,Aa B w I N->Jg w tC 1 a l)(j:∀(r:Lu) (k:r∈l) w,Aa B w I N->Calls prog b ([S r]++c).toArray w (AY λv w'=>v=.bool (e r)/\Aa B w' I N))(h:Aa B w I N):Ce B I N 223 [.slice a l.length cap,.func (.func b) #[] c.toArray] w (.bool (l.any e)):=by
 refine gP 3 [] (Xh9 a cap l g e b fn f d _ N i j) ?_;rintro _ w ⟨rfl,h⟩;exact gG 2 ⟨by rw[<-ZX e l 0],h⟩
def m_(ps:List Int)(l:List Ah)(now:Int)(name:Lu):Bool:=!JO ps (getD l name) now&&(!((getD l name).kind==2||(getD l name).kind==3)||((getD l name).AV==0&&(((kids l name).length:Nat):Int)==0))
def RN(ps:List Int)(l:List Ah)(now:Int)(r:Ah):Bool:=m_ ps l now r.name&&!((((path l r.name).map Ah.name).drop 1).any (m_ ps l now))
def Gg(ps:List Int)(l:List Ah)(now:Int):List Lu:=(l.filter (RN ps l now)).map Ah.name
theorem Xyo{l:List Ah}(h:Wf l)(name:Lu):(0<=(getD l name).made/\(getD l name).made<=1099511627776)/\(0<=(getD l name).used/\(getD l name).used<=1099511627776):=by
 rcases Tr.get_at l name with⟨_,a⟩|⟨j,r,_,b,_,a⟩
 ·unfold getD;rw[a];decide
 ·unfold getD;rw[a]
  have:=vw (h.right r (Y7 b))
  exact⟨this.1,this.2.1⟩
theorem Xnv(i:Nat)(b:Int)(a:Oa)(c:Nat)(l:List Ah)(y:l.length<=100000)(u:Wf l)(ps:List Int)(m:ps.length=21)(now:Int)(G:0<=now/\now<=1099511627776)(o p q:Nat)(name:Lu)(N:La)(h:Aa B w I (Ba i b a c l (Ac o [ptr i 0] 80::Ac p (ps.map Ab) 26::Ac q [Ab now] 3::N))):Ce B I (Ba i b a c l (Ac o [ptr i 0] 80::Ac p (ps.map Ab) 26::Ac q [Ab now] 3::N)) 220 [S name,ptr o 0,ptr p 0,ptr q 0] w (.bool (m_ ps l now name)):=by
 refine gE 3 (E5 i b a c l y _) ?_;intro w h;refine gH 14 ?_;intro C w h;have z:=Xyo u name;refine gG 1 ?_;refine .val (.DY (vs:=ps.map Ab) (.of O) h (k:=4) O O5 HA (by rw[Yj];exact m) (λj v F=>by rw[Yk];exact F)) O ?_;refine gE 2 (Xu8 ps m _ now z.1 z.2 G) ?_;intro w h;refine gH 11 ?_;refine .UW (c:=[(_,_),(_,_)]) (λv w=>∃ka A,v=.slice ka (kids l name).length A/\Aa B w I (Ac C [Ab (getD l name).kind,S (getD l name).name,S (getD l name).parent,S (getD l name).user,S (getD l name).service,S (getD l name).url,Ab (getD l name).made,Ab (getD l name).used,Ab (getD l name).AV,.bool (getD l name).fresh] 126::Ba i b a c l (Ac o [ptr i 0] 80::Ac p (ps.map Ab) 26::Ac q [Ab now] 3::N))) (v0:=.slice none (kids l name).length 0) O O O func222 O (λn=>by
   have d:=n _ (jD ..);have f:=n _ (Si _ (jD ..));have g:=n _ (Si _ (Si _ (jD ..)));exact(X6 (.yP d f g O) (X6 (.yP d f g O) X4))) O (λn=>(wY i b a c l y name _ (h.x [2,2])).mono λe w' ⟨v,E,P,L,M,K,r,J,D,t⟩=>⟨v,E,L,M,K,(((((((t.pick 5 O).pick 5 O).pick 5 O).pick 4 O).pick 4 O).pick 5 O)).weaken r⟩) (λH=>⟨none,0,O,h⟩) ?_
 rintro _ w ⟨ka,A,rfl,h⟩;refine .qg O O O (λd f g=>(.CK (.yP d f g O) D6)) O ?_;exact gG 5 ⟨O,h.s⟩
theorem Ww{l:List Ah}(h:Wf l){r:Ah}(a:r∈l):0<(path l r.name).length:=by
 obtain⟨i,hi⟩:=EA.1 a;unfold path;rw[h.at_ hi,Xwc h hi]
 simp
theorem RJ(n:Nat)(d:Int)(a:Oa)(c:Nat)(l:List Ah)(Q:l.length<=100000)(g:Wf l)(ps:List Int)(H:ps.length=21)(now:Int)(hn:0<=now/\now<=1099511627776)(N:La)(b:Aa B w I (Ba n d a c l N)):Cz 129 [ptr n 0,.agg (ps.map Ab).toArray,Ab now] w λv w'=>∃J R U,v=.slice R (Gg ps l now).length U/\Le I J/\(Gg ps l now).length<=U/\RS J R 1 (Gg ps l now).length ((Gg ps l now).map S)/\Aa B w' J (Ba n d a c l N):=by
 refine gH 8 ?_;intro C D E w b;refine gF 0 (vn n d a c l Q) ?_;rintro _ w ⟨J3,ra,rc,rfl,Y,K,Z,b⟩;have G:=((((((b.pick 2 O).pick 3 O).pick 4 O).pick 4 O).pick 4 O)).Ai 9 1;clear b;refine gG 2 (.lk [3,4,5,7,13,14] (σ:=Nat×Va×Im) (λ(i,L,t) _m=>(8,L)::(15,Ab (i:Nat))::_m) (λ(i,L,t) w=>i<=l.length/\Le J3 t/\Aa B w t (An 9 1 L (((l.take i).filter (RN ps l now)).map Ah.name).length ((((l.take i).filter (RN ps l now)).map Ah.name).map S)::Ba n d a c l (Ac C [ptr n 0] 80::Ac D (ps.map Ab) 26::Ac E [Ab now] 3::N))) (λ(i,L,t)=>l.length-i) (0,.slice none 0 0,J3) ⟨Y4 _,Le.refl _,G⟩ ?_);rintro⟨i,L,t⟩ w ⟨hi,m,b⟩;clear G;refine gN 1 ?_ ?_<;>intro am
 ·obtain⟨x,hx⟩:∃x,l[i]?=some x:=⟨_,Y2 om⟩
  have aj:=Y7 hx;obtain⟨p,ad,hp⟩:=R3 (l:=l) (cells:=Xa) (λ_=>rfl) b (Z.mono m) i x hx;subst ad;refine gG 0 (.val (.ii O O om om KK Jf) O ?_);refine .val (.as (.IA (.of O) (by intro j v hj;rw[Yd];exact hp j v hj) R9 Jf O) O) O ?_;refine gH 5 ?_;intro av w b;refine .Bv (cap:=[ptr C 0,ptr D 0,ptr E 0]) func220 O (.of O) (A3 O X4) O (Xnv n d a c l Q g ps H now hn C D E x.name _ (b.x [6,6,6,6,6])) ?_;rintro _ w ⟨rfl,b⟩;try dsimp only[List.eraseIdx]at b
  refine gH 4 ?_;have ai:=Ww g aj;refine .p_ (T:=λv w=>∃o pa A,v=.slice pa (path l x.name).length A/\Le t o/\(path l x.name).length<=A/\(m_ ps l now x.name=true->RS o pa 1 (path l x.name).length ((path l x.name).map λr=>S r.name))/\Aa B w o _) (v0:=.slice none (path l x.name).length (path l x.name).length) O O O func224 O (λf=>(X6 (.gd f O) (X6 (.gd f O) X4))) O (λf=>(wZ n d a c l Q g x.name _ b).mono λe w' ⟨v,he,V,ra,rc,hv,u,K,y,ac⟩=>⟨v,he,V,ra,rc,hv,u,K,λ_=>y,ac⟩) (λaf=>⟨t,none,_,O,Le.refl _,Ya _,λh=>Yz h af,b⟩) ?_;rintro _ w ⟨o,pa,A,rfl,F,ah,ab,b⟩;obtain⟨M,ae,y⟩:∃M,sliced pa (1:Int).toNat (path l x.name).length A 1=.slice M (((path l x.name).map Ah.name).drop 1).length (A-1)/\(m_ ps l now x.name=true->RS o M 1 (((path l x.name).map Ah.name).drop 1).length (X2 tC (((path l x.name).map Ah.name).drop 1))):=by
   have e8:(((path l x.name).map Ah.name).drop 1).length=(path l x.name).length-1:=by rw[Y6,Yj]
   refine⟨_,by rw[e8];rfl,λhd=>?_⟩;obtain⟨a',W,X⟩:=Oq (ab hd) (k:=1) ai ah;injection W with W
   rw[tS,e8];have e7:((path l x.name).map λr=>S r.name).drop (1*1)=(((path l x.name).map Ah.name).drop 1).map S:=by rw[yC,jM];rfl
   rw[e7]at X;rw[<-W]at X;exact X
  refine .Aj O O (λf=>(Ex.as (.FD (.gd f O) (.of O) om om D6 AQ) ae)) O (gH 1 ?_);refine .Au (T:=λw=>Aa B w o _) O O O func223 O (λf=>(X6 (.gd f O) (X6 (.gd f O) X4))) O (λf=>Xbf M (A-1) (((path l x.name).map Ah.name).drop 1) (by rw[Y6,Yj];have:=mq g x.name;omega) (m_ ps l now) 220 _ func220 O [ptr C 0,ptr D 0,ptr E 0] _ (λw h=>R3 (cells:=tC) (λ_=>rfl) h (y f)) (λs hs w h=>Xnv n d a c l Q g ps H now hn C D E s _ h) b) b ?_;clear b;rintro w b;refine gM 2 ?_ ?_<;>intro q an
  ·have ap:(((l.take i).filter (RN ps l now)).map Ah.name).length<=100000:=by rw[Yj];exact Yq (EP ..) (by rw[Yl];omega)
   refine gG 8 ?_;intro aw au ax P w b;refine A_ (i+1,_,o) O ⟨om,m.trans F,?_⟩;rw[Yv,hx,DE,T5,Jq,Y9 (show RN ps l now x=true from q),gk,Yn,Yu,ED,Yn,Y0,Yu,ED];exact(b.z [4,4,4,4,4,6] 6 1)
  refine gG 2 (A_ (i+1,_,o) O ⟨om,m.trans F,?_⟩)
  (try dsimp only)
  rw[Yv,hx,DE,T5,Jq,Y3 (nB (show RN ps l now x=false from q)),gk,Yy];exact(b.z [4,4,4,4,4,6] 6 1)
 refine gG 2 ?_;rw[Yo (show l.length<=i by omega)]at b;obtain⟨R,U,rfl,ag,_⟩:=b.vS 0;obtain⟨V,u,aa,b⟩:=b.fV 0;try dsimp only[List.eraseIdx]at b
 exact⟨V,R,U,O,Y.trans (m.trans u),ag,aa,b.s⟩
theorem Xz0(m t f:Lu)(i:Oa)(k:Nat)(c:List Pq)(o:c.length<=100)(j:∀h∈c,h.1.length<=1000000/\h.2.length<=1000000)(l:RS I i 2 c.length (X2 X5 c))(N:La)(d:Aa B w I N):Ce B I N 83 [.agg #[S m,S t,.slice i c.length k,S f]] w (.tuple #[Ab (Xy c).1,Ab ((Xy c).2:Nat)]):=by
 refine gH 4 ?_;intro b1 w d;refine gE 0 (vD m t _ i k c TE o (λh g=>(j h g).1) l) ?_;intro w d;refine gN 7 ?_ ?_<;>intro a
 ·exact gG 2 ⟨by unfold Xy;rw[Y9 (oh a)];rfl,d.s⟩
 refine gE 1 (vD m t _ i k c CL o (λh g=>(j h g).1) l) ?_;intro w d;refine gN 7 ?_ ?_<;>intro b
 ·exact gG 2 ⟨by unfold Xy;rw[Y3 (oh a),Y9 (oh b)];rfl,d.s⟩
 refine gE 1 (Xyd _ (tH CL c (λh g=>(j h g).2)).1) ?_;intro w d;refine gM 11 ?_ ?_<;>intro e n
 ·exact gG 2 ⟨by unfold Xy;rw[Y3 (oh a),Y3 (oh b),Y9 e];rfl,d.s⟩
 exact gG 3 ⟨by unfold Xy;rw[Y3 (oh a),Y3 (oh b),Y3 (nB e)];rfl,d.s⟩
theorem Xsc(o:Nat)(d:Lu)(t:d.length<=1000000)(u:Kz I)(N:La)(a:Aa B w I (Ac o [S d] 172::N)):Cz 82 [ptr o 0] w λv w'=>∃J y A,v=.tuple #[.slice y (CW (d.length+1) d []).1.length A,Ab ((CW (d.length+1) d []).2.1:Nat)]/\Le I J/\(CW (d.length+1) d []).1.length<=A/\RS J y 2 (CW (d.length+1) d []).1.length (X2 X5 (CW (d.length+1) d []).1)/\Aa B w' J (Ac o [S (CW (d.length+1) d []).2.2] 172::N):=by
 refine gG 4 ?_;replace a:=a.Ai 124 2;refine .lk [0,5] (σ:=Lu×List Pq×Va) (λ(s,b,n) _m=>(4,n)::_m) (λ(s,b,n) w=>s.length<=1000000/\CW (d.length+1) d []=CW (s.length+1) s b/\b.length<=32/\Aa B w I (An 124 2 n b.length (X2 X5 b)::Ac o [S s] 172::N)) (λ(s,b,n)=>s.length) (d,[],.slice none 0 0) ⟨t,O,Y4 _,a⟩ ?_;rintro⟨s,b,n⟩ w ⟨t,l,G,a⟩;obtain⟨ka,q,rfl,i,_⟩:=a.vS 0
 conv at l=>rhs;rw[CW]
 refine gE 1 (Xvs o s t u) ?_;intro w a;refine gM 11 ?_ ?_<;>intro c x
 ·refine gG 4 ?_;rw[l,Y9 (show HH s=true from c)];replace a:=a.px [1];obtain⟨J,j,e,a⟩:=a.fV 0;exact⟨J,ka,q,O,j,i,e,a⟩
 refine gN 7 ?_ ?_<;>intro f
 ·refine gG 4 ?_;intro E w a;refine .Aw (rfl) (gG 2 (.Ct (rfl) (gG 6 ?_)));rw[l,Y3 (nB (show HH s=false from c)),Y3 (oh f),Y9 (oh f)];replace a:=(((a.pick 1 O).pick 2 O).drop (k:=2) O)
  obtain⟨J,j,e,a⟩:=a.fV 0;exact⟨J,ka,q,O,j,i,e,a⟩
 refine gG 3 ?_;intro E w a;refine gN 0 ?_ ?_<;>intro g
 ·refine gE 1 (Xyt _ (oh (Y_ s)) u) ?_;intro w a;refine gG 7 ?_;intro w a;refine gM 0 ?_ ?_<;>intro m h
  ·refine gG 6 ?_;rw[l,Y3 (nB (show HH s=false from c)),Y3 (oh g),Y3 (oh f),Y9 (oh h)];replace a:=(((a.pick 1 O).pick 2 O).drop (k:=2) O)
   obtain⟨J,j,e,a⟩:=a.fV 0;exact⟨J,ka,q,O,j,i,e,a⟩
  refine gG 5 ?_;intro D C F p w a;have e0:(X3 s).2.1=0:=by have H:=g;omega
  have r:=mj s e0;refine A_ (_,b++[(Io (X3 s).1).1],_) O ⟨om,?_,by rw[Y0];show _+1<=32;omega,?_⟩ (r)
  ·(try dsimp only)
   rw[l,Y3 (nB (show HH s=false from c)),Y3 om,Y3 om,Y3 (oh h)];exact vT _ _ _ _ om om
  ·(try dsimp only)
   rw[KP,show(b++[(Io (X3 s).1).1]).length=b.length+1 from Y0];exact(a.z [1,2] 2 1)
 refine gT 2 (λm h=>?_);refine gG 6 ?_;rw[l,Y3 (nB (show HH s=false from c)),Y9 (oh g)];replace a:=(((a.pick 1 O).pick 2 O).drop (k:=2) O)
 obtain⟨J,j,e,a⟩:=a.fV 0;exact⟨J,ka,q,O,j,i,e,a⟩
theorem Xzu(s:Lu)(d:s.length<=1000000)(n:Int)(N:La)(c:Aa B w I N):Ce B I N 84 [S s,Ab n] w (Ab (Se s.length n:Nat)):=by
 refine gN 6 ?_ ?_<;>intro b
 ·exact gG 1 ⟨by unfold Se;rw[Y9 (oh b)];rfl,c⟩
 refine gN 5 ?_ ?_<;>intro a
 ·exact gG 1 ⟨by unfold Se;rw[Y3 (oh b),Y9 (oh a)];rfl,c⟩
 exact gG 1 ⟨by unfold Se;rw[Y3 (oh b),Y3 (oh a)];rfl,c⟩
theorem Xr7(s:Lu)(C:s.length<=1000000)(r:Kz I)(N:La)(a:Aa B w I N):Cz 37 [S s] w λv w'=>∃J o p,v=.tuple #[.agg #[S (X0 s).1.Ax,S (X0 s).1.target,.slice o (X0 s).1.Af.length p,S (X0 s).1.body],Ab ((X0 s).2:Nat)]/\Le I J/\(X0 s).1.Af.length<=p/\RS J o 2 (X0 s).1.Af.length (X2 X5 (X0 s).1.Af)/\Aa B w' J N:=by
 refine gG 5 ?_;intro z w a;refine gN 0 ?_ ?_<;>intro b
 ·refine gH 3 ?_;intro w a;refine gG 0 ?_;rw[show X0 s=_ from by unfold X0;rw[Y9 (oh b)]];exact⟨I,none,0,O,Le.refl _,Ya _,RS.nil _ _,a.s⟩
 refine gH 5 ?_;intro k w a;refine gE 0 (Xvs k s om r) ?_;intro w a;have x:=Y_ s;refine gN 7 ?_ ?_<;>intro c
 ·refine gH 4 ?_;intro w a;refine gG 0 ?_;rw[show X0 s=_ from by unfold X0;rw[Y3 (oh b),Y9 (oh c)]];exact⟨I,none,0,O,Le.refl _,Ya _,RS.nil _ _,a.s⟩
 refine gE 1 (QA _ om r) ?_;intro w a;refine gG 8 ?_;intro A w a;refine gN 0 ?_ ?_<;>intro d
 ·refine gF 1 (Xsc k (X3 s).2.2 om r) ?_;rintro _ w ⟨J,o,p,rfl,q,u,l,a⟩;have t:=xf (n:=s.length) ((X3 s).2.2.length+1) (X3 s).2.2 [] om de sz;refine gG 9 ?_;intro w a;refine gM 0 ?_ ?_<;>intro m e
  ·refine gE 1 (Xz0 _ _ _ o p _ om (λh y=>by have:=t.2.1 h y;omega) l) ?_;intro w a;refine gM 7 ?_ ?_<;>intro j f
   ·refine gE 5 (Xzu _ om _) ?_;intro w a;refine gM 3 ?_ ?_<;>intro i g
    ·refine gH 4 ?_;intro w a;refine gG 0 ?_;rw[show X0 s=_ from by unfold X0;rw[Y3 (oh b),Y3 (oh c),Y3 (oh d),Y3 (oh e),Y3 (oh f),Y9 (oh g)]];exact⟨J,none,0,O,q,Ya _,RS.nil _ _,a.s⟩
    refine gH 9 ?_;intro w a;refine gG 0 ?_;rw[show X0 s=_ from by unfold X0;rw[Y3 (oh b),Y3 (oh c),Y3 (oh d),Y3 (oh e),Y3 (oh f),Y3 (oh g)]];exact⟨J,o,p,O,q,u,l,a.s⟩
   refine gT 2 (λi g=>?_);refine gH 4 ?_;intro w a;refine gG 0 ?_;rw[show X0 s=_ from by unfold X0;rw[Y3 (oh b),Y3 (oh c),Y3 (oh d),Y3 (oh e),Y9 (oh f)]];exact⟨J,none,0,O,q,Ya _,RS.nil _ _,a.s⟩
  refine gU 2 (λj f=>?_);refine gT 2 (λi g=>?_);refine gH 4 ?_;intro w a;refine gG 0 ?_;rw[show X0 s=_ from by unfold X0;rw[Y3 (oh b),Y3 (oh c),Y3 (oh d),Y9 (oh e)]];exact⟨J,none,0,O,q,Ya _,RS.nil _ _,a.s⟩
 refine gU 3 (λm e=>?_);refine gU 2 (λj f=>?_);refine gT 2 (λi g=>?_);refine gH 4 ?_;intro w a;refine gG 0 ?_;rw[show X0 s=_ from by unfold X0;rw[Y3 (oh b),Y3 (oh c),Y9 (oh d)]];exact⟨I,none,0,O,Le.refl _,Ya _,RS.nil _ _,a.s⟩
def SI(I:Im)(F:List Pq×Nat)(B:Wo)(N:La)(v:Va)(w:Wo):Prop:=∃a,v=.tuple #[a,Ab (F.2:Nat)]/\Aa B w I (An 124 2 a F.1.length (X2 X5 F.1)::N)
theorem Xob{F:List Pq×Nat}{e:Nat}(h:F=([],e))(b:Le I I)(a:Aa B w I N):SI I F B N (.tuple #[.slice none 0 0,Ab (e:Nat)]) w:=by
 subst h;exact⟨_,O,a.Ai 124 2⟩
theorem Vh{F:List Pq×Nat}{b:Va}{a:List Pq}(h:F=(a,0))(d:Le I I)(c:Aa B w I (An 124 2 b a.length (X2 X5 a)::N)):SI I F B N (.tuple #[b,Ab 0]) w:=by
 subst h;exact⟨_,O,c⟩
theorem Xmt(s:Lu)(H:s.length<=1000000)(C:AX I)(N:La)(c:Aa B w I N):Cz 86 [S s] w λv w'=>SI I (KY s) B N v w':=by
 refine gF 5 (Xxv s H C) ?_;rintro _ w ⟨q,rfl,c⟩;refine gG 2 ?_;have r:=iP (BW s);rw[mg]at r;replace c:=c.Ai 124 2;refine .lk [5,11,12] (σ:=List Pr×Va×Nat) (λ(a,n,i) _m=>(4,n)::(13,Ab (i:Nat))::_m) (λ(a,n,i) w=>i<=(BW s).length/\KY s=Ji ((BW s).drop i) a/\a.length<=32/\Aa B w I (An 124 2 n a.length (X2 X5 a)::Ac q ((BW s).map S) 9::N)) (λ(a,n,i)=>(BW s).length-i) ([],.slice none 0 0,0) ⟨Y4 _,O,Y4 _,c⟩ ?_;rintro⟨a,n,i⟩ w ⟨hi,g,u,c⟩;refine gN 1 ?_ ?_<;>intro D
 ·obtain⟨x,hx⟩:∃x,(BW s)[i]?=some x:=⟨_,Y2 om⟩
  have A:=Xi4 hx H;have t:=Xuc hx;rw[t]at g;refine gH 1 ?_;refine .val (.lo O c (k:=1) O Bg (by rw[Yk];(try rw[Yd]);rw[Dm,Yr,hx];rfl)) O ?_;refine gM 3 ?_ ?_<;>intro d E
  ·refine gG 2 (A_ (_,_,i+1) O ⟨om,?_,u,c⟩);rw[g,Ji,Y9 (su d)]
  refine gF 1 (Wu x A C) ?_;rintro _ w ⟨T,U,Q,rfl,b,c⟩;obtain⟨ka,R,rfl,M,_⟩:=c.vS 0;refine gG 10 ?_;intro P w c;refine gN 0 ?_ ?_<;>intro F
  ·refine gT 3 (λh j=>?_);exact gG 3 (Xob (e:=5) (by rw[g,Ji,Y3 (su d),Y9 om]) (Le.refl _) c.s)
  refine gM 3 ?_ ?_<;>intro f G
  ·have l:KU x=none:=by
    cases y:KU x with
    | none=>rfl
    | some p=>rw[y]at b;rw[b.2.2]at f;cases f
   rw[l]at b;subst b;refine gT 4 (λh j=>?_);exact gG 3 (Xob (e:=11) (by rw[g,Ji,Y3 (su d),Y3 om,l]) (Le.refl _) c.s)
  obtain⟨p,m⟩:∃p,KU x=some p:=by
   cases y:KU x with
   | some p=>exact⟨p,O⟩
   | none=>rw[y]at b;rw[b]at f;cases f
  rw[m]at b;obtain⟨rfl,rfl,rfl⟩:=b;refine gG 7 ?_;intro K J L o w c;refine A_ (a++[p],_,i+1) O ⟨om,?_,by rw[Y0];show _+1<=32;omega,?_⟩
  ·try dsimp only
   rw[g,Ji,Y3 (su d),Y3 om,m]
  ·try dsimp only
   rw[KP,show(a++[p]).length=a.length+1 from Y0];exact(c.z [2,2] 2 1)
 refine gG 2 (.Aw (rfl) ?_);exact gG 3 (Vh (by rw[g,Yb om];rfl) (Le.refl _) c.s)
theorem wB{a:List Pq}{x:Pq}(h:a[i]?=some x):DD nm (a.take (i+1))=(if x.1=nm then(if(DD nm (a.take i)).2=0 then x.2 else(DD nm (a.take i)).1,(DD nm (a.take i)).2+1)else DD nm (a.take i)):=by
 rw[Yv,h,DE];unfold DD;rw[M7];rfl
theorem wg(j:Oa)(n:Nat)(l:List Pq)(nm:Lu)(p:l.length<=100)(k:RS I j 2 l.length (X2 X5 l))(N:La)(c:Aa B w I N):Ce B I N 89 [.slice j l.length n,S nm] w (.tuple #[S (DD nm l).1,Ab ((DD nm l).2:Nat)]):=by
 have e:=c;clear c;refine gG 7 (.lk [1,10,11] (σ:=Nat) (λi _m=>(6,S (DD nm (l.take i)).1)::(7,Ab ((DD nm (l.take i)).2:Nat))::(12,Ab (i:Nat))::_m) (λi w=>i<=l.length/\Aa B w I N) (λi=>l.length-i) 0 ⟨Y4 _,e⟩ ?_);rintro i w ⟨hi,c⟩;clear e;refine gN 1 ?_ ?_<;>intro g
 ·obtain⟨x,hx⟩:∃x,l[i]?=some x:=⟨_,Y2 om⟩
  have f:=gy nm (l.take i);rw[Yl]at f;obtain⟨q,rfl,m⟩:=Be (cells:=X5) (λ_=>rfl) k hx;refine gG 8 ?_;intro o w c;refine gM 0 ?_ ?_<;>intro a h
  ·refine gG 2 ?_;have b:DD nm (l.take (i+1))=DD nm (l.take i):=by rw[wB hx,Y3 (su a)]
   refine⟨i+1,⟨by rw[b];rfl,by rw[b];rfl,O,O,O,O,trivial⟩,⟨om,(c.y 0 1)⟩,om⟩
  refine gN 2 ?_ ?_<;>intro d
  ·refine gG 8 ?_;have b:DD nm (l.take (i+1))=(x.2,(DD nm (l.take i)).2+1):=by rw[wB hx,Y9 (su a),Y9 (oh d)]
   refine⟨i+1,⟨by rw[b];rfl,by rw[b];rfl,O,O,O,O,trivial⟩,⟨om,(c.y 0 1)⟩,om⟩
  refine gG 5 ?_;have b:DD nm (l.take (i+1))=((DD nm (l.take i)).1,(DD nm (l.take i)).2+1):=by rw[wB hx,Y9 (su a),Y3 (oh d)]
  refine⟨i+1,⟨by rw[b];rfl,by rw[b];rfl,O,O,O,O,trivial⟩,⟨om,(c.y 0 1)⟩,om⟩
 refine gG 4 ?_;rw[Yo om];exact⟨O,c⟩
theorem iK{cells:α->Lv}(l m:List α):X2 cells (l++m)=X2 cells l++X2 cells m:=by
 unfold X2;rw[Yn,PN]
theorem Sw(m t a:Lu)(g:Oa)(h:Nat)(C:List Pq)(M:t.length<=1000000)(L:a.length<=1000000)(o:Kz I)(N:La)(b:Aa B w I N):Cz 38 [.agg #[S m,S t,.slice g C.length h,S a]] w λv w'=>∃J g h,v=.tuple #[.slice g (BH m t a).1.length h,Ab ((BH m t a).2:Nat)]/\Le I J/\(BH m t a).1.length<=h/\RS J g 2 (BH m t a).1.length (X2 X5 (BH m t a).1)/\Aa B w' J N:=by
 refine gH 5 ?_;intro b1 w b;refine gE 0 (sn t 63 om o) ?_;intro w b;refine gF 8 (Xmt _ (oh (TI 63 t)) o.kn) ?_;rintro _ w ⟨P,rfl,b⟩;obtain⟨D,E,rfl,p,_⟩:=b.vS 0;have y:=oL (C_ 63 t).2.1;refine gM 12 ?_ ?_<;>intro c x
 ·refine gG 4 ?_;rw[show(BH m t a)=_ from by unfold BH;rw[Y9 (show aG m t=true from c)]];replace b:=b.py [1];obtain⟨J,j,f,b⟩:=b.fV 0;exact⟨J,D,E,O,j,p,f,b⟩
 refine gF 2 (Xmt _ om o.kn) ?_;rintro _ w ⟨Q,rfl,b⟩;obtain⟨R,T,rfl,A,_⟩:=b.vS 0;have z:=oL a;refine gN 8 ?_ ?_<;>intro d
 ·refine gG 3 ?_;rw[show(BH m t a)=_ from by unfold BH;rw[Y3 (nB (show aG m t=false from c)),Y9 (oh d)]];exact⟨I,none,0,O,Le.refl _,Ya _,RS.nil _ _,b.s⟩
 refine gM 7 ?_ ?_<;>intro u e
 ·refine gG 2 ?_;rw[show(BH m t a)=_ from by unfold BH;rw[Y3 (nB (show aG m t=false from c)),Y3 (oh d),Y9 (oh e)]];exact⟨I,none,0,O,Le.refl _,Ya _,RS.nil _ _,b.s⟩
 obtain⟨K,l,n,b⟩:=b.fV 0;try dsimp only[List.eraseIdx]at b
 refine gH 2 (.Bz (bytes:=32) b (.of O) (.of O) n (k:=0) O Iq (i:=t124) kr O O O O (fk (λr=>rfl) _) ⟨om,by unfold maxLen;omega⟩ O ?_);intro F w b;dsimp only[List.set]at b;refine gG 2 ?_;rw[show(BH m t a)=_ from by unfold BH;rw[Y3 (nB (show aG m t=false from c)),Y3 (oh d),Y3 (oh e)]];replace b:=b.py [1];rw[<-iK,<-Y0]at b;obtain⟨G,H,rfl,q,_⟩:=b.vS 0;obtain⟨J,j,f,b⟩:=b.fV 0;exact⟨J,G,H,O,l.trans j,q,f,b⟩
theorem Ty(s:Lu)(H:s.length<=1000000)(q:Kz I)(N:La)(a:Aa B w I N):Cz 88 [S s] w λv w'=>∃J y z,v=.tuple #[.slice y (EN (AK 59 s) []).1.length z,Ab ((EN (AK 59 s) []).2:Nat)]/\Le I J/\(EN (AK 59 s) []).1.length<=z/\RS J y 2 (EN (AK 59 s) []).1.length (X2 X5 (EN (AK 59 s) []).1)/\Aa B w' J N:=by
 refine gF 4 (Xhz s 59 H q) ?_;rintro _ w ⟨l,rfl,a⟩;refine gG 2 ?_;have F:=oW 59 s;replace a:=a.Ai 124 2;refine .lk [11,12] (σ:=List Pq×Va×Nat) (λ(b,h,i) _m=>(4,h)::(13,Ab (i:Nat))::_m) (λ(b,h,i) w=>i<=(AK 59 s).length/\EN (AK 59 s) []=EN ((AK 59 s).drop i) b/\b.length<=20/\Aa B w I (An 124 2 h b.length (X2 X5 b)::Ac l ((AK 59 s).map S) 9::N)) (λ(b,h,i)=>(AK 59 s).length-i) ([],.slice none 0 0,0) ⟨Y4 _,O,Y4 _,a⟩ ?_;rintro⟨b,h,i⟩ w ⟨hi,d,p,a⟩;obtain⟨ka,M,rfl,o,_⟩:=a.vS 0;refine gN 1 ?_ ?_<;>intro r
 ·obtain⟨x,hx⟩:∃x,(AK 59 s)[i]?=some x:=⟨_,Y2 om⟩
  have L:=mr 59 s x (Y7 hx);have K:=xz x 32;have n:(AK 59 s).drop i=x::(AK 59 s).drop (i+1):=by rw[Ym (Y1.1 hx).1,(Y1.1 hx).2]
  rw[n]at d;have G:=TI 61 (Go.Lib.trimB x 32);refine gH 1 ?_;refine .val (.lo O a (k:=1) O Bg (by rw[Yk];(try rw[Yd]);rw[Dm,Yr,hx];rfl)) O ?_;refine gE 2 (Xnd x 32 de om) ?_;intro w a;refine gM 3 ?_ ?_<;>intro c t
  ·refine gG 2 (A_ (_,_,i+1) O ⟨om,?_,p,(a.x [1,1])⟩);rw[d,EN,Y9 (su c)]
  refine gN 3 ?_ ?_<;>intro e
  ·refine gG 2 ?_;rw[d,show EN (x::(AK 59 s).drop (i+1)) b=_ from by rw[EN,Y3 (su c),Y9 (oh e)]];exact⟨I,none,0,O,Le.refl _,Ya _,RS.nil _ _,a.s⟩
  refine gE 1 (sn _ 61 om q) ?_;intro w a;refine gH 11 (.Au (T:=λw=>Aa B w I _) O O O func146 O (λf=>(X6 (.gd f O) X4)) O (λf=>Xf1 (C_ 61 (Go.Lib.trimB x 32)).1 om _ a) a ?_);clear a;rintro w a;refine gH 4 (.Au (T:=λw=>Aa B w I _) O O O func147 O (λf=>(X6 (.gd f O) X4)) O (λf=>wU (C_ 61 (Go.Lib.trimB x 32)).2.1 om _ a) a ?_);clear a;rintro w a;refine gM 2 ?_ ?_<;>intro g u
  ·refine gG 2 ?_;rw[d,show EN (x::(AK 59 s).drop (i+1)) b=_ from by rw[EN,Y3 (su c),Y3 (oh e),Y9 (show aP _=true from g)]];exact⟨I,none,0,O,Le.refl _,Ya _,RS.nil _ _,a.s⟩
  refine gG 9 ?_;intro C A D j w a;refine A_ (b++[((C_ 61 (Go.Lib.trimB x 32)).1,(C_ 61 (Go.Lib.trimB x 32)).2.1)],_,i+1) O ⟨om,?_,by rw[Y0];show _+1<=20;omega,?_⟩
  ·(try dsimp only)
   rw[d,EN,Y3 (su c),Y3 (oh e),Y3 (nB (show aP _=false from g))]
  ·(try dsimp only)
   rw[KP,Y0];exact(a.x [1,1])
 refine gG 3 ?_;rw[d,Yb om,EN];replace a:=a.py [1];obtain⟨J,E,m,a⟩:=a.fV 0;exact⟨J,ka,M,O,E,o,m,a⟩
theorem cT(m t b:Lu)(f:Oa)(i:Nat)(a:List Pq)(n:a.length<=100)(g:∀h∈a,h.1.length<=1000000/\h.2.length<=1000000)(l:Kz I)(k:RS I f 2 a.length (X2 X5 a))(N:La)(c:Aa B w I N):Cz 39 [.agg #[S m,S t,.slice f a.length i,S b]] w λv w'=>∃J,v=.tuple #[S (Dh a).1,Ab ((Dh a).2:Nat)]/\Le I J/\Aa B w' J N:=by
 refine gH 4 ?_;intro b1 w c;refine gE 0 (vD m t _ f i a _ n (λh e=>(g h e).1) k) ?_;intro w c;refine gF 6 (Ty _ (tH mx a (λh e=>(g h e).2)).1 l) ?_;rintro _ w ⟨J,p,q,rfl,j,o,d,c⟩;refine gE 6 (wg p q _ _ (by have:=r_ (AK 59 (Xe mx a).1) [] de;omega) d) ?_;intro w c;exact gG 9 ⟨J,O,j,c.s⟩
end Go.Proofs.W9
namespace Rq
open Pc Gk Ul
end Rq
