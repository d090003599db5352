/- Part 3 of what the proof stands on. -/
import Derived.Test.YtnbngknffkcefaaGreatDoorF30B
set_option linter.unusedVariables false
set_option linter.unusedSimpArgs false
set_option maxHeartbeats 4000000
set_option maxRecDepth 100000
set_option synthInstance.maxHeartbeats 400000
set_option synthInstance.maxSize 10000
open Go Gk
variable {p:Addr}{listed:Array Bool}{af:Array Edge}{fs:Array Field}{ops Ed:Array Oper}{ts:Array TypeId}{held w1 want:Bool}{R:Ending->Wo->Prop}{L L' M:AB}{fd:Field}{fn:Func}{f:FuncId}{I J:Im}{DF DI hi DM:Int}{N Bh Hs:La}{G:List (Bool×Bool)}{pl:List (Nat×Nat)}{D Os T:List Int}{rest:List Oper}{Ar key nm Ay:Lu}{args cs ds news vs xs zs:Lv}{b bytes c cap db fuel i k kb lg m n n0 nn o off size u:Nat}{spare:Nat->Bool}{ps:Nat->Int}{a a0 ka:Oa}{op:Op}{d:Option Nat}{P:Program}{S1 S2 g1 g2:Prop}{pos:String}{H X α β σ:Type}{E dst src t' ty:TypeId}{us v v0:Va}{B w:Wo}{C:Wo->Prop}{A:X1}{K K':Bk}
namespace Go.Proofs.W9
open Gk Ul Pc DN Xm Tr Tk Tryz
theorem u2(a:Oa)(cap:Nat)(l:List (Nt))(C:l.length<=9223372036854775807)(q:Nt->Bool)(f:FuncId)(fn:Func)(o:prog.funcs[f]?=some fn)(m:Xf fn=true)(b:Lv)(N:La)(x:∀w,Aa B w I N->Jg w X8 4 a l)(A:∀(r:Nt) (n:r∈l) w,Aa B w I N->Calls prog f ([Value.agg (X8 r).toArray]++b).toArray w (AY λv w'=>v=.bool (q r)/\Aa B w' I N))(c:Aa B w I N):Ce B I N 174 [.slice a l.length cap,.func (.func f) #[] b.toArray] w (Ab (Eu q l 0)):=by
 refine gG 4 (.lk [0,1,7] (σ:=Nat) (λi _m=>(8,Ab (i:Nat))::_m) (λi w=>i<=l.length/\(∀(j:Nat) t,j<i->l[j]?=some t->q t=false)/\Aa B w I N) (λi=>l.length-i) 0 ⟨Y4 _,λ_ _ h=>Yz h om,c⟩ ?_);rintro i w ⟨hi,g,c⟩;refine gM 1 ?_ ?_<;>intro y z
 ·obtain⟨r,n⟩:∃r,l[i]?=some r:=⟨_,Y2 om⟩
  obtain⟨p,rfl,hx⟩:=x w c i r n;refine gH 6 (.val (.IA (.of O) hx mI R_ O) O (.Bv (cap:=b) o m (.of O) (A3 O X4) O (A r (Y7 n) w c) ?_));rintro _ w ⟨rfl,c⟩;refine gM 0 ?_ ?_<;>intro d u
  ·exact gG 2 ⟨by rw[iG g n d],c⟩
  refine gG 2 (rd (i+1) ⟨om,λj t D k=>?_,c⟩);rcases Yt j i with s|s
  ·exact g j t s k
  ·have e:j=i:=om
   subst e;rw[n]at k;cases k;exact d
 exact gG 1 ⟨by rw[iF (λj t k=>g j t (oh ((Y1.1 k).1)) k)],c⟩
theorem X9p(a:Oa)(cap:Nat)(l:List (Nt))(g:l.length<=9223372036854775807)(e:Nt->Bool)(b:FuncId)(fn:Func)(f:prog.funcs[b]?=some fn)(d:Xf fn=true)(c:Lv)(N:La)(i:∀w,Aa B w I N->Jg w X8 4 a l)(j:∀(r:Nt) (k:r∈l) w,Aa B w I N->Calls prog b ([Value.agg (X8 r).toArray]++c).toArray w (AY λv w'=>v=.bool (e r)/\Aa B w' I N))(h:Aa B w I N):Ce B I N 195 [.slice a l.length cap,.func (.func b) #[] c.toArray] w (.bool (l.any e)):=by
 refine gP 3 [] (u2 a cap l g e b fn f d _ N i j) ?_;rintro _ w ⟨rfl,h⟩;exact gG 2 ⟨by rw[<-ZX e l 0],h⟩
theorem kW{l:List Nt}(m:Aa B w I N)(f:N[k]?=some (An 128 4 (.slice a l.length c) l.length (X2 X8 (l)))):Jg w X8 4 a l:=λi r g=>by
 obtain⟨b,cap,rest,p,_,_,_,_,e⟩:=m.AF f (oh ((Y1.1 g).1));injection p with h q d
 subst h;have n:=e.block (k:=k) (by rw[pD ((Y1.1 f).1)];rfl);refine⟨_,O,λj v o=>?_⟩;rw[Addr.add_add];have d:=l0 (cells:=X8) (s:=4) (λ_=>rfl) g o
 have:=Xz n (by rw[Ye (Y1.1 d).1];exact d)
 rw[CY,Yk];exact this
theorem fk{α:Type}{cells:α->Lv}(h:∀r,(cells r).all Value.oneCell'=true):∀l:List α,(X2 cells l).all Value.oneCell'=true
 | []=>rfl
 | x::l=>by
  show(cells x++X2 cells l).all _=true
  rw[ux,h x,fk h l];rfl
theorem PX(r:Nt)(t:Lu)(a:Nat)(N:La)(b:Aa B w I (Ac a [S t] 9::N)):Ce B I (Ac a [S t] 9::N) 295 [.agg (X8 r).toArray,ptr a 0] w (.bool (r.ticket==t)):=by
 refine gG 7 ?_;intro c w b;exact⟨O,b.s⟩
theorem Xud(a:Oa)(c:Nat)(l:List Nt)(f:l.length<=100000)(t:Lu)(N:La)(e:∀(w:Wo) (X:X1),Aa B w I (X::N)->Jg w X8 4 a l)(b:Aa B w I N):Ce B I N 197 [.slice a l.length c,S t] w (Ab (JB l t)):=by
 refine gH 4 ?_;intro d w b;refine gP 0 [] (u2 a c l om (λr=>r.ticket==t) 295 _ func295 O _ _ (λw h=>e w _ h) (λr g w h=>PX r t d _ h)) ?_;rintro _ w ⟨rfl,b⟩;exact gG 1 ⟨O,b.s⟩
theorem rJ(a:Oa)(c:Nat)(l:List Nt)(m:l.length<=100000)(e:RS I a 4 l.length (X2 X8 l))(N:La)(b:Aa B w I N):Cz 66 [.slice a l.length c] w λv w'=>Aa B w' I (An 128 4 v (l).length (X2 X8 (l))::N):=by
 refine gH 2 (.val (Ex.F9 (.of O) (.of O) FM) O ?_);refine gM 0 ?_ ?_<;>intro d g
 ·refine gG 1 ?_;cases a with
  | some p=>simp at d
  | none =>
  have f:l=[]:=by
   cases l with
   | nil=>rfl
   | cons x l=>obtain⟨p,h,_⟩:=e.2 sz;cases h
  subst f;exact b.Ai 128 4
 refine gH 2 ?_;intro j w b;replace b:=b.A2 (k:=0) (size:=4) O O (Y4 _);refine .Bz (bytes:=48) b (.of O) (.of O) e (k:=0) O FM (i:=t128) kr O O O O (fk (λr=>rfl) l) ⟨om,by unfold maxLen;omega⟩ O ?_;intro n w b;rw[Yk,Db]at b;exact gG 1 (b)
theorem wc(h:Nat)(lim:Int)(x y z:Nat)(a:Oa)(c:Nat)(q:List Nt)(l:q.length<=64)(j:RS I a 4 q.length (X2 X8 q))(k:q.length<=c)(N:La)(b:Aa B w I (Ac h [Ab lim,AM x,AM y,AM z,.slice a q.length c] 159::N)):Cz 27 [ptr h 0] w λv w'=>∃J d e,v=.slice d q.length e/\Le I J/\q.length<=e/\RS J d 4 q.length (X2 X8 q)/\Aa B w' J (Ac h [Ab lim,AM x,AM y,AM z,.slice a q.length c] 159::N):=by
 refine gF 5 (rJ a c q om j) ?_;rintro m w b;refine gG 1 ?_;obtain⟨d,e,rfl,g,_⟩:=b.vS 0;obtain⟨J,i,f,b⟩:=b.fV 0;exact⟨J,d,e,O,i,g,f,b⟩
theorem OZ(cs:Lv)(x y z:Nat)(h:Int)(c:cs[24]?=some (AM x))(d:cs[25]?=some (AM y))(e:cs[26]?=some (AM z))(f:cs[27]?=some (Ab h))(N:La)(a:Aa B w I N):Cz 109 [.agg cs.toArray] w λv w'=>∃g,v=ptr g 0/\Aa B w' I (Ac g [Ab (max 1 (min h 9)),AM x,AM y,AM z,.slice none 0 0] 159::N):=by
 refine gG 0 (.GJ a (.of O) O ?_);intro b1 w a;refine gH 2 (.val (.lo O a (k:=0) O BJ f) O (gH 3 (.val (.lo O a (k:=0) O O6 c) O (gH 1 (.val (.lo O a (k:=0) O O6 d) O (gH 1 (.val (.lo O a (k:=0) O O6 e) O (gG 3 ?_))))))));intro b w a;exact⟨b,O,a.s⟩
theorem Xms(o:Nat)(lim:Int)(x y z:Nat)(a:Oa)(c:Nat)(q:List Nt)(M:q.length<=64)(F:RS I a 4 q.length (X2 X8 q))(L:q.length<=c)(v:∀n∈q,FO n=true)(now:Int)(G:0<=now)(H:now<=1099511627776)(N:La)(f:Aa B w I (Ac o [Ab lim,AM x,AM y,AM z,.slice a q.length c] 159::N)):Ce B I (Ac o [Ab lim,AM x,AM y,AM z,.slice a q.length c] 159::N) 124 [ptr o 0,Ab now] w (.tuple #[.agg (X8 (Ej q now).1).toArray,.bool (Ej q now).2]):=by
 refine gH 11 ?_;intro D E w f;refine gG 0 ?_;have l:=f;clear f;refine .lk [1,4,6,13,14] (σ:=Nat×Nt) (λ(i,b) _m=>(15,Ab (i:Nat))::_m) (λ(i,b) w=>i<=q.length/\(MQ none (q.take i)=none/\i=0/\b=⟨[],[],0,1099511627777⟩\/MQ none (q.take i)=some b)/\Aa B w I (Ac E [S b.ticket,S b.url,Ab b.tries,Ab b.next] 128::Ac D [S [],S [],Ab 0,Ab 0] 128::Ac o [Ab lim,AM x,AM y,AM z,.slice a q.length c] 159::N)) (λ(i,b)=>q.length-i) (0,⟨[],[],0,1099511627777⟩) ⟨Y4 _,.inl ⟨O,O,O⟩,l⟩ ?_;rintro⟨i,b⟩ w ⟨hi,e,f⟩;clear l;refine gN 1 ?_ ?_<;>intro C
 ·refine gG 0 ?_;obtain⟨n,t⟩:∃n,q[i]?=some n:=⟨_,Y2 om⟩
  obtain⟨p,u,hx⟩:=Be (cells:=X8) (λ_=>rfl) F t;subst u;have J:=vv (v n (Y7 t));have k:MQ none (q.take (i+1))=MQ (MQ none (q.take i)) [n]:=by rw[Yv,t,DE,wq]
  refine gG 9 ?_;intro K w f;refine gN 0 ?_ ?_<;>intro g
  ·refine gH 4 ?_;intro w f;refine gG 0 (rd (i+1,n) ⟨om,.inr ?_,(f.z [3,3,3] 3 1)⟩);rcases e with⟨d,A,m⟩|d
   ·rw[k,d];rfl
   ·rw[k,d];show MQ (some (if n.next<b.next then n else b)) []=_
    rw[Y9 (oh g)];rfl
  refine gG 2 (rd (i+1,b) ⟨om,.inr ?_,(f.z [3,3,3] 3 1)⟩);rcases e with⟨d,A,m⟩|d
  ·subst m;exfalso;have r:=g;(try dsimp only at r);omega
  ·rw[k,d];show MQ (some (if n.next<b.next then n else b)) []=_
   rw[Y3 (oh g)];rfl
 refine gN 5 ?_ ?_<;>intro h
 ·refine gH 3 ?_;intro w f;refine gG 0 (⟨?_,f.s⟩);have j:i=q.length:=om
  subst j;rw[Fy]at e;unfold Ej;rcases e with⟨d,_⟩|d
  ·rw[d];first|done|rfl
  ·rw[d];dsimp only
   rw[Y9 (oh h)];first|done|rfl
 refine gH 3 ?_;intro w f;refine gG 0 (⟨?_,f.s⟩);have j:i=q.length:=om
 subst j;rw[Fy]at e;unfold Ej;rcases e with⟨d,A,m⟩|d
 ·subst m;exfalso;have r:=h;(try dsimp only at r);omega
 ·rw[d];dsimp only
  rw[Y3 (oh h)];first|done|rfl
theorem SX(r:Nt)(d:r.ticket.length<=60)(e:r.url.length<=120)(b:Kx I)(c:Bf I)(N:La)(a:Aa B w I N):Ce B I N 196 [.agg (X8 r).toArray] w (.bool (!FO r)):=by
 refine gH 3 ?_;intro b1 w a;refine gE 0 (Xps r om om b c) ?_;intro w a;exact gG 2 ⟨O,a.s⟩
theorem Xn2(L:Nat)(lim:Int)(x y z:Nat)(a:Oa)(c:Nat)(q:List Nt)(hq:q.length<=64)(H:RS I a 4 q.length (X2 X8 q))(Q:q.length<=c)(W:Oa)(lc:Nat)(l:List Nt)(hl:l.length<=70)(E:∀n∈l,n.ticket.length<=60/\n.url.length<=120)(u:RS I W 4 l.length (X2 X8 l))(hK:Kx I)(hP:Bf I)(N:La)(b:Aa B w I (Ac L [Ab lim,AM x,AM y,AM z,.slice a q.length c] 159::N)):Cz 113 [ptr L 0,.slice W l.length lc] w λv w'=>∃J a2 c2,v=Ab ((Fv q l).2:Nat)/\Le I J/\RS J a2 4 (Fv q l).1.length (X2 X8 (Fv q l).1)/\(Fv q l).1.length<=c2/\Aa B w' J (Ac L [Ab lim,AM x,AM y,AM z,.slice a2 (Fv q l).1.length c2] 159::N):=by
 refine gP 2 [] (X9p W lc l om (λn=>!FO n) 196 _ func196 O [] _ (λw h=>R3 (cells:=X8) (λ_=>rfl) h u) (λr hr w h=>SX r (E r hr).1 (E r hr).2 hK hP _ h)) ?_;rintro _ w ⟨rfl,b⟩;refine gM 0 ?_ ?_<;>intro o an
 ·refine gG 1 ?_;have t:Fv q l=(q,1):=by unfold Fv;rw[Y9 o]
  rw[t];exact⟨I,a,c,O,Le.refl _,H,Q,b⟩
 refine gF 4 (rJ a c q om H) ?_;rintro v5 w b;have A:=b;clear b;refine gG 4 (.lk [0,1,15,16] (σ:=Nat×List Nt×Va) (λ(i,all,v) _m=>(5,v)::(17,Ab (i:Nat))::_m) (λ(i,all,v) w=>i<=l.length/\all=q++l.take i/\Lm q l=Lm all (l.drop i)/\Aa B w I (An 128 4 v (all).length (X2 X8 (all))::Ac L [Ab lim,AM x,AM y,AM z,.slice a q.length c] 159::N)) (λ(i,all,v)=>l.length-i) (0,q,v5) ⟨Y4 _,by simp,O,A⟩ ?_);rintro⟨i,all,v⟩ w ⟨hi,e,f,b⟩;clear A;refine gN 1 ?_ ?_<;>intro ac
 ·obtain⟨n,T⟩:∃n,l[i]?=some n:=⟨_,Y2 om⟩
  obtain⟨p,V,hx⟩:=Be (cells:=X8) (λ_=>rfl) u T;subst V;have D:l.drop i=n::l.drop (i+1):=by rw[Ym om,(Y1.1 T).2]
  have C:all.length<=134:=by rw[e];simp only[Y0,Yl];omega
  refine gG 4 ?_;intro b7 w b;obtain⟨Y,Z,rfl,F,_⟩:=b.vS 1;refine gH 3 ?_;replace b:=(b.pick 1 O);try dsimp only[List.eraseIdx]at b
  refine gP 0 [] (Xud Y Z all om _ _ (λw X h=>kW h (k:=1) O)) ?_;rintro _ w ⟨rfl,b⟩;refine gN 1 ?_ ?_<;>intro j
  ·refine gG 1 ?_;have d:(l.any λn=>!FO n)=false:=su o
   have G:(all.any λx=>x.ticket==n.ticket)=true:=by
    rw[<-ZX _ all 0];exact decide_eq_true (by have M:=j;unfold JB at M;omega)
   have t:Fv q l=(q,7):=by unfold Fv;rw[Y3 (nB d),Y9 (by rw[f,D,Lm,G,Bool.true_or])]
   rw[t];exact⟨I,a,c,O,Le.refl _,H,Q,b.s⟩
  refine gG 7 ?_;intro ag af ah K w b;replace b:=(((b.pick 2 O).pick 1 O).drop (k:=2) O)
  have er:X2 X8 (all++[n])=X2 X8 all++[S n.ticket,S n.url,Ab n.tries,Ab n.next]:=by simp[X2,X8]
  have el:(all++[n]).length=all.length+1:=by simp
  have U:(all.any λx=>x.ticket==n.ticket)=false:=by
   rw[<-ZX _ all 0];exact decide_eq_false (by have M:=j;unfold JB at M;omega)
  refine A_ (i+1,_,_) O ⟨om,?_,?_,by rw[er,el];exact b⟩
  ·rw[e,Yv,T,DE,Yg]
  ·rw[f,D,Lm,U,K9]
 have R:i=l.length:=om
 subst R;rw[Fy]at e;have g:Lm q l=false:=by rw[f,nI];rfl
 have d:(l.any λn=>!FO n)=false:=su o
 have C:all.length=q.length+l.length:=by rw[e,Y0]
 obtain⟨Y,Z,rfl,F,_⟩:=b.vS 0;refine gN 3 ?_ ?_<;>intro m
 ·refine gG 1 ?_;have t:Fv q l=(q,5):=by unfold Fv;rw[Y3 (nB d),Y3 (nB g),Y9 (oh m)]
  rw[t];exact⟨I,a,c,O,Le.refl _,H,Q,b.s⟩
 refine gG 6 ?_;intro w b;have t:Fv q l=(q++l,0):=by unfold Fv;rw[Y3 (nB d),Y3 (nB g),Y3 (oh m)]
 rw[t];subst e;obtain⟨J,hJ,P,b⟩:=b.fV 0;exact⟨J,Y,Z,O,hJ,P,F,b⟩
theorem Xj5(cells:α->Lv)(l:List α)(k:Nat):X2 cells l=X2 cells (l.take k)++X2 cells (l.drop k):=by
 conv=>lhs;rw[<-Fw k l]
 unfold X2;rw[Yn,PN]
theorem Rw{cells:α->Lv}{s:Nat}(a:∀x,(cells x).length=s)(l:List α)(r:Lv)(b:k<=l.length):(X2 cells l++r).take (k*s)=X2 cells (l.take k):=by
 have h:=R0 a (l.take k);rw[Yl,M8 b]at h;rw[Xj5 cells l k,Yg,<-h,T8]
theorem Rv{cells:α->Lv}{s:Nat}(a:∀x,(cells x).length=s)(l:List α)(r:Lv)(b:k<=l.length):(X2 cells l++r).drop (k*s)=X2 cells (l.drop k)++r:=by
 have h:=R0 a (l.take k);rw[Yl,M8 b]at h;rw[Xj5 cells l k,Yg,<-h,pO]
theorem xt{α:Type}{cells:α->Lv}{s:Nat}(b:∀x,(cells x).length=s)(y:α)(v:Va)(k:Nat)(d:k<s)(r:Lv):∀(l:List α) (i:Nat) (x:α),l[i]?=some x->cells y=(cells x).set k v->(X2 cells l++r).set (i*s+k) v=X2 cells (l.set i y)++r
 | [],_,_,h,_=>by simp at h
 | a::l,0,x,h,c=>by
  cases h
  show(cells a++X2 cells l++r).set (0*s+k) v=cells y++X2 cells l++r
  rw[PT,Yk,Yg,ue _ _ (by rw[b];exact d),c,Yg]
 | a::l,i+1,x,h,c=>by
  show(cells a++X2 cells l++r).set ((i+1)*s+k) v=cells a++X2 cells (l.set i y)++r
  rw[Yg,nu _ _ (by rw[b,Sn];omega),b,Sn,show i*s+s+k-s=i*s+k by omega,xt b y v k d r l i x (su h) c,Yg]
theorem Xxe(l:List Nt)(i:Nat)(hi:i<l.length)(L:l.length<=100000)(s:Va)(N:La)(b:Aa B w I (An 128 4 s (l).length (X2 X8 (l))::N)):Cz 211 [s,Ab (i:Nat),Ab ((i:Int)+1)] w λv w'=>Aa B w' I (An 128 4 v (l.eraseIdx i).length (X2 X8 (l.eraseIdx i))::N):=by
 obtain⟨g,cap,r,rfl,H,p,J,K,b⟩:=b.AF (k:=0) O om;have o:∀x:Nt,(X8 x).length=4:=λ_=>rfl
 obtain⟨C,z,t⟩:∃C,sliced (some (ad g 0)) ((i:Int)+1).toNat l.length cap 4=.slice (some C) (l.length-(i+1)) (cap-(i+1))/\(0<l.length-(i+1)->C=ad g ((i+1)*4)):=by
  unfold sliced;rw[show((i:Int)+1).toNat=i+1 by omega];split
  ·exact⟨_,O,λh=>by omega⟩
  ·exact⟨_,O,λ_=>by(try dsimp only);rw[CY,Yk]⟩
 have y:sliced (some (ad g 0)) ((i+(l.length-(i+1)):Nat):Int).toNat (l.length:Int).toNat cap 4=.slice (some (ad g ((l.length-1)*4))) 1 (cap-(l.length-1)):=by
  unfold sliced
  (try rw[Yd]);rw[Yd,Y3 om,gn,CY,Yk,show i+(l.length-(i+1))=l.length-1 by omega,show l.length-(l.length-1)=1 by omega]
 have d:((X2 X8 l++r).drop ((i+1)*4)).take ((l.length-(i+1))*4)=X2 X8 (l.drop (i+1)):=by
  rw[Rv o l r om];have h:=R0 o (l.drop (i+1));rw[Y6]at h;rw[<-h,T8]
 have A:=Rw o l r (k:=i) om;have q:l.eraseIdx i=l.take i++l.drop (i+1):=Y5f ..;have n:(l.eraseIdx i).length=l.length-1:=by rw[List.length_eraseIdx];split<;>omega
 have a:=R0 o (l.eraseIdx i);have u:X2 X8 (l.eraseIdx i)=X2 X8 (l.take i)++X2 X8 (l.drop (i+1)):=by rw[q];unfold X2;rw[Yn,PN]
 refine gH 6 (.val (Ex.Adg (.of O) (.of O) (.of O) (.of O) om om om om FM R_) O (gU 3 (λD E=>?_)));refine gG 3 (gD [] [] [0,1,2,3,4,5,6,7] ?_);intro w b;refine gH 2 (A1.j 2 (λw=>.JR (.of O) (.of O) om om FM R_) ?_)
 (try rw[Yd]);rw[show(⟨g,0,none⟩:Addr)=ad g 0 from O,vy]
 refine gH 2 (A1.j 5 (λw=>.FD (.of O) (.of O) om om FM R_) ?_);rw[z];refine A1.e ?_;refine .Ld (size:=4) b (k:=0) O (.of O) (.of O) t FM (i:=t128) kr O (by rw[Y0];omega) (by rw[d];exact Dj.1 (fk (λr=>rfl) _)) om (by rw[Y0];omega) O ?_;intro w b;rw[d,A,<-u]at b;refine gH 5 (.val (.slc (.of O) (.of O) (.of O) om om om FM R_) O ?_);rw[y];refine WL.clear (s:=4) b (k:=0) O (.of O) FM Tm O de (by simp only[Y0,Y6];omega) ?_;intro w f c m b;refine gG 2 ?_;have F:f.take ((l.length-1)*4)=X2 X8 (l.eraseIdx i):=by
  rw[m];rw[<-n,<-a,T8]
 have G:f=X2 X8 (l.eraseIdx i)++f.drop ((l.length-1)*4):=by rw[<-F];exact(Fw _ _).symm
 rw[G]at b;rw[show i+(l.length-(i+1))=(l.eraseIdx i).length by omega];simp only[Y0,Y6]at c
 exact b.AR (k:=0) O om p a (by rw[a,Y6,c];omega)
theorem SD(Z:Nat)(lim:Int)(x y z:Nat)(a:Oa)(c:Nat)(q:List Nt)(hq:q.length<=64)(T:RS I a 4 q.length (X2 X8 q))(hc:q.length<=c)(W:∀n∈q,FO n=true)(e:Int)(p:lim=JN ⟨x,y,z,e⟩)(t:Lu)(ok:Bool)(now:Int)(al:0<=now)(A:now<=1099511627776)(N:La)(b:Aa B w I (Ac Z [Ab lim,AM x,AM y,AM z,.slice a q.length c] 159::N)):Cz 127 [ptr Z 0,S t,.bool ok,Ab now] w λv w'=>∃J a2 c2,v=Ab ((Gx ⟨x,y,z,e⟩ q t ok now).2:Nat)/\Le I J/\RS J a2 4 (Gx ⟨x,y,z,e⟩ q t ok now).1.length (X2 X8 (Gx ⟨x,y,z,e⟩ q t ok now).1)/\(Gx ⟨x,y,z,e⟩ q t ok now).1.length<=c2/\Aa B w' J (Ac Z [Ab lim,AM x,AM y,AM z,.slice a2 (Gx ⟨x,y,z,e⟩ q t ok now).1.length c2] 159::N):=by
 refine gP 6 [] (Xud a c q om t _ (λw X h=>R3 (cells:=X8) (s:=4) (λ_=>rfl) h T)) ?_;rintro _ w ⟨rfl,b⟩;refine gN 3 ?_ ?_<;>intro m
 ·refine gG 1 ?_;have E:Gx ⟨x,y,z,e⟩ q t ok now=(q,6):=by
   unfold Gx;split
   ·rfl
   ·rw[Y9 (oh m)]
  rw[E];exact⟨I,a,c,O,Le.refl _,T,hc,b⟩
 obtain⟨j,n,uJ,g⟩:∃(j:Nat) (n:Nt),JB q t=(j:Int)/\q[j]?=some n:=by
  rcases Xo5 (λn:Nt=>n.ticket==t) q 0 with⟨h,_⟩|⟨j,n,h1,h2,_⟩
  ·exfalso;have f:=m;unfold JB at f;rw[h]at f;omega
  ·exact⟨j,n,by unfold JB;rw[h1];simp,h2⟩
 rw[uJ];have U:=(Y1.1 g).1;have C:∀x:Nt,(X8 x).length=4:=λ_=>rfl
 have am:=vv (W n (Y7 g));have an:=R0 C q;have F:∀(e:Int),Gx ⟨x,y,z,e⟩ q t ok now=if ok=true\/JN ⟨x,y,z,e⟩<=n.tries+1 then(q.eraseIdx j,0)else(q.set j (TL ⟨x,y,z,e⟩ n now),0):=λe=>by
  unfold Gx;rw[uJ];(try rw[Yd]);rw[g];dsimp only
  rw[Y3 om]
 refine gF 4 (rJ a c q om T) ?_;rintro ao w b;refine gG 1 ?_;obtain⟨gb,cap,r,rfl,ah,D,aj,ak,b⟩:=b.AF (k:=0) O om;try dsimp only[List.set]at b
 have G:(X2 X8 q++r)[j*4+2]?=some (Ab n.tries):=by
  have f:=l0 (cells:=X8) (s:=4) (λ_=>rfl) g (j:=2) (v:=Ab n.tries) O;rw[Ye (Y1.1 f).1];exact f
 obtain⟨q1,i⟩:∃q1,q1=q.set j ⟨n.ticket,n.url,n.tries+1,n.next⟩:=⟨_,O⟩
 have H:q1.length=q.length:=by rw[i,jJ]
 have K:=R0 C q1;have A:q1[j]?=some (⟨n.ticket,n.url,n.tries+1,n.next⟩:Nt):=by rw[i,pD U]
 have L:(X2 X8 q++r).set (j*4+2) (Ab (n.tries+1))=X2 X8 q1++r:=by
  rw[i];exact xt C ⟨n.ticket,n.url,n.tries+1,n.next⟩ _ 2 de r q j n g O
 have o:(X2 X8 q1++r)[j*4+2]?=some (Ab (n.tries+1)):=by
  have f:=l0 (cells:=X8) (s:=4) (λ_=>rfl) A (j:=2) (v:=Ab (n.tries+1)) O;rw[Ye (Y1.1 f).1];exact f
 refine gH 2 (.val (.io O O om om FM R_) O ?_)
 (try rw[Yd]);rw[Yk]
 refine gH 4 (.val (.ld (v:=Ab n.tries) (.of O) b (k:=0) O BJ G) O (gH 3 (.s1 b (k:=0) O O O O Bl (by rw[Y0];omega) ?_)));intro w b;try dsimp only[List.set]at b
 rw[L]at b;refine gG 0 (.qt b (.val (λw b=>(.mo O)) O (.val (λw b=>(.mo O)) O (.Aj O O O (λd w b=>(.mo O)) O (.Aj O O O (λd w b=>(.nilCheck (.gd d O))) O ?_)))));refine .Aj O O O (λd w b=>(by first|exact .fieldAddr 2 (.gd d O) aF O O Bl O|exact .Bq 2 (.gd d O) aF O O Bl O)) O ?_;refine .Aj O O O (λd w b=>.ld (.gd d O) b (k:=0) O BJ o) O (.Aj O O O (λd w b=>(.mo O)) O (.Aj O O O (λd w b=>(.nilCheck (.gd d O))) O ?_));refine .Aj O O O (λd w b=>(by first|exact .fieldAddr 0 (.gd d O) jd O O Bl O|exact .Bq 0 (.gd d O) jd O O Bl O)) O ?_;refine .Aj O O O (λd w b=>(by first|exact(.ld (.gd d O) b (k:=0) O BJ O)|exact(.ld (.gd d O) b (k:=1) O BJ O))) O ?_;refine .Aj O O O (λd w b=>(.geq (.gd d O) (.gd d O))) O (.val (λw b=>(.po O O O)) O (.nil ?_));intro w b;refine gM 0 ?_ ?_<;>intro l ac
 ·refine gG 0 ?_;replace b:=b.AR (k:=0) O om D K om;try dsimp only[List.set]at b
  rw[<-H];refine gF 5 (Xxe q1 j om om _) ?_;rintro ap w b;obtain⟨vd,cd,rfl,P,_⟩:=b.vS 0;refine gG 4 ?_;intro w b;have E:Gx ⟨x,y,z,e⟩ q t ok now=(q.eraseIdx j,0):=by
   rw[F,Y9];have f:=l;simp only[EC,dq1]at f
   rcases f with h|h
   ·exact .inl h
   ·exact .inr (by rw[<-p];omega)
  rw[E];have Q:q1.eraseIdx j=q.eraseIdx j:=by rw[i,nz]
  rw[Q]at b;replace b:=b.px [1,1];obtain⟨J,R,u,b⟩:=b.fV 0;rw[Q]at P;exact⟨J,vd,cd,O,R,u,P,b⟩
 refine gG 0 (gD [1,0] [] [0,1,2,3,4,5,6,7,8,9,10,11,12,13,14,15,16,17,18] ?_);intro w b;refine gH 11 (A1.y 11 (λw _ _ af b=>.lo O b (k:=1) O BJ o) (gE 5 (TA x y _ z) ?_));intro w b;refine gG 1 ?_;have ai:=Nq (Rk.C1 x y (n.tries+1-1) z);have M:(X2 X8 q1++r).set (j*4+3) (Ab (min (now+Rk.Iz (Rk.C1 x y (n.tries+1-1) z) 1099511627776) 1099511627776))=X2 X8 (q1.set j (⟨n.ticket,n.url,n.tries+1,min (now+Rk.Iz (Rk.C1 x y (n.tries+1-1) z) 1099511627776) 1099511627776⟩:Nt))++r:=xt C (⟨n.ticket,n.url,n.tries+1,min (now+Rk.Iz (Rk.C1 x y (n.tries+1-1) z) 1099511627776) 1099511627776⟩:Nt) _ 3 de r q1 j _ A O;refine gC 3 (OQ _ _ _) ?_;rintro _ _ ⟨rfl,rfl⟩;refine gH 4 (.s1 b (k:=0) O O O O Bl (by rw[Y0];omega) ?_);intro w b;try dsimp only[List.set]at b
 rw[M]at b;refine gG 6 ?_;intro w b;have E:Gx ⟨x,y,z,e⟩ q t ok now=(q.set j (TL ⟨x,y,z,e⟩ n now),0):=by
  rw[F,Y3];have f:=l;simp only[EB,dq2]at f
  rintro(h|h)
  ·rw[f.1]at h;cases h
  ·rw[<-p]at h;omega
 rw[E];have Q:q1.set j (⟨n.ticket,n.url,n.tries+1,min (now+Rk.Iz (Rk.C1 x y (n.tries+1-1) z) 1099511627776) 1099511627776⟩:Nt)=q.set j (TL ⟨x,y,z,e⟩ n now):=by
  rw[i,Zz];unfold TL;rw[show n.tries+1-1=n.tries by omega]
 rw[Q]at b;have V:(q.set j (TL ⟨x,y,z,e⟩ n now)).length=q.length:=jJ ..;have Y:=R0 C (q.set j (TL ⟨x,y,z,e⟩ n now));replace b:=b.px [1,1];replace b:=b.AR (k:=0) O om D Y om;try dsimp only[List.set]at b
 obtain⟨J,R,u,b⟩:=b.fV 0;exact⟨J,_,cap,O,R,u,od,by(try dsimp only);rw[V];exact b⟩
open Go.RowKit Go.WideShapes Go.ChangeShapes
theorem rI{Aq:TypeId×Va->H}{a:Nat}{t:TypeId}{x:DataW H×List MemPlace}(c:P.underlying t=some (.float .f64))(h:DataW.trod Aq P w a spare held fuel t cs=some x):∃b,cs=[.float .f64 b]/\(Lit.float .f64 b).wf=true:=by
 cases fuel with
 | zero=>simp[DataW.trod]at h
 | succ n =>
  unfold DataW.trod at h;rw[c]at h;split at h<;>simp_all
structure Sv where
 id:Int
 ord:Nat
 urls:Lu
 BT:Bool
 B7:Bool
 back:Bool
 calls:Lu
 rel:List Lu
abbrev fw(s:Sv)(a:Oa)(c:Nat):Lv:=[Ab s.id,AM s.ord,S s.urls,.bool s.BT,.bool s.B7,.bool s.back,S s.calls,.slice a s.rel.length c]
def E4(I:Im)(s:Sv)(l:Lv):Prop:=∃a c,l=fw s a c/\s.rel.length<=c/\RS I a 1 s.rel.length (s.rel.map S)
theorem E4.mono{s:Sv}{l:Lv}(h:E4 I s l)(f:Le I J):E4 J s l:=by
 obtain⟨a,c,e,b,d⟩:=h;exact⟨a,c,e,b,d.mono f⟩
structure Sv.fits(s:Sv):Prop where
 id:-9223372036854775808<=s.id/\s.id<=9223372036854775807
 ord:s.ord<18446744073709551616
 urls:s.urls.length<=maxLen
 calls:s.calls.length<=maxLen
 rel:s.rel.length<=maxLen/\∀x∈s.rel,x.length<=maxLen
theorem Wm{Aq:TypeId×Va->H}{W:Wo}{x:DataW H×List MemPlace}(h:DataW.trod Aq prog W 0 spare held fuel 133 cs=some x):∃s:Sv,E4 (EV W) s cs/\s.fits:=by
 obtain⟨xs,n,_,_,v,i,j⟩:=DataW.trod_struct G9 h;rw[show prog.cellsOf 133=8 from by kernel_rfl]at v;obtain⟨y0,k⟩:∃y,DataW.trod Aq prog W 0 spare held n 3 ((cs.drop 0).take (prog.cellsOf 3))=some y:=⟨_,(j 0 _ O).trans (Y2 (nB i))⟩
 rw[show prog.cellsOf 3=1 from by kernel_rfl]at k;obtain⟨y1,m⟩:∃y,DataW.trod Aq prog W 0 spare held n 27 ((cs.drop 1).take (prog.cellsOf 27))=some y:=⟨_,(j 1 _ O).trans (Y2 (nB i))⟩
 rw[show prog.cellsOf 27=1 from by kernel_rfl]at m;obtain⟨y2,o⟩:∃y,DataW.trod Aq prog W 0 spare held n 9 ((cs.drop 2).take (prog.cellsOf 9))=some y:=⟨_,(j 2 _ O).trans (Y2 (nB i))⟩
 rw[show prog.cellsOf 9=1 from by kernel_rfl]at o;obtain⟨y3,p⟩:∃y,DataW.trod Aq prog W 0 spare held n 4 ((cs.drop 3).take (prog.cellsOf 4))=some y:=⟨_,(j 3 _ O).trans (Y2 (nB i))⟩
 rw[show prog.cellsOf 4=1 from by kernel_rfl]at p;obtain⟨y4,q⟩:∃y,DataW.trod Aq prog W 0 spare held n 4 ((cs.drop 4).take (prog.cellsOf 4))=some y:=⟨_,(j 4 _ O).trans (Y2 (nB i))⟩
 rw[show prog.cellsOf 4=1 from by kernel_rfl]at q;obtain⟨y5,r⟩:∃y,DataW.trod Aq prog W 0 spare held n 4 ((cs.drop 5).take (prog.cellsOf 4))=some y:=⟨_,(j 5 _ O).trans (Y2 (nB i))⟩
 rw[show prog.cellsOf 4=1 from by kernel_rfl]at r;obtain⟨y6,t⟩:∃y,DataW.trod Aq prog W 0 spare held n 9 ((cs.drop 6).take (prog.cellsOf 9))=some y:=⟨_,(j 6 _ O).trans (Y2 (nB i))⟩
 rw[show prog.cellsOf 9=1 from by kernel_rfl]at t;obtain⟨y7,u⟩:∃y,DataW.trod Aq prog W 0 spare held n 39 ((cs.drop 7).take (prog.cellsOf 39))=some y:=⟨_,(j 7 _ O).trans (Y2 (nB i))⟩
 rw[show prog.cellsOf 39=1 from by kernel_rfl]at u;obtain⟨v0,G,I,J,K,L,M,P,rfl⟩:∃v0 G I J K L M P,cs=[v0,G,I,J,K,L,M,P]:=by
  match cs,v with
  | [a,b,c,d,e,f,g,h],_=>exact⟨a,b,c,d,e,f,g,h,O⟩
 simp only[Ks,FY,Iw,Gl]at k m o p q r t u
 obtain⟨z0,e0,_,w0⟩:=DataW.trod_int B1 k;obtain⟨Q,z,w1⟩:=rI S8 m;obtain⟨X,A,_,U⟩:=DataW.trod_string A8 o;obtain⟨Y,B,_⟩:=DataW.trod_bool KJ p;obtain⟨Z,C,_⟩:=DataW.trod_bool KJ q;obtain⟨z5,D,_⟩:=DataW.trod_bool KJ r;obtain⟨z6,E,_,V⟩:=DataW.trod_string A8 t;obtain⟨a,c,l,F,R,h2,S,T⟩:=Xz8 D6 A8 kr u;simp only[List.cons.injEq,and_true]at e0 z A B C D E F
 subst e0 z A B C D E F;refine⟨⟨z0,Q,X.data.toList,Y,Z,z5,z6.data.toList,l⟩,⟨a,c,O,R,S⟩,⟨?_,of_decide_eq_true (show decide (Q<18446744073709551616)=true from w1),U,V,od,T⟩⟩;have w:=w0;simp only[Lit.wf,Y8,dq1]at w
 exact⟨w.1,w.2⟩
theorem Q9{Aq:TypeId×Va->H}{W:Wo}{x:DataW H×List MemPlace}(h:DataW.trod Aq prog W 0 spare held fuel 22 cs=some x):∃(a:Oa) (cap:Nat) (L:List Lv) (l:List Sv),cs=[.slice a L.length cap]/\L.length<=cap/\cap<=maxLen/\L.length=l.length/\(∀c∈L,c.length=8)/\RS (EV W) a 8 L.length L.flatten/\∀(i:Nat) (s:Sv),l[i]?=some s->s.fits/\∃c,L[i]?=some c/\E4 (EV W) s c:=by
 obtain⟨a,cap,L,n,rfl,f,g,j,k,m⟩:=r4 (c:=8) MW kr de h;have key:∀L:List Lv,(∀l∈L,∃y,DataW.trod Aq prog W 0 spare held n 133 l=some y)->∃l:List Sv,L.length=l.length/\∀(i:Nat) (s:Sv),l[i]?=some s->s.fits/\∃c,L[i]?=some c/\E4 (EV W) s c:=by
  intro L
  induction L with
  | nil=>intro _;exact⟨[],O,λi s h=>by simp at h⟩
  | cons c L t =>
   intro h;obtain⟨y,r⟩:=h c sz;obtain⟨s,q,p⟩:=Wm r;obtain⟨l,b,d⟩:=t (λc o=>h c (by simp[o]));refine⟨s::l,by simp[b],λi u e=>?_⟩;cases i with
   | zero=>simp at e;subst e;exact⟨p,c,O,q⟩
   | succ i=>simpa using d i u (su e)
 obtain⟨l,b,d⟩:=key L m;exact⟨a,cap,L,l,O,f,g,b,j,k,d⟩
def B2(I:Im)(a:Oa)(l:List Sv):Prop:=∀(i:Nat) (s:Sv),l[i]?=some s->∃p b c,a=some p/\At I (p.add (i*8)) (fw s b c)/\s.rel.length<=c/\RS I b 1 s.rel.length (s.rel.map S)
theorem B2.mono{l:List Sv}(h:B2 I a l)(b:Le I J):B2 J a l:=λi s g=>by
 obtain⟨p,j,k,e,c,d,f⟩:=h i s g;exact⟨p,j,k,e,c.mono b,d,f.mono b⟩
theorem mh(h:At I p vs)(n:Nat):At I p (vs.take n):=by
 obtain⟨d,b,E,c,e,f⟩:=h;refine⟨d,b,E,c,e,λj v a=>?_⟩;rw[PO]at a;split at a
 ·exact f j v a
 ·cases a
theorem lr{L:List Lv}{l:List Sv}(g:∀c∈L,c.length=8)(j:RS I a 8 L.length L.flatten)(h:∀(i:Nat) (s:Sv),l[i]?=some s->∃c,L[i]?=some c/\E4 I s c):B2 I a l:=λi s m=>by
 obtain⟨c,d,n,o,rfl,e,f⟩:=h i s m;obtain⟨p,rfl,k⟩:=j.2 (oh ((Y1.1 d).1));have b:=mh (k.add (i*8)) 8;rw[ZY L g i _ d]at b;exact⟨p,n,o,O,b,e,f⟩
theorem bW(h:¬ n<10):Go.Lib.decDigits n=Go.Lib.decDigits (n/10)++[UInt8.ofNat (48+n%10)]:=by
 rw[Go.Lib.decDigits,dif_neg h]
end Go.Proofs.W9
namespace Bc
variable {k:Int->Nat}
def DG(k:Int->Nat)(x y:Int):Prop:=k x<k y\/(k x=k y/\x<y)
theorem Dv{x y z:Int}(h:DG k x y)(a:DG k y z):DG k x z:=by unfold DG at *;omega
theorem Xy4{x:Int}:¬ DG k x x:=by unfold DG;omega
theorem P0{x y:Int}(h:x≠y):DG k x y\/DG k y x:=by unfold DG;omega
theorem PZ{x y:Int}(h:x<y):DG k y x↔k y<k x:=by unfold DG;omega
theorem GV{x y:Int}(h:x<y)(a:¬ k y<k x):DG k x y:=by unfold DG;omega
def UI(k:Int->Nat)(x y:Int):Int:=if k x<k y then -1 else if k y<k x then 1 else 0
theorem Ju{x y:Int}:UI k x y<0↔k x<k y:=by unfold UI;split<;>(try split)<;>omega
abbrev So(k:Int->Nat)(l:List Int):Prop:=l.Pairwise (DG k)
def B3(A T:List Int):Prop:=∀a∈A,∀t∈T,a<t
def swp(D:List Int)(i j:Nat):List Int:=(D.set i (D.getD j 0)).set j (D.getD i 0)
theorem XP{j:Nat}(h:i≠j):swp D i j=swp D j i:=by
 unfold swp;rw[List.set_comm _ _ h]
theorem F2(A B:List Int)(x:Int):(A++x::B).getD A.length 0=x:=by simp[Yf]
theorem lu(A M C:List Int)(p q:Int):swp (A++p::(M++q::C)) A.length (A.length+1+M.length)=A++q::(M++p::C):=by
 have b:=F2 A (M++q::C) p;have c:(A++p::(M++q::C)).getD (A.length+1+M.length) 0=q:=by
  have:=F2 (A++p::M) C q
  rw[Y0,Y5,show A.length+(M.length+1)=A.length+1+M.length by omega]at this;simpa using this
 unfold swp;rw[b,c];have a:(A++p::(M++q::C)).set A.length q=A++q::(M++q::C):=by
  rw[nu _ _ (Ya _),jN];rfl
 rw[a,nu _ _ om,show A.length+1+M.length-A.length=M.length+1 by omega,pI,nu _ _ (Ya _),jN];rfl
theorem eJ(A C:List Int)(p q:Int):swp (A++p::q::C) A.length (A.length+1)=A++q::p::C:=by
 have:=lu A [] C p q
 simpa using this
theorem RD{d e:List Int}{x:Int}(h:So k (d++e))(i:∀u∈d,DG k u x)(j:∀u∈e,DG k x u):So k (d++x::e):=by
 obtain⟨a,b,c⟩:=jB.1 h;refine jB.2 ⟨a,Sl.2 ⟨j,b⟩,λu g v f=>?_⟩;rcases Yp.1 f with rfl|f
 ·exact i u g
 ·exact c u g v f
theorem eF{U:List Int}{p x:Int}(h:So k (U++[p]))(b:DG k p x):∀u∈U++[p],DG k u x:=by
 intro u a;rcases Ys.1 a with a|a
 ·exact Dv ((jB.1 h).2.2 u a p sz) b
 ·simp at a;subst a;exact b
theorem Vk{V:List Int}{p:Nat}(h:p<V.length):V.getD p 0∈V:=by
 rw[Yf,Y2 h];exact jG h
theorem Vm{A B:List Int}(h:i<A.length):(A++B).getD i 0=A.getD i 0:=by
 simp[Yf,jA,h]
theorem Vn{A B:List Int}(h:A.length<=i):(A++B).getD i 0=B.getD (i-A.length) 0:=by
 simp[Yf,jA,Nat.not_lt.2 h]
theorem cL{F G E:List Int}(a:F.length<=i)(b:i<F.length+G.length):(F++(G++E)).getD i 0∈G:=by
 rw[Vn a,Vm om];exact Vk om
theorem Hm{U:List Int}(h:0<U.length):∃V q,U=V++[q]:=by
 have a:U≠[]:=λe=>by rw[e]at h;simp at h
 exact⟨U.dropLast,U.getLast a,(Y5p a).symm⟩
theorem bT{U:List Int}(h:0<U.length):∃q V,U=q::V:=by
 cases U with
 | nil=>simp at h
 | cons q V=>exact⟨q,V,O⟩
theorem lj{X Y:List Int}(hx:So k X)(a:So k Y)(h:∀x∈X,∀y∈Y,DG k x y):So k (X++Y):=jB.2 ⟨hx,a,h⟩
theorem EG{A b T':List Int}(h:B3 A T)(e:∀x∈b,x∈A)(f:∀x∈T',x∈T):B3 b T':=λa c t d=>h a (e a c) t (f t d)
theorem Xqa:∀{X Y:List Int},So k X->So k Y->X.Perm Y->X=Y
 | [],Y,_,_,h=>(List.nil_perm.1 h).symm
 | x::X,[],_,_,h=>by have:=h.length_eq;simp at this
 | x::X,y::Y,hx,g,h=>by
  obtain⟨b,c⟩:=Sl.1 hx;obtain⟨d,f⟩:=Sl.1 g;have e:x=y:=by
   apply Classical.byContradiction
   intro a;have i:x∈Y:=by
    rcases Yp.1 (h.mem_iff.1 (jD:x∈x::X))with h|h
    ·exact Yz h a
    ·exact h
   have j:y∈X:=by
    rcases Yp.1 (h.mem_iff.2 (jD:y∈y::Y))with h|h
    ·exact Yz h.symm a
    ·exact h
   exact Xy4 (Dv (b y j) (d x i))
  subst e;rw[Xqa c f (List.Perm.cons_inv h)]
inductive Full(k:Int->Nat)(s:Nat):List Int->Prop
 | nil:Full k s []
 | cons {U T:List Int}:U.length=s->So k U->B3 U T->Full k s T->Full k s (U++T)
theorem Full.append{s:Nat}{A B:List Int}(c:Full k s A)(h:Full k s B)(d:B3 A B):Full k s (A++B):=by
 induction c with
 | nil=>simpa using h
 | cons e f g j i =>
  rename_i U T
  rw[Yg];refine .cons e f (λa c t b=>?_) (i (EG d (λx hx=>aU _ hx) (λx hx=>hx)));rcases Ys.1 b with b|b
  ·exact g a c t b
  ·exact d a (f_ _ c) t b
theorem Full.one{s:Nat}{U:List Int}(h:U.length=s)(a:So k U):Full k s U:=by
 have:=Full.cons (T:=[]) h a (λ_ _ _ h=>by cases h) .nil
 simpa using this
def iA(k:Int->Nat)(s:Nat)(D:List Int):Prop:=∃A U,D=A++U/\Full k s A/\U.length<s/\So k U/\B3 A U
theorem iA.sorted{s:Nat}(h:iA k s D)(e:D.length<=s)(g:0<s):So k D:=by
 obtain⟨A,U,rfl,d,m,f,n⟩:=h;cases d with
 | nil=>simpa using f
 | cons i c j l =>
  rename_i V T
  simp only[Y0]at e
  have b:U=[]:=Yi om;have a:T=[]:=Yi om;subst b;subst a;simpa using c
theorem Li{A M:List Int}(h:B3 A T)(c:M.Perm A):B3 M T:=λa b=>h a (c.mem_iff.1 b)
theorem ES{A M:List Int}(h:B3 A T)(c:M.Perm T):B3 A M:=λa b t d=>h a b t (c.mem_iff.1 d)
theorem Qh{A B:List Int}(h:B3 A T)(d:B3 B T):B3 (A++B) T:=λa b t c=>by
 rcases Ys.1 b with b|b
 ·exact h a b t c
 ·exact d a b t c
def Bu:Nat->List Int
 | 0=>[]
 | n+1=>Bu n++[(n:Int)]
theorem Dw:∀n,(Bu n).length=n
 | 0=>rfl
 | n+1=>by rw[Bu,Y0,Dw n];rfl
theorem Bx:∀{n:Nat} {x:Int},x∈Bu n↔0<=x/\x<n
 | 0,x=>by simp[Bu]<;>omega
 | n+1,x=>by
  rw[Bu,Ys,Bx]
  simp
  omega
theorem Ia:∀n,(Bu n).Pairwise (·<·)
 | 0=>.nil
 | n+1=>by
  rw[Bu];refine jB.2 ⟨Ia n,by simp,λa c b d=>?_⟩;simp at d
  have:=Bx.1 c
  omega
def Ord(k:Int->Nat)(n:Nat)(D:List Int):Prop:=So k D/\D.Perm (Bu n)
theorem Ord.unique{D':List Int}(h:Ord k n D)(a:Ord k n D'):D=D':=Xqa h.1 a.1 (h.2.trans a.2.symm)
theorem Ord.len(h:Ord k n D):D.length=n:=by rw[h.2.length_eq,Dw]
instance (k:Int->Nat)(x y:Int):Decidable (DG k x y):=by unfold DG;infer_instance
structure ZU(k:Int->Nat)(n:Nat)(us:List Bool)(Os T:List Int):Prop where
 len:us.length=n
 perm:(Os++T).Perm (Bu n)
 so:So k Os
 before:∀o∈Os,∀t∈T,DG k o t
 used:∀o∈Os,us.getD o.toNat false=true
 free:∀t∈T,us.getD t.toNat false=false
def Kw(k:Int->Nat)(T:List Int)(i:Nat)(b:Int):Prop:=(b=-1/\∀t∈T,(i:Int)<=t)\/(b∈T/\b<i/\∀t∈T,t<i->t=b\/DG k b t)
theorem ZU.start(k:Int->Nat)(n:Nat):ZU k n (List.replicate n false) [] (Bu n) :=
 ⟨by simp,.refl _,.nil,(λ_ h=>by cases h),(λ_ h=>by cases h),λt a=>by
  have:=Bx.1 a
  simp[Yf,yh,show t.toNat<n by omega]⟩
theorem ZU.mem{us:List Bool}(h:ZU k n us Os T){t:Int}(a:t∈T):0<=t/\t<n:=Bx.1 (h.perm.mem_iff.1 (aU _ a))
theorem ZU.lens{us:List Bool}(h:ZU k n us Os T):Os.length+T.length=n:=by
 have:=h.perm.length_eq
 rw[Y0,Dw]at this;exact this
theorem Kw.lt{b:Int}(h:Kw k T i b):b<i:=by
 rcases h with⟨h,_⟩|⟨_,h,_⟩<;>omega
theorem Kw.is{b:Int}(h:Kw k T i b)(a:¬ b<0):b∈T:=by
 rcases h with⟨h,_⟩|⟨h,_⟩
 ·omega
 ·exact h
theorem Kw.take{us:List Bool}(h:ZU k n us Os T){b:Int}(m:Kw k T i b)(hi:i<n)(p:us.getD i false=false)(c:b<0\/k i<k b):Kw k T (i+1) i:=by
 have e:(i:Int)∈T:=by
  rcases Ys.1 (h.perm.mem_iff.2 (Bx.2 ⟨om,om⟩:(i:Int)∈Bu n))with a|a
  ·have:=h.used _ a
   rw[Yd,p]at this;cases this
  ·exact a
 refine .inr ⟨e,om,λt g o=>?_⟩;rcases Int.lt_or_le t i with a|a
 ·right
  rcases m with⟨_,d⟩|⟨d,q,j⟩
  ·have:=d t g;omega
  ·have f:k i<k b:=by
    rcases c with c|c
    ·have:=h.mem d;omega
    ·exact c
   rcases j t g a with rfl|l
   ·exact .inl f
   ·exact Dv (.inl f) l
 ·left;omega
theorem ZU.done{us:List Bool}(h:ZU k n us Os T)(b:n<=Os.length):Ord k n Os:=by
 have:=h.lens
 have a:T=[]:=Yi om;subst a;exact⟨h.so,su h.perm⟩
end Bc
namespace Go.Proofs.W9
open Gk Rk
open Tryz
structure Cx(I:Im)(l:List Nat)(p:Addr):Prop where
 ex:∃a c,At I p [.slice a l.length c]/\RS I a 1 l.length (l.map AM)
 small:∀v∈l,v<18446744073709551616
def kx(l:List Nat)(x:Int):Nat:=cW (l.getD x.toNat 0)
theorem Cx.mono{l:List Nat}(h:Cx I l p)(b:Le I J):Cx J l p:=by
 obtain⟨⟨a,c,d,e⟩,f⟩:=h;exact⟨⟨a,c,d.mono b,e.mono b⟩,f⟩
theorem Xq8{l:List Nat}(h:∀v∈l,v<18446744073709551616)(i:Nat):l.getD i 0<18446744073709551616:=by
 by_cases hi:i<l.length
 ·refine h _ ?_;rw[Yf,Y2 hi];exact jG hi
 ·rw[Yf,Zy om];decide
abbrev CF(p:Addr):Va:=.func (.func 376) #[] #[.pointer (some p)]
theorem bS{l:List Nat}(h:Cx I l p)(x y:Int)(e:0<=x)(f:x<(l.length:Int))(d:0<=y)(g1:y<(l.length:Int))(B w:Wo)(N:La)(a:Aa B w I N):Ce B I N 376 [Ab x,Ab y,.pointer (some p)] w (Ab (Bc.UI (kx l) x y)):=by
 obtain⟨j,k,c,g⟩:=h.ex;obtain⟨pa,rfl,b⟩:=g.2 om;refine gG 1 (.qt a (.val (λw a=>.BS (.of O) a c isAgg375 O) O (.val (λw a=>(.mo O)) O ?_)));refine .val (λw a=>(by first|exact .io O O om om I4 E2|exact .ii O O om om I4 E2)) O ?_;refine .val (λw a=>.kM AM l 0 (i:=x) (.of O) a b O O6 e f) O (.call func378 O (A3 O X4) O (λw a=>Pu (Mq _ (Xq8 h.small (x).toNat) w) a) (.val (λw a=>.BS (.of O) a c isAgg375 O) O (.val (λw a=>(.mo O)) O ?_)));refine .val (λw a=>(by first|exact .io O O om om I4 E2|exact .ii O O om om I4 E2)) O ?_;refine .val (λw a=>.kM AM l 0 (i:=y) (.of O) a b O O6 d g1) O (.call func378 O (A3 O X4) O (λw a=>Pu (Mq _ (Xq8 h.small (y).toNat) w) a) (.call func377 O (A3 O (A3 O X4)) O (λw a=>Pu (Xr0 _ _ w) a) (.val (λw a=>(.ao O)) O (.nil ?_))));intro w a;refine gG 0 (⟨?_,a⟩);unfold Bc.UI kx;simp only[jL]
theorem cQ{l:List Nat}(hx:Cx I l p)(F R C:List Int)(hR:R.Pairwise (·<·))(ah:∀x∈R,0<=x/\x<(l.length:Int))(H n c:Nat)(r:Lv)(ib:Int)(az:ib=F.length+R.length)(hn:ib<=n)(ay:F.length+R.length+C.length<=1000000)(B w:Wo)(N:La)(d:Aa B w I (Ac H ((F++(R++C)).map Ab++r) 3::N)):Cz 471 [.slice (some (ad H 0)) n c,Ab (F.length:Nat),Ab ib,CF p] w λv w'=>v=.tuple #[]/\∃M,M.Perm R/\Bc.So (kx l) M/\Aa B w' I (Ac H ((F++(M++C)).map Ab++r) 3::N):=by
 refine gG 3 ?_;have al:(F.length:Int)+1=max ((F.length:Int)+(R.take 1).length) (F.length+1)/\(R.take 1=[]->R.drop 1=[])/\Bc.So (kx l) (R.take 1)/\Bc.B3 (R.take 1) (R.drop 1)/\(R.drop 1).Pairwise (·<·)/\(R.take 1++R.drop 1).Perm R/\Aa B w I (Ac H ((F++(R.take 1++(R.drop 1++C))).map Ab++r) 3::N):=by
  refine⟨?_,?_,?_,?_,?_,by rw[Fw],?_⟩
  ·cases R<;>simp<;>omega
  ·intro h;cases R with
   | nil=>rfl
   | cons a R=>simp at h
  ·cases R with
   | nil=>exact .nil
   | cons a R=>simp
  ·cases R with
   | nil=>intro _ h;simp at h
   | cons a R=>intro u o t Z;simp at o Z;subst o;exact(Sl.1 hR).1 t Z
  ·exact hR.sublist (List.drop_sublist 1 R)
  ·have e:F++(R.take 1++(R.drop 1++C))=F++(R++C):=by rw[<-Yg (R.take 1),Fw]
   rw[e];exact d
 refine .lk [0,1,2,3] (σ:=Int×List Int×List Int) (λ(i,M,T) _m=>(8,Ab i)::_m) (λ(i,M,T) w=>i=max ((F.length:Int)+M.length) (F.length+1)/\(M=[]->T=[])/\Bc.So (kx l) M/\Bc.B3 M T/\T.Pairwise (·<·)/\(M++T).Perm R/\Aa B w I (Ac H ((F++(M++(T++C))).map Ab++r) 3::N)) (λ(i,M,T)=>T.length) ((F.length:Int)+1,R.take 1,R.drop 1) al ?_;rintro⟨i,M,T⟩ w ⟨hi,L,hM,hc,hT,P,d⟩;have z:=P.length_eq;rw[Y0]at z;refine gN 3 ?_ ?_<;>intro au
 ·refine gG 0 ?_;have aw:0<M.length:=by
   rcases Ix M.length with h|h
   ·have h2:=L (Yi h);rw[h2]at z;simp at z;omega
   ·exact h
  obtain⟨x,T,rfl⟩:=Bc.bT (U:=T) om;simp only[Y5]at z
  refine gG 2 ?_;refine .lk [0,1,2,3,8] (σ:=Int×List Int×List Int) (λ(j,f,g) _m=>(9,Ab j)::_m) (λ(j,f,g) w=>j=(F.length:Int)+f.length/\Bc.So (kx l) (f++g)/\(∀u∈g,Bc.DG (kx l) x u)/\(f++g).Perm M/\Aa B w I (Ac H ((F++(f++x::(g++(T++C)))).map Ab++r) 3::N)) (λ(j,f,g)=>f.length) (i,M,[]) ⟨om,by rw[Yy];exact hM,(λ_ h=>by cases h),by rw[Yy],d⟩ ?_;rintro⟨j,f,g⟩ w ⟨V,hs,Q,m,d⟩;obtain⟨D,G⟩:∃D,D=F++(f++x::(g++(T++C))):=⟨_,O⟩
  rw[<-G]at d;have ai:=m.length_eq;rw[Y0]at ai;have av:D.length=F.length+(f.length+1+g.length+(T.length+C.length)):=by rw[G];simp only[Y0,Y5];omega
  have S:∀v∈f++x::g,0<=v/\v<(l.length:Int):=λv hv=>by
   refine ah v (P.mem_iff.1 ?_);rcases Ys.1 hv with h|h
   ·exact f_ _ (m.mem_iff.1 (f_ _ h))
   ·rcases Yp.1 h with rfl|h
    ·exact aU _ jD
    ·exact f_ _ (m.mem_iff.1 (aU _ h))
  have E:∀q:Nat,F.length<=q->q<F.length+(f.length+1+g.length)->0<=D.getD q 0/\D.getD q 0<(l.length:Int):=λq J h2=>by
   refine S _ ?_;have e:D=F++((f++x::g)++(T++C)):=by rw[G];simp only[Yg,Em]
   rw[e];exact Bc.cL J (by simp only[Y0,Y5];omega)
  have aa:D.getD j.toNat 0=x:=by
   have:=Bc.F2 (F++f) (g++(T++C)) x
   rw[show(F++f).length=j.toNat by rw[Y0];omega]at this;rw[G,<-Yg];exact this
  have Y:∀u∈f++g,u<x:=λu o=>hc u (m.mem_iff.1 o) x jD
  refine gG 0 (.qt d (.val (λw d=>(.mo O)) O (.val (λw d=>(.mo O)) O (.val (λw d=>(.gtr (.of O) (.of O))) O (.val (λw d=>(.mo O)) O (.Aj O O O (λb w d=>(.mo O)) O (.Aj O O O (λb w d=>(.mo O)) O (.Aj O O O (λb w d=>(.mo O)) O ?_))))))));refine .Aj O O O (λb w d=>(by first|exact .indexAddr (.gd b O) (.gd b O) (ot b) (ot b) aE Bl|exact .AD (.gd b O) (.gd b O) (ot b) (ot b) aE Bl)) O ?_;refine .Aj O O O (λb w d=>.gJ Ab D 0 r (i:=j) (.gd b O) d (k:=0) O O BJ (ot b) (ot b)) O ?_;refine .Aj O O O (λb w d=>(.mo O)) O (.Aj O O O (λb w d=>(.mo O)) O (.Aj O O O (λb w d=>(.sub (.gd b O) (.of O) ⟨om,om⟩)) O ?_));refine .Aj O O O (λb w d=>(by first|exact .indexAddr (.gd b O) (.gd b O) (ot b) (ot b) aE Bl|exact .AD (.gd b O) (.gd b O) (ot b) (ot b) aE Bl)) O ?_;refine .Aj O O O (λb w d=>.gJ Ab D 0 r (i:=j-1) (.gd b O) d (k:=0) O O BJ (ot b) (ot b)) O ?_;refine .kB O O O func376 O (λb=>.gd b O) (λb=>X6 (.gd b O) (X6 (.gd b O) X4)) O (λb w d=>by have W:=E j.toNat (ot b) (ot b);have X:=E (j-1).toNat (ot b) (ot b);exact bS hx _ _ W.1 W.2 X.1 X.2 B w _ d) ?_;refine .Aj O O O (λb w d=>(.lss (.gd b O) (.of O))) O (.val (λw d=>(.pa O O O)) O (.nil ?_));intro w d;refine gN 0 ?_ ?_<;>intro A
  ·refine gG 0 (gD [0] [15,17] [0,1,2,3,4,5,6,7,8,9,10,11,12,13,14,15,16,17] ?_);intro w d;refine gH 9 (A1.y 9 (λw _ _ ac d=>.gJ Ab D 0 r (i:=j-1) (.of O) d (k:=0) O O BJ om om) (gH 3 (A1.y 13 (λw _ _ ac d=>.gJ Ab D 0 r (i:=j) (.of O) d (k:=0) O O BJ om om) (gH 1 (A1.e (.stE Ab _ r d (k:=0) O (.of O) (.of O) O O Bl om (by(try rw[jJ]);omega) ?_))))));intro w d;dsimp only[List.set]at d;refine gH 1 (A1.e (.stE Ab _ r d (k:=0) O (.of O) (.of O) O O Bl om (by(try rw[jJ]);omega) ?_));intro w d;dsimp only[List.set]at d;refine gG 3 ?_;obtain⟨s,q,rfl⟩:=Bc.Hm (U:=f) om;have e1:D=(F++s)++q::x::(g++(T++C)):=by rw[G];simp only[Yg,Em,Db]
   have hq:D.getD (j-1).toNat 0=q:=by
    have:=Bc.F2 (F++s) (x::(g++(T++C))) q
    rw[show(F++s).length=(j-1).toNat by rw[Y0];simp only[Y0,Y5,Yh]at V;omega]at this;rw[e1];exact this
   have ag:Bc.DG (kx l) x q:=by
    have h:=Bc.Ju.1 A.2;rw[aa,hq]at h;exact(Bc.PZ (Y q sz)).2 h
   have e:=Bc.eJ (F++s) (g++(T++C)) q x;rw[<-e1,show(F++s).length=(j-1).toNat by rw[Y0];simp only[Y0,Y5,Yh]at V;omega,show(j-1).toNat+1=j.toNat by omega,Bc.XP om]at e;unfold Bc.swp at e;rw[e]at d;refine A_ (_,s,_) O ⟨by simp only[Y0,Y5,Yh]at V;omega,su hs,?_,su m,?_⟩ sz
   ·intro u o;rcases Yp.1 o with rfl|o
    ·exact ag
    ·exact Q u o
   ·rw[Yg]at d;exact d
  refine gG 3 ?_;have ae:∀u∈f,Bc.DG (kx l) u x:=by
   intro u o;obtain⟨s,q,rfl⟩:=Bc.Hm (U:=f) (Y6j o);have e1:D=(F++s)++q::x::(g++(T++C)):=by rw[G];simp only[Yg,Em,Db]
   have hq:D.getD (j-1).toNat 0=q:=by
    have:=Bc.F2 (F++s) (x::(g++(T++C))) q
    rw[show(F++s).length=(j-1).toNat by rw[Y0];simp only[Y0,Y5,Yh]at V;omega]at this;rw[e1];exact this
   simp only[Y0,Y5,Yh]at V
   have K:¬ (Bc.UI (kx l) (D.getD j.toNat 0) (D.getD (j-1).toNat 0)<0):=by
    rcases A with h|h
    ·omega
    ·omega
   rw[Bc.Ju,aa,hq]at K;exact Bc.eF (jB.1 hs).1 (Bc.GV (Y q sz) K) u o
  have hU:Bc.So (kx l) (f++x::g):=Bc.RD hs (ae) Q;refine A_ (_,_,T) O ⟨by simp only[Y0,Y5];have:=m.length_eq;rw[Y0]at this;omega,λh=>by simp at h,hU,?_,(Sl.1 hT).2,?_,?_⟩ sz
  ·intro u o t Z;have J:u∈f++g\/u=x:=by
    rcases Ys.1 o with h|h
    ·exact .inl (f_ _ h)
    ·rcases Yp.1 h with h|h
     ·exact .inr h
     ·exact .inl (aU _ h)
   rcases J with J|rfl
   ·exact hc u (m.mem_iff.1 J) t (Si _ Z)
   ·exact(Sl.1 hT).1 t Z
  ·refine List.Perm.trans ?_ P;refine List.Perm.trans (List.Perm.append_right T pK) ?_;rw[Em];refine List.Perm.trans (List.Perm.cons x (m.append_right T)) ?_;exact pK.symm
  ·rw[G]at d;have e:F++(f++x::(g++(T++C)))=F++((f++x::g)++(T++C)):=by simp only[Yg,Em]
   rw[e]at d;exact d
 refine gG 0 ?_;have af:T=[]:=by
  refine Yi ?_;rcases Ix M.length with h|h
  ·have:=L (Yi h);rw[this];first|done|rfl
  ·omega
 subst af;rw[Yy]at P;exact⟨O,M,P,hM,su d⟩
theorem Vy{l:List Nat}(hx:Cx I l p)(F R C:List Int)(i:R.Pairwise (·<·))(g:∀x∈R,0<=x/\x<(l.length:Int))(a n c:Nat)(r:Lv)(h b:Int)(e:h=F.length)(f:b=F.length+R.length)(k:b<=n)(d:F.length+R.length+C.length<=1000000)(B w:Wo)(N:La)(j:Aa B w I (Ac a ((F++(R++C)).map Ab++r) 3::N)):Cz 471 [.slice (some (ad a 0)) n c,Ab h,Ab b,CF p] w λv w'=>v=.tuple #[]/\∃M,M.Perm R/\Bc.So (kx l) M/\Aa B w' I (Ac a ((F++(M++C)).map Ab++r) 3::N):=by
 subst e;exact cQ hx F R C i g a n c r b f k d B w N j
theorem L0{l:List Nat}(hx:Cx I l p)(f n c:Nat)(r:Lv)(F:l.length=n)(K:n<=20)(B w:Wo)(N:La)(e:Aa B w I (Ac f ((Bc.Bu n).map Ab++r) 3::N)):Cz 435 [.slice (some (ad f 0)) n c,Ab n,CF p] w λv w'=>v=.tuple #[]/\∃D,Bc.Ord (kx l) n D/\Aa B w' I (Ac f ((D).map Ab++r) 3::N):=by
 refine gG 4 (.lk [0,1,2,6] (σ:=Int×Int×List Int×List Int) (λ(a,b,M,R) _m=>(7,Ab a)::(8,Ab b)::_m) (λ(a,b,M,R) w=>a=M.length/\b=a+20/\Bc.Full (kx l) 20 M/\Bc.B3 M R/\R.Pairwise (·<·)/\(M++R).Perm (Bc.Bu n)/\Aa B w I (Ac f ((M++R).map Ab++r) 3::N)) (λ(a,b,M,R)=>R.length) (0,20,[],Bc.Bu n) ⟨O,O,.nil,(λ_ h=>by cases h),Bc.Ia n,.refl _,e⟩ ?_);rintro⟨a,b,M,R⟩ w ⟨J,E,s,q,i,k,e⟩;have m:=k.length_eq;rw[Y0,Bc.Dw]at m;have j:∀x∈R,0<=x/\x<(l.length:Int):=λx hx=>by rw[F];exact Bc.Bx.1 (k.mem_iff.1 (aU _ hx))
 refine gN 3 ?_ ?_<;>intro z
 ·refine gH 4 ?_;have o:R.take 20++R.drop 20=R:=Fw 20 R;rw[<-o]at e;refine gP 0 [] (Vy hx M _ _ (i.sublist (List.take_sublist 20 R)) (λx h=>j x (pH h)) f n c r _ b om (by rw[Yl];omega) om (by rw[Yl,Y6];omega) B w N) ?_;rintro _ w ⟨rfl,M2,d,g,e⟩;refine gG 6 ?_;refine A_ (b,_,M++M2,R.drop 20) O ⟨by have C:=d.length_eq;rw[Yl]at C;rw[Y0];omega,O,?_,?_,i.sublist (List.drop_sublist 20 R),?_,?_⟩ (by(try dsimp only);rw[Y6];omega)
  ·exact s.append (.one (by rw[d.length_eq,Yl];omega) g) (Bc.ES (Bc.EG q (λ_ h=>h) (λ_ h=>pH h)) d)
  ·refine Bc.Qh (Bc.EG q (λ_ h=>h) (λ_ h=>yi h)) (Bc.Li ?_ d);intro u H t G;rw[<-Fw 20 R]at i;exact(jB.1 i).2.2 u H t G
  ·rw[Yg];refine List.Perm.trans (List.Perm.append_left M (d.append_right _)) ?_;rw[Fw];exact k
  ·rw[Yg];exact e
 refine gH 4 ?_;replace e:Aa B w I (Ac f ((M++(R++[])).map Ab++r) 3::N):=su e
 refine gP 0 [] (Vy hx M R [] i j f n c r _ n om om om (by simp only[Yh];omega) B w N) ?_;rintro _ w ⟨rfl,M2,d,g,e⟩;refine gG 0 (.lk [1,6] (σ:=Unit) (λ_ _m=>_m) (λ_ w=>Aa B w I (Ac f ((M++M2).map Ab++r) 3::N)) (λ_=>0) () (su e) ?_);rintro _ w e;refine gU 3 (λy A=>?_);refine gG 0 (⟨O,M++M2,⟨(show Bc.iA (kx l) 20 (M++M2) from⟨M,M2,O,s,by rw[d.length_eq];omega,g,Bc.ES q d⟩).sorted (by rw[Y0,d.length_eq];omega) de,(List.Perm.append_left M d).trans k⟩,e⟩)
theorem cS(b:Va)(w:Wo):Cz 471 [.slice none 0 0,Ab 0,Ab 0,b] w λv w'=>v=.tuple #[]/\w=w':=by
 obtain⟨w0,a⟩:∃w0,w=w0:=⟨_,O⟩
 rw[show(λ(v:Va) (w':Wo)=>v=.tuple #[]/\w=w')=(λv w'=>v=.tuple #[]/\w0=w')by rw[a]];refine gG 3 (.lk [2,8] (σ:=Unit) (λ_ _m=>_m) (λ_ w=>w=w0) (λ_=>0) () a ?_);rintro _ w c;refine gG 3 (.Aw (rfl) ?_);exact gG 0 ⟨O,c.symm⟩
theorem L1(c:Va)(w:Wo):Cz 435 [.slice none 0 0,Ab 0,c] w λv w'=>v=.tuple #[]/\w=w':=by
 obtain⟨w0,a⟩:∃w0,w=w0:=⟨_,O⟩
 rw[show(λ(v:Va) (w':Wo)=>v=.tuple #[]/\w=w')=(λv w'=>v=.tuple #[]/\w0=w')by rw[a]];refine gG 4 (.lk [0,1,2,6,7,8] (σ:=Unit) (λ_ _m=>_m) (λ_ w=>w=w0) (λ_=>0) () a ?_);rintro _ w b;refine gG 3 (.Aw (rfl) (gC 4 (cS _ _) ?_));rintro _ _ ⟨rfl,rfl⟩;refine gG 0 (.lk [1,6] (σ:=Unit) (λ_ _m=>_m) (λ_ w=>w=w0) (λ_=>0) () b ?_);rintro _ w b;refine gG 3 (.Aw (rfl) ?_);exact gG 0 ⟨O,b.symm⟩
theorem XE(a:Va)(w:Wo):Cz 375 [.slice none 0 0,a] w λv w'=>v=.tuple #[]/\w=w':=by
 refine gC 4 (L1 _ _) ?_;rintro _ _ ⟨rfl,rfl⟩;exact gG 0 ⟨O,O⟩
theorem Xwt{l:List Nat}(hx:Cx I l p)(a n c:Nat)(r:Lv)(f:l.length=n)(e:n<=20)(B w:Wo)(N:La)(b:Aa B w I (Ac a ((Bc.Bu n).map Ab++r) 3::N)):Cz 375 [.slice (some (ad a 0)) n c,CF p] w λv w'=>v=.tuple #[]/\∃D,Bc.Ord (kx l) n D/\Aa B w' I (Ac a ((D).map Ab++r) 3::N):=by
 refine gP 4 [] (L0 hx a n c r f e B w N) ?_;rintro _ w ⟨rfl,D,d,b⟩;exact gG 0 ⟨O,D,d,b⟩
theorem XF{l:List Nat}(hx:Cx I l p)(u:Va)(n:Nat)(A:l.length=n)(G:n<=20)(B w:Wo)(N:La)(q:Aa B w I (An 3 1 u n ((Bc.Bu n).map Ab)::N)):Cz 375 [u,CF p] w λv w'=>v=.tuple #[]/\∃D,Bc.Ord (kx l) n D/\Aa B w' I (An 3 1 u n ((D).map Ab)::N):=by
 rcases Ix n with m|m
 ·subst m;have f:u=.slice none 0 0\/∃i c r,u=.slice (some (ad i 0)) 0 c/\c<=maxLen/\r.length=c/\Aa B w I (Ac i (([]:List Int).map Ab++r) 3::N):=by
   obtain⟨h,⟨L,C,rfl,⟨P,F⟩,J⟩,H⟩:=q;rcases F with⟨K,_,_⟩|⟨b,cap,rest,rfl,rfl,M,E,z⟩
   ·exact .inl K
   ·exact .inr ⟨b,cap,rest,O,E,by simp[Bc.Bu]at z;exact z,_,⟨_,C,O,O,J⟩,H⟩
  rcases f with rfl|⟨i,c,r,rfl,g,t,d⟩
  ·refine(XE (CF p) w).mono ?_;rintro e w' ⟨v,rfl,rfl,rfl⟩;exact⟨_,O,O,[],⟨.nil,.refl _⟩,q⟩
  ·refine(Xwt hx i 0 c r A de B w N d).mono ?_;rintro e w' ⟨v,rfl,rfl,D,j,a⟩;have o:D=[]:=Yi j.len;subst o;exact⟨_,O,O,[],j,a.AR (k:=0) (xs:=[]) (cap:=c) (rest:=r) O (Y4 _) g O (su t)⟩
 ·obtain⟨i,c,r,rfl,s,g,x,y,d⟩:=q.AF (k:=0) O m;refine(Xwt hx i n c r A G B w N d).mono ?_;rintro e w' ⟨v,rfl,rfl,D,j,a⟩;refine⟨_,O,O,D,j,a.AR (k:=0) (xs:=D.map Ab) (cap:=c) (rest:=r) O s g (by rw[Yj,j.len];omega) ?_⟩;rw[Yj,j.len];rw[x]at y;omega
theorem O3(l:List Nat)(f:∀v∈l,v<18446744073709551616)(y:l.length<=20)(a:Oa)(c:Nat)(u:RS I a 1 l.length (l.map AM))(N:La)(b:Aa B w I N):Cz 279 [.slice a l.length c] w λv w'=>∃D d e,v=.slice d l.length e/\Bc.Ord (kx l) l.length D/\Aa B w' I (An 3 1 (.slice d l.length e) l.length (D.map Ab)::N):=by
 refine gG 6 ?_;intro b1 w b;replace b:=b.Ai 3 1;refine .lk [1,6] (σ:=Nat×Oa×Nat) (λ(k,d,e) _m=>(3,.slice d k e)::(7,Ab (k:Nat))::_m) (λ(k,d,e) w=>k<=l.length/\Aa B w I (An 3 1 (.slice d k e) k ((Bc.Bu k).map Ab)::Ac b1 [.slice a l.length c] 375::N)) (λ(k,d,e)=>l.length-k) (0,none,0) ⟨Y4 _,b⟩ ?_;rintro⟨k,d,e⟩ w ⟨x,b⟩;refine gN 1 ?_ ?_<;>intro t
 ·refine gG 9 ?_;intro q p r g w b;refine A_ (_,_,_) O ⟨om,?_⟩;rw[Bc.Bu,Yn];exact b
 refine gH 2 ?_;obtain rfl:k=l.length:=om
 obtain⟨J,n,i,o⟩:=b.fZ 1;clear b;have b:=o;clear o;have m:Cx J l (ad b1 0):=⟨⟨a,c,⟨O,_,_,_,i,λj v h=>by simpa using h⟩,u.mono n⟩,f⟩
 refine gP 0 [] (XF m _ _ O om B w N) ?_;rintro _ w ⟨rfl,D,s,b⟩;exact gG 2 ⟨D,d,e,O,s,b.weaken n⟩
def Lq(s:Sv):Bool:=!((decide (100<(s.urls.length:Int))&&decide ((s.urls.length:Int)<=200)||decide (100<(s.calls.length:Int))&&decide ((s.calls.length:Int)<=200))||decide (20<(s.rel.length:Int)))
def Sq(l:List Sv):Bool:=l.all Lq&&decide ((l.length:Int)<=20)
theorem ZM(a:Oa)(cap:Nat)(l:List Sv)(y:l.length<=cap)(o:cap<=maxLen)(z:B2 I a l)(N:La)(f:Aa B w I N):Ce B I N 55 [.slice a l.length cap] w (.bool (Sq l)):=by
 unfold maxLen at o;refine calls func55 O ntmps55 O (.seq (.q 1 O (.seq (.seq (.q 1 O (.block (.loop (σ:=Nat) (λi=>[(0,.slice a l.length cap),(3,Ab (i:Nat))]) (λi w=>i<=l.length/\(∀(j:Nat) (s:Sv),j<i->l[j]?=some s->Lq s=true)/\Aa B w I N) (λi=>l.length-i) 0 ⟨O,O,trivial⟩ ⟨Y4 _,λ_ _ h=>Yz h om,f⟩ ?_)))))));rintro i w ⟨hi,m,f⟩;change WC _ _ _ _ [(0,.slice a l.length cap),(3,Ab (i:Nat))] w;refine .seq (.seq (.region (.run 4 O ⟨⟨_,MW⟩,trivial⟩ (.nil ?_))));refine .cond O (λg=>?_) λg=>?_
 ·have k:=g;try simp only[jy]at k
  refine .skip (.seq (.block (.seq ?_)));obtain⟨s,n⟩:∃s,l[i]?=some s:=⟨_,Y2 om⟩
  obtain⟨p,D,E,rfl,hx,A,C⟩:=z i s n;refine .t 2 O ?_
  first|refine .val (.io O O om om MW HF) O ?_|refine .val (.ii O O om om MW HF) O ?_
  first|refine .val (.fo 2 O G9 O O AQ O) O ?_|refine .val (.fi 2 O G9 O O AQ O) O ?_
  refine .val (.BS (.of O) f (At.add hx _) Bg O) O (.run 3 O ⟨A8,trivial⟩ (.gm O O O O (.gm O O O O ?_)));refine .Aj O O (λb=>(by first|exact .indexAddr (.gd b O) (.gd b O) (ot b) (ot b) MW HF|exact .AD (.gd b O) (.gd b O) (ot b) (ot b) MW HF)) O ?_;refine .Aj O O (λb=>(by first|exact .fieldAddr 2 (.gd b O) G9 O O AQ O|exact .Bq 2 (.gd b O) G9 O O AQ O)) O ?_;refine .Aj O O (λb=>(.BS (.gd b O) f (At.add hx _) Bg O)) O (.Aj O O (λb=>(.len (.gd b O) A8)) O (.Aj O O (λb=>(.leq (.gd b O) (.of O))) O (.val (.pa O O O) O (.q 1 O (.gm O O O O (.gm O O O O ?_))))));refine .Aj O O (λb=>(by first|exact .indexAddr (.gd b O) (.gd b O) (ot b) (ot b) MW HF|exact .AD (.gd b O) (.gd b O) (ot b) (ot b) MW HF)) O ?_;refine .Aj O O (λb=>(by first|exact .fieldAddr 6 (.gd b O) G9 O O AQ O|exact .Bq 6 (.gd b O) G9 O O AQ O)) O ?_;refine .Aj O O (λb=>(.BS (.gd b O) f (At.add hx _) Bg O)) O (.Aj O O (λb=>(.len (.gd b O) A8)) O (.Aj O O (λb=>(.gtr (.gd b O) (.of O))) O (.Aj O O (λb=>(.move (.gd b O))) O (.F5 O O O (λb c=>(.mo O)) O (.F5 O O O (λb c=>(.mo O)) O ?_)))));refine .F5 O O O (λb c=>(by first|exact .indexAddr (.cK b c O) (.cK b c O) (by(try simp only[jy]at b c);omega) (by(try simp only[jy]at b c);omega) MW HF|exact .AD (.cK b c O) (.cK b c O) (by(try simp only[jy]at b c);omega) (by(try simp only[jy]at b c);omega) MW HF)) O ?_;refine .F5 O O O (λb c=>(by first|exact .fieldAddr 6 (.cK b c O) G9 O O AQ O|exact .Bq 6 (.cK b c O) G9 O O AQ O)) O ?_;refine .F5 O O O (λb c=>(.BS (.cK b c O) f (At.add hx _) Bg O)) O (.F5 O O O (λb c=>(.len (.cK b c O) A8)) O (.F5 O O O (λb c=>(.leq (.cK b c O) (.of O))) O (.Aj O O (λb=>(.k3 (.gd b O) (.gd b O) (.of O))) O (.val (.po O O O) O (.q 1 O (.gm O O O O (.gm O O O O ?_)))))));refine .Aj O O (λb=>(by first|exact .indexAddr (.gd b O) (.gd b O) (ot b) (ot b) MW HF|exact .AD (.gd b O) (.gd b O) (ot b) (ot b) MW HF)) O ?_;refine .Aj O O (λb=>(by first|exact .fieldAddr 7 (.gd b O) G9 O O IV O|exact .Bq 7 (.gd b O) G9 O O IV O)) O ?_;refine .Aj O O (λb=>(.BS (.gd b O) f (At.add hx _) SY O)) O (.Aj O O (λb=>(.CK (.gd b O) D6)) O (.Aj O O (λb=>(.gtr (.gd b O) (.of O))) O (.val (.po O O O) O (.nil ?_))));refine .cond O (λd=>?_) λd=>?_
  ·refine .seq (.q 1 O (.ret (GD results55 O ?_)));refine⟨_,O,?_,f⟩
   have:Sq l=false:=by
    unfold Sq;rw[show l.all Lq=false from jE.2 ⟨s,Y7 n,by unfold Lq;rw[d];decide⟩];rfl
   rw[this]
  refine .skip (.region (.run 3 O ⟨⟨om,om⟩,trivial⟩ (.nil ?_)));refine⟨i+1,⟨O,O,trivial⟩,⟨om,λj u r v=>?_,f⟩,om⟩;rcases Yt j i with x|x
  ·exact m j u x v
  ·have e:j=i:=om
   subst e;rw[n]at v;cases v;unfold Lq;rw[d];rfl
 have k:=g;try simp only[jy]at k
 refine .exit (.seq (.region (.run 4 O ⟨⟨_,MW⟩,trivial⟩ (.nil (.ret (GD results55 O ?_))))));refine⟨_,O,?_,f⟩
 have:l.all Lq=true:=Dj.2 λs n=>by
  obtain⟨j,r⟩:=EA.1 n;exact m j s (oh ((Y1.1 r).1)) r
 unfold Sq;rw[this,Cv]
open DN
def bad(l:List Sv)(i:Nat)(s:Sv):Nat :=
 if i=16 then 5 else if(decide (s.id<0)||decide (8<(s.rel.length:Int)))=true then 1 else if(l.take i).any (λt=>t.id==s.id)=true then 7
 else if(((DN.ZC s.urls).1 !=0)||((DN.ZC s.calls).1 !=0))=true then 8 else 0
def Z7(l:List Sv):Nat->List Sv->Nat×Nat
 | _,[]=>(0,0)
 | i,s::r=>if bad l i s≠0 then(bad l i s,i)else Z7 l (i+1) r
def Hg(l:List Sv):Nat×Nat:=Z7 l 0 l
theorem vk(l:List Sv):∀(n i:Nat) (r:List Sv),(∀j s,j<n->r[j]?=some s->bad l (i+j) s=0)->Z7 l i r=Z7 l (i+min n r.length) (r.drop n)
 | 0,i,r,_=>by simp
 | n+1,i,[],_=>by simp[Z7]
 | n+1,i,s::r,h=>by
  have a:=h 0 s om O;rw[ER]at a;rw[Z7,Y3 (nB a),vk l n (i+1) r (λj t c b=>by have:=h (j+1) t om (su b);rw[show i+1+j=i+(j+1)by omega];exact this),Ks,Y5]
  congr 1
  omega
theorem RY{l:List Sv}{s:Sv}(h:∀j t,j<i->l[j]?=some t->bad l j t=0)(a:l[i]?=some s)(b:bad l i s≠0):Hg l=(bad l i s,i):=by
 have hi:=(Y1.1 a).1;unfold Hg;rw[vk l i 0 l (λj t c d=>by rw[Yk];exact h j t c d),Yk,M8 om,Ym hi,(Y1.1 a).2,Z7,Y9 b]
theorem Mj{l:List Sv}(h:∀j t,l[j]?=some t->bad l j t=0):Hg l=(0,0):=by
 unfold Hg;rw[vk l l.length 0 l (λj t _ a=>by rw[Yk];exact h j t a),nI];rfl
def Tz(I:Im)(a:Oa)(L:List Lv)(l:List Sv):Prop:=L.length=l.length/\∀(i:Nat) (s:Sv),l[i]?=some s->∃p c,a=some p/\L[i]?=some c/\At I (p.add (i*8)) c/\E4 I s c
theorem Tz.mono{L:List Lv}{l:List Sv}(h:Tz I a L l)(b:Le I J):Tz J a L l:=⟨h.1,λi s j=>by
 obtain⟨p,c,e,d,f,g⟩:=h.2 i s j;exact⟨p,c,e,d,f.mono b,g.mono b⟩⟩
def aM(L:List Lv)(D:List Int):List Lv:=D.map λd=>L.getD d.toNat []
def C4(l:List Sv):List Nat:=l.map Sv.ord
theorem W9(xs:Lv)(x y:Va)(r:Lv):((xs++[x])++r).set (0+(xs.length:Int).toNat*1) y=(xs++[y])++r:=by
 simp
theorem cN{l:Lu}(h:Xl (l.drop (k:Int).toNat) [42,42]=true)(a:k<l.length):k+1<l.length:=by
 simp[Xl]at h
 omega
theorem Vp{l:Lu}(h:Xl (l.drop (k:Int).toNat) [42,42]=true)(a:k+1<l.length):(at_ l ((k+1:Nat):Int)).toNat=42:=by
 rw[Yd,X7 l (k:=k) om,X7 l (k:=k+1) a]at h;simp[Xl]at h
 rw[show((k+1:Nat):Int)=(k:Int)+1 from O,h.2.2];rfl
theorem qX{l:Lu}{Q:List Pl}{a:List Gq}{Ar:List Int}{X:Except (Int×Int) (List Pl)}(h:Xl (l.drop (k:Int).toNat) [42,42]=false)(g:k<l.length/\(at_ l (k:Int)).toNat=42)
  (e:(match l.drop (k+1)with
   | d::r'=>if d.toNat=42 then AJ r' ((k:Int)+2) (Q++[(2,0,[])]) a Ar else AJ (d::r') ((k:Int)+1) (Q++[(3,0,[])]) a Ar
   | []=>AJ [] ((k:Int)+1) (Q++[(3,0,[])]) a Ar)=X):AJ (l.drop (k+1)) ((k:Int)+1) (Q++[(3,0,[])]) a Ar=X:=by
 cases c:l.drop (k+1)with
 | nil=>rw[c]at e;exact e
 | cons d r =>
  rw[c]at e;have f:¬ d.toNat=42:=λb=>by
   rw[Yd,X7 l (k:=k) g.1,c]at h;have i:at_ l (k:Int)=42:=CS.1 g.2;have j:d=42:=CS.1 b;rw[i,j]at h;simp[Xl]at h
   omega
  simp only[f,if_false]at e
  exact e
theorem Xr1(l:Lu)(N:La)(c:Aa B w I N)(hl:l.length<=9223372036854775807):Calls prog 373 #[S l] w (AY λv w'=>(∃e a J,cmp l=.error (e,a)/\v=.tuple #[.pointer none,Ab e,Ab a]/\Le I J/\Aa B w' J N)\/
   (∃Q p J,cmp l=.ok Q/\v=.tuple #[.pointer (some p),Ab 0,Ab 0]/\Le I J/\D3 J p Q l.length/\Aa B w' J N)):=by
 refine gN 6 ?_ ?_<;>intro bj
 ·exact gG 3 (.inl ⟨_,_,I,by rw[cmp,Y9 om],O,Le.refl I,c⟩)
 refine gH 2 ?_;intro a8 w c;have c:=((((Xxt c).Ai 3 1).Ai 121 1).Ai 522 3).pick 4 O;try dsimp only[List.eraseIdx]at c
 refine gG 2 ?_;refine .lk [0,5] (σ:=Nat×List Gq×List (Va×List Int)×List Pl×List Ez×Va×Va×Va×List Int×Im) (λ(k,d,st,Q,P,lv,sv,av,Ar,J) _m=>(6,Ab (k:Nat))::_m) (λ(k,d,st,Q,P,lv,sv,av,Ar,J) w=>k<=l.length/\Q.length<=k/\st.map (·.2)=d.reverse.map FC/\d.length<=4/\Ar.length=d.length/\Frames Q Q.length d/\BZ J P Q/\Le I J/\AJ (l.drop k) k Q d Ar=cmp l/\Aa B w J (Ac a8 [lv,sv,av] 501::An 522 3 lv P.length (P.flatMap Aq)::An 121 1 sv st.length (st.map (·.1))::An 3 1 av Ar.length (Ar.map Ab)::He 3 st::N)) (λ(k,d,st,Q,P,lv,sv,av,Ar,J)=>l.length-k) (0,[],[],[],[],.slice none 0 0,.slice none 0 0,.slice none 0 0,[],I) ⟨Y4 _,Ya _,O,by simp,O,trivial,BZ.nil _,Le.refl _,by rw[cmp,Y3 om];first|done|rfl,c⟩ ?_;rintro⟨k,d,st,Q,P,lv,sv,av,Ar,J⟩ w ⟨hk,b9,C,m,q,R,D,F,G,c⟩;obtain⟨la,lc,rfl,cc,_⟩:=c.vS 1;obtain⟨sa,sc,rfl,cf,_⟩:=c.vS 2;obtain⟨aa,ac,rfl,ca,_⟩:=c.vS 3;have H:st.length=d.length:=by have:=Yc List.length C;simpa using this
 have b7:=D.1;refine gN 4 ?_ ?_<;>intro bk
 ·refine gN 13 ?_ ?_<;>intro bl
  ·refine gC 1 (R2 _ _ _ _ _ _ _ _ _ c om) ?_;rintro _ w ⟨rfl,z,c⟩;refine gG 3 ?_;have g:=G;rw[X7 l om,Xp,Y9 om]at g;refine rd (k+1,d,st,Q++[(1,0,[])],P++[(1,0,.slice none 0 0)],z,.slice sa st.length sc,.slice aa Ar.length ac,Ar,J) ⟨om,by rw[Y0];simp;omega,C,m,q,R.app _,D.snoc _ _ _ _ (Br.nil _),F,g,?_⟩ od;rw[Y0,M6];exact c
  refine gN 2 ?_ ?_<;>intro bm
  ·refine gC 3 (n_ _ _ _ (by simp;omega) sz) ?_;rintro _ _ ⟨rfl,rfl⟩;refine gM 0 ?_ ?_<;>intro K bn
   ·refine gC 1 (R2 _ _ _ _ _ _ _ _ _ c om) ?_;rintro _ w ⟨rfl,z,c⟩;refine gG 6 ?_;have g:=G;have az:k+1<l.length:=cN K om;rw[X7 l om,Xp,Y3 om,Y9 om,X7 l az]at g;simp only[]at g
    rw[Y9 (Vp K az)]at g;refine rd (k+2,d,st,Q++[(2,0,[])],P++[(2,0,.slice none 0 0)],z,.slice sa st.length sc,.slice aa Ar.length ac,Ar,J) ⟨om,by rw[Y0];simp;omega,C,m,q,R.app _,D.snoc _ _ _ _ (Br.nil _),F,g,?_⟩ od;rw[Y0,M6];exact c
   refine gC 1 (R2 _ _ _ _ _ _ _ _ _ c om) ?_;rintro _ w ⟨rfl,z,c⟩;refine gG 3 ?_;have g:=G;rw[X7 l om,Xp,Y3 om,Y9 om]at g;have g:=qX K om g;refine rd (k+1,d,st,Q++[(3,0,[])],P++[(3,0,.slice none 0 0)],z,.slice sa st.length sc,.slice aa Ar.length ac,Ar,J) ⟨om,by rw[Y0];simp;omega,C,m,q,R.app _,D.snoc _ _ _ _ (Br.nil _),F,g,?_⟩ od;rw[Y0,M6];exact c
  refine gN 2 ?_ ?_<;>intro bo
  ·refine gN 2 ?_ ?_<;>intro bp
   ·refine gG 4 ?_;have g:cmp l=.error (24,(k:Int)):=by rw[<-G,X7 l om,Xp,Y3 om,Y3 om,Y9 om,Y9 om]
    exact .inl ⟨_,_,J,g,O,F,c.s⟩
   refine gC 2 (Xrq _ _ _ _ _ _ st Ar _ _ c om om om) ?_;rintro _ w ⟨rfl,z,ak,X,bg,c⟩;refine gG 3 ?_;have g:=G;rw[X7 l om,Xp,Y3 om,Y3 om,Y9 om,Y3 om]at g;have hx:=D.1;refine rd (k+1,(Q.length,[])::d,st++[(bg,[(P.length:Int)])],Q++[(4,0,[])],P++[(4,0,.slice none 0 0)],z,ak,X,Ar++[(k:Int)],J) ⟨om,by rw[Y0];simp;omega,?_,by simp;omega,by simp[q],⟨by simp,by simp,by simp,λb M=>by simp at M,R.grow sz sz λi hi ah=>by rw[Ye hi];exact ah⟩,D.snoc _ _ _ _ (Br.nil _),F,g,?_⟩ od
   ·simp[C,FC,hx]
   ·simp only[Y0,M6,Yn,aT,Yu,ED];exact c
  refine gM 2 ?_ ?_<;>intro V W
  ·refine gT 0 (λV W=>?_);refine gN 2 ?_ ?_<;>intro au
   ·refine gG 4 ?_;obtain rfl:d=[]:=Yi om;have g:cmp l=.error (10,(k:Int)):=by rw[<-G,X7 l om,Xp,Y3 om,Y3 om,Y3 om,Y9 om]
    exact .inl ⟨_,_,J,g,O,F,c.s⟩
   refine gU 2 (λar aw=>?_);refine gG 0 ?_;obtain⟨o,A,rest,rfl⟩:∃o A rest,d=(o,A)::rest:=by
    cases d with
    | nil=>exfalso;have:st.length=0:=H;omega
    | cons f r=>exact⟨f.1,f.2,r,O⟩
   obtain⟨t,mv,rfl,L⟩:=Xwy C;obtain⟨ax,U,bd,af,ay⟩:=id R;simp only[Yn,Yu,ED,Y0,aT]at c
   have be:t.length+1=rest.length+1:=su H
   have ab:Ar.length=rest.length+1:=su q
   have ag:rest.length+1<=4:=su m
   obtain⟨gs,cg,rs,E,a1,a2,bu,a3,c⟩:=c.AF (k:=2) O om;injection E with E _ ai;subst E;subst ai;try dsimp only[List.set]at c
   have e4:He 3 (t++[(mv,FC (o,A))])=Am ((t.map λx=>An 3 1 x.1 x.2.length (x.2.map Ab))++[An 3 1 mv (FC (o,A)).length ((FC (o,A)).map Ab)]):=by rw[He,Yn];rfl
   rw[e4]at c;replace c:=c.pop (k:=4) O;try dsimp only[List.set]at c
   obtain⟨ma,mc,rfl,cd,_⟩:=c.vS 0;have ce:(FC (o,A)).length=A.length+1:=by simp[FC]
   have Y:(((t++[(Value.slice ma (FC (o,A)).length mc,FC (o,A))]).length:Nat):Int)-1=(t.length:Int):=by simp
   refine gD [3,1] [22] [0,1,2,3,4,5,6,7,8,9,10,11,12,13,14,15,16,17,18,19,20,21,22] ?_;intro w c;refine gH 13 ?_;refine A1.y 13 (λw _ _ ba c=>.lo O c (k:=0) O Mr (v:=Value.slice ma (FC (o,A)).length mc) (by rw[Y];simp)) ?_;refine gH 6 ?_;intro b1 w c;refine gH 1 ?_;intro an ap a6 w c;have a0:FC (o,A++[Q.length])=FC (o,A)++[(P.length:Int)]:=by simp[FC,D.1]
   refine gH 1 (A1.e ?_);refine .s1 c (k:=3) O O O O mP (by rw[Y];simp) ?_;intro w c;try dsimp only[List.set]at c
   rw[Y,show(t.length:Int)=((t.map (·.1)).length:Int)by simp,W9]at c;replace c:=c.AR (k:=3) (n:=t.length+1) (cap:=sc) (size:=1) O a1 a2 sz (su a3);try dsimp only[List.set]at c
   replace c:=c.push (k:=4) O;try dsimp only[List.set]at c
   replace c:=c.say (k:=4) (A':=He 3 (t++[(.slice an ((FC (o,A)).length+1) ap,FC (o,A++[Q.length]))])) O (λh hh=>by rw[a0,He,Yn];simp only[Yu,ED,Y0,aT,Yn];exact hh);try dsimp only[List.set]at c
   refine gC 1 (R2 _ _ _ _ _ _ _ _ _ c om) ?_;rintro _ w ⟨rfl,z,c⟩;refine gG 3 ?_;have g:=G;rw[X7 l om,Xp,Y3 om,Y3 om,Y3 om,Y9 om]at g;simp only[]at g
   have hx:=D.1;refine rd (k+1,(o,A++[Q.length])::rest,t++[(.slice an ((FC (o,A)).length+1) ap,FC (o,A++[Q.length]))],Q++[(5,0,[])],P++[(5,0,.slice none 0 0)],z,.slice (some (ad gs 0)) (t.length+1) sc,.slice aa Ar.length ac,Ar,J) ⟨om,by rw[Y0];simp;omega,?_,su m,su q,⟨?_,?_,?_,?_,?_⟩,D.snoc _ _ _ _ (Br.nil _),F,g,?_⟩ od
   ·simp[L]
   ·simp;omega
   ·rw[Ye ax];exact U
   ·simp;omega
   ·intro b M;rcases Ys.1 M with M|M
    ·have:=af b M;simp;omega
    ·simp at M;subst M;simp;omega
   ·exact ay.grow (Ya _) sz λi hi ah=>by rw[Ye om];exact ah
   ·simp only[Y0,M6,Yn,aT,Yu,ED];exact c
  refine gM 2 ?_ ?_<;>intro V W
  ·refine gN 2 ?_ ?_<;>intro au
   ·refine gG 4 ?_;obtain rfl:d=[]:=Yi om;have g:cmp l=.error (10,(k:Int)):=by rw[<-G,X7 l om,Xp,Y3 om,Y3 om,Y3 om,Y3 om,Y9 om]
    exact .inl ⟨_,_,J,g,O,F,c.s⟩
   refine gT 2 (λar aw=>?_);refine gH 1 ?_;obtain⟨o,A,rest,rfl⟩:∃o A rest,d=(o,A)::rest:=by
    cases d with
    | nil=>exfalso;have:st.length=0:=H;omega
    | cons f r=>exact⟨f.1,f.2,r,O⟩
   obtain⟨t,mv,rfl,L⟩:=Xwy C;obtain⟨ax,U,bd,af,ay⟩:=id R;simp only[Yn,Yu,ED,Y0,aT]at c
   have be:t.length+1=rest.length+1:=su H
   have ab:Ar.length=rest.length+1:=su q
   have ag:rest.length+1<=4:=su m
   refine gC 0 (Qb _ _ _ _ mv P Q t o A Ar _ c D (λb M=>by have:=af b M;have hx:=D.1;omega) (by have hx:=D.1;omega) 4 0 (D.kU U) U (by have hx:=D.1;omega) om om om) ?_;rintro _ w ⟨rfl,z,ak,X,P2,J2,T,aq,c⟩;refine gG 3 ?_;have g:=G;rw[X7 l om,Xp,Y3 om,Y3 om,Y3 om,Y3 om,Y9 om]at g;simp only[]at g
   have hx:=D.1;refine rd (k+1,rest,t,Ig Q.length o Q [] A++[(6,0,[])],P2,z,ak,X,Ar.take rest.length,J2) ⟨om,by rw[Y0,oe];simp;omega,L,by simp at m;omega,by simp at q;simp;omega,R.close _,by rw[hx]at aq;exact aq,F.trans T,g,?_⟩ od;have e5:(Ar.take rest.length).length=t.length:=by simp at q;rw[Yl];omega
   have e6:rest.length=t.length:=om
   rw[e5,e6];exact c
  refine gN 2 ?_ ?_<;>intro bq
  ·refine gN 5 ?_ ?_<;>intro br
   ·refine gG 4 ?_;have g:cmp l=.error (10,(k:Int)):=by rw[<-G,X7 l om,Xp,Y3 om,Y3 om,Y3 om,Y3 om,Y3 om,Y9 om,Yb om]
    exact .inl ⟨_,_,J,g,O,F,c.s⟩
   refine gC 7 (R2 _ _ _ _ _ _ _ _ _ c om) ?_;rintro _ w ⟨rfl,z,c⟩;refine gG 3 ?_;have g:=G;rw[X7 l om,Xp,Y3 om,Y3 om,Y3 om,Y3 om,Y3 om,Y9 om,X7 l (k:=k+1) om]at g;simp only[]at g
   refine rd (k+2,d,st,Q++[(0,((at_ l ((k:Int)+1)).toNat:Int),[])],P++[(0,((at_ l ((k:Int)+1)).toNat:Int),.slice none 0 0)],z,.slice sa st.length sc,.slice aa Ar.length ac,Ar,J) ⟨om,by rw[Y0];simp;omega,C,m,q,R.app _,D.snoc _ _ _ _ (Br.nil _),F,g,?_⟩ od;rw[Y0,M6];exact c
  refine gC 2 (R2 _ _ _ _ _ _ _ _ _ c om) ?_;rintro _ w ⟨rfl,z,c⟩;refine gG 3 ?_;have g:=G;rw[X7 l om,Xp,Y3 om,Y3 om,Y3 om,Y3 om,Y3 om,Y3 om]at g;refine rd (k+1,d,st,Q++[(0,((at_ l (k:Int)).toNat:Int),[])],P++[(0,((at_ l (k:Int)).toNat:Int),.slice none 0 0)],z,.slice sa st.length sc,.slice aa Ar.length ac,Ar,J) ⟨om,by rw[Y0];simp;omega,C,m,q,R.app _,D.snoc _ _ _ _ (Br.nil _),F,g,?_⟩ od;rw[Y0,M6];exact c
 refine gN 8 ?_ ?_<;>intro bc
 ·refine gG 0 ?_;obtain⟨b8,c8,r,E,_,_,_,_,c⟩:=c.AF (k:=3) O om;injection E with E _ ai;subst E;subst ai;try dsimp only[List.set]at c
  refine gQ ?_;intro w c;refine gH 7 (A1.y 7 (λw _ _ ba c=>.gJ Ab Ar 0 r (.of O) c (k:=3) O O BJ om om) (gG 3 ?_));have g:cmp l=.error (23,Ar.getD ((Ar.length:Int)-1).toNat 0):=by rw[<-G,show((Ar.length:Int)-1).toNat=Ar.length-1 by omega,Yb om,ow,Y9 om]
  exact .inl ⟨_,_,J,g,O,F,c.s⟩
 refine gC 1 (R2 _ _ _ _ _ _ _ _ _ c om) ?_;rintro _ w ⟨rfl,z,c⟩;obtain⟨a9,c9,rfl,ae,_⟩:=c.vS 1;refine gG 11 ?_;intro bi w c;have g:cmp l=.ok (Q++[(7,0,[])]):=by rw[<-G,Yb om,ow,Y3 om]
 obtain⟨J2,T,bf,c⟩:=c.fV 2;try dsimp only[List.eraseIdx]at c
 obtain⟨J3,Z,bb,c⟩:=c.fZ 0;try dsimp only[List.eraseIdx]at c
 refine .inr ⟨_,_,J3,g,O,(F.trans T).trans Z,⟨a9,c9,P++[(7,0,.slice none 0 0)],?_,?_,?_,?_⟩,c.s⟩
 ·refine⟨O,_,_,_,bb,λj u hj=>?_⟩;rw[Y0]at hj;simpa using hj
 ·simpa using ae
 ·rw[Y0,M6];exact bf.mono Z
 ·exact((D.snoc _ _ _ _ (Br.nil _)).mono T).mono Z
end Go.Proofs.W9
namespace DN
open Go Gk
def fR(k:Int):Bool:=(((k==2)||(k==3))||(k==4))||(k==6)
def Hh(Q:List Pl):Nat->List Bool->Nat->List Bool
 | 0,set,_=>set
 | f+1,set,i=>bif set.getD i false then set else
   bif fR (Q.getD i (7,0,[])).1 then Hh Q f ((Q.getD i (7,0,[])).2.2.foldl (λs t=>Hh Q f s t.toNat) (set.set i true)) (i+1)
   else(Q.getD i (7,0,[])).2.2.foldl (λs t=>Hh Q f s t.toNat) (set.set i true)
def aQ(s:List Bool):Nat:=s.countP (λb=>!b)
def CC(s t:List Bool):Prop:=s.length=t.length/\∀i:Nat,s.getD i false=true->t.getD i false=true
theorem CC.refl(s:List Bool):CC s s:=⟨O,λ_ h=>h⟩
theorem CC.trans{s t u:List Bool}(h:CC s t)(k:CC t u):CC s u:=⟨h.1.trans k.1,λi hi=>k.2 i (h.2 i hi)⟩
theorem CC.set(s:List Bool)(i:Nat):CC s (s.set i true):=by
 refine⟨by simp,λj a=>?_⟩;rw[Yf]at a ⊢;rw[nG]
 by_cases e:i=j
 ·subst e;have b:i<s.length:=by
   apply Classical.byContradiction
   intro c;rw[Zy om]at a;cases a
  simp[b]
 ·simpa[e]using a
theorem xD:∀{s t:List Bool},CC s t->aQ t<=aQ s
 | [],[],_=>Ya _
 | [],_::_,h=>by cases h.1
 | _::_,[],h=>by cases h.1
 | a::s,b::t,h=>by
  have c:CC s t:=⟨su h.1,λi hi=>by have:=h.2 (i+1) (su hi);simpa using this⟩
  have d:=xD c;have e:=h.2 0;unfold aQ at d ⊢;cases a<;>cases b<;>simp_all<;>omega
theorem Xqn:∀{s:List Bool} {i:Nat},i<s.length->s.getD i false=false->aQ (s.set i true)+1=aQ s
 | [],_,h,_=>by simp at h
 | a::s,0,_,h=>by simp at h;subst h;simp[aQ]
 | a::s,i+1,h,b=>by
  have:=Xqn (i:=i) (su h) (su b)
  unfold aQ at this ⊢;cases a<;>simp_all
theorem oE(Q:List Pl):∀(f:Nat) (s:List Bool) (i:Nat),CC s (Hh Q f s i)
 | 0,s,_=>CC.refl s
 | f+1,s,i=>by
  have a:∀(l:List Int) (s:List Bool),CC s (l.foldl (λs t=>Hh Q f s t.toNat) s):=by
   intro l
   induction l with
   | nil=>intro s;exact CC.refl s
   | cons x l b=>intro s;exact(oE Q f s x.toNat).trans (b _)
  rw[Hh];cases s.getD i false
  ·cases fR (Q.getD i (7,0,[])).1
   ·exact(CC.set s i).trans (a _ _)
   ·exact((CC.set s i).trans (a _ _)).trans (oE Q f _ _)
  ·exact CC.refl s
theorem Xv7(Q:List Pl)(f:Nat):∀(l:List Int) (s:List Bool),CC s (l.foldl (λs t=>Hh Q f s t.toNat) s)
 | [],s=>CC.refl s
 | x::l,s=>(oE Q f s x.toNat).trans (Xv7 Q f l _)
def WF(Q:List Pl):Prop:=∀(i:Nat) (q:Pl),Q[i]?=some q->(∀t∈q.2.2,0<=t/\t<(Q.length:Int))/\(fR q.1=true->i+1<Q.length)/\(0<=q.1/\q.1<=7)/\(q.1≠7->i+1<Q.length)/\q.2.2.length<=Q.length
theorem RL(f:β->α->β)(b:β)(l:List α)(k:Nat)(d:α)(h:k<l.length):(l.take (k+1)).foldl f b=f ((l.take k).foldl f b) (l.getD k d):=by
 rw[List.take_succ_eq_append_getElem h,M7];simp[Yf,h]
theorem WF.at_{Q:List Pl}(h:WF Q)(hi:i<Q.length):(∀t∈(Q.getD i (7,0,[])).2.2,0<=t/\t<(Q.length:Int))/\(fR (Q.getD i (7,0,[])).1=true->i+1<Q.length)/\(0<=(Q.getD i (7,0,[])).1/\(Q.getD i (7,0,[])).1<=7)/\((Q.getD i (7,0,[])).1≠7->i+1<Q.length)/\(Q.getD i (7,0,[])).2.2.length<=Q.length:=by
 have e:Q[i]?=some (Q.getD i (7,0,[])):=by simp[Yf,hi]
 exact h i _ e
def Sf(k c:Int)(b:Ui):Bool:=bif k==0 then c==(b.toNat:Int)else bif (k==1)||(k==3)then(b.toNat:Int)!=47 else k==2
def Hf(Q:List Pl)(F:Nat)(c:Ui)(now:List Bool)(st:List Bool×Bool×Nat)(k:Nat):List Bool×Bool×Nat :=
 bif now.getD k false then
  bif Sf (Q.getD k (7,0,[])).1 (Q.getD k (7,0,[])).2.1 c then
   (Hh Q F st.1 (bif ((Q.getD k (7,0,[])).1==2)||((Q.getD k (7,0,[])).1==3)then k else k+1),true,st.2.2+1)
  else(st.1,st.2.1,st.2.2+1)
 else st
def LU(Q:List Pl)(F:Nat)(c:Ui)(now:List Bool)(a:Nat):List Bool×Bool×Nat:=iter (Hf Q F c now) (List.replicate Q.length false,false,a) Q.length
def W2(Q:List Pl)(F:Nat):List UInt8->List Bool->Nat->List Bool×Nat
 | [],now,st=>(now,st)
 | c::r,now,st=>bif (LU Q F c now st).2.1 then W2 Q F r (LU Q F c now st).1 (LU Q F c now st).2.2 else((LU Q F c now st).1,(LU Q F c now st).2.2)
def run(Q:List Pl)(l:Lu):List Bool×Nat:=W2 Q (Q.length+1) l (Hh Q (Q.length+1) (List.replicate Q.length false) 0) 1
theorem Xtq(Q:List Pl)(F:Nat)(c:Ui)(now:List Bool)(st:List Bool×Bool×Nat)(k:Nat):st.2.2<=(Hf Q F c now st k).2.2/\(Hf Q F c now st k).2.2<=st.2.2+1:=by
 unfold Hf;cases now.getD k false<;>cases Sf (Q.getD k (7,0,[])).1 (Q.getD k (7,0,[])).2.1 c<;>simp
theorem Rx(Q:List Pl)(F:Nat)(c:Ui)(now:List Bool)(st:List Bool×Bool×Nat)(k:Nat):(Hf Q F c now st k).1.length=st.1.length:=by
 unfold Hf;cases now.getD k false<;>cases Sf (Q.getD k (7,0,[])).1 (Q.getD k (7,0,[])).2.1 c<;>simp
 exact(oE Q F _ _).1.symm
theorem Xay(Q:List Pl)(F:Nat)(c:Ui)(now:List Bool)(st:List Bool×Bool×Nat):∀k,(iter (Hf Q F c now) st k).1.length=st.1.length/\st.2.2<=(iter (Hf Q F c now) st k).2.2/\(iter (Hf Q F c now) st k).2.2<=st.2.2+k
 | 0=>⟨O,Ya _,Ya _⟩
 | k+1=>by
  have h:=Xay Q F c now st k;have a:=Xtq Q F c now (iter (Hf Q F c now) st k) k;have b:=Rx Q F c now (iter (Hf Q F c now) st k) k;rw[iter];omega
theorem At.sub{us:Lv}(h:At I p vs)(g:∀(j:Nat) (v:Va),us[j]?=some v->vs[j]?=some v):At I p us:=by
 obtain⟨c,a,E,b,d,e⟩:=h;exact⟨c,a,E,b,d,λj v f=>e j v (g j v f)⟩
theorem At.place{b:Addr}{P:List Ez}{x:Ez}(h:At I b (P.flatMap Aq))(hx:P[i]?=some x):At I (b.add (i*3)) [.int .u8 x.1,.int .u8 x.2.1,x.2.2]:=by
 refine At.sub (h.add (i*3)) λj v a=>?_
 have c:j<3:=by have:=(Y1.1 a).1;simpa using this
 rw[Hk]
 have:=xd Aq 3 iM P [] i j x hx c
 rw[Yy]at this;rw[this];exact a
theorem D3.opened{Q:List Pl}(h:D3 I p Q n)(i:0<Q.length):∃b c P,At I p [.slice (some b) Q.length c,Ab n]/\At I b (P.flatMap Aq)/\BZ I P Q:=by
 obtain⟨a,c,P,e,j,f,d⟩:=h;obtain⟨b,rfl,g⟩:=f.2 (by rw[d.1];exact i);exact⟨b,c,P,by rw[<-d.1];exact e,g,d⟩
theorem BZ.at_{P:List Ez}{Q:List Pl}(h:BZ I P Q)(hi:i<Q.length):∃c f,P[i]?=some ((Q.getD i (7,0,[])).1,(Q.getD i (7,0,[])).2.1,.slice c (Q.getD i (7,0,[])).2.2.length f)/\∃d,0<(Q.getD i (7,0,[])).2.2.length->c=some d/\At I d ((Q.getD i (7,0,[])).2.2.map Ab):=by
 have e:Q[i]?=some (Q.getD i (7,0,[])):=by simp[Yf,hi]
 obtain⟨⟨n,o,q⟩,k⟩:∃p,P[i]?=some p:=⟨_,Y2 (by rw[h.1];exact hi)⟩
 obtain⟨a,b,_,c,f,j,_,l⟩:=h.2 i _ _ k e;simp only at a b j
 subst a;subst b;subst j;refine⟨c,f,k,?_⟩
 by_cases g:0<(Q.getD i (7,0,[])).2.2.length
 ·obtain⟨d,rfl,m⟩:=l.2 g;exact⟨d,λ_=>⟨O,m⟩⟩
 ·exact⟨ad 0 0,λh=>Yz h g⟩
end DN
namespace Go.Proofs.W9
open Gk DN
open Tryz
theorem QG{l:List Int}(h:k<l.length):l.getD k 0∈l:=by
 rw[Yf,Y2 h];exact jG h
theorem wS(l:List Bool):aQ l<=l.length:=List.countP_le_length
theorem Xos:prog.info? 4=some t4:=by kernel_rfl
theorem xF(Q:List Pl)(p:Addr)(nn n:Nat)(q:WF Q)(Y:Q.length=n)(L:n<=100000):∀(f:Nat) (set:List Bool) (i:Int) (b c:Nat) (r:Lv) (B w:Wo) (I:Im) (N:La),
  Aa B w I (Ac b (set.map Value.bool++r) 4::N)->D3 I p Q nn->set.length=n->0<=i->i<n->aQ set<f->
  Ce B I (Ac b ((Hh Q f set i.toNat).map Value.bool++r) 4::N) 460 [.pointer (some p),.slice (some (ad b 0)) n c,Ab i] w (.tuple #[]):=by
 intro f
 induction f with
 | zero=>intros;omega
 | succ f F =>
  intro set i b c r B w I N a x E J K W;refine gH 3 (.val (.gJ .bool set false r (.of O) a (k:=0) O O IL om om) O ?_);refine gM 0 ?_ ?_<;>intro j m
  ·exact gG 0 ⟨O,by rw[Hh,j];exact a⟩
  refine gH 3 (.stE .bool set r (u:=true) a (k:=0) O (.of O) (.of O) O O DO om om ?_);intro w a;dsimp only[List.set]at a;obtain⟨Z,lc,P,y,v,H⟩:=x.opened om;obtain⟨U,V,hx,xp,A⟩:=H.at_ (i:=i.toNat) om;have T:=Xqn (i:=i.toNat) om j;have S:=(q.at_ (i:=i.toNat) om).2.2.2.2;refine gH 3 (.val (.BS (.of O) a y IP O) O (gH 2 (.val (.B5 (.of O) a (DN.At.place v hx) isAgg522 Mu O (λ_ _ h=>h)) O (gG 6 ?_))));intro G w a;refine .lk [0,1,2,6,24,25] (σ:=Nat) (λk _m=>(26,Ab (k:Nat))::_m) (λk w=>k<=(Q.getD i.toNat (7,0,[])).2.2.length/\Aa B w I (Ac G [.int .u8 (Q.getD i.toNat (7,0,[])).1,.int .u8 (Q.getD i.toNat (7,0,[])).2.1,.slice U (Q.getD i.toNat (7,0,[])).2.2.length V] 522::Ac b ((((Q.getD i.toNat (7,0,[])).2.2.take k).foldl (λs t=>Hh Q f s t.toNat) (set.set i.toNat true)).map Value.bool++r) 4::N)) (λk=>(Q.getD i.toNat (7,0,[])).2.2.length-k) 0 ⟨Y4 _,a⟩ ?_;rintro k w ⟨X,a⟩;have d:=Xv7 Q f ((Q.getD i.toNat (7,0,[])).2.2.take k) (set.set i.toNat true);obtain⟨S1,e⟩:∃S1,S1=((Q.getD i.toNat (7,0,[])).2.2.take k).foldl (λs t=>Hh Q f s t.toNat) (set.set i.toNat true):=⟨_,O⟩
  rw[<-e]at a d;refine gN 1 ?_ ?_<;>intro C
  ·obtain⟨o,z⟩:=A om;rw[o]at a ⊢;refine gG 0 ?_
   first|refine .val (.io O O om om aE Bl) O ?_|refine .val (.ii O O om om aE Bl) O ?_
   refine .val (.kM Ab (Q.getD i.toNat (7,0,[])).2.2 0 (.of O) a z O BJ om om) O (gH 4 ?_);replace a:=a.pick 1 O;have R:=(q.at_ (i:=i.toNat) om).1 ((Q.getD i.toNat (7,0,[])).2.2.getD k 0) (QG om);refine gC 0 (F S1 _ b c r B w I _ a x (by have:=d.1;simp at this;omega) R.1 om (oh (xD d))) ?_;rintro _ w ⟨rfl,a⟩;replace a:=a.pick 1 O;refine gG 2 (rd (k+1) ⟨om,?_⟩);rw[RL _ _ _ _ 0 om,<-e];exact a
  refine gH 14 ?_;refine gM 4 ?_ ?_<;>intro l D
  ·refine gH 4 ?_;replace a:=a.drop (k:=0) O;rw[Yo om]at e;have g:fR (Q.getD i.toNat (7,0,[])).1=true:=l;have M:=(q.at_ (i:=i.toNat) om).2.1 g;refine gC 0 (F S1 (i+1) b c r B w I _ a x (by have:=d.1;simp at this;omega) om om (oh (xD d))) ?_;rintro _ w ⟨rfl,a⟩;refine gG 0 (⟨O,?_⟩);rw[Hh,m,g];simp only[cond_true,cond_false];rw[<-e];rw[show(i+1).toNat=i.toNat+1 by omega]at a;exact a
  refine gG 0 ?_;have g:fR (Q.getD i.toNat (7,0,[])).1=false:=l;replace a:=a.drop (k:=0) O;rw[Yo om]at e;refine⟨O,?_⟩;rw[Hh,m,g];simp only[cond_true,cond_false];rw[<-e];exact a
theorem Ve(k c:Int)(b:Ui)(v:Va)(N:La)(f:Aa B w I N):Ce B I N 461 [.agg #[.int .u8 k,.int .u8 c,v],U8 b.toNat] w (.bool (Sf k c b)):=by
 refine gG 6 ?_;intro i w f;refine gM 0 ?_ ?_<;>intro d h
 ·exact gG 5 ⟨by rw[Sf,d];first|done|rfl,f.s⟩
 refine gM 2 ?_ ?_<;>intro a e
 ·refine gM 0 ?_ ?_<;>intro a e
  ·exact gG 3 ⟨by rw[Sf,d,a];first|done|rfl,f.s⟩
  refine gH 4 (.nil (.ret ?_));refine λ_ g=>GD g O ?_
  exfalso;simp_all
 refine gM 2 ?_ ?_<;>intro a e
 ·exact gG 3 ⟨by rw[Sf,d,show(k==1)=false by assumption,a];first|done|rfl,f.s⟩
 exact gG 4 ⟨by rw[Sf,d,show(k==1)=false by assumption,a];first|done|rfl,f.s⟩
theorem eu(Q:List Pl)(p:Addr)(nn:Nat)(s:Lu)(T:WF Q)(hQ:0<Q.length)(aj:Q.length<=1000)(ak:nn<=1000)(hs:s.length<=1000000)(N:La)(c:Aa B w I N)(U:D3 I p Q nn):Ce B I N 405 [.pointer (some p),S s] w (.tuple #[.bool ((DN.run Q s).1.getD (Q.length-1) false),Ab (min ((DN.run Q s).2:Int) (((nn:Int)+1)*((s.length:Int)+1)))]):=by
 obtain⟨la,lc,P,x,X,hR⟩:=U.opened om;refine gH 7 ?_;refine .make (l:=Q.length) c (.of O) (.of O) Pb Xos O (by simp[t4]<;>omega) om O O O ?_;intro C w c;refine gH 4 ?_;have H:=wS (List.replicate Q.length false);rw[fY]at H;replace c:Aa B w I (Ac C ((List.replicate Q.length false).map Value.bool++[]) 4::N):=by rw[List.map_replicate,Yy];exact c
 refine gC 0 (xF Q p nn Q.length T O om (Q.length+1) (List.replicate Q.length false) 0 C _ [] B w I N c U sz om om om) ?_;rintro _ w ⟨rfl,c⟩;refine .nil (.seq (.label ?_));refine .ck [0,1] (σ:=List Bool×Nat×Nat) (λ(now,a,bn) _m=>(6,.slice (some (ad bn 0)) Q.length Q.length)::(7,Ab (a:Nat))::_m) (λ(now,a,bn) w=>now.length=Q.length/\(now,a)=DN.run Q s/\Aa B w I (Ac bn (now.map Value.bool++[]) 4::N)) ?_ ?_
 ·refine gG 3 ?_;refine .lk [0,1,24] (σ:=List Bool×Nat×Nat×Nat) (λ(now,b,bn,i) _m=>(6,.slice (some (ad bn 0)) Q.length Q.length)::(7,Ab (b:Nat))::(25,Ab (i:Nat))::_m) (λ(now,b,bn,i) w=>i<=s.length/\now.length=Q.length/\b<=1+i*1000/\W2 Q (Q.length+1) (s.drop i) now b=DN.run Q s/\Aa B w I (Ac bn (now.map Value.bool++[]) 4::N)) (λ(now,b,bn,i)=>s.length-i) (Hh Q (Q.length+1) (List.replicate Q.length false) 0,1,C,0) ⟨Y4 _,by rw[<-(oE Q _ _ _).1];simp,om,O,c⟩ ?_;rintro⟨now,b,bn,i⟩ w ⟨hi,A,V,f,c⟩;have M:=Xay Q (Q.length+1) (at_ s (i:Int)) now (List.replicate Q.length false,false,b);refine gN 1 ?_ ?_<;>intro Y
  ·refine gH 5 (.val (.BS (.of O) c x IP O) O (gH 1 ?_));refine .make (l:=Q.length) c (.of O) (.of O) Pb Xos O (by simp[t4]<;>omega) om O O O ?_;intro o w c;refine gG 5 ?_;refine .lk [0,1,8,9,24,25,34,35] (σ:=List Bool×Bool×Nat×Nat) (λ(next,d,a,k) _m=>(7,Ab (a:Nat))::(10,.bool d)::(36,Ab (k:Nat))::_m) (λ(next,d,a,k) w=>k<=Q.length/\iter (Hf Q (Q.length+1) (at_ s (i:Int)) now) (List.replicate Q.length false,false,b) k=(next,d,a)/\Aa B w I (Ac o (next.map Value.bool++[]) 4::Ac bn (now.map Value.bool++[]) 4::N)) (λ(next,d,a,k)=>Q.length-k) (List.replicate Q.length false,false,b,0) ⟨Y4 _,O,by rw[List.map_replicate,Yy];exact c⟩ ?_;rintro⟨next,d,a,k⟩ w ⟨hk,m,c⟩;have n:=M k;rw[m]at n;simp only[fY]at n;refine gN 1 ?_ ?_<;>intro Z
   ·refine gH 1 ?_
    first|refine .val (.io O O om om Pb DO) O ?_|refine .val (.ii O O om om Pb DO) O ?_
    refine .val (.gJ .bool now false [] (.of O) c (k:=1) O O IL om om) O ?_;refine gM 4 ?_ ?_<;>intro r aa
    ·refine gG 2 ?_;have E:now.getD k false=false:=su r
     have D:Hf Q (Q.length+1) (at_ s (i:Int)) now (next,d,a) k=(next,d,a):=by rw[Hf,E];rfl
     refine rd (next,d,a,k+1) ⟨om,by rw[iter,m,D],c⟩ od
    refine gG 3 ?_;have u:now.getD k false=true:=su r
    obtain⟨xa,xc,hx,_⟩:=hR.at_ (i:=k) om;refine gH 3 (.val (.BS (.of O) c x IP O) O (gH 2 (.val (.B5 (.of O) c (DN.At.place X hx) isAgg522 Mu O (λ_ _ h=>h)) O (gG 2 ?_))));intro ae w c;refine .qt c (.val (λw c=>.DY (.of O) c (k:=0) O isAgg522 Mu O (λj v h=>by simpa using h)) O (.val (λw c=>(.mo O)) O (.val (λw c=>(.mo O)) O (.val (λw c=>(.index (.of O) (.of O) om om A8)) O (.call func461 O (A3 O (A3 O X4)) O (λw c=>Ve _ _ _ _ _ c) (.val (λw c=>(.not (.of O))) O (.nil ?_)))))));intro w c;refine gM 0 ?_ ?_<;>intro t ab
    ·refine gG 2 ?_;have u:now.getD k false=true:=su r
     have g:Sf (Q.getD k (7,0,[])).1 (Q.getD k (7,0,[])).2.1 (at_ s (i:Int))=false:=su t
     replace c:=c.drop (k:=0) O;have D:Hf Q (Q.length+1) (at_ s (i:Int)) now (next,d,a) k=(next,d,a+1):=by rw[Hf,u,g];rfl
     refine rd (next,d,a+1,k+1) ⟨om,by rw[iter,m,D],c⟩ od
    refine gM 9 ?_ ?_<;>intro z ac
    ·refine gH 3 ?_;have g:Sf (Q.getD k (7,0,[])).1 (Q.getD k (7,0,[])).2.1 (at_ s (i:Int))=true:=su t
     replace c:=c.pick 1 O;have H:=wS next;refine gC 0 (xF Q p nn Q.length T O om (Q.length+1) next k o _ [] B w I _ c U om om om om) ?_;rintro _ w ⟨rfl,c⟩;refine gG 2 ?_;have G:((Q.getD k (7,0,[])).1==2||(Q.getD k (7,0,[])).1==3)=true:=z;replace c:=c.drop (k:=1) O;have D:Hf Q (Q.length+1) (at_ s (i:Int)) now (next,d,a) k=(Hh Q (Q.length+1) next k,true,a+1):=by rw[Hf,u,g,G];rfl
     refine rd (Hh Q (Q.length+1) next k,true,a+1,k+1) ⟨om,by rw[iter,m,D],c⟩ od
    refine gH 4 ?_;have g:Sf (Q.getD k (7,0,[])).1 (Q.getD k (7,0,[])).2.1 (at_ s (i:Int))=true:=su t
    have ag:=(T.at_ (i:=k) om).2.2.2.1 (λe=>by rw[e,Sf]at g;simp at g);replace c:=c.pick 1 O;have H:=wS next;refine gC 0 (xF Q p nn Q.length T O om (Q.length+1) next (k+1) o _ [] B w I _ c U om om om om) ?_;rintro _ w ⟨rfl,c⟩;refine gG 2 ?_;have G:((Q.getD k (7,0,[])).1==2||(Q.getD k (7,0,[])).1==3)=false:=z;replace c:=c.drop (k:=1) O;have D:Hf Q (Q.length+1) (at_ s (i:Int)) now (next,d,a) k=(Hh Q (Q.length+1) next (k+1),true,a+1):=by rw[Hf,u,g,G];rfl
    refine rd (Hh Q (Q.length+1) next (k+1),true,a+1,k+1) ⟨om,by rw[iter,m,D],c⟩ od
   refine gM 4 ?_ ?_<;>intro K L
   ·refine gG 0 ?_;have F:k=Q.length:=om
    subst F;have W:LU Q (Q.length+1) (at_ s (i:Int)) now b=(next,d,a):=m;replace c:=c.drop (k:=1) O;rw[X7 s om,W2,W]at f;rw[L]at f;exact cd (next,a,o) ⟨n.1,f,c⟩
   refine gG 2 ?_;have F:k=Q.length:=om
   subst F;have W:LU Q (Q.length+1) (at_ s (i:Int)) now b=(next,d,a):=m;replace c:=c.drop (k:=1) O;rw[X7 s om,W2,W]at f;have J:d=true:=su K
   rw[J]at f;exact rd (next,a,o,i+1) ⟨om,n.1,om,f,c⟩ od
  refine gG 0 ?_;rw[Yb om]at f;exact cd (now,b,bn) ⟨A,f,c⟩
 rintro⟨now,a,bn⟩ w ⟨A,f,c⟩;refine gG 0 ?_;have ai:((nn:Int)+1)*((s.length:Int)+1)<=1001*1000001:=Int.mul_le_mul om om om om;have ah:0<=((nn:Int)+1)*((s.length:Int)+1):=Int.mul_nonneg om om;have R:FG (((nn:Int)+1)*((s.length:Int)+1)):=⟨om,om⟩
 refine gQ ?_;intro w c;refine gH 4 (A1.y 4 (λw _ _ q c=>.BS (.of O) c (x.mono q) IP O) (gH 3 (A1.y 8 (λw _ _ q c=>.gJ .bool now false [] (.of O) c (k:=0) O O IL om om) (gH 4 (A1.y 13 (λw _ _ q c=>.BS (.of O) c ((x.add 1).mono q) BJ O) (gH 4 (A1.y 18 (λw _ _ q c=>.mul (.of O) (.of O) R) ?_)))))));exact gG 3 ⟨by rw[<-f,show((Q.length:Int)-1).toNat=Q.length-1 by omega],c.s⟩
end Go.Proofs.W9
namespace DN
open Go Gk
inductive Pt
 | nil
 | lit (k c:Int) (r:Pt)
 | Hl (r:Pt)
 | FA (b r:Pt)
namespace Pt
def len:Pt->Nat
 | nil=>0
 | lit _ _ r=>len r+1
 | Hl r=>len r+1
 | FA b r=>len b+len r+2
def dep:Pt->Nat
 | nil=>0
 | lit _ _ r=>dep r
 | Hl r=>dep r
 | FA b r=>max (dep b+1) (dep r)
def flat:Pt->Prop
 | nil=>True
 | lit _ _ r=>flat r
 | Hl _=>False
 | FA _ r=>flat r
def app:Pt->Pt->Pt
 | nil,q=>q
 | lit k c r,q=>lit k c (app r q)
 | Hl r,q=>Hl (app r q)
 | FA b r,q=>FA b (app r q)
def Gm:Pt->Nat->List Int
 | nil,_=>[]
 | lit _ _ r,n=>Gm r (n+1)
 | Hl r,n=>((n:Int)+1)::Gm r (n+1)
 | FA b r,n=>Gm r (n+2+len b)
def marks:Pt->Nat->List Nat
 | nil,_=>[]
 | lit _ _ r,n=>marks r (n+1)
 | Hl r,n=>n::marks r (n+1)
 | FA b r,n=>marks r (n+2+len b)
def C5(a:List Int):Pt->Nat->List Pl
 | nil,_=>[]
 | lit k c r,n=>(k,c,[])::C5 a r (n+1)
 | Hl r,n=>(5,0,a)::C5 a r (n+1)
 | FA b r,n=>(4,0,Gm b (n+1))::(C5 [((n+1+len b:Nat):Int)] b (n+1)++(6,0,[])::C5 a r (n+2+len b))
theorem TK:∀(p:Pt) (a:List Int) (n:Nat),(C5 a p n).length=p.len
 | nil,_,_=>rfl
 | lit _ _ r,a,n=>by simp[C5,len,TK r]
 | Hl r,a,n=>by simp[C5,len,TK r]
 | FA b r,a,n=>by simp[C5,len,TK b,TK r];omega
end Pt
open Pt
inductive DP:List UInt8->Pt->Prop
 | nil:DP [] .nil
 | one {l p}:DP l p->DP (63::l) (.lit 1 0 p)
 | all {l p}:DP l p->DP (42::42::l) (.lit 2 0 p)
 | Sq {l p}:l.head?≠some 42->DP l p->DP (42::l) (.lit 3 0 p)
 | FA {t l b p}:DP t b->DP l p->DP (40::(t++41::l)) (.FA b p)
 | Hl {l p}:DP l p->DP (124::l) (.Hl p)
 | Ea {l p} (c:UInt8):DP l p->DP (92::c::l) (.lit 0 (c.toNat:Int) p)
 | byte {l p} (c:UInt8):c≠63->c≠42->c≠40->c≠124->c≠41->c≠92->DP l p->DP (c::l) (.lit 0 (c.toNat:Int) p)
def Ub:List Gq->List Nat->List Gq
 | [],_=>[]
 | (o,a)::r,b=>(o,a++b)::r
theorem PU(o:Nat)(a:List Nat)(r:List Gq)(b:List Nat):Ub ((o,a)::r) b=(o,a++b)::r:=rfl
theorem Uc(s:List Gq):Ub s []=s:=by cases s<;>simp[Ub]
theorem rH{A B:List Pl}(h:o<A.length)(xs:List Int):Dy (A++B) o xs=Dy A o xs++B:=by
 unfold Dy;refine PS λi=>?_
 rw[PM,jA,jA,List.length_modify,PM]
 by_cases e:o=i
 ·subst e;simp[h]
 ·simp[e]
theorem Xgn(A:List Pl)(k c:Int)(d xs:List Int)(B:List Pl):Dy (A++(k,c,d)::B) A.length xs=A++(k,c,xs)::B:=by
 unfold Dy;refine PS λi=>?_
 rw[PM]
 by_cases e:A.length=i
 ·subst e;simp
 ·simp[e]
  rcases Yt i A.length with hi|hi
  ·rw[Ye hi,Ye hi]
  ·obtain⟨j,rfl⟩:∃j,i=A.length+(j+1):=⟨i-A.length-1,om⟩
   rw[Yw om,Yw om]
   simp
theorem Xtt{A:List Pl}{k c:Int}{d:List Int}(h:A[o]?=some (k,c,d)):Dy A o d=A:=by
 unfold Dy;refine PS λi=>?_
 rw[PM]
 by_cases e:o=i
 ·subst e;simp[h]
 ·simp[e]
theorem Xq5(A:List Pl)(o:Nat)(x y:List Int):Dy (Dy A o x) o y=Dy A o y:=by
 unfold Dy;refine PS λi=>?_
 rw[PM,PM,PM]
 by_cases e:o=i
 ·subst e;simp[yA,Function.comp_def]
 ·simp[e]
theorem rQ(A:List Pl)(o:Nat)(x:List Int):(Dy A o x).length=A.length:=by simp[Dy]
theorem rC(n o:Nat):∀(p:Pt) (A:List Pl) (k c:Int) (d:List Int),A[o]?=some (k,c,d)->
  Ig n o (A++C5 [] p A.length) d (marks p A.length)=Dy A o (d++Gm p A.length)++C5 [(n:Int)] p A.length
 | .nil,A,k,c,d,h=>by simp[C5,marks,Ig,Gm,Xtt h]
 | .lit i g r,A,k,c,d,h=>by
  have a:o<A.length:=(Y1.1 h).1;have f:=rC n o r (A++[(i,g,[])]) k c d (by rw[Ye a];exact h);rw[Y0,rH a]at f;simpa[C5,marks,Gm]using f
 | .Hl r,A,k,c,d,h=>by
  have a:o<A.length:=(Y1.1 h).1;have f:=rC n o r (Dy A o (d++[(A.length:Int)+1])++[(5,0,[(n:Int)])]) k c (d++[(A.length:Int)+1]) (by
   rw[Ye (by rw[rQ];exact a)];simp[Dy,h])
  rw[Y0,rQ,rH (by rw[rQ];exact a),Xq5]at f;rw[marks,Ig,C5,rH a];have e:=Xgn (Dy A o (d++[(A.length:Int)+1])) 5 0 [] [(n:Int)] (C5 [] r (A.length+1));rw[rQ]at e;rw[e];simpa[C5,Gm]using f
 | .FA b r,A,k,c,d,h=>by
  have a:o<A.length:=(Y1.1 h).1;have f:=rC n o r (A++((4,0,Gm b (A.length+1))::(C5 [((A.length+1+len b:Nat):Int)] b (A.length+1)++[(6,0,[])]))) k c d (by rw[Ye a];exact h);have e:(A++((4,0,Gm b (A.length+1))::(C5 [((A.length+1+len b:Nat):Int)] b (A.length+1)++[(6,0,[])]))).length=A.length+2+len b:=by
   simp[TK];omega
  rw[e,rH a]at f;simpa[C5,marks,Gm]using f
theorem kC{l rest:Lu}(h:l.head?≠some 42)(a:l=[]->rest.head?≠some 42):(l++rest).head?≠some 42:=by
 cases l with
 | nil=>exact a O
 | cons y l=>exact h
theorem Xy7{l:Lu}(h:l.head?≠some 42)(i:Int)(Q:List Pl)(a:List Gq)(Ar:List Int):AJ (42::l) i Q a Ar=AJ l (i+1) (Q++[(3,0,[])]) a Ar:=by
 rw[Xp,Y3 de,Y9 de];cases l with
 | nil=>rfl
 | cons d r =>
  have b:¬ d.toNat=42:=λe=>h (by rw[List.head?_cons];exact Yc _ (CS.1 e))
  simp only[b,if_false]
theorem l7{c:Ui}{n:Ui}(h:c≠n):¬ c.toNat=n.toNat:=λe=>h (CS.1 e)
theorem Qd{l:Lu}{p:Pt}(h:DP l p):∀(rest:Lu) (i:Int) (Q:List Pl) (a:List Gq) (Ar:List Int),(l.getLast?=some 42->rest.head?≠some 42)->(p.flat\/a≠[])->Ar.length=a.length->a.length<=4->
  (p.dep+a.length<=4->AJ (l++rest) i Q a Ar=AJ rest (i+l.length) (Q++C5 [] p Q.length) (Ub a (marks p Q.length)) Ar)/\(4<p.dep+a.length->∀X,AJ (l++rest) i Q a Ar≠.ok X):=by
 have sub:∀{x:Ui} {l rest:Lu},((x::l).getLast?=some 42->rest.head?≠some 42)->l.getLast?=some 42->rest.head?≠some 42:=by
  intro x l rest n q;refine n ?_;cases l with
  | nil=>simp at q
  | cons y l=>simpa using q
 have r:∀{t l rest:Lu},((t++41::l).getLast?=some 42->rest.head?≠some 42)->l.getLast?=some 42->rest.head?≠some 42:=by
  intro t l rest n q;refine n ?_;rw[List.getLast?_append];cases l with
  | nil=>simp at q
  | cons y l=>simp at q ⊢;simp[q]
 induction h with
 | nil=>intro rest i Q a Ar _ _ _ j;simp[C5,marks,Uc,dep];intro K;omega
 | @one l p _ m =>
  intro rest i Q a Ar k d g j
  have:=m rest (i+1) (Q++[(1,0,[])]) a Ar (sub k) d g j
  rw[Em,Xp,Y9 (show(63:Ui).toNat=63 by decide)];simpa[C5,marks,dep,Int.add_assoc,Int.add_comm,Int.add_left_comm]using this
 | @all l p _ m =>
  intro rest i Q a Ar k d g j
  have:=m rest (i+2) (Q++[(2,0,[])]) a Ar (sub (sub k)) d g j
  rw[Em,Xp,Y3 (show ¬ (42:Ui).toNat=63 by decide),Y9 (show(42:Ui).toNat=42 by decide)];simp only[Em]
  rw[Y9 (show(42:Ui).toNat=42 by decide)];rw[show i+((42::42::l).length:Nat)=i+2+(l.length:Int)by simp;omega];simpa[C5,marks,dep]using this
 | @Sq l p n _ m =>
  intro rest i Q a Ar k d g j
  have:=m rest (i+1) (Q++[(3,0,[])]) a Ar (sub k) d g j
  rw[Em,Xy7 (kC n λe=>by subst e;exact k O)];rw[show i+((42::l).length:Nat)=i+1+(l.length:Int)by simp;omega];simpa[C5,marks,dep]using this
 | @Hl l p _ m =>
  intro rest i Q a Ar k d g j;cases a with
  | nil=>rcases d with d|d;exact d.elim;exact Yz O d
  | cons f a =>
   obtain⟨o,B⟩:=f
   have:=m rest (i+1) (Q++[(5,0,[])]) ((o,B++[Q.length])::a) Ar (sub k) (.inr sz) g j
   rw[Em,Xp,Y3 (show ¬ (124:Ui).toNat=63 by decide),Y3 (show ¬ (124:Ui).toNat=42 by decide),Y3 (show ¬ (124:Ui).toNat=40 by decide),Y9 (show(124:Ui).toNat=124 by decide)];simp only[]
   rw[show i+((124::l).length:Nat)=i+1+(l.length:Int)by simp;omega];simpa[C5,marks,dep,Ub]using this
 | @Ea l p c _ m =>
  intro rest i Q a Ar k d g j
  have:=m rest (i+2) (Q++[(0,(c.toNat:Int),[])]) a Ar (sub (sub k)) d g j
  rw[Em,Xp,Y3 (show ¬ (92:Ui).toNat=63 by decide),Y3 (show ¬ (92:Ui).toNat=42 by decide),Y3 (show ¬ (92:Ui).toNat=40 by decide),Y3 (show ¬ (92:Ui).toNat=124 by decide),Y3 (show ¬ (92:Ui).toNat=41 by decide),Y9 (show(92:Ui).toNat=92 by decide)];simp only[Em]
  rw[show i+((92::c::l).length:Nat)=i+2+(l.length:Int)by simp;omega];simpa[C5,marks,dep]using this
 | @byte l p c n q G u s v _ m =>
  intro rest i Q a Ar k d g j
  have:=m rest (i+1) (Q++[(0,(c.toNat:Int),[])]) a Ar (sub k) d g j
  rw[Em,Xp,Y3 (show ¬ c.toNat=63 from l7 n),Y3 (show ¬ c.toNat=42 from l7 q),Y3 (show ¬ c.toNat=40 from l7 G),Y3 (show ¬ c.toNat=124 from l7 u),Y3 (show ¬ c.toNat=41 from l7 s),Y3 (show ¬ c.toNat=92 from l7 v)];rw[show i+((c::l).length:Nat)=i+1+(l.length:Int)by simp;omega];simpa[C5,marks,dep]using this
 | @FA t l b p _ _ z m =>
  intro rest i Q a Ar k d g j;rw[Em,Yg,Em,Xp,Y3 (show ¬ (40:Ui).toNat=63 by decide),Y3 (show ¬ (40:Ui).toNat=42 by decide),Y9 (show(40:Ui).toNat=40 by decide)]
  by_cases s:a.length=4
  ·rw[Y9 s];refine⟨λh=>?_,λ_ X h=>by cases h⟩;simp[dep]at h
   omega
  ·rw[Y3 s];have n:=z (41::(l++rest)) (i+1) (Q++[(4,0,[])]) ((Q.length,[])::a) (Ar++[i]) (λ_=>by simp) (.inr sz) (by simp[g]) (by simp;omega)
   by_cases v:b.dep+(a.length+1)<=4
   ·have H:=n.1 (su v);rw[H];have A:=m rest (i+1+t.length+1) (Q++((4,0,Gm b (Q.length+1))::(C5 [((Q.length+1+len b:Nat):Int)] b (Q.length+1)++[(6,0,[])]))) a Ar (r (sub k)) d g j;have w:=rC (Q.length+1+len b) Q.length b (Q++[(4,0,[])]) 4 0 [] sz;have I:=Xgn Q 4 0 [] (Gm b (Q.length+1)) [];simp only[Y0,aT,Db]at w
    rw[I]at w;rw[Xp,Y3 (show ¬ (41:Ui).toNat=63 by decide),Y3 (show ¬ (41:Ui).toNat=42 by decide),Y3 (show ¬ (41:Ui).toNat=40 by decide),Y3 (show ¬ (41:Ui).toNat=124 by decide),Y9 (show(41:Ui).toNat=41 by decide)];simp only[PU,Y0,aT,Db,TK]
    rw[w];have J:(Ar++[i]).take a.length=Ar:=by rw[<-g];simp
    rw[J];have C:(Q++((4,0,Gm b (Q.length+1))::(C5 [((Q.length+1+len b:Nat):Int)] b (Q.length+1)++[(6,0,[])]))).length=Q.length+2+len b:=by simp[TK];omega
    rw[C]at A;have D:i+((40::(t++41::l)).length:Nat)=i+1+t.length+1+l.length:=by simp;omega
    rw[D];have E:4<(Pt.FA b p).dep+a.length↔4<p.dep+a.length:=by simp[dep];omega
    have F:(Pt.FA b p).dep+a.length<=4↔p.dep+a.length<=4:=by simp[dep];omega
    rw[E,F];simpa[C5,marks]using A
   ·refine⟨λh=>?_,λ_=>n.2 (by simp;omega)⟩;simp[dep]at h
    omega
inductive Splits:Nat->List UInt8->Prop
 | last {l p}:DP l p->p.flat->p.dep<=4->Splits 0 l
 | more {d t l p}:DP t p->p.dep+(d+1)<=4->Splits d l->Splits (d+1) (t++41::l)
theorem Splits.lit{d:Nat}{l pre:Lu}{k c:Int}(h:Splits d l)(g:∀{t p},(t.head?=some 42->l.head?=some 42)->DP t p->DP (pre++t) (.lit k c p)):Splits d (pre++l):=by
 cases h with
 | last a b f=>exact .last (g (λh=>h) a) b f
 | @more d t l p a b f =>
  rw[<-Yg];refine .more (g ?_ a) b f;intro e;cases t with
  | nil=>simp at e
  | cons x t=>simpa using e
theorem Splits.FA{d:Nat}{t l:Lu}{b:Pt}(h:Splits d l)(c:DP t b)(g:b.dep+(d+1)<=4):Splits d (40::(t++41::l)):=by
 cases h with
 | @last _ p a e f=>exact .last (.FA c a) e (by simp[dep];omega)
 | @more d j i p a e f =>
  have:=Splits.more (.FA c a) (by simp[dep];omega) f
  simpa using this
theorem Zi:∀(n:Nat) (l:Lu) (i:Int) (Q:List Pl) (a:List Gq) (Ar:List Int) (X:List Pl),l.length<=n->Ar.length=a.length->a.length<=4->AJ l i Q a Ar=.ok X->Splits a.length l
 | n,[],i,Q,a,Ar,X,_,k,q,h=>by
  rw[ow]at h;split at h
  ·cases h
  ·have e:a.length=0:=om
   rw[e];exact .last .nil trivial (by simp[dep])
 | 0,c::l,_,_,_,_,_,B,_,_,_=>by simp at B
 | n+1,c::l,i,Q,a,Ar,X,B,k,q,h=>by
  have g:l.length<=n:=su B
  rw[Xp]at h;split at h
  ·rename_i e
   have e:c=63:=CS.1 e;subst e;exact(Zi n l _ _ a Ar X g k q h).lit (pre:=[63]) λ_ j=>.one j
  split at h
  ·rename_i e
   have e:c=42:=CS.1 e;subst e;cases l with
   | nil=>exact(Zi n [] _ _ a Ar X g k q h).lit (pre:=[42]) λ{t p} z j=>.Sq (λe=>by have:=z e;simp at this) j
   | cons d r =>
    simp only at h
    split at h
    ·rename_i v
     have v:d=42:=CS.1 v;subst v;exact(Zi n r _ _ a Ar X (by simp at g;omega) k q h).lit (pre:=[42,42]) λ_ j=>.all j
    ·rename_i v
     exact(Zi n (d::r) _ _ a Ar X g k q h).lit (pre:=[42]) λ{t p} z j=>.Sq (λe=>by have:=z e;simp at this;subst this;exact v de) j
  split at h
  ·rename_i e
   have e:c=40:=CS.1 e;subst e;split at h
   ·cases h
   ·rename_i D
    have s:=Zi n l _ _ ((Q.length,[])::a) (Ar++[i]) X g (by simp[k]) (by simp;omega) h;generalize F:((Q.length,[])::a:List Gq).length=m at s;simp only[Y5]at F
    cases s with
    | last=>omega
    | @more d t l b w x y =>
     have z:d=a.length:=om
     subst z;exact y.FA w x
  split at h
  ·rename_i e
   have e:c=124:=CS.1 e;subst e;cases a with
   | nil=>cases h
   | cons f a =>
    obtain⟨o,C⟩:=f;have s:=Zi n l _ _ ((o,C++[Q.length])::a) Ar X g k q h;cases s with
    | more w x y=>exact Splits.more (t:=124::_) (.Hl w) x y
  split at h
  ·rename_i e
   have e:c=41:=CS.1 e;subst e;cases a with
   | nil=>cases h
   | cons f a =>
    obtain⟨o,C⟩:=f;have s:=Zi n l _ _ a _ X g (by simp at k;simp;omega) (by simp at q;omega) h;exact Splits.more (t:=[]) .nil (by simp[dep]at *;omega) s
  split at h
  ·rename_i e
   have e:c=92:=CS.1 e;subst e;cases l with
   | nil=>cases h
   | cons d r=>exact(Zi n r _ _ a Ar X (by simp at g;omega) k q h).lit (pre:=[92,d]) λ_ j=>.Ea d j
  ·rename_i w x y A D E
   have u:∀{n:Ui},¬ c.toNat=n.toNat->c≠n:=λh e=>h (by rw[e])
   exact(Zi n l _ _ a Ar X g k q h).lit (pre:=[c]) λ_ j=>.byte c (u w) (u x) (u y) (u A) (u D) (u E) j
theorem kd{l:Lu}{Q:List Pl}(h:cmp l=.ok Q):l.length<=200/\∃p,DP l p/\p.flat/\p.dep<=4/\Q=C5 [] p 0++[(7,0,[])]:=by
 unfold cmp at h;split at h
 ·cases h
 ·rename_i f
  refine⟨om,?_⟩;have e:=Zi l.length l 0 [] [] [] Q (Ya _) O sz h;cases e with
  | @last _ p a b c =>
   refine⟨p,a,b,c,?_⟩;have d:=(Qd a [] 0 [] [] [] (λ_=>by simp) (.inl b) O sz).1 (su c);rw[Yy,h,ow]at d;simpa using d
theorem TB:∀(n:Nat) (l:Lu) (i:Int) (Q:List Pl) (a:List Gq) (o:List Int),l.length<=n->o.length=a.length->
  (∀e,AJ l i Q a o=.error e->BR l i o=e/\e.1≠0)/\(∀X,AJ l i Q a o=.ok X->BR l i o=(0,0))
 | n,[],i,Q,a,o,_,j=>by
  rw[ow,P9];split
  ·exact⟨λe h=>by injection h with h;subst h;exact⟨O,by simp⟩,λX h=>by cases h⟩
  ·exact⟨λe h=>(by cases h),λX h=>rfl⟩
 | 0,c::l,_,_,_,_,u,_=>by simp at u
 | n+1,c::l,i,Q,a,o,u,j=>by
  have b:l.length<=n:=su u
  rw[Xp,Xi9]
  by_cases s:c.toNat=63
  ·rw[Y9 s,Y3 om,Y3 om,Y3 om,Y3 om];exact TB n l _ _ a o b j
  rw[Y3 s]
  by_cases q:c.toNat=42
  ·rw[Y9 q,Y3 om,Y3 om,Y3 om,Y3 om];cases l with
   | nil=>exact TB n [] _ _ a o b j
   | cons d r =>
    simp only
    by_cases v:d.toNat=42
    ·rw[Y9 v,Xi9,Y3 om,Y3 om,Y3 om,Y3 om,show i+1+1=i+2 by omega];exact TB n r _ _ a o (by simp at b;omega) j
    ·rw[Y3 v];exact TB n (d::r) _ _ a o b j
  rw[Y3 q]
  by_cases k:c.toNat=40
  ·rw[Y9 k,Y9 k,<-j]
   by_cases t:o.length=4
   ·rw[Y9 t,Y9 t];exact⟨λe h=>by injection h with h;subst h;exact⟨O,by simp⟩,λX h=>by cases h⟩
   ·rw[Y3 t,Y3 t];exact TB n l _ _ _ (o++[i]) b (by simp[j])
  rw[Y3 k,Y3 k]
  by_cases g:c.toNat=124
  ·rw[Y9 g,Y3 om,Y9 g];cases a with
   | nil=>rw[Y9 (su j)];exact⟨λe h=>by injection h with h;subst h;exact⟨O,by simp⟩,λX h=>by cases h⟩
   | cons f a =>
    rw[Y3 (by simp at j;omega)];exact TB n l _ _ _ o b j
  rw[Y3 g,Y3 g]
  by_cases m:c.toNat=41
  ·rw[Y9 m,Y9 m];cases a with
   | nil=>rw[Y9 (su j)];exact⟨λe h=>by injection h with h;subst h;exact⟨O,by simp⟩,λX h=>by cases h⟩
   | cons f a =>
    obtain⟨fo,fb⟩:=f;simp only[Y5]at j ⊢
    rw[Y3 om,show a.length=o.length-1 by omega];exact TB n l _ _ _ _ b (by simp;omega)
  rw[Y3 m,Y3 m]
  by_cases p:c.toNat=92
  ·rw[Y9 p,Y9 p];cases l with
   | nil=>exact⟨λe h=>by injection h with h;subst h;exact⟨O,by simp⟩,λX h=>by cases h⟩
   | cons d r=>exact TB n r _ _ a o (by simp at b;omega) j
  rw[Y3 p,Y3 p];exact TB n l _ _ a o b j
def uZ(Q:List Pl)(i j:Nat):Prop:=(fR (Q.getD i (7,0,[])).1=true/\j=i+1)\/(∃t∈(Q.getD i (7,0,[])).2.2,j=t.toNat)
def ZL(Q:List Pl)(a b:List Bool):Prop:=CC a b/\∀x,b.getD x false=true->a.getD x false=false->∀y,uZ Q x y->b.getD y false=true
theorem ZL.trans{Q:List Pl}{a b c:List Bool}(h:ZL Q a b)(k:ZL Q b c):ZL Q a c:=by
 refine⟨h.1.trans k.1,λx hx f y e=>?_⟩;cases d:b.getD x false with
 | true=>exact k.1.2 y (h.2 x d f y e)
 | false=>exact k.2 x hx d y e
theorem Vl(n x:Nat):(List.replicate n false).getD x false=false:=by
 rw[Yf,yh];split<;>rfl
section
variable {Q:List Pl} (hW:WF Q) {F:Nat} (hF:Q.length<F) (now:List Bool) (c:Ui)
end
def uT(Q:List Pl):Prop:=0<Q.length/\∀j,j<Q.length->((Q.getD j (7,0,[])).1=7↔j=Q.length-1)
abbrev uX:=Lu->Prop
namespace Pt
def ok:Pt->Prop
 | nil=>True
 | lit k _ r=>(0<=k/\k<=3)/\ok r
 | Hl r=>ok r
 | FA b r=>ok b/\ok r
end Pt
theorem DP.ok{l:Lu}{p:Pt}(h:DP l p):p.ok:=by
 induction h with
 | nil=>trivial
 | one _ a=>exact⟨⟨de,de⟩,a⟩
 | all _ a=>exact⟨⟨de,de⟩,a⟩
 | Sq _ _ a=>exact⟨⟨de,de⟩,a⟩
 | FA _ _ b d=>exact⟨b,d⟩
 | Hl _ a=>exact a
 | Ea c _ a=>exact⟨⟨de,de⟩,a⟩
 | byte c _ _ _ _ _ _ _ a=>exact⟨⟨de,de⟩,a⟩
theorem DP.len{l:Lu}{p:Pt}(h:DP l p):p.len<=l.length:=by
 induction h<;>simp[Pt.len]at*<;>omega
theorem tw:∀(p:Pt) (n:Nat),(Gm p n).length<=p.len
 | .nil,_=>by simp[Gm]
 | .lit _ _ r,n=>by have:=tw r (n+1);simp[Gm,len];omega
 | .Hl r,n=>by have:=tw r (n+1);simp[Gm,len];omega
 | .FA b r,n=>by have:=tw r (n+2+len b);simp[Gm,len];omega
theorem tV:∀(p:Pt) (n:Nat) (t:Int),t∈Gm p n->(n:Int)<t/\t<=n+p.len
 | .nil,_,_,h=>by simp[Gm]at h
 | .lit _ _ r,n,t,h=>by have:=tV r (n+1) t h;simp[len];omega
 | .Hl r,n,t,h=>by
  simp only[Gm,Yp]at h
  rcases h with rfl|h
  ·simp[len];omega
  ·have:=tV r (n+1) t h;simp[len];omega
 | .FA b r,n,t,h=>by have:=tV r (n+2+len b) t h;simp[len];omega
theorem mu:∀(p:Pt) (d:List Int) (n a:Nat),p.ok->n+p.len<a->(∀t∈d,0<=t/\t<(a:Int))->d.length<=a->∀q∈C5 d p n,(∀t∈q.2.2,0<=t/\t<(a:Int))/\(0<=q.1/\q.1<=6)/\q.2.2.length<=a
 | .nil,_,_,_,_,_,_,_,q,h=>by simp[C5]at h
 | .lit k c r,d,n,a,e,i,g,f,q,h=>by
  simp only[len]at i
  simp only[C5,Yp]at h
  rcases h with rfl|h
  ·exact⟨by simp,⟨e.1.1,by have:=e.1.2;simp only;omega⟩,by simp⟩
  ·exact mu r d (n+1) a e.2 om g f q h
 | .Hl r,d,n,a,e,i,g,f,q,h=>by
  simp only[len]at i
  simp only[C5,Yp]at h
  rcases h with rfl|h
  ·exact⟨g,⟨by simp,by simp⟩,f⟩
  ·exact mu r d (n+1) a e om g f q h
 | .FA b r,d,n,a,e,i,g,f,q,h=>by
  simp only[len]at i
  simp only[C5,Yp,Ys]at h
  rcases h with rfl|h|rfl|h
  ·exact⟨λt j=>by have:=tV b (n+1) t j;omega,⟨by simp,by simp⟩,by have:=tw b (n+1);simp only;omega⟩
  ·exact mu b _ (n+1) a e.1 om (λt j=>by simp at j;omega) (by simp;omega) q h
  ·exact⟨by simp,⟨by simp,by simp⟩,by simp⟩
  ·exact mu r d (n+2+len b) a e.2 om g f q h
def Z3(p:Pt):List Pl:=C5 [] p 0++[(7,0,[])]
theorem Xd3(p:Pt):(Z3 p).length=p.len+1:=by simp[Z3,TK]
theorem Xt4{p:Pt}(g:p.ok):WF (Z3 p)/\uT (Z3 p):=by
 have m:=Xd3 p;have a:∀(i:Nat) (q:Pl),(Z3 p)[i]?=some q->(i<p.len/\q∈C5 [] p 0)\/(i=p.len/\q=(7,0,[])):=by
  intro i q h;unfold Z3 at h;rcases Yt i p.len with hi|hi
  ·rw[Ye (by rw[TK];exact hi)]at h;exact .inl ⟨hi,Y7 h⟩
  ·rw[Yw (by rw[TK];exact hi),TK]at h
   by_cases e:i=p.len
   ·subst e;simp at h;exact .inr ⟨O,h.symm⟩
   ·rw[Zy (by simp;omega)]at h;cases h
 refine⟨λi q h=>?_,om,λj l=>?_⟩
 ·rw[m];rcases a i q h with⟨hi,b⟩|⟨hi,rfl⟩
  ·obtain⟨c,d,f⟩:=mu p [] 0 (p.len+1) g om sz sz q b;exact⟨c,λ_=>by omega,⟨d.1,om⟩,λ_=>by omega,f⟩
  ·exact⟨by simp,by simp[fR],⟨by simp,by simp⟩,by simp,by simp⟩
 ·have e:(Z3 p)[j]?=some ((Z3 p).getD j (7,0,[])):=by simp[Yf,l]
  rcases a j _ e with⟨hi,b⟩|⟨hi,k⟩
  ·obtain⟨c,d,f⟩:=mu p [] 0 (p.len+1) g om sz sz _ b;constructor
   ·intro h;omega
   ·intro h;omega
  ·rw[k];simp;omega
def n5(Q:List Pl)(n:Nat)(L:List Pl):Prop:=∀(i:Nat) (q:Pl),L[i]?=some q->Q[n+i]?=some q
theorem n5.head{Q:List Pl}{q:Pl}{L:List Pl}(h:n5 Q n (q::L)):Q[n]?=some q:=h 0 q O
theorem n5.tail{Q:List Pl}{q:Pl}{L:List Pl}(h:n5 Q n (q::L)):n5 Q (n+1) L:=λi x hx=>by
 rw[show n+1+i=n+(i+1)by omega];exact h (i+1) x (su hx)
def uK(Q:List Pl)(s:Lu):Bool:=(run Q s).1.getD (Q.length-1) false
def JP(l s:List UInt8):Bool×Bool:=match cmp l with
 | .ok Q=>(uK Q s,true)
 | .error _=>(false,false)
def qU(s:Lu)(i j:Nat):Lu:=(s.drop i).take (j-i)
theorem W6(s:Lu)(i:Nat):qU s i i=[]:=by simp[qU]
theorem eA(s:Lu){j:Nat}(hi:i<=j)(a:j<=s.length):(qU s i j).length=j-i:=by simp[qU];omega
def Hw(s:Lu)(a:List Bool)(L:uX)(R:List Bool):Prop:=R.length=s.length+1/\∀j,j<=s.length->(R.getD j false=true↔∃i,i<=j/\a.getD i false=true/\L (qU s i j))
theorem Hw.nil{s:Lu}{fr:List Bool}(h:fr.length=s.length+1):Hw s fr (λu=>u=[]) fr:=by
 refine⟨h,λj d=>⟨λh=>⟨j,Ya _,h,W6 s j⟩,?_⟩⟩;rintro⟨i,a,b,c⟩
 have:=eA s a d
 rw[c]at this;have e:i=j:=by simp at this;omega
 subst e;exact b
theorem Hw.none(s:Lu)(a:List Bool):Hw s a (λ_=>False) (List.replicate (s.length+1) false) :=
 ⟨by simp,λj b=>⟨λh=>(by rw[Vl]at h;cases h),λ⟨_,_,_,h⟩=>h.elim⟩⟩
inductive OO:List UInt8->Pt->Int->List Int->Prop
 | last {t b} (i:Int):DP t b->b.flat->OO t b i []
 | more {t1 b1 t2 b2 ps} (i:Int):DP t1 b1->b1.flat->OO t2 b2 (i+t1.length+1) ps->OO (t1++124::t2) (b1.app (.Hl b2)) i ((i+t1.length)::ps)
theorem OO.pre{x t:Lu}{b:Pt}{i:Int}{ps:List Int}{f:Pt->Pt}(k:∀p,p.flat->(f p).flat)(g:∀p q,f (p.app q)=(f p).app q)(h:OO t b (i+x.length) ps)(l:∀{a p},(a.head?=some 42->t.head?=some 42)->DP a p->DP (x++a) (f p)):OO (x++t) (f b) i ps:=by
 cases h with
 | last _ c d=>exact .last i (l (λh=>h) c) (k _ d)
 | @more a b1 n m ps _ c d j =>
  rw[<-Yg,g];have e:i+(x.length:Int)+(a.length:Int)=i+((x++a).length:Int):=by simp;omega
  rw[e]at j ⊢;refine .more i (l ?_ c) (k _ d) j;intro e;cases a with
  | nil=>simp at e
  | cons y a=>simpa using e
def spc(c:Ui):Bool:=((((((c.toNat:Int)==63)||((c.toNat:Int)==42))||((c.toNat:Int)==40))||((c.toNat:Int)==41))||((c.toNat:Int)==124))||((c.toNat:Int)==92)
def lit:List UInt8->List UInt8
 | []=>[]
 | c::l=>(bif spc c then[92,c]else[c])++lit l
end DN
namespace Go.Proofs.W9
open Gk DN
open Tryz
def z0:Sv:=⟨0,0,[],false,false,false,[],[]⟩
theorem Xmp(a:Oa)(c:Nat)(l:List Lu)(M:l.length<=1000000)(E:RS I a 1 l.length (l.map S))(N:La)(t:Aa B w I N):Cz 374 [.slice a l.length c] w λv w'=>∃J d f,v=.slice d l.length f/\Le I J/\l.length<=f/\RS J d 1 l.length (l.map S)/\Aa B w' J N:=by
 have g:∀(v:Va) (w':Wo) (n:Nat) (xs:Lv),n=l.length->xs=l.map S->Go.RowKit.Below w.heap.size w w'->w'.ownsRow w.heap.size 9 1 v n xs->∃J d f,v=.slice d l.length f/\Le I J/\l.length<=f/\RS J d 1 l.length (l.map S)/\Aa B w' J N:=by
  intro v w' n xs H hx k o;subst H;subst hx;have i:=t.Jy k o;obtain⟨d,f,rfl,F,_⟩:=i.vS 0;obtain⟨J,G,s,u⟩:=i.fV 0;exact⟨J,d,f,O,G,F,s,u⟩
 cases a with
 | none =>
  have r:l=[]:=by
   rcases Ix l.length with h|h
   ·exact Yi h
   ·obtain⟨p,K,_⟩:=E.2 h;cases K
  subst r;refine(slices_Clone_string_nil 0 c w).mono λe w' m=>?_
  obtain⟨rfl,rfl⟩:=m;exact⟨_,O,I,none,0,O,Le.refl _,Ya _,RS.nil _ _,t⟩
 | some p =>
  rcases Ix l.length with h|h
  ·have r:=Yi h;subst r;refine(slices_Clone_string_zero p c w).mono λe w' m=>?_
   obtain⟨C,rfl,o,_,k⟩:=m;exact⟨_,O,g C w' 0 [] O O k o⟩
  ·obtain⟨q,z,D⟩:=E.2 h;injection z with z
   subst z;obtain⟨b,off,L⟩:=p;have A:L=none:=D.1;subst A;refine(slices_Clone_string b off l.length c (l.map λx=>⟨x.toArray⟩) w (by rw[Yj];exact Ya _) om (λj y=>?_)).mono λe w' m=>?_
   ·rw[Yj]at y;have i:=Xv t D (j:=j) (by rw[Yr,Y2 y];rfl);rw[show(⟨b,off,none⟩:Addr).add j=⟨b,off+j,none⟩ from CY b off j]at i;rw[i,Yf,Yr,Y2 y];rfl
   ·obtain⟨C,rfl,o,_,k⟩:=m;refine⟨_,O,g C w' l.length _ O ?_ k o⟩;rw[Yo (by rw[Yj];exact Ya _),jM];rfl
theorem dS(s:Sv)(a:Oa)(c:Nat)(e:s.rel.length<=1000000)(j:RS I a 1 s.rel.length (s.rel.map S))(N:La)(b:Aa B w I N):Cz 321 [.agg #[Ab s.id,AM s.ord,S s.urls,.bool s.BT,.bool s.B7,.bool s.back,S s.calls,.slice a s.rel.length c]] w λv w'=>∃J cs,Le I J/\v=.agg (List.toArray cs)/\E4 J s cs/\Aa B w' J N:=by
 refine gH 4 ?_;intro b1 k w b;refine gF 0 (Xmp a c _ e j) ?_;rintro _ w ⟨J,g,h,rfl,i,d,f,b⟩;refine gH 4 ?_;intro w b;exact gG 0 ⟨J,[Ab s.id,AM s.ord,S s.urls,.bool s.BT,.bool s.B7,.bool s.back,S s.calls,.slice g s.rel.length h],i,O,⟨g,h,O,d,f⟩,b.s⟩
abbrev Ps(s:Sv)(a:Oa)(c:Nat)(p q:Addr):Lv:=[Ab s.id,AM s.ord,S s.urls,.bool s.BT,.bool s.B7,.bool s.back,S s.calls,.slice a s.rel.length c,.pointer (some p),.pointer (some q)]
def BM(I:Im)(s:Sv)(l:Lv):Prop:=∃a c p q Q R,l=Ps s a c p q/\s.rel.length<=c/\RS I a 1 s.rel.length (s.rel.map S)/\cmp s.urls=.ok Q/\D3 I p Q s.urls.length/\cmp s.calls=.ok R/\D3 I q R s.calls.length
def Dd(I:Im)(a:Oa)(E:List Lv)(l:List Sv):Prop:=E.length=l.length/\∀(i:Nat) (s:Sv),l[i]?=some s->∃p c,a=some p/\E[i]?=some c/\At I (p.add (i*10)) c/\BM I s c
def iY(w:Wo)(I:Im)(a:Oa)(l:List Sv):Prop:=∀(i:Nat) (s:Sv),l[i]?=some s->∃p c,a=some p/\(∀(j:Nat) v,c[j]?=some v->w.cell? ((p.add (i*10)).add j)=some v)/\BM I s c
theorem Dd.now{E:List Lv}{l:List Sv}(h:Dd I a E l)(f:Aa B w I N):iY w I a l:=λi s k=>by
 obtain⟨p,c,e,_,b,d⟩:=h.2 i s k;exact⟨p,c,e,λj v g=>Xv f b g,d⟩
theorem U5{T:Nat}{E:List Lv}{l:List Sv}(y:Aa B w I N)(t:N[k]?=some (An T 10 (.slice a l.length cap) l.length E.flatten))(b:∀c∈E,c.length=10)
  (x:∀(i:Nat) (s:Sv),l[i]?=some s->∃c,E[i]?=some c/\BM I s c):iY w I a l:=λi s u=>by
 obtain⟨c,q,A⟩:=x i s u;have hi:=(Y1.1 u).1;obtain⟨g,m,rest,C,_,_,_,_,d⟩:=y.AF t om;injection C with h D F
 have f:k<N.length:=(Y1.1 t).1;have z:w.heap[g]?=some (Xh (E.flatten++rest) T):=d.block (k:=k) (by simp[f,Ac]);refine⟨⟨g,0,none⟩,c,h,λj v r=>?_,A⟩;have e:j<10:=by
  have n:=(Y1.1 r).1;rw[b c (Y7 q)]at n;exact n
 rw[Addr.add_add,show(⟨g,0,none⟩:Addr).add (i*10+j)=ad g (0+(i*10+j)) from CY g 0 _,Yk];refine Xz z ?_;have o:=oB E b i j e;rw[q]at o;have p:E.flatten[i*10+j]?=some v:=o.trans r;rw[Ye (Y1.1 p).1];exact p
theorem VI{g:Option (Nat×Bool)}{t:TypeId}{x:Operand}{s:Nat}(hx:Ev n L x (.pointer (some p)))(i:∀(j:Nat) v,vs[j]?=some v->w.cell? (p.add j)=some v)(f:∀w,(isAgg t).run P w=.ok true w)(e:∀w,(Go.sizeOf t).run P w=.ok s w)
  (c:vs.length=s):Ex P n L w ⟨d,.load t x,ty,pos,af,g⟩ (.agg vs.toArray) w:=λa b=>by
 have h:=run_loadCells_list (P:=P) w p vs i;rw[c]at h;simp[execOp,hx a b,Instr.loadAt,Instr.sureAddr,loadVar,f,e,h]
def Ii(a:Sv->Bool):List Sv->Nat->Int
 | [],_=>-1
 | s::r,i=>if a s then(i:Int)else Ii a r (i+1)
theorem vp(a:Sv->Bool):∀(n:Nat) (r:List Sv) (i:Nat),(∀(j:Nat) s,j<n->r[j]?=some s->a s=false)->Ii a r i=Ii a (r.drop n) (i+min n r.length)
 | 0,r,i,_=>by simp
 | n+1,[],i,_=>by simp[Ii]
 | n+1,s::r,i,h=>by
  rw[Ii,Y3 (by rw[h 0 s om O];decide),vp a n r (i+1) (λj t c b=>h (j+1) t om (su b)),Ks,Y5]
  congr 1
  omega
theorem Xyk{a:Sv->Bool}{l:List Sv}{s:Sv}(h:∀(j:Nat) t,j<i->l[j]?=some t->a t=false)(b:l[i]?=some s)(c:a s=true):Ii a l 0=(i:Int):=by
 have hi:=(Y1.1 b).1;rw[vp a i l 0 h,Yk,M8 om,Ym hi,(Y1.1 b).2,Ii,Y9 c]
theorem Xs7{a:Sv->Bool}{l:List Sv}(h:∀(j:Nat) t,l[j]?=some t->a t=false):Ii a l 0=-1:=by
 rw[vp a l.length l 0 (λj t _ b=>h j t b),nI];rfl
theorem u6(a:Oa)(cap:Nat)(l:List Sv)(E:l.length<=100000)(x:Sv->Bool)(g:FuncId)(fn:Func)(r:prog.funcs[g]?=some fn)(n:Xf fn=true)(b:Lv)(N:La)(A:∀w,Aa B w I N->iY w I a l)(D:∀(s:Sv) (c:Lv),BM I s c->∀w,Aa B w I N->Calls prog g ([Value.agg c.toArray]++b).toArray w (AY λv w'=>v=.bool (x s)/\Aa B w' I N))(d:Aa B w I N):Ce B I N 318 [.slice a l.length cap,.func (.func g) #[] b.toArray] w (Ab (Ii x l 0)):=by
 refine gG 4 (.lk [0,1,7] (σ:=Nat) (λi _m=>(8,Ab (i:Nat))::_m) (λi w=>i<=l.length/\(∀(j:Nat) t,j<i->l[j]?=some t->x t=false)/\Aa B w I N) (λi=>l.length-i) 0 ⟨Y4 _,λ_ _ h=>Yz h om,d⟩ ?_);rintro i w ⟨hi,k,d⟩;refine gN 1 ?_ ?_<;>intro C
 ·obtain⟨s,u⟩:∃s,l[i]?=some s:=⟨_,Y2 om⟩
  obtain⟨p,c,rfl,hx,o⟩:=A w d i s u;have q:=o;obtain⟨J,K,G,H,Q,R,rfl,_⟩:=q;unfold Ps at hx o;refine gH 6 (.val (VI (.of O) hx isAgg378 jc O) O (.Bv (cap:=b) r n (.of O) (A3 O X4) O (D s _ o w d) ?_));rintro _ w ⟨rfl,d⟩;refine gM 0 ?_ ?_<;>intro f z
  ·exact gG 2 ⟨by rw[Xyk k u f],d⟩
  refine gG 2 (rd (i+1) ⟨om,λj t F m=>?_,d⟩);rcases Yt j i with y|y
  ·exact k j t y m
  ·have e:j=i:=om
   subst e;rw[u]at m;cases m;exact f
 exact gG 1 ⟨by rw[Xs7 (λj t m=>k j t (oh ((Y1.1 m).1)) m)],d⟩
theorem Xdf(a:Oa)(cap:Nat)(l:List Sv)(g:l.length<=100000)(h:Sv->Bool)(b:FuncId)(fn:Func)(f:prog.funcs[b]?=some fn)(e:Xf fn=true)(d:Lv)(N:La)(j:∀w,Aa B w I N->iY w I a l)(k:∀(s:Sv) (c:Lv),BM I s c->∀w,Aa B w I N->Calls prog b ([Value.agg c.toArray]++d).toArray w (AY λv w'=>v=.bool (h s)/\Aa B w' I N))(i:Aa B w I N):Ce B I N 371 [.slice a l.length cap,.func (.func b) #[] d.toArray] w (.bool (decide (0<=Ii h l 0))):=by
 refine gP 3 [] (u6 a cap l g h b fn f e _ N j k) ?_;rintro _ w ⟨rfl,i⟩;exact gG 2 ⟨O,i⟩
open Ul Pc Tk Tr
def B9(l:List Ah):Lv:=(l.map Xa).flatten
theorem Xpw(l:List Ah):(B9 l).length=l.length*10:=by
 unfold B9
 induction l with
 | nil=>rfl
 | cons r l a=>rw[Yu,Fx,Y0,a,show(Xa r).length=10 from O,Y5];omega
abbrev Ba(d:Nat)(b:Int)(a:Oa)(c:Nat)(l:List Ah)(R:La):La:=Ac d [Ab b,.slice a l.length c] 156::An 126 10 (.slice a l.length c) l.length (B9 l)::R
def eY(w:Wo)(a:Oa)(l:List Ah):Prop:=∀(i:Nat) (r:Ah),l[i]?=some r->∃p,a=some p/\(∀(j:Nat) v,(Xa r)[j]?=some v->w.cell? ((p.add (i*10)).add j)=some v)
theorem Ru{l:List Ah}{j:Nat}{r:Ah}(e:l[i]?=some r)(b:(Xa r)[j]?=some v):(B9 l)[i*10+j]?=some v:=by
 have a:=oB (l.map Xa) (λc d=>by obtain⟨x,_,rfl⟩:=Dt.1 d;rfl) i j (show j<10 from(Y1.1 b).1);rw[Yr,e]at a;exact a.trans b
theorem TF{T:Nat}{l:List Ah}(n:Aa B w I N)(h:N[k]?=some (An T 10 (.slice a l.length cap) l.length (B9 l))):eY w a l:=λi r m=>by
 have hi:=(Y1.1 m).1;obtain⟨g,e,rest,q,_,_,_,_,b⟩:=n.AF h om;injection q with d s t
 have c:k<N.length:=(Y1.1 h).1;have o:w.heap[g]?=some (Xh (B9 l++rest) T):=b.block (k:=k) (by simp[c,Ac]);refine⟨⟨g,0,none⟩,d,λj v p=>?_⟩;rw[Addr.add_add,show(⟨g,0,none⟩:Addr).add (i*10+j)=ad g (0+(i*10+j)) from CY g 0 _,Yk];refine Xz o ?_;have f:=Ru m p;rw[Ye (Y1.1 f).1];exact f
theorem nO{g:Option (Nat×Bool)}{t:TypeId}{x:Operand}(hx:Ev n L x (.pointer (some p)))(e:w.cell? p=some v)(c:∀w,(isAgg t).run P w=.ok false w):Ex P n L w ⟨d,.load t x,ty,pos,af,g⟩ v w:=λa b=>by
 simp[execOp,hx a b,Instr.loadAt,Instr.sureAddr,loadVar,c,load,Sem.run,e]
theorem Ex.F9{g:Option (Nat×Bool)}{t e:TypeId}{x y:Operand}(hx:Ev n L x (.slice a m c))(f:Ev n L y (.slice none 0 0))(b:P.underlying t=some (.slice e)):Ex P n L w ⟨d,.binOp .eql t x y t',ty,pos,af,g⟩ (.bool a.isNone) w :=
 CV hx f (λ_ _=>by unfold eqGuard;split<;>simp) (run_eql_slice_nil w t e a m c b)
theorem Am.app:∀{Xs N:La} {h:TU},Am (Xs++N) h↔∃a c,h=a++c/\Am Xs a/\Am N c
 | [],N,h=>⟨λi=>⟨[],h,O,O,i⟩,λ⟨a,c,e,b,d⟩=>by
   have b:a=[]:=b;subst b;subst e;exact d⟩
 | X::Xs,N,h=>by
  constructor
  ·rintro⟨a,c,rfl,hx,i⟩;obtain⟨b,d,rfl,f,g⟩:=(Am.app (Xs:=Xs)).1 i;exact⟨a++b,d,by rw[Yg],⟨a,b,O,hx,f⟩,g⟩
  ·rintro⟨a,c,rfl,⟨b,d,rfl,hx,f⟩,g⟩;exact⟨b,d++c,by rw[Yg],hx,(Am.app (Xs:=Xs)).2 ⟨d,c,O,f,g⟩⟩
def hB(T:X->La):X1:=λh=>∃x,Am (T x) h
theorem Aa.unbox{T:X->La}(d:Aa B w I (hB T::N)):∃x,Aa B w I (Um (T x) N):=by
 obtain⟨h,⟨a,b,rfl,⟨x,hx⟩,c⟩,e⟩:=d;refine⟨x,?_⟩;rw[Lc];exact⟨a++b,Am.app.2 ⟨a,b,O,hx,c⟩,e⟩
theorem Aa.box{T:X->La}(x:X)(c:Aa B w I (Um (T x) N)):Aa B w I (hB T::N):=by
 rw[Lc]at c;obtain⟨h,g,f⟩:=c;obtain⟨a,b,rfl,d,e⟩:=Am.app.1 g;exact⟨a++b,⟨a,b,O,⟨x,d⟩,e⟩,f⟩
theorem X8s(a:Oa)(cap:Nat)(l:List Ah)(A:l.length<=100000)(q:Ah->Bool)(f:FuncId)(fn:Func)(n:prog.funcs[f]?=some fn)(m:Xf fn=true)(b:Lv)(N:La)(x:∀w,Aa B w I N->eY w a l)(z:∀(r:Ah) w,Aa B w I N->Calls prog f ([Value.agg (Xa r).toArray]++b).toArray w (AY λv w'=>v=.bool (q r)/\Aa B w' I N))(c:Aa B w I N):Ce B I N 262 [.slice a l.length cap,.func (.func f) #[] b.toArray] w (Ab (Eu q l 0)):=by
 refine gG 4 (.lk [0,1,7] (σ:=Nat) (λi _m=>(8,Ab (i:Nat))::_m) (λi w=>i<=l.length/\(∀(j:Nat) t,j<i->l[j]?=some t->q t=false)/\Aa B w I N) (λi=>l.length-i) 0 ⟨Y4 _,λ_ _ h=>Yz h om,c⟩ ?_);rintro i w ⟨hi,g,c⟩;refine gN 1 ?_ ?_<;>intro y
 ·obtain⟨r,o⟩:∃r,l[i]?=some r:=⟨_,Y2 om⟩
  obtain⟨p,rfl,hx⟩:=x w c i r o;refine gH 6 (.val (VI (.of O) hx R9 Jf O) O (.Bv (cap:=b) n m (.of O) (A3 O X4) O (z r w c) ?_));rintro _ w ⟨rfl,c⟩;refine gM 0 ?_ ?_<;>intro d u
  ·exact gG 2 ⟨by rw[iG g o d],c⟩
  refine gG 2 (rd (i+1) ⟨om,λj t C k=>?_,c⟩);rcases Yt j i with s|s
  ·exact g j t s k
  ·have e:j=i:=om
   subst e;rw[o]at k;cases k;exact d
 exact gG 1 ⟨by rw[iF (λj t k=>g j t (oh ((Y1.1 k).1)) k)],c⟩
theorem bD(r:Ah)(name:Lu)(b:Nat)(N:La)(a:Aa B w I (Ac b [S name] 9::N)):Ce B I (Ac b [S name] 9::N) 263 [.agg (Xa r).toArray,ptr b 0] w (.bool (decide (r.name=name))):=by
 refine gG 7 ?_;intro c w a;exact⟨Yc Value.bool (by rw[pM];simp),a.s⟩
theorem fx(e:Nat)(b:Int)(a:Oa)(c:Nat)(l:List Ah)(g:l.length<=100000)(name:Lu)(N:La)(d:Aa B w I (Ba e b a c l N)):Ce B I (Ba e b a c l N) 168 [ptr e 0,S name] w (Ab (BA l name)):=by
 refine gH 7 ?_;intro f w d;refine gP 0 [] (X8s a c l g (λr=>decide (r.name=name)) 263 _ func263 O _ _ (λw h=>TF h (k:=2) O) (λr w h=>bD r name f _ h)) ?_;rintro _ w ⟨rfl,d⟩;exact gG 1 ⟨by rw[Xv3];rfl,d.s⟩
theorem E5(g:Nat)(b:Int)(a:Oa)(c:Nat)(l:List Ah)(s:l.length<=100000)(name:Lu)(N:La)(d:Aa B w I (Ba g b a c l N)):Ce B I (Ba g b a c l N) 122 [ptr g 0,S name] w (.tuple #[.agg (Xa (getD l name)).toArray,.bool (get l name).isSome]):=by
 refine gH 4 ?_;intro u w d;refine gE 0 (fx g b a c l s _) ?_;intro w d;replace d:=d.px [2];refine gM 3 ?_ ?_<;>intro e i
 ·obtain⟨j,r,o,m,t⟩:∃(j:Nat) (r:Ah),BA l name=(j:Int)/\l[j]?=some r/\get l name=some r:=by
   rcases Tr.get_at l name with⟨f,_⟩|⟨j,r,f,h,_,n⟩
   ·omega
   ·exact⟨j,r,f,h,n⟩
  have q:=(Y1.1 m).1;obtain⟨p,rfl,hx⟩:=TF d (k:=2) O j r m;rw[o];refine gH 3 (.val (.lo O d (k:=1) O isAgg42 O) O (gH 2 (.val (VI (.of O) hx R9 Jf O) O (gH 2 ?_))));intro w d;exact gG 0 ⟨by rw[getD,t];rfl,d.y 0 1⟩
 refine gH 3 ?_;intro w d;refine gG 0 (⟨?_,d.y 0 1⟩);rcases Tr.get_at l name with⟨f,h⟩|⟨j,r,f,_⟩
 ·rw[getD,h];rfl
 ·exfalso;rw[f]at e;simp at e
theorem Xox{l:List Ah}{r:Ah}(c:l[i]?=some r)(name:Lu):kids (l.take (i+1)) name=kids (l.take i) name++(if name≠[]/\r.parent=name then[r.name]else[]):=by
 unfold kids np;rw[Yv,c,DE,T5,Yn]
 congr 1
 by_cases a:name=[]
 ·simp[a]
 ·by_cases b:r.parent=name
  ·simp[a,b]
  ·simp[a,b]
theorem xP(l:List Ah)(name:Lu):(kids l name).length<=l.length:=by
 unfold kids np;rw[Yj];exact EP _ _
theorem wY(j:Nat)(d:Int)(a:Oa)(c:Nat)(l:List Ah)(H:l.length<=100000)(name:Lu)(N:La)(b:Aa B w I (Ba j d a c l N)):Cz 222 [ptr j 0,S name] w λv w'=>∃J x z,v=.slice x (kids l name).length z/\Le I J/\(kids l name).length<=z/\RS J x 1 (kids l name).length ((kids l name).map S)/\Aa B w' J (Ba j d a c l N):=by
 refine gG 2 ?_;replace b:=b.Ai 9 1;refine gG 6 (.lk [0,1,11,12] (σ:=Va×Nat) (λ(g,i) _m=>(5,g)::(13,Ab (i:Nat))::_m) (λ(g,i) w=>i<=l.length/\Aa B w I (An 9 1 g (kids (l.take i) name).length ((kids (l.take i) name).map S)::Ba j d a c l N)) (λ(g,i)=>l.length-i) (.slice none 0 0,0) ⟨Y4 _,b⟩ ?_);rintro⟨g,i⟩ w ⟨hi,b⟩;refine gN 1 ?_ ?_<;>intro t
 ·obtain⟨r,s⟩:∃r,l[i]?=some r:=⟨_,Y2 om⟩
  obtain⟨p,rfl,hx⟩:=TF b (k:=2) O i r s;have q:=xP (l.take i) name;rw[Yl]at q;refine gH 1 (.val (VI (.of O) hx R9 Jf O) O (gG 10 ?_));intro G w b;refine gM 0 ?_ ?_<;>intro f u
  ·refine gG 8 ?_;intro C A D h w b;have e:=Xox s name;rw[Y9 (su f)]at e;refine A_ (_,i+1) O ⟨om,?_⟩;rw[e,Y0,Yn];exact b.y 0 1
  refine gG 2 ?_;have e:=Xox s name;rw[Y3 (su f),Yy]at e;refine A_ (_,i+1) O ⟨om,?_⟩;rw[e];exact b.y 0 1
 refine gG 2 ?_;have n:i=l.length:=om
 subst n;rw[Fy]at b;obtain⟨ka,F,rfl,o,_⟩:=b.vS 0;obtain⟨J,E,m,b⟩:=b.fV 0;exact⟨J,ka,F,O,E,o,m,b⟩
theorem Xwb(l:List Ah):∀(f:Nat) (i:Int),(KR l f i).length<=f
 | 0,_=>by simp[KR]
 | f+1,i=>by
  rw[KR];split
  ·simp
  ·cases l[i.toNat]? with
   | none=>simp
   | some r =>
    have h:=Xwb l f (BA l r.parent);simp only[Y5];omega
theorem mq{l:List Ah}(h:Wf l)(name:Lu):(path l name).length<=l.length:=by
 unfold path ju;rcases TG l name with⟨a,_⟩|⟨j,r,a,b,_⟩
 ·rw[a,lY l _ om];simp
 ·have d:=(Y1.1 b).1;have c:=Xwb l ((BA l name).toNat+1) (BA l name);rw[a]at c ⊢;omega
theorem wZ(h:Nat)(b:Int)(a:Oa)(c:Nat)(l:List Ah)(z:l.length<=100000)(g:Wf l)(name:Lu)(N:La)(d:Aa B w I (Ba h b a c l N)):Cz 224 [ptr h 0,S name] w λv w'=>∃J A C,v=.slice A (path l name).length C/\Le I J/\(path l name).length<=C/\RS J A 1 (path l name).length ((path l name).map λr=>S r.name)/\Aa B w' J (Ba h b a c l N):=by
 refine gE 4 (fx h b a c l z name) ?_;intro w d;replace d:=d.Ai 9 1;refine gG 1 (.lk [0,1] (σ:=Va×Int×List Ah) (λ(j,i,D) _m=>(5,j)::(6,Ab i)::_m) (λ(j,i,D) w=>path l name=D++ju l i/\-1<=i/\i<l.length/\Aa B w I (An 9 1 j D.length (D.map λr=>S r.name)::Ba h b a c l N)) (λ(j,i,D)=>(i+1).toNat) (.slice none 0 0,BA l name,[]) ⟨O,Ur l name,mX l name,d⟩ ?_);rintro⟨j,i,D⟩ w ⟨e,M,P,d⟩;refine gM 2 ?_ ?_<;>intro f y
 ·obtain⟨q,rfl⟩:∃q:Nat,i=(q:Int):=⟨i.toNat,by simp at f;omega⟩
  obtain⟨r,n⟩:∃r,l[q]?=some r:=⟨_,Y2 om⟩
  obtain⟨p,rfl,hx⟩:=TF d (k:=2) O q r n;have Q:=(g.up q r n).2;have K:D.length<=l.length:=by have H:=mq g name;rw[e,Y0]at H;omega
  refine gH 8 (.val (nO (.of O) (hx 1 _ O) Bg) O (gG 3 ?_));intro F E G m w d;obtain⟨T,u,hx⟩:=TF d (k:=2) O q r n;cases u
  refine gH 8 (.val (nO (.of O) (hx 2 _ O) Bg) O (gE 0 (fx h b (some p) c l z r.parent) ?_));intro w d;refine gG 1 ?_;refine A_ (_,BA l r.parent,D++[r]) O ⟨by rw[e,Xwc g n,Yg];rfl,Ur l _,mX l _,?_⟩;rw[Y0,Yn];exact(d.x [2])
 refine gG 2 ?_;have s:i<0:=by simp at f;omega
 rw[Rh l s,Yy]at e;subst e;obtain⟨ka,R,rfl,t,_⟩:=d.vS 0;obtain⟨J,L,o,d⟩:=d.fV 0;exact⟨J,ka,R,O,L,t,o,d⟩
theorem Xzt(l:List Ah)(r:Ah):B9 (l++[r])=B9 l++Xa r:=by unfold B9;simp
theorem wO{r:Ah}:∀{l:List Ah} {j:Nat},j<l.length->B9 (l.set j r)=(B9 l).take (j*10)++Xa r++(B9 l).drop (j*10+10)
 | [],j,h=>Yz h sz
 | t::l,0,h=>by
  unfold B9;rw[List.set_cons_zero,Yu,Fx,Yu,Fx,pt (by exact Ya 10)];rfl
 | t::l,j+1,h=>by
  have a:=wO (r:=r) (l:=l) (j:=j) (su h);have e:∀l:List Ah,B9 (t::l)=Xa t++B9 l:=λl=>rfl
  rw[pI,e,e,a,show(j+1)*10=(Xa t).length+j*10 by show(j+1)*10=10+j*10;omega,ya,pQ,Y5u];simp only[Yg]
theorem eg(r:Ah):(Xa r).all Value.oneCell'=true:=rfl
theorem Xwp:∀(l:List Ah),(B9 l).all Value.oneCell'=true
 | []=>rfl
 | r::l=>by
  show(Xa r++B9 l).all Value.oneCell'=true
  rw[ux,eg,Xwp l];rfl
theorem Xj0(l:List Ah)(r:Ah):(put l r).length=l.length:=by
 unfold put;split
 ·rw[jJ]
 ·rfl
def On(n:Int):Int:=max 0 (min n 64)
theorem Xgv(n:Int)(N:La)(a:Aa B w I N):Cz 187 [Ab n] w λv w'=>∃b,v=ptr b 0/\Aa B w' I (Ba b (On n) none 0 ([]:List Ah) N):=by
 refine gG 7 ?_;intro c w a;refine⟨_,O,?_⟩;exact(a.Ai 126 10).pick 1 O
theorem sQ(v:Nat)(i:Int)(a:Oa)(c:Nat)(l:List Ah)(T:l.length<=100000)(r:Ah)(W:r.name.length<=1000000)(X:r.parent.length<=1000000)(P:AX I)(R:Bf I)(N:La)(b:Aa B w I (Ac v [Ab i,.slice a l.length c] 156::An 126 10 (.slice a l.length c) l.length (B9 l)::N)):Ce B I (Ac v [Ab i,.slice a (put l r).length c] 156::An 126 10 (.slice a (put l r).length c) (put l r).length (B9 (put l r))::N) 250 [ptr v 0,.agg (Xa r).toArray] w (Ab (Fg l r:Nat)):=by
 refine gH 3 ?_;intro Z w b;refine gE 0 (wi r W X P R) ?_;intro w b;refine gM 1 ?_ ?_<;>intro m S
 ·refine gG 1 ?_;have f:C7 r=false:=su m
  have h:Fg l r=1:=by rw[Fg,Y9 f]
  have o:put l r=l:=by rw[put,Y3 (nB h)]
  rw[h,o];exact⟨O,b.s⟩
 refine gE 3 (fx v i a c l T _) ?_;intro w b;replace b:=b.px [2];refine gM 4 ?_ ?_<;>intro d J
 ·refine gG 1 ?_;have f:¬ C7 r=false:=su m
  have g:get l r.name=none:=by
   rcases Tr.get_at l r.name with⟨_,g⟩|⟨j,t,g,_⟩
   ·exact g
   ·exfalso;rw[g]at d;have:=of_decide_eq_true d;omega
  have h:Fg l r=6:=by rw[Fg,Y3 f,g]
  have o:put l r=l:=by rw[put,Y3 (nB h)]
  rw[h,o];exact⟨O,b.y 0 1⟩
 refine gG 0 ?_;obtain⟨j,t,L,D,u⟩:∃(j:Nat) (t:Ah),BA l r.name=(j:Int)/\l[j]?=some t/\get l r.name=some t:=by
  rcases Tr.get_at l r.name with⟨f,_⟩|⟨j,t,f,g,_,M⟩
  ·exfalso;rw[f]at d;simp at d
  ·exact⟨j,t,f,g,M⟩
 have A:=(Y1.1 D).1;obtain⟨p,rfl,_⟩:=TF b (k:=2) O j t D;rw[L];refine gQ ?_;intro w b;refine gH 7 ?_;refine A1.y 7 (λw _ _ Q b=>nO (.of O) (by obtain⟨p9,C,hx⟩:=TF b (k:=2) O j t D;cases C;exact hx 2 _ O) Bg) ?_;refine gM 4 ?_ ?_<;>intro n K
 ·refine gG 1 ?_;have f:¬ C7 r=false:=su m
  have g:t.parent≠r.parent:=su n
  have h:Fg l r=8:=by rw[Fg,Y3 f,u];exact Y9 g
  have o:put l r=l:=by rw[put,Y3 (nB h)]
  rw[h,o];exact⟨O,b.y 0 1⟩
 refine gG 0 ?_;obtain⟨gb,H,G,F,x,z,U,V,b⟩:=b.AF (k:=2) O om;injection F with q Y E
 injection q with q
 subst q;subst E;try dsimp only[List.set]at b
 refine gD [0,0,0] [7] [0,1,2,3,4,5,6,7] ?_;intro w b;refine gH 7 (A1.e (.so b (k:=2) O O O O Jf O (by simp only[Y0];omega) ?_));intro w b;try dsimp only[List.set]at b
 rw[Yk,nt om,pt om,<-Yg]at b;replace b:=b.py [0];replace b:=b.AR (size:=10) (k:=1) O x z (by simp only[Y0,Yl,Y6,Y5,Yh];omega) (by simp only[Y0,Yl,Y6,Y5,Yh];omega);refine gG 1 ?_;have f:¬ C7 r=false:=su m
 have g:¬ t.parent≠r.parent:=su n
 have h:Fg l r=0:=by rw[Fg,Y3 f,u];exact Y3 g
 have o:put l r=l.set j r:=by rw[put,Y9 h,L];(try rw[Yd])
 rw[h,Xj0,o,wO A];exact⟨O,b⟩
theorem ZG(p:Nat)(b:Int)(a:Oa)(c:Nat)(l:List Ah)(C:l.length<=100000)(r:Ah)(K:r.name.length<=1000000)(L:r.parent.length<=1000000)(F:AX I)(G:Bf I)(N:La)(d:Aa B w I (Ac p [Ab b,.slice a l.length c] 156::An 126 10 (.slice a l.length c) l.length (B9 l)::N)):Cz 199 [ptr p 0,.agg (Xa r).toArray] w λv w'=>v=Ab (KW b l r:Nat)/\∃a c,Aa B w' I (Ac p [Ab b,.slice a (add b l r).length c] 156::An 126 10 (.slice a (add b l r).length c) (add b l r).length (B9 (add b l r))::N):=by
 refine gH 3 ?_;intro D w d;refine gE 0 (wi r K L F G) ?_;intro w d;refine gM 2 ?_ ?_<;>intro g H
 ·refine gG 1 ?_;have f:KW b l r=1:=by rw[KW,Y9 (su g)]
  have i:add b l r=l:=by rw[add,Y3 (nB f)]
  rw[f,i];exact⟨O,a,c,d.s⟩
 refine gE 3 (fx p b a c l C _) ?_;intro w d;refine gM 2 ?_ ?_<;>intro j J
 ·refine gG 1 ?_;have n:¬ C7 r=false:=su g
  have f:KW b l r=7:=by rw[KW,Y3 n,Y9 (su j)]
  have i:add b l r=l:=by rw[add,Y3 (nB f)]
  rw[f,i];exact⟨O,a,c,d.s⟩
 refine gH 7 (.Au (T:=λw=>Aa B w I (Ac p [Ab b,.slice a l.length c] 156::An 126 10 (.slice a l.length c) l.length (B9 l)::Ac D [Ab r.kind,S r.name,S r.parent,S r.user,S r.service,S r.url,Ab r.made,Ab r.used,Ab r.AV,.bool r.fresh] 126::N)) O O O func168 O (λo=>(X6 (.gd o O) (X6 (.gd o O) X4))) O (λo=>fx p b a c l C r.parent _ d) d ?_);clear d;rintro w d;refine gM 3 ?_ ?_<;>intro t m
 ·refine gG 1 ?_;have n:¬ C7 r=false:=su g
  have q:¬ 0<=BA l r.name:=su j
  have f:KW b l r=6:=by rw[KW,Y3 n,Y3 q,Y9 (su t)]
  have i:add b l r=l:=by rw[add,Y3 (nB f)]
  rw[f,i];exact⟨O,a,c,d.s⟩
 refine gG 0 (gQ ?_);intro w d;refine gM 11 ?_ ?_<;>intro k A
 ·refine gG 1 ?_;have n:¬ C7 r=false:=su g
  have q:¬ 0<=BA l r.name:=su j
  have z:¬ (r.parent≠[]/\BA l r.parent<0):=λh=>by
   rcases m with e|e
   ·exact h.1 e
   ·omega
  have f:KW b l r=5:=by rw[KW,Y3 n,Y3 q,Y3 z,Y9 (su k)]
  have i:add b l r=l:=by rw[add,Y3 (nB f)]
  rw[f,i];exact⟨O,a,c,d.s⟩
 refine gG 0 (gD [2,0] [10] [0,1,2,3,4,5,6,7,8,9,10] ?_);intro w d;refine gH 7 ?_;intro E w d;refine gH 1 ?_;intro x y u w d;refine gH 3 ?_;intro w d;refine gG 1 ?_;have n:¬ C7 r=false:=su g
 have q:¬ 0<=BA l r.name:=su j
 have z:¬ (r.parent≠[]/\BA l r.parent<0):=λh=>by
  rcases m with e|e
  ·exact h.1 e
  ·omega
 have f:KW b l r=0:=by rw[KW,Y3 n,Y3 q,Y3 z,Y3 (su k)]
 have i:add b l r=l++[r]:=by rw[add,Y9 f]
 rw[f,i];refine⟨O,x,y,?_⟩;rw[Xzt,Y0];exact d.s
theorem vB(a:Oa)(c:Nat)(l:List Ah)(t:l.length<=100000)(N:La)(d:Aa B w I (An 126 10 (.slice a l.length c) l.length (B9 l)::N)):Cz 65 [.slice a l.length c] w λv w'=>∃f,v=f/\Aa B w' I (An 126 10 f l.length (B9 l)::An 126 10 (.slice a l.length c) l.length (B9 l)::N):=by
 refine gH 2 (.val (Ex.F9 (.of O) (.of O) KK) O ?_);refine gM 0 ?_ ?_<;>intro e m
 ·refine gG 1 ?_;cases a with
  | some p=>simp at e
  | none =>
  have g:l=[]:=d.CM (k:=0) O λ_ ⟨_,n⟩=>by
   rcases n with⟨_,h,_⟩|⟨b,cap,r,o,_⟩
   ·exact Yi h
   ·cases o
  subst g;exact⟨.slice none 0 0,O,d.Ai 126 10⟩
 refine gH 2 ?_;intro s w d;replace d:=d.A2 (k:=0) (size:=10) O O (Y4 _);refine .D_ (bytes:=120) d (.of O) (.of O) (k:=0) (j:=1) O O KK (i:=t126) kr O O O O (Xwp l) ⟨om,by unfold maxLen;omega⟩ O ?_;intro q w d;rw[Yk,Db]at d;exact gG 1 ⟨q,O,d⟩
theorem vn(i:Nat)(b:Int)(a:Oa)(c:Nat)(l:List Ah)(k:l.length<=100000)(N:La)(d:Aa B w I (Ba i b a c l N)):Cz 26 [ptr i 0] w λv w'=>∃J e f,v=.slice e l.length f/\Le I J/\l.length<=f/\RS J e 10 l.length (B9 l)/\Aa B w' J (Ba i b a c l N):=by
 refine gF 5 (vB a c l k) ?_;rintro _ w ⟨m,rfl,d⟩;refine gG 1 ?_;obtain⟨e,f,rfl,h,_⟩:=d.vS 0;obtain⟨J,j,g,d⟩:=d.fV 0;exact⟨J,e,f,O,j,h,g,d.x [1]⟩
def tD(n a:Int):Bool:=a==0||decide (n<a)
def Vs(a:Int):Bool:=a==1||a==4
def JO(ps:List Int)(r:Ah)(now:Int):Bool:=decide (1<=r.kind)&&decide (r.kind<=6)&&(tD (now-r.made) (ps.getD r.kind.toNat 0)&&tD (now-r.used) (ps.getD (7+r.kind.toNat) 0)&&tD r.AV (ps.getD (14+r.kind.toNat) 0))
def PB(r:Ah)(now:Int):Ah:={ r with AV:=min (r.AV+1) 255,used:=max r.used now }
theorem wo(n a:Int)(w:Wo):Cz 322 [Ab n,Ab a] w λv w'=>v=.bool (tD n a)/\w=w':=by
 exact gG 9 ⟨O,O⟩
theorem QJ(a:Int)(w:Wo):Cz 404 [Ab a] w λv w'=>v=.bool (Vs a)/\w=w':=by
 exact gG 8 ⟨O,O⟩
theorem wj(r:Ah)(now:Int)(e:0<=r.AV)(b:r.AV<=255)(N:La)(a:Aa B w I N):Ce B I N 251 [.agg (Xa r).toArray,Ab now] w (.agg (Xa (PB r now)).toArray):=by
 refine gH 14 ?_;intro c d w a;refine gH 2 ?_;intro w a;exact gG 0 ⟨O,a.s⟩
theorem Ex.F1{t:TypeId}{g:Option (Nat×Bool)}{x y:Operand}{s:Nat}{e:TypeId}{i:Int}{q:IntKind}(hx:Ev n L x (ptr b o))(j:Ev n L y (.int q i))(hi:0<=i)(a:i<(m:Int))(f:P.underlying t=some (.array m e))(c:∀w,(Go.sizeOf e).run P w=.ok s w):Ex P n L w ⟨d,.indexAddr t x y,ty,pos,af,g⟩ (ptr b (o+i.toNat*s)) w:=by
 have h:=Ex.Dn (P:=P) (w:=w) (d:=d) (ty:=ty) (pos:=pos) (af:=af) (g:=g) hx j hi a f c;rw[show(⟨b,o,none⟩:Addr).add (i.toNat*s)=⟨b,o+i.toNat*s,none⟩ from CY b o _]at h;exact h
theorem xY{ps:List Int}(a:ps.length=21)(e:o=k)(h:k<21):(ps.map Ab)[o]?=some (Ab (ps.getD k 0)):=by
 subst e;rw[Yr,Yf,Y2 om];rfl
theorem Xu8(ps:List Int)(c:ps.length=21)(r:Ah)(now:Int)(j:0<=r.made/\r.made<=1099511627776)(m:0<=r.used/\r.used<=1099511627776)(l:0<=now/\now<=1099511627776)(N:La)(b:Aa B w I N):Ce B I N 221 [.agg (ps.map Ab).toArray,.agg (Xa r).toArray,Ab now] w (.bool (JO ps r now)):=by
 refine gG 11 ?_;intro g h w b;refine gN 0 ?_ ?_<;>intro d
 ·refine gG 1 (⟨Yc Value.bool ?_,b.s⟩)
  have:(decide (1<=r.kind)&&decide (r.kind<=6))=false:=by
   rcases d with e|e
   ·rw[decide_eq_false om];rfl
   ·rw[decide_eq_false (p:=r.kind<=6) om,T7]
  rw[JO,this];rfl
 have f:1<=r.kind/\r.kind<=6:=om
 refine gG 0 (.qt b (.val (λw b=>(.mo O)) O ?_));refine .val (λw b=>(by exact .fo 6 O FP O O Bl O)) O ?_;refine .val (λw b=>(by exact(.lo O b (k:=0) O BJ O))) O ?_;refine .val (λw b=>(.sub (.of O) (.of O) ⟨om,om⟩)) O (.val (λw b=>(by exact .fo 0 O FP O O Bl O)) O ?_);refine .val (λw b=>(by exact(.lo O b (k:=0) O BJ O))) O ?_;refine .val (λw b=>(by exact .fo 0 O KH O O O9 O)) O ?_;refine .val (λw b=>(Ex.F1 (i:=r.kind) (.of O) (.of O) om om KG Bl)) O (.val (λw b=>(.lo O b (k:=1) O BJ (xY c (k:=r.kind.toNat) om om))) O (.call func322 O (A3 O (A3 O X4)) O (λw b=>Pu (wo _ _ w) b) (.val (λw b=>(.mo O)) O (.Aj O O O (λa w b=>(.mo O)) O ?_))));refine .Aj O O O (λa w b=>(by exact .fo 7 O FP O O Bl O)) O ?_;refine .Aj O O O (λa w b=>(by exact(.ld (.gd a O) b (k:=0) O BJ O))) O ?_;refine .Aj O O O (λa w b=>(.sub (.gd a O) (.gd a O) ⟨om,om⟩)) O (.Aj O O O (λa w b=>(by exact .fo 0 O FP O O Bl O)) O ?_);refine .Aj O O O (λa w b=>(by exact(.ld (.gd a O) b (k:=0) O BJ O))) O ?_;refine .Aj O O O (λa w b=>(by exact .fo 7 O KH O O O9 O)) O ?_;refine .Aj O O O (λa w b=>(Ex.F1 (i:=r.kind) (.gd a O) (.gd a O) om om KG Bl)) O (.Aj O O O (λa w b=>(.ld (.gd a O) b (k:=1) O BJ (xY c (k:=7+r.kind.toNat) om om))) O (.Au O O O func322 O (λa=>(X6 (.gd a O) (X6 (.gd a O) X4))) O (λa w b=>Pu (wo _ _ w) b) (.val (λw b=>(.pa O O O)) O (.val (λw b=>(.mo O)) O ?_))));refine .Aj O O O (λa w b=>(by exact .fo 8 O FP O O Bl O)) O ?_;refine .Aj O O O (λa w b=>(by exact(.ld (.gd a O) b (k:=0) O BJ O))) O ?_;refine .Aj O O O (λa w b=>(by exact .fo 0 O FP O O Bl O)) O ?_;refine .Aj O O O (λa w b=>(by exact(.ld (.gd a O) b (k:=0) O BJ O))) O ?_;refine .Aj O O O (λa w b=>(by exact .fo 14 O KH O O O9 O)) O ?_;refine .Aj O O O (λa w b=>(Ex.F1 (i:=r.kind) (.gd a O) (.gd a O) om om KG Bl)) O (.Aj O O O (λa w b=>(.ld (.gd a O) b (k:=1) O BJ (xY c (k:=14+r.kind.toNat) om om))) O (.Au O O O func322 O (λa=>(X6 (.gd a O) (X6 (.gd a O) X4))) O (λa w b=>Pu (wo _ _ w) b) (.val (λw b=>(.pa O O O)) O (.val (λw b=>(.ao O)) O (.nil ?_)))));intro w b;refine gG 0 (⟨Yc Value.bool ?_,b.s⟩);rw[JO,decide_eq_true f.1,decide_eq_true f.2];rfl
def bL(ps:List Int)(name:Lu)(now:Int)(r:Ah):Bool:=((r.name==name)||Vs r.kind)&&!JO ps r now
def o1(ps:List Int)(l:List Ah)(name:Lu)(now:Int):Bool:=!(path l name).any (bL ps name now)&&decide (0<(path l name).length)
theorem Xp9(l:List Ah):∀(f:Nat) (i:Int) (r:Ah),r∈KR l f i->∃j:Nat,l[j]?=some r
 | 0,_,r,h=>by simp[KR]at h
 | f+1,i,r,h=>by
  rw[KR]at h;split at h
  ·simp at h
  ·split at h
   ·rename_i t a
    rcases Yp.1 h with e|e
    ·subst e;exact⟨_,a⟩
    ·exact Xp9 l f _ r e
   ·simp at h
theorem sG{l:List Ah}{name:Lu}{r:Ah}(h:r∈path l name):∃j:Nat,l[j]?=some r:=Xp9 l _ _ r h
theorem vw{r:Ah}(h:C7 r=true):(0<=r.made/\r.made<=1099511627776)/\(0<=r.used/\r.used<=1099511627776)/\0<=r.AV/\r.AV<=255:=by
 unfold C7 at h;simp only[Y8,dq1]at h
 omega
theorem Xyf(n:Nat)(b:Int)(a:Oa)(c:Nat)(l:List Ah)(U:l.length<=100000)(g:Wf l)(ps:List Int)(z:ps.length=21)(name:Lu)(now:Int)(Y:0<=now/\now<=1099511627776)(N:La)(d:Aa B w I (Ba n b a c l N)):Cz 315 [ptr n 0,.agg (ps.map Ab).toArray,S name,Ab now] w λv w'=>∃J,Le I J/\v=.bool (o1 ps l name now)/\Aa B w' J (Ba n b a c l N):=by
 refine gH 4 ?_;intro C w d;refine gF 0 (wZ n b a c l U g _) ?_;rintro _ w ⟨J,pa,pc,rfl,P,Z,D,d⟩;have aa:=mq g name;refine gG 4 (.lk [0,2,3,5,9,17,18] (σ:=Nat) (λi _m=>(19,Ab (i:Nat))::_m) (λi w=>i<=(path l name).length/\(∀(j:Nat) r,j<i->(path l name)[j]?=some r->bL ps name now r=false)/\Aa B w J (Ba n b a c l (Ac C (ps.map Ab) 26::N))) (λi=>(path l name).length-i) 0 ⟨Y4 _,λ_ _ h=>Yz h om,d⟩ ?_);rintro i w ⟨hi,x,d⟩;refine gN 1 ?_ ?_<;>intro Q
 ·obtain⟨r,o⟩:∃r,(path l name)[i]?=some r:=⟨_,Y2 om⟩
  obtain⟨q,V⟩:=sG (Y7 o);have E:getD l r.name=r:=by rw[getD,g.qf V];rfl
  obtain⟨K,L,_⟩:=vw (g.right r (Y7 V));obtain⟨p,rfl,X⟩:=D.2 om;have G:((path l name).map λr=>S r.name)[i]?=some (S r.name):=by rw[Yr,o];rfl
  refine gH 1 ?_;refine .val (nO (.of O) (by have W:=Xv d X G;simpa using W) Bg) O ?_;refine gP 3 [] (E5 n _ _ c l U _ _) ?_;rintro _ w ⟨rfl,d⟩;rw[E];refine gH 12 ?_;intro u w d;refine .Au (T:=λw=>Aa B w J (Ac u [Ab r.kind,S r.name,S r.parent,S r.user,S r.service,S r.url,Ab r.made,Ab r.used,Ab r.AV,.bool r.fresh] 126::Ba n b a c l (Ac C (ps.map Ab) 26::N))) O O O func404 O (λf=>(X6 (.gd f O) X4)) O (λf=>Pu (QJ _ w) d) d ?_;clear d;rintro w d;refine gH 2 ?_;refine .Aj O O (λf=>(.DY (.of O) d (k:=3) O O5 HA (by rw[Yj];exact z) (λj v A=>by rw[Yk];exact A))) O ?_;refine gH 2 (.Au (T:=λw=>Aa B w J (Ac u [Ab r.kind,S r.name,S r.parent,S r.user,S r.service,S r.url,Ab r.made,Ab r.used,Ab r.AV,.bool r.fresh] 126::Ba n b a c l (Ac C (ps.map Ab) 26::N))) O O O func221 O (λf=>(X6 (.gd f O) (X6 (.gd f O) (X6 (.gd f O) X4)))) O (λf=>Xu8 ps z r now K L Y _ d) d ?_);clear d;rintro w d;refine gM 2 ?_ ?_<;>intro m R
  ·refine gG 1 (⟨J,P,Yc Value.bool ?_,d.s⟩)
   have:(path l name).any (bL ps name now)=true:=gh.2 ⟨r,Y7 o,m⟩
   rw[o1,this];rfl
  refine gG 2 (rd (i+1) ⟨om,λj t A H=>?_,d.y 0 1⟩);rcases Yt j i with M|M
  ·exact x j t M H
  ·have e:j=i:=om
   subst e;rw[o]at H;cases H;exact m
 refine gG 4 (⟨J,P,Yc Value.bool ?_,d.s⟩)
 have:(path l name).any (bL ps name now)=false:=by
  rw[yp];intro r o;obtain⟨j,A,F⟩:=uh o;rw[x j r om (by rw[Y2 A,F])];decide
 rw[o1,this]
 simp
def qp(c:Ui):Bool:=(decide ((97:Int)<=(c.toNat:Int))&&decide ((c.toNat:Int)<=122))||(decide ((65:Int)<=(c.toNat:Int))&&decide ((c.toNat:Int)<=90))
def o0(s:Lu)(lo a b:Int):Bool:=(s.all λc=>!(decide ((c.toNat:Int)<lo)||decide ((126:Int)<(c.toNat:Int))))&&(decide (a<=(s.length:Int))&&decide ((s.length:Int)<=b))
theorem Xz1(c:Ui)(w:Wo):Cz 438 [U8 c.toNat] w λv w'=>v=.bool (qp c)/\w=w':=by
 refine gH 14 ?_;exact gG 2 ⟨O,O⟩
theorem Xjd(s:Lu)(lo a d:Int)(q:s.length<=9223372036854775807)(N:La)(f:Aa B w I N):Ce B I N 381 [S s,.int .u8 lo,Ab a,Ab d] w (.bool (o0 s lo a d)):=by
 refine gG 4 (.lk [0,1,2,3,11] (σ:=Nat) (λi _m=>(12,Ab (i:Nat))::_m) (λi w=>i<=s.length/\(∀(j:Nat) c,j<i->s[j]?=some c->(decide ((c.toNat:Int)<lo)||decide ((126:Int)<(c.toNat:Int)))=false)/\Aa B w I N) (λi=>s.length-i) 0 ⟨Y4 _,λ_ _ h=>Yz h om,f⟩ ?_);rintro i w ⟨hi,k,f⟩;refine gN 1 ?_ ?_<;>intro n
 ·refine gM 13 ?_ ?_<;>intro b o
  ·refine gG 1 (⟨Yc Value.bool ?_,f⟩)
   have:(s.all λc=>!(decide ((c.toNat:Int)<lo)||decide ((126:Int)<(c.toNat:Int))))=false:=by
    rw[jE];exact⟨_,Y7 (D4 (show i<s.length by omega)),by rw[b];decide⟩
   rw[o0,this];rfl
  refine gG 2 (rd (i+1) ⟨om,λj c p g=>?_,f⟩);rcases Yt j i with m|m
  ·exact k j c m g
  ·have e:j=i:=om
   subst e;rw[D4 (show j<s.length by omega)]at g;cases g;exact b
 refine gG 11 (⟨Yc Value.bool ?_,f⟩)
 have:(s.all λc=>!(decide ((c.toNat:Int)<lo)||decide ((126:Int)<(c.toNat:Int))))=true:=by
  rw[Dj];intro c g;obtain⟨j,p,l⟩:=uh g;rw[k j c om (by rw[Y2 p,l])];rfl
 rw[o0,this];rfl
end Go.Proofs.W9
namespace Tr
open Tk
inductive KO(l:List Ah)(k:List UInt8):List UInt8->Prop
 | self:KO l k k
 | step {i:Nat} {r:Ah} (hr:l[i]?=some r) (h:KO l k r.parent):KO l k r.name
theorem KO.trans{l:List Ah}{a b c:Lu}(h:KO l a b)(k:KO l b c):KO l a c:=by
 induction k with
 | self=>exact h
 | step d _ e=>exact .step d e
theorem sE{l:List Ah}{name x:Lu}(h:x∈kids l name):name≠[]/\∃(i:Nat) (r:Ah),l[i]?=some r/\r.parent=name/\r.name=x:=by
 unfold kids np at h;obtain⟨r,d,hx⟩:=Dt.1 h;obtain⟨b,a⟩:=Iy.1 d;simp only[Y8,dq1]at a
 obtain⟨i,hi,c⟩:=uh b;exact⟨a.1,i,r,by rw[Y2 hi,c],a.2,hx⟩
theorem s9{l:List Ah}(c:Wf l){name k:Lu}(h:k∈kids l name):BA l name<BA l k/\0<=BA l k/\0<=BA l name:=by
 obtain⟨d,i,r,b,j,g⟩:=sE h;have a:=(c.up i r b)
 have f:=c.at_ b;subst j;subst g;rcases a.1 with e|e
 ·exact Yz e d
 ·rw[f];exact⟨a.2,om,e⟩
theorem rV{l:List Ah}:∀(n:Nat) (name x:Lu),x∈C6 l n name->KO l name x
 | 0,_,_,h=>by simp[C6]at h
 | n+1,name,x,h=>by
  rw[C6,Yp]at h;rcases h with e|h
  ·subst e;exact .self
  ·obtain⟨k,a,hx⟩:=jH.1 h;obtain⟨_,i,r,d,c,b⟩:=sE a;subst c;subst b;exact(KO.step d .self).trans (rV n _ _ hx)
theorem YE{l:List Ah}(c:Wf l){k x:Lu}(h:KO l k x):k=x\/BA l k<BA l x:=by
 induction h with
 | self=>exact .inl O
 | step b _ d =>
  have a:=(c.up _ _ b).2;rw[c.at_ b];rcases d with e|e
  ·rw[<-e]at a;exact .inr a
  ·exact .inr om
theorem eN{l:List Ah}(j:Wf l){a b x:Lu}(h:KO l a x):KO l b x->KO l a b\/KO l b a:=by
 induction h with
 | self=>exact λk=>.inr k
 | @step i r c h m =>
  intro k;generalize f:r.name=y at k;cases k with
  | self=>rw[<-f];exact .inl (.step c h)
  | step d g =>
   have e:=j.one _ _ _ _ c d f;subst e;rw[c]at d;cases d
   exact m g
theorem Xyy{l:List Ah}(d:Wf l)(name:Lu):(kids l name).Nodup:=by
 unfold kids np;have b:(l.map Ah.name).Nodup:=by
  rw[List.Nodup,tY];intro i j hi a c e;simp only[Yj]at hi a
  simp only[nJ]at e
  have:=d.one i j l[i] l[j] (Y2 hi) (Y2 a) e
  omega
 exact b.sublist ((ug (l:=l)).map Ah.name)
theorem vf{l:List Ah}(c:Wf l):∀(n:Nat) (name:Lu),(C6 l n name).Nodup
 | 0,_=>by simp[C6]
 | n+1,name=>by
  rw[C6,T6];constructor
  ·intro h;obtain⟨k,w,hx⟩:=jH.1 h;have f:=s9 c w;rcases YE c (rV n k name hx)with e|e
   ·rw[e]at f;omega
   ·omega
  ·rw[List.Nodup,List.pairwise_flatMap];refine⟨λk _=>vf c n k,?_⟩;refine List.Pairwise.imp_of_mem ?_ (Xyy c name);intro a b t u d x hx y C e;subst e;have key:∀{p q:Lu},p∈kids l name->q∈kids l name->p≠q->KO l p q->False:=by
    intro p q z A g B;cases B with
    | self=>exact g O
    | step v h =>
     rename_i r
     obtain⟨_,i,s,j,o,m⟩:=sE A;have e:=c.one _ _ _ _ v j m.symm;subst e;rw[v]at j;cases j
     rw[o]at h;have f:=s9 c z;rcases YE c h with e|e
     ·rw[e]at f;omega
     ·omega
   rcases eN c (rV n a x hx) (rV n b x C)with h|h
   ·exact key t u d h
   ·exact key u t (Ne.symm d) h
theorem vJ{l:List Ah}:∀(n:Nat) (name x:Lu),x∈C6 l n name->x=name\/∃r∈l,r.name=x
 | 0,_,_,h=>by simp[C6]at h
 | n+1,name,x,h=>by
  rw[C6,Yp]at h;rcases h with e|h
  ·exact .inl e
  ·obtain⟨k,a,hx⟩:=jH.1 h;obtain⟨_,i,r,c,d,b⟩:=sE a;rcases vJ n k x hx with e|e
   ·exact .inr ⟨r,Y7 c,by rw[b,e]⟩
   ·exact .inr e
theorem wJ{α:Type}[DecidableEq α]:∀(a b:List α),a.Nodup->(∀x∈a,x∈b)->a.length<=b.length
 | [],_,_,_=>Y4 _
 | x::a,b,c,d=>by
  rw[T6]at c;have hx:x∈b:=d x sz;have g:=wJ a (b.erase x) c.2 (λy f=>(List.mem_erase_of_ne (by intro e;subst e;exact c.1 f)).2 (d y (by simp[f])));rw[List.length_erase_of_mem hx]at g
  have:=Y6j hx
  rw[Y5];omega
theorem P1{l:List Ah}(b:Wf l)(n:Nat)(name:Lu):(C6 l n name).length<=l.length+1:=by
 have h:=wJ (C6 l n name) (name::l.map Ah.name) (vf b n name) (λx hx=>by
  rcases vJ n name x hx with e|⟨r,a,e⟩
  ·simp[e]
  ·exact Si _ (Dt.2 ⟨r,a,e⟩))
 simpa using h
theorem Xex{l:List Ah}(a:Wf l):∀(n m:Nat) (name:Lu),0<=BA l name->(l.length:Int)-BA l name<=n->(l.length:Int)-BA l name<=m->C6 l n name=C6 l m name
 | 0,_,name,_,h,_=>by have:=mX l name;omega
 | _+1,0,name,_,_,h=>by have:=mX l name;omega
 | n+1,m+1,name,c,e,d=>by
  rw[C6,C6]
  congr 1
  rw[List.flatMap_def,List.flatMap_def]
  congr 1
  refine List.map_congr_left λk b=>?_
  have:=s9 a b
  exact Xex a n m k this.2.1 om om
theorem w7{l:List Ah}(d:Wf l)(name:Lu):(below l name).length<=l.length:=by
 unfold below;split
 ·rename_i f
  have h:=wJ (C6 l l.length name) (l.map Ah.name) (vf d _ name) (λx hx=>by
   rcases vJ _ name x hx with e|⟨r,c,e⟩
   ·rcases TG l name with⟨g,_⟩|⟨j,r,_,a,b,_⟩
    ·omega
    ·exact Dt.2 ⟨r,Y7 a,by rw[b,e]⟩
   ·exact Dt.2 ⟨r,c,e⟩)
  simpa using h
 ·simp
theorem Xi8{l:List Ah}{i:Nat}{r:Ah}(b:l[i]?=some r)(a:r.parent≠[]):∀(n:Nat) (name:Lu),r.parent∈C6 l n name->r.name∈C6 l (n+1) name
 | 0,_,h=>by simp[C6]at h
 | n+1,name,h=>by
  rw[C6,Yp]at h ⊢;refine .inr (jH.2 ?_);rcases h with e|h
  ·refine⟨r.name,?_,by rw[C6];simp⟩;unfold kids np;exact Dt.2 ⟨r,Iy.2 ⟨Y7 b,by simp[<-e,a]⟩,O⟩
  ·obtain⟨k,c,hx⟩:=jH.1 h;exact⟨k,c,Xi8 b a n k hx⟩
theorem UA{l:List Ah}(d:Wf l){name:Lu}{r:Ah}(c:l[i]?=some r)(b:r.parent≠[])(h:r.parent∈below l name):r.name∈below l name:=by
 unfold below at h ⊢;split at h
 ·rename_i a
  rw[Y9 a,Xex d l.length (l.length+1) name a om om];exact Xi8 c b _ _ h
 ·simp at h
theorem Wf.names{l:List Ah}(c:Wf l):(l.map Ah.name).Nodup:=by
 rw[List.Nodup,tY];intro i j hi a b e;simp only[Yj]at hi a
 simp only[nJ]at e
 have:=c.one i j l[i] l[j] (Y2 hi) (Y2 a) e
 omega
theorem Wf.split{l:List Ah}(g:Wf l){xs i:List Ah}{r:Ah}(h:l=xs++r::i):r.parent=[]\/∃t∈xs,t.name=r.parent:=by
 have f:l[xs.length]?=some r:=by rw[h];simp
 obtain⟨b,k⟩:=g.up _ _ f;rcases b with e|e
 ·exact .inl e
 ·rcases TG l r.parent with⟨c,_⟩|⟨j,t,c,a,d,_⟩
  ·omega
  ·refine .inr ⟨t,?_,d⟩;rw[h,Ye om]at a;exact Y7 a
theorem Wf.of{l:List Ah}(m:∀r∈l,C7 r=true)(f:(l.map Ah.name).Nodup)(v:∀xs r A,l=xs++r::A->r.parent=[]\/∃t∈xs,t.name=r.parent):Wf l:=by
 refine⟨m,λi j r s g y e=>?_,λi r g=>?_⟩
 ·rw[List.Nodup,tY]at f;obtain⟨hi,a⟩:=Y1.1 g;obtain⟨d,b⟩:=Y1.1 y;rcases Nat.lt_trichotomy i j with h|h|h
  ·exact Yz (by rw[nJ,nJ,a,b,e]) (f i j (su hi) (su d) h)
  ·exact h
  ·exact Yz (by rw[nJ,nJ,a,b,e]) (f j i (su d) (su hi) h)
 ·obtain⟨hi,a⟩:=Y1.1 g;have k:l=l.take i++r::l.drop (i+1):=by
   rw[<-a,<-Ym hi];exact(Fw i l).symm
  rcases v _ _ _ k with e|⟨t,z,e⟩
  ·refine⟨.inl e,?_⟩;rcases TG l r.parent with⟨n,_⟩|⟨j,t,n,c,o,_⟩
   ·omega
   ·exact Yz (o.trans e) (vY (m t (Y7 c)))
  ·obtain⟨j,d,b⟩:=uh z;rw[Yl]at d;have p:l[j]?=some t:=by rw[<-b,List.getElem_take];exact Y2 om
   rcases TG l r.parent with⟨_,c⟩|⟨q,u,n,c,o,w⟩
   ·exact Yz e (c t (Y7 p))
   ·have:q<=j:=Nat.le_of_not_lt λx=>w j t x p e
    exact⟨.inr om,om⟩
theorem Wf.drop{l:List Ah}(c:Wf l)(name:Lu):Wf (drop l name):=by
 refine Wf.of (λr d=>c.right r (Iy.1 d).1) (c.names.sublist (ug.map Ah.name)) λxs r x h=>?_
 obtain⟨j,w,m,n,o⟩:=List.filter_eq_append_iff.1 h;obtain⟨k,m2,p,q,f,_⟩:=List.filter_eq_cons_iff.1 o;have b:l=(j++k)++r::m2:=by rw[m,p,Yg]
 have d:l[(j++k).length]?=some r:=by rw[b];simp
 rcases c.split b with e|⟨t,v,e⟩
 ·exact .inl e
 ·by_cases g:r.parent=[]
  ·exact .inl g
  ·refine .inr ⟨t,?_,e⟩;have i:((below l name).contains t.name)=false:=by
    cases u:(below l name).contains t.name with
    | false=>rfl
    | true =>
     have a:=UA c d g (by rw[<-e];simpa using u);have s:(below l name).contains r.name=true:=su a
     rw[s]at f;cases f
   rcases Ys.1 v with a|a
   ·rw[<-n];exact Iy.2 ⟨a,by rw[i];rfl⟩
   ·exact Yz (by rw[i];rfl) (q t a)
theorem UT(l:List Ah)(name:Lu):(drop l name).Sublist l:=ug
end Tr
namespace Go.Proofs.W9
open Gk Ul Pc Tk Tr
open Tryz
theorem Xy5(r:Nat)(d:Int)(a:Oa)(c:Nat)(l:List Ah)(Y:l.length<=100000)(E:Wf l)(g h j:Nat)(N:La):∀(n:Nat) (name:Lu) (b:List Lu) (v:Va) (B w:Wo) (I:Im) (G:0<=BA l name) (K:(l.length:Int)-BA l name<=n) (q:b.length+(C6 l n name).length<=1000000) (f:Aa B w I (Ac g [v] 39::An 9 1 (v) (b).length ((b).map S)::Ac h [ptr r 0] 80::Ac j [.func (.func 324) #[] #[ptr g 0,ptr h 0,ptr j 0]] 422::Ba r d a c l N)),
  Calls prog 324 #[S name,ptr g 0,ptr h 0,ptr j 0] w (AY λ_ w'=>∃J L,Le I J/\Aa B w' J (Ac g [L] 39::An 9 1 (L) ((b++C6 l n name)).length (((b++C6 l n name)).map S)::Ac h [ptr r 0] 80::Ac j [.func (.func 324) #[] #[ptr g 0,ptr h 0,ptr j 0]] 422::Ba r d a c l N)):=by
 intro n
 induction n with
 | zero=>intro name b v B w I G K;have:=mX l name;omega
 | succ n ih =>
  intro name b v B w I G K q f;have s:=q;rw[C6,Y5]at s;refine gH 7 ?_;intro b9 P Q t w f;refine gF 0 (wY r d a c l Y _) ?_;rintro _ w ⟨J,ra,rc,rfl,V,Z,z,f⟩;have X:=xP l name;replace f:=f.px [5,5,5,5];refine gG 2 (.lk [1,2,3,13,14] (σ:=Nat×Va×Im) (λ(i,v,m) _m=>(15,Ab (i:Nat))::_m) (λ(i,v,m) w=>i<=(kids l name).length/\Le J m/\Aa B w m (Ac g [v] 39::An 9 1 (v) ((b++name::((kids l name).take i).flatMap (C6 l n))).length (((b++name::((kids l name).take i).flatMap (C6 l n))).map S)::Ac h [ptr r 0] 80::Ac j [.func (.func 324) #[] #[ptr g 0,ptr h 0,ptr j 0]] 422::Ba r d a c l N)) (λ(i,v,m)=>(kids l name).length-i) (0,_,J) ⟨Y4 _,Le.refl _,su f⟩ ?_);rintro⟨i,v,m⟩ w ⟨hi,o,f⟩;refine gN 1 ?_ ?_<;>intro H
  ·obtain⟨k,u⟩:∃k,(kids l name)[i]?=some k:=⟨_,Y2 om⟩
   have C:=s9 E (Y7 u);have D:((kids l name).map S)[i]?=some (S k):=by rw[Yr,u];rfl
   have W:(((kids l name).take i).flatMap (C6 l n)).length+(C6 l n k).length<=((kids l name).flatMap (C6 l n)).length:=by
    have e:=Fw i (kids l name);have F:=Ym (l:=kids l name) (i:=i) om;rw[(Y1.1 u).2]at F;rw[F]at e;have R:=Yc (λx=>(List.flatMap (C6 l n) x).length) e;simp only[M6,aW,Y0]at R
    omega
   obtain⟨p,rfl,U⟩:=z.2 om;refine gH 1 ?_;refine .val (nO (.of O) (by have T:=Xv f (U.mono o) D;simpa using T) Bg) O ?_;refine gH 3 (.Bv (cap:=[ptr g 0,ptr h 0,ptr j 0]) func324 O (.of O) (A3 O X4) O (ih k (b++name::((kids l name).take i).flatMap (C6 l n)) v B w m C.2.1 om (by simp only[Y0,Y5,C6]at q ⊢;omega) f) ?_);rintro _ w ⟨M,v3,y,f⟩;refine gG 2 (rd (i+1,v3,M) ⟨om,o.trans y,?_⟩);rw[Yv,u,DE,M6,aW,List.flatMap_nil,Yy,<-Em,<-Yg];exact f
  refine gG 0 ?_;have A:i=(kids l name).length:=om
  subst A;rw[Fy]at f;exact⟨m,v,V.trans o,f⟩
theorem Xmo(j:Nat)(d:Int)(a:Oa)(c:Nat)(l:List Ah)(t:l.length<=100000)(i:Wf l)(name:Lu)(N:La)(b:Aa B w I (Ba j d a c l N)):Cz 226 [ptr j 0,S name] w λv w'=>∃J u x,v=.slice u (below l name).length x/\Le I J/\(below l name).length<=x/\RS J u 1 (below l name).length ((below l name).map S)/\Aa B w' J (Ba j d a c l N):=by
 refine gH 8 ?_;intro o p q w b;refine gE 0 (fx j d a c l t _) ?_;intro w b;replace b:=b.px [4,4,4];refine gM 1 ?_ ?_<;>intro e r
 ·replace b:=(((b.Ai 9 1).pick 1 O).pick 3 O)
  have f:=(b.pick 2 O).pick 3 O;try dsimp only[List.eraseIdx]at f
  have b:=f;clear f;refine gH 2 ?_;refine .Bv (cap:=[ptr p 0,ptr o 0,ptr q 0]) func324 O (.of O) (A3 O X4) O (Xy5 j d a c l t i p o q N l.length name [] _ B w I (su e) om (by have:=P1 i l.length name;simp only[Yh];omega) b) ?_;rintro _ w ⟨J,D,A,b⟩;refine gG 2 ?_;rw[Db]at b;have g:below l name=C6 l l.length name:=Y9 (su e);rw[g];obtain⟨ka,C,rfl,n,_⟩:=b.vS 1;obtain⟨z,k,m,b⟩:=b.fV 1;exact⟨z,ka,C,O,A.trans k,n,m,b.y 0 3⟩
 refine gG 2 ?_;have g:below l name=[]:=Y3 (su e);rw[g];exact⟨I,none,0,O,Le.refl _,Ya _,⟨O,λh=>Yz h sz⟩,b.s⟩
theorem Xvf(p:Lu):∀(l:List Lu) (i:Nat),decide (0<=K1 p l i)=l.contains p
 | [],i=>rfl
 | x::l,i=>by
  rw[K1,um];split
  ·rename_i h
   subst h;rw[beq_self_eq_true,Bool.true_or,dq1];omega
  ·rename_i h
   rw[beq_eq_false_iff_ne.2 h,K9,Xvf p l (i+1)]
theorem Xmr(a:Oa)(c:Nat)(l:List Lu)(b:l.length<=100000)(p:Lu)(e:RS I a 1 l.length (l.map S))(N:La)(d:Aa B w I N):Ce B I N 229 [.slice a l.length c,S p] w (.bool (l.contains p)):=by
 refine gP 3 [] (og a c l b p e N) ?_;rintro _ w ⟨rfl,d⟩;exact gG 2 ⟨by rw[<-Xvf p l 0],d⟩
theorem Qo(c:Nat)(b:Oa)(d:Nat)(a:List Lu)(f:a.length<=100000)(r:Ah)(g:RS I b 1 a.length (a.map S))(N:La)(e:Aa B w I (Ac c [.slice b a.length d] 39::N)):Ce B I (Ac c [.slice b a.length d] 39::N) 228 [.agg (Xa r).toArray,ptr c 0] w (.bool (a.contains r.name)):=by
 refine gH 5 ?_;intro h w e;refine gE 0 (Xmr b d a f _ g) ?_;intro w e;exact gG 1 ⟨O,e.s⟩
theorem WL.clear{s:Nat}{e t:TypeId}{x:Operand}{z:Va}(p:Aa B w I N)(r:N[k]?=some (Ac b cs E))(hx:Ev n L x (.slice (some (ad b o)) m cap))(A:P.underlying t=some (.slice e))(Q:∀w,(zeroValue e).run P w=.ok z w)(M:z.cells.size=s)(D:∀v∈z.cells,v.oneCell'=true)(H:o+m*s<=cs.length)
  (h:∀w' d,d.length=cs.length->d.take o=cs.take o->Aa B w' I (N.set k (Ac b d E))->WL P n ops K rest L w'):WL P n ops K (⟨none,.call ⟨.builtin .clear,#[x],#[t]⟩,ty,pos,af,none⟩::rest) L w:=by
 subst M;have u:∀w' v,(∀a,Ap n L a->(execOp a.eval (⟨none,.call ⟨.builtin .clear,#[x],#[t]⟩,ty,pos,af,none⟩:Oper)).run P w=.ok (.value v) w')->WL P n ops K rest L w'->WL P n ops K (⟨none,.call ⟨.builtin .clear,#[x],#[t]⟩,ty,pos,af,none⟩::rest) L w:=by
  intro w' v hx h a g;refine wpList_plain O λK' F=>?_
  unfold Oper.wp;rw[hx a g];exact F _ _ (h _ (g.skip v))
 have y:=p.block r;have l:(Builtin.zeroCells z.cells m).toList.length=m*z.cells.size:=by rw[Sj,size_zeroCells]
 have j:=run_storeCells_at P b o E (Builtin.zeroCells z.cells m).toList 0 cs.toArray w y (by simp only[ER,l,nH];exact H) (λv C=>by
  rw[Array.mem_toList_iff]at C;obtain⟨i,hi,rfl⟩:=Array.mem_map.1 C;have q:i<m*z.cells.size:=su hi
  have J:0<z.cells.size:=ym λe=>by rw[e]at q;omega
  have f:=T_ i J;rw[getElem!_pos z.cells (i%z.cells.size) f];exact D _ (Array.getElem_mem f))
 simp only[ER]at j
 cases m with
 | zero =>
  refine u w (.tuple #[]) (λa g=>?_) (h w cs O O ?_)
  ·simp[execOp,resolve,invoke,builtin,hx a g,Builtin.clear_,run_underlying A]
  ·have e:N.set k (Ac b cs E)=N:=by
    apply PS
    intro i;rw[nG];split
    ·rename_i e;subst e
     split
     ·exact r.symm
     ·rename_i f;rw[Zy om]
    ·rfl
   rw[e];exact p
 | succ m =>
  refine u (w.setRow b _) (.tuple #[]) (λa g=>?_) (h _ _ ?_ ?_ (p.write (o':=Xh (cs.take o++(Builtin.zeroCells z.cells (m+1)).toList++cs.drop (o+(Builtin.zeroCells z.cells (m+1)).toList.length)) E) r O O O (setRow_heap w b _ _ E _ y) λc G=>setRow_other w b c _ G))
  ·simp[execOp,resolve,invoke,builtin,hx a g,Builtin.clear_,run_underlying A,Q,j]
  ·simp only[Y0,Yl,Y6,l];omega
  ·rw[Yg,nt (by rw[Yl];omega),yz,Nat.min_self]
theorem vr{α:Type}(a:α->Bool):∀(l:List α) (i:Nat),(Eu a l i=-1/\∀r∈l,a r=false)\/∃(j:Nat) (r:α),Eu a l i=((i+j:Nat):Int)/\l[j]?=some r/\a r=true/\∀t∈l.take j,a t=false
 | [],i=>.inl ⟨O,λr h=>by simp at h⟩
 | s::l,i=>by
  rw[Eu]
  by_cases h:a s=true
  ·rw[Y9 h];exact .inr ⟨0,s,by simp,O,h,λt b=>by simp at b⟩
  ·rw[Y3 h];have f:a s=false:=su h
   rcases vr a l (i+1)with⟨c,d⟩|⟨j,r,c,d,g,k⟩
   ·exact .inl ⟨c,λr m=>(Yp.1 m).elim (λe=>e▸f) (d r)⟩
   ·refine .inr ⟨j+1,r,by rw[c];omega,su d,g,λt b=>?_⟩;rw[Iw]at b;rcases Yp.1 b with e|b
    ·exact e▸f
    ·exact k t b
theorem Xj4:∀(l:List Ah) (i:Nat),(B9 l).take (i*10)=B9 (l.take i)
 | [],i=>by simp[B9]
 | r::l,0=>by simp[B9]
 | r::l,i+1=>by
  have e:∀l:List Ah,B9 (r::l)=Xa r++B9 l:=λl=>rfl
  rw[Iw,e,e,<-Xj4 l i,show(i+1)*10=(Xa r).length+i*10 by show(i+1)*10=10+i*10;omega,ya]
theorem Xh6(a:Oa)(c:Nat)(l:List Ah)(hl:l.length<=100000)(d:Ah->Bool)(q:FuncId)(fn:Func)(V:prog.funcs[q]?=some fn)(A:Xf fn=true)(g:Lv)(Q:X1)(N:La)(hf:∀(r:Ah) w (X:La),Aa B w I (Q::X)->Calls prog q ([Value.agg (Xa r).toArray]++g).toArray w (AY λv w'=>v=.bool (d r)/\Aa B w' I (Q::X)))(b:Aa B w I (Q::An 126 10 (.slice a l.length c) l.length (B9 l)::N)):Ce B I (Q::An 126 10 (.slice a (l.filter (λx=>!d x)).length c) (l.filter (λx=>!d x)).length (B9 (l.filter (λx=>!d x)))::N) 227 [.slice a l.length c,.func (.func q) #[] g.toArray] w (.slice a (l.filter (λx=>!d x)).length c):=by
 refine gP 3 [] (X8s a c l hl d q fn V A _ _ (λw h=>TF h (k:=1) O) (λr w h=>hf r w _ h)) ?_;rintro _ w ⟨rfl,b⟩;refine gM 3 ?_ ?_<;>intro f ao
 ·refine gG 2 (?_);have e:l.filter (λx=>!d x)=l:=by
   rcases vr d l 0 with⟨_,Y⟩|⟨j,r,P,_⟩
   ·exact nA.2 (λt ht=>by rw[Y t ht];rfl)
   ·exfalso;rw[P]at f;simp at f
  rw[e];exact⟨O,b⟩
 obtain⟨k,rk,ae,W,af,ag⟩:∃(j:Nat) (r:Ah),Eu d l 0=(j:Int)/\l[j]?=some r/\d r=true/\∀t∈l.take j,d t=false:=by
  rcases vr d l 0 with⟨P,_⟩|⟨j,r,P,Y,h3,h4⟩
  ·exfalso;rw[P]at f;simp at f
  ·exact⟨j,r,by rw[P];simp,Y,h3,h4⟩
 have a3:=(Y1.1 W).1;rw[ae];refine gG 3 ?_;refine .lk [0,1] (σ:=Nat×Nat×List Ah) (λ(i,j,M) _m=>(5,Ab (i:Nat))::(6,Ab (j:Nat))::_m) (λ(i,j,M) w=>i<j/\j<=l.length/\M.length=l.length/\M.drop j=l.drop j/\M.take i=(l.take j).filter (λx=>!d x)/\Aa B w I (Q::An 126 10 (.slice a l.length c) l.length (B9 M)::N)) (λ(i,j,M)=>l.length-j) (k,k+1,l) ⟨om,om,O,O,by
  rw[Yv,W,DE,T5,nA.2 (λt ht=>by rw[ag t ht];rfl)];simp[af],b⟩ ?_
 rintro⟨i,j,M⟩ w ⟨a2,hj,hM,T,u,b⟩;refine gN 4 ?_ ?_<;>intro ap
 ·obtain⟨r,hr⟩:∃r,l[j]?=some r:=⟨_,Y2 om⟩
  have ab:M[j]?=some r:=by
   have Z:=Yc (λx=>x[0]?) T;simpa[hr]using Z
  have E:=b;rw[<-hM]at E;obtain⟨p,aj,hx⟩:=TF E (k:=1) O j r ab;subst aj;clear E;have U:((l.take (j+1)).filter (λx=>!d x))=((l.take j).filter (λx=>!d x))++[r].filter (λx=>!d x):=by rw[Yv,hr,DE,T5]
  have D:M.drop (j+1)=l.drop (j+1):=by rw[<-Gj,<-Gj,T]
  refine gH 3 (.val (VI (.of O) hx R9 Jf O) O (gH 4 ?_));intro b7 w b;refine .Bv (cap:=g) V A (.of O) (A3 O X4) O (hf r w _ (b.x [1])) ?_;rintro _ w ⟨rfl,b⟩;replace b:=b.pick 1 O;refine gM 1 ?_ ?_<;>intro z aq
  ·obtain⟨L,J,o,H,R,F,ah,ai,b⟩:=b.AF (k:=2) O om;injection H with m al G
   (injection m with m;subst m)
   subst G;have a5:=Xpw M;refine gH 4 (.so b (k:=2) O O O O Jf O (by simp only[Y0];omega) ?_);intro w b;rw[Yk,nt om,pt om,<-Yg]at b;replace b:=b.AR (n:=l.length) (size:=10) (k:=2) O R F (by simp only[Y0,Yl,Y6,Y5,Yh];omega) (by simp only[Y0,Yl,Y6,Y5,Yh];omega);have e9:(List.take (Int.toNat (i:Int)*10) (B9 M)++Xa r++List.drop (Int.toNat (i:Int)*10+10) (B9 M))=B9 (M.set i r):=by(try rw[Yd]);rw[wO om]
   refine gG 6 ?_;refine rd (i+1,j+1,M.set i r) ⟨om,om,by rw[jJ];exact hM,?_,?_,?_⟩
   ·show(M.set i r).drop (j+1)=_
    rw[List.drop_set_of_lt om,D]
   ·show(M.set i r).take (i+1)=_
    rw[Yv,List.take_set_of_le (Ya _),u,pD om,U,Jq,Y9 (su z)];rfl
   ·try dsimp only
    rw[<-e9];exact b.y 0 1
  refine gG 3 (rd (i,j+1,M) ⟨om,om,hM,D,?_,b.y 0 1⟩);rw[u,U,Jq,Y3 (su z)]
  simp
 have ac:j=l.length:=om
 subst ac;replace b:=b.px [1];obtain⟨L,J,o,H,R,F,ah,ai,b⟩:=b.AF (k:=0) O om;injection H with m al G
 subst m;subst G;refine gH 3 ?_;have e8:sliced (some (ad L 0)) ((i:Int)).toNat l.length c 10=.slice (some (ad L (0+(i:Int).toNat*10))) (l.length-i) (c-i):=by
  simp only[sliced,Yd,gn,CY]
  rw[Y3 om]
 rw[show(⟨L,0,none⟩:Addr)=ad L 0 from O,e8];refine WL.clear (s:=10) b (k:=0) O (.of O) KK Tl O de (by rw[Y0];omega) ?_;intro w K S C b;refine gG 4 ?_;rw[vy];refine ?_;have e1:(B9 M++o).take (i*10)=B9 (l.filter (λx=>!d x)):=by
  rw[nt om,Xj4,u,Yo om]
 have e2:(l.filter (λx=>!d x)).length=i:=by
  have Z:=Yc List.length u;rw[Yl,Yo om]at Z;omega
 have e3:K=B9 (l.filter (λx=>!d x))++K.drop (i*10):=by
  rw[<-e1];rw[show 0+(i:Int).toNat*10=i*10 by omega]at C;rw[<-C];exact(Fw _ _).symm
 rw[e3]at b;have e4:=Xpw (l.filter (λx=>!d x));have e5:=Yc List.length e3;rw[Y0]at e5;rw[Y0]at S;replace b:=b.AR (n:=i) (size:=10) (k:=0) O om F (by rw[e4,e2]) om
 (try rw[Yd]);rw[e2]
 exact⟨O,b.x [1]⟩
theorem fm(g:Nat)(d:Int)(a:Oa)(c:Nat)(l:List Ah)(n:l.length<=100000)(f:Wf l)(name:Lu)(N:La)(b:Aa B w I (Ba g d a c l N)):Cz 131 [ptr g 0,S name] w λv w'=>∃J p q,v=.slice p (below l name).length q/\Le I J/\(below l name).length<=q/\RS J p 1 (below l name).length ((below l name).map S)/\∃a c,Aa B w' J (Ba g d a c (drop l name) N):=by
 refine gP 3 [] (Xmo g _ a c l n f _ _) ?_;rintro _ w ⟨J,j,k,rfl,u,m,e,b⟩;refine gH 7 ?_;intro i w b;refine gP 0 [1,2] (vB a c l n _) ?_;rintro _ w ⟨z,rfl,b⟩;replace b:=b.px [2];obtain⟨s,t,rfl,y,_⟩:=b.vS 1;refine .val (.makeFunc (A3 O X4)) O ?_;refine gC 0 (Xh6 s t l n (λr=>(below l name).contains r.name) 228 _ func228 O [ptr i 0] (Ac i [.slice j (below l name).length k] 39) _ (λr w X h=>Qo i j k (below l name) (oh (w7 f name)) r e X h) (by
   have o:=((b.pick 1 O).pick 3 O)
   try dsimp only[List.eraseIdx]at o
   exact o)) ?_
 rintro _ w ⟨rfl,b⟩;rw[show l.filter (λx=>!(below l name).contains x.name)=drop l name from O]at b ⊢;refine gG 5 ?_;intro w b;replace b:=b.py [0,2];exact⟨J,j,k,O,u,m,e,s,t,b.x [1]⟩
abbrev Pr:=Lu×Lu
abbrev X5(p:Pr):Lv:=[S p.1,S p.2]
theorem WB(l:List Pr):(X2 X5 l).all Value.oneCell'=true:=by
 unfold X2
 induction l with
 | nil=>rfl
 | cons p l a=>rw[Yu,Fx,ux,a];rfl
structure Us where
 name:Lu
 pw:Lu
 attrs:List Pr
abbrev tz(u:Us)(a:Oa)(c:Nat):Lv:=[S u.name,S u.pw,.slice a u.attrs.length c]
def Jc(I:Im)(u:Us)(l:Lv):Prop:=∃a c,l=tz u a c/\u.attrs.length<=c/\RS I a 2 u.attrs.length (X2 X5 u.attrs)
theorem Jc.mono{u:Us}{l:Lv}(h:Jc I u l)(f:Le I J):Jc J u l:=by
 obtain⟨a,c,e,b,d⟩:=h;exact⟨a,c,e,b,d.mono f⟩
def jU(i:Nat)(c:Ui):Bool:=!qp c&&(((i:Int)==0)||(((decide ((c.toNat:Int)<48)||decide ((57:Int)<(c.toNat:Int)))&&((c.toNat:Int)!=45))&&((c.toNat:Int)!=95)))
def fU:List UInt8->Nat->Bool
 | [],_=>true
 | c::r,i=>!jU i c&&fU r (i+1)
theorem wV:∀(s:Lu) (k:Nat),fU s k=true↔∀(j:Nat) c,s[j]?=some c->jU (k+j) c=false
 | [],k=>by simp[fU]
 | c::r,k=>by
  rw[fU,Y8,wV r (k+1)];constructor
  ·rintro⟨b,e⟩ j d a;cases j with
   | zero=>simp at a;subst a;simpa using b
   | succ j=>rw[show k+(j+1)=k+1+j by omega];exact e j d (su a)
  ·intro h;refine⟨by simpa using h 0 c O,λj d a=>?_⟩;rw[show k+1+j=k+(j+1)by omega];exact h (j+1) d (su a)
def OM(s:Lu):Bool:=fU s 0&&(!(s==[])&&decide ((s.length:Int)<=60))
def jT(p:Pr):Bool:=!OM p.1||!o0 p.2 32 0 60
def aR(u:Us):Bool:=o0 u.name 33 1 32&&decide ((1:Int)<=(u.pw.length:Int))&&decide ((u.pw.length:Int)<=60)&&decide ((u.attrs.length:Int)<=8)&&!u.attrs.any jT
def o8(p:Pr):Prop:=p.1.length<=maxLen/\p.2.length<=maxLen
theorem YQ(s:Lu)(n:s.length<=9223372036854775807)(N:La)(f:Aa B w I N):Ce B I N 380 [S s] w (.bool (OM s)):=by
 refine gG 4 (.lk [0,6] (σ:=Nat) (λi _m=>(7,Ab (i:Nat))::_m) (λi w=>i<=s.length/\(∀(j:Nat) c,j<i->s[j]?=some c->jU j c=false)/\Aa B w I N) (λi=>s.length-i) 0 ⟨Y4 _,λ_ _ h=>Yz h om,f⟩ ?_);rintro i w ⟨hi,g,f⟩;refine gN 1 ?_ ?_<;>intro l
 ·refine gC 7 (Xz1 _ w) ?_;rintro _ _ ⟨rfl,rfl⟩;refine gH 14 ?_;refine gM 7 ?_ ?_<;>intro a k
  ·refine gG 1 (⟨Yc Value.bool ?_,f⟩)
   have:fU s 0=false:=by
    cases h:fU s 0 with
    | false=>rfl
    | true =>
     have d:=(wV s 0).1 h i _ (D4 (show i<s.length by omega));rw[Yk]at d;exact Yz (a.symm.trans d) de
   rw[OM,this];rfl
  refine gG 2 (rd (i+1) ⟨om,λj c m b=>?_,f⟩);rcases Yt j i with d|d
  ·exact g j c d b
  ·have e:j=i:=om
   subst e;rw[D4 (show j<s.length by omega)]at b;cases b;exact a
 refine gG 8 (⟨Yc Value.bool ?_,f⟩)
 have:fU s 0=true:=(wV s 0).2 λj c b=>by
  have:=(Y1.1 b).1
  rw[Yk];exact g j c om b
 rw[OM,this]
 simp
theorem Uz(p:Pr)(c:o8 p)(N:La)(a:Aa B w I N):Ce B I N 379 [.agg (X5 p).toArray] w (.bool (jT p)):=by
 refine gH 4 ?_;intro b1 w a;refine gE 0 (YQ p.1 c.1) ?_;intro w a;refine gH 4 (.Au (T:=λw=>Aa B w I (Ac b1 [S p.1,S p.2] 124::N)) O O O func381 O (λb=>(X6 (.gd b O) (A3 O (A3 O (A3 O X4))))) O (λb=>Xjd p.2 32 0 60 c.2 _ a) a ?_);clear a;rintro w a;exact gG 3 ⟨O,a.s⟩
theorem Xh8(a:Oa)(cap:Nat)(l:List (Pr))(A:l.length<=9223372036854775807)(q:Pr->Bool)(f:FuncId)(fn:Func)(o:prog.funcs[f]?=some fn)(m:Xf fn=true)(b:Lv)(N:La)(x:∀w,Aa B w I N->Jg w X5 2 a l)(z:∀(r:Pr) (n:r∈l) w,Aa B w I N->Calls prog f ([Value.agg (X5 r).toArray]++b).toArray w (AY λv w'=>v=.bool (q r)/\Aa B w' I N))(c:Aa B w I N):Ce B I N 439 [.slice a l.length cap,.func (.func f) #[] b.toArray] w (Ab (Eu q l 0)):=by
 refine gG 4 (.lk [0,1,7] (σ:=Nat) (λi _m=>(8,Ab (i:Nat))::_m) (λi w=>i<=l.length/\(∀(j:Nat) t,j<i->l[j]?=some t->q t=false)/\Aa B w I N) (λi=>l.length-i) 0 ⟨Y4 _,λ_ _ h=>Yz h om,c⟩ ?_);rintro i w ⟨hi,g,c⟩;refine gN 1 ?_ ?_<;>intro y
 ·obtain⟨r,n⟩:∃r,l[i]?=some r:=⟨_,Y2 om⟩
  obtain⟨p,rfl,hx⟩:=x w c i r n;refine gH 6 (.val (.IA (.of O) hx Zk Ij O) O (.Bv (cap:=b) o m (.of O) (A3 O X4) O (z r (Y7 n) w c) ?_));rintro _ w ⟨rfl,c⟩;refine gM 0 ?_ ?_<;>intro d u
  ·exact gG 2 ⟨by rw[iG g n d],c⟩
  refine gG 2 (rd (i+1) ⟨om,λj t C k=>?_,c⟩);rcases Yt j i with s|s
  ·exact g j t s k
  ·have e:j=i:=om
   subst e;rw[n]at k;cases k;exact d
 exact gG 1 ⟨by rw[iF (λj t k=>g j t (oh ((Y1.1 k).1)) k)],c⟩
theorem Xbe(a:Oa)(cap:Nat)(l:List (Pr))(g:l.length<=9223372036854775807)(e:Pr->Bool)(b:FuncId)(fn:Func)(f:prog.funcs[b]?=some fn)(d:Xf fn=true)(c:Lv)(N:La)(i:∀w,Aa B w I N->Jg w X5 2 a l)(j:∀(r:Pr) (k:r∈l) w,Aa B w I N->Calls prog b ([Value.agg (X5 r).toArray]++c).toArray w (AY λv w'=>v=.bool (e r)/\Aa B w' I N))(h:Aa B w I N):Ce B I N 382 [.slice a l.length cap,.func (.func b) #[] c.toArray] w (.bool (l.any e)):=by
 refine gP 3 [] (Xh8 a cap l g e b fn f d _ N i j) ?_;rintro _ w ⟨rfl,h⟩;exact gG 2 ⟨by rw[<-ZX e l 0],h⟩
theorem Xxc(a:Oa)(c:Nat)(l:List (Pr))(s:l.length<=1000000)(m:RS I a 2 l.length (X2 X5 l))(N:La)(b:Aa B w I N):Cz 253 [.slice a l.length c] w λv w'=>∃J d e,v=.slice d l.length e/\Le I J/\l.length<=e/\RS J d 2 l.length (X2 X5 l)/\Aa B w' J N:=by
 refine gH 2 (.val (Ex.F9 (.of O) (.of O) Iq) O ?_);refine gM 0 ?_ ?_<;>intro g q
 ·refine gG 1 ?_;cases a with
  | some p=>simp at g
  | none =>
  have n:l=[]:=by
   cases l with
   | nil=>rfl
   | cons x l=>obtain⟨p,h,_⟩:=m.2 sz;cases h
  subst n;exact⟨I,none,0,O,Le.refl _,Ya _,⟨O,λh=>Yz h sz⟩,b⟩
 refine gH 2 ?_;intro r w b;replace b:=b.A2 (k:=0) (size:=2) O O (Y4 _);refine .Bz (bytes:=32) b (.of O) (.of O) m (k:=0) O Iq (i:=t124) kr O O O O (WB l) ⟨om,by unfold maxLen;omega⟩ O ?_;intro t w b;rw[Yk,Db]at b;refine gG 1 ?_;obtain⟨d,e,rfl,j,_⟩:=b.vS 0;obtain⟨J,o,f,b⟩:=b.fV 0;exact⟨J,d,e,O,o,j,f,b⟩
theorem RU(u:Us)(a:Oa)(c:Nat)(i:u.name.length<=9223372036854775807)(g:u.attrs.length<=9223372036854775807)(e:∀p∈u.attrs,o8 p)(f:RS I a 2 u.attrs.length (X2 X5 u.attrs))(N:La)(b:Aa B w I N):Ce B I N 280 [.agg (tz u a c).toArray] w (.bool (aR u)):=by
 refine gH 5 ?_;intro b1 w b;refine gE 0 (Xjd _ 33 1 32 i) ?_;intro w b;refine gH 14 (gH 8 (.Au (T:=λw=>Aa B w I (Ac b1 (tz u a c) 135::N)) O O O func382 O (λd=>(X6 (.gd d O) (X6 (.gd d O) X4))) O (λd=>Xbe a c u.attrs om jT 379 _ func379 O [] _ (λw h=>R3 (λ_=>rfl) h f) (λp j w h=>Uz p (e p j) _ h) b) b ?_));clear b;rintro w b;exact gG 3 ⟨O,b.s⟩
def BC(I:Im)(a:Oa)(l:List Us):Prop:=∀(i:Nat) (u:Us),l[i]?=some u->∃p b c,a=some p/\At I (p.add (i*3)) (tz u b c)/\u.attrs.length<=c/\RS I b 2 u.attrs.length (X2 X5 u.attrs)
theorem BC.mono{l:List Us}(h:BC I a l)(b:Le I J):BC J a l:=λi u g=>by
 obtain⟨p,j,k,e,c,d,f⟩:=h i u g;exact⟨p,j,k,e,c.mono b,d,f.mono b⟩
structure Us.fits(u:Us):Prop where
 name:u.name.length<=maxLen
 pw:u.pw.length<=maxLen
 attrs:u.attrs.length<=9223372036854775807/\∀p∈u.attrs,o8 p
def Gi:List Us->Nat->List Us->Nat×Nat
 | [],_,_=>(0,0)
 | u::r,i,a=>if 16<=i then(5,i)else if aR u=false then(1,i)else if a.any (λt=>t.name==u.name)then(7,i)else Gi r (i+1) (a++[u])
def EZ(J:Im)(a:List (Lu×Va))(l:List Us):Prop:=a.length=l.length/\∀(i:Nat) (u:Us),l[i]?=some u->∃cs,a[i]?=some (u.name,.agg (List.toArray cs))/\Jc J u cs
theorem EZ.mono{a:List (Lu×Va)}{l:List Us}(h:EZ I a l)(d:Le I J):EZ J a l:=⟨h.1,λi u e=>by
 obtain⟨cs,b,c⟩:=h.2 i u e;exact⟨cs,b,c.mono d⟩⟩
theorem EZ.snoc{c:List (Lu×Va)}{l:List Us}{u:Us}(h:EZ J c l)(f:Jc J u cs):EZ J (c++[(u.name,.agg cs.toArray)]) (l++[u]):=⟨by simp[h.1],λi t a=>by
 rcases Yt i l.length with b|b
 ·rw[Ye b]at a;rw[Ye (by rw[h.1];exact b)];exact h.2 i t a
 ·have d:=(Y1.1 a).1;simp only[Y0,Y5,Yh]at d
  have e:i=l.length:=om
  subst e;simp at a;subst a
  exact⟨cs,by rw[<-h.1];simp,f⟩⟩
theorem xQ{J:Im}(name:Lu):∀{a:List (Lu×Va)} {l:List Us},EZ J a l->(l.find? (λt=>t.name==name)=none/\a.lookup name=none)\/∃u cs,l.find? (λt=>t.name==name)=some u/\a.lookup name=some (.agg (List.toArray cs))/\Jc J u cs
 | [],[],_=>.inl ⟨O,O⟩
 | [],u::l,h=>by have:=h.1;simp at this
 | p::a,[],h=>by have:=h.1;simp at this
 | p::a,u::l,h=>by
  obtain⟨cs,b,f⟩:=h.2 0 u O;simp at b;subst b
  have g:EZ J a l:=⟨su h.1,λi t j=>by simpa using h.2 (i+1) t (su j)⟩
  rw[yy]
  by_cases e:u.name=name
  ·subst e;exact .inr ⟨u,cs,by simp,by simp[List.lookup],f⟩
  ·have c:(u.name==name)=false:=beq_eq_false_iff_ne.2 e;have d:(name==u.name)=false:=beq_eq_false_iff_ne.2 (Ne.symm e);simp only[c,List.lookup,d]
   exact xQ name g
theorem Uh(l:List Us)(name:Lu):l.any (λt=>t.name==name)=(l.find? (λt=>t.name==name)).isSome:=by
 rw[pM,gh,List.find?_isSome]
def EL(J:Im)(c:Nat)(l:List Us):Prop:=∃b a,At J (ad c 0) [.map (some b)]/\KD J S b a/\EZ J a l
theorem EL.mono{b:Nat}{l:List Us}(h:EL I b l)(a:Le I J):EL J b l:=by
 obtain⟨g,f,c,d,e⟩:=h;exact⟨g,f,c.mono a,d.mono a,e.mono a⟩
theorem wk(h:J b=some (Xh cs E)):At J (ad b 0) cs:=⟨O,_,E,(0,0),h,λj v a=>by simpa[ad]using a⟩
theorem Xgy{u:Us}(h:aR u=true):u.attrs.length<=8:=by
 unfold aR at h;simp only[Y8,dq1]at h
 omega
theorem Xqo(a:Oa)(cap:Nat)(l:List Us)(aq:l.length<=9223372036854775807)(E:∀u∈l,u.fits)(hU:BC I a l)(N:La)(b:Aa B w I N):Cz 185 [.slice a l.length cap] w λv w'=>∃J,Le I J/\(((Gi l 0 []).1=0/\∃tb,v=.tuple #[ptr tb 0,Ab 0,Ab 0]/\EL J tb l)\/((Gi l 0 []).1≠0/\v=.tuple #[.pointer none,Ab ((Gi l 0 []).1:Nat),Ab ((Gi l 0 []).2:Nat)]))/\Aa B w' J N:=by
 refine gG 3 (.mkMap S b O ?_);intro q w b;refine gG 6 ?_;intro D w b;refine .lk [0,5,13,14] (σ:=Nat×Im×List (Lu×Va)) (λ(i,J,m) _m=>(15,Ab (i:Nat))::_m) (λ(i,J,m) w=>i<=l.length/\Le I J/\EZ J m (l.take i)/\Gi (l.drop i) i (l.take i)=Gi l 0 []/\Aa B w J (Ac D [.map (some q)] 386::K3 S q m::N)) (λ(i,J,m)=>l.length-i) (0,I,[]) ⟨Y4 _,Le.refl _,⟨O,λi u h=>by simp at h⟩,O,b⟩ ?_;rintro⟨i,J,m⟩ w ⟨hi,C,n,hq,b⟩;refine gN 1 ?_ ?_<;>intro ae
 ·obtain⟨u,H⟩:∃u,l[i]?=some u:=⟨_,Y2 om⟩
  obtain⟨p,ra,rc,U,am,ar,T⟩:=hU i u H;have A:=E u (Y7 H);subst U;have hR:=T.mono C;have c:Gi (l.drop i) i (l.take i)=if 16<=i then(5,i)else if aR u=false then(1,i)else if(l.take i).any (λt=>t.name==u.name)then(7,i)else Gi (l.drop (i+1)) (i+1) (l.take (i+1)):=by
   rw[Ym om,(Y1.1 H).2,Gi];simp only[Yv,H,DE]
  rw[hq]at c;have d:=xQ u.name n;have o:=Uh (l.take i) u.name;refine gG 6 ?_;intro b7 w b;obtain⟨X,Y,L,W,M,V⟩:∃X Y L W M,(m.lookup u.name).getD (.agg #[S [],S [],.slice none 0 0])=.agg #[S X,S Y,.slice L W M]:=by
   rcases d with⟨_,e⟩|⟨t,cs,_,e,ta,tc,ht,_⟩
   ·rw[e];exact⟨_,_,_,_,_,O⟩
   ·rw[e,ht];exact⟨_,_,_,_,_,O⟩
  refine gD [0,0,0] [] [0,1,2,3,4,5,6,7,8,9,10,11,12] ?_;intro w b;refine gH 6 ?_;refine A1.y 6 (v:=.tuple #[.agg #[S X,S Y,.slice L W M],.bool (m.lookup u.name).isSome]) (λw _ _ an b=>by rw[<-V];exact .VP (key:=u.name) CJ (b.LM (k:=2) O) (.of O) (.of O) My A8 I8) ?_;refine gH 4 ?_;intro b8 w b;refine gH 1 ?_;intro w b;refine gN 4 ?_ ?_<;>intro af
  ·refine gG 4 ?_;have r:Gi l 0 []=(5,i):=by rw[c];exact Y9 om
   rw[r];exact⟨J,C,.inr ⟨show(5:Nat)≠0 by decide,O⟩,b.s⟩
  refine gE 1 (RU u ra rc A.name A.attrs.1 A.attrs.2 hR) ?_;intro w b;refine gM 2 ?_ ?_<;>intro g ag
  ·refine gG 4 ?_;have r:Gi l 0 []=(1,i):=by rw[c];rw[Y3 om];exact Y9 (su g)
   rw[r];exact⟨J,C,.inr ⟨show(1:Nat)≠0 by decide,O⟩,b.s⟩
  refine gG 2 (.cond O (λj=>?_) λj=>?_)
  ·refine gG 4 ?_;have r:Gi l 0 []=(7,i):=by rw[c];rw[Y3 om];rw[Y3 (show ¬ aR u=false by simpa using g)];exact Y9 (by rw[o];rcases d with⟨_,e⟩|⟨t,cs,e,_⟩<;>simp_all)
   rw[r];exact⟨J,C,.inr ⟨show(7:Nat)≠0 by decide,O⟩,b.s⟩
  have K:aR u=true:=su g
  have ap:=Xgy K;refine gF 2 (Xxc ra rc u.attrs om hR) ?_;rintro _ w ⟨J2,Z,aa,rfl,f,G,R,b⟩;refine gG 2 ?_;intro w b;refine .tail 7 kr kr ?_;replace b:=b.drew;generalize w.drew=w at b ⊢;refine .vm O O (.val (.no O) O ?_);refine .val (by first|exact .fo 0 O Mz O O sizeOf384 O|exact .fi 0 O Mz O O sizeOf384 O) O ?_;refine .val (by first|exact(.lo O b (k:=0) O mN O)|exact(.lo O b (k:=1) O mN O)|exact(.lo O b (k:=2) O mN O)|exact(.lo O b (k:=3) O mN O)) O ?_;refine .val (by first|exact .fo 0 O fF O O AQ O|exact .fi 0 O fF O O AQ O) O ?_;refine .val (by first|exact(.lo O b (k:=0) O Bg O)|exact(.lo O b (k:=1) O Bg O)|exact(.lo O b (k:=2) O Bg O)|exact(.lo O b (k:=3) O Bg O)) O ?_;refine .val (by first|exact(.QT (cs:=[_,_,_]) (.of O) b (k:=0) O aB aD O)|exact(.DY (vs:=[_,_,_]) (.of O) b (k:=0) O aB aD O (λ_ _ h=>h))|exact(.QT (cs:=[_,_,_]) (.of O) b (k:=1) O aB aD O)|exact(.DY (vs:=[_,_,_]) (.of O) b (k:=1) O aB aD O (λ_ _ h=>h))|exact(.QT (cs:=[_,_,_]) (.of O) b (k:=2) O aB aD O)|exact(.DY (vs:=[_,_,_]) (.of O) b (k:=2) O aB aD O (λ_ _ h=>h))|exact(.QT (cs:=[_,_,_]) (.of O) b (k:=3) O aB aD O)|exact(.DY (vs:=[_,_,_]) (.of O) b (k:=3) O aB aD O (λ_ _ h=>h))) O ?_;refine .nil ?_;show WL _ _ _ _ _ _ _
  refine .dr ?_;have F:m.lookup u.name=none:=by
   cases h:m.lookup u.name with
   | none=>rfl
   | some x=>rw[h]at j;cases j
  refine .Ac4 CJ b (k:=3) O (.of O) (.of O) (.of O) F My A8 ?_;intro w b;refine gG 2 (A_ (i+1,_,_) O ⟨om,C.trans f,?_,?_,b.y 0 2⟩)
  ·show EZ J2 _ (l.take (i+1))
   rw[Yv,H];exact(n.mono f).snoc ⟨Z,aa,O,G,R⟩
  ·show Gi (l.drop (i+1)) (i+1) (l.take (i+1))=_
   rw[c,Y3 om,Y3 (nB K),Y3];rw[o];rcases d with⟨e,_⟩|⟨t,cs,e,e2,_⟩
   ·rw[e];decide
   ·rw[F]at e2;cases e2
 refine gG 4 ?_;have e:i=l.length:=om
 subst e;have r:Gi l 0 []=(0,0):=by rw[<-hq,nI];first|done|rfl
 rw[Fy]at n;rw[r];obtain⟨J2,f,P,b⟩:=b.fZ 0;obtain⟨J3,z,Q,b⟩:=b.Ho (k:=0) O;exact⟨J3,(C.trans f).trans z,.inl ⟨O,D,O,q,m,(wk P).mono z,Q,(n.mono f).mono z⟩,b⟩
theorem xor_zero{a b:Ui}:(a^^^b).toNat=0↔a=b:=by
 constructor
 ·intro h;have d:a^^^b=0:=CS.1 (su h);have c:a^^^b^^^b=0^^^b:=by rw[d]
  rw[UInt8.xor_assoc,UInt8.xor_self,UInt8.xor_zero,UInt8.zero_xor]at c;exact c
 ·intro h;subst h;simp
theorem Hr{a:Nat}:a^^^b=0↔a=b:=by
 constructor
 ·intro h;have c:a^^^b^^^b=0^^^b:=by rw[h]
  rw[Nat.xor_assoc,Nat.xor_self,Nat.xor_zero,Nat.zero_xor]at c;exact c
 ·intro h;subst h;simp
theorem W4{a b:Lu}:a=b↔a.length=b.length/\∀j:Nat,j<min a.length b.length->at_ a (j:Int)=at_ b (j:Int):=by
 constructor
 ·intro h;subst h;exact⟨O,λ_ _=>rfl⟩
 ·rintro⟨c,d⟩;refine List.ext_getElem c λj f g=>?_
  have e:=d j om;simpa[at_,Yf,f,g]using e
theorem Tx(a b:Lu)(r:a.length<=9223372036854775807)(s:b.length<=9223372036854775807)(N:La)(f:Aa B w I N):Ce B I N 345 [S a,S b] w (.bool (a==b)):=by
 refine gH 5 (.val (.Adm (a:=a.length) om om (.of O) (.of O)) O (gG 7 (.lk [0,1,16] (σ:=Nat×Nat) (λ(i,D) _m=>(5,Ab (D:Nat))::(17,Ab (i:Nat))::_m) (λ(i,D) w=>(i:Int)<=min (a.length:Int) (b.length:Int)/\D<9223372036854775808/\(D=0↔a.length=b.length/\∀j:Nat,j<i->at_ a (j:Int)=at_ b (j:Int))/\Aa B w I N) (λ(i,D)=>min a.length b.length-i) (0,a.length^^^b.length) ⟨om,Nat.xor_lt_two_pow (n:=63) om om,⟨λh=>⟨Hr.1 h,λj h=>Yz h om⟩,λh=>Hr.2 h.1⟩,f⟩ ?_)));rintro⟨i,D⟩ w ⟨hi,p,l,f⟩;refine gN 1 ?_ ?_<;>intro m
 ·have q:=(at_ a (i:Int)^^^at_ b (i:Int)).toNat_lt;refine gG 2 (gQ ?_);intro w f;refine gH 7 (A1.y 7 (λw _ _ g f=>.Adl (.of O) (.of O)) (gH 1 (A1.y 9 (λw _ _ g f=>.orI (a:=D) (b:=(at_ a (i:Int)^^^at_ b (i:Int)).toNat) om (oh ((at_ a (i:Int)^^^at_ b (i:Int)).toNat_lt)) (.of O) (.of O)) ?_)));refine gG 3 (A_ (i+1,_) O ⟨om,yt (n:=63) p (oh ((at_ a (i:Int)^^^at_ b (i:Int)).toNat_lt)),?_,f⟩);show(D||| (at_ a (i:Int)^^^at_ b (i:Int)).toNat)=0↔_
  rw[Nat.or_eq_zero_iff,l,xor_zero];constructor
  ·rintro⟨⟨d,c⟩,o⟩;refine⟨d,λj k=>?_⟩;rcases Yt j i with h|h
   ·exact c j h
   ·have e:j=i:=om
    subst e;exact o
  ·rintro⟨d,c⟩;exact⟨⟨d,λj k=>c j om⟩,c i om⟩
 refine gG 3 (⟨Yc Value.bool ?_,f⟩);rw[pM,beq_iff_eq,beq_iff_eq,W4];constructor
 ·intro h;obtain⟨d,c⟩:=l.1 om;exact⟨d,λj k=>c j om⟩
 ·rintro⟨d,c⟩
  have:=l.2 ⟨d,λj k=>c j om⟩
  omega
def o3(l:List Us)(name a:List UInt8):Bool:=match l.find? (λt=>t.name==name)with
 | some u=>u.pw==a
 | none=>false
def Cw(l:List Us)(name:List UInt8):List Pr:=match l.find? (λt=>t.name==name)with
 | some u=>u.attrs
 | none=>[]
def R4(l:List Us)(name:Lu)(b:List Lu):List Pr:=b.flatMap λx=>(Cw l name).filter λa=>a.1==x
theorem vI{A:List Pr}{rel:List Lu}(b:A.length<=8):(rel.flatMap λx=>A.filter λa=>a.1==x).length<=8*rel.length:=by
 induction rel with
 | nil=>simp
 | cons x r c =>
  have h:=EP (λa:Pr=>a.1==x) A;simp only[aW,Y0,Y5]
  omega
theorem Xx1{mb:Nat}{e:List (Lu×Va)}{l:List Us}(d:EZ I e l)(c:∀u∈l,u.fits)(name pw:Lu):∃m f g i,(e.lookup name).getD (.agg #[S [],S [],.slice none 0 0])=.agg #[S m,S f,.slice g (Cw l name).length i]/\RS I g 2 (Cw l name).length (X2 X5 (Cw l name))/\f.length<=9223372036854775807/\((f==pw)&&(e.lookup name).isSome)=o3 l name pw:=by
 rcases xQ name d with⟨a,b⟩|⟨u,cs,a,b,n,uc,j,o,k⟩
 ·refine⟨[],[],none,0,?_,?_,by simp,?_⟩
  ·rw[b,Cw,a];rfl
  ·rw[Cw,a];exact⟨O,λh=>Yz h sz⟩
  ·rw[b,o3,a];simp
 ·refine⟨u.name,u.pw,n,uc,?_,?_,(c u (pA a)).pw,?_⟩
  ·rw[b,Cw,a,j];rfl
  ·rw[Cw,a];exact k
  ·rw[b,o3,a];simp
theorem Md(j:Nat)(l:List Us)(a:∀u∈l,u.fits)(name b:Lu)(g:b.length<=9223372036854775807)(p:EL I j l)(N:La)(c:Aa B w I N):Ce B I N 252 [ptr j 0,S name,S b] w (.bool (o3 l name b)):=by
 obtain⟨mb,r,q,n,e⟩:=p;obtain⟨t,i,k,m,h,o,f,d⟩:=Xx1 (mb:=mb) e a name b;refine gH 6 ?_;refine .val (v:=.tuple #[.agg #[S t,S i,.slice k (Cw l name).length m],.bool (r.lookup name).isSome]) (by rw[<-h];exact .VP (key:=name) CJ (n.now c) (.of O) (.of O) My A8 I8) O ?_;refine gH 9 ?_;intro x w c;refine gE 0 (Tx i b f g) ?_;intro w c;exact gG 4 ⟨Yc Value.bool d,c.s⟩
theorem Xjc(Q:Nat)(l:List Us)(e:∀u∈l,u.fits)(name:Lu)(Y:(Cw l name).length<=8)(P:Oa)(rc:Nat)(rel:List Lu)(ah:rel.length<=1000000)(hT:EL I Q l)(o:RS I P 1 rel.length (rel.map S))(N:La)(b:Aa B w I N):Cz 218 [ptr Q 0,S name,.slice P rel.length rc] w λv w'=>∃J ka h,v=.slice ka (R4 l name rel).length h/\Le I J/\(R4 l name rel).length<=h/\RS J ka 2 (R4 l name rel).length (X2 X5 (R4 l name rel))/\Aa B w' J N:=by
 obtain⟨mb,kv,s,hM,A⟩:=hT;obtain⟨n9,p9,R,V,d,n,ag,af⟩:=Xx1 (mb:=mb) A e name [];refine gG 2 ?_;replace b:=b.Ai 124 2;refine gG 3 (.lk [0,1,12,13] (σ:=Nat×Va) (λ(i,v) _m=>(7,v)::(14,Ab (i:Nat))::_m) (λ(i,v) w=>i<=rel.length/\Aa B w I (An 124 2 v ((rel.take i).flatMap (λx=>(Cw l name).filter λa=>a.1==x)).length (X2 X5 ((rel.take i).flatMap (λx=>(Cw l name).filter λa=>a.1==x)))::N)) (λ(i,v)=>rel.length-i) (0,.slice none 0 0) ⟨Y4 _,b⟩ ?_);rintro⟨i,v⟩ w ⟨hi,b⟩;refine gN 1 ?_ ?_<;>intro H
 ·obtain⟨x,hx⟩:∃x,rel[i]?=some x:=⟨_,Y2 om⟩
  obtain⟨p,F,hA⟩:=o.2 om;subst F;have C:(rel.map S)[i]?=some (S x):=by rw[Yr,hx];rfl
  have D:=vI (rel:=rel.take i) Y;rw[Yl]at D;refine gH 1 ?_;refine .val (.ld1 (.of O) (by have Z:=Xv b hA C;simpa using Z) Bg) O ?_;refine gH 4 (.val (.BS (.of O) b s mN O) O (gH 1 ?_));refine .val (v:=.agg #[S n9,S p9,.slice R (Cw l name).length V]) (by have d:=d;rw[<-d];exact .N0 (key:=name) CJ (hM.now b) (.of O) (.of O) My A8 I8) O ?_;refine .val (.km (off:=2) (.of O) fF O O SZ O) O (gG 2 (.lk [0,1,9,12,13,14,24,25] (σ:=Nat×Va) (λ(j,v) _m=>(7,v)::(26,Ab (j:Nat))::_m) (λ(j,v) w=>j<=(Cw l name).length/\Aa B w I (An 124 2 v ((rel.take i).flatMap (λx=>(Cw l name).filter λa=>a.1==x)++((Cw l name).take j).filter (λa=>a.1==x)).length (X2 X5 ((rel.take i).flatMap (λx=>(Cw l name).filter λa=>a.1==x)++((Cw l name).take j).filter (λa=>a.1==x)))::N)) (λ(j,v)=>(Cw l name).length-j) (0,v) ⟨Y4 _,su b⟩ ?_));rintro⟨j,v⟩ w ⟨hj,b⟩;refine gN 1 ?_ ?_<;>intro K
  ·obtain⟨y,M⟩:∃y,(Cw l name)[j]?=some y:=⟨_,Y2 om⟩
   obtain⟨q,E,G⟩:=R3 (cells:=X5) (λ_=>rfl) b n j y M;have t:=EP (λa:Pr=>a.1==x) ((Cw l name).take j);rw[Yl]at t;have f:((Cw l name).take (j+1)).filter (λa=>a.1==x)=((Cw l name).take j).filter (λa=>a.1==x)++[y].filter (λa=>a.1==x):=by rw[Yv,M,DE,T5]
   have ad:((rel.take i).flatMap (λx=>(Cw l name).filter λa=>a.1==x)++((Cw l name).take j).filter (λa=>a.1==x)).length=((rel.take i).flatMap (λx=>(Cw l name).filter λa=>a.1==x)).length+(((Cw l name).take j).filter (λa=>a.1==x)).length:=Y0;rw[E];refine gH 1 (.val (.IA (.of O) G Zk Ij O) O (gG 6 ?_));intro T w b;refine gM 0 ?_ ?_<;>intro c L
   ·refine gG 7 ?_;intro U k m g w b;refine rd (j+1,.slice k (((rel.take i).flatMap (λx=>(Cw l name).filter λa=>a.1==x)++((Cw l name).take j).filter (λa=>a.1==x)).length+1) m) ⟨om,?_⟩;rw[f,Jq,Y9 (su c),gk,<-Yg,KP,show((rel.take i).flatMap (λx=>(Cw l name).filter λa=>a.1==x)++((Cw l name).take j).filter (λa=>a.1==x)++[y]).length=((rel.take i).flatMap (λx=>(Cw l name).filter λa=>a.1==x)++((Cw l name).take j).filter (λa=>a.1==x)).length+1 from Y0];exact b.y 0 1
   refine gG 2 (rd (j+1,v) ⟨om,?_⟩);rw[f,Jq,Y3 (su c),gk,Yy];exact b.y 0 1
  refine gG 2 (rd (i+1,v) ⟨om,?_⟩);have X:j=(Cw l name).length:=om
  subst X;rw[Fy]at b;rw[Yv,hx,DE,M6,aW,List.flatMap_nil,Yy];exact b
 refine gG 2 ?_;have W:i=rel.length:=om
 subst W;rw[Fy]at b;obtain⟨ka,h,rfl,z,_⟩:=b.vS 0;obtain⟨J,hJ,r,b⟩:=b.fV 0;exact⟨J,ka,h,O,hJ,z,r,b⟩
open DN
def D2(I:Im)(l:List UInt8)(po:Option Addr)(e a:Int):Prop:=match cmp l with
 | .error (c,b)=>po=none/\e=c/\a=b
 | .ok Q=>∃p,po=some p/\e=0/\a=0/\D3 I p Q l.length
theorem D2.mono{l:Lu}{po:Oa}{e a:Int}(h:D2 I l po e a)(i:Le I J):D2 J l po e a:=by
 unfold D2 at h ⊢;cases b:cmp l with
 | error x=>rw[b]at h;exact h
 | ok Q=>rw[b]at h;obtain⟨p,c,d,f,g⟩:=h;exact⟨p,c,d,f,g.mono i⟩
theorem Xmq(l:Lu)(N:La)(i:Aa B w I N)(j:l.length<=9223372036854775807):Cz 373 [S l] w λv w'=>∃po e a J,v=.tuple #[.pointer po,Ab e,Ab a]/\Le I J/\D2 J l po e a/\Aa B w' J N:=by
 refine(Xr1 l N i j).mono λx w' ⟨v,hx,h⟩=>⟨v,hx,?_⟩
 rcases h with⟨e,a,J,b,c,d,f⟩|⟨Q,p,J,b,c,d,f,g⟩
 ·exact⟨none,e,a,J,c,d,by rw[D2,b];exact⟨O,O,O⟩,f⟩
 ·exact⟨some p,0,0,J,c,d,by rw[D2,b];exact⟨p,O,O,O,f⟩,g⟩
theorem Qe{l:Lu}{Q:List Pl}(h:cmp l=.ok Q):WF Q/\0<Q.length/\Q.length<=201/\l.length<=200:=by
 obtain⟨e,p,a,f,g,rfl⟩:=kd h;obtain⟨d,c⟩:=Xt4 a.ok;have b:=Xd3 p;have i:=a.len;exact⟨d,c.1,by unfold Z3 at b;omega,e⟩
theorem Xn0{l:Lu}{Q:List Pl}(d:cmp l=.ok Q)(p:Addr)(s:Lu)(e:s.length<=1000000)(N:La)(a:Aa B w I N)(c:D3 I p Q l.length):Ce B I N 320 [.pointer (some p),S s] w (.bool (uK Q s)):=by
 have b:=Qe d;refine gC 3 (eu Q p _ s b.1 b.2.1 om om e N a c) ?_;rintro _ w ⟨rfl,a⟩;exact gG 7 ⟨O,a⟩
theorem Qz{s:Sv}{Q:List Pl}(g:cmp s.urls=.ok Q)(a:Oa)(c:Nat)(p q:Addr)(n:Lu)(e:n.length<=1000000)(b:Nat)(f:D3 I p Q s.urls.length)(N:La)(d:Aa B w I (Ac b [S n] 9::N)):Ce B I (Ac b [S n] 9::N) 319 [.agg #[Ab s.id,AM s.ord,S s.urls,.bool s.BT,.bool s.B7,.bool s.back,S s.calls,.slice a s.rel.length c,.pointer (some p),.pointer (some q)],ptr b 0] w (.bool (uK Q n)):=by
 refine gH 5 ?_;intro h w d;refine gC 0 (Xn0 g p n e _ d f) ?_;rintro _ w ⟨rfl,d⟩;exact gG 1 ⟨O,d.s⟩
theorem P6(s:Sv)(a:Oa)(c:Nat)(p q:Addr)(d:Int)(b:Nat)(N:La)(e:Aa B w I (Ac b [Ab d] 3::N)):Ce B I (Ac b [Ab d] 3::N) 421 [.agg #[Ab s.id,AM s.ord,S s.urls,.bool s.BT,.bool s.B7,.bool s.back,S s.calls,.slice a s.rel.length c,.pointer (some p),.pointer (some q)],ptr b 0] w (.bool (s.id==d)):=by
 refine gG 8 ?_;intro f w e;exact⟨O,e.s⟩
theorem QY(s t:Sv)(a e:Oa)(c f:Nat)(p q:Addr)(b:Nat)(N:La)(d:Aa B w I (Ac b [Ab t.id,AM t.ord,S t.urls,.bool t.BT,.bool t.B7,.bool t.back,S t.calls,.slice e t.rel.length f] 133::N)):Ce B I (Ac b [Ab t.id,AM t.ord,S t.urls,.bool t.BT,.bool t.B7,.bool t.back,S t.calls,.slice e t.rel.length f] 133::N) 372 [.agg #[Ab s.id,AM s.ord,S s.urls,.bool s.BT,.bool s.B7,.bool s.back,S s.calls,.slice a s.rel.length c,.pointer (some p),.pointer (some q)],ptr b 0] w (.bool (s.id==t.id)):=by
 refine gG 9 ?_;intro g w d;exact⟨O,d.s⟩
def HP(lo:List Sv)(s:Sv):Nat :=
 if 16<=lo.length then 5 else if(decide (s.id<0)||decide (8<(s.rel.length:Int)))=true then 1 else if lo.any (λt=>t.id==s.id)=true then 7
 else if(((ZC s.urls).1 !=0)||((ZC s.calls).1 !=0))=true then 8 else 0
theorem Xie(a:Sv->Bool):∀(l:List Sv) (i:Nat),decide (0<=Ii a l i)=l.any a
 | [],_=>rfl
 | s::r,i=>by
  rw[Ii,yB];cases a s with
  | true=>simp
  | false=>simpa using Xie a r (i+1)
theorem l6{l:Lu}{po:Oa}{e a:Int}(h:D2 I l po e a):(e !=0)=((ZC l).1 !=0)/\((ZC l).1=0->∃p Q,po=some p/\cmp l=.ok Q/\D3 I p Q l.length):=by
 have key:∀c,cmp l=.error c->(ZC l).1=c.1/\c.1≠0:=λc b=>by
  unfold cmp at b;unfold ZC;split at b
  ·rename_i d;rw[Y9 d];cases b;exact⟨O,de⟩
  ·rename_i d
   rw[Y3 d]
   have:=(TB l.length l 0 [] [] [] (Ya _) O).1 c b
   rw[this.1];exact⟨O,this.2⟩
 have f:∀Q,cmp l=.ok Q->(ZC l).1=0:=λQ b=>by
  unfold cmp at b;unfold ZC;split at b
  ·cases b
  ·rename_i d
   rw[Y3 d,(TB l.length l 0 [] [] [] (Ya _) O).2 Q b]
 unfold D2 at h;cases b:cmp l with
 | ok Q =>
  rw[b]at h;obtain⟨p,rfl,rfl,rfl,k⟩:=h;rw[f Q b];exact⟨O,λ_=>⟨p,Q,O,O,k⟩⟩
 | error x =>
  obtain⟨c,m⟩:=x;rw[b]at h;obtain⟨rfl,rfl,rfl⟩:=h;obtain⟨g,i⟩:=key _ b;rw[g];exact⟨O,λj=>Yz j i⟩
theorem VW(s:Sv)(u:Oa)(x:Nat)(ad:s.rel.length<=x)(F:s.rel.length<=1000000)(hu:s.urls.length<=9223372036854775807)(z:s.calls.length<=9223372036854775807)(a:Oa)(cap:Nat)(lo:List Sv)(A:lo.length<=100000)(hr:RS I u 1 s.rel.length (s.rel.map S))(N:La)(Z:∀w,Aa B w I N->iY w I a lo)(b:Aa B w I N):Cz 278 [.agg #[Ab s.id,AM s.ord,S s.urls,.bool s.BT,.bool s.B7,.bool s.back,S s.calls,.slice u s.rel.length x],.slice a lo.length cap] w λv w'=>∃J cs f,Le I J/\v=.tuple #[.agg (List.toArray cs),Ab ((f:Nat):Int)]/\f=HP lo s/\cs.length=10/\cs.all Value.oneCell'=true/\(f=0->BM J s cs)/\Aa B w' J N:=by
 refine gG 7 ?_;intro y Y w b;refine gM 0 ?_ ?_<;>intro d H
 ·refine gH 3 ?_;intro w b;refine gG 0 (⟨I,_,5,Le.refl _,O,?_,O,O,λh=>(by cases h),b.s⟩);unfold HP;rw[Y9 (by simp only[dq1]at d;omega)]
 refine gM 10 ?_ ?_<;>intro e K
 ·refine gH 3 ?_;intro w b;refine gG 0 (⟨I,_,1,Le.refl _,O,?_,O,O,λh=>(by cases h),b.s⟩);unfold HP;rw[Y3 (by simp only[dq2]at d;omega),Y9 e]
 refine gG 0 ?_;replace b:=b.px [1];refine gP 2 [] (Xdf a cap lo A (λt=>t.id==s.id) 372 _ func372 O [ptr y 0] (Ac y [Ab s.id,AM s.ord,S s.urls,.bool s.BT,.bool s.B7,.bool s.back,S s.calls,.slice u s.rel.length x] 133::Ac Y [Ab 0,AM 0,S [],.bool false,.bool false,.bool false,S [],.slice none 0 0,.pointer none,.pointer none] 378::N) (λw h=>Z w ((h.drop (k:=0) O).drop (k:=0) O)) (λt c ht w h=>by
 obtain⟨ta,tc,tp,tq,_,_,rfl,_⟩:=ht;exact QY t s ta u tc x tp tq y _ h)) ?_
 rintro _ w ⟨rfl,b⟩;rw[Xie];refine gM 1 ?_ ?_<;>intro g L
 ·refine gH 3 ?_;intro w b;refine gG 0 (⟨I,_,7,Le.refl _,O,?_,O,O,λh=>(by cases h),b.s⟩);unfold HP;rw[Y3 (by simp only[dq2]at d;omega),Y3 (nB e),Y9 g]
 refine gC 2 (Xmq _ _ b hu) ?_;rintro _ w ⟨po,e1,a1,J1,rfl,l,n,b⟩;refine gC 9 (Xmq _ _ b z) ?_;rintro _ w ⟨qo,e2,a2,W,rfl,i,o,b⟩;refine gM 13 ?_ ?_<;>intro j M
 ·refine gH 3 ?_;intro w b;refine gG 0 (⟨W,_,8,Le.trans l i,O,?_,O,O,λh=>(by cases h),b.s⟩);have r:=j;rw[(l6 n).1,(l6 o).1]at r;unfold HP;rw[Y3 (by simp only[dq2]at d;omega),Y3 (nB e),Y3 (nB g),Y9 r]
 refine gF 2 (Xmp u x _ F ((hr.mono l).mono i)) ?_;rintro _ w ⟨X,U,V,rfl,m,E,G,b⟩;refine gH 8 ?_;intro w b;refine gG 0 ?_;have r:=j;rw[(l6 n).1,(l6 o).1]at r;obtain⟨P,R⟩:=EB.1 r;simp only[bne_eq_false_iff_eq]at P R
 obtain⟨p,Q,rfl,hq,hp⟩:=(l6 n).2 P;obtain⟨q,T,rfl,D,C⟩:=(l6 o).2 R;refine⟨X,Ps s U V p q,0,Le.trans l (Le.trans i m),O,?_,O,O,λ_=>⟨U,V,p,q,Q,T,O,E,G,hq,hp.mono (Le.trans i m),D,C.mono m⟩,b.s⟩;unfold HP;rw[Y3 (by simp only[dq2]at d;omega),Y3 (nB e),Y3 (nB g),Y3 (nB r)]
def G3(I:Im)(b:Addr)(lo:List Sv):Prop:=∃a c E,At I b [.slice a lo.length c]/\lo.length<=c/\Dd I a E lo
theorem Dd.mono{E:List Lv}{l:List Sv}(h:Dd I a E l)(b:Le I J):Dd J a E l:=⟨h.1,λi s r=>by
 obtain⟨p,c,e,f,g,v,w,t,u,Q,T,d,j,k,m,n,o,q⟩:=h.2 i s r;exact⟨p,c,e,f,g.mono b,v,w,t,u,Q,T,d,j,k.mono b,m,n.mono b,o,q.mono b⟩⟩
def KM(J:Im)(C:List Lv)(l:List Sv):Prop:=C.length=l.length/\∀(i:Nat) (s:Sv),l[i]?=some s->∃c,C[i]?=some c/\E4 J s c
theorem KM.mono{K:Im}{C:List Lv}{l:List Sv}(h:KM J C l)(d:Le J K):KM K C l:=⟨h.1,λi s e=>by
 obtain⟨c,a,b⟩:=h.2 i s e;exact⟨c,a,b.mono d⟩⟩
theorem Xsf:prog.info? 378=some t378:=by kernel_rfl
theorem jV{l:List Sv}(h:∀(j:Nat) t,j<i->l[j]?=some t->bad l j t=0)(hi:i<=l.length):i<=16:=by
 rcases Yt 16 i with a|a
 ·have:=h 16 _ a (Y2 om)
  unfold bad at this;rw[Y9 O]at this;cases this
 ·exact a
theorem Xui{l:List Sv}{s:Sv}(hi:i<=16)(a:i<=l.length):HP (l.take i) s=bad l i s:=by
 unfold HP bad;rw[Yl,M8 a]
 by_cases h:i=16
 ·rw[Y9 om,Y9 h]
 ·rw[Y3 om,Y3 h]
theorem kO(s:Sv)(g:Oa)(h:Nat)(f:s.rel.length<=h)(e:s.rel.length<=1000000)(m:s.urls.length<=9223372036854775807)(c:s.calls.length<=9223372036854775807)(a:Oa)(cap:Nat)(lo:List Sv)(n:Nat)(k:lo.length=n)(d:n<=100000)(l:RS I g 1 s.rel.length (s.rel.map S))(N:La)(i:∀w,Aa B w I N->iY w I a lo)(j:Aa B w I N):Cz 278 [.agg #[Ab s.id,AM s.ord,S s.urls,.bool s.BT,.bool s.B7,.bool s.back,S s.calls,.slice g s.rel.length h],.slice a n cap] w λv w'=>∃J cs b,Le I J/\v=.tuple #[.agg (List.toArray cs),Ab ((b:Nat):Int)]/\b=HP lo s/\cs.length=10/\cs.all Value.oneCell'=true/\(b=0->BM J s cs)/\Aa B w' J N:=by
 subst k;exact VW s g h f e m c a cap lo d l N i j
theorem kj{T:Nat}{E:List Lv}{l:List Sv}(e:Aa B w I N)(g:l.length=n)(f:N[k]?=some (An T 10 (.slice a n cap) n E.flatten))(b:∀c∈E,c.length=10)
  (d:∀(i:Nat) (s:Sv),l[i]?=some s->∃c,E[i]?=some c/\BM I s c):iY w I a l:=by
 subst g;exact U5 e f b d
theorem BM.mono{s:Sv}{l:Lv}(h:BM I s l)(a:Le I J):BM J s l:=by
 obtain⟨m,n,j,k,Q,T,b,c,d,e,f,g,i⟩:=h;exact⟨m,n,j,k,Q,T,b,c,d.mono a,e,f.mono a,g,i.mono a⟩
theorem BM.len{s:Sv}{l:Lv}(h:BM I s l):l.length=10:=by
 obtain⟨c,d,a,b,Q,T,rfl,_⟩:=h;rfl
def KV(l:List Sv)(D:List Int):List Sv:=D.map λd=>l.getD d.toNat z0
theorem ZO(a:Oa)(cap:Nat)(l:List Sv)(S:l.length<=20)(b4:∀v∈C4 l,v<18446744073709551616)(a7:∀s∈l,s.urls.length<=9223372036854775807/\s.calls.length<=9223372036854775807/\s.rel.length<=1000000)(hl:B2 I a l)(N:La)(b:Aa B w I N):Cz 184 [.slice a l.length cap] w λv w'=>∃J,Le I J/\Aa B w' J N/\(((Hg l).1≠0/\v=.tuple #[.pointer none,Ab ((Hg l).1:Nat),Ab ((Hg l).2:Nat)])\/((Hg l).1=0/\∃pr D,v=.tuple #[.pointer (some pr),Ab 0,Ab 0]/\Bc.Ord (kx (C4 l)) l.length D/\G3 J pr (KV l D))):=by
 refine gG 8 ?_;replace b:=b.Ai 27 1;replace b:=b.Ai 378 10;refine .lk [14,15] (σ:=Nat×Im×Va×Va×List Lv) (λ(i,J,ev,ov,E) _m=>(5,ev)::(6,ov)::(16,Ab (i:Nat))::_m) (λ(i,J,ev,ov,E) w=>i<=l.length/\Le I J/\E.length=i/\(∀c∈E,c.length=10)/\(∀(j:Nat) (s:Sv),(l.take i)[j]?=some s->∃c,E[j]?=some c/\BM J s c)/\(∀(j:Nat) (t:Sv),j<i->l[j]?=some t->bad l j t=0)/\Aa B w J (An 378 10 ev i E.flatten::An 27 1 ov i (((C4 l).take i).map AM)::N)) (λ(i,J,ev,ov,E)=>l.length-i) (0,I,.slice none 0 0,.slice none 0 0,[]) ⟨Y4 _,Le.refl _,O,λ_ h=>(by simp at h),λ_ _ h=>(by simp at h),λ_ _ h=>Yz h om,b⟩ ?_;rintro⟨i,J,ev,ov,E⟩ w ⟨hi,hJ,M,L,n,U,b⟩;refine gN 1 ?_ ?_<;>intro cg
 ·refine gG 0 ?_;obtain⟨s,hs⟩:∃s,l[i]?=some s:=⟨_,Y2 om⟩
  obtain⟨p,ra,rc,rfl,hx,b6,hr⟩:=(hl.mono hJ) i s hs;have ag:=jV U hi;have an:=a7 s (Y7 hs);have S:(l.take i).length=i:=by rw[Yl];omega
  have am:((C4 l).take (i+1)).map AM=((C4 l).take i).map AM++[AM s.ord]:=by
   rw[Yv,C4,Yr,hs,Yn];rfl
  have ao:l.take (i+1)=l.take i++[s]:=by rw[Yv,hs];rfl
  obtain⟨ea,ec,rfl,bx,_⟩:=b.vS 0;obtain⟨oa,oc,rfl,b3,_⟩:=b.vS 1;refine gH 8 ?_;intro b8 w b;refine gP 0 [] (kO s ra rc b6 an.2.2 an.1 an.2.1 ea ec _ i S om hr _ (λw h=>kj h S (k:=1) O L n)) ?_;rintro _ w ⟨J2,cs,ax,g,rfl,C,al,a4,m,b⟩;refine gH 4 ?_;intro b9 w b;refine .so b (k:=0) O O O a4 jc al sz ?_;intro w b;try dsimp only[List.set]at b
  try simp only[Gl,Db,Yy,Ks,FY,List.drop_nil,Yk]at b
  refine gN 3 ?_ ?_<;>intro ch
  ·refine gG 5 ?_;have a5:=Xui (l:=l) (i:=i) (s:=s) ag om;have a6:bad l i s≠0:=by rw[<-a5,<-C];omega
   have hw:=RY U hs a6;refine⟨J2,Le.trans hJ g,b.s,.inl ⟨by rw[hw];exact a6,?_⟩⟩;rw[hw,C,a5]
   done
  refine gG 0 ?_;have K:ax=0:=om
  obtain⟨sa,sc,pp,qq,Q,T,rfl,b7,m⟩:=m K;have F:BM J2 s (Ps s sa sc pp qq):=⟨sa,sc,pp,qq,Q,T,O,b7,m⟩
  have A:bad l i s=0:=by rw[<-Xui (l:=l) (i:=i) ag om,<-C,K]
  refine gD [0,0] [] [0,1,4,5,6] ?_;intro w b;refine gH 5 (gB 2 7 [] [2,3,8,9,10] ?_ ?_)
  ·refine gH 1 ?_;intro bl w b;refine gH 0 (gB 3 7 [7,8,9,10] [3,8,9,10] ?_ ?_)
   ·refine gH 1 ?_;intro W Z G w b;refine gH 1 ?_;intro aw w b;refine gH 1 ?_;intro X aa H w b;refine gG 4 ?_;have o:=((b.drop (k:=0) O).drop (k:=0) O)
    refine rd (i+1,J2,.slice W (i+1) Z,.slice X (i+1) aa,E++[Ps s sa sc pp qq]) ⟨om,Le.trans hJ g,by rw[Y0,M];rfl,λc V=>?_,λj u f=>?_,λj u hj f=>?_,?_⟩
    ·rcases Ys.1 V with h|h
     ·exact L c h
     ·simp at h;subst h;rfl
    ·(try dsimp only at f)
     rw[ao]at f;rcases Yt j i with y|y
     ·rw[Ye om]at f;obtain⟨c,e1,e2⟩:=n j u f;exact⟨c,by rw[Ye om];exact e1,e2.mono g⟩
     ·rw[Yw om,S]at f;have r:j-i=0:=by have:=(Y1.1 f).1;simp at this;omega
      rw[r]at f;cases f
      exact⟨_,by rw[Yw om,M,r];rfl,F⟩
    ·rcases Yt j i with y|y
     ·exact U j u y f
     ·have e:j=i:=by(try dsimp only at hj);omega
      subst e;rw[hs]at f;cases f;exact A
    ·(try dsimp only)
     rw[am,PN];simpa[Ps]using o
   ·refine gH 1 ?_;intro aw w b;refine gH 1 ?_;intro W Z G w b;refine gH 1 ?_;clear b;intro X aa H w b;refine gG 4 ?_;have o:=((b.drop (k:=0) O).drop (k:=0) O)
    refine rd (i+1,J2,.slice W (i+1) Z,.slice X (i+1) aa,E++[Ps s sa sc pp qq]) ⟨om,Le.trans hJ g,by rw[Y0,M];rfl,λc V=>?_,λj u f=>?_,λj u hj f=>?_,?_⟩
    ·rcases Ys.1 V with h|h
     ·exact L c h
     ·simp at h;subst h;rfl
    ·(try dsimp only at f)
     rw[ao]at f;rcases Yt j i with y|y
     ·rw[Ye om]at f;obtain⟨c,e1,e2⟩:=n j u f;exact⟨c,by rw[Ye om];exact e1,e2.mono g⟩
     ·rw[Yw om,S]at f;have r:j-i=0:=by have:=(Y1.1 f).1;simp at this;omega
      rw[r]at f;cases f
      exact⟨_,by rw[Yw om,M,r];rfl,F⟩
    ·rcases Yt j i with y|y
     ·exact U j u y f
     ·have e:j=i:=by(try dsimp only at hj);omega
      subst e;rw[hs]at f;cases f;exact A
    ·(try dsimp only)
     rw[am,PN];simpa[Ps]using o
  ·refine gH 1 ?_;clear b;intro aw w b;refine gH 1 ?_;clear b;intro bl w b;refine gH 1 ?_;clear b;intro W Z G w b;refine gH 1 ?_;clear b;intro X aa H w b;refine gG 4 ?_;have o:=((b.drop (k:=0) O).drop (k:=0) O)
   refine rd (i+1,J2,.slice W (i+1) Z,.slice X (i+1) aa,E++[Ps s sa sc pp qq]) ⟨om,Le.trans hJ g,by rw[Y0,M];rfl,λc V=>?_,λj u f=>?_,λj u hj f=>?_,?_⟩
   ·rcases Ys.1 V with h|h
    ·exact L c h
    ·simp at h;subst h;rfl
   ·(try dsimp only at f)
    rw[ao]at f;rcases Yt j i with y|y
    ·rw[Ye om]at f;obtain⟨c,e1,e2⟩:=n j u f;exact⟨c,by rw[Ye om];exact e1,e2.mono g⟩
    ·rw[Yw om,S]at f;have r:j-i=0:=by have:=(Y1.1 f).1;simp at this;omega
     rw[r]at f;cases f
     exact⟨_,by rw[Yw om,M,r];rfl,F⟩
   ·rcases Yt j i with y|y
    ·exact U j u y f
    ·have e:j=i:=by(try dsimp only at hj);omega
     subst e;rw[hs]at f;cases f;exact A
   ·(try dsimp only)
    rw[am,PN];simpa[Ps]using o
 have bz:i=l.length:=om
 subst bz;have ba:(C4 l).length=l.length:=Yj ..;rw[Yo (Ya _)]at n;rw[Yo om]at b;obtain⟨oa,oc,rfl,b3,_⟩:=b.vS 1;obtain⟨ea,ec,rfl,bx,_⟩:=b.vS 0;obtain⟨J1,a2,ae,P⟩:=b.fV 1;try dsimp only[List.eraseIdx]at P
 obtain⟨J2,g,bo,z⟩:=P.fV 0;clear b P;have b:=z;clear z;try dsimp only[List.eraseIdx]at b
 replace hJ:=Le.trans hJ (Le.trans a2 g);replace ae:=ae.mono g;replace n:=λj s h=>let⟨c,y,h2⟩:=n j s h;(⟨c,y,BM.mono h2 (Le.trans a2 g)⟩:∃c,E[j]?=some c/\BM J2 s c)
 refine gG 3 ?_;clear b;intro Y w b;rw[<-ba]at ae ⊢;refine gF 1 (O3 _ b4 om oa oc ae) ?_;clear b;rintro _ w ⟨D,va,vc,rfl,hD,b⟩;obtain⟨J3,aj,a1,z⟩:=b.fV 0;clear b;have b:=z;clear z;try dsimp only[List.eraseIdx]at b
 replace hJ:=Le.trans hJ aj;rw[ba]at hD a1 ⊢;have bn:=hD.len;refine gG 2 ?_;replace b:=(b.Ai 378 10).pick 1 O;try dsimp only[List.eraseIdx]at b
 refine .lk [5,11,44,45] (σ:=Va×Nat) (λ(kv,j) _m=>(46,Ab (j:Nat))::_m) (λ(kv,j) w=>j<=l.length/\Aa B w J3 (Ac Y [kv] 382::An 378 10 kv j (aM E (D.take j)).flatten::N)) (λ(kv,j)=>l.length-j) (.slice none 0 0,0) ⟨Y4 _,b⟩ ?_;rintro⟨kv,j⟩ w ⟨hj,b⟩;refine gN 1 ?_ ?_<;>intro ci
 ·obtain⟨d,hd⟩:∃d,D[j]?=some d:=⟨_,Y2 om⟩
  have bt:d∈Bc.Bu l.length:=hD.2.mem_iff.1 (Y7 hd);have bv:=Bc.Bx.1 bt;obtain⟨s,hs⟩:∃s,l[d.toNat]?=some s:=⟨_,Y2 om⟩
  obtain⟨c,V,ra,rc,pp,qq,Q,T,rfl,m⟩:=n d.toNat s hs;obtain⟨pe,rfl,b5⟩:=(bo.mono aj).2 om;have hx:=mh (b5.add (d.toNat*10)) 10;rw[ZY E L d.toNat _ V]at hx;have a9:(aM E (D.take (j+1))).flatten=(aM E (D.take j)).flatten++Ps s ra rc pp qq:=by
   unfold aM;rw[Yv,hd,Yn,PN];simp[Yf,V]
  unfold Ps at hx a9;obtain⟨dp,rfl,bu⟩:=a1.2 om;obtain⟨ka,kc,rfl,a8,_⟩:=b.vS 1;have bw:((D.map Ab).drop ((j:Int).toNat*1))[0]?=some (Ab d):=by rw[Hk];(try rw[Yd]);rw[Dm,ER,Yr,hd];rfl
  refine gH 1 (.val (.BS (v:=Ab d) (.of O) b (bu.add _) BJ bw) O (gG 1 (.dw (λw=>∃R,Aa B w J3 (Ac Y [.slice ka j kc] 382::R)) (λj=>!([13].contains j)) ?_)));replace b:=b.drew;generalize w.drew=w at b ⊢;have hH:∃R,Aa B w J3 (Ac Y [.slice ka j kc] 382::R):=⟨_,(b.x [0])⟩
  refine .tp 0 O (λw=>(.mo O)) (.tp 1 O (λw=>(.mo O)) (.tp 2 O (λw=>(.no O)) ?_));refine .tp 3 O (λw=>(.fo 0 O I6 O O IU O)) (.tk 4 O hH (λw ⟨R,b⟩=>((.lo O b (k:=0) O isAgg374 O))) (.tp 5 O (λw=>(.mo O)) (.tp 6 O (λw=>(.mo O)) ?_)));refine .tp 7 O (λw=>(.ii O O om om I3 jc)) (.tk 8 O hH (λw ⟨R,b⟩=>((.B5 (.of O) b hx isAgg378 jc O (λ_ _ h=>h)))) (.b1 9 O (.buildSlice (cs:=[_,_,_,_,_,_,_,_,_,_]) b (IC O TC) I3 jc To O O O O ?_)));clear b;intro cp w b;refine .nil ?_;clear hH;have hH:∃R,Aa B w J3 (Ac Y [.slice ka j kc] 382::R):=⟨_,(b.x [1])⟩
  refine⟨λ_ _=>hH,?_⟩;refine .b1 10 O (.append (size:=10) (bytes:=96) b (.of O) (.of O) (k:=1) O I3 Xsf O O O O O O O ⟨om,by unfold maxLen;omega⟩ O ?_);clear b;intro cd w b;try dsimp only[List.set]at b
  obtain⟨bk,bm,rfl,bi,_⟩:=b.AG (k:=1) (v:=cd) O;refine .nil ?_;clear hH;have hH:∃R,Aa B w J3 (Ac Y [.slice ka j kc] 382::R):=⟨_,(b.x [0])⟩
  refine⟨λ_ _=>hH,?_⟩;refine .tp 11 O (λw=>(.no O)) (.tp 12 O (λw=>(.fo 0 O I6 O O IU O)) (.b1 13 O (.s1 b (k:=0) O O O O IU sz ?_)));clear b;intro w b;try dsimp only[List.set]at b
  refine .nil ?_;refine And.intro (by intro h;cases h) ?_;refine .dn (gG 2 (rd (.slice bk (j+1) bm,j+1) ⟨om,?_⟩))
  (try dsimp only)
  rw[a9];exact b
 refine gG 4 ?_;have b0:j=l.length:=om
 subst b0;rw[Yo om]at b;obtain⟨ka,kc,rfl,a8,_⟩:=b.vS 1;obtain⟨J4,a3,bp,P⟩:=b.fV 1;try dsimp only[List.eraseIdx]at P
 obtain⟨J5,ak,bq,z⟩:=P.fZ 0;have hw:Hg l=(0,0):=Mj (λq t ht=>U q t (oh ((Y1.1 ht).1)) ht);have bc:(KV l D).length=l.length:=by unfold KV;rw[Yj,bn]
 refine⟨J5,Le.trans hJ (Le.trans a3 ak),z,.inr ⟨by rw[hw],_,D,O,hD,ka,kc,aM E D,?_,by rw[bc];exact a8,by unfold aM KV;rw[Yj,Yj],λq s hq=>?_⟩⟩
 ·rw[bc];exact⟨O,_,_,_,bq,λq v hq=>by simpa using hq⟩
 ·unfold KV at hq;rw[Yr]at hq;cases ab:D[q]? with
  | none=>rw[ab]at hq;cases hq
  | some d =>
   rw[ab]at hq;have bv:=Bc.Bx.1 (hD.2.mem_iff.1 (Y7 ab));obtain⟨u,f⟩:∃u,l[d.toNat]?=some u:=⟨_,Y2 om⟩
   have ca:u=s:=by
    have h2:=hq;rw[gn,Yf,f]at h2;exact Option.some.inj h2
   subst ca;obtain⟨c,V,m⟩:=n d.toNat u f;have cr:=(Y1.1 ab).1;obtain⟨kp,rfl,b2⟩:=(bp.mono ak).2 om;have bb:(aM E D)[q]?=some c:=by unfold aM;rw[Yr,ab];simp[Yf,V]
   have a0:∀c∈aM E D,c.length=10:=λc V=>by
    obtain⟨d',bs,rfl⟩:=Dt.1 V;have cj:=Bc.Bx.1 (hD.2.mem_iff.1 bs);rw[Yf,Y2 om];exact L _ (jG _)
   have hx:=mh (b2.add (q*10)) 10;rw[ZY _ a0 q _ bb]at hx;exact⟨kp,c,O,bb,hx,m.mono (Le.trans aj (Le.trans a3 ak))⟩
theorem Xfd(b:Sv->Bool):∀(l:List Sv) (i:Nat),(Ii b l i=-1/\l.find? b=none)\/(∃j s,Ii b l i=((i+j:Nat):Int)/\l[j]?=some s/\b s=true/\l.find? b=some s)
 | [],_=>.inl ⟨O,O⟩
 | a::l,i=>by
  rw[Ii,yy];cases g:b a with
  | true=>exact .inr ⟨0,a,O,O,g,O⟩
  | false =>
   rw[Y3 de];rcases Xfd b l (i+1)with⟨c,d⟩|⟨j,s,c,d,e,f⟩
   ·exact .inl ⟨c,d⟩
   ·exact .inr ⟨j+1,s,by rw[c];congr 1;omega,d,e,f⟩
theorem vq(a:Sv->Bool)(l:List Sv):(Ii a l 0=-1/\l.find? a=none)\/(∃(j:Nat) (s:Sv),Ii a l 0=(j:Int)/\l[j]?=some s/\a s=true/\l.find? a=some s):=by
 rcases Xfd a l 0 with h|⟨j,s,b,c⟩
 ·exact .inl h
 ·exact .inr ⟨j,s,by rw[b,Yk],c⟩
theorem xi{l:Lu}{Q:List Pl}(h:cmp l=.ok Q)(s:Lu):(JP l s).1=uK Q s:=by unfold JP;rw[h]
def Xk(lo:List Sv)(s:List UInt8):Sv×List UInt8×Nat :=
 if(Ul.nU s).2≠0 then(z0,[],(Ul.nU s).2)else if 100<(Ul.nU s).1.length then(z0,[],2)
 else match lo.find? (λt=>(JP t.urls (Ul.nU s).1).1)with
  | none=>(z0,[],31)
  | some t=>(t,(Ul.nU s).1,0)
abbrev ia:Lu:=[104,116,116,112,115,58]
def aH(lo:List Sv)(a:Int)(s:List UInt8):List UInt8×Bool :=
 match lo.find? (λt=>t.id==a)with
 | none=>([],false)
 | some u=>if(((((Ul.nU s).2:Int)!=0||decide (100<((Ul.nU s).1.length:Int)))||!(Xl (Ul.nU s).1 ia))||!((JP u.calls (Ul.nU s).1).1))=true then([],false)else((Ul.nU s).1,true)
theorem Xri(pr:Addr)(lo:List Sv)(L:lo.length<=100000)(W:∀s∈lo,s.rel.length<=1000000)(s:Lu)(hs:s.length<=1000000)(a:Oa)(cc:Nat)(E:List Lv)(hK:AX I)(G:At I pr [.slice a lo.length cc])(hE:Dd I a E lo)(N:La)(b:Aa B w I N):Cz 217 [.pointer (some pr),S s] w λv w'=>∃J u c n e,Le I J/\v=.tuple #[.agg (List.toArray c),S n,Ab ((e:Nat):Int)]/\E4 J u c/\Xk lo s=(u,n,e)/\Aa B w' J N:=by
 refine gH 4 ?_;intro b4 w b;refine gE 0 (vz s hs hK) ?_;intro w b;refine gG 13 ?_;intro o w b;refine gM 0 ?_ ?_<;>intro g ae
 ·refine gT 3 (λA C=>?_);refine gH 5 ?_;intro w b;refine .nil (.ret ?_);refine λ_ d=>Om d b (k:=1) O mJ HF O O O O ?_
  exact⟨_,O,I,z0,_,[],2,Le.refl _,O,⟨none,0,O,Ya _,RS.nil _ _⟩,(by unfold Xk;rw[Y3 (by simp at g;omega),Y9 (by simp at g;omega)]),(b.y 0 2)⟩
 refine gM 2 ?_ ?_<;>intro A C
 ·refine gH 5 ?_;intro w b;refine .nil (.ret ?_);refine λ_ d=>Om d b (k:=1) O mJ HF O O O O ?_
  exact⟨_,O,I,z0,_,[],_,Le.refl _,O,⟨none,0,O,Ya _,RS.nil _ _⟩,(by unfold Xk;rw[Y9 om]),(b.y 0 2)⟩
 have hz:(Ul.nU s).2=0:=om
 have M:(Ul.nU s).1.length<=100:=by
  rw[hz]at g;simp at g
  omega
 refine gP 5 [] (u6 a cc lo L (λt=>(JP t.urls (Ul.nU s).1).1) 319 _ func319 O [ptr o 0] (Ac o [S (Ul.nU s).1] 9::Ac b4 [Ab 0,AM 0,S [],.bool false,.bool false,.bool false,S [],.slice none 0 0] 133::N) (λw h=>hE.now h) (λt c ht w h=>by
 obtain⟨ta,tc,tp,tq,Q,_,rfl,_,_,H,F,_⟩:=ht;refine(Qz H ta tc tp tq (Ul.nU s).1 om o F _ h).mono λe w' ⟨v,e1,e2,e3⟩=>⟨v,e1,?_,e3⟩
 rw[e2,xi H])) ?_
 rintro _ w ⟨rfl,b⟩;refine gN 3 ?_ ?_<;>intro m
 ·refine gH 4 ?_;intro w b;refine .nil (.ret ?_);refine λ_ d=>Om d b (k:=1) O mJ HF O O O O ?_
  exact⟨_,O,I,z0,_,[],31,Le.refl _,O,⟨none,0,O,Ya _,RS.nil _ _⟩,(by
   have P:lo.find? (λt=>(JP t.urls (Ul.nU s).1).1)=none:=by
    rcases vq (λt=>(JP t.urls (Ul.nU s).1).1) lo with⟨_,h⟩|⟨j,u,K,_⟩
    ·exact h
    ·exfalso;rw[K]at m;omega
   unfold Xk;rw[Y3 om,Y3 om,P]),(b.y 0 2)⟩
 refine gG 0 ?_;rcases vq (λt=>(JP t.urls (Ul.nU s).1).1) lo with⟨D,_⟩|⟨j,u,K,Z,ar,r⟩
 ·exfalso;rw[D]at m;omega
 rw[K];obtain⟨p,c,rfl,hc,aa,ra,rc,pp,qq,Q,T,rfl,au,X,H,ap,hT,aq⟩:=hE.2 j u Z;have an:=(Y1.1 Z).1;have Y:=W u (Y7 Z);have hx:=mh aa 8;simp only[Ps,Iw,Gl]at hx
 refine .dw (λw=>∃f R,Le I f/\Aa B w f (Ac o [S (Ul.nU s).1] 9::R)) (λj=>!([].contains j)) ?_;replace b:=b.drew;generalize w.drew=w at b ⊢;have i:∃f R,Le I f/\Aa B w f (Ac o [S (Ul.nU s).1] 9::R):=⟨_,_,Le.refl _,(b.x [0])⟩
 refine .tp 0 O (λw=>(.mo O)) (.tp 1 O (λw=>(.no O)) ?_);refine .tp 2 O (λw=>(.fi 0 O I6 O O IU O)) (.tk 3 O i (λw ⟨f,R,l,b⟩=>((.BS (.of O) b (At.add (G.mono l) _) isAgg374 O))) (.tp 4 O (λw=>(.mo O)) (.tp 5 O (λw=>(.ii O O om om I3 jc)) (.tp 6 O (λw=>(.fi 0 O I5 O O HF O)) (.tk 7 O i (λw ⟨f,R,l,b⟩=>((.B5 (.of O) b (hx.mono l) mJ HF O (λ_ _ h=>h)))) (.tk 9 O i (λw ⟨f,R,l,b⟩=>((.lo O b (k:=0) O Bg O))) (.b1 8 O (.call func321 O (A3 O X4) O (dS u ra rc Y X _ b) ?_))))))));rintro _ w ⟨J2,cs,q,rfl,z,b⟩;obtain⟨sa,sc,rfl,U,V⟩:=z;have z:E4 J2 u (fw u sa sc):=⟨sa,sc,O,U,V⟩
 refine .nil ?_;clear i;have i:∃f R,Le I f/\Aa B w f (Ac o [S (Ul.nU s).1] 9::R):=⟨_,_,q,(b.x [0])⟩
 refine⟨λ_ _=>i,?_⟩;refine .b1 10 O (.so b (k:=1) O O O O HF O sz ?_);intro w b;refine .nil ?_;clear i;have i:∃f R,Le I f/\Aa B w f (Ac o [S (Ul.nU s).1] 9::R):=⟨_,_,q,(b.x [0])⟩
 refine⟨λ_ _=>i,?_⟩;refine .tp 11 O (λw=>(.ao O)) (.tp 12 O (λw=>(.ao O)) (.dn ?_));refine .ret (λ_ d=>Om d b (k:=1) O mJ HF O O O O ?_);exact⟨_,O,J2,u,_,(Ul.nU s).1,0,q,O,z,(by unfold Xk;rw[Y3 om,Y3 om,r]),(b.y 0 2)⟩
theorem Xn9(G:Addr)(lo:List Sv)(r:lo.length<=100000)(U:∀s∈lo,s.rel.length<=1000000)(i:Int)(s:Lu)(W:s.length<=1000000)(a:Oa)(z:Nat)(E:List Lv)(H:AX I)(D:At I G [.slice a lo.length z])(A:Dd I a E lo)(N:La)(e:Aa B w I N):Ce B I N 349 [.pointer (some G),Ab i,S s] w (.tuple #[S (aH lo i s).1,.bool (aH lo i s).2]):=by
 refine gH 4 ?_;intro l w e;refine gE 0 (vz s W H) ?_;intro w e;refine gP 10 [] (u6 a z lo r (λt=>t.id==i) 421 _ func421 O [ptr l 0] (Ac l [Ab i] 3::N) (λw h=>A.now h) (λt c X w h=>by
 obtain⟨ta,tc,tp,tq,Q,_,rfl,_,_,J,C,_⟩:=X;exact P6 t ta tc tp tq i l _ h)) ?_
 rintro _ w ⟨rfl,e⟩;refine gG 1 ?_;have q:=vq (λt=>t.id==i) lo;rcases q with⟨n,k⟩|⟨j,u,K,F,P,g⟩
 ·have f:decide (Ii (λt=>t.id==i) lo 0<0)=true:=by rw[n];rfl
  refine gH 13 (.Au (T:=λw=>Aa B w I (Ac l [Ab i] 3::N)) O O O IH O (λb=>(X6 (.gd b O) (A3 O X4))) O (λb=>Pu (n_ (Ul.nU s).1 _ w (ot b) de) e) e ?_);clear e;rintro w e;refine gH 4 (.Aj (v:=.bool false) O O (λb=>Yz b (by simp[f])) O (.Aj (v:=.bool false) O O (λb=>Yz b (by simp[f])) O (.Aj (v:=.bool false) O O (λb=>Yz b (by simp[f])) O (.Aj (v:=.bool false) O O (λb=>Yz b (by simp[f])) O (.Aj (v:=.bool false) O O (λb=>Yz b (by simp[f])) O (.Aj (v:=.bool false) O O (λb=>Yz b (by simp[f])) O (.Aj (v:=.bool false) O O (λb=>Yz b (by simp[f])) O (.Aj (v:=.bool false) O O (λb=>Yz b (by simp[f])) O (.Aj (v:=.bool false) O O (λb=>Yz b (by simp[f])) O (.Aj (v:=.bool false) O O (λb=>Yz b (by simp[f])) O ?_))))))))));refine gM 1 ?_ ?_<;>intro d m
  ·refine gG 2 (⟨?_,e.s⟩);unfold aH;rw[k]
  refine gH 3 (.nil (.ret ?_));refine λ_ y=>qO y O O ?_
  exfalso
  rw[f]at d;simp at d
 ·rw[K];obtain⟨p,c,rfl,hc,Y,ra,rc,pp,Z,Q,T,rfl,R,V,J,M,o,x⟩:=A.2 j u F;have L:=(Y1.1 F).1;refine gH 13 (.Au (T:=λw=>Aa B w I (Ac l [Ab i] 3::N)) O O O IH O (λb=>(X6 (.gd b O) (A3 O X4))) O (λb=>Pu (n_ (Ul.nU s).1 _ w (ot b) de) e) e ?_);clear e;rintro w e;refine gH 12 (.Au (T:=λw=>Aa B w I (Ac l [Ab i] 3::N)) O O O func320 O (λb=>(X6 (.gd b O) (X6 (.gd b O) X4))) O (λb=>Xn0 o Z (Ul.nU s).1 (ot b) _ e x) e ?_);clear e;rintro w e;refine gM 2 ?_ ?_<;>intro d m
  ·refine gG 2 (⟨?_,e.s⟩);unfold aH;rw[g];simp only
   rw[show decide ((j:Int)<0)=false from decide_eq_false om,K9]at d;rw[Y9 (by rw[xi o];exact d)]
  refine gG 3 (⟨?_,e.s⟩);unfold aH;rw[g];simp only
  rw[show decide ((j:Int)<0)=false from decide_eq_false om,K9]at d;rw[Y3 (by rw[xi o,pJ];exact d)]
  done
theorem Ex.kH{t:TypeId}{g:Option (Nat×Bool)}{x y:Operand}{l:Lu}{c:Ui}(hx:Ev n L x (S l))(o:Ev n L y (Bo i))(e:l[i]?=some c)(m:P.underlying t=some .string):Ex P n L w ⟨d,.index t x y,ty,pos,af,g⟩ (U8 c.toNat) w :=
 λa b=>by
  have p:i<l.length:=(Y1.1 e).1;have f:=(Y1.1 e).2;have j:0<=(i:Int)/\(i:Int)<((ByteArray.size ⟨l.toArray⟩:Nat):Int):=⟨om,by show(i:Int)<(l.length:Int);omega⟩
  have h:=run_index_string (P:=P) w t ⟨l.toArray⟩ .u64 i m;rw[dif_pos j]at h;have k:(⟨l.toArray⟩:ByteArray)[((i:Nat):Int).toNat]'(by show((i:Nat):Int).toNat<l.length;omega)=c:=f;rw[k]at h;simp[execOp,hx a b,o a b,h]
theorem Ex.Dp{g:Option (Nat×Bool)}{x:Operand}{l:Lu}(hx:Ev n L x (.slice (some (ad b o)) m cap))(t:l.length=m)(e:Aa B w I N)(s:N[k]?=some (Ac b cs E))(u:P.underlying src=some (.slice E))(r:P.underlying E=some (.int .u8))(q:P.underlying dst=some .string)
  (p:∀j (c:j<l.length),cs[o+j]?=some (U8 (l[j].toNat:Int))):Ex P n L w ⟨d,.convert src dst x,ty,pos,af,g⟩ (S l) w:=λa f=>by
 subst t;have i:=e.block s;have h:=run_convert_bytes_back (P:=P) w src dst E (ad b o) cap l u r q (λj c=>by rw[CY];exact Xz i (p j c));simp[execOp,hx a f,h]
theorem eE(d i:Nat):((d:Nat):Int)/2^(4*(i:Int)).toNat=((d/16^i:Nat):Int):=by
 rw[show(4*(i:Int)).toNat=4*i by omega,show(16:Nat)^i=2^(4*i)by rw[Nat.pow_mul],Int.natCast_ediv,Int.natCast_pow];rfl
theorem Oe(k:Int):(Fe k).length<=6:=by
 unfold Fe;split
 ·simp
 ·rename_i h
  have:k=1\/k=2\/k=3\/k=4\/k=5\/k=6:=om
  rcases this with e|e|e|e|e|e<;>(subst e;decide)
def dg(n:Nat):Ui:=if n<10 then UInt8.ofNat (48+n)else UInt8.ofNat (87+n)
theorem kD(h:n<16):KB[n]?=some (dg n):=(by decide:∀n:Fin 16,KB[n.val]?=some (dg n.val)) ⟨n,h⟩
theorem Xny:∀(k n:Nat),KX (k+1) n=dg (n/16^k%16)::KX k n
 | 0,n=>by simp[KX,dg]
 | k+1,n=>by
  rw[KX,Xny k (n/16),Nat.div_div_eq_div_mul,<-Nat.pow_succ',Em,KX]
theorem Ow{α:Type}(z v:α)(X:List α):∀n:Nat,(List.replicate (n+1) z++X).set n v=List.replicate n z++v::X
 | 0=>rfl
 | n+1=>by
  rw[List.replicate_succ,Em,pI,Ow z v X n];rfl
def lay(i d:Nat):Lv:=List.replicate (16-i) (U8 0)++Ao (KX i d)
theorem cY{d:Nat}(h:i<=16):(lay i d).length=16:=by
 unfold lay;rw[Y0,fY,Yj,ss];omega
theorem cZ{d:Nat}(h:i<16):(lay i d).set (15-i) (U8 (dg (d/16^i%16)).toNat)=lay (i+1) d:=by
 unfold lay;rw[show 16-i=(15-i)+1 by omega,Ow,show 16-(i+1)=15-i by omega,Xny];rfl
theorem cX{d j:Nat}{D:Lu}(h:KX 16 d=D)(a:j<D.length):(lay 16 d)[0+j]?=some (U8 (D[j].toNat:Int)):=by
 have e:lay 16 d=Ao D:=by unfold lay;rw[h];rfl
 rw[e,Yk,Yr,Y2 a];rfl
theorem SR(c:Int)(d:Nat)(r:d<18446744073709551616)(q:Bf I)(N:La)(e:Aa B w I N):Ce B I N 419 [Ab c,Bo (d:Nat)] w (if Fe c=[]then .tuple #[S [],Ab 8]else .tuple #[S (Fe c++45::KX 16 d),Ab 0]):=by
 refine gE 3 (Xhy _ q) ?_;intro w e;refine gM 3 ?_ ?_<;>intro f o
 ·exact gG 2 ⟨by rw[Y9 (su f)],e⟩
 refine gG 0 ?_;refine .make (l:=16) e (.of O) (.of O) BV Xw O (by simp[t5]<;>omega) om O O O ?_;intro g w e;refine gG 1 (gG 3 (.lk [1,6,7,15] (σ:=Nat) (λi _m=>(16,Ab (i:Nat))::_m) (λi w=>i<=16/\Aa B w I (Ac g (lay i d) 5::N)) (λi=>16-i) 0 ⟨Y4 _,e⟩ ?_));rintro i w ⟨hi,e⟩;refine gN 1 ?_ ?_<;>intro p
 ·refine gH 8 (.val (.shr (.of O) (.of O) om (by show(4*(i:Int))<=64;omega)) O ?_);rw[eE d i];refine .val (.gr (a:=d/16^i) (b:=15) (yl (Nat.div_le_self _ _) r) om (.of O) (.of O)) O ?_;rw[show(d/16^i)&&& 15=d/16^i%16 from Nat.and_two_pow_sub_one_eq_mod _ 4];refine .val (Ex.kH (l:=KB) (.of O) (.of O) (kD (T_ _ de)) A8) O ?_;refine gH 1 (.s1 e (k:=0) O O O O DT (by rw[cY hi];omega) ?_);intro w e;rw[show 0+(15-(i:Int)).toNat*1=15-i by omega,cZ (show i<16 by omega)]at e;refine gG 2 (rd (i+1) ⟨om,e⟩)
 have h:i=16:=om
 subst h;have u:=Oe c;have n:=ss 16 d;generalize m:KX 16 d=D at *;refine gH 3 (.val (Ex.Dp (l:=D) (.of O) n e (k:=0) O BV BP A8 (λj t=>cX m t)) O ?_);exact gG 3 ⟨by rw[Y3 (su f),Yg];rfl,e.s⟩
end Go.Proofs.W9
namespace Gk
open Go
def Cp(E:TypeId)(v:Va)(xs:Lv):X1:=λh =>
 (v=.slice none 0 0/\xs=[]/\h=[])\/
  (∃g cs p,v=.slice (some p) 0 0/\xs=[]/\h=[(g,Xh cs E)])\/∃g cap a rest,v=.slice (some ⟨g,List.length a,none⟩) xs.length cap/\h=[(g,Xh (a++xs++rest) E)]/\xs.length<=cap/\cap<=maxLen/\xs.length+rest.length=cap
section
variable {P:Program} {B w w':Wo} {I:Im} {N:La} {k:Nat} {E:TypeId} {v:Va} {xs:Lv}
theorem Aa.eU(a:Aa B w I N)(E:Nat):Aa B w I (Cp E (.slice none 0 0) []::N):=by
 obtain⟨h,c,b⟩:=a;exact⟨h,⟨[],h,O,.inl ⟨O,O,O⟩,c⟩,b⟩
theorem Aa.Hv(d:Aa B w I N)(f:N[k]?=some (Cp E v xs)):∃a c,v=.slice a xs.length c/\xs.length<=c/\(xs≠[]->∃p,a=some p) :=
 d.CM f λ_ e=>by
  rcases e with⟨rfl,rfl,_⟩|⟨_,_,p,rfl,rfl,_⟩|⟨g,cap,i,rest,rfl,_,b,_⟩
  ·exact⟨none,0,O,Ya _,λh=>Yz O h⟩
  ·exact⟨some p,0,O,Ya _,λh=>Yz O h⟩
  ·exact⟨_,_,O,b,λ_=>⟨_,O⟩⟩
theorem Aa.YM{x:Va}(b:Aa B w I N)(e:N[k]?=some (Cp E v (x::xs))):∃g off c,v=.slice (some ⟨g,off,none⟩) (xs.length+1) c/\xs.length+1<=c :=
 b.CM e λ_ d=>by
  rcases d with⟨_,h,_⟩|⟨_,_,_,_,h,_⟩|⟨g,cap,f,rest,rfl,_,a,_⟩
  ·cases h
  ·cases h
  ·exact⟨_,_,_,O,a⟩
theorem Aa.lI(l:Aa B w I N)(s:N[k]?=some (Cp E (.slice (some p) m c) xs)){j:Nat}{u:Va}(e:xs[j]?=some u):w.cell? (p.add j)=some u:=by
 obtain⟨g,v,q⟩:=l;obtain⟨z,A,t,n,i,_⟩:=v.at_ s;rcases n with⟨f,_⟩|⟨_,_,_,_,h,_⟩|⟨b,cap,d,rest,f,rfl,C,D,F⟩
 ·cases f
 ·subst h;simp at e
 ·injection f with a x y
  injection a with a
  subst a;have o:w.heap[b]?=some (Xh (d++xs++rest) E):=(q.perm t).own b _ sz;rw[show(⟨b,d.length,none⟩:Addr).add j=ad b (d.length+j) from CY b d.length j];refine Xz o ?_;have r:=(Y1.1 e).1;rw[Yg,Yw om,aS,Ye r];exact e
theorem Aa.eT{g:Nat}{x:Va}(q:Aa B w I N)(s:N[k]?=some (Cp E (.slice (some ⟨g,off,none⟩) n c) (x::xs))):Aa B w I (N.set k (Cp E (sliced (some ⟨g,off,none⟩) 1 n c 1) xs)) :=
 q.say s λ_ r=>by
  rcases r with⟨i,_⟩|⟨_,_,_,_,h,_⟩|⟨b,cap,m,rest,i,rfl,o,t,p⟩
  ·cases i
  ·cases h
  ·injection i with a d j
   injection a with a
   injection a with a l
   subst a;subst j;subst l;simp only[Y5]at o p d
   by_cases f:c=1
   ·have e:xs=[]:=Yi om;subst e;refine .inr<|.inl ⟨g,_,⟨g,m.length,none⟩,?_,O,O⟩;unfold sliced;rw[Y9 f,d,f];rfl
   ·refine .inr<|.inr ⟨g,c-1,m++[x],rest,?_,by simp,om,om,om⟩;unfold sliced;rw[Y3 f,d,Y0];rfl
theorem Xdo(w:Wo)(t ty e:TypeId)(i:TypeInfo)(s:P.underlying t=some (.slice e))(hi:P.info? e=some i)
  (g off b f:Nat) (d:Array Va) (q:w.heap[g]?=some (.cells d e (0,0)))
  (a:Addr) (m c:Nat) (news:Lv) (r:news.length=m*i.size) (h:∀j u,news[j]?=some u->w.cell? (a.add j)=some u) (o:∀u∈news,u.oneCell'=true)
  (k:b+m<=f) (l:off+b*i.size+news.length<=d.size) :(Builtin.append_ #[t,t] ty #[.slice (some ⟨g,off,none⟩) b f,.slice (some a) m c]).run P w =
   .ok (.slice (some ⟨g,off,none⟩) (b+m) f) (w.setRow g (d.toList.take (off+b*i.size)++news++d.toList.drop (off+b*i.size+news.length)).toArray):=by
 have p:=run_firstCells_some (P:=P) w i.size m a m c news r h;have n:=run_storeCells_at P g (off+b*i.size) e news 0 d w q (su l) o;simp only[ER]at n
 simp[Builtin.append_,run_underlying s,Go.sizeOf,typeInfo,hi,Builtin.lenOf,k,p,Addr.add_lit,n]
theorem lJ(z:Array Va)(a:z.size=1)(n:Nat):(Builtin.zeroCells z n).toList.length=n:=by rw[Sj,size_zeroCells,a,Dm]
theorem Xgj(hS:Aa B w I N){t:TypeId}{i:TypeInfo}{z:Va}(X:P.underlying t=some (.slice E))(hi:P.info? E=some i)(hz:i.zero=some z)
  (a:i.size=1) (ac:i.bytes=bytes) (am:z.cells.size=1) (W:N[k]?=some (Cp E v xs))    (G:news.length=m) (hm:0<m)
  (l:∀j u,news[j]?=some u->w.cell? (p.add j)=some u) (h1:∀u∈news,u.oneCell'=true) (s:xs.length+m<=maxLen) (f:(xs.length+m)*bytes<=140737488355328) :∃v' w',(Builtin.append_ #[t,t] ty #[v,.slice (some p) m c]).run P w=.ok v' w'/\Aa B w' I (N.set k (Cp E v' (xs++news))):=by
 subst ac;have o:k<N.length:=(Y1.1 W).1;have r:xs.length+m<=9223372036854775807:=by simp only[maxLen]at s;omega
 have n:∀(xs:Lv) (e:Nat),xs.length+m<=maxLen->∀(Bh:La),Aa B w I Bh->k<Bh.length->Aa B (w.drew.alloc (.cells (xs.toArray++news.toArray++Builtin.zeroCells z.cells (grownCap w (xs.length+m) e E-(xs.length+m))) E)) I
   (Bh.set k (Cp E (.slice (some ⟨w.heap.size,0,none⟩) (xs.length+m) (grownCap w (xs.length+m) e E)) (xs++news))):=by
  intro xs e s Bh hS o;obtain⟨A0,W⟩:∃A0,Bh[k]?=some A0:=⟨_,Y2 o⟩
  have af:=grownCap_ge w (xs.length+m) e E;have ae:grownCap w (xs.length+m) e E<=maxLen:=grownCap_le_maxLen w (xs.length+m) e E s;have T:=hS.drew.alloc (.cells (xs.toArray++news.toArray++Builtin.zeroCells z.cells (grownCap w (xs.length+m) e E-(xs.length+m))) E);have e1:(own w.drew.heap.size (.cells (xs.toArray++news.toArray++Builtin.zeroCells z.cells (grownCap w (xs.length+m) e E-(xs.length+m))) E))=Ac w.heap.size ((xs++news)++(Builtin.zeroCells z.cells (grownCap w (xs.length+m) e E-(xs.length+m))).toList) E:=by
   unfold Ac Xh
   congr 2
   apply Array.ext'
   simp
  rw[e1]at T;have ab:=T.say (k:=0) (A':=Cp E (.slice (some ⟨w.heap.size,0,none⟩) (xs.length+m) (grownCap w (xs.length+m) e E)) (xs++news)) O (λ_ hh=>.inr<|.inr ⟨w.heap.size,_,[],_,by rw[Y0,G];rfl,by rw[Db];exact hh,by rw[Y0,G];exact af,ae,by
   rw[Y0,G,lJ _ am];omega⟩)
  obtain⟨h,S,R⟩:=ab;obtain⟨q1,q2,rfl,ai,aj⟩:=S;obtain⟨J,K,hp,_,F,_⟩:=Am.at_ W aj;obtain⟨Z,Q,M⟩:=F _ q1 ai;have g:=R.perm (hp.append_left q1)
  have:(q1++(J++K)).Perm ((q1++K)++J):=by
   rw[Yg];exact(T3).append_left q1
  exact⟨Z,Q,(g.perm this).left.perm M.symm⟩
 obtain⟨g,S,R⟩:=hS;obtain⟨J,K,hp,ha,F,_⟩:=S.at_ W;rcases ha with⟨rfl,rfl,_⟩|⟨_,_,q,rfl,rfl,_⟩|⟨b,cap,d,rest,rfl,rfl,h3,h4,h5⟩
 ·have H:=run_append_nil (P:=P) w t ty E i z X hi hz p m c news (by rw[a,G,Dm]) l hm (by simp only[Yh,Yk]at r;omega) (by have hb:=f;simp only[Yh,Yk]at hb;omega);have C:=n [] 0 (su s) N ⟨g,S,R⟩ o;simp only[Yh,Yk,Db,uj]at C ⊢
  exact⟨_,_,H,C⟩
 ·have H:=run_append_grow (P:=P) w t ty E i z X hi hz q 0 0 [] sz (λj u Y=>by simp at Y) p m c news (by rw[a,G,Dm]) l om (by simp only[Yh,Yk]at r;omega) (growslice_fits om (su f));have C:=n [] 0 (su s) N ⟨g,S,R⟩ o;simp only[Yh,Yk,Db,uj]at C H ⊢
  exact⟨_,_,H,C⟩
 ·obtain⟨Z,Q,M⟩:=F (Ac b (d++xs++rest) E) _ O;have U:Aa B w I (N.set k (Ac b (d++xs++rest) E)):=⟨Z,Q,R.perm (hp.trans M.symm)⟩
  have V:(N.set k (Ac b (d++xs++rest) E))[k]?=some (Ac b (d++xs++rest) E):=by simp[o]
  have y:=U.block V
  by_cases D:xs.length+m<=cap
  ·have H:=Xdo (P:=P) w t ty E i X hi b d.length xs.length cap (d++xs++rest).toArray y p m c news (by rw[a,G,Dm]) l h1 D (by
    simp only[nH,Y0,a];omega)
   have e2:((d++xs++rest).take (d.length+xs.length*i.size)++news++(d++xs++rest).drop (d.length+xs.length*i.size+news.length)).toArray=(d++(xs++news)++rest.drop news.length).toArray:=by
    rw[a,Dm,<-Y0,T8,yw,Yb (by omega:(d++xs).length<=(d++xs).length+news.length)]
    simp
   rw[e2]at H;refine⟨_,_,H,?_⟩;have hw:=U.write (w':=w.setRow b (d++(xs++news)++rest.drop news.length).toArray) (o':=Xh (d++(xs++news)++rest.drop news.length) E) V O O O (setRow_heap w b _ _ E _ y) (λx hx=>setRow_other w b x _ hx);have ak:=hw.say (k:=k) (A:=own b (Xh (d++(xs++news)++rest.drop news.length) E)) (A':=Cp E (.slice (some ⟨b,d.length,none⟩) (xs.length+m) cap) (xs++news)) (by simp[o]) (λ_ hh=>.inr<|.inr ⟨b,cap,d,rest.drop news.length,by rw[Y0,G],hh,by rw[Y0,G];exact D,h4,by
    rw[Y0,Y6];omega⟩)
   simpa using ak
  ·have L:∀j u,xs[j]?=some u->w.cell? ((⟨b,d.length,none⟩:Addr).add j)=some u:=λj u Y=>by
    rw[show(⟨b,d.length,none⟩:Addr).add j=ad b (d.length+j) from CY b d.length j];refine Xz y ?_;have hj:=(Y1.1 Y).1;rw[Yg,Yw om,aS,Ye hj];exact Y
   have H:=run_append_grow (P:=P) w t ty E i z X hi hz ⟨b,d.length,none⟩ xs.length cap xs (by rw[a,Dm]) L p m c news (by rw[a,G,Dm]) l om om (growslice_fits om f);exact⟨_,_,H,n xs cap s N ⟨g,S,R⟩ o⟩
theorem WL.bB{d:Nat}{t:TypeId}{x y:Operand}{i:TypeInfo}{z:Va}(o:Aa B w I N)(hx:Ev n L x v)(M:Ev n L y (.slice a m c))(g:RS I a 1 m news)
  (A:N[k]?=some (Cp E v xs)) (J:P.underlying t=some (.slice E)) (hi:P.info? E=some i) (U:i.zero=some z) (b:i.size=1) (r:i.bytes=bytes) (F:z.cells.size=1)
  (Q:news.all Value.oneCell'=true) (e:(xs.length+m)*bytes<=140737488355328/\xs.length+m<=maxLen) (H:Nat.blt d n=true)
  (h:∀G w',Aa B w' I (N.set k (Cp E G (xs++news)))->WL P n ops K rest ((d,G)::L) w') :WL P n ops K (⟨some d,.call ⟨.builtin .append,#[x,y],#[t,t]⟩,ty,pos,af,none⟩::rest) L w:=by
 rcases Ix m with l|l
 ·subst l;have D:news=[]:=Yi (su g.1);subst D;obtain⟨a0,c0,rfl,s,_⟩:=o.Hv A;have g:(Builtin.append_ #[t,t] ty #[.slice a0 xs.length c0,.slice a 0 c]).run P w=.ok (.slice a0 xs.length c0) w:=by
   cases a0<;>cases a<;>simp[Builtin.append_,run_underlying J,Go.sizeOf,typeInfo,hi,Builtin.lenOf,Builtin.firstCells,loadCells,loadCellsFrom,storeCells,s]
  have R:=h (.slice a0 xs.length c0) w (by
   have:N.set k (Cp E (.slice a0 xs.length c0) (xs++[]))=N:=by
    rw[Yy]
    have:=(Y1.1 A).2
    rw[<-this,jz]
   rw[this];exact o)
  refine .val (w':=w) (λa f=>?_) H R;simp[execOp,resolve,invoke,builtin,hx a f,M a f,g]
 ·obtain⟨p,rfl,S⟩:=g.2 l;obtain⟨G,w',C,q⟩:=Xgj (P:=P) (ty:=ty) o J hi U b r F A (p:=p) (m:=m) (c:=c) (oh g.1) l (λj u T=>Xv o S T) (Dj.1 Q) e.2 e.1
  refine .val (w':=w') (λa f=>?_) H (h _ _ q);simp[execOp,resolve,invoke,builtin,hx a f,M a f,C]
end
end Gk
namespace Go.Proofs.W9
open Gk Ul Pc Tk Tr
open Tryz
theorem SN(c:Nat)(a:Oa)(b:Nat)(D:List Nat)(N:La)(e:Aa B w I (Ac c [.slice a D.length b] 161::Cp 73 (.slice a D.length b) (D.map λd=>Bo (d:Nat))::N)):Ce B I (Ac c [.slice a D.length b] 161::Cp 73 (.slice a D.length b) (D.map λd=>Bo (d:Nat))::N) 28 [ptr c 0] w (Ab (D.length:Nat)):=by
 exact gG 7 ⟨O,e⟩
theorem eL(l:List Nat):(l.map λd=>Bo (d:Nat)).all Value.oneCell'=true:=by
 rw[List.all_map];exact Dj.2 λ_ _=>rfl
theorem SH(g:Nat)(j:Oa)(m:Nat)(D:List Nat)(p:D.length<=1000000)(a:Oa)(c:Nat)(l:List Nat)(q:l.length<=1000000)(n:RS I a 1 l.length (l.map λd=>Bo (d:Nat)))(N:La)(b:Aa B w I (Ac g [.slice j D.length m] 161::Cp 73 (.slice j D.length m) (D.map λd=>Bo (d:Nat))::N)):Cz 52 [ptr g 0,.slice a l.length c] w λv w'=>v=.tuple #[]/\∃a c,Aa B w' I (Ac g [.slice a (D++l).length c] 161::Cp 73 (.slice a (D++l).length c) ((D++l).map λd=>Bo (d:Nat))::N):=by
 refine gH 6 ?_;refine WL.bB (bytes:=8) b (.of O) (.of O) n (k:=1) O S_ (i:=t73) kr O O O O (eL l) ⟨by rw[Yj];omega,by rw[Yj];unfold maxLen;omega⟩ O ?_;intro o w b;try dsimp only[List.set]at b
 obtain⟨e,f,rfl,h,_⟩:=b.Hv (k:=1) O;refine gG 3 ?_;intro w b;refine⟨O,e,f,?_⟩;rw[<-Yn,Yj]at b;exact b
theorem Xxd(N:La)(a:Aa B w I N):Ce B I N 283 [.slice none 0 0] w (.slice none 0 0):=by
 refine gH 2 (.val (Ex.F9 (.of O) (.of O) S_) O (gG 0 (.Ct (rfl) ?_)));exact gG 1 ⟨O,a⟩
theorem Xst(N:La)(a:Aa B w I N):Cz 188 [.slice none 0 0] w λv w'=>∃b,v=ptr b 0/\Aa B w' I (Ac b [.slice none (([]:List Nat)).length 0] 161::Cp 73 (.slice none (([]:List Nat)).length 0) ((([]:List Nat)).map λd=>Bo (d:Nat))::N):=by
 refine gE 2 (Xxd) ?_;intro w a;refine gG 3 ?_;intro c w a;exact⟨_,O,(a.eU 73).pick 1 O⟩
def Hb(b:List UInt8->Bool)(a:Int)(D:List Nat):(List UInt8×Nat)×List Nat :=
 if Fe a=[]then(([],8),D)else match D with
 | []=>(([],6),[])
 | d::D=>if b (Fe a++45::KX 16 d)then(([],7),D)else((Fe a++45::KX 16 d,0),D)
theorem SS(A:Nat)(q:Oa)(r:Nat)(D:List Nat)(H:∀d∈D,d<18446744073709551616)(b:Int)(i:Lu->Bool)(n:FuncId)(fn:Func)(t:prog.funcs[n]?=some fn)(p:Xf fn=true)(g:Lv)(C:Bf I)(N:La)(J:∀(M:La) (s:Lu) w,Aa B w I (M++N)->Calls prog n ([S s]++g).toArray w (AY λv w'=>v=.bool (i s)/\Aa B w' I (M++N)))(f:Aa B w I (Ac A [.slice q D.length r] 161::Cp 73 (.slice q D.length r) (D.map λd=>Bo (d:Nat))::N)):Cz 343 [ptr A 0,Ab b,.func (.func n) #[] g.toArray] w λv w'=>v=.tuple #[S (Hb i b D).1.1,Ab ((Hb i b D).1.2:Nat)]/\∃a c,Aa B w' I (Ac A [.slice a ((Hb i b D).2).length c] 161::Cp 73 (.slice a ((Hb i b D).2).length c) (((Hb i b D).2).map λd=>Bo (d:Nat))::N):=by
 refine gE 3 (Xhy _ C) ?_;intro w f;refine gM 2 ?_ ?_<;>intro h E
 ·refine gG 2 ?_;have e:Hb i b D=(([],8),D):=by unfold Hb;rw[Y9 (su h)]
  rw[e];exact⟨O,q,r,f⟩
 refine gM 7 ?_ ?_<;>intro l F
 ·refine gG 2 ?_;obtain rfl:D=[]:=by
   cases D with
   | nil=>rfl
   | cons d D=>exfalso;simp at l;omega
  have e:Hb i b []=(([],6),[]):=by unfold Hb;rw[Y3 (su h)]
  rw[e];exact⟨O,q,r,f⟩
 have o:¬ Fe b=[]:=su h
 obtain⟨d,D,rfl⟩:∃d D',D=d::D':=by
  cases D with
  | nil=>simp at l
  | cons d D'=>exact⟨d,D',O⟩
 obtain⟨Q,mo,P,K,x⟩:=f.YM (k:=1) O;injection K with y L z
 subst y;subst z;have hx:=f.lI (k:=1) O (j:=0) (u:=Bo (d:Nat)) O;simp only[Yj]at x
 refine gH 6 (.val (nO (.of O) hx isAgg73) O (gE 0 (SR _ d (H d sz) C) ?_));intro w f;rw[Y3 o];refine gH 10 (.val (.FD (.of O) (.of O) om (by simp only[Y5];omega) S_ sizeOf73) O ?_);replace f:=f.eT (k:=1) O;try dsimp only[List.set]at f
 refine gH 5 ?_;intro w f;refine .Bv (cap:=g) t p (.of O) (A3 O X4) O (J [_,_] _ w f) ?_;rintro _ w ⟨rfl,f⟩;refine gM 0 ?_ ?_<;>intro m G
 ·refine gG 2 ?_;have e:Hb i b (d::D)=(([],7),D):=by unfold Hb;rw[Y3 o];exact Y9 m
  rw[e];exact⟨O,_,_,f⟩
 refine gG 3 ?_;have e:Hb i b (d::D)=((Fe b++45::KX 16 d,0),D):=by unfold Hb;rw[Y3 o];exact Y3 (nB m)
 rw[e];exact⟨O,_,_,f⟩
abbrev C0(p:Nat->Int):List Int:=[p 0,p 1,p 2,p 3,p 4,p 5,p 6,p 7,p 8,p 9,p 10,p 11,p 12,p 13,p 14,p 15,p 16,p 17,p 18,p 19,p 20]
structure Wp where
 wb:Nat
 tb:Nat
 mb:Nat
 ub:Nat
 pr:Addr
 lo:List Sv
 us:List Us
 ps:Nat->Int
structure Wd where
 room:Int
 l:List Ah
 D:List Nat
 now:Int
abbrev Ca(p:Wp)(Z:Wd):Lv:=ptr p.tb 0::ptr p.mb 0::.pointer (some p.pr)::ptr p.ub 0::yE (mpI (C0 p.ps)) [Ab Z.now]
def Bm(p:Wp)(Z:Wd):Oa×Nat×Oa×Nat->La:=λ⟨a,c,b,e⟩=>[Ac p.wb (Ca p Z) 85,Ac p.tb [Ab Z.room,.slice a Z.l.length c] 156,An 126 10 (.slice a Z.l.length c) Z.l.length (B9 Z.l),Ac p.mb [.slice b Z.D.length e] 161,Cp 73 (.slice b Z.D.length e) (Z.D.map λd=>Bo (d:Nat))]
abbrev AN(p:Wp)(Z:Wd):X1:=hB (Bm p Z)
theorem El{p:Wp}{Z:Wd}(f:Aa B w I (AN p Z::N)):∃a c b e,Aa B w I (Ac p.wb (Ca p Z) 85::Ba p.tb Z.room a c Z.l (Ac p.mb [.slice b Z.D.length e] 161::Cp 73 (.slice b Z.D.length e) (Z.D.map λd=>Bo (d:Nat))::N)):=by
 obtain⟨⟨a,c,b,e⟩,h⟩:=Aa.unbox f;exact⟨a,c,b,e,h⟩
structure BK(I:Im)(p:Wp):Prop where
 uQ:G3 I p.pr p.lo
 tab:EL I p.ub p.us
 lo:p.lo.length<=100000
 rel:∀s∈p.lo,s.rel.length<=1000000
 fit:∀u∈p.us,u.fits
 gu:∀u∈p.us,u.attrs.length<=8
 known:AX I
 pre:Bf I
theorem G3.mono{d:Addr}{lo:List Sv}(h:G3 I d lo)(b:Le I J):G3 J d lo:=by
 obtain⟨a,c,E,e,f,g⟩:=h;exact⟨a,c,E,e.mono b,f,g.mono b⟩
theorem BK.mono{p:Wp}(h:BK I p)(a:Le I J):BK J p:=⟨h.uQ.mono a,h.tab.mono a,h.lo,h.rel,h.fit,h.gu,h.known.mono a,h.pre.mono a⟩
structure A6(Z:Wd):Prop where
 len:Z.l.length<=64
 wf:Wf Z.l
 D:∀d∈Z.D,d<18446744073709551616
 now:0<=Z.now/\Z.now<=1099511627776
 room:Z.room<=64
theorem Aa.swap{M:La}(e:Aa B w I (M++N)):Aa B w I (N++M):=by
 obtain⟨h,g,f⟩:=e;obtain⟨a,b,rfl,c,d⟩:=Am.app.1 g;exact⟨b++a,Am.app.2 ⟨b,a,O,d,c⟩,f.perm T3⟩
def PY(n:Int):Bool:=decide (n<0)||decide (1099511627776<n)
abbrev iC(n:Int):Lv:=[Ab n]
def WU(p:Nat->Int):Bool:=(!((C0 p).take 7).any PY&&!(((C0 p).drop 7).take 7).any PY)&&!((C0 p).drop 14).any PY
theorem xr{E:Nat}{l:List Int}(c:Aa B w I N)(e:N[k]?=some (Ac b cs E))(h:∀(i:Nat) n,l[i]?=some n->cs[o+i]?=some (Ab n)):Jg w iC 1 (some (ad b o)) l:=λi n f=>by
 refine⟨_,O,λj v a=>?_⟩;have d:=c.block e
 match j,a with
 | 0,a =>
  cases a
  rw[CY,CY];refine Xz d ?_;rw[Dm];exact h i n f
 | j+1,a=>simp[iC]at a
theorem Xh7(a:Oa)(cap:Nat)(l:List (Int))(C:l.length<=9223372036854775807)(q:Int->Bool)(f:FuncId)(fn:Func)(o:prog.funcs[f]?=some fn)(m:Xf fn=true)(b:Lv)(N:La)(y:∀w,Aa B w I N->Jg w iC 1 a l)(A:∀(r:Int) (n:r∈l) w,Aa B w I N->Calls prog f ([Ab r]++b).toArray w (AY λv w'=>v=.bool (q r)/\Aa B w' I N))(c:Aa B w I N):Ce B I N 383 [.slice a l.length cap,.func (.func f) #[] b.toArray] w (Ab (Eu q l 0)):=by
 refine gG 4 (.lk [0,1,7] (σ:=Nat) (λi _m=>(8,Ab (i:Nat))::_m) (λi w=>i<=l.length/\(∀(j:Nat) t,j<i->l[j]?=some t->q t=false)/\Aa B w I N) (λi=>l.length-i) 0 ⟨Y4 _,λ_ _ h=>Yz h om,c⟩ ?_);rintro i w ⟨hi,g,c⟩;refine gN 1 ?_ ?_<;>intro z
 ·obtain⟨r,n⟩:∃r,l[i]?=some r:=⟨_,Y2 om⟩
  obtain⟨p,rfl,hx⟩:=y w c i r n;refine gH 6 ?_;refine .val (.ld1 (.of O) (by have x:=hx 0 _ O;simpa[Addr.add_add]using x) BJ) O ?_;refine .Bv (cap:=b) o m (.of O) (A3 O X4) O (A r (Y7 n) w c) ?_;rintro _ w ⟨rfl,c⟩;refine gM 0 ?_ ?_<;>intro d u
  ·exact gG 2 ⟨by rw[iG g n d],c⟩
  refine gG 2 (rd (i+1) ⟨om,λj t D k=>?_,c⟩);rcases Yt j i with s|s
  ·exact g j t s k
  ·have e:j=i:=om
   subst e;rw[n]at k;cases k;exact d
 exact gG 1 ⟨by rw[iF (λj t k=>g j t (oh ((Y1.1 k).1)) k)],c⟩
theorem u1(a:Oa)(cap:Nat)(l:List (Int))(g:l.length<=9223372036854775807)(e:Int->Bool)(b:FuncId)(fn:Func)(f:prog.funcs[b]?=some fn)(d:Xf fn=true)(c:Lv)(N:La)(i:∀w,Aa B w I N->Jg w iC 1 a l)(j:∀(r:Int) (k:r∈l) w,Aa B w I N->Calls prog b ([Ab r]++c).toArray w (AY λv w'=>v=.bool (e r)/\Aa B w' I N))(h:Aa B w I N):Ce B I N 282 [.slice a l.length cap,.func (.func b) #[] c.toArray] w (.bool (l.any e)):=by
 refine gP 3 [] (Xh7 a cap l g e b fn f d _ N i j) ?_;rintro _ w ⟨rfl,h⟩;exact gG 2 ⟨by rw[<-ZX e l 0],h⟩
theorem w6(n:Int)(N:La)(a:Aa B w I N):Ce B I N 281 [Ab n] w (.bool (PY n)):=by
 exact gG 8 ⟨O,a⟩
theorem Xzr(p:Nat->Int)(N:La)(c:Aa B w I N):Ce B I N 186 [.agg ((C0 p).map Ab).toArray] w (.bool (WU p)):=by
 refine gH 4 ?_;intro b1 w c;refine .val (Ex.B8 (.of O) KG Bl) O (gP 1 [] (u1 _ 7 ((C0 p).take 7) (show(7:Nat)<=9223372036854775807 by decide) _ 281 _ func281 O [] _ (λw h=>xr h (k:=0) O (λi n a=>by match i,a with|0,a=>exact Yc (Option.map Ab) a|1,a=>exact Yc (Option.map Ab) a|2,a=>exact Yc (Option.map Ab) a|3,a=>exact Yc (Option.map Ab) a|4,a=>exact Yc (Option.map Ab) a|5,a=>exact Yc (Option.map Ab) a|6,a=>exact Yc (Option.map Ab) a|i+7,a=>cases a)) (λn a w h=>w6 n _ h)) ?_);rintro _ w ⟨rfl,c⟩;refine gH 3 (.Aj O O (λb=>(Ex.B8 (.gd b O) KG Bl)) O (gH 1 (.Au (T:=λw=>Aa B w I (Ac b1 ((C0 p).map Ab) 26::N)) O O O func282 O (λb=>(X6 (.gd b O) (X6 (.gd b O) X4))) O (λb=>u1 (some (ad b1 7)) 7 (((C0 p).drop 7).take 7) (show(7:Nat)<=9223372036854775807 by decide) PY 281 _ func281 O [] _ (λw h=>xr h (k:=0) O (λi n a=>by match i,a with|0,a=>exact Yc (Option.map Ab) a|1,a=>exact Yc (Option.map Ab) a|2,a=>exact Yc (Option.map Ab) a|3,a=>exact Yc (Option.map Ab) a|4,a=>exact Yc (Option.map Ab) a|5,a=>exact Yc (Option.map Ab) a|6,a=>exact Yc (Option.map Ab) a|i+7,a=>cases a)) (λn a w h=>w6 n _ h) c) c ?_)));clear c;rintro w c;refine gH 4 (.Aj O O (λb=>(Ex.B8 (.gd b O) KG Bl)) O (gH 1 (.Au (T:=λw=>Aa B w I (Ac b1 ((C0 p).map Ab) 26::N)) O O O func282 O (λb=>(X6 (.gd b O) (X6 (.gd b O) X4))) O (λb=>u1 (some (ad b1 14)) 7 ((C0 p).drop 14) (show(7:Nat)<=9223372036854775807 by decide) PY 281 _ func281 O [] _ (λw h=>xr h (k:=0) O (λi n a=>by match i,a with|0,a=>exact Yc (Option.map Ab) a|1,a=>exact Yc (Option.map Ab) a|2,a=>exact Yc (Option.map Ab) a|3,a=>exact Yc (Option.map Ab) a|4,a=>exact Yc (Option.map Ab) a|5,a=>exact Yc (Option.map Ab) a|6,a=>exact Yc (Option.map Ab) a|i+7,a=>cases a)) (λn a w h=>w6 n _ h) c) c ?_)));clear c;rintro w c;exact gG 3 ⟨O,c.s⟩
def tick(Z:Wd)(n:Int):Wd:={ Z with now:=min (Z.now+max 0 (min n 1099511627776)) 1099511627776 }
theorem OG{Z:Wd}(h:A6 Z)(n:Int):A6 (tick Z n):=⟨h.len,h.wf,h.D,by have:=h.now;unfold tick;(try dsimp only);omega,h.room⟩
theorem Xua(p:Wp)(Z:Wd)(n:Int)(e:A6 Z)(N:La)(b:Aa B w I (AN p Z::N)):Ce B I (AN p (tick Z n)::N) 115 [ptr p.wb 0,Ab n] w (.tuple #[]):=by
 obtain⟨a,c,f,g,b⟩:=El b;have d:=e.now;refine gG 13 ?_;intro w b;exact⟨O,Aa.box (T:=Bm p _) (a,c,f,g) b⟩
theorem Xs4(d:Nat)(b:Int)(a:Oa)(c:Nat)(l:List Ah)(k:l.length<=100000)(h:Wf l)(ps:List Int)(g:ps.length=21)(name:Lu)(now:Int)(m:0<=now/\now<=1099511627776)(N:La)(f:Aa B w I (Ba d b a c l N)):Calls prog 315 #[ptr d 0,.agg (ps.map Ab).toArray,S name,Ab now] w (AY λv w'=>v=.bool (o1 ps l name now)/\Aa B w' I (Ba d b a c l N)) :=
 (Xyf d b a c l k h ps g name now m N f).mono λe w' ⟨v,j,J,i,n,f⟩=>⟨v,j,n,f.weaken i⟩
theorem YP{p:Wp}{Z:Wd}{j:Nat}(h:((C0 p.ps).map Ab)[j]?=some v):(Ca p Z)[0+4+j]?=some v:=by
 have a:=(Y1.1 h).1;have e:Ca p Z=[ptr p.tb 0,ptr p.mb 0,.pointer (some p.pr),ptr p.ub 0]++((C0 p.ps).map Ab++[Ab Z.now]):=rfl;rw[e,Yw sz,Y5,Y5,Y5,Y5,Yh,show 0+4+j-(0+1+1+1+1)=j by omega,Ye a];exact h
def Xu(ps:Nat->Int)(Z:Wd)(name:Lu)(a:Int):Ah×Bool:=if((((getD Z.l name).kind)!=a)||!o1 (C0 ps) Z.l name Z.now)=true then(r0,false)else(getD Z.l name,true)
theorem iH(name:Lu)(e:Int)(p:Wp)(Z:Wd)(g:A6 Z)(N:La)(d:Aa B w I (AN p Z::N)):Ce B I (AN p Z::N) 214 [ptr p.wb 0,S name,Ab e] w (.tuple #[.agg (Xa (Xu p.ps Z name e).1).toArray,.bool (Xu p.ps Z name e).2]):=by
 refine gG 0 ?_;obtain⟨a,c,m,n,d⟩:=El d;have i:=g.len;refine gH 7 ?_;intro q w d;refine gE 0 (E5 _ Z.room a c Z.l om name) ?_;intro w d;refine gH 6 ?_;intro r w d;refine gG 0 ?_;replace d:=d.px [2,2];refine .qt d (.val (λw d=>(by exact .fo 0 O FP O O Bl O)) O ?_);refine .val (λw d=>(by exact(.lo O d (k:=2) O BJ O))) O ?_;refine .val (λw d=>(.mo O)) O (.val (λw d=>(.neq (.of O) (.of O))) O (.val (λw d=>(.mo O)) O (.Aj O O O (λb w d=>(.mo O)) O (.Aj O O O (λb w d=>(.nilCheck (.gd b O))) O ?_))));refine .Aj O O O (λb w d=>(by exact .fieldAddr 0 (.gd b O) E3 O O O_ O)) O ?_;refine .Aj O O O (λb w d=>(by exact(.ld (.gd b O) d (k:=4) O S0 O))) O ?_;refine .Aj O O O (λb w d=>(.mo O)) O (.Aj O O O (λb w d=>(.nilCheck (.gd b O))) O ?_);refine .Aj O O O (λb w d=>(by exact .fieldAddr 4 (.gd b O) E3 O O HA O)) O ?_;refine .Aj O O O (λb w d=>(.DY (.gd b O) d (k:=4) O O5 HA O (λj v o=>YP o))) O (.Aj O O O (λb w d=>(.mo O)) O (.Aj O O O (λb w d=>(.mo O)) O (.Aj O O O (λb w d=>(.nilCheck (.gd b O))) O ?_)));refine .Aj O O O (λb w d=>(by exact .fieldAddr 25 (.gd b O) E3 O O Bl O)) O ?_;refine .Aj O O O (λb w d=>(by exact(.ld (.gd b O) d (k:=4) O BJ O))) O ?_;refine .Au O O O func315 O (λb=>(X6 (.gd b O) (X6 (.gd b O) (X6 (.gd b O) (X6 (.gd b O) X4))))) O (λb w d=>Xs4 p.tb Z.room a c Z.l om g.wf (C0 p.ps) O name Z.now g.now _ d) (.Aj O O O (λb w d=>(.not (.gd b O))) O (.val (λw d=>(.po O O O)) O (.nil ?_)));intro w d;refine gM 0 ?_ ?_<;>intro f h
 ·refine gH 3 ?_;intro w d;refine gG 0 (⟨?_,Aa.box (T:=Bm p _) (a,c,m,n) ?_⟩)
  ·rw[Xu,Y9 f];rfl
  replace d:=((d.drop (k:=2) O).drop (k:=2) O).pick 2 O;exact d
 refine gH 3 ?_;intro w d;refine gG 0 (⟨?_,Aa.box (T:=Bm p _) (a,c,m,n) ?_⟩)
 ·rw[Xu,Y3 (nB f)];done
 replace d:=((d.drop (k:=2) O).drop (k:=2) O).pick 2 O;exact d
theorem dI(p:Wp)(Z:Wd)(a:Oa)(c:Nat)(e:Z.l.length<=64)(d:Nat)(name:Lu)(N:La)(b:Aa B w I (Ac d [ptr p.wb 0] 87::Ac p.wb (Ca p Z) 85::Ba p.tb Z.room a c Z.l N)):Ce B I (Ac d [ptr p.wb 0] 87::Ac p.wb (Ca p Z) 85::Ba p.tb Z.room a c Z.l N) 344 [S name,ptr d 0] w (.bool (get Z.l name).isSome):=by
 refine gE 6 (E5 _ Z.room a c Z.l om _) ?_;intro w b;replace b:=b.px [3,3];refine gG 8 ?_;intro f w b;exact⟨O,b.s⟩
def IB(Z:Wd)(r:Ah):(Lu×Nat)×List Nat:=Hb (λs=>(get Z.l s).isSome) r.kind Z.D
def nQ(Z:Wd)(r:Ah):Ah:={ r with name:=(IB Z r).1.1,made:=Z.now,used:=Z.now }
def AA(Z:Wd)(r:Ah):(Lu×Nat)×Wd :=
 if(IB Z r).1.2≠0 then(([],39),{ Z with D:=(IB Z r).2 })
 else(if KW Z.room Z.l (nQ Z r)≠0 then([],39)else((IB Z r).1.1,0),{ Z with D:=(IB Z r).2,l:=add Z.room Z.l (nQ Z r) })
theorem dN{c:Lu->Bool}{b:Int}{D:List Nat}:∀d∈(Hb c b D).2,d∈D:=by
 intro d a;unfold Hb at a;split at a
 ·exact a
 ·split at a
  ·simp at a
  ·rename_i x D
   split at a<;>exact Si _ a
theorem wI{pr:Lu->Bool}{kind:Int}{D:List Nat}:(Hb pr kind D).1.1.length<=23:=by
 unfold Hb;split
 ·simp
 ·split
  ·simp
  ·split
   ·simp
   ·have:=Oe kind
    simp only[Y0,Y5,ss];omega
theorem G7{Z:Wd}(h:A6 Z)(r:Ah):A6 (AA Z r).2:=by
 unfold AA;have a:∀d∈(IB Z r).2,d<18446744073709551616:=λd b=>h.D d (dN d b)
 split
 ·exact⟨h.len,h.wf,a,h.now,h.room⟩
 ·refine⟨?_,h.wf.add,a,h.now,h.room⟩;show(add Z.room Z.l (nQ Z r)).length<=64
  unfold add;split
  ·rename_i e
   have:=(Ua e).2.2.2
   have:=h.room
   rw[Y0,Y5,Yh];omega
  ·exact h.len
theorem l5(r:Ah)(v:r.parent.length<=1000000)(p:Wp)(Z:Wd)(hZ:A6 Z)(t:BK I p)(N:La)(b:Aa B w I (AN p Z::N)):Ce B I (AN p (AA Z r).2::N) 249 [ptr p.wb 0,.agg (Xa r).toArray] w (.tuple #[S (AA Z r).1.1,Ab ((AA Z r).1.2:Nat)]):=by
 obtain⟨a,c,G,H,b⟩:=El b;have q:=hZ.len;refine gG 4 ?_;intro m n w b;refine gD [1,0,0] [] [0,1,2,3,4,5,6,7,8,9,10,11,12] ?_;intro w b;refine gP 7 [4,4,4,4,6,6] (SS p.mb G H Z.D hZ.D r.kind (λs=>(get Z.l s).isSome) 344 _ func344 O [ptr m 0] t.pre (Ac m [ptr p.wb 0] 87::Ac p.wb (Ca p Z) 85::Ba p.tb Z.room a c Z.l (Ac n [Ab r.kind,S r.name,S r.parent,S r.user,S r.service,S r.url,Ab r.made,Ab r.used,Ab r.AV,.bool r.fresh] 126::N)) (λM s w h=>(dI p Z a c q m s (Ac n [Ab r.kind,S r.name,S r.parent,S r.user,S r.service,S r.url,Ab r.made,Ab r.used,Ab r.AV,.bool r.fresh] 126::N++M) (Aa.swap (M:=M) (N:=Ac m [ptr p.wb 0] 87::Ac p.wb (Ca p Z) 85::Ba p.tb Z.room a c Z.l (Ac n [Ab r.kind,S r.name,S r.parent,S r.user,S r.service,S r.url,Ab r.made,Ab r.used,Ab r.AV,.bool r.fresh] 126::N)) h)).mono λe K ⟨J,E,F,u⟩=>⟨J,E,F,Aa.swap (M:=Ac m [ptr p.wb 0] 87::Ac p.wb (Ca p Z) 85::Ba p.tb Z.room a c Z.l (Ac n [Ab r.kind,S r.name,S r.parent,S r.user,S r.service,S r.url,Ab r.made,Ab r.used,Ab r.AV,.bool r.fresh] 126::N)) (N:=M) u⟩)) ?_;rintro _ w ⟨rfl,g,i,b⟩;refine gM 7 ?_ ?_<;>intro f A
 ·refine gG 2 ?_;have o:AA Z r=(([],39),{ Z with D:=(IB Z r).2 }):=Y9 (by simpa[IB]using f);rw[o];replace b:=b.py [2,5];exact⟨O,Aa.box (T:=Bm p _) (a,c,g,i) (b.x [4,4,4])⟩
 refine .skip (.ck [2,3,6] (σ:=Unit) (λ_ _m=>_m) (λ_ w=>Aa B w I (Ac p.mb [.slice g (IB Z r).2.length i] 161::Cp 73 (.slice g (IB Z r).2.length i) ((IB Z r).2.map λd=>Bo (d:Nat))::Ac m [ptr p.wb 0] 87::Ac p.wb (Ca p Z) 85::Ba p.tb Z.room a c Z.l (Ac n [Ab r.kind,S (IB Z r).1.1,S r.parent,S r.user,S r.service,S r.url,Ab Z.now,Ab Z.now,Ab r.AV,.bool r.fresh] 126::N))) ?_ ?_)
 ·refine gD [2,2] [] [0,1,2,3,4,5,6,7,8,9,10,11,12,13,14] ?_;intro w b;refine gH 11 ?_;intro w b;refine gH 2 ?_;intro w b;refine gH 2 ?_;intro w b;exact gG 0 (cd () b)
 rintro _ w b;refine gG 0 (gD [2,5,2] [] [0,1,2,3,4,5,6] ?_);intro w b;refine gF 5 (ZG p.tb Z.room a c Z.l om (nQ Z r) (by have:=wI (pr:=λs=>(get Z.l s).isSome) (kind:=r.kind) (D:=Z.D);exact Yq this de) v t.known t.pre) ?_;rintro _ w ⟨rfl,y,z,b⟩;refine gM 1 ?_ ?_<;>intro j C
 ·refine gG 2 ?_;have o:AA Z r=(([],39),{ Z with D:=(IB Z r).2,l:=add Z.room Z.l (nQ Z r) }):=by
   rw[AA,Y3 (by simpa[IB]using f),Y9 (su j)]
  rw[o];replace b:=((b.pick 5 O).drop (k:=5) O).drop (k:=5) O;exact⟨O,Aa.box (T:=Bm p _) (y,z,g,i) b⟩
 refine gG 3 ?_;have o:AA Z r=(((IB Z r).1.1,0),{ Z with D:=(IB Z r).2,l:=add Z.room Z.l (nQ Z r) }):=by
  rw[AA,Y3 (by simpa[IB]using f),Y3 (su j)]
 rw[o];replace b:=((b.pick 5 O).drop (k:=5) O).drop (k:=5) O;exact⟨O,Aa.box (T:=Bm p _) (y,z,g,i) b⟩
theorem lZ{r:Ah}(h:C7 r=true):r.name.length<=23/\r.parent.length<=23:=by
 unfold C7 at h;simp only[Y8]at h
 obtain⟨⟨_,c⟩,b⟩:=h;constructor
 ·unfold QN at c;cases a:Ey r.name with
  | none=>rw[a]at c;cases c
  | some x=>exact(oo (k:=x.1) (d:=x.2) a).2.2.2.1
 ·unfold l9 at b;split at b
  ·rename_i e;rw[e];simp
  ·cases a:Ey r.parent with
   | none=>rw[a]at b;cases b
   | some x=>exact(oo (k:=x.1) (d:=x.2) a).2.2.2.1
theorem rY{l:List Ah}(d:Wf l)(name:Lu):(get l name=none/\getD l name=r0)\/(get l name=some (getD l name)/\C7 (getD l name)=true/\(getD l name).name=name):=by
 rcases Tr.get_at l name with⟨_,h⟩|⟨j,r,_,b,c,a⟩
 ·exact .inl ⟨h,by rw[getD,h];rfl⟩
 ·have e:getD l name=r:=by rw[getD,a];rfl
  exact .inr ⟨by rw[e];exact a,by rw[e];exact d.right r (Y7 b),by rw[e];exact c⟩
theorem Xif{l:List Ah}(c:Wf l)(name:Lu):(getD l name).name.length<=23/\(getD l name).parent.length<=23/\0<=(getD l name).AV/\(getD l name).AV<=255:=by
 rcases rY c name with⟨_,e⟩|⟨_,h,_⟩
 ·rw[e];decide
 ·have a:=lZ h;have b:=vw h;exact⟨a.1,a.2,b.2.2⟩
theorem Xel(p:Wp)(Z:Wd)(c:A6 Z)(b:BK I p)(N:La)(a:Aa B w I (AN p Z::N)):Ce B I (AN p (AA Z ⟨6,[],[],[],[],[],0,0,0,false⟩).2::N) 247 [ptr p.wb 0] w (.tuple #[S (AA Z ⟨6,[],[],[],[],[],0,0,0,false⟩).1.1,Ab ((AA Z ⟨6,[],[],[],[],[],0,0,0,false⟩).1.2:Nat)]):=by
 refine gE 4 (l5 (⟨6,[],[],[],[],[],0,0,0,false⟩) sz p Z c b) ?_;intro w a;exact gG 4 ⟨O,a⟩
def FQ(Z:Wd)(name:Lu):Wd:={ Z with l:=drop Z.l name }
theorem Z0{Z:Wd}(h:A6 Z)(name:Lu):A6 (FQ Z name):=⟨Yq (UT Z.l name).length_le h.len,h.wf.drop name,h.D,h.now,h.room⟩
def Ew(us:List Us)(ps:Nat->Int)(Z:Wd)(lt a b:Lu):(Lu×Nat)×Wd :=
 if(Xu ps Z lt 6).2=false then(([],38),Z)
 else if o3 us a b=false then(([],37),FQ Z lt)
 else((AA Z ⟨1,[],[],a,[],[],0,0,0,true⟩).1,if(AA Z ⟨1,[],[],a,[],[],0,0,0,true⟩).1.2=0 then FQ (AA Z ⟨1,[],[],a,[],[],0,0,0,true⟩).2 lt else(AA Z ⟨1,[],[],a,[],[],0,0,0,true⟩).2)
theorem Xoz{us:List Us}{Z:Wd}(h:A6 Z)(lt a b:Lu):A6 (Ew us ps Z lt a b).2:=by
 unfold Ew;split
 ·exact h
 ·split
  ·exact Z0 h lt
  ·try dsimp only
   split
   ·exact Z0 (G7 h _) lt
   ·exact G7 h _
theorem OY(lt b h:Lu)(C:h.length<=9223372036854775807)(p:Wp)(Z:Wd)(o:A6 Z)(v:BK I p)(N:La)(e:Aa B w I (AN p Z::N)):Ce B I (AN p (Ew p.us p.ps Z lt b h).2::N) 157 [ptr p.wb 0,S lt,S b,S h] w (.tuple #[S (Ew p.us p.ps Z lt b h).1.1,Ab ((Ew p.us p.ps Z lt b h).1.2:Nat)]):=by
 refine gE 4 (iH lt 6 p Z o) ?_;intro w e;refine gG 8 ?_;intro R w e;refine gM 0 ?_ ?_<;>intro f H
 ·refine gG 2 ?_;have j:Ew p.us p.ps Z lt b h=(([],38),Z):=by rw[Ew,Y9 (su f)]
  rw[j];exact⟨O,e.s⟩
 replace e:=e.px [1];obtain⟨a,c,P,Q,e⟩:=El e;have M:=o.len;have E:=o.wf;refine gE 6 (Md _ _ v.fit _ h C v.tab) ?_;intro w e;refine gM 1 ?_ ?_<;>intro g K
 ·refine gF 5 (fm p.tb Z.room a c Z.l om E lt) ?_;rintro _ w ⟨J,U,V,rfl,x,z,y,t,u,e⟩;replace e:=e.weaken x;refine gG 2 ?_;have j:Ew p.us p.ps Z lt b h=(([],37),FQ Z lt):=by rw[Ew,Y3 (by rw[show(Xu p.ps Z lt 6).2=true from by simpa using f];decide),Y9 (su g)]
  rw[j];exact⟨O,Aa.box (T:=Bm p (FQ Z lt)) (t,u,P,Q) ((((((e.drop (k:=5) O).pick 4 O).pick 4 O).pick 3 O).pick 3 O).pick 4 O)⟩
 replace e:=Aa.box (T:=Bm p _) (a,c,P,Q) (e.px [4,4,4,4,4]);refine gE 3 (l5 (⟨1,[],[],b,[],[],0,0,0,true⟩) sz p Z o v) ?_;intro w e;refine gM 7 ?_ ?_<;>intro i L
 ·obtain⟨⟨F,G,m,n⟩,e⟩:=Aa.unbox e;replace e:Aa B _ _ (Ac p.wb (Ca p (AA Z ⟨1,[],[],b,[],[],0,0,0,true⟩).2) 85::Ba p.tb (AA Z ⟨1,[],[],b,[],[],0,0,0,true⟩).2.room F G (AA Z ⟨1,[],[],b,[],[],0,0,0,true⟩).2.l (Ac p.mb [.slice m (AA Z ⟨1,[],[],b,[],[],0,0,0,true⟩).2.D.length n] 161::Cp 73 (.slice m (AA Z ⟨1,[],[],b,[],[],0,0,0,true⟩).2.D.length n) ((AA Z ⟨1,[],[],b,[],[],0,0,0,true⟩).2.D.map λd=>Bo (d:Nat))::_)):=e;have q:=G7 o ⟨1,[],[],b,[],[],0,0,0,true⟩;have A:=q.len;have r:=q.wf;refine gF 5 (fm p.tb (AA Z ⟨1,[],[],b,[],[],0,0,0,true⟩).2.room F G (AA Z ⟨1,[],[],b,[],[],0,0,0,true⟩).2.l om r lt) ?_;rintro _ w ⟨J,U,V,rfl,x,z,y,t,u,e⟩;replace e:=e.weaken x;refine gG 4 ?_;have j:Ew p.us p.ps Z lt b h=((AA Z ⟨1,[],[],b,[],[],0,0,0,true⟩).1,FQ (AA Z ⟨1,[],[],b,[],[],0,0,0,true⟩).2 lt):=by rw[Ew,Y3 (by rw[show(Xu p.ps Z lt 6).2=true from by simpa using f];decide),Y3 (su g),Y9 (su i)]
  rw[j];exact⟨O,Aa.box (T:=Bm p (FQ (AA Z ⟨1,[],[],b,[],[],0,0,0,true⟩).2 lt)) (t,u,m,n) ((((((e.drop (k:=5) O).pick 4 O).pick 4 O).pick 3 O).pick 3 O).pick 4 O)⟩
 refine gG 4 ?_;have j:Ew p.us p.ps Z lt b h=((AA Z ⟨1,[],[],b,[],[],0,0,0,true⟩).1,(AA Z ⟨1,[],[],b,[],[],0,0,0,true⟩).2):=by rw[Ew,Y3 (by rw[show(Xu p.ps Z lt 6).2=true from by simpa using f];decide),Y3 (su g),Y3 (su i)]
 rw[j];exact⟨O,e.s⟩
structure Ak where
 service:Lu
 F3:Lu
 has:Bool
 renew:Bool
 HT:Bool
 warn:Bool
abbrev aY(q:Ak):Lv:=[S q.service,S q.F3,.bool q.has,.bool q.renew,.bool q.HT,.bool q.warn]
def HE(lo:List Sv)(ps:Nat->Int)(Z:Wd)(q:Ak):Nat :=
 if(q.has&&(((Xk lo q.service).2.2:Nat):Int)!=0)=true then 6
 else if(!q.has&&(Xu ps Z q.F3 1).2)=true then 5
 else if(!q.has||q.renew)=true then 1
 else if(((Xu ps Z q.F3 1).2&&(Xk lo q.service).1.BT)&&q.warn)=true then 4
 else if((Xu ps Z q.F3 1).2&&(Xk lo q.service).1.BT)=true then 2
 else if q.HT=true then 3 else 1
theorem X72(s:Lu)(r:s.length<=1000000)(p:Wp)(b:BK I p)(N:La)(g:Aa B w I N):Cz 217 [.pointer (some p.pr),S s] w λv w'=>∃J d f,Le I J/\v=.tuple #[.agg (fw (Xk p.lo s).1 d f).toArray,S (Xk p.lo s).2.1,Ab (((Xk p.lo s).2.2:Nat):Int)]/\(Xk p.lo s).1.rel.length<=f/\RS J d 1 (Xk p.lo s).1.rel.length ((Xk p.lo s).1.rel.map S)/\Aa B w' J N:=by
 obtain⟨a,c,E,i,y,j⟩:=b.uQ;refine(Xri p.pr p.lo b.lo b.rel s r a c E b.known i j N g).mono λe w' ⟨v,o,J,u,cs,n,x,m,t,⟨d,f,h,k,l⟩,q,g⟩=>⟨v,o,J,d,f,m,?_⟩
 rw[q];subst h;exact⟨t,k,l,g⟩
theorem TD(s:Lu)(h:s.length<=1000000)(p:Wp)(d:BK I p)(N:La)(a:Aa B w I N):Calls prog 217 #[.pointer (some p.pr),S s] w (AY λv w'=>∃b c,v=.tuple #[.agg (fw (Xk p.lo s).1 b c).toArray,S (Xk p.lo s).2.1,Ab (((Xk p.lo s).2.2:Nat):Int)]/\Aa B w' I N) :=
 (X72 s h p d N a).mono λe w' ⟨v,g,J,b,c,f,i,_,_,a⟩=>⟨v,g,b,c,i,a.weaken f⟩
theorem Xxb(q:Ak)(l:q.service.length<=1000000)(p:Wp)(Z:Wd)(E:A6 Z)(o:BK I p)(N:La)(b:Aa B w I (AN p Z::N)):Ce B I (AN p Z::N) 151 [ptr p.wb 0,.agg (aY q).toArray] w (Ab ((HE p.lo p.ps Z q:Nat):Int)):=by
 refine gH 5 ?_;intro D w b;refine gE 0 (iH _ 1 p Z E) ?_;intro w b;refine gH 6 ?_;intro F w b;refine .nil (.ck [0,3,6] (σ:=Nat×Oa×Nat) (λ(k,m,n) _m=>(7,ptr k 0)::(8,S (Xk p.lo q.service).2.1)::(9,Ab (((Xk p.lo q.service).2.2:Nat):Int))::_m) (λ(k,m,n) w=>Aa B w I (Ac k [Ab (Xk p.lo q.service).1.id,AM (Xk p.lo q.service).1.ord,S (Xk p.lo q.service).1.urls,.bool (Xk p.lo q.service).1.BT,.bool (Xk p.lo q.service).1.B7,.bool (Xk p.lo q.service).1.back,S (Xk p.lo q.service).1.calls,.slice m (Xk p.lo q.service).1.rel.length n] 133::Ac D [S q.service,S q.F3,.bool q.has,.bool q.renew,.bool q.HT,.bool q.warn] 234::AN p Z::N)) ?_ ?_)
 ·replace b:=b.px [1];obtain⟨a,c,A,C,b⟩:=El b;refine gD [6,0] [] [0,1,2,3,4,5] ?_;intro w b;refine gH 6 (gB 6 11 [7,8,9,10,11,12,13,14] [6,7,8,9,10,12,13,14] ?_ ?_)
  ·refine gF 0 (TD _ l p o) ?_;rintro _ w ⟨m,n,rfl,b⟩;refine gH 5 ?_;intro k w b;refine gH 1 ?_;intro w b;refine gG 2 ?_;replace b:=Aa.box (T:=Bm p _) (a,c,A,C) (b.px [5,5,5,5,5]);replace b:=b.py [2];exact En (_,_,_) O (b.x [2,2])
  ·refine gH 1 ?_;intro k w b;refine gF 0 (TD _ l p o) ?_;rintro _ w ⟨m,n,rfl,b⟩;refine gH 5 ?_;intro w b;refine gG 2 ?_;replace b:=Aa.box (T:=Bm p _) (a,c,A,C) (b.px [5,5,5,5,5]);replace b:=b.py [2];exact En (_,_,_) O (b.x [2,2])
 rintro⟨k,m,n⟩ w b;refine gM 7 ?_ ?_<;>intro d r
 ·refine gG 1 ?_;have h:HE p.lo p.ps Z q=6:=by rw[HE,Y9 d]
  rw[h];exact⟨O,b.s⟩
 refine gM 7 ?_ ?_<;>intro e t
 ·refine gG 1 ?_;have h:HE p.lo p.ps Z q=5:=by rw[HE,Y3 (nB d),Y9 e]
  rw[h];exact⟨O,b.s⟩
 refine gM 8 ?_ ?_<;>intro f u
 ·refine gG 1 ?_;have h:HE p.lo p.ps Z q=1:=by rw[HE,Y3 (nB d),Y3 (nB e),Y9 f]
  rw[h];exact⟨O,b.s⟩
 refine gM 10 ?_ ?_<;>intro g v
 ·refine gG 1 ?_;have h:HE p.lo p.ps Z q=4:=by rw[HE,Y3 (nB d),Y3 (nB e),Y3 (nB f),Y9 g]
  rw[h];exact⟨O,b.s⟩
 refine gM 6 ?_ ?_<;>intro i y
 ·refine gG 1 ?_;have h:HE p.lo p.ps Z q=2:=by rw[HE,Y3 (nB d),Y3 (nB e),Y3 (nB f),Y3 (nB g),Y9 i]
  rw[h];exact⟨O,b.s⟩
 refine gM 3 ?_ ?_<;>intro j z
 ·refine gG 1 ?_;have h:HE p.lo p.ps Z q=3:=by rw[HE,Y3 (nB d),Y3 (nB e),Y3 (nB f),Y3 (nB g),Y3 (nB i),Y9 j]
  rw[h];exact⟨O,b.s⟩
 refine gG 1 ?_;have h:HE p.lo p.ps Z q=1:=by rw[HE,Y3 (nB d),Y3 (nB e),Y3 (nB f),Y3 (nB g),Y3 (nB i),Y3 (nB j)]
 rw[h];exact⟨O,b.s⟩
def Fq(lo:List Sv)(ps:Nat->Int)(Z:Wd)(Ay a:Lu)(b:Bool):Ah:=⟨2,[],Ay,(Xu ps Z Ay 1).1.user,(Xk lo a).2.1,[],0,0,0,b⟩
def MZ(Z:Wd)(r:Ah):Wd:={ Z with l:=put Z.l r }
theorem ti{Z:Wd}(h:A6 Z)(r:Ah):A6 (MZ Z r):=⟨by show(put Z.l r).length<=64;rw[Xj0];exact h.len,h.wf.put,h.D,h.now,h.room⟩
def Dx(lo:List Sv)(ps:Nat->Int)(Z:Wd)(Ay a:Lu)(b:Bool):((Lu×Lu)×Nat)×Wd :=
 if(Xu ps Z Ay 1).2=false then((([],[]),30),Z)
 else if(Xk lo a).2.2≠0 then((([],[]),31),Z)
 else if(!b&&!(Xk lo a).1.BT)=true then((([],[]),36),Z)
 else if(AA Z (Fq lo ps Z Ay a b)).1.2≠0 then((([],[]),(AA Z (Fq lo ps Z Ay a b)).1.2),(AA Z (Fq lo ps Z Ay a b)).2)
 else((((AA Z (Fq lo ps Z Ay a b)).1.1,(Xk lo a).2.1),0),MZ (AA Z (Fq lo ps Z Ay a b)).2 (PB (Xu ps Z Ay 1).1 (AA Z (Fq lo ps Z Ay a b)).2.now))
theorem Xol{lo:List Sv}{Z:Wd}(h:A6 Z)(Ay a:Lu)(b:Bool):A6 (Dx lo ps Z Ay a b).2:=by
 unfold Dx;split
 ·exact h
 ·split
  ·exact h
  ·split
   ·exact h
   ·split
    ·exact G7 h _
    ·exact ti (G7 h _) _
theorem ve{Z:Wd}(h:A6 Z)(name:Lu)(a:Int):(Xu ps Z name a).1.name.length<=23/\(Xu ps Z name a).1.parent.length<=23/\0<=(Xu ps Z name a).1.AV/\(Xu ps Z name a).1.AV<=255:=by
 unfold Xu;split
 ·decide
 ·exact Xif h.wf name
theorem Xmu(Ay b:Lu)(e:Bool)(A:Ay.length<=1000000)(z:b.length<=1000000)(p:Wp)(Z:Wd)(r:A6 Z)(q:BK I p)(N:La)(f:Aa B w I (AN p Z::N)):Ce B I (AN p (Dx p.lo p.ps Z Ay b e).2::N) 155 [ptr p.wb 0,S Ay,S b,.bool e] w (.tuple #[S (Dx p.lo p.ps Z Ay b e).1.1.1,S (Dx p.lo p.ps Z Ay b e).1.1.2,Ab ((Dx p.lo p.ps Z Ay b e).1.2:Nat)]):=by
 refine gE 5 (iH Ay 1 p Z r) ?_;intro w f;refine gG 8 ?_;intro K w f;refine gM 0 ?_ ?_<;>intro g F
 ·refine gG 3 ?_;have j:Dx p.lo p.ps Z Ay b e=((([],[]),30),Z):=by rw[Dx,Y9 (su g)]
  rw[j];exact⟨O,f.s⟩
 replace f:=f.px [1];obtain⟨a,c,C,E,f⟩:=El f;refine gF 5 (TD b z p q) ?_;rintro _ w ⟨M,P,rfl,f⟩;refine gG 11 ?_;intro L w f;refine gM 0 ?_ ?_<;>intro h G
 ·refine gG 3 ?_;replace f:=Aa.box (T:=Bm p _) (a,c,C,E) (f.px [5,5,5,5,5]);have j:Dx p.lo p.ps Z Ay b e=((([],[]),31),Z):=by rw[Dx,Y3 (by rw[show(Xu p.ps Z Ay 1).2=true from by simpa using g];decide),Y9 (su h)]
  rw[j];exact⟨O,(f.y 1 2)⟩
 refine gM 8 ?_ ?_<;>intro i H
 ·refine gG 3 ?_;replace f:=Aa.box (T:=Bm p _) (a,c,C,E) (f.px [5,5,5,5,5]);have j:Dx p.lo p.ps Z Ay b e=((([],[]),36),Z):=by rw[Dx,Y3 (by rw[show(Xu p.ps Z Ay 1).2=true from by simpa using g];decide),Y3 (su h),Y9 i]
  rw[j];exact⟨O,(f.y 1 2)⟩
 refine gG 0 ?_;replace f:=Aa.box (T:=Bm p _) (a,c,C,E) (f.px [5,5,5,5,5]);refine gE 7 (l5 (Fq p.lo p.ps Z Ay b e) A p Z r q) ?_;intro w f;refine gM 7 ?_ ?_<;>intro m J
 ·refine gG 4 ?_;have j:Dx p.lo p.ps Z Ay b e=((([],[]),(AA Z (Fq p.lo p.ps Z Ay b e)).1.2),(AA Z (Fq p.lo p.ps Z Ay b e)).2):=by rw[Dx,Y3 (by rw[show(Xu p.ps Z Ay 1).2=true from by simpa using g];decide),Y3 (su h),Y3 (nB i),Y9 (su m)]
  rw[j];exact⟨O,f.s⟩
 refine gG 0 ?_;obtain⟨⟨t,u,n,o⟩,f⟩:=Aa.unbox f;replace f:Aa B _ _ (Ac p.wb (Ca p (AA Z (Fq p.lo p.ps Z Ay b e)).2) 85::Ba p.tb (AA Z (Fq p.lo p.ps Z Ay b e)).2.room t u (AA Z (Fq p.lo p.ps Z Ay b e)).2.l (Ac p.mb [.slice n (AA Z (Fq p.lo p.ps Z Ay b e)).2.D.length o] 161::Cp 73 (.slice n (AA Z (Fq p.lo p.ps Z Ay b e)).2.D.length o) ((AA Z (Fq p.lo p.ps Z Ay b e)).2.D.map λd=>Bo (d:Nat))::_)):=f;have v:=G7 r (Fq p.lo p.ps Z Ay b e);have x:=v.len;have k:=ve (ps:=p.ps) r Ay 1;refine gD [6,0] [] [0,1,2,3,4,5,6,7,8,9,10] ?_;intro w f;refine gE 9 (wj _ _ k.2.2.1 k.2.2.2) ?_;intro w f;refine gE 0 (sQ p.tb (AA Z (Fq p.lo p.ps Z Ay b e)).2.room t u (AA Z (Fq p.lo p.ps Z Ay b e)).2.l om (PB (Xu p.ps Z Ay 1).1 (AA Z (Fq p.lo p.ps Z Ay b e)).2.now) (Yq k.1 de) (Yq k.2.1 de) q.known q.pre) ?_;intro w f;refine gG 5 ?_;replace f:=Aa.box (T:=Bm p (MZ (AA Z (Fq p.lo p.ps Z Ay b e)).2 (PB (Xu p.ps Z Ay 1).1 (AA Z (Fq p.lo p.ps Z Ay b e)).2.now))) (t,u,n,o) (f.px [4,4,3,3,4]);have j:Dx p.lo p.ps Z Ay b e=((((AA Z (Fq p.lo p.ps Z Ay b e)).1.1,(Xk p.lo b).2.1),0),MZ (AA Z (Fq p.lo p.ps Z Ay b e)).2 (PB (Xu p.ps Z Ay 1).1 (AA Z (Fq p.lo p.ps Z Ay b e)).2.now)):=by rw[Dx,Y3 (by rw[show(Xu p.ps Z Ay 1).2=true from by simpa using g];decide),Y3 (su h),Y3 (nB i),Y3 (su m)]
 rw[j];exact⟨O,(f.y 1 2)⟩
structure Cf where
 BL:List Sv
 us:List Us
 ps:Nat->Int
 room:Int
 base:Nat
 HR:Nat
 most:Nat
 tries:Int
abbrev Ie(c:Cf)(a:Oa)(cap:Nat)(d:Oa)(b:Nat):Lv:=.slice a c.BL.length cap::.slice d c.us.length b::yE (mpI (C0 c.ps)) [Ab c.room,AM c.base,AM c.HR,AM c.most,Ab c.tries]
structure Cf.fits(c:Cf):Prop where
 BL:c.BL.length<=20
 C4:∀v∈C4 c.BL,v<18446744073709551616
 Rz:∀s∈c.BL,s.urls.length<=9223372036854775807/\s.calls.length<=9223372036854775807/\s.rel.length<=1000000
 us:c.us.length<=9223372036854775807
 RR:∀u∈c.us,u.fits
def FX(c:Cf):Nat:=if(Hg c.BL).1≠0 then(Hg c.BL).1 else if(Gi c.us 0 []).1≠0 then(Gi c.us 0 []).1 else if WU c.ps=false then 1 else 0
theorem xU:∀(l:List Us) (i:Nat) (a:List Us),(Gi l i a).1=0->∀u∈l,aR u=true
 | [],_,_,_,u,h=>by simp at h
 | t::l,i,a,h,u,b=>by
  rw[Gi]at h;split at h
  ·cases h
  ·split at h
   ·cases h
   ·rename_i c
    split at h
    ·cases h
    ·rcases Yp.1 b with e|b
     ·subst e;simpa using c
     ·exact xU l (i+1) _ h u b
theorem Q0{l:List Sv}(a:Bc.Ord (kx (C4 l)) l.length D):∀s∈KV l D,s∈l:=by
 intro s c;obtain⟨d,b,rfl⟩:=Dt.1 c;obtain⟨e,f⟩:=Bc.Bx.1 (a.2.mem_iff.1 b);rw[Yf,Y2 om];exact jG _
theorem N1{A C:Lv}{j:Nat}(h:vs[j]?=some v):(A++(vs++C))[A.length+j]?=some v:=by
 rw[Yw om,aS,Ye (Y1.1 h).1];exact h
def w0(c:Cf):Wd:=⟨On c.room,[],[],0⟩
theorem q8(c:Cf):A6 (w0 c):=⟨by simp[w0],Wf.nil,λd h=>by simp[w0]at h,by simp[w0],by unfold w0 On;(try dsimp only);omega⟩
theorem Xok(c:Cf)(r:c.fits)(a:Oa)(cap:Nat)(R:Oa)(g:Nat)(hK:AX I)(hP:Bf I)(hl:B2 I a c.BL)(hU:BC I R c.us)(N:La)(b:Aa B w I N):Cz 107 [.agg (Ie c a cap R g).toArray] w λv w'=>∃J,Le I J/\((FX c≠0/\v=.tuple #[.pointer none,Ab (FX c:Nat)]/\Aa B w' J N)\/(FX c=0/\∃p D,Bc.Ord (kx (C4 c.BL)) c.BL.length D/\p.lo=KV c.BL D/\p.us=c.us/\p.ps=c.ps/\v=.tuple #[ptr p.wb 0,Ab 0]/\BK J p/\Aa B w' J (AN p (w0 c)::N))):=by
 refine gH 5 ?_;intro b1 w b;refine gF 0 (ZO a cap _ r.BL r.C4 r.Rz hl) ?_;rintro v w ⟨J,E,b,W⟩;obtain⟨Z,e9,i9,rfl,l,Y⟩:∃(Z:Va) (e9 i9:Nat),v=.tuple #[Z,Ab (e9:Nat),Ab (i9:Nat)]/\e9=(Hg c.BL).1/\(e9=0->∃H D,Z=.pointer (some H)/\Bc.Ord (kx (C4 c.BL)) c.BL.length D/\G3 J H (KV c.BL D)):=by
  rcases W with⟨t,x⟩|⟨t,H,D,x,U,h4⟩
  ·exact⟨_,_,_,x,O,λh=>Yz h t⟩
  ·exact⟨_,0,0,x,t.symm,λ_=>⟨H,D,O,U,h4⟩⟩
 refine gM 9 ?_ ?_<;>intro n ab
 ·refine gG 3 ?_;have f:(Hg c.BL).1≠0:=by rw[<-l];simpa using n
  have i:FX c=e9:=by rw[FX,Y9 f,l]
  exact⟨J,E,.inl ⟨by rw[i,l];exact f,by rw[i],b.s⟩⟩
 refine gF 2 (Xqo R _ _ r.us r.RR (hU.mono E)) ?_;rintro v w ⟨S,d,P,b⟩;have G:(Hg c.BL).1=0:=by rw[<-l];simpa using n
 obtain⟨H,D,rfl,e,Q⟩:=Y om;obtain⟨uv,f9,j9,rfl,m,X⟩:∃(uv:Va) (f9 j9:Nat),v=.tuple #[uv,Ab (f9:Nat),Ab (j9:Nat)]/\f9=(Gi c.us 0 []).1/\(f9=0->∃K,uv=ptr K 0/\EL S K c.us):=by
  rcases P with⟨t,K,x,U⟩|⟨t,x⟩
  ·exact⟨_,0,0,x,t.symm,λ_=>⟨K,O,U⟩⟩
  ·exact⟨_,_,_,x,O,λh=>Yz h t⟩
 refine gM 9 ?_ ?_<;>intro o ac
 ·refine gG 3 ?_;have f:(Gi c.us 0 []).1≠0:=by rw[<-m];simpa using o
  have i:FX c=f9:=by rw[FX,Y3 (nB G),Y9 f,m]
  exact⟨S,E.trans d,.inl ⟨by rw[i,m];exact f,by rw[i],b.s⟩⟩
 refine gH 1 (.val (.DY (vs:=[Ab (c.ps 0),Ab (c.ps 1),Ab (c.ps 2),Ab (c.ps 3),Ab (c.ps 4),Ab (c.ps 5),Ab (c.ps 6),Ab (c.ps 7),Ab (c.ps 8),Ab (c.ps 9),Ab (c.ps 10),Ab (c.ps 11),Ab (c.ps 12),Ab (c.ps 13),Ab (c.ps 14),Ab (c.ps 15),Ab (c.ps 16),Ab (c.ps 17),Ab (c.ps 18),Ab (c.ps 19),Ab (c.ps 20)]) (.of O) b (k:=0) O O5 HA O (λj v V=>N1 (A:=[.slice a c.BL.length cap,.slice R c.us.length g]) (C:=[Ab c.room,AM c.base,AM c.HR,AM c.most,Ab c.tries]) V)) O (gE 0 (Xzr _) ?_));intro w b;have F:(Gi c.us 0 []).1=0:=by rw[<-m];simpa using o
 obtain⟨K,rfl,M⟩:=X om;refine gM 1 ?_ ?_<;>intro q ad
 ·refine gG 2 ?_;have i:FX c=1:=by rw[FX,Y3 (nB G),Y3 (nB F),Y9 (su q)]
  exact⟨S,E.trans d,.inl ⟨by rw[i];decide,by rw[i];first|done|rfl,b.s⟩⟩
 refine gG 0 (gD [0] [] [0,1,4,5,6,7,2,3,8,9,10,11] ?_);intro w b;refine gH 5 (A1.y 7 (λw _ _ aj b=>.DY (vs:=[Ab (c.ps 0),Ab (c.ps 1),Ab (c.ps 2),Ab (c.ps 3),Ab (c.ps 4),Ab (c.ps 5),Ab (c.ps 6),Ab (c.ps 7),Ab (c.ps 8),Ab (c.ps 9),Ab (c.ps 10),Ab (c.ps 11),Ab (c.ps 12),Ab (c.ps 13),Ab (c.ps 14),Ab (c.ps 15),Ab (c.ps 16),Ab (c.ps 17),Ab (c.ps 18),Ab (c.ps 19),Ab (c.ps 20)]) (.of O) b (k:=0) O O5 HA O (λj v V=>N1 (A:=[.slice a c.BL.length cap,.slice R c.us.length g]) (C:=[Ab c.room,AM c.base,AM c.HR,AM c.most,Ab c.tries]) V)) (gF 0 (Xgv _) ?_));rintro _ w ⟨tb,rfl,b⟩;refine gF 0 (Xst) ?_;rintro _ w ⟨mb,rfl,b⟩;refine gH 2 ?_;intro L w b;refine gG 2 ?_;have i:FX c=0:=by rw[FX,Y3 (nB G),Y3 (nB F),Y3 (su q)]
 have hp:=Q0 e;refine⟨S,E.trans d,.inr ⟨i,⟨L,tb,mb,K,H,KV c.BL D,c.us,c.ps⟩,D,e,O,O,O,O,⟨Q.mono d,M,?_,λs hs=>(r.Rz s (hp s hs)).2.2,r.RR,λu hu=>Xgy (xU c.us 0 [] F u hu),(hK.mono E).mono d,(hP.mono E).mono d⟩,?_⟩⟩
 ·show(KV c.BL D).length<=100000
  rw[KV,Yj,e.len];exact Yq r.BL de
 ·exact Aa.box (T:=Bm ⟨L,tb,mb,K,H,KV c.BL D,c.us,c.ps⟩ (w0 c)) (none,0,none,0) (b.z [2,2,4,4,4] 5 1)
end Go.Proofs.W9
namespace Gk
open Go
abbrev pk(s:Lu):Lv:=[S s]
theorem qS(l:List Lu):X2 pk l=l.map S:=by
 unfold X2
 induction l with
 | nil=>rfl
 | cons x l a=>rw[Yu,Fx,a];rfl
theorem aN{cells:α->Lv}{s:Nat}(c:∀x,(cells x).length=s){l:List α}(b:RS I a s l.length (X2 cells l)){x:α}(hx:l[i]?=some x):∃q,a=some q/\At I (q.add (i*s)) (cells x):=Go.Proofs.W9.Be c b hx
end Gk
namespace Go.Proofs.W9
open Gk Ul Pc
open Tryz
theorem sx(s:Lu)(i:Nat)(h:i<s.length):Aq (s.take (i+1))=Aq (s.take i)++GC (at_ s (i:Int)):=by
 rw[Yv,D4 h,cD];show _++Aq [_]=_
 rw[show Aq [at_ s (i:Int)]=GC (at_ s (i:Int))++[] from O,Yy]
theorem U2(s:Lu)(i:Nat)(h:i<=s.length):(Aq (s.take i)).length<=3*i:=by
 have:=YZ (s.take i)
 rw[Yl]at this;omega
theorem N9{c:Ui}(h:plain c=true):GC c=[c]:=by rw[GC,Y9 h]
theorem N8{c:Ui}(h:plain c=false):GC c=Fc c:=by rw[GC,Y3 (nB h)]
theorem vC(s:Lu)(n:s.length<=1000000)(l:Bw I)(N:La)(a:Aa B w I N):Ce B I N 125 [S s] w (S (Aq s)):=by
 refine gG 5 ?_;intro c w a;replace a:=(a.Ai 5 1).pick 1 O;refine .lk [0,3,7] (σ:=Va×Va×Nat) (λ(p,v,i) _m=>(8,Ab (i:Nat))::_m) (λ(p,v,i) w=>i<=s.length/\(p=.pointer none\/p=ptr c 0)/\((Aq (s.take i))=[]->v=.slice none 0 0)/\Aa B w I (Ac c [p,v] 309::An 5 1 v ((Aq (s.take i))).length (Ao ((Aq (s.take i))))::N)) (λ(p,v,i)=>s.length-i) (.pointer none,.slice none 0 0,0) ⟨Y4 _,.inl O,λ_=>rfl,a⟩ ?_;rintro⟨p,v,i⟩ w ⟨hi,j,d,a⟩;refine gN 1 ?_ ?_<;>intro k
 ·have m:=U2 s i om;refine gC 7 (lV _ _) ?_;rintro _ _ ⟨rfl,rfl⟩;refine gM 0 ?_ ?_<;>intro b g
  ·refine gC 1 (Xju c p v _ _ j _ a om) ?_;rintro _ w ⟨rfl,f,a⟩;refine gG 2 (A_ (_,f,i+1) O ⟨om,.inr O,λh=>Yz h ?_,?_⟩)
   ·try dsimp only
    rw[sx s i om,N9 b];exact λe=>by have:=Yc List.length e;simp[Fc]at this
   ·try dsimp only
    rw[sx s i om,N9 b];exact a
  refine gE 1 (Xg4 _ l) ?_;intro w a;refine gC 0 (ZW c p v _ _ j _ a (by simp only[Fc,Y5,Yh];omega)) ?_;rintro _ w ⟨rfl,f,a⟩;refine gG 2 (A_ (_,f,i+1) O ⟨om,.inr O,λh=>Yz h ?_,?_⟩)
  ·try dsimp only
   rw[sx s i om,N8 b];exact λe=>by have:=Yc List.length e;simp[Fc]at this
  ·try dsimp only
   rw[sx s i om,N8 b];exact a
 refine gE 0 (rL c p v _ d) ?_;intro w a;refine gG 1 (⟨?_,a⟩);rw[show i=s.length by omega,Fy]
theorem Xei(c:Ui)(b a:Bool)(i:Nat)(N:La)(g:Aa B w I (Ac i [.bool a] 4::N)):Ce B I (Ac i [.bool a] 4::N) 336 [U8 c.toNat,.bool b,ptr i 0] w (S [if b=true then c else dB a c]):=by
 refine gM 10 ?_ ?_<;>intro d j
 ·refine gG 1 (⟨?_,g⟩);have f:=d;cases b
  ·simp only[Y8,beq_iff_eq,gp,pP]at f
   have e:c=43:=CS.1 (by have:=f.2;show c.toNat=43;omega);rw[Y3 de,dB,f.1,e];rfl
  ·simp at f
 refine gH 2 ?_;intro l w g;refine .val (.XI (c:=c) (.of O) g (k:=0) O O BV BP A8) O (gG 1 (⟨?_,g.s⟩));have f:=d;cases b
 ·rw[Y3 de,dB,Y3];intro h;simp only[Y8,beq_iff_eq]at h
  rw[h.1,h.2]at f
  revert f;decide
 ·rw[Y9 O]
theorem Qq(s:Lu)(H:s.length<=1000000)(a:Bool)(k:Nat)(F:Bw I)(N:La)(b:Aa B w I (Ac k [.bool a] 4::N)):Cz 335 [S s,.func (.func 336) #[] #[ptr k 0]] w λv w'=>∃u n,v=.tuple #[S u,Ab (n:Nat)]/\(match dec a s with|none=>u=[]/\n=11|some t=>u=t/\n=0)/\Aa B w' I N:=by
 refine gG 4 ?_;intro l w b;replace b:=(b.Ai 5 1).pick 1 O;refine .lk [0,1,6] (σ:=Lu×Va×Va×Nat) (λ(out,p,v,i) _m=>(7,Ab (i:Nat))::_m) (λ(out,p,v,i) w=>i<=s.length/\out.length+(s.length-i)<=s.length/\dec a s=(dec a (s.drop i)).map (out++·)/\(p=.pointer none\/p=ptr l 0)/\(out=[]->v=.slice none 0 0)/\Aa B w I (Ac l [p,v] 309::An 5 1 v (out).length (Ao (out))::Ac k [.bool a] 4::N)) (λ(out,p,v,i)=>s.length-i) ([],.pointer none,.slice none 0 0,0) ⟨Y4 _,by simp,by simp,.inl O,λ_=>rfl,b⟩ ?_;rintro⟨out,p,v,i⟩ w ⟨hi,G,j,D,o,b⟩;refine gN 4 ?_ ?_<;>intro z
 ·refine gM 4 ?_ ?_<;>intro d A
  ·refine gH 4 (.Bv (cap:=[ptr k 0]) func336 O (.of O) (A3 O (A3 O X4)) O (Xei (at_ s (i:Int)) false a k _ (b.x [2])) ?_);rintro _ w ⟨rfl,b⟩;replace b:=(b.pick 2 O).pick 2 O;rw[Y3 de];refine gC 0 (ZW l p v out _ D _ b (by simp only[Y5,Yh];omega)) ?_;rintro _ w ⟨rfl,y,b⟩;refine gG 3 ?_;have g:at_ s (i:Int)≠37:=λe=>by rw[e]at d;simp at d
   refine A_ (_,_,y,i+1) O ⟨om,by rw[Y0];simp only[Y5,Yh];omega,?_,.inr O,λh=>Yz h sz,b⟩;rw[j,X7 s om,fp,Y3 g];cases dec a (s.drop (i+1))<;>simp
  refine gF 2 (XZ s i om F) ?_;rintro _ w ⟨J,ok,rfl,c,b⟩;refine gM 7 ?_ ?_<;>intro f C
  ·refine gG 2 (⟨[],11,O,?_,b.s⟩);have g:at_ s (i:Int)=37:=CS.1 (by simp only[bne_eq_false_iff_eq]at d;show(at_ s (i:Int)).toNat=37;omega);have m:Pc.told (s.drop (i+1))=none:=by
    cases m:Pc.told (s.drop (i+1))with
    | none=>rfl
    | some v=>rw[m]at c;rw[c.1]at f;simp at f
   have:dec a s=none:=by rw[j,X7 s om,fp,Y9 g,m];rfl
   rw[this];exact⟨O,O⟩
  have g:at_ s (i:Int)=37:=CS.1 (by simp only[bne_eq_false_iff_eq]at d;show(at_ s (i:Int)).toNat=37;omega);obtain⟨E,q⟩:∃v,Pc.told (s.drop (i+1))=some v:=by
   cases m:Pc.told (s.drop (i+1))with
   | some v=>exact⟨v,O⟩
   | none=>rw[m]at c;simp only at c;rw[c]at f;simp at f
  rw[q]at c;obtain⟨_,rfl⟩:=c;have r:=Z4 q;rw[Y6]at r;refine gH 2 (.Bv (cap:=[ptr k 0]) func336 O (.of O) (A3 O (A3 O X4)) O (Xei E true a k _ (b.x [2])) ?_);rintro _ w ⟨rfl,b⟩;replace b:=(b.pick 2 O).pick 2 O;rw[Y9 O];refine gC 0 (ZW l p v out _ D _ b (by simp only[Y5,Yh];omega)) ?_;rintro _ w ⟨rfl,y,b⟩;refine gG 6 ?_;refine rd (out++[E],ptr l 0,y,i+3) ⟨om,by rw[Y0];simp only[Y5,Yh];omega,?_,.inr O,λh=>Yz h sz,b⟩;rw[j,X7 s om,fp,Y9 g,q];simp only[Gj]
  cases dec a (s.drop (i+3))<;>simp[pQ]
 refine gE 0 (rL l p v out o) ?_;intro w b;refine gG 2 (⟨out,0,O,?_,b.s⟩)
 have:dec a s=some out:=by rw[j,Yb om,xL];simp
 rw[this];exact⟨O,O⟩
theorem Xhx(s:Lu)(g:s.length<=1000000)(a:Bool)(f:Bw I)(N:La)(d:Aa B w I N):Cz 237 [S s,.bool a] w λv w'=>∃c b,v=.tuple #[S c,Ab (b:Nat)]/\(match dec a s with|none=>c=[]/\b=11|some t=>c=t/\b=0)/\Aa B w' I N:=by
 refine gH 5 ?_;intro e w d;refine gF 0 (Qq s g a e f) ?_;rintro _ w ⟨c,b,rfl,h,d⟩;exact gG 4 ⟨c,b,O,h,d⟩
theorem Xas(s:Lu)(J:s.length<=1000000)(a:Bool)(N:La)(o:Aa B w I N):Cz 135 [S s,.bool a] w λv w'=>∃z r,v=.tuple #[S z,Ab (r:Nat)]/\(match dec a s with|none=>z=[]/\r=11|some t=>z=t/\r=0)/\Aa B w' I N:=by
 refine gG 4 (.lk [0,1] (σ:=Lu×Nat) (λ(out,i) _m=>(6,S out)::(7,Ab (i:Nat))::_m) (λ(out,i) w=>i<=s.length/\out.length+(s.length-i)<=s.length/\dec a s=(dec a (s.drop i)).map (out++·)/\Aa B w I N) (λ(out,i)=>s.length-i) ([],0) ⟨Y4 _,by simp,by simp,o⟩ ?_);rintro⟨out,i⟩ w ⟨hi,G,n,o⟩;refine gN 4 ?_ ?_<;>intro A
 ·refine gM 5 ?_ ?_<;>intro b C
  ·refine gC 2 (Xti s _ om om _) ?_;rintro _ _ ⟨rfl,rfl⟩;rw[eK];refine gN 3 ?_ ?_<;>intro g
   ·refine gG 2 (⟨[],11,O,?_,o⟩);have d:at_ s (i:Int)=37:=CS.1 (by simp only[beq_iff_eq]at b;show(at_ s (i:Int)).toNat=37;omega);have q:told (s.drop (i+1))=none:=by
     cases q:told (s.drop (i+1))with
     | none=>rfl
     | some v=>rw[q]at g;simp at g;omega
    have:dec a s=none:=by rw[n,X7 s om,fp,Y9 d,q];rfl
    rw[this];exact⟨O,O⟩
   have d:at_ s (i:Int)=37:=CS.1 (by simp only[beq_iff_eq]at b;show(at_ s (i:Int)).toNat=37;omega);obtain⟨E,u⟩:∃v,told (s.drop (i+1))=some v:=by
    cases q:told (s.drop (i+1))with
    | some v=>exact⟨v,O⟩
    | none=>rw[q]at g;simp at g
   rw[u];have x:=Z4 u;rw[Y6]at x;have H:=E.toNat_lt;refine gH 4 ?_;intro F w o;refine .val (.XI (c:=E) (.of O) o (k:=0) O O BV BP A8) O (.val (.cat (.of O) (.of O) (by simp only[Y5,Yh];omega)) O (gG 7 ?_));have d:at_ s (i:Int)=37:=CS.1 (by simp only[beq_iff_eq]at b;show(at_ s (i:Int)).toNat=37;omega);refine A_ (_,i+3) O ⟨om,by rw[Y0];simp only[Y5,Yh];omega,?_,o.y 0 1⟩;rw[n,X7 s om,fp,Y9 d,u];simp only[Gj]
   cases dec a (s.drop (i+3))<;>simp[pQ]
  refine gM 8 ?_ ?_<;>intro f D
  ·refine gH 1 (.val (.cat (l:=out) (m:=[32]) (.of O) (.of O) (by simp only[Y5,Yh];omega)) O (gG 4 ?_));have d:at_ s (i:Int)≠37:=λe=>by rw[e]at b;simp at b
   have p:dB a (at_ s (i:Int))=32:=by
    simp only[Y8,beq_iff_eq]at f
    have e:at_ s (i:Int)=43:=CS.1 (by have:=f.1;show(at_ s (i:Int)).toNat=43;omega);rw[dB,f.2,e];rfl
   refine rd (out++[32],i+1) ⟨om,by rw[Y0];simp only[Y5,Yh];omega,?_,o⟩;rw[n,X7 s om,fp,Y3 d,p];cases dec a (s.drop (i+1))<;>simp
  refine gH 5 (.val (.H7 (l:=s) (i:=(i:Int)) (j:=(i:Int)+1) (.of O) (.of O) (.of O) om om om A8) O ?_);rw[show(s.drop (i:Int).toNat).take (((i:Int)+1).toNat-(i:Int).toNat)=[at_ s (i:Int)]by(try rw[Yd]);rw[show((i:Int)+1).toNat-i=1 by omega,X7 s om];rfl];refine .val (.cat (.of O) (.of O) (by simp only[Y5,Yh];omega)) O (gG 4 ?_);have d:at_ s (i:Int)≠37:=λe=>by rw[e]at b;simp at b
  have p:dB a (at_ s (i:Int))=at_ s (i:Int):=by
   rw[dB,Y3];intro h;simp only[Y8,beq_iff_eq]at h
   rw[h.1,h.2]at f
   revert f;decide
  refine rd (out++[at_ s (i:Int)],i+1) ⟨om,by rw[Y0];simp only[Y5,Yh];omega,?_,o⟩;rw[n,X7 s om,fp,Y3 d,p];cases dec a (s.drop (i+1))<;>simp
 refine gG 3 (⟨out,0,O,?_,o⟩)
 have:dec a s=some out:=by rw[n,Yb om,xL];simp
 rw[this];exact⟨O,O⟩
open Tk Tr
def R1(l:List Ah)(name:Lu):List Lu:=((path l name).filter λr=>(r.kind:Int)==4).map Ah.url
theorem Xeo(p:Wp)(Z:Wd)(a:Oa)(c:Nat)(G:Z.l.length<=64)(e:Wf Z.l)(name:Lu)(N:La)(b:Aa B w I (Ac p.wb (Ca p Z) 85::Ba p.tb Z.room a c Z.l N)):Cz 219 [ptr p.wb 0,S name] w λv w'=>∃J ka j,v=.slice ka (R1 Z.l name).length j/\Le I J/\(R1 Z.l name).length<=j/\RS J ka 1 (R1 Z.l name).length ((R1 Z.l name).map S)/\Aa B w' J (Ac p.wb (Ca p Z) 85::Ba p.tb Z.room a c Z.l N):=by
 refine gG 2 ?_;replace b:=b.Ai 9 1;refine gF 5 (wZ _ Z.room a c Z.l om e name) ?_;rintro _ w ⟨J,pa,W,rfl,P,R,t,b⟩;have T:=mq e name;replace b:=b.px [3,3];refine gG 2 (.lk [0,15,16] (σ:=Nat×Va) (λ(i,f) _m=>(5,f)::(17,Ab (i:Nat))::_m) (λ(i,f) w=>i<=(path Z.l name).length/\Aa B w J (An 9 1 f ((((path Z.l name).take i).filter λr=>(r.kind:Int)==4).map Ah.url).length (((((path Z.l name).take i).filter λr=>(r.kind:Int)==4).map Ah.url).map S)::Ac p.wb (Ca p Z) 85::Ba p.tb Z.room a c Z.l N)) (λ(i,f)=>(path Z.l name).length-i) (0,.slice none 0 0) ⟨Y4 _,b⟩ ?_);rintro⟨i,f⟩ w ⟨hi,b⟩;refine gM 1 ?_ ?_<;>intro D E
 ·obtain⟨r,C⟩:∃r,(path Z.l name)[i]?=some r:=⟨_,Y2 om⟩
  obtain⟨q,U⟩:=sG (Y7 C);have x:getD Z.l r.name=r:=by rw[getD,e.qf U];rfl
  obtain⟨X,rfl,M⟩:=t.2 om;have A:((path Z.l name).map λr=>S r.name)[i]?=some (S r.name):=by rw[Yr,C];rfl
  have u:=EP (λr:Ah=>(r.kind:Int)==4) ((path Z.l name).take i);rw[Yl]at u;have Q:((((path Z.l name).take i).filter λr=>(r.kind:Int)==4).map Ah.url).length=(((path Z.l name).take i).filter λr=>(r.kind:Int)==4).length:=Yj _;have g:((((path Z.l name).take (i+1)).filter λr=>(r.kind:Int)==4).map Ah.url)=((((path Z.l name).take i).filter λr=>(r.kind:Int)==4).map Ah.url)++([r].filter λr=>(r.kind:Int)==4).map Ah.url:=by rw[Yv,C,DE,T5,Yn]
  refine gH 1 ?_;refine .val (.ld1 (.of O) (by have L:=Xv b M A;simpa using L) Bg) O ?_;refine gE 6 (E5 p.tb Z.room a c Z.l om r.name) ?_;intro w b;rw[x];refine gG 9 ?_;intro V w b;refine gM 0 ?_ ?_<;>intro d F
  ·refine gG 8 ?_;intro K m n h w b;refine rd (i+1,.slice m (((((path Z.l name).take i).filter λr=>(r.kind:Int)==4).map Ah.url).length+1) n) ⟨om,?_⟩;rw[g,Jq,Y9 (su d),gk,Yu,ED,Yn,show(((((path Z.l name).take i).filter λr=>(r.kind:Int)==4).map Ah.url)++[r.url]).length=((((path Z.l name).take i).filter λr=>(r.kind:Int)==4).map Ah.url).length+1 from Y0];exact(((((b.drop (k:=0) O).pick 1 O).pick 1 O).pick 3 O).pick 3 O)
  refine gG 2 (rd (i+1,f) ⟨om,?_⟩);rw[g,Jq,Y3 (su d),gk,ED,Yy];exact(((((b.drop (k:=0) O).pick 1 O).pick 1 O).pick 3 O).pick 3 O)
 refine gG 2 ?_;have y:i=(path Z.l name).length:=om
 subst y;rw[Fy]at b;obtain⟨ka,j,rfl,z,_⟩:=b.vS 0;obtain⟨H,o,s,b⟩:=b.fV 0;exact⟨H,ka,j,O,P.trans o,z,s,b⟩
structure Qr where
 ticket:Lu
 service:Lu
 renew:Bool
 Av:Bool
abbrev Oi(q:Qr):Lv:=[S q.ticket,S q.service,.bool q.renew,.bool q.Av]
def Ki(s:List UInt8):Int:=match Ey s with
 | some (k,_)=>(k:Nat)
 | none=>0
def Xo(ps:Nat->Int)(Z:Wd)(q:Qr):(Ah×Nat)×Wd :=
 if(q.ticket==[]||q.service==[])=true then((r0,33),Z)
 else if(Ki q.ticket !=2&&Ki q.ticket !=3)=true then((r0,30),Z)
 else if(Ki q.ticket==3&&!q.Av)=true then((r0,32),Z)
 else if(!(Xu ps Z q.ticket (Ki q.ticket)).2||decide (0<(Xu ps Z q.ticket (Ki q.ticket)).1.AV))=true then((r0,30),Z)
 else(((Xu ps Z q.ticket (Ki q.ticket)).1,0),MZ Z (PB (Xu ps Z q.ticket (Ki q.ticket)).1 Z.now))
theorem mw{Z:Wd}(h:A6 Z)(q:Qr):A6 (Xo ps Z q).2:=by
 unfold Xo
 repeat' split
 all_goals first|exact h|exact ti h _
theorem Me{Z:Wd}(h:A6 Z)(q:Qr):(Xo ps Z q).1.1.service.length<=100:=by
 have key:(Xu ps Z q.ticket (Ki q.ticket)).1.service.length<=100:=by
  unfold Xu;split
  ·decide
  ·rcases rY h.wf q.ticket with⟨_,e⟩|⟨_,a,_⟩
   ·rw[e];decide
   ·unfold C7 at a;simp only[Y8,dq1]at a
    show(getD Z.l q.ticket).service.length<=100
    omega
 unfold Xo
 repeat' split
 all_goals first|exact key|exact Y4 _
theorem Xze(s:Lu):∃(d:Nat) (b:Bool),(match Ey s with|some (k,d)=>Value.tuple #[Ab (k:Nat),Bo (d:Nat),.bool true]|none=>.tuple #[Ab 0,Bo 0,.bool false])=.tuple #[Ab (Ki s),Bo (d:Nat),.bool b]:=by
 unfold Ki;cases Ey s with
 | none=>exact⟨0,false,O⟩
 | some x=>exact⟨x.2,true,O⟩
theorem eR(q:Qr)(m:q.ticket.length<=1000000)(p:Wp)(Z:Wd)(k:A6 Z)(j:BK I p)(N:La)(b:Aa B w I (AN p Z::N)):Ce B I (AN p (Xo p.ps Z q).2::N) 348 [ptr p.wb 0,.agg (Oi q).toArray] w (.tuple #[.agg (Xa (Xo p.ps Z q).1.1).toArray,Ab ((Xo p.ps Z q).1.2:Nat)]):=by
 refine gG 11 ?_;intro F G w b;refine gM 0 ?_ ?_<;>intro d r
 ·refine gH 3 ?_;intro w b;refine gG 0 ?_;have g:Xo p.ps Z q=((r0,33),Z):=by rw[Xo,Y9 d]
  rw[g];exact⟨O,b.s⟩
 refine gF 2 (wh _ m j.known j.pre) ?_;rintro v w ⟨o,b⟩;obtain⟨J,A,C⟩:=Xze q.ticket;have n:=o.trans C;subst n;refine gM 14 ?_ ?_<;>intro e t
 ·refine gH 3 ?_;intro w b;refine gG 0 ?_;have g:Xo p.ps Z q=((r0,30),Z):=by rw[Xo,Y3 (nB d),Y9 e]
  rw[g];exact⟨O,b.s⟩
 refine gM 8 ?_ ?_<;>intro f u
 ·refine gH 3 ?_;intro w b;refine gG 0 ?_;have g:Xo p.ps Z q=((r0,32),Z):=by rw[Xo,Y3 (nB d),Y3 (nB e),Y9 f]
  rw[g];exact⟨O,b.s⟩
 refine gE 4 (iH _ _ p Z k) ?_;intro w b;refine gG 13 ?_;intro H w b;refine gM 0 ?_ ?_<;>intro i x
 ·refine gH 3 ?_;intro w b;refine gG 0 ?_;have g:Xo p.ps Z q=((r0,30),Z):=by rw[Xo,Y3 (nB d),Y3 (nB e),Y3 (nB f),Y9 i]
  rw[g];exact⟨O,b.s⟩
 refine gG 0 ?_;replace b:=b.px [1];obtain⟨a,c,D,E,b⟩:=El b;have z:=k.len;have h:=ve (ps:=p.ps) k q.ticket (Ki q.ticket);refine gD [5,0] [] [0,1,2,3,4,5,6,7,8,9,10] ?_;intro w b;refine gE 9 (wj _ _ h.2.2.1 h.2.2.2) ?_;intro w b;refine gE 0 (sQ _ Z.room a c Z.l om (PB (Xu p.ps Z q.ticket (Ki q.ticket)).1 Z.now) (Yq h.1 de) (Yq h.2.1 de) j.known j.pre) ?_;intro w b;refine gH 3 ?_;intro w b;refine gG 0 ?_;replace b:=Aa.box (T:=Bm p (MZ Z (PB (Xu p.ps Z q.ticket (Ki q.ticket)).1 Z.now))) (a,c,D,E) (b.px [4,4,3,3,4]);have g:Xo p.ps Z q=(((Xu p.ps Z q.ticket (Ki q.ticket)).1,0),MZ Z (PB (Xu p.ps Z q.ticket (Ki q.ticket)).1 Z.now)):=by rw[Xo,Y3 (nB d),Y3 (nB e),Y3 (nB f),Y3 (nB i)]
 rw[g];exact⟨O,(b.y 1 3)⟩
def Cc:List (Int×Lu):=[(33,[73,78,86,65,76,73,68,95,82,69,81,85,69,83,84]),(30,[73,78,86,65,76,73,68,95,84,73,67,75,69,84]),(32,[73,78,86,65,76,73,68,95,84,73,67,75,69,84,95,83,80,69,67]),(31,[73,78,86,65,76,73,68,95,83,69,82,86,73,67,69]),(36,[85,78,65,85,84,72,79,82,73,90,69,68,95,83,69,82,86,73,67,69]),(34,[73,78,86,65,76,73,68,95,80,82,79,88,89,95,67,65,76,76,66,65,67,75]),(0,[])]
def SK:Lu:=[73,78,84,69,82,78,65,76,95,69,82,82,79,82]
def fL(e:Int):Lu:=(Cc.lookup e).getD SK
theorem vV{α β γ:Type}[BEq α](f:β->γ)(k:α):∀l:List (α×β),(l.map λp=>(p.1,f p.2)).lookup k=(l.lookup k).map f
 | []=>rfl
 | (a,b)::l=>by
  rw[Yu,List.lookup,List.lookup];cases k==a with
  | true=>rfl
  | false=>exact vV f k l
theorem Qg(N:La)(a:Aa B w I N):Cz 351 [] w λv w'=>∃b,v=.map (some b)/\Aa B w' I (K3 Ab b (Cc.map λp=>(p.1,S p.2))::N):=by
 refine gG 1 (.mkMap Ab a O ?_);intro b1 w a;refine .B6 (key:=33) Ko a (k:=0) O (.of O) (.of O) (.of O) O fJ I7 ?_;intro w a;refine .B6 (key:=30) Ko a (k:=0) O (.of O) (.of O) (.of O) O fJ I7 ?_;intro w a;refine .B6 (key:=32) Ko a (k:=0) O (.of O) (.of O) (.of O) O fJ I7 ?_;intro w a;refine .B6 (key:=31) Ko a (k:=0) O (.of O) (.of O) (.of O) O fJ I7 ?_;intro w a;refine .B6 (key:=36) Ko a (k:=0) O (.of O) (.of O) (.of O) O fJ I7 ?_;intro w a;refine .B6 (key:=34) Ko a (k:=0) O (.of O) (.of O) (.of O) O fJ I7 ?_;intro w a;refine .B6 (key:=0) Ko a (k:=0) O (.of O) (.of O) (.of O) O fJ I7 ?_;intro w a;exact gG 2 ⟨b1,O,a⟩
theorem Xu7(e:Int)(N:La)(b:Aa B w I N):Ce B I N 260 [Ab e] w (S (fL e)):=by
 refine gF 1 (Qg) ?_;rintro _ w ⟨i,rfl,b⟩;refine gH 1 ?_;refine .val (v:=.tuple #[S ((Cc.lookup e).getD []),.bool (Cc.lookup e).isSome]) (by have c:=vV S e Cc;have g:((Cc.map λp=>(p.1,S p.2)).lookup e).getD (S [])=S ((Cc.lookup e).getD []):=by { rw[c];cases Cc.lookup e<;>rfl };have f:((Cc.map λp=>(p.1,S p.2)).lookup e).isSome=(Cc.lookup e).isSome:=by { rw[c];cases Cc.lookup e<;>rfl };rw[<-g,<-f];exact .VP (key:=e) Ko (b.LM (k:=0) O) (.of O) (.of O) fJ I7 KL) O ?_;refine gM 6 ?_ ?_<;>intro a d
 ·refine gG 2 (⟨?_,b.s⟩);rw[fL];cases h:Cc.lookup e with
  | none=>rw[h]at a;cases a
  | some s=>rfl
 refine gG 1 (⟨?_,b.s⟩);rw[fL];cases h:Cc.lookup e with
 | none=>rfl
 | some s=>rw[h]at a;cases a
structure Sx where
 user:Lu
 attrs:List Pr
 Av:List Lu
 B0:Lu
def ID:Sx:=⟨[],[],[],[]⟩
def FN(J:Im)(x:Sx)(cs:Lv):Prop:=∃ka a pa b,cs=[S x.user,.slice ka x.attrs.length a,.slice pa x.Av.length b,S x.B0]/\x.attrs.length<=a/\RS J ka 2 x.attrs.length (X2 X5 x.attrs)/\x.Av.length<=b/\RS J pa 1 x.Av.length (x.Av.map S)
theorem pj(J:Im):FN J ID [S [],.slice none 0 0,.slice none 0 0,S []]:=⟨none,0,none,0,O,Ya _,⟨O,λh=>Yz h (by simp[ID])⟩,Ya _,O,λh=>Yz h (by simp[ID])⟩
theorem FN.mono{x:Sx}(h:FN I x cs)(a:Le I J):FN J x cs:=by
 obtain⟨ka,g,pa,i,e,b,c,d,f⟩:=h;exact⟨ka,g,pa,i,e,b,c.mono a,d,f.mono a⟩
def Ke(ps:Nat->Int)(Z:Wd)(q:Qr):Nat :=
 if(Xo ps Z q).1.2≠0 then(Xo ps Z q).1.2
 else if((((Ul.nU q.service).2:Nat):Int)!=0||!((Ul.nU q.service).1==(Xo ps Z q).1.1.service))=true then 31
 else if(q.renew&&!(Xo ps Z q).1.1.fresh)=true then 30 else 0
def Kf(lo:List Sv)(us:List Us)(ps:Nat->Int)(Z:Wd)(q:Qr):Sx :=
 if Ke ps Z q≠0 then ID
 else⟨(Xo ps Z q).1.1.user,R4 us (Xo ps Z q).1.1.user (Xk lo (Xo ps Z q).1.1.service).1.rel,R1 (Xo ps Z q).2.l (Xo ps Z q).1.1.name,[]⟩
theorem rX(lo:List Sv)(s:Lu):(Xk lo s).1=z0\/(Xk lo s).1∈lo:=by
 unfold Xk;split
 ·exact .inl O
 ·split
  ·exact .inl O
  ·split
   ·exact .inl O
   ·rename_i h;exact .inr (pA h)
theorem Uq{us:List Us}(h:∀u∈us,u.attrs.length<=8)(name:Lu):(Cw us name).length<=8:=by
 unfold Cw;split
 ·rename_i e;exact h _ (pA e)
 ·simp
end Go.Proofs.W9
