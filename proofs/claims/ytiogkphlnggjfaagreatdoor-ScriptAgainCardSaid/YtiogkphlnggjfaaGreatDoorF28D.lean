/- Part 4 of what the proof stands on. -/
import Derived.Test.YtiogkphlnggjfaaGreatDoorF28C
set_option linter.unusedVariables false
set_option linter.unusedSimpArgs false
set_option maxHeartbeats 2000000
set_option maxRecDepth 100000
set_option synthInstance.maxHeartbeats 400000
set_option synthInstance.maxSize 10000
open Go Gk
variable {p:Addr}{Ac:Array Bool}{af:Array Edge}{fs:Array Field}{ops Ew:Array Oper}{ts:Array TypeId}{held w1 want:Bool}{R:Ending->Wo->Prop}{L L' M:AD}{fd:Field}{fn:Func}{f:FuncId}{I J:Im}{DW DZ hi room D3:Int}{N A5 Hs:La}{G:List (Bool×Bool)}{pl:List (Nat×Nat)}{D T:List Int}{ks:List Nat}{rest:List Oper}{key nm Az:Lu}{args cs ds news vs xs zs:Lv}{b bytes c cap db fuel i k kb lg m n n0 nn o size:Nat}{nd spare:Nat->Bool}{ps:Nat->Int}{a a0 ka ua:Oa}{op:Op}{d:Option Nat}{P:Program}{S1 S2 g1 g2:Prop}{pos:String}{H X α β σ:Type}{E dst src t' ty:TypeId}{u us v v0:Va}{B w:Wo}{C:Wo->Prop}{A:X1}{K K':Bj}
namespace Go.Proofs.W9
open Gk Ul Pc Tryz Tk Tr
theorem NB{Z:Wd}(h:A9 Z)(q:Qr):(Xl ps Z q).1.1.service.length<=100:=by
 have key:(Xr ps Z q.ticket (KW q.ticket)).1.service.length<=100:=by
  unfold Xr;split
  ·decide
  ·rcases s4 h.wf q.ticket with⟨_,e⟩|⟨_,a,_⟩
   ·rw[e];decide
   ·unfold Dh at a;simp only[Yb,decide_eq_true_eq]at a
    show(getD Z.l q.ticket).service.length<=100
    omega
 unfold Xl
 repeat' split
 all_goals first|exact key|exact Y5 _
theorem MJ(s:Lu):∃(d:Nat) (b:Bool),(match Xi s with|some (k,d)=>Value.tuple #[Ab (k:Nat),Ba (d:Nat),.bool true]|none=>.tuple #[Ab 0,Ba 0,.bool false])=.tuple #[Ab (KW s),Ba (d:Nat),.bool b]:=by
 unfold KW;cases Xi s with
 | none=>exact⟨0,false,O⟩
 | some x=>exact⟨x.2,true,O⟩
theorem gi(q:Qr)(m:q.ticket.length<=1000000)(p:Wp)(Z:Wd)(k:A9 Z)(j:BU I p)(N:La)(b:Aa B w I (AV p Z::N)):
  Ce B I (AV p (Xl p.ps Z q).2::N) 382 [ptr p.wb 0,.agg (PL q).toArray] w (.tuple #[.agg (X5 (Xl p.ps Z q).1.1).toArray,Ab ((Xl p.ps Z q).1.2:Nat)]):=by
 refine gG 11 ?_;intro F G w b;refine gM 0 ?_ ?_<;>intro d r
 ·refine gH 3 ?_;intro w b;refine gG 0 ?_;have g:Xl p.ps Z q=((r0,33),Z):=by rw[Xl,Y7 d]
  rw[g];exact⟨O,b.s⟩
 refine gF 2 (sU _ m j.known j.pre) ?_;rintro v w ⟨o,b⟩;obtain⟨J,A,C⟩:=MJ q.ticket;have n:=o.trans C;subst n;refine gM 14 ?_ ?_<;>intro e t
 ·refine gH 3 ?_;intro w b;refine gG 0 ?_;have g:Xl p.ps Z q=((r0,30),Z):=by rw[Xl,Y3 (nB d),Y7 e]
  rw[g];exact⟨O,b.s⟩
 refine gM 8 ?_ ?_<;>intro f u
 ·refine gH 3 ?_;intro w b;refine gG 0 ?_;have g:Xl p.ps Z q=((r0,32),Z):=by rw[Xl,Y3 (nB d),Y3 (nB e),Y7 f]
  rw[g];exact⟨O,b.s⟩
 refine gE 4 (jH _ _ p Z k) ?_;intro w b;refine gG 13 ?_;intro H w b;refine gM 0 ?_ ?_<;>intro i x
 ·refine gH 3 ?_;intro w b;refine gG 0 ?_;have g:Xl p.ps Z q=((r0,30),Z):=by rw[Xl,Y3 (nB d),Y3 (nB e),Y3 (nB f),Y7 i]
  rw[g];exact⟨O,b.s⟩
 refine gG 0 ?_;replace b:=b.px [1];obtain⟨a,c,D,E,b⟩:=EJ b;have z:=k.len;have h:=vV (ps:=p.ps) k q.ticket (KW q.ticket);refine gD [5,0] [] [0,1,2,3,4,5,6,7,8,9,10] ?_;intro w b;refine gE 9 (w2 _ _ h.2.2.1 h.2.2.2) ?_;intro w b;refine gE 0 (tR _ Z.room a c Z.l om (QS (Xr p.ps Z q.ticket (KW q.ticket)).1 Z.now) (Yr h.1 de) (Yr h.2.1 de) j.known j.pre) ?_;intro w b;refine gH 3 ?_;intro w b;refine gG 0 ?_;replace b:=Aa.box (T:=Bl p (Oz Z (QS (Xr p.ps Z q.ticket (KW q.ticket)).1 Z.now))) (a,c,D,E) (b.px [4,4,3,3,4]);have g:Xl p.ps Z q=(((Xr p.ps Z q.ticket (KW q.ticket)).1,0),Oz Z (QS (Xr p.ps Z q.ticket (KW q.ticket)).1 Z.now)):=by rw[Xl,Y3 (nB d),Y3 (nB e),Y3 (nB f),Y3 (nB i)]
 rw[g];exact⟨O,(b.y 1 3)⟩
def Cu:List (Int×Lu):=[(33,[73,78,86,65,76,73,68,95,82,69,81,85,69,83,84]),(30,[73,78,86,65,76,73,68,95,84,73,67,75,69,84]),(32,[73,78,86,65,76,73,68,95,84,73,67,75,69,84,95,83,80,69,67]),(31,[73,78,86,65,76,73,68,95,83,69,82,86,73,67,69]),(36,[85,78,65,85,84,72,79,82,73,90,69,68,95,83,69,82,86,73,67,69]),(34,[73,78,86,65,76,73,68,95,80,82,79,88,89,95,67,65,76,76,66,65,67,75]),(0,[])]
def Ur:Lu:=[73,78,84,69,82,78,65,76,95,69,82,82,79,82]
def iu(e:Int):Lu:=(Cu.lookup e).getD Ur
theorem wO{α β γ:Type}[BEq α](f:β->γ)(k:α):∀l:List (α×β),(l.map λp=>(p.1,f p.2)).lookup k=(l.lookup k).map f
 | []=>rfl
 | (a,b)::l=>by
  rw[Yw,List.lookup,List.lookup];cases k==a with
  | true=>rfl
  | false=>exact wO f k l
theorem Ry(N:La)(a:Aa B w I N):
  Cz 385 [] w λv w'=>∃b,v=.map (some b)/\Aa B w' I (LQ Ab b (Cu.map λp=>(p.1,S p.2))::N):=by
 refine gG 1 (.mkMap Ab a O ?_);intro b1 w a;refine .Ci (key:=33) K6 a (k:=0) O (.of O) (.of O) (.of O) O im Jw ?_;intro w a;refine .Ci (key:=30) K6 a (k:=0) O (.of O) (.of O) (.of O) O im Jw ?_;intro w a;refine .Ci (key:=32) K6 a (k:=0) O (.of O) (.of O) (.of O) O im Jw ?_;intro w a;refine .Ci (key:=31) K6 a (k:=0) O (.of O) (.of O) (.of O) O im Jw ?_;intro w a;refine .Ci (key:=36) K6 a (k:=0) O (.of O) (.of O) (.of O) O im Jw ?_;intro w a;refine .Ci (key:=34) K6 a (k:=0) O (.of O) (.of O) (.of O) O im Jw ?_;intro w a;refine .Ci (key:=0) K6 a (k:=0) O (.of O) (.of O) (.of O) O im Jw ?_;intro w a;exact gG 2 ⟨b1,O,a⟩
theorem Xuo(e:Int)(N:La)(b:Aa B w I N):
  Ce B I N 327 [Ab e] w (S (iu e)):=by
 refine gF 1 (Ry) ?_;rintro _ w ⟨i,rfl,b⟩;refine gH 1 ?_;refine .val (v:=.tuple #[S ((Cu.lookup e).getD []),.bool (Cu.lookup e).isSome]) (by have c:=wO S e Cu;have g:((Cu.map λp=>(p.1,S p.2)).lookup e).getD (S [])=S ((Cu.lookup e).getD []):=by { rw[c];cases Cu.lookup e<;>rfl };have f:((Cu.map λp=>(p.1,S p.2)).lookup e).isSome=(Cu.lookup e).isSome:=by { rw[c];cases Cu.lookup e<;>rfl };rw[<-g,<-f];exact .XS (key:=e) K6 (b.Mz (k:=0) O) (.of O) (.of O) im Jw KQ) O ?_;refine gM 6 ?_ ?_<;>intro a d
 ·refine gG 2 (⟨?_,b.s⟩);rw[iu];cases h:Cu.lookup e with
  | none=>rw[h]at a;cases a
  | some s=>rfl
 refine gG 1 (⟨?_,b.s⟩);rw[iu];cases h:Cu.lookup e with
 | none=>rfl
 | some s=>rw[h]at a;cases a
structure Sx where
 user:Lu
 attrs:List Pr
 Ax:List Lu
 B4:Lu
def I7:Sx:=⟨[],[],[],[]⟩
def F5(J:Im)(x:Sx)(cs:Lv):Prop:=∃ka a pa b,cs=[S x.user,.slice ka x.attrs.length a,.slice pa x.Ax.length b,S x.B4]/\x.attrs.length<=a/\RS J ka 2 x.attrs.length (X2 X8 x.attrs)/\x.Ax.length<=b/\RS J pa 1 x.Ax.length (x.Ax.map S)
theorem qD(J:Im):F5 J I7 [S [],.slice none 0 0,.slice none 0 0,S []]:=⟨none,0,none,0,O,Y9 _,⟨O,λh=>Aw h (by simp[I7])⟩,Y9 _,O,λh=>Aw h (by simp[I7])⟩
theorem F5.mono{x:Sx}(h:F5 I x cs)(a:Le I J):F5 J x cs:=by
 obtain⟨ka,g,pa,i,e,b,c,d,f⟩:=h;exact⟨ka,g,pa,i,e,b,c.mono a,d,f.mono a⟩
def KT(ps:Nat->Int)(Z:Wd)(q:Qr):Nat :=
 if(Xl ps Z q).1.2≠0 then(Xl ps Z q).1.2
 else if((((Ul.nU q.service).2:Nat):Int)!=0||!((Ul.nU q.service).1==(Xl ps Z q).1.1.service))=true then 31
 else if(q.renew&&!(Xl ps Z q).1.1.fresh)=true then 30 else 0
def KU(lo:List Sv)(us:List Us)(ps:Nat->Int)(Z:Wd)(q:Qr):Sx :=
 if KT ps Z q≠0 then I7
 else⟨(Xl ps Z q).1.1.user,TK us (Xl ps Z q).1.1.user (Xk lo (Xl ps Z q).1.1.service).1.rel,TH (Xl ps Z q).2.l (Xl ps Z q).1.1.name,[]⟩
theorem s3(lo:List Sv)(s:Lu):(Xk lo s).1=z0\/(Xk lo s).1∈lo:=by
 unfold Xk;split
 ·exact .inl O
 ·split
  ·exact .inl O
  ·split
   ·exact .inl O
   ·rename_i h;exact .inr (qI h)
theorem VW{us:List Us}(h:∀u∈us,u.attrs.length<=8)(name:Lu):(CM us name).length<=8:=by
 unfold CM;split
 ·rename_i e;exact h _ (qI e)
 ·simp
theorem NC(q:Qr)(X:q.ticket.length<=1000000)(W:q.service.length<=1000000)(p:Wp)(Z:Wd)(K:A9 Z)(o:BU I p)(N:La)(a:Aa B w I (AV p Z::N)):
  Cz 322 [ptr p.wb 0,.agg (PL q).toArray] w λv w'=>∃J cs,Le I J/\v=.tuple #[.agg (List.toArray cs),Ab (KT p.ps Z q:Nat)]/\F5 J (KU p.lo p.us p.ps Z q) cs/\Aa B w' J (AV p (Xl p.ps Z q).2::N):=by
 refine gH 5 ?_;intro b3 b4 w a;refine gE 0 (gi q X p Z K o) ?_;intro w a;refine gG 8 ?_;intro b6 w a;refine gM 0 ?_ ?_<;>intro g aa
 ·refine gH 4 ?_;intro w a;refine gG 0 ?_;have H:(Xl p.ps Z q).1.2≠0:=su g
  have h:KT p.ps Z q=(Xl p.ps Z q).1.2:=by rw[KT,Y7 H]
  have z:KU p.lo p.us p.ps Z q=I7:=Y7 (by rw[h];exact H);rw[h,z];exact⟨I,_,Le.refl _,O,qD I,a.s⟩
 refine gE 2 (wm _ W o.known) ?_;intro w a;refine gM 14 ?_ ?_<;>intro j ab
 ·refine gH 3 ?_;intro w a;refine gG 0 ?_;have h:KT p.ps Z q=31:=by rw[KT,Y3 (show ¬ (Xl p.ps Z q).1.2≠0 from by simpa using g),Y7 j]
  have z:KU p.lo p.us p.ps Z q=I7:=Y7 (nB h);rw[h,z];exact⟨I,_,Le.refl _,O,qD I,a.s⟩
 refine gM 8 ?_ ?_<;>intro r ac
 ·refine gH 3 ?_;intro w a;refine gG 0 ?_;have h:KT p.ps Z q=30:=by rw[KT,Y3 (show ¬ (Xl p.ps Z q).1.2≠0 from by simpa using g),Y3 (nB j),Y7 r]
  have z:KU p.lo p.us p.ps Z q=I7:=Y7 (nB h);rw[h,z];exact⟨I,_,Le.refl _,O,qD I,a.s⟩
 refine .skip (.ck [0,4,6] (σ:=Im×Nat×Oa×Nat) (λ(J,E,A,C) _m=>(9,ptr E 0)::_m) (λ(J,E,A,C) w=>Le I J/\(Xk p.lo (Xl p.ps Z q).1.1.service).1.rel.length<=C/\RS J A 1 (Xk p.lo (Xl p.ps Z q).1.1.service).1.rel.length ((Xk p.lo (Xl p.ps Z q).1.1.service).1.rel.map S)/\Aa B w J (Ad E [Ab (Xk p.lo (Xl p.ps Z q).1.1.service).1.id,AQ (Xk p.lo (Xl p.ps Z q).1.1.service).1.ord,S (Xk p.lo (Xl p.ps Z q).1.1.service).1.urls,.bool (Xk p.lo (Xl p.ps Z q).1.1.service).1.BZ,.bool (Xk p.lo (Xl p.ps Z q).1.1.service).1.Co,.bool (Xk p.lo (Xl p.ps Z q).1.1.service).1.back,S (Xk p.lo (Xl p.ps Z q).1.1.service).1.calls,.slice A (Xk p.lo (Xl p.ps Z q).1.1.service).1.rel.length C] 62::AV p (Xl p.ps Z q).2::Ad b6 (X5 (Xl p.ps Z q).1.1) 160::Ad b4 [S [],.slice none 0 0,.slice none 0 0,S []] 345::N)) ?_ ?_)
 ·replace a:=a.px [1];obtain⟨⟨u,x,c,f⟩,a⟩:=Aa.unbox a;replace a:Aa B _ _ (Ad p.wb (Cr p (Xl p.ps Z q).2) 115::Bc p.tb (Xl p.ps Z q).2.room u x (Xl p.ps Z q).2.l (Ad p.mb [.slice c (Xl p.ps Z q).2.D.length f] 225::CA 41 (.slice c (Xl p.ps Z q).2.D.length f) ((Xl p.ps Z q).2.D.map λd=>Ba (d:Nat))::_)):=a;have i:=nZ (ps:=p.ps) K q;have m:=i.len;have t:=i.wf;have af:=NB (ps:=p.ps) K q;refine gD [5,0] [] [0,1,2,3,4,5] ?_;intro w a;refine gH 6 (gB 6 11 [7,8,9,10,11,12,13,14] [6,7,8,9,10,12,13,14] ?_ ?_)
  ·refine gF 0 (pG _ om p o) ?_;rintro _ w ⟨J,A,C,F,rfl,n,b,a⟩;refine gH 5 ?_;intro E w a;refine gH 1 ?_;intro w a;refine gG 2 ?_;replace a:=Aa.box (T:=Bl p _) (u,x,c,f) (a.px [5,5,5,5,5]);exact Eo (J,_,_,_) O ⟨F,n,b,(((((a.drop (k:=4) O).pick 3 O).pick 3 O).pick 2 O).pick 3 O)⟩
  ·refine gH 1 ?_;intro E w a;refine gF 0 (pG _ om p o) ?_;rintro _ w ⟨J,A,C,F,rfl,n,b,a⟩;refine gH 5 ?_;intro w a;refine gG 2 ?_;replace a:=Aa.box (T:=Bl p _) (u,x,c,f) (a.px [5,5,5,5,5]);exact Eo (J,_,_,_) O ⟨F,n,b,(((((a.drop (k:=4) O).pick 3 O).pick 3 O).pick 2 O).pick 3 O)⟩
 rintro⟨J,E,A,C⟩ w ⟨F,n,b,a⟩;refine gG 0 ?_;replace a:=a.px [1];obtain⟨⟨u,x,c,f⟩,a⟩:=Aa.unbox a;replace a:Aa B _ _ (Ad p.wb (Cr p (Xl p.ps Z q).2) 115::Bc p.tb (Xl p.ps Z q).2.room u x (Xl p.ps Z q).2.l (Ad p.mb [.slice c (Xl p.ps Z q).2.D.length f] 225::CA 41 (.slice c (Xl p.ps Z q).2.D.length f) ((Xl p.ps Z q).2.D.map λd=>Ba (d:Nat))::_)):=a;have i:=nZ (ps:=p.ps) K q;have m:=i.len;have t:=i.wf;have L:=o.mono F;have R:=VW o.iW (Xl p.ps Z q).1.1.user;have Y:(Xk p.lo (Xl p.ps Z q).1.1.service).1.rel.length<=1000000:=by
  rcases s3 p.lo (Xl p.ps Z q).1.1.service with e|e
  ·rw[e];decide
  ·exact o.rel _ e
 refine gD [6,5,0] [] [0,1,2,3,4,5,6,7,8,9,11,12,13,10,14,15,16,17] ?_;intro w a;refine gF 13 (Xjv _ _ o.fit _ R A C _ Y (by exact L.tab) (by exact b)) ?_;rintro _ w ⟨Ja,ka,kc,rfl,M,U,P,a⟩;refine gF 0 (Xet p _ u x m t (Xl p.ps Z q).1.1.name) ?_;rintro _ w ⟨Jp,pa,pc,rfl,G,V,Q,a⟩;refine gH 2 ?_;intro w a;refine gG 1 ?_;replace a:=Aa.box (T:=Bl p (Xl p.ps Z q).2) (u,x,c,f) (a.px [4,4,4,4,4]);have h:KT p.ps Z q=0:=by rw[KT,Y3 (show ¬ (Xl p.ps Z q).1.2≠0 from by simpa using g),Y3 (nB j),Y3 (nB r)]
 have z:KU p.lo p.us p.ps Z q=⟨(Xl p.ps Z q).1.1.user,TK p.us (Xl p.ps Z q).1.1.user (Xk p.lo (Xl p.ps Z q).1.1.service).1.rel,TH (Xl p.ps Z q).2.l (Xl p.ps Z q).1.1.name,[]⟩:=Y3 (nB h);rw[h,z];refine⟨_,_,?_,O,⟨ka,kc,pa,pc,O,U,?_,V,?_⟩,(a.y 1 3)⟩
 ·exact(F.trans M).trans G
 ·exact P.mono G
 ·exact Q
theorem Xyx(s:Lu)(i:s.length<=1000000)(f:AJ I)(N:La)(a:Aa B w I N):Calls prog 214 #[S s,S [38]] w (AY λv w'=>∃b,v=.slice (some (ad b 0)) (Dd s).length (Dd s).length/\Aa B w' I (Ad b ((Dd s).map S) 9::N)):=by
 obtain⟨m,h⟩:=f.max B w N a;refine(strings_Split ⟨s.toArray⟩ ⟨[38].toArray⟩ m w (by show s.length<_;omega) h de).mono λe w' g=>?_
 obtain⟨rfl,rfl⟩:=g;have c:(Dd s).length=Go.Lib.countB ⟨s.toArray⟩ ⟨[38].toArray⟩+1:=dG _ s (Y9 _);have d:(Go.Lib.splitB ⟨[38].toArray⟩ 0 (Go.Lib.countB ⟨s.toArray⟩ ⟨[38].toArray⟩) ⟨s.toArray⟩).map Value.string=(Dd s).map S:=by
  rw[za,Go.Lib.splitB_data];show List.map S (Go.Lib.splitK [38] 0 (Go.Lib.count s [38]) s)=_
  rw[Nb _ s (Y9 _)]
 refine⟨_,O,w.heap.size,by rw[c],?_⟩;rw[d];exact a.alloc _
theorem YY(x:Lu)(m:x.length<=1000000)(h:AJ I)(N:La)(d:Aa B w I N):
  Cz 219 [S x] w λv w'=>∃g k e,v=.tuple #[.agg #[S g,S k],Ab (e:Nat)]/\(match Vu x with|none=>e=11|some p=>g=p.1/\k=p.2/\e=0)/\Aa B w' I N:=by
 refine gH 3 ?_;intro o w d;refine gE 0 (sK x 61 m h) ?_;intro w d;refine gF 8 (Xig _ (by have:=qh [61] x;omega) _ h.iZ) ?_;rintro _ w ⟨g,e,rfl,a,d⟩;refine gM 7 ?_ ?_<;>intro b i
 ·refine gH 4 ?_;intro w d;refine gG 0 (⟨[],[],e,O,?_,d.s⟩);unfold Vu;cases f:dec true (BD [61] x)with
  | none=>rw[f]at a;exact a.2
  | some t=>rw[f]at a;rw[a.2]at b;cases b
 refine gF 1 (Xig _ (by have:=bD [61] x;rw[Y6];omega) _ h.iZ) ?_;rintro _ w ⟨n,l,rfl,c,d⟩;refine gH 11 ?_;intro w d;refine gG 0 (⟨g,n,l,O,?_,d.s⟩);unfold Vu;cases f:dec true (BD [61] x)with
 | none=>rw[f]at a;rw[a.2]at b;cases b
 | some t =>
  rw[f]at a;cases j:dec true ((Xu [61] x).drop 1)with
  | none=>rw[j]at c;exact c.2
  | some u=>rw[j]at c;exact⟨a.1,c.1,c.2⟩
theorem Xz1{s x:Lu}(h:(Dd s)[i]?=some x)(e:s.length<=1000000):x.length<=1000000:=by
 have d:=yA s;have b:∀(l:List Lu) (i:Nat),l[i]?=some x->x.length+1<=CZ l:=by
  intro l
  induction l with
  | nil=>intro i h;simp at h
  | cons a l c =>
   intro i h;rw[show CZ (a::l)=(a.length+1)+CZ l from by simp[CZ]];cases i with
   | zero=>simp at h;subst h;omega
   | succ i=>have:=c i (su h);omega
 have:=b _ _ h
 omega
theorem VL{s x:Lu}(h:(Dd s)[i]?=some x):(Dd s).drop i=x::(Dd s).drop (i+1):=by
 rw[Yq (Y1.1 h).1,(Y1.1 h).2]
def Ds:Lu:=[112,103,116,73,100]
def HZ:Lu:=[112,103,116,73,111,117]
theorem Z7(c a:Lu)(b:Nat)(r:Lu):(IP c a b r).1.query.length<=r.length/\(IP c a b r).1.path.length<=r.length+1:=by
 unfold IP;split
 ·exact⟨Y5 _,Y5 _⟩
 ·rename_i p e
  split
  ·exact⟨Y5 _,Y5 _⟩
  ·rename_i q f
   have g:=uv e;have d:=uv f;have h:=qh [63] r;have i:=bD [63] r;have j:=Xvg p;rw[Y6]at d;refine⟨by show q.length<=_;omega,?_⟩;show(if p=[]then[47]else Dc p).length<=_
   split
   ·simp
   ·omega
theorem YX(s:Lu):(pU s).1.query.length<=s.length/\(pU s).1.path.length<=s.length+1:=by
 unfold pU;split
 ·exact⟨Y5 _,Y5 _⟩
 ·split
  ·exact⟨Y5 _,Y5 _⟩
  ·rename_i b r a
   split
   ·have g:r.length<=s.length:=by
     unfold gV at a;split at a
     ·injection a with a;injection a with e c;subst c;rw[Y6];omega
     ·split at a
      ·injection a with a;injection a with e c;subst c;rw[Y6];omega
      ·cases a
    have f:=bD [47,63,35,58] r;unfold hY;split
    ·split
     ·have d:=bD [47,63,35] ((Xu [47,63,35,58] r).drop 1);rw[Y6]at d
      have:=Z7 b (Oe r) (Q0 (BD [47,63,35] ((Xu [47,63,35,58] r).drop 1)) b) (Xu [47,63,35] ((Xu [47,63,35,58] r).drop 1))
      omega
     ·exact⟨Y5 _,Y5 _⟩
    ·have:=Z7 b (Oe r) 0 (Xu [47,63,35,58] r)
     omega
   ·exact⟨Y5 _,Y5 _⟩
theorem fp{s:Lu}(h:(pU s).2=0):s.length<=2000:=by
 unfold pU at h;split at h
 ·cases h
 ·omega
theorem xA{u:U}{n v:Lu}(a:QN u)(h:(Ow u n v).query.length<=10000000):QN (Ow u n v):=⟨a.1,a.2.1,a.2.2.1,a.2.2.2.1,h⟩
def km(u:U)(b a:Lu):U:=Ow (Ow u Ds b) HZ a
def bX(a c b:Lu):Lu×Nat:=if(pU a).2=0 then(Hi (km (pU a).1 c b),0)else([],(pU a).2)
theorem OO(s a b:Lu):(km (pU s).1 a b).query.length<=s.length+37+3*a.length+3*b.length:=by
 have e:=(YX s).1;have f:=pS (pU s).1.query Ds a;have g:=pS (G5 (pU s).1.query Ds a) HZ b;have c:Ds.length=5:=rfl;have d:HZ.length=6:=rfl;show(G5 (G5 (pU s).1.query Ds a) HZ b).length<=_
 omega
theorem Xza{s a b:Lu}(h:(pU s).2=0)(j:a.length<=100000)(hi:b.length<=100000):QN (Ow (pU s).1 Ds a)/\QN (km (pU s).1 a b):=by
 have e:=fp h;have f:=(YX s).1;have g:=pS (pU s).1.query Ds a;have i:=OO s a b;have d:Ds.length=5:=rfl;have c:QN (Ow (pU s).1 Ds a):=xA (p4 s) (by show(G5 (pU s).1.query Ds a).length<=_;omega);exact⟨c,xA c (by show(km (pU s).1 a b).query.length<=_;omega)⟩
theorem Qg(a:Oa)(c:Nat)(x e:Lu)(N:La)(h:∀w,Aa B w I N->H9 w qE 1 a [x])(f:Aa B w I N):
  Ce B I N 381 [.slice a 1 c,S e] w (S x):=by
 refine gG 1 ?_;obtain⟨p,rfl,g⟩:=h w f 0 x O;have b:=g 0 _ O;refine gG 4 (.Bt (rfl) (gG 2 (.CU (rfl) (gH 2 (.val (.ld1 (.of O) (by simpa[Addr.add_add]using b) Bq) O ?_)))));refine gH 1 (.nil (.ret ?_));refine λ_ d=>E3 d O ?_
 exact⟨_,O,O,f⟩
theorem Xyz(b:Nat)(n c:Lu)(x:n.length<=1000000)(u:c.length<=1000000)(g:Bw I)(N:La)(a:Aa B w I (Ad b [S n,S c] 99::N)):
  Ce B I (Ad b [S n,S c] 99::N) 341 [.slice (some (ad b 0)) 1 1] w (S (Ar n++61::Ar c)):=by
 refine gG 5 ?_;replace a:=a.Al 9 1;refine .lk [6,7] (σ:=Nat×Va) (λ(i,d) _m=>(3,d)::(8,Ab (i:Nat))::_m) (λ(i,d) w=>i<=1/\Aa B w I (Ao 9 1 d i (([S (Ar n++61::Ar c)]:Lv).take i)::Ad b [S n,S c] 99::N)) (λ(i,d)=>1-i) (0,.slice none 0 0) ⟨Y5 _,a⟩ ?_;rintro⟨i,d⟩ w ⟨hi,a⟩;refine gM 1 ?_ ?_<;>intro p q
 ·obtain rfl:i=0:=om
  have r:=a_ n;have t:=a_ c;obtain⟨ka,j,rfl,f,_⟩:=a.vS 0;refine gG 4 ?_;intro v w a;refine gD [0] [] [0,1,2,5,6,3,4,7,8,9,10,11] ?_;intro w a;refine gE 5 (wu n om g) ?_;intro w a;refine gE 1 (wu c om g) ?_;intro w a;refine gH 2 ?_;intro m w a;refine gH 1 ?_;intro l o e w a;refine gG 3 (Br (1,_) O ⟨Y9 _,?_⟩);rw[show(Ar n++[61])++Ar c=(Ar n++61::Ar c)by simp]at a;exact(a.z [2,2] 2 1)
 obtain rfl:i=1:=om
 obtain⟨ka,j,rfl,f,_⟩:=a.vS 0;refine gP 1 [] (Qg ka j _ _ _ (λw h=>yk (cells:=qE) (λ_=>rfl) h (k:=0) O)) ?_;rintro _ w ⟨rfl,a⟩;exact gG 1 ⟨O,a.s⟩
theorem yu(u:U)(p:QN u)(n d:Lu)(m:n.length<=1000000)(r:d.length<=1000000)(j:Bw I)(N:La)(a:Aa B w I N):
  Ce B I N 254 [.agg (uc u).toArray,S n,S d] w (.agg (uc (Ow u n d)).toArray):=by
 refine gG 0 (.G7 a (.of O) O ?_);intro g w a;refine gH 1 ?_;intro h w a;refine .nil (.ck [1,2,3,6] (σ:=Lu) (λc _m=>_m) (λc w=>(c=if u.query=[]then[]else u.query++[38])/\c.length<=10000001/\Aa B w I (Ad h [S [],S [],Ab 0,S [],S [],.bool false] 362::Ad g [S u.S8,S u.host,Ab (u.port:Nat),S u.path,S c,.bool u.ask] 362::N)) ?_ ?_)
 ·have q:=p.2.2.2.2;refine gM 3 ?_ ?_<;>intro b i
  ·refine gH 5 ?_;intro w a;refine gG 0 (Eo (_) O ⟨?_,?_,(a.x [1,1])⟩)
   ·rw[Y3 (su b)]
   ·rw[Y0];show _+1<=_;omega
  refine gG 0 (cd u.query ⟨?_,om,(a.x [1,1])⟩);rw[Y7 (su b)];simpa using b
 rintro c w ⟨f,o,a⟩;refine gG 0 ?_;have k:=a_ n;have l:=a_ d;refine gD [1] [9] [0,1,2,3,4,5,6,7,8,9] ?_;intro w a;refine gH 6 ?_;intro e w a;refine gE 0 (Xyz e n d m r j) ?_;intro w a;refine gH 3 ?_;intro w a;refine gH 4 ?_;intro w a;refine gG 0 (⟨?_,a.s⟩);rw[Ow,G5,<-f]
 done
theorem Xik(a c b:Lu)(i:a.length<=1000000)(l:c.length<=100000)(hi:b.length<=100000)(f:AJ I)(N:La)(d:Aa B w I N):
  Ce B I N 156 [.agg (List.toArray [S a,S c,S b])] w (.tuple #[S (bX a c b).1,Ab ((bX a c b).2:Nat)]):=by
 refine gG 0 (.G7 d (.of O) O ?_);intro b1 w d;refine gE 4 (wU a i f) ?_;intro w d;refine gG 8 ?_;intro m w d;refine gN 0 ?_ ?_<;>intro e
 ·refine gG 3 (⟨?_,d.s⟩);have k:=e;rw[bX,Y3 om]
  done
 refine gG 0 ?_;have j:(pU a).2=0:=by have k:=e;omega
 obtain⟨g,h⟩:=Xza j l hi;refine gD [1,0] [] [0,1,2,4,5,3,6,7,8,9] ?_;intro w d;refine gE 5 (yu _ (p4 a) Ds c de om f.iZ) ?_;intro w d;refine gE 0 (yu _ g _ b de om f.iZ) ?_;intro w d;refine gE 0 (wo _ h f) ?_;intro w d;refine gG 2 (⟨?_,d.s⟩);rw[bX,Y7 j];rfl
open DS Xm
theorem Tj{l:List Ah}(b:Wf l)(name:Lu):(getD l name).service.length<=100:=by
 rcases s4 b name with⟨_,e⟩|⟨_,a,_⟩
 ·rw[e];decide
 ·unfold Dh at a;simp only[Yb,decide_eq_true_eq]at a
  omega
def bU(lo:List Sv)(Z:Wd)(n:Lu):Bool:=(((getD Z.l n).kind==2||(getD Z.l n).kind==3)&&decide (0<(getD Z.l n).A4))&&((Xk lo (getD Z.l n).service).2.2==0&&(Xk lo (getD Z.l n).service).1.back)
def YO(Z:Wd)(n:Lu):Nt:=⟨n,(getD Z.l n).service,0,Z.now⟩
def bI(lo:List Sv)(Z:Wd)(a:List Lu):List Nt:=(a.filter (bU lo Z)).map (YO Z)
def jP(lo:List Sv)(Z:Wd)(Az:Lu):List Nt:=bI lo Z (below Z.l Az)
theorem Xti{lo:List Sv}{Z:Wd}{a:List Lu}{x:Lu}(h:a[k]?=some x):bI lo Z (a.take (k+1))=bI lo Z (a.take k)++(if bU lo Z x=true then[YO Z x]else[]):=by
 unfold bI;rw[Yv,h,DO,VB,Yn,JQ];split<;>simp
theorem Xps(lo:List Sv)(Z:Wd)(a:List Lu):(bI lo Z a).length<=a.length:=by unfold bI;rw[Ym];exact EV _ _
theorem Sq{lo:List Sv}{Z:Wd}{n:Lu}(h:(((getD Z.l n).kind !=2&&(getD Z.l n).kind !=3)||(getD Z.l n).A4==0)=true):bU lo Z n=false:=by
 refine zw.2 λa=>?_
 unfold bU at a;simp only[Yb,I0,beq_iff_eq,bne_iff_ne,ne_eq,decide_eq_true_eq]at a h
 omega
theorem Xww{lo:List Sv}{Z:Wd}{n:Lu}(a:Wf Z.l)(h:(((getD Z.l n).kind !=2&&(getD Z.l n).kind !=3)||(getD Z.l n).A4==0)=false):bU lo Z n=((((Xk lo (getD Z.l n).service).2.2:Nat):Int)==0&&(Xk lo (getD Z.l n).service).1.back):=by
 have b:=(Xiz a n).2.2.1;simp only[G3,iI,bne_eq_false_iff_eq,beq_eq_false_iff_ne,ne_eq]at h
 unfold bU;rw[show((getD Z.l n).kind==2||(getD Z.l n).kind==3)=true by simp only[I0,beq_iff_eq];omega,decide_eq_true om,HH,HH]
 congr 1
 rw[kV,beq_iff_eq,beq_iff_eq];omega
def Gc(lo:List Sv)(Z:Wd)(t:Lu):List Nt:=if(getD Z.l t).kind=1 then jP lo Z t else[]
def L_(Z:Wd)(t:Lu):List Lu:=if(getD Z.l t).kind=1 then below Z.l t else[]
def K4(Z:Wd)(t:Lu):Wd:=if(getD Z.l t).kind=1 then F7 Z t else Z
theorem Qm(Az:Lu)(p:Wp)(Z:Wd)(n:A9 Z)(M:BU I p)(N:La)(b:Aa B w I (AV p Z::N)):
  Cz 168 [ptr p.wb 0,S Az] w λv w'=>∃J y A,Le I J/\v=.slice y (jP p.lo Z Az).length A/\(jP p.lo Z Az).length<=A/\RS J y 4 (jP p.lo Z Az).length (X2 X6 (jP p.lo Z Az))/\Aa B w' J (AV p Z::N):=by
 refine gG 2 ?_;obtain⟨a,c,r,t,b⟩:=EJ b;have U:=n.len;have ab:=xS n.wf Az;refine gF 5 (Xn7 p.tb Z.room a c Z.l om n.wf Az) ?_;rintro _ w ⟨J,ra,rc,rfl,C,ad,F,b⟩;refine gG 2 ?_;replace b:=(((((b.pick 4 O).pick 4 O).pick 3 O).pick 3 O).pick 4 O).Al 103 4;refine .lk [0,18,19] (σ:=Nat×Va) (λ(k,v) _m=>(5,v)::(20,Ab (k:Nat))::_m) (λ(k,v) w=>k<=(below Z.l Az).length/\Aa B w J (Ao 103 4 v (bI p.lo Z ((below Z.l Az).take k)).length (X2 X6 (bI p.lo Z ((below Z.l Az).take k)))::Ad p.wb (Cr p Z) 115::Bc p.tb Z.room a c Z.l (Ad p.mb [.slice r Z.D.length t] 225::CA 41 (.slice r Z.D.length t) (Z.D.map λd=>Ba (d:Nat))::N))) (λ(k,v)=>(below Z.l Az).length-k) (0,.slice none 0 0) ⟨Y5 _,b⟩ ?_;rintro⟨k,v⟩ w ⟨hk,b⟩;refine gN 1 ?_ ?_<;>intro P
 ·obtain⟨x,o⟩:∃x,(below Z.l Az)[k]?=some x:=⟨_,Y2 om⟩
  obtain⟨q,L,hx⟩:=jj (cells:=qE) (s:=1) (λ_=>rfl) (by rw[rX];exact F:RS J ra 1 (below Z.l Az).length (X2 qE (below Z.l Az))) o;subst L;have e:=Xti (lo:=p.lo) (Z:=Z) o;have ae:=Tj n.wf x;have ac:=Xps p.lo Z ((below Z.l Az).take k);have af:((below Z.l Az).take k).length<=k:=by rw[Yj];omega
  refine gE 8 (Fx p.tb Z.room a c Z.l om x) ?_;intro w b;refine gH 14 ?_;intro Y w b;refine gM 5 ?_ ?_<;>intro g Q
  ·refine gG 2 ?_;have h:bU p.lo Z x=false:=Sq g;rw[h]at e;refine Br (k+1,_) O ⟨om,?_⟩;rw[e];rw[Y3 de,Yx];exact(b.z [6,6,4,4,6,6] 6 1)
  refine .skip (.ck [0,5,7,8,18,19,20] (σ:=Nat×Oa×Nat) (λ(f,j,m) _m=>(10,ptr f 0)::(12,Ab (((Xk p.lo (getD Z.l x).service).2.2:Nat):Int))::_m) (λ(f,j,m) w=>Aa B w J (Ad f (g_ (Xk p.lo (getD Z.l x).service).1 j m) 62::Ad Y (X5 (getD Z.l x)) 160::Ao 103 4 v (bI p.lo Z ((below Z.l Az).take k)).length (X2 X6 (bI p.lo Z ((below Z.l Az).take k)))::Ad p.wb (Cr p Z) 115::Bc p.tb Z.room a c Z.l (Ad p.mb [.slice r Z.D.length t] 225::CA 41 (.slice r Z.D.length t) (Z.D.map λd=>Ba (d:Nat))::N))) ?_ ?_)
  ·refine gD [0,3] [] [0,1,2,3,4,5] ?_;intro w b;refine gH 6 (gB 6 11 [7,8,9,10,11,12,13,14] [6,7,8,9,10,12,13,14] ?_ ?_)
   ·refine gF 0 (Vb (getD Z.l x).service om p (M.mono C)) ?_;rintro _ w ⟨j,m,rfl,b⟩;refine gH 5 ?_;intro f w b;refine gH 1 ?_;intro w b;exact gG 2 (cd (f,j,m) (b.x [7,7,5,5,7,7,7,7]))
   ·refine gH 1 ?_;intro f w b;refine gF 0 (Vb (getD Z.l x).service om p (M.mono C)) ?_;rintro _ w ⟨j,m,rfl,b⟩;refine gH 5 ?_;intro w b;exact gG 2 (cd (f,j,m) (b.x [7,7,5,5,7,7,7,7]))
  rintro⟨f,j,m⟩ w b;refine gM 6 ?_ ?_<;>intro i R
  ·refine gD [1,2] [] [0,1,2,3,4,5,6,7,8,9,10,11] ?_;intro w b;refine gH 10 ?_;intro X w b;refine gH 1 ?_;intro W aa u w b;refine gG 3 ?_;have h:bU p.lo Z x=true:=(Xww n.wf g).trans i;rw[h]at e;refine Br (k+1,_) O ⟨om,?_⟩;rw[e];rw[Y7 O,Y0,TD];exact(b.z [7,7,7,7,7,7] 6 2)
  refine gG 2 ?_;have h:bU p.lo Z x=false:=(Xww n.wf g).trans i;rw[h]at e;refine Br (k+1,_) O ⟨om,?_⟩;rw[e];rw[Y3 de,Yx];exact(b.z [7,7,7,7,7,7] 6 2)
 refine gG 2 ?_;have H:k=(below Z.l Az).length:=om
 subst H;rw[GK]at b;obtain⟨y,A,rfl,K,_⟩:=b.vS 0;obtain⟨V,E,G,b⟩:=b.fV 0;replace b:=Aa.box (T:=Bl p _) (a,c,r,t) (((((b.pick 4 O).pick 4 O).pick 4 O).pick 4 O).pick 4 O);exact⟨V,y,A,C.trans E,O,K,G,b⟩
theorem NM(Az:Lu)(p:Wp)(Z:Wd)(t:A9 Z)(F:BU I p)(N:La)(b:Aa B w I (AV p Z::N)):
  Cz 87 [ptr p.wb 0,S Az] w λv w'=>∃J k m g h,Le I J/\v=.tuple #[.slice k (Gc p.lo Z Az).length m,.slice g (L_ Z Az).length h]/\(Gc p.lo Z Az).length<=m/\RS J k 4 (Gc p.lo Z Az).length (X2 X6 (Gc p.lo Z Az))/\(L_ Z Az).length<=h/\RS J g 1 (L_ Z Az).length ((L_ Z Az).map S)/\Aa B w' J (AV p (K4 Z Az)::N):=by
 refine gG 2 ?_;obtain⟨a,c,i,j,b⟩:=EJ b;have A:=t.len;refine gE 5 (Fx _ Z.room a c Z.l om Az) ?_;intro w b;refine gG 9 ?_;intro H w b;refine gM 0 ?_ ?_<;>intro e z
 ·refine gG 2 ?_;have d:¬ (getD Z.l Az).kind=1:=su e
  have n:Gc p.lo Z Az=[]:=Y3 d;have o:L_ Z Az=[]:=Y3 d;have q:K4 Z Az=Z:=Y3 d;rw[n,o,q];replace b:=Aa.box (T:=Bl p _) (a,c,i,j) (b.px [5,5,4,4,5]);exact⟨I,none,0,none,0,Le.refl _,O,Y9 _,RS.nil _ 4,Y9 _,RS.nil _ 1,(b.y 1 1)⟩
 replace b:=Aa.box (T:=Bl p _) (a,c,i,j) (b.px [5,5,4,4,5]);refine gF 2 (Qm Az p Z t F) ?_;rintro _ w ⟨J,k,m,G,rfl,x,s,b⟩;refine gG 1 ?_;obtain⟨a,c,i,j,b⟩:=EJ b;refine gF 6 (gR p.tb Z.room a c Z.l om t.wf Az) ?_;rintro _ w ⟨C,g,h,rfl,f,u,r,D,E,b⟩;refine gG 2 ?_;have d:(getD Z.l Az).kind=1:=su e
 have n:Gc p.lo Z Az=jP p.lo Z Az:=Y7 d;have o:L_ Z Az=(below Z.l Az):=Y7 d;have q:K4 Z Az=F7 Z Az:=Y7 d;rw[n,o,q];replace b:=Aa.box (T:=Bl p (F7 Z Az)) (D,E,i,j) (b.px [4,4,3,3,4]);exact⟨C,k,m,g,h,G.trans f,O,x,s.mono f,u,r,(b.y 1 1)⟩
open Rq
structure Kz(I:Im):Prop where
 kn:AJ I
 pre:AR I
 kx:Kx I
theorem Kz.mono(h:Kz I)(a:Le I J):Kz J:=⟨h.kn.mono a,h.pre.mono a,h.kx.mono a⟩
theorem JF(d:Aa B w I (Ad b cs E::N))(g:cs.length=n*size):∃J,Le I J/\RS J (some (ad b 0)) size n cs/\Aa B w J N:=by
 obtain⟨J,c,e,a⟩:=d.fZ 0;exact⟨J,c,⟨g,λ_=>⟨_,O,O,_,_,_,e,λj v f=>by simpa using f⟩⟩,a⟩
theorem Ue(s p:Lu)(f:s.length<=1000000)(b:Kz I)(N:La)(a:Aa B w I N):Calls prog 18 #[S s,S p] w (AY λv w'=>v=.tuple #[S (Go.Lib.cut s p).1,S (Go.Lib.cut s p).2.1,.bool (Go.Lib.cut s p).2.2]/\Aa B w' I N):=by
 obtain⟨m,d⟩:=b.kn.max B w N a;refine(strings_Cut ⟨s.toArray⟩ ⟨p.toArray⟩ m w (by show s.length<_;omega) d).mono λe w' c=>?_
 obtain⟨rfl,n,rfl⟩:=c;exact⟨_,O,O,jI a n⟩
theorem tt(s:Lu)(c:Ui)(d:s.length<=1000000)(b:Kz I)(N:La)(a:Aa B w I N):Calls prog 18 #[S s,S [c]] w (AY λv w'=>v=.tuple #[S (EH c s).1,S (EH c s).2.1,.bool (EH c s).2.2]/\Aa B w' I N):=sK s c d b.kn N a
theorem Xii(s:Lu)(c:Ui)(j:s.length<=1000000)(g:Kz I)(N:La)(a:Aa B w I N):Calls prog 214 #[S s,S [c]] w (AY λv w'=>∃b,v=.slice (some (ad b 0)) (BK c s).length (BK c s).length/\Aa B w' I (Ad b ((BK c s).map S) 9::N)):=by
 obtain⟨m,i⟩:=g.kn.max B w N a;refine(strings_Split ⟨s.toArray⟩ ⟨[c].toArray⟩ m w (by show s.length<_;omega) i (Y9 1)).mono λe w' h=>?_
 obtain⟨rfl,rfl⟩:=h;have d:(BK c s).length=Go.Lib.countB ⟨s.toArray⟩ ⟨[c].toArray⟩+1:=ft c _ s (Y9 _);have f:(Go.Lib.splitB ⟨[c].toArray⟩ 0 (Go.Lib.countB ⟨s.toArray⟩ ⟨[c].toArray⟩) ⟨s.toArray⟩).map Value.string=(BK c s).map S:=by
  rw[za,Go.Lib.splitB_data];show List.map S (Go.Lib.splitK [c] 0 (Go.Lib.count s [c]) s)=_
  rw[Nc c _ s (Y9 _)]
 refine⟨_,O,w.heap.size,by rw[d],?_⟩;rw[f];exact a.alloc _
theorem Xnw(s:Lu)(c:Ui)(b:c.toNat<128)(f:s.length<=1000000)(N:La)(a:Aa B w I N):Calls prog 220 #[S s,S [c]] w (AY λv w'=>v=S (Go.Lib.trimB s c)/\Aa B w' I N):=by
 refine(strings_Trim_one ⟨s.toArray⟩ c b w (by show s.length<=_;omega)).mono λe w' d=>?_
 obtain⟨rfl,rfl|rfl⟩:=d
 ·exact⟨_,O,O,a⟩
 ·exact⟨_,O,O,a.drew⟩
theorem QG(s p:Lu)(g:∀c∈p,c.toNat<128)(h:p.length<=1000)(i:s.length<=1000000)(N:La)(d:Aa B w I N):Calls prog 220 #[S s,S p] w (AY λv w'=>v=S (Go.Lib.trimS s p)/\Aa B w' I N):=by
 refine(Any.strings_Trim_laid Ps kr ⟨s.toArray⟩ ⟨p.toArray⟩ w (by show s.length<=_;omega) (by show p.length<_;omega) (λj b a=>g b (Y8 a))).mono λe w' f=>?_
 obtain⟨rfl,a⟩:=f;exact⟨_,O,O,d.grown a⟩
theorem xK(s p:Lu)(d:s.length<=100000000)(c:p.length<=1000)(N:La)(a:Aa B w I N):Calls prog 113 #[S s,S p] w (AY λv w'=>v=.bool (Go.Lib.hasPrefix s p)/\Aa B w' I N):=by
 refine(strings_HasPrefix ⟨s.toArray⟩ ⟨p.toArray⟩ w).mono λe w' b=>?_
 obtain⟨rfl,rfl⟩:=b;exact⟨_,O,O,a⟩
theorem X7t(c:Ui):((((!plain c)||((c.toNat:Int)==46))||((c.toNat:Int)==95))||((c.toNat:Int)==126))=!GM c:=eq_of_beq (Xj (p:=λc=>((((!plain c)||((c.toNat:Int)==46))||((c.toNat:Int)==95))||((c.toNat:Int)==126))==!GM c) dk c)
theorem Xu1(s:Lu)(h:s.length<=1000000)(N:La)(d:Aa B w I N):
  Ce B I N 304 [S s] w (.bool (List.all s (GM)&&!s.isEmpty)):=by
 refine gG 4 (.lk [0,6] (σ:=Nat) (λi _m=>(7,Ab (i:Nat))::_m) (λi w=>i<=s.length/\List.all s (GM)=List.all (s.drop i) (GM)/\Aa B w I N) (λi=>s.length-i) 0 ⟨Y5 _,O,d⟩ ?_);rintro i w ⟨hi,a,d⟩;refine gM 1 ?_ ?_<;>intro f g
 ·refine gC 7 (nw _ _) ?_;rintro _ _ ⟨rfl,rfl⟩;refine gM 13 ?_ ?_<;>intro c e
  ·refine gG 1 ?_;have b:=c;rw[X7t]at b;refine⟨Ye Value.bool ?_,d⟩;rw[a,Xf s om,EX,show GM (at_ s (i:Int))=false by simpa using b];rfl
  refine gG 2 ?_;have b:=c;rw[X7t]at b;refine rd (i+1) ⟨om,?_,d⟩;rw[a,Xf s om,EX,show GM (at_ s (i:Int))=true by simpa using b,HH]
 refine gG 3 (⟨Ye Value.bool ?_,d⟩);rw[a,Yo om];cases s<;>rfl
theorem X7u(c:Ui):((((!plain c)||((c.toNat:Int)==46))||((c.toNat:Int)==95))||((c.toNat:Int)==126))=!GM c:=eq_of_beq (Xj (p:=λc=>((((!plain c)||((c.toNat:Int)==46))||((c.toNat:Int)==95))||((c.toNat:Int)==126))==!GM c) dk c)
theorem Xu2(s:Lu)(h:s.length<=1000000)(N:La)(d:Aa B w I N):
  Ce B I N 148 [S s] w (.bool (List.all s (GM)&&!s.isEmpty)):=by
 refine gG 4 (.lk [0,6] (σ:=Nat) (λi _m=>(7,Ab (i:Nat))::_m) (λi w=>i<=s.length/\List.all s (GM)=List.all (s.drop i) (GM)/\Aa B w I N) (λi=>s.length-i) 0 ⟨Y5 _,O,d⟩ ?_);rintro i w ⟨hi,a,d⟩;refine gM 1 ?_ ?_<;>intro f g
 ·refine gC 7 (nw _ _) ?_;rintro _ _ ⟨rfl,rfl⟩;refine gM 13 ?_ ?_<;>intro c e
  ·refine gG 1 ?_;have b:=c;rw[X7u]at b;refine⟨Ye Value.bool ?_,d⟩;rw[a,Xf s om,EX,show GM (at_ s (i:Int))=false by simpa using b];rfl
  refine gG 2 ?_;have b:=c;rw[X7u]at b;refine rd (i+1) ⟨om,?_,d⟩;rw[a,Xf s om,EX,show GM (at_ s (i:Int))=true by simpa using b,HH]
 refine gG 3 (⟨Ye Value.bool ?_,d⟩);rw[a,Yo om];cases s<;>rfl
theorem X7h(c:Ui):((((!plain c)||((c.toNat:Int)==46))||((c.toNat:Int)==95))||((c.toNat:Int)==126))=!GM c:=eq_of_beq (Xj (p:=λc=>((((!plain c)||((c.toNat:Int)==46))||((c.toNat:Int)==95))||((c.toNat:Int)==126))==!GM c) dk c)
theorem Xf8(s:Lu)(h:s.length<=1000000)(N:La)(d:Aa B w I N):
  Ce B I N 221 [S s] w (.bool (List.all s (GM)&&!s.isEmpty)):=by
 refine gG 4 (.lk [0,6] (σ:=Nat) (λi _m=>(7,Ab (i:Nat))::_m) (λi w=>i<=s.length/\List.all s (GM)=List.all (s.drop i) (GM)/\Aa B w I N) (λi=>s.length-i) 0 ⟨Y5 _,O,d⟩ ?_);rintro i w ⟨hi,a,d⟩;refine gM 1 ?_ ?_<;>intro f g
 ·refine gC 7 (nw _ _) ?_;rintro _ _ ⟨rfl,rfl⟩;refine gM 13 ?_ ?_<;>intro c e
  ·refine gG 1 ?_;have b:=c;rw[X7h]at b;refine⟨Ye Value.bool ?_,d⟩;rw[a,Xf s om,EX,show GM (at_ s (i:Int))=false by simpa using b];rfl
  refine gG 2 ?_;have b:=c;rw[X7h]at b;refine rd (i+1) ⟨om,?_,d⟩;rw[a,Xf s om,EX,show GM (at_ s (i:Int))=true by simpa using b,HH]
 refine gG 3 (⟨Ye Value.bool ?_,d⟩);rw[a,Yo om];cases s<;>rfl
theorem Xbc(c:Ui):((((((decide ((c.toNat:Int)<33))||(decide (126<(c.toNat:Int))))||((c.toNat:Int)==34))||((c.toNat:Int)==44))||((c.toNat:Int)==59))||((c.toNat:Int)==92))=!Hj c:=eq_of_beq (Xj (p:=λc=>((((((decide ((c.toNat:Int)<33))||(decide (126<(c.toNat:Int))))||((c.toNat:Int)==34))||((c.toNat:Int)==44))||((c.toNat:Int)==59))||((c.toNat:Int)==92))==!Hj c) dk c)
theorem xG(s:Lu)(h:s.length<=1000000)(N:La)(d:Aa B w I N):
  Ce B I N 222 [S s] w (.bool (List.all s (Hj))):=by
 refine gG 4 (.lk [0,6] (σ:=Nat) (λi _m=>(7,Ab (i:Nat))::_m) (λi w=>i<=s.length/\List.all s (Hj)=List.all (s.drop i) (Hj)/\Aa B w I N) (λi=>s.length-i) 0 ⟨Y5 _,O,d⟩ ?_);rintro i w ⟨hi,a,d⟩;refine gM 1 ?_ ?_<;>intro f g
 ·refine gH 14 ?_;refine gM 14 ?_ ?_<;>intro c e
  ·refine gG 1 ?_;have b:=c;rw[Xbc]at b;refine⟨Ye Value.bool ?_,d⟩;rw[a,Xf s om,EX,show Hj (at_ s (i:Int))=false by simpa using b];rfl
  refine gG 2 ?_;have b:=c;rw[Xbc]at b;refine rd (i+1) ⟨om,?_,d⟩;rw[a,Xf s om,EX,show Hj (at_ s (i:Int))=true by simpa using b,HH]
 refine gG 1 (⟨Ye Value.bool ?_,d⟩);rw[a,Yo om];rfl
theorem Xa3(x y:Ui)(c:Ui):((decide ((c.toNat:Int)<(x.toNat:Int)))||(decide ((y.toNat:Int)<(c.toNat:Int))))=!I5 x y c:=by
 unfold I5;rw[kV];simp only[I0,decide_eq_true_eq,iN,iI,decide_eq_false_iff_not]
 omega
theorem sW(x y:Ui)(s:Lu)(g:s.length<=1000000)(N:La)(d:Aa B w I N):
  Ce B I N 215 [S s,U8 x.toNat,U8 y.toNat] w (.bool (List.all s (I5 x y))):=by
 refine gG 4 (.lk [0,1,2,9] (σ:=Nat) (λi _m=>(10,Ab (i:Nat))::_m) (λi w=>i<=s.length/\List.all s (I5 x y)=List.all (s.drop i) (I5 x y)/\Aa B w I N) (λi=>s.length-i) 0 ⟨Y5 _,O,d⟩ ?_);rintro i w ⟨hi,a,d⟩;refine gN 1 ?_ ?_<;>intro e
 ·refine gM 14 ?_ ?_<;>intro c f
  ·refine gG 1 ?_;have b:=c;rw[Xa3 x y]at b;refine⟨Ye Value.bool ?_,d⟩;rw[a,Xf s om,EX,show I5 x y (at_ s (i:Int))=false by simpa using b];rfl
  refine gG 2 ?_;have b:=c;rw[Xa3 x y]at b;refine rd (i+1) ⟨om,?_,d⟩;rw[a,Xf s om,EX,show I5 x y (at_ s (i:Int))=true by simpa using b,HH]
 refine gG 1 (⟨Ye Value.bool ?_,d⟩);rw[a,Yo om];rfl
theorem eU(c:Ui)(h:65<=(c.toNat:Int)/\(c.toNat:Int)<=90):U8 (IntKind.u8.wrap (IntKind.u8.wrap ((c.toNat:Int)+97)-65))=U8 (c+32).toNat:=by
 have:=Xj (p:=λc=>!(decide (65<=(c.toNat:Int))&&decide ((c.toNat:Int)<=90))||(IntKind.u8.wrap (IntKind.u8.wrap ((c.toNat:Int)+97)-65)==((c+32).toNat:Int))) dk c
 rw[decide_eq_true h.1,decide_eq_true h.2]at this;have a:IntKind.u8.wrap (IntKind.u8.wrap ((c.toNat:Int)+97)-65)=((c+32).toNat:Int):=su this
 rw[a]
theorem Xgt(c:Ui)(N:La)(d:Aa B w I N):
  Ce B I N 242 [U8 c.toNat] w (U8 (E2 c).toNat):=by
 refine gM 7 ?_ ?_<;>intro a f
 ·refine gG 4 (⟨?_,d⟩);unfold E2;rw[Y7 (by have b:=a;revert b;cases g:(decide (65<=c.toNat)&&decide (c.toNat<=90))<;>simp_all;omega)];exact eU c (su a)
 refine gG 2 (⟨?_,d⟩);unfold E2;rw[Y3 (by have b:=a;intro e;simp at e b;omega)]
end Go.Proofs.W9
namespace Rq
open Gk
structure Dk where
 kept:List Lu
 Ae:List (Int×Lu)
 Au:List Bool
 off:Bool
 left:Int
def ZB:Lu:=List.replicate 32 0
def EU(n:Int):Dk:=⟨List.replicate (max 0 (min n 512)).toNat ZB,[],[],false,-1⟩
def Ml(d:Dk)(i:Int):Bool:=decide (0<=i)&&decide (i<(d.kept.length:Nat))
def OB(i:Int)(b:Lu)(w:Int×Lu):Lu:=if w.1=i then w.2 else b
def LM(d:Dk)(i:Int):Lu:=d.Ae.foldl (OB i) (d.kept.getD i.toNat [])
def IQ(d:Dk):Dk:=if 0<d.left then{ d with left:=d.left-1,off:=d.left-1==0 } else d
def Xe(d:Dk):Bool×Dk:=if d.off=true then(true,d)else if(IQ d).Au=[]then(false,IQ d)else((IQ d).Au.headD false,{ IQ d with Au:=(IQ d).Au.drop 1 })
def SF(b:Lu):Lu:=b++List.replicate (32-b.length) 0
def CY(d:Dk)(i:Int)(b:Lu):Nat×Dk:=if Ml d i=false then(4,d)else if 32<b.length then(2,d)else
 if(Xe d).1=true then(21,(Xe d).2)else(0,{ (Xe d).2 with Ae:=(Xe d).2.Ae++[(i,SF b)] })
def bT(k:List Lu)(w:Int×Lu):List Lu:=k.set w.1.toNat w.2
def Ef(d:Dk):Nat×Dk:=if(Xe d).1=true then(21,(Xe d).2)else(0,{ (Xe d).2 with kept:=(Xe d).2.Ae.foldl bT (Xe d).2.kept,Ae:=[] })
def JK(d:Dk):Dk:=if d.off=true then d else{ d with Ae:=[] }
def yJ(d:Dk)(p:List Bool):Dk:={ d with Au:=p }
def KE(d:Dk)(n:Int):Dk:={ d with left:=max (-1) n,off:=d.off||n==0 }
def Q6(a:Lu)(i:Nat):Nat:=if i<a.length then(a.getD i 0).toNat%33 else 0
def bY(k:List Lu)(w:Int×Lu)(n:Nat):List Lu:=k.set w.1.toNat (w.2.take n++(k.getD w.1.toNat []).drop n)
def Vw(a:List UInt8):Nat->List (Int×List UInt8)->List (List UInt8)->List (List UInt8)
 | _,[],k=>k
 | i,w::r,k=>Vw a (i+1) r (bY k w (Q6 a i))
def JI(d:Dk)(a:Lu):Dk:={ d with kept:=Vw a 0 d.Ae d.kept,Ae:=[],Au:=[],off:=false,left:=-1 }
structure Ct(d:Dk):Prop where
 size:d.kept.length<=512
 kept:∀b∈d.kept,b.length=32
 at_:∀w∈d.Ae,0<=w.1/\w.1<(d.kept.length:Nat)
 what:∀w∈d.Ae,w.2.length=32
 left:-1<=d.left/\d.left<=9223372036854775807
theorem e_(n:Int):Ct (EU n):=by
 refine⟨?_,?_,by simp[EU],by simp[EU],by simp[EU]⟩
 ·simp only[EU,oP];omega
 ·intro b a;simp only[EU]at a;rw[(List.mem_replicate.1 a).2];rfl
theorem Z_{d:Dk}(h:Ct d):Ct (IQ d):=by
 unfold IQ;split
 ·exact⟨h.size,h.kept,h.at_,h.what,by have:=h.left;simp only[];omega⟩
 ·exact h
theorem ny{d:Dk}(h:Ct d):Ct (Xe d).2/\(Xe d).2.kept=d.kept/\(Xe d).2.Ae=d.Ae:=by
 have a:=Z_ h;have b:(IQ d).kept=d.kept/\(IQ d).Ae=d.Ae:=by unfold IQ;split<;>exact⟨O,O⟩
 unfold Xe;split
 ·exact⟨h,O,O⟩
 ·split
  ·exact⟨a,b⟩
  ·exact⟨⟨a.size,a.kept,a.at_,a.what,a.left⟩,b⟩
theorem Xx3{b:Lu}(h:b.length<=32):(SF b).length=32:=by
 unfold SF;simp;omega
theorem Tz{d:Dk}(h:Ct d)(i:Int)(b:Lu):Ct (CY d i b).2:=by
 obtain⟨c,e,f⟩:=ny h;unfold CY;split
 ·exact h
 ·rename_i hi
  split
  ·exact h
  ·split
   ·exact c
   ·refine⟨c.size,c.kept,λw a=>?_,λw a=>?_,c.left⟩
    ·rcases Yt.1 a with a|a
     ·exact c.at_ w a
     ·simp at a;subst a
      simp only[Ml,iI,decide_eq_false_iff_not,not_or,Decidable.not_not]at hi
      exact⟨hi.1,by rw[e];exact hi.2⟩
    ·rcases Yt.1 a with a|a
     ·exact c.what w a
     ·simp at a;subst a
      exact Xx3 om
theorem ui:∀(l:List (Int×Lu)) (k:List Lu),(∀w∈l,w.2.length=32)->(∀b∈k,b.length=32)->(l.foldl bT k).length=k.length/\∀b∈l.foldl bT k,b.length=32
 | [],k,_,c=>⟨O,c⟩
 | w::l,k,d,c=>by
  have e:∀b∈bT k w,b.length=32:=λb a=>by
   rcases oO a with a|a
   ·exact c b a
   ·rw[a];exact d w sz
  have:=ui l (bT k w) (λx hx=>d x (by simp[hx])) e
  exact⟨by rw[JS,this.1];unfold bT;simp,this.2⟩
theorem Z4{d:Dk}(h:Ct d):Ct (Ef d).2:=by
 obtain⟨a,b,c⟩:=ny h;unfold Ef;split
 ·exact a
 ·have:=ui (Xe d).2.Ae (Xe d).2.kept a.what a.kept
  exact⟨by show((Xe d).2.Ae.foldl bT (Xe d).2.kept).length<=512;rw[this.1];exact a.size,this.2,by simp,by simp,a.left⟩
theorem Wr{d:Dk}(h:Ct d):Ct (JK d):=by
 unfold JK;split
 ·exact h
 ·exact⟨h.size,h.kept,by simp,by simp,h.left⟩
theorem f_{k:List Lu}{w:Int×Lu}(g:n<=32)(f:w.2.length=32)(d:∀b∈k,b.length=32)(hi:0<=w.1/\w.1<(k.length:Nat)):(bY k w n).length=k.length/\∀b∈bY k w n,b.length=32:=by
 refine⟨by unfold bY;simp,λb a=>?_⟩;rcases oO a with a|a
 ·exact d b a
 ·have c:w.1.toNat<k.length:=om
  have e:(k.getD w.1.toNat []).length=32:=by rw[Ya,Y2 c];exact d _ (iO c)
  rw[a,Y0,Yj,Y6,e,f];omega
theorem yF(a:Lu)(i:Nat):Q6 a i<=32:=by unfold Q6;split<;>omega
theorem zc(a:Lu):∀(l:List (Int×Lu)) (i:Nat) (k:List Lu),(∀w∈l,w.2.length=32)->(∀w∈l,0<=w.1/\w.1<(k.length:Nat))->(∀b∈k,b.length=32)->(Vw a i l k).length=k.length/\∀b∈Vw a i l k,b.length=32
 | [],i,k,_,_,d=>⟨O,d⟩
 | w::l,i,k,e,hi,d=>by
  have c:=f_ (yF a i) (e w sz) d (hi w sz)
  have:=zc a l (i+1) (bY k w (Q6 a i)) (λx hx=>e x (by simp[hx])) (λx hx=>by rw[c.1];exact hi x (by simp[hx])) c.2
  exact⟨by rw[Vw,this.1,c.1],by rw[Vw];exact this.2⟩
theorem Rz{d:Dk}(h:Ct d)(a:Lu):Ct (JI d a):=by
 have:=zc a d.Ae 0 d.kept h.what h.at_ h.kept
 exact⟨by show(Vw a 0 d.Ae d.kept).length<=512;rw[this.1];exact h.size,this.2,by simp[JI],by simp[JI],by simp[JI]⟩
end Rq
namespace Go.Proofs.W9
open Gk Ul Pc Tk Tr Xm Rq
open Tryz
theorem Xt2:prog.info? 292=some t292:=by kernel_rfl
theorem Xt3:prog.info? 294=some t294:=by kernel_rfl
theorem Xq5{cells:α->Lv}{s:Nat}{l:List α}(d:∀x∈l,(cells x).length=s){j:Nat}{r:α}(e:l[i]?=some r)(a:(cells r)[j]?=some v):(X2 cells l)[i*s+j]?=some v:=by
 have h:=aZ (l.map cells) (λc h=>by obtain⟨y,f,rfl⟩:=Dj.1 h;exact d y f) i (cells r) (by rw[Yu,e];rfl);have b:j<s:=by rw[<-d r (Y8 e)];exact(Y1.1 a).1
 rw[<-h,Q_,Y7 b,GI]at a;exact a
theorem tf{α:Type}{cells:α->Lv}{s:Nat}:∀{l:List α},(∀x∈l,(cells x).length=s)->(X2 cells l).length=l.length*s
 | [],_=>by simp[X2]
 | x::l,h=>by
  show(cells x++X2 cells l).length=_
  rw[Y0,h x sz,tf (λy a=>h y (by simp[a])),Y4,Gh];omega
theorem xu{α:Type}{cells:α->Lv}{s:Nat}:∀{l:List α} {i:Nat} {y:α},(∀x∈l,(cells x).length=s)->(cells y).length=s->i<l.length->(X2 cells l).take (i*s)++cells y++(X2 cells l).drop (i*s+s)=X2 cells (l.set i y)
 | [],i,y,_,_,h=>Aw h (Nat.not_lt_zero _)
 | x::l,0,y,a,b,_=>by
  show((cells x++X2 cells l).take (0*s))++cells y++(cells x++X2 cells l).drop (0*s+s)=cells y++X2 cells l
  rw[OE,Il,CS,Yl,<-a x sz,kX]
 | x::l,i+1,y,a,b,h=>by
  show((cells x++X2 cells l).take ((i+1)*s))++cells y++(cells x++X2 cells l).drop ((i+1)*s+s)=cells x++X2 cells (l.set i y)
  have hx:=a x sz;rw[<-xu (λz c=>a z (by simp[c])) b (su h),show(i+1)*s=(cells x).length+i*s by rw[hx,Gh];omega,zi,show(cells x).length+i*s+s=(cells x).length+(i*s+s)by omega,Y5q,Yg,Yg,Yg]
abbrev E8(w:Int×Lu):Lv:=Ab w.1::Aj w.2
theorem Ve(l:Lu):(Aj l).length=l.length:=by simp[Aj]
theorem l1{d:Dk}(h:Ct d):∀x∈d.kept,(Aj x).length=32:=λx hx=>by rw[Ve];exact h.kept x hx
theorem yn{d:Dk}(h:Ct d):∀x∈d.Ae,(E8 x).length=33:=λx hx=>by rw[Y4,Ve,h.what x hx]
abbrev BA(db kb:Nat)(sv pl:Va)(d:Dk)(R:La):La:=Ad db [.slice (some (ad kb 0)) d.kept.length d.kept.length,sv,pl,.bool d.off,Ab d.left] 86::Ad kb (X2 Aj d.kept) 292::Ao 294 33 sv d.Ae.length (X2 E8 d.Ae)::R
theorem Xv9(d:Dk)(db kb:Nat)(sv pl:Va)(N:La)(a:Aa B w I (BA db kb sv pl d N)):
  Ce B I (BA db kb sv pl d N) 105 [ptr db 0] w (Ab (d.kept.length:Nat)):=by
 exact gG 7 ⟨O,a⟩
theorem OW(i:Int)(d:Dk)(db kb:Nat)(sv pl:Va)(N:La)(a:Aa B w I (BA db kb sv pl d N)):
  Ce B I (BA db kb sv pl d N) 202 [ptr db 0,Ab i] w (.bool (Ml d i)):=by
 exact gG 13 ⟨O,a⟩
theorem Xoe(d:Dk)(db kb:Nat)(sv pl:Va)(N:La)(b:Aa B w I (BA db kb sv pl d N)):
  Cz 177 [ptr db 0] w λv w'=>∃sv,Aa B w' I (BA db kb sv pl (JK d) N):=by
 refine gM 5 ?_ ?_<;>intro a c
 ·refine gG 4 ?_;intro w b;refine⟨.slice none 0 0,?_⟩;unfold JK;rw[Y3 (su a)];exact(((b.y 2 1).Al 294 33).pick 2 O).pick 2 O
 refine gG 0 (⟨sv,?_⟩);unfold JK;rw[Y7 (su a)];exact b
theorem RD(n:Int)(d:Dk)(db kb:Nat)(sv pl:Va)(N:La)(a:Aa B w I (BA db kb sv pl d N)):
  Cz 45 [ptr db 0,Ab n] w λv w'=>∃sv,Aa B w' I (BA db kb sv pl (KE d n) N):=by
 refine gH 14 ?_;intro w a;refine gG 4 ?_;intro w a;exact⟨sv,a⟩
def Ay(I:Im)(pl:Va)(p:List Bool):Prop:=∃pa a,pl=.slice pa p.length a/\p.length<=a/\RS I pa 1 p.length (p.map Value.bool)
theorem Ay.mono{pl:Va}{p:List Bool}(h:Ay I pl p)(d:Le I J):Ay J pl p:=by
 obtain⟨pa,e,a,b,c⟩:=h;exact⟨pa,e,a,b,c.mono d⟩
theorem y8{s:Nat}(h:RS I a s n xs)(f:k<=n)(e:n<=c):∃b,sliced a k n c s=.slice b (n-k) (c-k)/\RS I b s (n-k) (xs.drop (k*s)):=by
 refine⟨if c=k then a else a.map (·.add (k*s)),O,by rw[Y6,h.1,Nat.sub_mul],λg=>?_⟩;obtain⟨p,rfl,d⟩:=h.2 om;rw[Y3 om];exact⟨_,O,d.add (k*s)⟩
theorem Ay.tail{pa:Oa}{a:Nat}{p:List Bool}(c:p≠[])(d:p.length<=a)(h:RS I pa 1 p.length (p.map Value.bool)):Ay I (sliced pa 1 p.length a 1) (p.drop 1):=by
 have f:=LU.2 c;obtain⟨b,e,g⟩:=y8 h (k:=1) f d;rw[e];refine⟨b,a-1,by rw[Y6],by rw[Y6];omega,?_⟩;rw[Y6,qR];exact g
theorem re{l:Lv}{s:Nat}(c:l.length=s)(d:zs.length=s):Oi (λi=>some (i*s,s)) zs [(0,.agg l.toArray)]=some l:=by
 have a:Nat.beq ((Value.agg l.toArray).cells.toList.length) s=true:=by
  show Nat.beq l.toArray.toList.length s=true
  simpa using c
 have b:Nat.ble (0*s+s) zs.length=true:=u1 om;rw[Oi];simp only[a,b,Bool.and_self,cond_true]
 rw[Oi,kF];show some (List.take (0*s) zs++l.toArray.toList++List.drop (0*s+l.toArray.toList.length) zs)=_
 rw[OE,Il,CS,Yl,Yo (by simp;omega),Yx]
theorem SH(i:Int){b:Lu}(h:b.length<=32):(Ab i::List.replicate 32 (U8 0)).take 1++Aj b++(Ab i::List.replicate 32 (U8 0)).drop (1+b.length)=E8 (i,SF b):=by
 unfold SF;rw[show(1+b.length)=b.length+1 from LW _ _,Em,Q9,Il];show Ab i::(Aj b++_)=Ab i::Aj (b++List.replicate (32-b.length) 0)
 rw[show Aj (b++List.replicate (32-b.length) 0)=Aj b++Aj (List.replicate (32-b.length) 0)by simp[Aj],List.drop_replicate];simp[Aj]
theorem Xu8(d:Dk)(i:Int)(b:Lu):X2 E8 (d.Ae++[(i,b)])=X2 E8 d.Ae++E8 (i,b):=by
 simp[X2]
theorem Xip(d:Dk)(db kb:Nat)(sv pl:Va)(x:Ct d)(y:Ay I pl d.Au)(N:La)(g:Aa B w I (Ad db [.slice (some (ad kb 0)) d.kept.length d.kept.length,sv,pl,.bool d.off,Ab d.left] 86::Ad kb (X2 Aj d.kept) 292::Ao 294 33 sv d.Ae.length (X2 E8 d.Ae)::N)):
  Cz 405 [ptr db 0] w λv w'=>∃sv pl,v=.bool (Xe d).1/\Ay I pl (Xe d).2.Au/\Aa B w' I (Ad db [.slice (some (ad kb 0)) (Xe d).2.kept.length (Xe d).2.kept.length,sv,pl,.bool (Xe d).2.off,Ab (Xe d).2.left] 86::Ad kb (X2 Aj (Xe d).2.kept) 292::Ao 294 33 sv (Xe d).2.Ae.length (X2 E8 (Xe d).2.Ae)::N):=by
 obtain⟨pa,u,rfl,k,m⟩:=y;have s:=x.left;refine gM 5 ?_ ?_<;>intro i z
 ·refine gG 1 ?_;have e:Xe d=(true,d):=by unfold Xe;rw[Y7 i]
  rw[e];exact⟨sv,_,O,⟨pa,u,O,k,m⟩,g⟩
 refine gN 5 ?_ ?_<;>intro f
 ·refine gH 14 ?_;intro w g;refine gG 9 ?_;intro w g;refine gM 0 ?_ ?_<;>intro c j
  ·have a:d.Au=[]:=Yc (oh j);refine gG 1 ?_;have l:IQ d={ d with left:=d.left-1,off:=d.left-1==0 }:=by unfold IQ;exact Y7 (oh f)
   have e:Xe d=(false,{ d with left:=d.left-1,off:=d.left-1==0 }):=by unfold Xe;rw[Y3 (nB (show d.off=false from i)),l];exact Y7 a
   rw[e];exact⟨sv,_,O,⟨pa,u,O,k,m⟩,g⟩
  have a:d.Au≠[]:=λh=>by rw[h]at c;cases c
  have q:=LU.2 a;obtain⟨p,rfl,n⟩:=m.2 q;have o:(d.Au.map Value.bool)[0]?=some (.bool (d.Au.headD false)):=by cases t:d.Au with
   | nil=>exact Aw t a
   | cons b r=>rfl
  refine gH 5 (.val (.BG (.of O) g (At.add n 0) IH o) O (gG 12 ?_));intro w g;have l:IQ d={ d with left:=d.left-1,off:=d.left-1==0 }:=by unfold IQ;exact Y7 (oh f)
  have e:Xe d=(d.Au.headD false,{ { d with left:=d.left-1,off:=d.left-1==0 } with Au:=d.Au.drop 1 }):=by unfold Xe;rw[Y3 (nB (show d.off=false from i)),l];exact Y3 a
  rw[e];exact⟨sv,_,O,.tail a k m,g⟩
 refine gM 6 ?_ ?_<;>intro c j
 ·have a:d.Au=[]:=Yc (oh j);refine gG 1 ?_;have l:IQ d=d:=by unfold IQ;exact Y3 (oh f)
  have e:Xe d=(false,d):=by unfold Xe;rw[Y3 (nB (show d.off=false from i)),l];exact Y7 a
  rw[e];exact⟨sv,_,O,⟨pa,u,O,k,m⟩,g⟩
 have a:d.Au≠[]:=λh=>by rw[h]at c;cases c
 have q:=LU.2 a;obtain⟨p,rfl,n⟩:=m.2 q;have o:(d.Au.map Value.bool)[0]?=some (.bool (d.Au.headD false)):=by cases t:d.Au with
  | nil=>exact Aw t a
  | cons b r=>rfl
 refine gH 5 (.val (.BG (.of O) g (At.add n 0) IH o) O (gG 12 ?_));intro w g;have l:IQ d=d:=by unfold IQ;exact Y3 (oh f)
 have e:Xe d=(d.Au.headD false,{ d with Au:=d.Au.drop 1 }):=by unfold Xe;rw[Y3 (nB (show d.off=false from i)),l];exact Y3 a
 rw[e];exact⟨sv,_,O,.tail a k m,g⟩
theorem Xiq(i:Int)(b:Lu)(s:Oa)(F:Nat)(d:Dk)(db kb:Nat)(sv pl:Va)(B w:Wo)(I:Im)(t:Ct d)(p:Ay I pl d.Au)(q:RS I s 1 b.length (Aj b))(M:d.Ae.length<=1000000)(N:La)(a:Aa B w I (Ad db [.slice (some (ad kb 0)) d.kept.length d.kept.length,sv,pl,.bool d.off,Ab d.left] 86::Ad kb (X2 Aj d.kept) 292::Ao 294 33 sv d.Ae.length (X2 E8 d.Ae)::N)):
  Cz 353 [ptr db 0,Ab i,.slice s b.length F] w λv w'=>∃sv pl,v=Ab ((CY d i b).1:Nat)/\Ay I pl (CY d i b).2.Au/\Aa B w' I (Ad db [.slice (some (ad kb 0)) (CY d i b).2.kept.length (CY d i b).2.kept.length,sv,pl,.bool (CY d i b).2.off,Ab (CY d i b).2.left] 86::Ad kb (X2 Aj (CY d i b).2.kept) 292::Ao 294 33 sv (CY d i b).2.Ae.length (X2 E8 (CY d i b).2.Ae)::N):=by
 refine gE 3 (OW i d db kb sv pl) ?_;intro w a;refine gM 2 ?_ ?_<;>intro c L
 ·refine gG 1 ?_;have e:CY d i b=(4,d):=by unfold CY;rw[Y7 (su c)]
  rw[e];exact⟨_,_,O,p,a⟩
 refine gN 4 ?_ ?_<;>intro u
 ·refine gG 1 ?_;have e:CY d i b=(2,d):=by unfold CY;rw[Y3 (by rw[show Ml d i=true by simpa using c];decide),Y7 om]
  rw[e];exact⟨_,_,O,p,a⟩
 refine gF 1 (Xip d db kb sv pl t p) ?_;rintro _ w ⟨l,r,rfl,j,a⟩;obtain⟨J,H,o⟩:=ny t;have A:=Ye List.length o;refine gM 1 ?_ ?_<;>intro f x
 ·refine gG 1 ?_;have e:CY d i b=(21,(Xe d).2):=by unfold CY;rw[Y3 (by rw[show Ml d i=true by simpa using c];decide),Y3 om,Y7 f]
  rw[e];exact⟨_,_,O,j,a⟩
 refine gH 2 (.C5 a oE O ?_);intro E w a;refine .so a (k:=0) O O O O bQ O sz ?_;intro w a;replace a:Aa B w I (Ad E (Ab i::List.replicate 32 (U8 0)) 294::Ad db [.slice (some (ad kb 0)) (Xe d).2.kept.length (Xe d).2.kept.length,l,r,.bool (Xe d).2.off,Ab (Xe d).2.left] 86::Ad kb (X2 Aj (Xe d).2.kept) 292::Ao 294 33 l (Xe d).2.Ae.length (X2 E8 (Xe d).2.Ae)::N):=a;refine gH 1 (.val (.B1 (.of O) de oD Cw) O ?_);refine gH 1 (.q5 (m:=32) a (k:=0) O (.of O) (.of O) q BC Cw (H7 b) om (by simp;omega) O ?_);intro w a;replace a:=a.say (k:=0) O (λh z=>by rw[SH i om]at z;exact z);dsimp only[List.set]at a
 have g:=Xx3 (b:=b) om;refine gG 0 (gD [1,0] [10] [0,1,2,3,4,5,6,7,8,9,10] ?_);intro w a;refine gH 5 (AN.y 5 (λw _ _ K a=>(.Ks (.of O) a (k:=1) O NQ bQ (by simp[g]))) (AN.e (.buildSlice a (Lb O U_) jw bQ oE O O (re (by simp[g]) de) O ?_)));intro D w a;refine gH 0 (AN.e (.append (bytes:=40) a (.of O) (.of O) (k:=3) O jw Xt3 O O O O (by simp[g]) O (by simp[E8,Value.oneCell',Aj]) ⟨om,by unfold maxLen;omega⟩ O ?_));intro P w a;dsimp only[List.set]at a;obtain⟨C,G,rfl,n,_⟩:=a.vS 3;refine gH 3 ?_;intro w a;refine gG 1 ?_;have e:CY d i b=(0,{ (Xe d).2 with Ae:=(Xe d).2.Ae++[(i,SF b)] }):=by unfold CY;rw[Y3 (by rw[show Ml d i=true by simpa using c];decide),Y3 om,Y3 (by rw[show(Xe d).1=false from f];decide)]
 rw[e];replace a:=((((a.pick 3 O).pick 3 O).pick 3 O).drop (k:=3) O)
 exact⟨_,_,O,j,by rw[Xu8,Y0];exact a⟩
theorem yw{cells:α->Lv}{s E:Nat}{l:List α}(o:∀x∈l,(cells x).length=s)(m:Aa B w I N)(f:N[k]?=some (Ao E s (.slice a l.length c) l.length (X2 cells l))):H9 w cells s a l:=λi r g=>by
 obtain⟨b,cap,rest,q,_,_,_,_,e⟩:=m.AF f (oh ((Y1.1 g).1));injection q with h t d
 subst h;have n:=e.block (k:=k) (by rw[qL ((Y1.1 f).1)];rfl);refine⟨_,O,λj v p=>?_⟩;rw[Addr.add_add];have d:=Xq5 (cells:=cells) o g p
 have:=Xx n (by rw[Yf (Y1.1 d).1];exact d)
 rw[C7,Yl];exact this
theorem ZA(n m:Nat)(x:Ui):X2 Aj (List.replicate n (List.replicate m x))=List.replicate (n*m) (U8 x.toNat):=by
 induction n with
 | zero=>simp[X2]
 | succ n a =>
  show Aj (List.replicate m x)++X2 Aj (List.replicate n (List.replicate m x))=_
  rw[a,show Aj (List.replicate m x)=List.replicate m (U8 x.toNat)by simp[Aj],List.replicate_append_replicate,T8,LW]
abbrev zN(b:Bool):Lv:=[.bool b]
theorem Zy(l:List Bool):X2 zN l=l.map Value.bool:=by
 induction l with
 | nil=>rfl
 | cons x l a=>rw[Yw,<-a];rfl
theorem Wh(n:Int)(N:La)(a:Aa B w I N):
  Cz 13 [Ab n] w λv w'=>∃db kb sv,v=ptr db 0/\Aa B w' I (Ad db [.slice (some (ad kb 0)) (EU n).kept.length (EU n).kept.length,sv,(.slice none 0 0),.bool (EU n).off,Ab (EU n).left] 86::Ad kb (X2 Aj (EU n).kept) 292::Ao 294 33 sv (EU n).Ae.length (X2 E8 (EU n).Ae)::N):=by
 obtain⟨l,b⟩:∃l:Nat,max 0 (min n 512)=(l:Int):=⟨_,(iJ om).symm⟩
 refine gH 4 (.rD (l:=l) (z0:=U8 0) a (.of (Ye (λx=>some (Ab x)) b)) (.of (Ye (λx=>some (Ab x)) b)) QA Xt2 O (by simp[t292];omega) om O de O O ?_);intro kb w a;refine gG 3 ?_;intro c w a;have d:(EU n).kept.length=l:=by simp only[EU,oP];omega
 have e:X2 Aj (EU n).kept=List.replicate (l*32) (U8 0):=by
  simp only[EU,ZB]
  rw[ZA,show(max 0 (min n 512)).toNat=l by omega];first|done|rfl
 refine⟨c,kb,.slice none 0 0,O,?_⟩;rw[d,e];exact(((a.Al 294 33).pick 2 O).pick 2 O)
theorem Xyc(a:Oa)(c:Nat)(l:List (Bool))(t:l.length<=1000000)(m:RS I a 1 l.length (X2 zN l))(N:La)(b:Aa B w I N):
  Cz 90 [.slice a l.length c] w λv w'=>∃J d e,v=.slice d l.length e/\Le I J/\l.length<=e/\RS J d 1 l.length (X2 zN l)/\Aa B w' J N:=by
 refine gH 2 (.val (Ex.Fp (.of O) (.of O) Jy) O ?_);refine gM 0 ?_ ?_<;>intro g q
 ·refine gG 1 ?_;cases a with
  | some p=>simp at g
  | none =>
  have n:l=[]:=by
   cases l with
   | nil=>rfl
   | cons x l=>obtain⟨p,h,_⟩:=m.2 sz;cases h
  subst n;exact⟨I,none,0,O,Le.refl _,Y9 _,⟨O,λh=>Aw h sz⟩,b⟩
 refine gH 2 ?_;intro s w b;replace b:=b.BB (k:=0) (size:=1) O O (Y5 _);refine .Bk (bytes:=1) b (.of O) (.of O) m (k:=0) O Jy (i:=t4) kr O O O O (gK (λr=>rfl) l) ⟨om,by unfold maxLen;omega⟩ O ?_;intro u w b;rw[Yl,CS]at b;refine gG 1 ?_;obtain⟨d,e,rfl,j,_⟩:=b.vS 0;obtain⟨J,o,f,b⟩:=b.fV 0;exact⟨J,d,e,O,o,j,f,b⟩
theorem Xsp(p:List Bool)(pa:Oa)(f:Nat)(h:p.length<=1000000)(d:Dk)(db kb:Nat)(sv pl:Va)(k:Ct d)(l:Ay I pl d.Au)(b:RS I pa 1 p.length (p.map Value.bool))(N:La)(c:Aa B w I (BA db kb sv pl d N)):
  Cz 44 [ptr db 0,.slice pa p.length f] w λv w'=>∃J sv pl,Le I J/\Ay J pl p/\Aa B w' J (BA db kb sv pl (yJ d p) N):=by
 refine gF 2 (Xyc pa f p h (by rw[Zy];exact b)) ?_;rintro _ w ⟨J,i,j,rfl,g,e,a,c⟩;refine gG 3 ?_;intro w c;rw[Zy]at a;exact⟨J,sv,_,g,⟨i,j,O,e,a⟩,c⟩
theorem RE(d:Dk)(db kb:Nat)(sv pl:Va)(C:Ct d)(M:Ay I pl d.Au)(T:d.Ae.length<=1000000)(N:La)(a:Aa B w I (Ad db [.slice (some (ad kb 0)) d.kept.length d.kept.length,sv,pl,.bool d.off,Ab d.left] 86::Ad kb (X2 Aj d.kept) 292::Ao 294 33 sv d.Ae.length (X2 E8 d.Ae)::N)):
  Cz 354 [ptr db 0] w λv w'=>∃sv pl,v=Ab ((Ef d).1:Nat)/\Ay I pl (Ef d).2.Au/\Aa B w' I (Ad db [.slice (some (ad kb 0)) (Ef d).2.kept.length (Ef d).2.kept.length,sv,pl,.bool (Ef d).2.off,Ab (Ef d).2.left] 86::Ad kb (X2 Aj (Ef d).2.kept) 292::Ao 294 33 sv (Ef d).2.Ae.length (X2 E8 (Ef d).2.Ae)::N):=by
 refine gF 2 (Xip d db kb sv pl C M) ?_;rintro _ w ⟨F,m,rfl,n,a⟩;obtain⟨g,b,u⟩:=ny C;have H:=Ye List.length u;refine gM 0 ?_ ?_<;>intro p P
 ·refine gG 1 ?_;have e:Ef d=(21,(Xe d).2):=by unfold Ef;exact Y7 p
  rw[e];exact⟨F,m,O,n,a⟩
 obtain⟨J,K,rfl,S,_⟩:=a.vS 2;refine gG 6 ?_;have l:=λj=>ui ((Xe d).2.Ae.take j) d.kept (λw U=>g.what w (kO U)) C.kept
 rw[b]at a;have o:=a;clear a;refine .lk [0,10,11] (σ:=Nat) (λi _m=>(12,Ab (i:Nat))::_m) (λi w=>i<=(Xe d).2.Ae.length/\Aa B w I (Ad db [.slice (some (ad kb 0)) d.kept.length d.kept.length,.slice J (Xe d).2.Ae.length K,m,.bool (Xe d).2.off,Ab (Xe d).2.left] 86::Ad kb (X2 Aj (((Xe d).2.Ae.take i).foldl bT d.kept)) 292::Ao 294 33 (.slice J (Xe d).2.Ae.length K) (Xe d).2.Ae.length (X2 E8 (Xe d).2.Ae)::N)) (λi=>(Xe d).2.Ae.length-i) 0 ⟨Y5 _,o⟩ ?_;rintro i w ⟨hi,a⟩;clear o;have E:=(l i).1;have s:=λx hx=>(Ve x).trans ((l i).2 x hx)
 refine gN 1 ?_ ?_<;>intro G
 ·obtain⟨x,hx⟩:∃x,(Xe d).2.Ae[i]?=some x:=⟨_,Y2 om⟩
  have t:=Y8 hx;have V:=g.at_ x t;have f:=g.what x t;have W:=Ye List.length b;obtain⟨q,rfl,R⟩:=yw (yn g) a (k:=2) O i x hx;refine gH 1 (.val (.Hc (.of O) R NQ bQ (by simp[f])) O (.C5 a oE O ?_));intro X w a;refine .so a (k:=0) O O O (by simp[E8,Value.oneCell',Aj]) bQ (by simp[f]) sz ?_;intro w a;replace a:=a.say (k:=0) O (λh r=>by rw[Il,CS,Yo sz,Yx]at r;exact r);dsimp only[List.set]at a
  refine gG 0 (gD [1,0] [9] [0,1,2,3,4,5,6,7,8,9] ?_);intro w a;refine gH 5 (AN.y 5 (λw _ _ A a=>(.lo O a (k:=1) O BP O)) (gH 1 ?_));refine AN.y 7 (λw _ _ A a=>(.D6 (vs:=Aj x.2) (.of O) a (k:=1) O isAgg292 KV (by simp[Aj,f]) (λj v Q=>by rw[LW,qK];exact Q))) ?_;refine gH 1 (AN.e ?_);refine .BL (cs:=X2 Aj (((Xe d).2.Ae.take i).foldl bT d.kept)) a (k:=2) O (.of O) (.of O) (H7 _) KV (by simp[Aj,f]) (by have L:=tf s;rw[E]at L;omega) ?_;intro w a;replace a:=a.say (k:=2) O (λh r=>by rw[Yl,xu s (by simp[Aj,f]) om]at r;exact r);refine gG 2 (rd (i+1) ⟨om,?_⟩);rw[Yv,hx,DO,K9];exact(a.z [3,3,3] 3 1)
 refine gG 5 ?_;intro w a;have e:Ef d=(0,{ (Xe d).2 with kept:=(Xe d).2.Ae.foldl bT (Xe d).2.kept,Ae:=[] }):=by unfold Ef;exact Y3 (nB p)
 rw[e];have c:=(l (Xe d).2.Ae.length).1;rw[Yk om]at c;have D:i=(Xe d).2.Ae.length:=om
 subst D;rw[Yk (Y9 _)]at a;refine⟨.slice none 0 0,m,O,n,?_⟩;rw[<-b]at a;simp only[b]at c ⊢
 rw[c];rw[b]at a;exact(((a.y 2 1).Al 294 33).pick 2 O).pick 2 O
theorem fN{d:Dk}(h:Ct d)(n:Int){b:Lu}(a:b.length=32)(i:Nat):((d.Ae.take i).foldl (OB n) b).length=32:=by
 have key:∀(l:List (Int×Lu)) (b:Lu),(∀w∈l,w.2.length=32)->b.length=32->(l.foldl (OB n) b).length=32:=by
  intro l
  induction l with
  | nil=>intro b _ a;exact a
  | cons w l f =>
   intro b c a;refine f _ (λx hx=>c x (by simp[hx])) ?_;unfold OB;split
   ·exact c w sz
   ·exact a
 exact key _ _ (λw e=>h.what w (kO e)) a
theorem Xof(d:Dk)(db kb:Nat)(t:Oa)(u:Nat)(pl:Va)(n:Int)(l:Ct d)(A:Ml d n=true)(F:d.Ae.length<=1000000)(N:La)(a:Aa B w I (BA db kb (.slice t d.Ae.length u) pl d N)):
  Cz 108 [ptr db 0,Ab n] w λv w'=>∃g,v=.slice (some (ad g 0)) 32 32/\Aa B w' I (Ad g (Aj (LM d n)) 292::BA db kb (.slice t d.Ae.length u) pl d N):=by
 refine gP 3 [] (OW n d db kb _ pl _) ?_;rintro _ w ⟨rfl,a⟩;refine gG 1 ?_;refine .Bt (by rw[A];rfl) ?_;have D:0<=n/\n<(d.kept.length:Nat):=by have y:=A;simp only[Ml,Yb,decide_eq_true_eq]at y;exact y
 have o:d.kept[n.toNat]?=some (d.kept.getD n.toNat []):=by rw[Ya,Y2 om];rfl
 have f:=l.kept _ (Y8 o);refine gH 6 ?_;refine .val (.D6 (.of O) a (k:=1) O isAgg292 KV (by rw[Ve];exact f) (λj v r=>by rw[Yl];exact Xq5 (l1 l) o r)) O ?_;refine .C5 a zeroValue292 O ?_;intro g w a;refine .so a (k:=0) O O O (H7 _) KV (by rw[Ve];exact f) sz ?_;intro w a;replace a:=a.say (k:=0) O (λh e=>by rw[Il,CS,Yo sz,Yx]at e;exact e);dsimp only[List.set]at a
 have m:=a;clear a;refine gG 6 (.lk [1,5,22,23] (σ:=Nat) (λi _m=>(24,Ab (i:Nat))::_m) (λi w=>i<=d.Ae.length/\Aa B w I (Ad g (Aj ((d.Ae.take i).foldl (OB n) (d.kept.getD n.toNat []))) 292::BA db kb (.slice t d.Ae.length u) pl d N)) (λi=>d.Ae.length-i) 0 ⟨Y5 _,m⟩ ?_);rintro i w ⟨hi,a⟩;clear m;have p:(((d.Ae.take i).foldl (OB n) (d.kept.getD n.toNat []))).length=32:=fN l n f i;refine gN 1 ?_ ?_<;>intro C
 ·refine gG 0 ?_;obtain⟨x,hx⟩:∃x,d.Ae[i]?=some x:=⟨_,Y2 om⟩
  have s:=Y8 hx;have b:=l.what x s;obtain⟨q,rfl,E⟩:=yw (yn l) a (k:=3) O i x hx;refine gH 1 (.val (.Hc (.of O) E NQ bQ (by simp[b])) O (.C5 a oE O ?_));intro G w a;refine .so a (k:=0) O O O (by simp[E8,Value.oneCell',Aj]) bQ (by simp[b]) sz ?_;intro w a;replace a:=a.say (k:=0) O (λh e=>by rw[Il,CS,Yo sz,Yx]at e;exact e);refine gH 1 (.val (.ld (v:=Ab x.1) (.of O) a (k:=0) O BP O) O ?_);refine gN 2 ?_ ?_<;>intro c
  ·refine gH 1 ?_;refine .val (.D6 (vs:=Aj x.2) (.of O) a (k:=0) O isAgg292 KV (by simp[Aj,b]) (λj v r=>by rw[LW,qK];exact r)) O ?_;refine .BL (cs:=Aj ((d.Ae.take i).foldl (OB n) (d.kept.getD n.toNat []))) a (k:=1) O (.of O) (.of O) (H7 _) KV (by simp[Aj,b]) (by rw[Ve,p];exact Y9 _) ?_;intro w a;replace a:=a.say (k:=1) O (λh e=>by rw[Il,CS,Yo (by rw[Ve,p];exact Y9 _),Yx]at e;exact e);refine gG 2 (rd (i+1) ⟨om,?_⟩);rw[Yv,hx,DO,K9,show List.foldl (OB n) ((d.Ae.take i).foldl (OB n) (d.kept.getD n.toNat [])) [x]=x.2 from Y7 (oh c)];exact(a.z [4,4,4,4] 4 1)
  refine gG 2 (rd (i+1) ⟨om,?_⟩);rw[Yv,hx,DO,K9,show List.foldl (OB n) ((d.Ae.take i).foldl (OB n) (d.kept.getD n.toNat [])) [x]=((d.Ae.take i).foldl (OB n) (d.kept.getD n.toNat [])) from Y3 (oh c)];exact(a.z [4,4,4,4] 4 1)
 refine gG 0 (.val (.B1 (.of O) de oD Cw) O ?_);refine gG 1 ?_;rw[Yk om]at a;exact⟨g,O,a⟩
def dx(a:Lu)(l:List (Int×Lu))(k:List Lu):List Lu:=Vw a 0 l k
theorem Xxy(a:Lu)(x:Int×Lu):∀(l:List (Int×Lu)) (i:Nat) (k:List Lu),Vw a i (l++[x]) k=bY (Vw a i l k) x (Q6 a (i+l.length))
 | [],i,k=>rfl
 | w::l,i,k=>by
  show Vw a (i+1) (l++[x]) _=_
  rw[Xxy a x l (i+1) (bY k w (Q6 a i)),Y4,show i+1+l.length=i+(l.length+1)by omega];rfl
theorem Xqw{a:Lu}{l:List (Int×Lu)}{k:List Lu}{x:Int×Lu}(h:l[i]?=some x):dx a (l.take (i+1)) k=bY (dx a (l.take i) k) x (Q6 a i):=by
 unfold dx;rw[Yv,h,DO,Xxy,Yj,JT (oh ((Y1.1 h).1)),Yl]
theorem Xju{k:List Lu}{x:Int×Lu}(f:∀b∈k,b.length=32)(hx:x.2.length=32)(l:0<=x.1/\x.1<(k.length:Nat))(o:m<=32):
  (X2 Aj k).take (0+x.1.toNat*32)++Aj (x.2.take m)++(X2 Aj k).drop (0+x.1.toNat*32+m)=X2 Aj (bY k x m):=by
 have hi:x.1.toNat<k.length:=om
 have d:∀b∈k,(Aj b).length=32:=λb g=>(Ve b).trans (f b g)
 have e:k[x.1.toNat]?=some (k.getD x.1.toNat []):=by rw[Ya,Y2 hi];rfl
 have i:=f _ (Y8 e);unfold bY;rw[<-xu d (by rw[Ve,Y0,Yj,Y6];omega) hi,Yl];have a:(X2 Aj k).drop (x.1.toNat*32)=Aj (k.getD x.1.toNat [])++(X2 Aj k).drop (x.1.toNat*32+32):=by
  have n:=aZ (k.map Aj) (λc h=>by obtain⟨y,j,rfl⟩:=Dj.1 h;exact d y j) x.1.toNat (Aj (k.getD x.1.toNat [])) (by rw[Yu,e];rfl);rw[<-FA 32 ((X2 Aj k).drop (x.1.toNat*32)),JU]
  congr 1
 rw[<-JU,a,oM (by rw[Ve];omega),show Aj (x.2.take m++(k.getD x.1.toNat []).drop m)=Aj (x.2.take m)++(Aj (k.getD x.1.toNat [])).drop m by simp[Aj]];simp only[Yg]
theorem Xzg(a:Lu)(X:Oa)(Z:Nat)(d:Dk)(db kb:Nat)(sv pl:Va)(D:Ct d)(hP:Ay I pl d.Au)(L:RS I X 1 a.length (Aj a))(aa:a.length<=1000000)(ae:d.Ae.length<=1000000)(N:La)(e:Aa B w I (BA db kb sv pl d N)):
  Cz 93 [ptr db 0,.slice X a.length Z] w λv w'=>∃sv,Aa B w' I (BA db kb sv (.slice none 0 0) (JI d a) N):=by
 refine gG 12 ?_;intro w e;obtain⟨V,t,rfl,ac,_⟩:=e.vS 2;refine gG 6 ?_;have s:∀j,(dx a (d.Ae.take j) d.kept).length=d.kept.length/\∀b∈dx a (d.Ae.take j) d.kept,b.length=32:=λj=>zc a (d.Ae.take j) 0 d.kept (λw U=>D.what w (kO U)) (λw U=>D.at_ w (kO U)) D.kept
 have F:=e;clear e;refine .lk [0,1,19,20] (σ:=Nat) (λi _m=>(21,Ab (i:Nat))::_m) (λi w=>i<=d.Ae.length/\Aa B w I (Ad db [.slice (some (ad kb 0)) d.kept.length d.kept.length,.slice V d.Ae.length t,.slice none 0 0,.bool false,Ab (-1)] 86::Ad kb (X2 Aj (dx a (d.Ae.take i) d.kept)) 292::Ao 294 33 (.slice V d.Ae.length t) d.Ae.length (X2 E8 d.Ae)::N)) (λi=>d.Ae.length-i) 0 ⟨Y5 _,F⟩ ?_;rintro i w ⟨hi,e⟩;clear F;have r:=(s i).1;have G:∀x∈(dx a (d.Ae.take i) d.kept),(Aj x).length=32:=λx hx=>(Ve x).trans ((s i).2 x hx)
 refine gN 1 ?_ ?_<;>intro Y
 ·obtain⟨x,hx⟩:∃x,d.Ae[i]?=some x:=⟨_,Y2 om⟩
  have J:=Y8 hx;have H:=D.at_ x J;have l:=D.what x J;obtain⟨q,rfl,hq⟩:=yw (yn D) e (k:=2) O i x hx;refine gH 2 (.val (.Hc (.of O) hq NQ bQ (by simp[l])) O (.C5 e oE O ?_));intro C w e;refine gH 1 (.so e (k:=0) O O O (by simp[E8,Value.oneCell',Aj]) bQ (by simp[l]) sz ?_);intro w e;replace e:=e.say (k:=0) O (λh u=>by rw[Il,CS,Yo sz,Yx]at u;exact u);refine gN 5 ?_ ?_<;>intro g
  ·obtain⟨cp,rfl,P⟩:=L.2 (oh g);have M:=En (a.getD (i:Int).toNat 0);refine gH 2 ?_
   first|refine .val (.io O O om om BC Cw) O ?_|refine .val (.ii O O om om BC Cw) O ?_
   refine .val (.eR (λc:Ui=>U8 c.toNat) a 0 (.of O) e P O EA om (oh g)) O ?_;refine gG 3 ?_;obtain⟨m,S,f⟩:∃m:Nat,m=Q6 a i/\m<=32:=⟨_,O,yF a i⟩
   have T:Q6 a i=(a.getD (i:Int).toNat 0).toNat%33:=by unfold Q6;exact Y7 (oh g)
   have A:(((a.getD (i:Int).toNat 0).toNat:Int)%33:Int)=(m:Int):=om
   refine .dw (λw=>∃R,Aa B w I (Ad db [.slice (some (ad kb 0)) d.kept.length d.kept.length,.slice (some q) d.Ae.length t,.slice none 0 0,.bool false,Ab (-1)] 86::Ad C (E8 x) 294::R)) (λj=>!([].contains j)) ?_;replace e:=e.drew;generalize w.drew=w at e ⊢;have n:∃R,Aa B w I (Ad db [.slice (some (ad kb 0)) d.kept.length d.kept.length,.slice (some q) d.Ae.length t,.slice none 0 0,.bool false,Ab (-1)] 86::Ad C (E8 x) 294::R):=⟨_,(e.x [0,1])⟩
   refine .tp 0 O (λw=>(.mo O)) (.tp 1 O (λw=>(.no O)) ?_);refine .tp 2 O (λw=>(by first|exact .fo 0 O GY O O UF O|exact .fi 0 O GY O O UF O)) ?_;refine .tk 3 O n (λw ⟨R,e⟩=>(by first|exact(.lo O e (k:=0) O UD O)|exact(.lo O e (k:=1) O UD O))) ?_;refine .tp 4 O (λw=>(by first|exact .fo 0 O Vn O O Bg O|exact .fi 0 O Vn O O Bg O)) ?_;refine .tk 5 O n (λw ⟨R,e⟩=>(.lo O e (k:=1) O BP O)) (.tp 6 O (λw=>(by first|exact .io O O om om QA KV|exact .ii O O om om QA KV)) ?_);refine .tp 7 O (λw=>(.mo O)) (.tp 8 O (λw=>(.PU (.of O) (.of (Ye (λx=>some (Ab x)) A)) om om de oD Cw)) ?_);refine .tp 9 O (λw=>(by first|exact .fo 1 O Vn O O KV O|exact .fi 1 O Vn O O KV O)) ?_;refine .tp 10 O (λw=>(.B1 (.of O) de oD Cw)) ?_;refine .b1 11 O ?_;refine .iY (m:=m) (o2:=1) (vs:=Aj (x.2.take m)) e (k:=2) (k2:=0) O O (.of O) (.of O) BC Cw (by simp[Aj,l,f]) (λj v p=>?_) (H7 _) f (by have K:=tf G;rw[r]at K;omega) O ?_
   ·rw[LW,qK];simp only[Aj,ct]at p ⊢
    rw[Q_]at p;split at p
    ·exact p
    ·cases p
   intro w e;replace e:=e.say (k:=2) O (λh u=>by rw[Xju (s i).2 l (by rw[r];exact H) f]at u;exact u);refine .nil ?_;clear n;have n:∃R,Aa B w I (Ad db [.slice (some (ad kb 0)) d.kept.length d.kept.length,.slice (some q) d.Ae.length t,.slice none 0 0,.bool false,Ab (-1)] 86::Ad C (E8 x) 294::R):=⟨_,(e.x [0,1])⟩
   refine⟨λ_ _=>n,?_⟩;refine .dn (gG 2 (rd (i+1) ⟨om,?_⟩));rw[Xqw hx,<-S];exact(e.z [3,3,3] 3 1)
  refine gG 0 ?_;obtain⟨m,S,f⟩:∃m:Nat,m=Q6 a i/\m<=32:=⟨_,O,yF a i⟩
  have T:Q6 a i=0:=by unfold Q6;exact Y3 (oh g)
  have A:(0:Int)=(m:Int):=om
  refine .dw (λw=>∃R,Aa B w I (Ad db [.slice (some (ad kb 0)) d.kept.length d.kept.length,.slice (some q) d.Ae.length t,.slice none 0 0,.bool false,Ab (-1)] 86::Ad C (E8 x) 294::R)) (λj=>!([].contains j)) ?_;replace e:=e.drew;generalize w.drew=w at e ⊢;have n:∃R,Aa B w I (Ad db [.slice (some (ad kb 0)) d.kept.length d.kept.length,.slice (some q) d.Ae.length t,.slice none 0 0,.bool false,Ab (-1)] 86::Ad C (E8 x) 294::R):=⟨_,(e.x [0,1])⟩
  refine .tp 0 O (λw=>(.mo O)) (.tp 1 O (λw=>(.no O)) ?_);refine .tp 2 O (λw=>(by first|exact .fo 0 O GY O O UF O|exact .fi 0 O GY O O UF O)) ?_;refine .tk 3 O n (λw ⟨R,e⟩=>(by first|exact(.lo O e (k:=0) O UD O)|exact(.lo O e (k:=1) O UD O))) ?_;refine .tp 4 O (λw=>(by first|exact .fo 0 O Vn O O Bg O|exact .fi 0 O Vn O O Bg O)) ?_;refine .tk 5 O n (λw ⟨R,e⟩=>(.ld (v:=Ab x.1) (.of O) e (k:=1) O BP O)) (.tp 6 O (λw=>(by first|exact .io O O om om QA KV|exact .ii O O om om QA KV)) ?_);refine .tp 7 O (λw=>(.mo O)) (.tp 8 O (λw=>(.PU (.of O) (.of (Ye (λx=>some (Ab x)) A)) om om de oD Cw)) ?_);refine .tp 9 O (λw=>(by first|exact .fo 1 O Vn O O KV O|exact .fi 1 O Vn O O KV O)) ?_;refine .tp 10 O (λw=>(.B1 (.of O) de oD Cw)) ?_;refine .b1 11 O ?_;refine .iY (o:=0+x.1.toNat*32) (m:=m) (o2:=1) (E:=5) (cs:=X2 Aj (dx a (d.Ae.take i) d.kept)) (vs:=Aj (x.2.take m)) e (k:=2) (k2:=0) O O (.of O) (.of O) BC Cw (by simp[Aj,l,f]) (λj v p=>?_) (H7 _) f (by have K:=tf G;rw[r]at K;omega) O ?_
  ·rw[LW,qK];simp only[Aj,ct]at p ⊢
   rw[Q_]at p;split at p
   ·exact p
   ·cases p
  intro w e;replace e:=e.say (k:=2) O (λh u=>by rw[Xju (s i).2 l (by rw[r];exact H) f]at u;exact u);refine .nil ?_;clear n;have n:∃R,Aa B w I (Ad db [.slice (some (ad kb 0)) d.kept.length d.kept.length,.slice (some q) d.Ae.length t,.slice none 0 0,.bool false,Ab (-1)] 86::Ad C (E8 x) 294::R):=⟨_,(e.x [0,1])⟩
  refine⟨λ_ _=>n,?_⟩;refine .dn (gG 2 (rd (i+1) ⟨om,?_⟩));rw[Xqw hx,<-S];exact(e.z [3,3,3] 3 1)
 refine gH 1 ?_;have Q:i=d.Ae.length:=om
 subst Q;rw[Yk (Y9 _)]at e;have y:=r;rw[Yk (Y9 _)]at y;rw[<-y]at e;refine gF 0 (Xoe { d with kept:=dx a d.Ae d.kept,Au:=[],off:=false,left:=-1 } db kb (.slice V d.Ae.length t) (.slice none 0 0)) ?_;rintro _ w ⟨W,e⟩;exact gG 0 ⟨W,e⟩
theorem Xz9:sk prog 170 [(0,1),(1,1),(2,1),(3,1)] [S [],S [],.slice none 0 0,S []]:=C1 oB UU (λw=>by simp[go_sem])
theorem Xwi(c:Nat)(s:Lu)(f:s.length<=1000000)(e:Kz I)(N:La)(b:Aa B w I (Ad c [S s] 255::N)):
  Ce B I (Ad c [S (Xz s).2.2] 255::N) 128 [ptr c 0] w (.tuple #[S (Xz s).1,Ab ((Xz s).2.1:Nat)]):=by
 refine gE 6 (Ue s CR f e) ?_;intro w b;refine gM 9 ?_ ?_<;>intro a d
 ·refine gG 2 (⟨?_,?_⟩)
  ·unfold Xz;rw[Y3 (su a)];rfl
  ·unfold Xz;rw[Y3 (su a)];exact b
 refine gG 8 ?_;intro w b;refine⟨?_,?_⟩
 ·unfold Xz;rw[Y7 (su a)];rfl
 ·unfold Xz;rw[Y7 (su a)];exact b
theorem XU{a b:Ui}(h:(a.toNat:Int)=b.toNat):(a==b)=true:=by
 have:a=b:=GL.1 om
 rw[this];exact beq_self_eq_true _
theorem XV{a b:Ui}(h:¬ (a.toNat:Int)=b.toNat):(a==b)=false:=by
 cases e:a==b with
 | false=>rfl
 | true=>exact Aw (by rw[eq_of_beq e]) h
theorem Xn5(s t:Lu)(j:s.length<=1000000)(N:La)(a:Aa B w I N):
  Ce B I N 150 [S s,S t] w (.bool (hB s t)):=by
 refine gN 6 ?_ ?_<;>intro d
 ·refine gG 1 (⟨Ye Value.bool ?_,a⟩);unfold hB;rw[show(s.length==t.length)=false from by have h:=d;simp;omega];rfl
 have e:s.length=t.length:=by have h:=d;omega
 refine gG 3 (.lk [0,1,12] (σ:=Nat) (λi _m=>(13,Ab (i:Nat))::_m) (λi w=>i<=s.length/\(s.map E2==t.map E2)=((s.drop i).map E2==(t.drop i).map E2)/\Aa B w I N) (λi=>s.length-i) 0 ⟨Y5 _,O,a⟩ ?_);rintro i w ⟨hi,b,a⟩;refine gN 1 ?_ ?_<;>intro f
 ·refine gG 2 (.qt a (.val (λw a=>(.mo O)) O (.val (λw a=>(.mo O)) O (.val (λw a=>(.index (.of O) (.of O) om om Bb)) O (.call func242 O (AM O X3) O (λw a=>Xgt (at_ s (i:Int)) _ a) (.val (λw a=>(.mo O)) O (.val (λw a=>(.mo O)) O (.val (λw a=>(.index (.of O) (.of O) om om Bb)) O (.call func242 O (AM O X3) O (λw a=>Xgt (at_ t (i:Int)) _ a) (.val (λw a=>(.neq (.of O) (.of O))) O (.nil ?_)))))))))));intro w a;refine gM 0 ?_ ?_<;>intro c g
  ·refine gG 1 (⟨Ye Value.bool ?_,a⟩);unfold hB;rw[b,Xf s om,Xf t om,Yw,Yw,vf,show(E2 (at_ s (i:Int))==E2 (at_ t (i:Int)))=false from XV (su c),zH,b_]
  refine gG 2 (rd (i+1) ⟨om,?_,a⟩);rw[b,Xf s om,Xf t om,Yw,Yw,vf,show(E2 (at_ s (i:Int))==E2 (at_ t (i:Int)))=true from XU (su c),HH]
 refine gG 1 (⟨Ye Value.bool ?_,a⟩);unfold hB;rw[b,Yo om,Yo om,e];simp
theorem Nx(s:Lu)(c:s.length<=1000000)(N:La)(a:Aa B w I N):
  Ce B I N 216 [S s] w (.bool (P1 s)):=by
 refine gE 2 (xK s _ om de) ?_;intro w a;refine gH 2 (.AA (T:=λw=>Aa B w I N) O O O Je O (λb=>(X4 (.gd b O) (AM O (AM O X3)))) O (λb=>sW 33 126 s c _ a) a ?_);clear a;rintro w a;exact gG 2 ⟨O,a⟩
theorem RY(l:Lu)(i:l.length<=1000000)(h:Kz I)(N:La)(b:Aa B w I N):
  Ce B I N 129 [S l] w (.tuple #[.agg #[S (QP l).1,S (QP l).2.1,.slice none 0 0,S []],Ab ((QP l).2.2:Nat)]):=by
 refine gH 3 ?_;intro j w b;refine gF 0 (Xii l 32 i h) ?_;rintro _ w ⟨m,rfl,b⟩;refine gH 6 (.Am O O (λa=>(by exact .indexAddr (.gd a O) (.of O) (ot a) (ot a) ET A3)) O ?_);refine .Am O O (λa=>.ld (.gd a O) b (k:=0) O Bq (ia (by have e:=a;simp at e;omega))) O ?_;refine gH 4 (.Am O O (λa=>(by exact .indexAddr (.gd a O) (.of O) (ot a) (ot a) ET A3)) O ?_);refine .Am O O (λa=>.ld (.gd a O) b (k:=0) O Bq (ia (by have e:=a;simp at e;omega))) O ?_;refine .AA (T:=λw=>Aa B w I _) O O O Je O (λa=>(X4 (.gd a O) (AM O (AM O X3)))) O (λa=>sW 65 90 ((BK 32 l).getD 0 []) (oh (uP l 0)) _ b) b ?_;clear b;rintro w b;refine gH 4 (.Am O O (λa=>(by exact .indexAddr (.gd a O) (.of O) (ot a) (ot a) ET A3)) O ?_);refine .Am O O (λa=>.ld (.gd a O) b (k:=0) O Bq (ia (by have e:=a;simp at e;omega))) O ?_;refine .AA (T:=λw=>Aa B w I _) O O O func216 O (λa=>(X4 (.gd a O) X3)) O (λa=>Nx ((BK 32 l).getD 1 []) (oh (uP l 1)) _ b) b ?_;clear b;rintro w b;refine gH 4 (.Am O O (λa=>(by exact .indexAddr (.gd a O) (.of O) (ot a) (ot a) ET A3)) O ?_);refine .Am O O (λa=>.ld (.gd a O) b (k:=0) O Bq (ia (by have e:=a;simp at e;omega))) O ?_;refine gM 2 ?_ ?_<;>intro c f
 ·refine gH 3 ?_;intro w b;exact gG 0 ⟨by unfold QP;rw[Y7 (show uI _=true from c)];rfl,b.s⟩
 refine gH 1 (.val (.io O O om om ET A3) O (.val (.lo O b (k:=0) O Bq (ia om)) O (gH 3 (.Am O O (λa=>(by exact .indexAddr (.gd a O) (.of O) (ot a) (ot a) ET A3)) O ?_))));refine .Am O O (λa=>.ld (.gd a O) b (k:=0) O Bq (ia om)) O ?_;refine gM 2 ?_ ?_<;>intro d g
 ·refine gH 3 ?_;intro w b;exact gG 0 ⟨by unfold QP;rw[Y3 (nB (show uI _=false from c)),Y7 (show Me _=true from d)];rfl,b.s⟩
 refine gG 0 (.tail 7 kr kr ?_);replace b:=b.drew;generalize w.drew=w at b ⊢;refine .vm O O (.val (by exact .io O O om om ET A3) O ?_);refine .val (.lo O b (k:=0) O Bq (ia om)) O (.vm O O ?_);refine .val (by exact .io O O om om ET A3) O ?_;refine .val (.ld (v:=S ((BK 32 l).getD 1 [])) (.of O) b (k:=0) O Bq (ia om)) O (.val (.build (cs:=[_,_,_,_]) (Lb O (Lb O U_)) Xz9 O) O (.nil ?_));show WL _ _ _ _ _ _ _
 refine .dr (gH 2 ?_);intro w b;exact gG 0 ⟨by unfold QP;rw[Y3 (nB (show uI _=false from c)),Y3 (nB (show Me _=false from d))];rfl,b.s⟩
theorem Xzw(l:Lu)(f:l.length<=1000000)(e:Kz I)(N:La)(a:Aa B w I N):
  Ce B I N 217 [S l] w (.tuple #[.agg (X8 (TX l).1).toArray,Ab ((TX l).2:Nat)]):=by
 refine gH 3 ?_;intro g w a;refine gE 0 (tt l 58 f e) ?_;intro w a;refine gE 8 (QG _ _ de de (oh (bC 58 l))) ?_;intro w a;refine gH 5 (.AA (T:=λw=>Aa B w I _) O O O func304 O (λb=>(X4 (.gd b O) X3)) O (λb=>Xu1 (EH 58 l).1 (oh (bC 58 l)) _ a) a ?_);clear a;rintro w a;refine gH 4 ?_;refine .AA (T:=λw=>Aa B w I _) O O O Je O (λb=>(X4 (.gd b O) (AM O (AM O X3)))) O (λb=>sW 32 126 (O_ l) (by have:=bC 58 l;have:=Xy3 (EH 58 l).2.1 [32,9];unfold O_;omega) _ a) a ?_;clear a;rintro w a;refine gM 2 ?_ ?_<;>intro c d
 ·refine gH 3 ?_;intro w a;exact gG 0 ⟨by unfold TX;rw[Y7 (show W8 l=true from c)];rfl,a.s⟩
 refine gH 5 ?_;intro w a;exact gG 0 ⟨by unfold TX;rw[Y3 (nB (show W8 _=false from c))];rfl,a.s⟩
theorem Wn(n:Int):IntKind.i64.wrap (IntKind.u8.wrap n)=IntKind.u8.wrap n:=by
 have h:0<=IntKind.u8.wrap n/\IntKind.u8.wrap n<256:=by rw[IntKind.wrap_u8];omega
 rw[IntKind.wrap_i64];omega
theorem Wm(s:Lu)(i:Nat)(h:i<s.length):some (Ab (IntKind.i64.wrap (IntKind.i64.wrap (10*RH (s.take i))+IntKind.u8.wrap (((at_ s (i:Int)).toNat:Int)-48))))=some (Ab (RH (s.take (i+1)))):=by
 rw[Yv,LA h,DO];unfold RH;rw[K9];rfl
theorem Xzk(s:Lu)(d:s.length<=1000000)(N:La)(a:Aa B w I N):
  Ce B I N 218 [S s] w (.tuple #[Ab (RH s),.bool (i_ s)]):=by
 refine gG 6 (.lk [0,7] (σ:=Nat) (λi _m=>(4,Ab (RH (s.take i)))::(8,Ab (i:Nat))::_m) (λi w=>i<=s.length/\Aa B w I N) (λi=>s.length-i) 0 ⟨Y5 _,a⟩ ?_);rintro i w ⟨hi,a⟩;refine gN 1 ?_ ?_<;>intro c
 ·refine gH 3 (.val (.Aaa (.of O) (.of O)) O (gH 4 (.val (.q8 (.of O) BW B5 (Wn _)) O (.val (.qV (.of O) (.of O)) O ?_))));refine gG 3 (⟨i+1,⟨Wm s i om,O,O,O,trivial⟩,⟨om,a⟩,om⟩)
 refine gH 10 (.AA (T:=λw=>Aa B w I _) O O O Je O (λb=>(X4 (.gd b O) (AM O (AM O X3)))) O (λb=>sW 48 57 s d _ a) a ?_);clear a;rintro w a;refine gG 3 ?_;rw[Yk om];exact⟨O,a⟩
theorem x3{a:List Pq}{x:Pq}(h:a[i]?=some x):EC nm (a.take (i+1))=(if hB x.1 nm=true then(if(EC nm (a.take i)).2=0 then x.2 else(EC nm (a.take i)).1,(EC nm (a.take i)).2+1)else EC nm (a.take i)):=by
 rw[Yv,h,DO];unfold EC;rw[K9];rfl
theorem wv(m t f:Lu)(p:Oa)(v:Nat)(a:List Pq)(nm:Lu)(C:a.length<=100)(l:∀h∈a,h.1.length<=1000000)(r:RS I p 2 a.length (X2 X8 a))(N:La)(c:Aa B w I N):
  Ce B I N 134 [.agg #[S m,S t,.slice p a.length v,S f],S nm] w (.tuple #[S (EC nm a).1,Ab ((EC nm a).2:Nat)]):=by
 refine gG 9 ?_;intro z w c;have g:=c.drop (k:=0) O;clear c;refine .lk [1,2,11,12] (σ:=Nat) (λi _m=>(6,S (EC nm (a.take i)).1)::(7,Ab ((EC nm (a.take i)).2:Nat))::(13,Ab (i:Nat))::_m) (λi w=>i<=a.length/\Aa B w I N) (λi=>a.length-i) 0 ⟨Y5 _,g⟩ ?_;rintro i w ⟨hi,c⟩;clear g;refine gN 1 ?_ ?_<;>intro n
 ·obtain⟨x,hx⟩:∃x,a[i]?=some x:=⟨_,Y2 om⟩
  have s:=l x (Y8 hx);have j:=rp nm (a.take i);rw[Yj]at j;obtain⟨q,rfl,u⟩:=Bv (cells:=X8) (λ_=>rfl) r hx;refine gH 7 ?_;intro A w c;refine gE 0 (Xn5 x.1 nm om) ?_;intro w c;refine gM 1 ?_ ?_<;>intro b o
  ·refine gG 2 ?_;have d:EC nm (a.take (i+1))=EC nm (a.take i):=by rw[x3 hx,Y3 (su b)]
   refine⟨i+1,⟨by rw[d];rfl,by rw[d];rfl,O,O,O,O,O,trivial⟩,⟨om,(c.y 0 1)⟩,om⟩
  refine gN 2 ?_ ?_<;>intro e
  ·refine gG 8 ?_;have d:EC nm (a.take (i+1))=(x.2,(EC nm (a.take i)).2+1):=by rw[x3 hx,Y7 (su b),Y7 (oh e)]
   refine⟨i+1,⟨by rw[d];rfl,by rw[d];rfl,O,O,O,O,O,trivial⟩,⟨om,(c.y 0 1)⟩,om⟩
  refine gG 5 ?_;have d:EC nm (a.take (i+1))=((EC nm (a.take i)).1,(EC nm (a.take i)).2+1):=by rw[x3 hx,Y7 (su b),Y3 (oh e)]
  refine⟨i+1,⟨by rw[d];rfl,by rw[d];rfl,O,O,O,O,O,trivial⟩,⟨om,(c.y 0 1)⟩,om⟩
 refine gG 4 ?_;rw[Yk om];exact⟨O,c⟩
end Go.Proofs.W9
namespace Xm
open Ul Pc Gk DS Tk Tr
def Hv:Nat->Nat->List UInt8
 | 0,_=>[]
 | i+1,x=>UInt8.ofNat (x/256^i)::Hv i x
theorem tG:∀(i x:Nat),(Hv i x).length=i
 | 0,_=>rfl
 | i+1,x=>by rw[Hv,Y4,tG i x]
def Fz(a:Nat)(s:Lu):Nat:=s.foldl (λa c=>256*a+c.toNat) a
theorem Xov(a:Nat)(s t:Lu):Fz a (s++t)=Fz (Fz a s) t:=K9 ..
theorem Xow:∀(i x a:Nat),Fz a (Hv i x)=a*256^i+x%256^i
 | 0,x,a=>by simp[Hv,Fz,Nat.mod_one]
 | i+1,x,a=>by
  show Fz (256*a+(UInt8.ofNat (x/256^i)).toNat) (Hv i x)=_
  rw[Xow i x,show(UInt8.ofNat (x/256^i)).toNat=x/256^i%256 from by simp,LX,Nat.mod_mul,Gh]
  have:x/256^i%256*256^i=256^i*(x/256^i%256):=Fg ..
  have:256*a*256^i=a*(256^i*256):=by rw[Fg 256 a,I3,Fg 256]
  omega
theorem Xvs:∀(s:Lu) (a:Nat),Fz a s<(a+1)*256^s.length
 | [],a=>by simp[Fz]
 | c::s,a=>by
  have h:=Xvs s (256*a+c.toNat);have e:=c.toNat_lt;show Fz (256*a+c.toNat) s<_
  rw[Y4,LX];have b:(256*a+c.toNat+1)*256^s.length<=(256*(a+1))*256^s.length:=T3 _ om;have d:(256*(a+1))*256^s.length=(a+1)*(256^s.length*256):=by rw[Fg 256,I3,Fg 256]
  omega
def IV(n:Nt):Lu×Nat:=if DD n=true then(UInt8.ofNat n.tries.toNat::(Hv 8 n.next.toNat++n.url),0)else([],1)
def SU(t s:Lu):Nt:=⟨t,s.drop 9,((s.headD 0).toNat:Int),(Fz 0 ((s.drop 1).take 8):Int)⟩
def EI(t s:Lu):Nt×Nat:=if s.length<9 then(vA,8)else if DD (SU t s)=true then(SU t s,0)else(vA,8)
theorem d_{n:Nt}(h:(IV n).2=0):EI n.ticket (IV n).1=(n,0)/\(IV n).1.length=9+n.url.length:=by
 unfold IV at h ⊢;split at h
 ·rename_i c
  rw[Y7 c];obtain⟨t,u,b,a⟩:=n;have k:0<=a/\a<=1099511627776/\0<=b/\b<=9:=by
   unfold DD at c;simp only[Yb,decide_eq_true_eq]at c
   obtain⟨⟨⟨⟨⟨_,_⟩,f⟩,g⟩,i⟩,j⟩:=c;exact⟨i,j,f,g⟩
  have d:=tG 8 a.toNat;have e:SU t (UInt8.ofNat b.toNat::(Hv 8 a.toNat++u))=⟨t,u,b,a⟩:=by
   unfold SU;simp only[Em,EW,List.headD_cons]
   rw[show List.take 8 (Hv 8 a.toNat++u)=Hv 8 a.toNat from List.take_left' d,
    show List.drop 8 (Hv 8 a.toNat++u)=u from List.drop_left' d,Xow]
   congr 1
   ·rw[show(UInt8.ofNat b.toNat).toNat=b.toNat%256 from by simp];omega
   ·omega
  unfold EI;rw[Y3 (by rw[Y4,Y0,d];omega),e,Y7 c];exact⟨O,by rw[Y4,Y0,d];omega⟩
 ·cases h
theorem MV(t u:Lu)(x:Int)(m:Nat)(c:m<18446744073709551616):DD ⟨t,u,x,Go.IntKind.i64.wrap (m:Int)⟩=DD ⟨t,u,x,(m:Int)⟩/\(DD ⟨t,u,x,(m:Int)⟩=true->Go.IntKind.i64.wrap (m:Int)=m):=by
 rw[Go.IntKind.wrap_i64]
 by_cases h:(m:Int)<=1099511627776
 ·rw[show((m:Int)+9223372036854775808)%18446744073709551616-9223372036854775808=m by omega];exact⟨O,λ_=>rfl⟩
 ·have b:DD ⟨t,u,x,(m:Int)⟩=false:=by
   unfold DD;rw[decide_eq_false h,b_]
  rw[b];refine⟨?_,λh=>by cases h⟩;unfold DD
  by_cases a:0<=((m:Int)+9223372036854775808)%18446744073709551616-9223372036854775808
  ·rw[decide_eq_false (by omega:¬ ((m:Int)+9223372036854775808)%18446744073709551616-9223372036854775808<=1099511627776),b_]
  ·rw[decide_eq_false a,b_,zH]
theorem WY(s:Lu):Fz 0 ((s.drop 1).take 8)<18446744073709551616:=by
 have h:=Xvs ((s.drop 1).take 8) 0;have a:((s.drop 1).take 8).length<=8:=by rw[Yj];omega
 have:=VA (n:=256) de a
 have e:(256:Nat)^8=18446744073709551616:=de
 omega
section
open Go
theorem mf(m b:Nat)(a:b<256):m*256||| b=m*256+b:=by
 have:=uY (i:=8) om m
 rw[Fg m 256,show(256:Nat)=2^8 from O];exact this.symm
theorem Iy(a b:Nat)(f:b<256):bits .or .i64 (IntKind.i64.wrap ((IntKind.i64.wrap (a:Int))*2^8)) (b:Int)=IntKind.i64.wrap ((256*a+b:Nat):Int):=by
 have c:(BitVec.ofInt 64 (IntKind.i64.wrap ((IntKind.i64.wrap (a:Int))*2^8))).toNat=(a*256)%18446744073709551616:=by
  rw[BitVec.toNat_ofInt,IntKind.wrap_i64,IntKind.wrap_i64];omega
 have d:(BitVec.ofInt 64 (b:Int)).toNat=b:=by rw[BitVec.toNat_ofInt];omega
 have e:(a*256)%18446744073709551616=(a%72057594037927936)*256:=om
 show IntKind.i64.wrap (((BitVec.ofInt 64 _||| BitVec.ofInt 64 _).toNat:Nat):Int)=_
 rw[BitVec.toNat_or,c,d,e,mf _ _ f,IntKind.wrap_i64,IntKind.wrap_i64];omega
end
end Xm
namespace Rq
open Gk Go
def vG:List Nat:=[0x00000000,0x105ec76f,0x20bd8ede,0x30e349b1,0x417b1dbc,0x5125dad3,0x61c69362,0x7198540d,0x82f63b78,0x92a8fc17,0xa24bb5a6,0xb21572c9,0xc38d26c4,0xd3d3e1ab,0xe330a81a,0xf36e6f75]
def vy(r b:Int):Int:=bits .and .u32 (bits .xor .u32 r (IntKind.u32.wrap b)) 15
def W6(r b:Int):Int:=bits .xor .u32 (r/2^4) ((vG.getD (vy r b).toNat 0:Nat):Int)
def mi(r:Int):Int:=bits .xor .u32 IntKind.u32.max r
def jk(r:Int)(c:Ui):Int:=W6 (W6 r c.toNat) ((c.toNat:Int)/2^4)
def ix(s:Int)(l:Lu):Int:=mi (l.foldl jk (mi s))
def Db(i:Int):Ui:=UInt8.ofNat (IntKind.u8.wrap i).toNat
theorem dT(i:Int):U8 ((Db i).toNat:Int)=.int .u8 (IntKind.u8.wrap i):=by
 have h:0<=IntKind.u8.wrap i/\IntKind.u8.wrap i<256:=by rw[IntKind.wrap_u8];omega
 unfold Db;rw[Y66 (by show(IntKind.u8.wrap i).toNat<256;omega),iJ h.1]
theorem bB(l:List Int):Aj (l.map Db)=l.map λi=>Value.int .u8 (IntKind.u8.wrap i):=by
 unfold Aj;rw[iU];exact zq λi _=>dT i
def ZZ(b:Lu):Int:=ix (ix 0 ([(b.length:Int)/2^8,(b.length:Int)].map Db)) b
def Ox(b:Lu):List Int:=[(b.length:Int)/2^8,(b.length:Int),ZZ b/2^24,ZZ b/2^16,ZZ b/2^8,ZZ b]
def CQ(b:Lu):Lu×Nat:=if b.length=0 then([],1)else if 4000<b.length then([],2)else((Ox b).map Db++b,0)
theorem yh(b:Lu):(CQ b).1.length<=4006:=by
 unfold CQ;split
 ·simp
 ·split
  ·simp
  ·simp[Ox];omega
def C4(b:Lu):Nat:=256*(b.getD 0 0).toNat+(b.getD 1 0).toNat
theorem jg(b:Lu):bits .or .i64 (IntKind.i64.wrap (((b.getD 0 0).toNat:Int)*2^8)) ((b.getD 1 0).toNat:Int)=(C4 b:Int):=by
 have c:=En (b.getD 0 0);have a:=En (b.getD 1 0);have h:=Xm.Iy (b.getD 0 0).toNat (b.getD 1 0).toNat a;rw[show IntKind.i64.wrap ((b.getD 0 0).toNat:Int)=((b.getD 0 0).toNat:Int)by rw[IntKind.wrap_i64];omega]at h;rw[h,IntKind.wrap_i64];unfold C4;omega
theorem ml(b:Lu):C4 b<65536:=by
 have a:=En (b.getD 0 0);have c:=En (b.getD 1 0);unfold C4;omega
def H_(b:Lu):Lu:=(b.take (C4 b+6)).drop 6
def BN(b:Lu):Lu :=
 if b.length<6 then[]else if C4 b=0\/4000<C4 b\/b.length<C4 b+6 then[]
 else if((CQ (H_ b)).1==b.take (C4 b+6))=true then(CQ (H_ b)).1.drop 6 else[]
theorem Xv4{b:Lu}(h:C4 b+6<=b.length):(H_ b).length=C4 b:=by
 unfold H_;rw[Y6,Yj];omega
theorem uR{b:Lu}(a:b.length≠0)(c:b.length<=4000):CQ b=((Ox b).map Db++b,0):=by
 unfold CQ;rw[Y3 a,Y3 om]
theorem nJ{b:Lu}(h:BN b≠[]):(BN b).length+6<=b.length/\(BN b).length=C4 b/\0<C4 b/\C4 b<=4000:=by
 unfold BN at h ⊢;split at h
 ·exact Aw O h
 ·split at h
  ·exact Aw O h
  ·rename_i a d
   rw[Y3 a,Y3 d];split at h
   ·rename_i c
    rw[Y7 c];have e:=Xv4 (b:=b) om;rw[uR om om,Y6,Y0,Ym];simp only[Ox,Y4,Yi]
    omega
   ·exact Aw O h
def Du:Nat->List UInt8->List (List UInt8)->List (List UInt8)×Nat
 | 0,_,a=>(a,0)
 | k+1,b,a=>if BN b=[]then(a,0)else
  let r:=Du k (b.drop ((BN b).length+6)) (a++[BN b])
  (r.1,r.2+((BN b).length+6))
theorem xx:∀(k:Nat) (b:Lu) (a:List Lu),b.length<k->Du k b a=Du (b.length+1) b a
 | 0,b,a,h=>by omega
 | k+1,b,a,h=>by
  rw[Du,Du]
  by_cases c:BN b=[]
  ·rw[Y7 c,Y7 c]
  ·rw[Y3 c,Y3 c];have f:=nJ c;have d:(b.drop ((BN b).length+6)).length<k:=by rw[Y6];omega
   have e:(b.drop ((BN b).length+6)).length<b.length:=by rw[Y6];omega
   rw[xx k _ _ d,<-xx b.length _ _ e]
termination_by k=>k
theorem S7{b:Lu}(a:List Lu)(h:BN b≠[]):Du (b.length+1) b a=((Du ((b.drop ((BN b).length+6)).length+1) (b.drop ((BN b).length+6)) (a++[BN b])).1,(Du ((b.drop ((BN b).length+6)).length+1) (b.drop ((BN b).length+6)) (a++[BN b])).2+((BN b).length+6)):=by
 have c:=nJ h;rw[Du,Y3 h,xx b.length _ _ (by rw[Y6];omega)]
theorem Xqi{b:Lu}(a:List Lu)(h:BN b=[])(k:Nat):Du (k+1) b a=(a,0):=by rw[Du,Y7 h]
def Ic:List (List UInt8)->List UInt8->List UInt8×Nat
 | [],a=>(a,0)
 | b::r,a=>if(CQ b).2≠0 then([],(CQ b).2)else Ic r (a++(CQ b).1)
end Rq
namespace Go.Proofs.W9
open Gk Ul Pc Tk Tr Xm Rq
open Tryz
def vH:Lv:=vG.map λn:Nat=>.int .u32 (n:Int)
def AZ(I:Im):Prop:=At I ⟨8,0,none⟩ vH
theorem lR{i:Int}(a:0<=i)(c:i<16):(vH.drop (i.toNat*1))[0]?=some (.int .u32 ((vG.getD i.toNat 0:Nat):Int)):=by
 obtain⟨k,rfl⟩:=Y68 a;have b:k<16:=om
 match k,b with
 | 0,_=>exact O
 | 1,_=>exact O
 | 2,_=>exact O
 | 3,_=>exact O
 | 4,_=>exact O
 | 5,_=>exact O
 | 6,_=>exact O
 | 7,_=>exact O
 | 8,_=>exact O
 | 9,_=>exact O
 | 10,_=>exact O
 | 11,_=>exact O
 | 12,_=>exact O
 | 13,_=>exact O
 | 14,_=>exact O
 | 15,_=>exact O
theorem Xp6(r b:Int)(e:AZ I)(N:La)(d:Aa B w I N):
  Ce B I N 407 [.int .u32 r,.int .u8 b] w (.int .u32 (W6 r b)):=by
 refine gH 5 (.val (.Fi (.of O) BW Of) O (gH 2 ?_));obtain⟨c,a⟩:=k5 (bits .xor .u32 r (IntKind.u32.wrap b));refine .val (.Dz (m:=16) (.of O) (.of O) c a underlying509 Jn) O (.val (.BG (.of O) d (e.add _) Jk (lR c a)) O ?_);exact gG 2 ⟨O,d⟩
theorem Xpp(s:Int)(l:Lu)(a:Oa)(c:Nat)(h:l.length<=1000000)(d:AZ I)(f:RS I a 1 l.length (Aj l))(N:La)(b:Aa B w I N):
  Ce B I N 360 [.int .u32 s,.slice a l.length c] w (.int .u32 (ix s l)):=by
 refine gH 2 (.val (.jf (.of O)) O (gG 4 (.lk [10,11] (σ:=Nat) (λi _m=>(5,.int .u32 (List.foldl jk (mi s) (l.take i)))::(12,Ab (i:Int))::_m) (λi w=>i<=l.length/\Aa B w I N) (λi=>l.length-i) 0 ⟨Y5 _,b⟩ ?_)));rintro i w ⟨hi,b⟩;refine gN 1 ?_ ?_<;>intro e
 ·obtain⟨q,rfl,g⟩:=f.2 om;refine gH 1 (.val (.BG (.of O) b (g.add _) EA (show((Aj l).drop (((i:Nat):Int).toNat*1))[0]?=some (U8 (l.getD i 0).toNat) from L4 om om)) O (gE 3 (Xp6 _ _ d) ?_));intro w b;refine gE 2 (Xp6 _ _ d) ?_;intro w b;refine gG 3 (⟨i+1,⟨?_,O,O,O,trivial⟩,⟨om,b⟩,om⟩);rw[Yv,Y2 om,DO,K9,show l.getD i 0=l[i]'(by omega)by rw[Ya,Y2 om];rfl];rfl
 refine gH 1 (.val (.jf (.of O)) O (gG 1 ?_));rw[Yk om];exact⟨O,b⟩
theorem PC(l:Lu)(a:Oa)(c:Nat)(f:l.length<=1000000)(d:AZ I)(e:RS I a 1 l.length (Aj l))(N:La)(b:Aa B w I N):
  Ce B I N 289 [.slice a l.length c] w (.int .u32 (ix 0 l)):=by
 refine gE 2 (Xpp 0 l a c f d e) ?_;intro w b;exact gG 1 ⟨O,b⟩
theorem Xit(l m:Lu)(a r:Oa)(c t:Nat)(x:l.length<=1000000)(z:m.length<=1000000)(u:RS I a 1 l.length (Aj l))(o:RS I r 1 m.length (Aj m))(N:La)(b:Aa B w I N):
  Ce B I N 199 [.slice a l.length c,.slice r m.length t] w (.bool (l==m)):=by
 refine gN 6 ?_ ?_<;>intro n
 ·refine gH 1 (.nil (.ret ?_));refine λ_ e=>E3 e O (⟨_,O,Ye Value.bool ?_,b⟩)
  exact(beq_eq_false_iff_ne.2 λh=>by have j:=n;rw[h]at j;exact j O).symm
 refine gG 3 ?_;have k:=b;clear b;refine .lk [0,1,12] (σ:=Nat) (λi _m=>(13,Ab (i:Int))::_m) (λi w=>i<=l.length/\(l==m)=(l.drop i==m.drop i)/\Aa B w I N) (λi=>l.length-i) 0 ⟨Y5 _,O,k⟩ ?_;rintro i w ⟨hi,d,b⟩;clear k;refine gN 1 ?_ ?_<;>intro s
 ·refine gG 2 ?_;obtain⟨p,rfl,v⟩:=u.2 om;obtain⟨A,rfl,q⟩:=o.2 om;refine gQ ?_;intro w b;refine gH 3 (AN.y 3 (λw _ _ g b=>.BG (.of O) b ((v.add _).mono g) EA (show((Aj l).drop (((i:Nat):Int).toNat*1))[0]?=some (U8 (l.getD i 0).toNat) from L4 om om)) (gH 3 (AN.y 7 (λw _ _ g b=>.BG (.of O) b ((q.add _).mono g) EA (show((Aj m).drop (((i:Nat):Int).toNat*1))[0]?=some (U8 (m.getD i 0).toNat) from L4 om om)) ?_)));refine gN 1 ?_ ?_<;>intro f
  ·refine gH 1 (.nil (.ret ?_));refine λ_ e=>E3 e O (⟨_,O,Ye Value.bool ?_,b⟩)
   rw[d,Xf l om,Xf m om,vf,show(at_ l (i:Int)==at_ m (i:Int))=false from XV (by have j:=f;simpa[at_,Ya]using j)];rfl
  refine gG 2 (⟨i+1,⟨O,O,O,O,trivial⟩,⟨om,?_,b⟩,om⟩);rw[d,Xf l om,Xf m om,vf,show(at_ l (i:Int)==at_ m (i:Int))=true from XU (by have j:=f;simpa[at_,Ya]using j),HH]
 refine gH 1 (.nil (.ret ?_));refine λ_ e=>E3 e O (⟨_,O,Ye Value.bool ?_,b⟩)
 rw[d,Yo om,Yo om];rfl
theorem pJ(n:Int)(b:0<=n)(c:n<=1000000)(N:La)(a:Aa B w I N):
  Ce B I N 204 [Ab n] w (Ab (n+6)):=by
 exact gG 4 ⟨O,a⟩
theorem AZ.mono(h:AZ I)(a:Le I J):AZ J:=At.mono h a
theorem Z0(l:Lu)(a:Oa)(c:Nat)(m:l.length<=1000000)(g:AZ I)(i:RS I a 1 l.length (Aj l))(N:La)(b:Aa B w I N):
  Ce B I N 394 [.slice a l.length c] w (.int .u32 (ZZ l)):=by
 refine gH 6 (.val (.Fi (.of O) B5 BW) O (gH 1 (.val (.Fi (.of O) B5 BW) O (gH 1 ?_))));intro e w b;replace b:=b;replace b:=b.say (k:=0) (A':=Ad e (Aj (([(l.length:Int)/2^8,(l.length:Int)]:List Int).map Db)) 5) O (λh j=>by rw[bB];exact j);dsimp only[List.set]at b;obtain⟨J,d,f,b⟩:=b.Ir sz;refine gE 0 (PC _ _ _ sz (g.mono d) f) ?_;intro w b;refine gE 1 (Xpp _ l a c m (g.mono d) (i.mono d)) ?_;intro w b;exact gG 1 ⟨O,b.weaken d⟩
theorem yg(l:Lu)(a:Oa)(c:Nat)(q:l.length<=1000000)(o:AZ I)(j:RS I a 1 l.length (Aj l))(N:La)(b:Aa B w I N):
  Cz 331 [.slice a l.length c] w λv w'=>∃m,v=.tuple #[m,Ab ((CQ l).2:Nat)]/\Aa B w' I (Ao 5 1 m (CQ l).1.length (Aj (CQ l).1)::N):=by
 refine gN 8 ?_ ?_<;>intro f
 ·refine gG 2 ?_;have e:CQ l=([],1):=by unfold CQ;exact Y7 (oh f)
  rw[e];exact⟨_,O,b.Al 5 1⟩
 refine gN 3 ?_ ?_<;>intro d
 ·refine gG 2 ?_;have e:CQ l=([],2):=by unfold CQ;rw[Y3 (oh f)];exact Y7 (oh d)
  rw[e];exact⟨_,O,b.Al 5 1⟩
 refine gE 1 (Z0 l a c om o j) ?_;intro w b;refine gH 3 (.val (.Fi (.of O) B5 BW) O (gH 1 (.val (.Fi (.of O) B5 BW) O (gH 2 (.val (.Fi (.of O) Of BW) O (gH 2 (.val (.Fi (.of O) Of BW) O (gH 2 (.val (.Fi (.of O) Of BW) O (gH 1 (.val (.Fi (.of O) Of BW) O (gH 2 ?_))))))))))));intro g w b;replace b:=b;replace b:=b.say (k:=0) (A':=Ad g (Aj ((Ox l:List Int).map Db)) 5) O (λh p=>by rw[bB];exact p);dsimp only[List.set]at b;replace b:=b.BB (size:=1) (n:=6) (k:=0) O (by simp[Aj,Ox]) de;refine .Bk (bytes:=1) b (.of O) (.of O) j (k:=0) O BC Xt O O O O (H7 l) ⟨om,by unfold maxLen;omega⟩ O ?_;intro i w b;refine gG 2 ?_;have e:CQ l=((Ox l).map Db++l,0):=by unfold CQ;rw[Y3 (oh f)];exact Y3 (oh d)
 rw[e];refine⟨i,O,?_⟩;rw[show((Ox l).map Db++l).length=6+l.length by simp[Ox];omega,show Aj ((Ox l).map Db++l)=Aj ((Ox l).map Db)++Aj l from Yn];exact b
theorem Vi{s lo hi:Nat}(h:RS I a s n xs)(g:lo<=hi)(d:hi<=n)(i:n<=c):∃b,sliced a lo hi c s=.slice b (hi-lo) (c-lo)/\RS I b s (hi-lo) ((xs.take (hi*s)).drop (lo*s)):=by
 have e:hi*s<=n*s:=T3 _ d;refine⟨if c=lo then a else a.map (·.add (lo*s)),O,by rw[Y6,Yj,h.1,JT e,Nat.sub_mul],λj=>?_⟩;obtain⟨p,rfl,f⟩:=h.2 om;rw[Y3 om];refine⟨_,O,(?_:At I p (xs.take (hi*s))).add (lo*s)⟩;exact tu f _
theorem cR{b:Lu}(h:At I p (Aj b))(a:k<b.length):((Aj b).drop k)[0]?=some (U8 (b.getD k 0).toNat):=by
 rw[GI,DG];simp[Aj,Ya,a]
theorem Xfm(l:Lu)(a:Oa)(c:Nat)(hl:l.length<=1000000)(t:l.length<=c)(W:AZ I)(D:RS I a 1 l.length (Aj l))(N:La)(d:Aa B w I N):
  Cz 291 [.slice a l.length c] w λv w'=>∃J x m,v=.slice x (BN l).length m/\(BN l=[]->v=.slice none 0 0)/\Le I J/\(BN l).length<=m/\RS J x 1 (BN l).length (Aj (BN l))/\Aa B w' J N:=by
 refine gN 4 ?_ ?_<;>intro f
 ·refine gG 1 ?_;have e:BN l=[]:=by unfold BN;exact Y7 (oh f)
  rw[e];exact⟨I,none,0,O,λ_=>rfl,Le.refl _,Y9 _,RS.nil _ _,d⟩
 refine gG 0 ?_;obtain⟨p,rfl,z⟩:=D.2 (oh f);have aa:=ml l;have X:=En (l.getD 0 0);have Y:=En (l.getD 1 0);refine gQ ?_;intro w d;refine gH 2 (AN.y 2 (λw _ _ g d=>(.BG (v:=U8 (l.getD 0 0).toNat) (.of O) d ((z.add 0).mono g) EA (cR z om))) (gH 4 (AN.y 7 (λw _ _ g d=>(.BG (v:=U8 (l.getD 1 0).toNat) (.of O) d ((z.add 1).mono g) EA (cR z om))) (gH 1 (AN.y 9 (λw _ _ g d=>.as (.DB (.inr (.inl O)) (.of O) (.of O)) (Ye (Value.int .i64) (jg l))) (gH 11 (.AA (T:=λw=>Aa B w I _) O O O func204 O (λs=>(X4 (.gd s O) X3)) O (λs=>pJ (C4 l:Int) om om _ d) d ?_)))))));clear d;rintro w d;refine gM 2 ?_ ?_<;>intro i M
 ·refine gG 1 ?_;have e:BN l=[]:=by unfold BN;rw[Y3 (oh f)];exact Y7 (by have A:=i;simp at A;omega)
  rw[e];exact⟨I,none,0,O,λ_=>rfl,Le.refl _,Y9 _,RS.nil _ _,d⟩
 have u:¬ (C4 l=0\/4000<C4 l\/l.length<C4 l+6):=by have A:=i;simp at A;omega
 obtain⟨Q,G,o⟩:=Vi (lo:=6) (hi:=C4 l+6) D om om t;obtain⟨a0,F,n⟩:=Vi (lo:=0) (hi:=C4 l+6) D om om t;have Z:=Xv4 (b:=l) om;have E:Aj (H_ l)=((Aj l).take ((C4 l+6)*1)).drop (6*1):=by unfold H_ Aj;rw[qR,ct];simp only[Ca]
 have L:Aj (l.take (C4 l+6))=((Aj l).take ((C4 l+6)*1)).drop (0*1):=by unfold Aj;rw[ct];simp only[Ca,OE,EW]
 rw[<-E,show C4 l+6-6=(H_ l).length by omega]at o;rw[<-L,show C4 l+6-0=(l.take (C4 l+6)).length by rw[Yj];omega]at n;have k:=uR (b:=H_ l) om om;refine gE 2 (pJ _ om om) ?_;intro w d;refine .val (.as (.slc (hi:=((C4 l+6:Nat):Int)) (.of O) (.of O) (.of O) om om om BC Cw) (show sliced _ 6 ((C4 l+6:Nat):Int).toNat _ _=_ from by rw[Yh,G,show C4 l+6-6=(H_ l).length by omega])) O ?_;refine gF 0 (yg _ Q _ om W o) ?_;rintro _ w ⟨kv,rfl,d⟩;obtain⟨x,m,rfl,K,_⟩:=d.vS 0;obtain⟨J,C,r,d⟩:=d.fV 0;refine gE 8 (pJ _ om om) ?_;intro w d;refine .val (.as (.Fq (hi:=((C4 l+6:Nat):Int)) (.of O) (.of O) om om BC Cw) (show sliced _ 0 ((C4 l+6:Nat):Int).toNat _ _=_ from by rw[Yh,F,show C4 l+6-0=(l.take (C4 l+6)).length by rw[Yj];omega])) O ?_;refine gE 0 (Xit _ _ x a0 m _ (oh (yh (H_ l))) (by rw[Yj];omega) r (n.mono C)) ?_;intro w d;refine gM 1 ?_ ?_<;>intro j P
 ·refine gG 1 ?_;have e:BN l=[]:=by unfold BN;rw[Y3 (oh f),Y3 u];exact Y3 (su j)
  rw[e];exact⟨J,none,0,O,λ_=>rfl,C,Y9 _,RS.nil _ _,d⟩
 refine gH 1 ?_;obtain⟨R,H,q⟩:=Vi (lo:=6) (hi:=(CQ (H_ l)).1.length) r (by rw[k];simp[Ox]<;>omega) (Y9 _) K;refine .val (.as (.CB (.of O) (.of O) de (by rw[k];simp[Ox]<;>omega) BC Cw) H) O ?_;refine gG 1 ?_;have e:BN l=(CQ (H_ l)).1.drop 6:=by unfold BN;rw[Y3 (oh f),Y3 u];exact Y7 (su j)
 have S:Aj ((CQ (H_ l)).1.drop 6)=((Aj (CQ (H_ l)).1).take ((CQ (H_ l)).1.length*1)).drop (6*1):=by rw[Ca,Yk (by simp[Aj])];simp[Aj]
 have h:((CQ (H_ l)).1.drop 6).length=(CQ (H_ l)).1.length-6:=Y6;rw[<-S,<-h]at q;rw[e];refine⟨J,R,m-6,by rw[h],λU=>?_,C,by rw[h];omega,q,d⟩;exfalso
 have V:=Ye List.length U;rw[h,Yi]at V;have h7:(CQ (H_ l)).1.length=6+(H_ l).length:=by rw[k];simp[Ox]<;>omega
 omega
def D4(I:Im)(xs:List Lu)(cs:Lv):Prop:=cs.length=xs.length/\∀(i:Nat) x,xs[i]?=some x->∃a c,cs[i]?=some (.slice a x.length c)/\x.length<=c/\RS I a 1 x.length (Aj x)
theorem D4.mono{xs:List Lu}(h:D4 I xs cs)(f:Le I J):D4 J xs cs:=⟨h.1,λi x hx=>by
 obtain⟨a,c,b,d,e⟩:=h.2 i x hx;exact⟨a,c,b,d,e.mono f⟩⟩
theorem VJ(xs:List Lu)(cs:Lv)(a:Oa)(c:Nat)(y:∀x∈xs,x.length<=1000000)(A:xs.length<=1000000)(E:AZ I)(F:D4 I xs cs)(q:RS I a 1 xs.length cs)(N:La)(d:Aa B w I N):
  Cz 269 [.slice a xs.length c] w λv w'=>∃J g,v=.tuple #[g,Ab ((Ic xs []).2:Nat)]/\Le I J/\Aa B w' J (Ao 5 1 g (Ic xs []).1.length (Aj (Ic xs []).1)::N):=by
 refine gG 6 ?_;replace d:=d.Al 5 1;have l:=d;clear d;refine .lk [9,10] (σ:=Nat×Lu×Va×Im) (λ(i,b,g,J) _m=>(4,g)::(11,Ab (i:Nat))::_m) (λ(i,b,g,J) w=>i<=xs.length/\Ic xs []=Ic (xs.drop i) b/\b.length<=i*4006/\Le I J/\Aa B w J (Ao 5 1 g b.length (Aj b)::N)) (λ(i,b,g,J)=>xs.length-i) (0,[],.slice none 0 0,I) ⟨Y5 _,O,Y5 _,Le.refl _,l⟩ ?_;rintro⟨i,b,g,J⟩ w ⟨hi,f,H,j,d⟩;clear l;have m:=E.mono j;refine gN 1 ?_ ?_<;>intro C
 ·obtain⟨x,hx⟩:∃x,xs[i]?=some x:=⟨_,Y2 om⟩
  obtain⟨Q,R,z,A,r⟩:=F.2 i x hx;have M:=y x (Y8 hx);have u:xs.drop i=x::xs.drop (i+1):=by rw[Yq (Y1.1 hx).1,(Y1.1 hx).2]
  obtain⟨p,t,K⟩:=q.2 om;rw[u]at f;have L:=yh x;refine gG 0 ?_;subst t;refine .val (.ii O O om om jZ FR) O ?_
  (try rw[Yh]);rw[Ca]
  refine .val (.BG (.of O) d ((K.mono j).add i) KZ (by rw[GI,DG];exact z)) O ?_;refine gF 2 (yg x Q R om m (r.mono j)) ?_;rintro _ w ⟨U,rfl,d⟩;refine gN 7 ?_ ?_<;>intro h
  ·refine gG 3 ?_;have e:Ic xs []=([],(CQ x).2):=by rw[f,Ic];exact Y7 (oh h)
   rw[e];exact⟨J,.slice none 0 0,O,j,d.s.Al 5 1⟩
  refine gH 2 ?_;obtain⟨S,T,rfl,G,_⟩:=d.vS 0;obtain⟨D,n,o,d⟩:=d.fV 0;try dsimp only[List.eraseIdx]at d
  refine .Bk (bytes:=1) d (.of O) (.of O) o (k:=0) O BC Xt O O O O (H7 _) ⟨om,by unfold maxLen;omega⟩ O ?_;intro P w d;dsimp only[List.set]at d;refine gG 3 (Br (i+1,b++(CQ x).1,_,D) O ⟨om,?_,?_,j.trans n,?_⟩)
  ·(try dsimp only)
   rw[f,Ic,Y3 (oh h)]
  ·(try dsimp only)
   rw[Y0,Gh];omega
  ·(try dsimp only)
   rw[Y0,show Aj (b++(CQ x).1)=Aj b++Aj (CQ x).1 from Yn];exact d
 refine gG 3 ?_;have e:Ic xs []=(b,0):=by rw[f,Yo om];first|done|rfl
 rw[e];exact⟨J,g,O,j,d⟩
end Go.Proofs.W9
namespace Rq
open Gk Go
structure Lg where
 d:Dk
 gen:Int
 AG:Int
 used:Int
 data:Lu
def Ee(d:Dk):Int:=((d.kept.length:Nat)-2:Int)/2
def Ga(d:Dk):Int:=Ee d*32
def bG(d:Dk)(a i:Int):Int:=2+a*Ee d+i
def Ky(c a b:Int):Int:=c*16384+a*8192+b
def Vx(c a b:Int):Lu:=[Ky c a b/2^24,Ky c a b/2^16,Ky c a b/2^8,Ky c a b].map Db
def oL(c a b:Int):List Int:=[ix 0 (Vx c a b)/2^24,ix 0 (Vx c a b)/2^16,ix 0 (Vx c a b)/2^8,ix 0 (Vx c a b)]
def LJ(c a b:Int):Lu:=(oL c a b).map Db++Vx c a b
def Fe:List (Dk->Nat×Dk)->Dk->Nat×Dk
 | [],d=>(0,d)
 | f::r,d=>if(f d).1≠0 then(21,JK (f d).2)else Fe r (f d).2
def iz(a:Lu)(i:Nat):Lu:=(a.take ((i+1)*32)).drop (i*32)
def cntF(n a:Nat):Nat:=(n+31)/32-a/32
def Vj(f:Dk)(e a u:Int)(b:Lu)(c:Nat):List (Dk->Nat×Dk) :=
 (List.range' (c/32) (cntF b.length c)).map (λ(i:Nat) d=>CY d (bG f a i) (iz b i))++[Ef,λd=>CY d (e%2) (LJ e a u),Ef]
def Ih(L:Lg)(c a u:Int)(b:Lu)(e:Nat):Nat×Lg :=
 let r:=Fe (Vj L.d c a u b e) L.d
 if r.1≠0 then(21,{ L with d:=r.2 })else(0,⟨r.2,c,a,u,b⟩)
def GZ(L:Lg)(b:Lu):Nat×Lg :=
 if(CQ b).2≠0 then((CQ b).2,L)else
 if Ga L.d-L.used<((CQ b).1.length:Nat)\/262144<=L.gen+1 then(5,L)else
 Ih L (L.gen+1) L.AG (L.used+((CQ b).1.length:Nat)) (L.data++(CQ b).1) L.used.toNat
def Hp(L:Lg)(xs:List Lu):Nat×Lg :=
 if(Ic xs []).2≠0 then((Ic xs []).2,L)else
 if Ga L.d<((Ic xs []).1.length:Nat)\/262144<=L.gen+1 then(5,L)else
 Ih L (L.gen+1) (1-L.AG) ((Ic xs []).1.length:Nat) (Ic xs []).1 0
structure Q5(L:Lg):Prop where
 d:Ct L.d
 len:4<=L.d.kept.length
 gen:0<=L.gen/\L.gen<262144
 AG:L.AG=0\/L.AG=1
 used:L.used=(L.data.length:Nat)
 room:L.used<=Ga L.d
 st:L.d.Ae.length<=600
 emp:L.d.off=true\/L.d.Ae=[]
def n3(st:Dk->Nat×Dk):Prop:=∀d,Ct d->Ct (st d).2/\(st d).2.kept.length=d.kept.length/\(st d).2.Ae.length<=d.Ae.length+1
theorem sS(i:Int)(b:Lu):n3 λd=>CY d i b:=λd h=>by
 obtain⟨e,c,a⟩:=ny h;refine⟨Tz h i b,?_,?_⟩
 ·show(CY d i b).2.kept.length=_
  unfold CY;split
  ·rfl
  ·split
   ·rfl
   ·split<;>exact Ye List.length c
 ·show(CY d i b).2.Ae.length<=_
  unfold CY;split
  ·exact vt _
  ·split
   ·exact vt _
   ·split
    ·rw[a];exact vt _
    ·rw[Y0,a];exact Y9 _
theorem tr:n3 Ef:=λd h=>by
 obtain⟨a,b,c⟩:=ny h
 have:=ui (Xe d).2.Ae (Xe d).2.kept a.what a.kept
 refine⟨Z4 h,?_,?_⟩<;>unfold Ef<;>split<;>simp_all
theorem PO{a:List (Dk->Nat×Dk)}{st:Dk->Nat×Dk}(h:a[k]?=some st)(d:Dk):Fe (a.drop k) d=if(st d).1≠0 then(21,JK (st d).2)else Fe (a.drop (k+1)) (st d).2:=by
 obtain⟨c,b⟩:=Y1.mp h;rw[Yq c,b];rfl
theorem RM(d:Dk):(JK d).Au=d.Au:=by unfold JK;split<;>rfl
theorem Wt(d:Dk):(JK d).kept.length=d.kept.length/\(JK d).Ae.length<=d.Ae.length/\((JK d).off=true\/(JK d).Ae=[]):=by
 unfold JK;split
 ·rename_i h;exact⟨O,Y9 _,.inl h⟩
 ·exact⟨O,Y5 _,.inr O⟩
theorem PQ:∀(a:List (Dk->Nat×Dk)),(∀st∈a,n3 st)->∀d,Ct d->Ct (Fe a d).2/\(Fe a d).2.kept.length=d.kept.length/\(Fe a d).2.Ae.length<=d.Ae.length+a.length/\((Fe a d).1≠0->(Fe a d).2.off=true\/(Fe a d).2.Ae=[])
 | [],_,d,h=>⟨h,O,Y9 _,λh=>Aw O h⟩
 | f::r,g,d,h=>by
  obtain⟨c,e,n⟩:=g f sz d h;rw[Fe];split
  ·obtain⟨i,l,j⟩:=Wt (f d).2;exact⟨Wr c,by rw[i];exact e,by rw[Y4];show(JK (f d).2).Ae.length<=_;omega,λ_=>j⟩
  ·obtain⟨g1,g2,m,k⟩:=PQ r (λst b=>g st (by simp[b])) (f d).2 c;exact⟨g1,by rw[g2,e],by rw[Y4];omega,k⟩
theorem Nw(d:Dk)(h:(Ef d).1=0):(Ef d).2.Ae=[]:=by
 unfold Ef at h ⊢;split
 ·rename_i a;rw[Y7 a]at h;cases h
 ·rfl
theorem Xq7:∀(b:List (Dk->Nat×Dk)) (d:Dk),(Fe (b++[Ef]) d).1=0->(Fe (b++[Ef]) d).2.Ae=[]
 | [],d,h=>by
  rw[CS,Fe]at h ⊢;split
  ·rename_i a;rw[Y7 a]at h;cases h
  ·rename_i a;exact Nw d (Classical.byContradiction a)
 | f::r,d,h=>by
  rw[DV,Fe]at h ⊢;split
  ·rename_i a;rw[Y7 a]at h;cases h
  ·rename_i a;rw[Y3 a]at h;exact Xq7 r _ h
theorem Xol{d:Dk}(h:d.off=true):Xe d=(true,d):=by unfold Xe;rw[Y7 h]
theorem Xr3(i:Int)(b:Lu){d:Dk}(h:d.off=true):(CY d i b).1≠0/\(CY d i b).2=d:=by
 unfold CY;split
 ·exact⟨oX _,O⟩
 ·split
  ·exact⟨oX _,O⟩
  ·rw[Xol h,Y7 O];exact⟨oX _,O⟩
theorem Xxv{d:Dk}(h:d.off=true):(Ef d).1≠0/\(Ef d).2=d:=by
 unfold Ef;rw[Xol h,Y7 O];exact⟨oX _,O⟩
theorem ZC(a:List (Dk->Nat×Dk))(b:a≠[]){d:Dk}(h:d.off=true)(g:∀st∈a,(st d).1≠0/\(st d).2=d):Fe a d=(21,d):=by
 cases a with
 | nil=>exact Aw O b
 | cons f r =>
  obtain⟨c,e⟩:=g f sz;rw[Fe,Y7 c,e];unfold JK;rw[Y7 h]
theorem ZW(d:Dk)(e c u:Int)(a:Lu)(b:Nat):∀st∈Vj d e c u a b,n3 st:=by
 intro st h;rcases Yt.1 h with h|h
 ·obtain⟨i,_,rfl⟩:=Dj.1 h;exact sS _ _
 ·simp only[Ys,GJ,or_false]at h
  rcases h with rfl|rfl|rfl
  ·exact tr
  ·exact sS _ _
  ·exact tr
theorem Tg(f:Dk)(g e u:Int)(a:Lu)(c:Nat){d:Dk}(b:d.off=true):∀st∈Vj f g e u a c,(st d).1≠0/\(st d).2=d:=by
 intro st h;rcases Yt.1 h with h|h
 ·obtain⟨i,_,rfl⟩:=Dj.1 h;exact Xr3 _ _ b
 ·simp only[Ys,GJ,or_false]at h
  rcases h with rfl|rfl|rfl
  ·exact Xxv b
  ·exact Xr3 _ _ b
  ·exact Xxv b
theorem PN{d e:Dk}(h:e.kept.length=d.kept.length):Ga e=Ga d:=by unfold Ga Ee;rw[h]
theorem gZ{d:Dk}(h:Ct d)(a:4<=d.kept.length):32<=Ga d/\Ga d<=8160:=by
 have:=h.size;unfold Ga Ee;omega
theorem PK{L:Lg}(h:Q5 L){e c u:Int}{a:Lu}(b:Nat)(r:0<=e/\e<262144)(p:c=0\/c=1)(v:u=(a.length:Nat))(s:u<=Ga L.d):Q5 (Ih L e c u a b).2:=by
 rcases h.emp with m|q
 ·have:Ih L e c u a b=(21,L):=by
   unfold Ih;rw[ZC _ (by unfold Vj;simp) m (Tg L.d e c u a b m)];rfl
  rw[this];exact h
 ·obtain⟨j,f,n,o⟩:=PQ _ (ZW L.d e c u a b) L.d h.d;have t:=gZ h.d h.len;have l:(Vj L.d e c u a b).length<=300:=by
   unfold Vj;rw[Y0,Ym,List.length_range'];unfold cntF;simp only[Y4,Yi];omega
  rw[q,Yi]at n;unfold Ih;dsimp only
  split
  ·rename_i g
   exact⟨j,by show 4<=(Fe _ _).2.kept.length;rw[f];exact h.len,h.gen,h.AG,h.used,by show L.used<=Ga (Fe _ _).2;rw[PN f];exact h.room,by show(Fe _ _).2.Ae.length<=600;omega,o g⟩
  ·rename_i g
   have k:(Fe (Vj L.d e c u a b) L.d).2.Ae=[]:=by
    have:Vj L.d e c u a b=((List.range' (b/32) (cntF a.length b)).map (λ(i:Nat) d=>CY d (bG L.d c i) (iz a i))++[Ef,λd=>CY d (e%2) (LJ e c u)])++[Ef]:=by unfold Vj;simp
    rw[this]at g ⊢;exact Xq7 _ _ (Classical.byContradiction g)
   exact⟨j,by show 4<=(Fe _ _).2.kept.length;rw[f];exact h.len,r,p,v,by show u<=Ga (Fe _ _).2;rw[PN f];exact s,by show(Fe _ _).2.Ae.length<=600;rw[k];simp,.inr k⟩
theorem wA{L:Lg}(h:Q5 L)(b:Lu):Q5 (GZ L b).2:=by
 unfold GZ;split
 ·exact h
 ·split
  ·exact h
  ·rename_i a
   refine PK h _ ?_ h.AG ?_ ?_
   ·have:=h.gen;omega
   ·rw[h.used,Y0];omega
   ·omega
theorem Xgn{L:Lg}(h:Q5 L)(xs:List Lu):Q5 (Hp L xs).2:=by
 unfold Hp;split
 ·exact h
 ·split
  ·exact h
  ·rename_i a
   refine PK h _ ?_ ?_ O ?_
   ·have:=h.gen;omega
   ·rcases h.AG with h|h<;>rw[h]<;>simp
   ·omega
end Rq
namespace Go.Proofs.W9
open Gk Ul Pc Tk Tr Xm Rq
open Tryz
theorem xk(L:Lg)(lg db kb:Nat)(us sv pl:Va)(c:4<=L.d.kept.length)(b:L.d.kept.length<=512)(N:La)(a:Aa B w I (Ad lg [ptr db 0,Ab L.gen,Ab L.AG,Ab L.used,us] 229::BA db kb sv pl L.d N)):
  Ce B I (Ad lg [ptr db 0,Ab L.gen,Ab L.AG,Ab L.used,us] 229::BA db kb sv pl L.d N) 107 [ptr lg 0] w (Ab (Ee L.d)):=by
 refine gE 5 (Xv9 L.d db kb sv pl) ?_;intro w a;exact gG 3 ⟨O,a.s⟩
theorem xj(L:Lg)(lg db kb:Nat)(us sv pl:Va)(e:4<=L.d.kept.length)(a:L.d.kept.length<=512)(N:La)(b:Aa B w I (Ad lg [ptr db 0,Ab L.gen,Ab L.AG,Ab L.used,us] 229::BA db kb sv pl L.d N)):
  Ce B I (Ad lg [ptr db 0,Ab L.gen,Ab L.AG,Ab L.used,us] 229::BA db kb sv pl L.d N) 201 [ptr lg 0] w (Ab (Ga L.d)):=by
 refine gE 2 (xk L lg db kb us sv pl e a) ?_;intro w b;have c:1<=Ee L.d/\Ee L.d<=255:=by unfold Ee;omega
 exact gG 2 ⟨O,b⟩
theorem Xj6(L:Lg)(lg db kb:Nat)(us sv pl:Va)(a i:Int)(g:a=0\/a=1)(hi:0<=i/\i<=100000)(f:4<=L.d.kept.length)(b:L.d.kept.length<=512)(N:La)(c:Aa B w I (Ad lg [ptr db 0,Ab L.gen,Ab L.AG,Ab L.used,us] 229::BA db kb sv pl L.d N)):
  Ce B I (Ad lg [ptr db 0,Ab L.gen,Ab L.AG,Ab L.used,us] 229::BA db kb sv pl L.d N) 109 [ptr lg 0,Ab a,Ab i] w (Ab (bG L.d a i)):=by
 refine gE 3 (xk L lg db kb us sv pl f b) ?_;intro w c;have e:1<=Ee L.d/\Ee L.d<=255:=by unfold Ee;omega
 have h:0<=a*Ee L.d/\a*Ee L.d<=255:=by rcases g with rfl|rfl<;>omega
 refine .val (.mul (.of O) (.of O) ⟨om,om⟩) O ?_;exact gG 4 ⟨O,c⟩
theorem Xli(L:Lg)(lg db kb:Nat)(us sv pl:Va)(f:4<=L.d.kept.length)(a:L.d.kept.length<=512)(g:0<=L.used/\L.used<=100000)(N:La)(b:Aa B w I (Ad lg [ptr db 0,Ab L.gen,Ab L.AG,Ab L.used,us] 229::BA db kb sv pl L.d N)):
  Ce B I (Ad lg [ptr db 0,Ab L.gen,Ab L.AG,Ab L.used,us] 229::BA db kb sv pl L.d N) 332 [ptr lg 0] w (Ab (Ga L.d-L.used)):=by
 refine gG 1 (gD [0,0,0,0] [] [0,2,3,4,5,6,1,7,8] ?_);intro w b;refine gE 6 (xj L lg db kb us sv pl f a) ?_;intro w b;have e:1<=Ee L.d/\Ee L.d<=255:=by unfold Ee;omega
 have c:Ga L.d<=255*32/\0<=Ga L.d:=by unfold Ga;omega
 exact gG 2 ⟨O,b.s⟩
theorem R3(c a us:Int)(g:0<=c/\c<262144)(i:a=0\/a=1)(j:0<=us/\us<8192)(N:La)(d:Aa B w I N):
  Cz 288 [.agg #[Ab c,Ab a,Ab us]] w λv w'=>∃b,v=.slice (some (ad b 0)) 4 4/\Aa B w' I (Ad b (Aj (Vx c a us)) 5::N):=by
 refine gG 2 ?_;intro b1 w d;refine gH 13 (.val (.Fi (.of O) B5 BW) O (gH 2 (.val (.Fi (.of O) B5 BW) O (gH 2 (.val (.Fi (.of O) B5 BW) O (gH 1 (.val (.Fi (.of O) B5 BW) O (gH 1 ?_))))))));intro e w d;replace d:=d;replace d:=d.say (k:=0) (A':=Ad e (Aj (([Ky c a us/2^24,Ky c a us/2^16,Ky c a us/2^8,Ky c a us]:List Int).map Db)) 5) O (λh f=>by rw[bB];exact f);dsimp only[List.set]at d;exact gG 1 ⟨e,O,(d.y 1 1)⟩
theorem Xj0(c b us:Int)(g:0<=c/\c<262144)(i:b=0\/b=1)(j:0<=us/\us<8192)(l:AZ I)(N:La)(a:Aa B w I N):
  Cz 200 [.agg #[Ab c,Ab b,Ab us]] w λv w'=>∃J,Le I J/\Aa B w' J (Ao 5 1 v 8 (Aj (LJ c b us))::N):=by
 refine gH 3 ?_;intro b1 w a;refine gF 0 (R3 c b us g i j) ?_;rintro _ w ⟨p,rfl,a⟩;obtain⟨J,e,f,a⟩:=a.Ir (by simp[Vx]);refine gE 2 (PC _ _ _ (by simp[Vx]) (l.mono e) f) ?_;intro w a;refine gH 3 (.val (.Fi (.of O) Of BW) O (gH 2 (.val (.Fi (.of O) Of BW) O (gH 2 (.val (.Fi (.of O) Of BW) O (gH 1 (.val (.Fi (.of O) Of BW) O (gH 2 ?_))))))));intro d w a;replace a:=a;replace a:=a.say (k:=0) (A':=Ad d (Aj ((oL c b us:List Int).map Db)) 5) O (λh m=>by rw[bB];exact m);dsimp only[List.set]at a;replace a:=a.BB (size:=1) (n:=4) (k:=0) O (by simp[Aj,oL]) de;refine .Bk (bytes:=1) a (.of O) (.of O) f (k:=0) O BC Xt O O O O (H7 _) ⟨de,de⟩ O ?_;intro o w a;try dsimp only[List.set]at a
 refine gG 1 (⟨J,e,?_⟩);rw[show Aj (LJ c b us)=Aj ((oL c b us).map Db)++Aj (Vx c b us) from Yn];exact a.s
theorem Xfz:prog.info? 122=some t122:=by kernel_rfl
def E9(B:Wo)(I:Im)(lg db kb:Nat)(DZ DW D3:Int)(us:Va)(n0:Nat)(f:Va)(st:Dk->Nat×Dk):Prop:=∃a fn g cap,f=.func (.func a) (List.toArray g) (List.toArray cap)/\prog.funcs[a]?=some fn/\Xc fn=true/\
 ∀(d:Dk) (sv pl:Va) (w:Wo) (J:Im) (N:La),Le I J->Ct d->d.Ae.length<=100000->d.kept.length=n0->Ay J pl d.Au->Aa B w J (Ad lg [ptr db 0,Ab DZ,Ab DW,Ab D3,us] 229::BA db kb sv pl d N)->
  Calls prog a (g++[]++cap).toArray w (AY λv w'=>∃c e b,Le J c/\v=Ab ((st d).1:Nat)/\Ay c b (st d).2.Au/\Aa B w' c (Ad lg [ptr db 0,Ab DZ,Ab DW,Ab D3,us] 229::BA db kb e b (st d).2 N))
theorem E9.mono{f:Va}{st:Dk->Nat×Dk}(h:E9 B I lg db kb DZ DW D3 us n0 f st)(k:Le I J):E9 B J lg db kb DZ DW D3 us n0 f st:=by
 obtain⟨a,fn,b,cap,c,e,g,i⟩:=h;exact⟨a,fn,b,cap,c,e,g,λd sv pl w K N j=>i d sv pl w K N (k.trans j)⟩
theorem Zl(d:Dk)(lg db kb:Nat)(DZ DW D3:Int)(us sv pl:Va)(i:Int)(b:Lu)(pa:Oa)(m k b1 l:Nat)(n:At I (ad k 0) [ptr lg 0])(o:At I (ad b1 0) [Ab i])(p:At I (ad l 0) [.slice pa b.length m])(q:Ct d)(r:Ay I pl d.Au)(h:RS I pa 1 b.length (Aj b))(j:d.Ae.length<=1000000)(N:La)(c:Aa B w I (Ad lg [ptr db 0,Ab DZ,Ab DW,Ab D3,us] 229::BA db kb sv pl d N)):
  Cz 352 [ptr k 0,ptr b1 0,ptr l 0] w λv w'=>∃f e,v=Ab ((CY d i b).1:Nat)/\Ay I e (CY d i b).2.Au/\Aa B w' I (Ad lg [ptr db 0,Ab DZ,Ab DW,Ab D3,us] 229::BA db kb f e (CY d i b).2 N):=by
 refine gG 1 (gD [0] [] [0,1,2,3,4,5,6,7] ?_);intro w c;refine AN.y 0 (λw _ _ a c=>(.BG (.of O) c (n.mono a) c4 O)) (gH 3 (AN.y 4 (λw _ _ a c=>(.BG (.of O) c (o.mono a) BP O)) (AN.y 5 (λw _ _ a c=>(.BG (.of O) c (p.mono a) KZ O)) (gF 0 (Xiq i b pa m d db kb sv pl B _ I q r h j) ?_))));rintro _ w ⟨f,e,rfl,g,c⟩;exact gG 1 ⟨f,e,O,g,c.s⟩
theorem Zm(d:Dk)(lg db kb:Nat)(DZ DW D3:Int)(us sv pl:Va)(b e u:Int)(q b1:Nat)(F:0<=b/\b<262144)(C:e=0\/e=1)(H:0<=u/\u<8192)(A:AZ I)(t:At I (ad q 0) [ptr lg 0])(r:At I (ad b1 0) [Ab b,Ab e,Ab u])(x:Ct d)(z:Ay I pl d.Au)(o:d.Ae.length<=1000000)(N:La)(a:Aa B w I (Ad lg [ptr db 0,Ab DZ,Ab DW,Ab D3,us] 229::BA db kb sv pl d N)):
  Cz 355 [ptr q 0,ptr b1 0] w λv w'=>∃J g f,Le I J/\v=Ab ((CY d (b%2) (LJ b e u)).1:Nat)/\Ay J f (CY d (b%2) (LJ b e u)).2.Au/\Aa B w' J (Ad lg [ptr db 0,Ab DZ,Ab DW,Ab D3,us] 229::BA db kb g f (CY d (b%2) (LJ b e u)).2 N):=by
 refine gG 1 (gD [0] [] [0,1,2,3,4,5,6,7,8,9,10] ?_);intro w a;refine AN.y 0 (λw _ _ c a=>(.BG (.of O) a (t.mono c) c4 O)) (gH 4 (AN.y 5 (λw _ _ c a=>(.BG (.of O) a (r.mono c) BP O)) (gH 1 (AN.y 7 (λw _ _ c a=>(.D7 (.of O) a (r.mono c) ow IM O (λ_ _ h=>h))) (gF 0 (Xj0 b e u F C H A) ?_)))));rintro L w ⟨K,m,a⟩;obtain⟨D,E,rfl,G,_⟩:=a.vS 0;obtain⟨p,i,k,a⟩:=a.fV 0;try dsimp only[List.eraseIdx]at a
 have j:=m.trans i;have l:(LJ b e u).length=8:=by simp[LJ,oL,Vx]
 rw[<-l]at k;refine gF 0 (by rw[<-l];exact Xiq (b%2) (LJ b e u) _ _ d db kb sv pl B _ p x (z.mono j) k o) ?_;rintro _ w ⟨g,f,rfl,n,a⟩;exact gG 1 ⟨p,g,f,j,O,n,a.s⟩
theorem SN{a b1 c:Nat}{i:Int}{b:Lu}{pa:Oa}{m:Nat}(n:At I (ad a 0) [ptr lg 0])(o:At I (ad b1 0) [Ab i])(p:At I (ad c 0) [.slice pa b.length m])(h:RS I pa 1 b.length (Aj b)):E9 B I lg db kb DZ DW D3 us n0 (.func (.func 352) #[] #[ptr a 0,ptr b1 0,ptr c 0]) (λd=>CY d i b) :=
 ⟨352,_,[],[ptr a 0,ptr b1 0,ptr c 0],O,func352,O,λd sv pl w J N f q u y r s=>(Zl d lg db kb DZ DW D3 us sv pl i b pa m a b1 c (n.mono f) (o.mono f) (p.mono f) q r (h.mono f) om N s).mono λe w' ⟨v,t,l,k,x,g,j⟩=>⟨v,t,J,l,k,Le.refl _,x,g,j⟩⟩
theorem SO{c b1:Nat}{a b u:Int}(t:0<=a/\a<262144)(r:b=0\/b=1)(y:0<=u/\u<8192)(q:AZ I)(k:At I (ad c 0) [ptr lg 0])(l:At I (ad b1 0) [Ab a,Ab b,Ab u]):E9 B I lg db kb DZ DW D3 us n0 (.func (.func 355) #[] #[ptr c 0,ptr b1 0]) (λd=>CY d (a%2) (LJ a b u)) :=
 ⟨355,_,[],[ptr c 0,ptr b1 0],O,func355,O,λd sv pl w J N f n x A o p=>(Zm d lg db kb DZ DW D3 us sv pl a b u c b1 t r y (q.mono f) (k.mono f) (l.mono f) n o om N p).mono λe w' ⟨v,s,K,j,i,m,z,g,h⟩=>⟨v,s,K,j,i,m,z,g,h⟩⟩
theorem Xqt:E9 B I lg db kb DZ DW D3 us n0 (.func (.func 354) #[ptr db 0] #[]) Ef :=
 ⟨354,_,[ptr db 0],[],O,func354,O,λd sv pl w J N m g k n h i=>(RE d db kb sv pl g h om _ (i.x [3,3,3])).mono λe w' ⟨v,j,f,c,l,a,b⟩=>⟨v,j,J,f,c,Le.refl _,l,a,(((b.pick 3 O)))⟩⟩
def A_(B:Wo)(I:Im)(lg db kb:Nat)(DZ DW D3:Int)(us:Va)(n0:Nat)(fs:Lv)(a:List (Dk->Nat×Dk)):Prop:=fs.length=a.length/\∀(k:Nat) f st,fs[k]?=some f->a[k]?=some st->E9 B I lg db kb DZ DW D3 us n0 f st/\n3 st
theorem A_.mono{fs:Lv}{sts:List (Dk->Nat×Dk)}(h:A_ B I lg db kb DZ DW D3 us n0 fs sts)(c:Le I J):A_ B J lg db kb DZ DW D3 us n0 fs sts:=⟨h.1,λk f st a b=>⟨(h.2 k f st a b).1.mono c,(h.2 k f st a b).2⟩⟩
theorem A_.app{fs g:Lv}{b c:List (Dk->Nat×Dk)}(h:A_ B I lg db kb DZ DW D3 us n0 fs b)(i:A_ B I lg db kb DZ DW D3 us n0 g c):A_ B I lg db kb DZ DW D3 us n0 (fs++g) (b++c):=by
 refine⟨by rw[Y0,Y0,h.1,i.1],λk f st d e=>?_⟩;rcases Yz k fs.length with a|a
 ·rw[Yf a]at d;rw[Yf (by rw[<-h.1];exact a)]at e;exact h.2 k f st d e
 ·rw[Yy a]at d;rw[Yy (by rw[<-h.1];exact a),<-h.1]at e;exact i.2 _ f st d e
theorem A_.one{f:Va}{st:Dk->Nat×Dk}(h:E9 B I lg db kb DZ DW D3 us n0 f st)(b:n3 st):A_ B I lg db kb DZ DW D3 us n0 [f] [st]:=⟨O,λk e d a c=>by
 cases k with
 | zero=>cases a;cases c;exact⟨h,b⟩
 | succ k=>simp at a⟩
theorem A_.nil:A_ B I lg db kb DZ DW D3 us n0 [] []:=⟨O,λk f st a=>by simp at a⟩
def Bh(I:Im)(us:Va)(l:Lu):Prop:=∃a c,us=.slice a l.length c/\l.length<=c/\RS I a 1 l.length (Aj l)
theorem Bh.mono{l:Lu}(h:Bh I us l)(f:Le I J):Bh J us l:=by
 obtain⟨a,c,b,d,e⟩:=h;exact⟨a,c,b,d,e.mono f⟩
theorem Xx5(a:Lu)(i:Nat):(iz a i).length=min a.length ((i+1)*32)-i*32:=by
 unfold iz;rw[Y6,Yj,Nat.min_comm]
theorem Y_(a:Lu)(i:Nat):Aj (iz a i)=((Aj a).take ((min a.length ((i+1)*32))*1)).drop (i*32*1):=by
 unfold iz Aj;rw[qR,ct];simp only[Ca]
 rcases Nat.le_total a.length ((i+1)*32)with h|h
 ·rw[JT h,Yk (su h),Yk sz]
 ·rw[zE h]
theorem Xwg(L:Lg)(lg db kb:Nat)(us sv pl:Va)(q m u:Int)(b:Lu)(ua:Oa)(uc FV:Nat)(fi:Int)(bd:fi=(FV:Nat))(hg:0<=q/\q<262144)(ha:m=0\/m=1)(hu:0<=u/\u<8192)(cj:b.length<=100000)(ap:b.length<=uc)(cb:FV<=100000)(hV:AZ I)(hO:Q5 L)(hP:Ay I pl L.d.Au)(hU:Bh I us L.data)(ah:RS I ua 1 b.length (Aj b))(N:La)(a:Aa B w I (Ad lg [ptr db 0,Ab L.gen,Ab L.AG,Ab L.used,us] 229::BA db kb sv pl L.d N)):
  Cz 270 [ptr lg 0,.agg #[Ab q,Ab m,Ab u],.slice ua b.length uc,Ab fi] w λv w'=>∃J bm au aw,v=Ab ((Ih L q m u b FV).1:Nat)/\Le I J/\Ay J au (Ih L q m u b FV).2.d.Au/\Bh J aw (Ih L q m u b FV).2.data/\Aa B w' J (Ad lg [ptr db 0,Ab (Ih L q m u b FV).2.gen,Ab (Ih L q m u b FV).2.AG,Ab (Ih L q m u b FV).2.used,aw] 229::BA db kb bm au (Ih L q m u b FV).2.d N):=by
 subst bd;refine gG 3 ?_;intro b4 b5 w a;replace a:=(a.pick 1 O)
 obtain⟨I1,a6,bj,a⟩:=a.fZ 0;obtain⟨I2,Y,bk,a⟩:=a.fZ 0;have F:At I2 (ad b4 0) [ptr lg 0]:=⟨O,_,_,_,Y.h _ _ bj,λj v M=>by simpa using M⟩
 have h1:At I2 (ad b5 0) [Ab q,Ab m,Ab u]:=⟨O,_,_,_,bk,λj v M=>by simpa using M⟩
 have g:=a6.trans Y;refine gG 4 ?_;replace a:=a.Al 122 1;have C:=a;clear a;refine .lk [2,4,5] (σ:=Nat×Lv×Va×Im) (λ(i,fs,kv,J) _m=>(9,kv)::(10,Ab (i:Nat))::_m) (λ(i,fs,kv,J) w=>FV/32<=i/\(i*32<b.length+32\/i=FV/32)/\Le I2 J/\A_ B J lg db kb L.gen L.AG L.used us L.d.kept.length fs ((List.range' (FV/32) (i-FV/32)).map (λ(i:Nat) d=>CY d (bG L.d m i) (iz b i)))/\Aa B w J (Ao 122 1 kv fs.length fs::Ad lg [ptr db 0,Ab L.gen,Ab L.AG,Ab L.used,us] 229::BA db kb sv pl L.d N)) (λ(i,fs,kv,J)=>(b.length+31)/32-i) (FV/32,[],.slice none 0 0,I2) ⟨Y9 _,.inr O,Le.refl _,by rw[o3];exact A_.nil,C⟩ ?_;rintro⟨i,fs,kv,J⟩ w ⟨cf,ce,G,hC,a⟩;clear C;have b9:fs.length=i-FV/32:=by rw[hC.1];simp
 refine gN 5 ?_ ?_<;>intro o
 ·refine gG 0 ?_;obtain⟨a9,bc,af⟩:=Vi (lo:=i*32) (hi:=min b.length ((i+1)*32)) (ah.mono (g.trans G)) (oh o) om ap;rw[<-Y_,<-Xx5]at af;refine gH 8 (.val (.min2 (.of O) (.of O)) O ?_);refine .val (.as (.slc (lo:=((i*32:Nat):Int)) (hi:=((min b.length ((i+1)*32):Nat):Int)) (.of O) (.of (by show some (Ab _)=some (Ab _);congr 2)) (.of (by show some (Ab _)=some (Ab _);congr 2;omega)) om (oh o) om BC Cw) (show sliced _ ((i*32:Nat):Int).toNat ((min b.length ((i+1)*32):Nat):Int).toNat _ _=_ from by rw[Yh,Yh,bc,<-Xx5])) O ?_;refine gG 2 ?_;intro T w a;refine .val (.BG (v:=ptr lg 0) (.of O) a (F.mono G) c4 O) O (gH 1 (.val (.BG (v:=Ab m) (.of O) a ((h1.mono G).add 1) BP O) O (gE 1 (Xj6 L lg db kb us sv pl m _ ha (oh o) hO.len hO.d.size) ?_)));intro w a;refine gG 2 ?_;intro U w a;replace a:=((a.pick 5 O).pick 1 O)
  obtain⟨J1,a7,am,a⟩:=a.fZ 0;obtain⟨J2,Z,al,a⟩:=a.fZ 0;have X:At J2 (ad U 0) [Ab (bG L.d m (i:Nat))]:=⟨O,_,_,_,Z.h _ _ am,λj v M=>by simpa using M⟩
  have W:At J2 (ad T 0) [.slice a9 (iz b i).length (uc-i*32)]:=⟨O,_,_,_,al,λj v M=>by simpa using M⟩
  have y:=a7.trans Z;have a5:=SN (B:=B) (lg:=lg) (db:=db) (kb:=kb) (n0:=L.d.kept.length) (DZ:=L.gen) (DW:=L.AG) (D3:=L.used) (us:=us) (F.mono (G.trans y)) X W (af.mono y);refine gH 3 ?_;intro bz w a;refine .append (size:=1) (bytes:=8) a (.of O) (.of O) (k:=4) O N2 Xfz O O O O O O O ⟨om,by unfold maxLen;omega⟩ O ?_;intro ck w a;dsimp only[List.set]at a;refine gG 4 ?_;have bb:=o;refine Br (i+1,fs++[.func (.func 352) #[] #[ptr b4 0,ptr U 0,ptr T 0]],_,J2) O ⟨od,.inl od,G.trans y,?_,?_⟩
  ·(try dsimp only)
   rw[show i+1-FV/32=(i-FV/32)+1 by omega,List.range'_concat,Yn,qU,show FV/32+(i-FV/32)=i by omega];exact(hC.mono y).app (.one a5 (sS _ _))
  ·(try dsimp only)
   rw[Y0];exact(a.x [3,3,3,3,4])
 refine gG 0 (.dw (λw=>∃R,Aa B w J (Ad lg [ptr db 0,Ab L.gen,Ab L.AG,Ab L.used,us] 229::R)) (λj=>!([].contains j)) ?_);replace a:=a.drew;generalize w.drew=w at a ⊢;have n:∃R,Aa B w J (Ad lg [ptr db 0,Ab L.gen,Ab L.AG,Ab L.used,us] 229::R):=⟨_,(a.x [1])⟩
 refine .tp 0 O (λw=>(.mo O)) (.tk 1 O n (λw ⟨R,a⟩=>(.BG (v:=ptr lg 0) (.of O) a (F.mono G) c4 O)) (.tp 2 O (λw=>(.no O)) ?_));refine .tp 3 O (λw=>(by first|exact .fo 0 O TR O O Lm O|exact .fi 0 O TR O O Lm O)) ?_;refine .tk 4 O n (λw ⟨R,a⟩=>(.lo O a (k:=0) O isAgg52 O)) (.tp 5 O (λw=>(.HS (AM O X3) X3)) (.tp 6 O (λw=>(.makeFunc (AM O (AM O X3)))) (.tk 7 O n (λw ⟨R,a⟩=>(.BG (v:=ptr lg 0) (.of O) a (F.mono G) c4 O)) (.tp 8 O (λw=>(.no O)) ?_))));refine .tp 9 O (λw=>(by first|exact .fo 0 O TR O O Lm O|exact .fi 0 O TR O O Lm O)) ?_;refine .tk 10 O n (λw ⟨R,a⟩=>(.lo O a (k:=0) O isAgg52 O)) (.tp 11 O (λw=>(.HS (AM O X3) X3)) ?_);refine .b1 12 O (.buildSlice (cs:=[_,_,_]) a (Lb O (Lb O (Lb O U_))) N2 sizeOf122 zeroValue122 O O O O ?_);intro b0 w a;refine .nil ?_;clear n;have n:∃R,Aa B w J (Ad lg [ptr db 0,Ab L.gen,Ab L.AG,Ab L.used,us] 229::R):=⟨_,(a.x [2])⟩
 refine⟨λ_ _=>n,?_⟩;refine .b1 13 O (.append (size:=1) (bytes:=8) a (.of O) (.of O) (k:=0) O N2 Xfz O O O O O O O ⟨om,by unfold maxLen;omega⟩ O ?_);intro bp w a;dsimp only[List.set]at a;refine .nil ?_;clear n;have n:∃R,Aa B w J (Ad lg [ptr db 0,Ab L.gen,Ab L.AG,Ab L.used,us] 229::R):=⟨_,(a.x [1])⟩
 refine⟨λ_ _=>n,?_⟩;refine .tp 14 O (λw=>(.ao O)) (.dn ?_);obtain⟨ca,cc,rfl,b8,_⟩:=a.AP (k:=0) (v:=bp) O;refine gG 3 ?_;obtain⟨A,D⟩:∃A,A=fs++[.func (.func 354) #[ptr db 0] #[],.func (.func 355) #[] #[ptr b4 0,ptr b5 0],.func (.func 354) #[ptr db 0] #[]]:=⟨_,O⟩
 obtain⟨Nl,r⟩:∃Nl,Nl=Vj L.d q m u b FV:=⟨_,O⟩
 have bb:=o;have bf:i-FV/32=cntF b.length FV:=by unfold cntF;omega
 have ai:=(((((a.pick 4 O).pick 4 O).pick 4 O).pick 4 O).pick 4 O)
 obtain⟨J4,aa,ag,C⟩:=ai.fV 0;have e:=G.trans aa;have K:A_ B J4 lg db kb L.gen L.AG L.used us L.d.kept.length A Nl:=by
  rw[D,r];unfold Vj;rw[<-bf];exact((hC.mono aa).app ((A_.one Xqt tr).app ((A_.one (SO hg ha hu (hV.mono (g.trans e)) (F.mono e) (h1.mono e)) (sS _ _)).app (A_.one Xqt tr))))
 have bv:A.length=fs.length+3:=by rw[D];simp
 rw[<-D]at ag;have ba:=hP.mono (g.trans e);clear a ai;refine .lk [2,4,5,58,59] (σ:=Nat×Dk×Va×Va×Im) (λ(k,p,z,t,J) _m=>(60,Ab (k:Nat))::_m) (λ(k,p,z,t,J) w=>k<=fs.length+3/\Fe Nl L.d=Fe (Nl.drop k) p/\Ct p/\p.Ae.length<=L.d.Ae.length+k/\p.kept.length=L.d.kept.length/\Ay J t p.Au/\Le J4 J/\Aa B w J (Ad lg [ptr db 0,Ab L.gen,Ab L.AG,Ab L.used,us] 229::BA db kb z t p N)) (λ(k,p,z,t,J)=>fs.length+3-k) (0,L.d,sv,pl,J4) ⟨Y5 _,O,hO.d,Y9 _,O,ba,Le.refl _,C⟩ ?_;rintro⟨k,p,z,t,J⟩ w ⟨hk,c,ab,ch,ak,ae,l,a⟩;clear C;refine gN 1 ?_ ?_<;>intro bt
 ·refine gG 0 ?_;obtain⟨f,hf⟩:∃f,A[k]?=some f:=⟨_,Y2 om⟩
  obtain⟨st,Q⟩:∃st,Nl[k]?=some st:=⟨_,Y2 (by rw[<-K.1];omega)⟩
  obtain⟨⟨b2,fn,a2,V,rfl,be,aj,an⟩,bl⟩:=K.2 k f st hf Q;obtain⟨cp,rfl,bi⟩:=ag.2 om;refine gH 1 ?_
  (try rw[Yh]);rw[Ca]
  refine .val (.BG (.of O) a (((bi.mono l).add k)) isAgg122 (by rw[GI,DG];exact hf)) O ?_;refine gH 2 (.mU (bs:=a2) (cap:=V) be aj (.of O) X3 O (an p z t w J N l ab (oh hO.st) ak ae a) ?_);rintro _ w ⟨J3,bn,av,E,rfl,ac,a⟩;obtain⟨a8,bg,cg⟩:=bl p ab;refine gN 3 ?_ ?_<;>intro H
  ·refine gG 0 (.val (.BG (v:=ptr lg 0) (.of O) a (F.mono (e.trans (l.trans E))) c4 O) O (gF 3 (Xoe (st p).2 db kb bn av) ?_));rintro _ w ⟨bo,a⟩;refine gG 1 ?_;have S:(st p).1≠0:=by have:=H;omega
   rw[PO Q,Y7 S]at c;have P:Ih L q m u b FV=(21,{ L with d:=JK (st p).2 }):=by
    unfold Ih;rw[<-r,c];first|done|rfl
   rw[P];exact⟨J3,bo,av,us,O,g.trans (e.trans (l.trans E)),by rw[RM];exact ac,hU.mono (g.trans (e.trans (l.trans E))),a.s⟩
  refine gG 2 ?_;have S:(st p).1=0:=by have:=H;omega
  rw[PO Q,Y3 (by rw[S];simp)]at c;refine Br (k+1,_,_,_,_) O ⟨od,c,a8,od,by rw[<-ak];exact bg,ac,l.trans E,(a.x [3,3,3,3])⟩
 refine gG 0 (.dw (λw=>∃R,Aa B w J R) (λj=>!([9].contains j)) ?_);replace a:=a.drew;generalize w.drew=w at a ⊢;have n:∃R,Aa B w J R:=⟨_,a⟩
 refine .tk 0 O n (λw ⟨R,a⟩=>(.BG (v:=ptr lg 0) (.of O) a (F.mono (e.trans l)) c4 O)) (.tk 1 O n (λw ⟨R,a⟩=>(.BG (v:=ptr lg 0) (.of O) a (F.mono (e.trans l)) c4 O)) (.tk 2 O n (λw ⟨R,a⟩=>(.D7 (us:=[Ab q,Ab m,Ab u]) (.of O) a (h1.mono (e.trans l)) ow IM O (λ_ _ h=>h))) (.tp 3 O (λw=>(.mo O)) (.tp 4 O (λw=>(.no O)) ?_))));refine .tp 5 O (λw=>(by first|exact .fo 1 O TR O O IM O|exact .fi 1 O TR O O IM O)) ?_;refine .b1 6 O ?_
 first|refine .so a (k:=0) O O O O IM O sz ?_|refine .so a (k:=1) O O O O IM O sz ?_|refine .so a (k:=2) O O O O IM O sz ?_|refine .so a (k:=3) O O O O IM O sz ?_
 intro w a;refine .nil ?_;clear n;have n:∃R,Aa B w J R:=⟨_,a⟩
 refine⟨λ_ _=>n,?_⟩;refine .tp 7 O (λw=>(.no O)) (.tp 8 O (λw=>(by first|exact .fo 4 O TR O O FR O|exact .fi 4 O TR O O FR O)) ?_);refine .b1 9 O ?_
 first|refine .s1 a (k:=0) O O O O FR sz ?_|refine .s1 a (k:=1) O O O O FR sz ?_|refine .s1 a (k:=2) O O O O FR sz ?_|refine .s1 a (k:=3) O O O O FR sz ?_
 intro w a;refine .nil ?_;refine And.intro (by intro h;cases h) ?_;refine .dn (gG 1 ?_);have bh:Nl.drop k=[]:=Yo (oh K.1);rw[bh]at c;have P:Ih L q m u b FV=(0,⟨p,q,m,u,b⟩):=by
  unfold Ih;rw[<-r,c];first|done|rfl
 rw[P];exact⟨J,z,t,_,O,g.trans (e.trans l),ae,⟨ua,uc,O,ap,ah.mono (g.trans (e.trans l))⟩,(a.x [3,3,3,3])⟩
theorem Xrf(a:Oa)(c:Nat)(l:Lu)(m:l.length<=1000000)(e:RS I a 1 l.length (Aj l))(N:La)(b:Aa B w I N):
  Cz 333 [.slice a l.length c] w λv w'=>∃f,v=f/\Aa B w' I (Ao 5 1 f (l).length (Aj (l))::N):=by
 refine gH 2 (.val (Ex.Fp (.of O) (.of O) BC) O ?_);refine gM 0 ?_ ?_<;>intro d i
 ·refine gG 1 ?_;cases a with
  | some p=>simp at d
  | none =>
  have g:l=[]:=by
   cases l with
   | nil=>rfl
   | cons x l=>obtain⟨p,h,_⟩:=e.2 sz;cases h
  subst g;exact⟨_,O,b.Al 5 1⟩
 refine gH 2 ?_;intro j w b;replace b:=b.BB (k:=0) (size:=1) O O (Y5 _);refine .Bk (bytes:=1) b (.of O) (.of O) e (k:=0) O BC Xt O O O O (H7 l) ⟨om,by unfold maxLen;omega⟩ O ?_;intro n w b;rw[Yl,CS]at b;exact gG 1 ⟨_,O,b⟩
theorem Xt9(L:Lg)(lg db kb:Nat)(us sv pl:Va)(b:Lu)(q:Oa)(H:Nat)(E:b.length<=1000000)(K:AZ I)(A:RS I q 1 b.length (Aj b))(f:Q5 L)(u:Ay I pl L.d.Au)(p:Bh I us L.data)(N:La)(a:Aa B w I (Ad lg [ptr db 0,Ab L.gen,Ab L.AG,Ab L.used,us] 229::BA db kb sv pl L.d N)):
  Cz 251 [ptr lg 0,.slice q b.length H] w λv w'=>∃J n i l,v=Ab ((GZ L b).1:Nat)/\Le I J/\Ay J i (GZ L b).2.d.Au/\Bh J l (GZ L b).2.data/\Aa B w' J (Ad lg [ptr db 0,Ab (GZ L b).2.gen,Ab (GZ L b).2.AG,Ab (GZ L b).2.used,l] 229::BA db kb n i (GZ L b).2.d N):=by
 obtain⟨R,S,rfl,V,C⟩:=id p;have Z:=yh b;have M:=gZ f.d f.len;have ab:=f.used;have aa:=f.room;have X:=f.gen;have U:0<=L.AG/\L.AG<=1:=by rcases f.AG with h|h<;>rw[h]<;>decide
 refine gF 2 (yg b q H E K A) ?_;rintro _ w ⟨fv,rfl,a⟩;obtain⟨fa,fc,rfl,W,_⟩:=a.vS 0;refine gN 8 ?_ ?_<;>intro c
 ·refine gG 2 ?_;have e:GZ L b=((CQ b).2,L):=by unfold GZ;exact Y7 (oh c)
  rw[e];exact⟨I,sv,pl,_,O,Le.refl _,u,p,a.s⟩
 refine gP 3 [4,4,4,4] (Xli L lg db kb _ sv pl f.len f.d.size om _) ?_;rintro _ w ⟨rfl,a⟩;refine gN 11 ?_ ?_<;>intro m
 ·refine gG 1 ?_;have e:GZ L b=(5,L):=by unfold GZ;rw[Y3 (oh c)];exact Y7 (oh m)
  rw[e];exact⟨I,sv,pl,_,O,Le.refl _,u,p,a.s⟩
 refine gG 0 (gD [0] [21] [0,1,2,3,4,5,6,7,8,9,10,11,12,13,14,15,16,17,18,19,20,21] ?_);intro w a;refine gH 14 (gH 7 ?_);intro Q w a;refine gH 1 ?_;intro w a;refine gG 0 ?_;replace a:=a;obtain⟨J,o,G,a⟩:=a.fZ 0;try dsimp only[List.eraseIdx]at a
 have T:At J (ad Q 0) [Ab (L.gen+1),Ab L.AG,Ab (L.used+((CQ b).1.length:Nat))]:=⟨O,_,_,_,G,λj v Y=>by simpa using Y⟩
 refine gD [0] [14] [0,1,2,3,4,5,7,9,10,11,12,13,6,8,14,15] ?_;intro w a;refine gH 1 (AN.y 1 (λw _ _ t a=>(.D7 (.of O) a (T.mono t) ow IM O (λ_ _ h=>h))) (gF 10 (Xrf R S _ om (C.mono o)) ?_));rintro _ w ⟨nv,rfl,a⟩;refine gH 0 (AN.e (.FU (bytes:=1) a (.of O) (.of O) (k:=0) (j:=5) O O BC Xt O O O O (H7 _) ⟨om,by unfold maxLen;omega⟩ O ?_));intro af w a;dsimp only[List.set]at a;rw[<-Y0,<-show Aj (L.data++(CQ b).1)=Aj L.data++Aj (CQ b).1 from Yn]at a;obtain⟨na,nc,rfl,F,_⟩:=a.vS 0;obtain⟨J2,g,z,a⟩:=a.fV 0;try dsimp only[List.eraseIdx]at a
 refine gF 0 (Xwg L lg db kb _ sv pl _ _ _ _ na nc L.used.toNat L.used om om f.AG om (by rw[Y0];omega) F om ((K.mono o).mono g) f ((u.mono o).mono g) ((p.mono o).mono g) z) ?_;rintro _ w ⟨P,n,i,l,rfl,r,x,D,a⟩;refine gG 1 ?_;have e:GZ L b=Ih L (L.gen+1) L.AG (L.used+((CQ b).1.length:Nat)) (L.data++(CQ b).1) L.used.toNat:=by unfold GZ;rw[Y3 (oh c)];exact Y3 (oh m)
 rw[e];exact⟨P,n,i,l,O,o.trans (g.trans r),x,D,a.s⟩
theorem Xd6(L:Lg)(lg db kb:Nat)(us sv pl:Va)(xs:List Lu)(cs:Lv)(A:Oa)(E:Nat)(y:∀x∈xs,x.length<=1000000)(z:xs.length<=1000000)(C:AZ I)(K:D4 I xs cs)(q:RS I A 1 xs.length cs)(j:Q5 L)(n:Ay I pl L.d.Au)(r:Bh I us L.data)(N:La)(a:Aa B w I (Ad lg [ptr db 0,Ab L.gen,Ab L.AG,Ab L.used,us] 229::BA db kb sv pl L.d N)):
  Cz 174 [ptr lg 0,.slice A xs.length E] w λv w'=>∃J l g i,v=Ab ((Hp L xs).1:Nat)/\Le I J/\Ay J g (Hp L xs).2.d.Au/\Bh J i (Hp L xs).2.data/\Aa B w' J (Ad lg [ptr db 0,Ab (Hp L xs).2.gen,Ab (Hp L xs).2.AG,Ab (Hp L xs).2.used,i] 229::BA db kb l g (Hp L xs).2.d N):=by
 have D:=gZ j.d j.len;have P:=j.gen;have M:0<=L.AG/\L.AG<=1:=by rcases j.AG with h|h<;>rw[h]<;>decide
 refine gF 2 (VJ xs cs A E y z C K q) ?_;rintro _ w ⟨J,R,rfl,c,a⟩;obtain⟨G,H,rfl,u,_⟩:=a.vS 0;refine gN 8 ?_ ?_<;>intro b
 ·refine gG 2 ?_;have e:Hp L xs=((Ic xs []).2,L):=by unfold Hp;exact Y7 (oh b)
  rw[e];exact⟨J,sv,pl,_,O,c,n.mono c,r.mono c,a.s⟩
 refine gP 3 [4,4,4,4] (xj L lg db kb _ sv pl j.len j.d.size _) ?_;rintro _ w ⟨rfl,a⟩;refine gN 11 ?_ ?_<;>intro k
 ·refine gG 1 ?_;have e:Hp L xs=(5,L):=by unfold Hp;rw[Y3 (oh b)];exact Y7 (oh k)
  rw[e];exact⟨J,sv,pl,_,O,c,n.mono c,r.mono c,a.s⟩
 refine gG 0 (gD [0] [17] [0,1,2,3,4,5,6,7,8,9,10,11,12,13,14,15,16,17,18] ?_);intro w a;refine gH 14 (gH 3 ?_);obtain⟨Q,f,p,a⟩:=a.fV 4;try dsimp only[List.eraseIdx]at a
 refine gF 0 (Xwg L lg db kb _ sv pl _ _ _ (Ic xs []).1 G H 0 0 O om (by rcases j.AG with h|h<;>rw[h]<;>simp) om om u om ((C.mono c).mono f) j ((n.mono c).mono f) ((r.mono c).mono f) p) ?_;rintro _ w ⟨F,l,g,i,rfl,m,o,t,a⟩;refine gG 1 ?_;have e:Hp L xs=Ih L (L.gen+1) (1-L.AG) ((Ic xs []).1.length:Nat) (Ic xs []).1 0:=by unfold Hp;rw[Y3 (oh b)];exact Y3 (oh k)
 rw[e];exact⟨F,l,g,i,O,c.trans (f.trans m),o,t,a.s⟩
def Iz(b:Lu):Nat:=(((b.getD 4 0).toNat*256+(b.getD 5 0).toNat)*256+(b.getD 6 0).toNat)*256+(b.getD 7 0).toNat
theorem ME(m k y:Nat)(d:m*2^k<4611686018427387904)(e:y<2^k)(f:y<4611686018427387904):bits .or .i64 ((m*2^k:Nat):Int) (y:Int)=((m*2^k+y:Nat):Int):=by
 have a:(BitVec.ofInt 64 ((m*2^k:Nat):Int)).toNat=m*2^k:=by rw[BitVec.toNat_ofInt];omega
 have b:(BitVec.ofInt 64 (y:Int)).toNat=y:=by rw[BitVec.toNat_ofInt];omega
 have c:=uY (i:=k) e m;show IntKind.i64.wrap (((BitVec.ofInt 64 _||| BitVec.ofInt 64 _).toNat:Nat):Int)=_
 rw[BitVec.toNat_or,a,b,Fg,<-c,Fg,IntKind.wrap_i64];rw[Fg]at d;rw[Fg m];omega
theorem Aan(b:Lu):bits .or .i64 (bits .or .i64 (bits .or .i64 (IntKind.i64.wrap (((b.getD 4 0).toNat:Int)*2^24)) (IntKind.i64.wrap (((b.getD 5 0).toNat:Int)*2^16))) (IntKind.i64.wrap (((b.getD 6 0).toNat:Int)*2^8))) ((b.getD 7 0).toNat:Int)=(Iz b:Int):=by
 have f:=En (b.getD 4 0);have g:=En (b.getD 5 0);have h:=En (b.getD 6 0);have i:=En (b.getD 7 0);unfold Iz;generalize (b.getD 4 0).toNat=a at *;generalize (b.getD 5 0).toNat=c at *;generalize (b.getD 6 0).toNat=d at *;generalize (b.getD 7 0).toNat=e at *;rw[show IntKind.i64.wrap ((a:Int)*2^24)=((a*2^24:Nat):Int)by rw[IntKind.wrap_i64];omega,show IntKind.i64.wrap ((c:Int)*2^16)=((c*65536:Nat):Int)by rw[IntKind.wrap_i64];omega,show IntKind.i64.wrap ((d:Int)*2^8)=((d*256:Nat):Int)by rw[IntKind.wrap_i64];omega];rw[ME a 24 (c*65536) om om om,show a*2^24+c*65536=(a*256+c)*2^16 by omega,ME _ 16 (d*256) om om om,show(a*256+c)*2^16+d*256=((a*256+c)*256+d)*2^8 by omega,ME _ 8 e om om om]
def HG(b:Lu):Int:=(Iz b:Int)/16384
def On(b:Lu):Int:=(Iz b:Int)/8192%2
def KY(b:Lu):Int:=(Iz b:Int)%8192
def rOk(d:Dk)(i:Int)(b:Lu):Bool:=LJ (HG b) (On b) (KY b)==b.take 8&&HG b%2==i&&decide (KY b<=Ga d)
theorem td{d:Dk}(h:Ct d){i:Int}(hi:Ml d i=true):(LM d i).length=32:=by
 have f:(d.kept.getD i.toNat []).length=32:=by
  unfold Ml at hi;simp only[Yb,decide_eq_true_eq]at hi
  have a:i.toNat<d.kept.length:=om
  rw[Ya,Y2 a];exact h.kept _ (iO a)
 have:∀(l:List (Int×Lu)) (b:Lu),(∀w∈l,w.2.length=32)->b.length=32->(l.foldl (OB i) b).length=32:=by
  intro l
  induction l with
  | nil=>intro b _ c;exact c
  | cons w l g =>
   intro b e c;refine g _ (λx hx=>e x (by simp[hx])) ?_;unfold OB;split
   ·exact e w sz
   ·exact c
 exact this _ _ h.what f
theorem Se(L:Lg)(lg db kb:Nat)(us sv pl:Va)(i:Int)(hi:Ml L.d i=true)(hV:AZ I)(V:Ct L.d)(D:4<=L.d.kept.length)(Y:L.d.Ae.length<=1000000)(N:La)(a:Aa B w I (Ad lg [ptr db 0,Ab L.gen,Ab L.AG,Ab L.used,us] 229::BA db kb sv pl L.d N)):
  Cz 106 [ptr lg 0,Ab i] w λv w'=>∃J,Le I J/\v=.tuple #[.agg #[Ab (HG (LM L.d i)),Ab (On (LM L.d i)),Ab (KY (LM L.d i))],.bool (rOk L.d i (LM L.d i))]/\Aa B w' J (Ad lg [ptr db 0,Ab L.gen,Ab L.AG,Ab L.used,us] 229::BA db kb sv pl L.d N):=by
 obtain⟨sa,sc,rfl,aq,_⟩:=a.vS 3;have E:=td V hi;refine gH 7 ?_;intro b4 w a;refine gF 0 (Xof L.d db kb sa sc pl i V hi Y) ?_;rintro _ w ⟨b5,rfl,a⟩;obtain⟨J,hJ,M,a⟩:=a.Ir om;obtain⟨c,x⟩:∃c,c=LM L.d i:=⟨_,O⟩
 rw[<-x]at M E;refine gG 1 ?_;obtain⟨p,r,o⟩:=M.2 om;injection r with r
 subst r;have ai:=En (c.getD 4 0);have aj:=En (c.getD 5 0);have ak:=En (c.getD 6 0);have al:=En (c.getD 7 0);refine gQ ?_;intro w a;refine gH 2 (AN.y 2 (λw _ _ b a=>(.BG (v:=U8 (c.getD 4 0).toNat) (.of O) a ((o.add 4).mono b) EA (cR o om))) (gH 4 (AN.y 7 (λw _ _ b a=>(.BG (v:=U8 (c.getD 5 0).toNat) (.of O) a ((o.add 5).mono b) EA (cR o om))) (gH 5 (AN.y 13 (λw _ _ b a=>(.BG (v:=U8 (c.getD 6 0).toNat) (.of O) a ((o.add 6).mono b) EA (cR o om))) (gH 5 (AN.y 19 (λw _ _ b a=>(.BG (v:=U8 (c.getD 7 0).toNat) (.of O) a ((o.add 7).mono b) EA (cR o om))) (gH 1 (AN.y 21 (λw _ _ b a=>.as (.DB (.inr (.inl O)) (.of O) (.of O)) (Ye (Value.int .i64) (Aan c))) ?_)))))))));have an:(Iz c:Int)<4294967296:=by unfold Iz;have h0:=En (c.getD 4 0);have h1:=En (c.getD 5 0);have h2:=En (c.getD 6 0);have h3:=En (c.getD 7 0);omega
 refine gH 11 ?_;intro b8 w a;refine gG 0 ?_;replace a:=a;obtain⟨n,q,X,a⟩:=a.fZ 0;try dsimp only[List.eraseIdx]at a
 have F:At n (ad b8 0) [Ab (HG c),Ab (On c),Ab (KY c)]:=⟨O,_,_,_,X,λj v hj=>by unfold HG On KY at hj;simpa using hj⟩
 obtain⟨H,A,P⟩:=Vi (lo:=0) (hi:=8) (M.mono q) om om (Y9 _);have ap:0<=HG c/\HG c<262144:=by unfold HG;omega
 have W:sliced (some (ad b5 0)) 0 8 32 1=.slice H 8 32:=by rw[E]at A;exact A
 have C:(c.take 8).length=8:=by rw[Yj];omega
 have Q:RS n H 1 (c.take 8).length (Aj (c.take 8)):=by
  have e:Aj (c.take 8)=((Aj c).take (8*1)).drop (0*1):=by unfold Aj;rw[ct];simp
  rw[C,e];exact P
 refine .dw (λw=>∃g R,Le n g/\Aa B w g R) (λj=>!([].contains j)) ?_;replace a:=a.drew;generalize w.drew=w at a ⊢;have l:∃g R,Le n g/\Aa B w g R:=⟨_,_,Le.refl _,a⟩
 refine .D2 (i:=0) O kr kr kr kr l (λw ⟨g,R,b,a⟩=>(.D7 (us:=[Ab (HG c),Ab (On c),Ab (KY c)]) (.of O) a (F.mono b) ow IM O (λ_ _ h=>h))) O (.D2 (i:=1) O kr kr kr kr l (λw ⟨g,R,b,a⟩=>(.D7 (us:=[Ab (HG c),Ab (On c),Ab (KY c)]) (.of O) a (F.mono b) ow IM O (λ_ _ h=>h))) O (.tp 3 O (λw=>(.mo O)) (.tp 4 O (λw=>(.as (.Fq (hi:=8) (.of O) (.of O) om om BC Cw) W)) ?_)));refine .b1 2 O (.call func200 O (AM O X3) O (Xj0 (HG c) (On c) (KY c) (by unfold HG;omega) (by unfold On;omega) (by unfold KY;omega) (hV.mono (hJ.trans q)) _ a) ?_);rintro hv w ⟨J1,K,a⟩;obtain⟨S,U,rfl,am,_⟩:=a.vS 0;obtain⟨Z,t,u,a⟩:=a.fV 0;try dsimp only[List.eraseIdx]at a
 have m:=K.trans t;have z:(LJ (HG c) (On c) (KY c)).length=8:=by simp[LJ,oL,Vx]
 rw[<-z]at u;refine .nil ?_;clear l;have l:∃g R,Le n g/\Aa B w g R:=⟨_,_,m,a⟩
 refine⟨λ_ _=>l,?_⟩;refine .b1 5 O ?_;refine .call func199 O (AM O (AM O X3)) O (by have h:=Xit (LJ (HG c) (On c) (KY c)) (c.take 8) S H U 32 om (by rw[Yj];omega) u (Q.mono m) _ a;rw[z,C]at h;exact h) ?_;rintro _ w ⟨rfl,a⟩;refine .nil ?_;clear l;have l:∃g R,Le n g/\Aa B w g R:=⟨_,_,m,a⟩
 refine⟨λ_ _=>l,?_⟩;refine .tp 6 O (λw=>(.mo O)) (.CJ (i:=7) O kr kr kr kr l O O (λf w ⟨g,R,b,a⟩=>(by first|exact .fo 0 O ik O O Bg O|exact .fi 0 O ik O O Bg O)) O ?_);refine .CJ (i:=8) O kr kr kr kr l O O (λf w ⟨g,R,b,a⟩=>(.BG (v:=Ab (HG c)) (.gd f O) a (F.mono b) BP O)) O (.CJ (i:=9) O kr kr kr kr l O O (λf w ⟨g,R,b,a⟩=>(.rem (.gd f O) (.of O) (ot f) (ot f))) O ?_);refine .CJ (i:=10) O kr kr kr kr l O O (λf w ⟨g,R,b,a⟩=>(.mo O)) O (.CJ (i:=11) O kr kr kr kr l O O (λf w ⟨g,R,b,a⟩=>(.eql (.gd f O) (.gd f O))) O (.tp 12 O (λw=>(.pa O O O)) (.tp 13 O (λw=>(.mo O)) ?_)));refine .CJ (i:=14) O kr kr kr kr l O O (λf w ⟨g,R,b,a⟩=>(by first|exact .fo 2 O ik O O Bg O|exact .fi 2 O ik O O Bg O)) O ?_;refine .CJ (i:=15) O kr kr kr kr l O O (λf w ⟨g,R,b,a⟩=>(.BG (v:=Ab (KY c)) (.gd f O) a ((F.mono b).add 2) BP O)) O (.CJ (i:=16) O kr kr kr kr l O O (λf w ⟨g,R,b,a⟩=>(.mo O)) O ?_);refine .b1 17 O ?_;have G:=((((a.pick 2 O).pick 2 O).pick 2 O).pick 4 O);try dsimp only[List.eraseIdx]at G
 refine .AA (T:=λw=>Aa B w Z (Ad lg [ptr db 0,Ab L.gen,Ab L.AG,Ab L.used,us] 229::BA db kb (.slice sa L.d.Ae.length sc) pl L.d _)) O O O func201 O (λf=>(X4 (.gd f O) X3)) O (λf=>xj L lg db kb us _ pl D V.size _ G) G ?_;clear a G;intro w a;refine .nil ?_;clear l;have l:∃g R,Le n g/\Aa B w g R:=⟨_,_,m,a⟩
 refine⟨λ_ _=>l,?_⟩;refine .CJ (i:=18) O kr kr kr kr l O O (λf w ⟨g,R,b,a⟩=>(.leq (.gd f O) (.gd f O))) O (.tp 19 O (λw=>(.pa O O O)) ?_);refine .b1 20 O ?_
 first|refine .so a (k:=0) O O O O IM O sz ?_|refine .so a (k:=1) O O O O IM O sz ?_|refine .so a (k:=2) O O O O IM O sz ?_|refine .so a (k:=3) O O O O IM O sz ?_|refine .so a (k:=4) O O O O IM O sz ?_
 intro w a;try dsimp only[List.set]at a
 try simp only[Il,CS,Yx,Em,EW,o0,Yl]at a
 refine .nil ?_;clear l;have l:∃g R,Le n g/\Aa B w g R:=⟨_,_,m,a⟩
 refine⟨λ_ _=>l,?_⟩;refine .tp 21 O (λw=>(.ao O)) (.dn ?_);refine gG 0 ?_;rw[<-x];exact⟨Z,hJ.trans (q.trans m),O,a.s⟩
end Go.Proofs.W9
namespace Gk
open Go
def KR(r:Option Nat):Fence:={ Fence.wide with round:=r }
theorem V9{r:Option Nat}{args:Array Va}(h:Calls P f args w R):CallsIn (KR r) n P f args w R :=
 ⟨trivial,λcs _=>(callsIn_wide (n:=0).2 h).2 cs (room_wide _)⟩
theorem fH{r:Option Nat}{a:String}{args:Array Va}{R:Va->Wo->Prop}(h:Rows P a args w R):RowsIn (KR r) n P a args w R :=
 λc cs _=>let⟨v,w',b,d⟩:=h c cs;⟨v,w',b,stepsIn_wide.2 d⟩
section
variable {r:Option Nat} {P:Program} {n m:Nat} {ops:Array Oper} {Q Q':Exit->Act->Wo->Prop} {K:Bj} {L:AD} {w B:Wo} {I:Im} {N:La}
def cV(o:Oper):Bool:=match o.op with
 | .defer _=>false
 | _=>true
theorem Xpr{o:Oper}(h:cV o=true):∀c,o.op≠.defer c:=by
 intro c e;unfold cV at h;rw[e]at h;cases h
theorem ji{o:Oper}{a:Act}{k j:Act->Wo->Prop}(l:cV o=true)(i:¬ LetsOut Q)(g:∀c a w,Q (.panic c) a w->Q' (.panic c) a w)(d:∀a w,k a w->j a w)
  (h:o.wp P a w k Q\/(o.asks P a w/\LetsOut Q)):o.wpIn (KR r) m P a w j Q':=by
 rcases h with h|h
 ·refine⟨λ_ _=>trivial,?_⟩;rw[Oper.semAt_eq _ _ _ (Xpr l)];unfold Oper.wp at h;generalize (execOp a.eval o).run P w=f at h ⊢;cases f with
  | ok x w' =>
   cases x<;>simp only[Oper.upon,Oper.uponIn]at h ⊢<;>
    first
     | exact d _ _ h
     | exact⟨λh=>by simp[KR,Fence.wide]at h,CallsIn.mono (V9 h) (λe n b=>by cases e<;>first|exact d _ _ b|exact g _ _ _ b|exact Aw b i)⟩
     | exact⟨λh=>by simp[KR,Fence.wide]at h,RowsIn.mono (fH h) (λ_ _ b=>d _ _ b)⟩
     | exact h.elim
  | halt x w'=>cases x<;>simp only[Oper.upon,Oper.uponIn]at h ⊢<;>exact g _ _ _ h
 ·exact Aw h.2 i
theorem uq{rest:List Oper}(f:¬ LetsOut Q)(e:∀c a w,Q (.panic c) a w->Q' (.panic c) a w)(d:∀a w,Q .normal a w->wpListIn (KR r) m P ops Q' rest a w):
  ∀(pre:List Oper) (a:Act) (w:Wo),pre.all cV=true->wpList P ops Q pre a w->wpListIn (KR r) m P ops Q' (pre++rest) a w
 | [],a,w,_,h=>d a w h
 | o::pre,a,w,b,h=>by
  simp only[EX,Yb]at b
  unfold wpList at h;show wpListIn (KR r) m P ops Q' (o::(pre++rest)) a w
  unfold wpListIn
  by_cases g:Region.wanted o (yielded ops a.tmps)=true
  ·rw[Y7 g]at h ⊢;exact ji b.1 f e (λa w=>uq f e d pre a w b.2) h
  ·rw[Y3 g]at h ⊢;exact⟨λ_ _=>trivial,uq f e d pre _ _ b.2 h⟩
theorem tS(c:¬ LetsOut Q)(d:ops.all cV=true):∀(fuel:Nat) (Ac:Array Bool) (a:Act) (w:Wo),wpAny P .any ops Q fuel Ac a w->wpAnyIn (KR r) m P .any ops Q fuel Ac a w
 | 0,_,_,_,h=>h
 | fuel+1,Ac,a,w,h=>⟨h.1,λi hi=>by
  have b:=h.2 i hi;unfold wpOp at b;unfold wpOpIn;cases f:ops[i]? with
  | none=>rw[f]at b;exact tS c d fuel _ _ _ b
  | some o =>
   rw[f]at b;have e:cV o=true:=(Y5c.1 d) o (Array.mem_of_getElem? f);dsimp only at b ⊢
   by_cases g:Region.wanted o (yielded ops a.tmps)=true
   ·rw[Y7 g]at b ⊢;exact ji e c (λ_ _ _ h=>h) (λa w=>tS c d fuel _ a w) b
   ·rw[Y3 g]at b ⊢;exact⟨λ_ _=>trivial,tS c d fuel _ _ _ b⟩⟩
def WR(r:Option Nat)(P:Program)(n:Nat)(c:Code)(K:Bj)(L:AD)(w:Wo):Prop:=∀a,Aq n L a->c.wpIn (KR r) 0 P (K7 n K) a w
def II(r:Option Nat)(P:Program)(n:Nat)(ops:Array Oper)(K:Bj)(l:List Oper)(L:AD)(w:Wo):Prop:=∀a,Aq n L a->wpListIn (KR r) 0 P ops (K7 n K) l a w
theorem WC.ofR{c:Code}(h:WR none P n c K L w):WC P n c K L w:=λa b=>(wpIn_wide (n:=0)).1 (h a b)
theorem ql{c:Code}{F:Fence}{a:Act}(l:∀e a w,Q e a w->Q' e a w)(h:c.wpIn F m P Q a w):c.wpIn F m P Q' a w :=
 λb k cs g i j=>let⟨e,f,w',q,d⟩:=h b k cs g i j;⟨e,f,w',l _ _ _ q,d⟩
theorem WR.seq{x y:Code}(h:WR r P n x (FQ (λL w=>WR r P n y K L w) K) L w):WR r P n (.seq x y) K L w:=by
 intro a f;refine wpIn_seq (ql ?_ (h a f));rintro e d w' ⟨L',b,c⟩;cases e with
 | normal=>exact c d b
 | _=>exact⟨L',b,c⟩
theorem WR.block{f:Nat}{c:Code}(h:WR r P n c (Vr f K) L w):WR r P n (.block f c) K L w:=by
 intro a g;refine wpIn_block (ql ?_ (h a g));rintro e k w' ⟨L',d,b⟩;cases e with
 | exit i =>
  unfold Exit.inBlock;unfold Vr at b
  by_cases e:i=f
  ·subst e;simp only[if_true]
   simp at b
   exact⟨L',d,b⟩
  ·simp only[e,if_false]
   have j:=Ip e;exact⟨L',d,by simpa[j]using b⟩
 | _=>exact⟨L',d,b⟩
theorem WR.region{c:Nat}{l:List Oper}(h:II r P n l.toArray K l L w):WR r P n (.region c l.toArray false) K L w:=λa b=>wpIn_region_lit (h a b)
theorem II.nil(h:K .normal L w):II r P n ops K [] L w:=λa b=>⟨L,b,h⟩
theorem II.pre{pre rest:List Oper}(f:pre.all cV=true)(d:∀L w,¬ K .outgrown L w)(h:WL P n ops (FQ (λL w=>II r P n ops K rest L w) K) pre L w):II r P n ops K (pre++rest) L w:=λa e=>by
 have g:¬ LetsOut (K7 n (FQ (λL w=>II r P n ops K rest L w) K)):=λ⟨_,_,L',_,h⟩=>d L' _ h
 exact uq (Q':=K7 n K) g (λ_ _ _ h=>h) (λa w h=>by obtain⟨L',b,c⟩:=h;exact c a b) pre a w f (h a e)
theorem II.of{l:List Oper}(d:l.all cV=true)(b:∀L w,¬ K .outgrown L w)(h:WL P n ops K l L w):II r P n ops K l L w:=λa c=>by
 have e:¬ LetsOut (K7 n K):=λ⟨_,_,L',_,h⟩=>b L' _ h
 have:=uq (rest:=[]) (Q':=K7 n K) (r:=r) (m:=0) e (λ_ _ _ h=>h) (λa w h=>h) l a w d (h a c)
 rwa[Yx]at this
theorem WR.drawn(S:Wo->Prop)(nd:Nat->Bool){k:Nat}{l:List Oper}(i:P.follows .mixedOrders=true)(g:l.all cV=true)(h:WD P n l.toArray S nd K l.toArray.size (Array.replicate l.toArray.size false) L w.drew)(d:∀L w,¬ K .outgrown L w):WR r P n (.region k l.toArray true) K L w:=by
 intro a f;have j:¬ LetsOut (K7 n (MA K)):=λ⟨_,_,L',_,h⟩=>d L' _ h
 refine ql ?_ (wpIn_region_any i (tS j (su g) _ _ _ _ (wV _ _ _ _ (h a f))));rintro e a w ⟨L',c,b⟩;cases e<;>first|exact⟨L',c,b⟩|exact b.elim
theorem II.yield{lp d:Nat}{c:Operand}{xs:List Operand}{T:Wo->Prop}{g:Option (Nat×Bool)}(u:∀a,Aq n L a->Region.wanted ⟨some d,.call ⟨.value c,xs.toArray,ts⟩,ty,pos,af,g⟩ (yielded ops a.tmps)=true)
  (v:Ev n L c (.func (.yield lp) #[] #[])) (hx:∀a,Aq n L a->xs.map a.eval=vs) (s:Nat.blt d n=true)
  (b:YieldAt (KR r) 0 P lp vs.toArray w λe w'=>e=.returned v0/\T w')
  (h:∀w',T w'->II r P n ops K rest ((d,v0)::L) w'):II r P n ops K (⟨some d,.call ⟨.value c,xs.toArray,ts⟩,ty,pos,af,g⟩::rest) L w:=by
 intro a j;refine wpListIn_step λK' o=>?_
 rw[Y7 (u a j)];refine⟨λ_ _=>trivial,?_⟩;obtain⟨fn,i,assign,f,x,p⟩:=b;have t:(execOp a.eval ⟨some d,.call ⟨.value c,xs.toArray,ts⟩,ty,pos,af,g⟩).run P w=.ok (.round lp fn i assign f) w:=by
  have k:=v a j;have l:=hx a j;have m:Array.map a.eval xs.toArray=vs.toArray:=by rw[<-l];simp
  simp[execOp,resolve,k,m,Deferred.ofValue,invoke,x]
 rw[Oper.semAt_eq _ _ _ (by intro c h;cases h),t];refine⟨λh=>by simp[KR,Fence.wide]at h,p.mono ?_⟩;rintro e w' ⟨rfl,q⟩;exact o _ _ (h w' q _ (j.put s v0))
theorem Zt{lp p:Nat}{x:Va}{rc:Loop}{a0:Act}{L1:AD}{T:Im->La->Prop}(D:Aq n L a0)(Q:rc.tmps=a0.tmps)(m:a0.defers=[])(y:rc.params=#[p])(q:Nat.blt p n=true)(b:rc.state=.ready)(f:rc.pending=none)
  (v:Aa B w I (own lp (.loop rc)::N)) (H:∀w,WR (some lp) P n rc.assign (λe L' w'=>e=.normal/\L'=L1/\w'=w) ((p,x)::L) w)
  (K:∀w,Aa B w I (own lp (.loop { rc with state:=.busy })::N)->WR (some lp) P n rc.body (λe _ w'=>e=.normal/\∃J A5,T J A5/\Aa B w' J (own lp (.loop { rc with state:=.busy })::A5)) L1 w) :
  YieldAt (KR none) 0 P lp #[x] w λe w'=>e=.returned (.bool true)/\∃J A5,T J A5/\Aa B w' J (own lp (.loop rc)::A5):=by
 have g:=v.block (k:=0) O;refine⟨_,_,_,_,run_yield (P:=P) (args:=#[x]) g (by rw[y];rfl),roundIn_of_wpIn (F:=KR none) trivial ?_⟩;have r:(rc.params.zip #[x]).foldl (λtmps (t,a)=>tmps.setIfInBounds t a) rc.tmps=(a0.put (some p) x).tmps:=by rw[y,Q];simp[Act.put]
 have M:Aq n ((p,x)::L) ({ tmps:=(rc.params.zip #[x]).foldl (λtmps (t,a)=>tmps.setIfInBounds t a) rc.tmps,defers:=[] }:Act):=by
  have C:=D.put q x;have e:a0.put (some p) x={ tmps:=(rc.params.zip #[x]).foldl (λtmps (t,a)=>tmps.setIfInBounds t a) rc.tmps,defers:=[] }:=by
   rw[r]
   have:(a0.put (some p) x).defers=[]:=m
   rw[<-this]
  rw[<-e];exact C
 refine ql ?_ (H w _ M);rintro e z w1 ⟨L',h,rfl,rfl,rfl⟩;have i:=v.write (k:=0) O (o':=.loop { rc with state:=.busy }) (w':={ w1 with heap:=w1.heap.setIfInBounds lp (.loop { rc with state:=.busy }) }) O O O (by
  have o:lp<w1.heap.size:=(Ij.1 g).1;simp[kH,o]) (λc l=>by simp[qG (Ne.symm l)])
 refine⟨_,run_beginRound g b,?_⟩;refine ql ?_ (K _ i z h);rintro e S s ⟨R,E,rfl,J,A5,G,d⟩;have u:=d.block (k:=0) O;refine⟨_,_,run_endRound none u,O,J,A5,G,?_⟩;have A:({ { rc with state:=.busy } with state:=if(none:Option Code).isNone then .ready else .done,pending:=none }:Loop)=rc:=by
  cases rc;simp only at b f;subst b;subst f;rfl
 have j:=d.write (k:=0) O (o':=.loop rc) (w':={ s with heap:=s.heap.setIfInBounds lp (.loop rc) }) O O O (by
  have o:lp<s.heap.size:=(Ij.1 u).1;simp[kH,o]) (λc l=>by simp[qG (Ne.symm l)])
 rw[A];exact j
theorem WC.KC{q:Operand}{ps:Array Tmp}{assign body:Code}{cap:Lv}{T:Im->La->Prop}(hS:Aa B w I N)(hg:Ev n L q (.func (.func f) #[] cap.toArray))(hf:P.funcs[f]?=some fn)(y:Xc fn=true)(Y:dl L=[])
  (p:∀(l D:Nat) (j:Loop) (a:Act) (w':Wo),Aq n L a->a.defers=[]->j.tmps=a.tmps->j.params=ps->j.assign=assign->j.body=body->j.state=.ready->j.pending=none->Aa B w' I (own l (.loop j)::own D (.deferred (some []))::N)->Calls P f (.func (.yield l) #[] #[]::cap).toArray w' (AY λv W=>∃J A5,T J A5/\Aa B W J (own l (.loop j)::own D (.deferred (some []))::A5)))
  (h:∀D w' J A5,T J A5->Aa B w' J (own D (.deferred (some []))::A5)->K .normal ((DK,.map (some D))::L) w'):WC P n (.rangeFunc q ps assign body) K L w:=by
 intro a m b k cs;unfold Xc at y;simp only[Yb]at y
 obtain⟨c1,X⟩:=y;have M : ¬ fn.name = "runtime.NumGoroutine" := by simpa using c1
 have Q:¬ fn.body=none:=by intro e;rw[e]at X;cases X
 obtain⟨r0,d⟩:∃r:Loop,r={ state:=.ready,pending:=none,fn:=b.fn,tmps:=a.tmps,params:=ps,assign:=assign,body:=body,defers:=w.heap.size }:=⟨_,O⟩
 have C:r0.state=.ready:=by rw[d]
 have E:r0.pending=none:=by rw[d]
 have he:(Instr.enterLoop b.fn a.tmps ps assign body none).run P w=.ok (w.heap.size+1,[{ target:=.collected w.heap.size,args:=#[] }]) ((w.alloc (.deferred (some []))).alloc (.loop r0)):=by
  rw[d];unfold Instr.enterLoop;simp only[Sem.run_bind,run_newObj_alloc,Result.andThen,Sem.run_pure,World.size_alloc]
 have s:=(hS.alloc (.deferred (some []))).alloc (.loop r0);rw[World.size_alloc]at s;have F:∀(H:List Deferred) u,(resolve ({ tmps:=a.tmps,defers:=H }:Act).eval { callee:=.value q,args:=#[.const (.func (.yield (w.heap.size+1)) #[] #[])],argTypes:=#[] } 0).run P u =
   .ok { target:=.fn (.func f) cap.toArray,args:=#[.func (.yield (w.heap.size+1)) #[] #[]] } u:=λH u=>by
  have S:=hg a m;have U:({ tmps:=a.tmps,defers:=H }:Act).eval q=.func (.func f) #[] cap.toArray:=by
   rw[<-S];cases q<;>rfl
  have V:∀v,({ tmps:=a.tmps,defers:=H }:Act).eval (.const v)=v:=λv=>rfl
  simp[resolve,U,V,Deferred.ofValue]
 have A:∀u,(invoke (.fn (.func f) cap.toArray) #[.func (.yield (w.heap.size+1)) #[] #[]]).run P u=.ok (.enter f (.func (.yield (w.heap.size+1)) #[] #[]::cap).toArray) u:=λu=>by
  simp[invoke,callFunc,program,Sem.run,hf,M,Q]
 have h1:=Nk (P:=P) (cs:=cs) (k:=k) (b:=b) (a:=a) he (F _ _) (A _);obtain⟨e,G,fr,hR,g,al,i⟩:=p _ _ _ a _ m (m.defers.trans Y) (by rw[d]) (by rw[d]) (by rw[d]) (by rw[d]) C E s (b.at { a with defers:=[{ target:=.collected w.heap.size,args:=#[] }]++a.defers } (.inRangeFunc (w.heap.size+1)::k)::cs);obtain⟨v,rfl,J,A5,hT,x⟩:=hR;have hb:=x.block (k:=0) O;have z:(Instr.endLoop (w.heap.size+1)).run P G=.ok none { G with heap:=G.heap.setIfInBounds (w.heap.size+1) (.loop { r0 with state:=.exhausted }) }:=by
  have h9:=run_endLoop (P:=P) hb (by rw[C];intro h;cases h);refine h9.trans ?_;rw[E];rfl
 have R:=(x.write (k:=0) (b:=w.heap.size+1) O (o':=.loop { r0 with state:=.exhausted })
  (w':={ G with heap:=G.heap.setIfInBounds (w.heap.size+1) (.loop { r0 with state:=.exhausted }) }) O O O (PB hb)
  (λc y=>by simp[qG (Ne.symm y)])).drop (k:=0) O
 refine⟨.normal,{ a with defers:=[{ target:=.collected w.heap.size,args:=#[] }]++a.defers },_,⟨_,⟨m.size,m.small,?_,λt v S=>?_⟩,h _ _ _ _ hT R⟩,?_⟩
 ·have:=m.defers
  rw[Y]at this;simp[this,dl,A8]
 ·obtain⟨q1,q2⟩:=nV S;rw[A8,Ip (Ne.symm q1)]at q2;exact m.get t v (yR q1 q2)
 ·have o:(b.at { a with defers:=[{ target:=.collected w.heap.size,args:=#[] }]++a.defers } (.inRangeFunc (w.heap.size+1)::k)).finish v=b.at { a with defers:=[{ target:=.collected w.heap.size,args:=#[] }]++a.defers } (.endRangeFunc (w.heap.size+1)::k):=by
   simp[Frame.finish,Frame.at]
  have Z:=step_leave_returned (cs:=cs) (c:=b.at { a with defers:=[{ target:=.collected w.heap.size,args:=#[] }]++a.defers } (.inRangeFunc (w.heap.size+1)::k)) i;rw[o]at Z;have h3:=Xmi (P:=P) (b:=b) (a:={ a with defers:=[{ target:=.collected w.heap.size,args:=#[] }]++a.defers }) (k:=k) (cs:=cs) z;exact Steps.trans (.one h1) (Steps.trans g (Steps.trans (.one Z) (.one h3)))
theorem Tx{o:Oper}{a:Act}(b:Aq n L a){j t:Nat}(d:o.guard=some (j,want))(e:(ops[j]?).bind (·.dst)=some t)(c:look L t=some (.bool want)):Region.wanted o (yielded ops a.tmps)=true:=by
 have f:=nu b e c;simp[Region.wanted,d,f]
theorem WL.off{o:Oper}{d j t:Nat}{b:Bool}(m:o.guard=some (j,want))(c:o.dst=some d)(p:(ops[j]?).bind (·.dst)=some t)(k:look L t=some (.bool b))(f:(b==want)=false)(l:Nat.blt d n=true)
  (h:WL P n ops K rest ((d,undef)::L) w):WL P n ops K (o::rest) L w:=by
 intro a g;refine wpList_step λK' i=>?_
 have q:=nu g p k;have e:b≠want:=su f
 rw[Y3 (by simp[Region.wanted,m,q,e]),c];exact i _ _ (h _ (g.put l undef))
end
end Gk
namespace Go.Proofs.W9
open Gk Ul Pc Tk Tr Xm Rq
open Tryz
theorem Xzy:prog.info? 44=some t44:=by kernel_rfl
def gv(B:Wo)(lp D d f:Nat)(j:Loop):Prop:=∀(x:Lu) (g:Oa) (h n gd:Nat) (cs:Lv) (i:Va) (J:Im) (w:Wo) (c:La),x.length<=4000->n<=1000000->gd<=1000000->Aa B w J (own lp (.loop j)::own D (.deferred (some []))::Ad d [i] 142::Ad f [Ab ((gd:Nat):Int)] 3::Ao 44 1 i n cs::c)->
 YieldAt (KR none) 0 prog lp #[.slice g x.length h] w λe w'=>e=.returned (.bool true)/\∃b A5,(b=J/\∃a,A5=(own D (.deferred (some []))::Ad d [a] 142::Ad f [Ab ((gd+(x.length+6):Nat):Int)] 3::Ao 44 1 a (n+1) (cs++[.slice g x.length h])::c))/\Aa B w' b (own lp (.loop j)::A5)
theorem D4.app{xs:List Lu}(h:D4 I xs cs){x:Lu}(f:x.length<=c)(d:RS I a 1 x.length (Aj x)):D4 I (xs++[x]) (cs++[.slice a x.length c]):=by
 refine⟨by rw[Y0,Y0,h.1];rfl,λi y b=>?_⟩;rcases Yz i xs.length with hi|hi
 ·rw[Yf hi]at b;rw[Yf (by rw[h.1];exact hi)];exact h.2 i y b
 ·rw[Yy hi]at b;rw[Yy (by rw[h.1];exact hi),h.1];cases e:i-xs.length with
  | zero=>rw[e]at b;cases b;exact⟨a,c,O,f,d⟩
  | succ k=>rw[e]at b;simp at b
theorem RP(a:Oa)(m c:Nat)(N:La)(d:Aa B w I N):
  Cz 203 [.slice a m c] w λv w'=>∃b,v=.func (.func 290) #[] #[ptr b 0]/\Aa B w' I (Ad b [.slice a m c] 44::N):=by
 refine gG 4 ?_;intro b1 w d;exact⟨_,O,d⟩
theorem RN(lp D b1 M P:Nat)(S:Loop)(u:Va)(l:Lu)(a:Oa)(c:Nat)(hl:l.length<=1000000)(L:l.length<=c)(hV:AZ I)(hR:RS I a 1 l.length (Aj l))(al:gv B lp D M P S)(N:La)(e:Aa B w I (own lp (.loop S)::own D (.deferred (some []))::Ad M [u] 142::Ad P [Ab ((0:Nat):Int)] 3::Ao 44 1 u 0 []::Ad b1 [.slice a l.length c] 44::N)):
  Cz 290 [.func (.yield lp) #[] #[],ptr b1 0] w λv w'=>v=.tuple #[]/\∃J g cs,Le I J/\D4 J (Du (l.length+1) l []).1 cs/\Aa B w' J (own lp (.loop S)::own D (.deferred (some []))::Ad M [g] 142::Ad P [Ab (((Du (l.length+1) l []).2:Nat):Int)] 3::Ao 44 1 g (Du (l.length+1) l []).1.length cs::N):=by
 refine calls func290 O ntmps290 O (.seq (.region ?_));refine .val (.lo O e (k:=5) O KZ O) O (.call func291 O (AM O X3) O (Xfm l a c hl L hV hR _ e) ?_);rintro _ w ⟨J1,U,W,rfl,ai,z,H,E,e⟩;refine .q 1 O (.nil (.block ?_));have G:=e;clear e;refine .loop (σ:=Lu×Oa×Nat×List Lu×Lv×Va×Nat×Im×Oa×Nat) (λ(b,m,f,d,cs,g,gd,J,p,n)=>[(0,.func (.yield lp) #[] #[]),(1,ptr b1 0),(3,.slice p (BN b).length n)]) (λ(b,m,f,d,cs,g,gd,J,p,n) w=>b.length<=f/\gd+b.length=l.length/\d.length<=gd/\Du (l.length+1) l []=((Du (b.length+1) b d).1,gd+(Du (b.length+1) b d).2)/\Le I J/\RS J m 1 b.length (Aj b)/\D4 J d cs/\(BN b=[]->p=none/\n=0)/\(BN b).length<=n/\RS J p 1 (BN b).length (Aj (BN b))/\Aa B w J (own lp (.loop S)::own D (.deferred (some []))::Ad M [g] 142::Ad P [Ab ((gd:Nat):Int)] 3::Ao 44 1 g d.length cs::Ad b1 [.slice m b.length f] 44::N)) (λ(b,m,f,d,cs,g,gd,J,p,n)=>b.length) (l,a,c,[],[],u,0,J1,U,W) ⟨O,O,O,trivial⟩ ⟨L,Yl _,Y9 _,by rw[Yl],z,hR.mono z,⟨O,λi x h=>by simp at h⟩,λh=>by have h9:=ai h;injection h9 with Z h2 h3;exact⟨Z,h3⟩,H,E,G⟩ ?_;rintro⟨b,m,f,d,cs,g,gd,J,p,n⟩ w ⟨ae,a0,a3,s,hJ,ad,hX,ak,ah,C,e⟩;change WC _ _ _ _ [(0,.func (.yield lp) #[] #[]),(1,ptr b1 0),(3,.slice p (BN b).length n)] w;clear G;refine .seq (.seq ?_)
 by_cases y:BN b=[]
 ·obtain⟨rfl,rfl⟩:=ak y;refine .t 1 O ?_;rw[y];refine .val (.rZ (a:=none) (.of O) (.of O) BC) O (.q 1 O (.gm O O O O (.gm O O O O (.Am (v:=.bool false) O O (λh=>Aw h de) O (.val (.pa O O O) O (.nil (.Bt (rfl) (.exit (WA results290 ?_)))))))));refine⟨_,O,O,J,g,cs,hJ,?_,?_⟩
  ·rw[s,Xqi _ y];exact hX
  ·rw[s,Xqi _ y];exact((e.x [5,5,5,5,5,5])).drop (k:=5) O
 have aq:=nJ y;obtain⟨Y,rfl,az⟩:=C.2 om;refine .ofR (WR.region (II.pre (pre:=[_,_,_,_,_]) (rest:=[_,_]) O (λ_ _ h=>h) ?_));refine .q 1 O (.val (v:=.bool true) (.rZ (a:=some Y) (.of O) (.of O) BC) O (.q 1 O (.gm O O O O (.gm O O O O (.nil (II.yield (λa ha=>Tx ha O O O) (.of O) (AM O X3) O (al (BN b) (some Y) n d.length gd cs g J w _ om om om e) ?_))))));rintro w ⟨J9,ar,⟨A,am,rfl⟩,e⟩;rw[A]at e;clear A;refine II.pre (pre:=[_]) (rest:=[]) O (λ_ _ h=>h) (.val (.pa O O O) O (.nil (II.nil (.CU (rfl) (.skip (.seq (.block ?_)))))));obtain⟨T,af,r⟩:=Vi (lo:=(BN b).length+6) ad om (Y9 _) ae;have ag:sliced m (((BN b).length:Nat)+6:Int).toNat b.length f 1=.slice T (b.drop ((BN b).length+6)).length (f-((BN b).length+6)):=by
  rw[Y6,<-af];congr 1
 have e9:Aj (b.drop ((BN b).length+6))=((Aj b).take (b.length*1)).drop (((BN b).length+6)*1):=by rw[Ca,Yk (by simp[Aj])];simp[Aj]
 rw[<-e9,<-Y6]at r;refine .dw (λw=>∃R,Aa B w J (Ad b1 [.slice m b.length f] 44::R)) (λj=>!([5].contains j)) ?_;replace e:=e.drew;generalize w.drew=w at e ⊢;have Q:∃R,Aa B w J (Ad b1 [.slice m b.length f] 44::R):=⟨_,(e.x [5])⟩
 refine .tk 0 O Q (λw ⟨R,e⟩=>(.lo O e (k:=0) O KZ O)) (.tp 1 O (λw=>(.mo O)) (.tp 2 O (λw=>(.Bo (.of O) BC)) ?_));refine .b1 3 O (.call func204 O (AM O X3) O (pJ ((BN b).length:Nat) om om _ e) ?_);rintro _ w ⟨rfl,e⟩;refine .nil ?_;clear Q;have Q:∃R,Aa B w J (Ad b1 [.slice m b.length f] 44::R):=⟨_,(e.x [5])⟩
 refine⟨λ_ _=>Q,?_⟩;refine .tp 4 O (λw=>(.as (.CB (.of O) (.of O) om om BC Cw) ag)) (.b1 5 O (.s1 e (k:=5) O O O O FR sz ?_));intro w e;refine .nil ?_;refine And.intro (by intro h;cases h) ?_;refine .dn (.region ?_);refine .val (.lo O e (k:=5) O KZ O) O ?_;replace e:=e;refine .call func291 O (AM O X3) O (Xfm (b.drop ((BN b).length+6)) T (f-((BN b).length+6)) (by rw[Y6];omega) (by rw[Y6];omega) (hV.mono hJ) r _ e) ?_;rintro _ w ⟨J2,V,X,rfl,aj,o,K,F,e⟩;refine .q 1 O (.nil ?_);refine⟨(b.drop ((BN b).length+6),T,f-((BN b).length+6),d++[BN b],cs++[.slice (some Y) (BN b).length n],am,gd+((BN b).length+6),J2,V,X),⟨O,O,O,trivial⟩,⟨by rw[Y6];omega,by rw[Y6];omega,by rw[Y0];simp only[Y4,Yi];omega,?_,hJ.trans o,r.mono o,(hX.mono o).app ah (C.mono o),λh=>by have h9:=aj h;injection h9 with Z h2 h3;exact⟨Z,h3⟩,K,F,?_⟩,by(try dsimp only);rw[Y6];omega⟩
 ·(try dsimp only)
  rw[s,S7 d y];simp only[Prod.mk.injEq,true_and]
  omega
 ·(try dsimp only)
  rw[Y0];exact(e.x [5,5,5,5,5,5])
theorem Xuv(l:Lu)(a:Oa)(c:Nat)(hl:l.length<=1000000)(C:l.length<=c)(W:AZ I)(U:RS I a 1 l.length (Aj l))(N:La)(b:Aa B w I N):
  Cz 110 [.slice a l.length c] w λv w'=>∃J d cs,v=.tuple #[d,Ab ((Du (l.length+1) l []).2:Nat)]/\Le I J/\D4 J (Du (l.length+1) l []).1 cs/\Aa B w' J (Ao 44 1 d (Du (l.length+1) l []).1.length cs::N):=by
 refine lr func110 O ntmps110 O (.seq (.q 2 O (.seq (.region (.L0 b zeroValue142 O O ?_)))));intro g w b;refine .nil (.seq (.region (.L0 b N5 O O ?_)));intro f w b;refine .s1 b (k:=0) O O O O Bg sz ?_;intro w b;refine .nil (.seq (.seq (.t 1 O (.call func203 O (AM O X3) O (RP a l.length c _ b) ?_))));rintro _ w ⟨S,rfl,b⟩;refine .nil (.block ?_);replace b:=(((b.pick 1 O).pick 2 O)).Al 44 1;refine .KC (T:=λJ A5=>∃d cs,Le I J/\D4 J (Du (l.length+1) l []).1 cs/\A5=(Ad g [d] 142::Ad f [Ab (((Du (l.length+1) l []).2:Nat):Int)] 3::Ao 44 1 d (Du (l.length+1) l []).1.length cs::N)) b (.of O) func290 O O (λlp D rc a0 w X A K E u y H F b=>?_) (λD w J A5 V b=>?_)
 ·have G:gv B lp D g f rc:=by
   intro x M P n gd cs d J w Rs hx hn Z b;refine Zt (L:=[(4,ptr g 0),(5,ptr f 0)]) (L1:=[(6,.slice M x.length P),(9,.slice M x.length P),(4,ptr g 0),(5,ptr f 0)]) (X.sub ⟨O,O,trivial⟩) K A E O H F b (λw=>?_) (λw b=>?_)
   ·rw[u];exact WR.region (II.of O (λ_ _ h=>nomatch h.1) (.q 1 O (.nil ⟨O,O,O⟩)))
   rw[y]at b ⊢;refine WR.block (WR.seq (WR.region (II.of O (λ_ _ h=>nomatch h.1) ?_)));refine .val (.lo O b (k:=2) O isAgg142 O) O (.q 1 O (.buildSlice b (Lb O U_) jZ FR UY O O O O ?_));intro Q w b;refine .append (bytes:=24) b (.of O) (.of O) (k:=4) O jZ Xzy O O O O O O O ⟨om,by unfold maxLen;omega⟩ O ?_;intro ab w b;obtain⟨o,p,rfl,m,_⟩:=b.vS 4;refine .s1 b (k:=2) O O O O sizeOf142 sz ?_;intro w b;refine .nil (WR.drawn (λw=>∃R,Aa B w J (Ad f [Ab ((gd:Nat):Int)] 3::R)) (λj=>!([5].contains j)) kr O ?_ (λ_ _ h=>nomatch h.1));replace b:=b.drew;generalize w.drew=w at b ⊢;have i:∃R,Aa B w J (Ad f [Ab ((gd:Nat):Int)] 3::R):=⟨_,(b.x [3])⟩
   refine .tk 0 O i (λw ⟨R,b⟩=>(.lo O b (k:=0) O BP O)) (.tp 1 O (λw=>(.mo O)) (.tp 2 O (λw=>(.Bo (.of O) BC)) ?_));refine .b1 3 O (.call func204 O (AM O X3) O (pJ (x.length:Nat) om om _ b) ?_);rintro _ w ⟨rfl,b⟩;refine .nil ?_;clear i;have i:∃R,Aa B w J (Ad f [Ab ((gd:Nat):Int)] 3::R):=⟨_,(b.x [3])⟩
   refine⟨λ_ _=>i,?_⟩;refine .tp 4 O (λw=>(.add (.of O) (.of O) ⟨om,om⟩)) (.b1 5 O (.s1 b (k:=3) O O O O Bg sz ?_));intro w b;refine .nil ?_;refine And.intro (by intro h;cases h) ?_;refine .dn ?_;rw[show((gd:Int)+((x.length:Int)+6))=((gd+(x.length+6):Nat):Int)by omega]at b;exact⟨O,J,_,⟨O,.slice o (n+1) p,O⟩,(b.x [4,4,4,4,4])⟩
  have b:=((((((b.pick 5 O).pick 3 O).pick 5 O).pick 5 O).pick 5 O).pick 5 O)
  exact(RN lp D S g f rc _ l a c hl C W U G N b).mono λe w1 ⟨v,Y,hv,J,d,cs,r,s,b⟩=>⟨v,Y,J,_,⟨d,cs,r,s,O⟩,b⟩
 obtain⟨d,cs,r,s,rfl⟩:=V;refine .seq (.qt b (.val (λw b=>(by exact(.lo O b (k:=1) O isAgg142 O))) O ?_));refine .val (λw b=>(by exact(.lo O b (k:=2) O BP O))) O ?_;refine .val (λw b=>(.ao O)) O (.val (λw b=>(.ao O)) O (.nil ?_));intro w b;refine .ret (rW results110 b (k:=0) O O O O (λw b=>?_));exact⟨_,O,J,d,cs,O,r,s,(b.z [2] 1 2)⟩
theorem Xph(L:Lg)(lg db kb:Nat)(us sv pl:Va)(l:L.data.length<=1000000)(j:AZ I)(i:Bh I us L.data)(N:La)(e:Aa B w I (Ad lg [ptr db 0,Ab L.gen,Ab L.AG,Ab L.used,us] 229::BA db kb sv pl L.d N)):
  Cz 58 [ptr lg 0] w λv w'=>∃J a cs,v=a/\Le I J/\D4 J (Du (L.data.length+1) L.data []).1 cs/\Aa B w' J (Ao 44 1 a (Du (L.data.length+1) L.data []).1.length cs::Ad lg [ptr db 0,Ab L.gen,Ab L.AG,Ab L.used,us] 229::BA db kb sv pl L.d N):=by
 obtain⟨f,g,rfl,c,b⟩:=id i;refine gF 5 (Xuv _ f g l c j b) ?_;rintro _ w ⟨J,a,cs,rfl,h,k,e⟩;exact gG 7 ⟨J,a,cs,O,h,k,e.s⟩
def vx(d:Dk)(i:Int)(h:Int×Int×Int):Int×Int×Int:=if(rOk d i (LM d i)&&decide (h.1<=HG (LM d i)))=true then(HG (LM d i),On (LM d i),KY (LM d i))else h
def B3(d:Dk):Nat->Int×Int×Int
 | 0=>(0,0,0)
 | k+1=>vx d (k:Nat) (B3 d k)
def QO(d:Dk)(a:Int):Nat->List UInt8
 | 0=>[]
 | k+1=>QO d a k++LM d (bG d a (k:Nat))
def TT(d:Dk):Lu:=(QO d (B3 d 2).2.1 (Ee d).toNat).take (B3 d 2).2.2.toNat
def CG(d:Dk):Nat×Lg:=if d.kept.length<4 then(1,⟨d,0,0,0,[]⟩)else if((Du ((TT d).length+1) (TT d) []).2:Int)≠(B3 d 2).2.2 then(20,⟨d,0,0,0,[]⟩)else(0,⟨d,(B3 d 2).1,(B3 d 2).2.1,(B3 d 2).2.2,TT d⟩)
theorem SV(b:Lu):(0<=HG b/\HG b<262144)/\(On b=0\/On b=1)/\0<=KY b/\KY b<8192:=by
 have a:=En (b.getD 4 0);have c:=En (b.getD 5 0);have d:=En (b.getD 6 0);have e:=En (b.getD 7 0);have f:(Iz b:Int)<4294967296:=by unfold Iz;omega
 unfold HG On KY;omega
theorem uJ(d:Dk)(b:32<=Ga d):∀k,(0<=(B3 d k).1/\(B3 d k).1<262144)/\((B3 d k).2.1=0\/(B3 d k).2.1=1)/\0<=(B3 d k).2.2/\(B3 d k).2.2<=Ga d
 | 0=>⟨⟨vr _,show(0:Int)<262144 by decide⟩,.inl O,vr _,by show(0:Int)<=_;omega⟩
 | k+1=>by
  unfold B3 vx;split
  ·rename_i h
   have a:=SV (LM d (k:Nat));simp only[rOk,Yb,decide_eq_true_eq]at h
   exact⟨a.1,a.2.1,a.2.2.1,h.1.2⟩
  ·exact uJ d b k
theorem XG{d:Dk}(h:4<=d.kept.length)(hi:i<2):Ml d (i:Nat)=true:=by unfold Ml;simp;omega
theorem s5{d:Dk}(h:4<=d.kept.length){a:Int}(b:a=0\/a=1)(hi:(i:Int)<Ee d):Ml d (bG d a (i:Nat))=true:=by
 unfold Ml bG;unfold Ee at hi ⊢;simp only[Yb,decide_eq_true_eq]
 rcases b with rfl|rfl<;>omega
theorem sY{d:Dk}(c:Ct d)(h:4<=d.kept.length){a:Int}(b:a=0\/a=1):∀k:Nat,(k:Int)<=Ee d->(QO d a k).length=32*k
 | 0,_=>rfl
 | k+1,e=>by
  rw[QO,Y0,sY c h b k om,td c (s5 h b om)];omega
theorem Xva{d:Dk}(a:Ct d)(h:4<=d.kept.length):((TT d).length:Int)=(B3 d 2).2.2:=by
 have c:=gZ a h;have b:=uJ d c.1 2;unfold TT;rw[Yj,sY a h b.2.1 _ (by unfold Ee;omega)];unfold Ga at b;omega
theorem Xwz{d:Dk}(c:Ct d)(g:d.Ae.length<=600)(b:d.off=true\/d.Ae=[])(a:(CG d).1=0):Q5 (CG d).2:=by
 unfold CG at a ⊢;split
 ·rename_i h;rw[Y7 h]at a;cases a
 ·rename_i h
  rw[Y3 h]at a;have f:4<=d.kept.length:=om
  have j:=gZ c f;have e:=uJ d j.1 2;split
  ·rename_i i;rw[Y7 i]at a;cases a
  ·exact⟨c,f,e.1,e.2.1,(Xva c f).symm,e.2.2.2,g,b⟩
theorem Sb(d:Dk)(db kb:Nat)(sv pl:Va)(h:Ct d)(L:d.Ae.length<=1000000)(hV:AZ I)(N:La)(a:Aa B w I (BA db kb sv pl d N)):
  Cz 57 [ptr db 0] w λv w'=>∃J,Le I J/\((CG d).1≠0/\v=.tuple #[.pointer none,Ab ((CG d).1:Nat)]/\Aa B w' J (BA db kb sv pl d N)\/(CG d).1=0/\∃lg us,v=.tuple #[ptr lg 0,Ab 0]/\Bh J us (CG d).2.data/\Aa B w' J (Ad lg [ptr db 0,Ab (CG d).2.gen,Ab (CG d).2.AG,Ab (CG d).2.used,us] 229::BA db kb sv pl d N)):=by
 obtain⟨sa,sc,rfl,ao,_⟩:=a.vS 2;have M:=h.size;refine gP 3 [2,2,2] (Xv9 d db kb _ pl _) ?_;rintro _ w ⟨rfl,a⟩;refine gN 1 ?_ ?_<;>intro m
 ·refine gG 2 ?_;have e:CG d=(1,⟨d,0,0,0,[]⟩):=by unfold CG;exact Y7 (oh m)
  rw[e];exact⟨I,Le.refl _,.inl ⟨oX _,O,a.s⟩⟩
 have b:4<=d.kept.length:=by have P:=m;omega
 have D:=gZ h b;refine gG 5 ?_;intro b16 w a;obtain⟨lg,rfl⟩:∃lg,lg=b16:=⟨_,O⟩
 have c:=((((a.pick 3 O).pick 3 O).pick 3 O).pick 3 O);clear a;refine .lk [0,4] (σ:=Nat×Int×Int×Int×Im) (λ(i,r,q,u,J) _m=>(17,Ab (i:Nat))::_m) (λ(i,r,q,u,J) w=>i<=2/\(r,q,u)=B3 d i/\Le I J/\Aa B w J (Ad lg [ptr db 0,Ab r,Ab q,Ab u,(.slice none 0 0)] 229::BA db kb (.slice sa d.Ae.length sc) pl d N)) (λ(i,r,q,u,J)=>2-i) (0,0,0,0,I) ⟨Y5 _,O,Le.refl _,c⟩ ?_;rintro⟨i,r,q,u,J⟩ w ⟨hi,X,g,a⟩;clear c;refine gN 1 ?_ ?_<;>intro n
 ·have Y:i<2:=by have P:=n;omega
  refine gP 4 [3,3,3,3] (Se ⟨d,r,q,u,[]⟩ lg db kb (.slice none 0 0) _ pl (i:Nat) (XG b Y) (hV.mono g) h b L _) ?_;rintro _ w ⟨J2,F,rfl,a⟩;refine gG 6 ?_;intro b6 w a;refine gQ ?_;intro w a;refine gM 11 ?_ ?_<;>intro l af
  ·refine gG 7 ?_;intro w a;refine Br (_,_,_,_,_) O ⟨od,?_,g.trans F,(a.z [4,4,4,4] 4 1)⟩
   (try dsimp only);rw[B3,<-X];unfold vx;exact(Y7 l).symm
  refine gG 2 (Br (_,_,_,u,_) O ⟨od,?_,g.trans F,(a.z [4,4,4,4] 4 1)⟩)
  (try dsimp only);rw[B3,<-X];unfold vx;exact(Y3 (nB l)).symm
 refine gG 0 ?_;obtain rfl:i=2:=by have P:=n;omega
 obtain⟨rfl,rfl,rfl⟩:r=(B3 d 2).1/\q=(B3 d 2).2.1/\u=(B3 d 2).2.2:=by rw[<-X];exact⟨O,O,O⟩
 have H:=uJ d D.1 2;have f:=H.2.1;have ak:=Xva h b;have am:Ga d=Ee d*32:=rfl;refine gP 1 [3,3,3,3] (xk ⟨d,(B3 d 2).1,(B3 d 2).2.1,(B3 d 2).2.2,[]⟩ lg db kb (.slice none 0 0) _ pl b M _) ?_;rintro _ w ⟨rfl,a⟩;refine gG 1 ?_;have c:=((((a.pick 3 O).pick 3 O).pick 3 O).pick 3 O);clear a;replace c:=c.Al 5 1;have G:=((((c.pick 4 O).pick 4 O).pick 4 O).pick 4 O);clear c;refine .loop (σ:=Nat×Va×Im) (λ(i,E,J)=>[(0,ptr db 0),(4,ptr lg 0),(43,Ab (Ee d)),(44,Ab (i:Nat))]) (λ(i,E,J) w=>(i:Int)<=Ee d/\Le I J/\Aa B w J (Ad lg [ptr db 0,Ab (B3 d 2).1,Ab (B3 d 2).2.1,Ab (B3 d 2).2.2,E] 229::BA db kb (.slice sa d.Ae.length sc) pl d (Ao 5 1 E (QO d (B3 d 2).2.1 i).length (Aj (QO d (B3 d 2).2.1 i))::N))) (λ(i,E,J)=>(Ee d).toNat-i) (0,.slice none 0 0,J) ⟨O,O,O,O,trivial⟩ ⟨by unfold Ee;omega,g,G⟩ ?_;rintro⟨i,E,J⟩ w ⟨hi,g,a⟩;clear G;refine gN 1 ?_ ?_<;>intro o
 ·refine gG 2 ?_;have C:(i:Int)<Ee d:=by have P:=o;omega
  have an:Ee d<=255:=by unfold Ee;omega
  have T:=sY h b f i hi;have K:=td h (s5 b f C);refine gD [0] [18] [0,1,2,3,4,5,6,7,8,9,10,11,12,13,14,15,16,17,18] ?_;intro w a;refine gP 13 [3,3,3,3] (Xj6 ⟨d,(B3 d 2).1,(B3 d 2).2.1,(B3 d 2).2.2,[]⟩ lg db kb E _ pl (B3 d 2).2.1 (i:Nat) f om b M _) ?_;rintro _ w ⟨rfl,a⟩;refine gF 0 (Xof d db kb sa sc pl (bG d (B3 d 2).2.1 (i:Nat)) h (s5 b f C) L) ?_;rintro _ w ⟨ah,rfl,a⟩;refine gH 0 (AN.e (.append (size:=1) (bytes:=1) a (.of O) (.of O) (k:=4) O BC Xt O O O O (by simp[Aj,K]) O (H7 _) ⟨om,by unfold maxLen;omega⟩ O ?_));intro ac w a;try dsimp only[List.set]at a
  obtain⟨ag,ai,rfl,Q,_⟩:=a.AP (k:=4) (v:=ac) O;refine gH 3 ?_;intro w a;refine gG 2 ?_;rw[show Aj (QO d (B3 d 2).2.1 i)++Aj (LM d (bG d (B3 d 2).2.1 (i:Nat)))=Aj (QO d (B3 d 2).2.1 (i+1)) from Yn.symm,show(QO d (B3 d 2).2.1 i).length+32=(QO d (B3 d 2).2.1 (i+1)).length by rw[QO,Y0,td h (s5 b f C)]]at a;refine Br (_,_,J) O ⟨od,g,(a.x [4,3,3,3,4])⟩
 refine gG 0 ?_;have al:(i:Int)=Ee d:=by have P:=o;omega
 obtain⟨va,vc,rfl,Z,_⟩:=a.vS 4;obtain⟨J4,y,S,a⟩:=a.fV 4;try dsimp only[List.eraseIdx]at a
 have T:=sY h b f i hi;obtain⟨R,V,A⟩:=Vi (lo:=0) (hi:=(B3 d 2).2.2.toNat) S (Y5 _) (by unfold Ga at H;omega) Z;have U:TT d=(QO d (B3 d 2).2.1 i).take (B3 d 2).2.2.toNat:=by unfold TT;congr 2;omega
 have W:sliced va 0 (B3 d 2).2.2.toNat vc 1=.slice R (TT d).length vc:=by rw[V];congr 1;omega
 have e9:Aj (TT d)=((Aj (QO d (B3 d 2).2.1 i)).take ((B3 d 2).2.2.toNat*1)).drop (0*1):=by rw[U];unfold Aj;rw[ct];simp
 rw[<-e9,show(B3 d 2).2.2.toNat-0=(TT d).length by omega]at A;refine gD [0] [13] [0,1,2,3,4,5,6,7,8,9,10,11,12,13] ?_;intro w a;refine gH 10 (AN.j 10 (λw=>(.as (.Fq (.of O) (.of O) om om BC Cw) W)) (gH 3 ?_));intro w a;refine gF 4 (Xuv (TT d) R vc om om ((hV.mono g).mono y) A) ?_;rintro _ w ⟨J3,ap,cs,rfl,t,hX,a⟩;refine gN 12 ?_ ?_<;>intro p
 ·refine gG 2 ?_;have e:CG d=(20,⟨d,0,0,0,[]⟩):=by unfold CG;rw[Y3 om];exact Y7 (oh p)
  rw[e];exact⟨J3,g.trans (y.trans t),.inl ⟨oX _,O,a.s⟩⟩
 refine gG 3 ?_;have e:CG d=(0,⟨d,(B3 d 2).1,(B3 d 2).2.1,(B3 d 2).2.2,TT d⟩):=by unfold CG;rw[Y3 om];exact Y3 (oh p)
 rw[e];exact⟨J3,g.trans (y.trans t),.inr ⟨O,lg,_,O,⟨R,vc,O,od,A.mono t⟩,a.s⟩⟩
end Go.Proofs.W9
namespace Gk
open Go Go.ChangeMaps
abbrev CK:=Lu×Lu
def FF:Value->List UInt8
 | .string b=>b.data.toList
 | _=>[]
theorem ie(l:Lu):FF (S l)=l:=by simp[FF]
def Dn(e:MapEntry):CK:=(FF e.key,FF e.val)
def Lx(a:Array MapEntry):Prop:=∀e∈a.toList,e.key=S (Dn e).1/\e.val=S (Dn e).2
def jn(b:Array MapEntry)(a:Nat):Prop:=(∀e∈b.toList,e.born<a)/\(b.toList.map (·.born)).Nodup
def zZ(b:Nat)(V:List CK):X1:=λh=>∃c a,Lx c/\(c.toList.map Dn).Perm V/\jn c a/\h=[(b,.map c a)]
def Cq(v:Va)(V:List CK):X1:=λh=>(v=.map none/\V=[]/\h=[])\/∃b,v=.map (some b)/\zZ b V h
def aY(v:Va)(r:Nat)(V d:List CK)(last:Option CK):X1:=λh=>(v=.map none/\V=[]/\d=[]/\last=none/\h=[(r,.mapIter none 0 #[] 0)])\/
 ∃b f c a seen c0,v=.map (some b)/\Lx f/\(f.toList.map Dn).Perm V/\jn f c/\(∀e∈f.toList,e.born<a)/\(a<=c0/\a<=c)/\((leftOf f seen).toList.map Dn).Perm d/\
  (∀p,last=some p->∃(e:MapEntry) (g:Array Nat),e∈f.toList/\Dn e=p/\seen=g.push e.born/\c0=c)/\h=[(b,.map f c),(r,.mapIter (some b) a seen c0)]
section
variable {P:Program} {n:Nat} {K':Bj} {L:AD} {w B:Wo} {ops:Array Oper} {rest:List Oper} {I:Im} {N:La} {V V':List CK} {k b:Nat} {t t' kt et ty:TypeId} {x y z:Operand} {pos:String} {af:Array Edge} {d:Nat} {g:Option (Nat×Bool)} {v:Va}
theorem Md(key:Lu):∀(a:List MapEntry) (i:Nat),(∀e∈a,e.key=S (Dn e).1)->
  (key ∉ (a.map Dn).map Prod.fst/\Instr.findNow .string (S key) a i=some none)\/∃j e,a[j]?=some e/\(Dn e).1=key/\Instr.findNow .string (S key) a i=some (some (i+j,e.val))
 | [],_,_=>.inl ⟨by simp,O⟩
 | e::a,i,h=>by
  have d:=h e sz;have n:MapKept.IsKey .string e.key:=d▸CW.is _;obtain⟨r,g,hi⟩:=MapKept.sameNow_of_keys (CW.is key) n;cases r with
  | true =>
   have b:key=(Dn e).1:=CW.inj _ _ ((hi.1 O).trans d);exact .inr ⟨0,e,O,b.symm,by simp[Instr.findNow,g]⟩
  | false =>
   have f:key≠(Dn e).1:=λq=>by have:=hi.2 (by rw[d,q]);cases this
   rcases Md key a (i+1) (λe m=>h e (by simp[m]))with⟨b,c⟩|⟨j,k,b,c,l⟩
   ·refine .inl ⟨?_,by simp[Instr.findNow,g,c]⟩;simp only[Yw,Ys,not_or]
    exact⟨f,b⟩
   ·exact .inr ⟨j+1,k,su b,c,by simp[Instr.findNow,g,l];omega⟩
theorem wF{l:List CK}(h:key ∉ l.map Prod.fst):l.filter (λp=>p.1 !=key)=l :=
 oS.2 λp a=>by
  have:p.1≠key:=λe=>h (e▸iK a)
  simpa using this
theorem Xop{l:List CK}{j:Nat}{p:CK}(i:(l.map Prod.fst).Nodup)(g:l[j]?=some p)(k:p.1=key):l.filter (λp=>p.1 !=key)=l.eraseIdx j:=by
 have h:=filter_eq_eraseIdx (λq:CK=>q.1==key) l j p g (su k) (by
  have d:l.Pairwise (λa b=>a.1≠b.1):=zz.1 i;exact d.imp λc ⟨e,f⟩=>c (by rw[eq_of_beq e,eq_of_beq f]))
 rw[<-h];rfl
theorem WL.l_(i:Aa B w I N)(j:Nat.blt d n=true)(h:∀b w',Aa B w' I (Cq (.map (some b)) []::N)->WL P n ops K' rest ((d,.map (some b))::L) w'):WL P n ops K' (⟨some d,.makeMap t none,ty,pos,af,none⟩::rest) L w:=by
 have f:Aa B (w.alloc (.map #[] 0)) I (Cq (.map (some w.heap.size)) []::N):=(i.alloc (.map #[] 0)).say (k:=0) O λg l=>.inr ⟨_,O,#[],0,by intro e c;simp at c,List.Perm.refl _,⟨by intro e c;simp at c,by simp⟩,l⟩
 refine .val (λa o=>?_) j (h _ _ f);have m:=run_makeMap_plain (P:=P) w t;simp[execOp,m]
theorem Aa.Ix(y:Aa B w I N)(s:N[k]?=some (Cq (.map (some b)) V)):∃f e,Lx f/\(f.toList.map Dn).Perm V/\jn f e/\w.heap[b]?=some (.map f e)/\
  ∀d a l,Lx d->(d.toList.map Dn).Perm l->jn d a->Aa B { w with heap:=w.heap.setIfInBounds b (.map d a) } I (N.set k (Cq (.map (some b)) l)):=by
 have i:k<N.length:=(Y1.1 s).1;obtain⟨⟨⟨f,e⟩,m,n,p⟩,j⟩:=y.opened (X:={ x:Array MapEntry×Nat // Lx x.1/\(x.1.toList.map Dn).Perm V/\jn x.1 x.2 }) (T:=λx=>own b (.map x.1.1 x.1.2)) s λg r=>by
  rcases r with⟨h,_⟩|⟨E,h,f,e,m,n,p,rfl⟩
  ·cases h
  ·cases h;exact⟨⟨(f,e),m,n,p⟩,O⟩
 have q:w.heap[b]?=some (.map f e):=j.block (k:=k) (by simp[i]);refine⟨f,e,m,n,p,q,λd a l t u v=>?_⟩;have D:=j.write (k:=k) (o:=.map f e) (w':={ w with heap:=w.heap.setIfInBounds b (.map d a) }) (o':=.map d a) (by simp[i]) O O O (MapKept.heap_set q).1 (λc z=>(MapKept.heap_set q).2 c z);have C:=D.say (k:=k) (A:=own b (.map d a)) (A':=Cq (.map (some b)) l) (by simp[i]) λg r=>.inr ⟨b,O,d,a,t,u,v,r⟩
 simpa using C
theorem YG{val:Lu}(U:Aa B w I N)(X:N[k]?=some (Cq (.map (some b)) V))(hn:(V.map Prod.fst).Nodup)(G:V'.Perm ((key,val)::V.filter λp=>p.1 !=key))(H:P.underlying t=some (.map kt et))(l:P.underlying kt=some .string):
  ∃w',(Instr.mapUpdate t (.map (some b)) (S key) (S val)).run P w=.ok () w'/\Aa B w' I (N.set k (Cq (.map (some b)) V')):=by
 obtain⟨f,h,u,v,m,x,s⟩:=U.Ix X;have y:(Instr.checkKey false 10000 kt (S key)).run P w=.ok () w:=MapKept.run_checkKey l (CW.is key) _ 9999;have D:((f.toList.map Dn).map Prod.fst).Nodup:=(v.map Prod.fst).nodup_iff.2 hn;rcases Md key f.toList 0 (λe d=>(u e d).1)with⟨E,z⟩|⟨j,e,n,r,z⟩
 ·refine⟨_,?_,s (f.push { key:=S key,val:=S val,born:=h }) (h+1) V' ?_ ?_ ?_⟩
  ·simp[Instr.mapUpdate,run_underlying H,MapKept.run_getObj_map x,y,MapKept.run_findKey l z,MapKept.run_setObj_map _ x,Result.andThen]
  ·intro e d;rw[oT]at d;rcases Yt.1 d with d|d
   ·exact u e d
   ·simp at d;subst d;exact⟨by show S key=S (FF (S key));rw[ie],by show S val=S (FF (S val));rw[ie]⟩
  ·rw[oT,Yn];refine List.Perm.trans ?_ G.symm;have J:V.filter (λp=>p.1 !=key)=V:=wF λZ=>E ((v.map Prod.fst).mem_iff.2 Z)
   rw[J];show((f.toList.map Dn)++[(FF (S key),FF (S val))]).Perm _
   rw[ie,ie];exact(List.perm_append_singleton _ _).trans (v.cons _)
  ·refine⟨λe d=>?_,?_⟩
   ·rw[oT]at d;rcases Yt.1 d with d|d
    ·have:=m.1 e d;omega
    ·simp at d;subst d;exact Nat.lt_succ_self _
   ·rw[oT,Yn,zy];refine⟨m.2,by simp,λa W c y=>?_⟩;simp at y
    obtain⟨e,d,rfl⟩:=Dj.1 W
    have:=m.1 e d;omega
 ·rw[Yl]at z;have q:j<f.size:=by have:=(Y1.1 n).1;simpa using this
  have o:f[j]?=some e:=by rw[<-iH];exact n
  have C:e.key=S key:=by rw[(u e (Y8 n)).1,r]
  have g:(f.modify j λe=>{ e with key:=S key,val:=S val }).toList=f.toList.set j { e with key:=S key,val:=S val }:=by
   refine OD λi=>?_
   rw[iH,qM,oU]
   by_cases hi:j=i
   ·subst hi;rw[Y7 O,Y7 O,Y7 (su q),o];rfl
   ·rw[Y3 hi,Y3 hi,iH]
  refine⟨_,?_,s (f.modify j λe=>{ e with key:=S key,val:=S val }) h V' ?_ ?_ ?_⟩
  ·have F:Instr.sameBits 10000 (S key) (S key)=true:=by show((⟨key.toArray⟩:ByteArray)==⟨key.toArray⟩)=true;exact beq_self_eq_true (α:=Array Ui) _
   simp[Instr.mapUpdate,run_underlying H,MapKept.run_getObj_map x,y,MapKept.run_findKey l z,MapKept.run_setObj_map _ x,Result.andThen,o,Instr.keyThatStays,C,F]
  ·intro A d;rw[g]at d;rcases oO d with d|d
   ·exact u A d
   ·subst d;exact⟨by show S key=S (FF (S key));rw[ie],by show S val=S (FF (S val));rw[ie]⟩
  ·rw[g,vo];refine List.Perm.trans ?_ G.symm;show((f.toList.map Dn).set j (FF (S key),FF (S val))).Perm _
   rw[ie,ie];have K:(f.toList.map Dn)[j]?=some (Dn e):=by rw[Yu,n];rfl
   have L:=Xop D K r;have M:(V.filter λp=>p.1 !=key).Perm ((f.toList.map Dn).eraseIdx j):=by rw[<-L];exact(v.filter _).symm
   refine List.Perm.trans ?_ ((M.symm).cons _);have Y:j<(f.toList.map Dn).length:=su q
   have Q:(f.toList.map Dn).set j (key,val)=(f.toList.map Dn).take j++(key,val)::(f.toList.map Dn).drop (j+1):=List.set_eq_take_append_cons_drop .. |>.trans (Y7 Y);rw[Q,Y5d];exact qP
  ·refine⟨λA d=>?_,?_⟩
   ·rw[g]at d;rcases oO d with d|d
    ·exact m.1 A d
    ·subst d;exact m.1 e (Y8 n)
   ·rw[g,vo];have R:(f.toList.map (·.born))[j]?=some e.born:=by rw[Yu,n];rfl
    obtain⟨e7,T⟩:=Y1.1 R;show((f.toList.map (·.born)).set j e.born).Nodup
    rw[<-T,kL];exact m.2
theorem WL.je{val:Lu}(f:Aa B w I N)(i:N[k]?=some (Cq (.map (some b)) V))(hx:Ev n L x (.map (some b)))(o:Ev n L y (S key))(q:Ev n L z (S val))(j:(V.map Prod.fst).Nodup)(g:V'.Perm ((key,val)::V.filter λp=>p.1 !=key))(m:P.underlying t=some (.map kt et))(e:P.underlying kt=some .string)
  (h:∀w',Aa B w' I (N.set k (Cq (.map (some b)) V'))->WL P n ops K' rest L w'):WL P n ops K' (⟨none,.mapUpdate t x y z,ty,pos,af,none⟩::rest) L w:=by
 obtain⟨w',l,c⟩:=YG f i j g m e;refine .st (w':=w') (λa d=>?_) (h _ c);simp[execOp,hx a d,o a d,q a d,l]
theorem YC(C:Aa B w I N)(E:N[k]?=some (Cq (.map (some b)) V))(G:(V.map Prod.fst).Nodup)(r:V'.Perm (V.filter λp=>p.1 !=key))(y:P.underlying t=some (.map kt et))(f:P.underlying kt=some .string):
  ∃w',(Builtin.delete_ #[t,t'] ty #[.map (some b),S key]).run P w=.ok (.tuple #[]) w'/\Aa B w' I (N.set k (Cq (.map (some b)) V')):=by
 obtain⟨c,g,o,i,q,l,h⟩:=C.Ix E;have x:(Instr.checkKey c.isEmpty 10000 kt (S key)).run P w=.ok () w:=MapKept.run_checkKey f (CW.is key) _ 9999;have u:((c.toList.map Dn).map Prod.fst).Nodup:=(i.map Prod.fst).nodup_iff.2 G;rcases Md key c.toList 0 (λe d=>(o e d).1)with⟨v,m⟩|⟨j,e,D,s,m⟩
 ·refine⟨_,?_,h c g V' o ?_ q⟩
  ·simp[Builtin.delete_,run_underlying y,MapKept.run_getObj_map l,x,MapKept.run_findKey f m,MapKept.run_setObj_map _ l,Result.andThen]
  ·have z:V.filter (λp=>p.1 !=key)=V:=wF λF=>v ((i.map Prod.fst).mem_iff.2 F)
   rw[z]at r;exact i.trans r.symm
 ·rw[Yl]at m;have a:(c.eraseIdxIfInBounds j).toList=c.toList.eraseIdx j:=by simp
  refine⟨_,?_,h (c.eraseIdxIfInBounds j) g V' ?_ ?_ ?_⟩
  ·simp[Builtin.delete_,run_underlying y,MapKept.run_getObj_map l,x,MapKept.run_findKey f m,MapKept.run_setObj_map _ l,Result.andThen]
  ·intro n d;rw[a]at d;exact o n (zm d)
  ·rw[a,map_eraseIdx];have A:(c.toList.map Dn)[j]?=some (Dn e):=by rw[Yu,D];rfl
   rw[<-Xop u A s];exact(i.filter _).trans r.symm
  ·refine⟨λn d=>?_,?_⟩
   ·rw[a]at d;exact q.1 n (zm d)
   ·rw[a,map_eraseIdx];exact q.2.sublist (List.eraseIdx_sublist ..)
theorem WL.rE(i:Aa B w I N)(m:N[k]?=some (Cq (.map (some b)) V))(hx:Ev n L x (.map (some b)))(s:Ev n L y (S key))(o:(V.map Prod.fst).Nodup)(j:V'.Perm (V.filter λp=>p.1 !=key))(r:P.underlying t=some (.map kt et))(e:P.underlying kt=some .string)
  (h:∀w',Aa B w' I (N.set k (Cq (.map (some b)) V'))->WL P n ops K' rest L w'):WL P n ops K' (⟨none,.call ⟨.builtin .delete,#[x,y],#[t,t']⟩,ty,pos,af,none⟩::rest) L w:=by
 obtain⟨w',q,c⟩:=YC (ty:=ty) (t':=t') i m o j r e;intro a d;refine wpList_plain O λf g=>?_
 unfold Oper.wp;have l:(execOp a.eval (⟨none,.call ⟨.builtin .delete,#[x,y],#[t,t']⟩,ty,pos,af,none⟩:Oper)).run P w=.ok (.value (.tuple #[])) w':=by
  simp[execOp,resolve,invoke,builtin,hx a d,s a d,q]
 rw[l];exact g _ _ (h _ c _ d)
theorem WL.Zo(G:Aa B w I N)(D:N[k]?=some (Cq v V))(hx:Ev n L x v)(W:P.underlying t=some (.map kt et))(s:Nat.blt d n=true)
  (h:∀r w',Aa B w' I (N.set k (aY v r V V none))->WL P n ops K' rest ((d,ptr r 0)::L) w'):WL P n ops K' (⟨some d,.range t x,ty,pos,af,none⟩::rest) L w:=by
 have e:k<N.length:=(Y1.1 D).1;have R:v=.map none\/∃b,v=.map (some b):=G.CX D λg i=>by
  rcases i with⟨h,_⟩|⟨b,h,_⟩
  ·exact .inl h
  ·exact .inr ⟨b,h⟩
 rcases R with rfl|⟨b,rfl⟩
 ·have S:=run_range_nilMap (P:=P) w t kt et W;have l:=G.say (k:=k) (A':=Ap [Cq (.map none) V]) D λg i=>⟨g,[],by simp,i,O⟩
  have f:=(l.alloc (.mapIter none 0 #[] 0)).push (k:=k) (Bs:=[Cq (.map none) V]) (by simp[e]);rw[cu]at f;refine .val (w':=w.alloc (.mapIter none 0 #[] 0)) (λa o=>?_) s (h w.heap.size _ ?_)
  ·simp[execOp,hx a o,S]
  ·have:=f.say (k:=k) (A:=Ap ([Cq (.map none) V]++[own w.heap.size (.mapIter none 0 #[] 0)])) (A':=aY (.map none) w.heap.size V V none) (by simp[e]) λg i=>by
    obtain⟨g1,g2,rfl,o,q⟩:=i;obtain⟨J,K,rfl,Q,s⟩:=q;rcases o with⟨_,U,rfl⟩|⟨b,h,_⟩
    ·have y:J=_:=Q;have z:K=[]:=s;subst y;subst z;exact .inl ⟨O,U,U,O,O⟩
    ·cases h
   simpa using this
 ·obtain⟨j,c,M,E,F,q,Y⟩:=G.Ix D;have S:=run_range_map (P:=P) w t kt et b j c W q;obtain⟨⟨⟨H,u⟩,q1,q2,q3⟩,C⟩:=G.opened (X:={ x:Array MapEntry×Nat // Lx x.1/\(x.1.toList.map Dn).Perm V/\jn x.1 x.2 }) (T:=λx=>own b (.map x.1.1 x.1.2)) D λg i=>by
   rcases i with⟨h,_⟩|⟨Z,h,j,c,M,E,F,rfl⟩
   ·cases h
   ·cases h;exact⟨⟨(j,c),M,E,F⟩,O⟩
  have m:w.heap[b]?=some (.map H u):=C.block (k:=k) (by simp[e]);rw[q]at m;injection m with m
  injection m with y z
  subst y;subst z;have l:=C.say (k:=k) (A:=own b (.map j c)) (A':=Ap [own b (.map j c)]) (by simp[e]) λg i=>⟨g,[],by simp,i,O⟩
  rw[cu]at l;have f:=(l.alloc (.mapIter (some b) c #[] c)).push (k:=k) (Bs:=[own b (.map j c)]) (by simp[e]);rw[cu]at f;refine .val (w':=w.alloc (.mapIter (some b) c #[] c)) (v:=ptr w.heap.size 0) (λa o=>?_) s (h w.heap.size _ ?_)
  ·simp[execOp,hx a o,S]
  ·have:=f.say (k:=k) (A:=Ap ([own b (.map j c)]++[own w.heap.size (.mapIter (some b) c #[] c)])) (A':=aY (.map (some b)) w.heap.size V V none) (by simp[e]) λg i=>by
    obtain⟨g1,g2,rfl,o,q⟩:=i;obtain⟨J,K,rfl,Q,s⟩:=q;have e0:g1=_:=o;have y:J=_:=Q;have z:K=[]:=s;subst e0;subst y;subst z;exact .inr ⟨b,j,c,c,#[],c,O,M,E,F,F.1,⟨Y9 _,Y9 _⟩,(show(leftOf j #[]).toList=j.toList by simp[leftOf])▸E,λp R=>(by cases R),O⟩
   simpa using this
theorem Xpx:∀{l:List MapEntry} {e:MapEntry},(l.map (·.born)).Nodup->e∈l->l.Perm (e::l.filter λx=>!(x.born==e.born))
 | [],e,_,h=>by simp at h
 | x::l,e,a,h=>by
  simp only[Yw,VD]at a
  rcases Ys.1 h with rfl|h
  ·have:(e::l).filter (λx=>!(x.born==e.born))=l:=by
    rw[JQ,Y3 sz];exact oS.2 λy c=>by
     have:y.born≠e.born:=λq=>a.1 (q▸iK c)
     simpa using this
   rw[this]
  ·have b:x.born≠e.born:=λq=>a.1 (q▸iK h)
   rw[JQ,Y7 (su b)];exact((Xpx a.2 h).cons x).trans (List.Perm.swap _ _ _)
theorem Sf{a:Array MapEntry}{seen:Array Nat}{e:MapEntry}(g:(a.toList.map (·.born)).Nodup)(f:e∈(leftOf a seen).toList):(leftOf a seen).toList.Perm (e::(leftOf a (seen.push e.born)).toList):=by
 have b:∀c:Array Nat,(leftOf a c).toList=a.toList.filter λx=>!c.contains x.born:=λc=>by simp[leftOf]
 have d:(leftOf a (seen.push e.born)).toList=(leftOf a seen).toList.filter λx=>!(x.born==e.born):=by
  rw[b,b,List.filter_filter];refine List.filter_congr λx _=>?_
  rw[contains_push,Bool.not_or,Bool.and_comm]
 rw[d];refine Xpx ?_ f;rw[b];exact g.sublist (u5.map _)
theorem WL.AH{r:Nat}{todo:List CK}{last:Option CK}(W:Aa B w I N)(R:N[k]?=some (aY v r V todo last))(hx:Ev n L x (ptr r 0))(H:Nat.blt d n=true)
  (h0:todo=[]->WL P n ops K' rest ((d,.tuple #[.bool false])::L) w)
  (h1:∀p q w',todo.Perm (p::q)->Aa B w' I (N.set k (aY v r V q (some p)))->WL P n ops K' rest ((d,.tuple #[.bool true,S p.1,S p.2])::L) w'):WL P n ops K' (⟨some d,.next x false,ty,pos,af,none⟩::rest) L w:=by
 have l:k<N.length:=(Y1.1 R).1;have hp:(v=.map none)\/∃b,v=.map (some b):=W.CX R λg s=>by
  rcases s with⟨h,_⟩|⟨b,j,i,f,seen,c0,h,_⟩
  ·exact .inl h
  ·exact .inr ⟨b,h⟩
 rcases hp with rfl|⟨b,rfl⟩
 ·obtain⟨⟨u,hu⟩,t⟩:=W.opened (X:={ x:Unit // todo=[] }) (T:=λx=>own r (.mapIter none 0 #[] 0)) R λg s=>by
   rcases s with⟨_,hV,ht,_,h⟩|⟨b,j,i,f,seen,c0,h,_⟩
   ·exact⟨⟨(),ht⟩,h⟩
   ·cases h
  have G:w.heap[r]?=some (.mapIter none 0 #[] 0):=t.block (k:=k) (by simp[l]);refine .val (λa y=>?_) H (h0 hu);have hr:(Instr.next (ptr r 0) false ty).run P w=.ok (.tuple #[.bool false]) w:=by
   simp[Instr.next,getObj,Sem.run_bind,Sem.run,G,Result.andThen]
  simp[execOp,hx a y,hr]
 ·obtain⟨⟨⟨j,i,f,seen,c0⟩,q1,U,M,Q,z,C⟩,t⟩:=W.opened (X:={ x:Array MapEntry×Nat×Nat×Array Nat×Nat // Lx x.1/\(x.1.toList.map Dn).Perm V/\jn x.1 x.2.1/\(∀e∈x.1.toList,e.born<x.2.2.1)/\(x.2.2.1<=x.2.2.2.2/\x.2.2.1<=x.2.1)/\((leftOf x.1 x.2.2.2.1).toList.map Dn).Perm todo })
    (T:=λx=>Ap [own b (.map x.1.1 x.1.2.1),own r (.mapIter (some b) x.1.2.2.1 x.1.2.2.2.1 x.1.2.2.2.2)]) R λg s=>by
   rcases s with⟨h,_⟩|⟨b',j,i,f,seen,c0,h,q1,U,M,Q,z,C,q7,rfl⟩
   ·cases h
   ·cases h;exact⟨⟨(j,i,f,seen,c0),q1,U,M,Q,z,C⟩,[(b,.map j i)],[(r,.mapIter (some b) f seen c0)],O,O,_,[],by simp,O,O⟩
  dsimp only at q1 U M Q z C t
  have m:=t.pop (k:=k) (Bs:=[own b (.map j i)]) (A:=own r (.mapIter (some b) f seen c0)) (by simp[l]);rw[cu]at m;have ag:w.heap[r]?=some (.mapIter (some b) f seen c0):=m.block (k:=0) O;have aa:w.heap[b]?=some (.map j i):=by
   have h9:=m.say (k:=k+1) (A:=Ap [own b (.map j i)]) (by simp[l]) λg ⟨g1,g2,e,y,G⟩=>by
    have:g2=[]:=G
    subst this;rw[Yx]at e;subst e;exact y
   exact h9.block (k:=k+1) (by simp[l])
  rcases run_next_at (P:=P) w ty r b f c0 seen j i ag aa Q z.1 with⟨hz,o⟩|⟨e,he,w1,Z,o⟩
  ·have ht:todo=[]:=by
    have:(leftOf j seen).toList=[]:=Yc (su hz)
    rw[this]at C;exact List.nil_perm.1 C
   refine .val (λa y=>?_) H (h0 ht);simp[execOp,hx a y,o]
  ·have D:Aa B w1 I (own r (.mapIter (some b) f seen c0)::N.set k (Ap [own b (.map j i)])):=by
    rcases Z with rfl|rfl
    ·exact m
    ·exact m.drew
   have ah:w1.heap[r]?=some (.mapIter (some b) f seen c0):=D.block (k:=0) O;have ai:r<w1.heap.size:=(Ij.1 ah).1;have Y:=D.write (k:=0) (o':=.mapIter (some b) f (seen.push e.born) i) (w':=setBlock w1 r (.mapIter (some b) f (seen.push e.born) i)) O O O O (by
    show(w1.heap.setIfInBounds r _)[r]?=_
    simp[kH,ai]) (λc hc=>by
    show(w1.heap.setIfInBounds r _)[c]?=_
    simp[qG (Ne.symm hc)])
   have E:=Aa.push (A:=own r (.mapIter (some b) f (seen.push e.born) i)) (N:=N.set k (Ap [own b (.map j i)])) (k:=k) (Bs:=[own b (.map j i)]) Y (by simp[l]);rw[cu]at E;have ac:=Sf M.2 he;have J:e∈j.toList:=(mem_left he).1;have F:=E.say (k:=k) (A:=Ap ([own b (.map j i)]++[own r (.mapIter (some b) f (seen.push e.born) i)])) (A':=aY (.map (some b)) r V ((leftOf j (seen.push e.born)).toList.map Dn) (some (Dn e))) (by simp[l]) λg s=>by
    obtain⟨g1,g2,rfl,y,G⟩:=s;obtain⟨g3,g4,rfl,hc,H⟩:=G;have e0:g1=_:=y;have e1:g3=_:=hc;have e2:g4=[]:=H;subst e0;subst e1;subst e2;exact .inr ⟨b,j,i,f,seen.push e.born,i,O,q1,U,M,Q,⟨z.2,z.2⟩,List.Perm.refl _,λp hp=>(by cases hp;exact⟨e,seen,J,O,O,O⟩),O⟩
   rw[cu]at F;have ae:todo.Perm (Dn e::(leftOf j (seen.push e.born)).toList.map Dn):=C.symm.trans (ac.map Dn);have s:=h1 (Dn e) _ _ ae F;have K:=q1 e J;rw[<-K.1,<-K.2]at s;refine .val (λa y=>?_) H s;simp[execOp,hx a y,o]
theorem Ex.WE{d:Option Nat}{r:Nat}{j:List CK}{p:CK}(A:Aa B w I N)(E:N[k]?=some (aY v r V j (some p)))(hx:Ev n L x (ptr r 0)):
  Ex P n L w ⟨d,.entry x,ty,pos,af,g⟩ (.tuple #[S p.1,S p.2]) w:=λa C=>by
 obtain⟨K,G,D⟩:=A;obtain⟨g1,g2,F,z,_⟩:=G.at_ E;rcases z with⟨h,M,Q,y,_⟩|⟨b,q,l,c,seen,c0,h,q1,R,H,T,U,W,J,rfl⟩
 ·cases y
 ·have s:=D.perm F;have m:w.heap[b]?=some (.map q l):=s.own b _ sz;obtain⟨e,u,t,rfl,rfl,rfl⟩:=J p O;have o:w.heap[r]?=some (.mapIter (some b) c (u.push e.born) c0):=s.own r _ sz;have f:=run_entry_at (P:=P) w r b c u q c0 e o m t H.2;have i:=q1 e t;rw[i.1,i.2]at f;simp[execOp,hx a C,f]
theorem Aa.Zs{r:Nat}{i:List CK}{last:Option CK}(q:Aa B w I N)(p:N[k]?=some (aY v r V i last)):Aa B w I (N.set k (Cq v V)):=by
 have f:k<N.length:=(Y1.1 p).1;have z:(v=.map none)\/∃b,v=.map (some b):=q.CX p λg n=>by
  rcases n with⟨h,_⟩|⟨b,j,c,a,seen,c0,h,_⟩
  ·exact .inl h
  ·exact .inr ⟨b,h⟩
 have l:=q.say (k:=k) (A':=Ap ([Cq v V]++[λh=>∃o,h=[(r,o)]])) p λg n=>by
  rcases n with⟨h,s,C,_,rfl⟩|⟨b,j,c,a,seen,c0,h,q1,x,y,D,E,F,G,rfl⟩
  ·exact⟨[],[(r,.mapIter none 0 #[] 0)],O,.inl ⟨h,s,O⟩,[(r,.mapIter none 0 #[] 0)],[],by simp,⟨.mapIter none 0 #[] 0,O⟩,O⟩
  ·exact⟨[(b,.map j c)],[(r,.mapIter (some b) a seen c0)],O,.inr ⟨b,h,j,c,q1,x,y,O⟩,[(r,.mapIter (some b) a seen c0)],[],by simp,⟨.mapIter (some b) a seen c0,O⟩,O⟩
 have d:=(l.pop (k:=k) (Bs:=[Cq v V]) (A:=λh=>∃o,h=[(r,o)]) (by simp[f])).drop (k:=0) O;simp only[Y69,cu]at d
 have m:=d.say (k:=k) (A:=Ap [Cq v V]) (A':=Cq v V) (by simp[f]) λg ⟨g1,g2,e,t,u⟩=>by
  have:g2=[]:=u
  subst this;rw[Yx]at e;subst e;exact t
 simpa using m
theorem X_(a:Aa B w I N):Aa B w I (Cq (.map none) []::N):=by
 obtain⟨g,c,b⟩:=a;exact⟨g,⟨[],g,O,.inl ⟨O,O,O⟩,c⟩,b⟩
theorem Ex.DI{d:Option Nat}{l:Lu}(hx:Ev n L x (.slice a l.length cap))(u:Aa B w I N)(i:RS I a 1 l.length (Aj l))(o:P.underlying src=some (.slice E))(m:P.underlying E=some (.int .u8))(k:P.underlying dst=some .string):
  Ex P n L w ⟨d,.convert src dst x,ty,pos,af,g⟩ (S l) w:=by
 cases a with
 | some p =>
  intro a b;have h:=run_convert_bytes_back (P:=P) w src dst E p cap l o m k (λj v=>by
   obtain⟨q,e,t⟩:=i.2 om;cases e
   exact JH u t (by simp[Aj,v]))
  simp[execOp,hx a b,h]
 | none =>
  have r:l=[]:=by
   cases l with
   | nil=>rfl
   | cons c l=>obtain⟨q,e,_⟩:=i.2 sz;cases e
  subst r;intro a b;have y:=hx a b;have h:=run_convert_bytes_string (P:=P) w src dst E none 0 cap o m k;have s:(Conv.bytesToString (.slice none 0 cap)).run P w=.ok (S []) w:=rfl;rw[s]at h;have f:a.eval x=.slice none 0 cap:=y;simp[execOp,f,h]
end
open Go.Sort Go.Proofs
section
variable {α:Type} [Inhabited α] {B w:Wo} {I:Im} {N:La} {Ar:α->Lv} {s:Nat}
theorem Xou(b:∀x,(Ar x).length=s)(i:0<s)(d:Array α):(flatK Ar s d).toList=X2 Ar d.toList:=by
 refine OD λt=>?_
 rcases Yz t (d.size*s)with a|a
 ·have e:t/s<d.size:=zp (by rwa[Fg]at a);have h:t%s<s:=VG _ i;have f:d.toList[t/s]?=some d[t/s]:=by simp[e]
  have g:(Ar d[t/s])[t%s]?=some (Ar d[t/s])[t%s]! := by
   have:t%s<(Ar d[t/s]).length:=by rw[b];exact h
   rw[Y2 this,List.getElem!_eq_getElem?_getD,Y2 this];rfl
  have c:=nC b f g;rw[Nat.div_add_mod' t s]at c;rw[c,iH,IZ (su a)]
  congr 1
  simp[flatK,e]
 ·rw[T1 (by rw[T4,size_flatK];exact a),T1 (by rw[TF b];simpa using a)]
theorem Aa.grow(a:List Obj):∀{w:Wo},Aa B w I N->Aa B (Go.Sort.grow w a.toArray) I N:=by
 induction a with
 | nil=>intro w h;simpa[Go.Sort.grow]using h
 | cons o a d =>
  intro w h;have c:=d ((h.alloc o).drop (k:=0) O);have e:Go.Sort.grow (w.alloc o) a.toArray=Go.Sort.grow w (o::a).toArray:=by
   have b:w.heap.push o++a.toArray=w.heap++(o::a).toArray:=by
    apply Array.toList_inj.mp
    simp only[Array.toList_append,oT,Yg]
    rfl
   show({ w with heap:=w.heap.push o++a.toArray }:Wo)={ w with heap:=w.heap++(o::a).toArray }
   rw[b]
  rw[<-e];exact c
theorem Aa.aP{E:Nat}{a:Addr}(o:Aa B w I N)(x:N[k]?=some (Ao E s (.slice (some a) n c) n xs)):
  ∃(b:Nat) (r:Lv),a=⟨b,0,none⟩/\n<=c/\c<=maxLen/\xs.length=n*s/\xs.length+r.length=c*s/\Aa B w I (N.set k (Ad b (xs++r) E)):=by
 obtain⟨g,v,q⟩:=o;obtain⟨y,z,u,⟨t,p⟩,d,_⟩:=v.at_ x;rcases p with⟨e,_,_⟩|⟨b,cap,rest,e,rfl,j,l,m⟩
 ·cases e
 ·obtain⟨i,h,f⟩:=d (Ad b (xs++rest) E) _ O;cases e
  exact⟨b,rest,O,j,l,t,m,i,h,q.perm (u.trans f.symm)⟩
theorem Aa.ZR{E:Nat}{a:Addr}{l:List α}(J:∀x,(Ar x).length=s)(R:0<s)(W:Aa B w I N)(Z:l.length=n)(S:N[k]?=some (Ao E s (.slice (some a) n c) n (X2 Ar l))):
  ∃g,a=⟨g,0,none⟩/\g<w.heap.size/\HoldsK Ar s w g 0 l.toArray/\∀(m:Nat) (d:Array α) (P:Array Obj),d.size=n->Aa B (sortWorldK Ar s w g 0 m d P) I (N.set k (Ao E s (.slice (some a) n c) n (X2 Ar d.toList))):=by
 obtain⟨g,r,rfl,T,U,D,V,y⟩:=W.aP S;have p:k<N.length:=(Y1.1 S).1;have H:w.heap[g]?=some (Xd (X2 Ar l++r) E):=y.block (k:=k) (by simp[p,Ad]);have Y:g<w.heap.size:=(Ij.1 H).1;refine⟨g,O,Y,λj Q=>?_,λm d P A=>?_⟩
 ·rw[size_flatK]at Q;have i:j<(X2 Ar l).length:=by rw[TF J];simpa using Q
  have e:(flatK Ar s l.toArray)[j]! = (X2 Ar l)[j]:=by
   have h:=Ye (λq=>q[j]?) (Xou J R l.toArray);simp only[iH,Y2 i]at h
   rw[getElem!_def,h]
  constructor
  ·show w.cell? ⟨g,0+j,none⟩=_
   simp only[World.cell?,H,Xd,Yl]
   rw[e];simp[Yf i,i]
  ·show w.frozen? ⟨g,0+j,none⟩=_
   simp[World.frozen?,H,Xd]
 ·have f:(X2 Ar d.toList).length=n*s:=by rw[TF J];simp[A]
  have C:putCells id 0 (flatK Ar s d) (X2 Ar l++r).toArray=(X2 Ar d.toList++r).toArray:=by
   refine Array.ext_getElem? λt=>?_
   simp only[putCells,Array.getElem?_mapIdx,qN,Yl,dE,id,Y5,true_and,size_flatK]
   have M:=Xou J R d;rcases Yz t (d.size*s)with u|u
   ·have G:t<(X2 Ar l).length:=by rw[D,<-A];exact u
    have F:t<(X2 Ar d.toList).length:=by rw[f,<-A];exact u
    rw[Yf G,Yf F,Y2 G,dC,Y7 u];have h:=Ye (λq=>q[t]?) M;simp only[iH]at h
    rw[getElem!_def,h,Y2 F]
   ·have G:(X2 Ar l).length<=t:=by rw[D,<-A];exact u
    have F:(X2 Ar d.toList).length<=t:=by rw[f,<-A];exact u
    rw[Yy G,Yy F,D,f];cases r[t-n*s]? with
    | none=>rfl
    | some v=>simp[show ¬ t<d.size*s by omega]
  have K:Aa B (Go.Sort.ahead w m) I (N.set k (Ad g (X2 Ar l++r) E)):=y.world O O O O;have L:=K.write (k:=k) (b:=g) (o:=Xd (X2 Ar l++r) E) (o':=Xd (X2 Ar d.toList++r) E) (w':=putRowK Ar s (Go.Sort.ahead w m) g 0 d) (by simp[p,Ad]) O O O (by
   show((Go.Sort.ahead w m).heap.modify g (onCells (putCells id 0 (flatK Ar s d))))[g]?=_
   rw[qM,Y7 O];show(w.heap[g]?).map _=_
   rw[H];simp only[dC,Xd,onCells,C]) (λc X=>by
   show((Go.Sort.ahead w m).heap.modify g (onCells (putCells id 0 (flatK Ar s d))))[c]?=_
   rw[qM,Y3 (Ne.symm X)])
  have z:=L.A1 (k:=k) (g:=g) (cap:=c) (rest:=r) (xs:=X2 Ar d.toList) (E:=E) (size:=s) (by simp[p,Ad]) T U f (by rw[f,<-D];exact V);rw[cu,cu]at z;have h:=Aa.grow P.toList z;unfold sortWorldK;simpa using h
end
end Gk
open Go Gk
variable {V:List CK}
namespace Rq
open Gk Go Go.Lib Go.Proofs Go.Sort
def Eu(a b:Lu):Bool:=decide (compareBytes a b<0)
theorem gI:∀a:Lu,Eu a a=false
 | []=>rfl
 | x::a=>by have:=gI a;unfold Eu at this ⊢;simp[compareBytes];simpa using this
theorem Xwl(x y:Ui)(a b:Lu):Eu (x::a) (y::b)=(decide (x<y)||(x==y&&Eu a b)):=by
 unfold Eu;rw[compareBytes]
 by_cases h:x<y
 ·simp[h]
 ·by_cases c:y<x
  ·have:x≠y:=λe=>by subst e;exact Aw c h
   simp[h,c,this]
  ·have e:x=y:=UInt8.le_antisymm (vq.1 c) (vq.1 h);subst e
   simp
theorem xl(a:Lu):Eu a []=false:=by cases a<;>rfl
theorem jJ:∀a b c:Lu,Eu a b=true->Eu b c=true->Eu a c=true
 | [],b,c,e,d=>by
  cases c with
  | nil=>rw[xl]at d;cases d
  | cons z c=>rfl
 | x::a,[],c,e,d=>by rw[xl]at e;cases e
 | x::a,y::b,[],e,d=>by rw[xl]at d;cases d
 | x::a,y::b,z::c,e,d=>by
  rw[Xwl]at *;simp only[I0,Yb,decide_eq_true_eq,beq_iff_eq]at *
  rcases e with e|⟨rfl,e⟩
  ·rcases d with d|⟨rfl,d⟩
   ·exact .inl (UInt8.lt_trans e d)
   ·exact .inl e
  ·rcases d with d|⟨rfl,d⟩
   ·exact .inl d
   ·exact .inr ⟨O,jJ a b c e d⟩
theorem ur:∀a b:Lu,Eu a b=false->Eu b a=false->a=b
 | [],[],_,_=>rfl
 | [],y::b,h,_=>by cases h
 | x::a,[],_,h=>by cases h
 | x::a,y::b,c,d=>by
  rw[Xwl]at *;simp only[G3,iI,decide_eq_false_iff_not,beq_eq_false_iff_ne]at *
  have e:x=y:=UInt8.le_antisymm (vq.1 d.1) (vq.1 c.1);subst e;rw[ur a b (c.2.resolve_left (λh=>h O)) (d.2.resolve_left (λh=>h O))]
theorem Xpm{a b:Lu}(h:Eu a b=true):Eu b a=false:=by
 cases c:Eu b a with
 | false=>rfl
 | true=>have:=jJ _ _ _ h c;rw[gI]at this;cases this
theorem Xj8(a b c:Lu)(f:Eu a b=false)(d:Eu b c=false):Eu a c=false:=by
 cases h:Eu a c with
 | false=>rfl
 | true =>
  cases e:Eu b a with
  | true=>have:=jJ _ _ _ e h;rw[d]at this;cases this
  | false=>have:=ur a b f e;subst this;rw[d]at h;cases h
def Wc(p q:CK):Int:=compareBytes p.1 q.1
theorem Aao:SWO (ltOf Wc) where
 irrefl x:=gI x.1
 trans x y z:=jJ x.1 y.1 z.1
 ntrans x y z:=Xj8 x.1 y.1 z.1
structure Fw(V:List CK):Prop where
 IB:V.Pairwise λp q=>Eu p.1 q.1=true
 each:∀p∈V,(1<=p.1.length/\p.1.length<=64)/\p.2.length<=300
theorem Fw.nodup(h:Fw V):(V.map Prod.fst).Nodup:=by
 refine zz.2 (h.IB.imp λ{p q} a e=>?_);rw[e,gI]at a;cases a
theorem Fw.nil:Fw []:=⟨List.Pairwise.nil,λp a=>by simp at a⟩
def JO(k v:List UInt8):List CK->List CK
 | []=>[(k,v)]
 | p::r=>if p.1=k then(k,v)::r else if Eu k p.1 then(k,v)::p::r else p::JO k v r
def eb(k:Lu)(V:List CK):List CK:=V.filter λp=>p.1 !=k
theorem yi{k v:Lu}:∀{V:List CK} {p:CK},p∈JO k v V->p=(k,v)\/p∈V
 | [],p,h=>by simp[JO]at h;exact .inl h
 | q::V,p,h=>by
  unfold JO at h;split at h
  ·rcases Ys.1 h with h|h
   ·exact .inl h
   ·exact .inr (by simp[h])
  ·split at h
   ·rcases Ys.1 h with h|h
    ·exact .inl h
    ·exact .inr h
   ·rcases Ys.1 h with h|h
    ·exact .inr (by simp[h])
    ·rcases yi h with h|h
     ·exact .inl h
     ·exact .inr (by simp[h])
theorem yY{k v:Lu}(i:1<=k.length/\k.length<=64)(j:v.length<=300)(h:Fw V):Fw (JO k v V):=by
 refine⟨?_,λp a=>?_⟩
 ·have:∀V:List CK,V.Pairwise (λp q=>Eu p.1 q.1=true)->(JO k v V).Pairwise λp q=>Eu p.1 q.1=true:=by
   intro V
   induction V with
   | nil=>intro _;simp[JO]
   | cons q V l =>
    intro h;obtain⟨c,f⟩:=T7.1 h;unfold JO;split
    ·rename_i e
     exact T7.2 ⟨λp a=>by have:=c p a;rw[e]at this;exact this,f⟩
    ·rename_i d
     split
     ·rename_i b
      refine T7.2 ⟨λp a=>?_,h⟩;rcases Ys.1 a with rfl|a
      ·exact b
      ·exact jJ _ _ _ b (c p a)
     ·rename_i b
      refine T7.2 ⟨λp a=>?_,l f⟩;rcases yi a with rfl|a
      ·cases g:Eu q.1 k with
       | true=>rfl
       | false=>exact Aw (ur q.1 k g (su b)) d
      ·exact c p a
  exact this V h.IB
 ·rcases yi a with rfl|a
  ·exact⟨i,j⟩
  ·exact h.each p a
theorem OZ(k:Lu)(h:Fw V):Fw (eb k V):=⟨h.IB.filter _,λp a=>h.each p (Ik.1 a).1⟩
theorem s_(k v:Lu):∀{V:List CK},V.Pairwise (λp q=>Eu p.1 q.1=true)->(JO k v V).Perm ((k,v)::V.filter λp=>p.1 !=k)
 | [],_=>List.Perm.refl _
 | q::V,h=>by
  obtain⟨g,i⟩:=T7.1 h;unfold JO;split
  ·rename_i e
   rw[JQ,Y3 (su e)]
   have:V.filter (λp=>p.1 !=k)=V:=oS.2 λp f=>by
    have a:=g p f
    have:p.1≠k:=λb=>by rw[e,b,gI]at a;cases a
    simpa using this
   rw[this]
  ·rename_i d
   have j:(q::V).filter (λp=>p.1 !=k)=q::V.filter λp=>p.1 !=k:=by rw[JQ,Y7 (su d)]
   rw[j];split
   ·rename_i c
    have:V.filter (λp=>p.1 !=k)=V:=oS.2 λp f=>by
     have a:=jJ _ _ _ c (g p f)
     have:p.1≠k:=λb=>by rw[b,gI]at a;cases a
     simpa using this
    rw[this]
   ·exact((s_ k v i).cons q).trans (List.Perm.swap _ _ _)
theorem Xqp{l:List CK}(n:l.Perm V)(m:V.Pairwise λp q=>Eu p.1 q.1=true)(o:l.Pairwise λp q=>Eu q.1 p.1=false):l=V:=by
 refine List.Perm.eq_of_pairwise (le:=λp q=>Eu q.1 p.1=false) (λa b g k c d=>?_) o (m.imp λh=>Xpm h) n;have e:=ur a.1 b.1 d c;have j:=n.mem_iff.1 g;have f:(V.map Prod.fst).Nodup:=zz.2 (m.imp λ{p q} i e=>by rw[e,gI]at i;cases i)
 have:∀(V:List CK),(V.map Prod.fst).Nodup->∀a∈V,∀b∈V,a.1=b.1->a=b:=by
  intro V
  induction V with
  | nil=>intro _ a g;simp at g
  | cons q V r =>
   intro f a g b k e;simp only[Yw,VD]at f
   rcases Ys.1 g with c|c<;>rcases Ys.1 k with d|d
   ·rw[c,d]
   ·exact Aw (by rw[<-c,e];exact iK d) f.1
   ·exact Aw (by rw[<-d,<-e];exact iK c) f.1
   ·exact r f.2 a c b d e
 exact this V f a j b k e
structure Ch where
 key:Lu
 val:Lu
 gone:Bool
abbrev DP(c:Ch):Lv:=[S c.key,S c.val,.bool c.gone]
def IL(c:Ch):Bool:=decide (1<=c.key.length)&&decide (c.key.length<=64)&&decide (c.val.length<=300)&&(!c.gone||c.val==[])
def Vv(c:Ch):Int:=if c.gone then 65535 else(c.val.length:Nat)
def B2(c:Ch):Lu:=Db (c.key.length:Nat)::c.key++[Db (Vv c/256),Db (Vv c)]++c.val
def DF:List Ch->List UInt8->List UInt8×Nat
 | [],a=>if 4000<a.length then([],2)else(a,0)
 | c::l,a=>if IL c then DF l (a++B2 c)else([],1)
def DE(b:Lu)(n:Nat):Lu×Lu×Bool:=if b.length<n then([],[],false)else(b.take n,b.drop n,true)
def CO(b:Lu):Ch×Lu×Bool :=
 let a:=DE (b.drop 1) (b.getD 0 0).toNat
 if a.2.2=false then(⟨[],[],false⟩,[],false)else
 let s:=DE a.2.1 2
 if s.2.2=false then(⟨[],[],false⟩,[],false)else
 if C4 s.1=65535 then(⟨a.1,[],true⟩,s.2.1,true)else
 let v:=DE s.2.1 (C4 s.1)
 (⟨a.1,v.1,false⟩,v.2.1,v.2.2)
def K2:Nat->List UInt8->List Ch->List Ch×Nat
 | 0,_,a=>(a,0)
 | k+1,b,a=>if b=[]then(a,0)else if((CO b).2.2&&IL (CO b).1)=true then K2 k (CO b).2.1 (a++[(CO b).1])else([],8)
def GF(b:Lu):List Ch×Nat:=if 4000<b.length then([],8)else K2 (b.length+1) b []
def bW(V:List CK)(c:Ch):List CK:=if c.gone then eb c.key V else JO c.key c.val V
def KX(V:List CK)(l:List Ch):List CK:=l.foldl bW V
theorem tE(h:Fw V):∀{l:List Ch},(∀c∈l,IL c=true)->Fw (KX V l):=by
 intro l
 induction l generalizing V with
 | nil=>intro _;exact h
 | cons c l d =>
  intro a;refine d ?_ (λc b=>a c (by simp[b]))
  have:=a c sz
  simp only[IL,Yb,decide_eq_true_eq]at this
  unfold bW;split
  ·exact OZ _ h
  ·exact yY ⟨this.1.1.1,this.1.1.2⟩ this.1.2 h
def DL(V:List CK)(pre:Lu):List CK:=V.filter λp=>hasPrefix p.1 pre
def Oq:List CK->List (List UInt8)->List (List UInt8)
 | [],a=>a
 | p::V,a =>
  let b:=B2 ⟨p.1,p.2,false⟩
  if a≠[]/\(a.getLastD []).length+b.length<=4000 then Oq V (a.dropLast++[a.getLastD []++b])else Oq V (a++[b])
def Q2(V:List CK):List Lu:=Oq (DL V []) []
structure St where
 log:Lg
 Av:List CK
def TV:List (List UInt8)->List CK->List CK×Nat
 | [],V=>(V,0)
 | b::r,V=>if(GF b).2≠0 then([],(GF b).2)else TV r (KX V (GF b).1)
def EB(s:St)(l:List Ch):Nat×St :=
 if(DF l []).2≠0\/l=[]then((DF l []).2,s)else
 let V:=KX s.Av l
 let a:=GZ s.log (DF l []).1
 let r:=if a.1=5 then Hp a.2 (Q2 V)else a
 if r.1=0 then(0,⟨r.2,V⟩)else(r.1,⟨r.2,s.Av⟩)
def Ho(s:St):Nat×St:=((Hp s.log (Q2 s.Av)).1,⟨(Hp s.log (Q2 s.Av)).2,s.Av⟩)
end Rq
namespace Go.Proofs.W9
open Gk Ul Pc Tk Tr Xm Rq
open Tryz
theorem Xji(c:Ch)(b:c.key.length<=1000000)(d:c.val.length<=1000000)(N:La)(a:Aa B w I N):
  Ce B I N 112 [.agg (DP c).toArray] w (.bool (IL c)):=by
 refine gH 14 ?_;intro b1 w a;refine gH 14 (gG 1 (⟨Ye Value.bool ?_,a.s⟩));unfold IL;rw[show decide ((1:Int)<=(c.key.length:Nat))=decide (1<=c.key.length) from decide_eq_decide.2 om,show decide (((c.key.length:Nat):Int)<=64)=decide (c.key.length<=64) from decide_eq_decide.2 om,show decide (((c.val.length:Nat):Int)<=300)=decide (c.val.length<=300) from decide_eq_decide.2 om]
theorem yc(c:Ch)(A:c.key.length<=1000000)(C:c.val.length<=1000000)(N:La)(a:Aa B w I N):
  Cz 271 [.agg (DP c).toArray] w λv w'=>∃l,v=l/\Aa B w' I (Ao 5 1 l (B2 c).length (Aj (B2 c))::N):=by
 refine gH 6 ?_;intro b1 w a;refine .nil (.ck [1] (σ:=Unit) (λ_ _m=>(3,Ab (Vv c))::_m) (λ_ w=>Aa B w I (Ad b1 (DP c) 237::N)) ?_ ?_)
 ·refine gM 2 ?_ ?_<;>intro e r
  ·refine gG 1 ?_;refine⟨(),⟨by(try show _=_);unfold Vv;rw[e];rfl,O,trivial⟩,a⟩
  refine gG 0 ?_;refine⟨(),⟨by(try show _=_);unfold Vv;rw[e];rfl,O,trivial⟩,a⟩
 rintro _ w a;refine gH 3 (.val (.Fi (.of O) B5 BW) O (gH 1 ?_));intro g w a;replace a:=a;replace a:=a.say (k:=0) (A':=Ad g (Aj [Db (c.key.length:Nat)]) 5) O (λh t=>by rw[show[Db (c.key.length:Nat)]=[((c.key.length:Nat):Int)].map Db from O,bB];exact t);dsimp only[List.set]at a;replace a:=a.BB (size:=1) (n:=1) (k:=0) O O de;dsimp only[List.set]at a;refine gH 2 (.DH a (.of O) (.of O) (k:=0) O BC Bb Xt O O O om O ?_);intro u w a;refine gG 1 (.dw (λw=>∃R,Aa B w I (Ad b1 (DP c) 237::R)) (λj=>!([].contains j)) ?_);replace a:=a.drew;generalize w.drew=w at a ⊢;have b:∃R,Aa B w I (Ad b1 (DP c) 237::R):=⟨_,(a.x [1])⟩
 refine .tp 0 O (λw=>(.mo O)) (.tp 1 O (λw=>(.mo O)) (.tp 2 O (λw=>(.shr (.of O) (.of O) de de)) (.tp 3 O (λw=>(.Fi (.of O) B5 BW)) (.tp 4 O (λw=>(.mo O)) (.tp 5 O (λw=>(.Fi (.of O) B5 BW)) ?_)))));refine .tp 8 O (λw=>(by first|exact .fo 1 O oC O O A3 O|exact .fi 1 O oC O O A3 O)) ?_;refine .tk 9 O b (λw ⟨R,a⟩=>(.lo O a (k:=0) O Bq O)) (.b1 6 O (.buildSlice (cs:=[_,_]) a (Lb O (Lb O U_)) BC Cw N7 O O O O ?_));intro m w a;refine .nil ?_;clear b;have b:∃R,Aa B w I (Ad b1 (DP c) 237::R):=⟨_,(a.x [2])⟩
 refine⟨λ_ _=>b,?_⟩;refine .b1 7 O ?_
 first|refine .append (bytes:=1) a (.of O) (.of O) (k:=0) O BC Xt O O O O O O O ⟨om,by unfold maxLen;omega⟩ O ?_|refine .append (bytes:=1) a (.of O) (.of O) (k:=1) O BC Xt O O O O O O O ⟨om,by unfold maxLen;omega⟩ O ?_
 intro y w a
 first|obtain⟨f,i,rfl,d,_⟩:=a.AP (k:=0) O|obtain⟨f,i,rfl,d,_⟩:=a.vS 1
 refine .nil ?_;clear b;have b:∃R,Aa B w I (Ad b1 (DP c) 237::R):=⟨_,(a.x [1])⟩
 refine⟨λ_ _=>b,?_⟩;refine .b1 10 O (.DH a (.of O) (.of O) (k:=0) O BC Bb Xt O O O om O ?_);intro z w a;try dsimp only[List.set]at a
 refine .nil ?_;clear b;have b:∃R,Aa B w I (Ad b1 (DP c) 237::R):=⟨_,(a.x [1])⟩
 refine⟨λ_ _=>b,?_⟩;refine .tp 11 O (λw=>(.ao O)) (.dn ?_);refine gG 0 ?_;have o:Aj (B2 c)=Aj [Db (c.key.length:Nat)]++Aj c.key++[Value.int IntKind.u8 (IntKind.u8.wrap (Vv c/2^Int.toNat 8)),Value.int IntKind.u8 (IntKind.u8.wrap (Vv c))]++Aj c.val:=by
  have q:[Value.int IntKind.u8 (IntKind.u8.wrap (Vv c/2^Int.toNat 8)),Value.int IntKind.u8 (IntKind.u8.wrap (Vv c))]=Aj ([Vv c/256,Vv c].map Db):=by rw[bB];first|done|rfl
  rw[q];show Aj _=_
  unfold B2 Aj
  simp
 have p:(B2 c).length=1+c.key.length+2+c.val.length:=by unfold B2;simp;omega
 rw[<-o,<-p]at a;exact⟨_,O,a.s⟩
theorem OQ(c:Ch):(DP c).length=3:=rfl
theorem Xvj:∀(l:List Ch) (a:Lu),(DF l a).2=0->(DF l a).1.length<=4000
 | [],a,h=>by
  unfold DF at h ⊢;split
  ·rename_i b;rw[Y7 b]at h;cases h
  ·rename_i b;exact Nat.le_of_not_lt b
 | c::l,a,h=>by
  unfold DF at h ⊢;split
  ·rename_i b;rw[Y7 b]at h;exact Xvj l _ h
  ·rename_i b;rw[Y3 b]at h;cases h
theorem Wx(l:List Ch)(a:Oa)(c0:Nat)(t:∀x∈l,x.key.length<=1000000/\x.val.length<=1000000)(H:l.length<=100000)(D:RS I a 3 l.length (X2 DP l))(N:La)(c:Aa B w I N):
  Cz 250 [.slice a l.length c0] w λv w'=>∃h,v=.tuple #[h,Ab ((DF l []).2:Nat)]/\Aa B w' I (Ao 5 1 h ((DF l []).1).length (Aj ((DF l []).1))::N):=by
 refine gG 6 ?_;replace c:=c.Al 5 1;have m:=c;clear c;refine .lk [7,8] (σ:=Nat×Lu×Va) (λ(i,b,h) _m=>(4,h)::(9,Ab (i:Nat))::_m) (λ(i,b,h) w=>i<=l.length/\DF l []=DF (l.drop i) b/\b.length<=i*400/\Aa B w I (Ao 5 1 h (b).length (Aj (b))::N)) (λ(i,b,h)=>l.length-i) (0,[],.slice none 0 0) ⟨Y5 _,O,Y5 _,m⟩ ?_;rintro⟨i,b,h⟩ w ⟨hi,d,J,c⟩;clear m;refine gN 1 ?_ ?_<;>intro u
 ·obtain⟨x,hx⟩:∃x,l[i]?=some x:=⟨_,Y2 om⟩
  have L:=t x (Y8 hx);have n:l.drop i=x::l.drop (i+1):=by rw[Yq (Y1.1 hx).1,(Y1.1 hx).2]
  obtain⟨p,q,K⟩:=Ob (l:=l) (cells:=DP) OQ c D i x hx;subst q;refine gG 0 (.val (.ii O O om om NT bP) O ?_);refine .val (.as (.Hc (.of O) (by intro j v F;rw[Yh];exact K j v F) ig bP O) O) O ?_;refine gH 3 ?_;intro P w c;refine gE 0 (Xji x om om) ?_;intro w c;refine gM 1 ?_ ?_<;>intro f y
  ·refine gG 2 ?_;have e:DF l []=([],1):=by rw[d,n,DF];exact Y3 (by have C:=f;simpa using C)
   rw[e];exact⟨.slice none 0 0,O,c.s.Al 5 1⟩
  refine gG 0 ?_;have o:IL x=true:=su f
  have r:=o;simp only[IL,Yb,decide_eq_true_eq]at r
  have A:(B2 x).length<=400:=by unfold B2;simp;omega
  refine gF 2 (yc x om om) ?_;rintro _ w ⟨S,rfl,c⟩;obtain⟨Q,R,rfl,E,_⟩:=c.vS 0;refine .FU (bytes:=1) c (.of O) (.of O) (k:=2) (j:=0) O O BC Xt O O O O (H7 _) ⟨om,by unfold maxLen;omega⟩ O ?_;intro M w c;dsimp only[List.set]at c;rw[<-Y0,<-show Aj (b++B2 x)=Aj b++Aj (B2 x) from Yn]at c;refine gG 3 (Br (i+1,_,_) O ⟨om,?_,?_,(c.z [2] 1 2)⟩)
  ·(try dsimp only)
   rw[d,n,DF,Y7 o]
  ·(try dsimp only)
   rw[Y0,Gh];omega
 obtain⟨ka,T,rfl,G,_⟩:=c.vS 0;refine gN 3 ?_ ?_<;>intro g
 ·refine gG 2 ?_;have e:DF l []=([],2):=by rw[d,Yo om,DF];exact Y7 (oh g)
  rw[e];exact⟨.slice none 0 0,O,c.s.Al 5 1⟩
 refine gG 3 ?_;have e:DF l []=(b,0):=by rw[d,Yo om,DF];exact Y3 (oh g)
 rw[e];exact⟨_,O,c⟩
theorem xB(b:Lu)(a:Oa)(bc:Nat)(D:b.length<=1000000)(j:b.length<=bc)(x:RS I a 1 b.length (Aj b))(n:Nat)(N:La)(i:Aa B w I N):
  Cz 205 [.slice a b.length bc,Ab (n:Nat)] w λv w'=>∃d f t u,v=.tuple #[.slice d (DE b n).1.length t,.slice f (DE b n).2.1.length u,.bool (DE b n).2.2]/\(DE b n).1.length<=t/\(DE b n).2.1.length<=u/\RS I d 1 (DE b n).1.length (Aj (DE b n).1)/\RS I f 1 (DE b n).2.1.length (Aj (DE b n).2.1)/\Aa B w' I N:=by
 refine gN 7 ?_ ?_<;>intro c
 ·refine gG 3 ?_;have e:DE b n=([],[],false):=by unfold DE;exact Y7 (oh c)
  rw[e];exact⟨none,none,0,0,O,Y5 _,Y5 _,RS.nil _ _,RS.nil _ _,i⟩
 refine gG 0 ?_;obtain⟨d,m,g⟩:=Vi (hi:=n) x (Y5 _) (oh c) j;obtain⟨f,o,h⟩:=Vi (lo:=n) x (oh c) (Y9 _) j;have s:¬ b.length<n:=by have C:=c;omega
 have r:(b.take n).length=n:=by rw[Yj];omega
 have k:(b.drop n).length=b.length-n:=Y6;have z:Aj (b.take n)=((Aj b).take (n*1)).drop (0*1):=by unfold Aj;rw[ct];simp
 have A:Aj (b.drop n)=((Aj b).take (b.length*1)).drop (n*1):=by rw[Ca,Yk (by simp[Aj])];simp[Aj]
 rw[<-z,show n-0=(b.take n).length by omega]at g;rw[<-A,<-k]at h;have p:sliced a 0 n bc 1=.slice d (b.take n).length bc:=by rw[m,r];rfl
 have q:sliced a n b.length bc 1=.slice f (b.drop n).length (bc-n):=by rw[o,k]
 refine gQ ?_;intro w i;refine gH 2 (AN.y 2 (λw _ _ l i=>(.as (.Fq (.of O) (.of O) om om BC Cw) p)) (gH 2 (AN.y 5 (λw _ _ l i=>(.as (.CB (.of O) (.of O) om om BC Cw) q)) (gG 3 ?_))));have e:DE b n=(b.take n,b.drop n,true):=by unfold DE;exact Y3 s
 rw[e];exact⟨d,f,bc,bc-n,O,by dsimp only;omega,by dsimp only;omega,g,h,i⟩
theorem cQ(b:Lu)(n:Nat):(DE b n).1.length<=b.length/\(DE b n).2.1.length<=b.length/\((DE b n).2.2=true->(DE b n).1.length=n):=by
 unfold DE;split
 ·exact⟨Y5 _,Y5 _,λh=>by cases h⟩
 ·refine⟨by rw[Yj];omega,by rw[Y6];omega,λ_=>by rw[Yj];omega⟩
theorem Sm(b:Lu)(a:Oa)(J:Nat)(hb:b.length<=1000000)(S:b.length<=J)(Y:RS I a 1 b.length (Aj b))(F:0<b.length)(N:La)(c:Aa B w I N):
  Cz 111 [.slice a b.length J] w λv w'=>∃L M,v=.tuple #[.agg (DP (CO b).1).toArray,.slice L (CO b).2.1.length M,.bool (CO b).2.2]/\(CO b).2.1.length<=M/\RS I L 1 (CO b).2.1.length (Aj (CO b).2.1)/\Aa B w' I N:=by
 refine gH 3 ?_;intro b2 w c;refine gG 0 ?_;obtain⟨p,rfl,hp⟩:=Y.2 F;obtain⟨X,T,E⟩:=Vi (lo:=1) (hi:=b.length) Y om (Y9 _) S;have G:(b.drop 1).length=b.length-1:=Y6;have e9:Aj (b.drop 1)=((Aj b).take (b.length*1)).drop (1*1):=by rw[Ca,Yk (by simp[Aj])];simp[Aj]
 rw[<-e9,<-G]at E;have U:sliced (some p) 1 b.length J 1=.slice X (b.drop 1).length (J-1):=by rw[T,G]
 have ae:=En (b.getD 0 0);refine gQ ?_;intro w c;refine gH 1 (AN.j 1 (λw=>(.as (.CB (s:=1) (.of O) (.of O) de om BC Cw) U)) ?_);refine gH 2 (AN.y 4 (λw _ _ h c=>(.BG (v:=U8 (b.getD 0 0).toNat) (.of O) c ((hp.add 0).mono h) EA (cR hp F))) (gF 1 (xB _ X _ om om E _) ?_));rintro _ w ⟨ka,L,kc,M,rfl,P,A,l,o,c⟩;generalize i:DE (b.drop 1) (b.getD 0 0).toNat=KK at P A l o ⊢;have V:=cQ (b.drop 1) (b.getD 0 0).toNat;rw[i]at V;refine gH 8 (.val (.not (.of O)) O ?_);refine gM 0 ?_ ?_<;>intro f Z
 ·refine gH 4 ?_;intro w c;refine .nil (.ret ?_);refine λ_ d=>iA (b:=_) (cs:=[_,_,_]) d c (k:=0) O ig bP O O O O ?_
  have e:CO b=(⟨[],[],false⟩,[],false):=by
   unfold CO;rw[i,Y7 (su f)]
  rw[e];exact⟨_,O,none,0,O,Y5 _,RS.nil _ _,(c.y 0 1)⟩
 refine gF 1 (xB _ L M om A o 2) ?_;rintro _ w ⟨ma,sa,mc,sc,rfl,Q,z,r,m,c⟩;generalize n:DE KK.2.1 2=KM at Q z r m ⊢;have H:=cQ KK.2.1 2;rw[n]at H;refine gM 9 ?_ ?_<;>intro g aa
 ·refine gH 4 ?_;intro w c;refine .nil (.ret ?_);refine λ_ d=>iA (b:=_) d c (k:=0) O ig bP O O O O ?_
  have e:CO b=(⟨[],[],false⟩,[],false):=by
   unfold CO;rw[i,Y3 (su f),n,Y7 (su g)]
  rw[e];exact⟨_,O,none,0,O,Y5 _,RS.nil _ _,(c.y 0 1)⟩
 refine gG 0 ?_;have z:KM.2.2=true:=su g
 have ad:=H.2.2 z;obtain⟨q,rfl,K⟩:=r.2 om;have af:=En (KM.1.getD 0 0);have ag:=En (KM.1.getD 1 0);refine gQ ?_;intro w c;refine gH 2 (AN.y 2 (λw _ _ h c=>(.BG (.of O) c ((K.add 0).mono h) EA (cR K om))) (gH 4 (AN.y 7 (λw _ _ h c=>(.BG (.of O) c ((K.add 1).mono h) EA (cR K om))) (gH 1 (AN.y 9 (λw _ _ h c=>.as (.DB (.inr (.inl O)) (.of O) (.of O)) (Ye (Value.int .i64) (jg KM.1))) ?_)))));refine gN 3 ?_ ?_<;>intro x
 ·refine gH 1 (.val (.DI (.of O) c l BC BW Bb) O (gH 5 ?_));intro w c;refine .nil (.ret ?_);refine λ_ d=>iA d c (k:=0) O ig bP O O O O ?_
  have e:CO b=(⟨KK.1,[],true⟩,KM.2.1,true):=by
   unfold CO;rw[i,Y3 (su f),n,Y3 (su g),Y7 (oh x)]
  rw[e];exact⟨_,O,_,_,O,by assumption,m,(c.y 0 1)⟩
 refine gF 2 (xB _ sa sc om (by assumption) m _) ?_;rintro _ w ⟨na,ta,nc,tc,rfl,R,D,t,u,c⟩;generalize C:DE KM.2.1 (C4 KM.1)=KN at R D t u ⊢;have W:=cQ KM.2.1 (C4 KM.1);rw[C]at W;refine gH 8 (.val (.DI (.of O) c l BC BW Bb) O (gH 1 (.val (.DI (.of O) c t BC BW Bb) O (gH 6 ?_))));intro w c;refine .nil (.ret ?_);refine λ_ d=>iA d c (k:=0) O ig bP O O O O ?_
 have e:CO b=(⟨KK.1,KN.1,false⟩,KN.2.1,KN.2.2):=by
  unfold CO;rw[i,Y3 (su f),n,Y3 (su g),Y3 (oh x),C]
 rw[e];exact⟨_,O,_,_,O,D,u,(c.y 0 1)⟩
theorem ff{b:Lu}(h:b.length<=1000000):(CO b).1.key.length<=1000000/\(CO b).1.val.length<=1000000:=by
 have a:=cQ (b.drop 1) (b.getD 0 0).toNat;have c:=cQ (DE (b.drop 1) (b.getD 0 0).toNat).2.1 2;have d:=cQ (DE (DE (b.drop 1) (b.getD 0 0).toNat).2.1 2).2.1 (C4 (DE (DE (b.drop 1) (b.getD 0 0).toNat).2.1 2).1);rw[Y6]at a;unfold CO;dsimp only
 split
 ·simp
 ·split
  ·simp
  ·split
   ·exact⟨by dsimp only;omega,by simp⟩
   ·exact⟨by dsimp only;omega,by dsimp only;omega⟩
theorem uu{b:Lu}(g:0<b.length)(h:(CO b).2.2=true):(CO b).2.1.length<b.length:=by
 unfold CO at h ⊢;dsimp only at h ⊢
 have c:=cQ (b.drop 1) (b.getD 0 0).toNat;have e:=cQ (DE (b.drop 1) (b.getD 0 0).toNat).2.1 2;rw[Y6]at c;split
 ·rename_i a;rw[Y7 a]at h;cases h
 ·rename_i a;rw[Y3 a]at h
  split
  ·rename_i d;rw[Y7 d]at h;cases h
  ·split
   ·dsimp only;omega
   ·have f:=cQ (DE (DE (b.drop 1) (b.getD 0 0).toNat).2.1 2).2.1 (C4 (DE (DE (b.drop 1) (b.getD 0 0).toNat).2.1 2).1);dsimp only;omega
theorem xV:∀(k:Nat) (b:Lu) (a:List Ch),b.length<k->K2 k b a=K2 (b.length+1) b a
 | 0,b,a,h=>by omega
 | k+1,b,a,h=>by
  rw[K2,K2]
  by_cases d:b=[]
  ·rw[Y7 d,Y7 d]
  ·rw[Y3 d,Y3 d]
   by_cases c:((CO b).2.2&&IL (CO b).1)=true
   ·rw[Y7 c,Y7 c];have f:0<b.length:=LU.2 d;have e:=uu f (by simp only[Yb]at c;exact c.1);rw[xV k _ _ om,<-xV b.length _ _ e]
   ·rw[Y3 c,Y3 c]
termination_by k=>k
theorem Wk{b:Lu}(a:List Ch)(d:b≠[])(c:((CO b).2.2&&IL (CO b).1)=true):K2 (b.length+1) b a=K2 ((CO b).2.1.length+1) (CO b).2.1 (a++[(CO b).1]):=by
 have f:0<b.length:=LU.2 d;have e:=uu f (by simp only[Yb]at c;exact c.1);rw[K2,Y3 d,Y7 c,xV b.length _ _ e]
theorem Wi(b:Lu)(a:Oa)(C:Nat)(W:b.length<=1000000)(m:b.length<=C)(Q:RS I a 1 b.length (Aj b))(N:La)(f:Aa B w I N):
  Cz 59 [.slice a b.length C] w λv w'=>∃k,v=.tuple #[k,Ab ((GF b).2:Nat)]/\Aa B w' I (Ao 237 3 k (GF b).1.length (X2 DP (GF b).1)::N):=by
 refine gN 6 ?_ ?_<;>intro t
 ·refine gG 2 ?_;have e:GF b=([],8):=by unfold GF;exact Y7 (oh t)
  rw[e];exact⟨.slice none 0 0,O,f.Al 237 3⟩
 refine gG 0 ?_;replace f:=f.Al 237 3;have r:=f;clear f;refine .loop (σ:=Lu×Oa×Nat×List Ch×Va) (λ(c,p,q,d,k)=>[(0,.slice p c.length q),(4,k)]) (λ(c,p,q,d,k) w=>c.length<=q/\RS I p 1 c.length (Aj c)/\K2 (b.length+1) b []=K2 (c.length+1) c d/\d.length+c.length<=b.length/\Aa B w I (Ao 237 3 k d.length (X2 DP d)::N)) (λ(c,p,q,d,k)=>c.length) (b,a,C,[],.slice none 0 0) ⟨O,O,trivial⟩ ⟨m,Q,O,by simp,r⟩ ?_;rintro⟨c,p,q,d,k⟩ w ⟨m,D,n,U,f⟩;clear r;refine gN 3 ?_ ?_<;>intro u
 ·have l:0<c.length:=by have i:=u;omega
  have j:c≠[]:=LU.1 l;refine gF 1 (Sm c p q om m D l) ?_;rintro _ w ⟨Y,Z,rfl,F,E,f⟩;refine gG 8 ?_;intro V w f;have y:(CO c).1.key.length<=1000000/\(CO c).1.val.length<=1000000:=ff om;refine gH 4 (.AA (T:=λw=>Aa B w I _) O O O func112 O (λx=>(X4 (.gd x O) X3)) O (λx=>Xji (CO c).1 y.1 y.2 _ f) f ?_);clear f;rintro w f;refine gM 2 ?_ ?_<;>intro g H
  ·refine gG 2 ?_;have e:GF b=([],8):=by
    unfold GF;rw[Y3 om,n,K2,Y3 j];exact Y3 (by have i:=g;intro h;simp only[Yb]at h;rw[h.1,h.2]at i;simp[gd]at i)
   rw[e];exact⟨.slice none 0 0,O,f.s.Al 237 3⟩
  refine gG 7 ?_;intro K J L A w f;have o:((CO c).2.2&&IL (CO c).1)=true:=by
   cases G:(CO c).2.2 with
   | false=>have i:=g;rw[G]at i;simp[gd]at i
   | true =>
    cases P:IL (CO c).1 with
    | false=>have i:=g;rw[G,P]at i;simp[gd]at i
    | true=>rfl
  have S:=uu l (by simp only[Yb]at o;exact o.1);refine Br (_,_,_,d++[(CO c).1],_) O ⟨F,E,?_,by rw[Y0];simp only[Y4,Yi];omega,?_⟩
  ·(try dsimp only)
   rw[n,Wk d j o]
  ·(try dsimp only)
   rw[TD,Y0];exact(f.z [1] 1 1)
 obtain⟨ka,X,rfl,R,_⟩:=f.vS 0;refine gG 3 ?_;have e:GF b=(d,0):=by
  unfold GF;have M:c=[]:=Yc om;subst M;rw[Y3 om,n,K2,Y7 O]
 rw[e];exact⟨_,O,f⟩
theorem Xpi(V:List Pr)(y:Va)(A:Fw V)(l:List Ch)(a:Oa)(c0:Nat)(H:∀x∈l,IL x=true)(T:l.length<=1000000)(R:RS I a 3 l.length (X2 DP l))(N:La)(b:Aa B w I (Cq y V::N)):
  Cz 60 [y,.slice a l.length c0] w λv w'=>∃s,v=.map (some s)/\Aa B w' I (Cq (.map (some s)) (KX V l)::Cq y V::N):=by
 refine gG 1 (.l_ b O ?_);intro s w b;refine gH 2 (.Zo b (k:=1) O (.of O) Jo O ?_);intro rg w b;have f:=((b.pick 1 O).pick 1 O);clear b;refine gG 0 (.lk [1,5,12] (σ:=List Pr×List Pr×Option Pr) (λ(V1,d,last) _m=>_m) (λ(V1,d,last) w=>Fw V1/\(V1++d).Perm V/\Aa B w I (Cq (.map (some s)) V1::aY y rg V d last::N)) (λ(V1,d,last)=>d.length) ([],V,none) ⟨Fw.nil,List.Perm.refl _,f⟩ ?_);rintro⟨V1,d,last⟩ w ⟨c,g,b⟩;clear f;refine gG 0 (WL.AH b (k:=1) O (.of O) O (λX=>?_) (λe r w m b=>?_))
 ·refine gG 1 (.Bt (rfl) (gG 3 ?_));subst X;rw[Yx]at g;have D:V1=V:=Xqp g A.IB (c.IB.imp λh=>Xpm h);rw[D]at b;replace b:=b.Zs (k:=1) O;have f:=((b.pick 1 O).pick 1 O);clear b;refine .lk [5,21,22] (σ:=Nat×List Pr) (λ(i,V1) _m=>(23,Ab (i:Nat))::_m) (λ(i,V1) w=>i<=l.length/\Fw V1/\KX V l=KX V1 (l.drop i)/\Aa B w I (Cq (.map (some s)) V1::Cq y V::N)) (λ(i,V1)=>l.length-i) (0,V) ⟨Y5 _,A,O,f⟩ ?_;rintro⟨i,V1⟩ w ⟨hi,c,q,b⟩;clear f;refine gN 1 ?_ ?_<;>intro L
  ·refine gG 0 ?_;obtain⟨x,hx⟩:∃x,l[i]?=some x:=⟨_,Y2 om⟩
   have J:=H x (Y8 hx);have n:=J;simp only[IL,Yb,decide_eq_true_eq]at n
   have t:l.drop i=x::l.drop (i+1):=by rw[Yq (Y1.1 hx).1,(Y1.1 hx).2]
   obtain⟨p,E,W⟩:=Ob (l:=l) (cells:=DP) OQ b R i x hx;subst E;refine gG 0 (.val (.ii O O om om NT bP) O ?_);refine .val (.as (.Hc (.of O) (by intro j v S;rw[Yh];exact W j v S) ig bP O) O) O ?_;refine gG 4 ?_;intro Y w b;refine gM 0 ?_ ?_<;>intro o M
   ·refine gH 3 (.rE (V':=eb x.key V1) b (k:=1) O (.of O) (.of O) c.nodup (List.Perm.refl _) Jo Bb ?_);intro w b;refine gG 2 (rd (i+1,eb x.key V1) ⟨om,OZ _ c,?_,(b.z [2,2] 2 1)⟩);rw[q,t];show KX (bW V1 x) _=_
    unfold bW;rw[Y7 (su o)]
   refine gH 5 (.je (V':=JO x.key x.val V1) b (k:=1) O (.of O) (.of O) (.of O) c.nodup (s_ _ _ c.IB) Jo Bb ?_);intro w b;refine gG 2 (Br (i+1,_) O ⟨om,yY ⟨n.1.1.1,n.1.1.2⟩ n.1.2 c,?_,(b.z [2,2] 2 1)⟩);rw[q,t];show KX (bW V1 x) _=_
   unfold bW;rw[Y3 (nB o)]
  refine gG 2 ?_;rw[q,Yo om];exact⟨s,O,(b.x [1,1])⟩
 refine gG 1 (.CU (rfl) (gG 0 (.val (.WE b (k:=1) O (.of O)) O (gG 4 ?_))));have F:e.1 ∉ V1.map Prod.fst:=by
  intro U;have P:=((g.trans (List.Perm.refl V)).map Prod.fst).nodup_iff.2 A.nodup;rw[Yn,zy]at P;exact P.2.2 _ U _ ((m.map Prod.fst).mem_iff.2 sz) O
 have G:e∈V:=g.mem_iff.1 (kK _ (m.mem_iff.2 sz));have u:=A.each e G;have C:Fw (JO e.1 e.2 V1):=yY u.1 u.2 c;refine gH 3 (.je (V':=JO e.1 e.2 V1) b (k:=0) O (.of O) (.of O) (.of O) c.nodup (s_ _ _ c.IB) Jo Bb ?_);intro w b;refine gG 0 ?_;refine Br (_,_,_) O ⟨C,?_,((b.pick 1 O).pick 1 O)⟩ (by have Q:=m.length_eq;(try dsimp only);simp only[Y4]at Q;omega);have K:=s_ e.1 e.2 c.IB;rw[wF F]at K;exact(K.append_right r).trans ((qP.symm.trans (m.symm.append_left V1)).trans g)
section
open Go.Shelf Go.RowKit Go.Lib Go.Sort
theorem q9q{P:Program}{f:FuncId}{B:Func}(h:(((P.funcs[f]?).map Func.name).getD default== "runtime.NumGoroutine")=false:=by kernel_rfl)(k:P.funcs[f]?=some { B with name:=((P.funcs[f]?).map Func.name).getD default }:=by kernel_rfl):Bears P f B:=⟨_,h,k⟩
abbrev KDr:Ren:=⟨fun|6=>114|15=>207|14=>206|28=>300|29=>275|20=>292|21=>293|22=>294|23=>295|24=>296|25=>297|26=>298|27=>299|46=>361|47=>362|48=>363|49=>364|50=>365|57=>408|n=>n,fun|22=>63|24=>99|25=>243|39=>151|53=>389|55=>41|46=>412|45=>411|50=>329|66=>465|70=>469|76=>496|77=>497|n=>n,fun|n=>n⟩
theorem KD:SlLaysF0.n6 prog KDr:=by constructor<;>first|kernel_rfl|(intro w;kernel_rfl)|exact q9q
theorem MG(x y:Pr)(W:Wo):Calls prog 115 #[.agg #[S x.1,S x.2],.agg #[S y.1,S y.2]] W λe w'=>e=.returned (.int .i64 (Wc x y))/\∃q rR,w'=grow (W.drewN q) rR:=by
 have a:=λb=>strings_Compare ⟨x.1.toArray⟩ ⟨y.1.toArray⟩ b
 change ∀b,Calls prog 116 _ _ _ at a;have c:compareBytes (⟨x.1.toArray⟩:ByteArray).data.toList (⟨y.1.toArray⟩:ByteArray).data.toList=Wc x y:=rfl;rw[c]at a;generalize Wc x y=r at a ⊢
 go_enter func115,ntmps115
 go_wp2_with (go_at_call 116;refine(a _).mono ?_;rintro e w' ⟨rfl,rfl⟩)
 go_ret
 exact⟨O,0,_,by rw[alloc_eq_grow,alloc_eq_grow,grow_grow];rfl⟩
theorem Te(l:List Pr)(J:Va)(k:Nat)(N:La)(z:Aa B w I N)(A:N[k]?=some (Ao 99 2 J l.length (X2 X8 l)))(Z:l.length<=1000000):
  Cz 114 [J,.func (.func 115) #[] #[]] w λv w'=>v=.tuple #[]/\∃D,D.Perm l/\D.Pairwise (λp q=>Eu q.1 p.1=false)/\Aa B w' I (N.set k (Ao 99 2 J D.length (X2 X8 D))):=by
 obtain⟨a,c,rfl,Y,_⟩:=z.AP A;cases a with
 | none =>
  have P:l=[]:=z.CX A λ_ ⟨_,T⟩=>by
   rcases T with⟨_,h,_⟩|⟨b,cap,r,C,_⟩
   ·exact Yc h
   ·cases C
  subst P;refine(AnyF.slices_SortFunc_none KD none c (.func (.func 115) #[] #[]) w).mono ?_;rintro e w' ⟨rfl,rfl⟩;have K:N.set k (Ao 99 2 (.slice none 0 c) 0 (X2 X8 []))=N:=by
   have:=(Y1.1 A).2
   exact(Ye (N.set k) this.symm).trans (kL _)
  exact⟨_,O,O,[],List.Perm.refl _,List.Pairwise.nil,by show Aa B w' I (N.set k (Ao 99 2 (.slice none 0 c) 0 (X2 X8 [])));rw[K];exact z⟩
 | some a =>
  obtain⟨g,rfl,S,R,n⟩:=Aa.ZR (Ar:=X8) (λ_=>rfl) de z O A;have M:∀args w,(callFunc 115 args).run prog w=.ok (.enter 115 args) w:=enters_of func115 kr O;have s:=AnyQ.slices_SortFunc KD 2 F3 JN X8 (λ_=>rfl) (λx v C=>by simp[X8]at C;rcases C with rfl|rfl<;>rfl) Wc Aao 115 #[] g 0 c l.toArray w M (λ_ _ _ _ x y=>MG x y _) R S (by simp;omega);refine s.mono ?_;rintro e w' ⟨rfl,d,m,X,⟨G,V,H⟩,W,rfl⟩;have f:d.size=l.length:=su G
  have o:d.toList.Perm l:=by
   have Q:List.take l.length d.toList=d.toList:=Yk (by rw[T4,f];exact Y9 _);rw[<-Q];simpa using H
  refine⟨_,O,O,d.toList,o,uZ.2 λi j hi U F=>?_,?_⟩
  ·have E:i<d.size:=su hi
   have t:j<d.size:=su U
   have u:=W i j (Y5 _) F (by show j<l.length;rw[<-f];exact t);rw[getElem!_pos d j t,getElem!_pos d i E]at u;exact u
  ·have u:=n m d X f;have L:d.toList.length=l.length:=by rw[T4,f]
   rw[L];exact u
end
theorem MH{V W:List Pr}(h:V.Perm W)(p:Lu):(DL V p).Perm (DL W p):=h.filter _
theorem Xja(l:List Pr)(x:Pr)(p:Lu):DL (l++[x]) p=DL l p++(if Go.Lib.hasPrefix x.1 p then[x]else[]):=by
 unfold DL;rw[VB];congr 1;rw[JQ];rfl
theorem Xj9(V:List Pr)(m:Va)(u:Fw V)(F:V.length<=1000000)(p:Lu)(H:p.length<=1000)(N:La)(a:Aa B w I (Cq m V::N)):
  Cz 61 [m,S p] w λv w'=>∃g,v=g/\Aa B w' I (Ao 99 2 g (DL V p).length (X2 X8 (DL V p))::Cq m V::N):=by
 refine gH 3 (.Zo a (k:=0) O (.of O) Jo O ?_);intro rg w a;have i:=(a).Al 99 2;clear a;refine gG 0 (.lk [1,9] (σ:=List Pr×List Pr×Option Pr×Va) (λ(done,b,last,g) _m=>(5,g)::_m) (λ(done,b,last,g) w=>(done++b).Perm V/\Aa B w I (Ao 99 2 g (DL done p).length (X2 X8 (DL done p))::aY m rg V b last::N)) (λ(done,b,last,g)=>b.length) ([],V,none,.slice none 0 0) ⟨List.Perm.refl _,i⟩ ?_);rintro⟨done,b,last,g⟩ w ⟨c,a⟩;clear i;refine gG 0 (WL.AH a (k:=1) O (.of O) O (λJ=>?_) (λd f w e a=>?_))
 ·refine gG 1 (.Bt (rfl) (gG 0 ?_));subst J;rw[Yx]at c;replace a:=a.Zs (k:=1) O;have j:(DL done p).length<=1000000:=by
   have E:(DL done p).length<=done.length:=EV ..;have t:=c.length_eq;omega
  refine gC 1 (Te _ g 0 _ a O j) ?_;rintro _ w ⟨rfl,K,o,r,a⟩;try dsimp only[List.set]at a
  refine gG 2 ?_;have D:K=DL V p:=Xqp (o.trans (MH c p)) (u.IB.filter _) r;rw[D]at a;exact⟨g,O,a.s⟩
 try dsimp only[List.set]at a
 refine gG 1 (.CU (rfl) (gG 0 (.val (.WE a (k:=1) O (.of O)) O (gG 4 ?_))));have q:d∈V:=c.mem_iff.1 (kK _ (e.mem_iff.2 sz));have G:=u.each d q;have j:(DL done p).length<=1000000:=by
  have E:(DL done p).length<=done.length:=EV ..;have t:=c.length_eq;rw[Y0]at t;omega
 refine gE 2 (xK _ p om H) ?_;intro w a;refine gM 0 ?_ ?_<;>intro h y
 ·refine gG 7 ?_;intro A z C l w a;refine Br (done++[d],f,some d,_) O ⟨?_,?_⟩ (by have n:=e.length_eq;(try dsimp only);simp only[Y4]at n;omega)
  ·(try dsimp only)
   rw[Yg];exact((e.symm.append_left done)).trans c
  ·(try dsimp only)
   rw[Xja];rw[Y7 h];rw[TD,Y0];exact(a.x [1,1])
 refine gG 0 ?_;refine Br (done++[d],f,some d,_) O ⟨?_,?_⟩ (by have n:=e.length_eq;(try dsimp only);simp only[Y4]at n;omega)
 ·(try dsimp only)
  rw[Yg];exact((e.symm.append_left done)).trans c
 ·(try dsimp only)
  rw[Xja];rw[Y3 (nB h),Yx]
  skip
  exact(a.x [1,1])
theorem M_(p:Pr)(V:List Pr):Oq (p::V) []=Oq V ([]++[B2 ⟨p.1,p.2,false⟩]):=by
 rw[Oq];exact Y3 sz
theorem Tc{p:Pr}{V:List Pr}{dn:List Lu}{la:Lu}(h:la.length+(B2 ⟨p.1,p.2,false⟩).length<=4000):Oq (p::V) (dn++[la])=Oq V (dn++[la++B2 ⟨p.1,p.2,false⟩]):=by
 rw[Oq];have a:(dn++[la]).getLastD []=la:=by simp
 have b:(dn++[la]).dropLast=dn:=by simp
 rw[a,b];exact Y7 ⟨by simp,h⟩
theorem ZQ{p:Pr}{V:List Pr}{dn:List Lu}{la:Lu}(h:¬ la.length+(B2 ⟨p.1,p.2,false⟩).length<=4000):Oq (p::V) (dn++[la])=Oq V ((dn++[la])++[B2 ⟨p.1,p.2,false⟩]):=by
 rw[Oq];have a:(dn++[la]).getLastD []=la:=by simp
 rw[a];exact Y3 λb=>h b.2
def Q3(i:Nat)(dn:List Lu)(a:Lu):List Lu:=if i=0 then[]else dn++[a]
def h_(i:Nat)(cs:Lv)(a:Va):Lv:=if i=0 then[]else cs++[a]
theorem Xqm(V:List Pr)(mv:Va)(hV:Fw V)(ay:V.length<=1000000)(N:La)(b:Aa B w I (Cq mv V::N)):
  Cz 175 [mv] w λv w'=>∃J a c cs,v=.slice a (Q2 V).length c/\Le I J/\(Q2 V).length<=V.length/\(∀x∈Q2 V,x.length<=4000)/\D4 J (Q2 V) cs/\RS J a 1 (Q2 V).length cs/\Aa B w' J (Cq mv V::N):=by
 refine gF 3 (Xj9 V mv hV ay [] (Y5 _)) ?_;rintro _ w ⟨pv,rfl,b⟩;obtain⟨pa,pc,rfl,a3,_⟩:=b.vS 0;have aw:=b.fV 0;clear b;obtain⟨J0,ab,W,b⟩:=aw;generalize hQ:DL V []=Q at a3 W ⊢;have a6:Q2 V=Oq Q []:=by rw[<-hQ];rfl
 have ae:=(b.Al 5 1).Al 44 1;clear b;refine gG 2 (.lk [9,10] (σ:=Nat×List Lu×Lv×Lu×Va×Va×Im) (λ(i,dn,cs,la,G,kv,J) _m=>(3,kv)::(11,Ab (i:Nat))::_m) (λ(i,dn,cs,la,G,kv,J) w=>i<=Q.length/\Q2 V=Oq (Q.drop i) (Q3 i dn la)/\(i=0->dn=[]/\cs=[])/\dn.length<=i-1/\(∀x∈dn,x.length<=4000)/\la.length<=4000/\D4 J dn cs/\Le J0 J/\Aa B w J (Ao 44 1 kv (Q3 i dn la).length (h_ i cs G)::Ao 5 1 G (la).length (Aj (la))::Cq mv V::N)) (λ(i,dn,cs,la,G,kv,J)=>Q.length-i) (0,[],[],[],.slice none 0 0,.slice none 0 0,J0) ⟨Y5 _,a6,λ_=>⟨O,O⟩,Y5 _,λx hx=>by simp at hx,Y5 _,⟨O,λi x h=>by simp at h⟩,Le.refl _,ae⟩ ?_);rintro⟨i,dn,cs,la,G,kv,J⟩ w ⟨hi,M,hz,bi,Y,ah,C,S,b⟩;clear ae;have av:Q.length<=1000000:=by have:Q.length<=V.length:=by { rw[<-hQ];exact EV .. };omega
 refine gN 1 ?_ ?_<;>intro bb
 ·refine .skip (.seq (.block (.seq ?_)));rcases JP i with H|H
  ·obtain⟨rfl,rfl⟩:=hz H;have m:Q3 i [] la=[]:=Y7 H;have u:h_ i [] G=[]:=Y7 H;rw[m,u,Yi]at b;obtain⟨ka,kc,rfl,ag,_⟩:=b.vS 0;obtain⟨pr,o⟩:∃pr,Q[i]?=some pr:=⟨_,Y2 om⟩
   have F:pr∈V:=by have h:=Y8 o;rw[<-hQ]at h;exact(Ik.1 h).1
   have az:=hV.each pr F;have aj:(B2 ⟨pr.1,pr.2,false⟩).length<=400:=by unfold B2;simp;omega
   have L:Q.drop i=pr::Q.drop (i+1):=by rw[Yq (Y1.1 o).1,(Y1.1 o).2]
   obtain⟨p,X,hp⟩:=Ob (l:=Q) (cells:=X8) (s:=2) (λ_=>rfl) b (W.mono S) i pr o;subst X;refine gG 0 (.val (.ii O O om om Ov JN) O ?_);refine .val (.as (.Hc (vs:=X8 pr) (.of O) (by intro j v hj;rw[Yh];exact hp j v hj) F3 JN O) O) O ?_;refine gH 7 ?_;intro b5 w b;refine gF 0 (yc ⟨pr.1,pr.2,false⟩ od od) ?_;rintro _ w ⟨fv,rfl,b⟩;obtain⟨P,R,rfl,a0,_⟩:=b.vS 0;refine gH 10 (.Am (v:=ptr 0 0) O O (λr=>Aw r de) O (.Am (v:=.slice none 0 0) O O (λr=>Aw r de) O ?_));refine gG 6 (.Bt (rfl) (gG 7 ?_));intro ar aq au K w b;refine Br (i+1,[],[],B2 ⟨pr.1,pr.2,false⟩,.slice P (B2 ⟨pr.1,pr.2,false⟩).length R,_,J) O ⟨om,?_,λh=>Aw h om,by simp,λx hx=>by simp at hx,om,⟨O,λi x h=>by simp at h⟩,S,?_⟩
   ·(try dsimp only)
    rw[M,L,m,show Q3 (i+1) [] (B2 ⟨pr.1,pr.2,false⟩)=[]++[B2 ⟨pr.1,pr.2,false⟩] from Y3 om];exact M_ pr _
   ·(try dsimp only)
    rw[show Q3 (i+1) [] (B2 ⟨pr.1,pr.2,false⟩)=[]++[B2 ⟨pr.1,pr.2,false⟩] from Y3 om,show h_ (i+1) [] (Value.slice P (B2 ⟨pr.1,pr.2,false⟩).length R)=[]++[Value.slice P (B2 ⟨pr.1,pr.2,false⟩).length R] from Y3 om];exact(b.z [4,1,3] 3 2)
  have m:Q3 i dn la=dn++[la]:=Y3 om;have u:h_ i cs G=cs++[G]:=Y3 om;rw[m,u,Y0,LS]at b;obtain⟨d,f,rfl,D,_⟩:=b.vS 1;obtain⟨ob,oc,HV,rfl,ai,ak,bd,A,b⟩:=b.AF (k:=0) O sz;obtain⟨pr,o⟩:∃pr,Q[i]?=some pr:=⟨_,Y2 om⟩
  have F:pr∈V:=by have h:=Y8 o;rw[<-hQ]at h;exact(Ik.1 h).1
  have az:=hV.each pr F;have aj:(B2 ⟨pr.1,pr.2,false⟩).length<=400:=by unfold B2;simp;omega
  have L:Q.drop i=pr::Q.drop (i+1):=by rw[Yq (Y1.1 o).1,(Y1.1 o).2]
  obtain⟨p,X,hp⟩:=Ob (l:=Q) (cells:=X8) (s:=2) (λ_=>rfl) b (W.mono S) i pr o;subst X;refine gG 0 (.val (.ii O O om om Ov JN) O ?_);refine .val (.as (.Hc (vs:=X8 pr) (.of O) (by intro j v hj;rw[Yh];exact hp j v hj) F3 JN O) O) O ?_;refine gH 7 ?_;intro b5 w b;refine gF 0 (yc ⟨pr.1,pr.2,false⟩ od od) ?_;rintro _ w ⟨fv,rfl,b⟩;obtain⟨P,R,rfl,a0,_⟩:=b.vS 0;refine gH 10 (.Am O O (λr=>.indexAddr (.gd r O) (.gd r O) om om jZ FR) O ?_);refine .Am (v:=.slice d la.length f) O O (λr=>(.ld (.gd r O) b (k:=2) O KZ (by have e:∀q,q=cs.length->(cs++[Value.slice d la.length f]++HV)[q]?=some (Value.slice d la.length f):=by { intro q hq;subst hq;simp };exact e _ (by rw[C.1];omega)))) O ?_;refine gN 6 ?_ ?_<;>intro bc
  ·refine gH 6 (.val (.io O O om om jZ FR) O ?_);refine .val (.ld (v:=.slice d la.length f) (.of O) b (k:=2) O KZ (by have e:∀q,q=cs.length->(cs++[Value.slice d la.length f]++HV)[q]?=some (Value.slice d la.length f):=by { intro q hq;subst hq;simp };exact e _ (by rw[C.1];omega))) O ?_;refine gH 1 (.FU (size:=1) (bytes:=1) b (.of O) (.of O) (k:=3) (j:=0) O O BC Xt O O O O (H7 _) ⟨om,by unfold maxLen;omega⟩ O ?_);intro a9 w b;dsimp only[List.set]at b;obtain⟨Z,nc,rfl,bj,_⟩:=b.AP (k:=3) (v:=a9) O;refine .val (.io O O om om jZ FR) O (.s1 b (k:=2) O O O O FR (by simp only[Y0,Y4,Yi,C.1];omega) ?_);intro w b;dsimp only[List.set]at b;have a5:∀q,q=cs.length->(cs++[Value.slice d la.length f]++HV).set q (.slice Z (la.length+(B2 ⟨pr.1,pr.2,false⟩).length) nc)=(cs++[.slice Z (la.length+(B2 ⟨pr.1,pr.2,false⟩).length) nc])++HV:=by
    intro q hq;subst hq;simp
   rw[a5 _ (by rw[C.1];omega)]at b;refine gG 2 ?_;replace b:=(((((b.pick 4 O).pick 4 O).pick 4 O).drop (k:=3) O).drop (k:=3) O)
   replace b:=b.A1 (k:=0) (g:=ob) (cap:=oc) (rest:=HV) (xs:=cs++[.slice Z (la.length+(B2 ⟨pr.1,pr.2,false⟩).length) nc]) (n:=dn.length+1) (E:=44) (size:=1) O (su ai) ak (by rw[Y0,C.1];simp) (by rw[Y0,C.1];rw[Y0,C.1]at A;simpa using A);refine rd (i+1,dn,cs,la++B2 ⟨pr.1,pr.2,false⟩,.slice Z (la++B2 ⟨pr.1,pr.2,false⟩).length nc,.slice (some ⟨ob,0,none⟩) (dn.length+1) oc,J) ⟨om,?_,λh=>Aw h om,om,Y,by rw[Y0];omega,C,S,?_⟩
   ·(try dsimp only)
    rw[M,L,show Q3 (i+1) dn (la++B2 ⟨pr.1,pr.2,false⟩)=dn++[la++B2 ⟨pr.1,pr.2,false⟩] from Y3 om,m];exact Tc om
   ·(try dsimp only)
    rw[show Q3 (i+1) dn (la++B2 ⟨pr.1,pr.2,false⟩)=dn++[la++B2 ⟨pr.1,pr.2,false⟩] from Y3 om,show h_ (i+1) cs (Value.slice Z (la++B2 ⟨pr.1,pr.2,false⟩).length nc)=cs++[Value.slice Z (la++B2 ⟨pr.1,pr.2,false⟩).length nc] from Y3 om,Y0,Y0,show Aj (la++B2 ⟨pr.1,pr.2,false⟩)=Aj la++Aj (B2 ⟨pr.1,pr.2,false⟩) from Yn];exact b
  replace b:=(b.pick 2 O)
  replace b:=b.A1 (k:=0) (g:=ob) (cap:=oc) (rest:=HV) (xs:=cs++[.slice d la.length f]) (n:=dn.length+1) (E:=44) (size:=1) O (su ai) ak (by rw[Y0,C.1];simp) (by rw[Y0,C.1];rw[Y0,C.1]at A;simpa using A);try dsimp only[List.set]at b
  refine gG 7 ?_;intro ar aq au K w b;replace b:=(((((b.pick 4 O).pick 4 O).pick 3 O).pick 3 O).drop (k:=4) O)
  obtain⟨J2,t,U,b⟩:=b.fV 2;try dsimp only[List.eraseIdx]at b
  refine Br (i+1,dn++[la],cs++[.slice d la.length f],B2 ⟨pr.1,pr.2,false⟩,.slice P (B2 ⟨pr.1,pr.2,false⟩).length R,_,J2) O ⟨om,?_,λh=>Aw h om,by rw[Y0];simp only[Y4,Yi];omega,λx hx=>?_,om,(C.mono t).app D U,S.trans t,?_⟩
  ·(try dsimp only)
   rw[M,L,show Q3 (i+1) (dn++[la]) (B2 ⟨pr.1,pr.2,false⟩)=(dn++[la])++[B2 ⟨pr.1,pr.2,false⟩] from Y3 om,m];exact ZQ om
  ·rcases Yt.1 hx with hx|hx
   ·exact Y x hx
   ·simp at hx;subst hx;exact ah
  ·(try dsimp only)
   rw[show Q3 (i+1) (dn++[la]) (B2 ⟨pr.1,pr.2,false⟩)=(dn++[la])++[B2 ⟨pr.1,pr.2,false⟩] from Y3 om,show h_ (i+1) (cs++[Value.slice d la.length f]) (Value.slice P (B2 ⟨pr.1,pr.2,false⟩).length R)=(cs++[Value.slice d la.length f])++[Value.slice P (B2 ⟨pr.1,pr.2,false⟩).length R] from Y3 om,Y0,Y0];exact b
 refine gH 2 (.nil (.ret ?_));refine λ_ a4=>E3 a4 O ?_
 have af:Q2 V=Q3 i dn la:=by rw[M,Yo om];rfl
 have av:Q.length<=V.length:=by rw[<-hQ];exact EV ..
 rw[af];rcases JP i with H|H
 ·obtain⟨rfl,rfl⟩:=hz H;have m:Q3 i [] la=[]:=Y7 H;have u:h_ i [] G=[]:=Y7 H;rw[m,u,Yi]at b;rw[m];obtain⟨ka,kc,rfl,ag,_⟩:=b.vS 0;obtain⟨J2,t,T,b⟩:=b.fV 0;try dsimp only[List.eraseIdx]at b
  exact⟨_,O,J2,ka,kc,[],O,ab.trans (S.trans t),Y5 _,λx hx=>by simp at hx,⟨O,λi x h=>by simp at h⟩,T,b.y 0 1⟩
 have m:Q3 i dn la=dn++[la]:=Y3 om;have u:h_ i cs G=cs++[G]:=Y3 om;rw[m,u]at b;rw[m];obtain⟨d,f,rfl,D,_⟩:=b.vS 1;obtain⟨ka,kc,rfl,ag,_⟩:=b.vS 0;obtain⟨J2,t,U,b⟩:=b.fV 1;try dsimp only[List.eraseIdx]at b
 obtain⟨J3,ac,T,b⟩:=b.fV 0;try dsimp only[List.eraseIdx]at b
 refine⟨_,O,J3,ka,kc,cs++[.slice d la.length f],O,ab.trans (S.trans (t.trans ac)),by rw[Y0,LS];omega,λx hx=>?_,((C.mono t).app D U).mono ac,T,b⟩;rcases Yt.1 hx with hx|hx
 ·exact Y x hx
 ·simp at hx;subst hx;exact ah
structure H5(s:St):Prop where
 log:Q5 s.log
 Av:Fw s.Av
theorem wD:∀(l:List Ch) (a:Lu),(DF l a).2=0->∀c∈l,IL c=true
 | [],_,_,c,h=>by simp at h
 | x::l,a,h,c,b=>by
  rw[DF]at h;split at h
  ·rename_i hx
   rcases Ys.1 b with rfl|b
   ·exact hx
   ·exact wD l _ h c b
  ·cases h
theorem Xxc(k v:Lu):∀V:List Pr,(JO k v V).length<=V.length+1
 | []=>by simp[JO]
 | p::V=>by
  unfold JO;split
  ·simp
  ·split
   ·simp
   ·have:=Xxc k v V;simp only[Y4];omega
theorem s6(l:List Ch):∀V:List Pr,(KX V l).length<=V.length+l.length:=by
 induction l with
 | nil=>intro V;exact Y9 _
 | cons c l a =>
  intro V;have b:=a (bW V c);have d:(bW V c).length<=V.length+1:=by
   unfold bW;split
   ·exact Nat.le_succ_of_le (EV ..)
   ·exact Xxc _ _ _
  show(KX (bW V c) l).length<=_
  rw[Y4];omega
def K1(s:St)(l:List Ch):Nat×Lg:=if(GZ s.log (DF l []).1).1=5 then Hp (GZ s.log (DF l []).1).2 (Q2 (KX s.Av l))else GZ s.log (DF l []).1
theorem OS{s:St}(h:Q5 s.log)(l:List Ch):Q5 (K1 s l).2:=by
 unfold K1;split
 ·exact Xgn (wA h _) _
 ·exact wA h _
theorem sL{s:St}{l:List Ch}(h:¬ ((DF l []).2≠0\/l=[])):EB s l=if(K1 s l).1=0 then(0,⟨(K1 s l).2,KX s.Av l⟩)else((K1 s l).1,⟨(K1 s l).2,s.Av⟩):=by
 unfold EB K1;rw[Y3 h]
theorem Xzc{s:St}(h:H5 s)(l:List Ch):H5 (EB s l).2/\(EB s l).2.Av.length<=s.Av.length+l.length:=by
 by_cases a:(DF l []).2≠0\/l=[]
 ·have:EB s l=((DF l []).2,s):=by unfold EB;exact Y7 a
  rw[this];exact⟨h,JR _ _⟩
 ·rw[sL a];have b:=wD l [] om
  split
  ·exact⟨⟨OS h.log l,tE h.Av b⟩,s6 _ _⟩
  ·exact⟨⟨OS h.log l,h.Av⟩,JR _ _⟩
theorem Xsl{s:St}(h:H5 s):H5 (Ho s).2:=⟨Xgn h.log _,h.Av⟩
theorem XI(s:St)(e lg db kb:Nat)(a us sv pl:Va)(p:Lu)(h:p.length<=1000)(g:Fw s.Av)(b:s.Av.length<=1000000)(N:La)(f:Aa B w I (Ad e [ptr lg 0,a] 141::Ad lg [ptr db 0,Ab (s.log).gen,Ab (s.log).AG,Ab (s.log).used,us] 229::BA db kb sv pl (s.log).d (Cq a (s.Av)::N))):
  Cz 31 [ptr e 0,S p] w λv w'=>∃c,v=c/\Aa B w' I (Ao 99 2 c (DL s.Av p).length (X2 X8 (DL s.Av p))::Ad e [ptr lg 0,a] 141::Ad lg [ptr db 0,Ab (s.log).gen,Ab (s.log).AG,Ab (s.log).used,us] 229::BA db kb sv pl (s.log).d (Cq a (s.Av)::N)):=by
 refine gF 6 (Xj9 _ a g b p h) ?_;rintro _ w ⟨c,rfl,f⟩;exact gG 1 ⟨_,O,f.s⟩
theorem Xsk(s:St)(L lg db kb:Nat)(u us sv pl:Va)(l:List Ch)(a:Oa)(c0:Nat)(W:∀x∈l,x.key.length<=1000000/\x.val.length<=1000000)(U:l.length<=100000)(hV:AZ I)(C:RS I a 3 l.length (X2 DP l))(K:H5 s)(aj:s.Av.length<=900000)(hP:Ay I pl s.log.d.Au)(hU:Bh I us s.log.data)(N:La)(b:Aa B w I (Ad L [ptr lg 0,u] 141::Ad lg [ptr db 0,Ab (s.log).gen,Ab (s.log).AG,Ab (s.log).used,us] 229::BA db kb sv pl (s.log).d (Cq u (s.Av)::N))):
  Cz 154 [ptr L 0,.slice a l.length c0] w λv w'=>∃J H n p j,v=Ab ((EB s l).1:Nat)/\Le I J/\Ay J j (EB s l).2.log.d.Au/\Bh J n (EB s l).2.log.data/\Aa B w' J (Ad L [ptr lg 0,H] 141::Ad lg [ptr db 0,Ab ((EB s l).2.log).gen,Ab ((EB s l).2.log).AG,Ab ((EB s l).2.log).used,n] 229::BA db kb p j ((EB s l).2.log).d (Cq H ((EB s l).2.Av)::N)):=by
 refine gF 2 (Wx l a c0 W U C) ?_;rintro _ w ⟨bv,rfl,b⟩;obtain⟨ba,bc,rfl,al,_⟩:=b.vS 0;refine gN 12 ?_ ?_<;>intro q
 ·refine gG 2 ?_;have e:EB s l=((DF l []).2,s):=by
   unfold EB;refine Y7 ?_;have y:=q;rcases y with h|h
   ·exact .inl om
   ·exact .inr (Yc om)
  rw[e];exact⟨I,u,us,sv,pl,O,Le.refl _,hP,hU,b.s⟩
 have F:¬ ((DF l []).2≠0\/l=[]):=by
  have y:=q;rintro(h|h)
  ·omega
  ·subst h;simp at y
 have am:=Xvj l [] om;have G:=wD l [] om
 have T:=tE K.Av G;have an:=s6 l s.Av;refine gF 5 (Xpi _ u K.Av l a c0 G om C) ?_;rintro _ w ⟨mb,rfl,b⟩;refine gH 1 (.nil (.ck [0,7] (σ:=Im×Va×Va×Va) (λ(J,m,f,g) _m=>(6,Ab ((K1 s l).1:Nat))::_m) (λ(J,m,f,g) w=>Le I J/\Ay J f (K1 s l).2.d.Au/\Bh J g (K1 s l).2.data/\Aa B w J (Ad L [ptr lg 0,u] 141::Ad lg [ptr db 0,Ab ((K1 s l).2).gen,Ab ((K1 s l).2).AG,Ab ((K1 s l).2).used,g] 229::BA db kb m f ((K1 s l).2).d (Cq u (s.Av)::Cq (.map (some mb)) (KX s.Av l)::N))) ?_ ?_))
 ·refine gH 5 ?_;obtain⟨J1,c,Q,b⟩:=b.fV 2;try dsimp only[List.eraseIdx]at b
  refine gF 0 (Xt9 _ lg db kb us sv pl _ ba bc om (hV.mono c) Q K.log (hP.mono c) (hU.mono c)) ?_;rintro _ w ⟨J2,p,j,n,rfl,t,z,D,b⟩;refine gN 3 ?_ ?_<;>intro r
  ·refine gD [6] [] [0,1,2,3,4,5,6,7] ?_;intro w b;refine gF 5 (Xqm _ (.map (some mb)) T om) ?_;rintro _ w ⟨J3,xa,xc,xs,rfl,o,ao,V,hX,R,b⟩;refine gF 0 (Xd6 _ lg db kb n p j _ xs xa xc (λx hx=>by have:=V x hx;omega) om ((hV.mono (c.trans t)).mono o) hX R (wA K.log _) (z.mono o) (D.mono o)) ?_;rintro _ w ⟨J4,Y,X,Z,rfl,M,P,S,b⟩;refine gG 1 ?_;have e:K1 s l=Hp (GZ s.log (DF l []).1).2 (Q2 (KX s.Av l)):=Y7 (oh r);rw[e];exact cd ⟨J4,Y,X,Z⟩ ⟨c.trans (t.trans (o.trans M)),P,S,(b.x [4,5,5,5,5,5,6])⟩
  refine gG 0 ?_;have e:K1 s l=GZ s.log (DF l []).1:=Y3 (oh r);rw[e];exact cd ⟨J2,p,j,n⟩ ⟨c.trans t,z,D,(b.x [4,5,5,5,5,5,6])⟩
 rintro⟨J,m,f,g⟩ w ⟨hJ,A,E,b⟩;refine gN 2 ?_ ?_<;>intro i
 ·refine gG 7 ?_;intro w b;rw[sL F,Y7 (oh i)];exact⟨J,_,g,m,f,by have y:=i;rw[y];rfl,hJ,A,E,(((((((b.pick 6 O).pick 5 O).pick 5 O).pick 5 O).pick 5 O).pick 5 O).drop (k:=6) O)⟩
 refine gG 2 ?_;rw[sL F,Y3 (oh i)];exact⟨J,u,g,m,f,O,hJ,A,E,b.s⟩
theorem Xoc(s:St)(n lg db kb:Nat)(c us sv pl:Va)(z:AZ I)(r:H5 s)(A:s.Av.length<=900000)(u:Ay I pl s.log.d.Au)(y:Bh I us s.log.data)(N:La)(g:Aa B w I (Ad n [ptr lg 0,c] 141::Ad lg [ptr db 0,Ab (s.log).gen,Ab (s.log).AG,Ab (s.log).used,us] 229::BA db kb sv pl (s.log).d (Cq c (s.Av)::N))):
  Cz 89 [ptr n 0] w λv w'=>∃J f o e,v=Ab ((Ho s).1:Nat)/\Le I J/\Ay J e (Ho s).2.log.d.Au/\Bh J f (Ho s).2.log.data/\Aa B w' J (Ad n [ptr lg 0,c] 141::Ad lg [ptr db 0,Ab ((Ho s).2.log).gen,Ab ((Ho s).2.log).AG,Ab ((Ho s).2.log).used,f] 229::BA db kb o e ((Ho s).2.log).d (Cq c ((Ho s).2.Av)::N)):=by
 refine gG 1 (gD [0] [] [0,1,2,3,4,5,6,7,8,9,10] ?_);intro w g;refine gF 8 (Xqm _ c r.Av om) ?_;rintro _ w ⟨G,E,F,xs,rfl,a,D,l,C,j,g⟩;refine gF 0 (Xd6 _ lg db kb us sv pl _ xs E F (λx hx=>by have:=l x hx;omega) om (z.mono a) C j r.log (u.mono a) (y.mono a)) ?_;rintro _ w ⟨t,p,m,q,rfl,h,i,k,g⟩;have b:=a.trans h;exact gG 1 ⟨t,q,p,m,O,b,i,k,(g.x [4,4,4,4,4,5])⟩
def BQ(d:Dk):Nat×St :=
 if(CG d).1≠0 then((CG d).1,⟨(CG d).2,[]⟩)else
 let r:=TV (Du ((CG d).2.data.length+1) (CG d).2.data []).1 []
 if r.2≠0 then(r.2,⟨(CG d).2,[]⟩)else(0,⟨(CG d).2,r.1⟩)
theorem Xis:∀(k:Nat) (b:Lu) (a:List Ch),(∀c∈a,IL c=true)->(∀c∈(K2 k b a).1,IL c=true)/\(K2 k b a).1.length<=a.length+b.length
 | 0,b,a,h=>⟨h,JR _ _⟩
 | k+1,b,a,h=>by
  rw[K2];split
  ·exact⟨h,JR _ _⟩
  ·rename_i g
   split
   ·rename_i e
    simp only[Yb]at e
    have i:=uu (LU.2 g) e.1;have f:=Xis k (CO b).2.1 (a++[(CO b).1]) (λc d=>by
     rcases Yt.1 d with d|d
     ·exact h c d
     ·simp at d;subst d;exact e.2)
    refine⟨f.1,Yr f.2 ?_⟩;rw[Y0,LS];omega
   ·exact⟨λc d=>by simp at d,Y5 _⟩
theorem Xir(b:Lu):(∀c∈(GF b).1,IL c=true)/\(GF b).1.length<=b.length:=by
 unfold GF;split
 ·exact⟨λc a=>by simp at a,Y5 _⟩
 ·have:=Xis (b.length+1) b [] (λc a=>by simp at a)
  simpa using this
theorem Xvt:∀(l:List Lu) (V:List Pr),Fw V->Fw (TV l V).1/\(TV l V).1.length<=V.length+(l.map List.length).sum
 | [],V,h=>⟨h,JR _ _⟩
 | b::r,V,h=>by
  rw[TV];split
  ·exact⟨Fw.nil,Y5 _⟩
  ·have c:=Xir b;have a:=Xvt r (KX V (GF b).1) (tE h c.1);have d:=s6 (GF b).1 V;refine⟨a.1,Yr a.2 ?_⟩;rw[Yw,VF];omega
theorem Xxo:∀(k:Nat) (b:Lu) (a:List Lu),((Du k b a).1.map List.length).sum<=(a.map List.length).sum+b.length
 | 0,b,a=>JR _ _
 | k+1,b,a=>by
  rw[Du];split
  ·exact JR _ _
  ·rename_i h
   have d:=nJ h;have c:=Xxo k (b.drop ((BN b).length+6)) (a++[BN b]);refine Yr c ?_;rw[Yn,List.sum_append,Y6];simp only[Yw,EK,VF,vp]
   omega
theorem Xwy{d:Dk}(i:Ct d)(e:d.Ae.length<=600)(c:d.off=true\/d.Ae=[])(a:(BQ d).1=0):H5 (BQ d).2/\(BQ d).2.Av.length<=8160:=by
 unfold BQ at a ⊢;split
 ·rename_i h;rw[Y7 h]at a;exact Aw a h
 ·rename_i h
  rw[Y3 h]at a;have b:=Xwz i e c (Classical.byContradiction h);have l:=gZ b.d b.len;have m:=b.used;have j:=b.room;have g:=Xvt (Du ((CG d).2.data.length+1) (CG d).2.data []).1 [] Fw.nil;have k:=Xxo ((CG d).2.data.length+1) (CG d).2.data [];dsimp only at a ⊢
  split
  ·rename_i f;rw[Y7 f]at a;exact Aw a f
  ·refine⟨⟨b,g.1⟩,?_⟩;simp only[Yi,EK,vp,Yl]at g k
   show(TV _ _).1.length<=8160
   omega
theorem Xxn:∀(k:Nat) (b:Lu) (a:List Lu),(Du k b a).1.length<=a.length+b.length
 | 0,b,a=>JR _ _
 | k+1,b,a=>by
  rw[Du];split
  ·exact JR _ _
  ·rename_i h
   have c:=nJ h;refine Yr (Xxn k (b.drop ((BN b).length+6)) (a++[BN b])) ?_;rw[Y0,Y6,LS];omega
theorem Xqh:∀(k:Nat) (b:Lu) (a:List Lu),(∀x∈a,x.length<=4000)->∀x∈(Du k b a).1,x.length<=4000
 | 0,b,a,h=>h
 | k+1,b,a,h=>by
  rw[Du];split
  ·exact h
  ·rename_i c
   have d:=nJ c;exact Xqh k _ _ λx hx=>by
    rcases Yt.1 hx with hx|hx
    ·exact h x hx
    ·simp at hx;subst hx;omega
theorem yS(d:Dk):(CG d).2.d=d:=by
 unfold CG;split
 ·rfl
 ·split<;>rfl
theorem fj(d:Dk):(BQ d).2.log.d=d:=by
 unfold BQ;split
 ·exact yS d
 ·dsimp only
  split<;>exact yS d
theorem Su(d:Dk)(db kb:Nat)(sv pl:Va)(hd:Ct d)(Q:d.Ae.length<=600)(A:d.off=true\/d.Ae=[])(W:AZ I)(N:La)(a:Aa B w I (BA db kb sv pl d N)):
  Cz 29 [ptr db 0] w λv w'=>∃J,Le I J/\((BQ d).1≠0/\v=.tuple #[.pointer none,Ab ((BQ d).1:Nat)]/\Aa B w' J (BA db kb sv pl d N)\/(BQ d).1=0/\∃n lg mv us,v=.tuple #[ptr n 0,Ab 0]/\Bh J us (BQ d).2.log.data/\Aa B w' J (Ad n [ptr lg 0,mv] 141::Ad lg [ptr db 0,Ab ((BQ d).2.log).gen,Ab ((BQ d).2.log).AG,Ab ((BQ d).2.log).used,us] 229::BA db kb sv pl ((BQ d).2.log).d (Cq mv ((BQ d).2.Av)::N))):=by
 refine gH 3 (.call func57 O (AM O X3) O (Sb d db kb sv pl hd om W _ (a.x [2,2,2])) ?_);rintro v9 w ⟨J,C,R⟩;rcases R with⟨o,rfl,a⟩|⟨o,lg,us,rfl,V,a⟩
 ·refine gT 7 (λX Y=>?_);refine gG 3 ?_;have e:BQ d=((CG d).1,⟨(CG d).2,[]⟩):=by unfold BQ;exact Y7 o
  rw[e];exact⟨J,C,.inl ⟨o,O,(a.x [2,2,2])⟩⟩
 refine gG 7 (.Bt (rfl) (gG 4 ?_));intro b21 w a;obtain⟨n,rfl⟩:∃n,n=b21:=⟨_,O⟩
 have D:=Xwz hd Q A o;have aj:=gZ D.d D.len;have ak:=D.used;have ai:=D.room;have ah:(CG d).2.data.length<=8160:=om
 refine gF 1 (Xph ⟨d,(CG d).2.gen,(CG d).2.AG,(CG d).2.used,(CG d).2.data⟩ lg db kb us sv pl od (W.mono C) V) ?_;rintro rv w ⟨J2,_,cs,rfl,l,t,a⟩;dsimp only at a t
 generalize c:(Du ((CG d).2.data.length+1) (CG d).2.data []).1=xs at a t;obtain⟨ra,rc,rfl,am,_⟩:=a.vS 0;have L:=a.fV 0;clear a;obtain⟨U,g,H,a⟩:=L;try dsimp only[List.eraseIdx]at a
 replace t:=t.mono g;have P:∀x∈xs,x.length<=4000:=by rw[<-c];exact Xqh _ _ _ (λx hx=>by simp at hx)
 have ab:xs.length<=8160:=by rw[<-c];refine Yr (Xxn _ _ _) ?_;rw[Yi];omega
 refine gG 2 ?_;replace a:=X_ a;have q:=(((((a.pick 4 O).pick 4 O).pick 4 O).pick 4 O).pick 5 O);clear a;refine .lk [6,23,24] (σ:=Nat×List Pr×Va×Im) (λ(i,V1,b,k) _m=>(25,Ab (i:Nat))::_m) (λ(i,V1,b,k) w=>i<=xs.length/\TV xs []=TV (xs.drop i) V1/\Fw V1/\Le U k/\Aa B w k (Ad n [ptr lg 0,b] 141::Ad lg [ptr db 0,Ab (CG d).2.gen,Ab (CG d).2.AG,Ab (CG d).2.used,us] 229::BA db kb sv pl d (Cq b V1::N))) (λ(i,V1,b,k)=>xs.length-i) (0,[],.map none,U) ⟨Y5 _,O,Fw.nil,Le.refl _,q⟩ ?_;rintro⟨i,V1,b,k⟩ w ⟨hi,m,r,f,a⟩;clear q;refine gN 1 ?_ ?_<;>intro Z
 ·obtain⟨x,hx⟩:∃x,xs[i]?=some x:=⟨_,Y2 om⟩
  obtain⟨xa,xc,S,T,K⟩:=t.2 i x hx;have an:=P x (Y8 hx);have y:xs.drop i=x::xs.drop (i+1):=by rw[Yq (Y1.1 hx).1,(Y1.1 hx).2]
  have u:=Xir x;obtain⟨p,M,hp⟩:=H.2 om;subst M;refine gH 1 ?_
  (try rw[Yh]);rw[Ca]
  refine .val (.BG (.of O) a ((hp.mono f).add i) KZ (by rw[GI,DG];exact S)) O ?_;refine gF 2 (Wi x xa xc om T (K.mono f)) ?_;rintro _ w ⟨cv,rfl,a⟩;refine gN 7 ?_ ?_<;>intro j
  ·refine gG 3 ?_;have h:(GF x).2≠0:=by have h9:=j;omega
   have e:BQ d=((GF x).2,⟨(CG d).2,[]⟩):=by
    have E:TV xs []=([],(GF x).2):=by rw[m,y,TV];exact Y7 h
    unfold BQ;rw[Y3 (by rw[o];simp),c];dsimp only
    rw[E];exact Y7 h
   rw[e];exact⟨k,C.trans (l.trans (g.trans f)),.inl ⟨h,O,a.s⟩⟩
  have h:(GF x).2=0:=by have h9:=j;omega
  obtain⟨ca,cc,rfl,ag,_⟩:=a.vS 0;obtain⟨J5,F,G,a⟩:=a.fV 0;try dsimp only[List.eraseIdx]at a
  refine gF 6 (Xpi V1 b r _ ca cc u.1 om G) ?_;rintro _ w ⟨mb,rfl,a⟩;refine gG 5 ?_;intro w a;refine Br (i+1,KX V1 (GF x).1,_,_) O ⟨om,?_,tE r u.1,f.trans F,(a.z [6,6,6,6,6] 6 1)⟩;rw[m,y,TV,Y3 om]
 refine gG 3 ?_;have e:BQ d=(0,⟨(CG d).2,V1⟩):=by
  have E:TV xs []=(V1,0):=by rw[m,Yo om];rfl
  unfold BQ;rw[Y3 (by rw[o];simp),c];rw[E];exact Y3 sz
 rw[e];refine⟨k,C.trans (l.trans (g.trans f)),.inr ⟨O,n,lg,b,us,O,V.mono (l.trans (g.trans f)),?_⟩⟩;rw[yS];exact a.s
open DS
theorem Xwk:∀(i x k:Nat),k<i->(Hv i x)[k]?=some (UInt8.ofNat (x/256^(i-1-k)))
 | 0,_,_,h=>Aw h om
 | i+1,x,0,_=>by rw[Hv];simp
 | i+1,x,k+1,h=>by rw[Hv,qK,Xwk i x k om,show i+1-1-(k+1)=i-1-k by omega]
theorem Uk(n:Nt)(R:n.ticket.length<=1000000)(T:n.url.length<=1000000)(A:Kx I)(C:AR I)(N:La)(a:Aa B w I N):
  Ce B I N 248 [.agg (X6 n).toArray] w (.tuple #[S (IV n).1,Ab ((IV n).2:Nat)]):=by
 refine gH 4 ?_;intro b1 w a;refine gE 0 (xt n om om A C) ?_;intro w a;refine gM 1 ?_ ?_<;>intro c F
 ·exact gG 2 ⟨by unfold IV;rw[Y3 (su c)];first|done|rfl,a.s⟩
 have u:DD n=true:=su c
 obtain⟨_,q,M,L,J,K⟩:=wg u;have g:Value.int .u8 n.tries=U8 ((UInt8.ofNat n.tries.toNat).toNat:Int):=by
  congr 1
  rw[show(UInt8.ofNat n.tries.toNat).toNat=n.tries.toNat%256 from by simp];omega
 refine gH 4 ?_;intro e w a;rw[g]at a;replace a:=a.BB (k:=0) (size:=1) O O de;refine gG 2 (.lk [1] (σ:=Nat×Va) (λ(k,v) _m=>(4,v)::(5,Ab (7-(k:Int)))::_m) (λ(k,v) w=>k<=8/\Aa B w I (Ao 5 1 v (k+1) (Aj (UInt8.ofNat n.tries.toNat::(Hv 8 n.next.toNat).take k))::Ad b1 [S n.ticket,S n.url,Ab n.tries,Ab n.next] 103::N)) (λ(k,v)=>8-k) (0,.slice (some (ad e 0)) 1 1) ⟨Y5 _,a⟩ ?_);rintro⟨k,v⟩ w ⟨Q,a⟩;refine gN 2 ?_ ?_<;>intro b
 ·have i:(Hv 8 n.next.toNat)[k]?=some (UInt8.ofNat (n.next.toNat/256^(7-k))):=Xwk 8 _ k (oh b);have h:IntKind.u8.wrap (n.next/2^(8*(7-(k:Int))).toNat)=((UInt8.ofNat (n.next.toNat/256^(7-k))).toNat:Int):=by
   rw[IntKind.wrap_u8,show(8*(7-(k:Int))).toNat=8*(7-k)by have f:=b;omega,Int.pow_mul];rw[show(UInt8.ofNat (n.next.toNat/256^(7-k))).toNat=n.next.toNat/256^(7-k)%256 from by simp];rw[Int.natCast_emod,Int.natCast_ediv,Int.natCast_pow,iJ q];rfl
  have p:(Hv 8 n.next.toNat).take (k+1)=(Hv 8 n.next.toNat).take k++[UInt8.ofNat (n.next.toNat/256^(7-k))]:=by rw[Yv,i];rfl
  refine gH 5 (.val (Ex.shr (.of O) (.of O) (oh b) (by show _<=(64:Int);omega)) O ?_);refine .val (Ex.Fi (.of O) B5 BW) O (gH 1 ?_);intro y w a;rw[h]at a;refine gG 5 ?_;intro x z d w a;replace a:=a.px [1,1];refine⟨(k+1,_),⟨O,by rw[show(7-((k+1:Nat):Int))=7-(k:Int)-1 by omega];rfl,O,trivial⟩,⟨by(try dsimp only);have f:=b;omega,?_⟩,by(try dsimp only);have f:=b;omega⟩;rw[p];simpa using a
 have m:k=8:=by have f:=b;omega
 subst m;rw[Yk (by rw[tG];exact Y9 _)]at a;obtain⟨P,cap,r,rfl,D,E,G,H,a⟩:=a.AF (k:=0) O om;try dsimp only[List.set]at a
 have o:(UInt8.ofNat n.tries.toNat::Hv 8 n.next.toNat).length=8+1:=by rw[Y4,tG]
 rw[<-o];refine gH 1 ?_;refine .val (Gk.Ex.DA (l:=UInt8.ofNat n.tries.toNat::Hv 8 n.next.toNat) (.of O) a (k:=0) O BC BW Bb (λj t=>by
  rw[Yl,Yf (by rw[Ym];exact t),Yu,Y2 t];rfl)) O ?_
 exact gG 5 ⟨by unfold IV;rw[Y7 u];first|done|rfl,a.s⟩
theorem Ug(t s:Lu)(G:t.length<=1000000)(E:s.length<=1000000)(C:Kx I)(D:AR I)(N:La)(c:Aa B w I N):
  Ce B I N 33 [S t,S s] w (.tuple #[.agg (X6 (EI t s).1).toArray,Ab ((EI t s).2:Nat)]):=by
 refine gG 5 ?_;intro y w c;refine gN 0 ?_ ?_<;>intro e
 ·refine gH 3 ?_;intro w c;exact gG 0 ⟨by unfold EI;rw[Y7 (oh e)];first|done|rfl,c.s⟩
 refine gG 0 ?_;have v:=(at_ s 0).toNat_lt;have o:9<=s.length:=by have A:=e;omega
 have p:((at_ s 0).toNat:Int)=((s.headD 0).toNat:Int):=by
  cases s with
  | nil=>simp at o
  | cons a b=>rfl
 refine gD [] [] [0,1,2,3,4,5,6,7,8] ?_;intro w c;refine gH 8 ?_;intro z w c;refine gH 1 ?_;intro w c;rw[p]at c;refine gG 1 (.lk [0,1,4,6] (σ:=Nat) (λk _m=>(7,Ab ((k:Int)+1))::_m) (λk w=>k<=8/\Aa B w I (Ad z [S t,S (s.drop 9),Ab ((s.headD 0).toNat:Int),Ab (IntKind.i64.wrap ((Fz 0 ((s.drop 1).take k):Nat):Int))] 103::Ad y [S [],S [],Ab 0,Ab 0] 103::N)) (λk=>8-k) 0 ⟨Y5 _,c⟩ ?_);rintro k w ⟨F,c⟩;refine gN 2 ?_ ?_<;>intro g
 ·refine gG 0 ?_;have l:=(at_ s ((k:Int)+1)).toNat_lt;have q:(s.drop 1).take (k+1)=(s.drop 1).take k++[at_ s ((k:Int)+1)]:=by
   rw[Yv,GI,LW 1 k]
   have:=LA (s:=s) (i:=k+1) om
   rw[this];rfl
  have m:Fz 0 ((s.drop 1).take (k+1))=256*Fz 0 ((s.drop 1).take k)+(at_ s ((k:Int)+1)).toNat:=by rw[q,Xov];rfl
  have f:bits .or .i64 (IntKind.i64.wrap (IntKind.i64.wrap ((Fz 0 ((s.drop 1).take k):Nat):Int)*2^(8:Int).toNat)) ((at_ s ((k:Int)+1)).toNat:Int)=IntKind.i64.wrap ((Fz 0 ((s.drop 1).take (k+1)):Nat):Int):=by rw[m];exact Iy (Fz 0 ((s.drop 1).take k)) (at_ s ((k:Int)+1)).toNat l
  refine gD [0] [9] [0,1,2,3,4,5,6,7,8,9] ?_;intro w c;refine gH 2 (AN.j 2 (λw=>(Ex.shl (.of O) (.of O) om (by show(8:Int)<=64;omega))) ?_);refine gH 4 (AN.j 7 (λw=>(Ex.DB (.inr (.inl O)) (.of O) (.of O))) ?_);rw[f];refine gH 2 ?_;intro w c;refine gG 3 ?_;replace c:=c.px [1,1];exact⟨k+1,⟨by rw[show(((k+1:Nat):Int)+1)=(k:Int)+1+1 by omega];rfl,O,O,O,O,trivial⟩,⟨om,c⟩,om⟩
 have n:k=8:=by have A:=g;omega
 subst n;have r:=MV t (s.drop 9) ((s.headD 0).toNat:Int) _ (WY s);refine gE 1 (xt ⟨t,s.drop 9,((s.headD 0).toNat:Int),IntKind.i64.wrap ((Fz 0 ((s.drop 1).take 8):Nat):Int)⟩ om (by rw[Y6];omega) C D) ?_;intro w c;refine gM 1 ?_ ?_<;>intro d x
 ·refine gH 3 ?_;intro w c;refine gG 0 ?_;have h:DD (SU t s)=false:=r.1.symm.trans (su d);exact⟨by unfold EI;rw[Y3 om,Y3 (nB h)];first|done|rfl,c.s⟩
 refine gH 3 ?_;intro w c;refine gG 0 ?_;have h:DD (SU t s)=true:=r.1.symm.trans (su d);have u:=r.2 h;refine⟨?_,c.s⟩;rw[u];unfold EI;rw[Y3 om,Y7 h];first|done|rfl
def Gr(n:Int):Lu:=((List.range 8).map λj=>n/2^(8*(7-j))).map Db
def Zu(n:Int)(i:Nat):Lv:=(List.range 8).map λj=>if 8<=i+j then Value.int .u8 (IntKind.u8.wrap (n/2^(8*(7-j))))else Value.int .u8 0
theorem Zx(n:Int)(h:i<8):(Zu n i).set (0+(7-(i:Int)).toNat*1) (.int .u8 (IntKind.u8.wrap (n/2^(8*(i:Int)).toNat)))=Zu n (i+1):=by
 rcases (by omega:i=0\/i=1\/i=2\/i=3\/i=4\/i=5\/i=6\/i=7)with rfl|rfl|rfl|rfl|rfl|rfl|rfl|rfl<;>rfl
theorem Zw(n:Int):Zu n 8=Aj (Gr n):=by unfold Gr;rw[bB];rfl
theorem gS(n:Int):(Gr n).length=8:=by simp[Gr]
def LI(l:List Lu):Lu:=(l.map λs=>Db (s.length:Nat)::s).flatten
def F9(r:Ah):Lu:=[r.kind,r.A4,if r.fresh then 1 else 0].map Db++Gr r.made++Gr r.used
def IE(r:Ah):List Lu:=[r.parent,r.user,r.service,r.url]
def LH(r:Ah):Lu×Nat:=if Dh r then(F9 r++LI (IE r),0)else([],1)
theorem tI(n:Int)(N:La)(a:Aa B w I N):
  Cz 209 [Ab n] w λv w'=>∃b,v=.slice (some (ad b 0)) 8 8/\Aa B w' I (Ad b (Aj (Gr n)) 5::N):=by
 refine gG 1 ?_;refine .make (l:=8) a (.of O) (.of O) BC Xt O (by simp[t5]<;>omega) om O O O ?_;intro e w a;refine gG 4 (.lk [0,3,7] (σ:=Nat) (λi _m=>(8,Ab (i:Nat))::_m) (λi w=>i<=8/\Aa B w I (Ad e (Zu n i) 5::N)) (λi=>8-i) 0 ⟨Y5 _,a⟩ ?_);rintro i w ⟨hi,a⟩;refine gN 1 ?_ ?_<;>intro c
 ·have d:i<8:=by have g:=c;omega
  refine gH 8 (.val (Ex.shr (.of O) (.of O) om (by show 8*(i:Int)<=64;omega)) O ?_);refine .val (.Fi (.of O) B5 BW) O (.val (.io O O om om BC Cw) O ?_);refine .s1 a (k:=0) O O O O Cw (by simp[Zu];omega) ?_;intro w a;dsimp only[List.set_cons_zero]at a;refine gG 2 (rd (i+1) ⟨om,?_⟩);rw[<-Zx n d];exact a
 refine gG 2 ?_;have f:i=8:=by have g:=c;omega
 subst f;rw[Zw]at a;exact⟨e,O,a⟩
def aC(s:Lu):Int:=IntKind.i64.wrap ((Fz 0 (s.take 8):Nat):Int)
theorem pP(s:Lu)(m:8<=s.length)(h:s.length<=1000000)(N:La)(b:Aa B w I N):
  Ce B I N 121 [S s] w (Ab (aC s)):=by
 refine gG 3 (.lk [0] (σ:=Nat) (λk _m=>(3,Ab (IntKind.i64.wrap ((Fz 0 (s.take k):Nat):Int)))::(5,Ab (k:Nat))::_m) (λk w=>k<=8/\Aa B w I N) (λk=>8-k) 0 ⟨Y5 _,b⟩ ?_);rintro k w ⟨l,b⟩;refine gN 1 ?_ ?_<;>intro d
 ·refine gG 2 ?_;have c:=(at_ s (k:Int)).toNat_lt;have f:s.take (k+1)=s.take k++[at_ s (k:Int)]:=by
   rw[Yv]
   have:=LA (s:=s) (i:=k) om
   rw[this];rfl
  have e:Fz 0 (s.take (k+1))=256*Fz 0 (s.take k)+(at_ s (k:Int)).toNat:=by rw[f,Xov];rfl
  have a:bits .or .i64 (IntKind.i64.wrap (IntKind.i64.wrap ((Fz 0 (s.take k):Nat):Int)*2^(8:Int).toNat)) ((at_ s (k:Int)).toNat:Int)=IntKind.i64.wrap ((Fz 0 (s.take (k+1)):Nat):Int):=by rw[e];exact Iy (Fz 0 (s.take k)) (at_ s (k:Int)).toNat c
  refine gH 6 (.val (Ex.DB (.inr (.inl O)) (.of O) (.of O)) O ?_);rw[a];exact gG 3 (Br (_) O ⟨om,b⟩)
 refine gG 2 ?_;have g:k=8:=by have j:=d;omega
 subst g;exact⟨O,b⟩
theorem O5(b:Bool):IntKind.u8.wrap (if b then 1 else 0)=if b then 1 else 0:=by cases b<;>rfl
theorem wI(l:List Lu)(x:Lu):LI (l++[x])=LI l++(Db (x.length:Nat)::x):=by simp[LI]
theorem eS{l:Lu}(h:(l==[])=false):(0:Int)<(l.length:Nat):=by
 cases l with
 | nil=>cases h
 | cons a l=>simp only[Y4];omega
theorem Xvk(r:Ah)(hn:r.name.length<=1000000)(hp:r.parent.length<=1000000)(hK:AJ I)(hP:AR I)(N:La)(a:Aa B w I N):
  Ce B I N 122 [.agg (X5 r).toArray] w (.tuple #[S (LH r).1,Ab ((LH r).2:Nat)]):=by
 refine gH 4 ?_;intro b1 w a;refine gE 0 (wZ r hn hp hK hP) ?_;intro w a;refine gM 1 ?_ ?_<;>intro g U
 ·refine gG 2 ?_;have e:LH r=([],1):=by unfold LH;exact Y3 (su g)
  rw[e];exact⟨O,a.s⟩
 refine gH 1 (.nil (.ck [1] (σ:=Unit) (λ_ _m=>(4,.int .u8 (if r.fresh then 1 else 0))::_m) (λ_ w=>Aa B w I (Ad b1 (X5 r) 160::N)) ?_ ?_))
 ·refine gM 2 ?_ ?_<;>intro l V
  ·refine gG 1 ?_;refine⟨(),⟨by(try show _=_);rw[l];rfl,O,trivial⟩,a⟩
  refine gG 0 ?_;refine⟨(),⟨by(try show _=_);rw[l];rfl,O,trivial⟩,a⟩
 rintro _ w a;refine .ck [1] (σ:=Va) (λc _m=>(5,c)::_m) (λc w=>Aa B w I (Ao 5 1 c (F9 r).length (Aj (F9 r))::Ad b1 (X5 r) 160::N)) ?_ ?_
 ·refine .dw (λw=>∃R,Aa B w I (Ad b1 (X5 r) 160::R)) (λj=>!([].contains j)) ?_;replace a:=a.drew;generalize w.drew=w at a ⊢;have b:∃R,Aa B w I (Ad b1 (X5 r) 160::R):=⟨_,(a.x [0])⟩
  refine .tp 0 O (λw=>(.fo 0 O F6 O O Bg O)) (.tk 1 O b (λw ⟨R,a⟩=>(.lo O a (k:=0) O BP O)) (.tp 2 O (λw=>(.Fi (.of O) B5 BW)) ?_));refine .tp 3 O (λw=>(.fo 8 O F6 O O Bg O)) (.tk 4 O b (λw ⟨R,a⟩=>(.lo O a (k:=0) O BP O)) (.tp 5 O (λw=>(.Fi (.of O) B5 BW)) (.tp 6 O (λw=>(.mo O)) ?_)));refine .tp 8 O (λw=>(.fo 6 O F6 O O Bg O)) (.tk 9 O b (λw ⟨R,a⟩=>(.lo O a (k:=0) O BP O)) (.tp 12 O (λw=>(.fo 7 O F6 O O Bg O)) (.tk 13 O b (λw ⟨R,a⟩=>(.lo O a (k:=0) O BP O)) (.branch [7,10] kr O (WO.cons O ?_ (WO.cons O ?_ (WO.nil)))))))
  ·refine .buildSlice (cs:=[_,_,_]) a (Lb O (Lb O (Lb O U_))) BC Cw N7 O O O O ?_;intro m w a;replace a:=a;replace a:=a.say (k:=0) (A':=Ad m (Aj ([r.kind,r.A4,if r.fresh then 1 else 0].map Db)) 5) O (λh t=>by rw[bB];simp only[Yw,EK];rw[O5];exact t);dsimp only[List.set]at a;replace a:=a.BB (size:=1) (n:=3) (k:=0) O O de;dsimp only[List.set]at a;refine .nil ?_;clear b;have b:∃R,Aa B w I (Ad b1 (X5 r) 160::R):=⟨_,(a.x [1])⟩
   refine⟨λ_ _=>b,?_⟩;refine .b1 10 O (.call Jd O (AM O X3) O (tI r.made _ a) ?_);rintro _ w ⟨P,rfl,a⟩;refine .nil ?_;clear b;have b:∃R,Aa B w I (Ad b1 (X5 r) 160::R):=⟨_,(a.x [2])⟩
   refine⟨λ_ _=>b,?_⟩;refine .b1 11 O (.append (size:=1) (bytes:=1) a (.of O) (.of O) (k:=0) O BC Xt O O O O (by simp[Aj,gS]) O (H7 _) ⟨om,by unfold maxLen;omega⟩ O ?_);intro p w a;obtain⟨y,D,rfl,d,_⟩:=a.AP (k:=0) (v:=p) O;refine .nil ?_;clear b;have b:∃R,Aa B w I (Ad b1 (X5 r) 160::R):=⟨_,(a.x [1])⟩
   refine⟨λ_ _=>b,?_⟩;refine .b1 14 O (.call Jd O (AM O X3) O (tI r.used _ a) ?_);rintro _ w ⟨Q,rfl,a⟩;refine .nil ?_;clear b;have b:∃R,Aa B w I (Ad b1 (X5 r) 160::R):=⟨_,(a.x [2])⟩
   refine⟨λ_ _=>b,?_⟩;refine .b1 15 O (.append (size:=1) (bytes:=1) a (.of O) (.of O) (k:=0) O BC Xt O O O O (by simp[Aj,gS]) O (H7 _) ⟨om,by unfold maxLen;omega⟩ O ?_);intro q w a;obtain⟨z,E,rfl,f,_⟩:=a.AP (k:=0) (v:=q) O;refine .nil ?_;clear b;have b:∃R,Aa B w I (Ad b1 (X5 r) 160::R):=⟨_,(a.x [1])⟩
   refine⟨λ_ _=>b,?_⟩;refine .tp 16 O (λw=>(.ao O)) (.dn ?_);have G:Aj (F9 r)=Aj ([r.kind,r.A4,if r.fresh then 1 else 0].map Db)++Aj (Gr r.made)++Aj (Gr r.used):=by simp[F9,Aj]
   have F:(F9 r).length=3+8+8:=by simp[F9,gS]
   refine Eo _ O ?_;rw[G,F];exact(a.x [1,1])
  ·refine .call Jd O (AM O X3) O (tI r.made _ a) ?_;rintro _ w ⟨P,rfl,a⟩;refine .nil ?_;clear b;have b:∃R,Aa B w I (Ad b1 (X5 r) 160::R):=⟨_,(a.x [1])⟩
   refine⟨λ_ _=>b,?_⟩;refine .b1 7 O (.buildSlice (cs:=[_,_,_]) a (Lb O (Lb O (Lb O U_))) BC Cw N7 O O O O ?_);intro m w a;replace a:=a;replace a:=a.say (k:=0) (A':=Ad m (Aj ([r.kind,r.A4,if r.fresh then 1 else 0].map Db)) 5) O (λh t=>by rw[bB];simp only[Yw,EK];rw[O5];exact t);dsimp only[List.set]at a;replace a:=a.BB (size:=1) (n:=3) (k:=0) O O de;dsimp only[List.set]at a;refine .nil ?_;clear b;have b:∃R,Aa B w I (Ad b1 (X5 r) 160::R):=⟨_,(a.x [2])⟩
   refine⟨λ_ _=>b,?_⟩;refine .b1 11 O ?_;replace a:=a.pick 1 O;refine .append (size:=1) (bytes:=1) a (.of O) (.of O) (k:=0) O BC Xt O O O O (by simp[Aj,gS]) O (H7 _) ⟨om,by unfold maxLen;omega⟩ O ?_;intro p w a;obtain⟨y,D,rfl,d,_⟩:=a.AP (k:=0) (v:=p) O;refine .nil ?_;clear b;have b:∃R,Aa B w I (Ad b1 (X5 r) 160::R):=⟨_,(a.x [1])⟩
   refine⟨λ_ _=>b,?_⟩;refine .b1 14 O (.call Jd O (AM O X3) O (tI r.used _ a) ?_);rintro _ w ⟨Q,rfl,a⟩;refine .nil ?_;clear b;have b:∃R,Aa B w I (Ad b1 (X5 r) 160::R):=⟨_,(a.x [2])⟩
   refine⟨λ_ _=>b,?_⟩;refine .b1 15 O (.append (size:=1) (bytes:=1) a (.of O) (.of O) (k:=0) O BC Xt O O O O (by simp[Aj,gS]) O (H7 _) ⟨om,by unfold maxLen;omega⟩ O ?_);intro q w a;obtain⟨z,E,rfl,f,_⟩:=a.AP (k:=0) (v:=q) O;refine .nil ?_;clear b;have b:∃R,Aa B w I (Ad b1 (X5 r) 160::R):=⟨_,(a.x [1])⟩
   refine⟨λ_ _=>b,?_⟩;refine .tp 16 O (λw=>(.ao O)) (.dn ?_);have G:Aj (F9 r)=Aj ([r.kind,r.A4,if r.fresh then 1 else 0].map Db)++Aj (Gr r.made)++Aj (Gr r.used):=by simp[F9,Aj]
   have F:(F9 r).length=3+8+8:=by simp[F9,gS]
   refine Eo _ O ?_;rw[G,F];exact(a.x [1,1])
 rintro c w a;refine gG 11 ?_;intro A w a;have u:Dh r=true:=su g
 have L:=u;simp only[Dh,Yb,decide_eq_true_eq]at L
 have M:∀x∈IE r,x.length<=1000000:=by
  intro x hx;simp only[IE,Ys,GJ,or_false]at hx
  rcases hx with rfl|rfl|rfl|rfl<;>omega
 have K:=((a.pick 1 O).drop (k:=2) O);clear a;have T:F9 r++LI ((IE r).take 0)=F9 r:=by simp[LI]
 refine .lk [37,38] (σ:=Nat×Va) (λ(i,c) _m=>(5,c)::(39,Ab (i:Nat))::_m) (λ(i,c) w=>i<=4/\(F9 r++LI ((IE r).take i)).length<=19+i*1000001/\Aa B w I (Ao 5 1 c (F9 r++LI ((IE r).take i)).length (Aj (F9 r++LI ((IE r).take i)))::Ad A ((IE r).map S) 9::N)) (λ(i,c)=>4-i) (0,c) ⟨Y5 _,by rw[T];simp[F9,gS],by rw[T];exact K⟩ ?_;rintro⟨i,c⟩ w ⟨hi,af,a⟩;refine gN 1 ?_ ?_<;>intro W
 ·obtain⟨x,hx⟩:∃x,(IE r)[i]?=some x:=⟨_,Y2 (by show i<4;omega)⟩
  have ah:x.length<=1000000:=M x (Y8 hx);have o:(IE r).take (i+1)=(IE r).take i++[x]:=by rw[Yv,hx];rfl
  refine gH 1 ?_;refine .val (.ld (v:=S x) (.of O) a (k:=1) O Bq (by(try rw[Yh]);rw[Ca,Yl,Yu,hx];rfl)) O ?_;refine gH 4 (.val (.Fi (.of O) B5 BW) O (gH 1 ?_));intro C w a;replace a:=a;replace a:=a.say (k:=0) (A':=Ad C (Aj [Db (x.length:Nat)]) 5) O (λh t=>by rw[show[Db (x.length:Nat)]=[((x.length:Nat):Int)].map Db from O,bB];exact t);dsimp only[List.set]at a;refine .append (size:=1) (bytes:=1) a (.of O) (.of O) (k:=0) O BC Xt O O O O O O (H7 _) ⟨om,by unfold maxLen;omega⟩ O ?_;intro ai w a;refine gH 1 (.DH a (.of O) (.of O) (k:=0) O BC Bb Xt O O O om O ?_);intro aj w a;refine gG 3 (Br (i+1,_) O ⟨om,?_,?_⟩)
  ·(try dsimp only)
   rw[o,wI,<-Yg,Y0,Y4];omega
  ·(try dsimp only)
   have Y:Aj (F9 r++LI ((IE r).take (i+1)))=Aj (F9 r++LI ((IE r).take i))++Aj [Db (x.length:Nat)]++Aj x:=by rw[o,wI];simp[Aj]
   have X:(F9 r++LI ((IE r).take (i+1))).length=(F9 r++LI ((IE r).take i)).length+1+x.length:=by rw[o,wI,<-Yg,Y0,Y4];omega
   rw[Y,X];exact(a.x [1,1])
 obtain⟨ka,kc,rfl,ad,_⟩:=a.vS 0;obtain⟨J,hJ,H,a⟩:=a.fV 0;try dsimp only[List.eraseIdx]at a
 refine gH 1 (.val (.DI (.of O) a H BC BW Bb) O (gG 2 ?_));have e:LH r=(F9 r++LI (IE r),0):=by unfold LH;exact Y7 u
 have Z:(IE r).take i=IE r:=Yk (by show 4<=i;omega);rw[e];rw[Z];exact⟨O,a.s.weaken hJ⟩
def G8:Nat->List UInt8->List (List UInt8)->Option (List (List UInt8))
 | 0,_,a=>some a
 | k+1,rest,a=>if rest=[]\/rest.length<=(at_ rest 0).toNat then none else G8 k (rest.drop (1+(at_ rest 0).toNat)) (a++[(rest.drop 1).take (at_ rest 0).toNat])
def c5(name s:Lu):Ah:=⟨((at_ s 0).toNat:Nat),name,[],[],[],[],aC (s.drop 3),aC (s.drop 11),((at_ s 1).toNat:Nat),((at_ s 2).toNat:Int)==1⟩
def dt(r:Ah)(t:List Lu):Ah:={ r with parent:=t.getD 0 [],user:=t.getD 1 [],service:=t.getD 2 [],url:=t.getD 3 [] }
def Ie(name s:List UInt8):Ah×Nat :=
 if s.length<19 then(r0,8)else match G8 4 (s.drop 19) []with
 | none=>(r0,8)
 | some t=>if(LH (dt (c5 name s) t)).2≠0\/(LH (dt (c5 name s) t)).1≠s then(r0,8)else(dt (c5 name s) t,0)
theorem Za(r:Ah)(x:Lu){t:List Lu}(e:t.length=i)(hi:i<4):(X5 (dt r t)).set (2+i) (S x)=X5 (dt r (t++[x])):=by
 match t,e with
 | [],e=>subst e;rfl
 | [a],e=>subst e;rfl
 | [a,b],e=>subst e;rfl
 | [a,b,c],e=>subst e;rfl
 | a::b::c::d::t,e=>simp at e;omega
theorem OT:∀(k:Nat) (rest:Lu) (a t:List Lu),(∀x∈a,x.length<=255)->G8 k rest a=some t->∀x∈t,x.length<=255
 | 0,rest,a,t,h,b=>by cases b;exact h
 | k+1,rest,a,t,h,b=>by
  rw[G8]at b;split at b
  ·cases b
  ·refine OT k _ _ t (λx hx=>?_) b;rcases Yt.1 hx with hx|hx
   ·exact h x hx
   ·rw[iL.1 hx,Yj]
    have:=En (at_ rest 0)
    omega
theorem Wj(name s:Lu)(u:name.length<=1000000)(Q:s.length<=1000000)(E:AJ I)(F:AR I)(N:La)(b:Aa B w I N):
  Ce B I N 68 [S name,S s] w (.tuple #[.agg (X5 (Ie name s).1).toArray,Ab ((Ie name s).2:Nat)]):=by
 refine gG 5 ?_;intro z w b;refine gN 0 ?_ ?_<;>intro l
 ·refine gH 3 ?_;intro w b;refine gG 0 ?_;have e:Ie name s=(r0,8):=by unfold Ie;exact Y7 (oh l)
  rw[e];exact⟨O,b.s⟩
 refine .skip (.ck [1,4] (σ:=Nat) (λc _m=>(6,ptr c 0)::_m) (λc w=>Aa B w I (Ad c (X5 (c5 name s)) 160::Ad z [Ab 0,S [],S [],S [],S [],S [],Ab 0,Ab 0,Ab 0,.bool false] 160::N)) ?_ ?_)
 ·have M:19<=s.length:=by have d:=l;omega
  have G:=(at_ s 0).toNat_lt;have H:=(at_ s 1).toNat_lt;have J:=(at_ s 2).toNat_lt;have L:(s.drop 3).length=s.length-3:=Y6;have C:(s.drop 11).length=s.length-11:=Y6;refine gD [0] [] [0,1,2,3,4,5,6,7,8,9,10,11,13,14] ?_;intro w b;refine gH 14 (gB 12 17 [] [12,15,16,18] ?_ ?_)
  ·refine gE 0 (pP (s.drop 3) om om) ?_;intro w b;refine gH 0 (gB 15 17 [16,17,18] [15,16,18] ?_ ?_)
   ·refine gE 0 (pP (s.drop 11) om om) ?_;intro w b;refine gH 2 ?_;intro c w b;refine gH 1 ?_;intro w b;refine gG 0 (cd c (b.x [1,1]))
   ·refine gH 1 ?_;intro c w b;refine gE 0 (pP (s.drop 11) om om) ?_;intro w b;refine gH 2 ?_;intro w b;refine gG 0 (cd c (b.x [1,1]))
  ·refine gH 1 ?_;intro c w b;refine gE 0 (pP (s.drop 3) om om) ?_;intro w b;refine gE 0 (pP (s.drop 11) om om) ?_;intro w b;refine gH 2 ?_;intro w b;refine gG 0 (cd c (b.x [1,1]))
 rintro c w b;refine gH 10 ?_;intro r w b;refine gG 0 ?_;have m:=(((b.pick 2 O).pick 1 O).pick 2 O);clear b;refine .lk [1,4,6,40,41] (σ:=Nat×List Lu×Lu) (λ(i,t,rest) _m=>(7,S rest)::(42,Ab (i:Nat))::_m) (λ(i,t,rest) w=>i<=4/\t.length=i/\(∀x∈t,x.length<=255)/\rest.length<=s.length/\G8 4 (s.drop 19) []=G8 (4-i) rest t/\Aa B w I (Ad c (X5 (dt (c5 name s) t)) 160::Ad r [ptr c 2,ptr c 3,ptr c 4,ptr c 5] 247::Ad z [Ab 0,S [],S [],S [],S [],S [],Ab 0,Ab 0,Ab 0,.bool false] 160::N)) (λ(i,t,rest)=>4-i) (0,[],s.drop 19) ⟨Y5 _,O,λx hx=>by simp at hx,by rw[Y6];omega,O,m⟩ ?_;rintro⟨i,t,rest⟩ w ⟨hi,q,p,P,j,b⟩;clear m;refine gN 1 ?_ ?_<;>intro A
 ·refine gH 1 ?_;refine .val (.ld (v:=ptr c (2+i)) (.of O) b (k:=1) O isAgg247 (by(try rw[Yh]);rw[Ca,Yl];rcases (by omega:i=0\/i=1\/i=2\/i=3)with rfl|rfl|rfl|rfl<;>rfl)) O ?_;have K:=En (at_ rest 0);refine gH 7 (.Am O O (λo=>(.index (.gd o O) (.of O) om (eS o) Bb)) O ?_);refine gN 3 ?_ ?_<;>intro f
  ·refine gH 3 ?_;intro w b;refine gG 0 ?_;have h:rest=[]\/rest.length<=(at_ rest 0).toNat:=by
    rcases f with d|d
    ·exact .inl d
    ·exact .inr om
   have e:Ie name s=(r0,8):=by
    unfold Ie;rw[Y3 om,j,show 4-i=(4-(i+1))+1 by omega,G8,Y7 h]
   rw[e];exact⟨O,b.s⟩
  refine gG 0 ?_;have h:¬ (rest=[]\/rest.length<=(at_ rest 0).toNat):=by
   rintro(d|d)
   ·exact f.1 d
   ·have R:=f.2;omega
  refine gG 4 (gD [] [10] [0,1,2,3,4,5,6,7,8,9,10,11] ?_);intro w b;refine gH 10 (AN.e (.s1 b (k:=0) O O O O A3 (by show 2+i<10;omega) ?_));intro w b;dsimp only[List.set_cons_zero,List.set_cons_succ]at b;have D:∀n:Nat,(1+(n:Int)).toNat-Int.toNat 1=n:=by intro n;omega
  rw[D,Za (c5 name s) _ q om]at b;refine gG 3 ?_;refine Br (i+1,_,_) O ⟨om,by rw[Y0,q];rfl,λx hx=>?_,by rw[Y6];omega,?_,(b.x [2,2,2])⟩
  ·rcases Yt.1 hx with hx|hx
   ·exact p x hx
   ·rw[iL.1 hx,Yj]
    have:=En (at_ rest 0)
    omega
  ·(try dsimp only)
   rw[j,show 4-i=(4-(i+1))+1 by omega,G8];exact Y3 h
 refine gG 0 ?_;have y:(dt (c5 name s) t).parent.length<=1000000:=by
  show(t.getD 0 []).length<=_
  cases t with
  | nil=>simp
  | cons a t=>have:=p a sz;show a.length<=_;omega
 refine gE 1 (Xvk (dt (c5 name s) t) u y E F) ?_;intro w b;refine gN 12 ?_ ?_<;>intro g
 ·refine gH 3 ?_;intro w b;refine gG 0 ?_;have e:Ie name s=(r0,8):=by
   unfold Ie;rw[Y3 om,j,show 4-i=0 by omega,G8];refine Y7 ?_;rcases g with d|d
   ·exact .inl om
   ·exact .inr d
  rw[e];exact⟨O,b.s⟩
 refine gH 3 ?_;intro w b;refine gG 0 ?_;have e:Ie name s=(dt (c5 name s) t,0):=by
  unfold Ie;rw[Y3 om,j,show 4-i=0 by omega,G8];refine Y3 ?_;rintro(d|d)
  ·exact d (oh g.1)
  ·exact d g.2
 rw[e];exact⟨O,b.s⟩
theorem SX(r s:Ah)(w:Wo):(Op.equalIn 10000 160 (.agg (X5 r).toArray) (.agg (X5 s).toArray)).run prog w=.ok (decide (r=s)) w:=by
 have b:prog.underlying 160=some (.struct (prog.fieldsOf 160)):=by kernel_rfl
 have c:prog.stoodInHeld 160=false:=by kernel_rfl
 rw[show(10000:Nat)=9999+1 from O,run_equalIn_agg w 9999 160 _ _ b c];simp only[Program.fieldsOf,F6]
 obtain⟨k,n,pa,u,sv,t,m,i,uc,f⟩:=r;obtain⟨l,p,d,q,e,h,o,a,g,j⟩:=s;unfold X5
 go_simp
 repeat' split
 all_goals simp_all
theorem Ex.rI{g:Option (Nat×Bool)}{x y:Operand}{r s:Ah}(hx:Ev n L x (.agg (X5 r).toArray))(a:Ev n L y (.agg (X5 s).toArray)):Ex prog n L w ⟨d,.binOp .neq 160 x y t',ty,pos,af,g⟩ (.bool (!decide (r=s))) w :=
 C8 hx a (λp q=>run_eqGuard_agg w _ _ _ _ _ _ kr) (by rw[run_neq_struct,SX];rfl)
section
open Go.Shelf Go.RowKit Go.Lib Go.Sort
abbrev Gtr:Ren:=⟨fun|6=>243|15=>207|14=>329|28=>300|29=>275|20=>386|21=>387|22=>388|23=>389|24=>390|25=>391|26=>392|27=>393|46=>418|47=>362|48=>363|49=>419|50=>420|57=>434|n=>n,fun|22=>144|24=>237|25=>355|39=>151|53=>389|55=>41|46=>412|45=>411|50=>329|66=>465|70=>469|76=>496|77=>497|n=>n,fun|n=>n⟩
theorem Gt:SlLaysF0.n6 prog Gtr:=by constructor<;>first|kernel_rfl|(intro w;kernel_rfl)|exact q9q
instance:Inhabited Ch:=⟨⟨[],[],false⟩⟩
def FB(p q:Ch):Int:=compareBytes p.key q.key
theorem r8:SWO (ltOf FB) where
 irrefl x:=gI x.key
 trans x y z:=jJ x.key y.key z.key
 ntrans x y z:=Xj8 x.key y.key z.key
def Q4(l:List Ch):List Ch:=(pdq (ltOf FB) l.toArray 0 l.toArray.size (Lib.bitLen l.toArray.size) true true).toList
theorem wT(l:List Ch):(Q4 l).Perm l:=by
 have h:=(pdq_sorts (ltOf FB) r8 l.toArray 0 l.toArray.size (Lib.bitLen l.toArray.size) true true (Y5 _) (Y9 _) (Or.inl O)).1;obtain⟨b,e,c⟩:=h;have a:(Q4 l).length=l.length:=by unfold Q4;rw[T4,b];simp
 have d:List.take l.length (Q4 l)=Q4 l:=Yk (by rw[a];exact Y9 _);rw[<-d];unfold Q4;simpa using c
theorem pO(l:List Ch):(Q4 l).length=l.length:=(wT l).length_eq
def Ud(a:Nat):Prop:=(∀args w,(callFunc a args).run prog w=.ok (.enter a args) w)/\∀(x y:Ch) (W:Wo),Calls prog a #[.agg (DP x).toArray,.agg (DP y).toArray] W λe w'=>e=.returned (.int .i64 (FB x y))/\∃q b,w'=grow (W.drewN q) b
theorem Xqo(j:Nat)(i:Ud j)(l:List Ch)(s:Va)(k:Nat)(N:La)(n:Aa B w I N)(o:N[k]?=some (Ao 237 3 s l.length (X2 DP l)))(G:l.length<=1000000):
  Ce B I (N.set k (Ao 237 3 s (Q4 l).length (X2 DP (Q4 l)))) 243 [s,.func (.func j) #[] #[]] w (.tuple #[]):=by
 obtain⟨a,c,rfl,F,_⟩:=n.AP o;cases a with
 | none =>
  have u:l=[]:=n.CX o λ_ ⟨_,D⟩=>by
   rcases D with⟨_,h,_⟩|⟨b,cap,r,p,_⟩
   ·exact Yc h
   ·cases p
  subst u;refine(AnyF.slices_SortFunc_none Gt none c (.func (.func j) #[] #[]) w).mono ?_;rintro e w' ⟨rfl,rfl⟩;have e0:Q4 []=[]:=Yc (pO []);have t:N.set k (Ao 237 3 (.slice none 0 c) 0 (X2 DP []))=N:=by
   have:=(Y1.1 o).2
   exact(Ye (N.set k) this.symm).trans (kL _)
  refine⟨_,O,O,?_⟩;rw[e0];show Aa B w' I (N.set k (Ao 237 3 (.slice none 0 c) 0 (X2 DP [])))
  rw[t];exact n
 | some a =>
  obtain⟨g,rfl,C,A,d⟩:=Aa.ZR (Ar:=DP) (λ_=>rfl) de n O o;have f:=AnyQ.slices_SortFunc_eq Gt 3 ig bP DP (λ_=>rfl) (λx v p=>by simp[DP]at p;rcases p with rfl|rfl|rfl<;>rfl) FB r8 j #[] g 0 c l.toArray w i.1 (λ_ _ _ _ x y=>i.2 x y _) A C (by simp;omega);refine f.mono ?_;rintro e w' ⟨rfl,m,E,rfl⟩;have q:(pdq (ltOf FB) l.toArray 0 l.toArray.size (Lib.bitLen l.toArray.size) true true).size=l.length:=by
   have:=pO l;unfold Q4 at this;rwa[T4]at this
  refine⟨_,O,O,?_⟩;have z:=d m _ E q;rw[pO l];exact z
end
section
open Go.Shelf Go.RowKit Go.Lib Go.Sort
theorem RF(x y:Ch)(W:Wo):Calls prog 244 #[.agg #[S x.key,S x.val,.bool x.gone],.agg #[S y.key,S y.val,.bool y.gone]] W λe w'=>e=.returned (.int .i64 (FB x y))/\∃q rR,w'=grow (W.drewN q) rR:=by
 have a:=λb=>strings_Compare ⟨x.key.toArray⟩ ⟨y.key.toArray⟩ b
 change ∀b,Calls prog 116 _ _ _ at a;have c:compareBytes (⟨x.key.toArray⟩:ByteArray).data.toList (⟨y.key.toArray⟩:ByteArray).data.toList=FB x y:=rfl;rw[c]at a;generalize FB x y=r at a ⊢
 go_enter func244,ntmps244
 go_wp2_with (go_at_call 116;refine(a _).mono ?_;rintro e w' ⟨rfl,rfl⟩)
 go_ret
 exact⟨O,0,_,by rw[alloc_eq_grow,alloc_eq_grow,grow_grow];rfl⟩
theorem Wl:Ud 244:=⟨enters_of func244 kr O,λx y W=>RF x y W⟩
end
section
open Go.Shelf Go.RowKit Go.Lib Go.Sort
theorem Xo5(x y:Ch)(W:Wo):Calls prog 249 #[.agg #[S x.key,S x.val,.bool x.gone],.agg #[S y.key,S y.val,.bool y.gone]] W λe w'=>e=.returned (.int .i64 (FB x y))/\∃q rR,w'=grow (W.drewN q) rR:=by
 have a:=λb=>strings_Compare ⟨x.key.toArray⟩ ⟨y.key.toArray⟩ b
 change ∀b,Calls prog 116 _ _ _ at a;have c:compareBytes (⟨x.key.toArray⟩:ByteArray).data.toList (⟨y.key.toArray⟩:ByteArray).data.toList=FB x y:=rfl;rw[c]at a;generalize FB x y=r at a ⊢
 go_enter func249,ntmps249
 go_wp2_with (go_at_call 116;refine(a _).mono ?_;rintro e w' ⟨rfl,rfl⟩)
 go_ret
 exact⟨O,0,_,by rw[alloc_eq_grow,alloc_eq_grow,grow_grow];rfl⟩
theorem Xsf:Ud 249:=⟨enters_of func249 kr O,λx y W=>Xo5 x y W⟩
end
def Vq(a b:List Ah):List Ch:=(a.filter λx=>decide (BE b x.name<0)).map λx=>⟨x.name,[],true⟩
def YL(a b:List Ah):List Ch:=(b.filter λx=>!(get a x.name).isSome||!decide (getD a x.name=x)).map λx=>⟨x.name,(LH x).1,false⟩
def QU(a b:List Ah):List Ch:=Q4 (Vq a b++YL a b)
theorem gz(p:α->Bool)(l:List α)(i:Nat)(x:α)(h:l[i]?=some x):(l.take (i+1)).filter p=(l.take i).filter p++(if p x then[x]else[]):=by
 rw[Yv,h,DO,VB];congr 1;rw[JQ];rfl
theorem Xx1{a b:List Ah}(c:a.length<=10000)(d:b.length<=10000)(i:Nat):(Vq a b++((b.take i).filter λx=>!(get a x.name).isSome||!decide (getD a x.name=x)).map λx=>(⟨x.name,(LH x).1,false⟩:Ch)).length<=20000:=by
 have e:(Vq a b).length<=a.length:=by unfold Vq;rw[Ym];exact EV ..
 have f:((b.take i).filter λx=>!(get a x.name).isSome||!decide (getD a x.name=x)).length<=b.length:=Yr (EV ..) (by rw[Yj];omega);rw[Y0,Ym];omega
theorem tN{l:List Ah}(h:Wf l):∀r∈l,r.name.length<=1000000/\r.parent.length<=1000000:=λr a=>by have:=nA (h.right r a);omega
theorem RG(u y:Nat)(F G:Int)(a A:Oa)(c C:Nat)(b lb:List Ah)(M:Wf b)(P:Wf lb)(D:b.length<=10000)(E:lb.length<=10000)(hK:AJ I)(hP:AR I)(N:La)(d:Aa B w I (Bc u F a c b (Bc y G A C lb N))):
  Cz 151 [ptr u 0,ptr y 0] w λv w'=>∃e,v=e/\Aa B w' I (Ao 237 3 e (QU b lb).length (X2 DP (QU b lb))::Bc u F a c b (Bc y G A C lb N)):=by
 have f:=(((((d.pick 3 O).pick 3 O).pick 3 O).pick 3 O)).Al 237 3;clear d;refine gG 8 (.lk [0,1,17,18] (σ:=Nat×Va) (λ(i,e) _m=>(5,e)::(19,Ab (i:Nat))::_m) (λ(i,e) w=>i<=b.length/\Aa B w I (Ao 237 3 e (((b.take i).filter λx=>decide (BE lb x.name<0)).map λx=>(⟨x.name,[],true⟩:Ch)).length (X2 DP (((b.take i).filter λx=>decide (BE lb x.name<0)).map λx=>(⟨x.name,[],true⟩:Ch)))::Bc u F a c b (Bc y G A C lb N))) (λ(i,e)=>b.length-i) (0,.slice none 0 0) ⟨Y5 _,f⟩ ?_);rintro⟨i,e⟩ w ⟨hi,d⟩;clear f;refine gN 1 ?_ ?_<;>intro R
 ·refine gG 0 ?_;obtain⟨x,hx⟩:∃x,b[i]?=some x:=⟨_,Y2 om⟩
  have t:=tN M x (Y8 hx);obtain⟨p,rfl,Q⟩:=Vc (l:=b) d (k:=2) O i x hx;refine gG 0 (.val (.ii O O om om ke LG) O ?_);refine .val (.as (.Hc (.of O) (by intro j v q;rw[Yh];exact Q j v q) bO LG O) O) O ?_;refine gH 5 ?_;intro b7 w d;refine gE 0 (hG y G A C lb om x.name) ?_;intro w d;refine gM 1 ?_ ?_<;>intro n S
  ·have g:(((b.take i).filter λx=>decide (BE lb x.name<0)).map λx=>(⟨x.name,[],true⟩:Ch)).length<=10000:=by rw[Ym];exact Yr (EV ..) (by rw[Yj];omega)
   refine gG 9 ?_;intro Y V aa H w d;refine Br (i+1,_) O ⟨om,?_⟩;rw[gz _ b i x hx,Y7 (su n),Yn,Yw,EK,TD,Y0];exact(d.z [1,1,5,5,5] 5 1)
  refine gG 2 (Br (i+1,_) O ⟨om,?_⟩);rw[gz _ b i x hx,Y3 (su n),Yx];exact(d.z [1,1,5,5,5] 5 1)
 refine gG 6 ?_;rw[show b.take i=b from Yk om]at d;have e9:Vq b lb++((lb.take 0).filter λx=>!(get b x.name).isSome||!decide (getD b x.name=x)).map (λx=>(⟨x.name,(LH x).1,false⟩:Ch))=Vq b lb:=by simp
 have f:=(((((d.pick 4 O).pick 4 O).pick 4 O).pick 4 O).pick 4 O);clear d;refine .lk [0,1,38,39] (σ:=Nat×Va) (λ(i,e) _m=>(5,e)::(40,Ab (i:Nat))::_m) (λ(i,e) w=>i<=lb.length/\Aa B w I (Ao 237 3 e (Vq b lb++((lb.take i).filter λx=>!(get b x.name).isSome||!decide (getD b x.name=x)).map λx=>(⟨x.name,(LH x).1,false⟩:Ch)).length (X2 DP (Vq b lb++((lb.take i).filter λx=>!(get b x.name).isSome||!decide (getD b x.name=x)).map λx=>(⟨x.name,(LH x).1,false⟩:Ch)))::Bc u F a c b (Bc y G A C lb N))) (λ(i,e)=>lb.length-i) (0,e) ⟨Y5 _,by rw[e9];exact f⟩ ?_;rintro⟨i,e⟩ w ⟨hi,d⟩;clear f;refine gN 1 ?_ ?_<;>intro T
 ·refine gG 0 ?_;obtain⟨x,hx⟩:∃x,lb[i]?=some x:=⟨_,Y2 om⟩
  have t:=tN P x (Y8 hx);obtain⟨p,rfl,Q⟩:=Vc (l:=lb) d (k:=4) O i x hx;refine gG 0 (.val (.ii O O om om ke LG) O ?_);refine .val (.as (.Hc (.of O) (by intro j v q;rw[Yh];exact Q j v q) bO LG O) O) O ?_;refine gH 5 ?_;intro b9 w d;refine gE 0 (Fx u F a c b om x.name) ?_;intro w d;refine gH 9 ?_;intro X w d;refine .Am O O (λm=>(.D6 (.of O) d (k:=0) O bO LG O (λj v q=>by rw[Yl];exact q))) O ?_;refine .Am O O (λm=>(.D6 (.of O) d (k:=3) O bO LG O (λj v q=>by rw[Yl];exact q))) O ?_;refine .Am O O (λm=>Ex.rI (r:=getD b x.name) (.gd m O) (.gd m O)) O ?_;refine gM 1 ?_ ?_<;>intro o U
  ·refine gG 0 ?_;have s:(!(get b x.name).isSome||!decide (getD b x.name=x))=true:=by
    have K:=o
    revert K
    cases(get b x.name).isSome<;>simp[gd]
   have g:=Xx1 D E i;refine gE 1 (Xvk x t.1 t.2 hK hP) ?_;intro w d;refine gH 14 ?_;intro Z W ab J w d;refine gG 1 ?_;have e5:∀(L:List Ch) (c:Ch),(L++[c]).length=L.length+1:=λL c=>by simp
   refine Br (i+1,_) O ⟨om,?_⟩;rw[gz _ lb i x hx,Y7 s,Yn,Yw,EK,<-Yg,TD,e5];exact(d.z [6,6,4,4,6] 5 2)
  refine gG 2 ?_;have s:(!(get b x.name).isSome||!decide (getD b x.name=x))=false:=by
   have K:=o
   revert K
   cases(get b x.name).isSome<;>simp[gd]
  refine Br (i+1,_) O ⟨om,?_⟩;rw[gz _ lb i x hx,Y3 (nB s),Yx];exact(d.z [6,6,4,4,6] 5 2)
 refine gG 0 ?_;rw[show lb.take i=lb from Yk om]at d;have g:(Vq b lb++YL b lb).length<=1000000:=by
  have h:=Xx1 D E lb.length;rw[GK]at h;unfold YL;omega
 refine gC 1 (Xqo 244 Wl (Vq b lb++YL b lb) e 0 _ d O g) ?_;rintro _ w ⟨rfl,d⟩;exact gG 2 ⟨_,O,(d.x [4,4,4,4,4])⟩
def TY(room:Int):List Pr->List Ah->Option (List Ah)
 | [],l=>some l
 | p::ps,l=>if(Ie p.1 p.2).2≠0\/K0 room l (Ie p.1 p.2).1=5 then none else TY room ps (add room l (Ie p.1 p.2).1)
def Ol(room:Int)(ps:List Pr):Nat->List Ah->Option (List Ah)
 | 0,_=>none
 | k+1,l=>if l.length<ps.length then match TY room ps l with
  | none=>none
  | some a=>if a.length=l.length then none else Ol room ps k a
  else some l
def iw(n:Int)(ps:List Pr):Option (List Ah):=Ol (Hz n) ps (ps.length+1) []
theorem LZ{l:List Ah}(h:Wf l)(r:Ah):Wf (add room l r)/\l.length<=(add room l r).length/\((l.length:Int)<=max 0 room->((add room l r).length:Int)<=max 0 room):=by
 unfold add;split
 ·rename_i a
  obtain⟨b,c,d,e⟩:=LY a;refine⟨h.snoc b c d,by simp,λ_=>?_⟩;rw[Y0,LS];omega
 ·exact⟨h,Y9 _,λh=>h⟩
end Go.Proofs.W9
