/- Part 5 of what the proof stands on. -/
import Derived.Test.YtnbngknffkcefaaGreatDoorF30D
set_option linter.unusedVariables false
set_option linter.unusedSimpArgs false
set_option maxHeartbeats 4000000
set_option maxRecDepth 100000
set_option synthInstance.maxHeartbeats 400000
set_option synthInstance.maxSize 10000
open Go Gk
variable {p:Addr}{listed:Array Bool}{af:Array Edge}{fs:Array Field}{ops Ed:Array Oper}{ts:Array TypeId}{held w1 want:Bool}{R:Ending->Wo->Prop}{L L' M:AB}{fd:Field}{fn:Func}{f:FuncId}{I J:Im}{DF DI hi DM:Int}{N Bh Hs:La}{G:List (Bool×Bool)}{pl:List (Nat×Nat)}{D Os T:List Int}{rest:List Oper}{V:List CN}{Ar key nm Ay:Lu}{args cs ds news vs xs zs:Lv}{b bytes c cap db fuel i k kb lg m n n0 nn o off size u:Nat}{spare:Nat->Bool}{ps:Nat->Int}{a a0 ka:Oa}{op:Op}{d:Option Nat}{P:Program}{S1 S2 g1 g2:Prop}{pos:String}{H X α β σ:Type}{E dst src t' ty:TypeId}{us v v0:Va}{B w:Wo}{C:Wo->Prop}{A:X1}{K K':Bk}
namespace Rq
open Pc Gk Ul
structure Co where
 status:Int
 Af:List Pq
 body:Lu
def Bb:List (Int×Lu):=[(200,[79,75]),(302,[70,111,117,110,100]),(400,[66,97,100,32,82,101,113,117,101,115,116]),(403,[70,111,114,98,105,100,100,101,110]),(404,[78,111,116,32,70,111,117,110,100]),(405,[77,101,116,104,111,100,32,78,111,116,32,65,108,108,111,119,101,100]),(503,[83,101,114,118,105,99,101,32,85,110,97,118,97,105,108,97,98,108,101])]
def Gd(n:Int):Lu:=(Bb.lookup n).getD []
theorem Xpi{n:Int}(h:Gd n≠[]):∃k:Nat,n=(k:Int)/\k<=503:=by
 unfold Gd Bb at h;simp only[List.lookup]at h
 repeat' split at h
 all_goals first
  | (rename_i a;have:=eq_of_beq a;subst this;exact⟨_,O,de⟩)
  | exact Yz O h
theorem r7(n:Int):(Gd n).length<=19:=by
 unfold Gd Bb;simp only[List.lookup]
 repeat' split
 all_goals decide
def OE(s:Lu):Bool:=List.all s (B_ 32 126)&&Go.Lib.trimB s 32==s
def YT:Lu:=[67,111,110,116,101,110,116,45,76,101,110,103,116,104]
def aA(r:Co):Bool:=(Gd r.status==[]||decide (32<((r.Af.length:Nat):Int)))||decide (8192<((r.body.length:Nat):Int))
def o_(h:Pq):Bool:=(!H8 h.1||!OE h.2)||MM h.1 YT
def Zh(r:Co):Bool:=!aA r&&r.Af.all (λh=>!o_ h)
def uU:Lu:=[72,84,84,80,47,49,46,49,32]
def JW(r:Co):Lu:=(((uU++Go.Lib.decDigits r.status.toNat)++[32])++Gd r.status)++CR
def jr(s:Lu)(h:Pq):Lu:=s++(((h.1++[58,32])++h.2)++CR)
def HG(r:Co):List Pq:=r.Af++[(YT,Go.Lib.decDigits r.body.length)]
def Ac8(r:Co):Lu:=((HG r).foldl jr (JW r)++CR)++r.body
def mG(r:Co):Lu×Nat:=if Zh r=true then(Ac8 r,0)else([],1)
theorem sC(n:Nat):∀(l:List Pq) (s:Lu),(∀h∈l,h.1.length+h.2.length<=n)->(l.foldl jr s).length<=s.length+l.length*(n+4)
 | [],s,_=>by simp
 | h::l,s,a=>by
  rw[Kt,Y5,F0];have b:=sC n l (jr s h) (λx hx=>a x (by simp[hx]));have c:=a h sz;have d:(jr s h).length=s.length+(h.1.length+h.2.length+4):=by
   unfold jr CR;simp only[Y0,Y5,Yh];omega
  omega
def MU(a:Int)(c b:Lu):Co:=⟨a,[([67,111,110,116,101,110,116,45,84,121,112,101],c)],b⟩
def IE:Lu:=[76,111,99,97,116,105,111,110]
def Pj:Lu:=[83,101,116,45,67,111,111,107,105,101]
def MO(b:Lu)(a:List Lu):Co:=⟨302,(IE,b)::a.map (λc=>(Pj,c)),[]⟩
end Rq
namespace Go.Proofs.W9
open Gk Ul Pc Tk Tr Xm Rq
open Tryz
theorem Xta(N:La)(a:Aa B w I N):Cz 137 [] w λv w'=>∃b,v=.map (some b)/\Aa B w' I (K3 Ab b (Bb.map λp=>(p.1,S p.2))::N):=by
 refine gG 1 (.mkMap Ab a O ?_);intro b1 w a;refine .B6 (key:=200) Ko a (k:=0) O (.of O) (.of O) (.of O) O fG B1 ?_;intro w a;refine .B6 (key:=302) Ko a (k:=0) O (.of O) (.of O) (.of O) O fG B1 ?_;intro w a;refine .B6 (key:=400) Ko a (k:=0) O (.of O) (.of O) (.of O) O fG B1 ?_;intro w a;refine .B6 (key:=403) Ko a (k:=0) O (.of O) (.of O) (.of O) O fG B1 ?_;intro w a;refine .B6 (key:=404) Ko a (k:=0) O (.of O) (.of O) (.of O) O fG B1 ?_;intro w a;refine .B6 (key:=405) Ko a (k:=0) O (.of O) (.of O) (.of O) O fG B1 ?_;intro w a;refine .B6 (key:=503) Ko a (k:=0) O (.of O) (.of O) (.of O) O fG B1 ?_;intro w a;exact gG 2 ⟨b1,O,a⟩
theorem vE(e:Int)(N:La)(a:Aa B w I N):Ce B I N 79 [Ab e] w (S (Gd e)):=by
 refine gF 1 (Xta) ?_;rintro _ w ⟨d,rfl,a⟩;refine gH 1 ?_;refine .val (v:=S (Gd e)) (by have c:=vV S e Bb;have b:((Bb.map λp=>(p.1,S p.2)).lookup e).getD (S [])=S (Gd e):=by { rw[c];unfold Gd;cases Bb.lookup e<;>rfl };rw[<-b];exact .N0 (key:=e) Ko (a.LM (k:=0) O) (.of O) (.of O) fG B1 KL) O ?_;exact gG 1 ⟨O,a.s⟩
theorem OI(c:Ui):((decide ((c.toNat:Int)<32))||(decide (126<(c.toNat:Int))))=!B_ 32 126 c:=eq_of_beq (Xc (p:=λc=>((decide ((c.toNat:Int)<32))||(decide (126<(c.toNat:Int))))==!B_ 32 126 c) dk c)
theorem XU(s:Lu)(g:s.length<=1000000)(N:La)(d:Aa B w I N):Ce B I N 102 [S s] w (.bool (OE s)):=by
 refine gG 4 (.lk [0,5] (σ:=Nat) (λi _m=>(6,Ab (i:Nat))::_m) (λi w=>i<=s.length/\List.all s (B_ 32 126)=List.all (s.drop i) (B_ 32 126)/\Aa B w I N) (λi=>s.length-i) 0 ⟨Y4 _,O,d⟩ ?_);rintro i w ⟨hi,a,d⟩;refine gN 1 ?_ ?_<;>intro f
 ·refine gM 12 ?_ ?_<;>intro c e
  ·refine gG 1 ?_;have b:=c;rw[OI]at b;refine⟨Yc Value.bool ?_,d⟩;unfold OE;rw[a,X7 s om,DR,show B_ 32 126 (at_ s (i:Int))=false by simpa using b];rfl
  refine gG 2 ?_;have b:=c;rw[OI]at b;refine rd (i+1) ⟨om,?_,d⟩;rw[a,X7 s om,DR,show B_ 32 126 (at_ s (i:Int))=true by simpa using b,Cv]
 refine gE 1 (Xnd s 32 de g) ?_;intro w d;refine gG 3 (⟨Yc Value.bool ?_,d⟩);unfold OE;rw[a,Yb om];rfl
theorem vl(r:Co)(m:Oa)(u:Nat)(n:RS I m 2 r.Af.length (X2 X5 r.Af))(o:∀h∈r.Af,h.1.length<=1000000/\h.2.length<=1000000)(N:La)(a:Aa B w I N):Ce B I N 43 [.agg #[Ab r.status,.slice m r.Af.length u,S r.body]] w (.bool (Zh r)):=by
 refine gH 1 ?_;intro b1 w a;refine gG 1 (gH 1 (gE 1 (vE _) ?_));intro w a;refine gH 1 (gH 1 (gH 1 (gH 1 (gH 1 (gH 1 (gH 1 (gH 1 (gH 1 (gH 1 (gH 1 (gH 1 ?_)))))))))));refine gM 1 ?_ ?_<;>intro d g
 ·exact gG 1 ⟨by unfold Zh;rw[show aA r=true from d];rfl,a.s⟩
 refine gH 1 (gH 1 (gH 1 ?_));have f:=a.drop (k:=0) O;clear a;refine gG 1 (.lk [22,23] (σ:=Nat) (λi _m=>(24,Ab (i:Nat))::_m) (λi w=>i<=r.Af.length/\r.Af.all (λh=>!o_ h)=(r.Af.drop i).all (λh=>!o_ h)/\Aa B w I N) (λi=>r.Af.length-i) 0 ⟨Y4 _,O,f⟩ ?_);rintro i w ⟨hi,b,a⟩;clear f;refine gN 1 ?_ ?_<;>intro j
 ·obtain⟨x,hx⟩:∃x,r.Af[i]?=some x:=⟨_,Y2 om⟩
  have t:=o x (Y7 hx);obtain⟨q,rfl,p⟩:=Be (cells:=X5) (λ_=>rfl) n hx;refine gH 1 (gH 1 (gH 1 ?_));intro v w a;refine gG 1 ?_;intro w a;refine gH 1 (gE 1 (Xtp x.1 om) ?_);intro w a;refine gH 1 (gH 1 (gH 1 (gH 1 (.Au (T:=λw=>Aa B w I _) O O O func102 O (λc=>(X6 (.gd c O) X4)) O (λc=>XU x.2 om _ a) a ?_))));clear a;rintro w a;refine gH 1 (gH 1 (gH 1 (gH 1 (gH 1 (.Au (T:=λw=>Aa B w I _) O O O func103 O (λc=>(X6 (.gd c O) (A3 O X4))) O (λc=>Xmn x.1 YT om _ a) a ?_)))));clear a;rintro w a;refine gM 1 ?_ ?_<;>intro e l
  ·refine gG 1 (⟨Yc Value.bool ?_,a.s⟩);unfold Zh;rw[b,Ym (Y1.1 hx).1,(Y1.1 hx).2,DR,show o_ x=true from e];simp
  refine gH 1 (gG 1 (rd (i+1) ⟨om,?_,(a.y 0 1)⟩));rw[b,Ym (Y1.1 hx).1,(Y1.1 hx).2,DR,show o_ x=false from e];rfl
 refine gG 1 (⟨Yc Value.bool ?_,a⟩);unfold Zh;rw[b,Yb om,show aA r=false from d];rfl
theorem rS(n:Int)(b a:Lu)(N:La)(c:Aa B w I N):Cz 78 [Ab n,S b,S a] w λv w'=>∃J e f,v=.agg #[Ab (MU n b a).status,.slice e (MU n b a).Af.length f,S (MU n b a).body]/\Le I J/\(MU n b a).Af.length<=f/\RS J e 2 (MU n b a).Af.length (X2 X5 (MU n b a).Af)/\Aa B w' J N:=by
 refine gH 8 ?_;intro i g w c;refine gG 0 ?_;replace c:=c.py [1];obtain⟨J,h,d,c⟩:=MI (size:=2) c O;exact⟨J,_,_,O,h,Ya _,d,c⟩
end Go.Proofs.W9
namespace Rq
open Pc Gk Ul Xm
def Z_:Lu:=[105,110,112,117,116]
def jq:Lu:=[110,97,109,101]
def iT:Lu:=[118,97,108,117,101]
def NS:Lu:=[104,116,109,108]
def nj:Lu:=[98,111,100,121]
def VC:Lu:=[102,111,114,109]
def s4:Lu:=[97,99,116,105,111,110]
def s6:Lu:=[47,108,111,103,105,110]
def s5:Lu:=[109,101,116,104,111,100]
def tK:Lu:=[112,111,115,116]
def Hj:Lu:=[108,116]
def Xd:Lu:=[115,101,114,118,105,99,101]
def Xr:Lu:=[117,115,101,114,110,97,109,101]
def Xx:Lu:=[112,97,115,115,119,111,114,100]
def VE:Lu:=[112]
def mB:Lu:=[99,108,97,115,115]
def kK:Lu:=[116,101,120,116,47,104,116,109,108]
def qm:Lu:=[116,101,120,116,47,120,109,108]
def xO:Lu:=[116,101,120,116,47,112,108,97,105,110]
def TZ:Lu:=[99,97,115,58,115,101,114,118,105,99,101,82,101,115,112,111,110,115,101]
def R6:Lu:=[120,109,108,110,115,58,99,97,115]
def R5:Lu:=[104,116,116,112,58,47,47,119,119,119,46,121,97,108,101,46,101,100,117,47,116,112,47,99,97,115]
def jo:Lu:=[99,111,100,101]
def tL:Lu:=[116,105,99,107,101,116,32,111,114,32,115,101,114,118,105,99,101,32,105,115,32,110,111,116,32,103,111,111,100]
def VD:Lu:=[110,111,32,116,105,99,107,101,116,32,105,115,32,103,105,118,101,110]
def tJ:Lu:=[99,97,115,58,97,117,116,104,101,110,116,105,99,97,116,105,111,110,70,97,105,108,117,114,101]
def LD:Lu:=[99,97,115,58,112,114,111,120,121,70,97,105,108,117,114,101]
def oN:Lu:=[99,97,115,58,112,114,111,120,121,84,105,99,107,101,116]
def LF:Lu:=[99,97,115,58,112,114,111,120,121,83,117,99,99,101,115,115]
def B4:Lu:=[99,97,115,58,97,117,116,104,101,110,116,105,99,97,116,105,111,110,83,117,99,99,101,115,115]
def pd:Lu:=[99,97,115,58,117,115,101,114]
def NQ:Lu:=[99,97,115,58]
def oT:Lu:=[99,97,115,58,97,116,116,114,105,98,117,116,101,115]
def fM:Lu:=[99,97,115,58,112,114,111,120,121,71,114,97,110,116,105,110,103,84,105,99,107,101,116]
def oA:Lu:=[99,97,115,58,112,114,111,120,105,101,115]
def NR:Lu:=[99,97,115,58,112,114,111,120,121]
def qj:Lu:=[110,111,10,10]
def Ac1:Lu:=[121,101,115,10]
def DS(name s:Lu)(l:List Pq):Nd:=.mk name l s []
def GG(name:Lu)(a:List Nd):Nd:=.mk name [] [] a
def Ly(name v:Lu):Nd:=DS Z_ [] [(jq,name),(iT,v)]
def iS(a:List Nd):Nd:=GG NS [GG nj a]
def UC(n:Nd):Lu:=if(CD 8 200 n).isSome=true then Cb 8 n else[]
def JA(a:List Nd):Co:=MU 200 kK (UC (iS a))
def Z8(lt a:Lu):Nd:=.mk VC [(s4,s6),(s5,tK)] [] [Ly Hj lt,Ly Xd a,Ly Xr [],Ly Xx []]
def jn(lt a Hg:Lu):Co:=if Hg=[]then JA [Z8 lt a]else JA [DS VE Hg [],Z8 lt a]
def Sh(a s:Lu):Co:=JA [DS VE s [(mB,a)]]
def Xq(n:Int):Co:=MU n xO (Gd n++[10])
def mD(a:Lu)(ok:Bool):Co:=if ok=true then MU 200 xO ((Ac1++a)++[10])else MU 200 xO qj
def Jt(n:Nd):Co:=MU 200 qm (UC (.mk TZ [(R6,R5)] [] [n]))
def mA(name s a:Lu):Nd:=DS name s [(jo,a)]
def DJ:Nat->Nd->Nat
 | 0,_=>0
 | d+1,n=>2*n.name.length+5+(n.attrs.map λa=>a.1.length+6*a.2.length+4).sum+6*n.text.length+(n.kids.map (DJ d)).sum
theorem L6{α:Type}(f g:α->Nat)(h:∀x,f x<=g x):∀l:List α,(l.map f).sum<=(l.map g).sum
 | []=>Ya _
 | x::l=>by simp only[Yu,aX];have:=L6 f g h l;have:=h x;omega
theorem wA{α:Type}(f:α->Lu):∀l:List α,((l.map f).flatten).length=(l.map λx=>(f x).length).sum
 | []=>rfl
 | x::l=>by simp only[Yu,Fx,Y0,aX,wA f l]
theorem xw:∀(d:Nat) (n:Nd),(Cb d n).length<=DJ d n
 | 0,n=>Ya _
 | d+1,n=>by
  have b:=oS n.text;have c:((n.attrs.map G_).flatten).length<=(n.attrs.map λa=>a.1.length+6*a.2.length+4).sum:=by
   rw[wA];refine L6 _ _ (λa=>?_) _
   have:=oS a.2
   unfold G_;simp only[Y5,Y0,Yh]
   omega
  have e:((n.kids.map (Cb d)).flatten).length<=(n.kids.map (DJ d)).sum:=by
   rw[wA];exact L6 _ _ (xw d) _
  rw[Cb,DJ];simp only[Y5,Y0,Yh]
  omega
end Rq
namespace Go.Proofs.W9
open Gk Ul Pc Tk Tr Xm Rq
open Tryz
def C2(I:Im)(r:Co)(B:Wo)(N:La)(v:Va)(w':Wo):Prop:=∃J a b,v=.agg #[Ab r.status,.slice a r.Af.length b,S r.body]/\Le I J/\r.Af.length<=b/\RS J a 2 r.Af.length (X2 X5 r.Af)/\Aa B w' J N
theorem C2.up{r:Co}(h:C2 J r B N v w)(e:Le I J):C2 I r B N v w:=by
 obtain⟨a,f,g,b,c,d⟩:=h;exact⟨a,f,g,b,e.trans c,d⟩
theorem Bt.up:∀{d:Nat} {cs:Lv} {n:Nd},Bt d I cs n->Bt (d+1) I cs n
 | 0,_,_,h=>h.elim
 | d+1,cs,n,h=>by
  obtain⟨j,l,m,o,p,f,g,ka,ck,xs,q,r,s,t,a,b,c,e⟩:=h;exact⟨j,l,m,o,p,f,g,ka,ck,xs,q,r,s,t,a,b,c,λi x k hx u=>(e i x k hx u).up⟩
theorem Bt.le{d e:Nat}{n:Nd}(h:Bt d I cs n)(a:d<=e):Bt e I cs n:=by
 induction a with
 | refl=>exact h
 | step _ b=>exact b.up
def Ci(d:Nat)(I:Im)(ka:Oa)(ck:Nat)(a:List Nd):Prop:=a.length<=10000/\a.length<=ck/\∃xs:List Lv,RS I ka 4 a.length xs.flatten/\xs.length=a.length/\(∀x∈xs,x.length=4)/\∀(i:Nat) x k,xs[i]?=some x->a[i]?=some k->Bt d I x k
theorem Ci.mono{d:Nat}{ck:Nat}{ks:List Nd}(h:Ci d I ka ck ks)(a:Le I J):Ci d J ka ck ks:=by
 obtain⟨b,c,xs,e,f,g,j⟩:=h;exact⟨b,c,xs,e.mono a,f,g,λi x k hx l=>(j i x k hx l).mono a⟩
theorem Z6{d:Nat}{ck:Nat}(l:List (Lv×Nd))(h:l.length<=10000)(g:l.length<=ck)(f:RS I ka 4 l.length (l.map (·.1)).flatten)(c:∀p∈l,Bt d I p.1 p.2):Ci d I ka ck (l.map (·.2)):=by
 refine⟨by rw[Yj];exact h,by rw[Yj];exact g,l.map (·.1),by rw[Yj];exact f,by rw[Yj,Yj],λx hx=>?_,λi x k hx a=>?_⟩
 ·obtain⟨p,j,rfl⟩:=Dt.1 hx;obtain⟨_,_,_,_,_,_,_,_,e⟩:=(c p j).cells;rw[e];rfl
 ·rw[Yr]at hx a;cases b:l[i]? with
  | none=>rw[b]at hx;cases hx
  | some p =>
   rw[b]at hx a;cases hx;cases a
   exact c p (Y7 b)
theorem Fa{d:Nat}{f:Lu}{l:List Pq}{b:Oa}{c ck:Nat}{e:List Nd}(g:nm.length<=10000)(h:f.length<=10000)(i:l.length<=10000)(j:∀a∈l,a.1.length<=10000/\a.2.length<=10000)(n:l.length<=c)(k:RS I b 2 l.length (X2 X5 l))(m:Ci d I ka ck e):Bt (d+1) I [S nm,.slice b l.length c,S f,.slice ka e.length ck] (.mk nm l f e):=by
 obtain⟨o,p,xs,q,r,s,t⟩:=m;exact⟨g,h,i,o,j,b,c,ka,ck,xs,O,n,p,k,q,r,s,t⟩
theorem nk(d:Nat)(I:Im):Ci d I none 0 []:=⟨Y4 _,Y4 _,[],RS.nil _ _,O,by simp,by simp⟩
theorem ZZ(nm s:Lu)(a:Oa)(n b:Nat)(N:La)(c:Aa B w I N):Ce B I N 246 [S nm,S s,.slice a n b] w (.agg #[S nm,.slice a n b,S s,.slice none 0 0]):=by
 refine gH 6 ?_;intro d w c;exact gG 0 ⟨O,c.s⟩
theorem ff(nm:Lu)(ka:Oa)(n ck:Nat)(N:La)(a:Aa B w I N):Ce B I N 261 [S nm,.slice ka n ck] w (.agg #[S nm,.slice none 0 0,S [],.slice ka n ck]):=by
 refine gH 5 ?_;intro b w a;exact gG 0 ⟨O,a.s⟩
theorem Xpg(a:Lu)(n:Nd)(s1 l:Lu)(f g:Oa)(j h k i:Nat)(q:Kz I)(o:Bt 8 I [S s1,.slice f j h,S l,.slice g k i] n)(p:(Cb 8 n).length<=1000000)(N:La)(b:Aa B w I N):Cz 341 [S a,.agg #[S s1,.slice f j h,S l,.slice g k i]] w λv w'=>C2 I (MU 200 a (UC n)) B N v w':=by
 refine gH 3 ?_;intro u x w b;refine gE 0 (Xjg n _ q.kx o p) ?_;intro w b;refine gF 7 (rS 200 _ _) ?_;rintro _ w ⟨m,r,t,rfl,c,e,d,b⟩;refine gH 1 ?_;intro w b;exact gG 0 ⟨m,r,t,O,c,e,d,b.s⟩
theorem wL(b:List Nd)(ka:Oa)(ck:Nat)(o:Kz I)(n:Ci 6 I ka ck b)(u:DJ 8 (iS b)<=1000000)(N:La)(a:Aa B w I N):Cz 245 [.slice ka b.length ck] w λv w'=>C2 I (JA b) B N v w':=by
 refine gH 2 ?_;intro r w a;refine gE 0 (ff _ ka _ ck) ?_;intro w a;refine gH 1 ?_;intro t w a;replace a:=a;obtain⟨k,c,e,a⟩:=MI (size:=4) a O;have f:Bt 7 k _ (GG nj b):=Fa (d:=6) (l:=[]) de de de sz (Ya _) (RS.nil _ _) (n.mono c);have h:Bt 8 k _ (iS b):=Fa (d:=7) (l:=[]) de de de sz (Ya _) (RS.nil _ _) (Z6 [(_,GG nj b)] (Yx O) (Ya 1) e (su f));refine gE 0 (ff _ _ _ _) ?_;intro w a;refine gF 0 (Xpg _ _ _ _ _ _ _ _ _ _ (o.mono c) h (oh (xw 8 (iS b)))) ?_;rintro _ w ⟨m,p,q,rfl,g,j,i,a⟩;refine gH 1 ?_;intro w a;exact gG 0 ⟨m,p,q,O,c.trans g,j,i,a.s⟩
theorem oq(a s:Lu)(C:a.length<=100)(t:s.length<=10000)(r:Kz I)(N:La)(b:Aa B w I N):Cz 152 [S a,S s] w λv w'=>C2 I (Sh a s) B N v w':=by
 refine gH 5 ?_;intro z A w b;replace b:=b;obtain⟨y,e,f,b⟩:=MI (size:=2) b O;refine gE 0 (ZZ VE s _ _ _) ?_;intro w b;refine gH 1 ?_;intro q w b;replace b:=b;obtain⟨n,c,g,b⟩:=MI (size:=4) b O;have i:Ci 6 n _ _ [DS VE s [(mB,a)]]:=Z6 [(_,DS VE s [(mB,a)])] (Yx O) (Ya 1) g (by
  intro p m;simp at m
  subst m;exact Fa (d:=5) (l:=[(mB,a)]) de t (Yx O) (by simp[mB];omega) (Ya 1) (f.mono c) (nk _ _))
 refine gF 0 (wL _ _ _ (r.mono (e.trans c)) i (by simp[DJ,iS,GG,DS,Nd.name,Nd.attrs,Nd.text,Nd.kids,NS,nj,VE,mB];omega)) ?_;rintro _ w ⟨o,u,x,rfl,h,k,j,b⟩;refine gH 1 ?_;intro w b;exact gG 0 ⟨o,u,x,O,e.trans (c.trans h),k,j,b.s⟩
theorem lT(n:Int)(N:La)(a:Aa B w I N):Cz 36 [Ab n] w λv w'=>C2 I (Xq n) B N v w':=by
 refine gH 3 ?_;intro i w a;refine gE 0 (vE n) ?_;intro w a;have f:=r7 n;refine gF 1 (rS n _ _) ?_;rintro _ w ⟨e,g,h,rfl,b,d,c,a⟩;refine gH 1 ?_;intro w a;exact gG 0 ⟨e,g,h,O,b,d,c,a.s⟩
theorem Xzk(a:Lu)(ok:Bool)(l:a.length<=100000)(N:La)(d:Aa B w I N):Cz 162 [S a,.bool ok] w λv w'=>C2 I (mD a ok) B N v w':=by
 refine gG 3 ?_;intro k w d;refine gM 0 ?_ ?_<;>intro f j
 ·refine gF 0 (rS 200 _ _) ?_;rintro _ w ⟨g,h,i,rfl,b,e,c,d⟩;refine gH 1 ?_;intro w d;refine gG 0 ?_;unfold mD;rw[Y3 (su f)];exact⟨g,h,i,O,b,e,c,d.s⟩
 refine gF 3 (rS 200 _ _) ?_;rintro _ w ⟨g,h,i,rfl,b,e,c,d⟩;refine gH 1 ?_;intro w d;refine gG 0 ?_;unfold mD;rw[Y9 (su f)];exact⟨g,h,i,O,b,e,c,d.s⟩
theorem rO(nm e:Lu)(N:La)(a:Aa B w I N):Cz 342 [S nm,S e] w λv w'=>∃J d,v=.agg #[S Z_,.slice d 2 2,S [],.slice none 0 0]/\Le I J/\RS J d 2 2 (X2 X5 [(jq,nm),(iT,e)])/\Aa B w' J N:=by
 refine gH 6 ?_;intro g h w a;replace a:=a;obtain⟨f,c,b,a⟩:=MI (size:=2) (n:=2) a O;refine gE 0 (ZZ _ [] _ _ _) ?_;intro w a;refine gH 1 ?_;intro w a;exact gG 0 ⟨f,_,O,c,b,a.s⟩
theorem s3{b:Oa}{a:Lu}(e:nm.length<=10000)(f:a.length<=10000)(d:Nat)(c:RS I b 2 2 (X2 X5 [(jq,nm),(iT,a)])):Bt (d+1) I [S Z_,.slice b 2 2,S [],.slice none 0 0] (Ly nm a) :=
 Fa (d:=d) (l:=[(jq,nm),(iT,a)]) de de (Yx O) (by simp[jq,iT];omega) (Ya 2) c (nk _ _)
theorem Rn(lt sv t:Lu)(h1:lt.length<=5000)(h2:sv.length<=5000)(h3:t.length<=5000)(Q:Kz I)(N:La)(a:Aa B w I N):Cz 248 [S lt,S sv,S t] w λv w'=>C2 I (jn lt sv t) B N v w':=by
 refine gH 2 ?_;intro b6 w a;refine gF 0 (rO _ lt) ?_;rintro _ w ⟨J1,i1,rfl,K,F,a⟩;refine gF 1 (rO _ sv) ?_;rintro _ w ⟨J2,i2,rfl,x,G,a⟩;refine gF 0 (rO _ []) ?_;rintro _ w ⟨J3,i3,rfl,k,H,a⟩;refine gF 0 (rO _ []) ?_;rintro _ w ⟨J4,i4,rfl,e,J,a⟩;refine gH 1 ?_;intro E w a;replace a:=a;obtain⟨T,b,y,a⟩:=MI (size:=4) (n:=4) a O;have f:Le I J4:=K.trans (x.trans (k.trans e));have L:Ci 4 T (some (ad E 0)) 4 [Ly Hj lt,Ly Xd sv,Ly Xr [],Ly Xx []]:=Z6 [([S Z_,.slice i1 2 2,S [],.slice none 0 0],Ly Hj lt),([S Z_,.slice i2 2 2,S [],.slice none 0 0],Ly Xd sv),([S Z_,.slice i3 2 2,S [],.slice none 0 0],Ly Xr []),([S Z_,.slice i4 2 2,S [],.slice none 0 0],Ly Xx [])] (Yx O) (Ya 4) y (by
  intro p h;simp at h
  rcases h with rfl|rfl|rfl|rfl
  ·exact s3 de om 3 (F.mono (x.trans (k.trans (e.trans b))))
  ·exact s3 de om 3 (G.mono (k.trans (e.trans b)))
  ·exact s3 de de 3 (H.mono (e.trans b))
  ·exact s3 de de 3 (J.mono b))
 refine gE 0 (ff _ _ _ _) ?_;intro w a;refine gH 5 ?_;intro b7 X w a;replace a:=a;obtain⟨U,c,z,a⟩:=MI (size:=2) (n:=2) a O;have u:Bt 5 U _ (Z8 lt sv):=Fa (d:=4) (l:=[(s4,s6),(s5,tK)]) de de (Yx O) de (Ya 2) z (L.mono c);refine gG 4 ?_;intro w a;refine gM 0 ?_ ?_<;>intro g R
 ·refine gH 2 ?_;intro Y w a;replace a:=a;obtain⟨V,i,A,a⟩:=MI (size:=4) (n:=1) a O;have o:Ci 6 V _ _ [Z8 lt sv]:=Z6 [(_,Z8 lt sv)] (Yx O) (Ya 1) A (by
   intro p h;simp at h
   subst h;exact((u.mono i).le de))
  refine gF 0 (wL _ _ _ (Q.mono (f.trans (b.trans (c.trans i)))) o (by simp[DJ,iS,GG,DS,Z8,Ly,Nd.name,Nd.attrs,Nd.text,Nd.kids,NS,nj,VE,VC,Z_,jq,iT,Hj,Xd,Xr,Xx,s4,s6,s5,tK];omega)) ?_;rintro _ w ⟨D,M,P,rfl,m,r,q,a⟩;refine gH 1 ?_;intro w a;refine gG 0 ?_;unfold jn;rw[Y9 (su g)];exact⟨D,M,P,O,f.trans (b.trans (c.trans (i.trans m))),r,q,a.s⟩
 refine gG 0 (gD [0] [5] [0,2,1,3,4,5] ?_);intro w a;refine gE 2 (ZZ VE t _ _ _) ?_;intro w a;refine gH 1 ?_;intro Z w a;replace a:=a;obtain⟨W,j,C,a⟩:=MI (size:=4) (n:=2) a O;have o:Ci 6 W _ _ [DS VE t [],Z8 lt sv]:=Z6 [(_,DS VE t []),(_,Z8 lt sv)] (Yx O) (Ya 2) C (by
  intro p h;simp at h
  rcases h with rfl|rfl
  ·exact Fa (d:=5) (l:=[]) de om de sz (Ya _) (RS.nil _ _) (nk _ _)
  ·exact((u.mono j).le de))
 refine gF 0 (wL _ _ _ (Q.mono (f.trans (b.trans (c.trans j)))) o (by simp[DJ,iS,GG,DS,Z8,Ly,Nd.name,Nd.attrs,Nd.text,Nd.kids,NS,nj,VE,VC,Z_,jq,iT,Hj,Xd,Xr,Xx,s4,s6,s5,tK];omega)) ?_;rintro _ w ⟨D,M,P,rfl,m,r,q,a⟩;refine gH 1 ?_;intro w a;refine gG 0 ?_;unfold jn;rw[Y3 (su g)];exact⟨D,M,P,O,f.trans (b.trans (c.trans (j.trans m))),r,q,a.s⟩
theorem sI(n:Nd)(s1 u:Lu)(m o:Oa)(r p t q:Nat)(C:Kz I)(A:Bt 7 I [S s1,.slice m r p,S u,.slice o t q] n)(K:DJ 8 (.mk TZ [(R6,R5)] [] [n])<=1000000)(N:La)(a:Aa B w I N):Cz 258 [.agg #[S s1,.slice m r p,S u,.slice o t q]] w λv w'=>C2 I (Jt n) B N v w':=by
 refine gH 4 ?_;intro b1 F H w a;replace a:=a;obtain⟨x,b,e,a⟩:=MI (size:=4) a O;have h:Ci 7 x _ _ [n]:=Z6 [(_,n)] (Yx O) (Ya 1) e (by simpa using A.mono b);refine gE 0 (ff _ _ _ _) ?_;intro w a;refine gH 4 ?_;intro G J w a;replace a:=a;obtain⟨y,c,f,a⟩:=MI (size:=2) a O;have i:Bt 8 y _ (.mk TZ [(R6,R5)] [] [n]):=Fa (d:=7) (l:=[(R6,R5)]) de de (Yx O) de (Ya 1) f (h.mono c);refine gH 3 ?_;intro w a;refine gF 0 (Xpg _ (.mk TZ [(R6,R5)] [] [n]) _ _ _ _ _ _ _ _ (C.mono (b.trans c)) i (oh (xw 8 (.mk TZ [(R6,R5)] [] [n])))) ?_;rintro _ w ⟨z,D,E,rfl,g,k,j,a⟩;refine gH 1 ?_;intro w a;exact gG 0 ⟨z,D,E,O,b.trans (c.trans g),k,j,a.s⟩
theorem Xpf(nm s a:Lu)(N:La)(b:Aa B w I N):Cz 259 [S nm,S s,S a] w λv w'=>∃J e,v=.agg #[S nm,.slice e 1 1,S s,.slice none 0 0]/\Le I J/\RS J e 2 1 (X2 X5 [(jo,a)])/\Aa B w' J N:=by
 refine gH 6 ?_;intro h g w b;replace b:=b;obtain⟨f,d,c,b⟩:=MI (size:=2) b O;refine gE 0 (ZZ nm s _ _ _) ?_;intro w b;refine gH 1 ?_;intro w b;exact gG 0 ⟨f,_,O,d,c,b.s⟩
theorem U6{b:Oa}{s a:Lu}(e:nm.length<=100)(f:s.length<=100)(g:a.length<=100)(c:RS I b 2 1 (X2 X5 [(jo,a)])):Bt 7 I [S nm,.slice b 1 1,S s,.slice none 0 0] (mA nm s a) :=
 Fa (d:=6) (l:=[(jo,a)]) om om (Yx O) (by simp[jo];omega) (Ya 1) c (nk _ _)
theorem sS(e:Int):(fL e).length<=24:=by
 unfold fL Cc;simp only[List.lookup]
 repeat' split
 all_goals decide
def mE(a:Lu)(e:Int):Co:=if e≠0 then Jt (mA LD VD (fL e))else Jt (GG LF [DS oN a []])
theorem Xzl(g:Lu)(e:Int)(A:g.length<=5000)(u:Kz I)(N:La)(a:Aa B w I N):Cz 165 [S g,Ab e] w λv w'=>C2 I (mE g e) B N v w':=by
 refine gG 3 ?_;intro z w a;refine gN 0 ?_ ?_<;>intro k
 ·refine gE 1 (Xu7 e) ?_;intro w a;refine gF 0 (Xpf _ _ _) ?_;rintro _ w ⟨y,C,rfl,i,n,a⟩;refine gF 0 (sI _ _ _ _ _ _ _ _ _ (u.mono i) (U6 de de (oh (sS e)) n) (by have:=sS e;simp[DJ,mA,DS,Nd.name,Nd.attrs,Nd.text,Nd.kids,TZ,R6,R5,jo,tJ,LD,tL,VD];omega)) ?_;rintro _ w ⟨m,q,r,rfl,b,f,c,a⟩;refine gH 1 ?_;intro w a;refine gG 0 ?_;unfold mE;rw[Y9 (oh k)];exact⟨m,q,r,O,i.trans b,f,c,a.s⟩
 refine gE 1 (ZZ _ g _ _ _) ?_;intro w a;refine gH 1 ?_;intro x w a;replace a:=a;obtain⟨t,h,j,a⟩:=MI (size:=4) a O;have p:Bt 6 t _ (DS oN g []):=Fa (d:=5) (l:=[]) de om de sz (Ya _) (RS.nil _ _) (nk _ _);have o:Bt 7 t _ (GG LF [DS oN g []]):=Fa (d:=6) (l:=[]) de de de sz (Ya _) (RS.nil _ _) (Z6 [(_,DS oN g [])] (Yx O) (Ya 1) j (su p));refine gE 0 (ff _ _ _ _) ?_;intro w a;refine gF 0 (sI _ _ _ _ _ _ _ _ _ (u.mono h) o (by simp[DJ,GG,DS,Nd.name,Nd.attrs,Nd.text,Nd.kids,TZ,R6,R5,LF,oN];omega)) ?_;rintro _ w ⟨m,q,r,rfl,b,f,c,a⟩;refine gH 1 ?_;intro w a;refine gG 0 ?_;unfold mE;rw[Y3 (oh k)];exact⟨m,q,r,O,h.trans b,f,c,a.s⟩
theorem Xse:prog.info? 124=some t124:=by kernel_rfl
theorem Ex.qV{g:Option (Nat×Bool)}{t e:TypeId}{x z u:Operand}{len s:Nat}{b:Int}(hx:Ev n L x (.slice a0 len cap))(p:Ev n L z (Ab hi))(o:Ev n L u (Ab b))(j:0<=hi)(k:hi<=b)(l:b<=cap)(f:P.underlying t=some (.slice e))(m:∀w,(Go.sizeOf e).run P w=.ok s w):Ex P n L w ⟨d,.slice t x none (some z) (some u),ty,pos,af,g⟩ (sliced a0 0 hi.toNat b.toNat s) w:=λa c=>by
 have i:P.underlying t=some (.slice (P.elem t)):=by rw[KQ f];exact f
 have h:=run_slice_hm (P:=P) w t a0 len cap i .i64 .i64 hi b j k l;rw[KQ f,m]at h;simp[execOp,hx a c,p a c,o a c,run_sliceAt_slice w t _ _ _ _ i,h,Result.andThen]
theorem Xmz(n:Int)(a:0<=n)(d:n<=1099511627776)(c:Kz I)(N:La)(b:Aa B w I N):Calls prog 136 #[Ab n] w (AY λv w'=>v=S (Go.Lib.decDigits n.toNat)/\Aa B w' I N):=by
 obtain⟨k,rfl⟩:=Y6b a;exact rT k om c.kx N b
theorem iR(n:Nat)(a:n<=1099511627776):(Go.Lib.decDigits n).length<=20:=Yq (uB (Go.Lib.decDigits_length n)) (Go.Lib.nDigits_le20 _ om)
theorem OW(l:List Lu)(a:Lu)(p:Va)(k:Nat)(u:0<l.length)(E:l.length<=1000000)(D:(Go.Lib.join l a).length<=1000000)(N:La)(i:Aa B w I N)(n:N[k]?=some (An 9 1 p l.length (l.map S))):Calls prog 347 #[p,S a] w (AY λv w'=>v=S (Go.Lib.join l a)/\Aa B w' I N):=by
 obtain⟨b,cap,r,rfl,q,z,A,C,d⟩:=i.AF n u;have g:k<N.length:=(Y1.1 n).1;have m:w.heap[b]?=some (Xh (l.map S++r) 9):=d.block (k:=k) (by simp[g,Ac]);have h:(l.map λx=>(⟨x.toArray⟩:ByteArray)).map (·.data.toList)=l:=by
  rw[jM];exact List.map_id' l
 have c:=strings_Join b 0 cap (l.map λx=>(⟨x.toArray⟩:ByteArray)) ⟨a.toArray⟩ w (λj x hx=>by
  rw[Yr]at hx;obtain⟨y,o,rfl⟩:=K5.1 hx;have s:(l.map S++r)[0+j]?=some (S y):=by
   rw[Yk,Ye (by rw[Yj];exact(Y1.1 o).1),Yr,o];rfl
  exact Xz m s) (Jo.1 m).1 (by rw[Yj];omega) (by rw[Yj];exact q) (by rw[h];show(Go.Lib.join l a).length<=_;omega)
 rw[h,Yj]at c;refine c.mono λe w' t=>?_
 obtain⟨rfl,f⟩:=t;exact⟨_,O,O,i.grown f⟩
structure Ck where
 name:Lu
 value:Lu
 path:Lu
 ZA:Int
 W5:Bool
 GM:Bool
abbrev p3(c:Ck):Lv:=[S c.name,S c.value,S c.path,Ab c.ZA,.bool c.W5,.bool c.GM]
def oY(c:Ck):Bool:=((((H8 c.name&&List.all c.value HO)&&Go.Lib.hasPrefix c.path [47])&&List.all c.path HO)&&decide (-1<=c.ZA))&&decide (c.ZA<=99999999)
def SQ:Lu:=[77,97,120,45,65,103,101,61]
def iB:Lu:=[83,101,99,117,114,101]
def SJ:Lu:=[72,116,116,112,79,110,108,121]
def SV:Lu:=[80,97,116,104,61]
def pf(c:Ck):List Lu:=[(c.name++[61])++c.value,SV++c.path]
def Ze(c:Ck):List Lu:=if 0<=c.ZA then pf c++[SQ++Go.Lib.decDigits c.ZA.toNat]else pf c
def Zf(c:Ck):List Lu:=if c.W5 then Ze c++[iB]else Ze c
def R7(c:Ck):List Lu:=if c.GM then Zf c++[SJ]else Zf c
def Ry(c:Ck):Lu×Nat:=if oY c then(Go.Lib.join (R7 c) [59,32],0)else([],1)
theorem Xrv(c:Ck)(d:c.name.length<=100000)(e:c.value.length<=100000)(f:c.path.length<=100000)(N:La)(b:Aa B w I N):Ce B I N 346 [.agg (p3 c).toArray] w (.bool (oY c)):=by
 refine gH 4 ?_;intro b1 w b;refine gE 0 (Xf1 _ om) ?_;intro w b;refine gH 3 (.Au (T:=λw=>Aa B w I _) O O O func147 O (λa=>(X6 (.gd a O) X4)) O (λa=>wU c.value om _ b) b ?_);clear b;rintro w b;refine gH 4 (.Au (T:=λw=>Aa B w I _) O O O IH O (λa=>(X6 (.gd a O) (A3 O X4))) O (λa=>wX c.path [47] om de _ b) b ?_);clear b;rintro w b;refine gH 4 (.Au (T:=λw=>Aa B w I _) O O O func147 O (λa=>(X6 (.gd a O) X4)) O (λa=>wU c.path om _ b) b ?_);clear b;rintro w b;exact gG 12 ⟨O,b.s⟩
theorem Xgf{c:Ck}(h:oY c=true):c.ZA<=99999999:=by
 unfold oY at h;simp only[Y8,dq1]at h
 exact h.2
theorem r5(c:Ck):(0<(R7 c).length/\(R7 c).length<=5)/\(Ze c).length<=5/\(Zf c).length<=5:=by
 unfold R7 Zf Ze pf
 repeat' split
 all_goals simp
theorem join_le(a:Lu)(n:Nat):∀l:List Lu,(∀x∈l,x.length<=n)->(Go.Lib.join l a).length<=l.length*(n+a.length)
 | [],_=>Y4 _
 | [x],h=>by have:=h x sz;simp[Go.Lib.join];omega
 | x::y::l,h=>by
  have c:=h x sz;have d:=join_le a n (y::l) (λz b=>h z (by simp[b]));have e:(Go.Lib.join (x::y::l) a).length=x.length+(a.length+(Go.Lib.join (y::l) a).length):=by simp[Go.Lib.join]
  rw[e,Y5,F0];omega
theorem Xzf(c:Ck)(g:c.name.length<=10000)(i:c.value.length<=10000)(j:c.path.length<=10000)(e:c.ZA<=99999999):∀x∈R7 c,x.length<=30000:=by
 have f:=iR c.ZA.toNat om;have a:∀x∈pf c,x.length<=30000:=λx hx=>by
  unfold pf at hx;simp only[Yp,E6,or_false]at hx
  rcases hx with rfl|rfl<;>simp only[SV,Y0,Y5,Yh]<;>omega
 have b:∀x∈Ze c,x.length<=30000:=λx hx=>by
  unfold Ze at hx;split at hx
  ·rcases Ys.1 hx with h|h
   ·exact a x h
   ·simp only[Yp,E6,or_false]at h
    subst h;simp only[SQ,Y0,Y5,Yh];omega
  ·exact a x hx
 have d:∀x∈Zf c,x.length<=30000:=λx hx=>by
  unfold Zf at hx;split at hx
  ·rcases Ys.1 hx with h|h
   ·exact b x h
   ·simp only[Yp,E6,or_false]at h
    subst h;decide
  ·exact b x hx
 intro x hx;unfold R7 at hx;split at hx
 ·rcases Ys.1 hx with h|h
  ·exact d x h
  ·simp only[Yp,E6,or_false]at h
   subst h;decide
 ·exact d x hx
theorem Xii(c:Ck)(b:c.name.length<=10000)(d:c.value.length<=10000)(e:c.path.length<=10000)(a:c.ZA<=99999999):(Go.Lib.join (R7 c) [59,32]).length<=1000000:=by
 have f:=join_le [59,32] 30000 (R7 c) (Xzf c b d e a);have g:=r5 c;simp only[Y5,Yh]at f
 omega
theorem Qa(c:Ck)(L:c.name.length<=10000)(M:c.value.length<=10000)(P:c.path.length<=10000)(G:Kz I)(N:La)(a:Aa B w I N):Ce B I N 254 [.agg (p3 c).toArray] w (.tuple #[S (Ry c).1,Ab ((Ry c).2:Nat)]):=by
 refine gH 4 ?_;intro b1 w a;refine gE 0 (Xrv c om om om) ?_;intro w a;refine gM 1 ?_ ?_<;>intro h H
 ·exact gG 2 ⟨by unfold Ry;rw[Y3 (su h)];first|done|rfl,a.s⟩
 refine gG 0 ?_;have j:oY c=true:=su h
 have p:=(Xgf j)
 have J:=iR c.ZA.toNat om;refine gH 10 ?_;intro y w a;replace a:=a.A2 (k:=0) (size:=1) (n:=2) O O (by unfold maxLen;omega);try dsimp only[List.set]at a
 refine gH 1 (.nil (.ck [1] (σ:=Va) (λb _m=>(4,b)::_m) (λb w=>Aa B w I (An 9 1 b (Ze c).length ((Ze c).map S)::Ac b1 (p3 c) 349::N)) ?_ ?_))
 ·refine gN 3 ?_ ?_<;>intro i
  ·refine gE 3 (Xmz _ om om G) ?_;intro w a;refine gG 4 ?_;intro z t D l w a;have d:Ze c=_:=Y9 (by exact i);refine En _ O ?_;rw[d];rw[Yn,Y0];exact(a.x [1,1])
  refine gG 0 ?_;have d:Ze c=_:=Y3 om;refine En _ O ?_;rw[d];exact(a.x [1,1])
 rintro b w a;refine .ck [1] (σ:=Va) (λb _m=>(4,b)::_m) (λb w=>Aa B w I (An 9 1 b (Zf c).length ((Zf c).map S)::Ac b1 (p3 c) 349::N)) ?_ ?_
 ·refine gM 2 ?_ ?_<;>intro e q
  ·have g:=r5 c;refine gG 4 ?_;intro A u E m w a;have d:Zf c=_:=Y9 (by exact e);refine En _ O ?_;rw[d];rw[Yn,Y0];exact(a.x [1,1])
  refine gG 0 ?_;have d:Zf c=_:=Y3 (nB e);refine En _ O ?_;rw[d];exact(a.x [1,1])
 rintro b w a;refine .ck [1] (σ:=Va) (λb _m=>(4,b)::_m) (λb w=>Aa B w I (An 9 1 b (R7 c).length ((R7 c).map S)::Ac b1 (p3 c) 349::N)) ?_ ?_
 ·refine gM 2 ?_ ?_<;>intro f r
  ·have g:=r5 c;refine gG 4 ?_;intro C v F o w a;have d:R7 c=_:=Y9 (by exact f);refine En _ O ?_;rw[d];rw[Yn,Y0];exact(a.x [1,1])
  refine gG 0 ?_;have d:R7 c=_:=Y3 (nB f);refine En _ O ?_;rw[d];exact(a.x [1,1])
 rintro b w a;refine gG 0 ?_;have g:=r5 c;have K:=Xii c om om om p;refine gC 1 (OW _ [59,32] b 0 g.1.1 om om _ a O) ?_;rintro _ w ⟨rfl,a⟩;exact gG 2 ⟨by unfold Ry;rw[Y9 j];first|done|rfl,a.s⟩
theorem RB(a:Oa)(m s:Nat):sliced a 0 ((m:Nat):Int).toNat ((m:Nat):Int).toNat s=.slice a m m:=by
 unfold sliced;cases a<;>simp[Addr.add]
theorem Xda{r:Co}(h:Zh r=true):Gd r.status≠[]/\r.Af.length<=32/\r.body.length<=8192:=by
 unfold Zh aA at h;simp only[Y8,PR,EB,dq2,beq_eq_false_iff_ne,ne_eq]at h
 exact⟨h.1.1.1,om,om⟩
theorem OH{r:Co}(h:r.status.toNat<=1000):(JW r).length<=60:=by
 have a:=r7 r.status;have b:=iR r.status.toNat om;unfold JW uU CR;simp only[Y0,Y5,Yh];omega
theorem rN{r:Co}(c:∀h∈r.Af,h.1.length<=1000000/\h.2.length<=1000000)(d:r.body.length<=8192):∀h∈HG r,h.1.length<=1000000/\h.2.length<=1000000:=λh b=>by
 rcases Ys.1 b with a|a
 ·exact c h a
 ·simp only[Yp,E6,or_false]at a
  subst a
  have:=iR r.body.length om
  exact⟨by show YT.length<=_;decide,by show(Go.Lib.decDigits r.body.length).length<=_;omega⟩
theorem Xtn(r:Co):X2 X5 r.Af++[S YT,S (Go.Lib.decDigits r.body.length)]=X2 X5 (HG r):=by
 unfold HG;rw[iK];rfl
theorem rZ(r:Co):(HG r).length=r.Af.length+1:=by unfold HG;simp
theorem Xzm(r:Co)(k:Oa)(l:Nat)(C:Kz I)(T:r.Af.length<=l)(A:RS I k 2 r.Af.length (X2 X5 r.Af))(m:∀h∈r.Af,h.1.length<=1000000/\h.2.length<=1000000)(N:La)(a:Aa B w I N):Ce B I N 77 [.agg #[Ab r.status,.slice k r.Af.length l,S r.body]] w (.tuple #[S (mG r).1,Ab ((mG r).2:Nat)]):=by
 refine gH 4 ?_;intro b1 w a;refine gE 0 (vl r k l A m) ?_;intro w a;refine gM 1 ?_ ?_<;>intro c L
 ·exact gG 2 ⟨by unfold mG;rw[Y3 (su c)];first|done|rfl,a.s⟩
 refine gG 0 ?_;have g:Zh r=true:=su c
 obtain⟨v,R,b⟩:=Xda g;obtain⟨Y,F,Q⟩:=Xpi v;have U:=r7 r.status;have P:=iR r.status.toNat om;have M:=iR r.body.length om;have V:=OH (r:=r) om;refine gD [0] [] [0,1,5,6,2,3,4,7,8,9,10] ?_;intro w a;refine gE 4 (Xmz _ om om C) ?_;intro w a;refine gE 2 (vE _) ?_;intro w a;refine gG 3 (gD [0] [] [0,1,2,3,4,5,6,7,8,9,10,11,17,12,13,14,15,16] ?_);intro w a;refine gH 8 (A1.j 8 (λw=>Ex.as (Ex.qV (.of O) (.of O) (.of O) om om om Iq Ij) (RB _ _ _)) (gE 4 (rT _ om C.kx) ?_));intro w a;refine gH 2 ?_;intro J w a;refine gH 0 (A1.e (.bC (bytes:=32) a (.of O) (.of O) A Iq Xse O O O O O O ⟨om,by unfold maxLen;omega⟩ O ?_));intro y w a;replace a:Aa B w I (An 124 2 y (HG r).length (X2 X5 (HG r))::Ac b1 [Ab r.status,.slice k r.Af.length l,S r.body] 61::N):=by rw[<-Xtn,rZ];exact a
 obtain⟨H,K,rfl,D,_⟩:=a.vS 0;refine gG 1 ?_;have p:=a.fV 0;clear a;obtain⟨G,n,o,a⟩:=p;refine .lk [1,35,36] (σ:=Nat) (λi _m=>(4,S (((HG r).take i).foldl jr (JW r)))::(37,Ab (i:Nat))::_m) (λi w=>i<=(HG r).length/\Aa B w G (Ac b1 [Ab r.status,.slice k r.Af.length l,S r.body] 61::N)) (λi=>(HG r).length-i) 0 ⟨Y4 _,a⟩ ?_;rintro i w ⟨hi,a⟩;refine gN 1 ?_ ?_<;>intro E
 ·obtain⟨x,hx⟩:∃x,(HG r)[i]?=some x:=⟨_,Y2 om⟩
  have X:=rN m b x (Y7 hx);obtain⟨q,rfl,W⟩:=Be (cells:=X5) (λ_=>rfl) o hx;have d:=sC 2000000 ((HG r).take i) (JW r) (λh t=>by have:=rN m b h (pH t);omega);have u:=rZ r;rw[Yl]at d;have f:min i (HG r).length*(2000000+4)<=33*2000004:=T4 _ om;refine gG 14 ?_;intro Z w a;refine gG 2 (⟨i+1,⟨?_,O,O,O,O,trivial⟩,⟨om,(a.z [1] 1 1)⟩,om⟩);rw[Yv,hx,DE,M7];rfl
 have d:=sC 2000000 (HG r) (JW r) (λh t=>by have:=rN m b h t;omega);have u:=rZ r;have f:(HG r).length*(2000000+4)<=33*2000004:=T4 _ om;rw[Yo (show(HG r).length<=i by omega)];exact gG 7 ⟨by unfold mG;rw[Y9 g];first|done|rfl,a.s.weaken n⟩
theorem Xj1(b:Lu)(cs:List Lu)(m:Oa)(y:Nat)(D:cs.length<=1000)(C:RS I m 1 cs.length (cs.map S))(N:La)(a:Aa B w I N):Cz 154 [S b,.slice m cs.length y] w λv w'=>C2 I (MO b cs) B N v w':=by
 refine gH 4 ?_;intro t p w a;replace a:=a.A2 (k:=0) (E:=124) (size:=2) (n:=1) O O (by unfold maxLen;omega);refine gH 6 ?_;intro u w a;refine gG 0 ?_;have c:=(((a.pick 2 O).pick 2 O).pick 2 O);clear a;refine .lk [4,5,12,13] (σ:=Nat×Va) (λ(i,e) _m=>(14,Ab (i:Nat))::_m) (λ(i,e) w=>i<=cs.length/\Aa B w I (Ac u [Ab 302,e,S []] 61::An 124 2 e ((MO b (cs.take i)).Af).length (X2 X5 ((MO b (cs.take i)).Af))::Ac t [Ab 0,.slice none 0 0,S []] 61::N)) (λ(i,e)=>cs.length-i) (0,_) ⟨Y4 _,c⟩ ?_;rintro⟨i,e⟩ w ⟨hi,a⟩;clear c;refine gN 1 ?_ ?_<;>intro o
 ·refine gG 0 ?_;obtain⟨x,hx⟩:∃x,cs[i]?=some x:=⟨_,Y2 om⟩
  obtain⟨q,rfl,G⟩:=Be (cells:=tC) (s:=1) (λ_=>rfl) (by rw[tS];exact C) hx;have F:((MO b (cs.take i)).Af).length=i+1:=by unfold MO;simp;omega
  refine gH 13 ?_;intro r g h f w a;refine gG 0 (rd (i+1,.slice g ((MO b (cs.take i)).Af.length+1) h) ⟨om,?_⟩);have z:(MO b (cs.take (i+1))).Af=(MO b (cs.take i)).Af++[(Pj,x)]:=by unfold MO;rw[Yv,hx];simp
  rw[z,iK,Y0];exact(a.x [2,2,2])
 refine gG 0 ?_;obtain⟨H,K,rfl,d,_⟩:=a.vS 1;rw[Yo (show cs.length<=i by omega)]at a d;refine gH 2 ?_;intro w a;refine gG 0 ?_;have l:=(((a.pick 1 O).drop (k:=1) O).drop (k:=1) O)
 obtain⟨J,A,j,a⟩:=l.fV 0;exact⟨J,H,K,O,A,d,j,a⟩
structure mW(x:Sx):Prop where
 user:x.user.length<=100
 B0:x.B0.length<=100
 attrs:x.attrs.length<=64/\∀a∈x.attrs,a.1.length<=100/\a.2.length<=100
 WE:x.Av.length<=64/\∀p∈x.Av,p.length<=200
def Up(a:Pr):Nd:=DS (NQ++a.1) a.2 []
abbrev pW(a:Pr):Lv:=[S (NQ++a.1),.slice none 0 0,S a.2,.slice none 0 0]
def WK(p:Lu):Nd:=DS NR p []
abbrev qM(p:Lu):Lv:=[S NR,.slice none 0 0,S p,.slice none 0 0]
def JU(x:Sx):List Nd:=[DS pd x.user []]
def Fi(x:Sx)(attrs:Bool):List Nd:=if(attrs&&decide (0<((x.attrs.length:Nat):Int)))=true then JU x++[GG oT (x.attrs.map Up)]else JU x
def Fj(x:Sx)(attrs:Bool):List Nd:=if x.B0≠[]then Fi x attrs++[DS fM x.B0 []]else Fi x attrs
def Fk(x:Sx)(attrs:Bool):List Nd:=if 0<((x.Av.length:Nat):Int)then Fj x attrs++[GG oA (x.Av.map WK)]else Fj x attrs
def fS(x:Sx)(attrs:Bool):Nd:=.mk B4 [] [] (Fk x attrs)
theorem tt(x:Sx)(attrs:Bool):(Fi x attrs).length<=2/\(Fj x attrs).length<=3/\(Fk x attrs).length<=4:=by
 have c:(JU x).length=1:=rfl;have a:(Fi x attrs).length<=2:=by unfold Fi;split<;>(try simp only[Y0,Y5,Yh])<;>omega
 have b:(Fj x attrs).length<=3:=by unfold Fj;split<;>(try simp only[Y0,Y5,Yh])<;>omega
 refine⟨a,b,?_⟩;unfold Fk;split<;>(try simp only[Y0,Y5,Yh])<;>omega
theorem tU{a:Lu}(d:Nat)(b:nm.length<=10000)(c:a.length<=10000):Bt (d+1) I [S nm,.slice none 0 0,S a,.slice none 0 0] (DS nm a []) :=
 Fa (d:=d) (l:=[]) b c (Y4 _) sz (Ya _) (RS.nil _ _) (nk _ _)
theorem w5{d ck:Nat}{a:List Nd}(b:nm.length<=10000)(h:Ci d I ka ck a):Bt (d+1) I [S nm,.slice none 0 0,S [],.slice ka a.length ck] (GG nm a) :=
 Fa (d:=d) (l:=[]) b (Y4 _) (Y4 _) sz (Ya _) (RS.nil _ _) h
theorem Xvn{d ck:Nat}{l:List α}(cs:α->Lv)(nd:α->Nd)(e:l.length<=10000)(c:l.length<=ck)(g:∀x,(cs x).length=4)(b:RS I ka 4 l.length (X2 cs l))(a:∀x∈l,Bt d I (cs x) (nd x)):Ci d I ka ck (l.map nd):=by
 have:=Z6 (d:=d) (I:=I) (ka:=ka) (ck:=ck) (l.map λx=>(cs x,nd x)) (by rw[Yj];exact e) (by rw[Yj];exact c) (by rw[Yj,jM];exact b) (λp f=>by
  obtain⟨x,hx,rfl⟩:=Dt.1 f;exact a x hx)
 rwa[jM]at this
theorem Ro(x:Sx)(y:mW x)(attrs:Bool)(xs:Lv)(hX:FN I x xs)(N:La)(b:Aa B w I N):Cz 316 [.agg xs.toArray,.bool attrs] w λv w'=>∃J ka kc n,v=.agg #[S B4,.slice none 0 0,S [],.slice ka n kc]/\Le I J/\Bt 7 J [S B4,.slice none 0 0,S [],.slice ka n kc] (fS x attrs)/\Aa B w' J N:=by
 obtain⟨R,T,pa,Q,rfl,bh,ap,bi,ar⟩:=hX;have be:=y.attrs.1;have bf:=y.WE.1;refine gG 0 (.GJ (cs:=[S x.user,.slice R x.attrs.length T,.slice pa x.Av.length Q,S x.B0]) b (.of O) O ?_);intro U w b;refine gH 1 ?_;intro V w b;refine gG 0 (gH 1 (gE 1 (ZZ _ _ _ _ _) ?_));intro w b;refine gH 1 ?_;intro G w b;obtain⟨l,hl⟩:∃l:List (Lv×Nd),l=[([S pd,.slice none 0 0,S x.user,.slice none 0 0],DS pd x.user [])]:=⟨_,O⟩
 replace b:=b.A2 (k:=0) (E:=140) (size:=4) (n:=1) O O (by unfold maxLen;omega);try dsimp only[List.set]at b
 have e:∀p∈l,Bt 6 I p.1 p.2:=by
  intro p c;rw[hl]at c;simp only[Yp,E6,or_false]at c
  subst c;exact tU 5 de (oh y.user)
 have j:l.map (·.2)=JU x:=by rw[hl];rfl
 have L:l.length=1:=by rw[hl];rfl
 replace b:Aa B w I (An 140 4 (.slice (some (ad G 0)) 1 1) (l).length ((l).map (·.1)).flatten::Ac V [S [],.slice none 0 0,S [],.slice none 0 0] 140::Ac U [S x.user,.slice R x.attrs.length T,.slice pa x.Av.length Q,S x.B0] 246::N):=by rw[hl];exact b
 refine gE 0 (ff _ _ _ _) ?_;intro w b;refine gH 1 ?_;intro X w b;refine gH 1 ?_;intro w b;refine .nil (.ck [2,4,5] (σ:=Im×Va×List (Lv×Nd)) (λ(J,f,l) _m=>_m) (λ(J,f,l) w=>Le I J/\(∀p∈l,Bt 6 J p.1 p.2)/\l.map (·.2)=Fi x attrs/\l.length<=4/\Aa B w J (Ac X [S B4,.slice none 0 0,S [],f] 140::An 140 4 f (l).length ((l).map (·.1)).flatten::Ac U [S x.user,.slice R x.attrs.length T,.slice pa x.Av.length Q,S x.B0] 246::Ac V [S [],.slice none 0 0,S [],.slice none 0 0] 140::N)) ?_ ?_)
 ·refine gH 1 (gH 1 (gH 1 (gH 1 (gH 1 (gH 1 ?_)))));refine gM 1 ?_ ?_<;>intro C a0
  ·refine gG 1 (gH 1 (gH 1 (gH 1 ?_)));have t:=(((((b.pick 2 O).pick 3 O).pick 3 O).pick 3 O)).Ai 140 4;clear b;refine gG 1 (.lk [2,4,5,25,26] (σ:=Nat×Va) (λ(i,u) _m=>(27,Ab (i:Nat))::(6,u)::_m) (λ(i,u) w=>i<=x.attrs.length/\Aa B w I (An 140 4 u (x.attrs.take i).length (X2 pW (x.attrs.take i))::Ac X [S B4,.slice none 0 0,S [],(.slice (some (ad G 0)) 1 1)] 140::An 140 4 (.slice (some (ad G 0)) 1 1) (l).length ((l).map (·.1)).flatten::Ac U [S x.user,.slice R x.attrs.length T,.slice pa x.Av.length Q,S x.B0] 246::Ac V [S [],.slice none 0 0,S [],.slice none 0 0] 140::N)) (λ(i,u)=>x.attrs.length-i) (0,.slice none 0 0) ⟨Y4 _,t⟩ ?_);rintro⟨i,u⟩ w ⟨hi,b⟩;clear t;refine gN 1 ?_ ?_<;>intro a1
   ·refine gG 0 ?_;obtain⟨a,m⟩:∃a,x.attrs[i]?=some a:=⟨_,Y2 om⟩
    have au:=y.attrs.2 a (Y7 m);obtain⟨q,rfl,P⟩:=Be (cells:=X5) (s:=2) (λ_=>rfl) ap m;refine gH 1 (.val (.B5 (us:=[S a.1,S a.2]) (.of O) b P Zk Ij O (λ_ _ h=>h)) O (gH 1 ?_));intro b8 w b;refine gH 1 ?_;intro w b;refine gG 0 ?_;have ax:(x.attrs.take i).length=i:=by rw[Yl];omega
    refine gH 1 (gH 1 (gH 1 (gH 1 (gH 1 (gE 1 (ZZ _ a.2 _ _ _) ?_)))));intro w b;refine gH 1 ?_;intro a7 w b;refine gH 1 ?_;intro a5 bc ab w b;refine gG 1 (gH 1 (gG 1 (A_ (i+1,_) O ⟨od,?_⟩)))
    (try dsimp only)
    rw[Yv,m,DE,iK,Y0];exact(b.z [5,5,5,5,5] 5 1)
   refine gG 0 ?_;rw[Yo (show x.attrs.length<=i by omega)]at b;obtain⟨na,nc,rfl,M,_⟩:=b.vS 0;have K:=b.fV 0;clear b;obtain⟨W,r,H,b⟩:=K;try dsimp only[List.eraseIdx]at b
   have g:Bt 6 W _ (GG oT (x.attrs.map Up)):=w5 de (Xvn pW Up om M (λ_=>rfl) H (λa m=>tU 4 (by have:=(y.attrs.2 a m).1;simp only[NQ,Y0,Y5,Yh];omega) (oh ((y.attrs.2 a m).2))));rw[Yj]at g;refine gD [0] [7] [0,1,2,3,4,5,6,7] ?_;intro w b;refine gH 1 (gH 1 (gE 1 (ff _ _ _ _) ?_));intro w b;refine gH 1 ?_;intro a8 w b;refine gH 1 ?_;intro aj am ac w b;refine gH 1 (gH 1 ?_);intro w b;refine gG 0 ?_;have o:Fi x attrs=JU x++[GG oT (x.attrs.map Up)]:=Y9 (by exact C);refine cd (W,.slice aj (l.length+1) am,l++[([S oT,.slice none 0 0,S [],.slice na x.attrs.length nc],GG oT (x.attrs.map Up))]) ⟨r,?_,?_,?_,?_⟩
   ·intro p c;rcases Ys.1 c with c|c
    ·exact(e p c).mono r
    ·simp only[Yp,E6,or_false]at c
     subst c;exact g
   ·rw[Yn,j,o];rfl
   ·have:=Yc List.length j
    rw[Yj]at this
    have:=tt x attrs
    simp only[Y0,Y5,Yh];omega
   ·(try dsimp only)
    rw[Y0,Yn,PN];exact(b.x [3,3,3,3])
  refine gG 0 ?_;have o:Fi x attrs=JU x:=Y3 (nB C);exact En (I,_,l) O ⟨Le.refl _,e,by rw[o];exact j,om,(b.x [2,3,3,3])⟩
 rintro⟨J,f,l⟩ w ⟨A,e,j,L,b⟩;refine .ck [2,4,5] (σ:=Im×Va×List (Lv×Nd)) (λ(J,f,l) _m=>_m) (λ(J,f,l) w=>Le I J/\(∀p∈l,Bt 6 J p.1 p.2)/\l.map (·.2)=Fj x attrs/\l.length<=4/\Aa B w J (Ac X [S B4,.slice none 0 0,S [],f] 140::An 140 4 f (l).length ((l).map (·.1)).flatten::Ac U [S x.user,.slice R x.attrs.length T,.slice pa x.Av.length Q,S x.B0] 246::Ac V [S [],.slice none 0 0,S [],.slice none 0 0] 140::N)) ?_ ?_
 ·refine gH 1 (gH 1 ?_);refine gM 1 ?_ ?_<;>intro D a2
  ·refine gD [0,1] [8] [0,1,2,3,4,5,6,7,8] ?_;intro w b;refine gH 1 (gH 1 (gH 1 (gE 1 (ZZ _ _ _ _ _) ?_)));intro w b;refine gH 1 ?_;intro a9 w b;refine gH 1 ?_;intro ak an ae w b;refine gH 1 (gH 1 ?_);intro w b;refine gG 0 ?_;have g:Bt 6 J [S fM,.slice none 0 0,S x.B0,.slice none 0 0] (DS fM x.B0 []):=tU 5 de (oh y.B0);have o:Fj x attrs=Fi x attrs++[DS fM x.B0 []]:=Y9 (su D);refine cd (J,.slice ak (l.length+1) an,l++[([S fM,.slice none 0 0,S x.B0,.slice none 0 0],DS fM x.B0 [])]) ⟨A,?_,?_,?_,?_⟩
   ·intro p c;rcases Ys.1 c with c|c
    ·exact(e p c).mono (Le.refl _)
    ·simp only[Yp,E6,or_false]at c
     subst c;exact g
   ·rw[Yn,j,o];rfl
   ·have:=Yc List.length j
    rw[Yj]at this
    have:=tt x attrs
    simp only[Y0,Y5,Yh];omega
   ·(try dsimp only)
    rw[Y0,Yn,PN];exact(b.x [3,3,3,3])
  refine gG 0 ?_;have o:Fj x attrs=Fi x attrs:=Y3 (su D);exact En (J,_,l) O ⟨A,e,by rw[o];exact j,om,(b.x [3,3,3,3])⟩
 rintro⟨J,f,l⟩ w ⟨A,e,j,L,b⟩;refine .ck [2,4,5] (σ:=Im×Va×List (Lv×Nd)) (λ(J,f,l) _m=>_m) (λ(J,f,l) w=>Le I J/\(∀p∈l,Bt 6 J p.1 p.2)/\l.map (·.2)=Fk x attrs/\l.length<=4/\Aa B w J (Ac X [S B4,.slice none 0 0,S [],f] 140::An 140 4 f (l).length ((l).map (·.1)).flatten::Ac U [S x.user,.slice R x.attrs.length T,.slice pa x.Av.length Q,S x.B0] 246::Ac V [S [],.slice none 0 0,S [],.slice none 0 0] 140::N)) ?_ ?_
 ·refine gH 1 (gH 1 (gH 1 ?_));refine gN 1 ?_ ?_<;>intro F
  ·refine gG 1 (gH 1 (gH 1 (gH 1 ?_)));have t:=(((((b.pick 3 O).pick 3 O).pick 3 O).pick 3 O)).Ai 140 4;clear b;refine gG 1 (.lk [2,4,5,64,65] (σ:=Nat×Va) (λ(i,u) _m=>(66,Ab (i:Nat))::(9,u)::_m) (λ(i,u) w=>i<=x.Av.length/\Aa B w J (An 140 4 u (x.Av.take i).length (X2 qM (x.Av.take i))::Ac X [S B4,.slice none 0 0,S [],f] 140::An 140 4 f (l).length ((l).map (·.1)).flatten::Ac U [S x.user,.slice R x.attrs.length T,.slice pa x.Av.length Q,S x.B0] 246::Ac V [S [],.slice none 0 0,S [],.slice none 0 0] 140::N)) (λ(i,u)=>x.Av.length-i) (0,.slice none 0 0) ⟨Y4 _,t⟩ ?_);rintro⟨i,u⟩ w ⟨hi,b⟩;clear t;refine gN 1 ?_ ?_<;>intro a3
   ·refine gG 0 ?_;obtain⟨a,m⟩:∃a,x.Av[i]?=some a:=⟨_,Y2 om⟩
    have au:=y.WE.2 a (Y7 m);obtain⟨q,rfl,P⟩:=Be (cells:=tC) (s:=1) (λ_=>rfl) (by rw[tS];exact ar.mono A) m;refine gH 1 (.val (.BS (.of O) b P Bg O) O ?_);have ax:(x.Av.take i).length=i:=by rw[Yl];omega
    refine gG 1 (gH 1 (gE 1 (ZZ _ a _ _ _) ?_));intro w b;refine gH 1 ?_;intro ba w b;refine gH 1 ?_;intro a6 bd af w b;refine gG 1 (gH 1 (gG 1 (A_ (i+1,_) O ⟨od,?_⟩)))
    (try dsimp only)
    rw[Yv,m,DE,iK,Y0];exact(b.x [4,4,4,4,4])
   refine gG 0 ?_;rw[Yo (show x.Av.length<=i by omega)]at b;obtain⟨na,nc,rfl,M,_⟩:=b.vS 0;have K:=b.fV 0;clear b;obtain⟨W,r,H,b⟩:=K;try dsimp only[List.eraseIdx]at b
   have g:Bt 6 W _ (GG oA (x.Av.map WK)):=w5 de (Xvn qM WK om M (λ_=>rfl) H (λa m=>tU 4 de (oh (y.WE.2 a m))));rw[Yj]at g;refine gD [0] [7] [0,1,2,3,4,5,6,7] ?_;intro w b;refine gH 1 (gH 1 (gE 1 (ff _ _ _ _) ?_));intro w b;refine gH 1 ?_;intro bb w b;refine gH 1 ?_;intro al ao ag w b;refine gH 1 (gH 1 ?_);intro w b;refine gG 0 ?_;have o:Fk x attrs=Fj x attrs++[GG oA (x.Av.map WK)]:=Y9 (oh F);refine cd (W,.slice al (l.length+1) ao,l++[([S oA,.slice none 0 0,S [],.slice na x.Av.length nc],GG oA (x.Av.map WK))]) ⟨A.trans r,?_,?_,?_,?_⟩
   ·intro p c;rcases Ys.1 c with c|c
    ·exact(e p c).mono r
    ·simp only[Yp,E6,or_false]at c
     subst c;exact g
   ·rw[Yn,j,o];rfl
   ·have:=Yc List.length j
    rw[Yj]at this
    have:=tt x attrs
    simp only[Y0,Y5,Yh];omega
   ·(try dsimp only)
    rw[Y0,Yn,PN];exact(b.x [3,3,3,3])
  refine gG 0 ?_;have o:Fk x attrs=Fj x attrs:=Y3 (oh F);exact En (J,_,l) O ⟨A,e,by rw[o];exact j,om,(b.x [3,3,3,3])⟩
 rintro⟨J,f,l⟩ w ⟨A,e,j,L,b⟩;obtain⟨ka,kc,rfl,av,_⟩:=b.vS 1;refine gH 1 (gH 1 ?_);intro w b;refine gG 0 ?_;obtain⟨J9,Y,aq,b⟩:=b.fV 1;try dsimp only[List.eraseIdx]at b
 have Z:=Z6 (d:=6) l om av aq (λp c=>(e p c).mono Y);rw[j]at Z;have aw:l.length=(Fk x attrs).length:=by rw[<-j,Yj]
 have aa:=w5 (nm:=B4) de Z;rw[<-aw]at aa;exact⟨J9,ka,kc,l.length,O,A.trans Y,aa,b.s⟩
def Pv(x:Sx)(e:Nat)(attrs:Bool):Co:=if e≠0 then Jt (mA tJ tL (fL e))else Jt (fS x attrs)
theorem L5{α:Type}(f:α->Nat)(n:Nat):∀l:List α,(∀x∈l,f x<=n)->(l.map f).sum<=l.length*n
 | [],_=>Y4 _
 | x::l,h=>by
  have b:=h x sz;have c:=L5 f n l (λy a=>h y (by simp[a]));rw[Yu,aX,Y5,F0];omega
theorem ln{x:Sx}(c:mW x)(attrs:Bool):DJ 8 (.mk TZ [(R6,R5)] [] [fS x attrs])<=1000000:=by
 have b1:=c.user;have w:=c.B0;have f:∀nm h:Lu,nm.length<=200->h.length<=200->∀d,DJ (d+1) (DS nm h [])<=3000:=λnm h r j d=>by
  simp only[DJ,DS,Nd.name,Nd.attrs,Nd.text,Nd.kids,ED,List.sum_nil];omega
 have i:∀(nm:Lu) (e:List Nd),nm.length<=200->e.length<=64->(∀k∈e,DJ 5 k<=3000)->DJ 6 (GG nm e)<=200000:=λnm e r j s=>by
  have t:=L5 (DJ 5) 3000 e s;have y:e.length*3000<=64*3000:=T4 _ j;simp only[DJ,GG,Nd.name,Nd.attrs,Nd.text,Nd.kids,ED,List.sum_nil,Yh]at t ⊢;omega
 have l:∀k∈JU x,DJ 6 k<=200000:=λk b=>by
  simp only[JU,Yp,E6,or_false]at b
  subst b
  have:DJ 6 (DS pd x.user [])<=3000:=f pd x.user de om 5
  omega
 have m:∀k∈Fi x attrs,DJ 6 k<=200000:=λk b=>by
  unfold Fi at b;split at b
  ·rcases Ys.1 b with b|b
   ·exact l k b
   ·simp only[Yp,E6,or_false]at b
    subst b;refine i _ _ de (by rw[Yj];exact c.attrs.1) (λk b=>?_);obtain⟨a,g,rfl⟩:=Dt.1 b
    have:=c.attrs.2 a g
    exact f _ _ (by simp only[NQ,Y0,Y5,Yh];omega) om 4
  ·exact l k b
 have n:∀k∈Fj x attrs,DJ 6 k<=200000:=λk b=>by
  unfold Fj at b;split at b
  ·rcases Ys.1 b with b|b
   ·exact m k b
   ·simp only[Yp,E6,or_false]at b
    subst b
    have:DJ 6 (DS fM x.B0 [])<=3000:=f fM x.B0 de om 5
    omega
  ·exact m k b
 have v:∀k∈Fk x attrs,DJ 6 k<=200000:=λk b=>by
  unfold Fk at b;split at b
  ·rcases Ys.1 b with b|b
   ·exact n k b
   ·simp only[Yp,E6,or_false]at b
    subst b;refine i _ _ de (by rw[Yj];exact c.WE.1) (λk b=>?_);obtain⟨a,g,rfl⟩:=Dt.1 b
    have:=c.WE.2 a g
    exact f _ _ de om 4
  ·exact n k b
 have z:=L5 (DJ 6) 200000 (Fk x attrs) v;have u:=(tt x attrs).2.2;have A:(Fk x attrs).length*200000<=4*200000:=T4 _ u;have o:DJ 8 (.mk TZ [(R6,R5)] [] [fS x attrs])=2*19+5+(9+6*26+4)+6*0+DJ 7 (fS x attrs):=by
  simp[DJ,Nd.name,Nd.attrs,Nd.text,Nd.kids,TZ,R6,R5]
 have p:DJ 7 (fS x attrs)=2*B4.length+5+0+6*0+((Fk x attrs).map (DJ 6)).sum:=by
  simp[DJ,fS,Nd.name,Nd.attrs,Nd.text,Nd.kids]
 have q:B4.length=25:=rfl;rw[o,p,q];omega
theorem FN.len{x:Sx}(h:FN I x xs):xs.length=4:=by
 obtain⟨ka,a,pa,b,rfl,_⟩:=h;rfl
theorem rF(x:Sx)(e:Nat)(p:e=0->mW x)(attrs:Bool)(xs:Lv)(r:Kz I)(q:FN I x xs)(N:La)(b:Aa B w I N):Cz 216 [.agg xs.toArray,Ab (e:Nat),.bool attrs] w λv w'=>C2 I (Pv x e attrs) B N v w':=by
 refine gG 4 ?_;intro y z w b;refine gN 0 ?_ ?_<;>intro c
 ·refine gE 1 (Xu7 e) ?_;intro w b;refine gF 0 (Xpf _ _ _) ?_;rintro _ w ⟨t,A,rfl,a,l,b⟩;refine gF 0 (sI _ _ _ _ _ _ _ _ _ (r.mono a) (U6 de de (oh (sS e)) l) (by have:=sS e;simp[DJ,mA,DS,Nd.name,Nd.attrs,Nd.text,Nd.kids,TZ,R6,R5,jo,tJ,LD,tL,VD];omega)) ?_;rintro _ w ⟨h,n,o,rfl,d,g,f,b⟩;refine gH 1 ?_;intro w b;refine gG 0 ?_;have i:Pv x e attrs=Jt (mA tJ tL (fL e)):=Y9 (oh c);rw[i];exact⟨h,n,o,O,a.trans d,g,f,b.s⟩
 refine gG 0 ?_;refine .val (.DY (.of O) b (k:=1) O isAgg246 sizeOf246 (FN.len q) (λj v u=>by rw[Yk];exact u)) O ?_;refine gF 1 (Ro x (p (oh c)) _ xs q) ?_;rintro _ w ⟨t,ka,C,D,rfl,a,m,b⟩;refine gF 0 (sI _ _ _ _ _ _ _ _ _ (r.mono a) m (ln (p (oh c)) attrs)) ?_;rintro _ w ⟨h,n,o,rfl,d,g,f,b⟩;refine gH 1 ?_;intro w b;refine gG 0 ?_;have i:Pv x e attrs=Jt (fS x attrs):=Y3 (oh c);rw[i];exact⟨h,n,o,O,a.trans d,g,f,b.s⟩
structure hG where
 url:Lu
 dW:Lu
 B0:Lu
deriving DecidableEq
abbrev bR(k:hG):Lv:=[S k.url,S k.dW,S k.B0]
def c0:hG:=⟨[],[],[]⟩
def WG(lo:List Sv)(Z:Wd)(t:Lu):Sv×Lu×Nat:=Xk lo (getD Z.l t).service
def ns(lo:List Sv)(Z:Wd)(t a:Lu):Lu×Bool:=aH lo (WG lo Z t).1.id a
def Q3(Z:Wd)(t:Lu):Bool:=((getD Z.l t).kind !=2&&(getD Z.l t).kind !=3)||(getD Z.l t).AV==0
def qB(lo:List Sv)(Z:Wd)(t a:Lu):Bool:=((((WG lo Z t).2.2:Nat):Int)!=0||!(WG lo Z t).1.B7)||!(ns lo Z t a).2
def CE(lo:List Sv)(Z:Wd)(t a:Lu):Ah:=⟨4,[],t,(getD Z.l t).user,(getD Z.l t).service,(ns lo Z t a).1,0,0,0,false⟩
def MY(a:Lu):Ah:=⟨5,[],a,[],[],[],0,0,0,false⟩
def Xi(lo:List Sv)(Z:Wd)(t a:Lu):(hG×Nat)×Wd :=
 if Q3 Z t=true then((c0,30),Z)
 else if qB lo Z t a=true then((c0,34),Z)
 else if(AA Z (CE lo Z t a)).1.2≠0 then((c0,(AA Z (CE lo Z t a)).1.2),(AA Z (CE lo Z t a)).2)
 else if(AA (AA Z (CE lo Z t a)).2 (MY (AA Z (CE lo Z t a)).1.1)).1.2≠0 then((c0,(AA (AA Z (CE lo Z t a)).2 (MY (AA Z (CE lo Z t a)).1.1)).1.2),FQ (AA (AA Z (CE lo Z t a)).2 (MY (AA Z (CE lo Z t a)).1.1)).2 (AA Z (CE lo Z t a)).1.1)
 else((⟨(ns lo Z t a).1,(AA Z (CE lo Z t a)).1.1,(AA (AA Z (CE lo Z t a)).2 (MY (AA Z (CE lo Z t a)).1.1)).1.1⟩,0),(AA (AA Z (CE lo Z t a)).2 (MY (AA Z (CE lo Z t a)).1.1)).2)
theorem Xuk{lo:List Sv}{Z:Wd}(h:A6 Z)(t a:Lu):A6 (Xi lo Z t a).2:=by
 unfold Xi;split
 ·exact h
 ·split
  ·exact h
  ·split
   ·exact G7 h _
   ·split
    ·exact Z0 (G7 (G7 h _) _) _
    ·exact G7 (G7 h _) _
def ML(Z:Wd)(a:Lu)(n:Int):(Lu×Nat)×Wd :=
 if((getD Z.l a).kind !=5)=true then(([],30),Z)
 else if(n !=200)=true then(([],34),FQ Z (getD Z.l a).parent)
 else((a,0),FQ Z a)
theorem Xxz{Z:Wd}(h:A6 Z)(a:Lu)(n:Int):A6 (ML Z a n).2:=by
 unfold ML;split
 ·exact h
 ·split<;>exact Z0 h _
def MT(r:Ah):Bool:=r.kind==5
def Jl(l:List Ah):List Lu:=(l.filter MT).map Ah.name
def Oc(l:List Ah)(a:Lu):Bool:=(kids l a).any λk=>(getD l k).kind==5
def Fu(lo:List Sv)(ps:Nat->Int)(Z:Wd)(b a:Lu):Ah:=⟨3,[],b,(Xu ps Z b 4).1.user,(Xk lo a).2.1,[],0,0,0,false⟩
def Ge(lo:List Sv)(ps:Nat->Int)(Z:Wd)(b a:Lu):((Lu×Lu)×Nat)×Wd :=
 if(b==[]||a==[])=true then((([],[]),33),Z)
 else if(!(Xu ps Z b 4).2||Oc Z.l b)=true then((([],[]),30),Z)
 else if((((Xk lo a).2.2:Nat):Int)!=0)=true then((([],[]),36),Z)
 else if(AA Z (Fu lo ps Z b a)).1.2≠0 then((([],[]),(AA Z (Fu lo ps Z b a)).1.2),(AA Z (Fu lo ps Z b a)).2)
 else((((AA Z (Fu lo ps Z b a)).1.1,(Xk lo a).2.1),0),MZ (AA Z (Fu lo ps Z b a)).2 (PB (Xu ps Z b 4).1 (AA Z (Fu lo ps Z b a)).2.now))
theorem QO{lo:List Sv}{Z:Wd}(h:A6 Z)(b a:Lu):A6 (Ge lo ps Z b a).2:=by
 unfold Ge;split
 ·exact h
 ·split
  ·exact h
  ·split
   ·exact h
   ·split
    ·exact G7 h _
    ·exact ti (G7 h _) _
theorem Q1{Z:Wd}{r:Ah}:(AA Z r).1.1.length<=23:=by
 unfold AA;have h:=wI (pr:=λs=>(get Z.l s).isSome) (kind:=r.kind) (D:=Z.D);split
 ·exact Y4 _
 ·(try dsimp only)
  split
  ·exact Y4 _
  ·exact h
theorem Xu0{l:List Ah}(b:Wf l)(name:Lu):(getD l name).service.length<=100:=by
 rcases rY b name with⟨_,e⟩|⟨_,a,_⟩
 ·rw[e];decide
 ·unfold C7 at a;simp only[Y8,dq1]at a
  show(getD l name).service.length<=100
  omega
theorem ZI(d:Int)(s:Lu)(h:s.length<=1000000)(p:Wp)(b:BK I p)(N:La)(g:Aa B w I N):Ce B I N 349 [.pointer (some p.pr),Ab d,S s] w (.tuple #[S (aH p.lo d s).1,.bool (aH p.lo d s).2]):=by
 obtain⟨a,c,E,e,i,f⟩:=b.uQ;exact Xn9 p.pr p.lo b.lo b.rel d s h a c E b.known e f N g
theorem Xxa(b:Lu)(n:Int)(p:Wp)(Z:Wd)(t:A6 Z)(C:BK I p)(N:La)(d:Aa B w I (AN p Z::N)):Ce B I (AN p (ML Z b n).2::N) 215 [ptr p.wb 0,S b,Ab n] w (.tuple #[S (ML Z b n).1.1,Ab ((ML Z b n).1.2:Nat)]):=by
 refine gG 2 ?_;obtain⟨a,c,r,s,d⟩:=El d;have x:=t.len;have h:=t.wf;refine gE 5 (E5 p.tb Z.room a c Z.l om b) ?_;intro w d;refine gG 10 ?_;intro A w d;refine gM 0 ?_ ?_<;>intro e u
 ·refine gG 2 ?_;have g:ML Z b n=(([],30),Z):=by rw[ML,Y9 e]
  rw[g];exact⟨O,Aa.box (T:=Bm p Z) (a,c,r,s) ((((((d.drop (k:=0) O).pick 4 O).pick 4 O).pick 3 O).pick 3 O).pick 4 O)⟩
 refine gM 3 ?_ ?_<;>intro f v
 ·refine gG 0 (gD [0,2] [] [0,1,2,3,4,5,6] ?_);intro w d;refine gF 6 (fm p.tb Z.room a c Z.l om h _) ?_;rintro _ w ⟨J,y,z,rfl,m,q,o,i,j,d⟩;replace d:=d.weaken m;refine gG 2 ?_;have g:ML Z b n=(([],34),FQ Z (getD Z.l b).parent):=by rw[ML,Y3 (nB e),Y9 f]
  rw[g];exact⟨O,Aa.box (T:=Bm p _) (i,j,r,s) ((((((d.drop (k:=2) O).pick 4 O).pick 4 O).pick 3 O).pick 3 O).pick 4 O)⟩
 refine gF 5 (fm p.tb Z.room a c Z.l om h b) ?_;rintro _ w ⟨J,y,z,rfl,m,q,o,i,j,d⟩;replace d:=d.weaken m;refine gG 3 ?_;have g:ML Z b n=((b,0),FQ Z b):=by rw[ML,Y3 (nB e),Y3 (nB f)]
 rw[g];exact⟨O,Aa.box (T:=Bm p (FQ Z b)) (i,j,r,s) ((((((d.drop (k:=2) O).pick 4 O).pick 4 O).pick 3 O).pick 3 O).pick 4 O)⟩
theorem Xiz(bad:Int)(d:Lu)(i h f:Nat)(u:FrameMode)(p:Wp)(Z:Wd)(k:A6 Z)(N:La)(b:Aa B w I (Ac i [Ab bad] 62::Ac h [ptr p.wb 0] 87::Ac f [S d] 9::AN p Z::N)):CallsD prog 350 #[ptr i 0,ptr h 0,ptr f 0] u w (λe A w'=>A=u/\AY (λv w'=>Aa B w' I (Ac i [Ab bad] 62::Ac h [ptr p.wb 0] 87::Ac f [S d] 9::AN p (if bad=0 then Z else FQ Z d)::N)) e w'):=by
 refine jY func350 O ntmps350 O ?_;dsimp only[PE,Nat.reduceAdd]
 refine gM 2 ?_ ?_<;>intro g s
 ·replace b:=b.px [3];obtain⟨a,c,y,z,b⟩:=El b;have m:=k.len;have j:=k.wf;refine gD [6,6,0] [] [0,1,2,3,4,5] ?_;intro w b;refine gF 5 (fm _ Z.room a c Z.l om j d) ?_;rintro _ w ⟨J,C,D,rfl,q,t,r,n,o,b⟩;replace b:=b.weaken q;refine gH 0 (cE results350 ?_);replace b:=Aa.box (T:=Bm p (FQ Z d)) (n,o,y,z) (b.px [4,4,3,3,4]);refine⟨_,O,?_⟩;rw[Y3 (su g)];exact(b.x [3,3,3])
 refine .skip (cE results350 (⟨_,O,?_⟩));rw[Y9 (su g)];exact b
theorem Xpa(b:Lu)(p:Wp)(Z:Wd)(A:A6 Z)(N:La)(e:Aa B w I (AN p Z::N)):Ce B I (AN p Z::N) 257 [ptr p.wb 0,S b] w (.bool (Oc Z.l b)):=by
 refine gG 1 ?_;obtain⟨a,c,j,m,e⟩:=El e;have u:=A.len;refine gF 5 (wY _ Z.room a c Z.l om b) ?_;rintro _ w ⟨J,ka,G,rfl,r,C,n,e⟩;have E:=xP Z.l b;refine gG 2 ?_;replace e:=(((((e.pick 4 O).pick 4 O).pick 3 O).pick 3 O).pick 4 O)
 refine .lk [0,1,4,14,15] (σ:=Nat) (λi _m=>(16,Ab (i:Nat))::_m) (λi w=>i<=(kids Z.l b).length/\((kids Z.l b).take i).any (λk=>(getD Z.l k).kind==5)=false/\Aa B w J (Ac p.wb (Ca p Z) 85::Ba p.tb Z.room a c Z.l (Ac p.mb [.slice j Z.D.length m] 161::Cp 73 (.slice j Z.D.length m) (Z.D.map λd=>Bo (d:Nat))::N))) (λi=>(kids Z.l b).length-i) 0 ⟨Y4 _,O,e⟩ ?_;rintro i w ⟨hi,h,e⟩;refine gN 1 ?_ ?_<;>intro s
 ·obtain⟨k,g⟩:∃k,(kids Z.l b)[i]?=some k:=⟨_,Y2 om⟩
  obtain⟨H,rfl,x⟩:=n.2 om;have q:((kids Z.l b).map S)[i]?=some (S k):=by rw[Yr,g];rfl
  refine gH 1 ?_;refine .val (.ld1 (.of O) (by have v:=Xv e x q;simpa using v) Bg) O ?_;refine gE 6 (E5 p.tb Z.room a c Z.l om k) ?_;intro w e;refine gG 9 ?_;intro F w e;refine gM 0 ?_ ?_<;>intro f t
  ·refine gG 1 ?_;have y:Oc Z.l b=true:=gh.2 ⟨k,Y7 g,f⟩;rw[y];exact⟨O,Aa.box (T:=Bm p Z) (a,c,j,m) (Aa.weaken (e.z [5,5,4,4,5] 5 1) r)⟩
  refine gG 2 (rd (i+1) ⟨om,?_,(e.z [5,5,4,4,5] 5 1)⟩);rw[Yv,g,DE,List.any_append,h,yB,List.any_nil,show((getD Z.l k).kind==5)=false from f];rfl
 refine gG 1 ?_;have o:i=(kids Z.l b).length:=om
 rw[o,Fy]at h;rw[show Oc Z.l b=false from h];exact⟨O,Aa.box (T:=Bm p Z) (a,c,j,m) (e.weaken r)⟩
theorem Xr8(p:Wp)(Z:Wd)(M:A6 Z)(N:La)(b:Aa B w I (AN p Z::N)):Cz 121 [ptr p.wb 0] w λv w'=>∃J ka j,v=.slice ka (Jl Z.l).length j/\Le I J/\(Jl Z.l).length<=j/\RS J ka 1 (Jl Z.l).length ((Jl Z.l).map S)/\Aa B w' J (AN p Z::N):=by
 refine gG 2 ?_;obtain⟨a,c,y,A,b⟩:=El b;have F:=M.len;refine gF 4 (vn _ Z.room a c Z.l om) ?_;rintro _ w ⟨J,U,V,rfl,L,Q,q,b⟩;refine gG 2 ?_;replace b:=(((((b.pick 4 O).pick 4 O).pick 3 O).pick 3 O).pick 4 O).Ai 9 1;refine .lk [0,10,11] (σ:=Nat×Va) (λ(i,f) _m=>(3,f)::(12,Ab (i:Nat))::_m) (λ(i,f) w=>i<=Z.l.length/\Aa B w J (An 9 1 f (((Z.l.take i).filter MT).map Ah.name).length ((((Z.l.take i).filter MT).map Ah.name).map S)::Ac p.wb (Ca p Z) 85::Ba p.tb Z.room a c Z.l (Ac p.mb [.slice y Z.D.length A] 161::Cp 73 (.slice y Z.D.length A) (Z.D.map λd=>Bo (d:Nat))::N))) (λ(i,f)=>Z.l.length-i) (0,.slice none 0 0) ⟨Y4 _,b⟩ ?_;rintro⟨i,f⟩ w ⟨hi,b⟩;refine gN 1 ?_ ?_<;>intro C
 ·obtain⟨r,G⟩:∃r,Z.l[i]?=some r:=⟨_,Y2 om⟩
  obtain⟨W,x,hx⟩:=aN (cells:=Xa) (λ_=>rfl) q G;subst x;have s:=EP MT (Z.l.take i);rw[Yl]at s;have P:(((Z.l.take i).filter MT).map Ah.name).length=((Z.l.take i).filter MT).length:=Yj _;have g:((Z.l.take (i+1)).filter MT).map Ah.name=((Z.l.take i).filter MT).map Ah.name++([r].filter MT).map Ah.name:=by rw[Yv,G,DE,T5,Yn]
  refine gG 7 ?_;intro R w b;refine gM 0 ?_ ?_<;>intro e E
  ·refine gG 8 ?_;intro K k m h w b;refine rd (i+1,.slice k ((((Z.l.take i).filter MT).map Ah.name).length+1) m) ⟨om,?_⟩;rw[g,Jq,Y9 (by simpa[MT]using e),gk,Yu,ED,Yn,show(((Z.l.take i).filter MT).map Ah.name++[r.name]).length=(((Z.l.take i).filter MT).map Ah.name).length+1 from Y0];exact(b.z [6,6,6,6,6,6] 6 1)
  refine gG 2 (rd (i+1,f) ⟨om,?_⟩);rw[g,Jq,Y3 (by simpa[MT]using e),gk,ED,Yy];exact(b.z [6,6,6,6,6,6] 6 1)
 refine gG 2 ?_;have t:i=Z.l.length:=om
 subst t;rw[Fy]at b;obtain⟨ka,j,rfl,u,_⟩:=b.vS 0;obtain⟨H,n,o,b⟩:=b.fV 0;exact⟨H,ka,j,O,L.trans n,u,o,Aa.box (T:=Bm p Z) (a,c,y,A) b⟩
theorem OU(e b:Lu)(C:e.length<=1000000)(A:b.length<=1000000)(p:Wp)(Z:Wd)(r:A6 Z)(t:BK I p)(N:La)(f:Aa B w I (AN p Z::N)):Ce B I (AN p (Ge p.lo p.ps Z e b).2::N) 164 [ptr p.wb 0,S e,S b] w (.tuple #[S (Ge p.lo p.ps Z e b).1.1.1,S (Ge p.lo p.ps Z e b).1.1.2,Ab ((Ge p.lo p.ps Z e b).1.2:Nat)]):=by
 refine gM 9 ?_ ?_<;>intro g E
 ·refine gG 3 ?_;have j:Ge p.lo p.ps Z e b=((([],[]),33),Z):=by rw[Ge,Y9 g]
  rw[j];exact⟨O,f⟩
 refine gE 2 (iH e 4 p Z r) ?_;intro w f;refine gG 6 ?_;intro M w f;replace f:=f.px [1];refine gH 5 (.Au (T:=λw=>Aa B w I _) O O O func257 O (λn=>(X6 (.gd n O) (X6 (.gd n O) X4))) O (λn=>Xpa e p Z r _ f) f ?_);clear f;rintro w f;refine gM 1 ?_ ?_<;>intro h F
 ·refine gG 3 ?_;have j:Ge p.lo p.ps Z e b=((([],[]),30),Z):=by rw[Ge,Y3 (nB g),Y9 h]
  rw[j];exact⟨O,f.s⟩
 obtain⟨a,c,K,L,f⟩:=El f;refine gF 5 (TD b A p t) ?_;rintro _ w ⟨P,Q,rfl,f⟩;refine gG 8 ?_;intro J w f;replace f:=Aa.box (T:=Bm p _) (a,c,K,L) (f.px [5,5,5,5,5]);refine gM 2 ?_ ?_<;>intro i G
 ·refine gG 3 ?_;have j:Ge p.lo p.ps Z e b=((([],[]),36),Z):=by rw[Ge,Y3 (nB g),Y3 (nB h),Y9 i]
  rw[j];exact⟨O,f.s⟩
 refine gE 6 (l5 (Fu p.lo p.ps Z e b) C p Z r t) ?_;intro w f;refine gM 7 ?_ ?_<;>intro m H
 ·refine gG 4 ?_;have j:Ge p.lo p.ps Z e b=((([],[]),(AA Z (Fu p.lo p.ps Z e b)).1.2),(AA Z (Fu p.lo p.ps Z e b)).2):=by rw[Ge,Y3 (nB g),Y3 (nB h),Y3 (nB i),Y9 (su m)]
  rw[j];exact⟨O,f.s⟩
 refine gG 0 ?_;obtain⟨⟨u,v,o,q⟩,f⟩:=Aa.unbox f;replace f:Aa B _ _ (Ac p.wb (Ca p (AA Z (Fu p.lo p.ps Z e b)).2) 85::Ba p.tb (AA Z (Fu p.lo p.ps Z e b)).2.room u v (AA Z (Fu p.lo p.ps Z e b)).2.l (Ac p.mb [.slice o (AA Z (Fu p.lo p.ps Z e b)).2.D.length q] 161::Cp 73 (.slice o (AA Z (Fu p.lo p.ps Z e b)).2.D.length q) ((AA Z (Fu p.lo p.ps Z e b)).2.D.map λd=>Bo (d:Nat))::_)):=f;have x:=G7 r (Fu p.lo p.ps Z e b);have z:=x.len;have k:=ve (ps:=p.ps) r e 4;refine gD [6,0] [] [0,1,2,3,4,5,6,7,8,9,10] ?_;intro w f;refine gE 9 (wj _ _ k.2.2.1 k.2.2.2) ?_;intro w f;refine gE 0 (sQ p.tb (AA Z (Fu p.lo p.ps Z e b)).2.room u v (AA Z (Fu p.lo p.ps Z e b)).2.l om (PB (Xu p.ps Z e 4).1 (AA Z (Fu p.lo p.ps Z e b)).2.now) (Yq k.1 de) (Yq k.2.1 de) t.known t.pre) ?_;intro w f;refine gG 5 ?_;replace f:=Aa.box (T:=Bm p (MZ (AA Z (Fu p.lo p.ps Z e b)).2 (PB (Xu p.ps Z e 4).1 (AA Z (Fu p.lo p.ps Z e b)).2.now))) (u,v,o,q) (f.px [4,4,3,3,4]);have j:Ge p.lo p.ps Z e b=((((AA Z (Fu p.lo p.ps Z e b)).1.1,(Xk p.lo b).2.1),0),MZ (AA Z (Fu p.lo p.ps Z e b)).2 (PB (Xu p.ps Z e 4).1 (AA Z (Fu p.lo p.ps Z e b)).2.now)):=by rw[Ge,Y3 (nB g),Y3 (nB h),Y3 (nB i),Y3 (su m)]
 rw[j];exact⟨O,(f.y 1 2)⟩
theorem wW(t d:Lu)(R:t.length<=1000000)(F:d.length<=1000000)(p:Wp)(Z:Wd)(n:A6 Z)(s:BK I p)(N:La)(b:Aa B w I (AN p Z::N)):Ce B I (AN p (Xi p.lo Z t d).2::N) 256 [ptr p.wb 0,S t,S d] w (.tuple #[.agg (bR (Xi p.lo Z t d).1.1).toArray,Ab ((Xi p.lo Z t d).1.2:Nat)]):=by
 refine jZ func256 O ntmps256 O ?_;dsimp only[PE,Nat.reduceAdd]
 refine gH 3 ?_;intro C M D w b;replace b:=b.px [3];obtain⟨a,c,o,q,b⟩:=El b;have L:=n.len;have Q:=Xu0 n.wf t;refine gE 5 (E5 p.tb Z.room a c Z.l om t) ?_;intro w b;refine gH 14 ?_;intro P w b;refine gM 5 ?_ ?_<;>intro e G
 ·refine gH 3 ?_;intro w b;refine .nil (.ret ?_);replace b:=Aa.box (T:=Bm p Z) (a,c,o,q) (b.px [5,5,4,4,5]);have m:Xi p.lo Z t d=((c0,30),Z):=by rw[Xi,Y9 (show Q3 Z t=true from e)]
  refine WS O (o2 mO b (k:=3) (j:=2) O O mL mR O7 O O O) ?_;rw[m];exact⟨_,O,O,(b.y 1 4)⟩
 refine .skip (.ck [1,2,3,6,7,8] (σ:=Nat×Oa×Nat) (λ(g,v,A) _m=>(10,ptr g 0)::(12,Ab (((Xk p.lo (getD Z.l t).service).2.2:Nat):Int))::_m) (λ(g,v,A) w=>Aa B w I (Ac g (fw (Xk p.lo (getD Z.l t).service).1 v A) 133::Ac P (Xa (getD Z.l t)) 126::Ac D [Ab 0] 62::Ac M [S [],S [],S []] 211::Ac C [ptr p.wb 0] 87::AN p Z::N)) ?_ ?_)
 ·refine gD [0,7,2] [] [0,1,2,3,4,5] ?_;intro w b;refine gH 6 (gB 6 11 [7,8,9,10,11,12,13,14] [6,7,8,9,10,12,13,14] ?_ ?_)
  ·refine gF 0 (TD (getD Z.l t).service om p s) ?_;rintro _ w ⟨v,A,rfl,b⟩;refine gH 5 ?_;intro g w b;refine gH 1 ?_;intro w b;refine gG 2 ?_;replace b:=Aa.box (T:=Bm p Z) (a,c,o,q) (b.px [6,6,5,5,6]);exact En (_,_,_) O (b.x [5,5,5,5,5])
  ·refine gH 1 ?_;intro g w b;refine gF 0 (TD (getD Z.l t).service om p s) ?_;rintro _ w ⟨v,A,rfl,b⟩;refine gH 5 ?_;intro w b;refine gG 2 ?_;replace b:=Aa.box (T:=Bm p Z) (a,c,o,q) (b.px [6,6,5,5,6]);exact En (_,_,_) O (b.x [5,5,5,5,5])
 rintro⟨g,v,A⟩ w b;refine gG 0 ?_;replace b:=b.px [5];obtain⟨a,c,o,q,b⟩:=El b;refine gD [5,8,0] [] [0,1,2,3,4,5,6,7,8,9,10,11,12] ?_;intro w b;refine gE 7 (ZI (Xk p.lo (getD Z.l t).service).1.id d F p s) ?_;intro w b;refine gH 14 ?_;refine gM 2 ?_ ?_<;>intro f H
 ·refine gH 3 ?_;intro w b;refine .nil (.ret ?_);replace b:=Aa.box (T:=Bm p Z) (a,c,o,q) (b.px [4,4,4,4,4]);have m:Xi p.lo Z t d=((c0,34),Z):=by rw[Xi,Y3 (nB (show Q3 Z t=false from e)),Y9 (show qB p.lo Z t d=true from f)]
  refine WS O (o2 mO b (k:=4) (j:=3) O O mL mR O7 O O O) ?_;rw[m];exact⟨_,O,O,(b.y 1 5)⟩
 refine gG 0 ?_;replace b:=Aa.box (T:=Bm p _) (a,c,o,q) (b.px [4,4,4,4,4]);refine gE 8 (l5 (CE p.lo Z t d) R p Z n s) ?_;intro w b;refine gG 8 ?_;intro r w b;refine gM 0 ?_ ?_<;>intro h J
 ·refine gH 4 ?_;intro w b;refine .nil (.ret ?_);have m:Xi p.lo Z t d=((c0,(AA Z (CE p.lo Z t d)).1.2),(AA Z (CE p.lo Z t d)).2):=by rw[Xi,Y3 (nB (show Q3 Z t=false from e)),Y3 (nB (show qB p.lo Z t d=false from f)),Y9 (su h)]
  refine WS O (o2 mO b (k:=5) (j:=4) O O mL mR O7 O O O) ?_;rw[m];exact⟨_,O,O,(b.z [1] 1 6)⟩
 refine gH 1 (.later (.of O) O (gE 3 (l5 (MY (AA Z (CE p.lo Z t d)).1.1) (Yq Q1 de) p (AA Z (CE p.lo Z t d)).2 (G7 n _) s) ?_));intro w b;refine gM 7 ?_ ?_<;>intro i K
 ·refine gH 4 ?_;intro w b;refine .nil (.ret ?_);have m:Xi p.lo Z t d=((c0,(AA (AA Z (CE p.lo Z t d)).2 (MY (AA Z (CE p.lo Z t d)).1.1)).1.2),FQ (AA (AA Z (CE p.lo Z t d)).2 (MY (AA Z (CE p.lo Z t d)).1.1)).2 (AA Z (CE p.lo Z t d)).1.1):=by rw[Xi,Y3 (nB (show Q3 Z t=false from e)),Y3 (nB (show qB p.lo Z t d=false from f)),Y3 (su h),Y9 (su i)]
  refine qQ func350 O O (λu=>Xiz (((AA (AA Z (CE p.lo Z t d)).2 (MY (AA Z (CE p.lo Z t d)).1.1)).1.2:Nat):Int) (AA Z (CE p.lo Z t d)).1.1 D C r u p (AA (AA Z (CE p.lo Z t d)).2 (MY (AA Z (CE p.lo Z t d)).1.1)).2 (G7 (G7 n _) _) _ (b.x [1,6,5])) ?_;intro w b;rw[Y3 (su i)]at b;refine λa E=>⟨_,o2 mO b (k:=6) (j:=0) O O mL mR O7 O O O a E,?_⟩
  rw[m];exact⟨_,O,O,(b.z [3] 1 6)⟩
 refine gH 6 ?_;intro w b;refine .nil (.ret ?_);have m:Xi p.lo Z t d=((⟨(ns p.lo Z t d).1,(AA Z (CE p.lo Z t d)).1.1,(AA (AA Z (CE p.lo Z t d)).2 (MY (AA Z (CE p.lo Z t d)).1.1)).1.1⟩,0),(AA (AA Z (CE p.lo Z t d)).2 (MY (AA Z (CE p.lo Z t d)).1.1)).2):=by rw[Xi,Y3 (nB (show Q3 Z t=false from e)),Y3 (nB (show qB p.lo Z t d=false from f)),Y3 (su h),Y3 (su i)]
 refine qQ func350 O O (λu=>Xiz 0 (AA Z (CE p.lo Z t d)).1.1 D C r u p (AA (AA Z (CE p.lo Z t d)).2 (MY (AA Z (CE p.lo Z t d)).1.1)).2 (G7 (G7 n _) _) _ (b.x [1,6,5])) ?_;intro w b;rw[Y9 O]at b;refine λa E=>⟨_,o2 mO b (k:=6) (j:=0) O O mL mR O7 O O O a E,?_⟩
 rw[m];exact⟨_,O,O,(b.z [3] 1 6)⟩
open Go
structure Cg where
 lo:List Sv
 us:List Us
 ps:Nat->Int
 qc:Qc
structure BF where
 Z:Wd
 q:List Nt
 k:St
structure Bj where
 Z:Wd
 q:List Nt
 Al:Co
 call:Lu
 DH:Bool
def ep:Co:=⟨0,[],[]⟩
def Di(s:BF):Bj:=⟨s.Z,s.q,ep,[],false⟩
def LG:Lu:=[114,101,110,101,119]
def Xvk:Lu:=[103,97,116,101,119,97,121]
def JC:Lu:=[119,97,114,110]
def ql:Lu:=[116,114,117,101]
def Ad:Lu:=[116,105,99,107,101,116]
def X9:Lu:=[112,103,116,85,114,108]
def cV:Lu:=[112,103,116]
def s7:Lu:=[116,97,114,103,101,116,83,101,114,118,105,99,101]
def aL:Lu:=[104,111,109,101]
def cU:Lu:=[98,121,101]
def LC:Lu:=[108,111,103,105,110,32,116,105,99,107,101,116,32,105,115,32,110,111,116,32,103,111,111,100]
def LH:Lu:=[110,97,109,101,32,111,114,32,112,97,115,115,119,111,114,100,32,105,115,32,119,114,111,110,103]
def Xb(l:List Pq)(name:Lu):Lu:=(DD name l).1
def gS(l:List Pq)(name:Lu):Bool:=Xb l name==ql
def C9(s:Bj):Bj:={ s with DH:=true,Al:=Xq 503 }
def E_:Ah:=⟨6,[],[],[],[],[],0,0,0,false⟩
def FR(s:Bj)(n Hg:Lu):Bj :=
 if(AA s.Z E_).1.2≠0 then C9 { s with Z:=(AA s.Z E_).2 } else{ s with Z:=(AA s.Z E_).2,Al:=jn (AA s.Z E_).1.1 n Hg }
def mY(n st:Lu)(cs:List Lu):Co:=MO (GZ (MX (pU n).1 Ad st)) cs
def Zs(v:Lu)(a:Int):Lu:=(Ry ⟨G0,v,[47],a,true,true⟩).1
def Zw(r:Co)(c:Lu):Co:={ r with Af:=r.Af++[(Pj,c)] }
def jQ(l:List Pq)(ck:Lu):Ak:=⟨Xb l Xd,ck,decide (0<((DD Xd l).2:Int)),gS l LG,gS l Xvk,gS l JC⟩
def DU(g:Cg)(l:List Pq)(ck:Lu)(s:Bj):Bj :=
 let n:=(Xk g.lo (Xb l Xd)).2.1
 let c:=HE g.lo g.ps s.Z (jQ l ck)
 if c=6 then{ s with Al:=Xq 403 } else
 if c=5 then{ s with Al:=Sh aL (getD s.Z.l ck).user } else
 if c=1 then FR s n []else
 if c=4 then{ s with Al:=Sh JC n } else
 if c=3 then{ s with Al:=MO n [] } else
 if c=2 then
  let r:=Dx g.lo g.ps s.Z ck (Xb l Xd) false
  if r.1.2≠0 then C9 { s with Z:=r.2 } else{ s with Z:=r.2,Al:=mY r.1.1.2 r.1.1.1 [] }
 else s
def HC(g:Cg)(l:List Pq)(Ay sv:Lu)(s:Bj):Bj :=
 if sv=[]then{ s with Al:=Zw (Sh aL (Xb l Xr)) (Zs Ay (-1)) } else
 let r:=Dx g.lo g.ps s.Z Ay sv true
 if r.1.2≠0 then C9 { s with Z:=r.2 } else{ s with Z:=r.2,Al:=mY r.1.1.2 r.1.1.1 [Zs Ay (-1)] }
def Fp(g:Cg)(l:List Pq)(s:Bj):Bj :=
 let f:=Xk g.lo (Xb l Xd)
 if Xb l Xd≠[]/\f.2.2≠0 then{ s with Al:=Xq 403 } else
 let r:=Ew g.us g.ps s.Z (Xb l Hj) (Xb l Xr) (Xb l Xx)
 let t:={ s with Z:=r.2 }
 if r.1.2=39 then C9 t else if r.1.2=38 then FR t f.2.1 LC else if r.1.2=37 then FR t f.2.1 LH else HC g l r.1.1 (Xb l Xd) t
def G6(g:Cg)(ck:Lu)(s:Bj):Bj :=
 let r:=Fv s.q (FW g.lo s.Z ck)
 let t:={ s with Z:=Kn s.Z ck,q:=r.1 }
 if r.2≠0 then C9 t else{ t with Al:=Zw (Sh cU []) (Zs [] 0) }
def AO(l:List Pq)(a:Bool):Qr:=⟨Xb l Ad,Xb l Xd,gS l LG,a⟩
def tR(g:Cg)(l:List Pq)(s:Bj):Bj :=
 { s with Z:=(Xo g.ps s.Z (AO l false)).2,Al:=mD (Kf g.lo g.us g.ps s.Z (AO l false)).user (((Ke g.ps s.Z (AO l false):Nat):Int)==0) }
def Dg(g:Cg)(l:List Pq)(a attrs:Bool)(s:Bj):Bj :=
 let q:=AO l a
 let e:=Ke g.ps s.Z q
 let Z:=(Xo g.ps s.Z q).2
 if e≠0\/Xb l X9=[]then{ s with Z:=Z,Al:=Pv (Kf g.lo g.us g.ps s.Z q) e attrs } else
 let k:=Xi g.lo Z (Xb l Ad) (Xb l X9)
 if k.1.2≠0 then{ s with Z:=k.2,Al:=Pv ID k.1.2 attrs,DH:=((k.1.2:Nat):Int)==39 } else
 { s with Z:=if attrs then MZ k.2 { getD k.2.l k.1.1.B0 with AV:=1 } else k.2,call:=(Zu k.1.1.url k.1.1.dW k.1.1.B0).1 }
def tI(g:Cg)(l:List Pq)(s:Bj):Bj :=
 let r:=Ge g.lo g.ps s.Z (Xb l cV) (Xb l s7)
 { s with Z:=r.2,Al:=mE r.1.1.1 r.1.2,DH:=((r.1.2:Nat):Int)==39 }
def CI:Lu:=[110,111,116,101,58]
def TX(a b:List Nt):List Ch:=(a.filter λn=>decide (JB b n.ticket<0)).map λn=>⟨CI++n.ticket,[],true⟩
def Q2(a b:List Nt):List Ch:=(b.filter λn=>!a.contains n).map λn=>⟨CI++n.ticket,(Ir n).1,false⟩
def Pp(a b:List Nt):List Ch:=PL (TX a b++Q2 a b)
def DC(s:BF)(t:Bj):Nat×BF :=
 if t.DH then(0,{ s with Z:={ s.Z with D:=t.Z.D } })else
 let c:=Eh s.k (PC s.Z.l t.Z.l++Pp s.q t.q)
 if c.1=0 then(0,⟨t.Z,t.q,c.2⟩)else(c.1,⟨{ s.Z with D:=t.Z.D },s.q,c.2⟩)
def Dq(r:Co):Lu:=(mG r).1
structure TT(lo:List Sv)(us:List Us):Prop where
 rel:∀s∈lo,s.rel.length<=8
 gu:∀u∈us,u.attrs.length<=8/\∀a∈u.attrs,a.1.length<=100/\a.2.length<=100
structure Lp where
 tp:Nat
 qb:Nat
 p:Wp
 ra:Oa
 rc:Nat
 args:List Pq
 ck:Lu
abbrev BG(x:Lp)(s:Bj)(a:Oa)(b:Nat):X1:=Ac x.tp [ptr x.p.wb 0,ptr x.qb 0,.slice x.ra x.args.length x.rc,S x.ck,Ab s.Al.status,.slice a s.Al.Af.length b,S s.Al.body,S s.call,.bool s.DH] 117
structure BN(I:Im)(x:Lp):Prop where
 wp:BK I x.p
 kz:Kz I
 ra:RS I x.ra 2 x.args.length (X2 X5 x.args)
 al:x.args.length<=100
 each:∀a∈x.args,a.1.length<=5000/\a.2.length<=5000
 ck:x.ck.length<=5000
 fit:TT x.p.lo x.p.us
theorem BN.mono{x:Lp}(h:BN I x)(a:Le I J):BN J x:=⟨h.wp.mono a,h.kz.mono a,h.ra.mono a,h.al,h.each,h.ck,h.fit⟩
def FV(J:Im)(a:Oa)(b:Nat)(r:Co):Prop:=r.Af.length<=b/\RS J a 2 r.Af.length (X2 X5 r.Af)
theorem Xva(name:Lu)(n:Nat):∀(l:List Pq) (a:Lu×Nat),(∀h∈l,h.2.length<=n)->a.1.length<=n->(l.foldl (λa h=>if h.1=name then(if a.2=0 then h.2 else a.1,a.2+1)else a) a).1.length<=n
 | [],a,_,b=>b
 | h::l,a,c,b=>by
  rw[Kt];refine Xva name n l _ (λy d=>c y (by simp[d])) ?_;split
  ·dsimp only
   split
   ·exact c h sz
   ·exact b
  ·exact b
theorem YX{l:List Pq}(h:∀a∈l,a.1.length<=5000/\a.2.length<=5000)(name:Lu):(Xb l name).length<=5000:=Xva name 5000 l ([],0) (λa b=>(h a b).2) (Y4 _)
theorem sy(lo:List Sv)(s:Lu):(Xk lo s).2.1.length<=100:=by
 unfold Xk;split
 ·exact Y4 _
 ·split
  ·exact Y4 _
  ·split
   ·exact Y4 _
   ·dsimp only;omega
theorem Je(x:Lp)(s:Bj)(c:Oa)(d:Nat)(name:Lu)(b:BN I x)(N:La)(a:Aa B w I (BG x s c d::N)):Ce B I (BG x s c d::N) 149 [ptr x.tp 0,S name] w (S (Xb x.args name)):=by
 refine gE 6 (wg _ _ _ _ b.al b.ra) ?_;intro w a;exact gG 7 ⟨O,a⟩
theorem Pw(x:Lp)(s:Bj)(a:Oa)(b:Nat)(name:Lu)(d:BN I x)(N:La)(c:Aa B w I (BG x s a b::N)):Ce B I (BG x s a b::N) 150 [ptr x.tp 0,S name] w (.bool (gS x.args name)):=by
 refine gE 3 (Je x s a b _ d) ?_;intro w c;exact gG 2 ⟨O,c⟩
theorem l4(x:Lp)(s:Bj)(a:Oa)(b:Nat)(i:BN I x)(N:La)(d:Aa B w I (BG x s a b::N)):Cz 44 [ptr x.tp 0] w λv w'=>v=.tuple #[]/\∃J a b,Le I J/\FV J a b (C9 s).Al/\Aa B w' J (BG x (C9 s) a b::N):=by
 refine gF 2 (lT 503) ?_;rintro _ w ⟨J,g,h,rfl,f,e,c,d⟩;refine gG 6 ?_;intro w d;exact⟨O,J,g,h,f,⟨e,c⟩,d⟩
theorem Xgm(x:Lp)(s:Bj)(e:Oa)(f:Nat)(d:BN I x)(N:La)(b:Aa B w I (BG x s e f::AN x.p s.Z::N)):Ce B I (BG x s e f::AN x.p s.Z::N) 148 [ptr x.tp 0] w (.tuple #[S (Xk x.p.lo (Xb x.args Xd)).2.1,Ab (((Xk x.p.lo (Xb x.args Xd)).2.2:Nat):Int)]):=by
 refine gG 2 ?_;replace b:=b.px [1];obtain⟨a,c,g,h,b⟩:=El b;refine gD [5,0] [] [0,1,2,3,4,5,6,7] ?_;intro w b;refine gH 8 (gB 8 14 [] [8,9,10,11,12,13,15,16,17] ?_ ?_)
 ·refine gE 0 (Je x s e f Xd d) ?_;intro w b;refine gH 0 (gB 9 14 [10,11,12,13,14,15,16,17] [9,10,11,12,13,15,16,17] ?_ ?_)
  ·refine gF 0 (TD (Xb x.args Xd) (oh (YX d.each Xd)) x.p d.wp) ?_;rintro _ w ⟨j,k,rfl,b⟩;refine gH 5 ?_;intro i w b;refine gH 1 ?_;intro w b;refine gG 6 ?_;replace b:=Aa.box (T:=Bm x.p _) (a,c,g,h) (b.px [6,6,6,6,6]);exact⟨O,(b.z [2] 2 1)⟩
  ·refine gH 1 ?_;intro i w b;refine gF 0 (TD _ (oh (YX d.each Xd)) x.p d.wp) ?_;rintro _ w ⟨j,k,rfl,b⟩;refine gH 5 ?_;intro w b;refine gG 6 ?_;replace b:=Aa.box (T:=Bm x.p _) (a,c,g,h) (b.px [6,6,6,6,6]);exact⟨O,(b.z [2] 2 1)⟩
 ·refine gH 1 ?_;intro i w b;refine gE 0 (Je x s e f _ d) ?_;intro w b;refine gF 0 (TD (Xb x.args Xd) (oh (YX d.each Xd)) x.p d.wp) ?_;rintro _ w ⟨j,k,rfl,b⟩;refine gH 5 ?_;intro w b;refine gG 6 ?_;replace b:=Aa.box (T:=Bm x.p s.Z) (a,c,g,h) (b.px [6,6,6,6,6]);exact⟨O,(b.z [1] 2 1)⟩
theorem Xwr(b:Lu)(a:Int)(e:b.length<=5000)(d:Kz I)(N:La)(c:Aa B w I N):Ce B I N 160 [S b,Ab a] w (S (Zs b a)):=by
 refine gE 4 (Qa ⟨G0,b,[47],a,true,true⟩ (show G0.length<=10000 by decide) (show b.length<=10000 by omega) (show([47]:Lu).length<=10000 by decide) d) ?_;intro w c;exact gG 7 ⟨O,c⟩
theorem Xqz(a:Oa)(c:Nat)(l:List Pr)(n:l.length<=100000)(e:RS I a 2 l.length (X2 X5 l))(N:La)(b:Aa B w I N):Cz 253 [.slice a l.length c] w λv w'=>∃f,v=f/\Aa B w' I (An 124 2 f (l).length (X2 X5 (l))::N):=by
 refine gH 2 (.val (Ex.F9 (.of O) (.of O) Iq) O ?_);refine gM 0 ?_ ?_<;>intro d j
 ·refine gG 1 ?_;cases a with
  | some p=>simp at d
  | none =>
  have g:l=[]:=by
   cases l with
   | nil=>rfl
   | cons x l=>obtain⟨p,h,_⟩:=e.2 sz;cases h
  subst g;exact⟨_,O,b.Ai 124 2⟩
 refine gH 2 ?_;intro m w b;replace b:=b.A2 (k:=0) (size:=2) O O (Y4 _);refine .Bz (bytes:=32) b (.of O) (.of O) e (k:=0) O Iq (i:=t124) kr O O O O (WB l) ⟨om,by unfold maxLen;omega⟩ O ?_;intro o w b;rw[Yk,Db]at b;exact gG 1 ⟨_,O,b⟩
theorem Xq3(r:Co)(h:Oa)(i:Nat)(c:Lu)(t:r.Af.length<=1000)(o:RS I h 2 r.Af.length (X2 X5 r.Af))(N:La)(b:Aa B w I N):Cz 159 [.agg #[Ab r.status,.slice h r.Af.length i,S r.body],S c] w λv w'=>C2 I (Zw r c) B N v w':=by
 refine gH 4 ?_;intro q s w b;refine gF 0 (Xqz h i _ om o) ?_;rintro _ w ⟨u,rfl,b⟩;obtain⟨x,y,rfl,p,_⟩:=b.vS 0;refine gH 8 ?_;intro j d e a w b;refine gG 0 ?_;have g:=((b.drop (k:=1) O).drop (k:=1) O)
 obtain⟨J,n,f,b⟩:=g.fV 0;have l:(Zw r c).Af.length=r.Af.length+1:=by unfold Zw;simp
 have m:X2 X5 (Zw r c).Af=X2 X5 r.Af++[S Pj,S c]:=by unfold Zw;rw[iK];rfl
 refine ?_;unfold C2;rw[l,m];exact⟨J,d,e,O,n,a,f,b⟩
theorem Xy3(n st:Lu)(d:n.length<=100000)(e:st.length<=100000):Py (MX (pU n).1 Ad st):=by
 have b:=(Wt n).1;have c:=oF (pU n).1.query Ad st;have a:Ad.length=6:=rfl;exact wR (oQ n) (by show(GH (pU n).1.query Ad st).length<=_;omega)
theorem Xpy(n st:Lu)(cs:List Lu)(b:Oa)(g:Nat)(p:n.length<=5000)(l:st.length<=5000)(e:cs.length<=1000)(d:Kz I)(k:RS I b 1 cs.length (cs.map S))(N:La)(a:Aa B w I N):Cz 156 [S n,S st,.slice b cs.length g] w λv w'=>C2 I (mY n st cs) B N v w':=by
 refine gH 2 ?_;intro m w a;refine gE 0 (v_ n om d.kn) ?_;intro w a;refine gH 8 ?_;intro o w a;refine gE 0 (xB _ (oQ n) _ st de om d.kn.gw) ?_;intro w a;refine gE 0 (vA _ (Xy3 n st om om) d.kn) ?_;intro w a;refine gF 1 (Xj1 _ cs b g e k) ?_;rintro _ w ⟨J,h,i,rfl,j,f,c,a⟩;refine gH 1 ?_;intro w a;exact gG 0 ⟨J,h,i,O,j,f,c,a.s⟩
theorem mm(Z:Wd)(r:Ah):(AA Z r).1.1.length<=23:=by
 unfold AA IB;split
 ·simp
 ·dsimp only
  split
  ·simp
  ·exact wI
theorem wP(x:Lp)(s:Bj)(d:Oa)(e:Nat)(n a:Lu)(t:n.length<=5000)(r:a.length<=5000)(q:A6 s.Z)(j:BN I x)(N:La)(c:Aa B w I (BG x s d e::AN x.p s.Z::N)):Cz 153 [ptr x.tp 0,S n,S a] w λv w'=>v=.tuple #[]/\∃J d e,Le I J/\FV J d e (FR s n a).Al/\Aa B w' J (BG x (FR s n a) d e::AN x.p (FR s n a).Z::N):=by
 refine gE 4 (Xel x.p s.Z q j.wp) ?_;intro w c;refine gN 7 ?_ ?_<;>intro b
 ·refine gF 1 (l4 x ({ s with Z:=(AA s.Z E_).2 }:Bj) d e j) ?_;rintro _ w ⟨rfl,J,l,m,g,i,c⟩;refine gG 0 ?_;have f:FR s n a=C9 ({ s with Z:=(AA s.Z E_).2 }:Bj):=by unfold FR;rw[Y9 (by have o:(((AA s.Z E_).1.2:Nat):Int)≠0:=b;omega)]
  rw[f];exact⟨O,J,l,m,g,i,(c.x [1,1])⟩
 refine gF 4 (Rn (AA s.Z E_).1.1 n a (oh (mm s.Z E_)) om om j.kz) ?_;rintro _ w ⟨J,l,m,rfl,g,k,h,c⟩;refine gG 3 ?_;intro w c;have f:FR s n a={ s with Z:=(AA s.Z E_).2,Al:=jn (AA s.Z E_).1.1 n a }:=by unfold FR;rw[Y3 (by have o:(((AA s.Z E_).1.2:Nat):Int)=0:=b;omega)]
 rw[f];exact⟨O,J,l,m,g,⟨k,h⟩,(c.x [1])⟩
def Xt(p:Wp)(a:Qc):Cg:=⟨p.lo,p.us,p.ps,a⟩
theorem Xoi{l:List Ah}(h:Wf l)(name:Lu):(getD l name).user.length<=32:=by
 rcases Tr.get_at l name with⟨_,a⟩|⟨j,r,_,b,_,a⟩
 ·unfold getD;rw[a];decide
 ·unfold getD;rw[a]
  have:=h.right r (Y7 b)
  unfold C7 at this;simp only[Y8,dq1]at this
  show r.user.length<=32
  omega
theorem BE{lo:List Sv}{Z:Wd}{sv:Lu}{a:Bool}:(Dx lo ps Z Ay sv a).1.1.1.length<=5000/\(Dx lo ps Z Ay sv a).1.1.2.length<=5000:=by
 unfold Dx;split
 ·exact⟨Y4 _,Y4 _⟩
 ·split
  ·exact⟨Y4 _,Y4 _⟩
  ·split
   ·exact⟨Y4 _,Y4 _⟩
   ·split
    ·exact⟨Y4 _,Y4 _⟩
    ·exact⟨Yq (mm _ _) de,Yq (sy lo sv) de⟩
theorem P_(lo:List Sv)(ps:Nat->Int)(Z:Wd)(q:Ak):1<=HE lo ps Z q/\HE lo ps Z q<=6:=by
 unfold HE
 repeat' split
 all_goals decide
theorem Xzw(C:Qc)(x:Lp)(s:Bj)(i:Oa)(j:Nat)(E:A6 s.Z)(e:BN I x)(N:La)(b:Aa B w I (BG x s i j::AN x.p s.Z::N)):Cz 90 [ptr x.tp 0] w λv w'=>v=.tuple #[]/\∃J i j,Le I J/\FV J i j (DU (Xt x.p C) x.args x.ck s).Al/\Aa B w' J (BG x (DU (Xt x.p C) x.args x.ck s) i j::AN x.p (DU (Xt x.p C) x.args x.ck s).Z::N):=by
 refine gE 1 (Xgm x s i j e) ?_;intro w b;refine gE 9 (wg _ _ _ _ e.al e.ra) ?_;intro w b;refine gH 5 (.nil (.ck [0,2] (σ:=Nat) (λt _m=>(6,ptr t 0)::_m) (λt w=>Aa B w I (Ac t [S (Xb x.args Xd),S x.ck,.bool (decide (0<((DD Xd x.args).2:Int))),.bool (gS x.args LG),.bool (gS x.args Xvk),.bool (gS x.args JC)] 234::BG x s i j::AN x.p s.Z::N)) ?_ ?_))
 ·refine gD [0] [] [0,2,3,4,5,6,7,8,10,12] ?_;intro w b;refine gH 10 (gB 1 15 [] [1,9,11,13,14,16] ?_ ?_)
  ·refine gE 0 (Je x s i j _ e) ?_;intro w b;refine gH 0 (gB 9 15 [] [9,11,13,14,16] ?_ ?_)
   ·refine gE 0 (Pw x s i j _ e) ?_;intro w b;refine gH 0 (gB 11 15 [] [11,13,14,16] ?_ ?_)
    ·refine gE 0 (Pw x s i j _ e) ?_;intro w b;refine gH 0 (gB 13 15 [14,15,16] [13,14,16] ?_ ?_)
     ·refine gE 0 (Pw x s i j _ e) ?_;intro w b;refine gH 2 ?_;intro t w b;refine gH 1 ?_;intro w b;exact gG 0 (cd t (b.x [2,2,2]))
     ·refine gH 1 ?_;intro t w b;refine gE 0 (Pw x s i j _ e) ?_;intro w b;refine gH 2 ?_;intro w b;exact gG 0 (cd t (b.x [2,1,2]))
    ·refine gH 1 ?_;intro t w b;refine gE 0 (Pw x s i j _ e) ?_;intro w b;refine gE 0 (Pw x s i j _ e) ?_;intro w b;refine gH 2 ?_;intro w b;exact gG 0 (cd t (b.x [2,1,2]))
   ·refine gH 1 ?_;intro t w b;refine gE 0 (Pw x s i j _ e) ?_;intro w b;refine gE 0 (Pw x s i j _ e) ?_;intro w b;refine gE 0 (Pw x s i j _ e) ?_;intro w b;refine gH 2 ?_;intro w b;exact gG 0 (cd t (b.x [2,1,2]))
  ·refine gH 1 ?_;intro t w b;refine gE 0 (Je x s i j _ e) ?_;intro w b;refine gE 0 (Pw x s i j _ e) ?_;intro w b;refine gE 0 (Pw x s i j _ e) ?_;intro w b;refine gE 0 (Pw x s i j _ e) ?_;intro w b;refine gH 2 ?_;intro w b;exact gG 0 (cd t (b.x [2,1,2]))
 rintro t w b;refine gG 0 (gD [1,0] [] [0,1,2,3,4,5] ?_);intro w b;refine gE 5 (Xxb (jQ x.args x.ck) (by have:=YX e.each Xd;show(Xb x.args Xd).length<=_;omega) x.p s.Z E e.wp) ?_;intro w b;have L:=sy x.p.lo (Xb x.args Xd);refine gN 2 ?_ ?_<;>intro d
 ·refine gF 1 (lT 403) ?_;rintro _ w ⟨J,q,r,rfl,o,h,g,b⟩;refine gG 3 ?_;intro w b;have n:DU (Xt x.p C) x.args x.ck s={ s with Al:=Xq 403 }:=by
   unfold DU Xt;dsimp only
   rw[Y9 (oh d)]
  rw[n];exact⟨O,J,q,r,o,⟨h,g⟩,b.s⟩
 refine gN 2 ?_ ?_<;>intro f
 ·refine gG 0 ?_;obtain⟨a,c,G,H,b⟩:=El b;refine gD [6,0] [] [0,1,2,3,4,5,6,7,8,9,10] ?_;intro w b;refine gH 11 (gB 11 15 [12,13,14,15,16,17] [11,12,13,14,16,17] ?_ ?_)
  ·refine gE 0 (E5 x.p.tb s.Z.room a c s.Z.l (oh E.len) x.ck) ?_;intro w b;refine gH 4 ?_;intro K w b;refine gH 1 ?_;intro w b;refine gF 4 (oq aL (getD s.Z.l x.ck).user de (oh (Xoi E.wf x.ck)) e.kz) ?_;rintro _ w ⟨J,q,r,rfl,o,h,g,b⟩;refine gG 3 ?_;intro w b;replace b:=Aa.box (T:=Bm x.p s.Z) (a,c,G,H) (b.px [5,5,4,4,5]);have n:DU (Xt x.p C) x.args x.ck s={ s with Al:=Sh aL (getD s.Z.l x.ck).user }:=by
    unfold DU Xt;dsimp only
    rw[Y3 (oh d),Y9 (oh f)]
   rw[n];exact⟨O,J,q,r,o,⟨h,g⟩,(b.z [3] 2 2)⟩
  ·refine gH 1 ?_;intro K w b;refine gE 0 (E5 x.p.tb s.Z.room a c s.Z.l (oh E.len) x.ck) ?_;intro w b;refine gH 4 ?_;intro w b;refine gF 4 (oq aL (getD s.Z.l x.ck).user de (oh (Xoi E.wf x.ck)) e.kz) ?_;rintro _ w ⟨J,q,r,rfl,o,h,g,b⟩;refine gG 3 ?_;intro w b;replace b:=Aa.box (T:=Bm x.p s.Z) (a,c,G,H) (b.px [5,5,3,3,5]);have n:DU (Xt x.p C) x.args x.ck s={ s with Al:=Sh aL (getD s.Z.l x.ck).user }:=by
    unfold DU Xt;dsimp only
    rw[Y3 (oh d),Y9 (oh f)]
   rw[n];exact⟨O,J,q,r,o,⟨h,g⟩,(b.z [3] 2 2)⟩
 refine gN 2 ?_ ?_<;>intro k
 ·refine gF 2 (wP x s i j _ [] om de E e) ?_;rintro _ w ⟨rfl,J,q,r,o,D,b⟩;refine gG 0 ?_;have n:DU (Xt x.p C) x.args x.ck s=FR s (Xk x.p.lo (Xb x.args Xd)).2.1 []:=by
   unfold DU Xt;dsimp only
   rw[Y3 (oh d),Y3 (oh f),Y9 (oh k)]
  rw[n];exact⟨O,J,q,r,o,D,b.s⟩
 refine gN 2 ?_ ?_<;>intro m
 ·refine gF 2 (oq JC _ de om e.kz) ?_;rintro _ w ⟨J,q,r,rfl,o,h,g,b⟩;refine gG 3 ?_;intro w b;have n:DU (Xt x.p C) x.args x.ck s={ s with Al:=Sh JC (Xk x.p.lo (Xb x.args Xd)).2.1 }:=by
   unfold DU Xt;dsimp only
   rw[Y3 (oh d),Y3 (oh f),Y3 (oh k),Y9 (oh m)]
  rw[n];exact⟨O,J,q,r,o,⟨h,g⟩,b.s⟩
 refine gN 2 ?_ ?_<;>intro u
 ·refine gF 2 (Xj1 _ [] none 0 de (RS.nil _ _)) ?_;rintro _ w ⟨J,q,r,rfl,o,h,g,b⟩;refine gG 3 ?_;intro w b;have n:DU (Xt x.p C) x.args x.ck s={ s with Al:=MO (Xk x.p.lo (Xb x.args Xd)).2.1 [] }:=by
   unfold DU Xt;dsimp only
   rw[Y3 (oh d),Y3 (oh f),Y3 (oh k),Y3 (oh m),Y9 (oh u)]
  rw[n];exact⟨O,J,q,r,o,⟨h,g⟩,b.s⟩
 refine gN 2 ?_ ?_<;>intro A
 ·refine gG 0 (gD [2,1] [] [0,1,2,3,4,5,6,7,8,9,10,11,12,13,14,15,16,17] ?_);intro w b;refine gE 10 (Xmu x.ck (Xb x.args Xd) false (oh e.ck) (oh (YX e.each Xd)) x.p s.Z E e.wp) ?_;intro w b;refine gN 9 ?_ ?_<;>intro y
  ·refine gF 1 (l4 x { s with Z:=(Dx x.p.lo x.p.ps s.Z x.ck (Xb x.args Xd) false).2 } i j e) ?_;rintro _ w ⟨rfl,J,q,r,o,D,b⟩;refine gG 0 ?_;have n:DU (Xt x.p C) x.args x.ck s=C9 { s with Z:=(Dx x.p.lo x.p.ps s.Z x.ck (Xb x.args Xd) false).2 }:=by
    unfold DU Xt;dsimp only
    rw[Y3 (oh d),Y3 (oh f),Y3 (oh k),Y3 (oh m),Y3 (oh u),Y9 (oh A)];exact Y9 (oh y)
   rw[n];exact⟨O,J,q,r,o,D,(b.z [1,1] 2 1)⟩
  refine gF 3 (Xpy _ _ [] none 0 BE.2 BE.1 de e.kz (RS.nil _ _)) ?_;rintro _ w ⟨J,q,r,rfl,o,h,g,b⟩;refine gG 3 ?_;intro w b;have n:DU (Xt x.p C) x.args x.ck s={ s with Z:=(Dx x.p.lo x.p.ps s.Z x.ck (Xb x.args Xd) false).2,Al:=mY (Dx x.p.lo x.p.ps s.Z x.ck (Xb x.args Xd) false).1.1.2 (Dx x.p.lo x.p.ps s.Z x.ck (Xb x.args Xd) false).1.1.1 [] }:=by
   unfold DU Xt;dsimp only
   rw[Y3 (oh d),Y3 (oh f),Y3 (oh k),Y3 (oh m),Y3 (oh u),Y9 (oh A)];exact Y3 (oh y)
  rw[n];exact⟨O,J,q,r,o,⟨h,g⟩,b.s⟩
 refine .skip (λ_ F=>cE F ?_);exfalso
 have W:=P_ x.p.lo x.p.ps s.Z (jQ x.args x.ck);have M:=d;have P:=f;have Q:=k;have R:=m;have U:=u;have V:=A;omega
theorem Xq2(i:Qc)(Ay sv:Lu)(u:Ay.length<=5000)(D:sv.length<=5000)(x:Lp)(s:Bj)(g:Oa)(h:Nat)(A:A6 s.Z)(e:BN I x)(N:La)(a:Aa B w I (BG x s g h::AN x.p s.Z::N)):Cz 158 [ptr x.tp 0,S Ay,S sv] w λv w'=>v=.tuple #[]/\∃J g h,Le I J/\FV J g h (HC (Xt x.p i) x.args Ay sv s).Al/\Aa B w' J (BG x (HC (Xt x.p i) x.args Ay sv s) g h::AN x.p (HC (Xt x.p i) x.args Ay sv s).Z::N):=by
 refine gE 1 (Xwr Ay _ u e.kz) ?_;intro w a;refine gM 3 ?_ ?_<;>intro b y
 ·refine gE 2 (Je x s g h _ e) ?_;intro w a;refine gF 0 (oq aL (Xb x.args Xr) de (oh (YX e.each Xr)) e.kz) ?_;rintro _ w ⟨H,E,F,rfl,q,C,r,a⟩;refine gF 1 (Xq3 (Sh aL (Xb x.args Xr)) E F _ (by show(1:Nat)<=1000;decide) r) ?_;rintro _ w ⟨J,n,o,rfl,l,f,d,a⟩;refine gG 3 ?_;intro w a;have j:HC (Xt x.p i) x.args Ay sv s={ s with Al:=Zw (Sh aL (Xb x.args Xr)) (Zs Ay (-1)) }:=by
   unfold HC Xt;exact Y9 (su b)
  rw[j];exact⟨O,J,n,o,(q.trans l),⟨f,d⟩,a.s⟩
 refine gE 6 (Xmu Ay sv true om om x.p s.Z A e.wp) ?_;intro w a;refine gN 9 ?_ ?_<;>intro c
 ·refine gF 1 (l4 x { s with Z:=(Dx x.p.lo x.p.ps s.Z Ay sv true).2 } g h e) ?_;rintro _ w ⟨rfl,J,n,o,l,t,a⟩;refine gG 0 ?_;have j:HC (Xt x.p i) x.args Ay sv s=C9 { s with Z:=(Dx x.p.lo x.p.ps s.Z Ay sv true).2 }:=by
   unfold HC Xt;dsimp only
   rw[Y3 (su b)];exact Y9 (oh c)
  rw[j];exact⟨O,J,n,o,l,t,(a.x [1,1])⟩
 refine gH 5 ?_;intro z w a;replace a:=a;obtain⟨G,k,m,a⟩:=MI (size:=1) a O;refine gF 0 (Xpy _ _ [Zs Ay (-1)] _ 1 BE.2 BE.1 sz (e.kz.mono k) m) ?_;rintro _ w ⟨J,n,o,rfl,l,f,d,a⟩;refine gG 3 ?_;intro w a;have j:HC (Xt x.p i) x.args Ay sv s={ s with Z:=(Dx x.p.lo x.p.ps s.Z Ay sv true).2,Al:=mY (Dx x.p.lo x.p.ps s.Z Ay sv true).1.1.2 (Dx x.p.lo x.p.ps s.Z Ay sv true).1.1.1 [Zs Ay (-1)] }:=by
  unfold HC Xt;dsimp only
  rw[Y3 (su b)];exact Y3 (oh c)
 rw[j];exact⟨O,J,n,o,(k.trans l),⟨f,d⟩,a.s⟩
theorem Xip(us:List Us)(ps:Nat->Int)(Z:Wd)(lt a b:Lu):(Ew us ps Z lt a b).1.1.length<=5000:=by
 unfold Ew;split
 ·exact Y4 _
 ·split
  ·exact Y4 _
  ·exact Yq (mm _ _) de
theorem Xtr(h:Qc)(x:Lp)(s:Bj)(d:Oa)(e:Nat)(y:A6 s.Z)(f:BN I x)(N:La)(a:Aa B w I (BG x s d e::AN x.p s.Z::N)):Cz 91 [ptr x.tp 0] w λv w'=>v=.tuple #[]/\∃J d e,Le I J/\FV J d e (Fp (Xt x.p h) x.args s).Al/\Aa B w' J (BG x (Fp (Xt x.p h) x.args s) d e::AN x.p (Fp (Xt x.p h) x.args s).Z::N):=by
 refine gE 1 (Je x s d e Xd f) ?_;intro w a;refine gE 2 (Xgm x s d e f) ?_;intro w a;refine gM 11 ?_ ?_<;>intro n z
 ·refine gF 1 (lT 403) ?_;rintro _ w ⟨J,l,m,rfl,j,u,t,a⟩;refine gG 3 ?_;intro w a;have i:Fp (Xt x.p h) x.args s={ s with Al:=Xq 403 }:=by
   unfold Fp Xt;exact Y9 (su n)
  rw[i];exact⟨O,J,l,m,j,⟨u,t⟩,a.s⟩
 refine gG 0 ?_;have C:=sy x.p.lo (Xb x.args Xd);have r:=λnm=>YX f.each nm
 have k:¬ (Xb x.args Xd≠[]/\(Xk x.p.lo (Xb x.args Xd)).2.2≠0):=by
  have A:=n
  revert A
  cases D:(Xb x.args Xd !=[])<;>simp_all
 refine gD [0] [] [0,1,2,3,4,6,8,5,7,9,10,11,12,13,14,15] ?_;intro w a;refine gE 7 (Je x s d e Hj f) ?_;intro w a;refine gE 0 (Je x s d e Xr f) ?_;intro w a;refine gE 0 (Je x s d e Xx f) ?_;intro w a;refine gE 0 (OY (Xb x.args Hj) (Xb x.args Xr) (Xb x.args Xx) (oh (r Xx)) x.p s.Z y f.wp) ?_;intro w a;have q:=Xoz (us:=x.p.us) (ps:=x.p.ps) y (Xb x.args Hj) (Xb x.args Xr) (Xb x.args Xx);refine gN 8 ?_ ?_<;>intro c
 ·refine gF 1 (l4 x ({ s with Z:=(Ew x.p.us x.p.ps s.Z (Xb x.args Hj) (Xb x.args Xr) (Xb x.args Xx)).2 }) d e f) ?_;rintro _ w ⟨rfl,J,l,m,j,b,a⟩;refine gG 0 ?_;have i:Fp (Xt x.p h) x.args s=C9 { s with Z:=(Ew x.p.us x.p.ps s.Z (Xb x.args Hj) (Xb x.args Xr) (Xb x.args Xx)).2 }:=by
   unfold Fp Xt;dsimp only
   rw[Y3 k];exact Y9 (oh c)
  rw[i];exact⟨O,J,l,m,j,b,(a.x [1,1])⟩
 refine gN 2 ?_ ?_<;>intro g
 ·refine gF 2 (wP x ({ s with Z:=(Ew x.p.us x.p.ps s.Z (Xb x.args Hj) (Xb x.args Xr) (Xb x.args Xx)).2 }) d e _ LC om de q f) ?_;rintro _ w ⟨rfl,J,l,m,j,b,a⟩;refine gG 0 ?_;have i:Fp (Xt x.p h) x.args s=FR ({ s with Z:=(Ew x.p.us x.p.ps s.Z (Xb x.args Hj) (Xb x.args Xr) (Xb x.args Xx)).2 }) (Xk x.p.lo (Xb x.args Xd)).2.1 LC:=by
   unfold Fp Xt;dsimp only
   rw[Y3 k];rw[Y3 (oh c)];exact Y9 (oh g)
  rw[i];exact⟨O,J,l,m,j,b,a.s⟩
 refine gN 2 ?_ ?_<;>intro o
 ·refine gF 2 (wP x ({ s with Z:=(Ew x.p.us x.p.ps s.Z (Xb x.args Hj) (Xb x.args Xr) (Xb x.args Xx)).2 }) d e _ LH om de q f) ?_;rintro _ w ⟨rfl,J,l,m,j,b,a⟩;refine gG 0 ?_;have i:Fp (Xt x.p h) x.args s=FR ({ s with Z:=(Ew x.p.us x.p.ps s.Z (Xb x.args Hj) (Xb x.args Xr) (Xb x.args Xx)).2 }) (Xk x.p.lo (Xb x.args Xd)).2.1 LH:=by
   unfold Fp Xt;dsimp only
   rw[Y3 k];rw[Y3 (oh c)];rw[Y3 (oh g)];exact Y9 (oh o)
  rw[i];exact⟨O,J,l,m,j,b,a.s⟩
 refine gF 3 (Xq2 h _ _ (Xip x.p.us x.p.ps s.Z _ _ _) (r Xd) x ({ s with Z:=(Ew x.p.us x.p.ps s.Z (Xb x.args Hj) (Xb x.args Xr) (Xb x.args Xx)).2 }) d e q f) ?_;rintro _ w ⟨rfl,J,l,m,j,b,a⟩;refine gG 0 ?_;have i:Fp (Xt x.p h) x.args s=HC (Xt x.p h) x.args (Ew x.p.us x.p.ps s.Z (Xb x.args Hj) (Xb x.args Xr) (Xb x.args Xx)).1.1 (Xb x.args Xd) ({ s with Z:=(Ew x.p.us x.p.ps s.Z (Xb x.args Hj) (Xb x.args Xr) (Xb x.args Xx)).2 }):=by
  unfold Fp Xt;dsimp only
  rw[Y3 k];rw[Y3 (oh c)];rw[Y3 (oh g)];rw[Y3 (oh o)]
 rw[i];exact⟨O,J,l,m,j,b,a.s⟩
theorem Xj7(px:Bool)(x:Lp)(s:Bj)(c:Oa)(e:Nat)(l:A6 s.Z)(b:BN I x)(N:La)(a:Aa B w I (BG x s c e::AN x.p s.Z::N)):Cz 161 [ptr x.tp 0,.bool px] w λv w'=>∃J cs,Le I J/\v=.tuple #[.agg (List.toArray cs),Ab (Ke x.p.ps s.Z (AO x.args px):Nat)]/\FN J (Kf x.p.lo x.p.us x.p.ps s.Z (AO x.args px)) cs/\Aa B w' J (BG x s c e::AN x.p (Xo x.p.ps s.Z (AO x.args px)).2::N):=by
 refine gH 2 ?_;intro o w a;refine gG 0 ?_;have d:=λnm=>YX b.each nm
 refine gD [1] [15] [0,1,2,3,4,6,8,10,5,7,9,11,12,13,14,15,16] ?_;intro w a;refine gE 8 (Je x s c e _ b) ?_;intro w a;refine gE 0 (Je x s c e _ b) ?_;intro w a;refine gE 0 (Pw x s c e _ b) ?_;intro w a;refine gF 1 (Mf (AO x.args px) (by have:=d Ad;show(Xb x.args Ad).length<=_;omega) (by have:=d Xd;show(Xb x.args Xd).length<=_;omega) x.p s.Z l b.wp) ?_;rintro _ w ⟨J,cs,k,rfl,j,a⟩;obtain⟨ka,m,pa,n,rfl,f,g,h,i⟩:=j;refine gH 3 ?_;intro w a;exact gG 1 ⟨J,_,k,O,⟨ka,m,pa,n,O,f,g,h,i⟩,a.s⟩
theorem oM{l:List Ah}(h:Wf l)(name:Lu):(getD l name).user.length<=32/\(getD l name).url.length<=100/\(getD l name).service.length<=100:=by
 rcases Tr.get_at l name with⟨_,a⟩|⟨j,r,_,b,_,a⟩
 ·unfold getD;rw[a];decide
 ·unfold getD;rw[a]
  have:=h.right r (Y7 b)
  unfold C7 at this;simp only[Y8,dq1]at this
  show r.user.length<=32/\r.url.length<=100/\r.service.length<=100
  omega
theorem Xnn{lo:List Sv}{us:List Us}{Z:Wd}(h:A6 Z)(f:TT lo us)(q:Qr):mW (Kf lo us ps Z q):=by
 unfold Kf;split
 ·exact⟨Y4 _,Y4 _,⟨Y4 _,λa b=>by simp[ID]at b⟩,⟨Y4 _,λa b=>by simp[ID]at b⟩⟩
 ·have n:(Xo ps Z q).1.1.user.length<=32:=by
   have key:(Xu ps Z q.ticket (Ki q.ticket)).1.user.length<=32:=by
    unfold Xu;split
    ·decide
    ·exact(oM h.wf q.ticket).1
   unfold Xo
   repeat' split
   all_goals first|exact key|exact Y4 _
  have d:=mw (ps:=ps) h q;have c:∀nm,(Cw us nm).length<=8/\∀a∈Cw us nm,a.1.length<=100/\a.2.length<=100:=λnm=>by
   unfold Cw;split
   ·rename_i e;exact f.gu _ (pA e)
   ·exact⟨Y4 _,λa b=>by simp at b⟩
  have g:(Xk lo (Xo ps Z q).1.1.service).1.rel.length<=8:=by
   rcases rX lo (Xo ps Z q).1.1.service with e|e
   ·rw[e];decide
   ·exact f.rel _ e
  refine⟨by dsimp only;omega,Y4 _,⟨?_,λa b=>?_⟩,⟨?_,λp k=>?_⟩⟩
  ·have:=vI (rel:=(Xk lo (Xo ps Z q).1.1.service).1.rel) (c (Xo ps Z q).1.1.user).1
   show(R4 _ _ _).length<=64
   unfold R4;omega
  ·obtain⟨x,_,hx⟩:=jH.1 b;exact(c _).2 a (Iy.1 hx).1
  ·show(R1 _ _).length<=64
   unfold R1;rw[Yj];have l:=mq d.wf (Xo ps Z q).1.1.name;have m:=d.len;exact Yq (EP ..) om
  ·obtain⟨r,g,rfl⟩:=Dt.1 k;obtain⟨j,i⟩:=sG (Iy.1 g).1
   have:=d.wf.right r (Y7 i)
   unfold C7 at this;simp only[Y8,dq1]at this
   show r.url.length<=200
   omega
theorem Xv0{lo:List Sv}{Z:Wd}(h:A6 Z)(t:Lu):(FW lo Z t).length<=70/\∀n∈FW lo Z t,n.ticket.length<=60/\n.url.length<=120:=by
 unfold FW;split
 ·unfold iV;have k:=Xp6 lo Z (below Z.l t);have o:=w7 h.wf t;have p:=h.len;refine⟨om,λn a=>?_⟩;obtain⟨m,g,rfl⟩:=Dt.1 a;have b:=(Iy.1 g).2;unfold Zr at b;simp only[Y8,EC,beq_iff_eq]at b
  rcases Tr.get_at Z.l m with⟨_,e⟩|⟨j,r,_,i,a,e⟩
  ·have d:getD Z.l m=r0:=by unfold getD;rw[e];rfl
   rw[d]at b;rcases b.1.1 with c|c<;>cases c
  ·have f:=lZ (h.wf.right r (Y7 i));have q:=(oM h.wf m).2.2;rw[a]at f;exact⟨by show m.length<=60;omega,by show(getD Z.l m).service.length<=120;omega⟩
 ·exact⟨Y4 _,λn a=>by simp at a⟩
theorem CG{lo:List Sv}{Z:Wd}{t a:Lu}:(Xi lo Z t a).1.1.url.length<=100000/\(Xi lo Z t a).1.1.dW.length<=100000/\(Xi lo Z t a).1.1.B0.length<=100000:=by
 have b:c0.url.length<=100000/\c0.dW.length<=100000/\c0.B0.length<=100000:=de
 unfold Xi;split
 ·exact b
 ·split
  ·exact b
  ·split
   ·exact b
   ·split
    ·exact b
    ·refine⟨?_,Yq (mm _ _) de,Yq (mm _ _) de⟩;show(ns lo Z t a).1.length<=_
     unfold ns aH;split
     ·exact Y4 _
     ·split
      ·exact Y4 _
      ·rename_i c
       simp only[EC,dq1,not_or]at c
       dsimp only;omega
theorem Xzx(h:Qc)(x:Lp)(s:Bj)(b:Oa)(c:Nat)(j:A6 s.Z)(i:BN I x)(N:La)(a:Aa B w I (BG x s b c::AN x.p s.Z::N)):Cz 93 [ptr x.tp 0] w λv w'=>v=.tuple #[]/\∃J b c,Le I J/\FV J b c (tR (Xt x.p h) x.args s).Al/\Aa B w' J (BG x (tR (Xt x.p h) x.args s) b c::AN x.p (tR (Xt x.p h) x.args s).Z::N):=by
 refine gF 1 (Xj7 _ x s b c j i) ?_;rintro _ w ⟨t,cs,d,rfl,g,a⟩;obtain⟨ka,y,pa,A,rfl,l,m,n,o⟩:=g;refine gH 11 ?_;intro u w a;refine gF 0 (Xzk _ _ (oh ((Xnn (ps:=x.p.ps) j i.fit (AO x.args false)).user))) ?_;rintro _ w ⟨J,q,r,rfl,k,f,e,a⟩;refine gG 3 ?_;intro w a;exact⟨O,J,q,r,d.trans k,⟨f,e⟩,(a.z [2,2] 2 1)⟩
theorem QP(lo:List Sv)(ps:Nat->Int)(Z:Wd)(b a:Lu):(Ge lo ps Z b a).1.1.1.length<=5000:=by
 unfold Ge
 repeat' split
 all_goals first|exact Y4 _|exact Yq (mm _ _) de
theorem Xzv(h:Qc)(x:Lp)(s:Bj)(b:Oa)(c:Nat)(j:A6 s.Z)(d:BN I x)(N:La)(a:Aa B w I (BG x s b c::AN x.p s.Z::N)):Cz 98 [ptr x.tp 0] w λv w'=>v=.tuple #[]/\∃J b c,Le I J/\FV J b c (tI (Xt x.p h) x.args s).Al/\Aa B w' J (BG x (tI (Xt x.p h) x.args s) b c::AN x.p (tI (Xt x.p h) x.args s).Z::N):=by
 have e:=λnm=>YX d.each nm
 refine gG 0 (gD [0] [] [0,1,2,3,4,6,5,7,8,9,10,11,12,13,14,15] ?_);intro w a;refine gE 6 (Je x s b c _ d) ?_;intro w a;refine gE 0 (Je x s b c s7 d) ?_;intro w a;refine gE 0 (OU (Xb x.args cV) _ (oh (e cV)) (oh (e s7)) x.p s.Z j d.wp) ?_;intro w a;refine gF 11 (Xzl _ (Ge x.p.lo x.p.ps s.Z (Xb x.args cV) (Xb x.args s7)).1.2 (QP x.p.lo x.p.ps s.Z _ _) d.kz) ?_;rintro _ w ⟨J,k,l,rfl,i,g,f,a⟩;refine gG 8 ?_;intro w a;exact⟨O,J,k,l,i,⟨g,f⟩,(a.x [1])⟩
def CB(J:Im)(a:Oa)(b:Nat)(q:List Nt):Prop:=q.length<=b/\RS J a 4 q.length (X2 X8 q)
abbrev DZ(c:Nat)(a:Qc)(q:List Nt)(b:Oa)(d:Nat):X1:=Ac c [Ab (JN a),AM a.x,AM a.y,AM a.z,.slice b (q).length d] 159
theorem Xq1(d:Qc)(j:Oa)(k:Nat)(x:Lp)(s:Bj)(m:Oa)(n:Nat)(Q:A6 s.Z)(V:s.q.length<=64)(P:BN I x)(M:CB I j k s.q)(N:La)(b:Aa B w I (BG x s m n::DZ x.qb d s.q j k::AN x.p s.Z::N)):Cz 92 [ptr x.tp 0] w λv w'=>v=.tuple #[]/\∃J m n j k,Le I J/\FV J m n (G6 (Xt x.p d) x.ck s).Al/\CB J j k (G6 (Xt x.p d) x.ck s).q/\Aa B w' J (BG x (G6 (Xt x.p d) x.ck s) m n::DZ x.qb d (G6 (Xt x.p d) x.ck s).q j k::AN x.p (G6 (Xt x.p d) x.ck s).Z::N):=by
 refine gG 0 (gD [0] [] [0,1,2,3,4,5,6,7,8,9,10,11,12,13] ?_);intro w b;refine gF 8 (Mn _ x.p s.Z Q P.wp) ?_;rintro _ w ⟨Y,E,F,ga,gc,c,rfl,T,u,S,R,b⟩;have h:=P.mono c;have r:=Xv0 (lo:=x.p.lo) Q x.ck;refine gP 10 [2] (Xn2 _ _ _ _ _ j k s.q V (M.2.mono c) M.1 E F _ r.1 r.2 u h.kz.kx h.kz.pre _) ?_;rintro _ w ⟨J2,K,L,rfl,f,a,o,b⟩;have i:=h.mono f;refine gN 1 ?_ ?_<;>intro e
 ·refine gF 1 (l4 x ({ s with Z:=Kn s.Z x.ck,q:=(Fv s.q (FW x.p.lo s.Z x.ck)).1 }) m n i) ?_;rintro _ w ⟨rfl,J,G,H,l,A,b⟩;replace a:=a.mono l;refine gG 0 ?_;have t:G6 (Xt x.p d) x.ck s=C9 ({ s with Z:=Kn s.Z x.ck,q:=(Fv s.q (FW x.p.lo s.Z x.ck)).1 }):=by
   unfold G6 Xt;dsimp only
   exact Y9 (oh e)
  rw[t];exact⟨O,J,G,H,K,L,c.trans (f.trans l),A,⟨o,a⟩,(b.x [2,2,2])⟩
 refine gF 1 (oq cU [] de de i.kz) ?_;rintro _ w ⟨J3,W,X,rfl,g,U,z,b⟩;have C:=i.mono g;refine gE 0 (Xwr [] 0 de C.kz) ?_;intro w b;refine gF 0 (Xq3 (Sh cU []) W X _ (by show(1:Nat)<=1000;decide) z) ?_;rintro _ w ⟨J,G,H,rfl,l,D,y,b⟩;replace a:=(a.mono g).mono l;refine gG 3 ?_;intro w b;have t:G6 (Xt x.p d) x.ck s={ s with Z:=Kn s.Z x.ck,q:=(Fv s.q (FW x.p.lo s.Z x.ck)).1,Al:=Zw (Sh cU []) (Zs [] 0) }:=by
  unfold G6 Xt;dsimp only
  exact Y3 (oh e)
 rw[t];exact⟨O,J,G,H,K,L,c.trans (f.trans (g.trans l)),⟨D,y⟩,⟨o,a⟩,b.s⟩
theorem OC:mW ID:=⟨Y4 _,Y4 _,⟨Y4 _,λa b=>by simp[ID]at b⟩,⟨Y4 _,λa b=>by simp[ID]at b⟩⟩
theorem Xoh{l:List Ah}(h:Wf l)(name:Lu):(getD l name).name.length<=1000000/\(getD l name).parent.length<=1000000:=by
 rcases Tr.get_at l name with⟨_,a⟩|⟨j,r,_,b,_,a⟩
 ·unfold getD;rw[a];decide
 ·unfold getD;rw[a]
  have:=lZ (h.right r (Y7 b))
  show r.name.length<=_/\r.parent.length<=_
  omega
theorem r9(G:Qc)(px g:Bool)(x:Lp)(s:Bj)(i:Oa)(k:Nat)(R:A6 s.Z)(M:BN I x)(t:FV I i k s.Al)(N:La)(b:Aa B w I (BG x s i k::AN x.p s.Z::N)):Cz 163 [ptr x.tp 0,.bool px,.bool g] w λv w'=>v=.tuple #[]/\∃J i k,Le I J/\FV J i k (Dg (Xt x.p G) x.args px g s).Al/\Aa B w' J (BG x (Dg (Xt x.p G) x.args px g s) i k::AN x.p (Dg (Xt x.p G) x.args px g s).Z::N):=by
 refine gF 2 (Xj7 px x s i k R M) ?_;rintro _ w ⟨H,cs,n,rfl,Y,b⟩;have e:=M.mono n;obtain⟨ka,kc,pa,pc,rfl,U,V,W,X⟩:=Y;refine gH 7 ?_;intro b6 w b;refine gE 0 (Je x s i k X9 e) ?_;intro w b;refine gN 7 ?_ ?_<;>intro q
 ·refine gF 4 (rF (Kf x.p.lo x.p.us x.p.ps s.Z (AO x.args px)) (Ke x.p.ps s.Z (AO x.args px)) (λ_=>Xnn R M.fit (AO x.args px)) g _ e.kz ⟨ka,kc,pa,pc,O,U,V,W,X⟩) ?_;rintro _ w ⟨J,na,nc,rfl,Q,F,E,b⟩;refine gG 3 ?_;intro w b;have K:Dg (Xt x.p G) x.args px g s={ s with Z:=(Xo x.p.ps s.Z (AO x.args px)).2,Al:=Pv (Kf x.p.lo x.p.us x.p.ps s.Z (AO x.args px)) (Ke x.p.ps s.Z (AO x.args px)) g }:=by
   unfold Dg Xt;dsimp only
   exact Y9 (q.imp (λh=>by omega) id)
  rw[K];exact⟨O,J,na,nc,n.trans Q,⟨F,E⟩,b.s⟩
 refine .skip ?_;have r:=mw (ps:=x.p.ps) R (AO x.args px);have j:=λnm=>YX M.each nm
 have L:¬ ((Ke x.p.ps s.Z (AO x.args px))≠0\/Xb x.args X9=[]):=by
  rintro(P|P)
  ·exact P (oh q.1)
  ·exact q.2 P
 refine .ck [0,2,6] (σ:=Nat) (λm _m=>(7,Ab ((Xi x.p.lo (Xo x.p.ps s.Z (AO x.args px)).2 (Xb x.args Ad) (Xb x.args X9)).1.2:Nat))::(9,ptr m 0)::_m) (λm w=>Aa B w H (Ac m [S (Xi x.p.lo (Xo x.p.ps s.Z (AO x.args px)).2 (Xb x.args Ad) (Xb x.args X9)).1.1.url,S (Xi x.p.lo (Xo x.p.ps s.Z (AO x.args px)).2 (Xb x.args Ad) (Xb x.args X9)).1.1.dW,S (Xi x.p.lo (Xo x.p.ps s.Z (AO x.args px)).2 (Xb x.args Ad) (Xb x.args X9)).1.1.B0] 211::Ac b6 [S (Kf x.p.lo x.p.us x.p.ps s.Z (AO x.args px)).user,.slice ka (Kf x.p.lo x.p.us x.p.ps s.Z (AO x.args px)).attrs.length kc,.slice pa (Kf x.p.lo x.p.us x.p.ps s.Z (AO x.args px)).Av.length pc,S (Kf x.p.lo x.p.us x.p.ps s.Z (AO x.args px)).B0] 246::BG x s i k::AN x.p (Xi x.p.lo (Xo x.p.ps s.Z (AO x.args px)).2 (Xb x.args Ad) (Xb x.args X9)).2::N)) ?_ ?_
 ·refine gD [0] [] [0,1,2,3,4,6] ?_;intro w b;refine gH 6 (gB 5 11 [] [5,7,8,9,10,12,13] ?_ ?_)
  ·refine gE 0 (Je x s i k Ad e) ?_;intro w b;refine gH 0 (gB 7 11 [8,9,10,11,12,13] [7,8,9,10,12,13] ?_ ?_)
   ·refine gE 0 (wW (Xb x.args Ad) (Xb x.args X9) (oh (j Ad)) (oh (j X9)) x.p (Xo x.p.ps s.Z (AO x.args px)).2 r e.wp) ?_;intro w b;refine gH 4 ?_;intro m w b;refine gH 1 ?_;intro w b;exact gG 1 (cd m (b.x [1,2,3,3]))
   ·refine gH 1 ?_;intro m w b;refine gE 0 (wW (Xb x.args Ad) (Xb x.args X9) (oh (j Ad)) (oh (j X9)) x.p (Xo x.p.ps s.Z (AO x.args px)).2 r e.wp) ?_;intro w b;refine gH 4 ?_;intro w b;exact gG 1 (cd m (b.x [2,3,3]))
  ·refine gH 1 ?_;intro m w b;refine gE 0 (Je x s i k Ad e) ?_;intro w b;refine gE 0 (wW (Xb x.args Ad) (Xb x.args X9) (oh (j Ad)) (oh (j X9)) x.p (Xo x.p.ps s.Z (AO x.args px)).2 r e.wp) ?_;intro w b;refine gH 4 ?_;intro w b;exact gG 1 (cd m (b.x [1,3,3]))
 rintro m w b;have o:=Xuk (lo:=x.p.lo) r (Xb x.args Ad) (Xb x.args X9);refine gN 2 ?_ ?_<;>intro y
 ·refine gF 5 (rF ID (Xi x.p.lo (Xo x.p.ps s.Z (AO x.args px)).2 (Xb x.args Ad) (Xb x.args X9)).1.2 (λ_=>OC) g _ e.kz (pj H)) ?_;rintro _ w ⟨J,na,nc,rfl,Q,F,E,b⟩;refine gG 8 ?_;intro w b;have K:Dg (Xt x.p G) x.args px g s={ s with Z:=(Xi x.p.lo (Xo x.p.ps s.Z (AO x.args px)).2 (Xb x.args Ad) (Xb x.args X9)).2,Al:=Pv ID (Xi x.p.lo (Xo x.p.ps s.Z (AO x.args px)).2 (Xb x.args Ad) (Xb x.args X9)).1.2 g,DH:=(((Xi x.p.lo (Xo x.p.ps s.Z (AO x.args px)).2 (Xb x.args Ad) (Xb x.args X9)).1.2:Nat):Int)==39 }:=by
   unfold Dg Xt;dsimp only
   rw[Y3 L];exact Y9 (oh y)
  rw[K];exact⟨O,J,na,nc,n.trans Q,⟨F,E⟩,b.s⟩
 refine .skip (.ck [0,9] (σ:=Unit) (λ_ _m=>_m) (λ_ w=>Aa B w H (Ac m [S (Xi x.p.lo (Xo x.p.ps s.Z (AO x.args px)).2 (Xb x.args Ad) (Xb x.args X9)).1.1.url,S (Xi x.p.lo (Xo x.p.ps s.Z (AO x.args px)).2 (Xb x.args Ad) (Xb x.args X9)).1.1.dW,S (Xi x.p.lo (Xo x.p.ps s.Z (AO x.args px)).2 (Xb x.args Ad) (Xb x.args X9)).1.1.B0] 211::BG x s i k::AN x.p (if g=true then MZ (Xi x.p.lo (Xo x.p.ps s.Z (AO x.args px)).2 (Xb x.args Ad) (Xb x.args X9)).2 { (getD (Xi x.p.lo (Xo x.p.ps s.Z (AO x.args px)).2 (Xb x.args Ad) (Xb x.args X9)).2.l (Xi x.p.lo (Xo x.p.ps s.Z (AO x.args px)).2 (Xb x.args Ad) (Xb x.args X9)).1.1.B0)with AV:=1 } else(Xi x.p.lo (Xo x.p.ps s.Z (AO x.args px)).2 (Xb x.args Ad) (Xb x.args X9)).2)::N)) ?_ ?_)
 ·refine .ck [0,2,9] (σ:=Nat) (λf _m=>(10,ptr f 0)::_m) (λf w=>Aa B w H (Ac f [Ab (getD (Xi x.p.lo (Xo x.p.ps s.Z (AO x.args px)).2 (Xb x.args Ad) (Xb x.args X9)).2.l (Xi x.p.lo (Xo x.p.ps s.Z (AO x.args px)).2 (Xb x.args Ad) (Xb x.args X9)).1.1.B0).kind,S (getD (Xi x.p.lo (Xo x.p.ps s.Z (AO x.args px)).2 (Xb x.args Ad) (Xb x.args X9)).2.l (Xi x.p.lo (Xo x.p.ps s.Z (AO x.args px)).2 (Xb x.args Ad) (Xb x.args X9)).1.1.B0).name,S (getD (Xi x.p.lo (Xo x.p.ps s.Z (AO x.args px)).2 (Xb x.args Ad) (Xb x.args X9)).2.l (Xi x.p.lo (Xo x.p.ps s.Z (AO x.args px)).2 (Xb x.args Ad) (Xb x.args X9)).1.1.B0).parent,S (getD (Xi x.p.lo (Xo x.p.ps s.Z (AO x.args px)).2 (Xb x.args Ad) (Xb x.args X9)).2.l (Xi x.p.lo (Xo x.p.ps s.Z (AO x.args px)).2 (Xb x.args Ad) (Xb x.args X9)).1.1.B0).user,S (getD (Xi x.p.lo (Xo x.p.ps s.Z (AO x.args px)).2 (Xb x.args Ad) (Xb x.args X9)).2.l (Xi x.p.lo (Xo x.p.ps s.Z (AO x.args px)).2 (Xb x.args Ad) (Xb x.args X9)).1.1.B0).service,S (getD (Xi x.p.lo (Xo x.p.ps s.Z (AO x.args px)).2 (Xb x.args Ad) (Xb x.args X9)).2.l (Xi x.p.lo (Xo x.p.ps s.Z (AO x.args px)).2 (Xb x.args Ad) (Xb x.args X9)).1.1.B0).url,Ab (getD (Xi x.p.lo (Xo x.p.ps s.Z (AO x.args px)).2 (Xb x.args Ad) (Xb x.args X9)).2.l (Xi x.p.lo (Xo x.p.ps s.Z (AO x.args px)).2 (Xb x.args Ad) (Xb x.args X9)).1.1.B0).made,Ab (getD (Xi x.p.lo (Xo x.p.ps s.Z (AO x.args px)).2 (Xb x.args Ad) (Xb x.args X9)).2.l (Xi x.p.lo (Xo x.p.ps s.Z (AO x.args px)).2 (Xb x.args Ad) (Xb x.args X9)).1.1.B0).used,Ab (getD (Xi x.p.lo (Xo x.p.ps s.Z (AO x.args px)).2 (Xb x.args Ad) (Xb x.args X9)).2.l (Xi x.p.lo (Xo x.p.ps s.Z (AO x.args px)).2 (Xb x.args Ad) (Xb x.args X9)).1.1.B0).AV,.bool (getD (Xi x.p.lo (Xo x.p.ps s.Z (AO x.args px)).2 (Xb x.args Ad) (Xb x.args X9)).2.l (Xi x.p.lo (Xo x.p.ps s.Z (AO x.args px)).2 (Xb x.args Ad) (Xb x.args X9)).1.1.B0).fresh] 126::Ac m [S (Xi x.p.lo (Xo x.p.ps s.Z (AO x.args px)).2 (Xb x.args Ad) (Xb x.args X9)).1.1.url,S (Xi x.p.lo (Xo x.p.ps s.Z (AO x.args px)).2 (Xb x.args Ad) (Xb x.args X9)).1.1.dW,S (Xi x.p.lo (Xo x.p.ps s.Z (AO x.args px)).2 (Xb x.args Ad) (Xb x.args X9)).1.1.B0] 211::BG x s i k::AN x.p (Xi x.p.lo (Xo x.p.ps s.Z (AO x.args px)).2 (Xb x.args Ad) (Xb x.args X9)).2::N)) ?_ ?_
  ·replace b:=b.px [3];obtain⟨⟨a,c,A,C⟩,b⟩:=Aa.unbox b;replace b:Aa B _ _ (Ac x.p.wb (Ca x.p (Xi x.p.lo (Xo x.p.ps s.Z (AO x.args px)).2 (Xb x.args Ad) (Xb x.args X9)).2) 85::Ba x.p.tb (Xi x.p.lo (Xo x.p.ps s.Z (AO x.args px)).2 (Xb x.args Ad) (Xb x.args X9)).2.room a c (Xi x.p.lo (Xo x.p.ps s.Z (AO x.args px)).2 (Xb x.args Ad) (Xb x.args X9)).2.l (Ac x.p.mb [.slice A (Xi x.p.lo (Xo x.p.ps s.Z (AO x.args px)).2 (Xb x.args Ad) (Xb x.args X9)).2.D.length C] 161::Cp 73 (.slice A (Xi x.p.lo (Xo x.p.ps s.Z (AO x.args px)).2 (Xb x.args Ad) (Xb x.args X9)).2.D.length C) ((Xi x.p.lo (Xo x.p.ps s.Z (AO x.args px)).2 (Xb x.args Ad) (Xb x.args X9)).2.D.map λd=>Bo (d:Nat))::_)):=b;refine gD [7,0,4] [] [0,1,2,3,4,5,6,7,8] ?_;intro w b;refine gH 9 (gB 9 13 [10,11,12,13,14,15] [9,10,11,12,14,15] ?_ ?_)
   ·refine gE 0 (E5 x.p.tb (Xi x.p.lo (Xo x.p.ps s.Z (AO x.args px)).2 (Xb x.args Ad) (Xb x.args X9)).2.room a c (Xi x.p.lo (Xo x.p.ps s.Z (AO x.args px)).2 (Xb x.args Ad) (Xb x.args X9)).2.l (oh o.len) (Xi x.p.lo (Xo x.p.ps s.Z (AO x.args px)).2 (Xb x.args Ad) (Xb x.args X9)).1.1.B0) ?_;intro w b;refine gH 4 ?_;intro f w b;refine gH 1 ?_;intro w b;refine gG 1 ?_;replace b:=Aa.box (T:=Bm x.p (Xi x.p.lo (Xo x.p.ps s.Z (AO x.args px)).2 (Xb x.args Ad) (Xb x.args X9)).2) (a,c,A,C) (b.px [5,5,4,4,5]);exact cd f (b.z [4,3,3] 4 1)
   ·refine gH 1 ?_;intro f w b;refine gE 0 (E5 x.p.tb (Xi x.p.lo (Xo x.p.ps s.Z (AO x.args px)).2 (Xb x.args Ad) (Xb x.args X9)).2.room a c (Xi x.p.lo (Xo x.p.ps s.Z (AO x.args px)).2 (Xb x.args Ad) (Xb x.args X9)).2.l (oh o.len) (Xi x.p.lo (Xo x.p.ps s.Z (AO x.args px)).2 (Xb x.args Ad) (Xb x.args X9)).1.1.B0) ?_;intro w b;refine gH 4 ?_;intro w b;refine gG 1 ?_;replace b:=Aa.box (T:=Bm x.p (Xi x.p.lo (Xo x.p.ps s.Z (AO x.args px)).2 (Xb x.args Ad) (Xb x.args X9)).2) (a,c,A,C) (b.px [5,5,3,3,5]);exact cd f (b.z [4,3,3] 4 1)
  rintro f w b;refine gM 1 ?_ ?_<;>intro u ad
  ·refine gG 2 ?_;intro w b;replace b:=b.px [3];obtain⟨⟨a,c,A,C⟩,b⟩:=Aa.unbox b;replace b:Aa B _ _ (Ac x.p.wb (Ca x.p (Xi x.p.lo (Xo x.p.ps s.Z (AO x.args px)).2 (Xb x.args Ad) (Xb x.args X9)).2) 85::Ba x.p.tb (Xi x.p.lo (Xo x.p.ps s.Z (AO x.args px)).2 (Xb x.args Ad) (Xb x.args X9)).2.room a c (Xi x.p.lo (Xo x.p.ps s.Z (AO x.args px)).2 (Xb x.args Ad) (Xb x.args X9)).2.l (Ac x.p.mb [.slice A (Xi x.p.lo (Xo x.p.ps s.Z (AO x.args px)).2 (Xb x.args Ad) (Xb x.args X9)).2.D.length C] 161::Cp 73 (.slice A (Xi x.p.lo (Xo x.p.ps s.Z (AO x.args px)).2 (Xb x.args Ad) (Xb x.args X9)).2.D.length C) ((Xi x.p.lo (Xo x.p.ps s.Z (AO x.args px)).2 (Xb x.args Ad) (Xb x.args X9)).2.D.map λd=>Bo (d:Nat))::_)):=b;refine gD [7,0,4] [] [0,1,2,3,4,5,6,7,8] ?_;intro w b;refine gE 8 (sQ x.p.tb (Xi x.p.lo (Xo x.p.ps s.Z (AO x.args px)).2 (Xb x.args Ad) (Xb x.args X9)).2.room a c (Xi x.p.lo (Xo x.p.ps s.Z (AO x.args px)).2 (Xb x.args Ad) (Xb x.args X9)).2.l (oh o.len) { (getD (Xi x.p.lo (Xo x.p.ps s.Z (AO x.args px)).2 (Xb x.args Ad) (Xb x.args X9)).2.l (Xi x.p.lo (Xo x.p.ps s.Z (AO x.args px)).2 (Xb x.args Ad) (Xb x.args X9)).1.1.B0)with AV:=1 } (Xoh o.wf _).1 (Xoh o.wf _).2 e.wp.known e.wp.pre) ?_;intro w b;refine gG 0 ?_;replace b:=Aa.box (T:=Bm x.p (MZ (Xi x.p.lo (Xo x.p.ps s.Z (AO x.args px)).2 (Xb x.args Ad) (Xb x.args X9)).2 { (getD (Xi x.p.lo (Xo x.p.ps s.Z (AO x.args px)).2 (Xb x.args Ad) (Xb x.args X9)).2.l (Xi x.p.lo (Xo x.p.ps s.Z (AO x.args px)).2 (Xb x.args Ad) (Xb x.args X9)).1.1.B0)with AV:=1 })) (a,c,A,C) (b.px [4,4,3,3,4]);exact cd () (by rw[Y9 u];exact(b.z [3,3] 3 1))
  exact gG 0 (cd () (by rw[Y3 (nB u)];exact(b.z [3,3,3] 3 1)))
 rintro _ w b;refine gE 2 (Xi1 (Xi x.p.lo (Xo x.p.ps s.Z (AO x.args px)).2 (Xb x.args Ad) (Xb x.args X9)).1.1.url (Xi x.p.lo (Xo x.p.ps s.Z (AO x.args px)).2 (Xb x.args Ad) (Xb x.args X9)).1.1.dW (Xi x.p.lo (Xo x.p.ps s.Z (AO x.args px)).2 (Xb x.args Ad) (Xb x.args X9)).1.1.B0 (Yq CG.1 de) CG.2.1 CG.2.2 e.kz.kn) ?_;intro w b;refine gG 6 ?_;intro w b;have K:Dg (Xt x.p G) x.args px g s={ s with Z:=(if g=true then MZ (Xi x.p.lo (Xo x.p.ps s.Z (AO x.args px)).2 (Xb x.args Ad) (Xb x.args X9)).2 { (getD (Xi x.p.lo (Xo x.p.ps s.Z (AO x.args px)).2 (Xb x.args Ad) (Xb x.args X9)).2.l (Xi x.p.lo (Xo x.p.ps s.Z (AO x.args px)).2 (Xb x.args Ad) (Xb x.args X9)).1.1.B0)with AV:=1 } else(Xi x.p.lo (Xo x.p.ps s.Z (AO x.args px)).2 (Xb x.args Ad) (Xb x.args X9)).2),call:=(Zu (Xi x.p.lo (Xo x.p.ps s.Z (AO x.args px)).2 (Xb x.args Ad) (Xb x.args X9)).1.1.url (Xi x.p.lo (Xo x.p.ps s.Z (AO x.args px)).2 (Xb x.args Ad) (Xb x.args X9)).1.1.dW (Xi x.p.lo (Xo x.p.ps s.Z (AO x.args px)).2 (Xb x.args Ad) (Xb x.args X9)).1.1.B0).1 }:=by
  unfold Dg Xt;dsimp only
  rw[Y3 L];exact Y3 (oh y)
 rw[K];exact⟨O,H,i,k,n,⟨t.1,t.2.mono n⟩,b.s⟩
theorem Xq0(d:Qc)(x:Lp)(s:Bj)(a:Oa)(b:Nat)(i:A6 s.Z)(h:BN I x)(c:FV I a b s.Al)(N:La)(f:Aa B w I (BG x s a b::AN x.p s.Z::N)):Cz 94 [ptr x.tp 0] w λv w'=>v=.tuple #[]/\∃J a b,Le I J/\FV J a b (Dg (Xt x.p d) x.args false false s).Al/\Aa B w' J (BG x (Dg (Xt x.p d) x.args false false s) a b::AN x.p (Dg (Xt x.p d) x.args false false s).Z::N):=by
 refine gF 1 (r9 d _ _ x s a b i h c) ?_;rintro _ w ⟨rfl,J,j,k,g,e,f⟩;exact gG 0 ⟨O,J,j,k,g,e,f⟩
theorem Xpz(d:Qc)(x:Lp)(s:Bj)(a:Oa)(b:Nat)(i:A6 s.Z)(h:BN I x)(c:FV I a b s.Al)(N:La)(f:Aa B w I (BG x s a b::AN x.p s.Z::N)):Cz 95 [ptr x.tp 0] w λv w'=>v=.tuple #[]/\∃J a b,Le I J/\FV J a b (Dg (Xt x.p d) x.args true false s).Al/\Aa B w' J (BG x (Dg (Xt x.p d) x.args true false s) a b::AN x.p (Dg (Xt x.p d) x.args true false s).Z::N):=by
 refine gF 1 (r9 d _ _ x s a b i h c) ?_;rintro _ w ⟨rfl,J,j,k,g,e,f⟩;exact gG 0 ⟨O,J,j,k,g,e,f⟩
theorem Xdq(d:Qc)(x:Lp)(s:Bj)(a:Oa)(b:Nat)(i:A6 s.Z)(h:BN I x)(c:FV I a b s.Al)(N:La)(f:Aa B w I (BG x s a b::AN x.p s.Z::N)):Cz 96 [ptr x.tp 0] w λv w'=>v=.tuple #[]/\∃J a b,Le I J/\FV J a b (Dg (Xt x.p d) x.args false true s).Al/\Aa B w' J (BG x (Dg (Xt x.p d) x.args false true s) a b::AN x.p (Dg (Xt x.p d) x.args false true s).Z::N):=by
 refine gF 1 (r9 d _ _ x s a b i h c) ?_;rintro _ w ⟨rfl,J,j,k,g,e,f⟩;exact gG 0 ⟨O,J,j,k,g,e,f⟩
theorem Xdp(d:Qc)(x:Lp)(s:Bj)(a:Oa)(b:Nat)(i:A6 s.Z)(h:BN I x)(c:FV I a b s.Al)(N:La)(f:Aa B w I (BG x s a b::AN x.p s.Z::N)):Cz 97 [ptr x.tp 0] w λv w'=>v=.tuple #[]/\∃J a b,Le I J/\FV J a b (Dg (Xt x.p d) x.args true true s).Al/\Aa B w' J (BG x (Dg (Xt x.p d) x.args true true s) a b::AN x.p (Dg (Xt x.p d) x.args true true s).Z::N):=by
 refine gF 1 (r9 d _ _ x s a b i h c) ?_;rintro _ w ⟨rfl,J,j,k,g,e,f⟩;exact gG 0 ⟨O,J,j,k,g,e,f⟩
def M0(g:Cg)(k:Nat)(l:List Pq)(ck:List UInt8)(s:Bj):Bj:=match k with
 | 0=>DU g l ck s
 | 1=>Fp g l s
 | 2=>G6 g ck s
 | 3=>tR g l s
 | 4=>Dg g l false false s
 | 5=>Dg g l true false s
 | 6=>Dg g l false true s
 | 7=>Dg g l true true s
 | _=>tI g l s
def KA:List Nat:=[90,91,92,93,94,95,96,97,98]
def BO:List Lu:=[[71,69,84,32,47,108,111,103,105,110],[80,79,83,84,32,47,108,111,103,105,110],[71,69,84,32,47,108,111,103,111,117,116],[71,69,84,32,47,118,97,108,105,100,97,116,101],[71,69,84,32,47,115,101,114,118,105,99,101,86,97,108,105,100,97,116,101],[71,69,84,32,47,112,114,111,120,121,86,97,108,105,100,97,116,101],[71,69,84,32,47,112,51,47,115,101,114,118,105,99,101,86,97,108,105,100,97,116,101],[71,69,84,32,47,112,51,47,112,114,111,120,121,86,97,108,105,100,97,116,101],[71,69,84,32,47,112,114,111,120,121]]
theorem Vj(s:Bj)(n a:Lu):(FR s n a).q=s.q:=by unfold FR C9;split<;>rfl
theorem aO{g:Cg}{l:List Pq}{ck:Lu}{s:Bj}(d:k≠2):(M0 g k l ck s).q=s.q:=by
 have c:∀a b,(Dg g l a b s).q=s.q:=λa b=>by
  unfold Dg;dsimp only
  (repeat' split)
  all_goals rfl
 match k,d with
 | 0,_=>show(DU g l ck s).q=s.q;unfold DU C9;dsimp only;(repeat' split)<;>first|rfl|exact Vj _ _ _
 | 1,_=>show(Fp g l s).q=s.q;unfold Fp HC C9;dsimp only;(repeat' split)<;>first|rfl|exact Vj _ _ _
 | 3,_=>rfl
 | 4,_=>exact c _ _
 | 5,_=>exact c _ _
 | 6,_=>exact c _ _
 | 7,_=>exact c _ _
 | k+8,_=>rfl
theorem rW{Z:Wd}(h:A6 Z)(t:Lu):A6 (Kn Z t):=by
 unfold Kn;split
 ·exact Z0 h t
 ·exact h
theorem NF{s:Bj}(h:A6 s.Z)(n a:Lu):A6 (FR s n a).Z:=by unfold FR C9;split<;>exact G7 h _
theorem Mi{g:Cg}{l:List Pq}{sv:Lu}{s:Bj}(h:A6 s.Z):A6 (HC g l Ay sv s).Z:=by
 unfold HC C9;dsimp only
 repeat' split
 all_goals first|exact h|exact Xol h _ _ _
theorem lh{g:Cg}{l:List Pq}{ck:Lu}{s:Bj}(h:A6 s.Z):A6 (M0 g k l ck s).Z:=by
 have d:∀a b,A6 (Dg g l a b s).Z:=λa b=>by
  have c:=mw (ps:=g.ps) h (AO l a);have e:=Xuk (lo:=g.lo) c (Xb l Ad) (Xb l X9);unfold Dg;dsimp only;split
  ·exact c
  ·split
   ·exact e
   ·dsimp only;split
    ·exact ti e _
    ·exact e
 match k with
 | 0=>show A6 (DU g l ck s).Z;unfold DU C9;dsimp only;(repeat' split)<;>first|exact h|exact NF h _ _|exact Xol h _ _ _
 | 1 =>
  have c:=Xoz (us:=g.us) (ps:=g.ps) h (Xb l Hj) (Xb l Xr) (Xb l Xx);show A6 (Fp g l s).Z;unfold Fp C9;dsimp only;repeat' split
  all_goals first|exact h|exact c|exact NF c _ _|exact Mi c
 | 2=>show A6 (G6 g ck s).Z;unfold G6 C9;dsimp only;split<;>exact rW h ck
 | 3=>exact mw h _
 | 4=>exact d _ _
 | 5=>exact d _ _
 | 6=>exact d _ _
 | 7=>exact d _ _
 | k+8=>exact QO h _ _
def e_(x:Lp)(e:Qc)(F:Bj)(B:Wo)(I:Im)(N:La)(v:Va)(w':Wo):Prop :=
 v=.tuple #[]/\∃J a b c d,Le I J/\FV J a b F.Al/\CB J c d F.q/\Aa B w' J (BG x F a b::DZ x.qb e F.q c d::AN x.p F.Z::N)
theorem ft{x:Lp}{k:Qc}{F:Bj}{q:List Nt}{c:Oa}{d f:Nat}(j:F.q=q)(i:CB I c d q)
  (h:Calls prog f #[ptr x.tp 0] w (AY λv w'=>v=.tuple #[]/\∃J a b,Le I J/\FV J a b F.Al/\Aa B w' J (BG x F a b::AN x.p F.Z::DZ x.qb k q c d::N))):Calls prog f #[ptr x.tp 0] w (AY (e_ x k F B I N)) :=
 h.mono λe w' ⟨v,n,o,J,a,b,g,l,m⟩=>⟨v,n,o,J,a,b,c,d,g,l,by rw[j];exact⟨i.1,i.2.mono g⟩,by rw[j];exact m.x [2,1]⟩
theorem XG(c:Qc)(j:Oa)(l:Nat)(x:Lp)(s:Bj)(d:Oa)(e:Nat)(h:A6 s.Z)(n:FI s.q)(g:BN I x)(f:CB I j l s.q)(b:FV I d e s.Al)(N:La)(m:Aa B w I (BG x s d e::DZ x.qb c s.q j l::AN x.p s.Z::N))(k:Nat)(i:k<9):Calls prog (KA.getD k 0) #[ptr x.tp 0] w (AY (e_ x c (M0 (Xt x.p c) k x.args x.ck s) B I N)):=by
 have a:=(m.pick 2 O).pick 1 O
 match k,i with
 | 0,_=>exact ft (aO (k:=0) de) f (Xzw c x s d e h g _ a)
 | 1,_=>exact ft (aO (k:=1) de) f (Xtr c x s d e h g _ a)
 | 2,_=>exact Xq1 c j l x s d e h n.1 g f N m
 | 3,_=>exact ft (aO (k:=3) de) f (Xzx c x s d e h g _ a)
 | 4,_=>exact ft (aO (k:=4) de) f (Xq0 c x s d e h g b _ a)
 | 5,_=>exact ft (aO (k:=5) de) f (Xpz c x s d e h g b _ a)
 | 6,_=>exact ft (aO (k:=6) de) f (Xdq c x s d e h g b _ a)
 | 7,_=>exact ft (aO (k:=7) de) f (Xdp c x s d e h g b _ a)
 | 8,_=>exact ft (aO (k:=8) de) f (Xzv c x s d e h g _ a)
 | k+9,i=>exact Yz i om
def uN(p:Wp)(Z:Wd):Oa×Nat->La:=λ⟨a,c⟩=>[Ac p.wb (Ca p Z) 85,Ac p.tb [Ab Z.room,.slice a Z.l.length c] 156,An 126 10 (.slice a Z.l.length c) Z.l.length (B9 Z.l)]
abbrev qE(p:Wp)(Z:Wd):X1:=hB (uN p Z)
theorem OL(p:Wp)(Z:Wd):(Ca p Z).length=26:=rfl
abbrev FE(c b d a:Nat):X1:=Ac c [ptr b 0,ptr d 0,ptr a 0] 90
theorem wm(t:Qc)(u A h:Nat)(m:Oa)(n:Nat)(q:List Nt)(p:Wp)(Z:Wd)(E:A6 Z)(G:FI q)(D:CB I m n q)(N:La)(b:Aa B w I (FE u A p.wb h::AN p Z::DZ h t q m n::N)):Cz 42 [ptr u 0] w λv w'=>∃J tp z nb i d e,v=ptr tp 0/\Le I J/\CB J d e q/\Aa B w' J (BG ⟨tp,z,{ p with wb:=nb,tb:=i },none,0,[],[]⟩ ⟨Z,q,ep,[],false⟩ none 0::DZ z t q d e::AN { p with wb:=nb,tb:=i } Z::qE p Z::FE u A p.wb h::DZ h t q m n::N):=by
 refine gG 1 ?_;replace b:=b.px [1];obtain⟨a,c,H,K,b⟩:=El b;refine gH 5 ?_;refine .val (.DY (.of O) b (k:=0) O isAgg85 sizeOf85 O (λj v F=>by rw[Yk];exact F)) O ?_;refine gH 1 ?_;intro y w b;refine .so b (k:=0) O O O O sizeOf85 O sz ?_;intro w b;try dsimp only[List.set]at b
 refine gH 1 (.val (.lo O b (k:=0) O S0 O) O (gF 0 (Xqk _ Z.room a c Z.l (oh E.len)) ?_));rintro _ w ⟨i,L,M,rfl,b⟩;refine gH 1 (.s1 b (k:=4) O O O O O_ (by simp[OL]) ?_);intro w b;try dsimp only[List.set]at b
 refine gP 4 [9] (Rm h _ _ _ _ m n q (oh G.1) D.2 _) ?_;rintro _ w ⟨C,P,d,e,rfl,s,g,f,b⟩;have r:=Le.refl I;refine gG 3 ?_;intro o w b;replace b:=Aa.box (T:=uN p Z) (a,c) (b.px [6,6,8]);replace b:=Aa.box (T:=Bm { p with wb:=y,tb:=i } Z) (L,M,H,K) (b.px [8,8,7,7,8]);exact⟨C,o,P,y,i,d,e,O,r.trans s,⟨g,f⟩,(b.x [4,5,3,3,5,5])⟩
theorem Wc(r s:Nt)(w:Wo):(Op.equalIn 10000 128 (.agg (X8 r).toArray) (.agg (X8 s).toArray)).run prog w=.ok (decide (r=s)) w:=by
 have a:prog.underlying 128=some (.struct (prog.fieldsOf 128)):=by kernel_rfl
 have b:prog.stoodInHeld 128=false:=by kernel_rfl
 rw[show(10000:Nat)=9999+1 from O,run_equalIn_agg w 9999 128 _ _ a b];simp only[Program.fieldsOf,aF]
 obtain⟨t,u,k,n⟩:=r;obtain⟨t',e,c,d⟩:=s;unfold X8
 go_simp
 repeat' split
 all_goals simp_all
theorem Ex.yL{g:Option (Nat×Bool)}{x y:Operand}{r s:Nt}(hx:Ev n L x (.agg (X8 r).toArray))(a:Ev n L y (.agg (X8 s).toArray)):Ex prog n L w ⟨d,.binOp .eql 128 x y t',ty,pos,af,g⟩ (.bool (decide (r=s))) w :=
 CV hx a (λp q=>run_eqGuard_agg w _ _ _ _ _ _ kr) (by rw[run_eql_struct,Wc];rfl)
theorem Xsy(a:Oa)(c:Nat)(l:List Nt)(D:l.length<=100000)(n:Nt)(z:RS I a 4 l.length (X2 X8 l))(N:La)(b:Aa B w I N):Ce B I N 269 [.slice a l.length c,.agg (X8 n).toArray] w (Ab (Eu (λt=>decide (n=t)) l 0)):=by
 refine gG 5 ?_;intro v w b;refine .lk [0,3,7] (σ:=Nat) (λi _m=>(8,Ab (i:Nat))::_m) (λi w=>i<=l.length/\(∀(j:Nat) t,j<i->l[j]?=some t->decide (n=t)=false)/\Aa B w I (Ac v (X8 n) 128::N)) (λi=>l.length-i) 0 ⟨Y4 _,λ_ _ h=>Yz h om,b⟩ ?_;rintro i w ⟨hi,g,b⟩;refine gN 1 ?_ ?_<;>intro A
 ·refine gG 2 ?_;obtain⟨x,hx⟩:∃x,l[i]?=some x:=⟨_,Y2 om⟩
  obtain⟨q,rfl,o⟩:=Be (cells:=X8) (λ_=>rfl) z hx;refine gQ ?_;intro w b;refine A1.y 0 (λw _ _ d b=>(.DY (.of O) b (k:=0) O mI R_ O (λ_ _ h=>by rw[Yk];exact h))) ?_;refine gH 2 (A1.y 3 (λw _ _ d b=>(Ex.as (.ii O O om om FM R_) (by rw[Yd]))) ?_);refine A1.y 4 (λw _ _ d b=>(.B5 (.of O) b (o.mono d) mI R_ O (λ_ _ h=>h))) (A1.y 5 (λw _ _ d b=>Ex.yL (r:=n) (.of O) (.of O)) ?_);refine gM 0 ?_ ?_<;>intro f u
  ·exact gG 2 ⟨by rw[iG g hx f],b.s⟩
  refine gG 2 (rd (i+1) ⟨om,λj t C m=>?_,b⟩);rcases Yt j i with p|p
  ·exact g j t p m
  ·have e:j=i:=om
   subst e;rw[hx]at m;cases m;exact f
 exact gG 1 ⟨by rw[iF (λj t m=>g j t (oh ((Y1.1 m).1)) m)],b.s⟩
theorem Xhm(a:Oa)(c:Nat)(l:List Nt)(e:l.length<=100000)(n:Nt)(d:RS I a 4 l.length (X2 X8 l))(N:La)(b:Aa B w I N):Ce B I N 176 [.slice a l.length c,.agg (X8 n).toArray] w (.bool (l.contains n)):=by
 refine gH 4 ?_;intro f w b;refine gE 0 (Xsy a c l e n d) ?_;intro w b;refine gG 2 (⟨Yc Value.bool ?_,b.s⟩);rw[ZX (λt=>decide (n=t)) l 0,List.contains_eq_any_beq];rfl
theorem P8(r n:Nt)(a:Nat)(N:La)(b:Aa B w I (Ac a (X8 n) 128::N)):Ce B I (Ac a (X8 n) 128::N) 175 [.agg (X8 r).toArray,ptr a 0] w (.bool (r.ticket==n.ticket)):=by
 refine gG 8 ?_;intro c w b;exact⟨O,b.s⟩
theorem UG(a:Oa)(c:Nat)(l:List Nt)(f:l.length<=100000)(n:Nt)(e:RS I a 4 l.length (X2 X8 l))(N:La)(b:Aa B w I N):Ce B I N 173 [.slice a l.length c,.agg (X8 n).toArray] w (Ab (JB l n.ticket)):=by
 refine gH 4 ?_;intro d w b;refine gP 0 [] (u2 a c l om (λt=>t.ticket==n.ticket) 175 _ func175 O _ _ (λw h=>R3 (cells:=X8) (λ_=>rfl) h e) (λr g w h=>P8 r n d _ h)) ?_;rintro _ w ⟨rfl,b⟩;exact gG 1 ⟨O,b.s⟩
theorem xI{a b:List Nt}(c:a.length<=1000)(f:b.length<=1000)(i:Nat):(((a.take i).filter λn=>decide (JB b n.ticket<0)).map (λn=>(⟨CI++n.ticket,[],true⟩:Ch))).length<=1000/\(TX a b++((b.take i).filter λn=>!a.contains n).map (λn=>(⟨CI++n.ticket,(Ir n).1,false⟩:Ch))).length<=2000/\(TX a b++Q2 a b).length<=2000:=by
 have d:∀i,(((a.take i).filter λn=>decide (JB b n.ticket<0)).map (λn=>(⟨CI++n.ticket,[],true⟩:Ch))).length<=a.length:=λi=>by rw[Yj];exact Yq (EP ..) (by rw[Yl];omega)
 have g:(TX a b).length<=a.length:=by unfold TX;rw[Yj];exact EP ..
 have e:∀i,(((b.take i).filter λn=>!a.contains n).map λn=>(⟨CI++n.ticket,(Ir n).1,false⟩:Ch)).length<=b.length:=λi=>by rw[Yj];exact Yq (EP ..) (by rw[Yl];omega)
 have h:(Q2 a b).length<=b.length:=by unfold Q2;rw[Yj];exact EP ..
 refine⟨Yq (d i) c,?_,?_⟩
 ·have:=e i;rw[Y0];omega
 ·rw[Y0];omega
theorem Xrt(a lb:List Nt)(s t:Oa)(C D:Nat)(j:a.length<=1000)(k:lb.length<=1000)(u:∀n∈a,n.ticket.length<=1000000/\n.url.length<=1000000)(y:∀n∈lb,n.ticket.length<=1000000/\n.url.length<=1000000)(W:Kx I)(X:Bf I)(m:RS I s 4 a.length (X2 X8 a))(o:RS I t 4 lb.length (X2 X8 lb))(N:La)(b:Aa B w I N):Cz 105 [.slice s a.length C,.slice t lb.length D] w λv w'=>∃d,v=d/\Aa B w' I (An 257 3 d (Pp a lb).length (X2 DX (Pp a lb))::N):=by
 have e:=b.Ai 257 3;clear b;refine gG 6 (.lk [0,1,6,13,14] (σ:=Nat×Va) (λ(i,d) _m=>(5,d)::(15,Ab (i:Nat))::_m) (λ(i,d) w=>i<=a.length/\Aa B w I (An 257 3 d (((a.take i).filter λn=>decide (JB lb n.ticket<0)).map (λn=>(⟨CI++n.ticket,[],true⟩:Ch))).length (X2 DX (((a.take i).filter λn=>decide (JB lb n.ticket<0)).map (λn=>(⟨CI++n.ticket,[],true⟩:Ch))))::N)) (λ(i,d)=>a.length-i) (0,.slice none 0 0) ⟨Y4 _,e⟩ ?_);rintro⟨i,d⟩ w ⟨hi,b⟩;clear e;refine gM 1 ?_ ?_<;>intro E F
 ·obtain⟨x,hx⟩:∃x,a[i]?=some x:=⟨_,Y2 om⟩
  obtain⟨q,rfl,A⟩:=Be (cells:=X8) (λ_=>rfl) m hx;refine gH 7 ?_;intro Y w b;refine .Bv (cap:=[]) func173 O (.of O) (A3 O (A3 O X4)) O (UG t D lb om x o _ b) ?_;rintro _ w ⟨rfl,b⟩;refine gM 1 ?_ ?_<;>intro f G
  ·have h:=(xI j k i).1;have l:=u x (Y7 hx);refine gG 10 ?_;intro Q K S p w b;refine A_ (i+1,_) O ⟨om,?_⟩;rw[fg _ a i x hx,Y9 (su f),Yn,Yu,ED,KP,Y0];exact(b.z [1] 1 1)
  refine gG 2 (A_ (i+1,_) O ⟨om,?_⟩);rw[fg _ a i x hx,Y3 (su f),Yy];exact(b.z [1] 1 1)
 refine gG 3 ?_;rw[show a.take i=a from Yo om]at b;have V:TX a lb++((lb.take 0).filter λn=>!a.contains n).map (λn=>(⟨CI++n.ticket,(Ir n).1,false⟩:Ch))=TX a lb:=by simp
 have e:=b;clear b;refine .lk [0,1,32,33] (σ:=Nat×Va) (λ(i,d) _m=>(5,d)::(34,Ab (i:Nat))::_m) (λ(i,d) w=>i<=lb.length/\Aa B w I (An 257 3 d (TX a lb++((lb.take i).filter λn=>!a.contains n).map (λn=>(⟨CI++n.ticket,(Ir n).1,false⟩:Ch))).length (X2 DX (TX a lb++((lb.take i).filter λn=>!a.contains n).map (λn=>(⟨CI++n.ticket,(Ir n).1,false⟩:Ch))))::N)) (λ(i,d)=>lb.length-i) (0,d) ⟨Y4 _,by rw[V];exact e⟩ ?_;rintro⟨i,d⟩ w ⟨hi,b⟩;clear e;refine gN 1 ?_ ?_<;>intro H
 ·obtain⟨x,hx⟩:∃x,lb[i]?=some x:=⟨_,Y2 om⟩
  obtain⟨q,rfl,A⟩:=Be (cells:=X8) (λ_=>rfl) o hx;refine gH 6 ?_;intro P w b;refine gE 0 (Xhm s C a om x m) ?_;intro w b;refine gM 1 ?_ ?_<;>intro g J
  ·have l:=y x (Y7 hx);refine gE 1 (SF x l.1 l.2 W X) ?_;intro w b;have h:=(xI j k i).2.1;refine gG 14 ?_;intro R M T r w b;refine gG 2 ?_;have U:∀(L:List Ch) (c:Ch),(L++[c]).length=L.length+1:=λL c=>by simp
   refine A_ (i+1,_) O ⟨om,?_⟩;rw[fg _ lb i x hx,Y9 g,Yn,Yu,ED,<-Yg,KP,U];exact(b.z [1] 1 1)
  refine gG 2 (A_ (i+1,_) O ⟨om,?_⟩);rw[fg _ lb i x hx,Y3 (nB g),Yy];exact(b.z [1] 1 1)
 rw[show lb.take i=lb from Yo om]at b;have h:=(xI j k i).2.2;refine gC 1 (Xqb 178 Xrs (TX a lb++Q2 a lb) d 0 _ b O om) ?_;rintro _ w ⟨rfl,b⟩;exact gG 2 ⟨_,O,b⟩
structure Kp where
 sb:Nat
 lg:Nat
 db:Nat
 kb:Nat
 mv:Va
 us:Va
 sv:Va
 pl:Va
def nN(x:Kp)(s:St):Unit->La:=λ_=>[Ac x.sb [ptr x.lg 0,x.mv] 273,Ac x.lg [ptr x.db 0,Ab (s.log).gen,Ab (s.log).AL,Ab (s.log).used,x.us] 370,Ac x.db [.slice (some (ad x.kb 0)) (s.log).d.kept.length (s.log).d.kept.length,x.sv,x.pl,.bool (s.log).d.off,Ab (s.log).d.left] 94,Ac x.kb (X2 Ao (s.log).d.kept) 96,An 467 33 x.sv (s.log).d.Ae.length (X2 Ib (s.log).d.Ae),Cr x.mv (s.AE)]
abbrev EW(x:Kp)(s:St):X1:=hB (nN x s)
structure Ep(J:Im)(x:Kp)(s:St):Prop where
 st:HB s
 AH:Az J x.pl s.log.d.AH
 data:Bi J x.us s.log.data
 hv:A4 J
theorem Ep.mono{x:Kp}{s:St}(h:Ep I x s)(a:Le I J):Ep J x s:=⟨h.st,h.AH.mono a,h.data.mono a,h.hv.mono a⟩
theorem Xrw(x:Kp)(s:St)(l:List Ch)(a:Oa)(c0:Nat)(m:∀x∈l,x.key.length<=1000000/\x.val.length<=1000000)(k:l.length<=100000)(i:RS I a 3 l.length (X2 DX l))(b:Ep I x s)(j:s.AE.length<=900000)(N:La)(c:Aa B w I (EW x s::N)):Cz 106 [ptr x.sb 0,.slice a l.length c0] w λv w'=>∃J y,v=Ab ((Eh s l).1:Nat)/\Le I J/\y.sb=x.sb/\y.db=x.db/\Ep J y (Eh s l).2/\Aa B w' J (EW y (Eh s l).2::N):=by
 obtain⟨_,c⟩:=Aa.unbox c;exact(Xrx s x.sb x.lg x.db x.kb x.mv x.us x.sv x.pl l a c0 m k b.hv i b.st j b.AH b.data N c).mono λe w' ⟨v,q,J,d,h,g,f,r,n,o,p,c⟩ =>
  ⟨v,q,J,{ x with mv:=d,us:=h,sv:=g,pl:=f },r,n,O,O,⟨(Xy8 b.st l).1,o,p,b.hv.mono n⟩,Aa.box (T:=nN { x with mv:=d,us:=h,sv:=g,pl:=f } (Eh s l).2) () c⟩
theorem Xnr(x:Kp)(s:St)(a:Ep I x s)(g:s.AE.length<=900000)(N:La)(b:Aa B w I (EW x s::N)):Cz 132 [ptr x.sb 0] w λv w'=>∃J y,v=Ab ((Jd s).1:Nat)/\Le I J/\y.sb=x.sb/\y.db=x.db/\Ep J y (Jd s).2/\Aa B w' J (EW y (Jd s).2::N):=by
 obtain⟨_,b⟩:=Aa.unbox b;exact(Xns s x.sb x.lg x.db x.kb x.mv x.us x.sv x.pl a.hv a.st g a.AH a.data N b).mono λe w' ⟨v,k,J,f,d,c,l,h,i,j,b⟩ =>
  ⟨v,k,J,{ x with us:=f,sv:=d,pl:=c },l,h,O,O,⟨Xry a.st,i,j,a.hv.mono h⟩,Aa.box (T:=nN { x with us:=f,sv:=d,pl:=c } (Jd s).2) () b⟩
theorem cC(r:Ah):(PD r).1.length<=1000:=by
 unfold PD;split
 ·rename_i h
  have a:=lZ h;unfold C7 at h;simp only[Y8,dq1]at h
  simp only[FT,KT,H9,Yu,ED,Fx,ur,Y0,Y5,Yh,fq]
  omega
 ·exact Y4 _
theorem cB(n:Nt):(Ir n).1.length<=1000:=by
 by_cases h:(Ir n).2=0
 ·have b:=(bX h).2
  have:FO n=true:=by
   unfold Ir at h;split at h
   ·assumption
   ·cases h
  unfold FO at this;simp only[Y8,dq1]at this
  omega
 ·unfold Ir at h ⊢;split at h
  ·exact Yz O h
  ·rename_i a;rw[Y3 a];exact Y4 _
theorem bQ{c d:List Ah}{e f:List Nt}(j:∀r∈c,r.name.length<=1000000)(k:∀r∈d,r.name.length<=1000000)(g:∀n∈e,n.ticket.length<=900000)(i:∀n∈f,n.ticket.length<=900000):∀x∈PC c d++Pp e f,x.key.length<=1000000/\x.val.length<=1000000:=by
 intro x hx;rcases Ys.1 hx with hx|hx
 ·rcases Ys.1 ((v7 _).mem_iff.1 hx)with hx|hx
  ·obtain⟨r,a,rfl⟩:=Dt.1 hx;exact⟨j r (Iy.1 a).1,Y4 _⟩
  ·obtain⟨r,a,rfl⟩:=Dt.1 hx;exact⟨k r (Iy.1 a).1,Yq (cC r) de⟩
 ·have b:∀n:Nt,n.ticket.length<=900000->(CI++n.ticket).length<=1000000:=λn h=>by rw[Y0];have:CI.length=5:=rfl;omega
  rcases Ys.1 ((v7 _).mem_iff.1 hx)with hx|hx
  ·obtain⟨r,a,rfl⟩:=Dt.1 hx;exact⟨b r (g r (Iy.1 a).1),Y4 _⟩
  ·obtain⟨r,a,rfl⟩:=Dt.1 hx;exact⟨b r (i r (Iy.1 a).1),Yq (cB r) de⟩
theorem Xuq{la lb:List Ah}{qa qb:List Nt}(e:la.length<=64)(f:lb.length<=64)(g:qa.length<=64)(h:qb.length<=64):(PC la lb).length<=128/\(Pp qa qb).length<=128:=by
 unfold PC Pp;rw[oC,oC,Y0,Y0];unfold TY V9 TX Q2;simp only[Yj]
 have a:=EP (λx:Ah=>decide (BA lb x.name<0)) la;have b:=EP (λx:Ah=>!(get la x.name).isSome||!decide (getD la x.name=x)) lb;have c:=EP (λn:Nt=>decide (JB qb n.ticket<0)) qa;have d:=EP (λn:Nt=>!qa.contains n) qb;omega
theorem oi{p e:Wp}{Z Z2:Wd}(m:e={ p with wb:=e.wb,tb:=e.tb })(b:Aa B w I (qE p Z::AN e Z2::N)):Aa B w I (AN p { Z with D:=Z2.D }::N):=by
 obtain⟨⟨a,c⟩,b⟩:=Aa.unbox b;replace b:=b.pick 3 O;obtain⟨⟨h,i,f,g⟩,b⟩:=Aa.unbox b;have j:e.mb=p.mb:=by rw[m]
 replace b:Aa B w I (Ac e.wb (Ca e Z2) 85::Ba e.tb Z2.room h i Z2.l (Ac e.mb [.slice f Z2.D.length g] 161::Cp 73 (.slice f Z2.D.length g) (Z2.D.map λd=>Bo (d:Nat))::Ac p.wb (Ca p Z) 85::Ba p.tb Z.room a c Z.l N)):=b;rw[j]at b;replace b:=((b.drop (k:=0) O).drop (k:=0) O).drop (k:=0) O;exact Aa.box (T:=Bm p _) (a,c,f,g) (b.x [4,4,4])
theorem l8{q:List Nt}(h:FI q):∀n∈q,n.ticket.length<=900/\n.url.length<=1000000:=λn c=>by
 have:=h.2 n c
 unfold FO at this;simp only[Y8,dq1]at this
 have e:n.ticket.length<=23:=by
  have a:=this.1.1.1.1.1;unfold iX QN at a;cases b:Ey n.ticket with
  | none=>rw[b]at a;simp at a
  | some x=>exact(oo (k:=x.1) (d:=x.2) b).2.2.2.1
 exact⟨om,om⟩
theorem sV(qc:Qc)(V qb:Nat)(qa L:Oa)(qk M:Nat)(p:Wp)(Z:Wd)(q:List Nt)(k:St)(x:Kp)(y:Lp)(t:Bj)(W:Oa)(X:Nat)(hz:A6 Z)(G:A6 t.Z)(Y:FI q)(f:FI t.q)(ar:k.AE.length<=900000)(hy:y.p={ p with wb:=y.p.wb,tb:=y.p.tb })(hI:BK I p)(U:Kz I)(hQ:CB I qa qk q)(F:CB I L M t.q)(hK:Ep I x k)(N:La)(b:Aa B w I (FE V x.sb p.wb qb::qE p Z::DZ qb qc q qa qk::BG y t W X::DZ y.qb qc t.q L M::AN y.p t.Z::EW x k::N)):Cz 45 [ptr V 0,ptr y.tp 0] w λv w'=>∃J p9 af ae ah x9,v=Ab ((DC ⟨Z,q,k⟩ t).1:Nat)/\Le I J/\(∃wb tb,p9={ p with wb:=wb,tb:=tb })/\x9.sb=x.sb/\x9.db=x.db/\Ep J x9 (DC ⟨Z,q,k⟩ t).2.k/\CB J ae ah (DC ⟨Z,q,k⟩ t).2.q/\Aa B w' J (FE V x9.sb p9.wb af::AN p9 (DC ⟨Z,q,k⟩ t).2.Z::DZ af qc (DC ⟨Z,q,k⟩ t).2.q ae ah::EW x9 (DC ⟨Z,q,k⟩ t).2.k::BG y t W X::N):=by
 refine gM 5 ?_ ?_<;>intro u a8
 ·refine gG 1 ?_;have e9:DC ⟨Z,q,k⟩ t=(0,⟨{ Z with D:=t.Z.D },q,k⟩):=by
   unfold DC;exact Y9 (su u)
  rw[e9];replace b:=oi hy ((b.pick 5 O).pick 2 O);exact⟨I,p,qb,qa,qk,x,O,Le.refl _,⟨p.wb,p.tb,O⟩,O,O,hK,hQ,(b.z [3,5,4,3,4] 5 1)⟩
 refine gG 0 ?_;replace b:=b.px [5,2];obtain⟨⟨a0,c0⟩,b⟩:=Aa.unbox b;replace b:Aa B _ _ (Ac p.wb (Ca p Z) 85::Ba p.tb Z.room a0 c0 Z.l (AN y.p t.Z::_)):=b;replace b:=b.px [3];obtain⟨⟨a,c,ma,mc⟩,b⟩:=Aa.unbox b;replace b:Aa B _ _ (Ac y.p.wb (Ca y.p t.Z) 85::Ba y.p.tb t.Z.room a c t.Z.l (Ac y.p.mb [.slice ma t.Z.D.length mc] 161::Cp 73 (.slice ma t.Z.D.length mc) (t.Z.D.map λd=>Bo (d:Nat))::Ac p.wb (Ca p Z) 85::Ba p.tb Z.room a0 c0 Z.l _)):=b;have bh:=hz.len;have bg:=G.len;refine .dw (λw=>∃e R,Le I e/\Aa B w e (FE V x.sb p.wb qb::Ac p.wb (Ca p Z) 85::Ac y.tp [ptr y.p.wb 0,ptr y.qb 0,.slice y.ra y.args.length y.rc,S y.ck,Ab t.Al.status,.slice W t.Al.Af.length X,S t.Al.body,S t.call,.bool t.DH] 117::Ac y.p.wb (Ca y.p t.Z) 85::R)) (λj=>!([24,25,26].contains j)) ?_;replace b:=b.drew;generalize w.drew=w at b ⊢;have g:∃e R,Le I e/\Aa B w e (FE V x.sb p.wb qb::Ac p.wb (Ca p Z) 85::Ac y.tp [ptr y.p.wb 0,ptr y.qb 0,.slice y.ra y.args.length y.rc,S y.ck,Ab t.Al.status,.slice W t.Al.Af.length X,S t.Al.body,S t.call,.bool t.DH] 117::Ac y.p.wb (Ca y.p t.Z) 85::R):=⟨_,_,Le.refl _,(b.x [0,10,6,9])⟩
 refine .tp 0 O (λw=>(.mo O)) (.tp 1 O (λw=>(.no O)) ?_);refine .tp 2 O (λw=>(.fo 1 O Pe O O S5 O)) (.DL (i:=3) O kr kr kr kr g (λw ⟨e,R,s,b⟩=>(by exact(.lo O b (k:=0) O isAgg87 O))) O ?_);refine .tp 4 O (λw=>(.no O)) (.tp 5 O (λw=>(.fo 0 O E3 O O O_ O)) (.DL (i:=6) O kr kr kr kr g (λw ⟨e,R,s,b⟩=>(by exact(.lo O b (k:=1) O S0 O))) O ?_));refine .tp 7 O (λw=>(.mo O)) (.tp 8 O (λw=>(.no O)) ?_);refine .tp 9 O (λw=>(.fo 0 O Zl O O S5 O)) (.DL (i:=10) O kr kr kr kr g (λw ⟨e,R,s,b⟩=>(by exact(.lo O b (k:=2) O isAgg87 O))) O ?_);refine .tp 11 O (λw=>(.no O)) (.tp 12 O (λw=>(.fo 0 O E3 O O O_ O)) (.DL (i:=13) O kr kr kr kr g (λw ⟨e,R,s,b⟩=>(by exact(.lo O b (k:=3) O S0 O))) O ?_));refine .tp 15 O (λw=>(.mo O)) (.tp 16 O (λw=>(.no O)) ?_);refine .tp 17 O (λw=>(.fo 2 O Pe O O S6 O)) (.DL (i:=18) O kr kr kr kr g (λw ⟨e,R,s,b⟩=>(by exact(.lo O b (k:=0) O isAgg88 O))) O ?_);refine .tp 20 O (λw=>(.mo O)) (.tp 21 O (λw=>(.no O)) ?_);refine .tp 22 O (λw=>(.fo 1 O Zl O O S6 O)) (.DL (i:=23) O kr kr kr kr g (λw ⟨e,R,s,b⟩=>(by exact(.lo O b (k:=2) O isAgg88 O))) O ?_);refine .b1 14 O (.call func104 O (A3 O (A3 O X4)) O (Qm p.tb y.p.tb Z.room t.Z.room a0 a c0 c Z.l t.Z.l hz.wf G.wf om om hI.known hI.pre _ (b.x [2,2,7,7])) ?_);rintro _ w ⟨kv,rfl,b⟩;refine .nil ?_;clear g;have g:∃e R,Le I e/\Aa B w e (FE V x.sb p.wb qb::Ac p.wb (Ca p Z) 85::Ac y.tp [ptr y.p.wb 0,ptr y.qb 0,.slice y.ra y.args.length y.rc,S y.ck,Ab t.Al.status,.slice W t.Al.Af.length X,S t.Al.body,S t.call,.bool t.DH] 117::Ac y.p.wb (Ca y.p t.Z) 85::R):=⟨_,_,Le.refl _,(b.x [5,11,9,10])⟩
 refine⟨λ_ _=>g,?_⟩;refine .b1 19 O (.call func27 O (A3 O X4) O (wc qb _ _ _ _ qa qk q Y.1 hQ.2 hQ.1 _ (b.x [10])) ?_);rintro _ w ⟨J1,na,nc,rfl,m,bf,an,b⟩;refine .nil ?_;clear g;have g:∃e R,Le I e/\Aa B w e (FE V x.sb p.wb qb::Ac p.wb (Ca p Z) 85::Ac y.tp [ptr y.p.wb 0,ptr y.qb 0,.slice y.ra y.args.length y.rc,S y.ck,Ab t.Al.status,.slice W t.Al.Af.length X,S t.Al.body,S t.call,.bool t.DH] 117::Ac y.p.wb (Ca y.p t.Z) 85::R):=⟨_,_,m,(b.x [6,11,10,11])⟩
 refine⟨λ_ _=>g,?_⟩;refine .b1 24 O (.call func27 O (A3 O X4) O (wc y.qb _ _ _ _ L M t.q f.1 (F.2.mono m) F.1 _ (b.x [12])) ?_);rintro _ w ⟨J2,a1,a2,rfl,C,ba,ap,b⟩;refine .nil ?_;refine And.intro (by intro h;cases h) ?_;refine .b1 25 O (.call func105 O (A3 O (A3 O X4)) O (Xrt q t.q na a1 nc a2 (oh Y.1) (oh f.1) (λn H=>⟨Yq (l8 Y n H).1 de,(l8 Y n H).2⟩) (λn H=>⟨Yq (l8 f n H).1 de,(l8 f n H).2⟩) (U.kx.mono (m.trans C)) (U.pre.mono (m.trans C)) (an.mono C) ap _ b) ?_);rintro _ w ⟨kw,rfl,b⟩;refine .nil ?_;refine And.intro (by intro h;cases h) ?_;refine .b1 26 O ?_;obtain⟨da,dc,rfl,bd,_⟩:=b.vS 0;have Q:=b.fV 0;clear b;obtain⟨J3,al,aq,b⟩:=Q;try dsimp only[List.eraseIdx]at b
 have be:=Xuq (la:=Z.l) (lb:=t.Z.l) (qa:=q) (qb:=t.q) hz.len G.len Y.1 f.1;refine .Bz (bytes:=40) b (.of O) (.of O) aq (k:=2) O Mw (i:=t257) kr O O O O (fk (λr=>rfl) _) ⟨om,by unfold maxLen;omega⟩ O ?_;intro bk w b;try dsimp only[List.set]at b
 refine .nil ?_;refine And.intro (by intro h;cases h) ?_;refine .tp 27 O (λw=>(.ao O)) (.dn ?_);obtain⟨ay,az,rfl,a9,_⟩:=b.vS 2;have Q:=b.fV 2;clear b;obtain⟨J4,am,P,b⟩:=Q;try dsimp only[List.eraseIdx]at b
 have o:Le I J4:=m.trans (C.trans (al.trans am));rw[<-iK]at P;have au:(PC Z.l t.Z.l).length+(Pp q t.q).length=(PC Z.l t.Z.l++Pp q t.q).length:=(Y0 ..).symm;rw[au]at P ⊢;refine gF 5 (Xrw x k _ ay az (bQ (λr hr=>(sL hz.wf r hr).1) (λr hr=>(sL G.wf r hr).1) (λn H=>Yq (l8 Y n H).1 de) (λn H=>Yq (l8 f n H).1 de)) om P (hK.mono o) ar) ?_;rintro _ w ⟨J5,x5,rfl,E,K,ad,ab,b⟩;refine gN 3 ?_ ?_<;>intro A
 ·refine gD [12] [12,15] [0,1,2,3,4,5,6,7,8,9,10,11,12,13,14,15] ?_;intro w b;refine gH 13 ?_;intro w b;refine gH 3 ?_;intro w b;refine gH 2 (.nil (.ret ?_));refine λ_ aw=>GD aw O ?_
  have e9:DC ⟨Z,q,k⟩ t=(0,⟨t.Z,t.q,(Eh k (PC Z.l t.Z.l++Pp q t.q)).2⟩):=by
   unfold DC;dsimp only
   rw[Y3 (su u)];exact Y9 (oh A)
  rw[e9];replace b:=Aa.box (T:=uN p Z) (a0,c0) (b.px [4,4,10]);replace b:=Aa.box (T:=Bm y.p _) (a,c,ma,mc) (b.px [8,8,7,7,8]);exact⟨_,by have h9:=A;rw[h9];rfl,J5,y.p,y.qb,L,M,x5,O,o.trans E,⟨y.p.wb,y.p.tb,hy⟩,K,ad,ab,⟨F.1,F.2.mono (o.trans E)⟩,by rw[K];exact(((((((b.pick 6 O).pick 3 O).pick 4 O).pick 3 O).pick 6 O).drop (k:=5) O).drop (k:=5) O)⟩
 refine gG 2 ?_;have e9:DC ⟨Z,q,k⟩ t=((Eh k (PC Z.l t.Z.l++Pp q t.q)).1,⟨{ Z with D:=t.Z.D },q,(Eh k (PC Z.l t.Z.l++Pp q t.q)).2⟩):=by
  unfold DC;dsimp only
  rw[Y3 (su u)];exact Y3 (oh A)
 rw[e9];replace b:=Aa.box (T:=uN p Z) (a0,c0) (b.px [4,4,10]);replace b:=Aa.box (T:=Bm y.p _) (a,c,ma,mc) (b.px [8,8,7,7,8]);replace b:=oi hy (b.pick 1 O);try dsimp only[List.eraseIdx]at b
 exact⟨J5,p,qb,qa,qk,x5,O,o.trans E,⟨p.wb,p.tb,O⟩,K,ad,ab,⟨hQ.1,hQ.2.mono (o.trans E)⟩,by rw[K];exact(b.z [5,2,4,3,5] 5 1)⟩
theorem Nb:∀s:Lu,BW s=AK 38 s
 | []=>rfl
 | c::r=>by
  rw[BW,AK,Nb r]
theorem dU{x:Lu}{p:Pq}(h:KU x=some p):p.1.length<=x.length/\p.2.length<=x.length:=by
 unfold KU at h;split at h
 ·cases h
 ·rename_i n d
  split at h
  ·cases h
  ·rename_i v e
   cases h
   have b:=Ul.Nw true _ _ d;have c:=Ul.Nw true _ _ e;have a:=TI 61 x;exact⟨Yq b a.1,Yq c a.2⟩
theorem vQ{n:Nat}:∀(l:List Lu) (a:List Pq),(∀x∈l,x.length<=n)->(∀p∈a,p.1.length<=n/\p.2.length<=n)->∀p∈(Ji l a).1,p.1.length<=n/\p.2.length<=n
 | [],a,_,h=>h
 | x::r,a,c,h=>by
  rw[Ji];split
  ·exact vQ r a (λy d=>c y (by simp[d])) h
  ·split
   ·intro p b;simp at b
   ·cases hx:KU x with
    | none=>intro p b;simp at b
    | some q =>
     refine vQ r _ (λy d=>c y (by simp[d])) λp b=>?_
     rcases Ys.1 b with b|b
     ·exact h p b
     ·simp only[Yp,E6,or_false]at b
      subst b;have e:=dU hx;have f:=c x sz;omega
theorem Xod(s:Lu):∀p∈(KY s).1,p.1.length<=s.length/\p.2.length<=s.length:=vQ _ _ (λx hx=>by rw[Nb]at hx;exact mr 38 s x hx) (λp a=>by simp at a)
theorem PW{m t b:Lu}(e:t.length<=n)(d:b.length<=n):∀p∈(BH m t b).1,p.1.length<=n/\p.2.length<=n:=by
 have c:∀p∈(KY (C_ 63 t).2.1).1,p.1.length<=n/\p.2.length<=n:=λp a=>by
  have:=Xod _ p a
  have:=(TI 63 t).2
  omega
 unfold BH;split
 ·exact c
 ·split
  ·intro p a;simp at a
  ·split
   ·intro p a;simp at a
   ·intro p a;rcases Ys.1 a with a|a
    ·exact c p a
    ·have:=Xod _ p a;omega
theorem vZ{n:Nat}:∀(l:List Lu) (a:List Pq),(∀x∈l,x.length<=n)->(∀p∈a,p.2.length<=n)->∀p∈(EN l a).1,p.2.length<=n
 | [],a,_,h=>h
 | x::r,a,c,h=>by
  rw[EN];split
  ·exact vZ r a (λy d=>c y (by simp[d])) h
  ·split
   ·intro p b;simp at b
   ·split
    ·intro p b;simp at b
    ·refine vZ r _ (λy d=>c y (by simp[d])) λp b=>?_
     rcases Ys.1 b with b|b
     ·exact h p b
     ·simp only[Yp,E6,or_false]at b
      subst b;have e:=(TI 61 (Go.Lib.trimB x 32)).2;have f:=xz x 32;have g:=c x sz;dsimp only;omega
theorem kJ{b:List Pq}(h:∀h∈b,h.2.length<=n):(Dh b).1.length<=n:=by
 have c:=(tH mx b h).1;exact ku G0 _ λp a=>vZ _ _ (λx hx=>Yq (mr 59 _ x hx) c) (λp a=>by simp at a) p a
structure eZ(r:I_):Prop where
 Ax:r.Ax.length<=4096
 target:r.target.length<=4096
 body:r.body.length<=4096
 Af:r.Af.length<=32/\∀h∈r.Af,h.1.length<=4096/\h.2.length<=4096
theorem Vd(l:Lu):(Et l).1.length<=l.length/\(Et l).2.1.length<=l.length:=by
 unfold Et
 repeat' split
 all_goals first|exact⟨Y4 _,Y4 _⟩|exact⟨mC l 0,mC l 1⟩
theorem wK(s:Lu):eZ (X0 s).1:=by
 have c:eZ I_.none:=⟨Y4 _,Y4 _,Y4 _,Y4 _,λh b=>by simp[I_.none]at b⟩
 unfold X0;split
 ·exact c
 ·rename_i f
  have d:=Y_ s;have e:=Vd (X3 s).1;have a:=xf (n:=4096) ((X3 s).2.2.length+1) (X3 s).2.2 [] om de (λh b=>by simp at b)
  repeat' split
  all_goals first|exact c|exact⟨by dsimp only;omega,by dsimp only;omega,a.2.2,a.1,a.2.1⟩
theorem Xj6(m t a:Lu)(d:Oa)(n e:Nat)(f:t.length<=1000000)(c:Kz I)(N:La)(b:Aa B w I N):Ce B I N 41 [.agg #[S m,S t,.slice d n e,S a]] w (S (C_ 63 t).1):=by
 refine gH 4 ?_;intro b1 w b;refine gE 0 (sn t 63 om c) ?_;intro w b;exact gG 9 ⟨O,b.s⟩
abbrev Jw(f:Nat):Va:=.func (.func f) #[] #[]
def Df:List (Lu×Va):=[([71,69,84,32,47,108,111,103,105,110],Jw 90),([80,79,83,84,32,47,108,111,103,105,110],Jw 91),([71,69,84,32,47,108,111,103,111,117,116],Jw 92),([71,69,84,32,47,118,97,108,105,100,97,116,101],Jw 93),([71,69,84,32,47,115,101,114,118,105,99,101,86,97,108,105,100,97,116,101],Jw 94),([71,69,84,32,47,112,114,111,120,121,86,97,108,105,100,97,116,101],Jw 95),([71,69,84,32,47,112,51,47,115,101,114,118,105,99,101,86,97,108,105,100,97,116,101],Jw 96),([71,69,84,32,47,112,51,47,112,114,111,120,121,86,97,108,105,100,97,116,101],Jw 97),([71,69,84,32,47,112,114,111,120,121],Jw 98)]
def CP(key:Lu):Nat:=BO.idxOf key
theorem Xvu(key:Lu):∀(ps:List Lu) (fs:List Nat),ps.length=fs.length->((ps.zip fs).map λp=>(p.1,Jw p.2)).lookup key=if ps.idxOf key<ps.length then some (Jw (fs.getD (ps.idxOf key) 0))else none
 | [],[],_=>rfl
 | p::ps,f::fs,h=>by
  have g:=Xvu key ps fs (su h);simp only[List.zip_cons_cons,Yu,List.lookup_cons,List.idxOf_cons,Y5]
  by_cases a:key=p
  ·subst a;simp
  ·have c:(key==p)=false:=su a
   have d:(p==key)=false:=by simpa using λe=>a e.symm
   rw[c,d];simp only[g,cond_false]
   by_cases b:ps.idxOf key<ps.length
   ·rw[Y9 b,Y9 om];simp
   ·rw[Y3 b,Y3 om]
theorem Xj3(key:Lu):(Df.lookup key).getD .nilFunc=if CP key<9 then Jw (KA.getD (CP key) 0)else .nilFunc:=by
 have h:=Xvu key BO KA O;rw[show((BO.zip KA).map λp=>(p.1,Jw p.2))=Df from O]at h;rw[h];show Option.getD (if CP key<9 then some (Jw (KA.getD (CP key) 0))else none) _=_
 split<;>rfl
theorem Ex.qd{t:TypeId}{g:Option (Nat×Bool)}{x y:Operand}{b:Bool}{a1 a2 a3}(c:(v=.nilFunc/\b=true)\/∃f,v=Jw f/\b=false)(hx:Ev n L x v)(e:Ev n L y .nilFunc)(i:prog.underlying t=some (.func a1 a2 a3)):Ex prog n L w ⟨d,.binOp .eql t x y t',ty,pos,af,g⟩ (.bool b) w:=by
 have h:∀D,(Op.equalIn (D+1) t v .nilFunc).run prog w=.ok b w:=λD=>by
  rcases c with⟨rfl,rfl⟩|⟨f,rfl,rfl⟩<;>simp[Op.equalIn,run_underlying i]
 have a:(Op.equal t v .nilFunc).run prog w=.ok b w:=h 9999;rcases c with⟨rfl,rfl⟩|⟨f,rfl,rfl⟩
 ·exact CV hx e (λp q=>by unfold eqGuard;split<;>simp) (by simp only[binOp];simp[a])
 ·exact CV hx e (λp q=>by unfold eqGuard;split<;>simp) (by simp only[binOp];simp[a])
theorem OB{u:U}(a:u.ZE.length<=100)(b:u.host.length<=100)(c:u.port<=65535):(GZ u).length<=300+u.path.length+u.query.length:=by
 have d:=iR u.port om;unfold GZ iW;split<;>split<;>simp only[Y0,Y5,Yh]<;>omega
theorem Xw8(s:Lu):(pU s).1.ZE.length<=100/\(pU s).1.host.length<=100/\(pU s).1.port<=65535:=by
 have d:U0.ZE.length<=100/\U0.host.length<=100/\U0.port<=65535:=de
 have j:∀a b c r,a.length<=100->b.length<=100->c<=65535->(Kk a b c r).1.ZE.length<=100/\(Kk a b c r).1.host.length<=100/\(Kk a b c r).1.port<=65535:=λa b c r e f k=>by
  unfold Kk
  repeat' split
  all_goals first|exact d|exact⟨e,f,k⟩
 unfold pU;split
 ·exact d
 ·split
  ·exact d
  ·rename_i a r g
   have e:a.length<=100:=by
    unfold iO at g
    (repeat' split at g)<;>cases g<;>decide
   split
   ·rename_i h
    have f:(TP r).length<=100:=by unfold fA at h;simp at h;omega
    unfold iQ;split
    ·split
     ·rename_i i
      refine j _ _ _ _ e f ?_;unfold Gf at i;simp only[Y8,dq1]at i
      unfold PG;split<;>omega
     ·exact d
    ·exact j _ _ _ _ e f (Y4 _)
   ·exact d
theorem Ux{n st:Lu}(h:n.length<=5000)(i:st.length<=5000):(GZ (MX (pU n).1 Ad st)).length<=100000:=by
 have a:=Xw8 n;have c:=Wt n;have d:=oF (pU n).1.query Ad st;have b:Ad.length=6:=rfl;have e:=OB (u:=MX (pU n).1 Ad st) a.1 a.2.1 a.2.2;have f:(MX (pU n).1 Ad st).path.length=(pU n).1.path.length:=rfl;have g:(MX (pU n).1 Ad st).query.length=(GH (pU n).1.query Ad st).length:=rfl;omega
def Ei(r:Co):Prop:=∀h∈r.Af,h.1.length<=1000000/\h.2.length<=1000000
theorem MJ{n:Int}{k b:Lu}(c:k.length<=1000):Ei (MU n k b):=λh a=>by
 simp only[MU,Yp,E6,or_false]at a
 subst a;exact⟨Yx O,by dsimp only;omega⟩
theorem Xoe{u:Lu}{cs:List Lu}(e:u.length<=1000000)(d:∀c∈cs,c.length<=1000000):Ei (MO u cs):=λh b=>by
 simp only[MO,Yp,Dt]at b
 rcases b with rfl|⟨c,a,rfl⟩
 ·exact⟨by show IE.length<=_;decide,e⟩
 ·exact⟨by show Pj.length<=_;decide,d c a⟩
theorem W_(v:Lu)(a:Int)(b:v.length<=5000):(Zs v a).length<=1000000:=by
 unfold Zs Ry;split
 ·rename_i h
  exact Xii _ (by show G0.length<=_;decide) (by show v.length<=_;omega) (by show([47]:Lu).length<=_;decide) (Xgf h)
 ·exact Y4 _
theorem Xx9{r:Co}(h:Ei r){c:Lu}(d:c.length<=1000000):Ei (Zw r c):=λb a=>by
 rcases Ys.1 a with a|a
 ·exact h b a
 ·simp only[Yp,E6,or_false]at a
  subst a;exact⟨by show Pj.length<=_;decide,d⟩
theorem xg(a:List Nd):Ei (JA a):=MJ de
theorem Nn(n:Nd):Ei (Jt n):=MJ de
theorem vF(x:Sx)(e:Nat)(b:Bool):Ei (Pv x e b):=by unfold Pv;split<;>exact Nn _
theorem QB(a b c:Lu):Ei (jn a b c):=by unfold jn;split<;>exact xg _
theorem Xzh(a:Lu)(b:Bool):Ei (mD a b):=by unfold mD;split<;>exact MJ de
theorem Xzj(a:Lu)(e:Int):Ei (mE a e):=by unfold mE;split<;>exact Nn _
theorem Xuh{n st:Lu}{cs:List Lu}(b:n.length<=5000)(d:st.length<=5000)(a:∀c∈cs,c.length<=1000000):Ei (mY n st cs):=Xoe (Yq (Ux b d) de) a
theorem oI(s:Bj):Ei (C9 s).Al:=MJ de
theorem Xv9(s:Bj)(n a:Lu):Ei (FR s n a).Al:=by
 unfold FR;split
 ·exact oI _
 ·exact QB _ _ _
theorem Xu3{g:Cg}{l:List Pq}{sv:Lu}{s:Bj}(b:Ay.length<=5000):Ei (HC g l Ay sv s).Al:=by
 have a:=W_ Ay (-1) b;unfold HC;dsimp only
 split
 ·exact Xx9 (xg _) a
 ·split
  ·exact oI _
  ·exact Xuh BE.2 BE.1 (λc h=>by simp at h;subst h;exact a)
theorem Ov{g:Cg}{l:List Pq}{ck:Lu}{s:Bj}(e:Ei s.Al):Ei (M0 g k l ck s).Al:=by
 have d:∀a b,Ei (Dg g l a b s).Al:=λa b=>by
  unfold Dg;dsimp only;split
  ·exact vF _ _ _
  ·split
   ·exact vF _ _ _
   ·exact e
 match k with
 | 0 =>
  have f:=sy g.lo (Xb l Xd);show Ei (DU g l ck s).Al
  unfold DU;dsimp only
  (repeat' split)
  all_goals first|exact e|exact oI _|exact Xv9 _ _ _|exact MJ de|exact Xoe om (λc h=>by simp at h)|exact Xuh BE.2 BE.1 (λc h=>by simp at h)
 | 1 =>
  show Ei (Fp g l s).Al
  unfold Fp;dsimp only
  (repeat' split)
  all_goals first|exact MJ de|exact Xv9 _ _ _|exact Xu3 (Xip _ _ _ _ _ _)
 | 2 =>
  show Ei (G6 g ck s).Al
  unfold G6;dsimp only;split
  ·exact oI _
  ·exact Xx9 (xg _) (W_ [] 0 de)
 | 3=>exact Xzh _ _
 | 4=>exact d _ _
 | 5=>exact d _ _
 | 6=>exact d _ _
 | 7=>exact d _ _
 | k+8=>exact Xzj _ _
theorem ou(r:Co)(c:Oa)(d:Nat)(f:Kz I)(b:r.Af.length<=d)(e:RS I c 2 r.Af.length (X2 X5 r.Af))(g:Ei r)(N:La)(a:Aa B w I N):Ce B I N 35 [.agg #[Ab r.status,.slice c r.Af.length d,S r.body]] w (S (Dq r)):=by
 refine gH 3 ?_;intro b1 w a;refine gE 0 (Xzm r c d f b e g) ?_;intro w a;exact gG 7 ⟨O,a.s⟩
theorem rP(n:Int)(e:Kz I)(N:La)(a:Aa B w I N):Ce B I N 34 [Ab n] w (.agg #[S (Dq (Xq n)),S []]):=by
 refine gH 2 ?_;intro h w a;refine gF 0 (lT n) ?_;rintro _ w ⟨J,f,g,rfl,d,c,b,a⟩;refine gE 0 (ou _ f g (e.mono d) c b (MJ de)) ?_;intro w a;refine gH 2 ?_;intro w a;exact gG 0 ⟨O,a.s.weaken d⟩
theorem Xzs(N:La)(a:Aa B w I N):Cz 40 [] w λv w'=>∃b,v=.map (some b)/\Aa B w' I (K3 S b Df::N):=by
 refine gG 1 (.mkMap S a O ?_);intro b1 w a;refine .B6 (key:=BO.getD 0 []) CJ a (k:=0) O (.of O) (.of O) (.of O) O TV A8 ?_;intro w a;refine .B6 (key:=BO.getD 1 []) CJ a (k:=0) O (.of O) (.of O) (.of O) O TV A8 ?_;intro w a;refine .B6 (key:=BO.getD 2 []) CJ a (k:=0) O (.of O) (.of O) (.of O) O TV A8 ?_;intro w a;refine .B6 (key:=BO.getD 3 []) CJ a (k:=0) O (.of O) (.of O) (.of O) O TV A8 ?_;intro w a;refine .B6 (key:=BO.getD 4 []) CJ a (k:=0) O (.of O) (.of O) (.of O) O TV A8 ?_;intro w a;refine .B6 (key:=BO.getD 5 []) CJ a (k:=0) O (.of O) (.of O) (.of O) O TV A8 ?_;intro w a;refine .B6 (key:=BO.getD 6 []) CJ a (k:=0) O (.of O) (.of O) (.of O) O TV A8 ?_;intro w a;refine .B6 (key:=BO.getD 7 []) CJ a (k:=0) O (.of O) (.of O) (.of O) O TV A8 ?_;intro w a;refine .B6 (key:=BO.getD 8 []) CJ a (k:=0) O (.of O) (.of O) (.of O) O TV A8 ?_;intro w a;exact gG 2 ⟨b1,O,a⟩
section
variable {P:Program} {n:Nat} {fn:Func} {R:Ending->Wo->Prop} {L:AB} {B w:Wo} {I:Im} {N:La} {k:Nat}
theorem gX{t r q s:Nat}{x y z:Va}(h:fn.results=#[.cell t ty,.tmp u,.tmp r,.tmp q])(m:Aa B w I N)(C:N[k]?=some (Ac b cs E))(G:∀w,(Go.isAgg ty).run P w=.ok true w)(F:∀w,(Go.sizeOf ty).run P w=.ok s w)(D:cs.length=s)
  (H:Gk.look L t=some (ptr b 0)) (hx:Gk.look L u=some x) (J:Gk.look L r=some y) (K:Gk.look L q=some z) (l:R (.returned (.tuple #[.agg cs.toArray,x,y,z])) w) (p:dl L=[]:=by rfl):MN P n fn R .ret L w:=⟨p,λa d=>by
 have o:=m.block C;have c:=run_loadCells_list (P:=P) w (ad b 0) cs (λj v A=>by rw[CY];exact Xz o (su A));rw[D]at c;have e:=d.get t _ H;have f:=d.get u x hx;have g:=d.get r y J;have i:=d.get q z K;simp only[GF]at e f g i
 exact⟨_,by simp[results,h,e,f,g,i,loadVar,G,F];simp[asAddr,c],l⟩⟩
end
def E7(b:Lu):Bool:=((((X0 b).2:Nat):Int)!=0||(((BH (X0 b).1.Ax (X0 b).1.target (X0 b).1.body).2:Nat):Int)!=0)||(((Dh (X0 b).1.Af).2:Nat):Int)!=0
theorem Xpj(b:Lu)(F:b.length<=1000000)(N:La)(d:Aa B w I N):Cz 11 [S b] w λv w'=>∃J j K l a n c ck,v=.tuple #[.agg #[S (X0 b).1.Ax,S (X0 b).1.target,.slice j K l,S (X0 b).1.body],.slice a n c,S ck,.bool (!E7 b)]/\Le I J/\Aa B w' J N:=by
 refine gH 5 ?_;clear d;intro T w d;refine gF 0 (Xli b F) ?_;clear d;rintro _ w ⟨L,j,l,rfl,m,H,q,d⟩;have s:=wK b;obtain⟨x,z,A,C,f⟩:=s;refine gH 7 ?_;clear d;intro U w d;refine gF 0 (Xtb _ _ _ j _ l om om) ?_;clear d;rintro _ w ⟨M,P,R,Q,rfl,g,d⟩;refine gE 6 (u7 _ _ _ j l _ _ om (λh r=>Yq (f h r).1 de) (q.mono g)) ?_;clear d;intro w d;refine gF 6 (Xth _ (Yq (tH mx _ (λh r=>(f h r).2)).1 de)) ?_;clear d;rintro _ w ⟨t,D,E,rfl,o,G,p,d⟩;refine gH 14 ?_;refine gM 1 ?_ ?_<;>intro e u
 ·refine gH 5 ?_;clear d;intro w d;refine .nil (.ret ?_);refine λ_ i=>gX i d (k:=1) O isAgg51 sizeOf51 O O O O O ?_
  rw[show(!E7 b)=false by rw[show E7 b=_ from e];rfl];exact⟨_,O,t,j,_,l,_,_,_,[],O,(m.trans g).trans o,(d.y 0 2)⟩
 refine gE 1 (Xte _ D E _ (Yq (r_ _ [] de) de) p) ?_;clear d;intro w d;refine gH 12 ?_;clear d;intro w d;refine .nil (.ret ?_);refine λ_ i=>gX i d (k:=1) O isAgg51 sizeOf51 O O O O O ?_
 rw[show(!E7 b)=true by rw[show E7 b=_ from e];rfl];exact⟨_,O,t,j,_,l,_,_,_,_,O,(m.trans g).trans o,(d.y 0 2)⟩
structure Sp where
 vb:Nat
 p:Wp
 qb:Nat
 qa:Oa
 qk:Nat
 k:Kp
def eH(g:Cg)(x:Sp)(s:BF):La:=[FE x.vb x.k.sb x.p.wb x.qb,AN x.p s.Z,DZ x.qb g.qc s.q x.qa x.qk,EW x.k s.k]
abbrev Hu(g:Cg)(x:Sp)(s:BF)(R:La):La:=FE x.vb x.k.sb x.p.wb x.qb::AN x.p s.Z::DZ x.qb g.qc s.q x.qa x.qk::EW x.k s.k::R
structure BB(J:Im)(g:Cg)(x:Sp)(s:BF):Prop where
 wp:BK J x.p
 cg:Xt x.p g.qc=g
 kz:Kz J
 fit:TT x.p.lo x.p.us
 kp:Ep J x.k s.k
 qu:CB J x.qa x.qk s.q
structure AZ(s:BF)(n:Nat):Prop where
 Z:A6 s.Z
 q:FI s.q
 AE:s.k.AE.length<=n
theorem BB.mono{g:Cg}{x:Sp}{s:BF}(h:BB I g x s)(a:Le I J):BB J g x s:=⟨h.wp.mono a,h.cg,h.kz.mono a,h.fit,h.kp.mono a,h.qu.1,h.qu.2.mono a⟩
theorem BK.cp{p:Wp}(h:BK J p)(wb tb:Nat):BK J { p with wb:=wb,tb:=tb }:=⟨h.uQ,h.tab,h.lo,h.rel,h.fit,h.gu,h.known,h.pre⟩
theorem BB.next{g:Cg}{x:Sp}{s s2:BF}(h:BB I g x s)(a:Le I J){c:Wp}(i:∃wb tb,c={ x.p with wb:=wb,tb:=tb }){l:Nat}{d:Oa}{e:Nat}{b:Kp}(f:Ep J b s2.k)(j:CB J d e s2.q):BB J g ⟨x.vb,c,l,d,e,b⟩ s2:=by
 obtain⟨wb,tb,rfl⟩:=i;exact⟨(h.wp.mono a).cp wb tb,h.cg,h.kz.mono a,h.fit,f,j⟩
def aK:Lu:=[71,69,84,32]
def CO(r:I_):Lu:=(C_ 63 r.target).1
def DV(g:Cg)(s:BF)(k:Nat)(l:List Pq)(ck:Lu):Bj :=
 let t:=M0 g k l ck (Di s)
 if(t.call==[]&&!Zh t.Al)=true then C9 t else t
def DA(g:Cg)(s:BF)(b:Lu):(Lu×Lu)×BF :=
 let r:=(X0 b).1
 let a:=BH r.Ax r.target r.body
 let j:=Dh r.Af
 if(X0 b).2≠0\/a.2≠0\/j.2≠0 then((Dq (Xq 400),[]),s)else
 if ¬ CP (aK++CO r)<9 then((Dq (Xq 404),[]),s)else
 if ¬ CP ((r.Ax++[32])++CO r)<9 then((Dq (Xq 405),[]),s)else
 let t:=DV g s (CP ((r.Ax++[32])++CO r)) a.1 j.1
 let e:=DC s t
 if e.1≠0 then((Dq (Xq 503),[]),e.2)else
 if t.call≠[]then(([],t.call),e.2)else((Dq t.Al,[]),e.2)
theorem ew{g:Cg}{l:List Pq}{ck:Lu}{s:Bj}(h:FI s.q):FI (M0 g k l ck s).q:=by
 by_cases a:k=2
 ·subst a;show FI (G6 g ck s).q
  unfold G6 C9;dsimp only;split<;>exact th h
 ·rw[aO a];exact h
theorem sT{g:Cg}{s:BF}(h:AZ s n)(k:Nat)(l:List Pq)(ck:Lu):A6 (DV g s k l ck).Z/\FI (DV g s k l ck).q/\Ei (DV g s k l ck).Al:=by
 have a:=lh (g:=g) (k:=k) (l:=l) (ck:=ck) (s:=Di s) h.Z;have b:=ew (g:=g) (k:=k) (l:=l) (ck:=ck) (s:=Di s) h.q;have c:=Ov (g:=g) (k:=k) (l:=l) (ck:=ck) (s:=Di s) (λh d=>by simp[Di,ep]at d);unfold DV;dsimp only
 split
 ·exact⟨a,b,oI _⟩
 ·exact⟨a,b,c⟩
theorem Xy9(s:St)(l:List Ch):(Eh s l).2.AE.length<=s.AE.length+l.length:=by
 by_cases a:(Ds l []).2≠0\/l=[]
 ·have:Eh s l=((Ds l []).2,s):=by unfold Eh;exact Y9 a
  rw[this];exact K7 _ _
 ·rw[rM a];split
  ·exact wG _ _
  ·exact K7 _ _
theorem sU{s:BF}{t:Bj}(h:AZ s n)(h1:A6 t.Z)(a:FI t.q):AZ (DC s t).2 (n+256):=by
 have b:A6 { s.Z with D:=t.Z.D }:=⟨h.Z.len,h.Z.wf,h1.D,h.Z.now,h.Z.room⟩
 have e:=Xuq (la:=s.Z.l) (lb:=t.Z.l) (qa:=s.q) (qb:=t.q) h.Z.len h1.len h.q.1 a.1;have c:(Eh s.k (PC s.Z.l t.Z.l++Pp s.q t.q)).2.AE.length<=n+256:=by
  have d:=Xy9 s.k (PC s.Z.l t.Z.l++Pp s.q t.q);rw[Y0]at d
  have:=h.AE
  omega
 unfold DC;dsimp only
 split
 ·exact⟨b,h.q,Yq h.AE (K7 _ _)⟩
 ·split
  ·exact⟨h1,a,c⟩
  ·exact⟨b,h.q,c⟩
theorem Ll{g:Cg}{s:BF}(h:AZ s n)(b:Lu):AZ (DA g s b).2 (n+256):=by
 have a:AZ s (n+256):=⟨h.Z,h.q,Yq h.AE (K7 _ _)⟩
 have c:=λk l ck=>sU h (sT (g:=g) h k l ck).1 (sT (g:=g) h k l ck).2.1
 unfold DA;dsimp only
 (repeat' split)
 all_goals first|exact a|exact c _ _ _
theorem kl(k:Nat)(a:k<9):∃fn,prog.funcs[KA.getD k 0]?=some fn/\Xf fn=true:=by
 match k,a with
 | 0,_=>exact⟨_,func90,O⟩
 | 1,_=>exact⟨_,func91,O⟩
 | 2,_=>exact⟨_,func92,O⟩
 | 3,_=>exact⟨_,func93,O⟩
 | 4,_=>exact⟨_,func94,O⟩
 | 5,_=>exact⟨_,func95,O⟩
 | 6,_=>exact⟨_,func96,O⟩
 | 7,_=>exact⟨_,func97,O⟩
 | 8,_=>exact⟨_,func98,O⟩
 | k+9,h=>exact Yz h om
theorem Xj2(key:Lu):((Df.lookup key).getD .nilFunc=.nilFunc/\(!decide (CP key<9))=true)\/∃f,(Df.lookup key).getD .nilFunc=Jw f/\(!decide (CP key<9))=false:=by
 rw[Xj3]
 by_cases h:CP key<9
 ·rw[Y9 h];exact .inr ⟨_,O,by simp[h]⟩
 ·rw[Y3 h];exact .inl ⟨O,by simp[h]⟩
theorem CB.done{g:Cg}{s:BF}{l:List Pq}{ck:Lu}{a:Oa}{b:Nat}(h:CB I a b (M0 g k l ck (Di s)).q)(c:Le I J):CB J a b (DV g s k l ck).q:=by
 have e:(DV g s k l ck).q=(M0 g k l ck (Di s)).q:=by unfold DV C9;dsimp only;split<;>rfl
 rw[e];exact⟨h.1,h.2.mono c⟩
theorem H7{a b c:Va}(d:cs[k]?=some a)(e:cs[k+1]?=some b)(f:cs[k+2]?=some c):∀(j:Nat) v,[a,b,c][j]?=some v->cs[k+j]?=some v
 | 0,v,h=>d.trans h
 | 1,v,h=>e.trans h
 | 2,v,h=>f.trans h
 | j+3,v,h=>by simp at h
theorem tF(g:Cg)(x:Sp)(s:BF)(b:Lu)(hb:b.length<=1000000)(hs:AZ s 800000)(f:BB I g x s)(N:La)(c:Aa B w I (Hu g x s N)):Cz 14 [ptr x.vb 0,S b] w λv w'=>v=.agg #[S (DA g s b).1.1,S (DA g s b).1.2]/\∃J y,Le I J/\y.vb=x.vb/\y.k.db=x.k.db/\BB J g y (DA g s b).2/\Aa B w' J (eH g y (DA g s b).2++N):=by
 refine gH 3 ?_;intro b4 w c;refine gF 0 (Xr7 b om f.kz) ?_;rintro _ w ⟨J1,ra,rc,rfl,am,bz,bc,c⟩;have bf:=wK b;obtain⟨br,az,a0,bs,F⟩:=bf;refine gH 7 ?_;intro b6 w c;refine gF 0 (Sw _ _ _ _ _ _ om om (f.kz.mono am)) ?_;rintro _ w ⟨J2,aa,ac,rfl,an,bw,ba,c⟩;have j:=am.trans an;refine gF 6 (cT _ _ _ _ _ _ om (λh hh=>⟨Yq (F h hh).1 de,Yq (F h hh).2 de⟩) (f.kz.mono j) (bc.mono an)) ?_;rintro _ w ⟨Jj,rfl,a5,c⟩;replace c:=c.weaken a5;refine gH 14 ?_;refine gN 1 ?_ ?_<;>intro Q
 ·refine gH 1 (.Bv (cap:=[]) func34 O (.of O) (A3 O X4) O (rP 400 (f.kz.mono j) _ c) ?_);rintro _ w ⟨rfl,c⟩;refine gH 1 ?_;intro w c;refine gG 0 ?_;have u:DA g s b=((Dq (Xq 400),[]),s):=by
   unfold DA;rw[Y9 (oh Q)]
  rw[u];exact⟨O,I,x,Le.refl _,O,O,f,((c.z [5,5,5,5] 4 2)).weaken j⟩
 refine gF 0 (Xzs) ?_;rintro _ w ⟨mb,rfl,c⟩;have bd:=c.Ho (k:=0) O;clear c;obtain⟨J3,ao,hM,c⟩:=bd;try dsimp only[List.eraseIdx]at c
 have d:=j.trans ao;refine gG 1 ?_;have E:¬ ((X0 b).2≠0\/(BH (X0 b).1.Ax (X0 b).1.target (X0 b).1.body).2≠0\/(Dh (X0 b).1.Af).2≠0):=by
  have h9:=Q;omega
 have bx:=(TI 63 (X0 b).1.target).1;refine gE 2 (Xj6 _ _ _ _ _ _ om (f.kz.mono d)) ?_;intro w c;refine gH 1 (.val (v:=((Df.lookup (aK++CO (X0 b).1)).getD .nilFunc)) (.N0 (key:=(aK++CO (X0 b).1)) CJ (hM.now c) (.of O) (.of O) TV A8 zeroValue112) O (.val (Ex.qd (b:=!decide (CP (aK++CO (X0 b).1)<9)) (Xj2 (aK++CO (X0 b).1)) (.of O) (.of O) underlying112) O ?_));refine gM 0 ?_ ?_<;>intro C bn
 ·refine gH 1 (.Bv (cap:=[]) func34 O (.of O) (A3 O X4) O (rP 404 (f.kz.mono d) _ c) ?_);rintro _ w ⟨rfl,c⟩;refine gH 1 ?_;intro w c;refine gG 0 ?_;have u:DA g s b=((Dq (Xq 404),[]),s):=by
   unfold DA;dsimp only
   rw[Y3 E,Y9 (su C)]
  rw[u];exact⟨O,I,x,Le.refl _,O,O,f,((c.z [5,5,5,5] 4 2)).weaken d⟩
 refine gG 0 (gD [0] [] [0,1,2,3,4,5,6,7,8] ?_);intro w c;refine gE 5 (Xj6 _ _ _ _ _ _ om (f.kz.mono d)) ?_;intro w c;refine gH 1 (A1.y 7 (v:=((Df.lookup (((X0 b).1.Ax++[32])++CO (X0 b).1)).getD .nilFunc)) (λw _ _ a6 c=>.N0 (key:=(((X0 b).1.Ax++[32])++CO (X0 b).1)) CJ ((hM.mono a6).now c) (.of O) (.of O) TV A8 zeroValue112) (gH 2 (.val (Ex.qd (b:=!decide (CP (((X0 b).1.Ax++[32])++CO (X0 b).1)<9)) (Xj2 (((X0 b).1.Ax++[32])++CO (X0 b).1)) (.of O) (.of O) underlying112) O ?_)));refine gM 0 ?_ ?_<;>intro L bo
 ·refine gH 1 (.Bv (cap:=[]) func34 O (.of O) (A3 O X4) O (rP 405 (f.kz.mono d) _ c) ?_);rintro _ w ⟨rfl,c⟩;refine gH 1 ?_;intro w c;refine gG 0 ?_;have u:DA g s b=((Dq (Xq 405),[]),s):=by
   unfold DA;rw[Y3 E,Y3 (su C),Y9 (su L)]
  rw[u];exact⟨O,I,x,Le.refl _,O,O,f,((c.z [5,5,5,5] 4 2)).weaken d⟩
 refine gG 0 ?_;have X:CP (aK++CO (X0 b).1)<9:=su C
 have t:CP (((X0 b).1.Ax++[32])++CO (X0 b).1)<9:=su L
 rw[show((Df.lookup (((X0 b).1.Ax++[32])++CO (X0 b).1)).getD .nilFunc)=Jw (KA.getD (CP (((X0 b).1.Ax++[32])++CO (X0 b).1)) 0) from by rw[Xj3,Y9 t]];refine gF 1 (wm g.qc x.vb x.k.sb x.qb x.qa x.qk s.q x.p s.Z hs.Z hs.q (f.mono d).qu) ?_;rintro _ w ⟨Jb,tp,nq,nb,R,bh,bi,rfl,ar,a7,c⟩;have A:=d.trans ar;have av:BN Jb (⟨tp,nq,{ x.p with wb:=nb,tb:=R },aa,ac,(BH (X0 b).1.Ax (X0 b).1.target (X0 b).1.body).1,(Dh (X0 b).1.Af).1⟩:Lp):=⟨(f.wp.mono A).cp nb R,f.kz.mono A,ba.mono (ao.trans ar),Yq (Uo _ _ _) de,λa ha=>by have:=PW (m:=(X0 b).1.Ax) az a0 a ha;omega,Yq (kJ (λh hh=>(F h hh).2)) de,f.fit⟩
 have a9:FV Jb none 0 (Di s).Al:=⟨Ya _,RS.nil _ _⟩
 refine gH 13 ?_;intro w c;obtain⟨bu,ay,W⟩:=kl (CP (((X0 b).1.Ax++[32])++CO (X0 b).1)) t;have G:=XG g.qc bh bi (⟨tp,nq,{ x.p with wb:=nb,tb:=R },aa,ac,(BH (X0 b).1.Ax (X0 b).1.target (X0 b).1.body).1,(Dh (X0 b).1.Af).1⟩:Lp) (Di s) none 0 hs.Z hs.q av a7 a9 _ (((c.pick 2 O).pick 2 O).pick 2 O) (CP (((X0 b).1.Ax++[32])++CO (X0 b).1)) t;rw[show Xt (⟨tp,nq,{ x.p with wb:=nb,tb:=R },aa,ac,(BH (X0 b).1.Ax (X0 b).1.target (X0 b).1.body).1,(Dh (X0 b).1.Af).1⟩:Lp).p g.qc=g from f.cg]at G;refine .Bv (cap:=[]) ay W (.of O) (A3 O X4) O G ?_;clear c G;rintro _ w ⟨rfl,J4,aw,ax,a1,a2,ap,au,a8,c⟩;refine .nil (.ck [0,4,5,14] (σ:=Im×Oa×Nat) (λ(J5,o,r) _m=>_m) (λ(J5,o,r) w=>Le J4 J5/\FV J5 o r (DV g s (CP (((X0 b).1.Ax++[32])++CO (X0 b).1)) (BH (X0 b).1.Ax (X0 b).1.target (X0 b).1.body).1 (Dh (X0 b).1.Af).1).Al/\Aa B w J5 (BG (⟨tp,nq,{ x.p with wb:=nb,tb:=R },aa,ac,(BH (X0 b).1.Ax (X0 b).1.target (X0 b).1.body).1,(Dh (X0 b).1.Af).1⟩:Lp) (DV g s (CP (((X0 b).1.Ax++[32])++CO (X0 b).1)) (BH (X0 b).1.Ax (X0 b).1.target (X0 b).1.body).1 (Dh (X0 b).1.Af).1) o r::DZ nq g.qc (DV g s (CP (((X0 b).1.Ax++[32])++CO (X0 b).1)) (BH (X0 b).1.Ax (X0 b).1.target (X0 b).1.body).1 (Dh (X0 b).1.Af).1).q a1 a2::AN { x.p with wb:=nb,tb:=R } (DV g s (CP (((X0 b).1.Ax++[32])++CO (X0 b).1)) (BH (X0 b).1.Ax (X0 b).1.target (X0 b).1.body).1 (Dh (X0 b).1.Af).1).Z::qE x.p s.Z::FE x.vb x.k.sb x.p.wb x.qb::DZ x.qb g.qc s.q x.qa x.qk::EW x.k s.k::Ac b4 [S [],S []] 58::N)) ?_ ?_)
 ·have bb:=Ov (g:=g) (k:=CP (((X0 b).1.Ax++[32])++CO (X0 b).1)) (l:=(BH (X0 b).1.Ax (X0 b).1.target (X0 b).1.body).1) (ck:=(Dh (X0 b).1.Af).1) (s:=Di s) (λh hh=>by simp[Di,ep]at hh);refine gH 9 (.Aj O O (λK=>(.DY (vs:=[_,_,_]) (.gd K O) c (k:=0) O isAgg61 ZP O (H7 O O O))) O (.Au (T:=λw=>Aa B w J4 _) O O O func43 O (λK=>(X6 (.gd K O) X4)) O (λK=>vl (M0 g (CP (((X0 b).1.Ax++[32])++CO (X0 b).1)) (BH (X0 b).1.Ax (X0 b).1.target (X0 b).1.body).1 (Dh (X0 b).1.Af).1 (Di s)).Al aw ax au.2 bb _ c) c ?_));clear c;rintro w c;refine gM 2 ?_ ?_<;>intro M bp
  ·refine gF 1 (l4 (⟨tp,nq,{ x.p with wb:=nb,tb:=R },aa,ac,(BH (X0 b).1.Ax (X0 b).1.target (X0 b).1.body).1,(Dh (X0 b).1.Af).1⟩:Lp) (M0 g (CP (((X0 b).1.Ax++[32])++CO (X0 b).1)) (BH (X0 b).1.Ax (X0 b).1.target (X0 b).1.body).1 (Dh (X0 b).1.Af).1 (Di s)) aw ax (av.mono ap)) ?_;rintro _ w ⟨rfl,J5,na,nc,H,n,c⟩;refine gG 0 ?_;have e8:(DV g s (CP (((X0 b).1.Ax++[32])++CO (X0 b).1)) (BH (X0 b).1.Ax (X0 b).1.target (X0 b).1.body).1 (Dh (X0 b).1.Af).1)=C9 (M0 g (CP (((X0 b).1.Ax++[32])++CO (X0 b).1)) (BH (X0 b).1.Ax (X0 b).1.target (X0 b).1.body).1 (Dh (X0 b).1.Af).1 (Di s)):=by unfold DV;dsimp only;rw[Y9 M]
   exact En (_,_,_) O ⟨H,by rw[e8];exact n,by rw[e8];exact((((((((((c.pick 7 O).pick 8 O).pick 7 O).pick 7 O).pick 7 O).pick 7 O).pick 7 O).pick 7 O).drop (k:=8) O))⟩
  refine gG 0 ?_;have e8:(DV g s (CP (((X0 b).1.Ax++[32])++CO (X0 b).1)) (BH (X0 b).1.Ax (X0 b).1.target (X0 b).1.body).1 (Dh (X0 b).1.Af).1)=(M0 g (CP (((X0 b).1.Ax++[32])++CO (X0 b).1)) (BH (X0 b).1.Ax (X0 b).1.target (X0 b).1.body).1 (Dh (X0 b).1.Af).1 (Di s)):=by unfold DV;dsimp only;rw[Y3 (nB M)]
  exact En (_,_,_) O ⟨Le.refl _,by rw[e8];exact au,by rw[e8];exact((((((((((c.pick 7 O).pick 8 O).pick 7 O).pick 7 O).pick 7 O).pick 7 O).pick 7 O).pick 7 O).drop (k:=8) O))⟩
 rintro⟨J5,o,r⟩ w ⟨H,n,c⟩;have hd:=sT (g:=g) hs (CP (((X0 b).1.Ax++[32])++CO (X0 b).1)) (BH (X0 b).1.Ax (X0 b).1.target (X0 b).1.body).1 (Dh (X0 b).1.Af).1;have i:=A.trans (ap.trans H);refine gF 2 (sV g.qc x.vb x.qb x.qa a1 x.qk a2 x.p s.Z s.q s.k x.k (⟨tp,nq,{ x.p with wb:=nb,tb:=R },aa,ac,(BH (X0 b).1.Ax (X0 b).1.target (X0 b).1.body).1,(Dh (X0 b).1.Af).1⟩:Lp) (DV g s (CP (((X0 b).1.Ax++[32])++CO (X0 b).1)) (BH (X0 b).1.Ax (X0 b).1.target (X0 b).1.body).1 (Dh (X0 b).1.Af).1) o r hs.Z hd.1 hs.q hd.2.1 (oh hs.AE) O (f.mono i).wp (f.mono i).kz (f.mono i).qu (CB.done a8 H) (f.mono i).kp) ?_;rintro _ w ⟨J6,p9,af,ae,ag,x9,rfl,aq,Y,b0,ab,U,V,c⟩;have e:=i.trans aq;refine gN 2 ?_ ?_<;>intro D
 ·refine gH 1 (.Bv (cap:=[]) func34 O (.of O) (A3 O X4) O (rP 503 (f.kz.mono e) _ c) ?_);rintro _ w ⟨rfl,c⟩;refine gH 1 ?_;intro w c;refine gG 0 ?_;have u:DA g s b=((Dq (Xq 503),[]),(DC s (DV g s (CP (((X0 b).1.Ax++[32])++CO (X0 b).1)) (BH (X0 b).1.Ax (X0 b).1.target (X0 b).1.body).1 (Dh (X0 b).1.Af).1)).2):=by
   unfold DA;rw[Y3 E,Y3 (λh=>h X),Y3 (λh=>h t)];exact Y9 (by have h9:(((DC s (DV g s (CP (((X0 b).1.Ax++[32])++CO (X0 b).1)) (BH (X0 b).1.Ax (X0 b).1.target (X0 b).1.body).1 (Dh (X0 b).1.Af).1)).1:Nat):Int)≠0:=D;omega)
  rw[u];exact⟨O,J6,⟨x.vb,p9,af,ae,ag,x9⟩,e,O,ab,f.next e Y U V,(c.z [3,3,3,3] 4 2)⟩
 refine gM 6 ?_ ?_<;>intro P bq
 ·refine gH 6 ?_;intro w c;refine gG 0 ?_;have u:DA g s b=(([],(DV g s (CP (((X0 b).1.Ax++[32])++CO (X0 b).1)) (BH (X0 b).1.Ax (X0 b).1.target (X0 b).1.body).1 (Dh (X0 b).1.Af).1).call),(DC s (DV g s (CP (((X0 b).1.Ax++[32])++CO (X0 b).1)) (BH (X0 b).1.Ax (X0 b).1.target (X0 b).1.body).1 (Dh (X0 b).1.Af).1)).2):=by
   unfold DA;rw[Y3 E,Y3 (λh=>h X),Y3 (λh=>h t)];rw[Y3 (by have h9:(((DC s (DV g s (CP (((X0 b).1.Ax++[32])++CO (X0 b).1)) (BH (X0 b).1.Ax (X0 b).1.target (X0 b).1.body).1 (Dh (X0 b).1.Af).1)).1:Nat):Int)=0:=D;omega)];exact Y9 (su P)
  rw[u];exact⟨O,J6,⟨x.vb,p9,af,ae,ag,x9⟩,e,O,ab,f.next e Y U V,(c.z [3,3,3,3] 4 2)⟩
 refine gH 3 (.val (.DY (vs:=[_,_,_]) (.of O) c (k:=4) O isAgg61 ZP O (H7 O O O)) O (gE 0 (ou (DV g s (CP (((X0 b).1.Ax++[32])++CO (X0 b).1)) (BH (X0 b).1.Ax (X0 b).1.target (X0 b).1.body).1 (Dh (X0 b).1.Af).1).Al o r (f.kz.mono e) n.1 (n.2.mono aq) hd.2.2) ?_));intro w c;refine gH 2 ?_;intro w c;refine gG 0 ?_;have u:DA g s b=((Dq (DV g s (CP (((X0 b).1.Ax++[32])++CO (X0 b).1)) (BH (X0 b).1.Ax (X0 b).1.target (X0 b).1.body).1 (Dh (X0 b).1.Af).1).Al,[]),(DC s (DV g s (CP (((X0 b).1.Ax++[32])++CO (X0 b).1)) (BH (X0 b).1.Ax (X0 b).1.target (X0 b).1.body).1 (Dh (X0 b).1.Af).1)).2):=by
  unfold DA;rw[Y3 E,Y3 (λh=>h X),Y3 (λh=>h t)];rw[Y3 (by have h9:(((DC s (DV g s (CP (((X0 b).1.Ax++[32])++CO (X0 b).1)) (BH (X0 b).1.Ax (X0 b).1.target (X0 b).1.body).1 (Dh (X0 b).1.Af).1)).1:Nat):Int)=0:=D;omega)];exact Y3 (su P)
 rw[u];exact⟨O,J6,⟨x.vb,p9,af,ae,ag,x9⟩,e,O,ab,f.next e Y U V,(c.z [3,3,3,3] 4 2)⟩
theorem L_(g:Cg)(x:Sp)(s:BF)(n:Int)(b:A6 s.Z)(c:BB I g x s)(N:La)(a:Aa B w I (Hu g x s N)):Ce B I (FE x.vb x.k.sb x.p.wb x.qb::AN x.p (tick s.Z n)::DZ x.qb g.qc s.q x.qa x.qk::EW x.k s.k::N) 58 [ptr x.vb 0,Ab n] w (.tuple #[]):=by
 refine gE 5 (Xua x.p s.Z n b) ?_;intro w a;exact gG 0 ⟨O,a.s⟩
theorem v8(g:Cg)(x:Sp)(s:BF)(f:BB I g x s)(N:La)(b:Aa B w I (Hu g x s N)):Ce B I (FE x.vb x.k.sb x.p.wb x.qb::AN x.p (s.Z)::DZ x.qb g.qc s.q x.qa x.qk::EW x.k s.k::N) 10 [ptr x.vb 0] w (Ab (s.Z.D.length:Nat)):=by
 replace b:=b.px [1];obtain⟨a,c,d,e,b⟩:=El b;refine gE 8 (SN _ d e s.Z.D) ?_;intro w b;refine gG 1 ?_;replace b:=Aa.box (T:=Bm x.p _) (a,c,d,e) (b.px [1,1,4,4,4]);exact⟨O,(b.x [3,3,2,3])⟩
theorem Xjb(g:Cg)(x:Sp)(s:BF)(e:Oa)(f:Nat)(l:List Nat)(j:s.Z.D.length<=1000000)(n:l.length<=1000000)(t:BB I g x s)(m:RS I e 1 l.length (l.map λd=>Bo (d:Nat)))(N:La)(b:Aa B w I (Hu g x s N)):Ce B I (FE x.vb x.k.sb x.p.wb x.qb::AN x.p ({ s.Z with D:=s.Z.D++l })::DZ x.qb g.qc s.q x.qa x.qk::EW x.k s.k::N) 21 [ptr x.vb 0,.slice e l.length f] w (.tuple #[]):=by
 replace b:=b.px [1];obtain⟨a,c,o,r,b⟩:=El b;refine gF 8 (SH _ o r s.Z.D j e f l n m) ?_;rintro _ w ⟨rfl,h,i,b⟩;refine gG 0 ?_;replace b:=Aa.box (T:=Bm x.p { s.Z with D:=s.Z.D++l }) (a,c,h,i) (b.px [1,1,4,4,4]);exact⟨O,(b.x [3,3,2,3])⟩
theorem Xlz(g:Cg)(x:Sp)(s:BF)(c:s.k.AE.length<=900000)(a:BB I g x s)(N:La)(f:Aa B w I (Hu g x s N)):Cz 62 [ptr x.vb 0] w λv w'=>∃J y,v=Ab ((Jd s.k).1:Nat)/\Le I J/\y.vb=x.vb/\y.k.db=x.k.db/\BB J g y { s with k:=(Jd s.k).2 }/\Aa B w' J (eH g y { s with k:=(Jd s.k).2 }++N):=by
 refine gF 5 (Xnr x.k s.k a.kp c) ?_;rintro _ w ⟨J,y,rfl,b,d,e,h,f⟩;exact gG 1 ⟨J,{ x with k:=y },O,b,O,e,⟨a.wp.mono b,a.cg,a.kz.mono b,a.fit,h,a.qu.1,a.qu.2.mono b⟩,by show Aa B _ J (FE x.vb y.sb x.p.wb x.qb::_);rw[d];exact(f.x [3,3,3])⟩
def Eo(s:BF):Lu:=(Jl s.Z.l).headD []
def FB:Lu:=[108,111,103,111,117,116,82,101,113,117,101,115,116,61]
def A9(s:BF):(List UInt8×List UInt8×List UInt8)×Bool:=match Jl s.Z.l with
 | _::_=>(((getD s.Z.l (Eo s)).name,(Zu (getD s.Z.l (getD s.Z.l (Eo s)).parent).url (getD s.Z.l (getD s.Z.l (Eo s)).parent).name (getD s.Z.l (Eo s)).name).1,[]),true)
 | []=>if(Ej s.q s.Z.now).2 then(((Ej s.q s.Z.now).1.ticket,(Ej s.q s.Z.now).1.url,FB++Aq (RZ (Ej s.q s.Z.now).1.ticket (Ej s.q s.Z.now).1.next.toNat)),true)else(([],[],[]),false)
theorem oz{l:List Ah}(h:Wf l)(name:Lu):(getD l name).name.length<=32:=by
 rcases Tr.get_at l name with⟨_,a⟩|⟨j,r,_,b,_,a⟩
 ·unfold getD;rw[a];decide
 ·unfold getD;rw[a]
  have:=lZ (h.right r (Y7 b))
  show r.name.length<=32
  omega
theorem vO{q:List Nt}{now:Int}(h:(Ej q now).2=true):(Ej q now).1∈q:=by
 unfold Ej at h ⊢;split
 ·rename_i e;rw[e]at h;cases h
 ·rename_i b e
  rw[e]at h;dsimp only at h ⊢
  split
  ·rename_i c;rw[Y9 c]at h;cases h
  ·rcases wt e with a|a
   ·cases a
   ·exact a
theorem Xn1(n:Nt)(a:FO n=true)(c:Kx I)(N:La)(d:Aa B w I N):Calls prog 126 #[.agg (X8 n).toArray] w (AY λv w'=>v=S (RZ n.ticket n.next.toNat)/\Aa B w' I N):=by
 unfold FO at a;simp only[Y8,dq1]at a
 have b:=Xr5 n.ticket n.url n.tries n.next.toNat a.1.1.1.1.1 om c N d;rw[jC a.1.2]at b;exact b
theorem L7(g:Cg)(x:Sp)(s:BF)(m:A6 s.Z)(G:FI s.q)(A:BB I g x s)(N:La)(b:Aa B w I (Hu g x s N)):Cz 59 [ptr x.vb 0] w λv w'=>∃J,v=.tuple #[.agg #[S (A9 s).1.1,S (A9 s).1.2.1,S (A9 s).1.2.2],.bool (A9 s).2]/\Le I J/\Aa B w' J (FE x.vb x.k.sb x.p.wb x.qb::AN x.p (s.Z)::DZ x.qb g.qc s.q x.qa x.qk::EW x.k s.k::N):=by
 refine gH 6 ?_;intro K w b;refine gF 0 (Xr8 x.p s.Z m) ?_;rintro _ w ⟨J,ka,kc,rfl,r,X,M,b⟩;refine gG 1 ?_;obtain⟨a,c,n,o,b⟩:=El b;refine gM 3 ?_ ?_<;>intro e Q
 ·refine .ck [0,2] (σ:=Nat) (λj _m=>(5,ptr j 0)::_m) (λj w=>Aa B w J (Ac j (Xa (getD s.Z.l (Eo s))) 126::Ac x.p.wb (Ca x.p s.Z) 85::Ba x.p.tb s.Z.room a c s.Z.l (Ac x.p.mb [.slice n s.Z.D.length o] 161::Cp 73 (.slice n s.Z.D.length o) (s.Z.D.map λd=>Bo (d:Nat))::Ac K [S [],S [],S []] 147::FE x.vb x.k.sb x.p.wb x.qb::DZ x.qb g.qc s.q x.qa x.qk::EW x.k s.k::N))) ?_ ?_
  ·have i:(Jl s.Z.l)=Eo s::((Jl s.Z.l)).tail:=by
    unfold Eo;cases h:(Jl s.Z.l)with
    | nil=>rw[h]at e;simp at e
    | cons n0 rest=>rfl
   have P:((Jl s.Z.l).map S)[0]?=some (S (Eo s)):=by rw[i];rfl
   obtain⟨pp,rfl,V⟩:=M.2 (by rw[i];exact Nat.succ_pos _);refine gD [6,0] [15] [0,1,2,3,4,5,6,7,8,9] ?_;intro w b;refine gH 9 ?_;refine A1.y 9 (λw _ _ L b=>.ld1 (.of O) (by have U:=Xv b (V.mono L) P;simpa using U) Bg) ?_;refine gB 10 14 [11,12,13,14,15,16] [10,11,12,13,15,16] ?_ ?_
   ·refine gE 0 (E5 _ s.Z.room a c s.Z.l (oh m.len) (Eo s)) ?_;intro w b;refine gH 4 ?_;intro j w b;refine gH 1 ?_;intro w b;exact gG 1 (cd j (((((((((((b.pick 9 O).pick 9 O).pick 9 O).pick 9 O).pick 9 O).pick 9 O).pick 8 O).pick 8 O).pick 9 O).pick 9 O)))
   ·refine gH 1 ?_;intro j w b;refine gE 0 (E5 _ s.Z.room a c s.Z.l (oh m.len) (Eo s)) ?_;intro w b;refine gH 4 ?_;intro w b;exact gG 1 (cd j (((((((((((b.pick 9 O).pick 9 O).pick 9 O).pick 9 O).pick 9 O).pick 9 O).pick 7 O).pick 7 O).pick 9 O).pick 9 O)))
  rintro j w b;refine .ck [2] (σ:=Nat×Nat) (λ(j,F) _m=>(5,ptr j 0)::(7,ptr F 0)::_m) (λ(j,F) w=>Aa B w J (Ac j (Xa (getD s.Z.l (Eo s))) 126::Ac F (Xa (getD s.Z.l (getD s.Z.l (Eo s)).parent)) 126::Ac x.p.wb (Ca x.p s.Z) 85::Ba x.p.tb s.Z.room a c s.Z.l (Ac x.p.mb [.slice n s.Z.D.length o] 161::Cp 73 (.slice n s.Z.D.length o) (s.Z.D.map λd=>Bo (d:Nat))::Ac K [S [],S [],S []] 147::FE x.vb x.k.sb x.p.wb x.qb::DZ x.qb g.qc s.q x.qa x.qk::EW x.k s.k::N))) ?_ ?_
  ·refine gD [7,1,0] [14] [0,1,2,3,4,5,6,7,8] ?_;intro w b;refine gH 9 (gB 9 13 [10,11,12,13,14,15] [9,10,11,12,14,15] ?_ ?_)
   ·refine gE 0 (E5 _ s.Z.room a c s.Z.l (oh m.len) (getD s.Z.l (Eo s)).parent) ?_;intro w b;refine gH 4 ?_;intro F w b;refine gH 1 ?_;intro w b;exact gG 1 (En (_,_) O ((((((((((((b.pick 10 O).pick 10 O).pick 10 O).pick 10 O).pick 10 O).pick 10 O).pick 8 O).pick 8 O).pick 10 O).pick 9 O).pick 10 O)))
   ·refine gH 1 ?_;intro F w b;refine gE 0 (E5 _ s.Z.room a c s.Z.l (oh m.len) (getD s.Z.l (Eo s)).parent) ?_;intro w b;refine gH 4 ?_;intro w b;exact gG 1 (En (_,_) O ((((((((((((b.pick 10 O).pick 10 O).pick 10 O).pick 10 O).pick 10 O).pick 10 O).pick 7 O).pick 7 O).pick 10 O).pick 9 O).pick 10 O)))
  rintro⟨j,F⟩ w b;refine gG 0 ?_;have W:=oM m.wf (getD s.Z.l (Eo s)).parent;have ac:=oz m.wf (getD s.Z.l (Eo s)).parent;have ab:=oz m.wf (Eo s);refine gE 7 (Xi1 _ _ _ om om om (A.kz.kn.mono r)) ?_;intro w b;refine gH 11 ?_;intro w b;refine gG 0 ?_;replace b:=Aa.box (T:=Bm x.p _) (a,c,n,o) (b.px [6,6,6,6,6]);have i:(Jl s.Z.l)=Eo s::((Jl s.Z.l)).tail:=by
   unfold Eo;cases h:(Jl s.Z.l)with
   | nil=>rw[h]at e;simp at e
   | cons n0 rest=>rfl
  have H:A9 s=(((getD s.Z.l (Eo s)).name,(Zu (getD s.Z.l (getD s.Z.l (Eo s)).parent).url (getD s.Z.l (getD s.Z.l (Eo s)).parent).name (getD s.Z.l (Eo s)).name).1,[]),true):=by
   unfold A9;rw[i]
  rw[H];exact⟨J,O,r,(b.z [6,6,2,6] 4 3)⟩
 refine .skip (.ck [2] (σ:=Nat) (λf _m=>(11,ptr f 0)::(12,.bool (Ej s.q s.Z.now).2)::_m) (λf w=>Aa B w J (Ac f (X8 (Ej s.q s.Z.now).1) 128::Ac x.p.wb (Ca x.p s.Z) 85::Ba x.p.tb s.Z.room a c s.Z.l (Ac x.p.mb [.slice n s.Z.D.length o] 161::Cp 73 (.slice n s.Z.D.length o) (s.Z.D.map λd=>Bo (d:Nat))::Ac K [S [],S [],S []] 147::FE x.vb x.k.sb x.p.wb x.qb::DZ x.qb g.qc s.q x.qa x.qk::EW x.k s.k::N))) ?_ ?_)
 ·refine gD [6,0] [16] [0,1,2,3,4,5,6,7,8,9,10] ?_;intro w b;refine gH 11 (gB 11 15 [12,13,14,15,16,17] [11,12,13,14,16,17] ?_ ?_)
  ·refine gP 0 [7] (Xms _ _ _ _ _ _ _ s.q G.1 (A.qu.2.mono r) A.qu.1 G.2 s.Z.now m.now.1 m.now.2 _) ?_;rintro _ w ⟨rfl,b⟩;refine gH 4 ?_;intro f w b;refine gH 1 ?_;intro w b;exact gG 1 (cd f (((((((((((b.pick 9 O).pick 2 O).pick 9 O).pick 9 O).pick 9 O).pick 9 O).pick 9 O).pick 9 O).pick 9 O).pick 9 O)))
  ·refine gH 1 ?_;intro f w b;refine gP 0 [8] (Xms x.qb _ _ _ _ x.qa x.qk s.q G.1 (A.qu.2.mono r) A.qu.1 G.2 s.Z.now m.now.1 m.now.2 _) ?_;rintro _ w ⟨rfl,b⟩;refine gH 4 ?_;intro w b;exact gG 1 (cd f (((((((((((b.pick 9 O).pick 1 O).pick 9 O).pick 9 O).pick 9 O).pick 9 O).pick 9 O).pick 9 O).pick 9 O).pick 9 O)))
 rintro f w b;refine gM 2 ?_ ?_<;>intro u R
 ·refine gH 3 ?_;intro w b;refine gG 0 ?_;replace b:=Aa.box (T:=Bm x.p s.Z) (a,c,n,o) (b.px [5,5,5,5,5]);have i:(Jl s.Z.l)=[]:=by
   cases h:(Jl s.Z.l)with
   | nil=>rfl
   | cons n0 rest=>rw[h]at e;simp at e
  have H:A9 s=(([],[],[]),false):=by
   unfold A9;rw[i];exact Y3 (su u)
  rw[H];exact⟨J,O,r,(b.z [5,5,2,5] 4 2)⟩
 refine gG 0 ?_;have C:(Ej s.q s.Z.now).2=true:=su u
 have E:=G.2 _ (vO C);unfold FO at E;simp only[Y8,dq1]at E
 have Y:=YZ (RZ (Ej s.q s.Z.now).1.ticket (Ej s.q s.Z.now).1.next.toNat);have aa:=xT (t:=(Ej s.q s.Z.now).1.ticket) (nn:=(Ej s.q s.Z.now).1.next.toNat) (oh ((iL E.1.1.1.1.1).2)) om;refine gD [0] [9] [0,1,2,3,4,5,6,7,8,9,10] ?_;intro w b;refine gE 5 (Xn1 (Ej s.q s.Z.now).1 (G.2 _ (vO C)) (A.kz.kx.mono r)) ?_;intro w b;refine gE 0 (vC _ om (A.kz.kn.gw.mono r)) ?_;intro w b;refine gH 3 ?_;intro w b;refine gG 1 ?_;replace b:=Aa.box (T:=Bm x.p s.Z) (a,c,n,o) (b.px [5,5,5,5,5]);have i:(Jl s.Z.l)=[]:=by
  cases h:(Jl s.Z.l)with
  | nil=>rfl
  | cons n0 rest=>rw[h]at e;simp at e
 have H:A9 s=(((Ej s.q s.Z.now).1.ticket,(Ej s.q s.Z.now).1.url,FB++Aq (RZ (Ej s.q s.Z.now).1.ticket (Ej s.q s.Z.now).1.next.toNat)),true):=by
  unfold A9;rw[i];exact Y9 C
 rw[H];exact⟨J,O,r,(b.z [5,5,2,5] 4 2)⟩
def mZ(g:Cg)(Z:Wd)(r:Ah)(n:Int):Bool:=n==200&&!(Xu g.ps Z (getD Z.l r.parent).name 4).2
def jk(g:Cg)(Z:Wd)(r:Ah)(n:Int):Int:=if mZ g Z r n=true then 0 else n
def jj(g:Cg)(Z:Wd)(r:Ah)(n:Int):Nat:=if mZ g Z r n=true then 30 else 34
def BD(g:Cg)(Z:Wd)(r:Ah)(n:Int):Wd:=(ML Z r.name (jk g Z r n)).2
def Ug(g:Cg)(Z:Wd)(r:Ah)(n:Int):Sx :=
 let q:=getD (BD g Z r n).l (getD Z.l r.parent).parent
 ⟨q.user,R4 g.us q.user (Xk g.lo q.service).1.rel,R1 (BD g Z r n).l q.name,r.name⟩
def Sb(g:Cg)(Z:Wd)(r:Ah)(n:Int):Co :=
 if(ML Z r.name (jk g Z r n)).1.2≠0 then Pv ID (jj g Z r n) (decide (0<r.AV))else Pv (Ug g Z r n) 0 (decide (0<r.AV))
theorem lx{lo:List Sv}{us:List Us}{Z:Wd}(d:A6 Z)(f:TT lo us)(u sv nm i:Lu)(o:u.length<=32)(hi:i.length<=100):mW ⟨u,R4 us u (Xk lo sv).1.rel,R1 Z.l nm,i⟩:=by
 have b:∀nm,(Cw us nm).length<=8/\∀a∈Cw us nm,a.1.length<=100/\a.2.length<=100:=λnm=>by
  unfold Cw;split
  ·rename_i e;exact f.gu _ (pA e)
  ·exact⟨Y4 _,λa c=>by simp at c⟩
 have g:(Xk lo sv).1.rel.length<=8:=by
  rcases rX lo sv with e|e
  ·rw[e];decide
  ·exact f.rel _ e
 refine⟨by dsimp only;omega,hi,⟨?_,λa c=>?_⟩,⟨?_,λp k=>?_⟩⟩
 ·have:=vI (rel:=(Xk lo sv).1.rel) (b u).1
  show(R4 _ _ _).length<=64
  unfold R4;omega
 ·obtain⟨x,_,hx⟩:=jH.1 c;exact(b _).2 a (Iy.1 hx).1
 ·show(R1 _ _).length<=64
  unfold R1;rw[Yj];have m:=mq d.wf nm;have n:=d.len;exact Yq (EP ..) om
 ·obtain⟨r,g,rfl⟩:=Dt.1 k;obtain⟨j,h⟩:=sG (Iy.1 g).1
  have:=d.wf.right r (Y7 h)
  unfold C7 at this;simp only[Y8,dq1]at this
  show r.url.length<=200
  omega
theorem xG{g:Cg}{Z:Wd}(h:A6 Z)(r:Ah)(n:Int):A6 (BD g Z r n):=Xxz h _ _
theorem Xls(f:Qc)(r:Ah)(n:Int)(ai:r.name.length<=100)(x:Lp)(s:Bj)(H:Oa)(K:Nat)(Q:A6 s.Z)(u:BN I x)(N:La)(b:Aa B w I (BG x s H K::AN x.p s.Z::N)):Cz 128 [ptr x.tp 0,.agg (Xa r).toArray,Ab n] w λv w'=>C2 I (Sb (Xt x.p f) s.Z r n) B (BG x s H K::AN x.p (BD (Xt x.p f) s.Z r n)::N) v w':=by
 refine gH 2 ?_;intro R U w b;refine .nil (.ck [0,2,4,6] (σ:=Nat) (λt _m=>(7,ptr t 0)::_m) (λt w=>Aa B w I (Ac t (Xa (getD s.Z.l r.parent)) 126::Ac R (Xa r) 126::Ac U [Ab 0,.slice none 0 0,S []] 61::BG x s H K::AN x.p s.Z::N)) ?_ ?_)
 ·replace b:=b.px [3];obtain⟨a,c,j,k,b⟩:=El b;refine gD [7,0,5] [14] [0,1,2,3,4,5,6,7,8] ?_;intro w b;refine gH 9 (gB 9 13 [10,11,12,13,14,15] [9,10,11,12,14,15] ?_ ?_)
  ·refine gE 0 (E5 _ s.Z.room a c s.Z.l (oh Q.len) r.parent) ?_;intro w b;refine gH 4 ?_;intro t w b;refine gH 1 ?_;intro w b;refine gG 1 ?_;replace b:=Aa.box (T:=Bm x.p _) (a,c,j,k) (b.px [5,5,4,4,5]);exact cd t (b.x [4,3,4,4])
  ·refine gH 1 ?_;intro t w b;refine gE 0 (E5 _ s.Z.room a c s.Z.l (oh Q.len) r.parent) ?_;intro w b;refine gH 4 ?_;intro w b;refine gG 1 ?_;replace b:=Aa.box (T:=Bm x.p _) (a,c,j,k) (b.px [5,5,3,3,5]);exact cd t (b.x [4,3,4,4])
 rintro t w b;refine .ck [0,2,4,6,7] (σ:=Unit) (λ_ _m=>(10,.bool (Xu x.p.ps s.Z (getD s.Z.l r.parent).name 4).2)::_m) (λ_ w=>Aa B w I (Ac t (Xa (getD s.Z.l r.parent)) 126::Ac R (Xa r) 126::Ac U [Ab 0,.slice none 0 0,S []] 61::BG x s H K::AN x.p s.Z::N)) ?_ ?_
 ·refine gD [3,0] [11] [0,1,2,3,4,5] ?_;intro w b;refine gH 6 (gB 6 10 [7,8,9,10,11,12] [6,7,8,9,11,12] ?_ ?_)
  ·refine gE 0 (iH _ 4 x.p s.Z Q) ?_;intro w b;refine gH 4 ?_;intro b9 w b;refine gH 1 ?_;intro w b;exact gG 1 (cd () (b.z [1,5,5,5,5] 5 1))
  ·refine gH 1 ?_;intro b9 w b;refine gE 0 (iH _ 4 x.p s.Z Q) ?_;intro w b;refine gH 4 ?_;intro w b;exact gG 1 (cd () (b.z [5,5,5,5] 5 1))
 rintro _ w b;refine gH 1 (.nil (.ck [0,4,6,7] (σ:=Unit) (λ_ _m=>(2,Ab (jk (Xt x.p f) s.Z r n))::(11,Ab (jj (Xt x.p f) s.Z r n:Nat))::_m) (λ_ w=>Aa B w I (Ac t (Xa (getD s.Z.l r.parent)) 126::Ac R (Xa r) 126::Ac U [Ab 0,.slice none 0 0,S []] 61::BG x s H K::AN x.p s.Z::N)) ?_ ?_))
 ·refine gM 6 ?_ ?_<;>intro A am
  ·refine gG 2 ?_;have V:mZ (Xt x.p f) s.Z r n=true:=by simpa[mZ,Xt]using A
   exact⟨(),⟨by simp only[jk,jj,V];rfl,by simp only[jk,jj,V];rfl,O,O,O,O,trivial⟩,(b.x [4,4,4,4,4])⟩
  refine gG 0 ?_;have V:mZ (Xt x.p f) s.Z r n=false:=by simpa[mZ,Xt]using A
  exact⟨(),⟨by simp only[jk,jj,V];rfl,by simp only[jk,jj,V];rfl,O,O,O,O,trivial⟩,(b.x [4,4,4,4,4])⟩
 rintro _ w b;refine gG 4 ?_;have q:=xG (g:=(Xt x.p f)) Q r n;have ae:=oM q.wf (getD s.Z.l r.parent).parent;refine gD [3,1] [] [0,1,2,3,4,5,6,7,8,9,10,11,12] ?_;intro w b;refine gE 7 (Xxa _ _ x.p s.Z Q u.wp) ?_;intro w b;refine gN 7 ?_ ?_<;>intro C
 ·refine gF 3 (rF ID _ (λ_=>OC) (decide (0<r.AV)) _ u.kz (pj I)) ?_;rintro _ w ⟨J,na,nc,rfl,hJ,L,G,b⟩;refine gH 1 ?_;intro w b;refine gG 0 ?_;have X:Sb (Xt x.p f) s.Z r n=Pv ID (jj (Xt x.p f) s.Z r n) (decide (0<r.AV)):=by unfold Sb;exact Y9 (oh C)
  rw[X];exact⟨J,na,nc,O,hJ,L,G,(b.z [4] 2 3)⟩
 refine .skip (.ck [0,4,6,12] (σ:=Nat) (λh _m=>(15,ptr h 0)::_m) (λh w=>Aa B w I (Ac h (Xa (getD (BD (Xt x.p f) s.Z r n).l (getD s.Z.l r.parent).parent)) 126::Ac t (Xa (getD s.Z.l r.parent)) 126::Ac R (Xa r) 126::Ac U [Ab 0,.slice none 0 0,S []] 61::BG x s H K::AN x.p (BD (Xt x.p f) s.Z r n)::N)) ?_ ?_)
 ·obtain⟨⟨a,c,j,k⟩,b⟩:=Aa.unbox b;replace b:Aa B _ _ (Ac x.p.wb (Ca x.p (BD (Xt x.p f) s.Z r n)) 85::Ba x.p.tb (BD (Xt x.p f) s.Z r n).room a c (BD (Xt x.p f) s.Z r n).l (Ac x.p.mb [.slice j (BD (Xt x.p f) s.Z r n).D.length k] 161::Cp 73 (.slice j (BD (Xt x.p f) s.Z r n).D.length k) ((BD (Xt x.p f) s.Z r n).D.map λd=>Bo (d:Nat))::_)):=b;refine gD [8,0,4] [14] [0,1,2,3,4,5,6,7,8] ?_;intro w b;refine gH 9 (gB 9 13 [10,11,12,13,14,15] [9,10,11,12,14,15] ?_ ?_)
  ·refine gE 0 (E5 x.p.tb (BD (Xt x.p f) s.Z r n).room a c (BD (Xt x.p f) s.Z r n).l (oh q.len) (getD s.Z.l r.parent).parent) ?_;intro w b;refine gH 4 ?_;intro h w b;refine gH 1 ?_;intro w b;refine gG 1 ?_;replace b:=Aa.box (T:=Bm x.p (BD (Xt x.p f) s.Z r n)) (a,c,j,k) (b.px [5,5,4,4,5]);exact cd h (b.x [5,5,5,5,5])
  ·refine gH 1 ?_;intro h w b;refine gE 0 (E5 x.p.tb (BD (Xt x.p f) s.Z r n).room a c (BD (Xt x.p f) s.Z r n).l (oh q.len) (getD s.Z.l r.parent).parent) ?_;intro w b;refine gH 4 ?_;intro w b;refine gG 1 ?_;replace b:=Aa.box (T:=Bm x.p (BD (Xt x.p f) s.Z r n)) (a,c,j,k) (b.px [5,5,3,3,5]);exact cd h (b.x [5,5,5,5,5])
 rintro h w b;refine .ck [0,4,6,12,15] (σ:=Im×Nat×Oa×Nat) (λ(E,o,M,P) _m=>(17,ptr o 0)::_m) (λ(E,o,M,P) w=>Le I E/\(Xk x.p.lo (getD (BD (Xt x.p f) s.Z r n).l (getD s.Z.l r.parent).parent).service).1.rel.length<=P/\RS E M 1 (Xk x.p.lo (getD (BD (Xt x.p f) s.Z r n).l (getD s.Z.l r.parent).parent).service).1.rel.length ((Xk x.p.lo (getD (BD (Xt x.p f) s.Z r n).l (getD s.Z.l r.parent).parent).service).1.rel.map S)/\Aa B w E (Ac o (fw (Xk x.p.lo (getD (BD (Xt x.p f) s.Z r n).l (getD s.Z.l r.parent).parent).service).1 M P) 133::Ac h (Xa (getD (BD (Xt x.p f) s.Z r n).l (getD s.Z.l r.parent).parent)) 126::Ac R (Xa r) 126::Ac U [Ab 0,.slice none 0 0,S []] 61::BG x s H K::AN x.p (BD (Xt x.p f) s.Z r n)::N)) ?_ ?_
 ·replace b:=b.px [5];obtain⟨⟨a,c,j,k⟩,b⟩:=Aa.unbox b;replace b:Aa B _ _ (Ac x.p.wb (Ca x.p (BD (Xt x.p f) s.Z r n)) 85::Ba x.p.tb (BD (Xt x.p f) s.Z r n).room a c (BD (Xt x.p f) s.Z r n).l (Ac x.p.mb [.slice j (BD (Xt x.p f) s.Z r n).D.length k] 161::Cp 73 (.slice j (BD (Xt x.p f) s.Z r n).D.length k) ((BD (Xt x.p f) s.Z r n).D.map λd=>Bo (d:Nat))::_)):=b;refine gD [9,0,4] [15] [0,1,2,3,4,5,6,7,8] ?_;intro w b;refine gH 9 (gB 9 14 [10,11,12,13,14,15,16,17] [9,10,11,12,13,15,16,17] ?_ ?_)
  ·refine gF 0 (X72 (getD (BD (Xt x.p f) s.Z r n).l (getD s.Z.l r.parent).parent).service om x.p u.wp) ?_;rintro _ w ⟨E,M,P,m,rfl,y,i,b⟩;refine gH 5 ?_;intro o w b;refine gH 1 ?_;intro w b;refine gG 2 ?_;replace b:=Aa.box (T:=Bm x.p (BD (Xt x.p f) s.Z r n)) (a,c,j,k) (b.px [5,5,5,5,5]);exact En (_,_,_,_) O ⟨m,y,i,(b.z [6,6,6,5,5] 6 1)⟩
  ·refine gH 1 ?_;intro o w b;refine gF 0 (X72 (getD (BD (Xt x.p f) s.Z r n).l (getD s.Z.l r.parent).parent).service om x.p u.wp) ?_;rintro _ w ⟨E,M,P,m,rfl,y,i,b⟩;refine gH 5 ?_;intro w b;refine gG 2 ?_;replace b:=Aa.box (T:=Bm x.p (BD (Xt x.p f) s.Z r n)) (a,c,j,k) (b.px [5,5,5,5,5]);exact En (_,_,_,_) O ⟨m,y,i,(b.z [6,6,6,5,5] 6 1)⟩
 rintro⟨E,o,M,P⟩ w ⟨m,y,i,b⟩;refine gG 0 ?_;replace b:=b.px [5];obtain⟨⟨a,c,j,k⟩,b⟩:=Aa.unbox b;replace b:Aa B _ _ (Ac x.p.wb (Ca x.p (BD (Xt x.p f) s.Z r n)) 85::Ba x.p.tb (BD (Xt x.p f) s.Z r n).room a c (BD (Xt x.p f) s.Z r n).l (Ac x.p.mb [.slice j (BD (Xt x.p f) s.Z r n).D.length k] 161::Cp 73 (.slice j (BD (Xt x.p f) s.Z r n).D.length k) ((BD (Xt x.p f) s.Z r n).D.map λd=>Bo (d:Nat))::_)):=b;have Y:=u.wp.mono m;have ad:=Uq u.wp.gu (getD (BD (Xt x.p f) s.Z r n).l (getD s.Z.l r.parent).parent).user;have ah:(Xk x.p.lo (getD (BD (Xt x.p f) s.Z r n).l (getD s.Z.l r.parent).parent).service).1.rel.length<=1000000:=by
  rcases rX x.p.lo (getD (BD (Xt x.p f) s.Z r n).l (getD s.Z.l r.parent).parent).service with e|e
  ·rw[e];decide
  ·exact u.wp.rel _ e
 have aj:=lx q u.fit (getD (BD (Xt x.p f) s.Z r n).l (getD s.Z.l r.parent).parent).user (getD (BD (Xt x.p f) s.Z r n).l (getD s.Z.l r.parent).parent).service (getD (BD (Xt x.p f) s.Z r n).l (getD s.Z.l r.parent).parent).name r.name ae.1 ai;refine gD [9,0,5,4,4] [26] [0,1,2,3,4,5,6,7,8,9,10,11,12,14,15,16,17,18,19,21,22,24,13,20,23,25,26] ?_;intro w b;refine gH 14 (gF 8 (Xjc x.p.ub x.p.us u.wp.fit (getD (BD (Xt x.p f) s.Z r n).l (getD s.Z.l r.parent).parent).user ad M P (Xk x.p.lo (getD (BD (Xt x.p f) s.Z r n).l (getD s.Z.l r.parent).parent).service).1.rel ah (by exact Y.tab) (by exact i)) ?_);rintro _ w ⟨Ja,ka,kc,rfl,W,af,ab,b⟩;refine gF 0 (Xeo x.p (BD (Xt x.p f) s.Z r n) a c q.len q.wf (getD (BD (Xt x.p f) s.Z r n).l (getD s.Z.l r.parent).parent).name) ?_;rintro _ w ⟨Jp,pa,pc,rfl,F,ag,ac,b⟩;refine gF 1 (rF (Ug (Xt x.p f) s.Z r n) 0 (λ_=>aj) (decide (0<r.AV)) _ (by exact((u.kz.mono m).mono W).mono F) ⟨ka,kc,pa,pc,O,af,(by exact(ab).mono F),ag,(by exact ac)⟩) ?_;rintro _ w ⟨J,na,nc,rfl,hJ,L,G,b⟩;refine gH 1 ?_;intro w b;refine gG 0 ?_;replace b:=Aa.box (T:=Bm x.p (BD (Xt x.p f) s.Z r n)) (a,c,j,k) (b.px [4,4,4,4,4]);have X:Sb (Xt x.p f) s.Z r n=Pv (Ug (Xt x.p f) s.Z r n) 0 (decide (0<r.AV)):=by unfold Sb;exact Y3 (oh C)
 rw[X];exact⟨J,na,nc,O,((m.trans W).trans F).trans hJ,L,G,(b.z [5] 2 4)⟩
theorem Xht(g:Cg)(s:BF)(y:Lp)(r:Ah)(n:Int)(a:r.name.length<=100)(e:Xt y.p g.qc=g)(d:A6 s.Z)(c:BN I y)(N:La)(b:Aa B w I (BG y (Di s) none 0::AN y.p s.Z::N)):Cz 128 [ptr y.tp 0,.agg (Xa r).toArray,Ab n] w λv w'=>C2 I (Sb g s.Z r n) B (BG y (Di s) none 0::AN y.p (BD g s.Z r n)::N) v w':=by
 have h:=Xls g.qc r n a y (Di s) none 0 d c N b;rw[e]at h;exact h
theorem Qn(d:Nat)(a:Qc)(g:Oa)(h:Nat)(q:List Nt)(k:FI q)(t:Lu)(ok:Bool)(now:Int)(j:0<=now/\now<=1099511627776)(i:CB I g h q)(N:La)(f:Aa B w I (DZ d a q g h::N)):Calls prog 127 #[ptr d 0,S t,.bool ok,Ab now] w (AY λv w'=>∃J b c,v=Ab ((Gx a q t ok now).2:Nat)/\Le I J/\CB J b c (Gx a q t ok now).1/\Aa B w' J (DZ d a (Gx a q t ok now).1 b c::N)) :=
 (SD d _ a.x a.y a.z g h q k.1 i.2 i.1 k.2 a.tries O t ok now j.1 j.2 N f).mono λe w' ⟨v,r,J,l,m,s,n,o,p,f⟩=>⟨v,r,J,l,m,s,n,⟨p,o⟩,f⟩
def FU(g:Cg)(s:BF)(a:Lu)(n:Int):(Lu×Nat)×BF :=
 let r:=getD s.Z.l a
 if(r.kind !=5)=true then
  let d:=Gx g.qc s.q a (n==200) s.Z.now
  if d.2≠0 then(([],6),s)else
  let e:=DC s { Di s with q:=d.1 }
  (([],e.1),e.2)
 else
  let p:=Sb g s.Z r n
  let Z:=BD g s.Z r n
  if(!Zh p)=true then((Dq (Xq 503),39),{ s with Z:={ s.Z with D:=Z.D } })else
  let e:=DC s { Di s with Z:=Z }
  if e.1≠0 then((Dq (Xq 503),e.1),e.2)else((Dq p,0),e.2)
theorem w4(g:Cg)(Z:Wd)(r:Ah)(n:Int):Ei (Sb g Z r n):=by unfold Sb;split<;>exact vF _ _ _
theorem W7{g:Cg}{s:BF}(h:AZ s k)(a:Lu)(n:Int):AZ (FU g s a n).2 (k+256):=by
 have b:AZ s (k+256):=⟨h.Z,h.q,Yq h.AE (K7 _ _)⟩
 have ha:=xG (g:=g) h.Z (getD s.Z.l a) n;have c:=sU (t:={ Di s with q:=(Gx g.qc s.q a (n==200) s.Z.now).1 }) h h.Z (Xuv h.q h.Z.now.1);have d:=sU (t:={ Di s with Z:=BD g s.Z (getD s.Z.l a) n }) h ha h.q;have e:AZ { s with Z:={ s.Z with D:=(BD g s.Z (getD s.Z.l a) n).D } } (k+256):=⟨⟨h.Z.len,h.Z.wf,ha.D,h.Z.now,h.Z.room⟩,h.q,b.AE⟩
 unfold FU;dsimp only
 (repeat' split)
 all_goals first|exact b|exact c|exact d|exact e
theorem L9(g:Cg)(x:Sp)(s:BF)(i:Lu)(n:Int)(hs:AZ s 800000)(f:BB I g x s)(N:La)(d:Aa B w I (Hu g x s N)):Cz 60 [ptr x.vb 0,S i,Ab n] w λv w'=>v=.tuple #[S (FU g s i n).1.1,Ab ((FU g s i n).1.2:Nat)]/\∃J y,Le I J/\y.vb=x.vb/\y.k.db=x.k.db/\BB J g y (FU g s i n).2/\Aa B w' J (eH g y (FU g s i n).2++N):=by
 refine gF 3 (wm g.qc x.vb x.k.sb x.qb x.qa x.qk s.q x.p s.Z hs.Z hs.q f.qu) ?_;rintro _ w ⟨J,tp,Y,nb,tc,ap,aq,rfl,hJ,Q,d⟩;have W:BN J ⟨tp,Y,{ x.p with wb:=nb,tb:=tc },none,0,[],[]⟩:=⟨(f.wp.mono hJ).cp nb tc,f.kz.mono hJ,RS.nil _ _,Y4 _,λa ha=>by simp at ha,Y4 _,f.fit⟩
 have X:Xt ({ x.p with wb:=nb,tb:=tc }:Wp) g.qc=g:=f.cg;have m:∀q:Wp,q={ x.p with wb:=nb,tb:=tc }->q={ x.p with wb:=q.wb,tb:=q.tb }:=by rintro q rfl;rfl
 generalize aj:({ x.p with wb:=nb,tb:=tc }:Wp)=p2 at d W X;replace m:=m p2 aj.symm;refine gG 1 ?_;replace d:=d.px [2];obtain⟨a,c,ma,mc,d⟩:=El d;refine gE 8 (E5 p2.tb s.Z.room a c s.Z.l (oh hs.Z.len) i) ?_;intro w d;refine gG 9 ?_;intro b9 w d;refine gM 0 ?_ ?_<;>intro j ar
 ·refine gG 0 (gD [6,3] [] [0,1,2,3,4,5,6,7,8,9,10,11,12,13,14,15] ?_);intro w d;refine gF 14 (Qn Y g.qc ap aq s.q hs.q i _ s.Z.now hs.Z.now Q) ?_;rintro _ w ⟨J2,a1,a2,rfl,u,ag,d⟩;have b:=hJ.trans u;refine gN 1 ?_ ?_<;>intro M
  ·refine gG 2 ?_;have t:FU g s i n=(([],6),s):=by
    unfold FU;rw[Y9 j];exact Y9 (oh M)
   rw[t];replace d:=Aa.box (T:=Bm p2 _) (a,c,ma,mc) (d.px [6,6,5,5,6]);replace d:=oi m (d.pick 4 O);exact⟨O,J2,x,b,O,O,f.mono b,(d.z [6,6,2,6] 4 3)⟩
  replace d:=Aa.box (T:=Bm p2 _) (a,c,ma,mc) (d.px [6,6,5,5,6]);refine gP 2 [7,1,2,4,7,6,7] (sV _ _ _ _ _ _ _ x.p s.Z s.q s.k x.k (⟨tp,Y,p2,none,0,[],[]⟩:Lp) ({ Di s with q:=(Gx g.qc s.q i (n==200) s.Z.now).1 }:Bj) none 0 hs.Z hs.Z hs.q (Xuv hs.q hs.Z.now.1) (oh hs.AE) m (f.mono b).wp (f.mono b).kz (f.mono b).qu ag (f.mono b).kp _) ?_;rintro _ w ⟨J6,p9,K,H,L,x9,rfl,A,F,ak,G,C,E,d⟩;have e:=(b).trans A;refine gG 2 ?_;have t:FU g s i n=(([],(DC s ({ Di s with q:=(Gx g.qc s.q i (n==200) s.Z.now).1 }:Bj)).1),(DC s ({ Di s with q:=(Gx g.qc s.q i (n==200) s.Z.now).1 }:Bj)).2):=by
   unfold FU;rw[Y9 j];exact Y3 (oh M)
  rw[t];exact⟨O,⟨J6,⟨x.vb,p9,K,H,L,x9⟩,e,O,G,f.next e F C E,(d.z [3,3,3,3] 4 2)⟩⟩
 replace d:=Aa.box (T:=Bm p2 _) (a,c,ma,mc) (d.px [5,5,4,4,5]);have ah:=xG (g:=g) hs.Z (getD s.Z.l i) n;have a0:=oz hs.Z.wf i;refine gP 3 [2] (Xht g s (⟨tp,Y,p2,none,0,[],[]⟩:Lp) (getD s.Z.l i) n om X hs.Z W _) ?_;rintro _ w ⟨J2,na,nc,rfl,u,ai,V,d⟩;have b:=hJ.trans u;refine gH 3 ?_;intro ay w d;refine gE 0 (vl (Sb g s.Z (getD s.Z.l i) n) na nc V (w4 _ _ _ _)) ?_;intro w d;refine gM 1 ?_ ?_<;>intro r au
 ·refine gF 0 (lT 503) ?_;rintro _ w ⟨J3,oa,oc,rfl,o,U,R,d⟩;refine gE 0 (ou (Xq 503) oa oc ((f.kz.mono b).mono o) U R (MJ de)) ?_;intro w d;replace d:=d.weaken o;refine gG 2 ?_;have t:FU g s i n=((Dq (Xq 503),39),{ s with Z:={ s.Z with D:=(BD g s.Z (getD s.Z.l i) n).D } }):=by
   unfold FU;rw[Y3 (nB j)];exact Y9 (su r)
  rw[t];replace d:=oi m ((d.pick 2 O).pick 5 O);exact⟨O,J2,x,b,O,O,⟨(f.mono b).wp,f.cg,(f.mono b).kz,f.fit,(f.mono b).kp,(f.mono b).qu⟩,(d.z [7,7,2,7] 4 4)⟩
 refine gP 2 [8,3,5,4,8,7,8] (sV g.qc x.vb x.qb x.qa _ x.qk _ x.p s.Z s.q s.k x.k (⟨tp,Y,p2,none,0,[],[]⟩:Lp) ({ Di s with Z:=BD g s.Z (getD s.Z.l i) n }:Bj) none 0 hs.Z ah hs.q hs.q (oh hs.AE) m (f.mono b).wp (f.mono b).kz (f.mono b).qu ⟨Q.1,Q.2.mono u⟩ (f.mono b).kp _) ?_;rintro _ w ⟨J6,p9,K,H,L,x9,rfl,A,F,ak,G,C,E,d⟩;have e:=(b).trans A;refine gN 3 ?_ ?_<;>intro P
 ·refine gF 0 (lT 503) ?_;rintro _ w ⟨J3,oa,oc,rfl,o,U,R,d⟩;refine gE 0 (ou (Xq 503) oa oc ((f.kz.mono e).mono o) U R (MJ de)) ?_;intro w d;replace d:=d.weaken o;refine gG 3 ?_;have t:FU g s i n=((Dq (Xq 503),(DC s ({ Di s with Z:=BD g s.Z (getD s.Z.l i) n }:Bj)).1),(DC s ({ Di s with Z:=BD g s.Z (getD s.Z.l i) n }:Bj)).2):=by
   unfold FU;rw[Y3 (nB j)];rw[Y3 (su r)];exact Y9 (λh=>P (Yc (Nat.cast:Nat->Int) h))
  rw[t];exact⟨O,⟨J6,⟨x.vb,p9,K,H,L,x9⟩,e,O,G,f.next e F C E,(d.z [3,3,3,3] 4 3)⟩⟩
 refine gE 1 (ou (Sb g s.Z (getD s.Z.l i) n) na nc (f.kz.mono e) ai (V.mono A) (w4 _ _ _ _)) ?_;intro w d;refine gG 2 ?_;have t:FU g s i n=((Dq (Sb g s.Z (getD s.Z.l i) n),0),(DC s ({ Di s with Z:=BD g s.Z (getD s.Z.l i) n }:Bj)).2):=by
  unfold FU;rw[Y3 (nB j)];rw[Y3 (su r)];exact Y3 (λh=>h (Int.ofNat.inj P))
 rw[t];exact⟨O,⟨J6,⟨x.vb,p9,K,H,L,x9⟩,e,O,G,f.next e F C E,(d.z [3,3,3,3] 4 3)⟩⟩
theorem Ma(g:Cg)(p:Wp)(i:Xt p g.qc=g)(Z:Wd)(b:A6 Z)(a:Oa)(c:Nat)(N:La)(h:Aa B w I (Ba p.tb Z.room a c Z.l N)):Cz 129 [ptr p.tb 0,.agg ((C0 p.ps).map Ab).toArray,Ab Z.now] w λv w'=>∃J d f,v=.slice d (Gg (C0 g.ps) Z.l Z.now).length f/\Le I J/\(Gg (C0 g.ps) Z.l Z.now).length<=f/\RS J d 1 (Gg (C0 g.ps) Z.l Z.now).length ((Gg (C0 g.ps) Z.l Z.now).map S)/\Aa B w' J (Ba p.tb Z.room a c Z.l N):=by
 have e:p.ps=g.ps:=Yc Cg.ps i;rw[<-e];exact RJ p.tb Z.room a c Z.l (oh b.len) b.wf (C0 p.ps) O Z.now b.now N h
theorem U3(g:Cg)(p:Wp)(q:Xt p g.qc=g)(Ay:Lu)(Z:Wd)(n:A6 Z)(l:BK I p)(N:La)(m:Aa B w I (AN p Z::N)):Cz 130 [ptr p.wb 0,S Ay] w λv w'=>∃J a b c d,Le I J/\v=.tuple #[.slice a (FW g.lo Z Ay).length b,.slice c (Ln Z Ay).length d]/\(FW g.lo Z Ay).length<=b/\RS J a 4 (FW g.lo Z Ay).length (X2 X8 (FW g.lo Z Ay))/\Aa B w' J (AN p (Kn Z Ay)::N):=by
 have e:p.lo=g.lo:=Yc Cg.lo q;rw[<-e];exact(Mn Ay p Z n l N m).mono λe w' ⟨v,o,J,a,b,c,d,f,h,i,j,r,s,k⟩=>⟨v,o,J,a,b,c,d,f,h,i,j,k⟩
def KS(g:Cg):List (List UInt8)->Wd->List Nt->Nat×Wd×List Nt
 | [],Z,q=>(0,Z,q)
 | n::r,Z,q =>
  if((getD Z.l n).kind==1)=true then
   if(Fv q (FW g.lo Z n)).2≠0 then(5,Kn Z n,(Fv q (FW g.lo Z n)).1)else KS g r (Kn Z n) (Fv q (FW g.lo Z n)).1
  else if((getD Z.l n).kind==5)=true then KS g r (FQ Z (getD Z.l n).parent) q
  else KS g r (FQ Z n) q
def PA(g:Cg)(s:BF):Nat×Wd×List Nt:=KS g (Gg (C0 g.ps) s.Z.l s.Z.now) s.Z s.q
def R8(g:Cg)(s:BF):Nat×BF :=
 if(PA g s).1≠0 then(5,{ s with Z:={ s.Z with D:=(PA g s).2.1.D } })else DC s { Di s with Z:=(PA g s).2.1,q:=(PA g s).2.2 }
theorem si{g:Cg}:∀(l:List Lu) {Z:Wd} {q:List Nt},A6 Z->FI q->A6 (KS g l Z q).2.1/\FI (KS g l Z q).2.2
 | [],_,_,h,a=>⟨h,a⟩
 | n::r,Z,q,h,a=>by
  unfold KS
  (repeat' split)
  ·exact⟨rW h n,th a⟩
  ·exact si r (rW h n) (th a)
  ·exact si r (Z0 h _) a
  ·exact si r (Z0 h n) a
theorem RI{g:Cg}{s:BF}(h:AZ s k):AZ (R8 g s).2 (k+256):=by
 have a:A6 (PA g s).2.1/\FI (PA g s).2.2:=si (g:=g) (Gg (C0 g.ps) s.Z.l s.Z.now) h.Z h.q;unfold R8;split
 ·exact⟨⟨h.Z.len,h.Z.wf,a.1.D,h.Z.now,h.Z.room⟩,h.q,Yq h.AE (K7 _ _)⟩
 ·exact sU h a.1 a.2
theorem Xtz(g:Cg)(x:Sp)(s:BF)(hs:AZ s 800000)(f:BB I g x s)(N:La)(b:Aa B w I (Hu g x s N)):Cz 61 [ptr x.vb 0] w λv w'=>v=Ab ((R8 g s).1:Nat)/\∃J y,Le I J/\y.vb=x.vb/\y.k.db=x.k.db/\BB J g y (R8 g s).2/\Aa B w' J (eH g y (R8 g s).2++N):=by
 refine gF 2 (wm g.qc x.vb x.k.sb x.qb x.qa x.qk s.q x.p s.Z hs.Z hs.q f.qu) ?_;rintro _ w ⟨J,tp,nq,nb,tc,a1,a5,rfl,hJ,U,b⟩;have X:BN J ⟨tp,nq,{ x.p with wb:=nb,tb:=tc },none,0,[],[]⟩:=⟨(f.wp.mono hJ).cp nb tc,f.kz.mono hJ,RS.nil _ _,Y4 _,λa ha=>by simp at ha,Y4 _,f.fit⟩
 have P:Xt ({ x.p with wb:=nb,tb:=tc }:Wp) g.qc=g:=f.cg;have C:∀q:Wp,q={ x.p with wb:=nb,tb:=tc }->q={ x.p with wb:=q.wb,tb:=q.tb }:=by rintro q rfl;rfl
 generalize ay:({ x.p with wb:=nb,tb:=tc }:Wp)=p2 at b X P;replace C:=C p2 ay.symm;refine gG 1 ?_;replace b:=b.px [2];obtain⟨a,c,ma,mc,b⟩:=El b;refine gD [5,0] [] [0,1,2,3,4,5,6,7,8,9,10,11,12,13,14,15,16,17,18,19,20,23,21,22] ?_;intro w b;refine gH 13 (A1.y 13 (λw _ _ bm b=>.DY (vs:=(C0 p2.ps).map Ab) (.of O) b (k:=1) O O5 HA O (λj v hj=>YP hj)) (gF 8 (Ma g p2 P s.Z hs.Z a c) ?_));rintro _ w ⟨J2,oa,oc,rfl,K,bq,au,b⟩;have E:=hJ.trans K;have br:(Gg (C0 g.ps) s.Z.l s.Z.now).length<=64:=by unfold Gg;rw[Yj];exact Yq (EP ..) hs.Z.len
 refine gG 1 ?_;replace b:=Aa.box (T:=Bm p2 s.Z) (a,c,ma,mc) (b.px [4,4,3,3,4]);have W:=(((((((b.pick 6 O).pick 6 O).pick 6 O).pick 6 O).pick 4 O).pick 6 O).pick 6 O);clear b;refine .lk [0,3] (σ:=Nat×Im×Wd×List Nt×Oa×Nat) (λ(i,Q,Z,q,n,o) _m=>(33,.slice oa (Gg (C0 g.ps) s.Z.l s.Z.now).length oc)::(34,Ab ((Gg (C0 g.ps) s.Z.l s.Z.now).length:Nat))::(35,Ab (i:Nat))::_m) (λ(i,Q,Z,q,n,o) w=>i<=(Gg (C0 g.ps) s.Z.l s.Z.now).length/\Le J2 Q/\A6 Z/\FI q/\CB Q n o q/\KS g ((Gg (C0 g.ps) s.Z.l s.Z.now).drop i) Z q=KS g (Gg (C0 g.ps) s.Z.l s.Z.now) s.Z s.q/\Aa B w Q (BG (⟨tp,nq,p2,none,0,[],[]⟩:Lp) (Di s) none 0::DZ nq g.qc q n o::AN p2 Z::qE x.p s.Z::FE x.vb x.k.sb x.p.wb x.qb::DZ x.qb g.qc s.q x.qa x.qk::EW x.k s.k::N)) (λ(i,Q,Z,q,n,o)=>(Gg (C0 g.ps) s.Z.l s.Z.now).length-i) (0,J2,s.Z,s.q,a1,a5) ⟨Y4 _,Le.refl _,hs.Z,hs.q,⟨U.1,U.2.mono K⟩,O,W⟩ ?_;rintro⟨i,Q,Z,q,n,o⟩ w ⟨hi,e,u,hq,t,A,b⟩;clear W;refine gN 1 ?_ ?_<;>intro bd
 ·obtain⟨nm,aa⟩:∃nm,(Gg (C0 g.ps) s.Z.l s.Z.now)[i]?=some nm:=⟨_,Y2 om⟩
  obtain⟨pp,rfl,hA⟩:=(au.mono e).2 om;have ax:((Gg (C0 g.ps) s.Z.l s.Z.now).map S)[i]?=some (S nm):=by rw[Yr,aa];rfl
  have hd:(Gg (C0 g.ps) s.Z.l s.Z.now).drop i=nm::(Gg (C0 g.ps) s.Z.l s.Z.now).drop (i+1):=by
   obtain⟨h1,h2⟩:=Y1.1 aa;rw[Ym h1,h2]
  refine gH 1 ?_;refine .val (.ld1 (.of O) (by have h9:=Xv b hA ax;simpa using h9) Bg) O ?_;refine gG 1 ?_;replace b:=b.px [2];obtain⟨a,c,ma,mc,b⟩:=El b;refine gE 8 (E5 p2.tb Z.room a c Z.l (oh u.len) nm) ?_;intro w b;refine gG 10 ?_;intro b6 w b;refine gM 0 ?_ ?_<;>intro m be
  ·replace b:=Aa.box (T:=Bm p2 Z) (a,c,ma,mc) (b.px [5,5,4,4,5]);refine gF 5 (U3 g p2 P nm Z u ((X.mono K).mono e).wp) ?_;rintro _ w ⟨J4,na,nc,ga,gc,L,rfl,bp,ar,b⟩;have Y:=Xv0 (lo:=g.lo) u nm;have r:=(E.trans e).trans L;refine gP 10 [3] (Xn2 nq _ _ _ _ n o q hq.1 (t.2.mono L) t.1 na nc (FW g.lo Z nm) Y.1 Y.2 ar (f.kz.mono r).kx (f.kz.mono r).pre _) ?_;rintro _ w ⟨J5,a2,a6,rfl,R,aq,aw,b⟩;have ao:CB J5 a2 a6 (Fv q (FW g.lo Z nm)).1:=⟨aw,aq⟩
   have h:=r.trans R;refine gN 1 ?_ ?_<;>intro H
   ·refine gG 1 ?_;have e8:(PA g s)=(5,Kn Z nm,(Fv q (FW g.lo Z nm)).1):=by
     unfold PA;rw[<-A,hd,KS,Y9 m,Y9 (oh H)]
    have e9:R8 g s=(5,{ s with Z:={ s.Z with D:=(Kn Z nm).D } }):=by
     unfold R8;rw[e8]
     first|done|rfl
    rw[e9];replace b:=oi C ((b.pick 1 O).pick 4 O);exact⟨O,J5,x,h,O,O,⟨(f.mono h).wp,f.cg,(f.mono h).kz,f.fit,(f.mono h).kp,(f.mono h).qu⟩,(b.z [6,6,2,6] 4 3)⟩
   refine gG 2 (A_ (_,_,_,_,_,_) O ⟨od,e.trans (L.trans R),rW u nm,th hq,ao,?_,(((((((((b.pick 7 O).pick 7 O).pick 7 O).pick 7 O).pick 5 O).pick 5 O).pick 7 O).drop (k:=7) O))⟩);rw[<-A,hd,KS,Y9 m,Y3 (oh H)]
  refine gM 2 ?_ ?_<;>intro G bf
  ·refine gD [6,3,0] [] [0,1,2,3,4,5,6,7,8,9] ?_;intro w b;refine gF 9 (fm p2.tb Z.room a c Z.l (oh u.len) u.wf (getD Z.l nm).parent) ?_;rintro _ w ⟨J9,ga,gc,rfl,M,av,V,a9,c9,b⟩;replace b:=b.weaken M;refine gG 2 ?_;replace b:=Aa.box (T:=Bm p2 (FQ Z (getD Z.l nm).parent)) (a9,c9,ma,mc) (b.px [5,5,3,3,5]);refine A_ (_,_,_,q,_,_) O ⟨od,e,Z0 u _,hq,t,?_,(((((((((b.pick 7 O).pick 7 O).pick 7 O).pick 7 O).pick 4 O).pick 7 O).pick 7 O).drop (k:=7) O))⟩;rw[<-A,hd,KS,Y3 (nB m),Y9 G]
  refine gF 8 (fm p2.tb Z.room a c Z.l (oh u.len) u.wf nm) ?_;rintro _ w ⟨J9,ga,gc,rfl,M,av,V,a9,c9,b⟩;replace b:=b.weaken M;refine gG 2 ?_;replace b:=Aa.box (T:=Bm p2 (FQ Z nm)) (a9,c9,ma,mc) (b.px [5,5,3,3,5]);refine A_ (_,_,_,q,_,_) O ⟨od,e,Z0 u nm,hq,t,?_,(((((((((b.pick 7 O).pick 7 O).pick 7 O).pick 7 O).pick 4 O).pick 7 O).pick 7 O).drop (k:=7) O))⟩;rw[<-A,hd,KS,Y3 (nB m),Y3 (nB G)]
 have e8:(PA g s)=(0,Z,q):=by
  unfold PA;rw[<-A,Yb om];rfl
 have d:=E.trans e;refine gF 2 (sV g.qc x.vb x.qb x.qa _ x.qk _ x.p s.Z s.q s.k x.k (⟨tp,nq,p2,none,0,[],[]⟩:Lp) ({ Di s with Z:=Z,q:=q }:Bj) none 0 hs.Z u hs.q hq (oh hs.AE) C (f.mono d).wp (f.mono d).kz (f.mono d).qu t (f.mono d).kp) ?_;rintro _ w ⟨J6,p9,a4,a3,a7,x9,rfl,am,az,bs,a0,an,ap,b⟩;have F:=(d).trans am;refine gG 1 ?_;have e9:R8 g s=DC s ({ Di s with Z:=(PA g s).2.1,q:=(PA g s).2.2 }:Bj):=by
  unfold R8;rw[e8]
  first|done|rfl
 rw[e9,e8];exact⟨O,⟨J6,⟨x.vb,p9,a4,a3,a7,x9⟩,F,O,a0,f.next F az an ap,(b.z [3,3,3,3] 4 1)⟩⟩
theorem Xof(a:Oa)(c:Nat)(N:La)(b:Aa B w I N):Ce B I N 441 [.slice a 0 c] w (.slice none 0 0):=by
 refine gT 4 (λd e=>?_);exact gG 1 ⟨O,b⟩
theorem Xyg(y:Va)(a:Oa)(b c:Nat)(N:La)(d:Aa B w I (Ac b [.slice a 0 c] 46::N)):Ce B I (Ac b [.slice a 0 c] 46::N) 440 [y,ptr b 0] w (.tuple #[]):=by
 refine gE 1 (Xof a c) ?_;intro w d;refine gG 1 (.EI (WI.round ?_));refine gH 1 (.val (v:=.bool false) (.Adf (a:=none) (.of O) (.of O) BV) O (gH 3 (.Aj (v:=.bool false) O O (λh=>Yz h de) O ?_)));refine gG 1 (.Aw (rfl) ?_);exact gG 0 ⟨O,d⟩
theorem Qs(a:Oa)(c:Nat)(N:La)(d:Aa B w I N):Cz 386 [.slice a 0 c] w λv w'=>∃b,v=.func (.func 440) #[] #[ptr b 0]/\Aa B w' I (Ac b [.slice a 0 c] 46::N):=by
 refine gG 4 ?_;intro b1 w d;exact⟨_,O,d⟩
theorem Xnc(a:Oa)(c:Nat)(N:La)(b:Aa B w I N):Ce B I N 289 [.slice a 0 c] w (.tuple #[.slice none 0 0,Ab 0]):=by
 refine j_ func289 O ntmps289 O (.seq (.q 2 O (.seq (.region (.K_ b zeroValue276 O O ?_)))));intro d w b;refine .nil (.seq (.region (.K_ b Ph O O ?_)));intro f w b;refine .s1 b (k:=0) O O O O Bl sz ?_;intro w b;refine .nil (.seq (.seq (.t 1 O (.call func386 O (A3 O X4) O (Qs _ _ _ b) ?_))));rintro _ w ⟨g,rfl,b⟩;refine .nil (.block ?_);refine .Rp b (.of O) func440 O O (λl D r w b=>?_) (λD w b=>?_)
 ·have b:=b.pick 2 O;refine(Xyg _ _ _ _ _ b).mono ?_;rintro e w1 ⟨_,rfl,rfl,b⟩;have b:=b.pick 2 O;exact⟨_,O,b.x [2]⟩
 refine .seq (.qt b (.val (λw b=>(by exact(.lo O b (k:=3) O isAgg276 O))) O ?_));refine .val (λw b=>(by exact(.lo O b (k:=2) O BJ O))) O ?_;refine .val (λw b=>(.ao O)) O (.val (λw b=>(.ao O)) O (.nil ?_));intro w b;refine .ret (qR results289 b (k:=0) O O O O (λw b=>?_));exact⟨_,O,O,b.y 0 3⟩
theorem QM{d:Dk}(h:4<=d.kept.length)(hi:i<2):LB d (i:Nat)=true:=by unfold LB;simp;omega
theorem Xih{d:Dk}(h:4<=d.kept.length)(hi:(i:Int)<Fs d):LB d (TN d 0 (i:Nat))=true:=by
 unfold LB TN;unfold Fs at hi ⊢;simp only[Y8,dq1]
 omega
structure iZ(d:Dk):Prop where
 ok:Dz d
 len:4<=d.kept.length
 st:d.Ae=[]
 none:∀i:Nat,i<2->rOk d (i:Nat) (PI d (i:Nat))=false
theorem QE{n:Int}(h:4<=n):iZ (Da n):=by
 have a:4<=(Da n).kept.length:=by simp only[Da,fY];omega
 refine⟨dM n,a,O,λi hi=>?_⟩;have e:PI (Da n) (i:Nat)=ZB:=by
  unfold PI;rw[show(Da n).Ae=[] from O,List.foldl_nil,Yf,Yd];unfold Da at a ⊢;dsimp only at a ⊢
  rw[fY]at a;rw[yh,Y9 om];rfl
 rw[e];unfold rOk;rw[show(Kh (Kq ZB) (T0 ZB) (PH ZB)==ZB.take 8)=false by kernel_rfl];rfl
def lg0(d:Dk):Lg:=⟨d,0,0,0,[]⟩
def K0(d:Dk):St:=⟨lg0 d,[]⟩
theorem Xyz(d:Dk)(db kb:Nat)(sv pl:Va)(D:iZ d)(Z:A4 I)(N:La)(a:Aa B w I (BI db kb sv pl d N)):Cz 189 [ptr db 0] w λv w'=>∃J lg us,Le I J/\v=.tuple #[ptr lg 0,Ab 0]/\Bi J us []/\Aa B w' J (Ac lg [ptr db 0,Ab 0,Ab 0,Ab 0,us] 370::BI db kb sv pl d N):=by
 refine gG 0 ?_;have F:=D.ok;have b:=D.len;have y:d.Ae.length<=1000000:=by rw[D.st];exact Y4 _
 obtain⟨m,n,rfl,ab,_⟩:=a.vS 2;have A:=F.size;refine gE 3 (Xuo d db kb (.slice m d.Ae.length n) pl) ?_;intro w a;refine gU 1 (λR S=>?_);refine gG 5 ?_;intro b16 w a;obtain⟨lg,rfl⟩:∃lg,lg=b16:=⟨_,O⟩
 have c:=((((a.pick 3 O).pick 3 O).pick 3 O).pick 3 O);clear a;refine .lk [0,4] (σ:=Nat×Im) (λ(i,J) _m=>(17,Ab (i:Nat))::_m) (λ(i,J) w=>i<=2/\Le I J/\Aa B w J (Ac lg [ptr db 0,Ab 0,Ab 0,Ab 0,(.slice none 0 0)] 370::BI db kb (.slice m d.Ae.length n) pl d N)) (λ(i,J)=>2-i) (0,I) ⟨Y4 _,Le.refl _,c⟩ ?_;rintro⟨i,J⟩ w ⟨hi,o,a⟩;clear c;refine gN 1 ?_ ?_<;>intro g
 ·have t:i<2:=by have Q:=g;omega
  refine gF 4 (QR ⟨d,0,0,0,[]⟩ lg db kb (.slice none 0 0) (.slice m d.Ae.length n) pl (i:Nat) (QM b t) (Z.mono o) F b y) ?_;rintro _ w ⟨U,G,C,a⟩;rw[D.none i t]at C;subst C;refine gG 6 ?_;intro b6 w a;refine gQ ?_;intro w a;refine gG 11 (.Aw (rfl) ?_);exact gG 2 (rd (i+1,U) ⟨om,o.trans G,(a.z [4,4,4,4] 4 1)⟩)
 obtain rfl:i=2:=by have Q:=g;omega
 refine gE 1 (wF ⟨d,0,0,0,[]⟩ lg db kb (.slice none 0 0) (.slice m d.Ae.length n) pl b A) ?_;intro w a;refine gG 1 ?_;have c:=((((a.pick 3 O).pick 3 O).pick 3 O).pick 3 O);clear a;replace c:=c.Ai 5 1;have q:=((((c.pick 4 O).pick 4 O).pick 4 O).pick 4 O);clear c;refine .lk [0,4,43] (σ:=Nat×Va×Im×Lv) (λ(i,p,J,xs) _m=>(44,Ab (i:Nat))::_m) (λ(i,p,J,xs) w=>(i:Int)<=Fs d/\xs.length=32*i/\Le I J/\Aa B w J (Ac lg [ptr db 0,Ab 0,Ab 0,Ab 0,p] 370::BI db kb (.slice m d.Ae.length n) pl d (An 5 1 p (xs).length (xs)::N))) (λ(i,p,J,xs)=>(Fs d).toNat-i) (0,.slice none 0 0,J,[]) ⟨by unfold Fs;omega,O,o,q⟩ ?_;rintro⟨i,p,J,xs⟩ w ⟨hi,ac,o,a⟩;clear q;refine gN 1 ?_ ?_<;>intro r
 ·refine gG 2 ?_;have u:(i:Int)<Fs d:=by have Q:=r;omega
  have aa:Fs d<=255:=by unfold Fs;omega
  have l:=Xph F (Xih b u);refine gD [0] [18] [0,1,2,3,4,5,6,7,8,9,10,11,12,13,14,15,16,17,18] ?_;intro w a;refine gE 13 (Xio ⟨d,0,0,0,[]⟩ lg db kb p (.slice m d.Ae.length n) pl 0 (i:Nat) (.inl O) om b A) ?_;intro w a;refine gF 0 (Xnu d db kb m n pl (TN d 0 (i:Nat)) F (Xih b u) y) ?_;rintro _ w ⟨X,rfl,a⟩;refine gH 0 (A1.e (.append (bytes:=1) a (.of O) (.of O) (k:=4) O BV Xw O O O O (by simp[Ao,l]) O (HD _) ⟨om,by unfold maxLen;omega⟩ O ?_));intro ad w a;try dsimp only[List.set]at a
  obtain⟨W,Y,rfl,E,_⟩:=a.vS 4;refine gH 3 ?_;intro w a;refine gG 2 ?_;have f:(Ao (PI d (TN d 0 (i:Nat)))).length=32:=by rw[TH];exact l
  rw[show xs.length+32=(xs++Ao (PI d (TN d 0 (i:Nat)))).length by rw[Y0,f]]at a;exact A_ (i+1,_,J,xs++Ao (PI d (TN d 0 (i:Nat)))) O ⟨om,by rw[Y0,f];omega,o,(a.x [4,3,3,3,4])⟩
 refine gG 0 ?_;obtain⟨va,T,rfl,M,_⟩:=a.vS 4;obtain⟨V,H,K,a⟩:=a.fV 4;try dsimp only[List.eraseIdx]at a
 obtain⟨P,L,_⟩:=LR K (Y4 _) (Y4 _) M;refine gD [0] [13] [0,1,2,3,4,5,6,7,8,9,10,11,12,13] ?_;intro w a;refine gH 10 (A1.j 10 (λw=>(.as (.JR (.of O) (.of O) om om BV DT) L)) (gH 3 ?_));intro w a;refine gE 4 (Xnc P T) ?_;intro w a;refine gG 12 (.Aw (rfl) ?_);exact gG 3 ⟨V,lg,_,o.trans H,O,⟨P,T,O,Y4 _,O,λh=>Yz h (Nat.lt_irrefl 0)⟩,a.s⟩
theorem QS(d:Dk)(lg db kb:Nat)(us sv pl:Va)(f:Bi I us [])(N:La)(a:Aa B w I (Ac lg [ptr db 0,Ab 0,Ab 0,Ab 0,us] 370::BI db kb sv pl d N)):Ce B I (Ac lg [ptr db 0,Ab 0,Ab 0,Ab 0,us] 370::BI db kb sv pl d N) 190 [ptr lg 0] w (.slice none 0 0):=by
 obtain⟨b,c,rfl,g,e⟩:=id f;refine gE 5 (Xnc b c) ?_;intro w a;exact gG 7 ⟨O,a.s⟩
theorem Xz7(d:Dk)(db kb:Nat)(sv pl:Va)(f:iZ d)(h:A4 I)(N:La)(a:Aa B w I (BI db kb sv pl d N)):Cz 108 [ptr db 0] w λv w'=>∃J e lg us,Le I J/\v=.tuple #[ptr e 0,Ab 0]/\Bi J us []/\Aa B w' J (Ac e [ptr lg 0,(.map none)] 273::Ac lg [ptr db 0,Ab 0,Ab 0,Ab 0,us] 370::BI db kb sv pl d (Cr (.map none) ([])::N)):=by
 refine gF 3 (Xyz d db kb sv pl f h) ?_;rintro _ w ⟨J,lg,us,g,rfl,c,a⟩;refine gG 7 (.Aw (rfl) (gH 5 ?_));intro b w a;refine gE 0 (QS d lg db kb us sv pl c) ?_;intro w a;refine gG 2 (.EI (WI.round ?_));refine gG 1 (.Aw (rfl) (gG 3 ?_));replace a:=VX a;exact⟨J,b,lg,us,g,O,c,a.s⟩
theorem QQ(x:Kp)(s:St)(p:Lu)(g:p.length<=1000)(d:HB s)(c:s.AE.length<=1000000)(N:La)(a:Aa B w I (EW x s::N)):Cz 110 [ptr x.sb 0,S p] w λv w'=>∃b,v=b/\Aa B w' I (An 124 2 b (Gw s.AE p).length (X2 X5 (Gw s.AE p))::EW x s::N):=by
 obtain⟨_,a⟩:=Aa.unbox a;exact(VB s x.sb x.lg x.db x.kb x.mv x.us x.sv x.pl p g d.AE c N a).mono λe w' ⟨v,f,b,h,a⟩=>⟨v,f,b,h,(Aa.box (T:=nN x s) () (a.x [6,6,6,6,6,6])).pick 1 O⟩
theorem qi{d:Dk}(h:iZ d):HB (K0 d):=⟨⟨h.ok,h.len,⟨uD _,show(0:Int)<262144 by decide⟩,.inl O,O,by have:=tm h.ok h.len;show(0:Int)<=HK d;omega,by show d.Ae.length<=600;rw[h.st];exact Y4 _,.inr h.st⟩,G4.nil⟩
theorem Xz6(d:Dk)(db kb:Nat)(sv pl:Va)(b:iZ d)(c:A4 I)(j:Az I pl d.AH)(N:La)(k:Aa B w I (BI db kb sv pl d N)):Calls prog 108 #[ptr db 0] w (AY λv w'=>∃J y,Le I J/\v=.tuple #[ptr y.sb 0,Ab 0]/\y.db=db/\Ep J y (K0 d)/\Aa B w' J (EW y (K0 d)::N)) :=
 (Xz7 d db kb sv pl b c N k).mono λe w' ⟨v,l,J,f,lg,us,a,g,h,i⟩ =>
  ⟨v,l,J,⟨f,lg,db,kb,.map none,us,sv,pl⟩,a,g,O,⟨qi b,j.mono a,h,c.mono a⟩,Aa.box (T:=nN ⟨f,lg,db,kb,.map none,us,sv,pl⟩ (K0 d)) () i⟩
theorem OX(n:Int)(N:La)(b:Aa B w I N):Cz 114 [Ab n,.slice none 0 0] w λv w'=>∃a,v=.tuple #[ptr a 0,Ab 0]/\Aa B w' I (Ba a (On n) none 0 ([]:List Ah) N):=by
 refine gF 3 (Xgv n) ?_;rintro _ w ⟨a,rfl,b⟩;refine gG 1 (.EI (WI.round ?_));refine gG 8 (.Aw (rfl) ?_);exact gG 3 ⟨a,O,b.s⟩
def qcF(c:Cf):Qc:=⟨c.base,c.HR,c.most,c.tries⟩
def D5(c:Cf)(d:Dk)(now:Int):Nat×BF:=if FX c≠0 then(FX c,⟨w0 c,[],K0 d⟩)else(0,⟨tick { w0 c with l:=[] } now,[],K0 d⟩)
def OP(c:Cf)(g:Cg):Prop:=∃D,Bc.Ord (kx (C4 c.BL)) c.BL.length D/\g=⟨KV c.BL D,c.us,c.ps,qcF c⟩
theorem Wx{l:List Sv}{us:List Us}(h:TT l us)(D:List Int):TT (KV l D) us:=by
 refine⟨λs a=>?_,h.gu⟩;obtain⟨i,_,hi⟩:=Dt.1 a;rw[<-hi,Yf];cases e:l[i.toNat]? with
 | none=>decide
 | some x=>exact h.rel x (Y7 e)
theorem L8(c:Cf)(hc:c.fits)(F:FX c=0->TT c.BL c.us)(g:Cg)(hg:OP c g)(a:Oa)(cap:Nat)(M:Oa)(f:Nat)(d:Dk)(db kb:Nat)(sv pl:Va)(hd:iZ d)(now:Int)(Z:Kz I)(hV:A4 I)(hP:Az I pl d.AH)(hl:B2 I a c.BL)(hU:BC I M c.us)(N:La)(b:Aa B w I (BI db kb sv pl d N)):Cz 51 [.agg (Ie c a cap M f).toArray,ptr db 0,Ab now] w λv w'=>∃J,Le I J/\(((D5 c d now).1≠0/\v=.tuple #[.pointer none,Ab ((D5 c d now).1:Nat)]/\Aa B w' J N)\/((D5 c d now).1=0/\∃x:Sp,v=.tuple #[ptr x.vb 0,Ab 0]/\x.k.db=db/\BB J g x (D5 c d now).2/\AZ (D5 c d now).2 8160/\Aa B w' J (eH g x (D5 c d now).2++N))):=by
 refine gG 0 (.GJ b (.of O) O ?_);intro b3 w b;refine gG 2 ?_;refine .val (.DY (.of O) b (k:=0) O IK IQ O (λ_ _ h=>by rw[Yk];exact h)) O ?_;refine gF 0 (Xok c hc a cap M _ Z.kn Z.pre hl hU) ?_;rintro v w ⟨P,i,q⟩;obtain⟨pv,rfl,E⟩:∃(pv:Oa),v=.tuple #[.pointer pv,Ab (FX c:Nat)]/\((FX c≠0/\Aa B w P (Ac b3 (Ie c a cap M f) 29::BI db kb sv pl d N))\/(FX c=0/\∃p D,Bc.Ord (kx (C4 c.BL)) c.BL.length D/\p.lo=KV c.BL D/\p.us=c.us/\p.ps=c.ps/\pv=some (ad p.wb 0)/\BK P p/\Aa B w P (AN p (w0 c)::Ac b3 (Ie c a cap M f) 29::BI db kb sv pl d N))):=by
  rcases q with⟨Q,U,V⟩|⟨Q,p,D,U,V,h4,h5,h6,h7,h8⟩
  ·exact⟨none,U,.inl ⟨Q,V⟩⟩
  ·exact⟨some (ad p.wb 0),by rw[Q];exact h6,.inr ⟨Q,p,D,U,V,h4,h5,O,h7,h8⟩⟩
 refine gN 7 ?_ ?_<;>intro o
 ·refine gG 3 ?_;have e:FX c≠0:=by have h9:=o;omega
  rcases E with⟨_,b⟩|⟨h9,_⟩
  ·have S:D5 c d now=(FX c,⟨w0 c,[],K0 d⟩):=by
    unfold D5;exact Y9 e
   rw[S];exact⟨P,i,.inl ⟨e,O,b.s⟩⟩
  ·exact Yz h9 e
 obtain⟨H,p,D,hD,G,K,ab,rfl,Y,b⟩:=E.resolve_left (λh=>h.1 (oh o));refine gF 1 (Xz6 d db kb sv pl hd (hV.mono i) (hP.mono i)) ?_;rintro _ w ⟨J2,y,u,rfl,L,A,b⟩;have m:=i.trans u;refine gG 7 (.Aw (rfl) (gH 2 ?_));refine .val (.DY (.of O) b (k:=2) O IK IQ O (λ_ _ h=>by rw[Yk];exact h)) O ?_;refine gF 0 (OZ _ _ _ _ _ O O O O) ?_;rintro _ w ⟨qb,rfl,b⟩;refine gH 5 ?_;intro R w b;refine gF 0 (QQ y _ [] de A.st (Y4 _)) ?_;rintro _ w ⟨a1,rfl,b⟩;rw[show Gw (K0 d).AE []=[] from O]at b;obtain⟨pa,pc,rfl,a0,_⟩:=b.vS 0;replace b:=b.py [0];rw[show([]:List Pr).length=0 from O];refine gG 2 (.EI (WI.round ?_));refine gG 1 (.Aw (rfl) ?_);replace b:=b.px [3];obtain⟨⟨a7,c7,r,t⟩,b⟩:=Aa.unbox b;replace b:Aa B _ _ (Ac p.wb (Ca p (w0 c)) 85::Ba p.tb (w0 c).room a7 c7 (w0 c).l (Ac p.mb [.slice r (w0 c).D.length t] 161::Cp 73 (.slice r (w0 c).D.length t) ((w0 c).D.map λd=>Bo (d:Nat))::_)):=b;refine gF 4 (OX _) ?_;rintro _ w ⟨j,rfl,b⟩;refine gH 5 (.s1 b (k:=2) O O O O O_ (by simp[OL]) ?_);intro w b;try dsimp only[List.set]at b
 refine gG 3 (.Aw (rfl) ?_);replace b:=Aa.box (T:=Bm { p with tb:=j } ({ w0 c with l:=[] }:Wd)) (none,0,r,t) (b.px [6,6,3,3,4]);have C:A6 ({ w0 c with l:=[] }:Wd):=⟨Y4 _,Wf.nil,λdd hh=>by simp[w0]at hh,by show(0:Int)<=0/\(0:Int)<=1099511627776;omega,(q8 c).room⟩
 refine gE 2 (Xua { p with tb:=j } ({ w0 c with l:=[] }:Wd) now C) ?_;intro w b;refine gG 3 ?_;obtain⟨D9,W,aa⟩:=hg;have X:=hD.unique W;subst aa;have S:D5 c d now=(0,⟨tick ({ w0 c with l:=[] }:Wd) now,[],K0 d⟩):=by
  unfold D5;exact Y3 (λh=>h H)
 rw[S];refine⟨J2,m,.inr ⟨O,⟨R,{ p with tb:=j },qb,none,0,y⟩,O,L,⟨?_,?_,Z.mono m,?_,A,Ya _,RS.nil _ _⟩,⟨OG C now,⟨Y4 _,λn hn=>by simp at hn⟩,Y4 _⟩,(b.z [3,5,2,5] 4 3)⟩⟩
 ·exact(Y.mono u).cp p.wb j
 ·show(⟨p.lo,p.us,p.ps,qcF c⟩:Cg)=_;rw[G,K,ab,X]
 ·show TT p.lo p.us;rw[G,K];exact Wx (F H) D
theorem u_(g:Cg)(x:Sp)(s:BF)(j:A6 s.Z)(o:BB I g x s)(N:La)(b:Aa B w I (Hu g x s N)):Cz 7 [ptr x.vb 0] w λv w'=>∃J d e,v=.slice d s.Z.l.length e/\Le I J/\s.Z.l.length<=e/\RS J d 10 s.Z.l.length (B9 s.Z.l)/\Aa B w' J (FE x.vb x.k.sb x.p.wb x.qb::AN x.p (s.Z)::DZ x.qb g.qc s.q x.qa x.qk::EW x.k s.k::N):=by
 replace b:=b.px [1];obtain⟨a,c,m,n,b⟩:=El b;refine gF 8 (vn _ s.Z.room a c s.Z.l (oh j.len)) ?_;rintro _ w ⟨J,d,e,rfl,i,h,f,b⟩;refine gG 1 ?_;replace b:=Aa.box (T:=Bm x.p _) (a,c,m,n) (b.px [4,4,3,3,4]);exact⟨J,d,e,O,i,h,f,(b.x [3,3,2,3])⟩
theorem Xgt(g:Cg)(x:Sp)(s:BF)(i:FI s.q)(f:BB I g x s)(N:La)(e:Aa B w I (Hu g x s N)):Cz 8 [ptr x.vb 0] w λv w'=>∃J a b,v=.slice a s.q.length b/\Le I J/\s.q.length<=b/\RS J a 4 s.q.length (X2 X8 s.q)/\Aa B w' J (FE x.vb x.k.sb x.p.wb x.qb::AN x.p (s.Z)::DZ x.qb g.qc s.q x.qa x.qk::EW x.k s.k::N):=by
 refine gF 5 (wc x.qb (JN g.qc) g.qc.x g.qc.y g.qc.z x.qa x.qk s.q i.1 f.qu.2 f.qu.1) ?_;rintro _ w ⟨J,a,b,rfl,h,d,c,e⟩;exact gG 1 ⟨J,a,b,O,h,d,c,e.s⟩
theorem Xz5(p q:Nt)(w:Wo):(Op.equalIn 10000 128 (.agg (X8 p).toArray) (.agg (X8 q).toArray)).run prog w=.ok (decide (p=q)) w:=by
 have i:prog.underlying 128=some (.struct (prog.fieldsOf 128)):=by kernel_rfl
 have j:prog.stoodInHeld 128=false:=by kernel_rfl
 rw[show(10000:Nat)=9999+1 from O,run_equalIn_agg w 9999 128 _ _ i j];simp only[Program.fieldsOf,aF]
 obtain⟨a,b,e,f⟩:=p;obtain⟨c,d,g,h⟩:=q;unfold X8
 go_simp
 repeat' split
 all_goals simp_all
theorem Ex.Ac5{g:Option (Nat×Bool)}{x y:Operand}{r s:Nt}(hx:Ev n L x (.agg (X8 r).toArray))(a:Ev n L y (.agg (X8 s).toArray)):Ex prog n L w ⟨d,.binOp .neq 128 x y t',ty,pos,af,g⟩ (.bool (!decide (r=s))) w :=
 CV hx a (λp q=>run_eqGuard_agg w _ _ _ _ _ _ kr) (by rw[run_neq_struct,Xz5];rfl)
theorem Xgc(a b:Oa)(k m:Nat)(l:List Ah)(s:l.length<=100000)(n:RS I a 10 l.length (B9 l))(o:RS I b 10 l.length (B9 l))(N:La)(c:Aa B w I N):Ce B I N 16 [.slice a l.length k,.slice b l.length m] w (.bool true):=by
 refine gG 6 ?_;refine .Aw (by rw[bne_self_eq_false];rfl) ?_;refine gG 1 (.lk [0,1] (σ:=Nat) (λi _m=>(5,Ab (i:Nat))::_m) (λi w=>i<=l.length/\Aa B w I N) (λi=>l.length-i) 0 ⟨Y4 _,c⟩ ?_);rintro i w ⟨hi,c⟩;refine gN 4 ?_ ?_<;>intro j
 ·refine gG 0 ?_;obtain⟨x,e⟩:∃x,l[i]?=some x:=⟨_,Y2 om⟩
  obtain⟨p,g,hx⟩:=aN (cells:=Xa) (λ_=>rfl) n e;obtain⟨t,f,q⟩:=aN (cells:=Xa) (λ_=>rfl) o e;subst g;subst f;refine gQ ?_;intro w c;refine gH 3 (A1.y 3 (λw _ _ d c=>.B5 (.of O) c (hx.mono d) R9 Jf O (λ_ _ h=>h)) (gH 3 (A1.y 7 (λw _ _ d c=>.B5 (.of O) c (q.mono d) R9 Jf O (λ_ _ h=>h)) (A1.y 8 (λw _ _ d c=>Ex.gO (r:=x) (.of O) (.of O)) (gG 0 ?_)))));refine .Aw (by rw[decide_eq_true O];rfl) ?_;exact gG 3 (rd (i+1) ⟨om,c⟩)
 exact gG 1 ⟨O,c⟩
theorem Xle(a b:Oa)(k m:Nat)(l:List Nt)(s:l.length<=100000)(n:RS I a 4 l.length (X2 X8 l))(o:RS I b 4 l.length (X2 X8 l))(N:La)(c:Aa B w I N):Ce B I N 17 [.slice a l.length k,.slice b l.length m] w (.bool true):=by
 refine gG 6 ?_;refine .Aw (by rw[bne_self_eq_false];rfl) ?_;refine gG 1 (.lk [0,1] (σ:=Nat) (λi _m=>(5,Ab (i:Nat))::_m) (λi w=>i<=l.length/\Aa B w I N) (λi=>l.length-i) 0 ⟨Y4 _,c⟩ ?_);rintro i w ⟨hi,c⟩;refine gN 4 ?_ ?_<;>intro j
 ·refine gG 0 ?_;obtain⟨x,e⟩:∃x,l[i]?=some x:=⟨_,Y2 om⟩
  obtain⟨p,g,hx⟩:=aN (cells:=X8) (λ_=>rfl) n e;obtain⟨t,f,q⟩:=aN (cells:=X8) (λ_=>rfl) o e;subst g;subst f;refine gQ ?_;intro w c;refine gH 3 (A1.y 3 (λw _ _ d c=>.B5 (.of O) c (hx.mono d) mI R_ O (λ_ _ h=>h)) (gH 3 (A1.y 7 (λw _ _ d c=>.B5 (.of O) c (q.mono d) mI R_ O (λ_ _ h=>h)) (A1.y 8 (λw _ _ d c=>Ex.Ac5 (r:=x) (.of O) (.of O)) (gG 0 ?_)))));refine .Aw (by rw[decide_eq_true O];rfl) ?_;exact gG 3 (rd (i+1) ⟨om,c⟩)
 exact gG 1 ⟨O,c⟩
theorem bM(a b:Lu):Ao (a++b)=Ao a++Ao b:=Yn
theorem cI{d:Dk}(h:Dz d)(i:Nat):((d.kept.take i).flatten).length<=32*i:=by
 have b:∀(l:List Lu) (i:Nat),(∀x∈l,x.length=32)->((l.take i).flatten).length<=32*i:=by
  intro l
  induction l with
  | nil=>intro i _;simp
  | cons y r c =>
   intro i a;cases i with
   | zero=>simp
   | succ i =>
    rw[Iw,Fx,Y0,a y sz]
    have:=c i (λx hx=>a x (by simp[hx]))
    omega
 exact b _ i h.kept
theorem Xya(d:Dk)(db kb:Nat)(sv pl:Va)(e:Dz d)(r:d.kept.length<=1000)(N:La)(a:Aa B w I (BI db kb sv pl d N)):Cz 9 [ptr db 0] w λv w'=>Aa B w' I (An 5 1 v (d.kept.flatten).length (Ao d.kept.flatten)::BI db kb sv pl d N):=by
 refine gG 8 ?_;replace a:=a.Ai 5 1;refine .lk [9,10] (σ:=Nat×Va) (λ(i,c) _m=>(3,c)::(11,Ab (i:Nat))::_m) (λ(i,c) w=>i<=d.kept.length/\Aa B w I (An 5 1 c ((d.kept.take i).flatten).length (Ao ((d.kept.take i).flatten))::BI db kb sv pl d N)) (λ(i,c)=>d.kept.length-i) (0,.slice none 0 0) ⟨Y4 _,a⟩ ?_;rintro⟨i,c⟩ w ⟨hi,a⟩;refine gN 1 ?_ ?_<;>intro g
 ·obtain⟨x,hx⟩:∃x,d.kept[i]?=some x:=⟨_,Y2 om⟩
  have b:=e.kept x (Y7 hx);have m:((d.kept.take i).flatten).length<=32*i:=cI e i;obtain⟨t,u,rfl,o,_⟩:=a.vS 0;refine gH 1 ?_;refine .val (.DY (.of O) a (k:=2) O isAgg96 Gt (by rw[TH];exact b) (λj v n=>by rw[Yk];(try rw[Yd]);exact wN (VF e) hx n)) O ?_;refine .EE a zeroValue96 O ?_;clear a;intro q w a;refine .so a (k:=0) O O O (HD _) Gt (by rw[TH];exact b) sz ?_;clear a;intro w a;replace a:=a.say (k:=0) O (λh l=>by rw[Gl,Db,Yb sz,Yy]at l;exact l);dsimp only[List.set]at a
  refine gH 1 (.val (.B8 (.of O) de iw DT) O ?_);refine .append (bytes:=1) a (.of O) (.of O) (k:=0) O BV (i:=t5) kr O O O O (by rw[TH];omega) O (HD _) ⟨om,by unfold maxLen;omega⟩ O ?_;clear a;intro p w a;try dsimp only[List.set]at a
  refine gG 3 ?_;have f:(d.kept.take (i+1)).flatten=(d.kept.take i).flatten++x:=by rw[Yv,hx,DE,PN,Y6i]
  refine A_ (_,_) O ⟨od,?_⟩
  (try dsimp only)
  rw[f,bM,Y0,b];exact(a.x [3,3,3,3])
 refine gG 2 (?_);rw[show d.kept.take i=d.kept from Yo om]at a;exact a.s
theorem Xpn(a b:Oa)(d e:Nat)(l:Lu)(f:RS I a 1 l.length (Ao l))(g:RS I b 1 l.length (Ao l))(N:La)(c:Aa B w I N):Ce B I N 18 [.slice a l.length d,.slice b l.length e] w (.bool true):=by
 refine gH 2 (.val (.EF (l:=l) (.of O) c f BV BP A8) O (gH 1 (.val (.EF (l:=l) (.of O) c g BV BP A8) O ?_)));exact gG 2 ⟨Yc Value.bool (beq_self_eq_true l),c⟩
theorem Xzn(a:Oa)(c:Nat)(l:List Lu)(t:Lu)(r:l.length<=100000)(o:RS I a 1 l.length (l.map S))(N:La)(e:Aa B w I N):Ce B I N 13 [.slice a l.length c,S t] w (.bool (l.contains t)):=by
 refine gG 2 (.lk [0,1] (σ:=Nat) (λi _m=>(5,Ab (i:Nat))::_m) (λi w=>i<=l.length/\l.contains t=(l.drop i).contains t/\Aa B w I N) (λi=>l.length-i) 0 ⟨Y4 _,O,e⟩ ?_);rintro i w ⟨hi,g,e⟩;refine gN 4 ?_ ?_<;>intro q
 ·obtain⟨x,d⟩:∃x,l[i]?=some x:=⟨_,Y2 om⟩
  obtain⟨p,j,n⟩:∃p,a=some p/\At I p (l.map S):=o.2 om;subst j;have h:(l.map S)[i]?=some (S x):=by rw[Yr,d];rfl
  have f:l.drop i=x::l.drop (i+1):=by rw[Ym (Y1.1 d).1,(Y1.1 d).2]
  refine gH 3 ?_;refine .val (.ld1 (.of O) (by have m:=Xv e n h;simpa using m) Bg) O ?_;refine gM 2 ?_ ?_<;>intro b k
  ·refine gG 1 (⟨Yc Value.bool ?_,e⟩);rw[g,f,um,show(t==x)=true by rw[BEq.comm];exact b];rfl
  refine gG 3 (A_ (_) O ⟨od,?_,e⟩);rw[g,f,um,show(t==x)=false by rw[BEq.comm];exact b,K9]
 refine gG 1 (⟨Yc Value.bool ?_,e⟩);rw[g,Yb om];rfl
theorem Xyj(s:Lu)(E:s.length<=10000)(n:Oa)(C:Nat)(l:List Lu)(D:l.length<=1000000000000)(h:∀x∈l,x.length<=60)(u:RS I n 1 l.length (l.map S))(N:La)(c:Aa B w I N):Cz 57 [S s,.slice n l.length C] w λv w'=>∃o:Lu,v=S o/\o.length<=64*s.length/\Aa B w' I N:=by
 refine gG 3 (.lk [0,1] (σ:=Lu×Nat) (λ(a,i) _m=>(5,S a)::(6,Ab (i:Nat))::_m) (λ(a,i) w=>i<=s.length/\a.length<=64*i/\Aa B w I N) (λ(a,i)=>s.length-i) ([],0) ⟨Y4 _,Y4 _,c⟩ ?_);rintro⟨a,i⟩ w ⟨hi,y,c⟩;refine gN 4 ?_ ?_<;>intro q
 ·refine gH 14 (gH 14 ?_);refine gM 4 ?_ ?_<;>intro b r
  ·have g:=b;simp only[Y8,dq1]at g
   refine gG 7 ?_;have m:IntKind.u8.wrap (((at_ s ((i:Int)+1)).toNat:Int)-48)=((at_ s ((i:Int)+1)).toNat:Int)-48:=by rw[IntKind.wrap_u8];omega
   rw[m];refine gN 4 ?_ ?_<;>intro f
   ·obtain⟨x,d⟩:∃x,l[((l.length:Int)-1-(((at_ s ((i:Int)+1)).toNat:Int)-48)).toNat]?=some x:=⟨_,Y2 (oh f)⟩
    have A:=h x (Y7 d);obtain⟨p,k,t⟩:∃p,n=some p/\At I p (l.map S):=u.2 (oh ((Y1.1 d).1));subst k;have j:(l.map S)[((l.length:Int)-1-(((at_ s ((i:Int)+1)).toNat:Int)-48)).toNat]?=some (S x):=by rw[Yr,d];rfl
    refine gH 8 ?_;refine .val (.ld1 (.of O) (by have e:=Xv c t j;simpa using e) Bg) O ?_;refine gG 8 ?_;refine A_ (_,_) O ⟨by(try dsimp only);have e:=b;simp only[Y8,dq1]at e;omega,by(try dsimp only);rw[Y0];omega,c⟩
   refine gG 6 ?_;refine A_ (_,_) O ⟨by(try dsimp only);have e:=b;simp only[Y8,dq1]at e;omega,od,c⟩
  have z:(List.take ((((i:Nat):Int)+1).toNat-((i:Nat):Int).toNat) (List.drop ((i:Nat):Int).toNat s)).length<=10000:=by rw[Yl,Y6];omega
  refine gG 11 ?_;refine A_ (_,_) O ⟨od,by(try dsimp only);rw[Y0,Yl,Y6];omega,c⟩
 exact gG 2 ⟨a,O,om,c⟩
theorem Aa.Ac2{E:Nat}(Q:Aa B w I N)(T:N[k]?=some (An E size (.slice a nn c) nn xs)):∃J,Le I J/\RS J a size nn xs/\Aa B w J (N.eraseIdx k)/\∀w' Bh,Aa B w' J Bh->Aa B w' I (An E size (.slice a nn c) nn xs::Bh):=by
 obtain⟨h,W,S⟩:=Q;obtain⟨X,P,V,⟨p,R⟩,_,H,K,o⟩:=W.at_ T;have g:=S.perm V;rcases R with⟨C,M,rfl⟩|⟨b,cap,rest,C,rfl,s,t,v⟩
 ·refine⟨I,Le.refl I,⟨p,λh=>Yz h om⟩,⟨H,K,Good.perm g.right o.symm⟩,λw' Bh l=>?_⟩;obtain⟨n,m,d⟩:=l;exact⟨n,⟨[],n,O,⟨p,.inl ⟨C,M,O⟩⟩,m⟩,d⟩
 ·injection C with D _ F
  subst D;subst F;have r:I b=none:=g.apart b (Xh (xs++rest) E) sz;have U:b ∉ P.map (·.1):=by
   have:=g.nodup
   simp only[Em,Db,Yu,T6]at this
   exact this.1
  refine⟨λx=>if x=b then some (Xh (xs++rest) E)else I x,⟨λx y hx=>?_⟩,⟨p,λ_=>⟨_,O,O,_,_,_,Y9 O,λj u L=>?_⟩⟩,⟨H,K,Good.perm ⟨g.os,g.tape,g.output,λx y hx=>?_,g.right.own,g.right.nodup,λx y i=>?_⟩ o.symm⟩,λw' Bh l=>?_⟩
  ·by_cases e:x=b
   ·subst e;rw[r]at hx;cases hx
   ·simpa[e]using hx
  ·have z:j<xs.length:=(Y1.1 L).1;simp only[Yk,pG]
   rw[Ye z];exact L
  ·by_cases e:x=b
   ·subst e;simp only[if_true,Option.some.injEq]at hx
    subst hx;exact g.own x _ sz
   ·exact g.GN x y (by simpa[e]using hx)
  ·have hx:x≠b:=λe=>U (e▸gg (f:=(·.1)) i)
   simp only[hx,if_false]
   exact g.right.apart x y i
  ·obtain⟨n,m,d⟩:=l;have A:b ∉ n.map (·.1):=λi=>by
    obtain⟨⟨x,y⟩,G,e⟩:=Dt.1 i
    have:=d.apart x y G
    simp only at e
    rw[Y9 e]at this;cases this
   refine⟨(b,Xh (xs++rest) E)::n,⟨[_],n,O,⟨p,.inr ⟨b,c,rest,O,O,s,t,v⟩⟩,m⟩,⟨d.os,d.tape,d.output,λx y hx=>?_,λx y i=>?_,?_,λx y i=>?_⟩⟩
   ·refine d.GN x y ?_
    by_cases e:x=b
    ·subst e;rw[r]at hx;cases hx
    ·simpa[e]using hx
   ·rcases Yp.1 i with e|i
    ·cases e;exact d.GN b _ (Y9 O)
    ·exact d.own x y i
   ·rw[Yu,T6];exact⟨A,d.nodup⟩
   ·rcases Yp.1 i with e|i
    ·cases e;exact r
    ·have q:=d.apart x y i
     by_cases e:x=b
     ·rw[Y9 e]at q;cases q
     ·simpa[e]using q
theorem sM{r:Co}(h:Ei r):(Dq r).length<=70000000:=by
 unfold Dq mG;split
 ·rename_i d
  have a:=Xda d;obtain⟨k,b,c⟩:=Xpi a.1;have e:=sC 2000000 (HG r) (JW r) (λx hx=>by have:=rN h a.2.2 x hx;omega);have f:=OH (r:=r) (by rw[b];show k<=1000;omega);have g:=rZ r;have i:CR.length=2:=rfl;show(((HG r).foldl jr (JW r)++CR)++r.body).length<=_
  rw[Y0,Y0];omega
 ·exact Y4 _
theorem Xx2{a c b:Lu}(j:a.length<=100000)(i:c.length<=100000)(hi:b.length<=100000):(Zu a c b).1.length<=2000000:=by
 unfold Zu;split
 ·have d:=Xw8 a;have e:=Wt a;have f:=Nl a c b;have g:=OB (u:=jl (pU a).1 c b) d.1 d.2.1 d.2.2;have h:(jl (pU a).1 c b).path.length=(pU a).1.path.length:=rfl;show(GZ (jl (pU a).1 c b)).length<=_
  omega
 ·exact Y4 _
theorem V_{s:BF}(a:A6 s.Z)(g:FI s.q):(A9 s).1.1.length<=100/\(A9 s).1.2.1.length<=2000000/\(A9 s).1.2.2.length<=1000000:=by
 unfold A9;split
 ·have c:=oz a.wf (Eo s);have d:=oz a.wf (getD s.Z.l (Eo s)).parent;have e:=(oM a.wf (getD s.Z.l (Eo s)).parent).2.1;exact⟨by dsimp only;omega,Xx2 om om om,Y4 _⟩
 ·split
  ·rename_i f
   have b:=g.2 _ (vO f);unfold FO at b;simp only[Y8,dq1]at b
   have c:=(iL b.1.1.1.1.1).2;have d:=YZ (RZ (Ej s.q s.Z.now).1.ticket (Ej s.q s.Z.now).1.next.toNat);have e:=xT (t:=(Ej s.q s.Z.now).1.ticket) (nn:=(Ej s.q s.Z.now).1.next.toNat) om om;have h:FB.length=14:=rfl;refine⟨by dsimp only;omega,by dsimp only;omega,?_⟩;show(FB++Aq (RZ _ _)).length<=_
   rw[Y0];omega
  ·exact⟨Y4 _,Y4 _,Y4 _⟩
theorem W8{g:Cg}{s:BF}{id:Lu}{n:Int}:(FU g s id n).1.1.length<=70000000:=by
 unfold FU;dsimp only
 (repeat' split)
 all_goals first|exact Y4 _|exact sM (MJ de)|exact sM (w4 _ _ _ _)
abbrev Dl(Z Z2:Wd):Prop:=Z2.D.length<=Z.D.length
theorem kT{b:Lu->Bool}{a:Int}{D:List Nat}:(Hb b a D).2.length<=D.length:=by
 unfold Hb
 (repeat' split)
 all_goals first|exact Ya _|(simp only[Y5];omega)
theorem nr(Z:Wd)(r:Ah):Dl Z (AA Z r).2:=by
 unfold AA;split<;>exact kT
theorem Xvc{lo:List Sv}(Z:Wd)(t s:Lu)(f:Bool):Dl Z (Dx lo ps Z t s f).2:=by
 unfold Dx
 (repeat' split)
 all_goals first|exact Ya _|exact nr _ _
theorem VO{us:List Us}(Z:Wd)(t u p:Lu):Dl Z (Ew us ps Z t u p).2:=by
 unfold Ew
 (repeat' split)
 all_goals first|exact Ya _|exact nr _ _
theorem YI(Z:Wd)(q:Qr):Dl Z (Xo ps Z q).2:=by
 unfold Xo
 (repeat' split)
 all_goals exact Ya _
theorem bP{lo:List Sv}(Z:Wd)(t a:Lu):Dl Z (Xi lo Z t a).2:=by
 have b:=nr Z (CE lo Z t a);have c:=nr (AA Z (CE lo Z t a)).2 (MY (AA Z (CE lo Z t a)).1.1);unfold Xi
 (repeat' split)
 all_goals first|exact Ya _|exact b|exact Yq c b
theorem VA{lo:List Sv}(Z:Wd)(p t:Lu):Dl Z (Ge lo ps Z p t).2:=by
 unfold Ge
 (repeat' split)
 all_goals first|exact Ya _|exact nr _ _
theorem Lo(Z:Wd)(t:Lu):(Kn Z t).D=Z.D:=by unfold Kn;split<;>rfl
theorem Vi(s:Bj)(n a:Lu):Dl s.Z (FR s n a).Z:=by unfold FR C9;split<;>exact nr _ _
theorem RW{g:Cg}{l:List Pq}{sv:Lu}(s:Bj):Dl s.Z (HC g l Ay sv s).Z:=by
 unfold HC C9;dsimp only
 (repeat' split)
 all_goals first|exact Ya _|exact Xvc _ _ _ _
theorem qT{g:Cg}{l:List Pq}{ck:Lu}(s:Bj):Dl s.Z (M0 g k l ck s).Z:=by
 have d:∀a b,Dl s.Z (Dg g l a b s).Z:=λa b=>by
  have c:=YI (ps:=g.ps) s.Z (AO l a);have e:=bP (lo:=g.lo) (Xo g.ps s.Z (AO l a)).2 (Xb l Ad) (Xb l X9);unfold Dg;dsimp only;split
  ·exact c
  ·split
   ·exact Yq e c
   ·dsimp only;split<;>exact Yq e c
 match k with
 | 0=>show Dl s.Z (DU g l ck s).Z;unfold DU C9;dsimp only;(repeat' split)<;>first|exact Ya _|exact Vi _ _ _|exact Xvc _ _ _ _
 | 1 =>
  have c:=VO (us:=g.us) (ps:=g.ps) s.Z (Xb l Hj) (Xb l Xr) (Xb l Xx);show Dl s.Z (Fp g l s).Z;unfold Fp C9;dsimp only;(repeat' split)
  all_goals first|exact Ya _|exact c|exact Yq (Vi _ _ _) c|exact Yq (RW _) c
 | 2=>show Dl s.Z (G6 g ck s).Z;unfold G6 C9;dsimp only;split<;>exact uB (Yc List.length (Lo s.Z ck))
 | 3=>exact YI _ _
 | 4=>exact d _ _
 | 5=>exact d _ _
 | 6=>exact d _ _
 | 7=>exact d _ _
 | k+8=>exact VA _ _ _
theorem kg{g:Cg}{s:BF}{l:List Pq}{ck:Lu}:Dl s.Z (DV g s k l ck).Z:=by
 unfold DV C9;dsimp only
 split<;>exact qT (Di s)
theorem tG{s:BF}{t:Bj}(h:Dl s.Z t.Z):Dl s.Z (DC s t).2.Z:=by
 unfold DC;dsimp only
 (repeat' split)
 all_goals exact h
theorem p8{g:Cg}{s:BF}{b:Lu}:Dl s.Z (DA g s b).2.Z:=by
 unfold DA;dsimp only
 (repeat' split)
 all_goals first|exact Ya _|exact tG kg
theorem a_{g:Cg}{Z:Wd}{r:Ah}{n:Int}:(BD g Z r n).D=Z.D:=by
 unfold BD ML
 (repeat' split)
 all_goals rfl
theorem eB{g:Cg}{s:BF}{a:Lu}{n:Int}:Dl s.Z (FU g s a n).2.Z:=by
 have h:Dl s.Z (BD g s.Z (getD s.Z.l a) n):=uB (Yc List.length a_);unfold FU;dsimp only
 (repeat' split)
 all_goals first|exact Ya _|exact h|exact tG h|exact tG (Ya _)
theorem sN{g:Cg}:∀(l:List Lu) (Z:Wd) (q:List Nt),(KS g l Z q).2.1.D=Z.D
 | [],_,_=>rfl
 | n::r,Z,q=>by
  unfold KS
  (repeat' split)
  ·exact Lo Z n
  ·rw[sN r];exact Lo Z n
  ·rw[sN r];rfl
  ·rw[sN r];rfl
theorem XO{g:Cg}{s:BF}:Dl s.Z (R8 g s).2.Z:=by
 have h:Dl s.Z (PA g s).2.1:=uB (Yc List.length (sN _ _ _));unfold R8;split
 ·exact h
 ·exact tG h
theorem cx{g:Cg}{s:BF}{b:Lu}(h:AZ s 800000):(DA g s b).1.1.length<=70000000:=by
 have a:Ei (Xq 400)/\Ei (Xq 404)/\Ei (Xq 405)/\Ei (Xq 503):=⟨MJ de,MJ de,MJ de,MJ de⟩
 unfold DA;dsimp only
 (repeat' split)
 all_goals first|exact Y4 _|exact sM a.1|exact sM (sT h _ _ _).2.2
theorem Xoc(s:Bj)(n a:Lu):(FR s n a).call=s.call:=by unfold FR C9;split<;>rfl
theorem W3{g:Cg}{l:List Pq}{ck:Lu}{s:Bj}(c:s.call.length<=2000000):(M0 g k l ck s).call.length<=2000000:=by
 have d:∀a b,(Dg g l a b s).call.length<=2000000:=λa b=>by
  unfold Dg;dsimp only;split
  ·exact c
  ·split
   ·exact c
   ·exact Xx2 CG.1 CG.2.1 CG.2.2
 match k with
 | 0=>show(DU g l ck s).call.length<=_;unfold DU C9;dsimp only;(repeat' split)<;>first|exact c|(rw[Xoc];exact c)
 | 1=>show(Fp g l s).call.length<=_;unfold Fp HC C9;dsimp only;(repeat' split)<;>first|exact c|(rw[Xoc];exact c)
 | 2=>show(G6 g ck s).call.length<=_;unfold G6 C9;dsimp only;split<;>exact c
 | 3=>exact c
 | 4=>exact d _ _
 | 5=>exact d _ _
 | 6=>exact d _ _
 | 7=>exact d _ _
 | k+8=>exact c
theorem UP{g:Cg}{s:BF}{b:Lu}:(DA g s b).1.2.length<=2000000:=by
 have h:∀k l ck,(DV g s k l ck).call.length<=2000000:=λk l ck=>by
  have:=W3 (g:=g) (k:=k) (l:=l) (ck:=ck) (s:=Di s) (Y4 _)
  unfold DV C9;dsimp only
  split<;>exact this
 unfold DA;dsimp only
 (repeat' split)
 all_goals first|exact Y4 _|exact h _ _ _
theorem Xtg(k:Int)(N:La)(a:Aa B w I N):Cz 230 [Ab k] w λv w'=>∃p,v=S p/\p.length<=6/\Aa B w' I N:=by
 refine gN 4 ?_ ?_<;>intro e
 ·exact gG 1 ⟨_,O,de,a⟩
 refine gN 2 ?_ ?_<;>intro f
 ·exact gG 1 ⟨_,O,de,a⟩
 refine gN 2 ?_ ?_<;>intro g
 ·exact gG 1 ⟨_,O,de,a⟩
 refine gN 2 ?_ ?_<;>intro b
 ·exact gG 1 ⟨_,O,de,a⟩
 refine gN 2 ?_ ?_<;>intro c
 ·exact gG 1 ⟨_,O,de,a⟩
 refine gN 2 ?_ ?_<;>intro d
 ·exact gG 1 ⟨_,O,de,a⟩
 exact gG 1 ⟨_,O,de,a⟩
theorem Xzo(s:Lu)(t:s.length<=1000)(N:La)(d:Aa B w I N):Cz 134 [S s] w λv w'=>∃a b c,v=.tuple #[Ab a,Bo b,.bool c]/\Aa B w' I N:=by
 refine gG 4 (.lk [0] (σ:=Nat) (λk _m=>(5,Ab (k:Nat))::_m) (λk w=>1<=k/\k<=7/\Aa B w I N) (λk=>7-k) 1 ⟨Ya _,de,d⟩ ?_);rintro k w ⟨m,n,d⟩;refine gN 2 ?_ ?_<;>intro f
 ·refine gF 1 (Xtg (k:Nat)) ?_;clear d;rintro _ w ⟨p,rfl,q,d⟩;have o:(p++[45]).length=p.length+1:=by simp
  refine gH 14 ?_;refine gN 3 ?_ ?_<;>intro e
  ·exact gG 3 (rd (k+1) ⟨om,om,d⟩)
  refine gG 4 (.lk [0,5] (σ:=Int×Bool×Nat) (λ(x,b,i) _m=>(8,Bo x)::(9,.bool b)::(10,Ab (i:Nat))::_m) (λ(x,b,i) w=>i<=s.length/\Aa B w I N) (λ(x,b,i)=>s.length-i) (0,true,(p++[45]).length) ⟨by have r:=e.1;omega,d⟩ ?_);rintro⟨x,b,i⟩ w ⟨hi,d⟩;refine gN 4 ?_ ?_<;>intro g
  ·refine gN 11 ?_ ?_<;>intro h
   ·exact gG 10 (A_ (_,b,i+1) O ⟨od,d⟩)
   refine gN 7 ?_ ?_<;>intro j
   ·exact gG 11 (A_ (_,b,i+1) O ⟨od,d⟩)
   exact gG 4 (rd (x,false,i+1) ⟨od,d⟩)
  refine gN 1 ?_ ?_<;>intro l
  ·exact gG 5 ⟨_,_,_,O,d⟩
  exact gG 3 (rd (k+1) ⟨om,om,d⟩)
 exact gG 3 ⟨_,_,_,O,d⟩
theorem Rs(s:Lu)(F:s.length<=100000000)(N:La)(b:Aa B w I N):Cz 64 [S s] w λv w'=>∃L:List Lu,L.length<=s.length/\(∀x∈L,x.length<=60)/\Aa B w' I (An 9 1 v (L).length ((L).map S)::N):=by
 refine gG 3 ?_;replace b:=b.Ai 9 1;refine .lk [0] (σ:=Nat×Va×List Lu) (λ(at_,d,a) _m=>(3,d)::(4,Ab (at_:Nat))::_m) (λ(at_,d,a) w=>at_<=s.length/\a.length<=at_/\(∀x∈a,x.length<=60)/\Aa B w I (An 9 1 d (a).length ((a).map S)::N)) (λ(at_,d,a)=>s.length-at_) (0,.slice none 0 0,[]) ⟨Y4 _,Y4 _,λx hx=>by simp at hx,b⟩ ?_;rintro⟨at_,d,a⟩ w ⟨e,m,c,b⟩;refine gN 4 ?_ ?_<;>intro o
 ·refine gG 2 (.lk [0,3,4] (σ:=Nat×Nat) (λ(j,n) _m=>(5,Ab (n:Nat))::(6,Ab ((18+j:Nat):Int))::_m) (λ(j,n) w=>j<=6/\n<=23/\at_+n<=s.length/\Aa B w I (An 9 1 d (a).length ((a).map S)::N)) (λ(j,n)=>6-j) (0,0) ⟨Y4 _,Y4 _,e,b⟩ ?_);rintro⟨j,n⟩ w ⟨D,E,u,b⟩;refine gN 10 ?_ ?_<;>intro p
  ·have y:j<6/\at_+(18+j)<=s.length:=om
   refine gH 5 (.val (.H7 (l:=s) (i:=(at_:Int)) (j:=((at_+(18+j):Nat):Int)) (.of O) (.of O) (.of O) om om om A8) O ?_);rw[show(s.drop (at_:Int).toNat).take (((at_+(18+j):Nat):Int).toNat-(at_:Int).toNat)=(s.drop at_).take (18+j)by(try rw[Yd]);rw[Yd,aS]];refine gF 0 (Xzo ((s.drop at_).take (18+j)) (by rw[Yl];omega)) ?_;clear b;rintro _ w ⟨z,A,C,rfl,b⟩;refine gN 8 ?_ ?_<;>intro q
   ·exact gG 5 (rd (j+1,18+j) ⟨od,od,od,b⟩)
   exact gG 3 (rd (j+1,n) ⟨od,od,od,b⟩)
  refine gN 2 ?_ ?_<;>intro r
  ·refine gH 6 (.val (.H7 (l:=s) (i:=(at_:Int)) (j:=((at_+n:Nat):Int)) (.of O) (.of O) (.of O) om om om A8) O ?_);rw[show(s.drop (at_:Int).toNat).take (((at_+n:Nat):Int).toNat-(at_:Int).toNat)=(s.drop at_).take n by(try rw[Yd]);rw[Yd,aS]];refine gG 8 ?_;clear b;intro t g k f w b;refine⟨(at_+n,.slice g (a.length+1) k,a++[(s.drop at_).take n]),⟨O,by show some (Value.int IntKind.i64 _)=some (Value.int IntKind.i64 _);rw[show(max 1 (n:Int))=(n:Int)by omega];rfl,O,trivial⟩,⟨od,by(try dsimp only);rw[Y0];show a.length+1<=_;omega,λx hx=>?_,?_⟩,od⟩
   ·rcases Ys.1 hx with h|h
    ·exact c x h
    ·rw[PQ.1 h,Yl];omega
   ·(try dsimp only)
    rw[Y0,Yn];exact b
  exact gG 5 ⟨(at_+1,d,a),⟨O,by show some (Value.int IntKind.i64 _)=some (Value.int IntKind.i64 _);rw[show(max 1 (n:Int))=1 by omega];rfl,O,trivial⟩,⟨od,od,c,b⟩,od⟩
 exact gG 2 ⟨a,Yq m e,c,b⟩
theorem XK(l:List Lu):(l.map S).all Value.oneCell'=true:=by rw[Dj];intro v a;obtain⟨d,_,rfl⟩:=Dt.1 a;rfl
theorem Xz3(c:List Lu)(n:∀t∈c,t.length<=60)(b:Va)(r:Oa)(G:Nat)(l:List Lu)(P:c.length<=1000000000000)(L:l.length<=1000)(g:∀x∈l,x.length<=100000000)(D:RS I r 1 l.length (l.map S))(N:La)(a:Aa B w I (An 9 1 b (c).length ((c).map S)::N)):Cz 25 [b,.slice r l.length G] w λv w'=>∃M:List Lu,M.length<=c.length+100000000*l.length/\(∀x∈M,x.length<=60)/\Aa B w' I (An 9 1 v (M).length ((M).map S)::N):=by
 refine gG 2 (.lk [1] (σ:=Va×Nat×List Lu) (λ(b,i,M) _m=>(0,b)::(5,Ab (i:Nat))::_m) (λ(b,i,M) w=>i<=l.length/\M.length<=c.length+100000000*i/\(∀x∈M,x.length<=60)/\Aa B w I (An 9 1 b (M).length ((M).map S)::N)) (λ(b,i,M)=>l.length-i) (b,0,c) ⟨Y4 _,Ya _,n,a⟩ ?_);rintro⟨b,i,M⟩ w ⟨hi,h,d,a⟩;refine gN 4 ?_ ?_<;>intro E
 ·refine gG 0 ?_;obtain⟨x,e⟩:∃x,l[i]?=some x:=⟨_,Y2 om⟩
  have q:=g x (Y7 e);obtain⟨p,o,A⟩:∃p,r=some p/\At I p (l.map S):=D.2 om;subst o;have m:(l.map S)[i]?=some (S x):=by rw[Yr,e];rfl
  refine gH 4 ?_;refine .val (v:=S x) (.ld1 (.of O) (by have z:=Xv a A m;simpa using z) Bg) O ?_;refine gF 0 (Rs x q) ?_;clear a;rintro H w ⟨u,C,f,a⟩;obtain⟨J,K,rfl,F,_⟩:=a.vS 0;refine .D_ (size:=1) (bytes:=16) a (.of O) (.of O) (k:=1) (j:=0) O O D6 (i:=t9) kr O O O O (XK _) ⟨om,by unfold maxLen;omega⟩ O ?_;clear a;intro s w a;try dsimp only[List.set]at a
  refine gG 4 ?_;refine rd (s,i+1,M++u) ⟨od,by(try dsimp only);rw[Y0];omega,λx hx=>(Ys.1 hx).elim (d x) (f x),?_⟩
  (try dsimp only)
  rw[Y0,Yn];exact a.y 0 1
 exact gG 2 ⟨M,Yq h om,d,a⟩
theorem AZ.up{s:BF}(h:AZ s n)(a:n<=m):AZ s m:=⟨h.Z,h.q,Yq h.AE a⟩
structure Fm where
 act:Int
 b:Lu
 n:Int
 D:List Nat
 P:List Bool
structure Fm.fits(o:Fm):Prop where
 b:o.b.length<=5000
 D:o.D.length<=12
 n:o.n<=9223372036854775807
 small:∀d∈o.D,d<18446744073709551616
structure Gp(I:Im)(o:Fm)(da la:Oa):Prop where
 gx:RS I da 1 o.D.length (o.D.map λd=>Bo (d:Nat))
 AH:RS I la 1 o.P.length (o.P.map Value.bool)
theorem Gp.mono{o:Fm}{a la:Oa}(h:Gp I o a la)(b:Le I J):Gp J o a la:=⟨h.gx.mono b,h.AH.mono b⟩
structure nT(g:Cg)(x:Sp)(s:BF)(n:Nat)(J:Im)(x2:Sp)(s2:BF):Prop where
 vb:x2.vb=x.vb
 db:x2.k.db=x.k.db
 at_:BB J g x2 s2
 ok:AZ s2 (n+256)
 left:s2.Z.D.length<=s.Z.D.length+12
theorem NB{s:BF}{o:Fm}(hu:AZ s n)(b:o.fits):AZ { s with Z:={ s.Z with D:=s.Z.D++o.D } } n :=
 ⟨⟨hu.Z.len,hu.Z.wf,λd a=>(Ys.1 a).elim (hu.Z.D d) (b.small d),hu.Z.now,hu.Z.room⟩,hu.q,hu.AE⟩
structure Tld(J:Im)(L:List Lu)(ra:Oa):Prop where
 row:RS J ra 1 L.length (L.map S)
 len:L.length<=4
 each:∀t∈L,t.length<=100000000
theorem UO(g:Cg)(x:Sp)(s:BF)(o:Fm)(R:Oa)(Y:Nat)(la:Oa)(lc:Nat)(K:Oa)(M:Nat)(u:List Lu)(n:Nat)(ho:o.fits)(h7:o.act≠7)(hs:AZ s n)(hn:n<=800000)(hd:s.Z.D.length<=1000)(aw:u.length<=1000000000000)(X:∀t∈u,t.length<=60)(hE:Gp I o R la)(c:BB I g x s)(N:La)(a:Aa B w I (An 9 1 (.slice K u.length M) u.length (u.map S)::Hu g x s N)):Cz 24 [ptr x.vb 0,ptr x.k.db 0,.agg ([Ab o.act,S o.b,Ab o.n,.slice R o.D.length Y,.slice la o.P.length lc]:Lv).toArray,.slice K u.length M] w λv w'=>∃J y s2 L ra rc e,Le I J/\v=.tuple #[.slice ra L.length rc,e]/\Tld J L ra/\nT g x s n J y s2/\Aa B w' J (An 9 1 (.slice K u.length M) u.length (u.map S)::eH g y s2++N):=by
 have r:=hs.up hn;refine gG 7 ?_;intro b6 w a;refine gN 0 ?_ ?_<;>intro ab
 ·refine gH 4 ?_;obtain⟨JL,ar,T,a,E⟩:=Aa.Ac2 (k:=1) a O;refine gF 0 (Xyj o.b (oh ho.b) K M u om X T) ?_;rintro _ w ⟨f,rfl,au,a⟩;replace a:=E _ _ a;try dsimp only[List.eraseIdx]at a
  have W:f.length<=1000000:=by have:=ho.b;omega
  refine gF 0 (tF g x s f W r c) ?_;rintro _ w ⟨rfl,F,y,d,j,l,i,a⟩;refine gG 9 ?_;intro am ao w a;have U:=cx (g:=g) (b:=f) r;have V:=UP (g:=g) (s:=s) (b:=f);have A:∀t∈[(DA g s f).1.1,(DA g s f).1.2],t.length<=100000000:=by
   intro t G;simp only[Yp,E6,or_false]at G
   rcases G with rfl|rfl<;>omega
  have p:=a.A2 (size:=1) (n:=2) (k:=0) O O (by unfold maxLen;omega);obtain⟨Q,m,C,a⟩:=p.fV 0;clear p;exact⟨Q,y,(DA g s f).2,[(DA g s f).1.1,(DA g s f).1.2],_,_,_,(d).trans m,O,⟨C,Yx O,A⟩,⟨j,l,(i).mono m,Ll hs f,Yq p8 (K7 _ _)⟩,(a.z [4,4,4,4,5] 5 2)⟩
 refine gN 2 ?_ ?_<;>intro ac
 ·refine gE 3 (L_ g x s o.n hs.Z c) ?_;intro w a;exact gG 2 ⟨I,x,{ s with Z:=tick s.Z o.n },[],none,0,_,Le.refl _,O,⟨RS.nil _ _,Y4 _,λ_ h=>Yz h sz⟩,⟨O,O,⟨c.wp,c.cg,c.kz,c.fit,c.kp,c.qu⟩,⟨OG (hs.up (show n<=n+256 by omega)).Z _,(hs.up (show n<=n+256 by omega)).q,(hs.up (show n<=n+256 by omega)).AE⟩,K7 _ _⟩,(a.z [3,3,3,3,5] 5 1)⟩
 refine gN 2 ?_ ?_<;>intro ad
 ·refine gE 3 (Xjb g x s R Y o.D om (oh ho.D) c hE.gx) ?_;intro w a;exact gG 2 ⟨I,x,{ s with Z:={ s.Z with D:=s.Z.D++o.D } },[],none,0,_,Le.refl _,O,⟨RS.nil _ _,Y4 _,λ_ h=>Yz h sz⟩,⟨O,O,⟨c.wp,c.cg,c.kz,c.fit,c.kp,c.qu⟩,NB (hs.up (show n<=n+256 by omega)) ho,by show(s.Z.D++o.D).length<=_;rw[Y0];have:=ho.D;omega⟩,((((((a.pick 3 O).pick 3 O).pick 3 O).pick 3 O).pick 5 O).drop (k:=5) O)⟩
 refine gN 2 ?_ ?_<;>intro ae
 ·refine gF 1 (L7 g x s hs.Z hs.q c) ?_;rintro _ w ⟨J,rfl,H,a⟩;refine gG 7 ?_;intro an w a;refine gN 0 ?_ ?_<;>intro af
  ·refine gF 5 (L9 g x s _ o.n r (c.mono H)) ?_;rintro _ w ⟨rfl,F,y,d,j,l,i,a⟩;simp only[eH,Em,Db]at a
   refine gH 14 ?_;intro ap w a;refine gG 2 ?_;have U:=V_ hs.Z hs.q;have V:=W8 (g:=g) (s:=s) (id:=(A9 s).1.1) (n:=o.n);have A:∀t∈[(A9 s).1.1,(A9 s).1.2.1,(A9 s).1.2.2,(FU g s (A9 s).1.1 o.n).1.1],t.length<=100000000:=by
    intro t G;simp only[Yp,E6,or_false]at G
    rcases G with rfl|rfl|rfl|rfl<;>omega
   have p:=a.A2 (size:=1) (n:=4) (k:=0) O O (by unfold maxLen;omega);obtain⟨Q,m,C,a⟩:=p.fV 0;clear p;exact⟨Q,y,(FU g s (A9 s).1.1 o.n).2,[(A9 s).1.1,(A9 s).1.2.1,(A9 s).1.2.2,(FU g s (A9 s).1.1 o.n).1.1],_,_,_,(H.trans d).trans m,O,⟨C,Yx O,A⟩,⟨j,l,(i).mono m,W7 hs _ _,Yq eB (K7 _ _)⟩,(a.z [3,3,3,3,6] 5 2)⟩
  exact gG 2 ⟨J,x,s,[],none,0,_,H,O,⟨RS.nil _ _,Y4 _,λ_ h=>Yz h sz⟩,⟨O,O,c.mono H,(hs.up (show n<=n+256 by omega)),K7 _ _⟩,(a.z [4,4,4,4,6] 5 2)⟩
 refine gN 2 ?_ ?_<;>intro ag
 ·refine gF 1 (Xtz g x s r c) ?_;rintro _ w ⟨rfl,F,y,d,j,l,i,a⟩;exact gG 4 ⟨F,y,(R8 g s).2,[],none,0,_,d,O,⟨RS.nil _ _,Y4 _,λ_ h=>Yz h sz⟩,⟨j,l,i,RI hs,Yq XO (K7 _ _)⟩,(a.z [3,3,3,3,5] 5 1)⟩
 refine gN 2 ?_ ?_<;>intro ah
 ·refine gF 1 (Xlz g x s (oh r.AE) c) ?_;rintro _ w ⟨F,y,rfl,d,j,l,i,a⟩;exact gG 4 ⟨F,y,{ s with k:=(Jd s.k).2 },[],none,0,_,d,O,⟨RS.nil _ _,Y4 _,λ_ h=>Yz h sz⟩,⟨j,l,i,⟨(hs.up (show n<=n+256 by omega)).Z,(hs.up (show n<=n+256 by omega)).q,(hs.up (show n<=n+256 by omega)).AE⟩,K7 _ _⟩,(a.z [3,3,3,3,5] 5 1)⟩
 refine gU 2 (λaa ai=>?_);exact gG 2 ⟨I,x,s,[],none,0,_,Le.refl _,O,⟨RS.nil _ _,Y4 _,λ_ h=>Yz h sz⟩,⟨O,O,c,(hs.up (show n<=n+256 by omega)),K7 _ _⟩,(a.z [5,5,5,5,5] 5 1)⟩
structure ZK(I:Im)(c:Cf)(a ua:Oa):Prop where
 fits:c.fits
 fit:FX c=0->TT c.BL c.us
 BL:B2 I a c.BL
 us:BC I ua c.us
theorem N_(c:Cf)(d:Dk)(now:Int):(D5 c d now).2.Z.D=[]:=by
 unfold D5
 (repeat' split)
 all_goals rfl
def OpF(J:Im)(g:Cg)(db:Nat)(r:Nat×BF)(a:Option Addr):Option Sp->Prop
 | none=>r.1≠0/\a=none
 | some x=>r.1=0/\a=some (ad x.vb 0)/\x.k.db=db/\BB J g x r.2/\AZ r.2 8160
def nY(J:Im)(g:Cg)(db:Nat)(r:Nat×BF)(a:Option Addr)(o:{o:Option Sp // OpF J g db r a o}):List X1:=match o.1 with
 | none=>[]
 | some x=>eH g x r.2
theorem Q7(c:Cf)(A:c.fits)(f:FX c=0->TT c.BL c.us)(g:Cg)(D:OP c g)(a:Oa)(cap:Nat)(l:Oa)(b:Nat)(d:Dk)(db kb:Nat)(sv pl:Va)(C:iZ d)(now:Int)(z:Kz I)(y:A4 I)(s:Az I pl d.AH)(E:B2 I a c.BL)(u:BC I l c.us)(N:La)(t:Aa B w I (BI db kb sv pl d N)):Calls prog 51 #[.agg (Ie c a cap l b).toArray,ptr db 0,Ab now] w (AY λv w'=>∃J o,v=.tuple #[.pointer o,Ab ((D5 c d now).1:Nat)]/\Le I J/\Aa B w' J (hB (nY J g db (D5 c d now) o)::N)) :=
 (L8 c A f g D a cap l b d db kb sv pl C now z y s E u N t).mono λe w' ⟨v,n,J,m,h⟩=>by
  rcases h with⟨i,j,k⟩|⟨i,x,j,k,p,q,r⟩
  ·exact⟨v,n,J,none,j,m,Aa.box (T:=nY J g db (D5 c d now) none) ⟨none,i,O⟩ k⟩
  ·exact⟨v,n,J,some (ad x.vb 0),by rw[i];exact j,m,Aa.box (T:=nY J g db (D5 c d now) (some (ad x.vb 0))) ⟨some x,i,O,k,p,q⟩ r⟩
theorem Xir(c:Cf)(g:Cg)(s:OP c g)(a:Oa)(cap:Nat)(p:Oa)(i:Nat)(n:Int)(t:4<=n)(r:Kz I)(q:A4 I)(j:ZK I c a p)(N:La)(b:Aa B w I N):Cz 19 [.agg (Ie c a cap p i).toArray,Ab n] w λv w'=>∃J db l,Le I J/\v=.tuple #[ptr db 0,.pointer l]/\Aa B w' J (hB (nY J g db (D5 c (Da n) 0) l)::N):=by
 refine gG 0 (.GJ b (.of O) O ?_);clear b;intro x w b;refine gF 3 (UK n) ?_;clear b;rintro _ w ⟨db,kb,sv,rfl,b⟩;refine gG 3 (.Aw (rfl) (gG 0 ?_));refine .val (.as (.DY (.of O) b (k:=3) O IK IQ O (λ_ _ h=>by rw[Yk];exact h)) O) O ?_;refine gF 1 (Q7 c j.fits j.fit g s a cap p _ _ db kb sv (.slice none 0 0) (QE t) 0 r q ⟨none,0,O,Ya _,RS.nil _ _⟩ j.BL j.us) ?_;clear b;rintro _ w ⟨m,l,rfl,d,b⟩;refine gN 7 ?_ ?_<;>intro e
 ·refine gG 3 ?_;have o:(D5 c (Da n) 0).1≠0:=by have o:=e;omega
  replace b:=b.py [1];obtain⟨⟨u,f⟩,b⟩:=Aa.unbox b;cases u with
  | some z=>exact Yz f.1 o
  | none =>
  obtain⟨_,rfl⟩:=f;exact⟨m,db,none,d,O,Aa.box (T:=nY m g db (D5 c (Da n) 0) none) ⟨none,o,O⟩ b⟩
 exact gG 4 ⟨m,db,l,d,O,(b.y 1 1)⟩
abbrev xW(o:Fm)(a:Oa)(c:Nat)(d:Oa)(e:Nat):Lv:=[Ab o.act,S o.b,Ab o.n,.slice a o.D.length c,.slice d o.P.length e]
structure Or where
 o:Fm
 da:Oa
 dc:Nat
 la:Oa
 lc:Nat
abbrev oV(r:Or):Lv:=xW r.o r.da r.dc r.la r.lc
def CX(I:Im)(a:Oa)(l:List Fm):Prop:=∃L:List Or,L.map Or.o=l/\RS I a 5 L.length (X2 oV L)/\∀r∈L,Gp I r.o r.da r.la
theorem CX.mono{l:List Fm}(h:CX I a l)(b:Le I J):CX J a l:=by
 obtain⟨L,c,d,e⟩:=h;exact⟨L,c,d.mono b,λr f=>(e r f).mono b⟩
theorem CX.get{l:List Fm}(h:CX I a l){o:Fm}(c:l[i]?=some o):∃p b e la k,a=some p/\At I (p.add (i*5)) (xW o b e la k)/\Gp I o b la:=by
 obtain⟨L,rfl,f,g⟩:=h;rw[Yr]at c;obtain⟨r,d,rfl⟩:=K5.1 c;obtain⟨p,j,hx⟩:=Be (cells:=oV) (s:=5) (λ_=>rfl) f d;exact⟨p,_,_,_,_,j,hx,g r (Y7 d)⟩
structure iD(g:Cg)(db:Nat)(J:Im)(pv:Oa)(x:Sp)(s:BF):Prop where
 pv:pv=some (ad x.vb 0)
 db:x.k.db=db
 at_:BB J g x s
 ok:AZ s 700000
 left:s.Z.D.length<=500
theorem b_(g:Cg)(x:Sp)(s:BF)(o:Fm)(d:Oa)(m:Nat)(l:Oa)(p:Nat)(b:Oa)(c:Nat)(a:List Lu)(n:Nat)(H:o.fits)(z:o.act≠7)(K:AZ s n)(G:n<=800000)(F:s.Z.D.length<=1000)(h:a.length<=1000000000000)(i:∀t∈a,t.length<=60){u:Nat}(j:x.vb=u)(f:x.k.db=db)(A:Gp I o d l)(E:BB I g x s)(N:La)(C:Aa B w I (An 9 1 (.slice b a.length c) a.length (a.map S)::Hu g x s N)):Calls prog 24 #[ptr u 0,ptr db 0,.agg (xW o d m l p).toArray,.slice b a.length c] w (AY λv w'=>∃J y r L q M e,Le I J/\v=.tuple #[.slice q L.length M,e]/\Tld J L q/\nT g x s n J y r/\Aa B w' J (An 9 1 (.slice b a.length c) a.length (a.map S)::Hu g y r N)):=by
 subst j;subst f;exact UO g x s o d m l p b c a n H z K G F h i A E N C
theorem Mh(c:Cf)(g:Cg)(hg:OP c g)(a:Oa)(cap:Nat)(K:Oa)(d:Nat)(n:Int)(hn:4<=n)(ea:Oa)(ec:Nat)(l:List Fm)(hl:l.length<=40)(Y:∀o∈l,o.fits)(hZ:Kz I)(hV:A4 I)(hc:ZK I c a K)(hL:CX I ea l)(N:La)(b:Aa B w I N):Cz 6 [.agg (Ie c a cap K d).toArray,Ab n,.slice ea l.length ec] w λv w'=>∃J db R nv,Le I J/\v=.tuple #[ptr db 0,.pointer R,nv]/\((R=none/\Aa B w' J N)\/∃x s,iD g db J R x s/\Aa B w' J (Hu g x s N)):=by
 refine gG 0 (.GJ (cs:=Ie c a cap K d) b (.of O) O ?_);clear b;intro b3 w b;refine gG 3 ?_;refine .val (.as (.DY (vs:=Ie c a cap K d) (.of O) b (k:=0) O IK IQ O (λ_ _ h=>by rw[Yk];exact h)) O) O ?_;refine gF 1 (Xir c g hg a cap K d n hn hZ hV hc) ?_;clear b;rintro _ w ⟨E,db,R,j,rfl,b⟩;refine gH 5 (.nil (.seq ?_));obtain⟨⟨o9,H⟩,b⟩:=Aa.unbox b;rcases o9 with _|m
 ·obtain⟨ak,rfl⟩:=H;replace b:Aa B _ E (_::N):=b;refine gG 2 (.EI (WI.round ?_));refine gG 8 ?_;refine .Aw (by show some (Value.bool (_&&false))=_;rw[T7]) ?_;exact gG 6 ⟨E,db,none,_,j,O,.inl ⟨O,b.s⟩⟩
 obtain⟨a2,rfl,G,W,ab⟩:=H;replace b:Aa B _ E (FE m.vb m.k.sb m.p.wb m.qb::AN m.p (D5 c (Da n) 0).2.Z::DZ m.qb g.qc (D5 c (Da n) 0).2.q m.qa m.qk::EW m.k (D5 c (Da n) 0).2.k::N):=b.drop (k:=4) O;refine gG 2 ?_;replace b:=b.Ai 9 1;refine .lk [2,9,10] (σ:=Nat×Im×Sp×BF×Oa×Nat×List Lu) (λ(i,J,x,s,A,C,e) _m=>(11,.slice A e.length C)::(12,Ab (i:Nat))::_m) (λ(i,J,x,s,A,C,e) w=>i<=l.length/\Le E J/\x.vb=m.vb/\x.k.db=db/\BB J g x s/\AZ s (8160+256*i)/\s.Z.D.length<=12*i/\e.length<=400000000*i/\(∀t∈e,t.length<=60)/\Aa B w J (An 9 1 (.slice A e.length C) e.length (e.map S)::FE x.vb x.k.sb x.p.wb x.qb::AN x.p s.Z::DZ x.qb g.qc s.q x.qa x.qk::EW x.k s.k::N)) (λ(i,J,x,s,A,C,e)=>l.length-i) (0,E,m,(D5 c (Da n) 0).2,none,0,[]) ⟨Y4 _,Le.refl _,O,G,W,ab,by show _<=0;rw[N_];exact Ya _,Y4 _,λt ht=>Yz ht sz,b⟩ ?_;rintro⟨i,J,x,s,A,C,e⟩ w ⟨hi,P,u,r,V,hs,hD,a1,z,b⟩;refine gM 8 ?_ ?_<;>intro y ah
 ·refine gG 0 ?_;obtain⟨o,he⟩:∃o,l[i]?=some o:=⟨_,Y2 (by have M:=y;simp only[Y8,dq1]at M;omega)⟩
  have X:=Y o (Y7 he);obtain⟨pe,da,dc,la,lc,rfl,a4,hE⟩:=(hL.mono (j.trans P)).get he;refine gN 6 ?_ ?_<;>intro F
  ·have ax:(i:Int)<(l.length:Int):=by have M:=y;simp only[Y8,dq1]at M;exact M.1
   refine gF 7 (b_ g x s o da dc la lc A C e (8160+256*i) X (oh F) hs om om om z u r hE V) ?_;clear b;rintro _ w ⟨J2,x2,s2,L,ra,rc,ev,T,rfl,Q,f,b⟩;refine gF 7 (Xz3 e z _ ra rc L om (oh Q.len) Q.each Q.row) ?_;clear b;rintro ae w ⟨M9,ay,U,b⟩;obtain⟨ac,ad,rfl,aj,_⟩:=b.AG (k:=0) (v:=ae) O;refine gG 4 ?_;have az:M9.length<=e.length+400000000:=by
    have h2:=Q.len;omega
   refine rd (i+1,J2,x2,s2,ac,ad,M9) ⟨od,P.trans T,f.vb.trans u,f.db.trans r,f.at_,?_,?_,?_,U,(b.x [4,4,4,4,4])⟩
   ·rw[show 8160+256*(i+1)=8160+256*i+256 by omega];exact f.ok
   ·have:=f.left;(try dsimp only);omega
   ·(try dsimp only);omega
  refine gG 3 (rd (i+1,J,x,s,A,C,e) ⟨od,P,u,r,V,hs.up od,od,od,z,(b.x [4,4,4,4,4])⟩)
 exact gG 6 ⟨J,db,_,_,j.trans P,O,.inr ⟨x,s,⟨by rw[u],r,V,hs.up om,om⟩,b.s⟩⟩
def UB(y:Pr):Bool:=decide ((80:Int)<(y.1.length:Int))||decide ((80:Int)<(y.2.length:Int))
def jW(u:Us):Bool:=(decide ((20:Int)<(u.attrs.length:Int))||decide ((80:Int)<(u.name.length:Int)))||decide ((80:Int)<(u.pw.length:Int))
def aI(u:Us):Bool:=!jW u&&u.attrs.all λy=>!UB y
def Qx(l:List Us):Bool:=l.all aI&&decide ((l.length:Int)<=20)
def Lr(c:Cf):Bool:=Sq c.BL&&Qx c.us
theorem lf{cells:α->Lv}{s:Nat}(e:∀x,(cells x).length=s){l:List α}(d:RS I a s l.length (X2 cells l)){x:α}(hx:l[i]?=some x):∃q,a=some q/\At I (q.add (i*s)) (cells x):=by
 obtain⟨q,rfl,f⟩:=d.2 (oh ((Y1.1 hx).1));refine⟨q,O,?_⟩;have b:=mh (f.add (i*s)) s;rw[X2,ZY (l.map cells) (λc h=>by obtain⟨y,_,rfl⟩:=Dt.1 h;exact e y) i (cells x) (by rw[Yr,hx];rfl)]at b;exact b
theorem Vb(a:Oa)(cap:Nat)(l:List Us)(L:l.length<=9223372036854775807)(E:∀u∈l,u.fits)(H:BC I a l)(N:La)(b:Aa B w I N):Ce B I N 56 [.slice a l.length cap] w (.bool (Qx l)):=by
 refine gG 2 (.lk [0] (σ:=Nat) (λi _m=>(3,Ab (i:Nat))::_m) (λi w=>i<=l.length/\(∀(j:Nat) u,j<i->l[j]?=some u->aI u=true)/\Aa B w I N) (λi=>l.length-i) 0 ⟨Y4 _,λ_ _ h=>Yz h om,b⟩ ?_);rintro i w ⟨hi,o,b⟩;refine gN 4 ?_ ?_<;>intro J
 ·obtain⟨u,m⟩:∃u,l[i]?=some u:=⟨_,Y2 om⟩
  obtain⟨p,Q,R,x,hx,M,v⟩:=H i u m;subst x;refine gH 14 ?_;refine gM 11 ?_ ?_<;>intro c A
  ·refine gG 1 (⟨Yc Value.bool ?_,b⟩)
   have:l.all aI=false:=jE.2 ⟨u,Y7 m,by
    rw[aI,show jW u=true from c,jK,pN];decide⟩
   rw[Qx,this];rfl
  refine gG 1 (.lk [0,3] (σ:=Nat) (λk _m=>(4,Ab (k:Nat))::_m) (λk w=>k<=u.attrs.length/\(∀(j:Nat) y,j<k->u.attrs[j]?=some y->UB y=false)/\Aa B w I N) (λk=>u.attrs.length-k) 0 ⟨Y4 _,λ_ _ h=>Yz h om,b⟩ ?_);rintro k w ⟨P,r,b⟩;refine gN 8 ?_ ?_<;>intro C
  ·obtain⟨y,g⟩:∃y,u.attrs[k]?=some y:=⟨_,Y2 om⟩
   obtain⟨q,z,F⟩:=lf (cells:=X5) (λ_=>rfl) v g;subst z;refine gH 14 ?_;refine gM 10 ?_ ?_<;>intro d D
   ·refine gG 1 (⟨Yc Value.bool ?_,b⟩)
    have:l.all aI=false:=jE.2 ⟨u,Y7 m,by
     have:u.attrs.all (λy=>!UB y)=false:=jE.2 ⟨y,Y7 g,by
      rw[show UB y=true from d];decide⟩
     rw[aI,this,T7];decide⟩
    rw[Qx,this];rfl
   refine gG 3 (rd (k+1) ⟨om,λj t K f=>?_,b⟩);rcases Yt j k with n|n
   ·exact r j t n f
   ·have e:j=k:=om
    subst e;rw[g]at f;cases f;exact d
  refine gG 3 (rd (i+1) ⟨om,λj t K f=>?_,b⟩);rcases Yt j i with n|n
  ·exact o j t n f
  ·have e:j=i:=om
   subst e;rw[m]at f;cases f;have G:jW u=false:=c;rw[aI,G,gp,Cv,Dj];intro y F;obtain⟨q,s⟩:=EA.1 F
   have:=(Y1.1 s).1
   rw[r q y om s];rfl
 refine gG 4 (⟨Yc Value.bool ?_,b⟩)
 have:l.all aI=true:=by
  rw[Dj];intro u m;obtain⟨q,s⟩:=EA.1 m
  have:=(Y1.1 s).1
  exact o q u om s
 rw[Qx,this,Cv]
theorem U_(c:Cf)(a:Oa)(cap:Nat)(i:Oa)(e:Nat)(b:c.BL.length<=cap)(g:cap<=maxLen)(h:c.us.length<=9223372036854775807)(d:∀u∈c.us,u.fits)(k:B2 I a c.BL)(j:BC I i c.us)(N:La)(f:Aa B w I N):Ce B I N 23 [.agg (Ie c a cap i e).toArray] w (.bool (Lr c)):=by
 refine gH 4 ?_;intro b1 w f;refine gE 0 (ZM a cap _ b g k) ?_;intro w f;refine gE 3 (Vb i _ _ h d j) ?_;intro w f;exact gG 6 ⟨O,f.s⟩
def P3(o:Fm):Bool:=((decide ((700:Int)<(o.b.length:Int))&&decide ((o.b.length:Int)<=4096)||decide ((5000:Int)<(o.b.length:Int)))||decide ((12:Int)<(o.D.length:Int)))||decide ((30:Int)<(o.P.length:Int))
def Jv(c:Cf)(l:List Fm):Bool:=(l.all λo=>!P3 o)&&(Lr c&&decide ((l.length:Int)<=20))
structure i_(o:Fm):Prop where
 b:o.b.length<=9223372036854775807
 n:o.n<=9223372036854775807
 D:o.D.length<=9223372036854775807
 P:o.P.length<=9223372036854775807
 small:∀d∈o.D,d<18446744073709551616
theorem Xs6{c:Cf}{l:List Fm}(h:Jv c l=true)(e:∀o∈l,i_ o):Lr c=true/\l.length<=20/\∀o∈l,o.fits:=by
 unfold Jv at h;simp only[Y8,dq1,Dj]at h
 refine⟨h.2.1,om,λo d=>?_⟩;have a:=h.1 o d;unfold P3 at a;simp only[PR,EB,Zx,dq2,Int.not_lt]at a
 have b:=e o d;exact⟨om,om,b.n,b.small⟩
theorem Nk:∀(l:List Sv) (r:List Sv) (i:Nat),(Z7 l i r).1=0->∀s∈r,s.rel.length<=8
 | _,[],_,_,s,b=>by simp at b
 | l,t::r,i,h,s,b=>by
  rw[Z7]at h;split at h
  ·rename_i a;exact Yz h a
  ·rename_i a
   rcases Yp.1 b with rfl|b
   ·have a:bad l i s=0:=su a
    unfold bad at a;split at a
    ·cases a
    ·split at a
     ·cases a
     ·rename_i c
      simp only[EC,dq1,not_or]at c
      omega
   ·exact Nk l r (i+1) h s b
theorem cG{c:Cf}(h:Lr c=true)(a:FX c=0):TT c.BL c.us:=by
 unfold FX at a;split at a
 ·rename_i e;exact Yz a e
 ·rename_i l
  split at a
  ·rename_i e;exact Yz a e
  ·rename_i k
   have f:=xU c.us 0 [] (su k);refine⟨λs j=>Nk c.BL c.BL 0 (by simpa[Hg]using l) s j,λu b=>?_⟩;have g:=f u b;unfold aR at g;simp only[Y8,dq1]at g
   unfold Lr Qx at h;simp only[Y8,Dj]at h
   have d:=h.2.1 u b;unfold aI at d;simp only[Y8,Dj]at d
   refine⟨om,λy m=>?_⟩;have i:=d.2 y m;unfold UB at i;simp only[PR,EB,dq2,Int.not_lt]at i
   omega
theorem Qy{l:List Sv}(h:Sq l=true):l.length<=20/\∀s∈l,s.rel.length<=20:=by
 unfold Sq at h;simp only[Y8,dq1]at h
 refine⟨om,λs a=>?_⟩
 have:=Dj.1 h.1 s a
 unfold Lq at this;simp only[PR,EB,dq2]at this
 omega
theorem Vg{l:List Sv}(h:∀s∈l,s.fits):∀v∈C4 l,v<18446744073709551616:=λv b=>by
 obtain⟨s,a,rfl⟩:=Dt.1 b;exact(h s a).ord
theorem Vf{l:List Sv}(h:∀s∈l,s.fits)(d:∀s∈l,s.rel.length<=20):∀s∈l,s.urls.length<=9223372036854775807/\s.calls.length<=9223372036854775807/\s.rel.length<=1000000:=λs a=>by
 have b:=(h s a).urls;have c:=(h s a).calls;have e:=d s a;unfold maxLen at b c;exact⟨om,om,om⟩
structure Ky(I:Im)(c:Cf)(a:Oa)(cap:Nat)(ua:Oa)(H_:Nat):Prop where
 BL:B2 I a c.BL
 us:BC I ua c.us
 cap:c.BL.length<=cap/\cap<=maxLen
 un:c.us.length<=9223372036854775807
 Rz:∀s∈c.BL,s.fits
 RR:∀u∈c.us,u.fits
theorem Ky.mono{c:Cf}{d:Oa}{H_:Nat}(h:Ky I c a cap d H_)(b:Le I J):Ky J c a cap d H_:=⟨h.BL.mono b,h.us.mono b,h.cap,h.un,h.Rz,h.RR⟩
theorem Qw{c:Cf}{f:Oa}{b:Nat}(h:Ky I c a cap f b)(d:Lr c=true):c.fits:=by
 unfold Lr at d;simp only[Y8]at d
 have e:=Qy d.1;refine⟨om,Vg h.Rz,Vf h.Rz e.2,h.un,h.RR⟩
theorem Qv(c:Cf)(a:Oa)(cap:Nat)(p:Oa)(b:Nat)(l:List Fm)(x:Oa)(D:Nat)(M:l.length<=9223372036854775807)(r:∀o∈l,i_ o)(f:Ky I c a cap p b)(F:CX I x l)(N:La)(d:Aa B w I N):Ce B I N 5 [.agg (Ie c a cap p b).toArray,.slice x l.length D] w (.bool (Jv c l)):=by
 refine gG 0 (.GJ d (.of O) O ?_);intro C w d;refine gG 2 (.lk [1,2] (σ:=Nat) (λi _m=>(5,Ab (i:Nat))::_m) (λi w=>i<=l.length/\(∀(j:Nat) o,j<i->l[j]?=some o->P3 o=false)/\Aa B w I (Ac C (Ie c a cap p b) 29::N)) (λi=>l.length-i) 0 ⟨Y4 _,λ_ _ h=>Yz h om,d⟩ ?_);rintro i w ⟨hi,n,d⟩;refine gN 4 ?_ ?_<;>intro z
 ·obtain⟨o,g⟩:∃o,l[i]?=some o:=⟨_,Y2 om⟩
  obtain⟨V,Q,R,T,U,rfl,P,S⟩:=F.get g;have u:=r o (Y7 g);obtain⟨G,H,J,K,L⟩:=u;refine gH 14 (gH 14 (gH 14 ?_));refine gM 1 ?_ ?_<;>intro e A
  ·refine gG 1 ?_
   have:(l.all λo=>!P3 o)=false:=jE.2 ⟨o,Y7 g,by
    have E:P3 o=true:=e;rw[E];decide⟩
   exact⟨by rw[Jv,this];rfl,d.s⟩
  refine gG 3 (rd (i+1) ⟨om,λj t q v=>?_,d⟩);rcases Yt j i with y|y
  ·exact n j t y v
  ·have e0:j=i:=om
   subst e0;rw[g]at v;cases v;exact e
 refine gG 0 ?_;refine .val (.DY (.of O) d (k:=0) O IK IQ O (λ_ _ h=>by rw[Yk];exact h)) O ?_;refine gE 0 (U_ c a cap p _ f.cap.1 f.cap.2 f.un f.RR f.BL f.us) ?_;intro w d;refine gG 8 ?_;have m:(l.all λo=>!P3 o)=true:=Dj.2 (λo g=>by
  obtain⟨j,q⟩:=EA.1 g;rw[n j o (oh ((Y1.1 q).1)) q];rfl)
 exact⟨by rw[Jv,m,Cv],d.s⟩
def ig(c:Ui):Prop:=c≠38/\c≠60/\c≠62/\c≠34/\c≠39
theorem pl_int{c:Ui}(h:ig c):(c.toNat:Int)≠38/\(c.toNat:Int)≠60/\(c.toNat:Int)≠62/\(c.toNat:Int)≠34/\(c.toNat:Int)≠39:=by
 obtain⟨a,b,d,f,g⟩:=h;have k:∀(n:Nat) (_:n<256),(c.toNat:Int)=n->c=UInt8.ofNat n:=λn i e=>by
  have:c.toNat=n:=om
  rw[<-this,UInt8.ofNat_toNat]
 exact⟨λe=>a (k 38 de e),λe=>b (k 60 de e),λe=>d (k 62 de e),λe=>f (k 34 de e),λe=>g (k 39 de e)⟩
theorem eO{s:Lu}{c:Ui}(hi:i<s.length)(a:(at_ s (i:Int)).toNat=c.toNat):AP [c] (s.drop i)=[]:=by
 rw[X7 s hi,CS.1 a];simp[AP]
theorem YG{s:Lu}{c:Ui}(hi:i<s.length)(a:(at_ s (i:Int)).toNat≠c.toNat):(AP [c] (s.drop i)).length=(AP [c] (s.drop (i+1))).length+1:=by
 have h:at_ s (i:Int)≠c:=λh=>a (by rw[h])
 rw[X7 s hi];simp[AP,nC,h]
theorem Wj{s:Lu}(h:i<s.length):(s.drop ((i:Nat):Int).toNat).take ((((i:Nat):Int)+1).toNat-((i:Nat):Int).toNat)=[at_ s (i:Int)]:=by
 (try rw[Yd]);rw[show(((i:Nat):Int)+1).toNat-i=1 by omega,Ym om,Iw,Gl]
 have a:=D4 (i:=i) om;rw[Y2 om]at a;injection a with a;rw[a]
theorem Xpm(c:Ui)(o:ig c)(N:La)(n:Aa B w I N):Ce B I N 391 [U8 c.toNat] w (S []):=by
 obtain⟨j,l,m,i,k⟩:=pl_int o;refine gN 4 ?_ ?_<;>intro f
 ·refine gH 1 (.nil (.ret ?_));refine λ_ a=>GD a O ?_
  exfalso;have e:=f;omega
 refine gN 2 ?_ ?_<;>intro g
 ·refine gH 1 (.nil (.ret ?_));refine λ_ a=>GD a O ?_
  exfalso;have e:=g;omega
 refine gN 2 ?_ ?_<;>intro h
 ·refine gH 1 (.nil (.ret ?_));refine λ_ a=>GD a O ?_
  exfalso;have e:=h;omega
 refine gN 2 ?_ ?_<;>intro b
 ·refine gH 1 (.nil (.ret ?_));refine λ_ a=>GD a O ?_
  exfalso;have e:=b;omega
 refine gN 2 ?_ ?_<;>intro d
 ·refine gH 1 (.nil (.ret ?_));refine λ_ a=>GD a O ?_
  exfalso;have e:=d;omega
 exact gG 1 ⟨O,n⟩
theorem X90(s:Lu)(f:∀c∈s,ig c)(e:s.length<=1000000)(N:La)(a:Aa B w I N):Ce B I N 451 [S s] w (S s):=by
 refine gG 3 (.lk [0] (σ:=Nat) (λi _m=>(3,S (s.take i))::(4,Ab (i:Nat))::_m) (λi w=>i<=s.length/\Aa B w I N) (λi=>s.length-i) 0 ⟨Y4 _,a⟩ ?_);rintro i w ⟨hi,a⟩;refine gN 4 ?_ ?_<;>intro d
 ·have b:=f (at_ s (i:Int)) (Y7 (D4 (i:=i) om));have g:(s.take i).length<=s.length:=by rw[Yl];omega
  refine gE 3 (Xpm _ b) ?_;intro w a;refine gG 3 (.Ct (rfl) (gH 8 ?_));rw[Wj om];exact gG 5 ⟨i+1,⟨by rw[Yv,D4 om];rfl,O,O,trivial⟩,⟨om,a⟩,om⟩
 refine gG 2 (⟨?_,a⟩);rw[show i=s.length by omega,Fy]
theorem X6s(s:Lu)(q:∀c∈s,ig c)(p:s.length<=1000000)(N:La)(a:Aa B w I N):Ce B I N 298 [S s] w (.tuple #[S s,Ab 0]):=by
 refine gG 6 ?_;intro j w a;replace a:=a.py [0];refine .lk [0] (σ:=Nat) (λi _m=>(4,S (s.take i))::(6,Ab (i:Nat))::_m) (λi w=>i<=s.length/\Aa B w I N) (λi=>s.length-i) 0 ⟨Y4 _,a⟩ ?_;rintro i w ⟨hi,a⟩;refine gN 4 ?_ ?_<;>intro f
 ·refine gG 4 ?_;have b:=q (at_ s (i:Int)) (Y7 (D4 (i:=i) om));have r:(s.take i).length<=s.length:=by rw[Yl];omega
  obtain⟨l,n,o,k,m⟩:=pl_int b;refine gU 14 (λd g=>?_);refine gT 2 (λe h=>?_);refine gH 6 ?_;rw[Wj om];exact gG 5 ⟨i+1,⟨by rw[Yv,D4 om];rfl,O,O,trivial⟩,⟨om,a⟩,om⟩
 refine gG 3 (⟨?_,a⟩);rw[show i=s.length by omega,Fy]
theorem Rt(s:Lu)(a:Nat)(c:Ui)(f:a<=s.length)(g:s.length<=1000000)(N:La)(b:Aa B w I N):Ce B I N 297 [S s,Ab (a:Nat),U8 c.toNat] w (Ab ((a+(AP [c] (s.drop a)).length:Nat):Int)):=by
 refine gG 1 (.lk [0,2] (σ:=Nat) (λi _m=>(1,Ab (i:Nat))::_m) (λi w=>i<=s.length/\i+(AP [c] (s.drop i)).length=a+(AP [c] (s.drop a)).length/\Aa B w I N) (λi=>s.length-i) a ⟨f,O,b⟩ ?_);rintro i w ⟨hi,j,b⟩;refine gN 11 ?_ ?_<;>intro d
 ·refine gG 3 ?_;have e:=YG (s:=s) (c:=c) (i:=i) om om;exact rd (i+1) ⟨om,om,b⟩
 refine gG 2 (⟨?_,b⟩);have e:(AP [c] (s.drop i)).length=0:=by
  rcases Yt i s.length with h|h
  ·rw[eO h om];rfl
  ·rw[Yb h];rfl
 rw[show i=a+(AP [c] (s.drop a)).length by omega]
theorem eD{c:Ui}(h:eC c=true):(c.toNat:Int)≠127/\(32<=(c.toNat:Int)\/(c.toNat:Int)=9\/(c.toNat:Int)=10):=by
 have a:=Xc (p:=λc=>!eC c||(decide (c.toNat≠127)&&(decide (32<=c.toNat)||decide (c.toNat=9)||decide (c.toNat=10)))) dk c;simp only[h,jK,K9,Y8,EC,dq1]at a
 omega
theorem VM{c:Ui}(h:E9 c=true):(97<=(c.toNat:Int)/\(c.toNat:Int)<=122)\/(65<=(c.toNat:Int)/\(c.toNat:Int)<=90):=by
 have a:=Xc (p:=λc=>!E9 c||(decide (97<=c.toNat)&&decide (c.toNat<=122)||decide (65<=c.toNat)&&decide (c.toNat<=90))) dk c;simp only[h,jK,K9,Y8,EC,dq1]at a
 omega
theorem Vz{c:Ui}(h:HW c=true):((97<=(c.toNat:Int)/\(c.toNat:Int)<=122)\/(65<=(c.toNat:Int)/\(c.toNat:Int)<=90))\/(48<=(c.toNat:Int)/\(c.toNat:Int)<=57)\/(c.toNat:Int)=58\/(c.toNat:Int)=45\/(c.toNat:Int)=95:=by
 have a:=Xc (p:=λc=>!HW c||(decide (97<=c.toNat)&&decide (c.toNat<=122)||decide (65<=c.toNat)&&decide (c.toNat<=90)||(decide (48<=c.toNat)&&decide (c.toNat<=57)||decide (c.toNat=58)||decide (c.toNat=45)||decide (c.toNat=95)))) dk c;simp only[h,jK,K9,Y8,EC,dq1]at a
 omega
theorem dK{s:Lu}(h:HI s=true)(hi:i<s.length):HW (at_ s (i:Int))=true/\(i=0->E9 (at_ s (i:Int))=true)/\s≠[]:=by
 unfold HI at h;simp only[Y8,Dj,PR]at h
 refine⟨h.2 _ (Y7 (D4 hi)),λe=>?_,by rintro rfl;simp at hi⟩;subst e;have a:=D4 hi;cases s with
 | nil=>simp at hi
 | cons x r =>
  rw[yg]at a;injection a with a
  rw[<-a];exact h.1.2
theorem Xav(s:Lu)(f:TR s=true)(e:s.length<=1000000)(N:La)(a:Aa B w I N):Ce B I N 393 [S s] w (.bool true):=by
 refine gG 2 (.lk [0] (σ:=Nat) (λi _m=>(3,Ab (i:Nat))::_m) (λi w=>i<=s.length/\Aa B w I N) (λi=>s.length-i) 0 ⟨Y4 _,a⟩ ?_);rintro i w ⟨hi,a⟩;refine gN 4 ?_ ?_<;>intro d
 ·obtain⟨g,h⟩:=eD (Dj.1 f (at_ s (i:Int)) (Y7 (D4 (i:=i) om)));refine gH 14 (gU 8 (λb c=>?_));exact gG 3 (rd (i+1) ⟨om,a⟩)
 exact gG 1 ⟨O,a⟩
theorem Xd6(s:Lu)(g:HI s=true)(j:s.length<=1000000)(N:La)(a:Aa B w I N):Ce B I N 392 [S s] w (.bool true):=by
 refine gG 2 (.lk [0] (σ:=Nat) (λi _m=>(3,Ab (i:Nat))::_m) (λi w=>i<=s.length/\Aa B w I N) (λi=>s.length-i) 0 ⟨Y4 _,a⟩ ?_);rintro i w ⟨hi,a⟩;refine gN 4 ?_ ?_<;>intro h
 ·obtain⟨b,c,k⟩:=dK g (i:=i) om;replace b:=Vz b;replace c:=λe=>VM (c e)
  refine gH 14 (gH 14 (gH 14 (gU 3 (λd f=>?_))));exact gG 3 (rd (i+1) ⟨om,a⟩)
 exact gG 3 ⟨by cases s with|nil=>simp[HI]at g|cons x r=>rfl,a⟩
end Go.Proofs.W9
namespace Rq
open Pc Gk Ul Go
def Ic:Lu:=[58,32]
theorem tP(s:Lu)(i:Nat)(h:i+1<s.length):Go.Lib.occAt s Ic i=!((((at_ s (i:Int)).toNat:Int)!=58)||(((at_ s ((i:Int)+1)).toNat:Int)!=32)):=by
 have c:∀a:Ui,(58==a)=(((a.toNat:Nat):Int)==58):=λa=>eq_of_beq (Xc (p:=λa=>(58==a)==(((a.toNat:Nat):Int)==58)) dk a)
 have b:∀a:Ui,(32==a)=(((a.toNat:Nat):Int)==32):=λa=>eq_of_beq (Xc (p:=λa=>(32==a)==(((a.toNat:Nat):Int)==32)) dk a)
 unfold Go.Lib.occAt Ic bne;rw[X7 s om,X7 s h,Bool.not_or,Bool.not_not,Bool.not_not];simp only[List.isPrefixOf,pP,c,b]
 rfl
theorem Q6(s:Lu)(i:Nat)(h:s.length<=i+1):Go.Lib.occAt s Ic i=false:=by
 unfold Go.Lib.occAt Ic;rcases Yt i s.length with a|a
 ·rw[X7 s a,Yb om];simp[List.isPrefixOf]
 ·rw[Yb om];rfl
theorem Lj{s:Lu}(c:i+1<s.length)(b:Go.Lib.occAt s Ic i=true)(a:∀j,j<i->Go.Lib.occAt s Ic j=false):Go.Lib.cut s Ic=(s.take i,s.drop (i+2),true):=by
 have hi:Go.Lib.index s Ic=(i:Int):=Go.Lib.index_hit a om b;unfold Go.Lib.cut;rw[hi,Y9 (uk _)];rfl
theorem bU{s:Lu}(a:∀j,j+1<s.length->Go.Lib.occAt s Ic j=false):Go.Lib.cut s Ic=(s,[],false):=by
 have hi:Go.Lib.index s Ic=-1:=Go.Lib.index_none λj b=>by
  rcases Yt (j+1) s.length with h|h
  ·exact a _ h
  ·exact Q6 _ _ h
 unfold Go.Lib.cut;rw[hi,Y3 (show ¬ (0:Int)<=-1 by decide)]
def Cy:List Nat:=[200,302,400,403,404,405,503]
def X_(k:Nat):Lu:=((uU++Go.Lib.decDigits k)++[32])++Gd (k:Int)
def ll(l:Lu)(b:List Nat)(st:Int):Int:=b.foldl (λa k=>if l=X_ k then(k:Int)else a) st
def Z9:Nat->List UInt8->List Pq->List UInt8->Option (List Pq×List UInt8×List UInt8)
 | 0,_,_,_=>none
 | k+1,s,a,size =>
  if(X3 s).2.1≠0 then none else if(X3 s).1=[]then some (a,size,(X3 s).2.2)else if size≠[]then none
  else if(Go.Lib.cut (X3 s).1 Ic).2.2=false then none
  else if(Go.Lib.cut (X3 s).1 Ic).1=YT then(if(Go.Lib.cut (X3 s).1 Ic).2.1=[]then none else Z9 k (X3 s).2.2 a (Go.Lib.cut (X3 s).1 Ic).2.1)
  else Z9 k (X3 s).2.2 (a++[((Go.Lib.cut (X3 s).1 Ic).1,(Go.Lib.cut (X3 s).1 Ic).2.1)]) size
def Uy(h:Pq):Bool:=(!H8 h.1||!List.all h.2 (B_ 32 126))||MM h.1 CL
def qW(s:Lu):Bool:=decide ((0:Int)<(s.length:Nat))&&((((at_ s 0).toNat:Int)==32)||(((at_ s (((s.length:Nat):Int)-1)).toNat:Int)==32))
def fB(r:Co):Bool:=!aA r&&r.Af.all (λh=>!Uy h&&!qW h.2)
def fQ(s:Lu):Option (List Pq×Lu×Lu):=Z9 ((X3 s).2.2.length+1) (X3 s).2.2 [] []
def H4(s:Lu)(x:List Pq×Lu×Lu):Co:=⟨ll (X3 s).1 Cy 0,x.1,x.2.2⟩
def Hc(s:List UInt8):Option Co :=
 if(X3 s).2.1≠0 then none else match fQ s with
 | none=>none
 | some x=>if(fB (H4 s x)&&x.2.1==Go.Lib.decDigits x.2.2.length)=true then some (H4 s x)else none
theorem rD:∀(k j:Nat) (s:Lu) (a:List Pq) (size:Lu),s.length<k->s.length<j->Z9 k s a size=Z9 j s a size
 | 0,j,s,a,size,h,_=>Yz h om
 | k+1,0,s,a,size,_,h=>Yz h om
 | k+1,j+1,s,a,size,d,e=>by
  rw[Z9,Z9];split
  ·rfl
  ·rename_i b
   have c:=mj s (su b);split
   ·rfl
   ·split
    ·rfl
    ·split
     ·rfl
     ·split
      ·split
       ·rfl
       ·exact rD k j _ _ _ om om
      ·exact rD k j _ _ _ om om
def LS:Co:=⟨0,[],[]⟩
def DQ(s:Lu):Co:=(Hc s).getD LS
theorem Xww(l:Lu)(i:Nat)(k:Nat)(h:Cy[i]?=some k):ll l (Cy.take (i+1)) 0=if l=X_ k then(k:Int)else ll l (Cy.take i) 0:=by
 unfold ll;rw[Yv,h,DE,M7];rfl
open Xm DN
theorem Xpd{t x:Lu}(h:Xl t x=true):x.length<=t.length/\t.take x.length=x:=by
 unfold Xl at h;simp only[Y8,dq1,beq_iff_eq,Yd]at h
 exact⟨om,h.2⟩
theorem xZ{s x:Lu}{p:Nat}(h:Xl (s.drop p) x=true):(x≠[]->p+x.length<=s.length)/\(s.drop p).take x.length=x:=by
 have a:=Xpd h;rw[Y6]at a;refine⟨λhx=>?_,a.2⟩
 have:x.length≠0:=by intro e;exact hx (Yi e)
 omega
theorem oX{s:Lu}{c:Ui}{p:Nat}(h:Xl (s.drop p) [c]=true):p<s.length/\at_ s (p:Int)=c:=by
 have a:=xZ h;have d:=a.1 sz;simp only[Y5,Yh]at a d
 refine⟨om,?_⟩;have b:=a.2;rw[X7 s om,Iw,Gl]at b;injection b
theorem Od{s:Lu}{a b:Ui}{p:Nat}(h:Xl (s.drop p) [a,b]=true):p+1<s.length/\at_ s (p:Int)=a/\at_ s ((p:Int)+1)=b:=by
 have c:=xZ h;have f:=c.1 sz;simp only[Y5,Yh]at c f
 have e:=c.2;rw[X7 s om,X7 s (k:=p+1) om,Iw,Iw,Gl]at e;injection e with g d
 injection d with d _
 exact⟨om,g,by rw[<-d];rfl⟩
theorem dZ{s:Lu}{c:Ui}{p:Nat}(a:p<s.length)(h:at_ s (p:Int)=c):Xl (s.drop p) [c]=true:=by
 rw[X7 s a,h];exact Of [c] _
theorem d_{s:Lu}{a b:Ui}{p:Nat}(d:p+1<s.length)(h:at_ s (p:Int)=a)(c:at_ s ((p:Int)+1)=b):Xl (s.drop p) [a,b]=true:=by
 rw[X7 s om,X7 s d,h,show at_ s ((p+1:Nat):Int)=b from c];exact Of [a,b] _
theorem Xi7{f:Nat}{t r:Lu}{a b:List Px}(h:Kd (f+1) t a=some (b,r))(c:Xl t [32]=false):b=a/\r=t:=by
 rw[Kd,Y9 c]at h;cases h;exact⟨O,O⟩
theorem Xi6{f:Nat}{t r:Lu}{a b:List Px}(h:Kd (f+1) t a=some (b,r))(e:Xl t [32]=true):∃v,Xl (Xn [61] (t.drop 1)) [61,34]=true/\fT (AP [34] ((Xn [61] (t.drop 1)).drop 2))=some v/\Xl (Xn [34] ((Xn [61] (t.drop 1)).drop 2)) [34]=true/\Kd f ((Xn [34] ((Xn [61] (t.drop 1)).drop 2)).drop 1) (a++[(AP [61] (t.drop 1),v)])=some (b,r):=by
 rw[Kd,Y3 (nB e)]at h;split at h
 ·cases h
 ·rename_i c
  split at h
  ·cases h
  ·rename_i v g
   split at h
   ·cases h
   ·rename_i d
    exact⟨v,su c,g,su d,h⟩
theorem Xoy{c:Int->Lu->Option (Nd×Lu×Int)}{f:Nat}{left l:Int}{t r:Lu}{a b:List Nd}(h:Jk c (f+1) left t a=some (b,r,l))(d:Xl t [60,47]=true):b=a/\r=t/\l=left:=by
 rw[Jk,Y9 d]at h;cases h;exact⟨O,O,O⟩
theorem wD{c:Int->Lu->Option (Nd×Lu×Int)}{f:Nat}{left l:Int}{t r:Lu}{a d:List Nd}(h:Jk c (f+1) left t a=some (d,r,l))(g:Xl t [60,47]=false):∃k q b,c left t=some (k,q,b)/\Jk c f b q (a++[k])=some (d,r,l):=by
 rw[Jk,Y3 (nB g)]at h;split at h
 ·cases h
 ·rename_i k q b e
  exact⟨k,q,b,e,h⟩
theorem wz{d:Nat}{left l:Int}{t r:Lu}{n:Nd}(h:Il (d+1) left t=some (n,r,l)):∃b a v c q,¬ left-1<0/\Xl t [60]=true/\Kd ((Xn [32,62] (t.drop 1)).length+1) (Xn [32,62] (t.drop 1)) []=some (b,a)/\Xl a [62]=true/\fT (AP [60] (a.drop 1))=some v/\Jk (Il d) ((Xn [60] (a.drop 1)).length+1) (left-1) (Xn [60] (a.drop 1)) []=some (c,q,l)/\Xl q (60::47::AP [32,62] (t.drop 1)++[62])=true/\n=.mk (AP [32,62] (t.drop 1)) b v c/\r=q.drop ((AP [32,62] (t.drop 1)).length+3):=by
 rw[Il]at h;split at h
 ·cases h
 ·rename_i e
  simp only[not_or]at e
  split at h
  ·cases h
  ·rename_i b a i
   split at h
   ·cases h
   ·rename_i f
    split at h
    ·cases h
    ·rename_i v k
     split at h
     ·cases h
     ·rename_i c q m j
      split at h
      ·cases h
      ·rename_i g
       cases h
       exact⟨b,a,v,c,q,e.1,su e.2,i,su f,k,j,su g,O,O⟩
theorem g_{x v:Lu}(h:fT x=some v)(a:∀c∈x,c≠38):v=x/\∀c∈x,c≠38/\c≠60/\c≠62/\c≠34/\c≠39:=by
 have e:∀c∈x,c≠38/\c≠60/\c≠62/\c≠34/\c≠39:=by
  intro c d;unfold fT at h;split at h
  ·cases h
  ·rename_i f
   simp only[gh,not_exists,not_and]at f
   have b:=f c d;simp[Tw]at b
   exact⟨a c d,b⟩
 rw[YD e]at h;cases h
 exact⟨O,e⟩
theorem vH:∀(f:Nat) (t:Lu) (a b:List Px) (r:Lu),Kd f t a=some (b,r)->r <:+t
 | 0,_,_,_,_,h=>by cases h
 | f+1,t,a,b,r,h=>by
  cases c:Xl t [32]with
  | false=>rw[(Xi7 h c).2];exact List.suffix_refl _
  | true =>
   obtain⟨v,_,_,_,d⟩:=Xi6 h c;have e:=vH f _ _ _ _ d;exact e.trans ((jF _ _).trans ((t_ _).trans ((jF _ _).trans ((t_ _).trans (jF _ _)))))
theorem Xow{c:Int->Lu->Option (Nd×Lu×Int)}(a:∀l s k r g,c l s=some (k,r,g)->r <:+s):∀(f:Nat) (left:Int) (t:Lu) (b e:List Nd) (r:Lu) (l:Int),Jk c f left t b=some (e,r,l)->r <:+t
 | 0,_,_,_,_,_,_,h=>by cases h
 | f+1,left,t,b,e,r,l,h=>by
  cases d:Xl t [60,47]with
  | true=>rw[(Xoy h d).2.1];exact List.suffix_refl _
  | false =>
   obtain⟨k,q,g,i,j⟩:=wD h d;exact(Xow a f _ _ _ _ _ _ j).trans (a _ _ _ _ _ i)
theorem Xnz:∀(d:Nat) (left:Int) (t:Lu) (n:Nd) (r:Lu) (l:Int),Il d left t=some (n,r,l)->r <:+t
 | 0,_,_,_,_,_,h=>by cases h
 | d+1,left,t,n,r,l,h=>by
  obtain⟨i,m,v,j,q,_,_,a,_,_,b,_,_,c⟩:=wz h;rw[c];have e:=vH _ _ _ _ _ a;have f:=Xow (λl s k r g h=>Xnz d l s k r g h) _ _ _ _ _ _ _ b;exact(jF _ _).trans (f.trans ((t_ _).trans ((jF _ _).trans (e.trans ((t_ _).trans (jF _ _))))))
theorem XL{r s:Lu}{z:Nat}(h:r <:+s.drop z):s.drop (s.length-r.length)=r:=by
 have a:r <:+s:=h.trans (jF _ _);exact(List.suffix_iff_eq_drop.1 a).symm
theorem UX{d:Nat}{left l:Int}{t r:Lu}{n:Nd}(h:Il d left t=some (n,r,l)):2<=t.length/\Xl t [60]=true:=by
 cases d with
 | zero=>cases h
 | succ d =>
  obtain⟨g,k,v,j,q,_,a,b,c,_⟩:=wz h;have i:=(vH _ _ _ _ _ b).length_le;have e:=Ih [32,62] (t.drop 1);have f:=(Xpd c).1;rw[Y6]at e;simp only[Y5,Yh]at f
  exact⟨om,a⟩
theorem VG{d:Nat}{f:Nat}{s r:Lu}{z:Nat}{left l:Int}{b n:List Nd}(h:Jk (Il d) (f+1) left (s.drop z) b=some (n,r,l))(m:¬ (z+1<s.length/\at_ s (z:Int)=60/\at_ s ((z:Int)+1)≠47)):Xl (s.drop z) [60,47]=true:=by
 cases a:Xl (s.drop z) [60,47]with
 | true=>rfl
 | false =>
  obtain⟨k,q,o,g,_⟩:=wD h a;obtain⟨i,j⟩:=UX g;rw[Y6]at i;have c:=oX j;refine Yz ⟨om,c.2,λe=>?_⟩ m;rw[d_ om c.2 e]at a;cases a
end Rq
namespace Go.Proofs.W9
open Gk Ul Pc Tk Tr Xm Rq DN
open Tryz
theorem lC{s:Lu}(hi:i<s.length)(a:((at_ s (i:Int)).toNat:Int)≠32)(b:((at_ s (i:Int)).toNat:Int)≠62):(AP [32,62] (s.drop i)).length=(AP [32,62] (s.drop (i+1))).length+1:=by
 have c:at_ s (i:Int)≠32:=λh=>a (by rw[h];rfl)
 have d:at_ s (i:Int)≠62:=λh=>b (by rw[h];rfl)
 rw[X7 s hi];simp[AP,nC,c,d]
theorem eP{s:Lu}(h:s.length<=i\/((at_ s (i:Int)).toNat:Int)=32\/((at_ s (i:Int)).toNat:Int)=62):(AP [32,62] (s.drop i)).length=0:=by
 rcases Yt i s.length with hi|hi
 ·rw[X7 s hi];rcases h with h|h|h
  ·omega
  ·rw[show at_ s (i:Int)=32 from CS.1 (by show _=32;omega)];rfl
  ·rw[show at_ s (i:Int)=62 from CS.1 (by show _=62;omega)];rfl
 ·rw[Yb hi];rfl
theorem xq(s:Lu)(a:Nat)(c:Ui)(q:Nat)(f:a+(AP [c] (s.drop a)).length=q)(e:a<=s.length)(b:s.length<=1000000)(N:La)(d:Aa B w I N):Calls prog 297 #[S s,Ab (a:Nat),U8 c.toNat] w (AY λv w'=>v=Ab (q:Nat)/\Aa B w' I N):=by
 subst f;exact Rt s a c e b N d
theorem xN(c:Ui)(s:Lu)(p:Nat):Xn [c] (s.drop p)=s.drop (p+(AP [c] (s.drop p)).length):=by
 rw[<-Xog,Gj]
theorem Oy(s:Lu)(a q:Nat){x:Lu}(h:(s.drop a).take (q-a)=x){Z:Int}(b:Z=((a:Nat):Int)):(s.drop Z.toNat).take (((q:Nat):Int).toNat-Z.toNat)=x:=by
 subst b;rw[Yd,Yd];exact h
end Go.Proofs.W9
