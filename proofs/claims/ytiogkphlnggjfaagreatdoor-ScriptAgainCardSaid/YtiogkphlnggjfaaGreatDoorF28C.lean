/- Part 3 of what the proof stands on. -/
import Derived.Test.YtiogkphlnggjfaaGreatDoorF28B
set_option linter.unusedVariables false
set_option linter.unusedSimpArgs false
set_option maxHeartbeats 2000000
set_option maxRecDepth 100000
set_option synthInstance.maxHeartbeats 400000
set_option synthInstance.maxSize 10000
open Go Gk
variable {p:Addr}{Ac:Array Bool}{af:Array Edge}{fs:Array Field}{ops Ew:Array Oper}{ts:Array TypeId}{held w1 want:Bool}{R:Ending->Wo->Prop}{L L' M:AD}{fd:Field}{fn:Func}{f:FuncId}{I J:Im}{DW DZ hi room D3:Int}{N A5 Hs:La}{G:List (Bool×Bool)}{pl:List (Nat×Nat)}{D T:List Int}{ks:List Nat}{rest:List Oper}{key nm Az:Lu}{args cs ds news vs xs zs:Lv}{b bytes c cap db fuel i k kb lg m n n0 nn o size:Nat}{nd spare:Nat->Bool}{ps:Nat->Int}{a a0 ka ua:Oa}{op:Op}{d:Option Nat}{P:Program}{S1 S2 g1 g2:Prop}{pos:String}{H X α β σ:Type}{E dst src t' ty:TypeId}{u us v v0:Va}{B w:Wo}{C:Wo->Prop}{A:X1}{K K':Bj}
namespace Go.Proofs.W9
open Gk Ul Pc DS Xm Tr Tk Tryz
theorem Uh(Z:Nat)(lim:Int)(x y z:Nat)(a:Oa)(c:Nat)(q:List Nt)(hq:q.length<=64)(T:RS I a 4 q.length (X2 X6 q))(hc:q.length<=c)(W:∀n∈q,DD n=true)(e:Int)(p:lim=Mw ⟨x,y,z,e⟩)(t:Lu)(ok:Bool)(now:Int)(al:0<=now)(A:now<=1099511627776)(N:La)(b:Aa B w I (Ad Z [Ab lim,AQ x,AQ y,AQ z,.slice a q.length c] 149::N)):
  Cz 160 [ptr Z 0,S t,.bool ok,Ab now] w λv w'=>∃J a2 c2,v=Ab ((G0 ⟨x,y,z,e⟩ q t ok now).2:Nat)/\Le I J/\RS J a2 4 (G0 ⟨x,y,z,e⟩ q t ok now).1.length (X2 X6 (G0 ⟨x,y,z,e⟩ q t ok now).1)/\(G0 ⟨x,y,z,e⟩ q t ok now).1.length<=c2/\Aa B w' J (Ad Z [Ab lim,AQ x,AQ y,AQ z,.slice a2 (G0 ⟨x,y,z,e⟩ q t ok now).1.length c2] 149::N):=by
 refine gP 6 [] (Xuy a c q om t _ (λw X h=>Ob (cells:=X6) (s:=4) (λ_=>rfl) h T)) ?_;rintro _ w ⟨rfl,b⟩;refine gN 3 ?_ ?_<;>intro m
 ·refine gG 1 ?_;have E:G0 ⟨x,y,z,e⟩ q t ok now=(q,6):=by
   unfold G0;split
   ·rfl
   ·rw[Y7 (oh m)]
  rw[E];exact⟨I,a,c,O,Le.refl _,T,hc,b⟩
 obtain⟨j,n,vy,g⟩:∃(j:Nat) (n:Nt),Kf q t=(j:Int)/\q[j]?=some n:=by
  rcases Xor (λn:Nt=>n.ticket==t) q 0 with⟨h,_⟩|⟨j,n,h1,h2,_⟩
  ·exfalso;have f:=m;unfold Kf at f;rw[h]at f;omega
  ·exact⟨j,n,by unfold Kf;rw[h1];simp,h2⟩
 rw[vy];have U:=(Y1.1 g).1;have C:∀x:Nt,(X6 x).length=4:=λ_=>rfl
 have am:=wg (W n (Y8 g));have an:=TF C q;have F:∀(e:Int),G0 ⟨x,y,z,e⟩ q t ok now=if ok=true\/Mw ⟨x,y,z,e⟩<=n.tries+1 then(q.eraseIdx j,0)else(q.set j (Vh ⟨x,y,z,e⟩ n now),0):=λe=>by
  unfold G0;rw[vy];(try rw[Yh]);rw[g];dsimp only
  rw[Y3 om]
 refine gF 4 (sJ a c q om T) ?_;rintro ao w b;refine gG 1 ?_;obtain⟨gb,cap,r,rfl,ah,D,aj,ak,b⟩:=b.AF (k:=0) O om;try dsimp only[List.set]at b
 have G:(X2 X6 q++r)[j*4+2]?=some (Ab n.tries):=by
  have f:=nC (cells:=X6) (s:=4) (λ_=>rfl) g (j:=2) (v:=Ab n.tries) O;rw[Yf (Y1.1 f).1];exact f
 obtain⟨q1,i⟩:∃q1,q1=q.set j ⟨n.ticket,n.url,n.tries+1,n.next⟩:=⟨_,O⟩
 have H:q1.length=q.length:=by rw[i,kW]
 have K:=TF C q1;have A:q1[j]?=some (⟨n.ticket,n.url,n.tries+1,n.next⟩:Nt):=by rw[i,qL U]
 have L:(X2 X6 q++r).set (j*4+2) (Ab (n.tries+1))=X2 X6 q1++r:=by
  rw[i];exact yl C ⟨n.ticket,n.url,n.tries+1,n.next⟩ _ 2 de r q j n g O
 have o:(X2 X6 q1++r)[j*4+2]?=some (Ab (n.tries+1)):=by
  have f:=nC (cells:=X6) (s:=4) (λ_=>rfl) A (j:=2) (v:=Ab (n.tries+1)) O;rw[Yf (Y1.1 f).1];exact f
 refine gH 2 (.val (.io O O om om TP QT) O ?_)
 (try rw[Yh]);rw[Yl]
 refine gH 4 (.val (.ld (v:=Ab n.tries) (.of O) b (k:=0) O BP G) O (gH 3 (.s1 b (k:=0) O O O O Bg (by rw[Y0];omega) ?_)));intro w b;try dsimp only[List.set]at b
 rw[L]at b;refine gG 0 (.qt b (.val (λw b=>(.mo O)) O (.val (λw b=>(.mo O)) O (.Am O O O (λd w b=>(.mo O)) O (.Am O O O (λd w b=>(.nilCheck (.gd d O))) O ?_)))));refine .Am O O O (λd w b=>(by first|exact .fieldAddr 2 (.gd d O) ij O O Bg O|exact .Bn 2 (.gd d O) ij O O Bg O)) O ?_;refine .Am O O O (λd w b=>.ld (.gd d O) b (k:=0) O BP o) O (.Am O O O (λd w b=>(.mo O)) O (.Am O O O (λd w b=>(.nilCheck (.gd d O))) O ?_));refine .Am O O O (λd w b=>(by first|exact .fieldAddr 0 (.gd d O) j_ O O Bg O|exact .Bn 0 (.gd d O) j_ O O Bg O)) O ?_;refine .Am O O O (λd w b=>(by first|exact(.ld (.gd d O) b (k:=0) O BP O)|exact(.ld (.gd d O) b (k:=1) O BP O))) O ?_;refine .Am O O O (λd w b=>(.geq (.gd d O) (.gd d O))) O (.val (λw b=>(.po O O O)) O (.nil ?_));intro w b;refine gM 0 ?_ ?_<;>intro l ac
 ·refine gG 0 ?_;replace b:=b.A1 (k:=0) O om D K om;try dsimp only[List.set]at b
  rw[<-H];refine gF 5 (Xyf q1 j om om _) ?_;rintro ap w b;obtain⟨vd,cd,rfl,P,_⟩:=b.vS 0;refine gG 4 ?_;intro w b;have E:G0 ⟨x,y,z,e⟩ q t ok now=(q.eraseIdx j,0):=by
   rw[F,Y7];have f:=l;simp only[I0,decide_eq_true_eq]at f
   rcases f with h|h
   ·exact .inl h
   ·exact .inr (by rw[<-p];omega)
  rw[E];have Q:q1.eraseIdx j=q.eraseIdx j:=by rw[i,oR]
  rw[Q]at b;replace b:=b.px [1,1];obtain⟨J,R,u,b⟩:=b.fV 0;rw[Q]at P;exact⟨J,vd,cd,O,R,u,P,b⟩
 refine gG 0 (gD [1,0] [] [0,1,2,3,4,5,6,7,8,9,10,11,12,13,14,15,16,17,18] ?_);intro w b;refine gH 11 (AN.y 11 (λw _ _ af b=>.lo O b (k:=1) O BP o) (gE 5 (U7 x y _ z) ?_));intro w b;refine gG 1 ?_;have ai:=OR (Rk.C_ x y (n.tries+1-1) z);have M:(X2 X6 q1++r).set (j*4+3) (Ab (min (now+Rk.I4 (Rk.C_ x y (n.tries+1-1) z) 1099511627776) 1099511627776))=X2 X6 (q1.set j (⟨n.ticket,n.url,n.tries+1,min (now+Rk.I4 (Rk.C_ x y (n.tries+1-1) z) 1099511627776) 1099511627776⟩:Nt))++r:=yl C (⟨n.ticket,n.url,n.tries+1,min (now+Rk.I4 (Rk.C_ x y (n.tries+1-1) z) 1099511627776) 1099511627776⟩:Nt) _ 3 de r q1 j _ A O;refine gC 3 (Qa _ _ _) ?_;rintro _ _ ⟨rfl,rfl⟩;refine gH 4 (.s1 b (k:=0) O O O O Bg (by rw[Y0];omega) ?_);intro w b;try dsimp only[List.set]at b
 rw[M]at b;refine gG 6 ?_;intro w b;have E:G0 ⟨x,y,z,e⟩ q t ok now=(q.set j (Vh ⟨x,y,z,e⟩ n now),0):=by
  rw[F,Y3];have f:=l;simp only[G3,decide_eq_false_iff_not]at f
  rintro(h|h)
  ·rw[f.1]at h;cases h
  ·rw[<-p]at h;omega
 rw[E];have Q:q1.set j (⟨n.ticket,n.url,n.tries+1,min (now+Rk.I4 (Rk.C_ x y (n.tries+1-1) z) 1099511627776) 1099511627776⟩:Nt)=q.set j (Vh ⟨x,y,z,e⟩ n now):=by
  rw[i,cu];unfold Vh;rw[show n.tries+1-1=n.tries by omega]
 rw[Q]at b;have V:(q.set j (Vh ⟨x,y,z,e⟩ n now)).length=q.length:=kW ..;have Y:=TF C (q.set j (Vh ⟨x,y,z,e⟩ n now));replace b:=b.px [1,1];replace b:=b.A1 (k:=0) O om D Y om;try dsimp only[List.set]at b
 obtain⟨J,R,u,b⟩:=b.fV 0;exact⟨J,_,cap,O,R,u,od,by(try dsimp only);rw[V];exact b⟩
open Go.RowKit Go.WideShapes Go.ChangeShapes
theorem sI{Ar:TypeId×Va->H}{a:Nat}{t:TypeId}{x:DataW H×List MemPlace}(c:P.underlying t=some (.float .f64))(h:DataW.trod Ar P w a spare held fuel t cs=some x):∃b,cs=[.float .f64 b]/\(Lit.float .f64 b).wf=true:=by
 cases fuel with
 | zero=>simp[DataW.trod]at h
 | succ n =>
  unfold DataW.trod at h;rw[c]at h;split at h<;>simp_all
structure Sv where
 id:Int
 ord:Nat
 urls:Lu
 BZ:Bool
 Co:Bool
 back:Bool
 calls:Lu
 rel:List Lu
abbrev g_(s:Sv)(a:Oa)(c:Nat):Lv:=[Ab s.id,AQ s.ord,S s.urls,.bool s.BZ,.bool s.Co,.bool s.back,S s.calls,.slice a s.rel.length c]
def Fv(I:Im)(s:Sv)(l:Lv):Prop:=∃a c,l=g_ s a c/\s.rel.length<=c/\RS I a 1 s.rel.length (s.rel.map S)
theorem Fv.mono{s:Sv}{l:Lv}(h:Fv I s l)(f:Le I J):Fv J s l:=by
 obtain⟨a,c,e,b,d⟩:=h;exact⟨a,c,e,b,d.mono f⟩
structure Sv.fits(s:Sv):Prop where
 id:-9223372036854775808<=s.id/\s.id<=9223372036854775807
 ord:s.ord<18446744073709551616
 urls:s.urls.length<=maxLen
 calls:s.calls.length<=maxLen
 rel:s.rel.length<=maxLen/\∀x∈s.rel,x.length<=maxLen
theorem YU{Ar:TypeId×Va->H}{W:Wo}{x:DataW H×List MemPlace}(h:DataW.trod Ar prog W 0 spare held fuel 62 cs=some x):∃s:Sv,Fv (Fk W) s cs/\s.fits:=by
 obtain⟨xs,n,_,_,v,i,j⟩:=DataW.trod_struct HD h;rw[show prog.cellsOf 62=8 from by kernel_rfl]at v;obtain⟨y0,k⟩:∃y,DataW.trod Ar prog W 0 spare held n 3 ((cs.drop 0).take (prog.cellsOf 3))=some y:=⟨_,(j 0 _ O).trans (Y2 (nB i))⟩
 rw[show prog.cellsOf 3=1 from by kernel_rfl]at k;obtain⟨y1,m⟩:∃y,DataW.trod Ar prog W 0 spare held n 27 ((cs.drop 1).take (prog.cellsOf 27))=some y:=⟨_,(j 1 _ O).trans (Y2 (nB i))⟩
 rw[show prog.cellsOf 27=1 from by kernel_rfl]at m;obtain⟨y2,o⟩:∃y,DataW.trod Ar prog W 0 spare held n 9 ((cs.drop 2).take (prog.cellsOf 9))=some y:=⟨_,(j 2 _ O).trans (Y2 (nB i))⟩
 rw[show prog.cellsOf 9=1 from by kernel_rfl]at o;obtain⟨y3,p⟩:∃y,DataW.trod Ar prog W 0 spare held n 4 ((cs.drop 3).take (prog.cellsOf 4))=some y:=⟨_,(j 3 _ O).trans (Y2 (nB i))⟩
 rw[show prog.cellsOf 4=1 from by kernel_rfl]at p;obtain⟨y4,q⟩:∃y,DataW.trod Ar prog W 0 spare held n 4 ((cs.drop 4).take (prog.cellsOf 4))=some y:=⟨_,(j 4 _ O).trans (Y2 (nB i))⟩
 rw[show prog.cellsOf 4=1 from by kernel_rfl]at q;obtain⟨y5,r⟩:∃y,DataW.trod Ar prog W 0 spare held n 4 ((cs.drop 5).take (prog.cellsOf 4))=some y:=⟨_,(j 5 _ O).trans (Y2 (nB i))⟩
 rw[show prog.cellsOf 4=1 from by kernel_rfl]at r;obtain⟨y6,t⟩:∃y,DataW.trod Ar prog W 0 spare held n 9 ((cs.drop 6).take (prog.cellsOf 9))=some y:=⟨_,(j 6 _ O).trans (Y2 (nB i))⟩
 rw[show prog.cellsOf 9=1 from by kernel_rfl]at t;obtain⟨y7,u⟩:∃y,DataW.trod Ar prog W 0 spare held n 34 ((cs.drop 7).take (prog.cellsOf 34))=some y:=⟨_,(j 7 _ O).trans (Y2 (nB i))⟩
 rw[show prog.cellsOf 34=1 from by kernel_rfl]at u;obtain⟨v0,G,I,J,K,L,M,P,rfl⟩:∃v0 G I J K L M P,cs=[v0,G,I,J,K,L,M,P]:=by
  match cs,v with
  | [a,b,c,d,e,f,g,h],_=>exact⟨a,b,c,d,e,f,g,h,O⟩
 simp only[Em,EW,Q9,Il]at k m o p q r t u
 obtain⟨z0,e0,_,w0⟩:=DataW.trod_int B5 k;obtain⟨Q,z,w1⟩:=sI UL m;obtain⟨X,A,_,U⟩:=DataW.trod_string Bb o;obtain⟨Y,B,_⟩:=DataW.trod_bool KP p;obtain⟨Z,C,_⟩:=DataW.trod_bool KP q;obtain⟨z5,D,_⟩:=DataW.trod_bool KP r;obtain⟨z6,E,_,V⟩:=DataW.trod_string Bb t;obtain⟨a,c,l,F,R,h2,S,T⟩:=MD ET Bb kr u;simp only[List.cons.injEq,and_true]at e0 z A B C D E F
 subst e0 z A B C D E F;refine⟨⟨z0,Q,X.data.toList,Y,Z,z5,z6.data.toList,l⟩,⟨a,c,O,R,S⟩,⟨?_,of_decide_eq_true (show decide (Q<18446744073709551616)=true from w1),U,V,od,T⟩⟩;have w:=w0;simp only[Lit.wf,Yb,decide_eq_true_eq]at w
 exact⟨w.1,w.2⟩
theorem SB{Ar:TypeId×Va->H}{W:Wo}{x:DataW H×List MemPlace}(h:DataW.trod Ar prog W 0 spare held fuel 22 cs=some x):
  ∃(a:Oa) (cap:Nat) (L:List Lv) (l:List Sv),cs=[.slice a L.length cap]/\L.length<=cap/\cap<=maxLen/\L.length=l.length/\(∀c∈L,c.length=8)/\RS (Fk W) a 8 L.length L.flatten/\∀(i:Nat) (s:Sv),l[i]?=some s->s.fits/\∃c,L[i]?=some c/\Fv (Fk W) s c:=by
 obtain⟨a,cap,L,n,rfl,f,g,j,k,m⟩:=s8 (c:=8) Ot kr de h;have key:∀L:List Lv,(∀l∈L,∃y,DataW.trod Ar prog W 0 spare held n 62 l=some y)->∃l:List Sv,L.length=l.length/\∀(i:Nat) (s:Sv),l[i]?=some s->s.fits/\∃c,L[i]?=some c/\Fv (Fk W) s c:=by
  intro L
  induction L with
  | nil=>intro _;exact⟨[],O,λi s h=>by simp at h⟩
  | cons c L t =>
   intro h;obtain⟨y,r⟩:=h c sz;obtain⟨s,q,p⟩:=YU r;obtain⟨l,b,d⟩:=t (λc o=>h c (by simp[o]));refine⟨s::l,by simp[b],λi u e=>?_⟩;cases i with
   | zero=>simp at e;subst e;exact⟨p,c,O,q⟩
   | succ i=>simpa using d i u (su e)
 obtain⟨l,b,d⟩:=key L m;exact⟨a,cap,L,l,O,f,g,b,j,k,d⟩
def Cy(I:Im)(a:Oa)(l:List Sv):Prop:=∀(i:Nat) (s:Sv),l[i]?=some s->∃p b c,a=some p/\At I (p.add (i*8)) (g_ s b c)/\s.rel.length<=c/\RS I b 1 s.rel.length (s.rel.map S)
theorem Cy.mono{l:List Sv}(h:Cy I a l)(b:Le I J):Cy J a l:=λi s g=>by
 obtain⟨p,j,k,e,c,d,f⟩:=h i s g;exact⟨p,j,k,e,c.mono b,d,f.mono b⟩
theorem nR(h:At I p vs)(n:Nat):At I p (vs.take n):=by
 obtain⟨d,b,E,c,e,f⟩:=h;refine⟨d,b,E,c,e,λj v a=>?_⟩;rw[Q_]at a;split at a
 ·exact f j v a
 ·cases a
theorem mL{L:List Lv}{l:List Sv}(g:∀c∈L,c.length=8)(j:RS I a 8 L.length L.flatten)(h:∀(i:Nat) (s:Sv),l[i]?=some s->∃c,L[i]?=some c/\Fv I s c):Cy I a l:=λi s m=>by
 obtain⟨c,d,n,o,rfl,e,f⟩:=h i s m;obtain⟨p,rfl,k⟩:=j.2 (oh ((Y1.1 d).1));have b:=nR (k.add (i*8)) 8;rw[aZ L g i _ d]at b;exact⟨p,n,o,O,b,e,f⟩
end Go.Proofs.W9
namespace Be
variable {k:Int->Nat}
def DX(k:Int->Nat)(x y:Int):Prop:=k x<k y\/(k x=k y/\x<y)
theorem EY{x y z:Int}(h:DX k x y)(a:DX k y z):DX k x z:=by unfold DX at *;omega
theorem Xz7{x:Int}:¬ DX k x x:=by unfold DX;omega
theorem Rg{x y:Int}(h:x≠y):DX k x y\/DX k y x:=by unfold DX;omega
theorem Rf{x y:Int}(h:x<y):DX k y x↔k y<k x:=by unfold DX;omega
theorem Hf{x y:Int}(h:x<y)(a:¬ k y<k x):DX k x y:=by unfold DX;omega
def We(k:Int->Nat)(x y:Int):Int:=if k x<k y then -1 else if k y<k x then 1 else 0
theorem JX{x y:Int}:We k x y<0↔k x<k y:=by unfold We;split<;>(try split)<;>omega
abbrev So(k:Int->Nat)(l:List Int):Prop:=l.Pairwise (DX k)
def Cb(A T:List Int):Prop:=∀a∈A,∀t∈T,a<t
def swp(D:List Int)(i j:Nat):List Int:=(D.set i (D.getD j 0)).set j (D.getD i 0)
theorem Z3{j:Nat}(h:i≠j):swp D i j=swp D j i:=by
 unfold swp;rw[List.set_comm _ _ h]
theorem Gj(A B:List Int)(x:Int):(A++x::B).getD A.length 0=x:=by simp[Ya]
theorem mM(A M C:List Int)(p q:Int):swp (A++p::(M++q::C)) A.length (A.length+1+M.length)=A++q::(M++p::C):=by
 have b:=Gj A (M++q::C) p;have c:(A++p::(M++q::C)).getD (A.length+1+M.length) 0=q:=by
  have:=Gj (A++p::M) C q
  rw[Y0,Y4,show A.length+(M.length+1)=A.length+1+M.length by omega]at this;simpa using this
 unfold swp;rw[b,c];have a:(A++p::(M++q::C)).set A.length q=A++q::(M++q::C):=by
  rw[oQ _ _ (Y9 _),o3];rfl
 rw[a,oQ _ _ om,show A.length+1+M.length-A.length=M.length+1 by omega,List.set_cons_succ,oQ _ _ (Y9 _),o3];rfl
theorem fW(A C:List Int)(p q:Int):swp (A++p::q::C) A.length (A.length+1)=A++q::p::C:=by
 have:=mM A [] C p q
 simpa using this
theorem Td{d e:List Int}{x:Int}(h:So k (d++e))(i:∀u∈d,DX k u x)(j:∀u∈e,DX k x u):So k (d++x::e):=by
 obtain⟨a,b,c⟩:=kP.1 h;refine kP.2 ⟨a,T7.2 ⟨j,b⟩,λu g v f=>?_⟩;rcases Ys.1 f with rfl|f
 ·exact i u g
 ·exact c u g v f
theorem fS{U:List Int}{p x:Int}(h:So k (U++[p]))(b:DX k p x):∀u∈U++[p],DX k u x:=by
 intro u a;rcases Yt.1 a with a|a
 ·exact EY ((kP.1 h).2.2 u a p sz) b
 ·simp at a;subst a;exact b
theorem W2{V:List Int}{p:Nat}(h:p<V.length):V.getD p 0∈V:=by
 rw[Ya,Y2 h];exact iO h
theorem W4{A B:List Int}(h:i<A.length):(A++B).getD i 0=A.getD i 0:=by
 simp[Ya,kM,h]
theorem W5{A B:List Int}(h:A.length<=i):(A++B).getD i 0=B.getD (i-A.length) 0:=by
 simp[Ya,kM,Nat.not_lt.2 h]
theorem en{F G E:List Int}(a:F.length<=i)(b:i<F.length+G.length):(F++(G++E)).getD i 0∈G:=by
 rw[W5 a,W4 om];exact W2 om
theorem HJ{U:List Int}(h:0<U.length):∃V q,U=V++[q]:=by
 have a:U≠[]:=λe=>by rw[e]at h;simp at h
 exact⟨U.dropLast,U.getLast a,(zh a).symm⟩
theorem dY{U:List Int}(h:0<U.length):∃q V,U=q::V:=by
 cases U with
 | nil=>simp at h
 | cons q V=>exact⟨q,V,O⟩
theorem mJ{X Y:List Int}(hx:So k X)(a:So k Y)(h:∀x∈X,∀y∈Y,DX k x y):So k (X++Y):=kP.2 ⟨hx,a,h⟩
theorem EZ{A b T':List Int}(h:Cb A T)(e:∀x∈b,x∈A)(f:∀x∈T',x∈T):Cb b T':=λa c t d=>h a (e a c) t (f t d)
theorem Xqn:∀{X Y:List Int},So k X->So k Y->X.Perm Y->X=Y
 | [],Y,_,_,h=>(List.nil_perm.1 h).symm
 | x::X,[],_,_,h=>by have:=h.length_eq;simp at this
 | x::X,y::Y,hx,g,h=>by
  obtain⟨b,c⟩:=T7.1 hx;obtain⟨d,f⟩:=T7.1 g;have e:x=y:=by
   apply Classical.byContradiction
   intro a;have i:x∈Y:=by
    rcases Ys.1 (h.mem_iff.1 (kQ:x∈x::X))with h|h
    ·exact Aw h a
    ·exact h
   have j:y∈X:=by
    rcases Ys.1 (h.mem_iff.2 (kQ:y∈y::Y))with h|h
    ·exact Aw h.symm a
    ·exact h
   exact Xz7 (EY (b y j) (d x i))
  subst e;rw[Xqn c f (List.Perm.cons_inv h)]
inductive Full(k:Int->Nat)(s:Nat):List Int->Prop
 | nil:Full k s []
 | cons {U T:List Int}:U.length=s->So k U->Cb U T->Full k s T->Full k s (U++T)
theorem Full.append{s:Nat}{A B:List Int}(c:Full k s A)(h:Full k s B)(d:Cb A B):Full k s (A++B):=by
 induction c with
 | nil=>simpa using h
 | cons e f g j i =>
  rename_i U T
  rw[Yg];refine .cons e f (λa c t b=>?_) (i (EZ d (λx hx=>kK _ hx) (λx hx=>hx)));rcases Yt.1 b with b|b
  ·exact g a c t b
  ·exact d a (kN _ c) t b
theorem Full.one{s:Nat}{U:List Int}(h:U.length=s)(a:So k U):Full k s U:=by
 have:=Full.cons (T:=[]) h a (λ_ _ _ h=>by cases h) .nil
 simpa using this
def jC(k:Int->Nat)(s:Nat)(D:List Int):Prop:=∃A U,D=A++U/\Full k s A/\U.length<s/\So k U/\Cb A U
theorem jC.sorted{s:Nat}(h:jC k s D)(e:D.length<=s)(g:0<s):So k D:=by
 obtain⟨A,U,rfl,d,m,f,n⟩:=h;cases d with
 | nil=>simpa using f
 | cons i c j l =>
  rename_i V T
  simp only[Y0]at e
  have b:U=[]:=Yc om;have a:T=[]:=Yc om;subst b;subst a;simpa using c
theorem L6{A M:List Int}(h:Cb A T)(c:M.Perm A):Cb M T:=λa b=>h a (c.mem_iff.1 b)
theorem Fh{A M:List Int}(h:Cb A T)(c:M.Perm T):Cb A M:=λa b t d=>h a b t (c.mem_iff.1 d)
theorem RA{A B:List Int}(h:Cb A T)(d:Cb B T):Cb (A++B) T:=λa b t c=>by
 rcases Yt.1 b with b|b
 ·exact h a b t c
 ·exact d a b t c
def BI:Nat->List Int
 | 0=>[]
 | n+1=>BI n++[(n:Int)]
theorem E7:∀n,(BI n).length=n
 | 0=>rfl
 | n+1=>by rw[BI,Y0,E7 n];rfl
theorem Cp:∀{n:Nat} {x:Int},x∈BI n↔0<=x/\x<n
 | 0,x=>by simp[BI]<;>omega
 | n+1,x=>by
  rw[BI,Yt,Cp]
  simp
  omega
theorem IF:∀n,(BI n).Pairwise (·<·)
 | 0=>.nil
 | n+1=>by
  rw[BI];refine kP.2 ⟨IF n,by simp,λa c b d=>?_⟩;simp at d
  have:=Cp.1 c
  omega
def Ord(k:Int->Nat)(n:Nat)(D:List Int):Prop:=So k D/\D.Perm (BI n)
theorem Ord.unique{D':List Int}(h:Ord k n D)(a:Ord k n D'):D=D':=Xqn h.1 a.1 (h.2.trans a.2.symm)
theorem Ord.len(h:Ord k n D):D.length=n:=by rw[h.2.length_eq,E7]
instance (k:Int->Nat)(x y:Int):Decidable (DX k x y):=by unfold DX;infer_instance
structure Sel(k:Int->Nat)(n:Nat)(us:List Bool)(Os T:List Int):Prop where
 len:us.length=n
 perm:(Os++T).Perm (BI n)
 so:So k Os
 before:∀o∈Os,∀t∈T,DX k o t
 used:∀o∈Os,us.getD o.toNat false=true
 free:∀t∈T,us.getD t.toNat false=false
def o_(k:Int->Nat)(T:List Int)(i:Nat)(b:Int):Prop:=(b=-1/\∀t∈T,(i:Int)<=t)\/(b∈T/\b<i/\∀t∈T,t<i->t=b\/DX k b t)
theorem o_.lt{b:Int}(h:o_ k T i b):b<i:=by
 rcases h with⟨h,_⟩|⟨_,h,_⟩<;>omega
end Be
namespace Go.Proofs.W9
open Gk Rk
open Tryz
structure Cx(I:Im)(l:List Nat)(p:Addr):Prop where
 ex:∃a c,At I p [.slice a l.length c]/\RS I a 1 l.length (l.map AQ)
 small:∀v∈l,v<18446744073709551616
def kx(l:List Nat)(x:Int):Nat:=eD (l.getD x.toNat 0)
theorem Cx.mono{l:List Nat}(h:Cx I l p)(b:Le I J):Cx J l p:=by
 obtain⟨⟨a,c,d,e⟩,f⟩:=h;exact⟨⟨a,c,d.mono b,e.mono b⟩,f⟩
theorem Xql{l:List Nat}(h:∀v∈l,v<18446744073709551616)(i:Nat):l.getD i 0<18446744073709551616:=by
 by_cases hi:i<l.length
 ·refine h _ ?_;rw[Ya,Y2 hi];exact iO hi
 ·rw[Ya,T1 om];decide
abbrev CF(p:Addr):Va:=.func (.func 191) #[] #[.pointer (some p)]
theorem dX{l:List Nat}(h:Cx I l p)(x y:Int)(e:0<=x)(f:x<(l.length:Int))(d:0<=y)(g1:y<(l.length:Int))(B w:Wo)(N:La)(a:Aa B w I N):
  Ce B I N 191 [Ab x,Ab y,.pointer (some p)] w (Ab (Be.We (kx l) x y)):=by
 obtain⟨j,k,c,g⟩:=h.ex;obtain⟨pa,rfl,b⟩:=g.2 om;refine gG 1 (.qt a (.val (λw a=>.BG (.of O) a c isAgg205 O) O (.val (λw a=>(.mo O)) O ?_)));refine .val (λw a=>(by first|exact .io O O om om Js Fu|exact .ii O O om om Js Fu)) O ?_;refine .val (λw a=>.eR AQ l 0 (i:=x) (.of O) a b O Qq e f) O (.call func193 O (AM O X3) O (λw a=>QK (NO _ (Xql h.small (x).toNat) w) a) (.val (λw a=>.BG (.of O) a c isAgg205 O) O (.val (λw a=>(.mo O)) O ?_)));refine .val (λw a=>(by first|exact .io O O om om Js Fu|exact .ii O O om om Js Fu)) O ?_;refine .val (λw a=>.eR AQ l 0 (i:=y) (.of O) a b O Qq d g1) O (.call func193 O (AM O X3) O (λw a=>QK (NO _ (Xql h.small (y).toNat) w) a) (.call func192 O (AM O (AM O X3)) O (λw a=>QK (Xrh _ _ w) a) (.val (λw a=>(.ao O)) O (.nil ?_))));intro w a;refine gG 0 (⟨?_,a⟩);unfold Be.We kx;simp only[kY]
theorem eu{l:List Nat}(hx:Cx I l p)(F R C:List Int)(hR:R.Pairwise (·<·))(ah:∀x∈R,0<=x/\x<(l.length:Int))(H n c:Nat)(r:Lv)(ib:Int)(az:ib=F.length+R.length)(hn:ib<=n)(ay:F.length+R.length+C.length<=1000000)(B w:Wo)(N:La)(d:Aa B w I (Ad H ((F++(R++C)).map Ab++r) 3::N)):
  Cz 358 [.slice (some (ad H 0)) n c,Ab (F.length:Nat),Ab ib,CF p] w λv w'=>v=.tuple #[]/\∃M,M.Perm R/\Be.So (kx l) M/\Aa B w' I (Ad H ((F++(M++C)).map Ab++r) 3::N):=by
 refine gG 3 ?_;have al:(F.length:Int)+1=max ((F.length:Int)+(R.take 1).length) (F.length+1)/\(R.take 1=[]->R.drop 1=[])/\Be.So (kx l) (R.take 1)/\Be.Cb (R.take 1) (R.drop 1)/\(R.drop 1).Pairwise (·<·)/\(R.take 1++R.drop 1).Perm R/\Aa B w I (Ad H ((F++(R.take 1++(R.drop 1++C))).map Ab++r) 3::N):=by
  refine⟨?_,?_,?_,?_,?_,by rw[FA],?_⟩
  ·cases R<;>simp<;>omega
  ·intro h;cases R with
   | nil=>rfl
   | cons a R=>simp at h
  ·cases R with
   | nil=>exact .nil
   | cons a R=>simp
  ·cases R with
   | nil=>intro _ h;simp at h
   | cons a R=>intro u o t Z;simp at o Z;subst o;exact(T7.1 hR).1 t Z
  ·exact hR.sublist (List.drop_sublist 1 R)
  ·have e:F++(R.take 1++(R.drop 1++C))=F++(R++C):=by rw[<-Yg (R.take 1),FA]
   rw[e];exact d
 refine .lk [0,1,2,3] (σ:=Int×List Int×List Int) (λ(i,M,T) _m=>(8,Ab i)::_m) (λ(i,M,T) w=>i=max ((F.length:Int)+M.length) (F.length+1)/\(M=[]->T=[])/\Be.So (kx l) M/\Be.Cb M T/\T.Pairwise (·<·)/\(M++T).Perm R/\Aa B w I (Ad H ((F++(M++(T++C))).map Ab++r) 3::N)) (λ(i,M,T)=>T.length) ((F.length:Int)+1,R.take 1,R.drop 1) al ?_;rintro⟨i,M,T⟩ w ⟨hi,L,hM,hc,hT,P,d⟩;have z:=P.length_eq;rw[Y0]at z;refine gN 3 ?_ ?_<;>intro au
 ·refine gG 0 ?_;have aw:0<M.length:=by
   rcases JP M.length with h|h
   ·have h2:=L (Yc h);rw[h2]at z;simp at z;omega
   ·exact h
  obtain⟨x,T,rfl⟩:=Be.dY (U:=T) om;simp only[Y4]at z
  refine gG 2 ?_;refine .lk [0,1,2,3,8] (σ:=Int×List Int×List Int) (λ(j,f,g) _m=>(9,Ab j)::_m) (λ(j,f,g) w=>j=(F.length:Int)+f.length/\Be.So (kx l) (f++g)/\(∀u∈g,Be.DX (kx l) x u)/\(f++g).Perm M/\Aa B w I (Ad H ((F++(f++x::(g++(T++C)))).map Ab++r) 3::N)) (λ(j,f,g)=>f.length) (i,M,[]) ⟨om,by rw[Yx];exact hM,(λ_ h=>by cases h),by rw[Yx],d⟩ ?_;rintro⟨j,f,g⟩ w ⟨V,hs,Q,m,d⟩;obtain⟨D,G⟩:∃D,D=F++(f++x::(g++(T++C))):=⟨_,O⟩
  rw[<-G]at d;have ai:=m.length_eq;rw[Y0]at ai;have av:D.length=F.length+(f.length+1+g.length+(T.length+C.length)):=by rw[G];simp only[Y0,Y4];omega
  have S:∀v∈f++x::g,0<=v/\v<(l.length:Int):=λv hv=>by
   refine ah v (P.mem_iff.1 ?_);rcases Yt.1 hv with h|h
   ·exact kN _ (m.mem_iff.1 (kN _ h))
   ·rcases Ys.1 h with rfl|h
    ·exact kK _ kQ
    ·exact kN _ (m.mem_iff.1 (kK _ h))
  have E:∀q:Nat,F.length<=q->q<F.length+(f.length+1+g.length)->0<=D.getD q 0/\D.getD q 0<(l.length:Int):=λq J h2=>by
   refine S _ ?_;have e:D=F++((f++x::g)++(T++C)):=by rw[G];simp only[Yg,DV]
   rw[e];exact Be.en J (by simp only[Y0,Y4];omega)
  have aa:D.getD j.toNat 0=x:=by
   have:=Be.Gj (F++f) (g++(T++C)) x
   rw[show(F++f).length=j.toNat by rw[Y0];omega]at this;rw[G,<-Yg];exact this
  have Y:∀u∈f++g,u<x:=λu o=>hc u (m.mem_iff.1 o) x kQ
  refine gG 0 (.qt d (.val (λw d=>(.mo O)) O (.val (λw d=>(.mo O)) O (.val (λw d=>(.gtr (.of O) (.of O))) O (.val (λw d=>(.mo O)) O (.Am O O O (λb w d=>(.mo O)) O (.Am O O O (λb w d=>(.mo O)) O (.Am O O O (λb w d=>(.mo O)) O ?_))))))));refine .Am O O O (λb w d=>(by first|exact .indexAddr (.gd b O) (.gd b O) (ot b) (ot b) kf Bg|exact .AX (.gd b O) (.gd b O) (ot b) (ot b) kf Bg)) O ?_;refine .Am O O O (λb w d=>.jc Ab D 0 r (i:=j) (.gd b O) d (k:=0) O O BP (ot b) (ot b)) O ?_;refine .Am O O O (λb w d=>(.mo O)) O (.Am O O O (λb w d=>(.mo O)) O (.Am O O O (λb w d=>(.sub (.gd b O) (.of O) ⟨om,om⟩)) O ?_));refine .Am O O O (λb w d=>(by first|exact .indexAddr (.gd b O) (.gd b O) (ot b) (ot b) kf Bg|exact .AX (.gd b O) (.gd b O) (ot b) (ot b) kf Bg)) O ?_;refine .Am O O O (λb w d=>.jc Ab D 0 r (i:=j-1) (.gd b O) d (k:=0) O O BP (ot b) (ot b)) O ?_;refine .lN O O O func191 O (λb=>.gd b O) (λb=>X4 (.gd b O) (X4 (.gd b O) X3)) O (λb w d=>by have W:=E j.toNat (ot b) (ot b);have X:=E (j-1).toNat (ot b) (ot b);exact dX hx _ _ W.1 W.2 X.1 X.2 B w _ d) ?_;refine .Am O O O (λb w d=>(.lss (.gd b O) (.of O))) O (.val (λw d=>(.pa O O O)) O (.nil ?_));intro w d;refine gN 0 ?_ ?_<;>intro A
  ·refine gG 0 (gD [0] [15,17] [0,1,2,3,4,5,6,7,8,9,10,11,12,13,14,15,16,17] ?_);intro w d;refine gH 9 (AN.y 9 (λw _ _ ac d=>.jc Ab D 0 r (i:=j-1) (.of O) d (k:=0) O O BP om om) (gH 3 (AN.y 13 (λw _ _ ac d=>.jc Ab D 0 r (i:=j) (.of O) d (k:=0) O O BP om om) (gH 1 (AN.e (.stE Ab _ r d (k:=0) O (.of O) (.of O) O O Bg om (by(try rw[kW]);omega) ?_))))));intro w d;dsimp only[List.set]at d;refine gH 1 (AN.e (.stE Ab _ r d (k:=0) O (.of O) (.of O) O O Bg om (by(try rw[kW]);omega) ?_));intro w d;dsimp only[List.set]at d;refine gG 3 ?_;obtain⟨s,q,rfl⟩:=Be.HJ (U:=f) om;have e1:D=(F++s)++q::x::(g++(T++C)):=by rw[G];simp only[Yg,DV,CS]
   have hq:D.getD (j-1).toNat 0=q:=by
    have:=Be.Gj (F++s) (x::(g++(T++C))) q
    rw[show(F++s).length=(j-1).toNat by rw[Y0];simp only[Y0,Y4,Yi]at V;omega]at this;rw[e1];exact this
   have ag:Be.DX (kx l) x q:=by
    have h:=Be.JX.1 A.2;rw[aa,hq]at h;exact(Be.Rf (Y q sz)).2 h
   have e:=Be.fW (F++s) (g++(T++C)) q x;rw[<-e1,show(F++s).length=(j-1).toNat by rw[Y0];simp only[Y0,Y4,Yi]at V;omega,show(j-1).toNat+1=j.toNat by omega,Be.Z3 om]at e;unfold Be.swp at e;rw[e]at d;refine Br (_,s,_) O ⟨by simp only[Y0,Y4,Yi]at V;omega,su hs,?_,su m,?_⟩ sz
   ·intro u o;rcases Ys.1 o with rfl|o
    ·exact ag
    ·exact Q u o
   ·rw[Yg]at d;exact d
  refine gG 3 ?_;have ae:∀u∈f,Be.DX (kx l) u x:=by
   intro u o;obtain⟨s,q,rfl⟩:=Be.HJ (U:=f) (Y6k o);have e1:D=(F++s)++q::x::(g++(T++C)):=by rw[G];simp only[Yg,DV,CS]
   have hq:D.getD (j-1).toNat 0=q:=by
    have:=Be.Gj (F++s) (x::(g++(T++C))) q
    rw[show(F++s).length=(j-1).toNat by rw[Y0];simp only[Y0,Y4,Yi]at V;omega]at this;rw[e1];exact this
   simp only[Y0,Y4,Yi]at V
   have K:¬ (Be.We (kx l) (D.getD j.toNat 0) (D.getD (j-1).toNat 0)<0):=by
    rcases A with h|h
    ·omega
    ·omega
   rw[Be.JX,aa,hq]at K;exact Be.fS (kP.1 hs).1 (Be.Hf (Y q sz) K) u o
  have hU:Be.So (kx l) (f++x::g):=Be.Td hs (ae) Q;refine Br (_,_,T) O ⟨by simp only[Y0,Y4];have:=m.length_eq;rw[Y0]at this;omega,λh=>by simp at h,hU,?_,(T7.1 hT).2,?_,?_⟩ sz
  ·intro u o t Z;have J:u∈f++g\/u=x:=by
    rcases Yt.1 o with h|h
    ·exact .inl (kN _ h)
    ·rcases Ys.1 h with h|h
     ·exact .inr h
     ·exact .inl (kK _ h)
   rcases J with J|rfl
   ·exact hc u (m.mem_iff.1 J) t (Q8 _ Z)
   ·exact(T7.1 hT).1 t Z
  ·refine List.Perm.trans ?_ P;refine List.Perm.trans (List.Perm.append_right T qP) ?_;rw[DV];refine List.Perm.trans (List.Perm.cons x (m.append_right T)) ?_;exact qP.symm
  ·rw[G]at d;have e:F++(f++x::(g++(T++C)))=F++((f++x::g)++(T++C)):=by simp only[Yg,DV]
   rw[e]at d;exact d
 refine gG 0 ?_;have af:T=[]:=by
  refine Yc ?_;rcases JP M.length with h|h
  ·have:=L (Yc h);rw[this];first|done|rfl
  ·omega
 subst af;rw[Yx]at P;exact⟨O,M,P,hM,su d⟩
theorem XF{l:List Nat}(hx:Cx I l p)(F R C:List Int)(i:R.Pairwise (·<·))(g:∀x∈R,0<=x/\x<(l.length:Int))(a n c:Nat)(r:Lv)(h b:Int)(e:h=F.length)(f:b=F.length+R.length)(k:b<=n)(d:F.length+R.length+C.length<=1000000)(B w:Wo)(N:La)(j:Aa B w I (Ad a ((F++(R++C)).map Ab++r) 3::N)):
  Cz 358 [.slice (some (ad a 0)) n c,Ab h,Ab b,CF p] w λv w'=>v=.tuple #[]/\∃M,M.Perm R/\Be.So (kx l) M/\Aa B w' I (Ad a ((F++(M++C)).map Ab++r) 3::N):=by
 subst e;exact eu hx F R C i g a n c r b f k d B w N j
theorem Nh{l:List Nat}(hx:Cx I l p)(f n c:Nat)(r:Lv)(F:l.length=n)(K:n<=20)(B w:Wo)(N:La)(e:Aa B w I (Ad f ((Be.BI n).map Ab++r) 3::N)):
  Cz 283 [.slice (some (ad f 0)) n c,Ab n,CF p] w λv w'=>v=.tuple #[]/\∃D,Be.Ord (kx l) n D/\Aa B w' I (Ad f ((D).map Ab++r) 3::N):=by
 refine gG 4 (.lk [0,1,2,6] (σ:=Int×Int×List Int×List Int) (λ(a,b,M,R) _m=>(7,Ab a)::(8,Ab b)::_m) (λ(a,b,M,R) w=>a=M.length/\b=a+20/\Be.Full (kx l) 20 M/\Be.Cb M R/\R.Pairwise (·<·)/\(M++R).Perm (Be.BI n)/\Aa B w I (Ad f ((M++R).map Ab++r) 3::N)) (λ(a,b,M,R)=>R.length) (0,20,[],Be.BI n) ⟨O,O,.nil,(λ_ h=>by cases h),Be.IF n,.refl _,e⟩ ?_);rintro⟨a,b,M,R⟩ w ⟨J,E,s,q,i,k,e⟩;have m:=k.length_eq;rw[Y0,Be.E7]at m;have j:∀x∈R,0<=x/\x<(l.length:Int):=λx hx=>by rw[F];exact Be.Cp.1 (k.mem_iff.1 (kK _ hx))
 refine gN 3 ?_ ?_<;>intro z
 ·refine gH 4 ?_;have o:R.take 20++R.drop 20=R:=FA 20 R;rw[<-o]at e;refine gP 0 [] (XF hx M _ _ (i.sublist (List.take_sublist 20 R)) (λx h=>j x (kO h)) f n c r _ b om (by rw[Yj];omega) om (by rw[Yj,Y6];omega) B w N) ?_;rintro _ w ⟨rfl,M2,d,g,e⟩;refine gG 6 ?_;refine Br (b,_,M++M2,R.drop 20) O ⟨by have C:=d.length_eq;rw[Yj]at C;rw[Y0];omega,O,?_,?_,i.sublist (List.drop_sublist 20 R),?_,?_⟩ (by(try dsimp only);rw[Y6];omega)
  ·exact s.append (.one (by rw[d.length_eq,Yj];omega) g) (Be.Fh (Be.EZ q (λ_ h=>h) (λ_ h=>kO h)) d)
  ·refine Be.RA (Be.EZ q (λ_ h=>h) (λ_ h=>zo h)) (Be.L6 ?_ d);intro u H t G;rw[<-FA 20 R]at i;exact(kP.1 i).2.2 u H t G
  ·rw[Yg];refine List.Perm.trans (List.Perm.append_left M (d.append_right _)) ?_;rw[FA];exact k
  ·rw[Yg];exact e
 refine gH 4 ?_;replace e:Aa B w I (Ad f ((M++(R++[])).map Ab++r) 3::N):=su e
 refine gP 0 [] (XF hx M R [] i j f n c r _ n om om om (by simp only[Yi];omega) B w N) ?_;rintro _ w ⟨rfl,M2,d,g,e⟩;refine gG 0 (.lk [1,6] (σ:=Unit) (λ_ _m=>_m) (λ_ w=>Aa B w I (Ad f ((M++M2).map Ab++r) 3::N)) (λ_=>0) () (su e) ?_);rintro _ w e;refine gU 3 (λy A=>?_);refine gG 0 (⟨O,M++M2,⟨(show Be.jC (kx l) 20 (M++M2) from⟨M,M2,O,s,by rw[d.length_eq];omega,g,Be.Fh q d⟩).sorted (by rw[Y0,d.length_eq];omega) de,(List.Perm.append_left M d).trans k⟩,e⟩)
theorem ey(b:Va)(w:Wo):
  Cz 358 [.slice none 0 0,Ab 0,Ab 0,b] w λv w'=>v=.tuple #[]/\w=w':=by
 obtain⟨w0,a⟩:∃w0,w=w0:=⟨_,O⟩
 rw[show(λ(v:Va) (w':Wo)=>v=.tuple #[]/\w=w')=(λv w'=>v=.tuple #[]/\w0=w')by rw[a]];refine gG 3 (.lk [2,8] (σ:=Unit) (λ_ _m=>_m) (λ_ w=>w=w0) (λ_=>0) () a ?_);rintro _ w c;refine gG 3 (.Bt (rfl) ?_);exact gG 0 ⟨O,c.symm⟩
theorem Ni(c:Va)(w:Wo):
  Cz 283 [.slice none 0 0,Ab 0,c] w λv w'=>v=.tuple #[]/\w=w':=by
 obtain⟨w0,a⟩:∃w0,w=w0:=⟨_,O⟩
 rw[show(λ(v:Va) (w':Wo)=>v=.tuple #[]/\w=w')=(λv w'=>v=.tuple #[]/\w0=w')by rw[a]];refine gG 4 (.lk [0,1,2,6,7,8] (σ:=Unit) (λ_ _m=>_m) (λ_ w=>w=w0) (λ_=>0) () a ?_);rintro _ w b;refine gG 3 (.Bt (rfl) (gC 4 (ey _ _) ?_));rintro _ _ ⟨rfl,rfl⟩;refine gG 0 (.lk [1,6] (σ:=Unit) (λ_ _m=>_m) (λ_ w=>w=w0) (λ_=>0) () b ?_);rintro _ w b;refine gG 3 (.Bt (rfl) ?_);exact gG 0 ⟨O,b.symm⟩
theorem ZS(a:Va)(w:Wo):
  Cz 190 [.slice none 0 0,a] w λv w'=>v=.tuple #[]/\w=w':=by
 refine gC 4 (Ni _ _) ?_;rintro _ _ ⟨rfl,rfl⟩;exact gG 0 ⟨O,O⟩
theorem Xxr{l:List Nat}(hx:Cx I l p)(a n c:Nat)(r:Lv)(f:l.length=n)(e:n<=20)(B w:Wo)(N:La)(b:Aa B w I (Ad a ((Be.BI n).map Ab++r) 3::N)):
  Cz 190 [.slice (some (ad a 0)) n c,CF p] w λv w'=>v=.tuple #[]/\∃D,Be.Ord (kx l) n D/\Aa B w' I (Ad a ((D).map Ab++r) 3::N):=by
 refine gP 4 [] (Nh hx a n c r f e B w N) ?_;rintro _ w ⟨rfl,D,d,b⟩;exact gG 0 ⟨O,D,d,b⟩
theorem ZT{l:List Nat}(hx:Cx I l p)(u:Va)(n:Nat)(A:l.length=n)(G:n<=20)(B w:Wo)(N:La)(q:Aa B w I (Ao 3 1 u n ((Be.BI n).map Ab)::N)):
  Cz 190 [u,CF p] w λv w'=>v=.tuple #[]/\∃D,Be.Ord (kx l) n D/\Aa B w' I (Ao 3 1 u n ((D).map Ab)::N):=by
 rcases JP n with m|m
 ·subst m;have f:u=.slice none 0 0\/∃i c r,u=.slice (some (ad i 0)) 0 c/\c<=maxLen/\r.length=c/\Aa B w I (Ad i (([]:List Int).map Ab++r) 3::N):=by
   obtain⟨h,⟨L,C,rfl,⟨P,F⟩,J⟩,H⟩:=q;rcases F with⟨K,_,_⟩|⟨b,cap,rest,rfl,rfl,M,E,z⟩
   ·exact .inl K
   ·exact .inr ⟨b,cap,rest,O,E,by simp[Be.BI]at z;exact z,_,⟨_,C,O,O,J⟩,H⟩
  rcases f with rfl|⟨i,c,r,rfl,g,t,d⟩
  ·refine(ZS (CF p) w).mono ?_;rintro e w' ⟨v,rfl,rfl,rfl⟩;exact⟨_,O,O,[],⟨.nil,.refl _⟩,q⟩
  ·refine(Xxr hx i 0 c r A de B w N d).mono ?_;rintro e w' ⟨v,rfl,rfl,D,j,a⟩;have o:D=[]:=Yc j.len;subst o;exact⟨_,O,O,[],j,a.A1 (k:=0) (xs:=[]) (cap:=c) (rest:=r) O (Y5 _) g O (su t)⟩
 ·obtain⟨i,c,r,rfl,s,g,x,y,d⟩:=q.AF (k:=0) O m;refine(Xxr hx i n c r A G B w N d).mono ?_;rintro e w' ⟨v,rfl,rfl,D,j,a⟩;refine⟨_,O,O,D,j,a.A1 (k:=0) (xs:=D.map Ab) (cap:=c) (rest:=r) O s g (by rw[Ym,j.len];omega) ?_⟩;rw[Ym,j.len];rw[x]at y;omega
theorem Qn(l:List Nat)(f:∀v∈l,v<18446744073709551616)(y:l.length<=20)(a:Oa)(c:Nat)(u:RS I a 1 l.length (l.map AQ))(N:La)(b:Aa B w I N):
  Cz 99 [.slice a l.length c] w λv w'=>∃D d e,v=.slice d l.length e/\Be.Ord (kx l) l.length D/\Aa B w' I (Ao 3 1 (.slice d l.length e) l.length (D.map Ab)::N):=by
 refine gG 6 ?_;intro b1 w b;replace b:=b.Al 3 1;refine .lk [1,6] (σ:=Nat×Oa×Nat) (λ(k,d,e) _m=>(3,.slice d k e)::(7,Ab (k:Nat))::_m) (λ(k,d,e) w=>k<=l.length/\Aa B w I (Ao 3 1 (.slice d k e) k ((Be.BI k).map Ab)::Ad b1 [.slice a l.length c] 205::N)) (λ(k,d,e)=>l.length-k) (0,none,0) ⟨Y5 _,b⟩ ?_;rintro⟨k,d,e⟩ w ⟨x,b⟩;refine gN 1 ?_ ?_<;>intro t
 ·refine gG 9 ?_;intro q p r g w b;refine Br (_,_,_) O ⟨om,?_⟩;rw[Be.BI,Yn];exact b
 refine gH 2 ?_;obtain rfl:k=l.length:=om
 obtain⟨J,n,i,o⟩:=b.fZ 1;clear b;have b:=o;clear o;have m:Cx J l (ad b1 0):=⟨⟨a,c,⟨O,_,_,_,i,λj v h=>by simpa using h⟩,u.mono n⟩,f⟩
 refine gP 0 [] (ZT m _ _ O om B w N) ?_;rintro _ w ⟨rfl,D,s,b⟩;exact gG 2 ⟨D,d,e,O,s,b.weaken n⟩
def Mb(s:Sv):Bool:=!((decide (100<(s.urls.length:Int))&&decide ((s.urls.length:Int)<=200)||decide (100<(s.calls.length:Int))&&decide ((s.calls.length:Int)<=200))||decide (20<(s.rel.length:Int)))
def T9(l:List Sv):Bool:=l.all Mb&&decide ((l.length:Int)<=20)
theorem cD(a:Oa)(cap:Nat)(l:List Sv)(y:l.length<=cap)(o:cap<=maxLen)(z:Cy I a l)(N:La)(f:Aa B w I N):
  Ce B I N 26 [.slice a l.length cap] w (.bool (T9 l)):=by
 unfold maxLen at o;refine calls func26 O ntmps26 O (.seq (.q 1 O (.seq (.seq (.q 1 O (.block (.loop (σ:=Nat) (λi=>[(0,.slice a l.length cap),(3,Ab (i:Nat))]) (λi w=>i<=l.length/\(∀(j:Nat) (s:Sv),j<i->l[j]?=some s->Mb s=true)/\Aa B w I N) (λi=>l.length-i) 0 ⟨O,O,trivial⟩ ⟨Y5 _,λ_ _ h=>Aw h om,f⟩ ?_)))))));rintro i w ⟨hi,m,f⟩;change WC _ _ _ _ [(0,.slice a l.length cap),(3,Ab (i:Nat))] w;refine .seq (.seq (.region (.run 4 O ⟨⟨_,Ot⟩,trivial⟩ (.nil ?_))));refine .cond O (λg=>?_) λg=>?_
 ·have k:=g;try simp only[iF]at k
  refine .skip (.seq (.block (.seq ?_)));obtain⟨s,n⟩:∃s,l[i]?=some s:=⟨_,Y2 om⟩
  obtain⟨p,D,E,rfl,hx,A,C⟩:=z i s n;refine .t 2 O ?_
  first|refine .val (.io O O om om Ot Ib) O ?_|refine .val (.ii O O om om Ot Ib) O ?_
  first|refine .val (.fo 2 O HD O O A3 O) O ?_|refine .val (.fi 2 O HD O O A3 O) O ?_
  refine .val (.BG (.of O) f (At.add hx _) Bq O) O (.run 3 O ⟨Bb,trivial⟩ (.gm O O O O (.gm O O O O ?_)));refine .Am O O (λb=>(by first|exact .indexAddr (.gd b O) (.gd b O) (ot b) (ot b) Ot Ib|exact .AX (.gd b O) (.gd b O) (ot b) (ot b) Ot Ib)) O ?_;refine .Am O O (λb=>(by first|exact .fieldAddr 2 (.gd b O) HD O O A3 O|exact .Bn 2 (.gd b O) HD O O A3 O)) O ?_;refine .Am O O (λb=>(.BG (.gd b O) f (At.add hx _) Bq O)) O (.Am O O (λb=>(.len (.gd b O) Bb)) O (.Am O O (λb=>(.leq (.gd b O) (.of O))) O (.val (.pa O O O) O (.q 1 O (.gm O O O O (.gm O O O O ?_))))));refine .Am O O (λb=>(by first|exact .indexAddr (.gd b O) (.gd b O) (ot b) (ot b) Ot Ib|exact .AX (.gd b O) (.gd b O) (ot b) (ot b) Ot Ib)) O ?_;refine .Am O O (λb=>(by first|exact .fieldAddr 6 (.gd b O) HD O O A3 O|exact .Bn 6 (.gd b O) HD O O A3 O)) O ?_;refine .Am O O (λb=>(.BG (.gd b O) f (At.add hx _) Bq O)) O (.Am O O (λb=>(.len (.gd b O) Bb)) O (.Am O O (λb=>(.gtr (.gd b O) (.of O))) O (.Am O O (λb=>(.move (.gd b O))) O (.Gp O O O (λb c=>(.mo O)) O (.Gp O O O (λb c=>(.mo O)) O ?_)))));refine .Gp O O O (λb c=>(by first|exact .indexAddr (.ek b c O) (.ek b c O) (by(try simp only[iF]at b c);omega) (by(try simp only[iF]at b c);omega) Ot Ib|exact .AX (.ek b c O) (.ek b c O) (by(try simp only[iF]at b c);omega) (by(try simp only[iF]at b c);omega) Ot Ib)) O ?_;refine .Gp O O O (λb c=>(by first|exact .fieldAddr 6 (.ek b c O) HD O O A3 O|exact .Bn 6 (.ek b c O) HD O O A3 O)) O ?_;refine .Gp O O O (λb c=>(.BG (.ek b c O) f (At.add hx _) Bq O)) O (.Gp O O O (λb c=>(.len (.ek b c O) Bb)) O (.Gp O O O (λb c=>(.leq (.ek b c O) (.of O))) O (.Am O O (λb=>(.mu (.gd b O) (.gd b O) (.of O))) O (.val (.po O O O) O (.q 1 O (.gm O O O O (.gm O O O O ?_)))))));refine .Am O O (λb=>(by first|exact .indexAddr (.gd b O) (.gd b O) (ot b) (ot b) Ot Ib|exact .AX (.gd b O) (.gd b O) (ot b) (ot b) Ot Ib)) O ?_;refine .Am O O (λb=>(by first|exact .fieldAddr 7 (.gd b O) HD O O G2 O|exact .Bn 7 (.gd b O) HD O O G2 O)) O ?_;refine .Am O O (λb=>(.BG (.gd b O) f (At.add hx _) Ji O)) O (.Am O O (λb=>(.Bo (.gd b O) ET)) O (.Am O O (λb=>(.gtr (.gd b O) (.of O))) O (.val (.po O O O) O (.nil ?_))));refine .cond O (λd=>?_) λd=>?_
  ·refine .seq (.q 1 O (.ret (E3 results26 O ?_)));refine⟨_,O,?_,f⟩
   have:T9 l=false:=by
    unfold T9;rw[show l.all Mb=false from kR.2 ⟨s,Y8 n,by unfold Mb;rw[d];decide⟩];rfl
   rw[this]
  refine .skip (.region (.run 3 O ⟨⟨om,om⟩,trivial⟩ (.nil ?_)));refine⟨i+1,⟨O,O,trivial⟩,⟨om,λj u r v=>?_,f⟩,om⟩;rcases Yz j i with x|x
  ·exact m j u x v
  ·have e:j=i:=om
   subst e;rw[n]at v;cases v;unfold Mb;rw[d];rfl
 have k:=g;try simp only[iF]at k
 refine .exit (.seq (.region (.run 4 O ⟨⟨_,Ot⟩,trivial⟩ (.nil (.ret (E3 results26 O ?_))))));refine⟨_,O,?_,f⟩
 have:l.all Mb=true:=Dy.2 λs n=>by
  obtain⟨j,r⟩:=GH.1 n;exact m j s (oh ((Y1.1 r).1)) r
 unfold T9;rw[this,HH]
theorem Xnv(a b:Oa)(r s:Nat)(c g:List Lu)(D:c.length<=r)(E:g.length<=s)(F:c.length<=140737488355328)(A:RS I a 1 c.length (c.map S))(C:RS I b 1 g.length (g.map S))(N:La)(d:Aa B w I N):
  Ce B I N 7 [.slice a c.length r,.slice b g.length s] w (.bool (decide (c=g))):=by
 refine gN 6 ?_ ?_<;>intro u
 ·exact gG 1 ⟨by rw[decide_eq_false (λe=>by subst e;omega)],d⟩
 refine gG 1 (.lk [0,1] (σ:=Nat) (λi _m=>(5,Ab (i:Nat))::_m) (λi w=>i<=c.length/\(∀j,j<i->c[j]?=g[j]?)/\Aa B w I N) (λi=>c.length-i) 0 ⟨Y5 _,λ_ h=>Aw h om,d⟩ ?_);rintro i w ⟨hi,l,d⟩;refine gN 4 ?_ ?_<;>intro v
 ·refine gG 0 ?_;obtain⟨x,hx⟩:∃x,c[i]?=some x:=⟨_,Y2 om⟩
  obtain⟨y,m⟩:∃y,g[i]?=some y:=⟨_,Y2 om⟩
  obtain⟨p,rfl,G⟩:=A.2 om;obtain⟨q,rfl,H⟩:=C.2 om;have n:((c.map S).drop ((i:Int).toNat*1))[0]?=some (S x):=by rw[GI];(try rw[Yh]);rw[Ca,DG,Yu,hx];rfl
  have o:((g.map S).drop ((i:Int).toNat*1))[0]?=some (S y):=by rw[GI];(try rw[Yh]);rw[Ca,DG,Yu,m];rfl
  refine gQ ?_;intro w d;refine gH 3 (AN.y 3 (λw _ _ k d=>(.BG (.of O) d ((G.add _).mono k) Bq n)) (gH 3 (AN.y 7 (λw _ _ k d=>(.BG (.of O) d ((H.add _).mono k) Bq o)) ?_)));refine gM 1 ?_ ?_<;>intro f z
  ·exact gG 1 ⟨by rw[decide_eq_false (λe=>by subst e;rw[hx]at m;cases m;simp at f)],d⟩
  refine gG 3 (rd (i+1) ⟨om,λj J=>?_,d⟩);rcases Yz j i with t|t
  ·exact l j t
  ·have e:j=i:=om
   subst e;rw[hx,m,show x=y by simpa using f]
 refine gG 1 (⟨?_,d⟩);rw[decide_eq_true (OD λj=>?_)];rcases Yz j c.length with h|h
 ·exact l j om
 ·rw[T1 h,T1 om]
open DS
def bad(l:List Sv)(i:Nat)(s:Sv):Nat :=
 if i=16 then 5 else if(decide (s.id<0)||decide (8<(s.rel.length:Int)))=true then 1 else if(l.take i).any (λt=>t.id==s.id)=true then 7
 else if(((DS.cx s.urls).1 !=0)||((DS.cx s.calls).1 !=0))=true then 8 else 0
def cW(l:List Sv):Nat->List Sv->Nat×Nat
 | _,[]=>(0,0)
 | i,s::r=>if bad l i s≠0 then(bad l i s,i)else cW l (i+1) r
def HC(l:List Sv):Nat×Nat:=cW l 0 l
theorem vZ(l:List Sv):∀(n i:Nat) (r:List Sv),(∀j s,j<n->r[j]?=some s->bad l (i+j) s=0)->cW l i r=cW l (i+min n r.length) (r.drop n)
 | 0,i,r,_=>by simp
 | n+1,i,[],_=>by simp[cW]
 | n+1,i,s::r,h=>by
  have a:=h 0 s om O;rw[DG]at a;rw[cW,Y3 (nB a),vZ l n (i+1) r (λj t c b=>by have:=h (j+1) t om (su b);rw[show i+1+j=i+(j+1)by omega];exact this),Em,Y4]
  congr 1
  omega
theorem TA{l:List Sv}{s:Sv}(h:∀j t,j<i->l[j]?=some t->bad l j t=0)(a:l[i]?=some s)(b:bad l i s≠0):HC l=(bad l i s,i):=by
 have hi:=(Y1.1 a).1;unfold HC;rw[vZ l i 0 l (λj t c d=>by rw[Yl];exact h j t c d),Yl,JT om,Yq hi,(Y1.1 a).2,cW,Y7 b]
theorem NG{l:List Sv}(h:∀j t,l[j]?=some t->bad l j t=0):HC l=(0,0):=by
 unfold HC;rw[vZ l l.length 0 l (λj t _ a=>by rw[Yl];exact h j t a),VC];rfl
def U6(I:Im)(a:Oa)(L:List Lv)(l:List Sv):Prop:=L.length=l.length/\∀(i:Nat) (s:Sv),l[i]?=some s->∃p c,a=some p/\L[i]?=some c/\At I (p.add (i*8)) c/\Fv I s c
theorem U6.mono{L:List Lv}{l:List Sv}(h:U6 I a L l)(b:Le I J):U6 J a L l:=⟨h.1,λi s j=>by
 obtain⟨p,c,e,d,f,g⟩:=h.2 i s j;exact⟨p,c,e,d,f.mono b,g.mono b⟩⟩
def du(L:List Lv)(D:List Int):List Lv:=D.map λd=>L.getD d.toNat []
def De(l:List Sv):List Nat:=l.map Sv.ord
theorem ZM(xs:Lv)(x y:Va)(r:Lv):((xs++[x])++r).set (0+(xs.length:Int).toNat*1) y=(xs++[y])++r:=by
 simp
theorem eo{l:Lu}(h:AW (l.drop (k:Int).toNat) [42,42]=true)(a:k<l.length):k+1<l.length:=by
 simp[AW]at h
 omega
theorem W7{l:Lu}(h:AW (l.drop (k:Int).toNat) [42,42]=true)(a:k+1<l.length):(at_ l ((k+1:Nat):Int)).toNat=42:=by
 rw[Yh,Xf l (k:=k) om,Xf l (k:=k+1) a]at h;simp[AW]at h
 rw[show((k+1:Nat):Int)=(k:Int)+1 from O,h.2.2];rfl
theorem r5{l:Lu}{Q:List Pl}{b:List GR}{a:List Int}{X:Except (Int×Int) (List Pl)}(h:AW (l.drop (k:Int).toNat) [42,42]=false)(i:k<l.length/\(at_ l (k:Int)).toNat=42)
  (e:(match l.drop (k+1)with
   | d::r'=>if d.toNat=42 then AL r' ((k:Int)+2) (Q++[(2,0,[])]) b a else AL (d::r') ((k:Int)+1) (Q++[(3,0,[])]) b a
   | []=>AL [] ((k:Int)+1) (Q++[(3,0,[])]) b a)=X):AL (l.drop (k+1)) ((k:Int)+1) (Q++[(3,0,[])]) b a=X:=by
 cases f:l.drop (k+1)with
 | nil=>rw[f]at e;exact e
 | cons d r =>
  rw[f]at e;have g:¬ d.toNat=42:=λc=>by
   rw[Yh,Xf l (k:=k) i.1,f]at h;have j:at_ l (k:Int)=42:=GL.1 i.2;have m:d=42:=GL.1 c;rw[j,m]at h;simp[AW]at h
   omega
  simp only[g,if_false]at e
  exact e
theorem Xri(l:Lu)(N:La)(c:Aa B w I N)(hl:l.length<=9223372036854775807):
  Calls prog 188 #[S l] w (AY λv w'=>(∃e a J,cmp l=.error (e,a)/\v=.tuple #[.pointer none,Ab e,Ab a]/\Le I J/\Aa B w' J N)\/
   (∃Q p J,cmp l=.ok Q/\v=.tuple #[.pointer (some p),Ab 0,Ab 0]/\Le I J/\Ej J p Q l.length/\Aa B w' J N)):=by
 refine gN 6 ?_ ?_<;>intro bk
 ·exact gG 3 (.inl ⟨_,_,I,by rw[cmp,Y7 om],O,Le.refl I,c⟩)
 refine gH 2 ?_;intro ba w c;have c:=((((Xyv c).Al 3 1).Al 213 1).Al 461 3).pick 4 O;try dsimp only[List.eraseIdx]at c
 refine gG 2 ?_;refine .lk [0,5] (σ:=Nat×List GR×List (Va×List Int)×List Pl×List Fa×Va×Va×Va×List Int×Im) (λ(k,g,st,Q,P,lv,sv,av,d,J) _m=>(6,Ab (k:Nat))::_m) (λ(k,g,st,Q,P,lv,sv,av,d,J) w=>k<=l.length/\Q.length<=k/\st.map (·.2)=g.reverse.map FY/\g.length<=4/\d.length=g.length/\Frames Q Q.length g/\CE J P Q/\Le I J/\AL (l.drop k) k Q g d=cmp l/\Aa B w J (Ad ba [lv,sv,av] 400::Ao 461 3 lv P.length (P.flatMap Ar)::Ao 213 1 sv st.length (st.map (·.1))::Ao 3 1 av d.length (d.map Ab)::HA 3 st::N)) (λ(k,g,st,Q,P,lv,sv,av,d,J)=>l.length-k) (0,[],[],[],[],.slice none 0 0,.slice none 0 0,.slice none 0 0,[],I) ⟨Y5 _,Y9 _,O,by simp,O,trivial,CE.nil _,Le.refl _,by rw[cmp,Y3 om];first|done|rfl,c⟩ ?_;rintro⟨k,g,st,Q,P,lv,sv,av,d,J⟩ w ⟨hk,ca,D,q,t,T,E,G,H,c⟩;obtain⟨la,lc,rfl,cd,_⟩:=c.vS 1;obtain⟨sa,sc,rfl,cg,_⟩:=c.vS 2;obtain⟨aa,ac,rfl,cb,_⟩:=c.vS 3;have K:st.length=g.length:=by have:=Ye List.length D;simpa using this
 have b9:=E.1;refine gN 4 ?_ ?_<;>intro bl
 ·refine gN 13 ?_ ?_<;>intro bm
  ·refine gC 1 (TI _ _ _ _ _ _ _ _ _ c om) ?_;rintro _ w ⟨rfl,A,c⟩;refine gG 3 ?_;have m:=H;rw[Xf l om,Xn,Y7 om]at m;refine rd (k+1,g,st,Q++[(1,0,[])],P++[(1,0,.slice none 0 0)],A,.slice sa st.length sc,.slice aa d.length ac,d,J) ⟨om,by rw[Y0];simp;omega,D,q,t,T.app _,E.snoc _ _ _ _ (Bx.nil _),G,m,?_⟩ od;rw[Y0,OC];exact c
  refine gN 2 ?_ ?_<;>intro bn
  ·refine gC 3 (pq _ _ _ (by simp;omega) sz) ?_;rintro _ _ ⟨rfl,rfl⟩;refine gM 0 ?_ ?_<;>intro L bo
   ·refine gC 1 (TI _ _ _ _ _ _ _ _ _ c om) ?_;rintro _ w ⟨rfl,A,c⟩;refine gG 6 ?_;have m:=H;have a0:k+1<l.length:=eo L om;rw[Xf l om,Xn,Y3 om,Y7 om,Xf l a0]at m;simp only[]at m
    rw[Y7 (W7 L a0)]at m;refine rd (k+2,g,st,Q++[(2,0,[])],P++[(2,0,.slice none 0 0)],A,.slice sa st.length sc,.slice aa d.length ac,d,J) ⟨om,by rw[Y0];simp;omega,D,q,t,T.app _,E.snoc _ _ _ _ (Bx.nil _),G,m,?_⟩ od;rw[Y0,OC];exact c
   refine gC 1 (TI _ _ _ _ _ _ _ _ _ c om) ?_;rintro _ w ⟨rfl,A,c⟩;refine gG 3 ?_;have m:=H;rw[Xf l om,Xn,Y3 om,Y7 om]at m;have m:=r5 L om m;refine rd (k+1,g,st,Q++[(3,0,[])],P++[(3,0,.slice none 0 0)],A,.slice sa st.length sc,.slice aa d.length ac,d,J) ⟨om,by rw[Y0];simp;omega,D,q,t,T.app _,E.snoc _ _ _ _ (Bx.nil _),G,m,?_⟩ od;rw[Y0,OC];exact c
  refine gN 2 ?_ ?_<;>intro bp
  ·refine gN 2 ?_ ?_<;>intro bq
   ·refine gG 4 ?_;have m:cmp l=.error (24,(k:Int)):=by rw[<-H,Xf l om,Xn,Y3 om,Y3 om,Y7 om,Y7 om]
    exact .inl ⟨_,_,J,m,O,G,c.s⟩
   refine gC 2 (Xsd _ _ _ _ _ _ st d _ _ c om om om) ?_;rintro _ w ⟨rfl,A,al,Y,bh,c⟩;refine gG 3 ?_;have m:=H;rw[Xf l om,Xn,Y3 om,Y3 om,Y7 om,Y3 om]at m;have hx:=E.1;refine rd (k+1,(Q.length,[])::g,st++[(bh,[(P.length:Int)])],Q++[(4,0,[])],P++[(4,0,.slice none 0 0)],A,al,Y,d++[(k:Int)],J) ⟨om,by rw[Y0];simp;omega,?_,by simp;omega,by simp[t],⟨by simp,by simp,by simp,λb R=>by simp at R,T.grow sz sz λi hi ai=>by rw[Yf hi];exact ai⟩,E.snoc _ _ _ _ (Bx.nil _),G,m,?_⟩ od
   ·simp[D,FY,hx]
   ·simp only[Y0,OC,Yn,LS,Yw,EK];exact c
  refine gM 2 ?_ ?_<;>intro W X
  ·refine gT 0 (λW X=>?_);refine gN 2 ?_ ?_<;>intro aw
   ·refine gG 4 ?_;obtain rfl:g=[]:=Yc om;have m:cmp l=.error (10,(k:Int)):=by rw[<-H,Xf l om,Xn,Y3 om,Y3 om,Y3 om,Y7 om]
    exact .inl ⟨_,_,J,m,O,G,c.s⟩
   refine gU 2 (λau ax=>?_);refine gG 0 ?_;obtain⟨o,C,rest,rfl⟩:∃o C rest,g=(o,C)::rest:=by
    cases g with
    | nil=>exfalso;have:st.length=0:=K;omega
    | cons f r=>exact⟨f.1,f.2,r,O⟩
   obtain⟨z,mv,rfl,M⟩:=Xxt D;obtain⟨ay,V,be,ag,az⟩:=id T;simp only[Yn,Yw,EK,Y0,LS]at c
   have bf:z.length+1=rest.length+1:=su K
   have ae:d.length=rest.length+1:=su t
   have ah:rest.length+1<=4:=su q
   obtain⟨gs,ch,rs,F,a2,a3,bv,a4,c⟩:=c.AF (k:=2) O om;injection F with F _ aj;subst F;subst aj;try dsimp only[List.set]at c
   have e4:HA 3 (z++[(mv,FY (o,C))])=Ap ((z.map λx=>Ao 3 1 x.1 x.2.length (x.2.map Ab))++[Ao 3 1 mv (FY (o,C)).length ((FY (o,C)).map Ab)]):=by rw[HA,Yn];rfl
   rw[e4]at c;replace c:=c.pop (k:=4) O;try dsimp only[List.set]at c
   obtain⟨ma,mc,rfl,ce,_⟩:=c.vS 0;have cf:(FY (o,C)).length=C.length+1:=by simp[FY]
   have Z:(((z++[(Value.slice ma (FY (o,C)).length mc,FY (o,C))]).length:Nat):Int)-1=(z.length:Int):=by simp
   refine gD [3,1] [22] [0,1,2,3,4,5,6,7,8,9,10,11,12,13,14,15,16,17,18,19,20,21,22] ?_;intro w c;refine gH 13 ?_;refine AN.y 13 (λw _ _ bb c=>.lo O c (k:=0) O NP (v:=Value.slice ma (FY (o,C)).length mc) (by rw[Z];simp)) ?_;refine gH 6 ?_;intro b2 w c;refine gH 1 ?_;intro ao aq a7 w c;have a1:FY (o,C++[Q.length])=FY (o,C)++[(P.length:Int)]:=by simp[FY,E.1]
   refine gH 1 (AN.e ?_);refine .s1 c (k:=3) O O O O oz (by rw[Z];simp) ?_;intro w c;try dsimp only[List.set]at c
   rw[Z,show(z.length:Int)=((z.map (·.1)).length:Int)by simp,ZM]at c;replace c:=c.A1 (k:=3) (n:=z.length+1) (cap:=sc) (size:=1) O a2 a3 sz (su a4);try dsimp only[List.set]at c
   replace c:=c.push (k:=4) O;try dsimp only[List.set]at c
   replace c:=c.say (k:=4) (A':=HA 3 (z++[(.slice ao ((FY (o,C)).length+1) aq,FY (o,C++[Q.length]))])) O (λh hh=>by rw[a1,HA,Yn];simp only[Yw,EK,Y0,LS,Yn];exact hh);try dsimp only[List.set]at c
   refine gC 1 (TI _ _ _ _ _ _ _ _ _ c om) ?_;rintro _ w ⟨rfl,A,c⟩;refine gG 3 ?_;have m:=H;rw[Xf l om,Xn,Y3 om,Y3 om,Y3 om,Y7 om]at m;simp only[]at m
   have hx:=E.1;refine rd (k+1,(o,C++[Q.length])::rest,z++[(.slice ao ((FY (o,C)).length+1) aq,FY (o,C++[Q.length]))],Q++[(5,0,[])],P++[(5,0,.slice none 0 0)],A,.slice (some (ad gs 0)) (z.length+1) sc,.slice aa d.length ac,d,J) ⟨om,by rw[Y0];simp;omega,?_,su q,su t,⟨?_,?_,?_,?_,?_⟩,E.snoc _ _ _ _ (Bx.nil _),G,m,?_⟩ od
   ·simp[M]
   ·simp;omega
   ·rw[Yf ay];exact V
   ·simp;omega
   ·intro b R;rcases Yt.1 R with R|R
    ·have:=ag b R;simp;omega
    ·simp at R;subst R;simp;omega
   ·exact az.grow (Y9 _) sz λi hi ai=>by rw[Yf om];exact ai
   ·simp only[Y0,OC,Yn,LS,Yw,EK];exact c
  refine gM 2 ?_ ?_<;>intro W X
  ·refine gN 2 ?_ ?_<;>intro aw
   ·refine gG 4 ?_;obtain rfl:g=[]:=Yc om;have m:cmp l=.error (10,(k:Int)):=by rw[<-H,Xf l om,Xn,Y3 om,Y3 om,Y3 om,Y3 om,Y7 om]
    exact .inl ⟨_,_,J,m,O,G,c.s⟩
   refine gT 2 (λau ax=>?_);refine gH 1 ?_;obtain⟨o,C,rest,rfl⟩:∃o C rest,g=(o,C)::rest:=by
    cases g with
    | nil=>exfalso;have:st.length=0:=K;omega
    | cons f r=>exact⟨f.1,f.2,r,O⟩
   obtain⟨z,mv,rfl,M⟩:=Xxt D;obtain⟨ay,V,be,ag,az⟩:=id T;simp only[Yn,Yw,EK,Y0,LS]at c
   have bf:z.length+1=rest.length+1:=su K
   have ae:d.length=rest.length+1:=su t
   have ah:rest.length+1<=4:=su q
   refine gC 0 (Ru _ _ _ _ mv P Q z o C d _ c E (λb R=>by have:=ag b R;have hx:=E.1;omega) (by have hx:=E.1;omega) 4 0 (E.mh V) V (by have hx:=E.1;omega) om om om) ?_;rintro _ w ⟨rfl,A,al,Y,P2,J2,U,ar,c⟩;refine gG 3 ?_;have m:=H;rw[Xf l om,Xn,Y3 om,Y3 om,Y3 om,Y3 om,Y7 om]at m;simp only[]at m
   have hx:=E.1;refine rd (k+1,rest,z,IJ Q.length o Q [] C++[(6,0,[])],P2,A,al,Y,d.take rest.length,J2) ⟨om,by rw[Y0,pt];simp;omega,M,by simp at q;omega,by simp at t;simp;omega,T.close _,by rw[hx]at ar;exact ar,G.trans U,m,?_⟩ od;have e5:(d.take rest.length).length=z.length:=by simp at t;rw[Yj];omega
   have e6:rest.length=z.length:=om
   rw[e5,e6];exact c
  refine gN 2 ?_ ?_<;>intro br
  ·refine gN 5 ?_ ?_<;>intro bt
   ·refine gG 4 ?_;have m:cmp l=.error (10,(k:Int)):=by rw[<-H,Xf l om,Xn,Y3 om,Y3 om,Y3 om,Y3 om,Y3 om,Y7 om,Yo om]
    exact .inl ⟨_,_,J,m,O,G,c.s⟩
   refine gC 7 (TI _ _ _ _ _ _ _ _ _ c om) ?_;rintro _ w ⟨rfl,A,c⟩;refine gG 3 ?_;have m:=H;rw[Xf l om,Xn,Y3 om,Y3 om,Y3 om,Y3 om,Y3 om,Y7 om,Xf l (k:=k+1) om]at m;simp only[]at m
   refine rd (k+2,g,st,Q++[(0,((at_ l ((k:Int)+1)).toNat:Int),[])],P++[(0,((at_ l ((k:Int)+1)).toNat:Int),.slice none 0 0)],A,.slice sa st.length sc,.slice aa d.length ac,d,J) ⟨om,by rw[Y0];simp;omega,D,q,t,T.app _,E.snoc _ _ _ _ (Bx.nil _),G,m,?_⟩ od;rw[Y0,OC];exact c
  refine gC 2 (TI _ _ _ _ _ _ _ _ _ c om) ?_;rintro _ w ⟨rfl,A,c⟩;refine gG 3 ?_;have m:=H;rw[Xf l om,Xn,Y3 om,Y3 om,Y3 om,Y3 om,Y3 om,Y3 om]at m;refine rd (k+1,g,st,Q++[(0,((at_ l (k:Int)).toNat:Int),[])],P++[(0,((at_ l (k:Int)).toNat:Int),.slice none 0 0)],A,.slice sa st.length sc,.slice aa d.length ac,d,J) ⟨om,by rw[Y0];simp;omega,D,q,t,T.app _,E.snoc _ _ _ _ (Bx.nil _),G,m,?_⟩ od;rw[Y0,OC];exact c
 refine gN 8 ?_ ?_<;>intro bd
 ·refine gG 0 ?_;obtain⟨b8,c8,r,F,_,_,_,_,c⟩:=c.AF (k:=3) O om;injection F with F _ aj;subst F;subst aj;try dsimp only[List.set]at c
  refine gQ ?_;intro w c;refine gH 7 (AN.y 7 (λw _ _ bb c=>.jc Ab d 0 r (.of O) c (k:=3) O O BP om om) (gG 3 ?_));have m:cmp l=.error (23,d.getD ((d.length:Int)-1).toNat 0):=by rw[<-H,show((d.length:Int)-1).toNat=d.length-1 by omega,Yo om,pI,Y7 om]
  exact .inl ⟨_,_,J,m,O,G,c.s⟩
 refine gC 1 (TI _ _ _ _ _ _ _ _ _ c om) ?_;rintro _ w ⟨rfl,A,c⟩;obtain⟨a9,c9,rfl,af,_⟩:=c.vS 1;refine gG 11 ?_;intro bj w c;have m:cmp l=.ok (Q++[(7,0,[])]):=by rw[<-H,Yo om,pI,Y3 om]
 obtain⟨J2,U,bg,c⟩:=c.fV 2;try dsimp only[List.eraseIdx]at c
 obtain⟨J3,ab,bc,c⟩:=c.fZ 0;try dsimp only[List.eraseIdx]at c
 refine .inr ⟨_,_,J3,m,O,(G.trans U).trans ab,⟨a9,c9,P++[(7,0,.slice none 0 0)],?_,?_,?_,?_⟩,c.s⟩
 ·refine⟨O,_,_,_,bc,λj u hj=>?_⟩;rw[Y0]at hj;simpa using hj
 ·simpa using af
 ·rw[Y0,OC];exact bg.mono ab
 ·exact((E.snoc _ _ _ _ (Bx.nil _)).mono U).mono ab
end Go.Proofs.W9
namespace DS
open Go Gk
def iB(k:Int):Bool:=(((k==2)||(k==3))||(k==4))||(k==6)
def HE(Q:List Pl):Nat->List Bool->Nat->List Bool
 | 0,set,_=>set
 | f+1,set,i=>bif set.getD i false then set else
   bif iB (Q.getD i (7,0,[])).1 then HE Q f ((Q.getD i (7,0,[])).2.2.foldl (λs t=>HE Q f s t.toNat) (set.set i true)) (i+1)
   else(Q.getD i (7,0,[])).2.2.foldl (λs t=>HE Q f s t.toNat) (set.set i true)
def dy(s:List Bool):Nat:=s.countP (λb=>!b)
def CN(s t:List Bool):Prop:=s.length=t.length/\∀i:Nat,s.getD i false=true->t.getD i false=true
theorem CN.refl(s:List Bool):CN s s:=⟨O,λ_ h=>h⟩
theorem CN.trans{s t u:List Bool}(h:CN s t)(k:CN t u):CN s u:=⟨h.1.trans k.1,λi hi=>k.2 i (h.2 i hi)⟩
theorem CN.set(s:List Bool)(i:Nat):CN s (s.set i true):=by
 refine⟨by simp,λj a=>?_⟩;rw[Ya]at a ⊢;rw[oU]
 by_cases e:i=j
 ·subst e;have b:i<s.length:=by
   apply Classical.byContradiction
   intro c;rw[T1 om]at a;cases a
  simp[b]
 ·simpa[e]using a
theorem yv:∀{s t:List Bool},CN s t->dy t<=dy s
 | [],[],_=>Y9 _
 | [],_::_,h=>by cases h.1
 | _::_,[],h=>by cases h.1
 | a::s,b::t,h=>by
  have c:CN s t:=⟨su h.1,λi hi=>by have:=h.2 (i+1) (su hi);simpa using this⟩
  have d:=yv c;have e:=h.2 0;unfold dy at d ⊢;cases a<;>cases b<;>simp_all<;>omega
theorem Xr0:∀{s:List Bool} {i:Nat},i<s.length->s.getD i false=false->dy (s.set i true)+1=dy s
 | [],_,h,_=>by simp at h
 | a::s,0,_,h=>by simp at h;subst h;simp[dy]
 | a::s,i+1,h,b=>by
  have:=Xr0 (i:=i) (su h) (su b)
  unfold dy at this ⊢;cases a<;>simp_all
theorem pR(Q:List Pl):∀(f:Nat) (s:List Bool) (i:Nat),CN s (HE Q f s i)
 | 0,s,_=>CN.refl s
 | f+1,s,i=>by
  have a:∀(l:List Int) (s:List Bool),CN s (l.foldl (λs t=>HE Q f s t.toNat) s):=by
   intro l
   induction l with
   | nil=>intro s;exact CN.refl s
   | cons x l b=>intro s;exact(pR Q f s x.toNat).trans (b _)
  rw[HE];cases s.getD i false
  ·cases iB (Q.getD i (7,0,[])).1
   ·exact(CN.set s i).trans (a _ _)
   ·exact((CN.set s i).trans (a _ _)).trans (pR Q f _ _)
  ·exact CN.refl s
theorem Xvw(Q:List Pl)(f:Nat):∀(l:List Int) (s:List Bool),CN s (l.foldl (λs t=>HE Q f s t.toNat) s)
 | [],s=>CN.refl s
 | x::l,s=>(pR Q f s x.toNat).trans (Xvw Q f l _)
def WF(Q:List Pl):Prop:=∀(i:Nat) (q:Pl),Q[i]?=some q->(∀t∈q.2.2,0<=t/\t<(Q.length:Int))/\(iB q.1=true->i+1<Q.length)/\(0<=q.1/\q.1<=7)/\(q.1≠7->i+1<Q.length)/\q.2.2.length<=Q.length
theorem Tn(f:β->α->β)(b:β)(l:List α)(k:Nat)(d:α)(h:k<l.length):(l.take (k+1)).foldl f b=f ((l.take k).foldl f b) (l.getD k d):=by
 rw[List.take_succ_eq_append_getElem h,K9];simp[Ya,h]
theorem WF.at_{Q:List Pl}(h:WF Q)(hi:i<Q.length):(∀t∈(Q.getD i (7,0,[])).2.2,0<=t/\t<(Q.length:Int))/\(iB (Q.getD i (7,0,[])).1=true->i+1<Q.length)/\(0<=(Q.getD i (7,0,[])).1/\(Q.getD i (7,0,[])).1<=7)/\((Q.getD i (7,0,[])).1≠7->i+1<Q.length)/\(Q.getD i (7,0,[])).2.2.length<=Q.length:=by
 have e:Q[i]?=some (Q.getD i (7,0,[])):=by simp[Ya,hi]
 exact h i _ e
def TU(k c:Int)(b:Ui):Bool:=bif k==0 then c==(b.toNat:Int)else bif (k==1)||(k==3)then(b.toNat:Int)!=47 else k==2
def HB(Q:List Pl)(F:Nat)(c:Ui)(now:List Bool)(st:List Bool×Bool×Nat)(k:Nat):List Bool×Bool×Nat :=
 bif now.getD k false then
  bif TU (Q.getD k (7,0,[])).1 (Q.getD k (7,0,[])).2.1 c then
   (HE Q F st.1 (bif ((Q.getD k (7,0,[])).1==2)||((Q.getD k (7,0,[])).1==3)then k else k+1),true,st.2.2+1)
  else(st.1,st.2.1,st.2.2+1)
 else st
def M0(Q:List Pl)(F:Nat)(c:Ui)(now:List Bool)(a:Nat):List Bool×Bool×Nat:=iter (HB Q F c now) (List.replicate Q.length false,false,a) Q.length
def ZD(Q:List Pl)(F:Nat):List UInt8->List Bool->Nat->List Bool×Nat
 | [],now,st=>(now,st)
 | c::r,now,st=>bif (M0 Q F c now st).2.1 then ZD Q F r (M0 Q F c now st).1 (M0 Q F c now st).2.2 else((M0 Q F c now st).1,(M0 Q F c now st).2.2)
def run(Q:List Pl)(l:Lu):List Bool×Nat:=ZD Q (Q.length+1) l (HE Q (Q.length+1) (List.replicate Q.length false) 0) 1
theorem Xu4(Q:List Pl)(F:Nat)(c:Ui)(now:List Bool)(st:List Bool×Bool×Nat)(k:Nat):st.2.2<=(HB Q F c now st k).2.2/\(HB Q F c now st k).2.2<=st.2.2+1:=by
 unfold HB;cases now.getD k false<;>cases TU (Q.getD k (7,0,[])).1 (Q.getD k (7,0,[])).2.1 c<;>simp
theorem S6(Q:List Pl)(F:Nat)(c:Ui)(now:List Bool)(st:List Bool×Bool×Nat)(k:Nat):(HB Q F c now st k).1.length=st.1.length:=by
 unfold HB;cases now.getD k false<;>cases TU (Q.getD k (7,0,[])).1 (Q.getD k (7,0,[])).2.1 c<;>simp
 exact(pR Q F _ _).1.symm
theorem Xay(Q:List Pl)(F:Nat)(c:Ui)(now:List Bool)(st:List Bool×Bool×Nat):∀k,(iter (HB Q F c now) st k).1.length=st.1.length/\st.2.2<=(iter (HB Q F c now) st k).2.2/\(iter (HB Q F c now) st k).2.2<=st.2.2+k
 | 0=>⟨O,Y9 _,Y9 _⟩
 | k+1=>by
  have h:=Xay Q F c now st k;have a:=Xu4 Q F c now (iter (HB Q F c now) st k) k;have b:=S6 Q F c now (iter (HB Q F c now) st k) k;rw[iter];omega
theorem At.sub{us:Lv}(h:At I p vs)(g:∀(j:Nat) (v:Va),us[j]?=some v->vs[j]?=some v):At I p us:=by
 obtain⟨c,a,E,b,d,e⟩:=h;exact⟨c,a,E,b,d,λj v f=>e j v (g j v f)⟩
theorem At.place{b:Addr}{P:List Fa}{x:Fa}(h:At I b (P.flatMap Ar))(hx:P[i]?=some x):At I (b.add (i*3)) [.int .u8 x.1,.int .u8 x.2.1,x.2.2]:=by
 refine At.sub (h.add (i*3)) λj v a=>?_
 have c:j<3:=by have:=(Y1.1 a).1;simpa using this
 rw[GI]
 have:=xZ Ar 3 jL P [] i j x hx c
 rw[Yx]at this;rw[this];exact a
theorem Ej.opened{Q:List Pl}(h:Ej I p Q n)(i:0<Q.length):∃b c P,At I p [.slice (some b) Q.length c,Ab n]/\At I b (P.flatMap Ar)/\CE I P Q:=by
 obtain⟨a,c,P,e,j,f,d⟩:=h;obtain⟨b,rfl,g⟩:=f.2 (by rw[d.1];exact i);exact⟨b,c,P,by rw[<-d.1];exact e,g,d⟩
theorem CE.at_{P:List Fa}{Q:List Pl}(h:CE I P Q)(hi:i<Q.length):∃c f,P[i]?=some ((Q.getD i (7,0,[])).1,(Q.getD i (7,0,[])).2.1,.slice c (Q.getD i (7,0,[])).2.2.length f)/\∃d,0<(Q.getD i (7,0,[])).2.2.length->c=some d/\At I d ((Q.getD i (7,0,[])).2.2.map Ab):=by
 have e:Q[i]?=some (Q.getD i (7,0,[])):=by simp[Ya,hi]
 obtain⟨⟨n,o,q⟩,k⟩:∃p,P[i]?=some p:=⟨_,Y2 (by rw[h.1];exact hi)⟩
 obtain⟨a,b,_,c,f,j,_,l⟩:=h.2 i _ _ k e;simp only at a b j
 subst a;subst b;subst j;refine⟨c,f,k,?_⟩
 by_cases g:0<(Q.getD i (7,0,[])).2.2.length
 ·obtain⟨d,rfl,m⟩:=l.2 g;exact⟨d,λ_=>⟨O,m⟩⟩
 ·exact⟨ad 0 0,λh=>Aw h g⟩
end DS
namespace Go.Proofs.W9
open Gk DS
open Tryz
theorem R1{l:List Int}(h:k<l.length):l.getD k 0∈l:=by
 rw[Ya,Y2 h];exact iO h
theorem xF(l:List Bool):dy l<=l.length:=List.countP_le_length
theorem Xpd:prog.info? 4=some t4:=by kernel_rfl
theorem yz(Q:List Pl)(p:Addr)(nn n:Nat)(q:WF Q)(Y:Q.length=n)(L:n<=100000):∀(f:Nat) (set:List Bool) (i:Int) (b c:Nat) (r:Lv) (B w:Wo) (I:Im) (N:La),
  Aa B w I (Ad b (set.map Value.bool++r) 4::N)->Ej I p Q nn->set.length=n->0<=i->i<n->dy set<f->
  Ce B I (Ad b ((HE Q f set i.toNat).map Value.bool++r) 4::N) 428 [.pointer (some p),.slice (some (ad b 0)) n c,Ab i] w (.tuple #[]):=by
 intro f
 induction f with
 | zero=>intros;omega
 | succ f F =>
  intro set i b c r B w I N a x E J K W;refine gH 3 (.val (.jc .bool set false r (.of O) a (k:=0) O O IH om om) O ?_);refine gM 0 ?_ ?_<;>intro j m
  ·exact gG 0 ⟨O,by rw[HE,j];exact a⟩
  refine gH 3 (.stE .bool set r (u:=true) a (k:=0) O (.of O) (.of O) O O DT om om ?_);intro w a;dsimp only[List.set]at a;obtain⟨Z,lc,P,y,v,H⟩:=x.opened om;obtain⟨U,V,hx,xp,A⟩:=H.at_ (i:=i.toNat) om;have T:=Xr0 (i:=i.toNat) om j;have S:=(q.at_ (i:=i.toNat) om).2.2.2.2;refine gH 3 (.val (.BG (.of O) a y Jl O) O (gH 2 (.val (.D7 (.of O) a (DS.At.place v hx) isAgg461 NS O (λ_ _ h=>h)) O (gG 6 ?_))));intro G w a;refine .lk [0,1,2,6,24,25] (σ:=Nat) (λk _m=>(26,Ab (k:Nat))::_m) (λk w=>k<=(Q.getD i.toNat (7,0,[])).2.2.length/\Aa B w I (Ad G [.int .u8 (Q.getD i.toNat (7,0,[])).1,.int .u8 (Q.getD i.toNat (7,0,[])).2.1,.slice U (Q.getD i.toNat (7,0,[])).2.2.length V] 461::Ad b ((((Q.getD i.toNat (7,0,[])).2.2.take k).foldl (λs t=>HE Q f s t.toNat) (set.set i.toNat true)).map Value.bool++r) 4::N)) (λk=>(Q.getD i.toNat (7,0,[])).2.2.length-k) 0 ⟨Y5 _,a⟩ ?_;rintro k w ⟨X,a⟩;have d:=Xvw Q f ((Q.getD i.toNat (7,0,[])).2.2.take k) (set.set i.toNat true);obtain⟨S1,e⟩:∃S1,S1=((Q.getD i.toNat (7,0,[])).2.2.take k).foldl (λs t=>HE Q f s t.toNat) (set.set i.toNat true):=⟨_,O⟩
  rw[<-e]at a d;refine gN 1 ?_ ?_<;>intro C
  ·obtain⟨o,z⟩:=A om;rw[o]at a ⊢;refine gG 0 ?_
   first|refine .val (.io O O om om kf Bg) O ?_|refine .val (.ii O O om om kf Bg) O ?_
   refine .val (.eR Ab (Q.getD i.toNat (7,0,[])).2.2 0 (.of O) a z O BP om om) O (gH 4 ?_);replace a:=a.pick 1 O;have R:=(q.at_ (i:=i.toNat) om).1 ((Q.getD i.toNat (7,0,[])).2.2.getD k 0) (R1 om);refine gC 0 (F S1 _ b c r B w I _ a x (by have:=d.1;simp at this;omega) R.1 om (oh (yv d))) ?_;rintro _ w ⟨rfl,a⟩;replace a:=a.pick 1 O;refine gG 2 (rd (k+1) ⟨om,?_⟩);rw[Tn _ _ _ _ 0 om,<-e];exact a
  refine gH 14 ?_;refine gM 4 ?_ ?_<;>intro l D
  ·refine gH 4 ?_;replace a:=a.drop (k:=0) O;rw[Yk om]at e;have g:iB (Q.getD i.toNat (7,0,[])).1=true:=l;have M:=(q.at_ (i:=i.toNat) om).2.1 g;refine gC 0 (F S1 (i+1) b c r B w I _ a x (by have:=d.1;simp at this;omega) om om (oh (yv d))) ?_;rintro _ w ⟨rfl,a⟩;refine gG 0 (⟨O,?_⟩);rw[HE,m,g];simp only[cond_true,cond_false];rw[<-e];rw[show(i+1).toNat=i.toNat+1 by omega]at a;exact a
  refine gG 0 ?_;have g:iB (Q.getD i.toNat (7,0,[])).1=false:=l;replace a:=a.drop (k:=0) O;rw[Yk om]at e;refine⟨O,?_⟩;rw[HE,m,g];simp only[cond_true,cond_false];rw[<-e];exact a
theorem WV(k c:Int)(b:Ui)(v:Va)(N:La)(f:Aa B w I N):
  Ce B I N 429 [.agg #[.int .u8 k,.int .u8 c,v],U8 b.toNat] w (.bool (TU k c b)):=by
 refine gG 6 ?_;intro i w f;refine gM 0 ?_ ?_<;>intro d h
 ·exact gG 5 ⟨by rw[TU,d];first|done|rfl,f.s⟩
 refine gM 2 ?_ ?_<;>intro a e
 ·refine gM 0 ?_ ?_<;>intro a e
  ·exact gG 3 ⟨by rw[TU,d,a];first|done|rfl,f.s⟩
  refine gH 4 (.nil (.ret ?_));refine λ_ g=>E3 g O ?_
  exfalso;simp_all
 refine gM 2 ?_ ?_<;>intro a e
 ·exact gG 3 ⟨by rw[TU,d,show(k==1)=false by assumption,a];first|done|rfl,f.s⟩
 exact gG 4 ⟨by rw[TU,d,show(k==1)=false by assumption,a];first|done|rfl,f.s⟩
theorem fK(Q:List Pl)(p:Addr)(nn:Nat)(s:Lu)(T:WF Q)(hQ:0<Q.length)(aj:Q.length<=1000)(ak:nn<=1000)(hs:s.length<=1000000)(N:La)(c:Aa B w I N)(U:Ej I p Q nn):
  Ce B I N 404 [.pointer (some p),S s] w (.tuple #[.bool ((DS.run Q s).1.getD (Q.length-1) false),Ab (min ((DS.run Q s).2:Int) (((nn:Int)+1)*((s.length:Int)+1)))]):=by
 obtain⟨la,lc,P,x,X,hR⟩:=U.opened om;refine gH 7 ?_;refine .make (l:=Q.length) c (.of O) (.of O) Jy Xpd O (by simp[t4]<;>omega) om O O O ?_;intro C w c;refine gH 4 ?_;have H:=xF (List.replicate Q.length false);rw[oP]at H;replace c:Aa B w I (Ad C ((List.replicate Q.length false).map Value.bool++[]) 4::N):=by rw[List.map_replicate,Yx];exact c
 refine gC 0 (yz Q p nn Q.length T O om (Q.length+1) (List.replicate Q.length false) 0 C _ [] B w I N c U sz om om om) ?_;rintro _ w ⟨rfl,c⟩;refine .nil (.seq (.label ?_));refine .ck [0,1] (σ:=List Bool×Nat×Nat) (λ(now,a,bn) _m=>(6,.slice (some (ad bn 0)) Q.length Q.length)::(7,Ab (a:Nat))::_m) (λ(now,a,bn) w=>now.length=Q.length/\(now,a)=DS.run Q s/\Aa B w I (Ad bn (now.map Value.bool++[]) 4::N)) ?_ ?_
 ·refine gG 3 ?_;refine .lk [0,1,24] (σ:=List Bool×Nat×Nat×Nat) (λ(now,b,bn,i) _m=>(6,.slice (some (ad bn 0)) Q.length Q.length)::(7,Ab (b:Nat))::(25,Ab (i:Nat))::_m) (λ(now,b,bn,i) w=>i<=s.length/\now.length=Q.length/\b<=1+i*1000/\ZD Q (Q.length+1) (s.drop i) now b=DS.run Q s/\Aa B w I (Ad bn (now.map Value.bool++[]) 4::N)) (λ(now,b,bn,i)=>s.length-i) (HE Q (Q.length+1) (List.replicate Q.length false) 0,1,C,0) ⟨Y5 _,by rw[<-(pR Q _ _ _).1];simp,om,O,c⟩ ?_;rintro⟨now,b,bn,i⟩ w ⟨hi,A,V,f,c⟩;have M:=Xay Q (Q.length+1) (at_ s (i:Int)) now (List.replicate Q.length false,false,b);refine gN 1 ?_ ?_<;>intro Y
  ·refine gH 5 (.val (.BG (.of O) c x Jl O) O (gH 1 ?_));refine .make (l:=Q.length) c (.of O) (.of O) Jy Xpd O (by simp[t4]<;>omega) om O O O ?_;intro o w c;refine gG 5 ?_;refine .lk [0,1,8,9,24,25,34,35] (σ:=List Bool×Bool×Nat×Nat) (λ(next,d,a,k) _m=>(7,Ab (a:Nat))::(10,.bool d)::(36,Ab (k:Nat))::_m) (λ(next,d,a,k) w=>k<=Q.length/\iter (HB Q (Q.length+1) (at_ s (i:Int)) now) (List.replicate Q.length false,false,b) k=(next,d,a)/\Aa B w I (Ad o (next.map Value.bool++[]) 4::Ad bn (now.map Value.bool++[]) 4::N)) (λ(next,d,a,k)=>Q.length-k) (List.replicate Q.length false,false,b,0) ⟨Y5 _,O,by rw[List.map_replicate,Yx];exact c⟩ ?_;rintro⟨next,d,a,k⟩ w ⟨hk,m,c⟩;have n:=M k;rw[m]at n;simp only[oP]at n;refine gN 1 ?_ ?_<;>intro Z
   ·refine gH 1 ?_
    first|refine .val (.io O O om om Jy DT) O ?_|refine .val (.ii O O om om Jy DT) O ?_
    refine .val (.jc .bool now false [] (.of O) c (k:=1) O O IH om om) O ?_;refine gM 4 ?_ ?_<;>intro r aa
    ·refine gG 2 ?_;have E:now.getD k false=false:=su r
     have D:HB Q (Q.length+1) (at_ s (i:Int)) now (next,d,a) k=(next,d,a):=by rw[HB,E];rfl
     refine rd (next,d,a,k+1) ⟨om,by rw[iter,m,D],c⟩ od
    refine gG 3 ?_;have u:now.getD k false=true:=su r
    obtain⟨xa,xc,hx,_⟩:=hR.at_ (i:=k) om;refine gH 3 (.val (.BG (.of O) c x Jl O) O (gH 2 (.val (.D7 (.of O) c (DS.At.place X hx) isAgg461 NS O (λ_ _ h=>h)) O (gG 2 ?_))));intro ae w c;refine .qt c (.val (λw c=>.D6 (.of O) c (k:=0) O isAgg461 NS O (λj v h=>by simpa using h)) O (.val (λw c=>(.mo O)) O (.val (λw c=>(.mo O)) O (.val (λw c=>(.index (.of O) (.of O) om om Bb)) O (.call func429 O (AM O (AM O X3)) O (λw c=>WV _ _ _ _ _ c) (.val (λw c=>(.not (.of O))) O (.nil ?_)))))));intro w c;refine gM 0 ?_ ?_<;>intro t ab
    ·refine gG 2 ?_;have u:now.getD k false=true:=su r
     have g:TU (Q.getD k (7,0,[])).1 (Q.getD k (7,0,[])).2.1 (at_ s (i:Int))=false:=su t
     replace c:=c.drop (k:=0) O;have D:HB Q (Q.length+1) (at_ s (i:Int)) now (next,d,a) k=(next,d,a+1):=by rw[HB,u,g];rfl
     refine rd (next,d,a+1,k+1) ⟨om,by rw[iter,m,D],c⟩ od
    refine gM 9 ?_ ?_<;>intro z ac
    ·refine gH 3 ?_;have g:TU (Q.getD k (7,0,[])).1 (Q.getD k (7,0,[])).2.1 (at_ s (i:Int))=true:=su t
     replace c:=c.pick 1 O;have H:=xF next;refine gC 0 (yz Q p nn Q.length T O om (Q.length+1) next k o _ [] B w I _ c U om om om om) ?_;rintro _ w ⟨rfl,c⟩;refine gG 2 ?_;have G:((Q.getD k (7,0,[])).1==2||(Q.getD k (7,0,[])).1==3)=true:=z;replace c:=c.drop (k:=1) O;have D:HB Q (Q.length+1) (at_ s (i:Int)) now (next,d,a) k=(HE Q (Q.length+1) next k,true,a+1):=by rw[HB,u,g,G];rfl
     refine rd (HE Q (Q.length+1) next k,true,a+1,k+1) ⟨om,by rw[iter,m,D],c⟩ od
    refine gH 4 ?_;have g:TU (Q.getD k (7,0,[])).1 (Q.getD k (7,0,[])).2.1 (at_ s (i:Int))=true:=su t
    have ag:=(T.at_ (i:=k) om).2.2.2.1 (λe=>by rw[e,TU]at g;simp at g);replace c:=c.pick 1 O;have H:=xF next;refine gC 0 (yz Q p nn Q.length T O om (Q.length+1) next (k+1) o _ [] B w I _ c U om om om om) ?_;rintro _ w ⟨rfl,c⟩;refine gG 2 ?_;have G:((Q.getD k (7,0,[])).1==2||(Q.getD k (7,0,[])).1==3)=false:=z;replace c:=c.drop (k:=1) O;have D:HB Q (Q.length+1) (at_ s (i:Int)) now (next,d,a) k=(HE Q (Q.length+1) next (k+1),true,a+1):=by rw[HB,u,g,G];rfl
    refine rd (HE Q (Q.length+1) next (k+1),true,a+1,k+1) ⟨om,by rw[iter,m,D],c⟩ od
   refine gM 4 ?_ ?_<;>intro K L
   ·refine gG 0 ?_;have F:k=Q.length:=om
    subst F;have W:M0 Q (Q.length+1) (at_ s (i:Int)) now b=(next,d,a):=m;replace c:=c.drop (k:=1) O;rw[Xf s om,ZD,W]at f;rw[L]at f;exact cd (next,a,o) ⟨n.1,f,c⟩
   refine gG 2 ?_;have F:k=Q.length:=om
   subst F;have W:M0 Q (Q.length+1) (at_ s (i:Int)) now b=(next,d,a):=m;replace c:=c.drop (k:=1) O;rw[Xf s om,ZD,W]at f;have J:d=true:=su K
   rw[J]at f;exact rd (next,a,o,i+1) ⟨om,n.1,om,f,c⟩ od
  refine gG 0 ?_;rw[Yo om]at f;exact cd (now,b,bn) ⟨A,f,c⟩
 rintro⟨now,a,bn⟩ w ⟨A,f,c⟩;refine gG 0 ?_;have ai:((nn:Int)+1)*((s.length:Int)+1)<=1001*1000001:=Int.mul_le_mul om om om om;have ah:0<=((nn:Int)+1)*((s.length:Int)+1):=Int.mul_nonneg om om;have R:FZ (((nn:Int)+1)*((s.length:Int)+1)):=⟨om,om⟩
 refine gQ ?_;intro w c;refine gH 4 (AN.y 4 (λw _ _ q c=>.BG (.of O) c (x.mono q) Jl O) (gH 3 (AN.y 8 (λw _ _ q c=>.jc .bool now false [] (.of O) c (k:=0) O O IH om om) (gH 4 (AN.y 13 (λw _ _ q c=>.BG (.of O) c ((x.add 1).mono q) BP O) (gH 4 (AN.y 18 (λw _ _ q c=>.mul (.of O) (.of O) R) ?_)))))));exact gG 3 ⟨by rw[<-f,show((Q.length:Int)-1).toNat=Q.length-1 by omega],c.s⟩
end Go.Proofs.W9
namespace DS
open Go Gk
inductive Pt
 | nil
 | lit (k c:Int) (r:Pt)
 | HI (r:Pt)
 | FW (b r:Pt)
namespace Pt
def len:Pt->Nat
 | nil=>0
 | lit _ _ r=>len r+1
 | HI r=>len r+1
 | FW b r=>len b+len r+2
def dep:Pt->Nat
 | nil=>0
 | lit _ _ r=>dep r
 | HI r=>dep r
 | FW b r=>max (dep b+1) (dep r)
def flat:Pt->Prop
 | nil=>True
 | lit _ _ r=>flat r
 | HI _=>False
 | FW _ r=>flat r
def app:Pt->Pt->Pt
 | nil,q=>q
 | lit k c r,q=>lit k c (app r q)
 | HI r,q=>HI (app r q)
 | FW b r,q=>FW b (app r q)
def GN:Pt->Nat->List Int
 | nil,_=>[]
 | lit _ _ r,n=>GN r (n+1)
 | HI r,n=>((n:Int)+1)::GN r (n+1)
 | FW b r,n=>GN r (n+2+len b)
def marks:Pt->Nat->List Nat
 | nil,_=>[]
 | lit _ _ r,n=>marks r (n+1)
 | HI r,n=>n::marks r (n+1)
 | FW b r,n=>marks r (n+2+len b)
def Df(a:List Int):Pt->Nat->List Pl
 | nil,_=>[]
 | lit k c r,n=>(k,c,[])::Df a r (n+1)
 | HI r,n=>(5,0,a)::Df a r (n+1)
 | FW b r,n=>(4,0,GN b (n+1))::(Df [((n+1+len b:Nat):Int)] b (n+1)++(6,0,[])::Df a r (n+2+len b))
theorem Vg:∀(p:Pt) (a:List Int) (n:Nat),(Df a p n).length=p.len
 | nil,_,_=>rfl
 | lit _ _ r,a,n=>by simp[Df,len,Vg r]
 | HI r,a,n=>by simp[Df,len,Vg r]
 | FW b r,a,n=>by simp[Df,len,Vg b,Vg r];omega
end Pt
open Pt
inductive D5:List UInt8->Pt->Prop
 | nil:D5 [] .nil
 | one {l p}:D5 l p->D5 (63::l) (.lit 1 0 p)
 | all {l p}:D5 l p->D5 (42::42::l) (.lit 2 0 p)
 | T9 {l p}:l.head?≠some 42->D5 l p->D5 (42::l) (.lit 3 0 p)
 | FW {t l b p}:D5 t b->D5 l p->D5 (40::(t++41::l)) (.FW b p)
 | HI {l p}:D5 l p->D5 (124::l) (.HI p)
 | Ep {l p} (c:UInt8):D5 l p->D5 (92::c::l) (.lit 0 (c.toNat:Int) p)
 | byte {l p} (c:UInt8):c≠63->c≠42->c≠40->c≠124->c≠41->c≠92->D5 l p->D5 (c::l) (.lit 0 (c.toNat:Int) p)
def VH:List GR->List Nat->List GR
 | [],_=>[]
 | (o,a)::r,b=>(o,a++b)::r
theorem Ra(o:Nat)(a:List Nat)(r:List GR)(b:List Nat):VH ((o,a)::r) b=(o,a++b)::r:=rfl
theorem VI(s:List GR):VH s []=s:=by cases s<;>simp[VH]
theorem sH{A B:List Pl}(h:o<A.length)(xs:List Int):Ea (A++B) o xs=Ea A o xs++B:=by
 unfold Ea;refine OD λi=>?_
 rw[T2,kM,kM,List.length_modify,T2]
 by_cases e:o=i
 ·subst e;simp[h]
 ·simp[e]
theorem Xh0(A:List Pl)(k c:Int)(d xs:List Int)(B:List Pl):Ea (A++(k,c,d)::B) A.length xs=A++(k,c,xs)::B:=by
 unfold Ea;refine OD λi=>?_
 rw[T2]
 by_cases e:A.length=i
 ·subst e;simp
 ·simp[e]
  rcases Yz i A.length with hi|hi
  ·rw[Yf hi,Yf hi]
  ·obtain⟨j,rfl⟩:∃j,i=A.length+(j+1):=⟨i-A.length-1,om⟩
   rw[Yy om,Yy om]
   simp
theorem Xu7{A:List Pl}{k c:Int}{d:List Int}(h:A[o]?=some (k,c,d)):Ea A o d=A:=by
 unfold Ea;refine OD λi=>?_
 rw[T2]
 by_cases e:o=i
 ·subst e;simp[h]
 ·simp[e]
theorem Xqj(A:List Pl)(o:Nat)(x y:List Int):Ea (Ea A o x) o y=Ea A o y:=by
 unfold Ea;refine OD λi=>?_
 rw[T2,T2,T2]
 by_cases e:o=i
 ·subst e;simp[zJ,Function.comp_def]
 ·simp[e]
theorem sR(A:List Pl)(o:Nat)(x:List Int):(Ea A o x).length=A.length:=by simp[Ea]
theorem sE(n o:Nat):∀(p:Pt) (A:List Pl) (k c:Int) (d:List Int),A[o]?=some (k,c,d)->
  IJ n o (A++Df [] p A.length) d (marks p A.length)=Ea A o (d++GN p A.length)++Df [(n:Int)] p A.length
 | .nil,A,k,c,d,h=>by simp[Df,marks,IJ,GN,Xu7 h]
 | .lit i g r,A,k,c,d,h=>by
  have a:o<A.length:=(Y1.1 h).1;have f:=sE n o r (A++[(i,g,[])]) k c d (by rw[Yf a];exact h);rw[Y0,sH a]at f;simpa[Df,marks,GN]using f
 | .HI r,A,k,c,d,h=>by
  have a:o<A.length:=(Y1.1 h).1;have f:=sE n o r (Ea A o (d++[(A.length:Int)+1])++[(5,0,[(n:Int)])]) k c (d++[(A.length:Int)+1]) (by
   rw[Yf (by rw[sR];exact a)];simp[Ea,h])
  rw[Y0,sR,sH (by rw[sR];exact a),Xqj]at f;rw[marks,IJ,Df,sH a];have e:=Xh0 (Ea A o (d++[(A.length:Int)+1])) 5 0 [] [(n:Int)] (Df [] r (A.length+1));rw[sR]at e;rw[e];simpa[Df,GN]using f
 | .FW b r,A,k,c,d,h=>by
  have a:o<A.length:=(Y1.1 h).1;have f:=sE n o r (A++((4,0,GN b (A.length+1))::(Df [((A.length+1+len b:Nat):Int)] b (A.length+1)++[(6,0,[])]))) k c d (by rw[Yf a];exact h);have e:(A++((4,0,GN b (A.length+1))::(Df [((A.length+1+len b:Nat):Int)] b (A.length+1)++[(6,0,[])]))).length=A.length+2+len b:=by
   simp[Vg];omega
  rw[e,sH a]at f;simpa[Df,marks,GN]using f
theorem lO{l rest:Lu}(h:l.head?≠some 42)(a:l=[]->rest.head?≠some 42):(l++rest).head?≠some 42:=by
 cases l with
 | nil=>exact a O
 | cons y l=>exact h
theorem Xzb{l:Lu}(h:l.head?≠some 42)(i:Int)(Q:List Pl)(a:List GR)(BF:List Int):AL (42::l) i Q a BF=AL l (i+1) (Q++[(3,0,[])]) a BF:=by
 rw[Xn,Y3 de,Y7 de];cases l with
 | nil=>rfl
 | cons d r =>
  have b:¬ d.toNat=42:=λe=>h (by rw[List.head?_cons];exact Ye _ (GL.1 e))
  simp only[b,if_false]
theorem nK{c:Ui}{n:Ui}(h:c≠n):¬ c.toNat=n.toNat:=λe=>h (GL.1 e)
theorem Rv{l:Lu}{p:Pt}(h:D5 l p):∀(rest:Lu) (i:Int) (Q:List Pl) (a:List GR) (BF:List Int),(l.getLast?=some 42->rest.head?≠some 42)->(p.flat\/a≠[])->BF.length=a.length->a.length<=4->
  (p.dep+a.length<=4->AL (l++rest) i Q a BF=AL rest (i+l.length) (Q++Df [] p Q.length) (VH a (marks p Q.length)) BF)/\(4<p.dep+a.length->∀X,AL (l++rest) i Q a BF≠.ok X):=by
 have sub:∀{x:Ui} {l rest:Lu},((x::l).getLast?=some 42->rest.head?≠some 42)->l.getLast?=some 42->rest.head?≠some 42:=by
  intro x l rest n q;refine n ?_;cases l with
  | nil=>simp at q
  | cons y l=>simpa using q
 have r:∀{t l rest:Lu},((t++41::l).getLast?=some 42->rest.head?≠some 42)->l.getLast?=some 42->rest.head?≠some 42:=by
  intro t l rest n q;refine n ?_;rw[List.getLast?_append];cases l with
  | nil=>simp at q
  | cons y l=>simp at q ⊢;simp[q]
 induction h with
 | nil=>intro rest i Q a BF _ _ _ j;simp[Df,marks,VI,dep];intro K;omega
 | @one l p _ m =>
  intro rest i Q a BF k d g j
  have:=m rest (i+1) (Q++[(1,0,[])]) a BF (sub k) d g j
  rw[DV,Xn,Y7 (show(63:Ui).toNat=63 by decide)];simpa[Df,marks,dep,Int.add_assoc,Int.add_comm,Int.add_left_comm]using this
 | @all l p _ m =>
  intro rest i Q a BF k d g j
  have:=m rest (i+2) (Q++[(2,0,[])]) a BF (sub (sub k)) d g j
  rw[DV,Xn,Y3 (show ¬ (42:Ui).toNat=63 by decide),Y7 (show(42:Ui).toNat=42 by decide)];simp only[DV]
  rw[Y7 (show(42:Ui).toNat=42 by decide)];rw[show i+((42::42::l).length:Nat)=i+2+(l.length:Int)by simp;omega];simpa[Df,marks,dep]using this
 | @T9 l p n _ m =>
  intro rest i Q a BF k d g j
  have:=m rest (i+1) (Q++[(3,0,[])]) a BF (sub k) d g j
  rw[DV,Xzb (lO n λe=>by subst e;exact k O)];rw[show i+((42::l).length:Nat)=i+1+(l.length:Int)by simp;omega];simpa[Df,marks,dep]using this
 | @HI l p _ m =>
  intro rest i Q a BF k d g j;cases a with
  | nil=>rcases d with d|d;exact d.elim;exact Aw O d
  | cons f a =>
   obtain⟨o,B⟩:=f
   have:=m rest (i+1) (Q++[(5,0,[])]) ((o,B++[Q.length])::a) BF (sub k) (.inr sz) g j
   rw[DV,Xn,Y3 (show ¬ (124:Ui).toNat=63 by decide),Y3 (show ¬ (124:Ui).toNat=42 by decide),Y3 (show ¬ (124:Ui).toNat=40 by decide),Y7 (show(124:Ui).toNat=124 by decide)];simp only[]
   rw[show i+((124::l).length:Nat)=i+1+(l.length:Int)by simp;omega];simpa[Df,marks,dep,VH]using this
 | @Ep l p c _ m =>
  intro rest i Q a BF k d g j
  have:=m rest (i+2) (Q++[(0,(c.toNat:Int),[])]) a BF (sub (sub k)) d g j
  rw[DV,Xn,Y3 (show ¬ (92:Ui).toNat=63 by decide),Y3 (show ¬ (92:Ui).toNat=42 by decide),Y3 (show ¬ (92:Ui).toNat=40 by decide),Y3 (show ¬ (92:Ui).toNat=124 by decide),Y3 (show ¬ (92:Ui).toNat=41 by decide),Y7 (show(92:Ui).toNat=92 by decide)];simp only[DV]
  rw[show i+((92::c::l).length:Nat)=i+2+(l.length:Int)by simp;omega];simpa[Df,marks,dep]using this
 | @byte l p c n q G u s v _ m =>
  intro rest i Q a BF k d g j
  have:=m rest (i+1) (Q++[(0,(c.toNat:Int),[])]) a BF (sub k) d g j
  rw[DV,Xn,Y3 (show ¬ c.toNat=63 from nK n),Y3 (show ¬ c.toNat=42 from nK q),Y3 (show ¬ c.toNat=40 from nK G),Y3 (show ¬ c.toNat=124 from nK u),Y3 (show ¬ c.toNat=41 from nK s),Y3 (show ¬ c.toNat=92 from nK v)];rw[show i+((c::l).length:Nat)=i+1+(l.length:Int)by simp;omega];simpa[Df,marks,dep]using this
 | @FW t l b p _ _ z m =>
  intro rest i Q a BF k d g j;rw[DV,Yg,DV,Xn,Y3 (show ¬ (40:Ui).toNat=63 by decide),Y3 (show ¬ (40:Ui).toNat=42 by decide),Y7 (show(40:Ui).toNat=40 by decide)]
  by_cases s:a.length=4
  ·rw[Y7 s];refine⟨λh=>?_,λ_ X h=>by cases h⟩;simp[dep]at h
   omega
  ·rw[Y3 s];have n:=z (41::(l++rest)) (i+1) (Q++[(4,0,[])]) ((Q.length,[])::a) (BF++[i]) (λ_=>by simp) (.inr sz) (by simp[g]) (by simp;omega)
   by_cases v:b.dep+(a.length+1)<=4
   ·have H:=n.1 (su v);rw[H];have A:=m rest (i+1+t.length+1) (Q++((4,0,GN b (Q.length+1))::(Df [((Q.length+1+len b:Nat):Int)] b (Q.length+1)++[(6,0,[])]))) a BF (r (sub k)) d g j;have w:=sE (Q.length+1+len b) Q.length b (Q++[(4,0,[])]) 4 0 [] sz;have I:=Xh0 Q 4 0 [] (GN b (Q.length+1)) [];simp only[Y0,LS,CS]at w
    rw[I]at w;rw[Xn,Y3 (show ¬ (41:Ui).toNat=63 by decide),Y3 (show ¬ (41:Ui).toNat=42 by decide),Y3 (show ¬ (41:Ui).toNat=40 by decide),Y3 (show ¬ (41:Ui).toNat=124 by decide),Y7 (show(41:Ui).toNat=41 by decide)];simp only[Ra,Y0,LS,CS,Vg]
    rw[w];have J:(BF++[i]).take a.length=BF:=by rw[<-g];simp
    rw[J];have C:(Q++((4,0,GN b (Q.length+1))::(Df [((Q.length+1+len b:Nat):Int)] b (Q.length+1)++[(6,0,[])]))).length=Q.length+2+len b:=by simp[Vg];omega
    rw[C]at A;have D:i+((40::(t++41::l)).length:Nat)=i+1+t.length+1+l.length:=by simp;omega
    rw[D];have E:4<(Pt.FW b p).dep+a.length↔4<p.dep+a.length:=by simp[dep];omega
    have F:(Pt.FW b p).dep+a.length<=4↔p.dep+a.length<=4:=by simp[dep];omega
    rw[E,F];simpa[Df,marks]using A
   ·refine⟨λh=>?_,λ_=>n.2 (by simp;omega)⟩;simp[dep]at h
    omega
inductive Splits:Nat->List UInt8->Prop
 | last {l p}:D5 l p->p.flat->p.dep<=4->Splits 0 l
 | more {d t l p}:D5 t p->p.dep+(d+1)<=4->Splits d l->Splits (d+1) (t++41::l)
theorem Splits.lit{d:Nat}{l pre:Lu}{k c:Int}(h:Splits d l)(g:∀{t p},(t.head?=some 42->l.head?=some 42)->D5 t p->D5 (pre++t) (.lit k c p)):Splits d (pre++l):=by
 cases h with
 | last a b f=>exact .last (g (λh=>h) a) b f
 | @more d t l p a b f =>
  rw[<-Yg];refine .more (g ?_ a) b f;intro e;cases t with
  | nil=>simp at e
  | cons x t=>simpa using e
theorem Splits.FW{d:Nat}{t l:Lu}{b:Pt}(h:Splits d l)(c:D5 t b)(g:b.dep+(d+1)<=4):Splits d (40::(t++41::l)):=by
 cases h with
 | @last _ p a e f=>exact .last (.FW c a) e (by simp[dep];omega)
 | @more d j i p a e f =>
  have:=Splits.more (.FW c a) (by simp[dep];omega) f
  simpa using this
theorem bM:∀(n:Nat) (l:Lu) (i:Int) (Q:List Pl) (a:List GR) (g:List Int) (X:List Pl),l.length<=n->g.length=a.length->a.length<=4->AL l i Q a g=.ok X->Splits a.length l
 | n,[],i,Q,a,g,X,_,q,s,h=>by
  rw[pI]at h;split at h
  ·cases h
  ·have e:a.length=0:=om
   rw[e];exact .last .nil trivial (by simp[dep])
 | 0,c::l,_,_,_,_,_,C,_,_,_=>by simp at C
 | n+1,c::l,i,Q,a,g,X,C,q,s,h=>by
  have j:l.length<=n:=su C
  rw[Xn]at h;split at h
  ·rename_i e
   have e:c=63:=GL.1 e;subst e;exact(bM n l _ _ a g X j q s h).lit (pre:=[63]) λ_ k=>.one k
  split at h
  ·rename_i e
   have e:c=42:=GL.1 e;subst e;cases l with
   | nil=>exact(bM n [] _ _ a g X j q s h).lit (pre:=[42]) λ{t p} A k=>.T9 (λe=>by have:=A e;simp at this) k
   | cons d r =>
    simp only at h
    split at h
    ·rename_i w
     have w:d=42:=GL.1 w;subst w;exact(bM n r _ _ a g X (by simp at j;omega) q s h).lit (pre:=[42,42]) λ_ k=>.all k
    ·rename_i w
     exact(bM n (d::r) _ _ a g X j q s h).lit (pre:=[42]) λ{t p} A k=>.T9 (λe=>by have:=A e;simp at this;subst this;exact w de) k
  split at h
  ·rename_i e
   have e:c=40:=GL.1 e;subst e;split at h
   ·cases h
   ·rename_i E
    have u:=bM n l _ _ ((Q.length,[])::a) (g++[i]) X j (by simp[q]) (by simp;omega) h;generalize G:((Q.length,[])::a:List GR).length=m at u;simp only[Y4]at G
    cases u with
    | last=>omega
    | @more d t l b x y z =>
     have A:d=a.length:=om
     subst A;exact z.FW x y
  split at h
  ·rename_i e
   have e:c=124:=GL.1 e;subst e;cases a with
   | nil=>cases h
   | cons f a =>
    obtain⟨o,D⟩:=f;have u:=bM n l _ _ ((o,D++[Q.length])::a) g X j q s h;cases u with
    | more x y z=>exact Splits.more (t:=124::_) (.HI x) y z
  split at h
  ·rename_i e
   have e:c=41:=GL.1 e;subst e;cases a with
   | nil=>cases h
   | cons f a =>
    obtain⟨o,D⟩:=f;have u:=bM n l _ _ a _ X j (by simp at q;simp;omega) (by simp at s;omega) h;exact Splits.more (t:=[]) .nil (by simp[dep]at *;omega) u
  split at h
  ·rename_i e
   have e:c=92:=GL.1 e;subst e;cases l with
   | nil=>cases h
   | cons d r=>exact(bM n r _ _ a g X (by simp at j;omega) q s h).lit (pre:=[92,d]) λ_ k=>.Ep d k
  ·rename_i x y z B E F
   have v:∀{n:Ui},¬ c.toNat=n.toNat->c≠n:=λh e=>h (by rw[e])
   exact(bM n l _ _ a g X j q s h).lit (pre:=[c]) λ_ k=>.byte c (v x) (v y) (v z) (v B) (v E) (v F) k
theorem lu{l:Lu}{Q:List Pl}(h:cmp l=.ok Q):l.length<=200/\∃p,D5 l p/\p.flat/\p.dep<=4/\Q=Df [] p 0++[(7,0,[])]:=by
 unfold cmp at h;split at h
 ·cases h
 ·rename_i f
  refine⟨om,?_⟩;have e:=bM l.length l 0 [] [] [] Q (Y9 _) O sz h;cases e with
  | @last _ p a b c =>
   refine⟨p,a,b,c,?_⟩;have d:=(Rv a [] 0 [] [] [] (λ_=>by simp) (.inl b) O sz).1 (su c);rw[Yx,h,pI]at d;simpa using d
theorem U9:∀(n:Nat) (l:Lu) (i:Int) (Q:List Pl) (a:List GR) (o:List Int),l.length<=n->o.length=a.length->
  (∀e,AL l i Q a o=.error e->BX l i o=e/\e.1≠0)/\(∀X,AL l i Q a o=.ok X->BX l i o=(0,0))
 | n,[],i,Q,a,o,_,j=>by
  rw[pI,Rp];split
  ·exact⟨λe h=>by injection h with h;subst h;exact⟨O,by simp⟩,λX h=>by cases h⟩
  ·exact⟨λe h=>(by cases h),λX h=>rfl⟩
 | 0,c::l,_,_,_,_,u,_=>by simp at u
 | n+1,c::l,i,Q,a,o,u,j=>by
  have b:l.length<=n:=su u
  rw[Xn,Xio]
  by_cases s:c.toNat=63
  ·rw[Y7 s,Y3 om,Y3 om,Y3 om,Y3 om];exact U9 n l _ _ a o b j
  rw[Y3 s]
  by_cases q:c.toNat=42
  ·rw[Y7 q,Y3 om,Y3 om,Y3 om,Y3 om];cases l with
   | nil=>exact U9 n [] _ _ a o b j
   | cons d r =>
    simp only
    by_cases v:d.toNat=42
    ·rw[Y7 v,Xio,Y3 om,Y3 om,Y3 om,Y3 om,show i+1+1=i+2 by omega];exact U9 n r _ _ a o (by simp at b;omega) j
    ·rw[Y3 v];exact U9 n (d::r) _ _ a o b j
  rw[Y3 q]
  by_cases k:c.toNat=40
  ·rw[Y7 k,Y7 k,<-j]
   by_cases t:o.length=4
   ·rw[Y7 t,Y7 t];exact⟨λe h=>by injection h with h;subst h;exact⟨O,by simp⟩,λX h=>by cases h⟩
   ·rw[Y3 t,Y3 t];exact U9 n l _ _ _ (o++[i]) b (by simp[j])
  rw[Y3 k,Y3 k]
  by_cases g:c.toNat=124
  ·rw[Y7 g,Y3 om,Y7 g];cases a with
   | nil=>rw[Y7 (su j)];exact⟨λe h=>by injection h with h;subst h;exact⟨O,by simp⟩,λX h=>by cases h⟩
   | cons f a =>
    rw[Y3 (by simp at j;omega)];exact U9 n l _ _ _ o b j
  rw[Y3 g,Y3 g]
  by_cases m:c.toNat=41
  ·rw[Y7 m,Y7 m];cases a with
   | nil=>rw[Y7 (su j)];exact⟨λe h=>by injection h with h;subst h;exact⟨O,by simp⟩,λX h=>by cases h⟩
   | cons f a =>
    obtain⟨fo,fb⟩:=f;simp only[Y4]at j ⊢
    rw[Y3 om,show a.length=o.length-1 by omega];exact U9 n l _ _ _ _ b (by simp;omega)
  rw[Y3 m,Y3 m]
  by_cases p:c.toNat=92
  ·rw[Y7 p,Y7 p];cases l with
   | nil=>exact⟨λe h=>by injection h with h;subst h;exact⟨O,by simp⟩,λX h=>by cases h⟩
   | cons d r=>exact U9 n r _ _ a o (by simp at b;omega) j
  rw[Y3 p,Y3 p];exact U9 n l _ _ a o b j
def vL(Q:List Pl)(i j:Nat):Prop:=(iB (Q.getD i (7,0,[])).1=true/\j=i+1)\/(∃t∈(Q.getD i (7,0,[])).2.2,j=t.toNat)
def cC(Q:List Pl)(a b:List Bool):Prop:=CN a b/\∀x,b.getD x false=true->a.getD x false=false->∀y,vL Q x y->b.getD y false=true
theorem cC.trans{Q:List Pl}{a b c:List Bool}(h:cC Q a b)(k:cC Q b c):cC Q a c:=by
 refine⟨h.1.trans k.1,λx hx f y e=>?_⟩;cases d:b.getD x false with
 | true=>exact k.1.2 y (h.2 x d f y e)
 | false=>exact k.2 x hx d y e
theorem W3(n x:Nat):(List.replicate n false).getD x false=false:=by
 rw[Ya,List.getElem?_replicate];split<;>rfl
section
variable {Q:List Pl} (hW:WF Q) {F:Nat} (hF:Q.length<F) (now:List Bool) (c:Ui)
end
def vE(Q:List Pl):Prop:=0<Q.length/\∀j,j<Q.length->((Q.getD j (7,0,[])).1=7↔j=Q.length-1)
abbrev vI:=Lu->Prop
namespace Pt
def ok:Pt->Prop
 | nil=>True
 | lit k _ r=>(0<=k/\k<=3)/\ok r
 | HI r=>ok r
 | FW b r=>ok b/\ok r
end Pt
theorem D5.ok{l:Lu}{p:Pt}(h:D5 l p):p.ok:=by
 induction h with
 | nil=>trivial
 | one _ a=>exact⟨⟨de,de⟩,a⟩
 | all _ a=>exact⟨⟨de,de⟩,a⟩
 | T9 _ _ a=>exact⟨⟨de,de⟩,a⟩
 | FW _ _ b d=>exact⟨b,d⟩
 | HI _ a=>exact a
 | Ep c _ a=>exact⟨⟨de,de⟩,a⟩
 | byte c _ _ _ _ _ _ _ a=>exact⟨⟨de,de⟩,a⟩
theorem D5.len{l:Lu}{p:Pt}(h:D5 l p):p.len<=l.length:=by
 induction h<;>simp[Pt.len]at*<;>omega
theorem uB:∀(p:Pt) (n:Nat),(GN p n).length<=p.len
 | .nil,_=>by simp[GN]
 | .lit _ _ r,n=>by have:=uB r (n+1);simp[GN,len];omega
 | .HI r,n=>by have:=uB r (n+1);simp[GN,len];omega
 | .FW b r,n=>by have:=uB r (n+2+len b);simp[GN,len];omega
theorem uV:∀(p:Pt) (n:Nat) (t:Int),t∈GN p n->(n:Int)<t/\t<=n+p.len
 | .nil,_,_,h=>by simp[GN]at h
 | .lit _ _ r,n,t,h=>by have:=uV r (n+1) t h;simp[len];omega
 | .HI r,n,t,h=>by
  simp only[GN,Ys]at h
  rcases h with rfl|h
  ·simp[len];omega
  ·have:=uV r (n+1) t h;simp[len];omega
 | .FW b r,n,t,h=>by have:=uV r (n+2+len b) t h;simp[len];omega
theorem nY:∀(p:Pt) (d:List Int) (n a:Nat),p.ok->n+p.len<a->(∀t∈d,0<=t/\t<(a:Int))->d.length<=a->∀q∈Df d p n,(∀t∈q.2.2,0<=t/\t<(a:Int))/\(0<=q.1/\q.1<=6)/\q.2.2.length<=a
 | .nil,_,_,_,_,_,_,_,q,h=>by simp[Df]at h
 | .lit k c r,d,n,a,e,i,g,f,q,h=>by
  simp only[len]at i
  simp only[Df,Ys]at h
  rcases h with rfl|h
  ·exact⟨by simp,⟨e.1.1,by have:=e.1.2;simp only;omega⟩,by simp⟩
  ·exact nY r d (n+1) a e.2 om g f q h
 | .HI r,d,n,a,e,i,g,f,q,h=>by
  simp only[len]at i
  simp only[Df,Ys]at h
  rcases h with rfl|h
  ·exact⟨g,⟨by simp,by simp⟩,f⟩
  ·exact nY r d (n+1) a e om g f q h
 | .FW b r,d,n,a,e,i,g,f,q,h=>by
  simp only[len]at i
  simp only[Df,Ys,Yt]at h
  rcases h with rfl|h|rfl|h
  ·exact⟨λt j=>by have:=uV b (n+1) t j;omega,⟨by simp,by simp⟩,by have:=uB b (n+1);simp only;omega⟩
  ·exact nY b _ (n+1) a e.1 om (λt j=>by simp at j;omega) (by simp;omega) q h
  ·exact⟨by simp,⟨by simp,by simp⟩,by simp⟩
  ·exact nY r d (n+2+len b) a e.2 om g f q h
def cP(p:Pt):List Pl:=Df [] p 0++[(7,0,[])]
theorem Xd8(p:Pt):(cP p).length=p.len+1:=by simp[cP,Vg]
theorem Xtp{p:Pt}(g:p.ok):WF (cP p)/\vE (cP p):=by
 have m:=Xd8 p;have a:∀(i:Nat) (q:Pl),(cP p)[i]?=some q->(i<p.len/\q∈Df [] p 0)\/(i=p.len/\q=(7,0,[])):=by
  intro i q h;unfold cP at h;rcases Yz i p.len with hi|hi
  ·rw[Yf (by rw[Vg];exact hi)]at h;exact .inl ⟨hi,Y8 h⟩
  ·rw[Yy (by rw[Vg];exact hi),Vg]at h
   by_cases e:i=p.len
   ·subst e;simp at h;exact .inr ⟨O,h.symm⟩
   ·rw[T1 (by simp;omega)]at h;cases h
 refine⟨λi q h=>?_,om,λj l=>?_⟩
 ·rw[m];rcases a i q h with⟨hi,b⟩|⟨hi,rfl⟩
  ·obtain⟨c,d,f⟩:=nY p [] 0 (p.len+1) g om sz sz q b;exact⟨c,λ_=>by omega,⟨d.1,om⟩,λ_=>by omega,f⟩
  ·exact⟨by simp,by simp[iB],⟨by simp,by simp⟩,by simp,by simp⟩
 ·have e:(cP p)[j]?=some ((cP p).getD j (7,0,[])):=by simp[Ya,l]
  rcases a j _ e with⟨hi,b⟩|⟨hi,k⟩
  ·obtain⟨c,d,f⟩:=nY p [] 0 (p.len+1) g om sz sz _ b;constructor
   ·intro h;omega
   ·intro h;omega
  ·rw[k];simp;omega
def pk(Q:List Pl)(n:Nat)(L:List Pl):Prop:=∀(i:Nat) (q:Pl),L[i]?=some q->Q[n+i]?=some q
theorem pk.head{Q:List Pl}{q:Pl}{L:List Pl}(h:pk Q n (q::L)):Q[n]?=some q:=h 0 q O
theorem pk.tail{Q:List Pl}{q:Pl}{L:List Pl}(h:pk Q n (q::L)):pk Q (n+1) L:=λi x hx=>by
 rw[show n+1+i=n+(i+1)by omega];exact h (i+1) x (su hx)
def vz(Q:List Pl)(s:Lu):Bool:=(run Q s).1.getD (Q.length-1) false
def Kw(l s:List UInt8):Bool×Bool:=match cmp l with
 | .ok Q=>(vz Q s,true)
 | .error _=>(false,false)
def seg(s:Lu)(i j:Nat):Lu:=(s.drop i).take (j-i)
def Um(s:Lu)(a:List Bool)(L:vI)(R:List Bool):Prop:=R.length=s.length+1/\∀j,j<=s.length->(R.getD j false=true↔∃i,i<=j/\a.getD i false=true/\L (seg s i j))
theorem Um.none(s:Lu)(a:List Bool):Um s a (λ_=>False) (List.replicate (s.length+1) false) :=
 ⟨by simp,λj b=>⟨λh=>(by rw[W3]at h;cases h),λ⟨_,_,_,h⟩=>h.elim⟩⟩
inductive P_:List UInt8->Pt->Int->List Int->Prop
 | last {t b} (i:Int):D5 t b->b.flat->P_ t b i []
 | more {t1 b1 t2 b2 ps} (i:Int):D5 t1 b1->b1.flat->P_ t2 b2 (i+t1.length+1) ps->P_ (t1++124::t2) (b1.app (.HI b2)) i ((i+t1.length)::ps)
theorem P_.pre{x t:Lu}{b:Pt}{i:Int}{ps:List Int}{f:Pt->Pt}(k:∀p,p.flat->(f p).flat)(g:∀p q,f (p.app q)=(f p).app q)(h:P_ t b (i+x.length) ps)(l:∀{a p},(a.head?=some 42->t.head?=some 42)->D5 a p->D5 (x++a) (f p)):P_ (x++t) (f b) i ps:=by
 cases h with
 | last _ c d=>exact .last i (l (λh=>h) c) (k _ d)
 | @more a b1 n m ps _ c d j =>
  rw[<-Yg,g];have e:i+(x.length:Int)+(a.length:Int)=i+((x++a).length:Int):=by simp;omega
  rw[e]at j ⊢;refine .more i (l ?_ c) (k _ d) j;intro e;cases a with
  | nil=>simp at e
  | cons y a=>simpa using e
end DS
namespace Go.Proofs.W9
open Gk DS
open Tryz
def z0:Sv:=⟨0,0,[],false,false,false,[],[]⟩
theorem Xn9(a:Oa)(c:Nat)(l:List Lu)(M:l.length<=1000000)(E:RS I a 1 l.length (l.map S))(N:La)(t:Aa B w I N):
  Cz 189 [.slice a l.length c] w λv w'=>∃J d f,v=.slice d l.length f/\Le I J/\l.length<=f/\RS J d 1 l.length (l.map S)/\Aa B w' J N:=by
 have g:∀(v:Va) (w':Wo) (n:Nat) (xs:Lv),n=l.length->xs=l.map S->Go.RowKit.Below w.heap.size w w'->w'.ownsRow w.heap.size 9 1 v n xs->∃J d f,v=.slice d l.length f/\Le I J/\l.length<=f/\RS J d 1 l.length (l.map S)/\Aa B w' J N:=by
  intro v w' n xs H hx k o;subst H;subst hx;have i:=t.Kc k o;obtain⟨d,f,rfl,F,_⟩:=i.vS 0;obtain⟨J,G,s,u⟩:=i.fV 0;exact⟨J,d,f,O,G,F,s,u⟩
 cases a with
 | none =>
  have r:l=[]:=by
   rcases JP l.length with h|h
   ·exact Yc h
   ·obtain⟨p,K,_⟩:=E.2 h;cases K
  subst r;refine(slices_Clone_string_nil 0 c w).mono λe w' m=>?_
  obtain⟨rfl,rfl⟩:=m;exact⟨_,O,I,none,0,O,Le.refl _,Y9 _,RS.nil _ _,t⟩
 | some p =>
  rcases JP l.length with h|h
  ·have r:=Yc h;subst r;refine(slices_Clone_string_zero p c w).mono λe w' m=>?_
   obtain⟨C,rfl,o,_,k⟩:=m;exact⟨_,O,g C w' 0 [] O O k o⟩
  ·obtain⟨q,z,D⟩:=E.2 h;injection z with z
   subst z;obtain⟨b,off,L⟩:=p;have A:L=none:=D.1;subst A;refine(slices_Clone_string b off l.length c (l.map λx=>⟨x.toArray⟩) w (by rw[Ym];exact Y9 _) om (λj y=>?_)).mono λe w' m=>?_
   ·rw[Ym]at y;have i:=JH t D (j:=j) (by rw[Yu,Y2 y];rfl);rw[show(⟨b,off,none⟩:Addr).add j=⟨b,off+j,none⟩ from C7 b off j]at i;rw[i,Ya,Yu,Y2 y];rfl
   ·obtain⟨C,rfl,o,_,k⟩:=m;refine⟨_,O,g C w' l.length _ O ?_ k o⟩;rw[Yk (by rw[Ym];exact Y9 _),iU];rfl
theorem fl(s:Sv)(a:Oa)(c:Nat)(e:s.rel.length<=1000000)(j:RS I a 1 s.rel.length (s.rel.map S))(N:La)(b:Aa B w I N):
  Cz 351 [.agg #[Ab s.id,AQ s.ord,S s.urls,.bool s.BZ,.bool s.Co,.bool s.back,S s.calls,.slice a s.rel.length c]] w λv w'=>∃J cs,Le I J/\v=.agg (List.toArray cs)/\Fv J s cs/\Aa B w' J N:=by
 refine gH 4 ?_;intro b1 k w b;refine gF 0 (Xn9 a c _ e j) ?_;rintro _ w ⟨J,g,h,rfl,i,d,f,b⟩;refine gH 4 ?_;intro w b;exact gG 0 ⟨J,[Ab s.id,AQ s.ord,S s.urls,.bool s.BZ,.bool s.Co,.bool s.back,S s.calls,.slice g s.rel.length h],i,O,⟨g,h,O,d,f⟩,b.s⟩
abbrev QJ(s:Sv)(a:Oa)(c:Nat)(p q:Addr):Lv:=[Ab s.id,AQ s.ord,S s.urls,.bool s.BZ,.bool s.Co,.bool s.back,S s.calls,.slice a s.rel.length c,.pointer (some p),.pointer (some q)]
def B6(I:Im)(s:Sv)(l:Lv):Prop:=∃a c p q Q R,l=QJ s a c p q/\s.rel.length<=c/\RS I a 1 s.rel.length (s.rel.map S)/\cmp s.urls=.ok Q/\Ej I p Q s.urls.length/\cmp s.calls=.ok R/\Ej I q R s.calls.length
def Dp(I:Im)(a:Oa)(E:List Lv)(l:List Sv):Prop:=E.length=l.length/\∀(i:Nat) (s:Sv),l[i]?=some s->∃p c,a=some p/\E[i]?=some c/\At I (p.add (i*10)) c/\B6 I s c
def jS(w:Wo)(I:Im)(a:Oa)(l:List Sv):Prop:=∀(i:Nat) (s:Sv),l[i]?=some s->∃p c,a=some p/\(∀(j:Nat) v,c[j]?=some v->w.cell? ((p.add (i*10)).add j)=some v)/\B6 I s c
theorem Dp.now{E:List Lv}{l:List Sv}(h:Dp I a E l)(f:Aa B w I N):jS w I a l:=λi s k=>by
 obtain⟨p,c,e,_,b,d⟩:=h.2 i s k;exact⟨p,c,e,λj v g=>JH f b g,d⟩
theorem WG{T:Nat}{E:List Lv}{l:List Sv}(y:Aa B w I N)(t:N[k]?=some (Ao T 10 (.slice a l.length cap) l.length E.flatten))(b:∀c∈E,c.length=10)
  (x:∀(i:Nat) (s:Sv),l[i]?=some s->∃c,E[i]?=some c/\B6 I s c):jS w I a l:=λi s u=>by
 obtain⟨c,q,A⟩:=x i s u;have hi:=(Y1.1 u).1;obtain⟨g,m,rest,C,_,_,_,_,d⟩:=y.AF t om;injection C with h D F
 have f:k<N.length:=(Y1.1 t).1;have z:w.heap[g]?=some (Xd (E.flatten++rest) T):=d.block (k:=k) (by simp[f,Ad]);refine⟨⟨g,0,none⟩,c,h,λj v r=>?_,A⟩;have e:j<10:=by
  have n:=(Y1.1 r).1;rw[b c (Y8 q)]at n;exact n
 rw[Addr.add_add,show(⟨g,0,none⟩:Addr).add (i*10+j)=ad g (0+(i*10+j)) from C7 g 0 _,Yl];refine Xx z ?_;have o:=pN E b i j e;rw[q]at o;have p:E.flatten[i*10+j]?=some v:=o.trans r;rw[Yf (Y1.1 p).1];exact p
theorem XP{g:Option (Nat×Bool)}{t:TypeId}{x:Operand}{s:Nat}(hx:Ev n L x (.pointer (some p)))(i:∀(j:Nat) v,vs[j]?=some v->w.cell? (p.add j)=some v)(f:∀w,(isAgg t).run P w=.ok true w)(e:∀w,(Go.sizeOf t).run P w=.ok s w)
  (c:vs.length=s):Ex P n L w ⟨d,.load t x,ty,pos,af,g⟩ (.agg vs.toArray) w:=λa b=>by
 have h:=run_loadCells_list (P:=P) w p vs i;rw[c]at h;simp[execOp,hx a b,Instr.loadAt,Instr.sureAddr,loadVar,f,e,h]
def IK(a:Sv->Bool):List Sv->Nat->Int
 | [],_=>-1
 | s::r,i=>if a s then(i:Int)else IK a r (i+1)
theorem v_(a:Sv->Bool):∀(n:Nat) (r:List Sv) (i:Nat),(∀(j:Nat) s,j<n->r[j]?=some s->a s=false)->IK a r i=IK a (r.drop n) (i+min n r.length)
 | 0,r,i,_=>by simp
 | n+1,[],i,_=>by simp[IK]
 | n+1,s::r,i,h=>by
  rw[IK,Y3 (by rw[h 0 s om O];decide),v_ a n r (i+1) (λj t c b=>h (j+1) t om (su b)),Em,Y4]
  congr 1
  omega
theorem Xzn{a:Sv->Bool}{l:List Sv}{s:Sv}(h:∀(j:Nat) t,j<i->l[j]?=some t->a t=false)(b:l[i]?=some s)(c:a s=true):IK a l 0=(i:Int):=by
 have hi:=(Y1.1 b).1;rw[v_ a i l 0 h,Yl,JT om,Yq hi,(Y1.1 b).2,IK,Y7 c]
theorem Xsx{a:Sv->Bool}{l:List Sv}(h:∀(j:Nat) t,l[j]?=some t->a t=false):IK a l 0=-1:=by
 rw[v_ a l.length l 0 (λj t _ b=>h j t b),VC];rfl
theorem vT(a:Oa)(cap:Nat)(l:List Sv)(E:l.length<=100000)(x:Sv->Bool)(g:FuncId)(fn:Func)(r:prog.funcs[g]?=some fn)(n:Xc fn=true)(b:Lv)(N:La)(A:∀w,Aa B w I N->jS w I a l)(D:∀(s:Sv) (c:Lv),B6 I s c->∀w,Aa B w I N->Calls prog g ([Value.agg c.toArray]++b).toArray w (AY λv w'=>v=.bool (x s)/\Aa B w' I N))(d:Aa B w I N):
  Ce B I N 279 [.slice a l.length cap,.func (.func g) #[] b.toArray] w (Ab (IK x l 0)):=by
 refine gG 4 (.lk [0,1,7] (σ:=Nat) (λi _m=>(8,Ab (i:Nat))::_m) (λi w=>i<=l.length/\(∀(j:Nat) t,j<i->l[j]?=some t->x t=false)/\Aa B w I N) (λi=>l.length-i) 0 ⟨Y5 _,λ_ _ h=>Aw h om,d⟩ ?_);rintro i w ⟨hi,k,d⟩;refine gN 1 ?_ ?_<;>intro C
 ·obtain⟨s,u⟩:∃s,l[i]?=some s:=⟨_,Y2 om⟩
  obtain⟨p,c,rfl,hx,o⟩:=A w d i s u;have q:=o;obtain⟨J,K,G,H,Q,R,rfl,_⟩:=q;unfold QJ at hx o;refine gH 6 (.val (XP (.of O) hx isAgg208 jX O) O (.Bu (cap:=b) r n (.of O) (AM O X3) O (D s _ o w d) ?_));rintro _ w ⟨rfl,d⟩;refine gM 0 ?_ ?_<;>intro f z
  ·exact gG 2 ⟨by rw[Xzn k u f],d⟩
  refine gG 2 (rd (i+1) ⟨om,λj t F m=>?_,d⟩);rcases Yz j i with y|y
  ·exact k j t y m
  ·have e:j=i:=om
   subst e;rw[u]at m;cases m;exact f
 exact gG 1 ⟨by rw[Xsx (λj t m=>k j t (oh ((Y1.1 m).1)) m)],d⟩
theorem Xdh(a:Oa)(cap:Nat)(l:List Sv)(g:l.length<=100000)(h:Sv->Bool)(b:FuncId)(fn:Func)(f:prog.funcs[b]?=some fn)(e:Xc fn=true)(d:Lv)(N:La)(j:∀w,Aa B w I N->jS w I a l)(k:∀(s:Sv) (c:Lv),B6 I s c->∀w,Aa B w I N->Calls prog b ([Value.agg c.toArray]++d).toArray w (AY λv w'=>v=.bool (h s)/\Aa B w' I N))(i:Aa B w I N):
  Ce B I N 186 [.slice a l.length cap,.func (.func b) #[] d.toArray] w (.bool (decide (0<=IK h l 0))):=by
 refine gP 3 [] (vT a cap l g h b fn f e _ N j k) ?_;rintro _ w ⟨rfl,i⟩;exact gG 2 ⟨O,i⟩
open Ul Pc Tk Tr
def CI(l:List Ah):Lv:=(l.map X5).flatten
theorem Xq6(l:List Ah):(CI l).length=l.length*10:=by
 unfold CI
 induction l with
 | nil=>rfl
 | cons r l a=>rw[Yw,Gg,Y0,a,show(X5 r).length=10 from O,Y4];omega
abbrev Bc(b:Nat)(room:Int)(a:Oa)(c:Nat)(l:List Ah)(R:La):La:=Ad b [Ab room,.slice a l.length c] 158::Ao 160 10 (.slice a l.length c) l.length (CI l)::R
def gu(w:Wo)(a:Oa)(l:List Ah):Prop:=∀(i:Nat) (r:Ah),l[i]?=some r->∃p,a=some p/\(∀(j:Nat) v,(X5 r)[j]?=some v->w.cell? ((p.add (i*10)).add j)=some v)
theorem S0{l:List Ah}{j:Nat}{r:Ah}(e:l[i]?=some r)(b:(X5 r)[j]?=some v):(CI l)[i*10+j]?=some v:=by
 have a:=pN (l.map X5) (λc d=>by obtain⟨x,_,rfl⟩:=Dj.1 d;rfl) i j (show j<10 from(Y1.1 b).1);rw[Yu,e]at a;exact a.trans b
theorem Vc{T:Nat}{l:List Ah}(n:Aa B w I N)(h:N[k]?=some (Ao T 10 (.slice a l.length cap) l.length (CI l))):gu w a l:=λi r m=>by
 have hi:=(Y1.1 m).1;obtain⟨g,e,rest,q,_,_,_,_,b⟩:=n.AF h om;injection q with d s t
 have c:k<N.length:=(Y1.1 h).1;have o:w.heap[g]?=some (Xd (CI l++rest) T):=b.block (k:=k) (by simp[c,Ad]);refine⟨⟨g,0,none⟩,d,λj v p=>?_⟩;rw[Addr.add_add,show(⟨g,0,none⟩:Addr).add (i*10+j)=ad g (0+(i*10+j)) from C7 g 0 _,Yl];refine Xx o ?_;have f:=S0 m p;rw[Yf (Y1.1 f).1];exact f
theorem o4{g:Option (Nat×Bool)}{t:TypeId}{x:Operand}(hx:Ev n L x (.pointer (some p)))(e:w.cell? p=some v)(c:∀w,(isAgg t).run P w=.ok false w):Ex P n L w ⟨d,.load t x,ty,pos,af,g⟩ v w:=λa b=>by
 simp[execOp,hx a b,Instr.loadAt,Instr.sureAddr,loadVar,c,load,Sem.run,e]
theorem Ex.Fp{g:Option (Nat×Bool)}{t e:TypeId}{x y:Operand}(hx:Ev n L x (.slice a m c))(f:Ev n L y (.slice none 0 0))(b:P.underlying t=some (.slice e)):Ex P n L w ⟨d,.binOp .eql t x y t',ty,pos,af,g⟩ (.bool a.isNone) w :=
 C8 hx f (λ_ _=>by unfold eqGuard;split<;>simp) (run_eql_slice_nil w t e a m c b)
theorem Ap.app:∀{Xs N:La} {h:Vl},Ap (Xs++N) h↔∃a c,h=a++c/\Ap Xs a/\Ap N c
 | [],N,h=>⟨λi=>⟨[],h,O,O,i⟩,λ⟨a,c,e,b,d⟩=>by
   have b:a=[]:=b;subst b;subst e;exact d⟩
 | X::Xs,N,h=>by
  constructor
  ·rintro⟨a,c,rfl,hx,i⟩;obtain⟨b,d,rfl,f,g⟩:=(Ap.app (Xs:=Xs)).1 i;exact⟨a++b,d,by rw[Yg],⟨a,b,O,hx,f⟩,g⟩
  ·rintro⟨a,c,rfl,⟨b,d,rfl,hx,f⟩,g⟩;exact⟨b,d++c,by rw[Yg],hx,(Ap.app (Xs:=Xs)).2 ⟨d,c,O,f,g⟩⟩
def mY(T:X->La):X1:=λh=>∃x,Ap (T x) h
theorem Aa.unbox{T:X->La}(d:Aa B w I (mY T::N)):∃x,Aa B w I (VR (T x) N):=by
 obtain⟨h,⟨a,b,rfl,⟨x,hx⟩,c⟩,e⟩:=d;refine⟨x,?_⟩;rw[L2];exact⟨a++b,Ap.app.2 ⟨a,b,O,hx,c⟩,e⟩
theorem Aa.box{T:X->La}(x:X)(c:Aa B w I (VR (T x) N)):Aa B w I (mY T::N):=by
 rw[L2]at c;obtain⟨h,g,f⟩:=c;obtain⟨a,b,rfl,d,e⟩:=Ap.app.1 g;exact⟨a++b,⟨a,b,O,⟨x,d⟩,e⟩,f⟩
theorem X8z(a:Oa)(cap:Nat)(l:List Ah)(A:l.length<=100000)(q:Ah->Bool)(f:FuncId)(fn:Func)(n:prog.funcs[f]?=some fn)(m:Xc fn=true)(b:Lv)(N:La)(x:∀w,Aa B w I N->gu w a l)(z:∀(r:Ah) w,Aa B w I N->Calls prog f ([Value.agg (X5 r).toArray]++b).toArray w (AY λv w'=>v=.bool (q r)/\Aa B w' I N))(c:Aa B w I N):
  Ce B I N 211 [.slice a l.length cap,.func (.func f) #[] b.toArray] w (Ab (EP q l 0)):=by
 refine gG 4 (.lk [0,1,7] (σ:=Nat) (λi _m=>(8,Ab (i:Nat))::_m) (λi w=>i<=l.length/\(∀(j:Nat) t,j<i->l[j]?=some t->q t=false)/\Aa B w I N) (λi=>l.length-i) 0 ⟨Y5 _,λ_ _ h=>Aw h om,c⟩ ?_);rintro i w ⟨hi,g,c⟩;refine gN 1 ?_ ?_<;>intro y
 ·obtain⟨r,o⟩:∃r,l[i]?=some r:=⟨_,Y2 om⟩
  obtain⟨p,rfl,hx⟩:=x w c i r o;refine gH 6 (.val (XP (.of O) hx bO LG O) O (.Bu (cap:=b) n m (.of O) (AM O X3) O (z r w c) ?_));rintro _ w ⟨rfl,c⟩;refine gM 0 ?_ ?_<;>intro d u
  ·exact gG 2 ⟨by rw[jG g o d],c⟩
  refine gG 2 (rd (i+1) ⟨om,λj t C k=>?_,c⟩);rcases Yz j i with s|s
  ·exact g j t s k
  ·have e:j=i:=om
   subst e;rw[o]at k;cases k;exact d
 exact gG 1 ⟨by rw[jF (λj t k=>g j t (oh ((Y1.1 k).1)) k)],c⟩
theorem dL(r:Ah)(name:Lu)(b:Nat)(N:La)(a:Aa B w I (Ad b [S name] 9::N)):
  Ce B I (Ad b [S name] 9::N) 212 [.agg (X5 r).toArray,ptr b 0] w (.bool (decide (r.name=name))):=by
 refine gG 7 ?_;intro c w a;exact⟨Ye Value.bool (by rw[kV];simp),a.s⟩
theorem hG(d:Nat)(room:Int)(a:Oa)(c:Nat)(l:List Ah)(f:l.length<=100000)(name:Lu)(N:La)(b:Aa B w I (Bc d room a c l N)):
  Ce B I (Bc d room a c l N) 124 [ptr d 0,S name] w (Ab (BE l name)):=by
 refine gH 7 ?_;intro e w b;refine gP 0 [] (X8z a c l f (λr=>decide (r.name=name)) 212 _ func212 O _ _ (λw h=>Vc h (k:=2) O) (λr w h=>dL r name e _ h)) ?_;rintro _ w ⟨rfl,b⟩;exact gG 1 ⟨by rw[Xvp];rfl,b.s⟩
theorem Fx(f:Nat)(room:Int)(a:Oa)(c:Nat)(l:List Ah)(q:l.length<=100000)(name:Lu)(N:La)(b:Aa B w I (Bc f room a c l N)):
  Ce B I (Bc f room a c l N) 86 [ptr f 0,S name] w (.tuple #[.agg (X5 (getD l name)).toArray,.bool (get l name).isSome]):=by
 refine gH 4 ?_;intro t w b;refine gE 0 (hG f room a c l q _) ?_;intro w b;replace b:=b.px [2];refine gM 3 ?_ ?_<;>intro d h
 ·obtain⟨j,r,n,i,s⟩:∃(j:Nat) (r:Ah),BE l name=(j:Int)/\l[j]?=some r/\get l name=some r:=by
   rcases Tr.get_at l name with⟨e,_⟩|⟨j,r,e,g,_,m⟩
   ·omega
   ·exact⟨j,r,e,g,m⟩
  have o:=(Y1.1 i).1;obtain⟨p,rfl,hx⟩:=Vc b (k:=2) O j r i;rw[n];refine gH 3 (.val (.lo O b (k:=1) O isAgg156 O) O (gH 2 (.val (XP (.of O) hx bO LG O) O (gH 2 ?_))));intro w b;exact gG 0 ⟨by rw[getD,s];rfl,b.y 0 1⟩
 refine gH 3 ?_;intro w b;refine gG 0 (⟨?_,b.y 0 1⟩);rcases Tr.get_at l name with⟨e,g⟩|⟨j,r,e,_⟩
 ·rw[getD,g];rfl
 ·exfalso;rw[e]at d;simp at d
theorem Xpg{l:List Ah}{r:Ah}(c:l[i]?=some r)(name:Lu):kids (l.take (i+1)) name=kids (l.take i) name++(if name≠[]/\r.parent=name then[r.name]else[]):=by
 unfold kids HP;rw[Yv,c,DO,VB,Yn]
 congr 1
 by_cases a:name=[]
 ·simp[a]
 ·by_cases b:r.parent=name
  ·simp[a,b]
  ·simp[a,b]
theorem yM(l:List Ah)(name:Lu):(kids l name).length<=l.length:=by
 unfold kids HP;rw[Ym];exact EV _ _
theorem xM(h:Nat)(room:Int)(a:Oa)(c:Nat)(l:List Ah)(G:l.length<=100000)(name:Lu)(N:La)(b:Aa B w I (Bc h room a c l N)):
  Cz 164 [ptr h 0,S name] w λv w'=>∃J u x,v=.slice u (kids l name).length x/\Le I J/\(kids l name).length<=x/\RS J u 1 (kids l name).length ((kids l name).map S)/\Aa B w' J (Bc h room a c l N):=by
 refine gG 2 ?_;replace b:=b.Al 9 1;refine gG 6 (.lk [0,1,11,12] (σ:=Va×Nat) (λ(f,i) _m=>(5,f)::(13,Ab (i:Nat))::_m) (λ(f,i) w=>i<=l.length/\Aa B w I (Ao 9 1 f (kids (l.take i) name).length ((kids (l.take i) name).map S)::Bc h room a c l N)) (λ(f,i)=>l.length-i) (.slice none 0 0,0) ⟨Y5 _,b⟩ ?_);rintro⟨f,i⟩ w ⟨hi,b⟩;refine gN 1 ?_ ?_<;>intro s
 ·obtain⟨r,q⟩:∃r,l[i]?=some r:=⟨_,Y2 om⟩
  obtain⟨p,rfl,hx⟩:=Vc b (k:=2) O i r q;have o:=yM (l.take i) name;rw[Yj]at o;refine gH 1 (.val (XP (.of O) hx bO LG O) O (gG 10 ?_));intro F w b;refine gM 0 ?_ ?_<;>intro d t
  ·refine gG 8 ?_;intro A z C g w b;have e:=Xpg q name;rw[Y7 (su d)]at e;refine Br (_,i+1) O ⟨om,?_⟩;rw[e,Y0,Yn];exact b.y 0 1
  refine gG 2 ?_;have e:=Xpg q name;rw[Y3 (su d),Yx]at e;refine Br (_,i+1) O ⟨om,?_⟩;rw[e];exact b.y 0 1
 refine gG 2 ?_;have m:i=l.length:=om
 subst m;rw[GK]at b;obtain⟨ka,E,rfl,n,_⟩:=b.vS 0;obtain⟨J,D,j,b⟩:=b.fV 0;exact⟨J,ka,E,O,D,n,j,b⟩
theorem Xx6(l:List Ah):∀(f:Nat) (i:Int),(LK l f i).length<=f
 | 0,_=>by simp[LK]
 | f+1,i=>by
  rw[LK];split
  ·simp
  ·cases l[i.toNat]? with
   | none=>simp
   | some r =>
    have h:=Xx6 l f (BE l r.parent);simp only[Y4];omega
theorem nX{l:List Ah}(h:Wf l)(name:Lu):(path l name).length<=l.length:=by
 unfold path kE;rcases Vd l name with⟨a,_⟩|⟨j,r,a,b,_⟩
 ·rw[a,nz l _ om];simp
 ·have d:=(Y1.1 b).1;have c:=Xx6 l ((BE l name).toNat+1) (BE l name);rw[a]at c ⊢;omega
theorem xN(g:Nat)(room:Int)(a:Oa)(c:Nat)(l:List Ah)(y:l.length<=100000)(f:Wf l)(name:Lu)(N:La)(b:Aa B w I (Bc g room a c l N)):
  Cz 167 [ptr g 0,S name] w λv w'=>∃J z A,v=.slice z (path l name).length A/\Le I J/\(path l name).length<=A/\RS J z 1 (path l name).length ((path l name).map λr=>S r.name)/\Aa B w' J (Bc g room a c l N):=by
 refine gE 4 (hG g room a c l y name) ?_;intro w b;replace b:=b.Al 9 1;refine gG 1 (.lk [0,1] (σ:=Va×Int×List Ah) (λ(h,i,D) _m=>(5,h)::(6,Ab i)::_m) (λ(h,i,D) w=>path l name=D++kE l i/\-1<=i/\i<l.length/\Aa B w I (Ao 9 1 h D.length (D.map λr=>S r.name)::Bc g room a c l N)) (λ(h,i,D)=>(i+1).toNat) (.slice none 0 0,BE l name,[]) ⟨O,VX l name,oG l name,b⟩ ?_);rintro⟨h,i,D⟩ w ⟨d,L,M,b⟩;refine gM 2 ?_ ?_<;>intro e u
 ·obtain⟨q,rfl⟩:∃q:Nat,i=(q:Int):=⟨i.toNat,by simp at e;omega⟩
  obtain⟨r,m⟩:∃r,l[q]?=some r:=⟨_,Y2 om⟩
  obtain⟨p,rfl,hx⟩:=Vc b (k:=2) O q r m;have P:=(f.up q r m).2;have H:D.length<=l.length:=by have G:=nX f name;rw[d,Y0]at G;omega
  refine gH 8 (.val (o4 (.of O) (hx 1 _ O) Bq) O (gG 3 ?_));intro E C F j w b;obtain⟨R,t,hx⟩:=Vc b (k:=2) O q r m;cases t
  refine gH 8 (.val (o4 (.of O) (hx 2 _ O) Bq) O (gE 0 (hG g room (some p) c l y r.parent) ?_));intro w b;refine gG 1 ?_;refine Br (_,BE l r.parent,D++[r]) O ⟨by rw[d,Xx7 f m,Yg];rfl,VX l _,oG l _,?_⟩;rw[Y0,Yn];exact(b.x [2])
 refine gG 2 ?_;have o:i<0:=by simp at e;omega
 rw[SL l o,Yx]at d;subst d;obtain⟨ka,Q,rfl,s,_⟩:=b.vS 0;obtain⟨J,K,n,b⟩:=b.fV 0;exact⟨J,ka,Q,O,K,s,n,b⟩
theorem MX(l:List Ah)(r:Ah):CI (l++[r])=CI l++X5 r:=by unfold CI;simp
theorem xv{r:Ah}:∀{l:List Ah} {j:Nat},j<l.length->CI (l.set j r)=(CI l).take (j*10)++X5 r++(CI l).drop (j*10+10)
 | [],j,h=>Aw h sz
 | t::l,0,h=>by
  unfold CI;rw[List.set_cons_zero,Yw,Gg,Yw,Gg,oM (by exact Y9 10)];rfl
 | t::l,j+1,h=>by
  have a:=xv (r:=r) (l:=l) (j:=j) (su h);have e:∀l:List Ah,CI (t::l)=X5 t++CI l:=λl=>rfl
  rw[List.set_cons_succ,e,e,a,show(j+1)*10=(X5 t).length+j*10 by show(j+1)*10=10+j*10;omega,zi,vl,Y5q];simp only[Yg]
theorem fC(r:Ah):(X5 r).all Value.oneCell'=true:=rfl
theorem Xxj:∀(l:List Ah),(CI l).all Value.oneCell'=true
 | []=>rfl
 | r::l=>by
  show(X5 r++CI l).all Value.oneCell'=true
  rw[iR,fC,Xxj l];rfl
theorem Xjf(l:List Ah)(r:Ah):(put l r).length=l.length:=by
 unfold put;split
 ·rw[kW]
 ·rfl
def Hz(n:Int):Int:=max 0 (min n 64)
theorem Xhd(n:Int)(N:La)(a:Aa B w I N):
  Cz 55 [Ab n] w λv w'=>∃b,v=ptr b 0/\Aa B w' I (Bc b (Hz n) none 0 ([]:List Ah) N):=by
 refine gG 7 ?_;intro c w a;refine⟨_,O,?_⟩;exact(a.Al 160 10).pick 1 O
theorem tR(u:Nat)(room:Int)(a:Oa)(c:Nat)(l:List Ah)(S:l.length<=100000)(r:Ah)(V:r.name.length<=1000000)(W:r.parent.length<=1000000)(M:AJ I)(Q:AR I)(N:La)(b:Aa B w I (Ad u [Ab room,.slice a l.length c] 158::Ao 160 10 (.slice a l.length c) l.length (CI l)::N)):
  Ce B I (Ad u [Ab room,.slice a (put l r).length c] 158::Ao 160 10 (.slice a (put l r).length c) (put l r).length (CI (put l r))::N) 318 [ptr u 0,.agg (X5 r).toArray] w (Ab (FE l r:Nat)):=by
 refine gH 3 ?_;intro Y w b;refine gE 0 (wZ r V W M Q) ?_;intro w b;refine gM 1 ?_ ?_<;>intro i R
 ·refine gG 1 ?_;have f:Dh r=false:=su i
  have h:FE l r=1:=by rw[FE,Y7 f]
  have n:put l r=l:=by rw[put,Y3 (nB h)]
  rw[h,n];exact⟨O,b.s⟩
 refine gE 3 (hG u room a c l S _) ?_;intro w b;replace b:=b.px [2];refine gM 4 ?_ ?_<;>intro d H
 ·refine gG 1 ?_;have f:¬ Dh r=false:=su i
  have g:get l r.name=none:=by
   rcases Tr.get_at l r.name with⟨_,g⟩|⟨j,t,g,_⟩
   ·exact g
   ·exfalso;rw[g]at d;have:=of_decide_eq_true d;omega
  have h:FE l r=6:=by rw[FE,Y3 f,g]
  have n:put l r=l:=by rw[put,Y3 (nB h)]
  rw[h,n];exact⟨O,b.y 0 1⟩
 refine gG 0 ?_;obtain⟨j,t,K,C,q⟩:∃(j:Nat) (t:Ah),BE l r.name=(j:Int)/\l[j]?=some t/\get l r.name=some t:=by
  rcases Tr.get_at l r.name with⟨f,_⟩|⟨j,t,f,g,_,L⟩
  ·exfalso;rw[f]at d;simp at d
  ·exact⟨j,t,f,g,L⟩
 have z:=(Y1.1 C).1;obtain⟨p,rfl,_⟩:=Vc b (k:=2) O j t C;rw[K];refine gQ ?_;intro w b;refine gH 7 ?_;refine AN.y 7 (λw _ _ P b=>o4 (.of O) (by obtain⟨p9,A,hx⟩:=Vc b (k:=2) O j t C;cases A;exact hx 2 _ O) Bq) ?_;refine gM 4 ?_ ?_<;>intro m J
 ·refine gG 1 ?_;have f:¬ Dh r=false:=su i
  have g:t.parent≠r.parent:=su m
  have h:FE l r=8:=by rw[FE,Y3 f,q];exact Y7 g
  have n:put l r=l:=by rw[put,Y3 (nB h)]
  rw[h,n];exact⟨O,b.y 0 1⟩
 refine gG 0 ?_;obtain⟨Z,G,F,E,v,x,T,U,b⟩:=b.AF (k:=2) O om;injection E with o X D
 injection o with o
 subst o;subst D;try dsimp only[List.set]at b
 refine gD [0,0,0] [7] [0,1,2,3,4,5,6,7] ?_;intro w b;refine gH 7 (AN.e (.so b (k:=2) O O O O LG O (by simp only[Y0];omega) ?_));intro w b;try dsimp only[List.set]at b
 rw[Yl,oN om,oM om,<-Yg]at b;replace b:=b.py [0];replace b:=b.A1 (size:=10) (k:=1) O v x (by simp only[Y0,Yj,Y6,Y4,Yi];omega) (by simp only[Y0,Yj,Y6,Y4,Yi];omega);refine gG 1 ?_;have f:¬ Dh r=false:=su i
 have g:¬ t.parent≠r.parent:=su m
 have h:FE l r=0:=by rw[FE,Y3 f,q];exact Y3 g
 have n:put l r=l.set j r:=by rw[put,Y7 h,K];(try rw[Yh])
 rw[h,Xjf,n,xv z];exact⟨O,b⟩
theorem NL(o:Nat)(room:Int)(a:Oa)(c:Nat)(l:List Ah)(A:l.length<=100000)(r:Ah)(J:r.name.length<=1000000)(K:r.parent.length<=1000000)(E:AJ I)(F:AR I)(N:La)(b:Aa B w I (Ad o [Ab room,.slice a l.length c] 158::Ao 160 10 (.slice a l.length c) l.length (CI l)::N)):
  Cz 69 [ptr o 0,.agg (X5 r).toArray] w λv w'=>v=Ab (K0 room l r:Nat)/\∃a c,Aa B w' I (Ad o [Ab room,.slice a (add room l r).length c] 158::Ao 160 10 (.slice a (add room l r).length c) (add room l r).length (CI (add room l r))::N):=by
 refine gH 3 ?_;intro C w b;refine gE 0 (wZ r J K E F) ?_;intro w b;refine gM 2 ?_ ?_<;>intro f G
 ·refine gG 1 ?_;have d:K0 room l r=1:=by rw[K0,Y7 (su f)]
  have g:add room l r=l:=by rw[add,Y3 (nB d)]
  rw[d,g];exact⟨O,a,c,b.s⟩
 refine gE 3 (hG o room a c l A _) ?_;intro w b;refine gM 2 ?_ ?_<;>intro i H
 ·refine gG 1 ?_;have m:¬ Dh r=false:=su f
  have d:K0 room l r=7:=by rw[K0,Y3 m,Y7 (su i)]
  have g:add room l r=l:=by rw[add,Y3 (nB d)]
  rw[d,g];exact⟨O,a,c,b.s⟩
 refine gH 7 (.AA (T:=λw=>Aa B w I (Ad o [Ab room,.slice a l.length c] 158::Ao 160 10 (.slice a l.length c) l.length (CI l)::Ad C [Ab r.kind,S r.name,S r.parent,S r.user,S r.service,S r.url,Ab r.made,Ab r.used,Ab r.A4,.bool r.fresh] 160::N)) O O O func124 O (λn=>(X4 (.gd n O) (X4 (.gd n O) X3))) O (λn=>hG o room a c l A r.parent _ b) b ?_);clear b;rintro w b;refine gM 3 ?_ ?_<;>intro q k
 ·refine gG 1 ?_;have m:¬ Dh r=false:=su f
  have p:¬ 0<=BE l r.name:=su i
  have d:K0 room l r=6:=by rw[K0,Y3 m,Y3 p,Y7 (su q)]
  have g:add room l r=l:=by rw[add,Y3 (nB d)]
  rw[d,g];exact⟨O,a,c,b.s⟩
 refine gG 0 (gQ ?_);intro w b;refine gM 11 ?_ ?_<;>intro j z
 ·refine gG 1 ?_;have m:¬ Dh r=false:=su f
  have p:¬ 0<=BE l r.name:=su i
  have y:¬ (r.parent≠[]/\BE l r.parent<0):=λh=>by
   rcases k with e|e
   ·exact h.1 e
   ·omega
  have d:K0 room l r=5:=by rw[K0,Y3 m,Y3 p,Y3 y,Y7 (su j)]
  have g:add room l r=l:=by rw[add,Y3 (nB d)]
  rw[d,g];exact⟨O,a,c,b.s⟩
 refine gG 0 (gD [2,0] [10] [0,1,2,3,4,5,6,7,8,9,10] ?_);intro w b;refine gH 7 ?_;intro D w b;refine gH 1 ?_;intro u x t w b;refine gH 3 ?_;intro w b;refine gG 1 ?_;have m:¬ Dh r=false:=su f
 have p:¬ 0<=BE l r.name:=su i
 have y:¬ (r.parent≠[]/\BE l r.parent<0):=λh=>by
  rcases k with e|e
  ·exact h.1 e
  ·omega
 have d:K0 room l r=0:=by rw[K0,Y3 m,Y3 p,Y3 y,Y3 (su j)]
 have g:add room l r=l++[r]:=by rw[add,Y7 d]
 rw[d,g];refine⟨O,u,x,?_⟩;rw[MX,Y0];exact b.s
theorem wq(a:Oa)(c:Nat)(l:List Ah)(t:l.length<=100000)(N:La)(d:Aa B w I (Ao 160 10 (.slice a l.length c) l.length (CI l)::N)):
  Cz 171 [.slice a l.length c] w λv w'=>∃f,v=f/\Aa B w' I (Ao 160 10 f l.length (CI l)::Ao 160 10 (.slice a l.length c) l.length (CI l)::N):=by
 refine gH 2 (.val (Ex.Fp (.of O) (.of O) ke) O ?_);refine gM 0 ?_ ?_<;>intro e m
 ·refine gG 1 ?_;cases a with
  | some p=>simp at e
  | none =>
  have g:l=[]:=d.CX (k:=0) O λ_ ⟨_,n⟩=>by
   rcases n with⟨_,h,_⟩|⟨b,cap,r,o,_⟩
   ·exact Yc h
   ·cases o
  subst g;exact⟨.slice none 0 0,O,d.Al 160 10⟩
 refine gH 2 ?_;intro s w d;replace d:=d.BB (k:=0) (size:=10) O O (Y5 _);refine .FU (bytes:=120) d (.of O) (.of O) (k:=0) (j:=1) O O ke (i:=t160) kr O O O O (Xxj l) ⟨om,by unfold maxLen;omega⟩ O ?_;intro q w d;rw[Yl,CS]at d;exact gG 1 ⟨q,O,d⟩
theorem Xf1(h:Nat)(room:Int)(a:Oa)(c:Nat)(l:List Ah)(j:l.length<=100000)(N:La)(b:Aa B w I (Bc h room a c l N)):
  Cz 165 [ptr h 0] w λv w'=>∃J d e,v=.slice d l.length e/\Le I J/\l.length<=e/\RS J d 10 l.length (CI l)/\Aa B w' J (Bc h room a c l N):=by
 refine gF 5 (wq a c l j) ?_;rintro _ w ⟨k,rfl,b⟩;refine gG 1 ?_;obtain⟨d,e,rfl,g,_⟩:=b.vS 0;obtain⟨J,i,f,b⟩:=b.fV 0;exact⟨J,d,e,O,i,g,f,b.x [1]⟩
def uF(n a:Int):Bool:=a==0||decide (n<a)
def W_(a:Int):Bool:=a==1||a==4
def Kv(ps:List Int)(r:Ah)(now:Int):Bool:=decide (1<=r.kind)&&decide (r.kind<=6)&&(uF (now-r.made) (ps.getD r.kind.toNat 0)&&uF (now-r.used) (ps.getD (7+r.kind.toNat) 0)&&uF r.A4 (ps.getD (14+r.kind.toNat) 0))
def QS(r:Ah)(now:Int):Ah:={ r with A4:=min (r.A4+1) 255,used:=max r.used now }
theorem w5(n a:Int)(w:Wo):
  Cz 266 [Ab n,Ab a] w λv w'=>v=.bool (uF n a)/\w=w':=by
 exact gG 9 ⟨O,O⟩
theorem R4(a:Int)(w:Wo):
  Cz 403 [Ab a] w λv w'=>v=.bool (W_ a)/\w=w':=by
 exact gG 8 ⟨O,O⟩
theorem w2(r:Ah)(now:Int)(e:0<=r.A4)(b:r.A4<=255)(N:La)(a:Aa B w I N):
  Ce B I N 319 [.agg (X5 r).toArray,Ab now] w (.agg (X5 (QS r now)).toArray):=by
 refine gH 14 ?_;intro c d w a;refine gH 2 ?_;intro w a;exact gG 0 ⟨O,a.s⟩
theorem Ex.Gi{t:TypeId}{g:Option (Nat×Bool)}{x y:Operand}{s:Nat}{e:TypeId}{i:Int}{q:IntKind}(hx:Ev n L x (ptr b o))(j:Ev n L y (.int q i))(hi:0<=i)(a:i<(m:Int))(f:P.underlying t=some (.array m e))(c:∀w,(Go.sizeOf e).run P w=.ok s w):
  Ex P n L w ⟨d,.indexAddr t x y,ty,pos,af,g⟩ (ptr b (o+i.toNat*s)) w:=by
 have h:=Ex.Dz (P:=P) (w:=w) (d:=d) (ty:=ty) (pos:=pos) (af:=af) (g:=g) hx j hi a f c;rw[show(⟨b,o,none⟩:Addr).add (i.toNat*s)=⟨b,o+i.toNat*s,none⟩ from C7 b o _]at h;exact h
theorem yV{ps:List Int}(a:ps.length=21)(e:o=k)(h:k<21):(ps.map Ab)[o]?=some (Ab (ps.getD k 0)):=by
 subst e;rw[Yu,Ya,Y2 om];rfl
theorem Xur(ps:List Int)(c:ps.length=21)(r:Ah)(now:Int)(j:0<=r.made/\r.made<=1099511627776)(m:0<=r.used/\r.used<=1099511627776)(l:0<=now/\now<=1099511627776)(N:La)(b:Aa B w I N):
  Ce B I N 163 [.agg (ps.map Ab).toArray,.agg (X5 r).toArray,Ab now] w (.bool (Kv ps r now)):=by
 refine gG 11 ?_;intro g h w b;refine gN 0 ?_ ?_<;>intro d
 ·refine gG 1 (⟨Ye Value.bool ?_,b.s⟩)
  have:(decide (1<=r.kind)&&decide (r.kind<=6))=false:=by
   rcases d with e|e
   ·rw[decide_eq_false om];rfl
   ·rw[decide_eq_false (p:=r.kind<=6) om,b_]
  rw[Kv,this];rfl
 have f:1<=r.kind/\r.kind<=6:=om
 refine gG 0 (.qt b (.val (λw b=>(.mo O)) O ?_));refine .val (λw b=>(by exact .fo 6 O F6 O O Bg O)) O ?_;refine .val (λw b=>(by exact(.lo O b (k:=0) O BP O))) O ?_;refine .val (λw b=>(.sub (.of O) (.of O) ⟨om,om⟩)) O (.val (λw b=>(by exact .fo 0 O F6 O O Bg O)) O ?_);refine .val (λw b=>(by exact(.lo O b (k:=0) O BP O))) O ?_;refine .val (λw b=>(by exact .fo 0 O Ls O O Qv O)) O ?_;refine .val (λw b=>(Ex.Gi (i:=r.kind) (.of O) (.of O) om om Lr Bg)) O (.val (λw b=>(.lo O b (k:=1) O BP (yV c (k:=r.kind.toNat) om om))) O (.call func266 O (AM O (AM O X3)) O (λw b=>QK (w5 _ _ w) b) (.val (λw b=>(.mo O)) O (.Am O O O (λa w b=>(.mo O)) O ?_))));refine .Am O O O (λa w b=>(by exact .fo 7 O F6 O O Bg O)) O ?_;refine .Am O O O (λa w b=>(by exact(.ld (.gd a O) b (k:=0) O BP O))) O ?_;refine .Am O O O (λa w b=>(.sub (.gd a O) (.gd a O) ⟨om,om⟩)) O (.Am O O O (λa w b=>(by exact .fo 0 O F6 O O Bg O)) O ?_);refine .Am O O O (λa w b=>(by exact(.ld (.gd a O) b (k:=0) O BP O))) O ?_;refine .Am O O O (λa w b=>(by exact .fo 7 O Ls O O Qv O)) O ?_;refine .Am O O O (λa w b=>(Ex.Gi (i:=r.kind) (.gd a O) (.gd a O) om om Lr Bg)) O (.Am O O O (λa w b=>(.ld (.gd a O) b (k:=1) O BP (yV c (k:=7+r.kind.toNat) om om))) O (.AA O O O func266 O (λa=>(X4 (.gd a O) (X4 (.gd a O) X3))) O (λa w b=>QK (w5 _ _ w) b) (.val (λw b=>(.pa O O O)) O (.val (λw b=>(.mo O)) O ?_))));refine .Am O O O (λa w b=>(by exact .fo 8 O F6 O O Bg O)) O ?_;refine .Am O O O (λa w b=>(by exact(.ld (.gd a O) b (k:=0) O BP O))) O ?_;refine .Am O O O (λa w b=>(by exact .fo 0 O F6 O O Bg O)) O ?_;refine .Am O O O (λa w b=>(by exact(.ld (.gd a O) b (k:=0) O BP O))) O ?_;refine .Am O O O (λa w b=>(by exact .fo 14 O Ls O O Qv O)) O ?_;refine .Am O O O (λa w b=>(Ex.Gi (i:=r.kind) (.gd a O) (.gd a O) om om Lr Bg)) O (.Am O O O (λa w b=>(.ld (.gd a O) b (k:=1) O BP (yV c (k:=14+r.kind.toNat) om om))) O (.AA O O O func266 O (λa=>(X4 (.gd a O) (X4 (.gd a O) X3))) O (λa w b=>QK (w5 _ _ w) b) (.val (λw b=>(.pa O O O)) O (.val (λw b=>(.ao O)) O (.nil ?_)))));intro w b;refine gG 0 (⟨Ye Value.bool ?_,b.s⟩);rw[Kv,decide_eq_true f.1,decide_eq_true f.2];rfl
def dR(ps:List Int)(name:Lu)(now:Int)(r:Ah):Bool:=((r.name==name)||W_ r.kind)&&!Kv ps r now
def qn(ps:List Int)(l:List Ah)(name:Lu)(now:Int):Bool:=!(path l name).any (dR ps name now)&&decide (0<(path l name).length)
theorem Xpv(l:List Ah):∀(f:Nat) (i:Int) (r:Ah),r∈LK l f i->∃j:Nat,l[j]?=some r
 | 0,_,r,h=>by simp[LK]at h
 | f+1,i,r,h=>by
  rw[LK]at h;split at h
  ·simp at h
  ·split at h
   ·rename_i t a
    rcases Ys.1 h with e|e
    ·subst e;exact⟨_,a⟩
    ·exact Xpv l f _ r e
   ·simp at h
theorem tJ{l:List Ah}{name:Lu}{r:Ah}(h:r∈path l name):∃j:Nat,l[j]?=some r:=Xpv l _ _ r h
theorem wh{r:Ah}(h:Dh r=true):(0<=r.made/\r.made<=1099511627776)/\(0<=r.used/\r.used<=1099511627776)/\0<=r.A4/\r.A4<=255:=by
 unfold Dh at h;simp only[Yb,decide_eq_true_eq]at h
 omega
theorem Xzm(m:Nat)(room:Int)(a:Oa)(c:Nat)(l:List Ah)(R:l.length<=100000)(f:Wf l)(ps:List Int)(x:ps.length=21)(name:Lu)(now:Int)(X:0<=now/\now<=1099511627776)(N:La)(b:Aa B w I (Bc m room a c l N)):
  Cz 346 [ptr m 0,.agg (ps.map Ab).toArray,S name,Ab now] w λv w'=>∃J,Le I J/\v=.bool (qn ps l name now)/\Aa B w' J (Bc m room a c l N):=by
 refine gH 4 ?_;intro A w b;refine gF 0 (xN m room a c l R f _) ?_;rintro _ w ⟨J,pa,pc,rfl,M,Y,C,b⟩;have Z:=nX f name;refine gG 4 (.lk [0,2,3,5,9,17,18] (σ:=Nat) (λi _m=>(19,Ab (i:Nat))::_m) (λi w=>i<=(path l name).length/\(∀(j:Nat) r,j<i->(path l name)[j]?=some r->dR ps name now r=false)/\Aa B w J (Bc m room a c l (Ad A (ps.map Ab) 26::N))) (λi=>(path l name).length-i) 0 ⟨Y5 _,λ_ _ h=>Aw h om,b⟩ ?_);rintro i w ⟨hi,u,b⟩;refine gN 1 ?_ ?_<;>intro P
 ·obtain⟨r,n⟩:∃r,(path l name)[i]?=some r:=⟨_,Y2 om⟩
  obtain⟨q,U⟩:=tJ (Y8 n);have D:getD l r.name=r:=by rw[getD,f.rf U];rfl
  obtain⟨H,K,_⟩:=wh (f.right r (Y8 U));obtain⟨p,rfl,W⟩:=C.2 om;have F:((path l name).map λr=>S r.name)[i]?=some (S r.name):=by rw[Yu,n];rfl
  refine gH 1 ?_;refine .val (o4 (.of O) (by have V:=JH b W F;simpa using V) Bq) O ?_;refine gP 3 [] (Fx m _ _ c l R _ _) ?_;rintro _ w ⟨rfl,b⟩;rw[D];refine gH 12 ?_;intro o w b;refine .AA (T:=λw=>Aa B w J (Ad o [Ab r.kind,S r.name,S r.parent,S r.user,S r.service,S r.url,Ab r.made,Ab r.used,Ab r.A4,.bool r.fresh] 160::Bc m room a c l (Ad A (ps.map Ab) 26::N))) O O O func403 O (λd=>(X4 (.gd d O) X3)) O (λd=>QK (R4 _ w) b) b ?_;clear b;rintro w b;refine gH 2 ?_;refine .Am O O (λd=>(.D6 (.of O) b (k:=3) O Qp H3 (by rw[Ym];exact x) (λj v z=>by rw[Yl];exact z))) O ?_;refine gH 2 (.AA (T:=λw=>Aa B w J (Ad o [Ab r.kind,S r.name,S r.parent,S r.user,S r.service,S r.url,Ab r.made,Ab r.used,Ab r.A4,.bool r.fresh] 160::Bc m room a c l (Ad A (ps.map Ab) 26::N))) O O O func163 O (λd=>(X4 (.gd d O) (X4 (.gd d O) (X4 (.gd d O) X3)))) O (λd=>Xur ps x r now H K X _ b) b ?_);clear b;rintro w b;refine gM 2 ?_ ?_<;>intro g Q
  ·refine gG 1 (⟨J,M,Ye Value.bool ?_,b.s⟩)
   have:(path l name).any (dR ps name now)=true:=vg.2 ⟨r,Y8 n,g⟩
   rw[qn,this];rfl
  refine gG 2 (rd (i+1) ⟨om,λj t z G=>?_,b.y 0 1⟩);rcases Yz j i with L|L
  ·exact u j t L G
  ·have e:j=i:=om
   subst e;rw[n]at G;cases G;exact g
 refine gG 4 (⟨J,M,Ye Value.bool ?_,b.s⟩)
 have:(path l name).any (dR ps name now)=false:=by
  rw[zx];intro r n;obtain⟨j,z,E⟩:=u6 n;rw[u j r om (by rw[Y2 z,E])];decide
 rw[qn,this]
 simp
def rA(c:Ui):Bool:=(decide ((97:Int)<=(c.toNat:Int))&&decide ((c.toNat:Int)<=122))||(decide ((65:Int)<=(c.toNat:Int))&&decide ((c.toNat:Int)<=90))
def qj(s:Lu)(lo a b:Int):Bool:=(s.all λc=>!(decide ((c.toNat:Int)<lo)||decide ((126:Int)<(c.toNat:Int))))&&(decide (a<=(s.length:Int))&&decide ((s.length:Int)<=b))
theorem Mv(c:Ui)(w:Wo):
  Cz 286 [U8 c.toNat] w λv w'=>v=.bool (rA c)/\w=w':=by
 refine gH 14 ?_;exact gG 2 ⟨O,O⟩
theorem Xjw(s:Lu)(lo a d:Int)(q:s.length<=9223372036854775807)(N:La)(f:Aa B w I N):
  Ce B I N 196 [S s,.int .u8 lo,Ab a,Ab d] w (.bool (qj s lo a d)):=by
 refine gG 4 (.lk [0,1,2,3,11] (σ:=Nat) (λi _m=>(12,Ab (i:Nat))::_m) (λi w=>i<=s.length/\(∀(j:Nat) c,j<i->s[j]?=some c->(decide ((c.toNat:Int)<lo)||decide ((126:Int)<(c.toNat:Int)))=false)/\Aa B w I N) (λi=>s.length-i) 0 ⟨Y5 _,λ_ _ h=>Aw h om,f⟩ ?_);rintro i w ⟨hi,k,f⟩;refine gN 1 ?_ ?_<;>intro n
 ·refine gM 13 ?_ ?_<;>intro b o
  ·refine gG 1 (⟨Ye Value.bool ?_,f⟩)
   have:(s.all λc=>!(decide ((c.toNat:Int)<lo)||decide ((126:Int)<(c.toNat:Int))))=false:=by
    rw[kR];exact⟨_,Y8 (LA (show i<s.length by omega)),by rw[b];decide⟩
   rw[qj,this];rfl
  refine gG 2 (rd (i+1) ⟨om,λj c p g=>?_,f⟩);rcases Yz j i with m|m
  ·exact k j c m g
  ·have e:j=i:=om
   subst e;rw[LA (show j<s.length by omega)]at g;cases g;exact b
 refine gG 11 (⟨Ye Value.bool ?_,f⟩)
 have:(s.all λc=>!(decide ((c.toNat:Int)<lo)||decide ((126:Int)<(c.toNat:Int))))=true:=by
  rw[Dy];intro c g;obtain⟨j,p,l⟩:=u6 g;rw[k j c om (by rw[Y2 p,l])];rfl
 rw[qj,this];rfl
end Go.Proofs.W9
namespace Tr
open Tk
inductive Ly(l:List Ah)(k:List UInt8):List UInt8->Prop
 | self:Ly l k k
 | step {i:Nat} {r:Ah} (hr:l[i]?=some r) (h:Ly l k r.parent):Ly l k r.name
theorem Ly.trans{l:List Ah}{a b c:Lu}(h:Ly l a b)(k:Ly l b c):Ly l a c:=by
 induction k with
 | self=>exact h
 | step d _ e=>exact .step d e
theorem tH{l:List Ah}{name x:Lu}(h:x∈kids l name):name≠[]/\∃(i:Nat) (r:Ah),l[i]?=some r/\r.parent=name/\r.name=x:=by
 unfold kids HP at h;obtain⟨r,d,hx⟩:=Dj.1 h;obtain⟨b,a⟩:=Ik.1 d;simp only[Yb,decide_eq_true_eq]at a
 obtain⟨i,hi,c⟩:=u6 b;exact⟨a.1,i,r,by rw[Y2 hi,c],a.2,hx⟩
theorem uj{l:List Ah}(c:Wf l){name k:Lu}(h:k∈kids l name):BE l name<BE l k/\0<=BE l k/\0<=BE l name:=by
 obtain⟨d,i,r,b,j,g⟩:=tH h;have a:=(c.up i r b)
 have f:=c.at_ b;subst j;subst g;rcases a.1 with e|e
 ·exact Aw e d
 ·rw[f];exact⟨a.2,om,e⟩
theorem sX{l:List Ah}:∀(n:Nat) (name x:Lu),x∈Dg l n name->Ly l name x
 | 0,_,_,h=>by simp[Dg]at h
 | n+1,name,x,h=>by
  rw[Dg,Ys]at h;rcases h with e|h
  ·subst e;exact .self
  ·obtain⟨k,a,hx⟩:=kT.1 h;obtain⟨_,i,r,d,c,b⟩:=tH a;subst c;subst b;exact(Ly.step d .self).trans (sX n _ _ hx)
theorem aK{l:List Ah}(c:Wf l){k x:Lu}(h:Ly l k x):k=x\/BE l k<BE l x:=by
 induction h with
 | self=>exact .inl O
 | step b _ d =>
  have a:=(c.up _ _ b).2;rw[c.at_ b];rcases d with e|e
  ·rw[<-e]at a;exact .inr a
  ·exact .inr om
theorem gg{l:List Ah}(j:Wf l){a b x:Lu}(h:Ly l a x):Ly l b x->Ly l a b\/Ly l b a:=by
 induction h with
 | self=>exact λk=>.inr k
 | @step i r c h m =>
  intro k;generalize f:r.name=y at k;cases k with
  | self=>rw[<-f];exact .inl (.step c h)
  | step d g =>
   have e:=j.one _ _ _ _ c d f;subst e;rw[c]at d;cases d
   exact m g
theorem Mr{l:List Ah}(d:Wf l)(name:Lu):(kids l name).Nodup:=by
 unfold kids HP;have b:(l.map Ah.name).Nodup:=by
  rw[List.Nodup,uZ];intro i j hi a c e;simp only[Ym]at hi a
  simp only[oV]at e
  have:=d.one i j l[i] l[j] (Y2 hi) (Y2 a) e
  omega
 exact b.sublist ((u5 (l:=l)).map Ah.name)
theorem vW{l:List Ah}(c:Wf l):∀(n:Nat) (name:Lu),(Dg l n name).Nodup
 | 0,_=>by simp[Dg]
 | n+1,name=>by
  rw[Dg,VD];constructor
  ·intro h;obtain⟨k,w,hx⟩:=kT.1 h;have f:=uj c w;rcases aK c (sX n k name hx)with e|e
   ·rw[e]at f;omega
   ·omega
  ·rw[List.Nodup,List.pairwise_flatMap];refine⟨λk _=>vW c n k,?_⟩;refine List.Pairwise.imp_of_mem ?_ (Mr c name);intro a b t u d x hx y C e;subst e;have key:∀{p q:Lu},p∈kids l name->q∈kids l name->p≠q->Ly l p q->False:=by
    intro p q z A g B;cases B with
    | self=>exact g O
    | step v h =>
     rename_i r
     obtain⟨_,i,s,j,o,m⟩:=tH A;have e:=c.one _ _ _ _ v j m.symm;subst e;rw[v]at j;cases j
     rw[o]at h;have f:=uj c z;rcases aK c h with e|e
     ·rw[e]at f;omega
     ·omega
   rcases gg c (sX n a x hx) (sX n b x C)with h|h
   ·exact key t u d h
   ·exact key u t (Ne.symm d) h
theorem wC{l:List Ah}:∀(n:Nat) (name x:Lu),x∈Dg l n name->x=name\/∃r∈l,r.name=x
 | 0,_,_,h=>by simp[Dg]at h
 | n+1,name,x,h=>by
  rw[Dg,Ys]at h;rcases h with e|h
  ·exact .inl e
  ·obtain⟨k,a,hx⟩:=kT.1 h;obtain⟨_,i,r,c,d,b⟩:=tH a;rcases wC n k x hx with e|e
   ·exact .inr ⟨r,Y8 c,by rw[b,e]⟩
   ·exact .inr e
theorem xo{α:Type}[DecidableEq α]:∀(a b:List α),a.Nodup->(∀x∈a,x∈b)->a.length<=b.length
 | [],_,_,_=>Y5 _
 | x::a,b,c,d=>by
  rw[VD]at c;have hx:x∈b:=d x sz;have g:=xo a (b.erase x) c.2 (λy f=>(List.mem_erase_of_ne (by intro e;subst e;exact c.1 f)).2 (d y (by simp[f])));rw[List.length_erase_of_mem hx]at g
  have:=Y6k hx
  rw[Y4];omega
theorem Rh{l:List Ah}(b:Wf l)(n:Nat)(name:Lu):(Dg l n name).length<=l.length+1:=by
 have h:=xo (Dg l n name) (name::l.map Ah.name) (vW b n name) (λx hx=>by
  rcases wC n name x hx with e|⟨r,a,e⟩
  ·simp[e]
  ·exact Q8 _ (Dj.2 ⟨r,a,e⟩))
 simpa using h
theorem Xf4{l:List Ah}(a:Wf l):∀(n m:Nat) (name:Lu),0<=BE l name->(l.length:Int)-BE l name<=n->(l.length:Int)-BE l name<=m->Dg l n name=Dg l m name
 | 0,_,name,_,h,_=>by have:=oG l name;omega
 | _+1,0,name,_,_,h=>by have:=oG l name;omega
 | n+1,m+1,name,c,e,d=>by
  rw[Dg,Dg]
  congr 1
  rw[List.flatMap_def,List.flatMap_def]
  congr 1
  refine zq λk b=>?_
  have:=uj a b
  exact Xf4 a n m k this.2.1 om om
theorem xS{l:List Ah}(d:Wf l)(name:Lu):(below l name).length<=l.length:=by
 unfold below;split
 ·rename_i f
  have h:=xo (Dg l l.length name) (l.map Ah.name) (vW d _ name) (λx hx=>by
   rcases wC _ name x hx with e|⟨r,c,e⟩
   ·rcases Vd l name with⟨g,_⟩|⟨j,r,_,a,b,_⟩
    ·omega
    ·exact Dj.2 ⟨r,Y8 a,by rw[b,e]⟩
   ·exact Dj.2 ⟨r,c,e⟩)
  simpa using h
 ·simp
theorem Xin{l:List Ah}{i:Nat}{r:Ah}(b:l[i]?=some r)(a:r.parent≠[]):∀(n:Nat) (name:Lu),r.parent∈Dg l n name->r.name∈Dg l (n+1) name
 | 0,_,h=>by simp[Dg]at h
 | n+1,name,h=>by
  rw[Dg,Ys]at h ⊢;refine .inr (kT.2 ?_);rcases h with e|h
  ·refine⟨r.name,?_,by rw[Dg];simp⟩;unfold kids HP;exact Dj.2 ⟨r,Ik.2 ⟨Y8 b,by simp[<-e,a]⟩,O⟩
  ·obtain⟨k,c,hx⟩:=kT.1 h;exact⟨k,c,Xin b a n k hx⟩
theorem V6{l:List Ah}(d:Wf l){name:Lu}{r:Ah}(c:l[i]?=some r)(b:r.parent≠[])(h:r.parent∈below l name):r.name∈below l name:=by
 unfold below at h ⊢;split at h
 ·rename_i a
  rw[Y7 a,Xf4 d l.length (l.length+1) name a om om];exact Xin c b _ _ h
 ·simp at h
theorem Wf.names{l:List Ah}(c:Wf l):(l.map Ah.name).Nodup:=by
 rw[List.Nodup,uZ];intro i j hi a b e;simp only[Ym]at hi a
 simp only[oV]at e
 have:=c.one i j l[i] l[j] (Y2 hi) (Y2 a) e
 omega
theorem Wf.split{l:List Ah}(g:Wf l){xs i:List Ah}{r:Ah}(h:l=xs++r::i):r.parent=[]\/∃t∈xs,t.name=r.parent:=by
 have f:l[xs.length]?=some r:=by rw[h];simp
 obtain⟨b,k⟩:=g.up _ _ f;rcases b with e|e
 ·exact .inl e
 ·rcases Vd l r.parent with⟨c,_⟩|⟨j,t,c,a,d,_⟩
  ·omega
  ·refine .inr ⟨t,?_,d⟩;rw[h,Yf om]at a;exact Y8 a
theorem Wf.of{l:List Ah}(m:∀r∈l,Dh r=true)(f:(l.map Ah.name).Nodup)(v:∀xs r A,l=xs++r::A->r.parent=[]\/∃t∈xs,t.name=r.parent):Wf l:=by
 refine⟨m,λi j r s g y e=>?_,λi r g=>?_⟩
 ·rw[List.Nodup,uZ]at f;obtain⟨hi,a⟩:=Y1.1 g;obtain⟨d,b⟩:=Y1.1 y;rcases Nat.lt_trichotomy i j with h|h|h
  ·exact Aw (by rw[oV,oV,a,b,e]) (f i j (su hi) (su d) h)
  ·exact h
  ·exact Aw (by rw[oV,oV,a,b,e]) (f j i (su d) (su hi) h)
 ·obtain⟨hi,a⟩:=Y1.1 g;have k:l=l.take i++r::l.drop (i+1):=by
   rw[<-a,<-Yq hi];exact(FA i l).symm
  rcases v _ _ _ k with e|⟨t,z,e⟩
  ·refine⟨.inl e,?_⟩;rcases Vd l r.parent with⟨n,_⟩|⟨j,t,n,c,o,_⟩
   ·omega
   ·exact Aw (o.trans e) (wR (m t (Y8 c)))
  ·obtain⟨j,d,b⟩:=u6 z;rw[Yj]at d;have p:l[j]?=some t:=by rw[<-b,List.getElem_take];exact Y2 om
   rcases Vd l r.parent with⟨_,c⟩|⟨q,u,n,c,o,w⟩
   ·exact Aw e (c t (Y8 p))
   ·have:q<=j:=Nat.le_of_not_lt λx=>w j t x p e
    exact⟨.inr om,om⟩
theorem Wf.drop{l:List Ah}(c:Wf l)(name:Lu):Wf (drop l name):=by
 refine Wf.of (λr d=>c.right r (Ik.1 d).1) (c.names.sublist (u5.map Ah.name)) λxs r x h=>?_
 obtain⟨j,w,m,n,o⟩:=List.filter_eq_append_iff.1 h;obtain⟨k,m2,p,q,f,_⟩:=List.filter_eq_cons_iff.1 o;have b:l=(j++k)++r::m2:=by rw[m,p,Yg]
 have d:l[(j++k).length]?=some r:=by rw[b];simp
 rcases c.split b with e|⟨t,v,e⟩
 ·exact .inl e
 ·by_cases g:r.parent=[]
  ·exact .inl g
  ·refine .inr ⟨t,?_,e⟩;have i:((below l name).contains t.name)=false:=by
    cases u:(below l name).contains t.name with
    | false=>rfl
    | true =>
     have a:=V6 c d g (by rw[<-e];simpa using u);have s:(below l name).contains r.name=true:=su a
     rw[s]at f;cases f
   rcases Yt.1 v with a|a
   ·rw[<-n];exact Ik.2 ⟨a,by rw[i];rfl⟩
   ·exact Aw (by rw[i];rfl) (q t a)
theorem Wu(l:List Ah)(name:Lu):(drop l name).Sublist l:=u5
end Tr
namespace Go.Proofs.W9
open Gk Ul Pc Tk Tr
open Tryz
theorem Xz8(q:Nat)(room:Int)(a:Oa)(c:Nat)(l:List Ah)(X:l.length<=100000)(D:Wf l)(f g h:Nat)(N:La):∀(n:Nat) (name:Lu) (b:List Lu) (v:Va) (B w:Wo) (I:Im) (F:0<=BE l name) (H:(l.length:Int)-BE l name<=n) (o:b.length+(Dg l n name).length<=1000000) (d:Aa B w I (Ad f [v] 34::Ao 9 1 (v) (b).length ((b).map S)::Ad g [ptr q 0] 108::Ad h [.func (.func 268) #[] #[ptr f 0,ptr g 0,ptr h 0]] 385::Bc q room a c l N)),
  Calls prog 268 #[S name,ptr f 0,ptr g 0,ptr h 0] w (AY λ_ w'=>∃J K,Le I J/\Aa B w' J (Ad f [K] 34::Ao 9 1 (K) ((b++Dg l n name)).length (((b++Dg l n name)).map S)::Ad g [ptr q 0] 108::Ad h [.func (.func 268) #[] #[ptr f 0,ptr g 0,ptr h 0]] 385::Bc q room a c l N)):=by
 intro n
 induction n with
 | zero=>intro name b v B w I F H;have:=oG l name;omega
 | succ n Z =>
  intro name b v B w I F H o d;have r:=o;rw[Dg,Y4]at r;refine gH 7 ?_;intro b9 M P s w d;refine gF 0 (xM q room a c l X _) ?_;rintro _ w ⟨J,ra,rc,rfl,U,Y,y,d⟩;have W:=yM l name;replace d:=d.px [5,5,5,5];refine gG 2 (.lk [1,2,3,13,14] (σ:=Nat×Va×Im) (λ(i,v,j) _m=>(15,Ab (i:Nat))::_m) (λ(i,v,j) w=>i<=(kids l name).length/\Le J j/\Aa B w j (Ad f [v] 34::Ao 9 1 (v) ((b++name::((kids l name).take i).flatMap (Dg l n))).length (((b++name::((kids l name).take i).flatMap (Dg l n))).map S)::Ad g [ptr q 0] 108::Ad h [.func (.func 268) #[] #[ptr f 0,ptr g 0,ptr h 0]] 385::Bc q room a c l N)) (λ(i,v,j)=>(kids l name).length-i) (0,_,J) ⟨Y5 _,Le.refl _,su d⟩ ?_);rintro⟨i,v,j⟩ w ⟨hi,m,d⟩;refine gN 1 ?_ ?_<;>intro G
  ·obtain⟨k,t⟩:∃k,(kids l name)[i]?=some k:=⟨_,Y2 om⟩
   have A:=uj D (Y8 t);have C:((kids l name).map S)[i]?=some (S k):=by rw[Yu,t];rfl
   have V:(((kids l name).take i).flatMap (Dg l n)).length+(Dg l n k).length<=((kids l name).flatMap (Dg l n)).length:=by
    have e:=FA i (kids l name);have E:=Yq (l:=kids l name) (i:=i) om;rw[(Y1.1 t).2]at E;rw[E]at e;have Q:=Ye (λx=>(List.flatMap (Dg l n) x).length) e;simp only[OC,dA,Y0]at Q
    omega
   obtain⟨p,rfl,T⟩:=y.2 om;refine gH 1 ?_;refine .val (o4 (.of O) (by have R:=JH d (T.mono m) C;simpa using R) Bq) O ?_;refine gH 3 (.Bu (cap:=[ptr f 0,ptr g 0,ptr h 0]) func268 O (.of O) (AM O X3) O (Z k (b++name::((kids l name).take i).flatMap (Dg l n)) v B w j A.2.1 om (by simp only[Y0,Y4,Dg]at o ⊢;omega) d) ?_);rintro _ w ⟨L,v3,u,d⟩;refine gG 2 (rd (i+1,v3,L) ⟨om,m.trans u,?_⟩);rw[Yv,t,DO,OC,dA,List.flatMap_nil,Yx,<-DV,<-Yg];exact d
  refine gG 0 ?_;have z:i=(kids l name).length:=om
  subst z;rw[GK]at d;exact⟨j,v,U.trans m,d⟩
theorem Xn7(i:Nat)(room:Int)(a:Oa)(c:Nat)(l:List Ah)(r:l.length<=100000)(g:Wf l)(name:Lu)(N:La)(b:Aa B w I (Bc i room a c l N)):
  Cz 169 [ptr i 0,S name] w λv w'=>∃J t u,v=.slice t (below l name).length u/\Le I J/\(below l name).length<=u/\RS J t 1 (below l name).length ((below l name).map S)/\Aa B w' J (Bc i room a c l N):=by
 refine gH 8 ?_;intro n o p w b;refine gE 0 (hG i room a c l r _) ?_;intro w b;replace b:=b.px [4,4,4];refine gM 1 ?_ ?_<;>intro d q
 ·replace b:=(((b.Al 9 1).pick 1 O).pick 3 O)
  have e:=(b.pick 2 O).pick 3 O;try dsimp only[List.eraseIdx]at e
  have b:=e;clear e;refine gH 2 ?_;refine .Bu (cap:=[ptr o 0,ptr n 0,ptr p 0]) func268 O (.of O) (AM O X3) O (Xz8 i room a c l r g o n p N l.length name [] _ B w I (su d) om (by have:=Rh g l.length name;simp only[Yi];omega) b) ?_;rintro _ w ⟨J,C,z,b⟩;refine gG 2 ?_;rw[CS]at b;have f:below l name=Dg l l.length name:=Y7 (su d);rw[f];obtain⟨ka,A,rfl,m,_⟩:=b.vS 1;obtain⟨x,j,k,b⟩:=b.fV 1;exact⟨x,ka,A,O,z.trans j,m,k,b.y 0 3⟩
 refine gG 2 ?_;have f:below l name=[]:=Y3 (su d);rw[f];exact⟨I,none,0,O,Le.refl _,Y9 _,⟨O,λh=>Aw h sz⟩,b.s⟩
theorem Xw5(p:Lu):∀(l:List Lu) (i:Nat),decide (0<=Ig p l i)=l.contains p
 | [],i=>rfl
 | x::l,i=>by
  rw[Ig,zt];split
  ·rename_i h
   subst h;rw[beq_self_eq_true,Bool.true_or,decide_eq_true_eq];omega
  ·rename_i h
   rw[beq_eq_false_iff_ne.2 h,dD,Xw5 p l (i+1)]
theorem Xnb(a:Oa)(c:Nat)(l:List Lu)(b:l.length<=100000)(p:Lu)(e:RS I a 1 l.length (l.map S))(N:La)(d:Aa B w I N):
  Ce B I N 173 [.slice a l.length c,S p] w (.bool (l.contains p)):=by
 refine gP 3 [] (pz a c l b p e N) ?_;rintro _ w ⟨rfl,d⟩;exact gG 2 ⟨by rw[<-Xw5 p l 0],d⟩
theorem RL(c:Nat)(b:Oa)(d:Nat)(a:List Lu)(f:a.length<=100000)(r:Ah)(g:RS I b 1 a.length (a.map S))(N:La)(e:Aa B w I (Ad c [.slice b a.length d] 34::N)):
  Ce B I (Ad c [.slice b a.length d] 34::N) 172 [.agg (X5 r).toArray,ptr c 0] w (.bool (a.contains r.name)):=by
 refine gH 5 ?_;intro h w e;refine gE 0 (Xnb b d a f _ g) ?_;intro w e;exact gG 1 ⟨O,e.s⟩
theorem WL.clear{s:Nat}{e t:TypeId}{x:Operand}{z:Va}(p:Aa B w I N)(r:N[k]?=some (Ad b cs E))(hx:Ev n L x (.slice (some (ad b o)) m cap))(A:P.underlying t=some (.slice e))(Q:∀w,(zeroValue e).run P w=.ok z w)(M:z.cells.size=s)(D:∀v∈z.cells,v.oneCell'=true)(H:o+m*s<=cs.length)
  (h:∀w' d,d.length=cs.length->d.take o=cs.take o->Aa B w' I (N.set k (Ad b d E))->WL P n ops K rest L w'):WL P n ops K (⟨none,.call ⟨.builtin .clear,#[x],#[t]⟩,ty,pos,af,none⟩::rest) L w:=by
 subst M;have u:∀w' v,(∀a,Aq n L a->(execOp a.eval (⟨none,.call ⟨.builtin .clear,#[x],#[t]⟩,ty,pos,af,none⟩:Oper)).run P w=.ok (.value v) w')->WL P n ops K rest L w'->WL P n ops K (⟨none,.call ⟨.builtin .clear,#[x],#[t]⟩,ty,pos,af,none⟩::rest) L w:=by
  intro w' v hx h a g;refine wpList_plain O λK' F=>?_
  unfold Oper.wp;rw[hx a g];exact F _ _ (h _ (g.skip v))
 have y:=p.block r;have l:(Builtin.zeroCells z.cells m).toList.length=m*z.cells.size:=by rw[T4,size_zeroCells]
 have j:=run_storeCells_at P b o E (Builtin.zeroCells z.cells m).toList 0 cs.toArray w y (by simp only[DG,l,kS];exact H) (λv C=>by
  rw[Array.mem_toList_iff]at C;obtain⟨i,hi,rfl⟩:=Array.mem_map.1 C;have q:i<m*z.cells.size:=su hi
  have J:0<z.cells.size:=zv λe=>by rw[e]at q;omega
  have f:=VG i J;rw[getElem!_pos z.cells (i%z.cells.size) f];exact D _ (Array.getElem_mem f))
 simp only[DG]at j
 cases m with
 | zero =>
  refine u w (.tuple #[]) (λa g=>?_) (h w cs O O ?_)
  ·simp[execOp,resolve,invoke,builtin,hx a g,Builtin.clear_,run_underlying A]
  ·have e:N.set k (Ad b cs E)=N:=by
    apply OD
    intro i;rw[oU];split
    ·rename_i e;subst e
     split
     ·exact r.symm
     ·rename_i f;rw[T1 om]
    ·rfl
   rw[e];exact p
 | succ m =>
  refine u (w.setRow b _) (.tuple #[]) (λa g=>?_) (h _ _ ?_ ?_ (p.write (o':=Xd (cs.take o++(Builtin.zeroCells z.cells (m+1)).toList++cs.drop (o+(Builtin.zeroCells z.cells (m+1)).toList.length)) E) r O O O (setRow_heap w b _ _ E _ y) λc G=>setRow_other w b c _ G))
  ·simp[execOp,resolve,invoke,builtin,hx a g,Builtin.clear_,run_underlying A,Q,j]
  ·simp only[Y0,Yj,Y6,l];omega
  ·rw[Yg,oN (by rw[Yj];omega),zI,Nat.min_self]
theorem wc{α:Type}(a:α->Bool):∀(l:List α) (i:Nat),(EP a l i=-1/\∀r∈l,a r=false)\/∃(j:Nat) (r:α),EP a l i=((i+j:Nat):Int)/\l[j]?=some r/\a r=true/\∀t∈l.take j,a t=false
 | [],i=>.inl ⟨O,λr h=>by simp at h⟩
 | s::l,i=>by
  rw[EP]
  by_cases h:a s=true
  ·rw[Y7 h];exact .inr ⟨0,s,by simp,O,h,λt b=>by simp at b⟩
  ·rw[Y3 h];have f:a s=false:=su h
   rcases wc a l (i+1)with⟨c,d⟩|⟨j,r,c,d,g,k⟩
   ·exact .inl ⟨c,λr m=>(Ys.1 m).elim (λe=>e▸f) (d r)⟩
   ·refine .inr ⟨j+1,r,by rw[c];omega,su d,g,λt b=>?_⟩;rw[Q9]at b;rcases Ys.1 b with e|b
    ·exact e▸f
    ·exact k t b
theorem Xjl:∀(l:List Ah) (i:Nat),(CI l).take (i*10)=CI (l.take i)
 | [],i=>by simp[CI]
 | r::l,0=>by simp[CI]
 | r::l,i+1=>by
  have e:∀l:List Ah,CI (r::l)=X5 r++CI l:=λl=>rfl
  rw[Q9,e,e,<-Xjl l i,show(i+1)*10=(X5 r).length+i*10 by show(i+1)*10=10+i*10;omega,zi]
theorem Xht(a:Oa)(c:Nat)(l:List Ah)(hl:l.length<=100000)(d:Ah->Bool)(q:FuncId)(fn:Func)(V:prog.funcs[q]?=some fn)(A:Xc fn=true)(g:Lv)(Q:X1)(N:La)(hf:∀(r:Ah) w (X:La),Aa B w I (Q::X)->Calls prog q ([Value.agg (X5 r).toArray]++g).toArray w (AY λv w'=>v=.bool (d r)/\Aa B w' I (Q::X)))(b:Aa B w I (Q::Ao 160 10 (.slice a l.length c) l.length (CI l)::N)):
  Ce B I (Q::Ao 160 10 (.slice a (l.filter (λx=>!d x)).length c) (l.filter (λx=>!d x)).length (CI (l.filter (λx=>!d x)))::N) 170 [.slice a l.length c,.func (.func q) #[] g.toArray] w (.slice a (l.filter (λx=>!d x)).length c):=by
 refine gP 3 [] (X8z a c l hl d q fn V A _ _ (λw h=>Vc h (k:=1) O) (λr w h=>hf r w _ h)) ?_;rintro _ w ⟨rfl,b⟩;refine gM 3 ?_ ?_<;>intro f ao
 ·refine gG 2 (?_);have e:l.filter (λx=>!d x)=l:=by
   rcases wc d l 0 with⟨_,Y⟩|⟨j,r,P,_⟩
   ·exact oS.2 (λt ht=>by rw[Y t ht];rfl)
   ·exfalso;rw[P]at f;simp at f
  rw[e];exact⟨O,b⟩
 obtain⟨k,rk,ae,W,af,ag⟩:∃(j:Nat) (r:Ah),EP d l 0=(j:Int)/\l[j]?=some r/\d r=true/\∀t∈l.take j,d t=false:=by
  rcases wc d l 0 with⟨P,_⟩|⟨j,r,P,Y,h3,h4⟩
  ·exfalso;rw[P]at f;simp at f
  ·exact⟨j,r,by rw[P];simp,Y,h3,h4⟩
 have a3:=(Y1.1 W).1;rw[ae];refine gG 3 ?_;refine .lk [0,1] (σ:=Nat×Nat×List Ah) (λ(i,j,M) _m=>(5,Ab (i:Nat))::(6,Ab (j:Nat))::_m) (λ(i,j,M) w=>i<j/\j<=l.length/\M.length=l.length/\M.drop j=l.drop j/\M.take i=(l.take j).filter (λx=>!d x)/\Aa B w I (Q::Ao 160 10 (.slice a l.length c) l.length (CI M)::N)) (λ(i,j,M)=>l.length-j) (k,k+1,l) ⟨om,om,O,O,by
  rw[Yv,W,DO,VB,oS.2 (λt ht=>by rw[ag t ht];rfl)];simp[af],b⟩ ?_
 rintro⟨i,j,M⟩ w ⟨a2,hj,hM,T,u,b⟩;refine gN 4 ?_ ?_<;>intro ap
 ·obtain⟨r,hr⟩:∃r,l[j]?=some r:=⟨_,Y2 om⟩
  have ab:M[j]?=some r:=by
   have Z:=Ye (λx=>x[0]?) T;simpa[hr]using Z
  have E:=b;rw[<-hM]at E;obtain⟨p,aj,hx⟩:=Vc E (k:=1) O j r ab;subst aj;clear E;have U:((l.take (j+1)).filter (λx=>!d x))=((l.take j).filter (λx=>!d x))++[r].filter (λx=>!d x):=by rw[Yv,hr,DO,VB]
  have D:M.drop (j+1)=l.drop (j+1):=by rw[<-JU,<-JU,T]
  refine gH 3 (.val (XP (.of O) hx bO LG O) O (gH 4 ?_));intro b7 w b;refine .Bu (cap:=g) V A (.of O) (AM O X3) O (hf r w _ (b.x [1])) ?_;rintro _ w ⟨rfl,b⟩;replace b:=b.pick 1 O;refine gM 1 ?_ ?_<;>intro z aq
  ·obtain⟨L,J,o,H,R,F,ah,ai,b⟩:=b.AF (k:=2) O om;injection H with m al G
   (injection m with m;subst m)
   subst G;have a5:=Xq6 M;refine gH 4 (.so b (k:=2) O O O O LG O (by simp only[Y0];omega) ?_);intro w b;rw[Yl,oN om,oM om,<-Yg]at b;replace b:=b.A1 (n:=l.length) (size:=10) (k:=2) O R F (by simp only[Y0,Yj,Y6,Y4,Yi];omega) (by simp only[Y0,Yj,Y6,Y4,Yi];omega);have e9:(List.take (Int.toNat (i:Int)*10) (CI M)++X5 r++List.drop (Int.toNat (i:Int)*10+10) (CI M))=CI (M.set i r):=by(try rw[Yh]);rw[xv om]
   refine gG 6 ?_;refine rd (i+1,j+1,M.set i r) ⟨om,om,by rw[kW];exact hM,?_,?_,?_⟩
   ·show(M.set i r).drop (j+1)=_
    rw[List.drop_set_of_lt om,D]
   ·show(M.set i r).take (i+1)=_
    rw[Yv,List.take_set_of_le (Y9 _),u,qL om,U,JQ,Y7 (su z)];rfl
   ·try dsimp only
    rw[<-e9];exact b.y 0 1
  refine gG 3 (rd (i,j+1,M) ⟨om,om,hM,D,?_,b.y 0 1⟩);rw[u,U,JQ,Y3 (su z)]
  simp
 have ac:j=l.length:=om
 subst ac;replace b:=b.px [1];obtain⟨L,J,o,H,R,F,ah,ai,b⟩:=b.AF (k:=0) O om;injection H with m al G
 subst m;subst G;refine gH 3 ?_;have e8:sliced (some (ad L 0)) ((i:Int)).toNat l.length c 10=.slice (some (ad L (0+(i:Int).toNat*10))) (l.length-i) (c-i):=by
  simp only[sliced,Yh,dC,C7]
  rw[Y3 om]
 rw[show(⟨L,0,none⟩:Addr)=ad L 0 from O,e8];refine WL.clear (s:=10) b (k:=0) O (.of O) ke UT O de (by rw[Y0];omega) ?_;intro w K S C b;refine gG 4 ?_;rw[wk];refine ?_;have e1:(CI M++o).take (i*10)=CI (l.filter (λx=>!d x)):=by
  rw[oN om,Xjl,u,Yk om]
 have e2:(l.filter (λx=>!d x)).length=i:=by
  have Z:=Ye List.length u;rw[Yj,Yk om]at Z;omega
 have e3:K=CI (l.filter (λx=>!d x))++K.drop (i*10):=by
  rw[<-e1];rw[show 0+(i:Int).toNat*10=i*10 by omega]at C;rw[<-C];exact(FA _ _).symm
 rw[e3]at b;have e4:=Xq6 (l.filter (λx=>!d x));have e5:=Ye List.length e3;rw[Y0]at e5;rw[Y0]at S;replace b:=b.A1 (n:=i) (size:=10) (k:=0) O om F (by rw[e4,e2]) om
 (try rw[Yh]);rw[e2]
 exact⟨O,b.x [1]⟩
theorem gR(f:Nat)(room:Int)(a:Oa)(c:Nat)(l:List Ah)(m:l.length<=100000)(e:Wf l)(name:Lu)(N:La)(b:Aa B w I (Bc f room a c l N)):
  Cz 88 [ptr f 0,S name] w λv w'=>∃J o p,v=.slice o (below l name).length p/\Le I J/\(below l name).length<=p/\RS J o 1 (below l name).length ((below l name).map S)/\∃a c,Aa B w' J (Bc f room a c (drop l name) N):=by
 refine gP 3 [] (Xn7 f _ a c l m e _ _) ?_;rintro _ w ⟨J,i,j,rfl,t,k,d,b⟩;refine gH 7 ?_;intro g w b;refine gP 0 [1,2] (wq a c l m _) ?_;rintro _ w ⟨y,rfl,b⟩;replace b:=b.px [2];obtain⟨q,s,rfl,u,_⟩:=b.vS 1;refine .val (.makeFunc (AM O X3)) O ?_;refine gC 0 (Xht q s l m (λr=>(below l name).contains r.name) 172 _ func172 O [ptr g 0] (Ad g [.slice i (below l name).length j] 34) _ (λr w X h=>RL g i j (below l name) (oh (xS e name)) r d X h) (by
   have n:=((b.pick 1 O).pick 3 O)
   try dsimp only[List.eraseIdx]at n
   exact n)) ?_
 rintro _ w ⟨rfl,b⟩;rw[show l.filter (λx=>!(below l name).contains x.name)=drop l name from O]at b ⊢;refine gG 5 ?_;intro w b;replace b:=b.py [0,2];exact⟨J,i,j,O,t,k,d,q,s,b.x [1]⟩
abbrev Pr:=Lu×Lu
abbrev X8(p:Pr):Lv:=[S p.1,S p.2]
theorem Zg(l:List Pr):(X2 X8 l).all Value.oneCell'=true:=by
 unfold X2
 induction l with
 | nil=>rfl
 | cons p l a=>rw[Yw,Gg,iR,a];rfl
structure Us where
 name:Lu
 pw:Lu
 attrs:List Pr
abbrev uD(u:Us)(a:Oa)(c:Nat):Lv:=[S u.name,S u.pw,.slice a u.attrs.length c]
def JE(I:Im)(u:Us)(l:Lv):Prop:=∃a c,l=uD u a c/\u.attrs.length<=c/\RS I a 2 u.attrs.length (X2 X8 u.attrs)
theorem JE.mono{u:Us}{l:Lv}(h:JE I u l)(f:Le I J):JE J u l:=by
 obtain⟨a,c,e,b,d⟩:=h;exact⟨a,c,e,b,d.mono f⟩
def lf(i:Nat)(c:Ui):Bool:=!rA c&&(((i:Int)==0)||(((decide ((c.toNat:Int)<48)||decide ((57:Int)<(c.toNat:Int)))&&((c.toNat:Int)!=45))&&((c.toNat:Int)!=95)))
def iE:List UInt8->Nat->Bool
 | [],_=>true
 | c::r,i=>!lf i c&&iE r (i+1)
theorem xH:∀(s:Lu) (k:Nat),iE s k=true↔∀(j:Nat) c,s[j]?=some c->lf (k+j) c=false
 | [],k=>by simp[iE]
 | c::r,k=>by
  rw[iE,Yb,xH r (k+1)];constructor
  ·rintro⟨b,e⟩ j d a;cases j with
   | zero=>simp at a;subst a;simpa using b
   | succ j=>rw[show k+(j+1)=k+1+j by omega];exact e j d (su a)
  ·intro h;refine⟨by simpa using h 0 c O,λj d a=>?_⟩;rw[show k+1+j=k+(j+1)by omega];exact h (j+1) d (su a)
def P9(s:Lu):Bool:=iE s 0&&(!(s==[])&&decide ((s.length:Int)<=60))
def k_(p:Pr):Bool:=!P9 p.1||!qj p.2 32 0 60
def dz(u:Us):Bool:=qj u.name 33 1 32&&decide ((1:Int)<=(u.pw.length:Int))&&decide ((u.pw.length:Int)<=60)&&decide ((u.attrs.length:Int)<=8)&&!u.attrs.any k_
def qy(p:Pr):Prop:=p.1.length<=maxLen/\p.2.length<=maxLen
theorem aU(s:Lu)(n:s.length<=9223372036854775807)(N:La)(f:Aa B w I N):
  Ce B I N 195 [S s] w (.bool (P9 s)):=by
 refine gG 4 (.lk [0,6] (σ:=Nat) (λi _m=>(7,Ab (i:Nat))::_m) (λi w=>i<=s.length/\(∀(j:Nat) c,j<i->s[j]?=some c->lf j c=false)/\Aa B w I N) (λi=>s.length-i) 0 ⟨Y5 _,λ_ _ h=>Aw h om,f⟩ ?_);rintro i w ⟨hi,g,f⟩;refine gN 1 ?_ ?_<;>intro l
 ·refine gC 7 (Mv _ w) ?_;rintro _ _ ⟨rfl,rfl⟩;refine gH 14 ?_;refine gM 7 ?_ ?_<;>intro a k
  ·refine gG 1 (⟨Ye Value.bool ?_,f⟩)
   have:iE s 0=false:=by
    cases h:iE s 0 with
    | false=>rfl
    | true =>
     have d:=(xH s 0).1 h i _ (LA (show i<s.length by omega));rw[Yl]at d;exact Aw (a.symm.trans d) de
   rw[P9,this];rfl
  refine gG 2 (rd (i+1) ⟨om,λj c m b=>?_,f⟩);rcases Yz j i with d|d
  ·exact g j c d b
  ·have e:j=i:=om
   subst e;rw[LA (show j<s.length by omega)]at b;cases b;exact a
 refine gG 8 (⟨Ye Value.bool ?_,f⟩)
 have:iE s 0=true:=(xH s 0).2 λj c b=>by
  have:=(Y1.1 b).1
  rw[Yl];exact g j c om b
 rw[P9,this]
 simp
theorem V5(p:Pr)(c:qy p)(N:La)(a:Aa B w I N):
  Ce B I N 194 [.agg (X8 p).toArray] w (.bool (k_ p)):=by
 refine gH 4 ?_;intro b1 w a;refine gE 0 (aU p.1 c.1) ?_;intro w a;refine gH 4 (.AA (T:=λw=>Aa B w I (Ad b1 [S p.1,S p.2] 99::N)) O O O func196 O (λb=>(X4 (.gd b O) (AM O (AM O (AM O X3))))) O (λb=>Xjw p.2 32 0 60 c.2 _ a) a ?_);clear a;rintro w a;exact gG 3 ⟨O,a.s⟩
theorem Xhv(a:Oa)(cap:Nat)(l:List (Pr))(A:l.length<=9223372036854775807)(q:Pr->Bool)(f:FuncId)(fn:Func)(o:prog.funcs[f]?=some fn)(m:Xc fn=true)(b:Lv)(N:La)(x:∀w,Aa B w I N->H9 w X8 2 a l)(z:∀(r:Pr) (n:r∈l) w,Aa B w I N->Calls prog f ([Value.agg (X8 r).toArray]++b).toArray w (AY λv w'=>v=.bool (q r)/\Aa B w' I N))(c:Aa B w I N):
  Ce B I N 287 [.slice a l.length cap,.func (.func f) #[] b.toArray] w (Ab (EP q l 0)):=by
 refine gG 4 (.lk [0,1,7] (σ:=Nat) (λi _m=>(8,Ab (i:Nat))::_m) (λi w=>i<=l.length/\(∀(j:Nat) t,j<i->l[j]?=some t->q t=false)/\Aa B w I N) (λi=>l.length-i) 0 ⟨Y5 _,λ_ _ h=>Aw h om,c⟩ ?_);rintro i w ⟨hi,g,c⟩;refine gN 1 ?_ ?_<;>intro y
 ·obtain⟨r,n⟩:∃r,l[i]?=some r:=⟨_,Y2 om⟩
  obtain⟨p,rfl,hx⟩:=x w c i r n;refine gH 6 (.val (.Hc (.of O) hx F3 JN O) O (.Bu (cap:=b) o m (.of O) (AM O X3) O (z r (Y8 n) w c) ?_));rintro _ w ⟨rfl,c⟩;refine gM 0 ?_ ?_<;>intro d u
  ·exact gG 2 ⟨by rw[jG g n d],c⟩
  refine gG 2 (rd (i+1) ⟨om,λj t C k=>?_,c⟩);rcases Yz j i with s|s
  ·exact g j t s k
  ·have e:j=i:=om
   subst e;rw[n]at k;cases k;exact d
 exact gG 1 ⟨by rw[jF (λj t k=>g j t (oh ((Y1.1 k).1)) k)],c⟩
theorem Xbi(a:Oa)(cap:Nat)(l:List (Pr))(g:l.length<=9223372036854775807)(e:Pr->Bool)(b:FuncId)(fn:Func)(f:prog.funcs[b]?=some fn)(d:Xc fn=true)(c:Lv)(N:La)(i:∀w,Aa B w I N->H9 w X8 2 a l)(j:∀(r:Pr) (k:r∈l) w,Aa B w I N->Calls prog b ([Value.agg (X8 r).toArray]++c).toArray w (AY λv w'=>v=.bool (e r)/\Aa B w' I N))(h:Aa B w I N):
  Ce B I N 197 [.slice a l.length cap,.func (.func b) #[] c.toArray] w (.bool (l.any e)):=by
 refine gP 3 [] (Xhv a cap l g e b fn f d _ N i j) ?_;rintro _ w ⟨rfl,h⟩;exact gG 2 ⟨by rw[<-cK e l 0],h⟩
theorem Xyd(a:Oa)(c:Nat)(l:List (Pr))(s:l.length<=1000000)(m:RS I a 2 l.length (X2 X8 l))(N:La)(b:Aa B w I N):
  Cz 101 [.slice a l.length c] w λv w'=>∃J d e,v=.slice d l.length e/\Le I J/\l.length<=e/\RS J d 2 l.length (X2 X8 l)/\Aa B w' J N:=by
 refine gH 2 (.val (Ex.Fp (.of O) (.of O) Ov) O ?_);refine gM 0 ?_ ?_<;>intro g q
 ·refine gG 1 ?_;cases a with
  | some p=>simp at g
  | none =>
  have n:l=[]:=by
   cases l with
   | nil=>rfl
   | cons x l=>obtain⟨p,h,_⟩:=m.2 sz;cases h
  subst n;exact⟨I,none,0,O,Le.refl _,Y9 _,⟨O,λh=>Aw h sz⟩,b⟩
 refine gH 2 ?_;intro r w b;replace b:=b.BB (k:=0) (size:=2) O O (Y5 _);refine .Bk (bytes:=32) b (.of O) (.of O) m (k:=0) O Ov (i:=t99) kr O O O O (Zg l) ⟨om,by unfold maxLen;omega⟩ O ?_;intro t w b;rw[Yl,CS]at b;refine gG 1 ?_;obtain⟨d,e,rfl,j,_⟩:=b.vS 0;obtain⟨J,o,f,b⟩:=b.fV 0;exact⟨J,d,e,O,o,j,f,b⟩
theorem Tv(u:Us)(a:Oa)(c:Nat)(i:u.name.length<=9223372036854775807)(g:u.attrs.length<=9223372036854775807)(e:∀p∈u.attrs,qy p)(f:RS I a 2 u.attrs.length (X2 X8 u.attrs))(N:La)(b:Aa B w I N):
  Ce B I N 100 [.agg (uD u a c).toArray] w (.bool (dz u)):=by
 refine gH 5 ?_;intro b1 w b;refine gE 0 (Xjw _ 33 1 32 i) ?_;intro w b;refine gH 14 (gH 8 (.AA (T:=λw=>Aa B w I (Ad b1 (uD u a c) 65::N)) O O O func197 O (λd=>(X4 (.gd d O) (X4 (.gd d O) X3))) O (λd=>Xbi a c u.attrs om k_ 194 _ func194 O [] _ (λw h=>Ob (λ_=>rfl) h f) (λp j w h=>V5 p (e p j) _ h) b) b ?_));clear b;rintro w b;exact gG 3 ⟨O,b.s⟩
def BM(I:Im)(a:Oa)(l:List Us):Prop:=∀(i:Nat) (u:Us),l[i]?=some u->∃p b c,a=some p/\At I (p.add (i*3)) (uD u b c)/\u.attrs.length<=c/\RS I b 2 u.attrs.length (X2 X8 u.attrs)
theorem BM.mono{l:List Us}(h:BM I a l)(b:Le I J):BM J a l:=λi u g=>by
 obtain⟨p,j,k,e,c,d,f⟩:=h i u g;exact⟨p,j,k,e,c.mono b,d,f.mono b⟩
structure Us.fits(u:Us):Prop where
 name:u.name.length<=maxLen
 pw:u.pw.length<=maxLen
 attrs:u.attrs.length<=9223372036854775807/\∀p∈u.attrs,qy p
def GG:List Us->Nat->List Us->Nat×Nat
 | [],_,_=>(0,0)
 | u::r,i,a=>if 16<=i then(5,i)else if dz u=false then(1,i)else if a.any (λt=>t.name==u.name)then(7,i)else GG r (i+1) (a++[u])
def Ft(J:Im)(a:List (Lu×Va))(l:List Us):Prop:=a.length=l.length/\∀(i:Nat) (u:Us),l[i]?=some u->∃cs,a[i]?=some (u.name,.agg (List.toArray cs))/\JE J u cs
theorem Ft.mono{a:List (Lu×Va)}{l:List Us}(h:Ft I a l)(d:Le I J):Ft J a l:=⟨h.1,λi u e=>by
 obtain⟨cs,b,c⟩:=h.2 i u e;exact⟨cs,b,c.mono d⟩⟩
theorem Ft.snoc{c:List (Lu×Va)}{l:List Us}{u:Us}(h:Ft J c l)(f:JE J u cs):Ft J (c++[(u.name,.agg cs.toArray)]) (l++[u]):=⟨by simp[h.1],λi t a=>by
 rcases Yz i l.length with b|b
 ·rw[Yf b]at a;rw[Yf (by rw[h.1];exact b)];exact h.2 i t a
 ·have d:=(Y1.1 a).1;simp only[Y0,Y4,Yi]at d
  have e:i=l.length:=om
  subst e;simp at a;subst a
  exact⟨cs,by rw[<-h.1];simp,f⟩⟩
theorem yN{J:Im}(name:Lu):∀{a:List (Lu×Va)} {l:List Us},Ft J a l->(l.find? (λt=>t.name==name)=none/\a.lookup name=none)\/∃u cs,l.find? (λt=>t.name==name)=some u/\a.lookup name=some (.agg (List.toArray cs))/\JE J u cs
 | [],[],_=>.inl ⟨O,O⟩
 | [],u::l,h=>by have:=h.1;simp at this
 | p::a,[],h=>by have:=h.1;simp at this
 | p::a,u::l,h=>by
  obtain⟨cs,b,f⟩:=h.2 0 u O;simp at b;subst b
  have g:Ft J a l:=⟨su h.1,λi t j=>by simpa using h.2 (i+1) t (su j)⟩
  rw[zG]
  by_cases e:u.name=name
  ·subst e;exact .inr ⟨u,cs,by simp,by simp[List.lookup],f⟩
  ·have c:(u.name==name)=false:=beq_eq_false_iff_ne.2 e;have d:(name==u.name)=false:=beq_eq_false_iff_ne.2 (Ne.symm e);simp only[c,List.lookup,d]
   exact yN name g
theorem VO(l:List Us)(name:Lu):l.any (λt=>t.name==name)=(l.find? (λt=>t.name==name)).isSome:=by
 rw[kV,vg,List.find?_isSome]
def E_(J:Im)(c:Nat)(l:List Us):Prop:=∃b a,At J (ad c 0) [.map (some b)]/\Lj J S b a/\Ft J a l
theorem E_.mono{b:Nat}{l:List Us}(h:E_ I b l)(a:Le I J):E_ J b l:=by
 obtain⟨g,f,c,d,e⟩:=h;exact⟨g,f,c.mono a,d.mono a,e.mono a⟩
theorem w3(h:J b=some (Xd cs E)):At J (ad b 0) cs:=⟨O,_,E,(0,0),h,λj v a=>by simpa[ad]using a⟩
theorem Xhi{u:Us}(h:dz u=true):u.attrs.length<=8:=by
 unfold dz at h;simp only[Yb,decide_eq_true_eq]at h
 omega
theorem Xr1(a:Oa)(cap:Nat)(l:List Us)(aq:l.length<=9223372036854775807)(E:∀u∈l,u.fits)(hU:BM I a l)(N:La)(b:Aa B w I N):
  Cz 53 [.slice a l.length cap] w λv w'=>∃J,Le I J/\(((GG l 0 []).1=0/\∃tb,v=.tuple #[ptr tb 0,Ab 0,Ab 0]/\E_ J tb l)\/((GG l 0 []).1≠0/\v=.tuple #[.pointer none,Ab ((GG l 0 []).1:Nat),Ab ((GG l 0 []).2:Nat)]))/\Aa B w' J N:=by
 refine gG 3 (.mkMap S b O ?_);intro q w b;refine gG 6 ?_;intro D w b;refine .lk [0,5,13,14] (σ:=Nat×Im×List (Lu×Va)) (λ(i,J,m) _m=>(15,Ab (i:Nat))::_m) (λ(i,J,m) w=>i<=l.length/\Le I J/\Ft J m (l.take i)/\GG (l.drop i) i (l.take i)=GG l 0 []/\Aa B w J (Ad D [.map (some q)] 217::LQ S q m::N)) (λ(i,J,m)=>l.length-i) (0,I,[]) ⟨Y5 _,Le.refl _,⟨O,λi u h=>by simp at h⟩,O,b⟩ ?_;rintro⟨i,J,m⟩ w ⟨hi,C,n,hq,b⟩;refine gN 1 ?_ ?_<;>intro ae
 ·obtain⟨u,H⟩:∃u,l[i]?=some u:=⟨_,Y2 om⟩
  obtain⟨p,ra,rc,U,am,ar,T⟩:=hU i u H;have A:=E u (Y8 H);subst U;have hR:=T.mono C;have c:GG (l.drop i) i (l.take i)=if 16<=i then(5,i)else if dz u=false then(1,i)else if(l.take i).any (λt=>t.name==u.name)then(7,i)else GG (l.drop (i+1)) (i+1) (l.take (i+1)):=by
   rw[Yq om,(Y1.1 H).2,GG];simp only[Yv,H,DO]
  rw[hq]at c;have d:=yN u.name n;have o:=VO (l.take i) u.name;refine gG 6 ?_;intro b7 w b;obtain⟨X,Y,L,W,M,V⟩:∃X Y L W M,(m.lookup u.name).getD (.agg #[S [],S [],.slice none 0 0])=.agg #[S X,S Y,.slice L W M]:=by
   rcases d with⟨_,e⟩|⟨t,cs,_,e,ta,tc,ht,_⟩
   ·rw[e];exact⟨_,_,_,_,_,O⟩
   ·rw[e,ht];exact⟨_,_,_,_,_,O⟩
  refine gD [0,0,0] [] [0,1,2,3,4,5,6,7,8,9,10,11,12] ?_;intro w b;refine gH 6 ?_;refine AN.y 6 (v:=.tuple #[.agg #[S X,S Y,.slice L W M],.bool (m.lookup u.name).isSome]) (λw _ _ an b=>by rw[<-V];exact .XS (key:=u.name) CW (b.Mz (k:=2) O) (.of O) (.of O) NW Bb U3) ?_;refine gH 4 ?_;intro b8 w b;refine gH 1 ?_;intro w b;refine gN 4 ?_ ?_<;>intro af
  ·refine gG 4 ?_;have r:GG l 0 []=(5,i):=by rw[c];exact Y7 om
   rw[r];exact⟨J,C,.inr ⟨show(5:Nat)≠0 by decide,O⟩,b.s⟩
  refine gE 1 (Tv u ra rc A.name A.attrs.1 A.attrs.2 hR) ?_;intro w b;refine gM 2 ?_ ?_<;>intro g ag
  ·refine gG 4 ?_;have r:GG l 0 []=(1,i):=by rw[c];rw[Y3 om];exact Y7 (su g)
   rw[r];exact⟨J,C,.inr ⟨show(1:Nat)≠0 by decide,O⟩,b.s⟩
  refine gG 2 (.cond O (λj=>?_) λj=>?_)
  ·refine gG 4 ?_;have r:GG l 0 []=(7,i):=by rw[c];rw[Y3 om];rw[Y3 (show ¬ dz u=false by simpa using g)];exact Y7 (by rw[o];rcases d with⟨_,e⟩|⟨t,cs,e,_⟩<;>simp_all)
   rw[r];exact⟨J,C,.inr ⟨show(7:Nat)≠0 by decide,O⟩,b.s⟩
  have K:dz u=true:=su g
  have ap:=Xhi K;refine gF 2 (Xyd ra rc u.attrs om hR) ?_;rintro _ w ⟨J2,Z,aa,rfl,f,G,R,b⟩;refine gG 2 ?_;intro w b;refine .tail 7 kr kr ?_;replace b:=b.drew;generalize w.drew=w at b ⊢;refine .vm O O (.val (.no O) O ?_);refine .val (by first|exact .fo 0 O NY O O sizeOf215 O|exact .fi 0 O NY O O sizeOf215 O) O ?_;refine .val (by first|exact(.lo O b (k:=0) O ou O)|exact(.lo O b (k:=1) O ou O)|exact(.lo O b (k:=2) O ou O)|exact(.lo O b (k:=3) O ou O)) O ?_;refine .val (by first|exact .fo 0 O JA O O A3 O|exact .fi 0 O JA O O A3 O) O ?_;refine .val (by first|exact(.lo O b (k:=0) O Bq O)|exact(.lo O b (k:=1) O Bq O)|exact(.lo O b (k:=2) O Bq O)|exact(.lo O b (k:=3) O Bq O)) O ?_;refine .val (by first|exact(.Ks (cs:=[_,_,_]) (.of O) b (k:=0) O H2 H4 O)|exact(.D6 (vs:=[_,_,_]) (.of O) b (k:=0) O H2 H4 O (λ_ _ h=>h))|exact(.Ks (cs:=[_,_,_]) (.of O) b (k:=1) O H2 H4 O)|exact(.D6 (vs:=[_,_,_]) (.of O) b (k:=1) O H2 H4 O (λ_ _ h=>h))|exact(.Ks (cs:=[_,_,_]) (.of O) b (k:=2) O H2 H4 O)|exact(.D6 (vs:=[_,_,_]) (.of O) b (k:=2) O H2 H4 O (λ_ _ h=>h))|exact(.Ks (cs:=[_,_,_]) (.of O) b (k:=3) O H2 H4 O)|exact(.D6 (vs:=[_,_,_]) (.of O) b (k:=3) O H2 H4 O (λ_ _ h=>h))) O ?_;refine .nil ?_;show WL _ _ _ _ _ _ _
  refine .dr ?_;have F:m.lookup u.name=none:=by
   cases h:m.lookup u.name with
   | none=>rfl
   | some x=>rw[h]at j;cases j
  refine .z_ CW b (k:=3) O (.of O) (.of O) (.of O) F NW Bb ?_;intro w b;refine gG 2 (Br (i+1,_,_) O ⟨om,C.trans f,?_,?_,b.y 0 2⟩)
  ·show Ft J2 _ (l.take (i+1))
   rw[Yv,H];exact(n.mono f).snoc ⟨Z,aa,O,G,R⟩
  ·show GG (l.drop (i+1)) (i+1) (l.take (i+1))=_
   rw[c,Y3 om,Y3 (nB K),Y3];rw[o];rcases d with⟨e,_⟩|⟨t,cs,e,e2,_⟩
   ·rw[e];decide
   ·rw[F]at e2;cases e2
 refine gG 4 ?_;have e:i=l.length:=om
 subst e;have r:GG l 0 []=(0,0):=by rw[<-hq,VC];first|done|rfl
 rw[GK]at n;rw[r];obtain⟨J2,f,P,b⟩:=b.fZ 0;obtain⟨J3,z,Q,b⟩:=b.HL (k:=0) O;exact⟨J3,(C.trans f).trans z,.inl ⟨O,D,O,q,m,(w3 P).mono z,Q,(n.mono f).mono z⟩,b⟩
theorem xor_zero{a b:Ui}:(a^^^b).toNat=0↔a=b:=by
 constructor
 ·intro h;have d:a^^^b=0:=GL.1 (su h);have c:a^^^b^^^b=0^^^b:=by rw[d]
  rw[UInt8.xor_assoc,UInt8.xor_self,UInt8.xor_zero,UInt8.zero_xor]at c;exact c
 ·intro h;subst h;simp
theorem HU{a:Nat}:a^^^b=0↔a=b:=by
 constructor
 ·intro h;have c:a^^^b^^^b=0^^^b:=by rw[h]
  rw[Nat.xor_assoc,Nat.xor_self,Nat.xor_zero,Nat.zero_xor]at c;exact c
 ·intro h;subst h;simp
theorem ZH{a b:Lu}:a=b↔a.length=b.length/\∀j:Nat,j<min a.length b.length->at_ a (j:Int)=at_ b (j:Int):=by
 constructor
 ·intro h;subst h;exact⟨O,λ_ _=>rfl⟩
 ·rintro⟨c,d⟩;refine List.ext_getElem c λj f g=>?_
  have e:=d j om;simpa[at_,Ya,f,g]using e
theorem U4(a b:Lu)(r:a.length<=9223372036854775807)(s:b.length<=9223372036854775807)(N:La)(f:Aa B w I N):
  Ce B I N 379 [S a,S b] w (.bool (a==b)):=by
 refine gH 5 (.val (.Aaq (a:=a.length) om om (.of O) (.of O)) O (gG 7 (.lk [0,1,16] (σ:=Nat×Nat) (λ(i,D) _m=>(5,Ab (D:Nat))::(17,Ab (i:Nat))::_m) (λ(i,D) w=>(i:Int)<=min (a.length:Int) (b.length:Int)/\D<9223372036854775808/\(D=0↔a.length=b.length/\∀j:Nat,j<i->at_ a (j:Int)=at_ b (j:Int))/\Aa B w I N) (λ(i,D)=>min a.length b.length-i) (0,a.length^^^b.length) ⟨om,Nat.xor_lt_two_pow (n:=63) om om,⟨λh=>⟨HU.1 h,λj h=>Aw h om⟩,λh=>HU.2 h.1⟩,f⟩ ?_)));rintro⟨i,D⟩ w ⟨hi,p,l,f⟩;refine gN 1 ?_ ?_<;>intro m
 ·have q:=(at_ a (i:Int)^^^at_ b (i:Int)).toNat_lt;refine gG 2 (gQ ?_);intro w f;refine gH 7 (AN.y 7 (λw _ _ g f=>.Aap (.of O) (.of O)) (gH 1 (AN.y 9 (λw _ _ g f=>.orI (a:=D) (b:=(at_ a (i:Int)^^^at_ b (i:Int)).toNat) om (oh ((at_ a (i:Int)^^^at_ b (i:Int)).toNat_lt)) (.of O) (.of O)) ?_)));refine gG 3 (Br (i+1,_) O ⟨om,zA (n:=63) p (oh ((at_ a (i:Int)^^^at_ b (i:Int)).toNat_lt)),?_,f⟩);show(D||| (at_ a (i:Int)^^^at_ b (i:Int)).toNat)=0↔_
  rw[Nat.or_eq_zero_iff,l,xor_zero];constructor
  ·rintro⟨⟨d,c⟩,o⟩;refine⟨d,λj k=>?_⟩;rcases Yz j i with h|h
   ·exact c j h
   ·have e:j=i:=om
    subst e;exact o
  ·rintro⟨d,c⟩;exact⟨⟨d,λj k=>c j om⟩,c i om⟩
 refine gG 3 (⟨Ye Value.bool ?_,f⟩);rw[kV,beq_iff_eq,beq_iff_eq,ZH];constructor
 ·intro h;obtain⟨d,c⟩:=l.1 om;exact⟨d,λj k=>c j om⟩
 ·rintro⟨d,c⟩
  have:=l.2 ⟨d,λj k=>c j om⟩
  omega
def qs(l:List Us)(name a:List UInt8):Bool:=match l.find? (λt=>t.name==name)with
 | some u=>u.pw==a
 | none=>false
def CM(l:List Us)(name:List UInt8):List Pr:=match l.find? (λt=>t.name==name)with
 | some u=>u.attrs
 | none=>[]
def TK(l:List Us)(name:Lu)(b:List Lu):List Pr:=b.flatMap λx=>(CM l name).filter λa=>a.1==x
theorem wB{A:List Pr}{rel:List Lu}(b:A.length<=8):(rel.flatMap λx=>A.filter λa=>a.1==x).length<=8*rel.length:=by
 induction rel with
 | nil=>simp
 | cons x r c =>
  have h:=EV (λa:Pr=>a.1==x) A;simp only[dA,Y0,Y4]
  omega
theorem Xxw{mb:Nat}{e:List (Lu×Va)}{l:List Us}(d:Ft I e l)(c:∀u∈l,u.fits)(name pw:Lu):∃m f g i,(e.lookup name).getD (.agg #[S [],S [],.slice none 0 0])=.agg #[S m,S f,.slice g (CM l name).length i]/\RS I g 2 (CM l name).length (X2 X8 (CM l name))/\f.length<=9223372036854775807/\((f==pw)&&(e.lookup name).isSome)=qs l name pw:=by
 rcases yN name d with⟨a,b⟩|⟨u,cs,a,b,ua,uc,j,n,k⟩
 ·refine⟨[],[],none,0,?_,?_,by simp,?_⟩
  ·rw[b,CM,a];rfl
  ·rw[CM,a];exact⟨O,λh=>Aw h sz⟩
  ·rw[b,qs,a];simp
 ·refine⟨u.name,u.pw,ua,uc,?_,?_,(c u (qI a)).pw,?_⟩
  ·rw[b,CM,a,j];rfl
  ·rw[CM,a];exact k
  ·rw[b,qs,a];simp
theorem Nz(j:Nat)(l:List Us)(a:∀u∈l,u.fits)(name b:Lu)(g:b.length<=9223372036854775807)(p:E_ I j l)(N:La)(c:Aa B w I N):
  Ce B I N 320 [ptr j 0,S name,S b] w (.bool (qs l name b)):=by
 obtain⟨mb,r,q,n,e⟩:=p;obtain⟨t,i,k,m,h,o,f,d⟩:=Xxw (mb:=mb) e a name b;refine gH 6 ?_;refine .val (v:=.tuple #[.agg #[S t,S i,.slice k (CM l name).length m],.bool (r.lookup name).isSome]) (by rw[<-h];exact .XS (key:=name) CW (n.now c) (.of O) (.of O) NW Bb U3) O ?_;refine gH 9 ?_;intro x w c;refine gE 0 (U4 i b f g) ?_;intro w c;exact gG 4 ⟨Ye Value.bool d,c.s⟩
theorem Xjv(Q:Nat)(l:List Us)(e:∀u∈l,u.fits)(name:Lu)(Y:(CM l name).length<=8)(P:Oa)(rc:Nat)(rel:List Lu)(ah:rel.length<=1000000)(hT:E_ I Q l)(o:RS I P 1 rel.length (rel.map S))(N:La)(b:Aa B w I N):
  Cz 264 [ptr Q 0,S name,.slice P rel.length rc] w λv w'=>∃J ka h,v=.slice ka (TK l name rel).length h/\Le I J/\(TK l name rel).length<=h/\RS J ka 2 (TK l name rel).length (X2 X8 (TK l name rel))/\Aa B w' J N:=by
 obtain⟨mb,kv,s,hM,A⟩:=hT;obtain⟨n9,p9,R,V,d,n,ag,af⟩:=Xxw (mb:=mb) A e name [];refine gG 2 ?_;replace b:=b.Al 99 2;refine gG 3 (.lk [0,1,12,13] (σ:=Nat×Va) (λ(i,v) _m=>(7,v)::(14,Ab (i:Nat))::_m) (λ(i,v) w=>i<=rel.length/\Aa B w I (Ao 99 2 v ((rel.take i).flatMap (λx=>(CM l name).filter λa=>a.1==x)).length (X2 X8 ((rel.take i).flatMap (λx=>(CM l name).filter λa=>a.1==x)))::N)) (λ(i,v)=>rel.length-i) (0,.slice none 0 0) ⟨Y5 _,b⟩ ?_);rintro⟨i,v⟩ w ⟨hi,b⟩;refine gN 1 ?_ ?_<;>intro H
 ·obtain⟨x,hx⟩:∃x,rel[i]?=some x:=⟨_,Y2 om⟩
  obtain⟨p,F,hA⟩:=o.2 om;subst F;have C:(rel.map S)[i]?=some (S x):=by rw[Yu,hx];rfl
  have D:=wB (rel:=rel.take i) Y;rw[Yj]at D;refine gH 1 ?_;refine .val (.ld1 (.of O) (by have Z:=JH b hA C;simpa using Z) Bq) O ?_;refine gH 4 (.val (.BG (.of O) b s ou O) O (gH 1 ?_));refine .val (v:=.agg #[S n9,S p9,.slice R (CM l name).length V]) (by have d:=d;rw[<-d];exact .Pv (key:=name) CW (hM.now b) (.of O) (.of O) NW Bb U3) O ?_;refine .val (.lH (off:=2) (.of O) JA O O isAgg63 O) O (gG 2 (.lk [0,1,9,12,13,14,24,25] (σ:=Nat×Va) (λ(j,v) _m=>(7,v)::(26,Ab (j:Nat))::_m) (λ(j,v) w=>j<=(CM l name).length/\Aa B w I (Ao 99 2 v ((rel.take i).flatMap (λx=>(CM l name).filter λa=>a.1==x)++((CM l name).take j).filter (λa=>a.1==x)).length (X2 X8 ((rel.take i).flatMap (λx=>(CM l name).filter λa=>a.1==x)++((CM l name).take j).filter (λa=>a.1==x)))::N)) (λ(j,v)=>(CM l name).length-j) (0,v) ⟨Y5 _,su b⟩ ?_));rintro⟨j,v⟩ w ⟨hj,b⟩;refine gN 1 ?_ ?_<;>intro K
  ·obtain⟨y,M⟩:∃y,(CM l name)[j]?=some y:=⟨_,Y2 om⟩
   obtain⟨q,E,G⟩:=Ob (cells:=X8) (λ_=>rfl) b n j y M;have t:=EV (λa:Pr=>a.1==x) ((CM l name).take j);rw[Yj]at t;have f:((CM l name).take (j+1)).filter (λa=>a.1==x)=((CM l name).take j).filter (λa=>a.1==x)++[y].filter (λa=>a.1==x):=by rw[Yv,M,DO,VB]
   have ad:((rel.take i).flatMap (λx=>(CM l name).filter λa=>a.1==x)++((CM l name).take j).filter (λa=>a.1==x)).length=((rel.take i).flatMap (λx=>(CM l name).filter λa=>a.1==x)).length+(((CM l name).take j).filter (λa=>a.1==x)).length:=Y0;rw[E];refine gH 1 (.val (.Hc (.of O) G F3 JN O) O (gG 6 ?_));intro T w b;refine gM 0 ?_ ?_<;>intro c L
   ·refine gG 7 ?_;intro U k m g w b;refine rd (j+1,.slice k (((rel.take i).flatMap (λx=>(CM l name).filter λa=>a.1==x)++((CM l name).take j).filter (λa=>a.1==x)).length+1) m) ⟨om,?_⟩;rw[f,JQ,Y7 (su c),iS,<-Yg,TD,show((rel.take i).flatMap (λx=>(CM l name).filter λa=>a.1==x)++((CM l name).take j).filter (λa=>a.1==x)++[y]).length=((rel.take i).flatMap (λx=>(CM l name).filter λa=>a.1==x)++((CM l name).take j).filter (λa=>a.1==x)).length+1 from Y0];exact b.y 0 1
   refine gG 2 (rd (j+1,v) ⟨om,?_⟩);rw[f,JQ,Y3 (su c),iS,Yx];exact b.y 0 1
  refine gG 2 (rd (i+1,v) ⟨om,?_⟩);have X:j=(CM l name).length:=om
  subst X;rw[GK]at b;rw[Yv,hx,DO,OC,dA,List.flatMap_nil,Yx];exact b
 refine gG 2 ?_;have W:i=rel.length:=om
 subst W;rw[GK]at b;obtain⟨ka,h,rfl,z,_⟩:=b.vS 0;obtain⟨J,hJ,r,b⟩:=b.fV 0;exact⟨J,ka,h,O,hJ,z,r,b⟩
open DS
def Ei(I:Im)(l:List UInt8)(po:Option Addr)(e a:Int):Prop:=match cmp l with
 | .error (c,b)=>po=none/\e=c/\a=b
 | .ok Q=>∃p,po=some p/\e=0/\a=0/\Ej I p Q l.length
theorem Ei.mono{l:Lu}{po:Oa}{e a:Int}(h:Ei I l po e a)(i:Le I J):Ei J l po e a:=by
 unfold Ei at h ⊢;cases b:cmp l with
 | error x=>rw[b]at h;exact h
 | ok Q=>rw[b]at h;obtain⟨p,c,d,f,g⟩:=h;exact⟨p,c,d,f,g.mono i⟩
theorem Xna(l:Lu)(N:La)(i:Aa B w I N)(j:l.length<=9223372036854775807):
  Cz 188 [S l] w λv w'=>∃po e a J,v=.tuple #[.pointer po,Ab e,Ab a]/\Le I J/\Ei J l po e a/\Aa B w' J N:=by
 refine(Xri l N i j).mono λx w' ⟨v,hx,h⟩=>⟨v,hx,?_⟩
 rcases h with⟨e,a,J,b,c,d,f⟩|⟨Q,p,J,b,c,d,f,g⟩
 ·exact⟨none,e,a,J,c,d,by rw[Ei,b];exact⟨O,O,O⟩,f⟩
 ·exact⟨some p,0,0,J,c,d,by rw[Ei,b];exact⟨p,O,O,O,f⟩,g⟩
theorem Rw{l:Lu}{Q:List Pl}(h:cmp l=.ok Q):WF Q/\0<Q.length/\Q.length<=201/\l.length<=200:=by
 obtain⟨e,p,a,f,g,rfl⟩:=lu h;obtain⟨d,c⟩:=Xtp a.ok;have b:=Xd8 p;have i:=a.len;exact⟨d,c.1,by unfold cP at b;omega,e⟩
theorem Xnk{l:Lu}{Q:List Pl}(d:cmp l=.ok Q)(p:Addr)(s:Lu)(e:s.length<=1000000)(N:La)(a:Aa B w I N)(c:Ej I p Q l.length):
  Ce B I N 350 [.pointer (some p),S s] w (.bool (vz Q s)):=by
 have b:=Rw d;refine gC 3 (fK Q p _ s b.1 b.2.1 om om e N a c) ?_;rintro _ w ⟨rfl,a⟩;exact gG 7 ⟨O,a⟩
theorem RX{s:Sv}{Q:List Pl}(g:cmp s.urls=.ok Q)(a:Oa)(c:Nat)(p q:Addr)(n:Lu)(e:n.length<=1000000)(b:Nat)(f:Ej I p Q s.urls.length)(N:La)(d:Aa B w I (Ad b [S n] 9::N)):
  Ce B I (Ad b [S n] 9::N) 349 [.agg #[Ab s.id,AQ s.ord,S s.urls,.bool s.BZ,.bool s.Co,.bool s.back,S s.calls,.slice a s.rel.length c,.pointer (some p),.pointer (some q)],ptr b 0] w (.bool (vz Q n)):=by
 refine gH 5 ?_;intro h w d;refine gC 0 (Xnk g p n e _ d f) ?_;rintro _ w ⟨rfl,d⟩;exact gG 1 ⟨O,d.s⟩
theorem Rm(s:Sv)(a:Oa)(c:Nat)(p q:Addr)(d:Int)(b:Nat)(N:La)(e:Aa B w I (Ad b [Ab d] 3::N)):
  Ce B I (Ad b [Ab d] 3::N) 417 [.agg #[Ab s.id,AQ s.ord,S s.urls,.bool s.BZ,.bool s.Co,.bool s.back,S s.calls,.slice a s.rel.length c,.pointer (some p),.pointer (some q)],ptr b 0] w (.bool (s.id==d)):=by
 refine gG 8 ?_;intro f w e;exact⟨O,e.s⟩
theorem Sh(s t:Sv)(a e:Oa)(c f:Nat)(p q:Addr)(b:Nat)(N:La)(d:Aa B w I (Ad b [Ab t.id,AQ t.ord,S t.urls,.bool t.BZ,.bool t.Co,.bool t.back,S t.calls,.slice e t.rel.length f] 62::N)):
  Ce B I (Ad b [Ab t.id,AQ t.ord,S t.urls,.bool t.BZ,.bool t.Co,.bool t.back,S t.calls,.slice e t.rel.length f] 62::N) 187 [.agg #[Ab s.id,AQ s.ord,S s.urls,.bool s.BZ,.bool s.Co,.bool s.back,S s.calls,.slice a s.rel.length c,.pointer (some p),.pointer (some q)],ptr b 0] w (.bool (s.id==t.id)):=by
 refine gG 9 ?_;intro g w d;exact⟨O,d.s⟩
def Io(lo:List Sv)(s:Sv):Nat :=
 if 16<=lo.length then 5 else if(decide (s.id<0)||decide (8<(s.rel.length:Int)))=true then 1 else if lo.any (λt=>t.id==s.id)=true then 7
 else if(((cx s.urls).1 !=0)||((cx s.calls).1 !=0))=true then 8 else 0
theorem Xix(a:Sv->Bool):∀(l:List Sv) (i:Nat),decide (0<=IK a l i)=l.any a
 | [],_=>rfl
 | s::r,i=>by
  rw[IK,zK];cases a s with
  | true=>simp
  | false=>simpa using Xix a r (i+1)
theorem nF{l:Lu}{po:Oa}{e a:Int}(h:Ei I l po e a):(e !=0)=((cx l).1 !=0)/\((cx l).1=0->∃p Q,po=some p/\cmp l=.ok Q/\Ej I p Q l.length):=by
 have key:∀c,cmp l=.error c->(cx l).1=c.1/\c.1≠0:=λc b=>by
  unfold cmp at b;unfold cx;split at b
  ·rename_i d;rw[Y7 d];cases b;exact⟨O,de⟩
  ·rename_i d
   rw[Y3 d]
   have:=(U9 l.length l 0 [] [] [] (Y9 _) O).1 c b
   rw[this.1];exact⟨O,this.2⟩
 have f:∀Q,cmp l=.ok Q->(cx l).1=0:=λQ b=>by
  unfold cmp at b;unfold cx;split at b
  ·cases b
  ·rename_i d
   rw[Y3 d,(U9 l.length l 0 [] [] [] (Y9 _) O).2 Q b]
 unfold Ei at h;cases b:cmp l with
 | ok Q =>
  rw[b]at h;obtain⟨p,rfl,rfl,rfl,k⟩:=h;rw[f Q b];exact⟨O,λ_=>⟨p,Q,O,O,k⟩⟩
 | error x =>
  obtain⟨c,m⟩:=x;rw[b]at h;obtain⟨rfl,rfl,rfl⟩:=h;obtain⟨g,i⟩:=key _ b;rw[g];exact⟨O,λj=>Aw j i⟩
theorem XZ(s:Sv)(u:Oa)(x:Nat)(ad:s.rel.length<=x)(F:s.rel.length<=1000000)(hu:s.urls.length<=9223372036854775807)(z:s.calls.length<=9223372036854775807)(a:Oa)(cap:Nat)(lo:List Sv)(A:lo.length<=100000)(hr:RS I u 1 s.rel.length (s.rel.map S))(N:La)(Z:∀w,Aa B w I N->jS w I a lo)(b:Aa B w I N):
  Cz 98 [.agg #[Ab s.id,AQ s.ord,S s.urls,.bool s.BZ,.bool s.Co,.bool s.back,S s.calls,.slice u s.rel.length x],.slice a lo.length cap] w λv w'=>∃J cs f,Le I J/\v=.tuple #[.agg (List.toArray cs),Ab ((f:Nat):Int)]/\f=Io lo s/\cs.length=10/\cs.all Value.oneCell'=true/\(f=0->B6 J s cs)/\Aa B w' J N:=by
 refine gG 7 ?_;intro y Y w b;refine gM 0 ?_ ?_<;>intro d H
 ·refine gH 3 ?_;intro w b;refine gG 0 (⟨I,_,5,Le.refl _,O,?_,O,O,λh=>(by cases h),b.s⟩);unfold Io;rw[Y7 (by simp only[decide_eq_true_eq]at d;omega)]
 refine gM 10 ?_ ?_<;>intro e K
 ·refine gH 3 ?_;intro w b;refine gG 0 (⟨I,_,1,Le.refl _,O,?_,O,O,λh=>(by cases h),b.s⟩);unfold Io;rw[Y3 (by simp only[decide_eq_false_iff_not]at d;omega),Y7 e]
 refine gG 0 ?_;replace b:=b.px [1];refine gP 2 [] (Xdh a cap lo A (λt=>t.id==s.id) 187 _ func187 O [ptr y 0] (Ad y [Ab s.id,AQ s.ord,S s.urls,.bool s.BZ,.bool s.Co,.bool s.back,S s.calls,.slice u s.rel.length x] 62::Ad Y [Ab 0,AQ 0,S [],.bool false,.bool false,.bool false,S [],.slice none 0 0,.pointer none,.pointer none] 208::N) (λw h=>Z w ((h.drop (k:=0) O).drop (k:=0) O)) (λt c ht w h=>by
 obtain⟨ta,tc,tp,tq,_,_,rfl,_⟩:=ht;exact Sh t s ta u tc x tp tq y _ h)) ?_
 rintro _ w ⟨rfl,b⟩;rw[Xix];refine gM 1 ?_ ?_<;>intro g L
 ·refine gH 3 ?_;intro w b;refine gG 0 (⟨I,_,7,Le.refl _,O,?_,O,O,λh=>(by cases h),b.s⟩);unfold Io;rw[Y3 (by simp only[decide_eq_false_iff_not]at d;omega),Y3 (nB e),Y7 g]
 refine gC 2 (Xna _ _ b hu) ?_;rintro _ w ⟨po,e1,a1,J1,rfl,l,n,b⟩;refine gC 9 (Xna _ _ b z) ?_;rintro _ w ⟨qo,e2,a2,W,rfl,i,o,b⟩;refine gM 13 ?_ ?_<;>intro j M
 ·refine gH 3 ?_;intro w b;refine gG 0 (⟨W,_,8,Le.trans l i,O,?_,O,O,λh=>(by cases h),b.s⟩);have r:=j;rw[(nF n).1,(nF o).1]at r;unfold Io;rw[Y3 (by simp only[decide_eq_false_iff_not]at d;omega),Y3 (nB e),Y3 (nB g),Y7 r]
 refine gF 2 (Xn9 u x _ F ((hr.mono l).mono i)) ?_;rintro _ w ⟨X,U,V,rfl,m,E,G,b⟩;refine gH 8 ?_;intro w b;refine gG 0 ?_;have r:=j;rw[(nF n).1,(nF o).1]at r;obtain⟨P,R⟩:=G3.1 r;simp only[bne_eq_false_iff_eq]at P R
 obtain⟨p,Q,rfl,hq,hp⟩:=(nF n).2 P;obtain⟨q,T,rfl,D,C⟩:=(nF o).2 R;refine⟨X,QJ s U V p q,0,Le.trans l (Le.trans i m),O,?_,O,O,λ_=>⟨U,V,p,q,Q,T,O,E,G,hq,hp.mono (Le.trans i m),D,C.mono m⟩,b.s⟩;unfold Io;rw[Y3 (by simp only[decide_eq_false_iff_not]at d;omega),Y3 (nB e),Y3 (nB g),Y3 (nB r)]
def Hn(I:Im)(b:Addr)(lo:List Sv):Prop:=∃a c E,At I b [.slice a lo.length c]/\lo.length<=c/\Dp I a E lo
theorem Dp.mono{E:List Lv}{l:List Sv}(h:Dp I a E l)(b:Le I J):Dp J a E l:=⟨h.1,λi s r=>by
 obtain⟨p,c,e,f,g,v,w,t,u,Q,T,d,j,k,m,n,o,q⟩:=h.2 i s r;exact⟨p,c,e,f,g.mono b,v,w,t,u,Q,T,d,j,k.mono b,m,n.mono b,o,q.mono b⟩⟩
def Lw(J:Im)(C:List Lv)(l:List Sv):Prop:=C.length=l.length/\∀(i:Nat) (s:Sv),l[i]?=some s->∃c,C[i]?=some c/\Fv J s c
theorem Lw.mono{K:Im}{C:List Lv}{l:List Sv}(h:Lw J C l)(d:Le J K):Lw K C l:=⟨h.1,λi s e=>by
 obtain⟨c,a,b⟩:=h.2 i s e;exact⟨c,a,b.mono d⟩⟩
theorem Xzx:prog.info? 208=some t208:=by kernel_rfl
theorem lh{l:List Sv}(h:∀(j:Nat) t,j<i->l[j]?=some t->bad l j t=0)(hi:i<=l.length):i<=16:=by
 rcases Yz 16 i with a|a
 ·have:=h 16 _ a (Y2 om)
  unfold bad at this;rw[Y7 O]at this;cases this
 ·exact a
theorem Xv2{l:List Sv}{s:Sv}(hi:i<=16)(a:i<=l.length):Io (l.take i) s=bad l i s:=by
 unfold Io bad;rw[Yj,JT a]
 by_cases h:i=16
 ·rw[Y7 om,Y7 h]
 ·rw[Y3 om,Y3 h]
theorem l7(s:Sv)(g:Oa)(h:Nat)(f:s.rel.length<=h)(e:s.rel.length<=1000000)(m:s.urls.length<=9223372036854775807)(c:s.calls.length<=9223372036854775807)(a:Oa)(cap:Nat)(lo:List Sv)(n:Nat)(k:lo.length=n)(d:n<=100000)(l:RS I g 1 s.rel.length (s.rel.map S))(N:La)(i:∀w,Aa B w I N->jS w I a lo)(j:Aa B w I N):
  Cz 98 [.agg #[Ab s.id,AQ s.ord,S s.urls,.bool s.BZ,.bool s.Co,.bool s.back,S s.calls,.slice g s.rel.length h],.slice a n cap] w λv w'=>∃J cs b,Le I J/\v=.tuple #[.agg (List.toArray cs),Ab ((b:Nat):Int)]/\b=Io lo s/\cs.length=10/\cs.all Value.oneCell'=true/\(b=0->B6 J s cs)/\Aa B w' J N:=by
 subst k;exact XZ s g h f e m c a cap lo d l N i j
theorem lE{T:Nat}{E:List Lv}{l:List Sv}(e:Aa B w I N)(g:l.length=n)(f:N[k]?=some (Ao T 10 (.slice a n cap) n E.flatten))(b:∀c∈E,c.length=10)
  (d:∀(i:Nat) (s:Sv),l[i]?=some s->∃c,E[i]?=some c/\B6 I s c):jS w I a l:=by
 subst g;exact WG e f b d
theorem B6.mono{s:Sv}{l:Lv}(h:B6 I s l)(a:Le I J):B6 J s l:=by
 obtain⟨m,n,j,k,Q,T,b,c,d,e,f,g,i⟩:=h;exact⟨m,n,j,k,Q,T,b,c,d.mono a,e,f.mono a,g,i.mono a⟩
def LL(l:List Sv)(D:List Int):List Sv:=D.map λd=>l.getD d.toNat z0
theorem cF(a:Oa)(cap:Nat)(l:List Sv)(S:l.length<=20)(b4:∀v∈De l,v<18446744073709551616)(a7:∀s∈l,s.urls.length<=9223372036854775807/\s.calls.length<=9223372036854775807/\s.rel.length<=1000000)(hl:Cy I a l)(N:La)(b:Aa B w I N):
  Cz 52 [.slice a l.length cap] w λv w'=>∃J,Le I J/\Aa B w' J N/\(((HC l).1≠0/\v=.tuple #[.pointer none,Ab ((HC l).1:Nat),Ab ((HC l).2:Nat)])\/((HC l).1=0/\∃pr D,v=.tuple #[.pointer (some pr),Ab 0,Ab 0]/\Be.Ord (kx (De l)) l.length D/\Hn J pr (LL l D))):=by
 refine gG 8 ?_;replace b:=b.Al 27 1;replace b:=b.Al 208 10;refine .lk [14,15] (σ:=Nat×Im×Va×Va×List Lv) (λ(i,J,ev,ov,E) _m=>(5,ev)::(6,ov)::(16,Ab (i:Nat))::_m) (λ(i,J,ev,ov,E) w=>i<=l.length/\Le I J/\E.length=i/\(∀c∈E,c.length=10)/\(∀(j:Nat) (s:Sv),(l.take i)[j]?=some s->∃c,E[j]?=some c/\B6 J s c)/\(∀(j:Nat) (t:Sv),j<i->l[j]?=some t->bad l j t=0)/\Aa B w J (Ao 208 10 ev i E.flatten::Ao 27 1 ov i (((De l).take i).map AQ)::N)) (λ(i,J,ev,ov,E)=>l.length-i) (0,I,.slice none 0 0,.slice none 0 0,[]) ⟨Y5 _,Le.refl _,O,λ_ h=>(by simp at h),λ_ _ h=>(by simp at h),λ_ _ h=>Aw h om,b⟩ ?_;rintro⟨i,J,ev,ov,E⟩ w ⟨hi,hJ,M,L,n,U,b⟩;refine gN 1 ?_ ?_<;>intro cg
 ·refine gG 0 ?_;obtain⟨s,hs⟩:∃s,l[i]?=some s:=⟨_,Y2 om⟩
  obtain⟨p,ra,rc,rfl,hx,b6,hr⟩:=(hl.mono hJ) i s hs;have ag:=lh U hi;have an:=a7 s (Y8 hs);have S:(l.take i).length=i:=by rw[Yj];omega
  have am:((De l).take (i+1)).map AQ=((De l).take i).map AQ++[AQ s.ord]:=by
   rw[Yv,De,Yu,hs,Yn];rfl
  have ao:l.take (i+1)=l.take i++[s]:=by rw[Yv,hs];rfl
  obtain⟨ea,ec,rfl,bx,_⟩:=b.vS 0;obtain⟨oa,oc,rfl,b3,_⟩:=b.vS 1;refine gH 8 ?_;intro b8 w b;refine gP 0 [] (l7 s ra rc b6 an.2.2 an.1 an.2.1 ea ec _ i S om hr _ (λw h=>lE h S (k:=1) O L n)) ?_;rintro _ w ⟨J2,cs,ax,g,rfl,C,al,a4,m,b⟩;refine gH 4 ?_;intro b9 w b;refine .so b (k:=0) O O O a4 jX al sz ?_;intro w b;try dsimp only[List.set]at b
  try simp only[Il,CS,Yx,Em,EW,o0,Yl]at b
  refine gN 3 ?_ ?_<;>intro ch
  ·refine gG 5 ?_;have a5:=Xv2 (l:=l) (i:=i) (s:=s) ag om;have a6:bad l i s≠0:=by rw[<-a5,<-C];omega
   have hw:=TA U hs a6;refine⟨J2,Le.trans hJ g,b.s,.inl ⟨by rw[hw];exact a6,?_⟩⟩;rw[hw,C,a5]
   done
  refine gG 0 ?_;have K:ax=0:=om
  obtain⟨sa,sc,pp,qq,Q,T,rfl,b7,m⟩:=m K;have F:B6 J2 s (QJ s sa sc pp qq):=⟨sa,sc,pp,qq,Q,T,O,b7,m⟩
  have A:bad l i s=0:=by rw[<-Xv2 (l:=l) (i:=i) ag om,<-C,K]
  refine gD [0,0] [] [0,1,4,5,6] ?_;intro w b;refine gH 5 (gB 2 7 [] [2,3,8,9,10] ?_ ?_)
  ·refine gH 1 ?_;intro bl w b;refine gH 0 (gB 3 7 [7,8,9,10] [3,8,9,10] ?_ ?_)
   ·refine gH 1 ?_;intro W Z G w b;refine gH 1 ?_;intro aw w b;refine gH 1 ?_;intro X aa H w b;refine gG 4 ?_;have o:=((b.drop (k:=0) O).drop (k:=0) O)
    refine rd (i+1,J2,.slice W (i+1) Z,.slice X (i+1) aa,E++[QJ s sa sc pp qq]) ⟨om,Le.trans hJ g,by rw[Y0,M];rfl,λc V=>?_,λj u f=>?_,λj u hj f=>?_,?_⟩
    ·rcases Yt.1 V with h|h
     ·exact L c h
     ·simp at h;subst h;rfl
    ·(try dsimp only at f)
     rw[ao]at f;rcases Yz j i with y|y
     ·rw[Yf om]at f;obtain⟨c,e1,e2⟩:=n j u f;exact⟨c,by rw[Yf om];exact e1,e2.mono g⟩
     ·rw[Yy om,S]at f;have r:j-i=0:=by have:=(Y1.1 f).1;simp at this;omega
      rw[r]at f;cases f
      exact⟨_,by rw[Yy om,M,r];rfl,F⟩
    ·rcases Yz j i with y|y
     ·exact U j u y f
     ·have e:j=i:=by(try dsimp only at hj);omega
      subst e;rw[hs]at f;cases f;exact A
    ·(try dsimp only)
     rw[am,T5];simpa[QJ]using o
   ·refine gH 1 ?_;intro aw w b;refine gH 1 ?_;intro W Z G w b;refine gH 1 ?_;clear b;intro X aa H w b;refine gG 4 ?_;have o:=((b.drop (k:=0) O).drop (k:=0) O)
    refine rd (i+1,J2,.slice W (i+1) Z,.slice X (i+1) aa,E++[QJ s sa sc pp qq]) ⟨om,Le.trans hJ g,by rw[Y0,M];rfl,λc V=>?_,λj u f=>?_,λj u hj f=>?_,?_⟩
    ·rcases Yt.1 V with h|h
     ·exact L c h
     ·simp at h;subst h;rfl
    ·(try dsimp only at f)
     rw[ao]at f;rcases Yz j i with y|y
     ·rw[Yf om]at f;obtain⟨c,e1,e2⟩:=n j u f;exact⟨c,by rw[Yf om];exact e1,e2.mono g⟩
     ·rw[Yy om,S]at f;have r:j-i=0:=by have:=(Y1.1 f).1;simp at this;omega
      rw[r]at f;cases f
      exact⟨_,by rw[Yy om,M,r];rfl,F⟩
    ·rcases Yz j i with y|y
     ·exact U j u y f
     ·have e:j=i:=by(try dsimp only at hj);omega
      subst e;rw[hs]at f;cases f;exact A
    ·(try dsimp only)
     rw[am,T5];simpa[QJ]using o
  ·refine gH 1 ?_;clear b;intro aw w b;refine gH 1 ?_;clear b;intro bl w b;refine gH 1 ?_;clear b;intro W Z G w b;refine gH 1 ?_;clear b;intro X aa H w b;refine gG 4 ?_;have o:=((b.drop (k:=0) O).drop (k:=0) O)
   refine rd (i+1,J2,.slice W (i+1) Z,.slice X (i+1) aa,E++[QJ s sa sc pp qq]) ⟨om,Le.trans hJ g,by rw[Y0,M];rfl,λc V=>?_,λj u f=>?_,λj u hj f=>?_,?_⟩
   ·rcases Yt.1 V with h|h
    ·exact L c h
    ·simp at h;subst h;rfl
   ·(try dsimp only at f)
    rw[ao]at f;rcases Yz j i with y|y
    ·rw[Yf om]at f;obtain⟨c,e1,e2⟩:=n j u f;exact⟨c,by rw[Yf om];exact e1,e2.mono g⟩
    ·rw[Yy om,S]at f;have r:j-i=0:=by have:=(Y1.1 f).1;simp at this;omega
     rw[r]at f;cases f
     exact⟨_,by rw[Yy om,M,r];rfl,F⟩
   ·rcases Yz j i with y|y
    ·exact U j u y f
    ·have e:j=i:=by(try dsimp only at hj);omega
     subst e;rw[hs]at f;cases f;exact A
   ·(try dsimp only)
    rw[am,T5];simpa[QJ]using o
 have bz:i=l.length:=om
 subst bz;have ba:(De l).length=l.length:=Ym ..;rw[Yk (Y9 _)]at n;rw[Yk om]at b;obtain⟨oa,oc,rfl,b3,_⟩:=b.vS 1;obtain⟨ea,ec,rfl,bx,_⟩:=b.vS 0;obtain⟨J1,a2,ae,P⟩:=b.fV 1;try dsimp only[List.eraseIdx]at P
 obtain⟨J2,g,bo,z⟩:=P.fV 0;clear b P;have b:=z;clear z;try dsimp only[List.eraseIdx]at b
 replace hJ:=Le.trans hJ (Le.trans a2 g);replace ae:=ae.mono g;replace n:=λj s h=>let⟨c,y,h2⟩:=n j s h;(⟨c,y,B6.mono h2 (Le.trans a2 g)⟩:∃c,E[j]?=some c/\B6 J2 s c)
 refine gG 3 ?_;clear b;intro Y w b;rw[<-ba]at ae ⊢;refine gF 1 (Qn _ b4 om oa oc ae) ?_;clear b;rintro _ w ⟨D,va,vc,rfl,hD,b⟩;obtain⟨J3,aj,a1,z⟩:=b.fV 0;clear b;have b:=z;clear z;try dsimp only[List.eraseIdx]at b
 replace hJ:=Le.trans hJ aj;rw[ba]at hD a1 ⊢;have bn:=hD.len;refine gG 2 ?_;replace b:=(b.Al 208 10).pick 1 O;try dsimp only[List.eraseIdx]at b
 refine .lk [5,11,44,45] (σ:=Va×Nat) (λ(kv,j) _m=>(46,Ab (j:Nat))::_m) (λ(kv,j) w=>j<=l.length/\Aa B w J3 (Ad Y [kv] 212::Ao 208 10 kv j (du E (D.take j)).flatten::N)) (λ(kv,j)=>l.length-j) (.slice none 0 0,0) ⟨Y5 _,b⟩ ?_;rintro⟨kv,j⟩ w ⟨hj,b⟩;refine gN 1 ?_ ?_<;>intro ci
 ·obtain⟨d,hd⟩:∃d,D[j]?=some d:=⟨_,Y2 om⟩
  have bt:d∈Be.BI l.length:=hD.2.mem_iff.1 (Y8 hd);have bv:=Be.Cp.1 bt;obtain⟨s,hs⟩:∃s,l[d.toNat]?=some s:=⟨_,Y2 om⟩
  obtain⟨c,V,ra,rc,pp,qq,Q,T,rfl,m⟩:=n d.toNat s hs;obtain⟨pe,rfl,b5⟩:=(bo.mono aj).2 om;have hx:=nR (b5.add (d.toNat*10)) 10;rw[aZ E L d.toNat _ V]at hx;have a9:(du E (D.take (j+1))).flatten=(du E (D.take j)).flatten++QJ s ra rc pp qq:=by
   unfold du;rw[Yv,hd,Yn,T5];simp[Ya,V]
  unfold QJ at hx a9;obtain⟨dp,rfl,bu⟩:=a1.2 om;obtain⟨ka,kc,rfl,a8,_⟩:=b.vS 1;have bw:((D.map Ab).drop ((j:Int).toNat*1))[0]?=some (Ab d):=by rw[GI];(try rw[Yh]);rw[Ca,DG,Yu,hd];rfl
  refine gH 1 (.val (.BG (v:=Ab d) (.of O) b (bu.add _) BP bw) O (gG 1 (.dw (λw=>∃R,Aa B w J3 (Ad Y [.slice ka j kc] 212::R)) (λj=>!([13].contains j)) ?_)));replace b:=b.drew;generalize w.drew=w at b ⊢;have hH:∃R,Aa B w J3 (Ad Y [.slice ka j kc] 212::R):=⟨_,(b.x [0])⟩
  refine .tp 0 O (λw=>(.mo O)) (.tp 1 O (λw=>(.mo O)) (.tp 2 O (λw=>(.no O)) ?_));refine .tp 3 O (λw=>(.fo 0 O Ju O O Jm O)) (.tk 4 O hH (λw ⟨R,b⟩=>((.lo O b (k:=0) O isAgg204 O))) (.tp 5 O (λw=>(.mo O)) (.tp 6 O (λw=>(.mo O)) ?_)));refine .tp 7 O (λw=>(.ii O O om om Jr jX)) (.tk 8 O hH (λw ⟨R,b⟩=>((.D7 (.of O) b hx isAgg208 jX O (λ_ _ h=>h)))) (.b1 9 O (.buildSlice (cs:=[_,_,_,_,_,_,_,_,_,_]) b (Lb O U_) Jr jX UW O O O O ?_)));clear b;intro cp w b;refine .nil ?_;clear hH;have hH:∃R,Aa B w J3 (Ad Y [.slice ka j kc] 212::R):=⟨_,(b.x [1])⟩
  refine⟨λ_ _=>hH,?_⟩;refine .b1 10 O (.append (size:=10) (bytes:=96) b (.of O) (.of O) (k:=1) O Jr Xzx O O O O O O O ⟨om,by unfold maxLen;omega⟩ O ?_);clear b;intro cd w b;try dsimp only[List.set]at b
  obtain⟨bk,bm,rfl,bi,_⟩:=b.AP (k:=1) (v:=cd) O;refine .nil ?_;clear hH;have hH:∃R,Aa B w J3 (Ad Y [.slice ka j kc] 212::R):=⟨_,(b.x [0])⟩
  refine⟨λ_ _=>hH,?_⟩;refine .tp 11 O (λw=>(.no O)) (.tp 12 O (λw=>(.fo 0 O Ju O O Jm O)) (.b1 13 O (.s1 b (k:=0) O O O O Jm sz ?_)));clear b;intro w b;try dsimp only[List.set]at b
  refine .nil ?_;refine And.intro (by intro h;cases h) ?_;refine .dn (gG 2 (rd (.slice bk (j+1) bm,j+1) ⟨om,?_⟩))
  (try dsimp only)
  rw[a9];exact b
 refine gG 4 ?_;have b0:j=l.length:=om
 subst b0;rw[Yk om]at b;obtain⟨ka,kc,rfl,a8,_⟩:=b.vS 1;obtain⟨J4,a3,bp,P⟩:=b.fV 1;try dsimp only[List.eraseIdx]at P
 obtain⟨J5,ak,bq,z⟩:=P.fZ 0;have hw:HC l=(0,0):=NG (λq t ht=>U q t (oh ((Y1.1 ht).1)) ht);have bc:(LL l D).length=l.length:=by unfold LL;rw[Ym,bn]
 refine⟨J5,Le.trans hJ (Le.trans a3 ak),z,.inr ⟨by rw[hw],_,D,O,hD,ka,kc,du E D,?_,by rw[bc];exact a8,by unfold du LL;rw[Ym,Ym],λq s hq=>?_⟩⟩
 ·rw[bc];exact⟨O,_,_,_,bq,λq v hq=>by simpa using hq⟩
 ·unfold LL at hq;rw[Yu]at hq;cases ab:D[q]? with
  | none=>rw[ab]at hq;cases hq
  | some d =>
   rw[ab]at hq;have bv:=Be.Cp.1 (hD.2.mem_iff.1 (Y8 ab));obtain⟨u,f⟩:∃u,l[d.toNat]?=some u:=⟨_,Y2 om⟩
   have ca:u=s:=by
    have h2:=hq;rw[dC,Ya,f]at h2;exact Option.some.inj h2
   subst ca;obtain⟨c,V,m⟩:=n d.toNat u f;have cr:=(Y1.1 ab).1;obtain⟨kp,rfl,b2⟩:=(bp.mono ak).2 om;have bb:(du E D)[q]?=some c:=by unfold du;rw[Yu,ab];simp[Ya,V]
   have a0:∀c∈du E D,c.length=10:=λc V=>by
    obtain⟨d',bs,rfl⟩:=Dj.1 V;have cj:=Be.Cp.1 (hD.2.mem_iff.1 bs);rw[Ya,Y2 om];exact L _ (iO _)
   have hx:=nR (b2.add (q*10)) 10;rw[aZ _ a0 q _ bb]at hx;exact⟨kp,c,O,bb,hx,m.mono (Le.trans aj (Le.trans a3 ak))⟩
theorem Xfn(b:Sv->Bool):∀(l:List Sv) (i:Nat),(IK b l i=-1/\l.find? b=none)\/(∃j s,IK b l i=((i+j:Nat):Int)/\l[j]?=some s/\b s=true/\l.find? b=some s)
 | [],_=>.inl ⟨O,O⟩
 | a::l,i=>by
  rw[IK,zG];cases g:b a with
  | true=>exact .inr ⟨0,a,O,O,g,O⟩
  | false =>
   rw[Y3 de];rcases Xfn b l (i+1)with⟨c,d⟩|⟨j,s,c,d,e,f⟩
   ·exact .inl ⟨c,d⟩
   ·exact .inr ⟨j+1,s,by rw[c];congr 1;omega,d,e,f⟩
theorem wa(a:Sv->Bool)(l:List Sv):(IK a l 0=-1/\l.find? a=none)\/(∃(j:Nat) (s:Sv),IK a l 0=(j:Int)/\l[j]?=some s/\a s=true/\l.find? a=some s):=by
 rcases Xfn a l 0 with h|⟨j,s,b,c⟩
 ·exact .inl h
 ·exact .inr ⟨j,s,by rw[b,Yl],c⟩
theorem ya{l:Lu}{Q:List Pl}(h:cmp l=.ok Q)(s:Lu):(Kw l s).1=vz Q s:=by unfold Kw;rw[h]
def Xk(lo:List Sv)(s:List UInt8):Sv×List UInt8×Nat :=
 if(Ul.nU s).2≠0 then(z0,[],(Ul.nU s).2)else if 100<(Ul.nU s).1.length then(z0,[],2)
 else match lo.find? (λt=>(Kw t.urls (Ul.nU s).1).1)with
  | none=>(z0,[],31)
  | some t=>(t,(Ul.nU s).1,0)
abbrev jo:Lu:=[104,116,116,112,115,58]
def c6(lo:List Sv)(a:Int)(s:List UInt8):List UInt8×Bool :=
 match lo.find? (λt=>t.id==a)with
 | none=>([],false)
 | some u=>if(((((Ul.nU s).2:Int)!=0||decide (100<((Ul.nU s).1.length:Int)))||!(AW (Ul.nU s).1 jo))||!((Kw u.calls (Ul.nU s).1).1))=true then([],false)else((Ul.nU s).1,true)
theorem Xs4(pr:Addr)(lo:List Sv)(L:lo.length<=100000)(W:∀s∈lo,s.rel.length<=1000000)(s:Lu)(hs:s.length<=1000000)(a:Oa)(cc:Nat)(E:List Lv)(hK:AJ I)(G:At I pr [.slice a lo.length cc])(hE:Dp I a E lo)(N:La)(b:Aa B w I N):
  Cz 263 [.pointer (some pr),S s] w λv w'=>∃J u c n e,Le I J/\v=.tuple #[.agg (List.toArray c),S n,Ab ((e:Nat):Int)]/\Fv J u c/\Xk lo s=(u,n,e)/\Aa B w' J N:=by
 refine gH 4 ?_;intro b4 w b;refine gE 0 (wm s hs hK) ?_;intro w b;refine gG 13 ?_;intro o w b;refine gM 0 ?_ ?_<;>intro g ae
 ·refine gT 3 (λA C=>?_);refine gH 5 ?_;intro w b;refine .nil (.ret ?_);refine λ_ d=>iA d b (k:=1) O Qt Ib O O O O ?_
  exact⟨_,O,I,z0,_,[],2,Le.refl _,O,⟨none,0,O,Y9 _,RS.nil _ _⟩,(by unfold Xk;rw[Y3 (by simp at g;omega),Y7 (by simp at g;omega)]),(b.y 0 2)⟩
 refine gM 2 ?_ ?_<;>intro A C
 ·refine gH 5 ?_;intro w b;refine .nil (.ret ?_);refine λ_ d=>iA d b (k:=1) O Qt Ib O O O O ?_
  exact⟨_,O,I,z0,_,[],_,Le.refl _,O,⟨none,0,O,Y9 _,RS.nil _ _⟩,(by unfold Xk;rw[Y7 om]),(b.y 0 2)⟩
 have hz:(Ul.nU s).2=0:=om
 have M:(Ul.nU s).1.length<=100:=by
  rw[hz]at g;simp at g
  omega
 refine gP 5 [] (vT a cc lo L (λt=>(Kw t.urls (Ul.nU s).1).1) 349 _ func349 O [ptr o 0] (Ad o [S (Ul.nU s).1] 9::Ad b4 [Ab 0,AQ 0,S [],.bool false,.bool false,.bool false,S [],.slice none 0 0] 62::N) (λw h=>hE.now h) (λt c ht w h=>by
 obtain⟨ta,tc,tp,tq,Q,_,rfl,_,_,H,F,_⟩:=ht;refine(RX H ta tc tp tq (Ul.nU s).1 om o F _ h).mono λe w' ⟨v,e1,e2,e3⟩=>⟨v,e1,?_,e3⟩
 rw[e2,ya H])) ?_
 rintro _ w ⟨rfl,b⟩;refine gN 3 ?_ ?_<;>intro m
 ·refine gH 4 ?_;intro w b;refine .nil (.ret ?_);refine λ_ d=>iA d b (k:=1) O Qt Ib O O O O ?_
  exact⟨_,O,I,z0,_,[],31,Le.refl _,O,⟨none,0,O,Y9 _,RS.nil _ _⟩,(by
   have P:lo.find? (λt=>(Kw t.urls (Ul.nU s).1).1)=none:=by
    rcases wa (λt=>(Kw t.urls (Ul.nU s).1).1) lo with⟨_,h⟩|⟨j,u,K,_⟩
    ·exact h
    ·exfalso;rw[K]at m;omega
   unfold Xk;rw[Y3 om,Y3 om,P]),(b.y 0 2)⟩
 refine gG 0 ?_;rcases wa (λt=>(Kw t.urls (Ul.nU s).1).1) lo with⟨D,_⟩|⟨j,u,K,Z,ar,r⟩
 ·exfalso;rw[D]at m;omega
 rw[K];obtain⟨p,c,rfl,hc,aa,ra,rc,pp,qq,Q,T,rfl,au,X,H,ap,hT,aq⟩:=hE.2 j u Z;have an:=(Y1.1 Z).1;have Y:=W u (Y8 Z);have hx:=nR aa 8;simp only[QJ,Q9,Il]at hx
 refine .dw (λw=>∃f R,Le I f/\Aa B w f (Ad o [S (Ul.nU s).1] 9::R)) (λj=>!([].contains j)) ?_;replace b:=b.drew;generalize w.drew=w at b ⊢;have i:∃f R,Le I f/\Aa B w f (Ad o [S (Ul.nU s).1] 9::R):=⟨_,_,Le.refl _,(b.x [0])⟩
 refine .tp 0 O (λw=>(.mo O)) (.tp 1 O (λw=>(.no O)) ?_);refine .tp 2 O (λw=>(.fi 0 O Ju O O Jm O)) (.tk 3 O i (λw ⟨f,R,l,b⟩=>((.BG (.of O) b (At.add (G.mono l) _) isAgg204 O))) (.tp 4 O (λw=>(.mo O)) (.tp 5 O (λw=>(.ii O O om om Jr jX)) (.tp 6 O (λw=>(.fi 0 O Jt O O Ib O)) (.tk 7 O i (λw ⟨f,R,l,b⟩=>((.D7 (.of O) b (hx.mono l) Qt Ib O (λ_ _ h=>h)))) (.tk 9 O i (λw ⟨f,R,l,b⟩=>((.lo O b (k:=0) O Bq O))) (.b1 8 O (.call func351 O (AM O X3) O (fl u ra rc Y X _ b) ?_))))))));rintro _ w ⟨J2,cs,q,rfl,z,b⟩;obtain⟨sa,sc,rfl,U,V⟩:=z;have z:Fv J2 u (g_ u sa sc):=⟨sa,sc,O,U,V⟩
 refine .nil ?_;clear i;have i:∃f R,Le I f/\Aa B w f (Ad o [S (Ul.nU s).1] 9::R):=⟨_,_,q,(b.x [0])⟩
 refine⟨λ_ _=>i,?_⟩;refine .b1 10 O (.so b (k:=1) O O O O Ib O sz ?_);intro w b;refine .nil ?_;clear i;have i:∃f R,Le I f/\Aa B w f (Ad o [S (Ul.nU s).1] 9::R):=⟨_,_,q,(b.x [0])⟩
 refine⟨λ_ _=>i,?_⟩;refine .tp 11 O (λw=>(.ao O)) (.tp 12 O (λw=>(.ao O)) (.dn ?_));refine .ret (λ_ d=>iA d b (k:=1) O Qt Ib O O O O ?_);exact⟨_,O,J2,u,_,(Ul.nU s).1,0,q,O,z,(by unfold Xk;rw[Y3 om,Y3 om,r]),(b.y 0 2)⟩
theorem Xns(G:Addr)(lo:List Sv)(r:lo.length<=100000)(U:∀s∈lo,s.rel.length<=1000000)(i:Int)(s:Lu)(W:s.length<=1000000)(a:Oa)(z:Nat)(E:List Lv)(H:AJ I)(D:At I G [.slice a lo.length z])(A:Dp I a E lo)(N:La)(e:Aa B w I N):
  Ce B I N 383 [.pointer (some G),Ab i,S s] w (.tuple #[S (c6 lo i s).1,.bool (c6 lo i s).2]):=by
 refine gH 4 ?_;intro l w e;refine gE 0 (wm s W H) ?_;intro w e;refine gP 10 [] (vT a z lo r (λt=>t.id==i) 417 _ func417 O [ptr l 0] (Ad l [Ab i] 3::N) (λw h=>A.now h) (λt c X w h=>by
 obtain⟨ta,tc,tp,tq,Q,_,rfl,_,_,J,C,_⟩:=X;exact Rm t ta tc tp tq i l _ h)) ?_
 rintro _ w ⟨rfl,e⟩;refine gG 1 ?_;have q:=wa (λt=>t.id==i) lo;rcases q with⟨n,k⟩|⟨j,u,K,F,P,g⟩
 ·have f:decide (IK (λt=>t.id==i) lo 0<0)=true:=by rw[n];rfl
  refine gH 13 (.AA (T:=λw=>Aa B w I (Ad l [Ab i] 3::N)) O O O Jc O (λb=>(X4 (.gd b O) (AM O X3))) O (λb=>QK (pq (Ul.nU s).1 _ w (ot b) de) e) e ?_);clear e;rintro w e;refine gH 4 (.Am (v:=.bool false) O O (λb=>Aw b (by simp[f])) O (.Am (v:=.bool false) O O (λb=>Aw b (by simp[f])) O (.Am (v:=.bool false) O O (λb=>Aw b (by simp[f])) O (.Am (v:=.bool false) O O (λb=>Aw b (by simp[f])) O (.Am (v:=.bool false) O O (λb=>Aw b (by simp[f])) O (.Am (v:=.bool false) O O (λb=>Aw b (by simp[f])) O (.Am (v:=.bool false) O O (λb=>Aw b (by simp[f])) O (.Am (v:=.bool false) O O (λb=>Aw b (by simp[f])) O (.Am (v:=.bool false) O O (λb=>Aw b (by simp[f])) O (.Am (v:=.bool false) O O (λb=>Aw b (by simp[f])) O ?_))))))))));refine gM 1 ?_ ?_<;>intro d m
  ·refine gG 2 (⟨?_,e.s⟩);unfold c6;rw[k]
  refine gH 3 (.nil (.ret ?_));refine λ_ y=>mB y O O ?_
  exfalso
  rw[f]at d;simp at d
 ·rw[K];obtain⟨p,c,rfl,hc,Y,ra,rc,pp,Z,Q,T,rfl,R,V,J,M,o,x⟩:=A.2 j u F;have L:=(Y1.1 F).1;refine gH 13 (.AA (T:=λw=>Aa B w I (Ad l [Ab i] 3::N)) O O O Jc O (λb=>(X4 (.gd b O) (AM O X3))) O (λb=>QK (pq (Ul.nU s).1 _ w (ot b) de) e) e ?_);clear e;rintro w e;refine gH 12 (.AA (T:=λw=>Aa B w I (Ad l [Ab i] 3::N)) O O O func350 O (λb=>(X4 (.gd b O) (X4 (.gd b O) X3))) O (λb=>Xnk o Z (Ul.nU s).1 (ot b) _ e x) e ?_);clear e;rintro w e;refine gM 2 ?_ ?_<;>intro d m
  ·refine gG 2 (⟨?_,e.s⟩);unfold c6;rw[g];simp only
   rw[show decide ((j:Int)<0)=false from decide_eq_false om,dD]at d;rw[Y7 (by rw[ya o];exact d)]
  refine gG 3 (⟨?_,e.s⟩);unfold c6;rw[g];simp only
  rw[show decide ((j:Int)<0)=false from decide_eq_false om,dD]at d;rw[Y3 (by rw[ya o,qO];exact d)]
  done
theorem Ex.lX{t:TypeId}{g:Option (Nat×Bool)}{x y:Operand}{l:Lu}{c:Ui}(hx:Ev n L x (S l))(o:Ev n L y (Ba i))(e:l[i]?=some c)(m:P.underlying t=some .string):Ex P n L w ⟨d,.index t x y,ty,pos,af,g⟩ (U8 c.toNat) w :=
 λa b=>by
  have p:i<l.length:=(Y1.1 e).1;have f:=(Y1.1 e).2;have j:0<=(i:Int)/\(i:Int)<((ByteArray.size ⟨l.toArray⟩:Nat):Int):=⟨om,by show(i:Int)<(l.length:Int);omega⟩
  have h:=run_index_string (P:=P) w t ⟨l.toArray⟩ .u64 i m;rw[dif_pos j]at h;have k:(⟨l.toArray⟩:ByteArray)[((i:Nat):Int).toNat]'(by show((i:Nat):Int).toNat<l.length;omega)=c:=f;rw[k]at h;simp[execOp,hx a b,o a b,h]
theorem Ex.DA{g:Option (Nat×Bool)}{x:Operand}{l:Lu}(hx:Ev n L x (.slice (some (ad b o)) m cap))(t:l.length=m)(e:Aa B w I N)(s:N[k]?=some (Ad b cs E))(u:P.underlying src=some (.slice E))(r:P.underlying E=some (.int .u8))(q:P.underlying dst=some .string)
  (p:∀j (c:j<l.length),cs[o+j]?=some (U8 (l[j].toNat:Int))):Ex P n L w ⟨d,.convert src dst x,ty,pos,af,g⟩ (S l) w:=λa f=>by
 subst t;have i:=e.block s;have h:=run_convert_bytes_back (P:=P) w src dst E (ad b o) cap l u r q (λj c=>by rw[C7];exact Xx i (p j c));simp[execOp,hx a f,h]
theorem fQ(d i:Nat):((d:Nat):Int)/2^(4*(i:Int)).toNat=((d/16^i:Nat):Int):=by
 rw[show(4*(i:Int)).toNat=4*i by omega,show(16:Nat)^i=2^(4*i)by rw[Nat.pow_mul],Int.natCast_ediv,Int.natCast_pow];rfl
theorem yW(k:Int):(IX k).length<=6:=by
 unfold IX;split
 ·simp
 ·rename_i h
  have:k=1\/k=2\/k=3\/k=4\/k=5\/k=6:=om
  rcases this with e|e|e|e|e|e<;>(subst e;decide)
def dg(n:Nat):Ui:=if n<10 then UInt8.ofNat (48+n)else UInt8.ofNat (87+n)
theorem lP(h:n<16):Lh[n]?=some (dg n):=(by decide:∀n:Fin 16,Lh[n.val]?=some (dg n.val)) ⟨n,h⟩
theorem Xoj:∀(k n:Nat),LO (k+1) n=dg (n/16^k%16)::LO k n
 | 0,n=>by simp[LO,dg]
 | k+1,n=>by
  rw[LO,Xoj k (n/16),Nat.div_div_eq_div_mul,<-Nat.pow_succ',DV,LO]
theorem PS{α:Type}(z v:α)(X:List α):∀n:Nat,(List.replicate (n+1) z++X).set n v=List.replicate n z++v::X
 | 0=>rfl
 | n+1=>by
  rw[List.replicate_succ,DV,List.set_cons_succ,PS z v X n];rfl
def lay(i d:Nat):Lv:=List.replicate (16-i) (U8 0)++Aj (LO i d)
theorem eF{d:Nat}(h:i<=16):(lay i d).length=16:=by
 unfold lay;rw[Y0,oP,Ym,tx];omega
theorem eG{d:Nat}(h:i<16):(lay i d).set (15-i) (U8 (dg (d/16^i%16)).toNat)=lay (i+1) d:=by
 unfold lay;rw[show 16-i=(15-i)+1 by omega,PS,show 16-(i+1)=15-i by omega,Xoj];rfl
theorem eE{d j:Nat}{D:Lu}(h:LO 16 d=D)(a:j<D.length):(lay 16 d)[0+j]?=some (U8 (D[j].toNat:Int)):=by
 have e:lay 16 d=Aj D:=by unfold lay;rw[h];rfl
 rw[e,Yl,Yu,Y2 a];rfl
theorem Uy(c:Int)(d:Nat)(r:d<18446744073709551616)(q:AR I)(N:La)(e:Aa B w I N):
  Ce B I N 415 [Ab c,Ba (d:Nat)] w (if IX c=[]then .tuple #[S [],Ab 8]else .tuple #[S (IX c++45::LO 16 d),Ab 0]):=by
 refine gE 3 (wx _ q) ?_;intro w e;refine gM 3 ?_ ?_<;>intro f o
 ·exact gG 2 ⟨by rw[Y7 (su f)],e⟩
 refine gG 0 ?_;refine .make (l:=16) e (.of O) (.of O) BC Xt O (by simp[t5]<;>omega) om O O O ?_;intro g w e;refine gG 1 (gG 3 (.lk [1,6,7,15] (σ:=Nat) (λi _m=>(16,Ab (i:Nat))::_m) (λi w=>i<=16/\Aa B w I (Ad g (lay i d) 5::N)) (λi=>16-i) 0 ⟨Y5 _,e⟩ ?_));rintro i w ⟨hi,e⟩;refine gN 1 ?_ ?_<;>intro p
 ·refine gH 8 (.val (.shr (.of O) (.of O) om (by show(4*(i:Int))<=64;omega)) O ?_);rw[fQ d i];refine .val (.iV (a:=d/16^i) (b:=15) (zu (Nat.div_le_self _ _) r) om (.of O) (.of O)) O ?_;rw[show(d/16^i)&&& 15=d/16^i%16 from Nat.and_two_pow_sub_one_eq_mod _ 4];refine .val (Ex.lX (l:=Lh) (.of O) (.of O) (lP (VG _ de)) Bb) O ?_;refine gH 1 (.s1 e (k:=0) O O O O Cw (by rw[eF hi];omega) ?_);intro w e;rw[show 0+(15-(i:Int)).toNat*1=15-i by omega,eG (show i<16 by omega)]at e;refine gG 2 (rd (i+1) ⟨om,e⟩)
 have h:i=16:=om
 subst h;have u:=yW c;have n:=tx 16 d;generalize m:LO 16 d=D at *;refine gH 3 (.val (Ex.DA (l:=D) (.of O) n e (k:=0) O BC BW Bb (λj t=>eE m t)) O ?_);exact gG 3 ⟨by rw[Y3 (su f),Yg];rfl,e.s⟩
end Go.Proofs.W9
namespace Gk
open Go
def CA(E:TypeId)(v:Va)(xs:Lv):X1:=λh =>
 (v=.slice none 0 0/\xs=[]/\h=[])\/
  (∃g cs p,v=.slice (some p) 0 0/\xs=[]/\h=[(g,Xd cs E)])\/∃g cap a rest,v=.slice (some ⟨g,List.length a,none⟩) xs.length cap/\h=[(g,Xd (a++xs++rest) E)]/\xs.length<=cap/\cap<=maxLen/\xs.length+rest.length=cap
section
variable {P:Program} {B w w':Wo} {I:Im} {N:La} {k:Nat} {E:TypeId} {v:Va} {xs:Lv}
theorem Aa.gn(a:Aa B w I N)(E:Nat):Aa B w I (CA E (.slice none 0 0) []::N):=by
 obtain⟨h,c,b⟩:=a;exact⟨h,⟨[],h,O,.inl ⟨O,O,O⟩,c⟩,b⟩
theorem Aa.HX(d:Aa B w I N)(f:N[k]?=some (CA E v xs)):∃a c,v=.slice a xs.length c/\xs.length<=c/\(xs≠[]->∃p,a=some p) :=
 d.CX f λ_ e=>by
  rcases e with⟨rfl,rfl,_⟩|⟨_,_,p,rfl,rfl,_⟩|⟨g,cap,i,rest,rfl,_,b,_⟩
  ·exact⟨none,0,O,Y9 _,λh=>Aw O h⟩
  ·exact⟨some p,0,O,Y9 _,λh=>Aw O h⟩
  ·exact⟨_,_,O,b,λ_=>⟨_,O⟩⟩
theorem Aa.aQ{x:Va}(b:Aa B w I N)(e:N[k]?=some (CA E v (x::xs))):∃g off c,v=.slice (some ⟨g,off,none⟩) (xs.length+1) c/\xs.length+1<=c :=
 b.CX e λ_ d=>by
  rcases d with⟨_,h,_⟩|⟨_,_,_,_,h,_⟩|⟨g,cap,f,rest,rfl,_,a,_⟩
  ·cases h
  ·cases h
  ·exact⟨_,_,_,O,a⟩
theorem Aa.mV(l:Aa B w I N)(s:N[k]?=some (CA E (.slice (some p) m c) xs)){j:Nat}(e:xs[j]?=some u):w.cell? (p.add j)=some u:=by
 obtain⟨g,v,q⟩:=l;obtain⟨z,A,t,n,i,_⟩:=v.at_ s;rcases n with⟨f,_⟩|⟨_,_,_,_,h,_⟩|⟨b,cap,d,rest,f,rfl,C,D,F⟩
 ·cases f
 ·subst h;simp at e
 ·injection f with a x y
  injection a with a
  subst a;have o:w.heap[b]?=some (Xd (d++xs++rest) E):=(q.perm t).own b _ sz;rw[show(⟨b,d.length,none⟩:Addr).add j=ad b (d.length+j) from C7 b d.length j];refine Xx o ?_;have r:=(Y1.1 e).1;rw[Yg,Yy om,kJ,Yf r];exact e
theorem Aa.gk{g off:Nat}{x:Va}(q:Aa B w I N)(s:N[k]?=some (CA E (.slice (some ⟨g,off,none⟩) n c) (x::xs))):Aa B w I (N.set k (CA E (sliced (some ⟨g,off,none⟩) 1 n c 1) xs)) :=
 q.say s λ_ r=>by
  rcases r with⟨i,_⟩|⟨_,_,_,_,h,_⟩|⟨b,cap,m,rest,i,rfl,o,t,p⟩
  ·cases i
  ·cases h
  ·injection i with a d j
   injection a with a
   injection a with a l
   subst a;subst j;subst l;simp only[Y4]at o p d
   by_cases f:c=1
   ·have e:xs=[]:=Yc om;subst e;refine .inr<|.inl ⟨g,_,⟨g,m.length,none⟩,?_,O,O⟩;unfold sliced;rw[Y7 f,d,f];rfl
   ·refine .inr<|.inr ⟨g,c-1,m++[x],rest,?_,by simp,om,om,om⟩;unfold sliced;rw[Y3 f,d,Y0];rfl
theorem Xdu(w:Wo)(t ty e:TypeId)(i:TypeInfo)(s:P.underlying t=some (.slice e))(hi:P.info? e=some i)
  (g off b f:Nat) (d:Array Va) (q:w.heap[g]?=some (.cells d e (0,0)))
  (a:Addr) (m c:Nat) (news:Lv) (r:news.length=m*i.size) (h:∀j u,news[j]?=some u->w.cell? (a.add j)=some u) (o:∀u∈news,u.oneCell'=true)
  (k:b+m<=f) (l:off+b*i.size+news.length<=d.size) :
  (Builtin.append_ #[t,t] ty #[.slice (some ⟨g,off,none⟩) b f,.slice (some a) m c]).run P w =
   .ok (.slice (some ⟨g,off,none⟩) (b+m) f) (w.setRow g (d.toList.take (off+b*i.size)++news++d.toList.drop (off+b*i.size+news.length)).toArray):=by
 have p:=run_firstCells_some (P:=P) w i.size m a m c news r h;have n:=run_storeCells_at P g (off+b*i.size) e news 0 d w q (su l) o;simp only[DG]at n
 simp[Builtin.append_,run_underlying s,Go.sizeOf,typeInfo,hi,Builtin.lenOf,k,p,Addr.add_lit,n]
theorem mW(z:Array Va)(a:z.size=1)(n:Nat):(Builtin.zeroCells z n).toList.length=n:=by rw[T4,size_zeroCells,a,Ca]
theorem Xgu(hS:Aa B w I N){t:TypeId}{i:TypeInfo}{z:Va}(X:P.underlying t=some (.slice E))(hi:P.info? E=some i)(hz:i.zero=some z)
  (a:i.size=1) (ac:i.bytes=bytes) (am:z.cells.size=1) (W:N[k]?=some (CA E v xs))    (G:news.length=m) (hm:0<m)
  (l:∀j u,news[j]?=some u->w.cell? (p.add j)=some u) (h1:∀u∈news,u.oneCell'=true) (s:xs.length+m<=maxLen) (f:(xs.length+m)*bytes<=140737488355328) :
  ∃v' w',(Builtin.append_ #[t,t] ty #[v,.slice (some p) m c]).run P w=.ok v' w'/\Aa B w' I (N.set k (CA E v' (xs++news))):=by
 subst ac;have o:k<N.length:=(Y1.1 W).1;have r:xs.length+m<=9223372036854775807:=by simp only[maxLen]at s;omega
 have n:∀(xs:Lv) (e:Nat),xs.length+m<=maxLen->∀(A5:La),Aa B w I A5->k<A5.length->Aa B (w.drew.alloc (.cells (xs.toArray++news.toArray++Builtin.zeroCells z.cells (grownCap w (xs.length+m) e E-(xs.length+m))) E)) I
   (A5.set k (CA E (.slice (some ⟨w.heap.size,0,none⟩) (xs.length+m) (grownCap w (xs.length+m) e E)) (xs++news))):=by
  intro xs e s A5 hS o;obtain⟨A0,W⟩:∃A0,A5[k]?=some A0:=⟨_,Y2 o⟩
  have af:=grownCap_ge w (xs.length+m) e E;have ae:grownCap w (xs.length+m) e E<=maxLen:=grownCap_le_maxLen w (xs.length+m) e E s;have T:=hS.drew.alloc (.cells (xs.toArray++news.toArray++Builtin.zeroCells z.cells (grownCap w (xs.length+m) e E-(xs.length+m))) E);have e1:(own w.drew.heap.size (.cells (xs.toArray++news.toArray++Builtin.zeroCells z.cells (grownCap w (xs.length+m) e E-(xs.length+m))) E))=Ad w.heap.size ((xs++news)++(Builtin.zeroCells z.cells (grownCap w (xs.length+m) e E-(xs.length+m))).toList) E:=by
   unfold Ad Xd
   congr 2
   apply Array.ext'
   simp
  rw[e1]at T;have ab:=T.say (k:=0) (A':=CA E (.slice (some ⟨w.heap.size,0,none⟩) (xs.length+m) (grownCap w (xs.length+m) e E)) (xs++news)) O (λ_ hh=>.inr<|.inr ⟨w.heap.size,_,[],_,by rw[Y0,G];rfl,by rw[CS];exact hh,by rw[Y0,G];exact af,ae,by
   rw[Y0,G,mW _ am];omega⟩)
  obtain⟨h,S,R⟩:=ab;obtain⟨q1,q2,rfl,ai,aj⟩:=S;obtain⟨J,K,hp,_,F,_⟩:=Ap.at_ W aj;obtain⟨Z,Q,M⟩:=F _ q1 ai;have g:=R.perm (hp.append_left q1)
  have:(q1++(J++K)).Perm ((q1++K)++J):=by
   rw[Yg];exact(Vy).append_left q1
  exact⟨Z,Q,(g.perm this).left.perm M.symm⟩
 obtain⟨g,S,R⟩:=hS;obtain⟨J,K,hp,ha,F,_⟩:=S.at_ W;rcases ha with⟨rfl,rfl,_⟩|⟨_,_,q,rfl,rfl,_⟩|⟨b,cap,d,rest,rfl,rfl,h3,h4,h5⟩
 ·have H:=run_append_nil (P:=P) w t ty E i z X hi hz p m c news (by rw[a,G,Ca]) l hm (by simp only[Yi,Yl]at r;omega) (by have hb:=f;simp only[Yi,Yl]at hb;omega);have C:=n [] 0 (su s) N ⟨g,S,R⟩ o;simp only[Yi,Yl,CS,u_]at C ⊢
  exact⟨_,_,H,C⟩
 ·have H:=run_append_grow (P:=P) w t ty E i z X hi hz q 0 0 [] sz (λj u Y=>by simp at Y) p m c news (by rw[a,G,Ca]) l om (by simp only[Yi,Yl]at r;omega) (growslice_fits om (su f));have C:=n [] 0 (su s) N ⟨g,S,R⟩ o;simp only[Yi,Yl,CS,u_]at C H ⊢
  exact⟨_,_,H,C⟩
 ·obtain⟨Z,Q,M⟩:=F (Ad b (d++xs++rest) E) _ O;have U:Aa B w I (N.set k (Ad b (d++xs++rest) E)):=⟨Z,Q,R.perm (hp.trans M.symm)⟩
  have V:(N.set k (Ad b (d++xs++rest) E))[k]?=some (Ad b (d++xs++rest) E):=by simp[o]
  have y:=U.block V
  by_cases D:xs.length+m<=cap
  ·have H:=Xdu (P:=P) w t ty E i X hi b d.length xs.length cap (d++xs++rest).toArray y p m c news (by rw[a,G,Ca]) l h1 D (by
    simp only[kS,Y0,a];omega)
   have e2:((d++xs++rest).take (d.length+xs.length*i.size)++news++(d++xs++rest).drop (d.length+xs.length*i.size+news.length)).toArray=(d++(xs++news)++rest.drop news.length).toArray:=by
    rw[a,Ca,<-Y0,VE,zD,Yo (by omega:(d++xs).length<=(d++xs).length+news.length)]
    simp
   rw[e2]at H;refine⟨_,_,H,?_⟩;have hw:=U.write (w':=w.setRow b (d++(xs++news)++rest.drop news.length).toArray) (o':=Xd (d++(xs++news)++rest.drop news.length) E) V O O O (setRow_heap w b _ _ E _ y) (λx hx=>setRow_other w b x _ hx);have ak:=hw.say (k:=k) (A:=own b (Xd (d++(xs++news)++rest.drop news.length) E)) (A':=CA E (.slice (some ⟨b,d.length,none⟩) (xs.length+m) cap) (xs++news)) (by simp[o]) (λ_ hh=>.inr<|.inr ⟨b,cap,d,rest.drop news.length,by rw[Y0,G],hh,by rw[Y0,G];exact D,h4,by
    rw[Y0,Y6];omega⟩)
   simpa using ak
  ·have L:∀j u,xs[j]?=some u->w.cell? ((⟨b,d.length,none⟩:Addr).add j)=some u:=λj u Y=>by
    rw[show(⟨b,d.length,none⟩:Addr).add j=ad b (d.length+j) from C7 b d.length j];refine Xx y ?_;have hj:=(Y1.1 Y).1;rw[Yg,Yy om,kJ,Yf hj];exact Y
   have H:=run_append_grow (P:=P) w t ty E i z X hi hz ⟨b,d.length,none⟩ xs.length cap xs (by rw[a,Ca]) L p m c news (by rw[a,G,Ca]) l om om (growslice_fits om f);exact⟨_,_,H,n xs cap s N ⟨g,S,R⟩ o⟩
theorem WL.dJ{d:Nat}{t:TypeId}{x y:Operand}{i:TypeInfo}{z:Va}(o:Aa B w I N)(hx:Ev n L x v)(M:Ev n L y (.slice a m c))(g:RS I a 1 m news)
  (A:N[k]?=some (CA E v xs)) (J:P.underlying t=some (.slice E)) (hi:P.info? E=some i) (U:i.zero=some z) (b:i.size=1) (r:i.bytes=bytes) (F:z.cells.size=1)
  (Q:news.all Value.oneCell'=true) (e:(xs.length+m)*bytes<=140737488355328/\xs.length+m<=maxLen) (H:Nat.blt d n=true)
  (h:∀G w',Aa B w' I (N.set k (CA E G (xs++news)))->WL P n ops K rest ((d,G)::L) w') :
  WL P n ops K (⟨some d,.call ⟨.builtin .append,#[x,y],#[t,t]⟩,ty,pos,af,none⟩::rest) L w:=by
 rcases JP m with l|l
 ·subst l;have D:news=[]:=Yc (su g.1);subst D;obtain⟨a0,c0,rfl,s,_⟩:=o.HX A;have g:(Builtin.append_ #[t,t] ty #[.slice a0 xs.length c0,.slice a 0 c]).run P w=.ok (.slice a0 xs.length c0) w:=by
   cases a0<;>cases a<;>simp[Builtin.append_,run_underlying J,Go.sizeOf,typeInfo,hi,Builtin.lenOf,Builtin.firstCells,loadCells,loadCellsFrom,storeCells,s]
  have R:=h (.slice a0 xs.length c0) w (by
   have:N.set k (CA E (.slice a0 xs.length c0) (xs++[]))=N:=by
    rw[Yx]
    have:=(Y1.1 A).2
    rw[<-this,kL]
   rw[this];exact o)
  refine .val (w':=w) (λa f=>?_) H R;simp[execOp,resolve,invoke,builtin,hx a f,M a f,g]
 ·obtain⟨p,rfl,S⟩:=g.2 l;obtain⟨G,w',C,q⟩:=Xgu (P:=P) (ty:=ty) o J hi U b r F A (p:=p) (m:=m) (c:=c) (oh g.1) l (λj u T=>JH o S T) (Dy.1 Q) e.2 e.1
  refine .val (w':=w') (λa f=>?_) H (h _ _ q);simp[execOp,resolve,invoke,builtin,hx a f,M a f,C]
end
end Gk
namespace Go.Proofs.W9
open Gk Ul Pc Tk Tr
open Tryz
theorem Uu(c:Nat)(a:Oa)(b:Nat)(D:List Nat)(N:La)(e:Aa B w I (Ad c [.slice a D.length b] 225::CA 41 (.slice a D.length b) (D.map λd=>Ba (d:Nat))::N)):
  Ce B I (Ad c [.slice a D.length b] 225::CA 41 (.slice a D.length b) (D.map λd=>Ba (d:Nat))::N) 176 [ptr c 0] w (Ab (D.length:Nat)):=by
 exact gG 7 ⟨O,e⟩
theorem gf(l:List Nat):(l.map λd=>Ba (d:Nat)).all Value.oneCell'=true:=by
 rw[List.all_map];exact Dy.2 λ_ _=>rfl
theorem Uo(g:Nat)(j:Oa)(m:Nat)(D:List Nat)(p:D.length<=1000000)(a:Oa)(c:Nat)(l:List Nat)(q:l.length<=1000000)(n:RS I a 1 l.length (l.map λd=>Ba (d:Nat)))(N:La)(b:Aa B w I (Ad g [.slice j D.length m] 225::CA 41 (.slice j D.length m) (D.map λd=>Ba (d:Nat))::N)):
  Cz 82 [ptr g 0,.slice a l.length c] w λv w'=>v=.tuple #[]/\∃a c,Aa B w' I (Ad g [.slice a (D++l).length c] 225::CA 41 (.slice a (D++l).length c) ((D++l).map λd=>Ba (d:Nat))::N):=by
 refine gH 6 ?_;refine WL.dJ (bytes:=8) b (.of O) (.of O) n (k:=1) O Qy (i:=t41) kr O O O O (gf l) ⟨by rw[Ym];omega,by rw[Ym];unfold maxLen;omega⟩ O ?_;intro o w b;try dsimp only[List.set]at b
 obtain⟨e,f,rfl,h,_⟩:=b.HX (k:=1) O;refine gG 3 ?_;intro w b;refine⟨O,e,f,?_⟩;rw[<-Yn,Ym]at b;exact b
theorem Xye(N:La)(a:Aa B w I N):
  Ce B I N 104 [.slice none 0 0] w (.slice none 0 0):=by
 refine gH 2 (.val (Ex.Fp (.of O) (.of O) Qy) O (gG 0 (.CU (rfl) ?_)));exact gG 1 ⟨O,a⟩
theorem Xte(N:La)(a:Aa B w I N):
  Cz 56 [.slice none 0 0] w λv w'=>∃b,v=ptr b 0/\Aa B w' I (Ad b [.slice none (([]:List Nat)).length 0] 225::CA 41 (.slice none (([]:List Nat)).length 0) ((([]:List Nat)).map λd=>Ba (d:Nat))::N):=by
 refine gE 2 (Xye) ?_;intro w a;refine gG 3 ?_;intro c w a;exact⟨_,O,(a.gn 41).pick 1 O⟩
def Hy(b:List UInt8->Bool)(a:Int)(D:List Nat):(List UInt8×Nat)×List Nat :=
 if IX a=[]then(([],8),D)else match D with
 | []=>(([],6),[])
 | d::D=>if b (IX a++45::LO 16 d)then(([],7),D)else((IX a++45::LO 16 d,0),D)
theorem Uz(A:Nat)(q:Oa)(r:Nat)(D:List Nat)(H:∀d∈D,d<18446744073709551616)(b:Int)(i:Lu->Bool)(n:FuncId)(fn:Func)(t:prog.funcs[n]?=some fn)(p:Xc fn=true)(g:Lv)(C:AR I)(N:La)(J:∀(M:La) (s:Lu) w,Aa B w I (M++N)->Calls prog n ([S s]++g).toArray w (AY λv w'=>v=.bool (i s)/\Aa B w' I (M++N)))(f:Aa B w I (Ad A [.slice q D.length r] 225::CA 41 (.slice q D.length r) (D.map λd=>Ba (d:Nat))::N)):
  Cz 377 [ptr A 0,Ab b,.func (.func n) #[] g.toArray] w λv w'=>v=.tuple #[S (Hy i b D).1.1,Ab ((Hy i b D).1.2:Nat)]/\∃a c,Aa B w' I (Ad A [.slice a ((Hy i b D).2).length c] 225::CA 41 (.slice a ((Hy i b D).2).length c) (((Hy i b D).2).map λd=>Ba (d:Nat))::N):=by
 refine gE 3 (wx _ C) ?_;intro w f;refine gM 2 ?_ ?_<;>intro h E
 ·refine gG 2 ?_;have e:Hy i b D=(([],8),D):=by unfold Hy;rw[Y7 (su h)]
  rw[e];exact⟨O,q,r,f⟩
 refine gM 7 ?_ ?_<;>intro l F
 ·refine gG 2 ?_;obtain rfl:D=[]:=by
   cases D with
   | nil=>rfl
   | cons d D=>exfalso;simp at l;omega
  have e:Hy i b []=(([],6),[]):=by unfold Hy;rw[Y3 (su h)]
  rw[e];exact⟨O,q,r,f⟩
 have o:¬ IX b=[]:=su h
 obtain⟨d,D,rfl⟩:∃d D',D=d::D':=by
  cases D with
  | nil=>simp at l
  | cons d D'=>exact⟨d,D',O⟩
 obtain⟨Q,mo,P,K,x⟩:=f.aQ (k:=1) O;injection K with y L z
 subst y;subst z;have hx:=f.mV (k:=1) O (j:=0) (u:=Ba (d:Nat)) O;simp only[Ym]at x
 refine gH 6 (.val (o4 (.of O) hx isAgg41) O (gE 0 (Uy _ d (H d sz) C) ?_));intro w f;rw[Y3 o];refine gH 10 (.val (.CB (.of O) (.of O) om (by simp only[Y4];omega) Qy sizeOf41) O ?_);replace f:=f.gk (k:=1) O;try dsimp only[List.set]at f
 refine gH 5 ?_;intro w f;refine .Bu (cap:=g) t p (.of O) (AM O X3) O (J [_,_] _ w f) ?_;rintro _ w ⟨rfl,f⟩;refine gM 0 ?_ ?_<;>intro m G
 ·refine gG 2 ?_;have e:Hy i b (d::D)=(([],7),D):=by unfold Hy;rw[Y3 o];exact Y7 m
  rw[e];exact⟨O,_,_,f⟩
 refine gG 3 ?_;have e:Hy i b (d::D)=((IX b++45::LO 16 d,0),D):=by unfold Hy;rw[Y3 o];exact Y3 (nB m)
 rw[e];exact⟨O,_,_,f⟩
abbrev C9(p:Nat->Int):List Int:=[p 0,p 1,p 2,p 3,p 4,p 5,p 6,p 7,p 8,p 9,p 10,p 11,p 12,p 13,p 14,p 15,p 16,p 17,p 18,p 19,p 20]
structure Wp where
 wb:Nat
 tb:Nat
 mb:Nat
 ub:Nat
 pr:Addr
 lo:List Sv
 us:List Us
 ps:Nat->Int
structure Wd where
 room:Int
 l:List Ah
 D:List Nat
 now:Int
abbrev Cr(p:Wp)(Z:Wd):Lv:=ptr p.tb 0::ptr p.mb 0::.pointer (some p.pr)::ptr p.ub 0::k6 (z8 (C9 p.ps)) [Ab Z.now]
def Bl(p:Wp)(Z:Wd):Oa×Nat×Oa×Nat->La:=λ⟨a,c,b,e⟩=>[Ad p.wb (Cr p Z) 115,Ad p.tb [Ab Z.room,.slice a Z.l.length c] 158,Ao 160 10 (.slice a Z.l.length c) Z.l.length (CI Z.l),Ad p.mb [.slice b Z.D.length e] 225,CA 41 (.slice b Z.D.length e) (Z.D.map λd=>Ba (d:Nat))]
abbrev AV(p:Wp)(Z:Wd):X1:=mY (Bl p Z)
theorem EJ{p:Wp}{Z:Wd}(f:Aa B w I (AV p Z::N)):∃a c b e,Aa B w I (Ad p.wb (Cr p Z) 115::Bc p.tb Z.room a c Z.l (Ad p.mb [.slice b Z.D.length e] 225::CA 41 (.slice b Z.D.length e) (Z.D.map λd=>Ba (d:Nat))::N)):=by
 obtain⟨⟨a,c,b,e⟩,h⟩:=Aa.unbox f;exact⟨a,c,b,e,h⟩
structure BU(I:Im)(p:Wp):Prop where
 vD:Hn I p.pr p.lo
 tab:E_ I p.ub p.us
 lo:p.lo.length<=100000
 rel:∀s∈p.lo,s.rel.length<=1000000
 fit:∀u∈p.us,u.fits
 iW:∀u∈p.us,u.attrs.length<=8
 known:AJ I
 pre:AR I
theorem Hn.mono{d:Addr}{lo:List Sv}(h:Hn I d lo)(b:Le I J):Hn J d lo:=by
 obtain⟨a,c,E,e,f,g⟩:=h;exact⟨a,c,E,e.mono b,f,g.mono b⟩
theorem BU.mono{p:Wp}(h:BU I p)(a:Le I J):BU J p:=⟨h.vD.mono a,h.tab.mono a,h.lo,h.rel,h.fit,h.iW,h.known.mono a,h.pre.mono a⟩
structure A9(Z:Wd):Prop where
 len:Z.l.length<=64
 wf:Wf Z.l
 D:∀d∈Z.D,d<18446744073709551616
 now:0<=Z.now/\Z.now<=1099511627776
 room:Z.room<=64
theorem Aa.swap{M:La}(e:Aa B w I (M++N)):Aa B w I (N++M):=by
 obtain⟨h,g,f⟩:=e;obtain⟨a,b,rfl,c,d⟩:=Ap.app.1 g;exact⟨b++a,Ap.app.2 ⟨b,a,O,d,c⟩,f.perm Vy⟩
def Re(n:Int):Bool:=decide (n<0)||decide (1099511627776<n)
abbrev iC(n:Int):Lv:=[Ab n]
def Zr(p:Nat->Int):Bool:=(!((C9 p).take 7).any Re&&!(((C9 p).drop 7).take 7).any Re)&&!((C9 p).drop 14).any Re
theorem yj{E:Nat}{l:List Int}(c:Aa B w I N)(e:N[k]?=some (Ad b cs E))(h:∀(i:Nat) n,l[i]?=some n->cs[o+i]?=some (Ab n)):H9 w iC 1 (some (ad b o)) l:=λi n f=>by
 refine⟨_,O,λj v a=>?_⟩;have d:=c.block e
 match j,a with
 | 0,a =>
  cases a
  rw[C7,C7];refine Xx d ?_;rw[Ca];exact h i n f
 | j+1,a=>simp[iC]at a
theorem Xhu(a:Oa)(cap:Nat)(l:List (Int))(C:l.length<=9223372036854775807)(q:Int->Bool)(f:FuncId)(fn:Func)(o:prog.funcs[f]?=some fn)(m:Xc fn=true)(b:Lv)(N:La)(y:∀w,Aa B w I N->H9 w iC 1 a l)(A:∀(r:Int) (n:r∈l) w,Aa B w I N->Calls prog f ([Ab r]++b).toArray w (AY λv w'=>v=.bool (q r)/\Aa B w' I N))(c:Aa B w I N):
  Ce B I N 198 [.slice a l.length cap,.func (.func f) #[] b.toArray] w (Ab (EP q l 0)):=by
 refine gG 4 (.lk [0,1,7] (σ:=Nat) (λi _m=>(8,Ab (i:Nat))::_m) (λi w=>i<=l.length/\(∀(j:Nat) t,j<i->l[j]?=some t->q t=false)/\Aa B w I N) (λi=>l.length-i) 0 ⟨Y5 _,λ_ _ h=>Aw h om,c⟩ ?_);rintro i w ⟨hi,g,c⟩;refine gN 1 ?_ ?_<;>intro z
 ·obtain⟨r,n⟩:∃r,l[i]?=some r:=⟨_,Y2 om⟩
  obtain⟨p,rfl,hx⟩:=y w c i r n;refine gH 6 ?_;refine .val (.ld1 (.of O) (by have x:=hx 0 _ O;simpa[Addr.add_add]using x) BP) O ?_;refine .Bu (cap:=b) o m (.of O) (AM O X3) O (A r (Y8 n) w c) ?_;rintro _ w ⟨rfl,c⟩;refine gM 0 ?_ ?_<;>intro d u
  ·exact gG 2 ⟨by rw[jG g n d],c⟩
  refine gG 2 (rd (i+1) ⟨om,λj t D k=>?_,c⟩);rcases Yz j i with s|s
  ·exact g j t s k
  ·have e:j=i:=om
   subst e;rw[n]at k;cases k;exact d
 exact gG 1 ⟨by rw[jF (λj t k=>g j t (oh ((Y1.1 k).1)) k)],c⟩
theorem vN(a:Oa)(cap:Nat)(l:List (Int))(g:l.length<=9223372036854775807)(e:Int->Bool)(b:FuncId)(fn:Func)(f:prog.funcs[b]?=some fn)(d:Xc fn=true)(c:Lv)(N:La)(i:∀w,Aa B w I N->H9 w iC 1 a l)(j:∀(r:Int) (k:r∈l) w,Aa B w I N->Calls prog b ([Ab r]++c).toArray w (AY λv w'=>v=.bool (e r)/\Aa B w' I N))(h:Aa B w I N):
  Ce B I N 103 [.slice a l.length cap,.func (.func b) #[] c.toArray] w (.bool (l.any e)):=by
 refine gP 3 [] (Xhu a cap l g e b fn f d _ N i j) ?_;rintro _ w ⟨rfl,h⟩;exact gG 2 ⟨by rw[<-cK e l 0],h⟩
theorem xR(n:Int)(N:La)(a:Aa B w I N):
  Ce B I N 102 [Ab n] w (.bool (Re n)):=by
 exact gG 8 ⟨O,a⟩
theorem MU(p:Nat->Int)(N:La)(c:Aa B w I N):
  Ce B I N 54 [.agg ((C9 p).map Ab).toArray] w (.bool (Zr p)):=by
 refine gH 4 ?_;intro b1 w c;refine .val (Ex.B1 (.of O) Lr Bg) O (gP 1 [] (vN _ 7 ((C9 p).take 7) (show(7:Nat)<=9223372036854775807 by decide) _ 102 _ func102 O [] _ (λw h=>yj h (k:=0) O (λi n a=>by match i,a with|0,a=>exact Ye (Option.map Ab) a|1,a=>exact Ye (Option.map Ab) a|2,a=>exact Ye (Option.map Ab) a|3,a=>exact Ye (Option.map Ab) a|4,a=>exact Ye (Option.map Ab) a|5,a=>exact Ye (Option.map Ab) a|6,a=>exact Ye (Option.map Ab) a|i+7,a=>cases a)) (λn a w h=>xR n _ h)) ?_);rintro _ w ⟨rfl,c⟩;refine gH 3 (.Am O O (λb=>(Ex.B1 (.gd b O) Lr Bg)) O (gH 1 (.AA (T:=λw=>Aa B w I (Ad b1 ((C9 p).map Ab) 26::N)) O O O func103 O (λb=>(X4 (.gd b O) (X4 (.gd b O) X3))) O (λb=>vN (some (ad b1 7)) 7 (((C9 p).drop 7).take 7) (show(7:Nat)<=9223372036854775807 by decide) Re 102 _ func102 O [] _ (λw h=>yj h (k:=0) O (λi n a=>by match i,a with|0,a=>exact Ye (Option.map Ab) a|1,a=>exact Ye (Option.map Ab) a|2,a=>exact Ye (Option.map Ab) a|3,a=>exact Ye (Option.map Ab) a|4,a=>exact Ye (Option.map Ab) a|5,a=>exact Ye (Option.map Ab) a|6,a=>exact Ye (Option.map Ab) a|i+7,a=>cases a)) (λn a w h=>xR n _ h) c) c ?_)));clear c;rintro w c;refine gH 4 (.Am O O (λb=>(Ex.B1 (.gd b O) Lr Bg)) O (gH 1 (.AA (T:=λw=>Aa B w I (Ad b1 ((C9 p).map Ab) 26::N)) O O O func103 O (λb=>(X4 (.gd b O) (X4 (.gd b O) X3))) O (λb=>vN (some (ad b1 14)) 7 ((C9 p).drop 14) (show(7:Nat)<=9223372036854775807 by decide) Re 102 _ func102 O [] _ (λw h=>yj h (k:=0) O (λi n a=>by match i,a with|0,a=>exact Ye (Option.map Ab) a|1,a=>exact Ye (Option.map Ab) a|2,a=>exact Ye (Option.map Ab) a|3,a=>exact Ye (Option.map Ab) a|4,a=>exact Ye (Option.map Ab) a|5,a=>exact Ye (Option.map Ab) a|6,a=>exact Ye (Option.map Ab) a|i+7,a=>cases a)) (λn a w h=>xR n _ h) c) c ?_)));clear c;rintro w c;exact gG 3 ⟨O,c.s⟩
def tick(Z:Wd)(n:Int):Wd:={ Z with now:=min (Z.now+max 0 (min n 1099511627776)) 1099511627776 }
theorem P4{Z:Wd}(h:A9 Z)(n:Int):A9 (tick Z n):=⟨h.len,h.wf,h.D,by have:=h.now;unfold tick;(try dsimp only);omega,h.room⟩
theorem Xuw(p:Wp)(Z:Wd)(n:Int)(e:A9 Z)(N:La)(b:Aa B w I (AV p Z::N)):
  Ce B I (AV p (tick Z n)::N) 36 [ptr p.wb 0,Ab n] w (.tuple #[]):=by
 obtain⟨a,c,f,g,b⟩:=EJ b;have d:=e.now;refine gG 13 ?_;intro w b;exact⟨O,Aa.box (T:=Bl p _) (a,c,f,g) b⟩
theorem Xst(b:Nat)(room:Int)(a:Oa)(c:Nat)(l:List Ah)(j:l.length<=100000)(g:Wf l)(ps:List Int)(f:ps.length=21)(name:Lu)(now:Int)(k:0<=now/\now<=1099511627776)(N:La)(d:Aa B w I (Bc b room a c l N)):
  Calls prog 346 #[ptr b 0,.agg (ps.map Ab).toArray,S name,Ab now] w (AY λv w'=>v=.bool (qn ps l name now)/\Aa B w' I (Bc b room a c l N)) :=
 (Xzm b room a c l j g ps f name now k N d).mono λe w' ⟨v,i,J,h,m,d⟩=>⟨v,i,m,d.weaken h⟩
theorem aT{p:Wp}{Z:Wd}{j:Nat}(h:((C9 p.ps).map Ab)[j]?=some v):(Cr p Z)[0+4+j]?=some v:=by
 have a:=(Y1.1 h).1;have e:Cr p Z=[ptr p.tb 0,ptr p.mb 0,.pointer (some p.pr),ptr p.ub 0]++((C9 p.ps).map Ab++[Ab Z.now]):=rfl;rw[e,Yy sz,Y4,Y4,Y4,Y4,Yi,show 0+4+j-(0+1+1+1+1)=j by omega,Yf a];exact h
def Xr(ps:Nat->Int)(Z:Wd)(name:Lu)(a:Int):Ah×Bool:=if((((getD Z.l name).kind)!=a)||!qn (C9 ps) Z.l name Z.now)=true then(r0,false)else(getD Z.l name,true)
theorem jH(name:Lu)(e:Int)(p:Wp)(Z:Wd)(g:A9 Z)(N:La)(d:Aa B w I (AV p Z::N)):
  Ce B I (AV p Z::N) 260 [ptr p.wb 0,S name,Ab e] w (.tuple #[.agg (X5 (Xr p.ps Z name e).1).toArray,.bool (Xr p.ps Z name e).2]):=by
 refine gG 0 ?_;obtain⟨a,c,m,n,d⟩:=EJ d;have i:=g.len;refine gH 7 ?_;intro q w d;refine gE 0 (Fx _ Z.room a c Z.l om name) ?_;intro w d;refine gH 6 ?_;intro r w d;refine gG 0 ?_;replace d:=d.px [2,2];refine .qt d (.val (λw d=>(by exact .fo 0 O F6 O O Bg O)) O ?_);refine .val (λw d=>(by exact(.lo O d (k:=2) O BP O))) O ?_;refine .val (λw d=>(.mo O)) O (.val (λw d=>(.neq (.of O) (.of O))) O (.val (λw d=>(.mo O)) O (.Am O O O (λb w d=>(.mo O)) O (.Am O O O (λb w d=>(.nilCheck (.gd b O))) O ?_))));refine .Am O O O (λb w d=>(by exact .fieldAddr 0 (.gd b O) TQ O O jV O)) O ?_;refine .Am O O O (λb w d=>(by exact(.ld (.gd b O) d (k:=4) O Jh O))) O ?_;refine .Am O O O (λb w d=>(.mo O)) O (.Am O O O (λb w d=>(.nilCheck (.gd b O))) O ?_);refine .Am O O O (λb w d=>(by exact .fieldAddr 4 (.gd b O) TQ O O H3 O)) O ?_;refine .Am O O O (λb w d=>(.D6 (.gd b O) d (k:=4) O Qp H3 O (λj v o=>aT o))) O (.Am O O O (λb w d=>(.mo O)) O (.Am O O O (λb w d=>(.mo O)) O (.Am O O O (λb w d=>(.nilCheck (.gd b O))) O ?_)));refine .Am O O O (λb w d=>(by exact .fieldAddr 25 (.gd b O) TQ O O Bg O)) O ?_;refine .Am O O O (λb w d=>(by exact(.ld (.gd b O) d (k:=4) O BP O))) O ?_;refine .AA O O O func346 O (λb=>(X4 (.gd b O) (X4 (.gd b O) (X4 (.gd b O) (X4 (.gd b O) X3))))) O (λb w d=>Xst p.tb Z.room a c Z.l om g.wf (C9 p.ps) O name Z.now g.now _ d) (.Am O O O (λb w d=>(.not (.gd b O))) O (.val (λw d=>(.po O O O)) O (.nil ?_)));intro w d;refine gM 0 ?_ ?_<;>intro f h
 ·refine gH 3 ?_;intro w d;refine gG 0 (⟨?_,Aa.box (T:=Bl p _) (a,c,m,n) ?_⟩)
  ·rw[Xr,Y7 f];rfl
  replace d:=((d.drop (k:=2) O).drop (k:=2) O).pick 2 O;exact d
 refine gH 3 ?_;intro w d;refine gG 0 (⟨?_,Aa.box (T:=Bl p _) (a,c,m,n) ?_⟩)
 ·rw[Xr,Y3 (nB f)];done
 replace d:=((d.drop (k:=2) O).drop (k:=2) O).pick 2 O;exact d
theorem eX(p:Wp)(Z:Wd)(a:Oa)(c:Nat)(e:Z.l.length<=64)(d:Nat)(name:Lu)(N:La)(b:Aa B w I (Ad d [ptr p.wb 0] 87::Ad p.wb (Cr p Z) 115::Bc p.tb Z.room a c Z.l N)):
  Ce B I (Ad d [ptr p.wb 0] 87::Ad p.wb (Cr p Z) 115::Bc p.tb Z.room a c Z.l N) 378 [S name,ptr d 0] w (.bool (get Z.l name).isSome):=by
 refine gE 6 (Fx _ Z.room a c Z.l om _) ?_;intro w b;replace b:=b.px [3,3];refine gG 8 ?_;intro f w b;exact⟨O,b.s⟩
def I6(Z:Wd)(r:Ah):(Lu×Nat)×List Nat:=Hy (λs=>(get Z.l s).isSome) r.kind Z.D
def o6(Z:Wd)(r:Ah):Ah:={ r with name:=(I6 Z r).1.1,made:=Z.now,used:=Z.now }
def AB(Z:Wd)(r:Ah):(Lu×Nat)×Wd :=
 if(I6 Z r).1.2≠0 then(([],39),{ Z with D:=(I6 Z r).2 })
 else(if K0 Z.room Z.l (o6 Z r)≠0 then([],39)else((I6 Z r).1.1,0),{ Z with D:=(I6 Z r).2,l:=add Z.room Z.l (o6 Z r) })
theorem fe{c:Lu->Bool}{b:Int}{D:List Nat}:∀d∈(Hy c b D).2,d∈D:=by
 intro d a;unfold Hy at a;split at a
 ·exact a
 ·split at a
  ·simp at a
  ·rename_i x D
   split at a<;>exact Q8 _ a
theorem xn{pr:Lu->Bool}{kind:Int}{D:List Nat}:(Hy pr kind D).1.1.length<=23:=by
 unfold Hy;split
 ·simp
 ·split
  ·simp
  ·split
   ·simp
   ·have:=yW kind
    simp only[Y0,Y4,tx];omega
theorem Hu{Z:Wd}(h:A9 Z)(r:Ah):A9 (AB Z r).2:=by
 unfold AB;have a:∀d∈(I6 Z r).2,d<18446744073709551616:=λd b=>h.D d (fe d b)
 split
 ·exact⟨h.len,h.wf,a,h.now,h.room⟩
 ·refine⟨?_,h.wf.add,a,h.now,h.room⟩;show(add Z.room Z.l (o6 Z r)).length<=64
  unfold add;split
  ·rename_i e
   have:=(LY e).2.2.2
   have:=h.room
   rw[Y0,Y4,Yi];omega
  ·exact h.len
theorem nE(r:Ah)(v:r.parent.length<=1000000)(p:Wp)(Z:Wd)(hZ:A9 Z)(t:BU I p)(N:La)(b:Aa B w I (AV p Z::N)):
  Ce B I (AV p (AB Z r).2::N) 317 [ptr p.wb 0,.agg (X5 r).toArray] w (.tuple #[S (AB Z r).1.1,Ab ((AB Z r).1.2:Nat)]):=by
 obtain⟨a,c,G,H,b⟩:=EJ b;have q:=hZ.len;refine gG 4 ?_;intro m n w b;refine gD [1,0,0] [] [0,1,2,3,4,5,6,7,8,9,10,11,12] ?_;intro w b;refine gP 7 [4,4,4,4,6,6] (Uz p.mb G H Z.D hZ.D r.kind (λs=>(get Z.l s).isSome) 378 _ func378 O [ptr m 0] t.pre (Ad m [ptr p.wb 0] 87::Ad p.wb (Cr p Z) 115::Bc p.tb Z.room a c Z.l (Ad n [Ab r.kind,S r.name,S r.parent,S r.user,S r.service,S r.url,Ab r.made,Ab r.used,Ab r.A4,.bool r.fresh] 160::N)) (λM s w h=>(eX p Z a c q m s (Ad n [Ab r.kind,S r.name,S r.parent,S r.user,S r.service,S r.url,Ab r.made,Ab r.used,Ab r.A4,.bool r.fresh] 160::N++M) (Aa.swap (M:=M) (N:=Ad m [ptr p.wb 0] 87::Ad p.wb (Cr p Z) 115::Bc p.tb Z.room a c Z.l (Ad n [Ab r.kind,S r.name,S r.parent,S r.user,S r.service,S r.url,Ab r.made,Ab r.used,Ab r.A4,.bool r.fresh] 160::N)) h)).mono λe K ⟨J,E,F,u⟩=>⟨J,E,F,Aa.swap (M:=Ad m [ptr p.wb 0] 87::Ad p.wb (Cr p Z) 115::Bc p.tb Z.room a c Z.l (Ad n [Ab r.kind,S r.name,S r.parent,S r.user,S r.service,S r.url,Ab r.made,Ab r.used,Ab r.A4,.bool r.fresh] 160::N)) (N:=M) u⟩)) ?_;rintro _ w ⟨rfl,g,i,b⟩;refine gM 7 ?_ ?_<;>intro f A
 ·refine gG 2 ?_;have o:AB Z r=(([],39),{ Z with D:=(I6 Z r).2 }):=Y7 (by simpa[I6]using f);rw[o];replace b:=b.py [2,5];exact⟨O,Aa.box (T:=Bl p _) (a,c,g,i) (b.x [4,4,4])⟩
 refine .skip (.ck [2,3,6] (σ:=Unit) (λ_ _m=>_m) (λ_ w=>Aa B w I (Ad p.mb [.slice g (I6 Z r).2.length i] 225::CA 41 (.slice g (I6 Z r).2.length i) ((I6 Z r).2.map λd=>Ba (d:Nat))::Ad m [ptr p.wb 0] 87::Ad p.wb (Cr p Z) 115::Bc p.tb Z.room a c Z.l (Ad n [Ab r.kind,S (I6 Z r).1.1,S r.parent,S r.user,S r.service,S r.url,Ab Z.now,Ab Z.now,Ab r.A4,.bool r.fresh] 160::N))) ?_ ?_)
 ·refine gD [2,2] [] [0,1,2,3,4,5,6,7,8,9,10,11,12,13,14] ?_;intro w b;refine gH 11 ?_;intro w b;refine gH 2 ?_;intro w b;refine gH 2 ?_;intro w b;exact gG 0 (cd () b)
 rintro _ w b;refine gG 0 (gD [2,5,2] [] [0,1,2,3,4,5,6] ?_);intro w b;refine gF 5 (NL p.tb Z.room a c Z.l om (o6 Z r) (by have:=xn (pr:=λs=>(get Z.l s).isSome) (kind:=r.kind) (D:=Z.D);exact Yr this de) v t.known t.pre) ?_;rintro _ w ⟨rfl,y,z,b⟩;refine gM 1 ?_ ?_<;>intro j C
 ·refine gG 2 ?_;have o:AB Z r=(([],39),{ Z with D:=(I6 Z r).2,l:=add Z.room Z.l (o6 Z r) }):=by
   rw[AB,Y3 (by simpa[I6]using f),Y7 (su j)]
  rw[o];replace b:=((b.pick 5 O).drop (k:=5) O).drop (k:=5) O;exact⟨O,Aa.box (T:=Bl p _) (y,z,g,i) b⟩
 refine gG 3 ?_;have o:AB Z r=(((I6 Z r).1.1,0),{ Z with D:=(I6 Z r).2,l:=add Z.room Z.l (o6 Z r) }):=by
  rw[AB,Y3 (by simpa[I6]using f),Y3 (su j)]
 rw[o];replace b:=((b.pick 5 O).drop (k:=5) O).drop (k:=5) O;exact⟨O,Aa.box (T:=Bl p _) (y,z,g,i) b⟩
theorem nA{r:Ah}(h:Dh r=true):r.name.length<=23/\r.parent.length<=23:=by
 unfold Dh at h;simp only[Yb]at h
 obtain⟨⟨_,c⟩,b⟩:=h;constructor
 ·unfold R8 at c;cases a:Xi r.name with
  | none=>rw[a]at c;cases c
  | some x=>exact(cL (k:=x.1) (d:=x.2) a).2.2.2.1
 ·unfold nM at b;split at b
  ·rename_i e;rw[e];simp
  ·cases a:Xi r.parent with
   | none=>rw[a]at b;cases b
   | some x=>exact(cL (k:=x.1) (d:=x.2) a).2.2.2.1
theorem s4{l:List Ah}(d:Wf l)(name:Lu):(get l name=none/\getD l name=r0)\/(get l name=some (getD l name)/\Dh (getD l name)=true/\(getD l name).name=name):=by
 rcases Tr.get_at l name with⟨_,h⟩|⟨j,r,_,b,c,a⟩
 ·exact .inl ⟨h,by rw[getD,h];rfl⟩
 ·have e:getD l name=r:=by rw[getD,a];rfl
  exact .inr ⟨by rw[e];exact a,by rw[e];exact d.right r (Y8 b),by rw[e];exact c⟩
theorem Xiz{l:List Ah}(c:Wf l)(name:Lu):(getD l name).name.length<=23/\(getD l name).parent.length<=23/\0<=(getD l name).A4/\(getD l name).A4<=255:=by
 rcases s4 c name with⟨_,e⟩|⟨_,h,_⟩
 ·rw[e];decide
 ·have a:=nA h;have b:=wh h;exact⟨a.1,a.2,b.2.2⟩
theorem Xeq(p:Wp)(Z:Wd)(c:A9 Z)(b:BU I p)(N:La)(a:Aa B w I (AV p Z::N)):
  Ce B I (AV p (AB Z ⟨6,[],[],[],[],[],0,0,0,false⟩).2::N) 315 [ptr p.wb 0] w (.tuple #[S (AB Z ⟨6,[],[],[],[],[],0,0,0,false⟩).1.1,Ab ((AB Z ⟨6,[],[],[],[],[],0,0,0,false⟩).1.2:Nat)]):=by
 refine gE 4 (nE (⟨6,[],[],[],[],[],0,0,0,false⟩) sz p Z c b) ?_;intro w a;exact gG 4 ⟨O,a⟩
def F7(Z:Wd)(name:Lu):Wd:={ Z with l:=drop Z.l name }
theorem cN{Z:Wd}(h:A9 Z)(name:Lu):A9 (F7 Z name):=⟨Yr (Wu Z.l name).length_le h.len,h.wf.drop name,h.D,h.now,h.room⟩
def ER(us:List Us)(ps:Nat->Int)(Z:Wd)(lt a b:Lu):(Lu×Nat)×Wd :=
 if(Xr ps Z lt 6).2=false then(([],38),Z)
 else if qs us a b=false then(([],37),F7 Z lt)
 else((AB Z ⟨1,[],[],a,[],[],0,0,0,true⟩).1,if(AB Z ⟨1,[],[],a,[],[],0,0,0,true⟩).1.2=0 then F7 (AB Z ⟨1,[],[],a,[],[],0,0,0,true⟩).2 lt else(AB Z ⟨1,[],[],a,[],[],0,0,0,true⟩).2)
theorem Xpk{us:List Us}{Z:Wd}(h:A9 Z)(lt a b:Lu):A9 (ER us ps Z lt a b).2:=by
 unfold ER;split
 ·exact h
 ·split
  ·exact cN h lt
  ·try dsimp only
   split
   ·exact cN (Hu h _) lt
   ·exact Hu h _
theorem Qi(lt b h:Lu)(C:h.length<=9223372036854775807)(p:Wp)(Z:Wd)(o:A9 Z)(v:BU I p)(N:La)(e:Aa B w I (AV p Z::N)):
  Ce B I (AV p (ER p.us p.ps Z lt b h).2::N) 232 [ptr p.wb 0,S lt,S b,S h] w (.tuple #[S (ER p.us p.ps Z lt b h).1.1,Ab ((ER p.us p.ps Z lt b h).1.2:Nat)]):=by
 refine gE 4 (jH lt 6 p Z o) ?_;intro w e;refine gG 8 ?_;intro R w e;refine gM 0 ?_ ?_<;>intro f H
 ·refine gG 2 ?_;have j:ER p.us p.ps Z lt b h=(([],38),Z):=by rw[ER,Y7 (su f)]
  rw[j];exact⟨O,e.s⟩
 replace e:=e.px [1];obtain⟨a,c,P,Q,e⟩:=EJ e;have M:=o.len;have E:=o.wf;refine gE 6 (Nz _ _ v.fit _ h C v.tab) ?_;intro w e;refine gM 1 ?_ ?_<;>intro g K
 ·refine gF 5 (gR p.tb Z.room a c Z.l om E lt) ?_;rintro _ w ⟨J,U,V,rfl,x,z,y,t,u,e⟩;replace e:=e.weaken x;refine gG 2 ?_;have j:ER p.us p.ps Z lt b h=(([],37),F7 Z lt):=by rw[ER,Y3 (by rw[show(Xr p.ps Z lt 6).2=true from by simpa using f];decide),Y7 (su g)]
  rw[j];exact⟨O,Aa.box (T:=Bl p (F7 Z lt)) (t,u,P,Q) ((((((e.drop (k:=5) O).pick 4 O).pick 4 O).pick 3 O).pick 3 O).pick 4 O)⟩
 replace e:=Aa.box (T:=Bl p _) (a,c,P,Q) (e.px [4,4,4,4,4]);refine gE 3 (nE (⟨1,[],[],b,[],[],0,0,0,true⟩) sz p Z o v) ?_;intro w e;refine gM 7 ?_ ?_<;>intro i L
 ·obtain⟨⟨F,G,m,n⟩,e⟩:=Aa.unbox e;replace e:Aa B _ _ (Ad p.wb (Cr p (AB Z ⟨1,[],[],b,[],[],0,0,0,true⟩).2) 115::Bc p.tb (AB Z ⟨1,[],[],b,[],[],0,0,0,true⟩).2.room F G (AB Z ⟨1,[],[],b,[],[],0,0,0,true⟩).2.l (Ad p.mb [.slice m (AB Z ⟨1,[],[],b,[],[],0,0,0,true⟩).2.D.length n] 225::CA 41 (.slice m (AB Z ⟨1,[],[],b,[],[],0,0,0,true⟩).2.D.length n) ((AB Z ⟨1,[],[],b,[],[],0,0,0,true⟩).2.D.map λd=>Ba (d:Nat))::_)):=e;have q:=Hu o ⟨1,[],[],b,[],[],0,0,0,true⟩;have A:=q.len;have r:=q.wf;refine gF 5 (gR p.tb (AB Z ⟨1,[],[],b,[],[],0,0,0,true⟩).2.room F G (AB Z ⟨1,[],[],b,[],[],0,0,0,true⟩).2.l om r lt) ?_;rintro _ w ⟨J,U,V,rfl,x,z,y,t,u,e⟩;replace e:=e.weaken x;refine gG 4 ?_;have j:ER p.us p.ps Z lt b h=((AB Z ⟨1,[],[],b,[],[],0,0,0,true⟩).1,F7 (AB Z ⟨1,[],[],b,[],[],0,0,0,true⟩).2 lt):=by rw[ER,Y3 (by rw[show(Xr p.ps Z lt 6).2=true from by simpa using f];decide),Y3 (su g),Y7 (su i)]
  rw[j];exact⟨O,Aa.box (T:=Bl p (F7 (AB Z ⟨1,[],[],b,[],[],0,0,0,true⟩).2 lt)) (t,u,m,n) ((((((e.drop (k:=5) O).pick 4 O).pick 4 O).pick 3 O).pick 3 O).pick 4 O)⟩
 refine gG 4 ?_;have j:ER p.us p.ps Z lt b h=((AB Z ⟨1,[],[],b,[],[],0,0,0,true⟩).1,(AB Z ⟨1,[],[],b,[],[],0,0,0,true⟩).2):=by rw[ER,Y3 (by rw[show(Xr p.ps Z lt 6).2=true from by simpa using f];decide),Y3 (su g),Y3 (su i)]
 rw[j];exact⟨O,e.s⟩
structure Ak where
 service:Lu
 Gl:Lu
 has:Bool
 renew:Bool
 It:Bool
 warn:Bool
abbrev dF(q:Ak):Lv:=[S q.service,S q.Gl,.bool q.has,.bool q.renew,.bool q.It,.bool q.warn]
def H8(lo:List Sv)(ps:Nat->Int)(Z:Wd)(q:Ak):Nat :=
 if(q.has&&(((Xk lo q.service).2.2:Nat):Int)!=0)=true then 6
 else if(!q.has&&(Xr ps Z q.Gl 1).2)=true then 5
 else if(!q.has||q.renew)=true then 1
 else if(((Xr ps Z q.Gl 1).2&&(Xk lo q.service).1.BZ)&&q.warn)=true then 4
 else if((Xr ps Z q.Gl 1).2&&(Xk lo q.service).1.BZ)=true then 2
 else if q.It=true then 3 else 1
theorem pG(s:Lu)(r:s.length<=1000000)(p:Wp)(b:BU I p)(N:La)(g:Aa B w I N):
  Cz 263 [.pointer (some p.pr),S s] w λv w'=>∃J d f,Le I J/\v=.tuple #[.agg (g_ (Xk p.lo s).1 d f).toArray,S (Xk p.lo s).2.1,Ab (((Xk p.lo s).2.2:Nat):Int)]/\(Xk p.lo s).1.rel.length<=f/\RS J d 1 (Xk p.lo s).1.rel.length ((Xk p.lo s).1.rel.map S)/\Aa B w' J N:=by
 obtain⟨a,c,E,i,y,j⟩:=b.vD;refine(Xs4 p.pr p.lo b.lo b.rel s r a c E b.known i j N g).mono λe w' ⟨v,o,J,u,cs,n,x,m,t,⟨d,f,h,k,l⟩,q,g⟩=>⟨v,o,J,d,f,m,?_⟩
 rw[q];subst h;exact⟨t,k,l,g⟩
theorem Vb(s:Lu)(h:s.length<=1000000)(p:Wp)(d:BU I p)(N:La)(a:Aa B w I N):
  Calls prog 263 #[.pointer (some p.pr),S s] w (AY λv w'=>∃b c,v=.tuple #[.agg (g_ (Xk p.lo s).1 b c).toArray,S (Xk p.lo s).2.1,Ab (((Xk p.lo s).2.2:Nat):Int)]/\Aa B w' I N) :=
 (pG s h p d N a).mono λe w' ⟨v,g,J,b,c,f,i,_,_,a⟩=>⟨v,g,b,c,i,a.weaken f⟩
theorem Xyb(q:Ak)(l:q.service.length<=1000000)(p:Wp)(Z:Wd)(E:A9 Z)(o:BU I p)(N:La)(b:Aa B w I (AV p Z::N)):
  Ce B I (AV p Z::N) 226 [ptr p.wb 0,.agg (dF q).toArray] w (Ab ((H8 p.lo p.ps Z q:Nat):Int)):=by
 refine gH 5 ?_;intro D w b;refine gE 0 (jH _ 1 p Z E) ?_;intro w b;refine gH 6 ?_;intro F w b;refine .nil (.ck [0,3,6] (σ:=Nat×Oa×Nat) (λ(k,m,n) _m=>(7,ptr k 0)::(8,S (Xk p.lo q.service).2.1)::(9,Ab (((Xk p.lo q.service).2.2:Nat):Int))::_m) (λ(k,m,n) w=>Aa B w I (Ad k [Ab (Xk p.lo q.service).1.id,AQ (Xk p.lo q.service).1.ord,S (Xk p.lo q.service).1.urls,.bool (Xk p.lo q.service).1.BZ,.bool (Xk p.lo q.service).1.Co,.bool (Xk p.lo q.service).1.back,S (Xk p.lo q.service).1.calls,.slice m (Xk p.lo q.service).1.rel.length n] 62::Ad D [S q.service,S q.Gl,.bool q.has,.bool q.renew,.bool q.It,.bool q.warn] 333::AV p Z::N)) ?_ ?_)
 ·replace b:=b.px [1];obtain⟨a,c,A,C,b⟩:=EJ b;refine gD [6,0] [] [0,1,2,3,4,5] ?_;intro w b;refine gH 6 (gB 6 11 [7,8,9,10,11,12,13,14] [6,7,8,9,10,12,13,14] ?_ ?_)
  ·refine gF 0 (Vb _ l p o) ?_;rintro _ w ⟨m,n,rfl,b⟩;refine gH 5 ?_;intro k w b;refine gH 1 ?_;intro w b;refine gG 2 ?_;replace b:=Aa.box (T:=Bl p _) (a,c,A,C) (b.px [5,5,5,5,5]);replace b:=b.py [2];exact Eo (_,_,_) O (b.x [2,2])
  ·refine gH 1 ?_;intro k w b;refine gF 0 (Vb _ l p o) ?_;rintro _ w ⟨m,n,rfl,b⟩;refine gH 5 ?_;intro w b;refine gG 2 ?_;replace b:=Aa.box (T:=Bl p _) (a,c,A,C) (b.px [5,5,5,5,5]);replace b:=b.py [2];exact Eo (_,_,_) O (b.x [2,2])
 rintro⟨k,m,n⟩ w b;refine gM 7 ?_ ?_<;>intro d r
 ·refine gG 1 ?_;have h:H8 p.lo p.ps Z q=6:=by rw[H8,Y7 d]
  rw[h];exact⟨O,b.s⟩
 refine gM 7 ?_ ?_<;>intro e t
 ·refine gG 1 ?_;have h:H8 p.lo p.ps Z q=5:=by rw[H8,Y3 (nB d),Y7 e]
  rw[h];exact⟨O,b.s⟩
 refine gM 8 ?_ ?_<;>intro f u
 ·refine gG 1 ?_;have h:H8 p.lo p.ps Z q=1:=by rw[H8,Y3 (nB d),Y3 (nB e),Y7 f]
  rw[h];exact⟨O,b.s⟩
 refine gM 10 ?_ ?_<;>intro g v
 ·refine gG 1 ?_;have h:H8 p.lo p.ps Z q=4:=by rw[H8,Y3 (nB d),Y3 (nB e),Y3 (nB f),Y7 g]
  rw[h];exact⟨O,b.s⟩
 refine gM 6 ?_ ?_<;>intro i y
 ·refine gG 1 ?_;have h:H8 p.lo p.ps Z q=2:=by rw[H8,Y3 (nB d),Y3 (nB e),Y3 (nB f),Y3 (nB g),Y7 i]
  rw[h];exact⟨O,b.s⟩
 refine gM 3 ?_ ?_<;>intro j z
 ·refine gG 1 ?_;have h:H8 p.lo p.ps Z q=3:=by rw[H8,Y3 (nB d),Y3 (nB e),Y3 (nB f),Y3 (nB g),Y3 (nB i),Y7 j]
  rw[h];exact⟨O,b.s⟩
 refine gG 1 ?_;have h:H8 p.lo p.ps Z q=1:=by rw[H8,Y3 (nB d),Y3 (nB e),Y3 (nB f),Y3 (nB g),Y3 (nB i),Y3 (nB j)]
 rw[h];exact⟨O,b.s⟩
def FN(lo:List Sv)(ps:Nat->Int)(Z:Wd)(Az a:Lu)(b:Bool):Ah:=⟨2,[],Az,(Xr ps Z Az 1).1.user,(Xk lo a).2.1,[],0,0,0,b⟩
def Oz(Z:Wd)(r:Ah):Wd:={ Z with l:=put Z.l r }
theorem uw{Z:Wd}(h:A9 Z)(r:Ah):A9 (Oz Z r):=⟨by show(put Z.l r).length<=64;rw[Xjf];exact h.len,h.wf.put,h.D,h.now,h.room⟩
def DJ(lo:List Sv)(ps:Nat->Int)(Z:Wd)(Az a:Lu)(b:Bool):((Lu×Lu)×Nat)×Wd :=
 if(Xr ps Z Az 1).2=false then((([],[]),30),Z)
 else if(Xk lo a).2.2≠0 then((([],[]),31),Z)
 else if(!b&&!(Xk lo a).1.BZ)=true then((([],[]),36),Z)
 else if(AB Z (FN lo ps Z Az a b)).1.2≠0 then((([],[]),(AB Z (FN lo ps Z Az a b)).1.2),(AB Z (FN lo ps Z Az a b)).2)
 else((((AB Z (FN lo ps Z Az a b)).1.1,(Xk lo a).2.1),0),Oz (AB Z (FN lo ps Z Az a b)).2 (QS (Xr ps Z Az 1).1 (AB Z (FN lo ps Z Az a b)).2.now))
theorem Xp5{lo:List Sv}{Z:Wd}(h:A9 Z)(Az a:Lu)(b:Bool):A9 (DJ lo ps Z Az a b).2:=by
 unfold DJ;split
 ·exact h
 ·split
  ·exact h
  ·split
   ·exact h
   ·split
    ·exact Hu h _
    ·exact uw (Hu h _) _
theorem vV{Z:Wd}(h:A9 Z)(name:Lu)(a:Int):(Xr ps Z name a).1.name.length<=23/\(Xr ps Z name a).1.parent.length<=23/\0<=(Xr ps Z name a).1.A4/\(Xr ps Z name a).1.A4<=255:=by
 unfold Xr;split
 ·decide
 ·exact Xiz h.wf name
theorem Xne(Az b:Lu)(e:Bool)(A:Az.length<=1000000)(z:b.length<=1000000)(p:Wp)(Z:Wd)(r:A9 Z)(q:BU I p)(N:La)(f:Aa B w I (AV p Z::N)):
  Ce B I (AV p (DJ p.lo p.ps Z Az b e).2::N) 230 [ptr p.wb 0,S Az,S b,.bool e] w (.tuple #[S (DJ p.lo p.ps Z Az b e).1.1.1,S (DJ p.lo p.ps Z Az b e).1.1.2,Ab ((DJ p.lo p.ps Z Az b e).1.2:Nat)]):=by
 refine gE 5 (jH Az 1 p Z r) ?_;intro w f;refine gG 8 ?_;intro K w f;refine gM 0 ?_ ?_<;>intro g F
 ·refine gG 3 ?_;have j:DJ p.lo p.ps Z Az b e=((([],[]),30),Z):=by rw[DJ,Y7 (su g)]
  rw[j];exact⟨O,f.s⟩
 replace f:=f.px [1];obtain⟨a,c,C,E,f⟩:=EJ f;refine gF 5 (Vb b z p q) ?_;rintro _ w ⟨M,P,rfl,f⟩;refine gG 11 ?_;intro L w f;refine gM 0 ?_ ?_<;>intro h G
 ·refine gG 3 ?_;replace f:=Aa.box (T:=Bl p _) (a,c,C,E) (f.px [5,5,5,5,5]);have j:DJ p.lo p.ps Z Az b e=((([],[]),31),Z):=by rw[DJ,Y3 (by rw[show(Xr p.ps Z Az 1).2=true from by simpa using g];decide),Y7 (su h)]
  rw[j];exact⟨O,(f.y 1 2)⟩
 refine gM 8 ?_ ?_<;>intro i H
 ·refine gG 3 ?_;replace f:=Aa.box (T:=Bl p _) (a,c,C,E) (f.px [5,5,5,5,5]);have j:DJ p.lo p.ps Z Az b e=((([],[]),36),Z):=by rw[DJ,Y3 (by rw[show(Xr p.ps Z Az 1).2=true from by simpa using g];decide),Y3 (su h),Y7 i]
  rw[j];exact⟨O,(f.y 1 2)⟩
 refine gG 0 ?_;replace f:=Aa.box (T:=Bl p _) (a,c,C,E) (f.px [5,5,5,5,5]);refine gE 7 (nE (FN p.lo p.ps Z Az b e) A p Z r q) ?_;intro w f;refine gM 7 ?_ ?_<;>intro m J
 ·refine gG 4 ?_;have j:DJ p.lo p.ps Z Az b e=((([],[]),(AB Z (FN p.lo p.ps Z Az b e)).1.2),(AB Z (FN p.lo p.ps Z Az b e)).2):=by rw[DJ,Y3 (by rw[show(Xr p.ps Z Az 1).2=true from by simpa using g];decide),Y3 (su h),Y3 (nB i),Y7 (su m)]
  rw[j];exact⟨O,f.s⟩
 refine gG 0 ?_;obtain⟨⟨t,u,n,o⟩,f⟩:=Aa.unbox f;replace f:Aa B _ _ (Ad p.wb (Cr p (AB Z (FN p.lo p.ps Z Az b e)).2) 115::Bc p.tb (AB Z (FN p.lo p.ps Z Az b e)).2.room t u (AB Z (FN p.lo p.ps Z Az b e)).2.l (Ad p.mb [.slice n (AB Z (FN p.lo p.ps Z Az b e)).2.D.length o] 225::CA 41 (.slice n (AB Z (FN p.lo p.ps Z Az b e)).2.D.length o) ((AB Z (FN p.lo p.ps Z Az b e)).2.D.map λd=>Ba (d:Nat))::_)):=f;have v:=Hu r (FN p.lo p.ps Z Az b e);have x:=v.len;have k:=vV (ps:=p.ps) r Az 1;refine gD [6,0] [] [0,1,2,3,4,5,6,7,8,9,10] ?_;intro w f;refine gE 9 (w2 _ _ k.2.2.1 k.2.2.2) ?_;intro w f;refine gE 0 (tR p.tb (AB Z (FN p.lo p.ps Z Az b e)).2.room t u (AB Z (FN p.lo p.ps Z Az b e)).2.l om (QS (Xr p.ps Z Az 1).1 (AB Z (FN p.lo p.ps Z Az b e)).2.now) (Yr k.1 de) (Yr k.2.1 de) q.known q.pre) ?_;intro w f;refine gG 5 ?_;replace f:=Aa.box (T:=Bl p (Oz (AB Z (FN p.lo p.ps Z Az b e)).2 (QS (Xr p.ps Z Az 1).1 (AB Z (FN p.lo p.ps Z Az b e)).2.now))) (t,u,n,o) (f.px [4,4,3,3,4]);have j:DJ p.lo p.ps Z Az b e=((((AB Z (FN p.lo p.ps Z Az b e)).1.1,(Xk p.lo b).2.1),0),Oz (AB Z (FN p.lo p.ps Z Az b e)).2 (QS (Xr p.ps Z Az 1).1 (AB Z (FN p.lo p.ps Z Az b e)).2.now)):=by rw[DJ,Y3 (by rw[show(Xr p.ps Z Az 1).2=true from by simpa using g];decide),Y3 (su h),Y3 (nB i),Y3 (su m)]
 rw[j];exact⟨O,(f.y 1 2)⟩
structure Cf where
 BT:List Sv
 us:List Us
 ps:Nat->Int
 room:Int
 base:Nat
 Gn:Nat
 most:Nat
 tries:Int
abbrev FL(c:Cf)(a:Oa)(cap:Nat)(ua:Oa)(b:Nat):Lv:=.slice a c.BT.length cap::.slice ua c.us.length b::k6 (z8 (C9 c.ps)) [Ab c.room,AQ c.base,AQ c.Gn,AQ c.most,Ab c.tries]
structure Cf.fits(c:Cf):Prop where
 BT:c.BT.length<=20
 De:∀v∈De c.BT,v<18446744073709551616
 S_:∀s∈c.BT,s.urls.length<=9223372036854775807/\s.calls.length<=9223372036854775807/\s.rel.length<=1000000
 us:c.us.length<=9223372036854775807
 Ts:∀u∈c.us,u.fits
def Ge(c:Cf):Nat:=if(HC c.BT).1≠0 then(HC c.BT).1 else if(GG c.us 0 []).1≠0 then(GG c.us 0 []).1 else if Zr c.ps=false then 1 else 0
theorem yQ:∀(l:List Us) (i:Nat) (a:List Us),(GG l i a).1=0->∀u∈l,dz u=true
 | [],_,_,_,u,h=>by simp at h
 | t::l,i,a,h,u,b=>by
  rw[GG]at h;split at h
  ·cases h
  ·split at h
   ·cases h
   ·rename_i c
    split at h
    ·cases h
    ·rcases Ys.1 b with e|b
     ·subst e;simpa using c
     ·exact yQ l (i+1) _ h u b
theorem Sj{l:List Sv}(a:Be.Ord (kx (De l)) l.length D):∀s∈LL l D,s∈l:=by
 intro s c;obtain⟨d,b,rfl⟩:=Dj.1 c;obtain⟨e,f⟩:=Be.Cp.1 (a.2.mem_iff.1 b);rw[Ya,Y2 om];exact iO _
theorem Pw{A C:Lv}{j:Nat}(h:vs[j]?=some v):(A++(vs++C))[A.length+j]?=some v:=by
 rw[Yy om,kJ,Yf (Y1.1 h).1];exact h
def w0(c:Cf):Wd:=⟨Hz c.room,[],[],0⟩
theorem sf(c:Cf):A9 (w0 c):=⟨by simp[w0],Wf.nil,λd h=>by simp[w0]at h,by simp[w0],by unfold w0 Hz;(try dsimp only);omega⟩
theorem Xp4(c:Cf)(r:c.fits)(a:Oa)(cap:Nat)(ua:Oa)(g:Nat)(hK:AJ I)(hP:AR I)(hl:Cy I a c.BT)(hU:BM I ua c.us)(N:La)(b:Aa B w I N):
  Cz 28 [.agg (FL c a cap ua g).toArray] w λv w'=>∃J,Le I J/\((Ge c≠0/\v=.tuple #[.pointer none,Ab (Ge c:Nat)]/\Aa B w' J N)\/(Ge c=0/\∃p D,Be.Ord (kx (De c.BT)) c.BT.length D/\p.lo=LL c.BT D/\p.us=c.us/\p.ps=c.ps/\v=.tuple #[ptr p.wb 0,Ab 0]/\BU J p/\Aa B w' J (AV p (w0 c)::N))):=by
 refine gH 5 ?_;intro b1 w b;refine gF 0 (cF a cap _ r.BT r.De r.S_ hl) ?_;rintro v w ⟨J,E,b,V⟩;obtain⟨Y,e9,i9,rfl,l,X⟩:∃(Y:Va) (e9 i9:Nat),v=.tuple #[Y,Ab (e9:Nat),Ab (i9:Nat)]/\e9=(HC c.BT).1/\(e9=0->∃H D,Y=.pointer (some H)/\Be.Ord (kx (De c.BT)) c.BT.length D/\Hn J H (LL c.BT D)):=by
  rcases V with⟨t,x⟩|⟨t,H,D,x,S,h4⟩
  ·exact⟨_,_,_,x,O,λh=>Aw h t⟩
  ·exact⟨_,0,0,x,t.symm,λ_=>⟨H,D,O,S,h4⟩⟩
 refine gM 9 ?_ ?_<;>intro n aa
 ·refine gG 3 ?_;have f:(HC c.BT).1≠0:=by rw[<-l];simpa using n
  have i:Ge c=e9:=by rw[Ge,Y7 f,l]
  exact⟨J,E,.inl ⟨by rw[i,l];exact f,by rw[i],b.s⟩⟩
 refine gF 2 (Xr1 ua _ _ r.us r.Ts (hU.mono E)) ?_;rintro v w ⟨R,d,P,b⟩;have G:(HC c.BT).1=0:=by rw[<-l];simpa using n
 obtain⟨H,D,rfl,e,Q⟩:=X om;obtain⟨Z,f9,j9,rfl,m,W⟩:∃(Z:Va) (f9 j9:Nat),v=.tuple #[Z,Ab (f9:Nat),Ab (j9:Nat)]/\f9=(GG c.us 0 []).1/\(f9=0->∃K,Z=ptr K 0/\E_ R K c.us):=by
  rcases P with⟨t,K,x,S⟩|⟨t,x⟩
  ·exact⟨_,0,0,x,t.symm,λ_=>⟨K,O,S⟩⟩
  ·exact⟨_,_,_,x,O,λh=>Aw h t⟩
 refine gM 9 ?_ ?_<;>intro o ab
 ·refine gG 3 ?_;have f:(GG c.us 0 []).1≠0:=by rw[<-m];simpa using o
  have i:Ge c=f9:=by rw[Ge,Y3 (nB G),Y7 f,m]
  exact⟨R,E.trans d,.inl ⟨by rw[i,m];exact f,by rw[i],b.s⟩⟩
 refine gH 1 (.val (.D6 (vs:=[Ab (c.ps 0),Ab (c.ps 1),Ab (c.ps 2),Ab (c.ps 3),Ab (c.ps 4),Ab (c.ps 5),Ab (c.ps 6),Ab (c.ps 7),Ab (c.ps 8),Ab (c.ps 9),Ab (c.ps 10),Ab (c.ps 11),Ab (c.ps 12),Ab (c.ps 13),Ab (c.ps 14),Ab (c.ps 15),Ab (c.ps 16),Ab (c.ps 17),Ab (c.ps 18),Ab (c.ps 19),Ab (c.ps 20)]) (.of O) b (k:=0) O Qp H3 O (λj v U=>Pw (A:=[.slice a c.BT.length cap,.slice ua c.us.length g]) (C:=[Ab c.room,AQ c.base,AQ c.Gn,AQ c.most,Ab c.tries]) U)) O (gE 0 (MU _) ?_));intro w b;have F:(GG c.us 0 []).1=0:=by rw[<-m];simpa using o
 obtain⟨K,rfl,M⟩:=W om;refine gM 1 ?_ ?_<;>intro q ac
 ·refine gG 2 ?_;have i:Ge c=1:=by rw[Ge,Y3 (nB G),Y3 (nB F),Y7 (su q)]
  exact⟨R,E.trans d,.inl ⟨by rw[i];decide,by rw[i];first|done|rfl,b.s⟩⟩
 refine gG 0 (gD [0] [] [0,1,4,5,6,7,2,3,8,9,10,11] ?_);intro w b;refine gH 5 (AN.y 7 (λw _ _ ai b=>.D6 (vs:=[Ab (c.ps 0),Ab (c.ps 1),Ab (c.ps 2),Ab (c.ps 3),Ab (c.ps 4),Ab (c.ps 5),Ab (c.ps 6),Ab (c.ps 7),Ab (c.ps 8),Ab (c.ps 9),Ab (c.ps 10),Ab (c.ps 11),Ab (c.ps 12),Ab (c.ps 13),Ab (c.ps 14),Ab (c.ps 15),Ab (c.ps 16),Ab (c.ps 17),Ab (c.ps 18),Ab (c.ps 19),Ab (c.ps 20)]) (.of O) b (k:=0) O Qp H3 O (λj v U=>Pw (A:=[.slice a c.BT.length cap,.slice ua c.us.length g]) (C:=[Ab c.room,AQ c.base,AQ c.Gn,AQ c.most,Ab c.tries]) U)) (gF 0 (Xhd _) ?_));rintro _ w ⟨tb,rfl,b⟩;refine gF 0 (Xte) ?_;rintro _ w ⟨mb,rfl,b⟩;refine gH 2 ?_;intro L w b;refine gG 2 ?_;have i:Ge c=0:=by rw[Ge,Y3 (nB G),Y3 (nB F),Y3 (su q)]
 have hp:=Sj e;refine⟨R,E.trans d,.inr ⟨i,⟨L,tb,mb,K,H,LL c.BT D,c.us,c.ps⟩,D,e,O,O,O,O,⟨Q.mono d,M,?_,λs hs=>(r.S_ s (hp s hs)).2.2,r.Ts,λu hu=>Xhi (yQ c.us 0 [] F u hu),(hK.mono E).mono d,(hP.mono E).mono d⟩,?_⟩⟩
 ·show(LL c.BT D).length<=100000
  rw[LL,Ym,e.len];exact Yr r.BT de
 ·exact Aa.box (T:=Bl ⟨L,tb,mb,K,H,LL c.BT D,c.us,c.ps⟩ (w0 c)) (none,0,none,0) (b.z [2,2,4,4,4] 5 1)
end Go.Proofs.W9
namespace Sc
open Pc Gk Ul Tk
def BO(s:Lu):Nat:=if(Xi (s.take ((BD [45] s).length+17))).isSome then(BD [45] s).length+17 else 0
theorem Xiy:∀t:Lu,Xu [45] t=[]\/∃r,Xu [45] t=45::r
 | []=>.inl O
 | c::t=>by
  by_cases h:c=45
  ·subst h;exact .inr ⟨t,by simp[Xu]⟩
  ·have e:Xu [45] (c::t)=Xu [45] t:=by simp[Xu,h]
   rw[e];exact Xiy t
theorem shape{t:Lu}{d:Nat}(h:Xi t=some (k,d)):∃r,t=pre k++45::r/\r.length=16/\BD [45] t=pre k/\1<=k/\k<=6:=by
 obtain⟨g,i,_,_,_⟩:=cL h;unfold Xi at h;split at h
 ·cases h
 ·rename_i j
  obtain⟨x,hx,e⟩:=Gf.1 h;simp only[Prod.mk.injEq]at e
  obtain⟨rfl,rfl⟩:=e;have c:=uk j;unfold Oc at hx;split at hx
  ·rename_i a
   rcases Xiy t with f|⟨r,b⟩
   ·rw[f]at a;simp at a
   ·rw[b,Em,EW]at a;refine⟨r,?_,a,c,g,i⟩;rw[<-c,<-b];exact(gO [45] t).symm
  ·cases hx
theorem Xxa(h:k<=6):(pre k).length<=6:=by
 have:=(by decide:∀k:Fin 7,(pre k.val).length<=6) ⟨k,om⟩
 exact this
theorem Zi(a:1<=k)(h:k<=6):(pre k).length=2\/(pre k).length=3\/(pre k).length=6:=by
 have:=(by decide:∀k:Fin 7,1<=k.val->(pre k.val).length=2\/(pre k.val).length=3\/(pre k.val).length=6) ⟨k,om⟩ a
 exact this
theorem Mt{t:Lu}(h:(Xi t).isSome):t.length=19\/t.length=20\/t.length=23:=by
 obtain⟨⟨k,d⟩,c⟩:=qJ.1 h;obtain⟨r,e,f,_,a,b⟩:=shape c
 have:=Zi a b
 rw[e,Y0,Y4,f];omega
theorem Pd{s:Lu}{z:Nat}(i:z<=s.length)(h:(Xi (s.take z)).isSome):BO s=z:=by
 obtain⟨⟨k,d⟩,b⟩:=qJ.1 h;obtain⟨r,e,f,m,j,l⟩:=shape b;have c:z=(pre k).length+17:=by
  have:=Ye List.length e
  rw[Yj,JT i,Y0,Y4,f]at this;omega
 have g:s=pre k++45::(r++s.drop z):=by
  conv=>lhs;rw[<-FA z s,e]
  simp
 have a:BD [45] s=pre k:=by
  rw[g];exact(xU yf).1
 unfold BO;rw[a,<-c,Y7 h]
theorem cT(s:Lu):BO s<=s.length:=by
 unfold BO;split
 ·rename_i h
  obtain⟨⟨k,d⟩,c⟩:=qJ.1 h;obtain⟨r,e,f,m,i,j⟩:=shape c;have b:=Ye List.length e;rw[Yj,Y0,Y4,f]at b;have l:(BD [45] s).length<=s.length:=by
   have:=Xba [45] s
   omega
  have g:s=pre k++45::(r++s.drop ((BD [45] s).length+17)):=by
   conv=>lhs;rw[<-FA ((BD [45] s).length+17) s,e]
   simp
  have a:BD [45] s=pre k:=by
   rw[g];exact(xU yf).1
  rw[a]at b ⊢;omega
 ·exact Y5 _
theorem xh{s:Lu}(h:BO s≠0):(Xi (s.take (BO s))).isSome:=by
 unfold BO at h ⊢;split
 ·assumption
 ·rename_i a;rw[Y3 a]at h;exact Aw O h
theorem Xp9(s:Lu)(h:BO s≠0):BO s=19\/BO s=20\/BO s=23:=by
 have:=Mt (xh h)
 rw[Yj,JT (cT s)]at this;exact this
theorem Xw3:BO []=0:=by
 have:=cT []
 simpa using this
def E5(s:Lu)(n z:Nat):Nat:=if z<=s.length/\(Xi (s.take z)).isSome then z else n
theorem zd(s:Lu):∀(L:List Nat) (n:Nat),(n=0\/n=BO s)->L.foldl (E5 s) n=if n=BO s\/BO s∈L then BO s else 0
 | [],n,h=>by
  rcases h with h|h
  ·subst h
   by_cases e:0=BO s
   ·simp[<-e]
   ·simp[e]
  ·simp[h]
 | z::L,n,h=>by
  rw[JS,E5];split
  ·rename_i a
   have e:=Pd a.1 a.2;rw[zd s L z (.inr e.symm),Y7 (.inl e.symm),Y7 (.inr (by rw[e];simp))]
  ·rename_i a
   rw[zd s L n h]
   by_cases d:n=BO s
   ·simp[d]
   ·by_cases f:BO s∈L
    ·simp[f]
    ·by_cases c:BO s=z
     ·by_cases b:BO s=0
      ·have g:n=0:=h.elim id (λh=>h.trans b);exact Aw (g.trans b.symm) d
      ·exact Aw ⟨c▸cT s,c▸xh b⟩ a
     ·simp[d,f,c]
theorem Xy6(s:Lu){L:List Nat}(b:19∈L)(c:20∈L)(d:23∈L):L.foldl (E5 s) 0=BO s:=by
 rw[zd s L 0 (.inl O)];split
 ·rfl
 ·rename_i h
  refine Classical.byContradiction λa=>h (.inr ?_)
  rcases Xp9 s (λe=>a e.symm)with e|e|e<;>rw[e]<;>assumption
def Vo:Nat->List UInt8->List (List UInt8)
 | 0,_=>[]
 | k+1,s=>if BO s=0 then Vo k (s.drop 1)else s.take (BO s)::Vo k (s.drop (BO s))
theorem pC:∀k,Vo k []=[]
 | 0=>rfl
 | k+1=>by rw[Vo,Y7 Xw3,o0,pC k]
theorem xd:∀(n k:Nat) (s:Lu),s.length<=n->s.length<=k->Vo k s=Vo n s
 | 0,k,s,b,_=>by
  have:s=[]:=Yc om
  subst this;rw[pC,pC]
 | n+1,0,s,_,a=>by
  have:s=[]:=Yc om
  subst this;rw[pC,pC]
 | n+1,k+1,s,b,a=>by
  rw[Vo,Vo];split
  ·exact xd n k _ (by rw[Y6];omega) (by rw[Y6];omega)
  ·rename_i h
   rw[xd n k _ (by rw[Y6];omega) (by rw[Y6];omega)]
def B_(s:Lu):List Lu:=Vo s.length s
theorem nG:B_ []=[]:=rfl
theorem nH{s:Lu}(h:BO s=0):B_ s=B_ (s.drop 1):=by
 cases s with
 | nil=>rfl
 | cons c r =>
  unfold B_;rw[Y4,Vo,Y7 h,Em,EW]
theorem nI{s:Lu}(h:BO s≠0):B_ s=s.take (BO s)::B_ (s.drop (BO s)):=by
 have a:=cT s;unfold B_;rw[show s.length=(s.length-1)+1 by omega,Vo,Y3 h,xd (s.drop (BO s)).length (s.length-1) _ (Y9 _) (by rw[Y6];omega)]
theorem sM:∀(n:Nat) (s:Lu),s.length<=n->∀x∈B_ s,(Xi x).isSome
 | 0,s,h,x,hx=>by
  have:s=[]:=Yc om
  subst this;rw[nG]at hx;cases hx
 | n+1,s,h,x,hx=>by
  cases s with
  | nil=>rw[nG]at hx;cases hx
  | cons c r =>
   by_cases a:BO (c::r)=0
   ·rw[nH a,Em,EW]at hx;exact sM n r (su h) x hx
   ·rw[nI a]at hx;rcases Ys.1 hx with e|hx
    ·rw[e];exact xh a
    ·exact sM n _ (by rw[Y6];omega) x hx
theorem gA:∀(n:Nat) (s:Lu),s.length<=n->(B_ s).length*19<=s.length
 | 0,s,h=>by
  have:s=[]:=Yc om
  subst this;rw[nG];simp
 | n+1,s,h=>by
  cases s with
  | nil=>rw[nG];simp
  | cons c r =>
   by_cases a:BO (c::r)=0
   ·rw[nH a,Em,EW]
    have:=gA n r (su h)
    rw[Y4];omega
   ·have b:=Xp9 _ a;have d:=cT (c::r)
    have:=gA n ((c::r).drop (BO (c::r))) (by rw[Y6];omega)
    rw[Y6]at this;rw[nI a,Y4];omega
def tag(x:List UInt8):List UInt8:=match Xi x with|some (k,_)=>pre k|none=>[]
def grow(seen:List Lu)(x:Lu):List Lu:=if x∈seen then seen else seen++[x]
def sign(seen:List Lu)(x:Lu):Lu:=tag x++35::Go.Lib.decDigits (seen.idxOf x)
def QY:Nat->List (List UInt8)->List UInt8->List (List UInt8)×List UInt8
 | 0,seen,s=>(seen,s)
 | k+1,seen,s=>if BO s=0 then((QY k seen (s.drop 1)).1,s.take 1++(QY k seen (s.drop 1)).2)else
  ((QY k (grow seen (s.take (BO s))) (s.drop (BO s))).1,sign seen (s.take (BO s))++(QY k (grow seen (s.take (BO s))) (s.drop (BO s))).2)
theorem pD:∀k seen,QY k seen []=(seen,[])
 | 0,_=>rfl
 | k+1,seen=>by rw[QY,Y7 Xw3,o0,pD k seen];rfl
theorem xm:∀(n k:Nat) (seen:List Lu) (s:Lu),s.length<=n->s.length<=k->QY k seen s=QY n seen s
 | 0,k,seen,s,b,_=>by
  have:s=[]:=Yc om
  subst this;rw[pD,pD]
 | n+1,0,seen,s,_,a=>by
  have:s=[]:=Yc om
  subst this;rw[pD,pD]
 | n+1,k+1,seen,s,b,a=>by
  rw[QY,QY];split
  ·rw[xm n k seen _ (by rw[Y6];omega) (by rw[Y6];omega)]
  ·rename_i h
   rw[xm n k _ _ (by rw[Y6];omega) (by rw[Y6];omega)]
def Hw(seen:List Lu)(s:Lu):List Lu×Lu:=QY s.length seen s
theorem Xwo{s:Lu}(seen:List Lu)(h:BO s=0):Hw seen s=((Hw seen (s.drop 1)).1,s.take 1++(Hw seen (s.drop 1)).2):=by
 cases s with
 | nil=>rfl
 | cons c r =>
  unfold Hw;rw[Y4,QY,Y7 h,Em,EW]
theorem YB{s:Lu}(seen:List Lu)(h:BO s≠0):Hw seen s=((Hw (grow seen (s.take (BO s))) (s.drop (BO s))).1,sign seen (s.take (BO s))++(Hw (grow seen (s.take (BO s))) (s.drop (BO s))).2):=by
 have a:=cT s;unfold Hw;rw[show s.length=(s.length-1)+1 by omega,QY,Y3 h,xm (s.drop (BO s)).length (s.length-1) _ _ (Y9 _) (by rw[Y6];omega)]
theorem Xpn:∀(n:Nat) (seen:List Lu) (s:Lu),s.length<=n->B_ s=[]->Hw seen s=(seen,s)
 | 0,seen,s,h,_=>by
  have:s=[]:=Yc om
  subst this;rfl
 | n+1,seen,s,h,a=>by
  cases s with
  | nil=>rfl
  | cons c r =>
   by_cases b:BO (c::r)=0
   ·rw[nH b,Em,EW]at a;rw[Xwo seen b,Em,EW,Xpn n seen r (su h) a];rfl
   ·rw[nI b]at a;cases a
theorem Xiw:∀(n:Nat) (seen:List Lu) (s x:Lu) (L:List Lu),s.length<=n->B_ s=x::L->
  ∃v u,s=v++(x++u)/\B_ u=L/\(∀j,j<v.length->BO (s.drop j)=0)/\Hw seen s=((Hw (grow seen x) u).1,v++(sign seen x++(Hw (grow seen x) u).2))
 | 0,seen,s,x,L,h,a=>by
  have:s=[]:=Yc om
  subst this;cases a
 | n+1,seen,s,x,L,h,a=>by
  cases s with
  | nil=>cases a
  | cons c r =>
   by_cases b:BO (c::r)=0
   ·rw[nH b,Em,EW]at a;obtain⟨v,u,e,f,g,i⟩:=Xiw n seen r x L (su h) a;refine⟨c::v,u,by rw[e];rfl,f,λj d=>?_,?_⟩
    ·cases j with
     | zero=>exact b
     | succ j=>exact g j (su d)
    ·rw[Xwo seen b,Em,EW,i];rfl
   ·rw[nI b,List.cons.injEq]at a;refine⟨[],(c::r).drop (BO (c::r)),?_,a.2,λj d=>Aw d (Nat.not_lt_zero _),?_⟩
    ·rw[<-a.1,CS,FA]
    ·rw[YB seen b,a.1];rfl
theorem RB{s v u x:Lu}(hx:(Xi x).isSome)(e:s=v++(x++u))(h:∀j,j<v.length->BO (s.drop j)=0):Go.Lib.index s x=(v.length:Int):=by
 have g:=Mt hx;refine Go.Lib.index_first (by rw[e,Y0];omega) ?_ ?_
 ·rw[Go.Lib.occAt,e,kX];exact qH.2 ⟨u,O⟩
 ·intro j c;cases a:Go.Lib.occAt s x j with
  | false=>rfl
  | true =>
   exfalso
   rw[Go.Lib.occAt]at a;obtain⟨t,b⟩:=qH.1 a;have d:=h j c;have f:BO (s.drop j)=x.length:=Pd (by rw[<-b,Y0];omega) (by rw[<-b,VE];exact hx);omega
def hole(s:Lu):Bool:=decide (3<=s.length)&&(s.getD 0 0==123)&&(decide (48<=(s.getD 1 0).toNat)&&decide ((s.getD 1 0).toNat<=57))&&(s.getD 2 0==125)
def back(told:List Lu)(s:Lu):Lu:=if(s.getD 1 0).toNat-47<=told.length then told.getD (told.length-((s.getD 1 0).toNat-47)) []else[]
def QW(told:List (List UInt8)):Nat->List UInt8->List UInt8
 | 0,_=>[]
 | k+1,s=>if hole s=true then back told s++QW told k (s.drop 3)else s.take 1++QW told k (s.drop 1)
theorem Xw4:hole []=false:=rfl
theorem pB(told:List Lu):∀k,QW told k []=[]
 | 0=>rfl
 | k+1=>by
  rw[QW,Y3 (nB Xw4),o0,pB told k];rfl
theorem xb(told:List Lu):∀(n k:Nat) (s:Lu),s.length<=n->s.length<=k->QW told k s=QW told n s
 | 0,k,s,b,_=>by
  have:s=[]:=Yc om
  subst this;rw[pB,pB]
 | n+1,0,s,_,a=>by
  have:s=[]:=Yc om
  subst this;rw[pB,pB]
 | n+1,k+1,s,b,a=>by
  rw[QW,QW,xb told n k (s.drop 3) (by rw[Y6];omega) (by rw[Y6];omega),xb told n k (s.drop 1) (by rw[Y6];omega) (by rw[Y6];omega)]
def Ec(told:List Lu)(s:Lu):Lu:=QW told s.length s
theorem xY{told:List Lu}{s:Lu}(h:hole s=true):Ec told s=back told s++Ec told (s.drop 3):=by
 have a:s≠[]:=λe=>by rw[e,Xw4]at h;cases h
 have b:=LU.2 a;unfold Ec;rw[show s.length=(s.length-1)+1 by omega,QW,Y7 h,xb told (s.drop 3).length (s.length-1) _ (Y9 _) (by rw[Y6];omega)]
theorem WS{told:List Lu}{s:Lu}(h:hole s=false):Ec told s=s.take 1++Ec told (s.drop 1):=by
 cases s with
 | nil=>rfl
 | cons c r =>
  unfold Ec;rw[Y4,QW,Y3 (nB h),Em,EW]
def Vt:List (List UInt8)->List (List UInt8)->List (List UInt8)
 | _,[]=>[]
 | seen,s::l=>(Hw seen s).2::Vt (Hw seen s).1 l
end Sc
namespace Go.Proofs.W9
open Gk Ul Pc Tk Tr Sc
open Tryz
theorem Ex.fR{j:Option (Nat×Bool)}{t e:TypeId}{x y:Operand}{s:Nat}{k:Int}(hx:Ev n L x (.pointer (some p)))(q:Ev n L y (Ab k))(l:0<=k)(r:k<m)(i:P.underlying t=some (.array m e))(o:∀w,(Go.sizeOf e).run P w=.ok s w):
  Ex P n L w ⟨d,.slice t x (some y) none none,ty,pos,af,j⟩ (.slice (some (p.add (k.toNat*s))) (m-k.toNat) (m-k.toNat)) w:=λa g=>by
 obtain⟨f,b⟩:=pT i;have h:=run_sliceAt_array_l (P:=P) w t p (by rw[f,b];exact i) .i64 k l (by rw[b];omega);rw[f,b,o]at h;have c:m≠k.toNat:=om
 simp[execOp,hx a g,q a g,h,slicedAt,c]
def SZ:List Nat:=[20,19,19,20,23,19]
theorem fz(h:k<6):SZ[k]?=some ((pre (k+1)).length+17):=by
 match k,h with
 | 0,_=>exact O
 | 1,_=>exact O
 | 2,_=>exact O
 | 3,_=>exact O
 | 4,_=>exact O
 | 5,_=>exact O
theorem mz(a:AR I)(h:k<6):∃vs,At I { block:=0,off:=0+1*1+(k:Int).toNat*1 } vs/\vs[0]?=some (S (pre (k+1))):=by
 match k,h with
 | 0,_=>exact⟨_,At.add a (1+0),O⟩
 | 1,_=>exact⟨_,At.add a (1+1),O⟩
 | 2,_=>exact⟨_,At.add a (1+2),O⟩
 | 3,_=>exact⟨_,At.add a (1+3),O⟩
 | 4,_=>exact⟨_,At.add a (1+4),O⟩
 | 5,_=>exact⟨_,At.add a (1+5),O⟩
abbrev r_(s:Lu):Va:=.tuple #[Ab (((Xi s).getD (0,0)).1:Nat),Ba (((Xi s).getD (0,0)).2:Nat),.bool (Xi s).isSome]
theorem yy(s:Lu)(f:s.length<=1000000)(b:AJ I)(c:AR I)(N:La)(a:Aa B w I N):Calls prog 19 #[S s] w (AY λv w'=>v=r_ s/\Aa B w' I N) :=
 (sU s f b c N a).mono λe w' ⟨v,d,g,a⟩=>⟨v,d,by rw[g];unfold r_;cases Xi s<;>rfl,a⟩
def aJ(s:Lu)(i:Nat):Nat:=(SZ.take i).foldl (E5 s) 0
theorem xE{s:Lu}{z:Nat}(h:SZ[i]?=some z):aJ s (i+1)=E5 s (aJ s i) z:=by
 unfold aJ;rw[Yv,h,DO,K9];rfl
theorem Xy5(s:Lu):aJ s 6=BO s:=Xy6 s (L:=SZ) de de de
theorem Xuq(s:Lu)(P:s.length<=100000000)(K:AJ I)(C:AR I)(N:La)(c:Aa B w I N):
  Cz 16 [S s] w λv w'=>Aa B w' I (Ao 9 1 v (B_ s).length ((B_ s).map S)::N):=by
 refine gG 3 ?_;replace c:=c.Al 9 1;refine .lk [0] (σ:=Nat×Va×List Lu) (λ(at_,o,a) _m=>(3,o)::(4,Ab (at_:Nat))::_m) (λ(at_,o,a) w=>at_<=s.length/\a++B_ (s.drop at_)=B_ s/\Aa B w I (Ao 9 1 o a.length (a.map S)::N)) (λ(at_,o,a)=>s.length-at_) (0,.slice none 0 0,[]) ⟨Y5 _,O,c⟩ ?_;rintro⟨at_,o,a⟩ w ⟨L,b,c⟩;refine gN 4 ?_ ?_<;>intro D
 ·refine gG 1 (.val (Ex.fR (m:=7) (s:=1) (.of O) (.of O) de de jY A3) O ?_);refine gG 2 (.lk [0,3,4,16,17] (σ:=Nat×Nat) (λ(i,n) _m=>(5,Ab (n:Nat))::(18,Ab (i:Nat))::_m) (λ(i,n) w=>i<=6/\n=aJ (s.drop at_) i/\Aa B w I (Ao 9 1 o a.length (a.map S)::N)) (λ(i,n)=>6-i) (0,0) ⟨Y5 _,O,c⟩ ?_);rintro⟨i,n⟩ w ⟨hi,p,c⟩;refine gN 1 ?_ ?_<;>intro E
  ·have g:=fz (k:=i) om;have M:=Xxa (k:=i+1) om;obtain⟨vs,z,A⟩:=mz C (k:=i) om;refine gG 0 (.val (.io O O om om ET A3) O (.val (.BG (v:=S (pre (i+1))) (.of O) c z Bq A) O ?_));refine gN 12 ?_ ?_<;>intro F
   ·refine gH 5 (.val (.KG (l:=s) (i:=(at_:Int)) (j:=((at_+((pre (i+1)).length+17):Nat):Int)) (.of O) (.of O) (.of O) om om om Bb) O ?_);rw[show(s.drop (at_:Int).toNat).take (((at_+((pre (i+1)).length+17):Nat):Int).toNat-(at_:Int).toNat)=(s.drop at_).take ((pre (i+1)).length+17)by(try rw[Yh]);rw[Yh,kJ]];refine gE 0 (yy _ (by rw[Yj];omega) K C) ?_;intro w c;refine gM 8 ?_ ?_<;>intro d G
    ·refine gG 4 (rd (i+1,((pre (i+1)).length+17)) ⟨om,?_,c⟩);rw[xE g,E5,Y7 ⟨by rw[Y6];omega,d⟩]
    refine gG 2 (rd (i+1,n) ⟨om,?_,c⟩);rw[xE g,E5,Y3 (λh=>by rw[h.2]at d;cases d)];exact p
   refine gG 2 (rd (i+1,n) ⟨om,?_,c⟩);rw[xE g,E5,Y3 (λh=>by have:=h.1;rw[Y6]at this;omega)];exact p
  refine gN 2 ?_ ?_<;>intro H
  ·refine gG 3 ?_;have u:i=6:=om
   subst u;rw[Xy5]at p;have e:=cT (s.drop at_);rw[Y6]at e;have x:=gA _ s (Y9 _);have f:=Ye List.length b;rw[Y0]at f;refine rd (at_+1,o,a) ⟨om,?_,c⟩;rw[<-b,nH (s:=s.drop at_) om,JU]
  refine gG 0 ?_;have u:i=6:=om
  subst u;rw[Xy5]at p;have e:=cT (s.drop at_);rw[Y6]at e;have x:=gA _ s (Y9 _);have f:=Ye List.length b;rw[Y0]at f;refine gH 6 (.val (.KG (l:=s) (i:=(at_:Int)) (j:=((at_+n:Nat):Int)) (.of O) (.of O) (.of O) om om om Bb) O ?_);rw[show(s.drop (at_:Int).toNat).take (((at_+n:Nat):Int).toNat-(at_:Int).toNat)=(s.drop at_).take n by(try rw[Yh]);rw[Yh,kJ]];refine gG 7 ?_;intro J r t q w c;refine rd (at_+n,.slice r (a.length+1) t,a++[(s.drop at_).take n]) ⟨om,?_,?_⟩
  ·(try dsimp only)
   rw[<-b,nI (s:=s.drop at_) om,<-p,JU,Yg];rfl
  ·(try dsimp only)
   rw[Y0,Yn];exact c
 refine gG 2 ?_;have y:at_=s.length:=om
 subst y;rw[VC,nG,Yx]at b;subst b;exact c
theorem Xyg(s:Lu)(k:s.length<=100000000)(h:AJ I)(i:AR I)(N:La)(a:Aa B w I N):Calls prog 16 #[S s] w (AY λv w'=>∃J d f,v=.slice d (B_ s).length f/\Le I J/\(B_ s).length<=f/\RS J d 1 (B_ s).length ((B_ s).map S)/\Aa B w' J N) :=
 (Xuq s k h i N a).mono λe w' ⟨v,j,a⟩=>by
  obtain⟨ka,l,rfl,c,_⟩:=a.vS 0;obtain⟨J,g,b,a⟩:=a.fV 0;exact⟨_,j,J,ka,l,O,g,c,b,a⟩
end Go.Proofs.W9
namespace Rq
open Pc Gk Ul Go
def BK(k:UInt8):List UInt8->List (List UInt8)
 | []=>[[]]
 | c::r=>if c=k then[]::BK k r else match BK k r with
  | []=>[[c]]
  | h::t=>(c::h)::t
theorem mw(k:Ui)(s:Lu):BK k s≠[]:=by
 cases s with
 | nil=>simp[BK]
 | cons c r =>
  simp only[BK]
  split
  ·simp
  ·split<;>simp
theorem ye(k:Ui):∀(s:Lu),(∀x∈s,x≠k)->BK k s=[s]
 | [],_=>rfl
 | c::r,h=>by
  rw[BK,Y3 (h c sz),ye k r (λx hx=>h x (by simp[hx]))]
theorem PG(k:Ui):∀(a b:Lu),(∀x∈a,x≠k)->BK k (a++k::b)=a::BK k b
 | [],b,_=>by show BK k (k::b)=_;rw[BK,Y7 O]
 | c::r,b,h=>by
  show BK k (c::(r++k::b))=_
  rw[BK,Y3 (h c sz),PG k r b (λx hx=>h x (by simp[hx]))]
theorem Zc{k:Ui}{s:Lu}(h:s[i]?=some k)(c:∀j,j<i->s[j]?≠some k):BK k s=s.take i::BK k (s.drop (i+1)):=by
 have hi:i<s.length:=(Y1.1 h).1;have e:s=s.take i++k::s.drop (i+1):=by
  conv=>lhs;rw[<-FA i s]
  rw[Yq hi,(Y1.1 h).2]
 conv=>lhs;rw[e]
 refine PG k _ _ λx hx d=>?_
 obtain⟨j,a⟩:=GH.1 hx;rw[Q_]at a;split at a
 ·rename_i b
  exact c j b (by rw[a,d])
 ·cases a
theorem Nc(c:Ui):∀(n:Nat) (s:Lu),s.length<=n->Go.Lib.splitK [c] 0 (Go.Lib.count s [c]) s=BK c s:=by
 intro n
 induction n with
 | zero =>
  intro s h
  have:s=[]:=Yc om
  subst this;rfl
 | succ n j =>
  intro s h;have g:=Go.Lib.indexByte_ge s c
  by_cases e:Go.Lib.indexByte s c=-1
  ·have hi:Go.Lib.index s [c]=-1:=by rw[Go.Lib.index_one];exact e
   rw[Go.Lib.count_miss hi];refine(ye c s λx hx b=>?_).symm;obtain⟨k,a⟩:=GH.1 hx;exact Go.Lib.indexByte_none e k (by rw[a,b])
  ·obtain⟨i,a⟩:∃k:Nat,Go.Lib.indexByte s c=k:=⟨(Go.Lib.indexByte s c).toNat,om⟩
   obtain⟨d,f⟩:=Go.Lib.indexByte_some a;rw[Go.Lib.count_hit sz (by rw[Go.Lib.index_one];exact a),Zc d f];show Go.Lib.splitK [c] 0 (1+Go.Lib.count (s.drop (i+1)) [c]) s=_
   rw[LW 1,Go.Lib.splitK,Go.Lib.index_one,a,Y3 sz];simp only[Yh,DG,Y4,Yi,Yl]
   rw[j _ (by rw[Y6];omega)]
theorem ft(c:Ui):∀(n:Nat) (s:Lu),s.length<=n->(BK c s).length=Go.Lib.count s [c]+1:=by
 intro n
 induction n with
 | zero =>
  intro s h
  have:s=[]:=Yc om
  subst this;rw[Go.Lib.count_miss (by rw[Go.Lib.index_one];rfl)];rfl
 | succ n j =>
  intro s h;have g:=Go.Lib.indexByte_ge s c
  by_cases e:Go.Lib.indexByte s c=-1
  ·have hi:Go.Lib.index s [c]=-1:=by rw[Go.Lib.index_one];exact e
   rw[Go.Lib.count_miss hi,ye c s λx hx b=>?_]
   ·rfl
   ·obtain⟨k,a⟩:=GH.1 hx;exact Go.Lib.indexByte_none e k (by rw[a,b])
  ·obtain⟨i,a⟩:∃k:Nat,Go.Lib.indexByte s c=k:=⟨(Go.Lib.indexByte s c).toNat,om⟩
   obtain⟨d,f⟩:=Go.Lib.indexByte_some a;rw[Go.Lib.count_hit sz (by rw[Go.Lib.index_one];exact a),Zc d f];show(BK c (s.drop (i+1))).length+1=(1+Go.Lib.count (s.drop (i+1)) [c])+1
   rw[j _ (by rw[Y6];omega)];omega
theorem qd(k:Ui):∀(s:Lu),∀x∈BK k s,x.length<=s.length
 | [],x,h=>by simp[BK]at h;subst h;simp
 | c::r,x,h=>by
  have a:=qd k r;rw[BK]at h;split at h
  ·rcases Ys.1 h with rfl|h
   ·simp
   ·have:=a x h;simp;omega
  ·cases e:BK k r with
   | nil=>exact Aw e (mw k r)
   | cons y t =>
    rw[e]at h a;rcases Ys.1 h with rfl|h
    ·have:=a y sz;simp;omega
    ·have:=a x (by simp[h]);simp;omega
theorem PF(k:Ui):∀(s:Lu),(BK k s).length<=s.length+1
 | []=>by simp[BK]
 | c::r=>by
  have a:=PF k r;rw[BK];split
  ·simp;omega
  ·cases e:BK k r with
   | nil=>simp
   | cons y t=>rw[e]at a;simp at a ⊢;omega
def GM(c:Ui):Bool:=plain c&&c !=46&&c !=95&&c !=126
def fY(s:Lu):Bool:=List.all s GM&&!s.isEmpty
def I5(a b c:Ui):Bool:=decide (a.toNat<=c.toNat)&&decide (c.toNat<=b.toNat)
def Hj(c:Ui):Bool:=decide (33<=c.toNat)&&decide (c.toNat<=126)&&c !=34&&c !=44&&c !=59&&c !=92
def E2(c:Ui):Ui:=if decide (65<=c.toNat)&&decide (c.toNat<=90)then c+32 else c
def hB(a b:Lu):Bool:=a.length==b.length&&a.map E2==b.map E2
def CR:Lu:=[13,10]
def Xz(s:Lu):Lu×Nat×Lu:=if(Go.Lib.cut s CR).2.2=true then((Go.Lib.cut s CR).1,0,(Go.Lib.cut s CR).2.1)else([],3,s)
def P1(s:Lu):Bool:=Go.Lib.hasPrefix s [47]&&List.all s (I5 33 126)
def vF:Lu:=[72,84,84,80,47,49,46,49]
def GET:Lu:=[71,69,84]
def pj:Lu:=[80,79,83,84]
def uI(p:List Lu):Bool:=(((((p.length:Nat):Int)!=3||p.getD 0 []==[])||!List.all (p.getD 0 []) (I5 65 90))||!P1 (p.getD 1 []))||p.getD 2 []!=vF
def Me(p:List Lu):Bool:=p.getD 0 []!=GET&&p.getD 0 []!=pj
def QP(l:Lu):Lu×Lu×Nat :=
 if uI (BK 32 l)=true then([],[],17)else if Me (BK 32 l)=true then([],[],16)else((BK 32 l).getD 0 [],(BK 32 l).getD 1 [],0)
theorem uP(l:Lu)(k:Nat):((BK 32 l).getD k []).length<=l.length:=by
 rw[Ya];cases h:(BK 32 l)[k]? with
 | none=>simp
 | some x=>exact qd 32 l x (Y8 h)
theorem ia{p:List Lu}(h:k<p.length):(p.map S)[k]?=some (S (p.getD k [])):=by
 rw[Yu,Ya,Y2 h];rfl
def EH(c:Ui)(s:Lu):Lu×Lu×Bool:=(BD [c] s,(Xu [c] s).drop 1,!(Xu [c] s).isEmpty)
def O_(l:Lu):Lu:=Go.Lib.trimS (EH 58 l).2.1 [32,9]
def W8(l:Lu):Bool:=(!(EH 58 l).2.2||!fY (EH 58 l).1)||!List.all (O_ l) (I5 32 126)
def TX(l:Lu):Pq×Nat:=if W8 l=true then(([],[]),18)else(((EH 58 l).1,O_ l),0)
def RH(s:Lu):Int:=s.foldl (λn c=>IntKind.i64.wrap (IntKind.i64.wrap (10*n)+IntKind.u8.wrap ((c.toNat:Int)-48))) 0
def i_(s:Lu):Bool:=(s !=[]&&decide ((s.length:Int)<=4))&&List.all s (I5 48 57)
def EC(name:Lu)(b:List Pq):Lu×Nat:=b.foldl (λa h=>if hB h.1 name=true then(if a.2=0 then h.2 else a.1,a.2+1)else a) ([],0)
def TE:Lu:=[116,114,97,110,115,102,101,114,45,101,110,99,111,100,105,110,103]
def CL:Lu:=[99,111,110,116,101,110,116,45,108,101,110,103,116,104]
def bF(a:List Pq):Int×Nat :=
 if 0<(EC TE a).2 then(0,18)else if(EC CL a).2=0 then(0,0)
 else if(decide (1<((EC CL a).2:Int))||!i_ (EC CL a).1)=true then(0,18)else(RH (EC CL a).1,0)
def HQ(s:Lu):Bool:=(((Xz s).2.1:Nat):Int)==0&&(Xz s).1==[]
def EF:Nat->List UInt8->List Pq->List Pq×Nat×List UInt8
 | 0,s,a=>(a,3,s)
 | k+1,s,a =>
  if HQ s=true then(a,0,(Xz s).2.2)
  else if(Xz s).2.1≠0 then(a,(Xz s).2.1,(Xz s).2.2)
  else if 32<=a.length then(a,5,(Xz s).2.2)
  else if(TX (Xz s).1).2≠0 then(a,(TX (Xz s).1).2,(Xz s).2.2)
  else EF k (Xz s).2.2 (a++[(TX (Xz s).1).1])
theorem Xy2(s:Lu)(c:Ui):(Go.Lib.trimB s c).length<=s.length:=by
 have h:∀(p:Ui->Bool) (l:Lu),(l.dropWhile p).length<=l.length:=λp l=>(Y6j p).length_le
 unfold Go.Lib.trimB Go.Lib.trimLeftB Go.Lib.trimRightB;refine Yr (h _ _) ?_;rw[u7];refine Yr (h _ _) ?_;rw[u7];exact Y9 _
theorem Xy3(s p:Lu):(Go.Lib.trimS s p).length<=s.length:=by
 have h:∀(p:Ui->Bool) (l:Lu),(l.dropWhile p).length<=l.length:=λp l=>(Y6j p).length_le
 unfold Go.Lib.trimS Go.Lib.trimLeftS Go.Lib.trimRightS;refine Yr (h _ _) ?_;rw[u7];refine Yr (h _ _) ?_;rw[u7];exact Y9 _
theorem ly(s p:Lu):(Go.Lib.cut s p).1.length<=s.length/\(Go.Lib.cut s p).2.1.length<=s.length:=by
 unfold Go.Lib.cut;split<;>simp<;>omega
theorem bC(c:Ui)(s:Lu):(EH c s).1.length<=s.length/\(EH c s).2.1.length<=s.length:=⟨qh [c] s,by
 show((Xu [c] s).drop 1).length<=_
 have:=bD [c] s
 rw[Y6];omega⟩
theorem uo(s:Lu):(Xz s).1.length<=s.length/\(Xz s).2.2.length<=s.length:=by
 have h:=ly s CR;unfold Xz;split
 ·exact h
 ·exact⟨Y5 _,Y9 _⟩
theorem Pu(s:Lu)(h:(Xz s).2.1=0):(Xz s).2.2.length<s.length:=by
 unfold Xz Go.Lib.cut at h ⊢
 by_cases hi:0<=Go.Lib.index s CR
 ·rw[Y7 hi]at h ⊢;have b:=Go.Lib.index_room s CR hi;have a:CR.length=2:=rfl;simp only[Y7,Y6]
  omega
 ·rw[Y3 hi]at h;simp at h
theorem W9(l:Lu):(TX l).1.1.length<=l.length/\(TX l).1.2.length<=l.length:=by
 have h:=bC 58 l;unfold TX;split
 ·exact⟨Y5 _,Y5 _⟩
 ·exact⟨h.1,Yr (Xy3 _ _) h.2⟩
theorem x4{n:Nat}:∀(k:Nat) (s:Lu) (a:List Pq),s.length<=n->a.length<=32->(∀h∈a,h.1.length<=n/\h.2.length<=n)->
  (EF k s a).1.length<=32/\(∀h∈(EF k s a).1,h.1.length<=n/\h.2.length<=n)/\(EF k s a).2.2.length<=n
 | 0,s,a,e,d,b=>⟨d,b,e⟩
 | k+1,s,a,e,d,b=>by
  have f:=uo s;have g:=W9 (Xz s).1;rw[EF];split
  ·exact⟨d,b,by dsimp only;omega⟩
  ·split
   ·exact⟨d,b,by dsimp only;omega⟩
   ·split
    ·exact⟨d,b,by dsimp only;omega⟩
    ·split
     ·exact⟨d,b,by dsimp only;omega⟩
     ·refine x4 k _ _ om (by simp;omega) λh c=>?_
      rcases Yt.1 c with c|c
      ·exact b h c
      ·simp at c;subst c;omega
theorem Xj1:∀(k j:Nat) (s:Lu) (a:List Pq),s.length<k->s.length<j->EF k s a=EF j s a
 | 0,j,s,a,h,_=>Aw h om
 | k+1,0,s,a,_,h=>Aw h om
 | k+1,j+1,s,a,c,d=>by
  rw[EF,EF];split
  ·rfl
  ·split
   ·rfl
   ·rename_i b
    split
    ·rfl
    ·split
     ·rfl
     ·have:=Pu s (su b)
      exact Xj1 k j _ _ om om
def G_(nm:Lu)(a:Lu×Nat)(h:Pq):Lu×Nat:=if hB h.1 nm=true then(if a.2=0 then h.2 else a.1,a.2+1)else a
theorem O9(nm:Lu){n:Nat}:∀(b:List Pq) (a:Lu×Nat),(∀h∈b,h.2.length<=n)->a.1.length<=n->(b.foldl (G_ nm) a).1.length<=n/\(b.foldl (G_ nm) a).2<=a.2+b.length
 | [],a,_,c=>⟨c,Y9 _⟩
 | h::b,a,d,c=>by
  rw[JS,Y4];have e:(G_ nm a h).1.length<=n/\(G_ nm a h).2<=a.2+1:=by
   unfold G_;split
   ·split
    ·exact⟨d h sz,Y9 _⟩
    ·exact⟨c,Y9 _⟩
   ·exact⟨c,vt _⟩
  have f:=O9 nm b (G_ nm a h) (λx hx=>d x (by simp[hx])) e.1;exact⟨f.1,om⟩
theorem O8(nm:Lu):∀(b:List Pq) (a:Lu×Nat),(b.foldl (G_ nm) a).2<=a.2+b.length
 | [],a=>Y9 _
 | h::b,a=>by
  rw[JS,Y4];have d:=O8 nm b (G_ nm a h);have c:(G_ nm a h).2<=a.2+1:=by unfold G_;split<;>simp
  omega
theorem rp(nm:Lu)(a:List Pq):(EC nm a).2<=a.length:=Yr (O8 nm a ([],0)) sz
theorem Mi(nm:Lu)(a:List Pq)(h:∀h∈a,h.2.length<=n):(EC nm a).1.length<=n/\(EC nm a).2<=a.length:=by
 have:=O9 nm a ([],0) h (Y5 _)
 exact⟨this.1,Yr this.2 sz⟩
structure jB where
 AE:Lu
 target:Lu
 Ai:List Pq
 body:Lu
def jB.none:jB:=⟨[],[],[],[]⟩
def oK(n:Nat)(want:Int):Nat:=if(n:Int)<want then 3 else if want<(n:Int)then 9 else 0
def X0(s:Lu):jB×Nat :=
 if 4096<s.length then(.none,2)else if(Xz s).2.1≠0 then(.none,(Xz s).2.1)
 else if(QP (Xz s).1).2.2≠0 then(.none,(QP (Xz s).1).2.2)
 else if(EF ((Xz s).2.2.length+1) (Xz s).2.2 []).2.1≠0 then(.none,(EF ((Xz s).2.2.length+1) (Xz s).2.2 []).2.1)
 else if(bF (EF ((Xz s).2.2.length+1) (Xz s).2.2 []).1).2≠0 then(.none,(bF (EF ((Xz s).2.2.length+1) (Xz s).2.2 []).1).2)
 else if oK (EF ((Xz s).2.2.length+1) (Xz s).2.2 []).2.2.length (bF (EF ((Xz s).2.2.length+1) (Xz s).2.2 []).1).1≠0 then(.none,oK (EF ((Xz s).2.2.length+1) (Xz s).2.2 []).2.2.length (bF (EF ((Xz s).2.2.length+1) (Xz s).2.2 []).1).1)
 else(⟨(QP (Xz s).1).1,(QP (Xz s).1).2.1,(EF ((Xz s).2.2.length+1) (Xz s).2.2 []).1,(EF ((Xz s).2.2.length+1) (Xz s).2.2 []).2.2⟩,0)
def Gd(name:Lu)(l:List Pq):Lu×Nat:=l.foldl (λa h=>if h.1=name then(if a.2=0 then h.2 else a.1,a.2+1)else a) ([],0)
def Kb(name:Lu)(a:Lu×Nat)(h:Pq):Lu×Nat:=if h.1=name then(if a.2=0 then h.2 else a.1,a.2+1)else a
theorem O6(nm:Lu):∀(b:List Pq) (a:Lu×Nat),(b.foldl (Kb nm) a).2<=a.2+b.length
 | [],a=>Y9 _
 | h::b,a=>by
  rw[JS,Y4];have d:=O6 nm b (Kb nm a h);have c:(Kb nm a h).2<=a.2+1:=by unfold Kb;split<;>simp
  omega
theorem rh(nm:Lu)(a:List Pq):(Gd nm a).2<=a.length:=Yr (O6 nm a ([],0)) sz
theorem O7(nm:Lu){n:Nat}:∀(c:List Pq) (a:Lu×Nat),(∀h∈c,h.2.length<=n)->a.1.length<=n->(c.foldl (Kb nm) a).1.length<=n
 | [],a,_,b=>b
 | h::c,a,d,b=>by
  rw[JS];have e:(Kb nm a h).1.length<=n:=by
   unfold Kb;split
   ·split
    ·exact d h sz
    ·exact b
   ·exact b
  exact O7 nm c (Kb nm a h) (λx hx=>d x (by simp[hx])) e
theorem lI(nm:Lu)(a:List Pq)(h:∀h∈a,h.2.length<=n):(Gd nm a).1.length<=n:=O7 nm a ([],0) h (Y5 _)
def JV(m t:Lu):Bool:=(((Q7 (EH 63 t).2.1).2:Nat):Int)!=0||m !=pj
def B9(m t a:Lu):List Pq×Nat :=
 if JV m t=true then Q7 (EH 63 t).2.1 else
 if(Q7 a).2≠0 then([],(Q7 a).2)else
 if 32<(Q7 (EH 63 t).2.1).1.length+(Q7 a).1.length then([],5)else((Q7 (EH 63 t).2.1).1++(Q7 a).1,0)
def ZK(t:Lu):Bool:=(!(EH 61 t).2.2||!fY (EH 61 t).1)||!List.all (EH 61 t).2.1 Hj
def GD:List (List UInt8)->List Pq->List Pq×Nat
 | [],a=>(a,0)
 | p::r,a =>
  if Go.Lib.trimB p 32=[]then GD r a else if 20<=a.length then([],5)
  else if ZK (Go.Lib.trimB p 32)=true then([],10)else GD r (a++[((EH 61 (Go.Lib.trimB p 32)).1,(EH 61 (Go.Lib.trimB p 32)).2.1)])
theorem xy:∀(l:List Lu) (a:List Pq),a.length<=20->(GD l a).1.length<=20
 | [],a,h=>h
 | p::r,a,h=>by
  rw[GD];split
  ·exact xy r a h
  ·split
   ·exact Y5 _
   ·split
    ·exact Y5 _
    ·exact xy r _ (by simp;omega)
def qm:Lu:=[99,111,111,107,105,101]
def Hk:Lu:=[67,65,83,84,71,67]
def DM(a:List Pq):Lu×Nat:=((Gd Hk (GD (BK 59 (EC qm a).1) []).1).1,(GD (BK 59 (EC qm a).1) []).2)
theorem wK:∀(l:List Lu) (a:List Pq),a.length<=32->(TW l a).1.length<=32
 | [],a,h=>h
 | x::r,a,h=>by
  rw[TW];split
  ·exact wK r a h
  ·split
   ·exact Y5 _
   ·split
    ·exact Y5 _
    ·exact wK r _ (by simp;omega)
theorem x1(s:Lu):(Q7 s).1.length<=32:=wK _ _ de
theorem VU(m t a:Lu):(B9 m t a).1.length<=32:=by
 unfold B9;split
 ·exact x1 _
 ·split
  ·exact Y5 _
  ·split
   ·exact Y5 _
   ·simp;omega
end Rq
namespace Gk
open Go
abbrev qE(s:Lu):Lv:=[S s]
theorem rX(l:List Lu):X2 qE l=l.map S:=by
 unfold X2
 induction l with
 | nil=>rfl
 | cons x l a=>rw[Yw,Gg,a];rfl
theorem jj{cells:α->Lv}{s:Nat}(c:∀x,(cells x).length=s){l:List α}(b:RS I a s l.length (X2 cells l)){x:α}(hx:l[i]?=some x):∃q,a=some q/\At I (q.add (i*s)) (cells x):=Go.Proofs.W9.Bv c b hx
end Gk
namespace Go.Proofs.W9
open Gk Ul Pc
open Tryz
theorem tz(s:Lu)(i:Nat)(h:i<s.length):Ar (s.take (i+1))=Ar (s.take i)++El (at_ s (i:Int)):=by
 rw[Yv,LA h,eg];show _++Ar [_]=_
 rw[show Ar [at_ s (i:Int)]=El (at_ s (i:Int))++[] from O,Yx]
theorem Wz(s:Lu)(i:Nat)(h:i<=s.length):(Ar (s.take i)).length<=3*i:=by
 have:=a_ (s.take i)
 rw[Yj]at this;omega
theorem PE{c:Ui}(h:plain c=true):El c=[c]:=by rw[El,Y7 h]
theorem PD{c:Ui}(h:plain c=false):El c=K8 c:=by rw[El,Y3 (nB h)]
theorem wu(s:Lu)(n:s.length<=1000000)(l:Bw I)(N:La)(a:Aa B w I N):
  Ce B I N 158 [S s] w (S (Ar s)):=by
 refine gG 5 ?_;intro c w a;replace a:=(a.Al 5 1).pick 1 O;refine .lk [0,3,7] (σ:=Va×Va×Nat) (λ(p,v,i) _m=>(8,Ab (i:Nat))::_m) (λ(p,v,i) w=>i<=s.length/\(p=.pointer none\/p=ptr c 0)/\((Ar (s.take i))=[]->v=.slice none 0 0)/\Aa B w I (Ad c [p,v] 68::Ao 5 1 v ((Ar (s.take i))).length (Aj ((Ar (s.take i))))::N)) (λ(p,v,i)=>s.length-i) (.pointer none,.slice none 0 0,0) ⟨Y5 _,.inl O,λ_=>rfl,a⟩ ?_;rintro⟨p,v,i⟩ w ⟨hi,j,d,a⟩;refine gN 1 ?_ ?_<;>intro k
 ·have m:=Wz s i om;refine gC 7 (nw _ _) ?_;rintro _ _ ⟨rfl,rfl⟩;refine gM 0 ?_ ?_<;>intro b g
  ·refine gC 1 (X9y c p v _ _ j _ a om) ?_;rintro _ w ⟨rfl,f,a⟩;refine gG 2 (Br (_,f,i+1) O ⟨om,.inr O,λh=>Aw h ?_,?_⟩)
   ·try dsimp only
    rw[tz s i om,PE b];exact λe=>by have:=Ye List.length e;simp[K8]at this
   ·try dsimp only
    rw[tz s i om,PE b];exact a
  refine gE 1 (Xgh _ l) ?_;intro w a;refine gC 0 (Xo c p v _ _ j _ a (by simp only[K8,Y4,Yi];omega)) ?_;rintro _ w ⟨rfl,f,a⟩;refine gG 2 (Br (_,f,i+1) O ⟨om,.inr O,λh=>Aw h ?_,?_⟩)
  ·try dsimp only
   rw[tz s i om,PD b];exact λe=>by have:=Ye List.length e;simp[K8]at this
  ·try dsimp only
   rw[tz s i om,PD b];exact a
 refine gE 0 (nt c p v _ d) ?_;intro w a;refine gG 1 (⟨?_,a⟩);rw[show i=s.length by omega,GK]
theorem Xen(c:Ui)(b a:Bool)(i:Nat)(N:La)(g:Aa B w I (Ad i [.bool a] 4::N)):
  Ce B I (Ad i [.bool a] 4::N) 370 [U8 c.toNat,.bool b,ptr i 0] w (S [if b=true then c else dB a c]):=by
 refine gM 10 ?_ ?_<;>intro d j
 ·refine gG 1 (⟨?_,g⟩);have f:=d;cases b
  ·simp only[Yb,beq_iff_eq,iT,Bool.and_true]at f
   have e:c=43:=GL.1 (by have:=f.2;show c.toNat=43;omega);rw[Y3 de,dB,f.1,e];rfl
  ·simp at f
 refine gH 2 ?_;intro l w g;refine .val (.r6 (c:=c) (.of O) g (k:=0) O O BC BW Bb) O (gG 1 (⟨?_,g.s⟩));have f:=d;cases b
 ·rw[Y3 de,dB,Y3];intro h;simp only[Yb,beq_iff_eq]at h
  rw[h.1,h.2]at f
  revert f;decide
 ·rw[Y7 O]
theorem RO(s:Lu)(H:s.length<=1000000)(a:Bool)(k:Nat)(E:Bw I)(N:La)(b:Aa B w I (Ad k [.bool a] 4::N)):
  Cz 369 [S s,.func (.func 370) #[] #[ptr k 0]] w λv w'=>∃u n,v=.tuple #[S u,Ab (n:Nat)]/\(match dec a s with|none=>u=[]/\n=11|some t=>u=t/\n=0)/\Aa B w' I N:=by
 refine gG 4 ?_;intro l w b;replace b:=(b.Al 5 1).pick 1 O;refine .lk [0,1,6] (σ:=Lu×Va×Va×Nat) (λ(out,p,v,i) _m=>(7,Ab (i:Nat))::_m) (λ(out,p,v,i) w=>i<=s.length/\out.length+(s.length-i)<=s.length/\dec a s=(dec a (s.drop i)).map (out++·)/\(p=.pointer none\/p=ptr l 0)/\(out=[]->v=.slice none 0 0)/\Aa B w I (Ad l [p,v] 68::Ao 5 1 v (out).length (Aj (out))::Ad k [.bool a] 4::N)) (λ(out,p,v,i)=>s.length-i) ([],.pointer none,.slice none 0 0,0) ⟨Y5 _,by simp,by simp,.inl O,λ_=>rfl,b⟩ ?_;rintro⟨out,p,v,i⟩ w ⟨hi,F,j,D,o,b⟩;refine gN 4 ?_ ?_<;>intro z
 ·refine gM 4 ?_ ?_<;>intro d A
  ·refine gH 4 (.Bu (cap:=[ptr k 0]) func370 O (.of O) (AM O (AM O X3)) O (Xen (at_ s (i:Int)) false a k _ (b.x [2])) ?_);rintro _ w ⟨rfl,b⟩;replace b:=(b.pick 2 O).pick 2 O;rw[Y3 de];refine gC 0 (Xo l p v out _ D _ b (by simp only[Y4,Yi];omega)) ?_;rintro _ w ⟨rfl,y,b⟩;refine gG 3 ?_;have g:at_ s (i:Int)≠37:=λe=>by rw[e]at d;simp at d
   refine Br (_,_,y,i+1) O ⟨om,by rw[Y0];simp only[Y4,Yi];omega,?_,.inr O,λh=>Aw h sz,b⟩;rw[j,Xf s om,tw,Y3 g];cases dec a (s.drop (i+1))<;>simp
  refine gF 2 (aF s i om E) ?_;rintro _ w ⟨J,ok,rfl,c,b⟩;refine gM 7 ?_ ?_<;>intro f C
  ·refine gG 2 (⟨[],11,O,?_,b.s⟩);have g:at_ s (i:Int)=37:=GL.1 (by simp only[bne_eq_false_iff_eq]at d;show(at_ s (i:Int)).toNat=37;omega);have m:Pc.told (s.drop (i+1))=none:=by
    cases m:Pc.told (s.drop (i+1))with
    | none=>rfl
    | some v=>rw[m]at c;rw[c.1]at f;simp at f
   have:dec a s=none:=by rw[j,Xf s om,tw,Y7 g,m];rfl
   rw[this];exact⟨O,O⟩
  have g:at_ s (i:Int)=37:=GL.1 (by simp only[bne_eq_false_iff_eq]at d;show(at_ s (i:Int)).toNat=37;omega);obtain⟨G,q⟩:∃v,Pc.told (s.drop (i+1))=some v:=by
   cases m:Pc.told (s.drop (i+1))with
   | some v=>exact⟨v,O⟩
   | none=>rw[m]at c;simp only at c;rw[c]at f;simp at f
  rw[q]at c;obtain⟨_,rfl⟩:=c;have r:=gX q;rw[Y6]at r;refine gH 2 (.Bu (cap:=[ptr k 0]) func370 O (.of O) (AM O (AM O X3)) O (Xen G true a k _ (b.x [2])) ?_);rintro _ w ⟨rfl,b⟩;replace b:=(b.pick 2 O).pick 2 O;rw[Y7 O];refine gC 0 (Xo l p v out _ D _ b (by simp only[Y4,Yi];omega)) ?_;rintro _ w ⟨rfl,y,b⟩;refine gG 6 ?_;refine Br (_,_,y,i+3) O ⟨om,by rw[Y0];simp only[Y4,Yi];omega,?_,.inr O,λh=>Aw h sz,b⟩;rw[j,Xf s om,tw,Y7 g,q];simp only[JU]
  cases dec a (s.drop (i+3))<;>simp[vl]
 refine gE 0 (nt l p v out o) ?_;intro w b;refine gG 2 (⟨out,0,O,?_,b.s⟩)
 have:dec a s=some out:=by rw[j,Yo om,OY];simp
 rw[this];exact⟨O,O⟩
theorem Xig(s:Lu)(g:s.length<=1000000)(a:Bool)(f:Bw I)(N:La)(d:Aa B w I N):
  Cz 305 [S s,.bool a] w λv w'=>∃c b,v=.tuple #[S c,Ab (b:Nat)]/\(match dec a s with|none=>c=[]/\b=11|some t=>c=t/\b=0)/\Aa B w' I N:=by
 refine gH 5 ?_;intro e w d;refine gF 0 (RO s g a e f) ?_;rintro _ w ⟨c,b,rfl,h,d⟩;exact gG 4 ⟨c,b,O,h,d⟩
open Tk Tr
def TH(l:List Ah)(name:Lu):List Lu:=((path l name).filter λr=>(r.kind:Int)==4).map Ah.url
theorem Xet(p:Wp)(Z:Wd)(a:Oa)(c:Nat)(G:Z.l.length<=64)(e:Wf Z.l)(name:Lu)(N:La)(b:Aa B w I (Ad p.wb (Cr p Z) 115::Bc p.tb Z.room a c Z.l N)):
  Cz 265 [ptr p.wb 0,S name] w λv w'=>∃J ka j,v=.slice ka (TH Z.l name).length j/\Le I J/\(TH Z.l name).length<=j/\RS J ka 1 (TH Z.l name).length ((TH Z.l name).map S)/\Aa B w' J (Ad p.wb (Cr p Z) 115::Bc p.tb Z.room a c Z.l N):=by
 refine gG 2 ?_;replace b:=b.Al 9 1;refine gF 5 (xN _ Z.room a c Z.l om e name) ?_;rintro _ w ⟨J,pa,W,rfl,P,R,t,b⟩;have T:=nX e name;replace b:=b.px [3,3];refine gG 2 (.lk [0,15,16] (σ:=Nat×Va) (λ(i,f) _m=>(5,f)::(17,Ab (i:Nat))::_m) (λ(i,f) w=>i<=(path Z.l name).length/\Aa B w J (Ao 9 1 f ((((path Z.l name).take i).filter λr=>(r.kind:Int)==4).map Ah.url).length (((((path Z.l name).take i).filter λr=>(r.kind:Int)==4).map Ah.url).map S)::Ad p.wb (Cr p Z) 115::Bc p.tb Z.room a c Z.l N)) (λ(i,f)=>(path Z.l name).length-i) (0,.slice none 0 0) ⟨Y5 _,b⟩ ?_);rintro⟨i,f⟩ w ⟨hi,b⟩;refine gM 1 ?_ ?_<;>intro D E
 ·obtain⟨r,C⟩:∃r,(path Z.l name)[i]?=some r:=⟨_,Y2 om⟩
  obtain⟨q,U⟩:=tJ (Y8 C);have x:getD Z.l r.name=r:=by rw[getD,e.rf U];rfl
  obtain⟨X,rfl,M⟩:=t.2 om;have A:((path Z.l name).map λr=>S r.name)[i]?=some (S r.name):=by rw[Yu,C];rfl
  have u:=EV (λr:Ah=>(r.kind:Int)==4) ((path Z.l name).take i);rw[Yj]at u;have Q:((((path Z.l name).take i).filter λr=>(r.kind:Int)==4).map Ah.url).length=(((path Z.l name).take i).filter λr=>(r.kind:Int)==4).length:=Ym _;have g:((((path Z.l name).take (i+1)).filter λr=>(r.kind:Int)==4).map Ah.url)=((((path Z.l name).take i).filter λr=>(r.kind:Int)==4).map Ah.url)++([r].filter λr=>(r.kind:Int)==4).map Ah.url:=by rw[Yv,C,DO,VB,Yn]
  refine gH 1 ?_;refine .val (.ld1 (.of O) (by have L:=JH b M A;simpa using L) Bq) O ?_;refine gE 6 (Fx p.tb Z.room a c Z.l om r.name) ?_;intro w b;rw[x];refine gG 9 ?_;intro V w b;refine gM 0 ?_ ?_<;>intro d F
  ·refine gG 8 ?_;intro K m n h w b;refine rd (i+1,.slice m (((((path Z.l name).take i).filter λr=>(r.kind:Int)==4).map Ah.url).length+1) n) ⟨om,?_⟩;rw[g,JQ,Y7 (su d),iS,Yw,EK,Yn,show(((((path Z.l name).take i).filter λr=>(r.kind:Int)==4).map Ah.url)++[r.url]).length=((((path Z.l name).take i).filter λr=>(r.kind:Int)==4).map Ah.url).length+1 from Y0];exact(((((b.drop (k:=0) O).pick 1 O).pick 1 O).pick 3 O).pick 3 O)
  refine gG 2 (rd (i+1,f) ⟨om,?_⟩);rw[g,JQ,Y3 (su d),iS,EK,Yx];exact(((((b.drop (k:=0) O).pick 1 O).pick 1 O).pick 3 O).pick 3 O)
 refine gG 2 ?_;have y:i=(path Z.l name).length:=om
 subst y;rw[GK]at b;obtain⟨ka,j,rfl,z,_⟩:=b.vS 0;obtain⟨H,o,s,b⟩:=b.fV 0;exact⟨H,ka,j,O,P.trans o,z,s,b⟩
structure Qr where
 ticket:Lu
 service:Lu
 renew:Bool
 Ax:Bool
abbrev PL(q:Qr):Lv:=[S q.ticket,S q.service,.bool q.renew,.bool q.Ax]
def KW(s:List UInt8):Int:=match Xi s with
 | some (k,_)=>(k:Nat)
 | none=>0
def Xl(ps:Nat->Int)(Z:Wd)(q:Qr):(Ah×Nat)×Wd :=
 if(q.ticket==[]||q.service==[])=true then((r0,33),Z)
 else if(KW q.ticket !=2&&KW q.ticket !=3)=true then((r0,30),Z)
 else if(KW q.ticket==3&&!q.Ax)=true then((r0,32),Z)
 else if(!(Xr ps Z q.ticket (KW q.ticket)).2||decide (0<(Xr ps Z q.ticket (KW q.ticket)).1.A4))=true then((r0,30),Z)
 else(((Xr ps Z q.ticket (KW q.ticket)).1,0),Oz Z (QS (Xr ps Z q.ticket (KW q.ticket)).1 Z.now))
theorem nZ{Z:Wd}(h:A9 Z)(q:Qr):A9 (Xl ps Z q).2:=by
 unfold Xl
 repeat' split
 all_goals first|exact h|exact uw h _
end Go.Proofs.W9
