/- Part 5 of what the proof stands on. -/
import Derived.Test.YtiogkphlnggjfaaGreatDoorF28D
set_option linter.unusedVariables false
set_option linter.unusedSimpArgs false
set_option maxHeartbeats 2000000
set_option maxRecDepth 100000
set_option synthInstance.maxHeartbeats 400000
set_option synthInstance.maxSize 10000
open Go Gk
variable {p:Addr}{Ac:Array Bool}{af:Array Edge}{fs:Array Field}{ops Ew:Array Oper}{ts:Array TypeId}{held w1 want:Bool}{R:Ending->Wo->Prop}{L L' M:AD}{fd:Field}{fn:Func}{f:FuncId}{I J:Im}{DW DZ hi room D3:Int}{N A5 Hs:La}{G:List (Bool×Bool)}{pl:List (Nat×Nat)}{D T:List Int}{ks:List Nat}{rest:List Oper}{V:List CK}{key nm Az:Lu}{args cs ds news vs xs zs:Lv}{b bytes c cap db fuel i k kb lg m n n0 nn o size:Nat}{nd spare:Nat->Bool}{ps:Nat->Int}{a a0 ka ua:Oa}{op:Op}{d:Option Nat}{P:Program}{S1 S2 g1 g2:Prop}{pos:String}{H X α β σ:Type}{E dst src t' ty:TypeId}{u us v v0:Va}{B w:Wo}{C:Wo->Prop}{A:X1}{K K':Bj}
namespace Go.Proofs.W9
open Gk Ul Pc Tk Tr Xm Rq Tryz DS
theorem x8{room:Int}:∀(ps:List Pr) (l a:List Ah),TY room ps l=some a->l.length<=a.length
 | [],l,a,h=>by cases h;exact Y9 _
 | p::ps,l,a,h=>by
  rw[TY]at h;split at h
  ·cases h
  ·have:=x8 ps _ _ h
   have b:l.length<=(add room l (Ie p.1 p.2).1).length:=by unfold add;split<;>simp
   omega
theorem wM{room:Int}{ps:List Pr}:∀(k:Nat) (l:List Ah),ps.length-l.length<k->Ol room ps k l=Ol room ps (ps.length-l.length+1) l
 | 0,l,h=>by omega
 | k+1,l,h=>by
  rw[Ol,Ol]
  by_cases a:l.length<ps.length
  ·rw[Y7 a,Y7 a];cases d:TY room ps l with
   | none=>rfl
   | some c =>
    dsimp only
    by_cases b:c.length=l.length
    ·rw[Y7 b,Y7 b]
    ·rw[Y3 b,Y3 b]
     have:=x8 ps l c d
     rw[wM k c om,<-wM (ps.length-l.length) c om]
  ·rw[Y3 a,Y3 a]
termination_by k=>k
theorem Mx{ps:List Pr}{l l2:List Ah}(b:l.length<ps.length)(a:TY room ps l=some l2)(c:l2.length≠l.length):Ol room ps (ps.length-l.length+1) l=Ol room ps (ps.length-l2.length+1) l2:=by
 have:=x8 ps l l2 a
 rw[Ol,Y7 b,a];dsimp only
 rw[Y3 c,wM (ps.length-l.length) l2 om]
theorem Xzj(name s:Lu)(c:name.length<=1000000):(Ie name s).1.name.length<=1000000/\(Ie name s).1.parent.length<=1000000:=by
 unfold Ie;split
 ·exact⟨de,de⟩
 ·split
  ·exact⟨de,de⟩
  ·rename_i t d
   split
   ·exact⟨de,de⟩
   ·refine⟨c,?_⟩;have b:=OT 4 _ [] t (λx hx=>by simp at hx) d;show(t.getD 0 []).length<=_
    cases t with
    | nil=>simp
    | cons a t=>have:=b a sz;show a.length<=_;omega
theorem Sg(n:Int)(ps:List Pr)(pa:Oa)(pc:Nat)(X:ps.length<=1000000)(L:∀x∈ps,x.1.length<=1000000/\x.2.length<=1000000)(M:AJ I)(P:AR I)(U:RS I pa 2 ps.length (X2 X8 ps))(N:La)(b:Aa B w I N):
  Cz 35 [Ab n,.slice pa ps.length pc] w λv w'=>(iw n ps=none/\v=.tuple #[.pointer none,Ab 8]/\Aa B w' I N)\/∃l y a c,iw n ps=some l/\v=.tuple #[ptr y 0,Ab 0]/\Wf l/\(l.length:Int)<=Hz n/\Aa B w' I (Bc y (Hz n) a c l N):=by
 refine gF 3 (Xhd n) ?_;rintro _ w ⟨y,rfl,b⟩;have d:=b;clear b;refine gG 1 (.lk [1,6] (σ:=List Ah×Oa×Nat) (λ(l,a,c) _m=>_m) (λ(l,a,c) w=>Wf l/\(l.length:Int)<=max 0 (Hz n)/\iw n ps=Ol (Hz n) ps (ps.length-(l).length+1) (l)/\Aa B w I (Bc y (Hz n) a c l N)) (λ(l,a,c)=>ps.length-l.length) ([],none,0) ⟨Wf.nil,by simp only[Yi];omega,O,d⟩ ?_);rintro⟨l,a,c⟩ w ⟨R,J,f,b⟩;clear d;have Y:0<=Hz n/\Hz n<=64:=by unfold Hz;omega
 refine gN 8 ?_ ?_<;>intro m
 ·have g:l.length<ps.length:=by have F:=m;omega
  have d:=((b.pick 1 O).pick 1 O);clear b;refine gG 9 (.lk [1,6,7,27,28] (σ:=Nat×List Ah×Oa×Nat) (λ(i,l2,A,C) _m=>(29,Ab (i:Nat))::_m) (λ(i,l2,A,C) w=>i<=ps.length/\Wf l2/\(l2.length:Int)<=max 0 (Hz n)/\l.length<=l2.length/\TY (Hz n) ps l=TY (Hz n) (ps.drop i) l2/\Aa B w I (Bc y (Hz n) A C l2 N)) (λ(i,l2,A,C)=>ps.length-i) (0,l,a,c) ⟨Y5 _,R,J,Y9 _,O,d⟩ ?_);rintro⟨i,l2,A,C⟩ w ⟨hi,k,t,H,h,b⟩;clear d;refine gN 1 ?_ ?_<;>intro Q
  ·refine gG 0 ?_;obtain⟨x,hx⟩:∃x,ps[i]?=some x:=⟨_,Y2 om⟩
   have Z:=L x (Y8 hx);have E:=Xzj x.1 x.2 om;have u:ps.drop i=x::ps.drop (i+1):=by rw[Yq (Y1.1 hx).1,(Y1.1 hx).2]
   obtain⟨p,G,W⟩:=Ob (l:=ps) (cells:=X8) (λ_=>rfl) b U i x hx;subst G;refine gG 0 (.val (.ii O O om om Ov JN) O ?_);refine .val (.as (.Hc (.of O) (by intro j v V;rw[Yh];exact W j v V) F3 JN O) O) O ?_;refine gH 6 ?_;intro b9 w b;refine gE 0 (Wj x.1 x.2 om om M P) ?_;intro w b;refine gG 8 ?_;intro T w b;refine gN 0 ?_ ?_<;>intro o
   ·refine gG 2 ?_;have e:iw n ps=none:=by
     rw[f,Ol,Y7 g,h,u,TY,Y7 (.inl (oh o))]
    rw[e];exact .inl ⟨O,O,b.s⟩
   refine gF 2 (NL y (Hz n) A C l2 om (Ie x.1 x.2).1 E.1 E.2 M P) ?_;rintro _ w ⟨rfl,S,c3,b⟩;refine gN 1 ?_ ?_<;>intro q
   ·refine gG 2 ?_;have e:iw n ps=none:=by
     rw[f,Ol,Y7 g,h,u,TY,Y7 (.inr (oh q))]
    rw[e];exact .inl ⟨O,O,b.s⟩
   refine gG 2 (Br (i+1,add (Hz n) l2 (Ie x.1 x.2).1,S,_) O ⟨om,(LZ k _).1,(LZ k _).2.2 t,Yr H (LZ k _).2.1,?_,(b.z [1,1] 2 2)⟩);rw[h,u,TY,Y3];rintro(F|F)
   ·exact F (oh o)
   ·have h8:=q;omega
  have D:TY (Hz n) ps l=some l2:=by rw[h,Yo om];rfl
  refine gN 7 ?_ ?_<;>intro r
  ·refine gG 2 ?_;have e:iw n ps=none:=by
    rw[f,Ol,Y7 g,D];dsimp only
    rw[Y7 (oh r)]
   rw[e];exact .inl ⟨O,O,b.s⟩
  refine gG 0 ?_;have K:l2.length≠l.length:=by have F:=r;omega
  refine Br (_,_,_) O ⟨k,t,?_,(b.x [1,1])⟩
  (try dsimp only)
  rw[f,Mx g D K]
 refine gG 3 ?_;have e:iw n ps=some l:=by rw[f,Ol,Y3 (oh m)]
 exact .inr ⟨l,y,a,c,e,O,R,om,b.s⟩
theorem Xqz(g:Nat)(room:Int)(a:Oa)(c:Nat)(l:List Ah)(i:l.length<=100000)(N:La)(b:Aa B w I (Bc g room a c l N)):
  Cz 146 [ptr g 0] w λv w'=>∃h e f,v=ptr h 0/\Aa B w' I (Bc h room e f l (Bc g room a c l N)):=by
 refine gG 1 (gD [0] [] [0,1,2,3,4,5,6,7,8,9,10,11] ?_);intro w b;refine gF 8 (wq a c l i) ?_;rintro _ w ⟨k,rfl,b⟩;obtain⟨e,f,rfl,j,_⟩:=b.vS 0;refine gH 2 ?_;intro d w b;exact gG 1 ⟨d,e,f,O,b.s⟩
theorem SQ(i:Nat)(lim:Int)(x y z:Nat)(a:Oa)(c:Nat)(q:List Nt)(n:q.length<=100000)(m:RS I a 4 q.length (X2 X6 q))(N:La)(b:Aa B w I (Ad i [Ab lim,AQ x,AQ y,AQ z,.slice a q.length c] 149::N)):
  Cz 147 [ptr i 0] w λv w'=>∃J j d e,v=ptr j 0/\Le I J/\q.length<=e/\RS J d 4 q.length (X2 X6 q)/\Aa B w' J (Ad j [Ab lim,AQ x,AQ y,AQ z,.slice d q.length e] 149::Ad i [Ab lim,AQ x,AQ y,AQ z,.slice a q.length c] 149::N):=by
 refine gH 10 ?_;intro k w b;refine gF 0 (sJ a c q n m) ?_;rintro o w b;obtain⟨d,e,rfl,h,_⟩:=b.vS 0;have g:=b.fV 0;clear b;obtain⟨J,l,f,b⟩:=g;try dsimp only[List.eraseIdx]at b
 refine gG 2 ?_;intro w b;exact gG 1 ⟨J,k,d,e,O,l,h,f,b.s⟩
end Go.Proofs.W9
namespace Gk
open Go
section
variable {P:Program} {n:Nat} {K:Bj} {L:AD} {w:Wo} {ops:Array Oper} {rest:List Oper}
theorem WL.Ww{d j t:Nat}{c:List (Bool×Bool)}{b:Bool}(T:Va->Wo->Prop){xs:List Operand}
  (R:(ops[j]?).bind (·.dst)=some t) (V:Nat.blt t n=true) (J:look L t=some (CV c (.bool b))) (Q:P.funcs[f]?=some fn) (B:Xc fn=true)
  (hx:(∀p∈c++[(b,want)],p.1=p.2)->∀a,Aq n L a->xs.map a.eval=vs) (F:Nat.blt d n=true)
  (l:(∀p∈c++[(b,want)],p.1=p.2)->Calls P f vs.toArray w (AY T)) (G:(¬ ∀p∈c++[(b,want)],p.1=p.2)->T v0 w)
  (h:∀v w',T v w'->WL P n ops K rest ((d,CV (c++[(b,want)]) v)::L) w'):WL P n ops K (⟨some d,.call ⟨.value (.func f),xs.toArray,ts⟩,ty,pos,af,some (j,want)⟩::rest) L w:=by
 intro a s;refine wpList_step λK' E=>?_
 have u:t<a.tmps.size:=by have:=Yd V;rw[s.size];omega
 have x:=s.get t _ J;have m:yielded ops a.tmps j=match CV c (.bool b)with|.bool b=>some b|_=>none:=by
  obtain⟨o,S,C⟩:=iG.1 R;rw[Ii,IZ u]at x;simp only[iQ]at x
  have y:a.tmps[t]?=some (CV c (.bool b)):=by rw[IZ u,x]
  simp only[yielded,S,C,iP,y]
  generalize CV c (.bool b)=g;cases g<;>rfl
 by_cases e:∀p∈c++[(b,want)],p.1=p.2
 ·have r:∀p∈c,p.1=p.2:=λp k=>e p (by simp[k])
  have q:b=want:=e (b,want) sz;rw[KS r]at m;rw[Y7 (by simp[Region.wanted,m,q])];have M:(execOp a.eval (⟨some d,.call ⟨.value (.func f),xs.toArray,ts⟩,ty,pos,af,some (j,want)⟩:Oper)).run P w=.ok (.enter f vs.toArray) w:=by
   unfold Xc at B;simp only[Yb]at B
   obtain⟨H,y⟩:=B;have z : ¬ fn.name = "runtime.NumGoroutine" := by simpa using H
   have A:¬ fn.body=none:=by intro e;rw[e]at y;cases y
   have x:=hx e a s;simp[execOp,resolve,Act.eval,Deferred.ofValue,invoke,callFunc,program,Sem.run,Q,z,A,<-x]
  unfold Oper.wp;rw[M];refine(l e).mono λX D U=>?_
  obtain⟨v,rfl,I⟩:=U;have i:=h v D I _ (s.put F (CV (c++[(b,want)]) v));rw[KS e]at i;exact E _ _ i
 ·have W:Region.wanted (⟨some d,.call ⟨.value (.func f),xs.toArray,ts⟩,ty,pos,af,some (j,want)⟩:Oper) (yielded ops a.tmps)=false:=by
   by_cases r:∀p∈c,p.1=p.2
   ·rw[KS r]at m;have q:¬ b=want:=λq=>e λp k=>by
     rcases Yt.1 k with k|k
     ·exact r p k
     ·simp at k;subst k;exact q
    simp[Region.wanted,m,q]
   ·rw[Vf r]at m;simp[Region.wanted,m,undef]
  rw[Y3 (by simp[W])];have i:=h v0 w (G e) _ (s.put F (CV (c++[(b,want)]) v0));rw[Vf e]at i;exact E _ _ i
theorem WL.q_{d j t:Nat}{b:Bool}(T:Va->Wo->Prop){xs:List Operand}
  (s:(ops[j]?).bind (·.dst)=some t) (x:Nat.blt t n=true) (m:look L t=some (.bool b)) (r:P.funcs[f]?=some fn) (o:Xc fn=true)
  (hx:b=want->∀a,Aq n L a->xs.map a.eval=vs) (q:Nat.blt d n=true)
  (g:b=want->Calls P f vs.toArray w (AY T)) (l:¬ b=want->T v0 w)
  (h:∀v w',T v w'->WL P n ops K rest ((d,gd b want v)::L) w'):WL P n ops K (⟨some d,.call ⟨.value (.func f),xs.toArray,ts⟩,ty,pos,af,some (j,want)⟩::rest) L w :=
 WL.Ww (c:=[]) T s x m r o (λe=>hx (e (b,want) sz)) q (λe=>g (e (b,want) sz)) (λu=>l λk=>u λp i=>by simp at i;subst i;exact k) h
end
end Gk
namespace Go.Proofs.W9
open Gk Ul Pc Tk Tr Xm Rq
open Tryz
abbrev tC(s:Lu):Lv:=[S s]
theorem uT:∀l:List Lu,X2 tC l=l.map S
 | []=>rfl
 | s::l=>by
  have:=uT l
  unfold X2 at this ⊢;rw[Yw,Gg,this];rfl
theorem Xhw(a:Oa)(cap:Nat)(l:List Lu)(C:l.length<=9223372036854775807)(q:Lu->Bool)(f:FuncId)(fn:Func)(o:prog.funcs[f]?=some fn)(m:Xc fn=true)(b:Lv)(N:La)(y:∀w,Aa B w I N->H9 w tC 1 a l)(A:∀(r:Lu) (n:r∈l) w,Aa B w I N->Calls prog f ([S r]++b).toArray w (AY λv w'=>v=.bool (q r)/\Aa B w' I N))(c:Aa B w I N):
  Ce B I N 267 [.slice a l.length cap,.func (.func f) #[] b.toArray] w (Ab (EP q l 0)):=by
 refine gG 4 (.lk [0,1,7] (σ:=Nat) (λi _m=>(8,Ab (i:Nat))::_m) (λi w=>i<=l.length/\(∀(j:Nat) t,j<i->l[j]?=some t->q t=false)/\Aa B w I N) (λi=>l.length-i) 0 ⟨Y5 _,λ_ _ h=>Aw h om,c⟩ ?_);rintro i w ⟨hi,g,c⟩;refine gN 1 ?_ ?_<;>intro z
 ·obtain⟨r,n⟩:∃r,l[i]?=some r:=⟨_,Y2 om⟩
  obtain⟨p,rfl,hx⟩:=y w c i r n;refine gH 6 ?_;refine .val (.ld1 (.of O) (by have x:=hx 0 _ O;simpa[Addr.add_add]using x) Bq) O ?_;refine .Bu (cap:=b) o m (.of O) (AM O X3) O (A r (Y8 n) w c) ?_;rintro _ w ⟨rfl,c⟩;refine gM 0 ?_ ?_<;>intro d u
  ·exact gG 2 ⟨by rw[jG g n d],c⟩
  refine gG 2 (rd (i+1) ⟨om,λj t D k=>?_,c⟩);rcases Yz j i with s|s
  ·exact g j t s k
  ·have e:j=i:=om
   subst e;rw[n]at k;cases k;exact d
 exact gG 1 ⟨by rw[jF (λj t k=>g j t (oh ((Y1.1 k).1)) k)],c⟩
theorem Xbj(a:Oa)(cap:Nat)(l:List Lu)(g:l.length<=9223372036854775807)(e:Lu->Bool)(b:FuncId)(fn:Func)(f:prog.funcs[b]?=some fn)(d:Xc fn=true)(c:Lv)(N:La)(i:∀w,Aa B w I N->H9 w tC 1 a l)(j:∀(r:Lu) (k:r∈l) w,Aa B w I N->Calls prog b ([S r]++c).toArray w (AY λv w'=>v=.bool (e r)/\Aa B w' I N))(h:Aa B w I N):
  Ce B I N 166 [.slice a l.length cap,.func (.func b) #[] c.toArray] w (.bool (l.any e)):=by
 refine gP 3 [] (Xhw a cap l g e b fn f d _ N i j) ?_;rintro _ w ⟨rfl,h⟩;exact gG 2 ⟨by rw[<-cK e l 0],h⟩
def oJ(ps:List Int)(l:List Ah)(now:Int)(name:Lu):Bool:=!Kv ps (getD l name) now&&(!((getD l name).kind==2||(getD l name).kind==3)||((getD l name).A4==0&&(((kids l name).length:Nat):Int)==0))
def To(ps:List Int)(l:List Ah)(now:Int)(r:Ah):Bool:=oJ ps l now r.name&&!((((path l r.name).map Ah.name).drop 1).any (oJ ps l now))
def GC(ps:List Int)(l:List Ah)(now:Int):List Lu:=(l.filter (To ps l now)).map Ah.name
theorem Xzt{l:List Ah}(h:Wf l)(name:Lu):(0<=(getD l name).made/\(getD l name).made<=1099511627776)/\(0<=(getD l name).used/\(getD l name).used<=1099511627776):=by
 rcases Tr.get_at l name with⟨_,a⟩|⟨j,r,_,b,_,a⟩
 ·unfold getD;rw[a];decide
 ·unfold getD;rw[a]
  have:=wh (h.right r (Y8 b))
  exact⟨this.1,this.2.1⟩
theorem Xog(h:Nat)(room:Int)(a:Oa)(c:Nat)(l:List Ah)(u:l.length<=100000)(t:Wf l)(ps:List Int)(i:ps.length=21)(now:Int)(F:0<=now/\now<=1099511627776)(n o p:Nat)(name:Lu)(N:La)(g:Aa B w I (Bc h room a c l (Ad n [ptr h 0] 108::Ad o (ps.map Ab) 26::Ad p [Ab now] 3::N))):
  Ce B I (Bc h room a c l (Ad n [ptr h 0] 108::Ad o (ps.map Ab) 26::Ad p [Ab now] 3::N)) 162 [S name,ptr n 0,ptr o 0,ptr p 0] w (.bool (oJ ps l now name)):=by
 refine gE 3 (Fx h room a c l u _) ?_;intro w g;refine gH 14 ?_;intro A w g;have y:=Xzt t name;refine gG 1 ?_;refine .val (.D6 (vs:=ps.map Ab) (.of O) g (k:=4) O Qp H3 (by rw[Ym];exact i) (λj v E=>by rw[Yl];exact E)) O ?_;refine gE 2 (Xur ps i _ now y.1 y.2 F) ?_;intro w g;refine gH 11 ?_;refine .Ww (c:=[(_,_),(_,_)]) (λv w=>∃ka z,v=.slice ka (kids l name).length z/\Aa B w I (Ad A [Ab (getD l name).kind,S (getD l name).name,S (getD l name).parent,S (getD l name).user,S (getD l name).service,S (getD l name).url,Ab (getD l name).made,Ab (getD l name).used,Ab (getD l name).A4,.bool (getD l name).fresh] 160::Bc h room a c l (Ad n [ptr h 0] 108::Ad o (ps.map Ab) 26::Ad p [Ab now] 3::N))) (v0:=.slice none (kids l name).length 0) O O O func164 O (λm=>by
   have b:=m _ (kQ ..);have d:=m _ (Q8 _ (kQ ..));have f:=m _ (Q8 _ (Q8 _ (kQ ..)));exact(X4 (.zW b d f O) (X4 (.zW b d f O) X3))) O (λm=>(xM h room a c l u name _ (g.x [2,2])).mono λe w' ⟨v,D,M,K,L,J,q,H,C,r⟩=>⟨v,D,K,L,J,(((((((r.pick 5 O).pick 5 O).pick 5 O).pick 4 O).pick 4 O).pick 5 O)).weaken q⟩) (λG=>⟨none,0,O,g⟩) ?_
 rintro _ w ⟨ka,z,rfl,g⟩;refine .rj O O O (λb d f=>(.Bo (.zW b d f O) ET)) O ?_;exact gG 5 ⟨O,g.s⟩
theorem Zb{l:List Ah}(h:Wf l){r:Ah}(a:r∈l):0<(path l r.name).length:=by
 obtain⟨i,hi⟩:=GH.1 a;unfold path;rw[h.at_ hi,Xx7 h hi]
 simp
theorem Tm(m:Nat)(room:Int)(a:Oa)(c:Nat)(l:List Ah)(P:l.length<=100000)(f:Wf l)(ps:List Int)(G:ps.length=21)(now:Int)(hn:0<=now/\now<=1099511627776)(N:La)(b:Aa B w I (Bc m room a c l N)):
  Cz 85 [ptr m 0,.agg (ps.map Ab).toArray,Ab now] w λv w'=>∃J Q R,v=.slice Q (GC ps l now).length R/\Le I J/\(GC ps l now).length<=R/\RS J Q 1 (GC ps l now).length ((GC ps l now).map S)/\Aa B w' J (Bc m room a c l N):=by
 refine gH 8 ?_;intro A C D w b;refine gF 0 (Xf1 m room a c l P) ?_;rintro _ w ⟨J3,ra,rc,rfl,X,H,Y,b⟩;have F:=((((((b.pick 2 O).pick 3 O).pick 4 O).pick 4 O).pick 4 O)).Al 9 1;clear b;refine gG 2 (.lk [3,4,5,7,13,14] (σ:=Nat×Va×Im) (λ(i,K,q) _m=>(8,K)::(15,Ab (i:Nat))::_m) (λ(i,K,q) w=>i<=l.length/\Le J3 q/\Aa B w q (Ao 9 1 K (((l.take i).filter (To ps l now)).map Ah.name).length ((((l.take i).filter (To ps l now)).map Ah.name).map S)::Bc m room a c l (Ad A [ptr m 0] 108::Ad C (ps.map Ab) 26::Ad D [Ab now] 3::N))) (λ(i,K,q)=>l.length-i) (0,.slice none 0 0,J3) ⟨Y5 _,Le.refl _,F⟩ ?_);rintro⟨i,K,q⟩ w ⟨hi,g,b⟩;clear F;refine gN 1 ?_ ?_<;>intro al
 ·obtain⟨x,hx⟩:∃x,l[i]?=some x:=⟨_,Y2 om⟩
  have ai:=Y8 hx;obtain⟨p,ac,hp⟩:=Ob (l:=l) (cells:=X5) (λ_=>rfl) b (Y.mono g) i x hx;subst ac;refine gG 0 (.val (.ii O O om om ke LG) O ?_);refine .val (.as (.Hc (.of O) (by intro j v hj;rw[Yh];exact hp j v hj) bO LG O) O) O ?_;refine gH 5 ?_;intro au w b;refine .Bu (cap:=[ptr A 0,ptr C 0,ptr D 0]) func162 O (.of O) (AM O X3) O (Xog m room a c l P f ps G now hn A C D x.name _ (b.x [6,6,6,6,6])) ?_;rintro _ w ⟨rfl,b⟩;try dsimp only[List.eraseIdx]at b
  refine gH 4 ?_;have ah:=Zb f ai;refine .q_ (T:=λv w=>∃n pa y,v=.slice pa (path l x.name).length y/\Le q n/\(path l x.name).length<=y/\(oJ ps l now x.name=true->RS n pa 1 (path l x.name).length ((path l x.name).map λr=>S r.name))/\Aa B w n _) (v0:=.slice none (path l x.name).length (path l x.name).length) O O O func167 O (λd=>(X4 (.gd d O) (X4 (.gd d O) X3))) O (λd=>(xN m room a c l P f x.name _ b).mono λe w' ⟨v,he,U,ra,rc,hv,t,H,u,ab⟩=>⟨v,he,U,ra,rc,hv,t,H,λ_=>u,ab⟩) (λae=>⟨q,none,_,O,Le.refl _,Y9 _,λh=>Aw h ae,b⟩) ?_;rintro _ w ⟨n,pa,y,rfl,E,ag,aa,b⟩;obtain⟨L,ad,u⟩:∃L,sliced pa (1:Int).toNat (path l x.name).length y 1=.slice L (((path l x.name).map Ah.name).drop 1).length (y-1)/\(oJ ps l now x.name=true->RS n L 1 (((path l x.name).map Ah.name).drop 1).length (X2 tC (((path l x.name).map Ah.name).drop 1))):=by
   have e8:(((path l x.name).map Ah.name).drop 1).length=(path l x.name).length-1:=by rw[Y6,Ym]
   refine⟨_,by rw[e8];rfl,λhd=>?_⟩;obtain⟨a',V,W⟩:=y8 (aa hd) (k:=1) ah ag;injection V with V
   rw[uT,e8];have e7:((path l x.name).map λr=>S r.name).drop (1*1)=(((path l x.name).map Ah.name).drop 1).map S:=by rw[qR,iU];rfl
   rw[e7]at W;rw[<-V]at W;exact W
  refine .Am O O (λd=>(Ex.as (.CB (.gd d O) (.of O) om om ET A3) ad)) O (gH 1 ?_);refine .AA (T:=λw=>Aa B w n _) O O O func166 O (λd=>(X4 (.gd d O) (X4 (.gd d O) X3))) O (λd=>Xbj L (y-1) (((path l x.name).map Ah.name).drop 1) (by rw[Y6,Ym];have:=nX f x.name;omega) (oJ ps l now) 162 _ func162 O [ptr A 0,ptr C 0,ptr D 0] _ (λw h=>Ob (cells:=tC) (λ_=>rfl) h (u d)) (λs hs w h=>Xog m room a c l P f ps G now hn A C D s _ h) b) b ?_;clear b;rintro w b;refine gM 2 ?_ ?_<;>intro o am
  ·have ao:(((l.take i).filter (To ps l now)).map Ah.name).length<=100000:=by rw[Ym];exact Yr (EV ..) (by rw[Yj];omega)
   refine gG 8 ?_;intro av ar aw M w b;refine Br (i+1,_,n) O ⟨om,g.trans E,?_⟩;rw[Yv,hx,DO,VB,JQ,Y7 (show To ps l now x=true from o),iS,Yn,Yw,EK,Yn,Y0,Yw,EK];exact(b.z [4,4,4,4,4,6] 6 1)
  refine gG 2 (Br (i+1,_,n) O ⟨om,g.trans E,?_⟩)
  (try dsimp only)
  rw[Yv,hx,DO,VB,JQ,Y3 (nB (show To ps l now x=false from o)),iS,Yx];exact(b.z [4,4,4,4,4,6] 6 1)
 refine gG 2 ?_;rw[Yk (show l.length<=i by omega)]at b;obtain⟨Q,R,rfl,af,_⟩:=b.vS 0;obtain⟨U,t,Z,b⟩:=b.fV 0;try dsimp only[List.eraseIdx]at b
 exact⟨U,Q,R,O,X.trans (g.trans t),af,Z,b.s⟩
theorem Mu(m t f:Lu)(i:Oa)(k:Nat)(c:List Pq)(o:c.length<=100)(j:∀h∈c,h.1.length<=1000000/\h.2.length<=1000000)(l:RS I i 2 c.length (X2 X8 c))(N:La)(d:Aa B w I N):
  Ce B I N 131 [.agg #[S m,S t,.slice i c.length k,S f]] w (.tuple #[Ab (bF c).1,Ab ((bF c).2:Nat)]):=by
 refine gH 4 ?_;intro b1 w d;refine gE 0 (wv m t _ i k c TE o (λh g=>(j h g).1) l) ?_;intro w d;refine gN 7 ?_ ?_<;>intro a
 ·exact gG 2 ⟨by unfold bF;rw[Y7 (oh a)];rfl,d.s⟩
 refine gE 1 (wv m t _ i k c CL o (λh g=>(j h g).1) l) ?_;intro w d;refine gN 7 ?_ ?_<;>intro b
 ·exact gG 2 ⟨by unfold bF;rw[Y3 (oh a),Y7 (oh b)];rfl,d.s⟩
 refine gE 1 (Xzk _ (Mi CL c (λh g=>(j h g).2)).1) ?_;intro w d;refine gM 11 ?_ ?_<;>intro e n
 ·exact gG 2 ⟨by unfold bF;rw[Y3 (oh a),Y3 (oh b),Y7 e];rfl,d.s⟩
 exact gG 3 ⟨by unfold bF;rw[Y3 (oh a),Y3 (oh b),Y3 (nB e)];rfl,d.s⟩
theorem Xt0(o:Nat)(d:Lu)(t:d.length<=1000000)(u:Kz I)(N:La)(a:Aa B w I (Ad o [S d] 255::N)):
  Cz 130 [ptr o 0] w λv w'=>∃J y A,v=.tuple #[.slice y (EF (d.length+1) d []).1.length A,Ab ((EF (d.length+1) d []).2.1:Nat)]/\Le I J/\(EF (d.length+1) d []).1.length<=A/\RS J y 2 (EF (d.length+1) d []).1.length (X2 X8 (EF (d.length+1) d []).1)/\Aa B w' J (Ad o [S (EF (d.length+1) d []).2.2] 255::N):=by
 refine gG 4 ?_;replace a:=a.Al 99 2;refine .lk [0,5] (σ:=Lu×List Pq×Va) (λ(s,b,n) _m=>(4,n)::_m) (λ(s,b,n) w=>s.length<=1000000/\EF (d.length+1) d []=EF (s.length+1) s b/\b.length<=32/\Aa B w I (Ao 99 2 n b.length (X2 X8 b)::Ad o [S s] 255::N)) (λ(s,b,n)=>s.length) (d,[],.slice none 0 0) ⟨t,O,Y5 _,a⟩ ?_;rintro⟨s,b,n⟩ w ⟨t,l,G,a⟩;obtain⟨ka,q,rfl,i,_⟩:=a.vS 0
 conv at l=>rhs;rw[EF]
 refine gE 1 (Xwi o s t u) ?_;intro w a;refine gM 11 ?_ ?_<;>intro c x
 ·refine gG 4 ?_;rw[l,Y7 (show HQ s=true from c)];replace a:=a.px [1];obtain⟨J,j,e,a⟩:=a.fV 0;exact⟨J,ka,q,O,j,i,e,a⟩
 refine gN 7 ?_ ?_<;>intro f
 ·refine gG 4 ?_;intro E w a;refine .Bt (rfl) (gG 2 (.CU (rfl) (gG 6 ?_)));rw[l,Y3 (nB (show HQ s=false from c)),Y3 (oh f),Y7 (oh f)];replace a:=(((a.pick 1 O).pick 2 O).drop (k:=2) O)
  obtain⟨J,j,e,a⟩:=a.fV 0;exact⟨J,ka,q,O,j,i,e,a⟩
 refine gG 3 ?_;intro E w a;refine gN 0 ?_ ?_<;>intro g
 ·refine gE 1 (Xzw _ (oh (uo s)) u) ?_;intro w a;refine gG 7 ?_;intro w a;refine gM 0 ?_ ?_<;>intro m h
  ·refine gG 6 ?_;rw[l,Y3 (nB (show HQ s=false from c)),Y3 (oh g),Y3 (oh f),Y7 (oh h)];replace a:=(((a.pick 1 O).pick 2 O).drop (k:=2) O)
   obtain⟨J,j,e,a⟩:=a.fV 0;exact⟨J,ka,q,O,j,i,e,a⟩
  refine gG 5 ?_;intro D C F p w a;have e0:(Xz s).2.1=0:=by have H:=g;omega
  have r:=Pu s e0;refine Br (_,b++[(TX (Xz s).1).1],_) O ⟨om,?_,by rw[Y0];show _+1<=32;omega,?_⟩ (r)
  ·(try dsimp only)
   rw[l,Y3 (nB (show HQ s=false from c)),Y3 om,Y3 om,Y3 (oh h)];exact Xj1 _ _ _ _ om om
  ·(try dsimp only)
   rw[TD,show(b++[(TX (Xz s).1).1]).length=b.length+1 from Y0];exact(a.z [1,2] 2 1)
 refine gT 2 (λm h=>?_);refine gG 6 ?_;rw[l,Y3 (nB (show HQ s=false from c)),Y7 (oh g)];replace a:=(((a.pick 1 O).pick 2 O).drop (k:=2) O)
 obtain⟨J,j,e,a⟩:=a.fV 0;exact⟨J,ka,q,O,j,i,e,a⟩
theorem MY(s:Lu)(d:s.length<=1000000)(n:Int)(N:La)(c:Aa B w I N):
  Ce B I N 132 [S s,Ab n] w (Ab (oK s.length n:Nat)):=by
 refine gN 6 ?_ ?_<;>intro b
 ·exact gG 1 ⟨by unfold oK;rw[Y7 (oh b)];rfl,c⟩
 refine gN 5 ?_ ?_<;>intro a
 ·exact gG 1 ⟨by unfold oK;rw[Y3 (oh b),Y7 (oh a)];rfl,c⟩
 exact gG 1 ⟨by unfold oK;rw[Y3 (oh b),Y3 (oh a)];rfl,c⟩
theorem Xrn(s:Lu)(C:s.length<=1000000)(r:Kz I)(N:La)(a:Aa B w I N):
  Cz 73 [S s] w λv w'=>∃J o p,v=.tuple #[.agg #[S (X0 s).1.AE,S (X0 s).1.target,.slice o (X0 s).1.Ai.length p,S (X0 s).1.body],Ab ((X0 s).2:Nat)]/\Le I J/\(X0 s).1.Ai.length<=p/\RS J o 2 (X0 s).1.Ai.length (X2 X8 (X0 s).1.Ai)/\Aa B w' J N:=by
 refine gG 5 ?_;intro z w a;refine gN 0 ?_ ?_<;>intro b
 ·refine gH 3 ?_;intro w a;refine gG 0 ?_;rw[show X0 s=_ from by unfold X0;rw[Y7 (oh b)]];exact⟨I,none,0,O,Le.refl _,Y9 _,RS.nil _ _,a.s⟩
 refine gH 5 ?_;intro k w a;refine gE 0 (Xwi k s om r) ?_;intro w a;have x:=uo s;refine gN 7 ?_ ?_<;>intro c
 ·refine gH 4 ?_;intro w a;refine gG 0 ?_;rw[show X0 s=_ from by unfold X0;rw[Y3 (oh b),Y7 (oh c)]];exact⟨I,none,0,O,Le.refl _,Y9 _,RS.nil _ _,a.s⟩
 refine gE 1 (RY _ om r) ?_;intro w a;refine gG 8 ?_;intro A w a;refine gN 0 ?_ ?_<;>intro d
 ·refine gF 1 (Xt0 k (Xz s).2.2 om r) ?_;rintro _ w ⟨J,o,p,rfl,q,u,l,a⟩;have t:=x4 (n:=s.length) ((Xz s).2.2.length+1) (Xz s).2.2 [] om de sz;refine gG 9 ?_;intro w a;refine gM 0 ?_ ?_<;>intro m e
  ·refine gE 1 (Mu _ _ _ o p _ om (λh y=>by have:=t.2.1 h y;omega) l) ?_;intro w a;refine gM 7 ?_ ?_<;>intro j f
   ·refine gE 5 (MY _ om _) ?_;intro w a;refine gM 3 ?_ ?_<;>intro i g
    ·refine gH 4 ?_;intro w a;refine gG 0 ?_;rw[show X0 s=_ from by unfold X0;rw[Y3 (oh b),Y3 (oh c),Y3 (oh d),Y3 (oh e),Y3 (oh f),Y7 (oh g)]];exact⟨J,none,0,O,q,Y9 _,RS.nil _ _,a.s⟩
    refine gH 9 ?_;intro w a;refine gG 0 ?_;rw[show X0 s=_ from by unfold X0;rw[Y3 (oh b),Y3 (oh c),Y3 (oh d),Y3 (oh e),Y3 (oh f),Y3 (oh g)]];exact⟨J,o,p,O,q,u,l,a.s⟩
   refine gT 2 (λi g=>?_);refine gH 4 ?_;intro w a;refine gG 0 ?_;rw[show X0 s=_ from by unfold X0;rw[Y3 (oh b),Y3 (oh c),Y3 (oh d),Y3 (oh e),Y7 (oh f)]];exact⟨J,none,0,O,q,Y9 _,RS.nil _ _,a.s⟩
  refine gU 2 (λj f=>?_);refine gT 2 (λi g=>?_);refine gH 4 ?_;intro w a;refine gG 0 ?_;rw[show X0 s=_ from by unfold X0;rw[Y3 (oh b),Y3 (oh c),Y3 (oh d),Y7 (oh e)]];exact⟨J,none,0,O,q,Y9 _,RS.nil _ _,a.s⟩
 refine gU 3 (λm e=>?_);refine gU 2 (λj f=>?_);refine gT 2 (λi g=>?_);refine gH 4 ?_;intro w a;refine gG 0 ?_;rw[show X0 s=_ from by unfold X0;rw[Y3 (oh b),Y3 (oh c),Y7 (oh d)]];exact⟨I,none,0,O,Le.refl _,Y9 _,RS.nil _ _,a.s⟩
def Up(I:Im)(F:List Pq×Nat)(B:Wo)(N:La)(v:Va)(w:Wo):Prop:=∃a,v=.tuple #[a,Ab (F.2:Nat)]/\Aa B w I (Ao 99 2 a F.1.length (X2 X8 F.1)::N)
theorem Xoy{F:List Pq×Nat}{e:Nat}(h:F=([],e))(b:Le I I)(a:Aa B w I N):Up I F B N (.tuple #[.slice none 0 0,Ab (e:Nat)]) w:=by
 subst h;exact⟨_,O,a.Al 99 2⟩
theorem WZ{F:List Pq×Nat}{b:Va}{a:List Pq}(h:F=(a,0))(d:Le I I)(c:Aa B w I (Ao 99 2 b a.length (X2 X8 a)::N)):Up I F B N (.tuple #[b,Ab 0]) w:=by
 subst h;exact⟨_,O,c⟩
theorem Xnd(s:Lu)(H:s.length<=1000000)(C:AJ I)(N:La)(c:Aa B w I N):
  Cz 133 [S s] w λv w'=>Up I (Q7 s) B N v w':=by
 refine gF 5 (Xyx s H C) ?_;rintro _ w ⟨q,rfl,c⟩;refine gG 2 ?_;have r:=um (Dd s);rw[yA]at r;replace c:=c.Al 99 2;refine .lk [5,11,12] (σ:=List Pr×Va×Nat) (λ(a,n,i) _m=>(4,n)::(13,Ab (i:Nat))::_m) (λ(a,n,i) w=>i<=(Dd s).length/\Q7 s=TW ((Dd s).drop i) a/\a.length<=32/\Aa B w I (Ao 99 2 n a.length (X2 X8 a)::Ad q ((Dd s).map S) 9::N)) (λ(a,n,i)=>(Dd s).length-i) ([],.slice none 0 0,0) ⟨Y5 _,O,Y5 _,c⟩ ?_;rintro⟨a,n,i⟩ w ⟨hi,g,u,c⟩;refine gN 1 ?_ ?_<;>intro D
 ·obtain⟨x,hx⟩:∃x,(Dd s)[i]?=some x:=⟨_,Y2 om⟩
  have A:=Xz1 hx H;have t:=VL hx;rw[t]at g;refine gH 1 ?_;refine .val (.lo O c (k:=1) O Bq (by rw[Yl];(try rw[Yh]);rw[Ca,Yu,hx];rfl)) O ?_;refine gM 3 ?_ ?_<;>intro d E
  ·refine gG 2 (Br (_,_,i+1) O ⟨om,?_,u,c⟩);rw[g,TW,Y7 (su d)]
  refine gF 1 (YY x A C) ?_;rintro _ w ⟨T,U,Q,rfl,b,c⟩;obtain⟨ka,R,rfl,M,_⟩:=c.vS 0;refine gG 10 ?_;intro P w c;refine gN 0 ?_ ?_<;>intro F
  ·refine gT 3 (λh j=>?_);exact gG 3 (Xoy (e:=5) (by rw[g,TW,Y3 (su d),Y7 om]) (Le.refl _) c.s)
  refine gM 3 ?_ ?_<;>intro f G
  ·have l:Vu x=none:=by
    cases y:Vu x with
    | none=>rfl
    | some p=>rw[y]at b;rw[b.2.2]at f;cases f
   rw[l]at b;subst b;refine gT 4 (λh j=>?_);exact gG 3 (Xoy (e:=11) (by rw[g,TW,Y3 (su d),Y3 om,l]) (Le.refl _) c.s)
  obtain⟨p,m⟩:∃p,Vu x=some p:=by
   cases y:Vu x with
   | some p=>exact⟨p,O⟩
   | none=>rw[y]at b;rw[b]at f;cases f
  rw[m]at b;obtain⟨rfl,rfl,rfl⟩:=b;refine gG 7 ?_;intro K J L o w c;refine Br (a++[p],_,i+1) O ⟨om,?_,by rw[Y0];show _+1<=32;omega,?_⟩
  ·try dsimp only
   rw[g,TW,Y3 (su d),Y3 om,m]
  ·try dsimp only
   rw[TD,show(a++[p]).length=a.length+1 from Y0];exact(c.z [2,2] 2 1)
 refine gG 2 (.Bt (rfl) ?_);exact gG 3 (WZ (by rw[g,Yo om];rfl) (Le.refl _) c.s)
theorem xg{a:List Pq}{x:Pq}(h:a[i]?=some x):Gd nm (a.take (i+1))=(if x.1=nm then(if(Gd nm (a.take i)).2=0 then x.2 else(Gd nm (a.take i)).1,(Gd nm (a.take i)).2+1)else Gd nm (a.take i)):=by
 rw[Yv,h,DO];unfold Gd;rw[K9];rfl
theorem wX(j:Oa)(n:Nat)(l:List Pq)(nm:Lu)(p:l.length<=100)(k:RS I j 2 l.length (X2 X8 l))(N:La)(c:Aa B w I N):
  Ce B I N 136 [.slice j l.length n,S nm] w (.tuple #[S (Gd nm l).1,Ab ((Gd nm l).2:Nat)]):=by
 have e:=c;clear c;refine gG 7 (.lk [1,10,11] (σ:=Nat) (λi _m=>(6,S (Gd nm (l.take i)).1)::(7,Ab ((Gd nm (l.take i)).2:Nat))::(12,Ab (i:Nat))::_m) (λi w=>i<=l.length/\Aa B w I N) (λi=>l.length-i) 0 ⟨Y5 _,e⟩ ?_);rintro i w ⟨hi,c⟩;clear e;refine gN 1 ?_ ?_<;>intro g
 ·obtain⟨x,hx⟩:∃x,l[i]?=some x:=⟨_,Y2 om⟩
  have f:=rh nm (l.take i);rw[Yj]at f;obtain⟨q,rfl,m⟩:=Bv (cells:=X8) (λ_=>rfl) k hx;refine gG 8 ?_;intro o w c;refine gM 0 ?_ ?_<;>intro a h
  ·refine gG 2 ?_;have b:Gd nm (l.take (i+1))=Gd nm (l.take i):=by rw[xg hx,Y3 (su a)]
   refine⟨i+1,⟨by rw[b];rfl,by rw[b];rfl,O,O,O,O,trivial⟩,⟨om,(c.y 0 1)⟩,om⟩
  refine gN 2 ?_ ?_<;>intro d
  ·refine gG 8 ?_;have b:Gd nm (l.take (i+1))=(x.2,(Gd nm (l.take i)).2+1):=by rw[xg hx,Y7 (su a),Y7 (oh d)]
   refine⟨i+1,⟨by rw[b];rfl,by rw[b];rfl,O,O,O,O,trivial⟩,⟨om,(c.y 0 1)⟩,om⟩
  refine gG 5 ?_;have b:Gd nm (l.take (i+1))=((Gd nm (l.take i)).1,(Gd nm (l.take i)).2+1):=by rw[xg hx,Y7 (su a),Y3 (oh d)]
  refine⟨i+1,⟨by rw[b];rfl,by rw[b];rfl,O,O,O,O,trivial⟩,⟨om,(c.y 0 1)⟩,om⟩
 refine gG 4 ?_;rw[Yk om];exact⟨O,c⟩
theorem gJ{cells:α->Lv}(l m:List α):X2 cells (l++m)=X2 cells l++X2 cells m:=by
 unfold X2;rw[Yn,T5]
theorem Ub(m t a:Lu)(g:Oa)(h:Nat)(C:List Pq)(M:t.length<=1000000)(L:a.length<=1000000)(o:Kz I)(N:La)(b:Aa B w I N):
  Cz 74 [.agg #[S m,S t,.slice g C.length h,S a]] w λv w'=>∃J g h,v=.tuple #[.slice g (B9 m t a).1.length h,Ab ((B9 m t a).2:Nat)]/\Le I J/\(B9 m t a).1.length<=h/\RS J g 2 (B9 m t a).1.length (X2 X8 (B9 m t a).1)/\Aa B w' J N:=by
 refine gH 5 ?_;intro b1 w b;refine gE 0 (tt t 63 om o) ?_;intro w b;refine gF 8 (Xnd _ (oh (bC 63 t)) o.kn) ?_;rintro _ w ⟨P,rfl,b⟩;obtain⟨D,E,rfl,p,_⟩:=b.vS 0;have y:=x1 (EH 63 t).2.1;refine gM 12 ?_ ?_<;>intro c x
 ·refine gG 4 ?_;rw[show(B9 m t a)=_ from by unfold B9;rw[Y7 (show JV m t=true from c)]];replace b:=b.py [1];obtain⟨J,j,f,b⟩:=b.fV 0;exact⟨J,D,E,O,j,p,f,b⟩
 refine gF 2 (Xnd _ om o.kn) ?_;rintro _ w ⟨Q,rfl,b⟩;obtain⟨R,T,rfl,A,_⟩:=b.vS 0;have z:=x1 a;refine gN 8 ?_ ?_<;>intro d
 ·refine gG 3 ?_;rw[show(B9 m t a)=_ from by unfold B9;rw[Y3 (nB (show JV m t=false from c)),Y7 (oh d)]];exact⟨I,none,0,O,Le.refl _,Y9 _,RS.nil _ _,b.s⟩
 refine gM 7 ?_ ?_<;>intro u e
 ·refine gG 2 ?_;rw[show(B9 m t a)=_ from by unfold B9;rw[Y3 (nB (show JV m t=false from c)),Y3 (oh d),Y7 (oh e)]];exact⟨I,none,0,O,Le.refl _,Y9 _,RS.nil _ _,b.s⟩
 obtain⟨K,l,n,b⟩:=b.fV 0;try dsimp only[List.eraseIdx]at b
 refine gH 2 (.Bk (bytes:=32) b (.of O) (.of O) n (k:=0) O Ov (i:=t99) kr O O O O (gK (λr=>rfl) _) ⟨om,by unfold maxLen;omega⟩ O ?_);intro F w b;dsimp only[List.set]at b;refine gG 2 ?_;rw[show(B9 m t a)=_ from by unfold B9;rw[Y3 (nB (show JV m t=false from c)),Y3 (oh d),Y3 (oh e)]];replace b:=b.py [1];rw[<-gJ,<-Y0]at b;obtain⟨G,H,rfl,q,_⟩:=b.vS 0;obtain⟨J,j,f,b⟩:=b.fV 0;exact⟨J,G,H,O,l.trans j,q,f,b⟩
theorem U5(s:Lu)(H:s.length<=1000000)(q:Kz I)(N:La)(a:Aa B w I N):
  Cz 135 [S s] w λv w'=>∃J y z,v=.tuple #[.slice y (GD (BK 59 s) []).1.length z,Ab ((GD (BK 59 s) []).2:Nat)]/\Le I J/\(GD (BK 59 s) []).1.length<=z/\RS J y 2 (GD (BK 59 s) []).1.length (X2 X8 (GD (BK 59 s) []).1)/\Aa B w' J N:=by
 refine gF 4 (Xii s 59 H q) ?_;rintro _ w ⟨l,rfl,a⟩;refine gG 2 ?_;have F:=PF 59 s;replace a:=a.Al 99 2;refine .lk [11,12] (σ:=List Pq×Va×Nat) (λ(b,h,i) _m=>(4,h)::(13,Ab (i:Nat))::_m) (λ(b,h,i) w=>i<=(BK 59 s).length/\GD (BK 59 s) []=GD ((BK 59 s).drop i) b/\b.length<=20/\Aa B w I (Ao 99 2 h b.length (X2 X8 b)::Ad l ((BK 59 s).map S) 9::N)) (λ(b,h,i)=>(BK 59 s).length-i) ([],.slice none 0 0,0) ⟨Y5 _,O,Y5 _,a⟩ ?_;rintro⟨b,h,i⟩ w ⟨hi,d,p,a⟩;obtain⟨ka,M,rfl,o,_⟩:=a.vS 0;refine gN 1 ?_ ?_<;>intro r
 ·obtain⟨x,hx⟩:∃x,(BK 59 s)[i]?=some x:=⟨_,Y2 om⟩
  have L:=qd 59 s x (Y8 hx);have K:=Xy2 x 32;have n:(BK 59 s).drop i=x::(BK 59 s).drop (i+1):=by rw[Yq (Y1.1 hx).1,(Y1.1 hx).2]
  rw[n]at d;have G:=bC 61 (Go.Lib.trimB x 32);refine gH 1 ?_;refine .val (.lo O a (k:=1) O Bq (by rw[Yl];(try rw[Yh]);rw[Ca,Yu,hx];rfl)) O ?_;refine gE 2 (Xnw x 32 de om) ?_;intro w a;refine gM 3 ?_ ?_<;>intro c t
  ·refine gG 2 (Br (_,_,i+1) O ⟨om,?_,p,(a.x [1,1])⟩);rw[d,GD,Y7 (su c)]
  refine gN 3 ?_ ?_<;>intro e
  ·refine gG 2 ?_;rw[d,show GD (x::(BK 59 s).drop (i+1)) b=_ from by rw[GD,Y3 (su c),Y7 (oh e)]];exact⟨I,none,0,O,Le.refl _,Y9 _,RS.nil _ _,a.s⟩
  refine gE 1 (tt _ 61 om q) ?_;intro w a;refine gH 11 (.AA (T:=λw=>Aa B w I _) O O O func221 O (λf=>(X4 (.gd f O) X3)) O (λf=>Xf8 (EH 61 (Go.Lib.trimB x 32)).1 om _ a) a ?_);clear a;rintro w a;refine gH 4 (.AA (T:=λw=>Aa B w I _) O O O func222 O (λf=>(X4 (.gd f O) X3)) O (λf=>xG (EH 61 (Go.Lib.trimB x 32)).2.1 om _ a) a ?_);clear a;rintro w a;refine gM 2 ?_ ?_<;>intro g u
  ·refine gG 2 ?_;rw[d,show GD (x::(BK 59 s).drop (i+1)) b=_ from by rw[GD,Y3 (su c),Y3 (oh e),Y7 (show ZK _=true from g)]];exact⟨I,none,0,O,Le.refl _,Y9 _,RS.nil _ _,a.s⟩
  refine gG 9 ?_;intro C A D j w a;refine Br (b++[((EH 61 (Go.Lib.trimB x 32)).1,(EH 61 (Go.Lib.trimB x 32)).2.1)],_,i+1) O ⟨om,?_,by rw[Y0];show _+1<=20;omega,?_⟩
  ·(try dsimp only)
   rw[d,GD,Y3 (su c),Y3 (oh e),Y3 (nB (show ZK _=false from g))]
  ·(try dsimp only)
   rw[TD,Y0];exact(a.x [1,1])
 refine gG 3 ?_;rw[d,Yo om,GD];replace a:=a.py [1];obtain⟨J,E,m,a⟩:=a.fV 0;exact⟨J,ka,M,O,E,o,m,a⟩
theorem ez(m t b:Lu)(f:Oa)(i:Nat)(a:List Pq)(n:a.length<=100)(g:∀h∈a,h.1.length<=1000000/\h.2.length<=1000000)(l:Kz I)(k:RS I f 2 a.length (X2 X8 a))(N:La)(c:Aa B w I N):
  Cz 75 [.agg #[S m,S t,.slice f a.length i,S b]] w λv w'=>∃J,v=.tuple #[S (DM a).1,Ab ((DM a).2:Nat)]/\Le I J/\Aa B w' J N:=by
 refine gH 4 ?_;intro b1 w c;refine gE 0 (wv m t _ f i a _ n (λh e=>(g h e).1) k) ?_;intro w c;refine gF 6 (U5 _ (Mi qm a (λh e=>(g h e).2)).1 l) ?_;rintro _ w ⟨J,p,q,rfl,j,o,d,c⟩;refine gE 6 (wX p q _ _ (by have:=xy (BK 59 (EC qm a).1) [] de;omega) d) ?_;intro w c;exact gG 9 ⟨J,O,j,c.s⟩
end Go.Proofs.W9
namespace Rq
open Pc Gk Ul
structure Da where
 status:Int
 Ai:List Pq
 body:Lu
def C0:List (Int×Lu):=[(200,[79,75]),(302,[70,111,117,110,100]),(400,[66,97,100,32,82,101,113,117,101,115,116]),(403,[70,111,114,98,105,100,100,101,110]),(404,[78,111,116,32,70,111,117,110,100]),(405,[77,101,116,104,111,100,32,78,111,116,32,65,108,108,111,119,101,100]),(503,[83,101,114,118,105,99,101,32,85,110,97,118,97,105,108,97,98,108,101])]
def TJ(n:Int):Lu:=(C0.lookup n).getD []
theorem Xq2{n:Int}(h:TJ n≠[]):∃k:Nat,n=(k:Int)/\k<=503:=by
 unfold TJ C0 at h;simp only[List.lookup]at h
 repeat' split at h
 all_goals first
  | (rename_i a;have:=eq_of_beq a;subst this;exact⟨_,O,de⟩)
  | exact Aw O h
theorem xr(n:Int):(TJ n).length<=19:=by
 unfold TJ C0;simp only[List.lookup]
 repeat' split
 all_goals decide
def P3(s:Lu):Bool:=List.all s (I5 32 126)&&Go.Lib.trimB s 32==s
def pb:Lu:=[67,111,110,116,101,110,116,45,76,101,110,103,116,104]
def uS(r:Da):Bool:=(TJ r.status==[]||decide (32<((r.Ai.length:Nat):Int)))||decide (8192<((r.body.length:Nat):Int))
def qz(h:Pq):Bool:=(!fY h.1||!P3 h.2)||hB h.1 pb
def bL(r:Da):Bool:=!uS r&&r.Ai.all (λh=>!qz h)
def H11:Lu:=[72,84,84,80,47,49,46,49,32]
def KJ(r:Da):Lu:=(((H11++Go.Lib.decDigits r.status.toNat)++[32])++TJ r.status)++CR
def kC(s:Lu)(h:Pq):Lu:=s++(((h.1++[58,32])++h.2)++CR)
def Ia(r:Da):List Pq:=r.Ai++[(pb,Go.Lib.decDigits r.body.length)]
def Aac(r:Da):Lu:=((Ia r).foldl kC (KJ r)++CR)++r.body
def oj(r:Da):Lu×Nat:=if bL r=true then(Aac r,0)else([],1)
theorem tF(n:Nat):∀(l:List Pq) (s:Lu),(∀h∈l,h.1.length+h.2.length<=n)->(l.foldl kC s).length<=s.length+l.length*(n+4)
 | [],s,_=>by simp
 | h::l,s,a=>by
  rw[JS,Y4,Gh];have b:=tF n l (kC s h) (λx hx=>a x (by simp[hx]));have c:=a h sz;have d:(kC s h).length=s.length+(h.1.length+h.2.length+4):=by
   unfold kC CR;simp only[Y0,Y4,Yi];omega
  omega
def Om(a:Int)(c b:Lu):Da:=⟨a,[([67,111,110,116,101,110,116,45,84,121,112,101],c)],b⟩
def I9:Lu:=[76,111,99,97,116,105,111,110]
def QD:Lu:=[83,101,116,45,67,111,111,107,105,101]
def Od(b:Lu)(a:List Lu):Da:=⟨302,(I9,b)::a.map (λc=>(QD,c)),[]⟩
end Rq
namespace Go.Proofs.W9
open Gk Ul Pc Tk Tr Xm Rq
open Tryz
theorem Xtv(N:La)(a:Aa B w I N):
  Cz 213 [] w λv w'=>∃b,v=.map (some b)/\Aa B w' I (LQ Ab b (C0.map λp=>(p.1,S p.2))::N):=by
 refine gG 1 (.mkMap Ab a O ?_);intro b1 w a;refine .Ci (key:=200) K6 a (k:=0) O (.of O) (.of O) (.of O) O il B5 ?_;intro w a;refine .Ci (key:=302) K6 a (k:=0) O (.of O) (.of O) (.of O) O il B5 ?_;intro w a;refine .Ci (key:=400) K6 a (k:=0) O (.of O) (.of O) (.of O) O il B5 ?_;intro w a;refine .Ci (key:=403) K6 a (k:=0) O (.of O) (.of O) (.of O) O il B5 ?_;intro w a;refine .Ci (key:=404) K6 a (k:=0) O (.of O) (.of O) (.of O) O il B5 ?_;intro w a;refine .Ci (key:=405) K6 a (k:=0) O (.of O) (.of O) (.of O) O il B5 ?_;intro w a;refine .Ci (key:=503) K6 a (k:=0) O (.of O) (.of O) (.of O) O il B5 ?_;intro w a;exact gG 2 ⟨b1,O,a⟩
theorem wy(e:Int)(N:La)(a:Aa B w I N):
  Ce B I N 127 [Ab e] w (S (TJ e)):=by
 refine gF 1 (Xtv) ?_;rintro _ w ⟨d,rfl,a⟩;refine gH 1 ?_;refine .val (v:=S (TJ e)) (by have c:=wO S e C0;have b:((C0.map λp=>(p.1,S p.2)).lookup e).getD (S [])=S (TJ e):=by { rw[c];unfold TJ;cases C0.lookup e<;>rfl };rw[<-b];exact .Pv (key:=e) K6 (a.Mz (k:=0) O) (.of O) (.of O) il B5 KQ) O ?_;exact gG 1 ⟨O,a.s⟩
theorem P6(c:Ui):((decide ((c.toNat:Int)<32))||(decide (126<(c.toNat:Int))))=!I5 32 126 c:=eq_of_beq (Xj (p:=λc=>((decide ((c.toNat:Int)<32))||(decide (126<(c.toNat:Int))))==!I5 32 126 c) dk c)
theorem Z9(s:Lu)(g:s.length<=1000000)(N:La)(d:Aa B w I N):
  Ce B I N 149 [S s] w (.bool (P3 s)):=by
 refine gG 4 (.lk [0,5] (σ:=Nat) (λi _m=>(6,Ab (i:Nat))::_m) (λi w=>i<=s.length/\List.all s (I5 32 126)=List.all (s.drop i) (I5 32 126)/\Aa B w I N) (λi=>s.length-i) 0 ⟨Y5 _,O,d⟩ ?_);rintro i w ⟨hi,a,d⟩;refine gN 1 ?_ ?_<;>intro f
 ·refine gM 12 ?_ ?_<;>intro c e
  ·refine gG 1 ?_;have b:=c;rw[P6]at b;refine⟨Ye Value.bool ?_,d⟩;unfold P3;rw[a,Xf s om,EX,show I5 32 126 (at_ s (i:Int))=false by simpa using b];rfl
  refine gG 2 ?_;have b:=c;rw[P6]at b;refine rd (i+1) ⟨om,?_,d⟩;rw[a,Xf s om,EX,show I5 32 126 (at_ s (i:Int))=true by simpa using b,HH]
 refine gE 1 (Xnw s 32 de g) ?_;intro w d;refine gG 3 (⟨Ye Value.bool ?_,d⟩);unfold P3;rw[a,Yo om];rfl
theorem v7(r:Da)(m:Oa)(u:Nat)(n:RS I m 2 r.Ai.length (X2 X8 r.Ai))(o:∀h∈r.Ai,h.1.length<=1000000/\h.2.length<=1000000)(N:La)(a:Aa B w I N):
  Ce B I N 79 [.agg #[Ab r.status,.slice m r.Ai.length u,S r.body]] w (.bool (bL r)):=by
 refine gH 1 ?_;intro b1 w a;refine gG 1 (gH 1 (gE 1 (wy _) ?_));intro w a;refine gH 1 (gH 1 (gH 1 (gH 1 (gH 1 (gH 1 (gH 1 (gH 1 (gH 1 (gH 1 (gH 1 (gH 1 ?_)))))))))));refine gM 1 ?_ ?_<;>intro d g
 ·exact gG 1 ⟨by unfold bL;rw[show uS r=true from d];rfl,a.s⟩
 refine gH 1 (gH 1 (gH 1 ?_));have f:=a.drop (k:=0) O;clear a;refine gG 1 (.lk [22,23] (σ:=Nat) (λi _m=>(24,Ab (i:Nat))::_m) (λi w=>i<=r.Ai.length/\r.Ai.all (λh=>!qz h)=(r.Ai.drop i).all (λh=>!qz h)/\Aa B w I N) (λi=>r.Ai.length-i) 0 ⟨Y5 _,O,f⟩ ?_);rintro i w ⟨hi,b,a⟩;clear f;refine gN 1 ?_ ?_<;>intro j
 ·obtain⟨x,hx⟩:∃x,r.Ai[i]?=some x:=⟨_,Y2 om⟩
  have t:=o x (Y8 hx);obtain⟨q,rfl,p⟩:=Bv (cells:=X8) (λ_=>rfl) n hx;refine gH 1 (gH 1 (gH 1 ?_));intro v w a;refine gG 1 ?_;intro w a;refine gH 1 (gE 1 (Xu2 x.1 om) ?_);intro w a;refine gH 1 (gH 1 (gH 1 (gH 1 (.AA (T:=λw=>Aa B w I _) O O O func149 O (λc=>(X4 (.gd c O) X3)) O (λc=>Z9 x.2 om _ a) a ?_))));clear a;rintro w a;refine gH 1 (gH 1 (gH 1 (gH 1 (gH 1 (.AA (T:=λw=>Aa B w I _) O O O func150 O (λc=>(X4 (.gd c O) (AM O X3))) O (λc=>Xn5 x.1 pb om _ a) a ?_)))));clear a;rintro w a;refine gM 1 ?_ ?_<;>intro e l
  ·refine gG 1 (⟨Ye Value.bool ?_,a.s⟩);unfold bL;rw[b,Yq (Y1.1 hx).1,(Y1.1 hx).2,EX,show qz x=true from e];simp
  refine gH 1 (gG 1 (rd (i+1) ⟨om,?_,(a.y 0 1)⟩));rw[b,Yq (Y1.1 hx).1,(Y1.1 hx).2,EX,show qz x=false from e];rfl
 refine gG 1 (⟨Ye Value.bool ?_,a⟩);unfold bL;rw[b,Yo om,show uS r=false from d];rfl
theorem sT(n:Int)(b a:Lu)(N:La)(c:Aa B w I N):
  Cz 126 [Ab n,S b,S a] w λv w'=>∃J e f,v=.agg #[Ab (Om n b a).status,.slice e (Om n b a).Ai.length f,S (Om n b a).body]/\Le I J/\(Om n b a).Ai.length<=f/\RS J e 2 (Om n b a).Ai.length (X2 X8 (Om n b a).Ai)/\Aa B w' J N:=by
 refine gH 8 ?_;intro i g w c;refine gG 0 ?_;replace c:=c.py [1];obtain⟨J,h,d,c⟩:=JF (size:=2) c O;exact⟨J,_,_,O,h,Y9 _,d,c⟩
end Go.Proofs.W9
namespace Rq
open Pc Gk Ul Xm
def cY:Lu:=[105,110,112,117,116]
def kB:Lu:=[110,97,109,101]
def jO:Lu:=[118,97,108,117,101]
def Pn:Lu:=[104,116,109,108]
def HM:Lu:=[98,111,100,121]
def XJ:Lu:=[102,111,114,109]
def ue:Lu:=[97,99,116,105,111,110]
def ug:Lu:=[47,108,111,103,105,110]
def uf:Lu:=[109,101,116,104,111,100]
def uM:Lu:=[112,111,115,116]
def HF:Lu:=[108,116]
def Xb:Lu:=[115,101,114,118,105,99,101]
def Xp:Lu:=[117,115,101,114,110,97,109,101]
def Xv:Lu:=[112,97,115,115,119,111,114,100]
def XL:Lu:=[112]
def n_:Lu:=[99,108,97,115,115]
def l0:Lu:=[116,101,120,116,47,104,116,109,108]
def ry:Lu:=[116,101,120,116,47,120,109,108]
def yL:Lu:=[116,101,120,116,47,112,108,97,105,110]
def Vs:Lu:=[99,97,115,58,115,101,114,118,105,99,101,82,101,115,112,111,110,115,101]
def TN:Lu:=[120,109,108,110,115,58,99,97,115]
def TM:Lu:=[104,116,116,112,58,47,47,119,119,119,46,121,97,108,101,46,101,100,117,47,116,112,47,99,97,115]
def kA:Lu:=[99,111,100,101]
def uN:Lu:=[116,105,99,107,101,116,32,111,114,32,115,101,114,118,105,99,101,32,105,115,32,110,111,116,32,103,111,111,100]
def XK:Lu:=[110,111,32,116,105,99,107,101,116,32,105,115,32,103,105,118,101,110]
def uL:Lu:=[99,97,115,58,97,117,116,104,101,110,116,105,99,97,116,105,111,110,70,97,105,108,117,114,101]
def Mn:Lu:=[99,97,115,58,112,114,111,120,121,70,97,105,108,117,114,101]
def pY:Lu:=[99,97,115,58,112,114,111,120,121,84,105,99,107,101,116]
def Mo:Lu:=[99,97,115,58,112,114,111,120,121,83,117,99,99,101,115,115]
def Cc:Lu:=[99,97,115,58,97,117,116,104,101,110,116,105,99,97,116,105,111,110,83,117,99,99,101,115,115]
def qA:Lu:=[99,97,115,58,117,115,101,114]
def Ph:Lu:=[99,97,115,58]
def p8:Lu:=[99,97,115,58,97,116,116,114,105,98,117,116,101,115]
def iv:Lu:=[99,97,115,58,112,114,111,120,121,71,114,97,110,116,105,110,103,84,105,99,107,101,116]
def pL:Lu:=[99,97,115,58,112,114,111,120,105,101,115]
def Pj:Lu:=[99,97,115,58,112,114,111,120,121]
def rr:Lu:=[110,111,10,10]
def zY:Lu:=[121,101,115,10]
def D8(name s:Lu)(l:List Pq):Nd:=.mk name l s []
def G4(name:Lu)(ks:List Nd):Nd:=.mk name [] [] ks
def Mj(name v:Lu):Nd:=D8 cY [] [(kB,name),(jO,v)]
def jN(ks:List Nd):Nd:=G4 Pn [G4 HM ks]
def V8(n:Nd):Lu:=if(FO 8 200 n).isSome=true then ES 8 n else[]
def Ke(ks:List Nd):Da:=Om 200 l0 (V8 (jN ks))
def cX(lt a:Lu):Nd:=.mk XJ [(ue,ug),(uf,uM)] [] [Mj HF lt,Mj Xb a,Mj Xp [],Mj Xv []]
def ky(lt a HC:Lu):Da:=if HC=[]then Ke [cX lt a]else Ke [D8 XL HC [],cX lt a]
def TZ(a s:Lu):Da:=Ke [D8 XL s [(n_,a)]]
def Fy(n:Int):Da:=Om n yL (TJ n++[10])
def oe(a:Lu)(ok:Bool):Da:=if ok=true then Om 200 yL ((zY++a)++[10])else Om 200 yL rr
def JW(n:Nd):Da:=Om 200 ry (V8 (.mk Vs [(TN,TM)] [] [n]))
def n5(name s a:Lu):Nd:=D8 name s [(kA,a)]
def D1:Nat->Nd->Nat
 | 0,_=>0
 | d+1,n=>2*n.name.length+5+(n.attrs.map λa=>a.1.length+6*a.2.length+4).sum+6*n.text.length+(n.kids.map (D1 d)).sum
theorem Np{α:Type}(f g:α->Nat)(h:∀x,f x<=g x):∀l:List α,(l.map f).sum<=(l.map g).sum
 | []=>Y9 _
 | x::l=>by simp only[Yw,VF];have:=Np f g h l;have:=h x;omega
theorem xe{α:Type}(f:α->Lu):∀l:List α,((l.map f).flatten).length=(l.map λx=>(f x).length).sum
 | []=>rfl
 | x::l=>by simp only[Yw,Gg,Y0,VF,xe f l]
theorem yp:∀(d:Nat) (n:Nd),(ES d n).length<=D1 d n
 | 0,n=>Y9 _
 | d+1,n=>by
  have b:=p7 n.text;have c:((n.attrs.map JJ).flatten).length<=(n.attrs.map λa=>a.1.length+6*a.2.length+4).sum:=by
   rw[xe];refine Np _ _ (λa=>?_) _
   have:=p7 a.2
   unfold JJ;simp only[Y4,Y0,Yi]
   omega
  have e:((n.kids.map (ES d)).flatten).length<=(n.kids.map (D1 d)).sum:=by
   rw[xe];exact Np _ _ (yp d) _
  rw[ES,D1];simp only[Y4,Y0,Yi]
  omega
end Rq
namespace Go.Proofs.W9
open Gk Ul Pc Tk Tr Xm Rq
open Tryz
def LN(I:Im)(r:Da)(B:Wo)(N:La)(v:Va)(w':Wo):Prop:=∃J a b,v=.agg #[Ab r.status,.slice a r.Ai.length b,S r.body]/\Le I J/\r.Ai.length<=b/\RS J a 2 r.Ai.length (X2 X8 r.Ai)/\Aa B w' J N
theorem CC.up:∀{d:Nat} {cs:Lv} {n:Nd},CC d I cs n->CC (d+1) I cs n
 | 0,_,_,h=>h.elim
 | d+1,cs,n,h=>by
  obtain⟨j,l,m,o,p,f,g,ka,ck,xs,q,r,s,t,a,b,c,e⟩:=h;exact⟨j,l,m,o,p,f,g,ka,ck,xs,q,r,s,t,a,b,c,λi x k hx u=>(e i x k hx u).up⟩
theorem CC.le{d e:Nat}{n:Nd}(h:CC d I cs n)(a:d<=e):CC e I cs n:=by
 induction a with
 | refl=>exact h
 | step _ b=>exact b.up
def Cv(d:Nat)(I:Im)(ka:Oa)(ck:Nat)(ks:List Nd):Prop:=ks.length<=10000/\ks.length<=ck/\∃xs:List Lv,RS I ka 4 ks.length xs.flatten/\xs.length=ks.length/\(∀x∈xs,x.length=4)/\∀(i:Nat) x k,xs[i]?=some x->ks[i]?=some k->CC d I x k
theorem Cv.mono{d:Nat}{ck:Nat}{ks:List Nd}(h:Cv d I ka ck ks)(a:Le I J):Cv d J ka ck ks:=by
 obtain⟨b,c,xs,e,f,g,j⟩:=h;exact⟨b,c,xs,e.mono a,f,g,λi x k hx l=>(j i x k hx l).mono a⟩
theorem cU{d:Nat}{ck:Nat}(l:List (Lv×Nd))(h:l.length<=10000)(g:l.length<=ck)(f:RS I ka 4 l.length (l.map (·.1)).flatten)(c:∀p∈l,CC d I p.1 p.2):Cv d I ka ck (l.map (·.2)):=by
 refine⟨by rw[Ym];exact h,by rw[Ym];exact g,l.map (·.1),by rw[Ym];exact f,by rw[Ym,Ym],λx hx=>?_,λi x k hx a=>?_⟩
 ·obtain⟨p,j,rfl⟩:=Dj.1 hx;obtain⟨_,_,_,_,_,_,_,_,e⟩:=(c p j).cells;rw[e];rfl
 ·rw[Yu]at hx a;cases b:l[i]? with
  | none=>rw[b]at hx;cases hx
  | some p =>
   rw[b]at hx a;cases hx;cases a
   exact c p (Y8 b)
theorem FD{d:Nat}{e:Lu}{l:List Pq}{b:Oa}{c ck:Nat}{ks:List Nd}(f:nm.length<=10000)(g:e.length<=10000)(h:l.length<=10000)(i:∀a∈l,a.1.length<=10000/\a.2.length<=10000)(m:l.length<=c)(j:RS I b 2 l.length (X2 X8 l))(k:Cv d I ka ck ks):CC (d+1) I [S nm,.slice b l.length c,S e,.slice ka ks.length ck] (.mk nm l e ks):=by
 obtain⟨n,o,xs,p,q,r,s⟩:=k;exact⟨f,g,h,n,i,b,c,ka,ck,xs,O,m,o,j,p,q,r,s⟩
theorem HO(d:Nat)(I:Im):Cv d I none 0 []:=⟨Y5 _,Y5 _,[],RS.nil _ _,O,by simp,by simp⟩
theorem cM(nm s:Lu)(a:Oa)(n b:Nat)(N:La)(c:Aa B w I N):
  Ce B I N 314 [S nm,S s,.slice a n b] w (.agg #[S nm,.slice a n b,S s,.slice none 0 0]):=by
 refine gH 6 ?_;intro d w c;exact gG 0 ⟨O,c.s⟩
theorem gy(nm:Lu)(ka:Oa)(n ck:Nat)(N:La)(a:Aa B w I N):
  Ce B I N 328 [S nm,.slice ka n ck] w (.agg #[S nm,.slice none 0 0,S [],.slice ka n ck]):=by
 refine gH 5 ?_;intro b w a;exact gG 0 ⟨O,a.s⟩
theorem Xq1(a:Lu)(n:Nd)(s1 l:Lu)(f g:Oa)(j h k i:Nat)(q:Kz I)(o:CC 8 I [S s1,.slice f j h,S l,.slice g k i] n)(p:(ES 8 n).length<=1000000)(N:La)(b:Aa B w I N):
  Cz 375 [S a,.agg #[S s1,.slice f j h,S l,.slice g k i]] w λv w'=>LN I (Om 200 a (V8 n)) B N v w':=by
 refine gH 3 ?_;intro u x w b;refine gE 0 (Xjy n _ q.kx o p) ?_;intro w b;refine gF 7 (sT 200 _ _) ?_;rintro _ w ⟨m,r,t,rfl,c,e,d,b⟩;refine gH 1 ?_;intro w b;exact gG 0 ⟨m,r,t,O,c,e,d,b.s⟩
theorem xq(ks:List Nd)(ka:Oa)(ck:Nat)(n:Kz I)(m:Cv 6 I ka ck ks)(t:D1 8 (jN ks)<=1000000)(N:La)(a:Aa B w I N):
  Cz 313 [.slice ka ks.length ck] w λv w'=>LN I (Ke ks) B N v w':=by
 refine gH 2 ?_;intro q w a;refine gE 0 (gy _ ka _ ck) ?_;intro w a;refine gH 1 ?_;intro r w a;replace a:=a;obtain⟨j,b,c,a⟩:=JF (size:=4) a O;have e:CC 7 j _ (G4 HM ks):=FD (d:=6) (l:=[]) de de de sz (Y9 _) (RS.nil _ _) (m.mono b);have g:CC 8 j _ (jN ks):=FD (d:=7) (l:=[]) de de de sz (Y9 _) (RS.nil _ _) (cU [(_,G4 HM ks)] (Yd O) (Y9 1) c (su e));refine gE 0 (gy _ _ _ _) ?_;intro w a;refine gF 0 (Xq1 _ _ _ _ _ _ _ _ _ _ (n.mono b) g (oh (yp 8 (jN ks)))) ?_;rintro _ w ⟨k,o,p,rfl,f,i,h,a⟩;refine gH 1 ?_;intro w a;exact gG 0 ⟨k,o,p,O,b.trans f,i,h,a.s⟩
theorem pF(a s:Lu)(C:a.length<=100)(t:s.length<=10000)(r:Kz I)(N:La)(b:Aa B w I N):
  Cz 227 [S a,S s] w λv w'=>LN I (TZ a s) B N v w':=by
 refine gH 5 ?_;intro z A w b;replace b:=b;obtain⟨y,e,f,b⟩:=JF (size:=2) b O;refine gE 0 (cM XL s _ _ _) ?_;intro w b;refine gH 1 ?_;intro q w b;replace b:=b;obtain⟨n,c,g,b⟩:=JF (size:=4) b O;have i:Cv 6 n _ _ [D8 XL s [(n_,a)]]:=cU [(_,D8 XL s [(n_,a)])] (Yd O) (Y9 1) g (by
  intro p m;simp at m
  subst m;exact FD (d:=5) (l:=[(n_,a)]) de t (Yd O) (by simp[n_];omega) (Y9 1) (f.mono c) (HO _ _))
 refine gF 0 (xq _ _ _ (r.mono (e.trans c)) i (by simp[D1,jN,G4,D8,Nd.name,Nd.attrs,Nd.text,Nd.kids,Pn,HM,XL,n_];omega)) ?_;rintro _ w ⟨o,u,x,rfl,h,k,j,b⟩;refine gH 1 ?_;intro w b;exact gG 0 ⟨o,u,x,O,e.trans (c.trans h),k,j,b.s⟩
theorem nr(n:Int)(N:La)(a:Aa B w I N):
  Cz 72 [Ab n] w λv w'=>LN I (Fy n) B N v w':=by
 refine gH 3 ?_;intro i w a;refine gE 0 (wy n) ?_;intro w a;have f:=xr n;refine gF 1 (sT n _ _) ?_;rintro _ w ⟨e,g,h,rfl,b,d,c,a⟩;refine gH 1 ?_;intro w a;exact gG 0 ⟨e,g,h,O,b,d,c,a.s⟩
theorem MQ(a:Lu)(ok:Bool)(l:a.length<=100000)(N:La)(d:Aa B w I N):
  Cz 237 [S a,.bool ok] w λv w'=>LN I (oe a ok) B N v w':=by
 refine gG 3 ?_;intro k w d;refine gM 0 ?_ ?_<;>intro f j
 ·refine gF 0 (sT 200 _ _) ?_;rintro _ w ⟨g,h,i,rfl,b,e,c,d⟩;refine gH 1 ?_;intro w d;refine gG 0 ?_;unfold oe;rw[Y3 (su f)];exact⟨g,h,i,O,b,e,c,d.s⟩
 refine gF 3 (sT 200 _ _) ?_;rintro _ w ⟨g,h,i,rfl,b,e,c,d⟩;refine gH 1 ?_;intro w d;refine gG 0 ?_;unfold oe;rw[Y7 (su f)];exact⟨g,h,i,O,b,e,c,d.s⟩
theorem sP(nm e:Lu)(N:La)(a:Aa B w I N):
  Cz 376 [S nm,S e] w λv w'=>∃J d,v=.agg #[S cY,.slice d 2 2,S [],.slice none 0 0]/\Le I J/\RS J d 2 2 (X2 X8 [(kB,nm),(jO,e)])/\Aa B w' J N:=by
 refine gH 6 ?_;intro g h w a;replace a:=a;obtain⟨f,c,b,a⟩:=JF (size:=2) (n:=2) a O;refine gE 0 (cM _ [] _ _ _) ?_;intro w a;refine gH 1 ?_;intro w a;exact gG 0 ⟨f,_,O,c,b,a.s⟩
theorem ud{b:Oa}{a:Lu}(e:nm.length<=10000)(f:a.length<=10000)(d:Nat)(c:RS I b 2 2 (X2 X8 [(kB,nm),(jO,a)])):CC (d+1) I [S cY,.slice b 2 2,S [],.slice none 0 0] (Mj nm a) :=
 FD (d:=d) (l:=[(kB,nm),(jO,a)]) de de (Yd O) (by simp[kB,jO];omega) (Y9 2) c (HO _ _)
theorem SR(lt sv t:Lu)(h1:lt.length<=5000)(h2:sv.length<=5000)(h3:t.length<=5000)(Q:Kz I)(N:La)(a:Aa B w I N):
  Cz 316 [S lt,S sv,S t] w λv w'=>LN I (ky lt sv t) B N v w':=by
 refine gH 2 ?_;intro b6 w a;refine gF 0 (sP _ lt) ?_;rintro _ w ⟨J1,i1,rfl,K,F,a⟩;refine gF 1 (sP _ sv) ?_;rintro _ w ⟨J2,i2,rfl,x,G,a⟩;refine gF 0 (sP _ []) ?_;rintro _ w ⟨J3,i3,rfl,k,H,a⟩;refine gF 0 (sP _ []) ?_;rintro _ w ⟨J4,i4,rfl,e,J,a⟩;refine gH 1 ?_;intro E w a;replace a:=a;obtain⟨T,b,y,a⟩:=JF (size:=4) (n:=4) a O;have f:Le I J4:=K.trans (x.trans (k.trans e));have L:Cv 4 T (some (ad E 0)) 4 [Mj HF lt,Mj Xb sv,Mj Xp [],Mj Xv []]:=cU [([S cY,.slice i1 2 2,S [],.slice none 0 0],Mj HF lt),([S cY,.slice i2 2 2,S [],.slice none 0 0],Mj Xb sv),([S cY,.slice i3 2 2,S [],.slice none 0 0],Mj Xp []),([S cY,.slice i4 2 2,S [],.slice none 0 0],Mj Xv [])] (Yd O) (Y9 4) y (by
  intro p h;simp at h
  rcases h with rfl|rfl|rfl|rfl
  ·exact ud de om 3 (F.mono (x.trans (k.trans (e.trans b))))
  ·exact ud de om 3 (G.mono (k.trans (e.trans b)))
  ·exact ud de de 3 (H.mono (e.trans b))
  ·exact ud de de 3 (J.mono b))
 refine gE 0 (gy _ _ _ _) ?_;intro w a;refine gH 5 ?_;intro b7 X w a;replace a:=a;obtain⟨U,c,z,a⟩:=JF (size:=2) (n:=2) a O;have u:CC 5 U _ (cX lt sv):=FD (d:=4) (l:=[(ue,ug),(uf,uM)]) de de (Yd O) de (Y9 2) z (L.mono c);refine gG 4 ?_;intro w a;refine gM 0 ?_ ?_<;>intro g R
 ·refine gH 2 ?_;intro Y w a;replace a:=a;obtain⟨V,i,A,a⟩:=JF (size:=4) (n:=1) a O;have o:Cv 6 V _ _ [cX lt sv]:=cU [(_,cX lt sv)] (Yd O) (Y9 1) A (by
   intro p h;simp at h
   subst h;exact((u.mono i).le de))
  refine gF 0 (xq _ _ _ (Q.mono (f.trans (b.trans (c.trans i)))) o (by simp[D1,jN,G4,D8,cX,Mj,Nd.name,Nd.attrs,Nd.text,Nd.kids,Pn,HM,XL,XJ,cY,kB,jO,HF,Xb,Xp,Xv,ue,ug,uf,uM];omega)) ?_;rintro _ w ⟨D,M,P,rfl,m,r,q,a⟩;refine gH 1 ?_;intro w a;refine gG 0 ?_;unfold ky;rw[Y7 (su g)];exact⟨D,M,P,O,f.trans (b.trans (c.trans (i.trans m))),r,q,a.s⟩
 refine gG 0 (gD [0] [5] [0,2,1,3,4,5] ?_);intro w a;refine gE 2 (cM XL t _ _ _) ?_;intro w a;refine gH 1 ?_;intro Z w a;replace a:=a;obtain⟨W,j,C,a⟩:=JF (size:=4) (n:=2) a O;have o:Cv 6 W _ _ [D8 XL t [],cX lt sv]:=cU [(_,D8 XL t []),(_,cX lt sv)] (Yd O) (Y9 2) C (by
  intro p h;simp at h
  rcases h with rfl|rfl
  ·exact FD (d:=5) (l:=[]) de om de sz (Y9 _) (RS.nil _ _) (HO _ _)
  ·exact((u.mono j).le de))
 refine gF 0 (xq _ _ _ (Q.mono (f.trans (b.trans (c.trans j)))) o (by simp[D1,jN,G4,D8,cX,Mj,Nd.name,Nd.attrs,Nd.text,Nd.kids,Pn,HM,XL,XJ,cY,kB,jO,HF,Xb,Xp,Xv,ue,ug,uf,uM];omega)) ?_;rintro _ w ⟨D,M,P,rfl,m,r,q,a⟩;refine gH 1 ?_;intro w a;refine gG 0 ?_;unfold ky;rw[Y3 (su g)];exact⟨D,M,P,O,f.trans (b.trans (c.trans (j.trans m))),r,q,a.s⟩
theorem tK(n:Nd)(s1 u:Lu)(m o:Oa)(r p t q:Nat)(C:Kz I)(A:CC 7 I [S s1,.slice m r p,S u,.slice o t q] n)(K:D1 8 (.mk Vs [(TN,TM)] [] [n])<=1000000)(N:La)(a:Aa B w I N):
  Cz 325 [.agg #[S s1,.slice m r p,S u,.slice o t q]] w λv w'=>LN I (JW n) B N v w':=by
 refine gH 4 ?_;intro b1 F H w a;replace a:=a;obtain⟨x,b,e,a⟩:=JF (size:=4) a O;have h:Cv 7 x _ _ [n]:=cU [(_,n)] (Yd O) (Y9 1) e (by simpa using A.mono b);refine gE 0 (gy _ _ _ _) ?_;intro w a;refine gH 4 ?_;intro G J w a;replace a:=a;obtain⟨y,c,f,a⟩:=JF (size:=2) a O;have i:CC 8 y _ (.mk Vs [(TN,TM)] [] [n]):=FD (d:=7) (l:=[(TN,TM)]) de de (Yd O) de (Y9 1) f (h.mono c);refine gH 3 ?_;intro w a;refine gF 0 (Xq1 _ (.mk Vs [(TN,TM)] [] [n]) _ _ _ _ _ _ _ _ (C.mono (b.trans c)) i (oh (yp 8 (.mk Vs [(TN,TM)] [] [n])))) ?_;rintro _ w ⟨z,D,E,rfl,g,k,j,a⟩;refine gH 1 ?_;intro w a;exact gG 0 ⟨z,D,E,O,b.trans (c.trans g),k,j,a.s⟩
theorem Xq0(nm s a:Lu)(N:La)(b:Aa B w I N):
  Cz 326 [S nm,S s,S a] w λv w'=>∃J e,v=.agg #[S nm,.slice e 1 1,S s,.slice none 0 0]/\Le I J/\RS J e 2 1 (X2 X8 [(kA,a)])/\Aa B w' J N:=by
 refine gH 6 ?_;intro h g w b;replace b:=b;obtain⟨f,d,c,b⟩:=JF (size:=2) b O;refine gE 0 (cM nm s _ _ _) ?_;intro w b;refine gH 1 ?_;intro w b;exact gG 0 ⟨f,_,O,d,c,b.s⟩
theorem WH{b:Oa}{s a:Lu}(e:nm.length<=100)(f:s.length<=100)(g:a.length<=100)(c:RS I b 2 1 (X2 X8 [(kA,a)])):CC 7 I [S nm,.slice b 1 1,S s,.slice none 0 0] (n5 nm s a) :=
 FD (d:=6) (l:=[(kA,a)]) om om (Yd O) (by simp[kA];omega) (Y9 1) c (HO _ _)
theorem tT(e:Int):(iu e).length<=24:=by
 unfold iu Cu;simp only[List.lookup]
 repeat' split
 all_goals decide
def og(a:Lu)(e:Int):Da:=if e≠0 then JW (n5 Mn XK (iu e))else JW (G4 Mo [D8 pY a []])
theorem MR(g:Lu)(e:Int)(A:g.length<=5000)(u:Kz I)(N:La)(a:Aa B w I N):
  Cz 240 [S g,Ab e] w λv w'=>LN I (og g e) B N v w':=by
 refine gG 3 ?_;intro z w a;refine gN 0 ?_ ?_<;>intro k
 ·refine gE 1 (Xuo e) ?_;intro w a;refine gF 0 (Xq0 _ _ _) ?_;rintro _ w ⟨y,C,rfl,i,n,a⟩;refine gF 0 (tK _ _ _ _ _ _ _ _ _ (u.mono i) (WH de de (oh (tT e)) n) (by have:=tT e;simp[D1,n5,D8,Nd.name,Nd.attrs,Nd.text,Nd.kids,Vs,TN,TM,kA,uL,Mn,uN,XK];omega)) ?_;rintro _ w ⟨m,q,r,rfl,b,f,c,a⟩;refine gH 1 ?_;intro w a;refine gG 0 ?_;unfold og;rw[Y7 (oh k)];exact⟨m,q,r,O,i.trans b,f,c,a.s⟩
 refine gE 1 (cM _ g _ _ _) ?_;intro w a;refine gH 1 ?_;intro x w a;replace a:=a;obtain⟨t,h,j,a⟩:=JF (size:=4) a O;have p:CC 6 t _ (D8 pY g []):=FD (d:=5) (l:=[]) de om de sz (Y9 _) (RS.nil _ _) (HO _ _);have o:CC 7 t _ (G4 Mo [D8 pY g []]):=FD (d:=6) (l:=[]) de de de sz (Y9 _) (RS.nil _ _) (cU [(_,D8 pY g [])] (Yd O) (Y9 1) j (su p));refine gE 0 (gy _ _ _ _) ?_;intro w a;refine gF 0 (tK _ _ _ _ _ _ _ _ _ (u.mono h) o (by simp[D1,G4,D8,Nd.name,Nd.attrs,Nd.text,Nd.kids,Vs,TN,TM,Mo,pY];omega)) ?_;rintro _ w ⟨m,q,r,rfl,b,f,c,a⟩;refine gH 1 ?_;intro w a;refine gG 0 ?_;unfold og;rw[Y3 (oh k)];exact⟨m,q,r,O,h.trans b,f,c,a.s⟩
theorem Mk:prog.info? 99=some t99:=by kernel_rfl
theorem Ex.r4{g:Option (Nat×Bool)}{t e:TypeId}{x z u:Operand}{len s:Nat}{b:Int}(hx:Ev n L x (.slice a0 len cap))(p:Ev n L z (Ab hi))(o:Ev n L u (Ab b))(j:0<=hi)(k:hi<=b)(l:b<=cap)(f:P.underlying t=some (.slice e))(m:∀w,(Go.sizeOf e).run P w=.ok s w):
  Ex P n L w ⟨d,.slice t x none (some z) (some u),ty,pos,af,g⟩ (sliced a0 0 hi.toNat b.toNat s) w:=λa c=>by
 have i:P.underlying t=some (.slice (P.elem t)):=by rw[LB f];exact f
 have h:=run_slice_hm (P:=P) w t a0 len cap i .i64 .i64 hi b j k l;rw[LB f,m]at h;simp[execOp,hx a c,p a c,o a c,run_sliceAt_slice w t _ _ _ _ i,h,Result.andThen]
theorem Xnj(n:Int)(a:0<=n)(d:n<=1099511627776)(c:Kz I)(N:La)(b:Aa B w I N):Calls prog 22 #[Ab n] w (AY λv w'=>v=S (Go.Lib.decDigits n.toNat)/\Aa B w' I N):=by
 obtain⟨k,rfl⟩:=Y68 a;exact sV k om c.kx N b
theorem jM(n:Nat)(a:n<=1099511627776):(Go.Lib.decDigits n).length<=20:=Yr (o1 (Go.Lib.decDigits_length n)) (Go.Lib.nDigits_le20 _ om)
theorem Qh(l:List Lu)(a:Lu)(p:Va)(k:Nat)(u:0<l.length)(E:l.length<=1000000)(D:(Go.Lib.join l a).length<=1000000)(N:La)(i:Aa B w I N)(n:N[k]?=some (Ao 9 1 p l.length (l.map S))):Calls prog 381 #[p,S a] w (AY λv w'=>v=S (Go.Lib.join l a)/\Aa B w' I N):=by
 obtain⟨b,cap,r,rfl,q,z,A,C,d⟩:=i.AF n u;have g:k<N.length:=(Y1.1 n).1;have m:w.heap[b]?=some (Xd (l.map S++r) 9):=d.block (k:=k) (by simp[g,Ad]);have h:(l.map λx=>(⟨x.toArray⟩:ByteArray)).map (·.data.toList)=l:=by
  rw[iU];exact List.map_id' l
 have c:=strings_Join b 0 cap (l.map λx=>(⟨x.toArray⟩:ByteArray)) ⟨a.toArray⟩ w (λj x hx=>by
  rw[Yu]at hx;obtain⟨y,o,rfl⟩:=Gf.1 hx;have s:(l.map S++r)[0+j]?=some (S y):=by
   rw[Yl,Yf (by rw[Ym];exact(Y1.1 o).1),Yu,o];rfl
  exact Xx m s) (Ij.1 m).1 (by rw[Ym];omega) (by rw[Ym];exact q) (by rw[h];show(Go.Lib.join l a).length<=_;omega)
 rw[h,Ym]at c;refine c.mono λe w' t=>?_
 obtain⟨rfl,f⟩:=t;exact⟨_,O,O,i.grown f⟩
structure Ck where
 name:Lu
 value:Lu
 path:Lu
 cw:Int
 ZI:Bool
 E0:Bool
abbrev q4(c:Ck):Lv:=[S c.name,S c.value,S c.path,Ab c.cw,.bool c.ZI,.bool c.E0]
def qf(c:Ck):Bool:=((((fY c.name&&List.all c.value Hj)&&Go.Lib.hasPrefix c.path [47])&&List.all c.path Hj)&&decide (-1<=c.cw))&&decide (c.cw<=99999999)
def Uw:Lu:=[77,97,120,45,65,103,101,61]
def jD:Lu:=[83,101,99,117,114,101]
def Uq:Lu:=[72,116,116,112,79,110,108,121]
def UB:Lu:=[80,97,116,104,61]
def qB(c:Ck):List Lu:=[(c.name++[61])++c.value,UB++c.path]
def bJ(c:Ck):List Lu:=if 0<=c.cw then qB c++[Uw++Go.Lib.decDigits c.cw.toNat]else qB c
def bK(c:Ck):List Lu:=if c.ZI then bJ c++[jD]else bJ c
def TO(c:Ck):List Lu:=if c.E0 then bK c++[Uq]else bK c
def S9(c:Ck):Lu×Nat:=if qf c then(Go.Lib.join (TO c) [59,32],0)else([],1)
theorem Xsi(c:Ck)(d:c.name.length<=100000)(e:c.value.length<=100000)(f:c.path.length<=100000)(N:La)(b:Aa B w I N):
  Ce B I N 380 [.agg (q4 c).toArray] w (.bool (qf c)):=by
 refine gH 4 ?_;intro b1 w b;refine gE 0 (Xf8 _ om) ?_;intro w b;refine gH 3 (.AA (T:=λw=>Aa B w I _) O O O func222 O (λa=>(X4 (.gd a O) X3)) O (λa=>xG c.value om _ b) b ?_);clear b;rintro w b;refine gH 4 (.AA (T:=λw=>Aa B w I _) O O O Jc O (λa=>(X4 (.gd a O) (AM O X3))) O (λa=>xK c.path [47] om de _ b) b ?_);clear b;rintro w b;refine gH 4 (.AA (T:=λw=>Aa B w I _) O O O func222 O (λa=>(X4 (.gd a O) X3)) O (λa=>xG c.path om _ b) b ?_);clear b;rintro w b;exact gG 12 ⟨O,b.s⟩
theorem Xgp{c:Ck}(h:qf c=true):c.cw<=99999999:=by
 unfold qf at h;simp only[Yb,decide_eq_true_eq]at h
 exact h.2
theorem s9(c:Ck):(0<(TO c).length/\(TO c).length<=5)/\(bJ c).length<=5/\(bK c).length<=5:=by
 unfold TO bK bJ qB
 repeat' split
 all_goals simp
theorem join_le(a:Lu)(n:Nat):∀l:List Lu,(∀x∈l,x.length<=n)->(Go.Lib.join l a).length<=l.length*(n+a.length)
 | [],_=>Y5 _
 | [x],h=>by have:=h x sz;simp[Go.Lib.join];omega
 | x::y::l,h=>by
  have c:=h x sz;have d:=join_le a n (y::l) (λz b=>h z (by simp[b]));have e:(Go.Lib.join (x::y::l) a).length=x.length+(a.length+(Go.Lib.join (y::l) a).length):=by simp[Go.Lib.join]
  rw[e,Y4,Gh];omega
theorem ML(c:Ck)(g:c.name.length<=10000)(i:c.value.length<=10000)(j:c.path.length<=10000)(e:c.cw<=99999999):∀x∈TO c,x.length<=30000:=by
 have f:=jM c.cw.toNat om;have a:∀x∈qB c,x.length<=30000:=λx hx=>by
  unfold qB at hx;simp only[Ys,GJ,or_false]at hx
  rcases hx with rfl|rfl<;>simp only[UB,Y0,Y4,Yi]<;>omega
 have b:∀x∈bJ c,x.length<=30000:=λx hx=>by
  unfold bJ at hx;split at hx
  ·rcases Yt.1 hx with h|h
   ·exact a x h
   ·simp only[Ys,GJ,or_false]at h
    subst h;simp only[Uw,Y0,Y4,Yi];omega
  ·exact a x hx
 have d:∀x∈bK c,x.length<=30000:=λx hx=>by
  unfold bK at hx;split at hx
  ·rcases Yt.1 hx with h|h
   ·exact b x h
   ·simp only[Ys,GJ,or_false]at h
    subst h;decide
  ·exact b x hx
 intro x hx;unfold TO at hx;split at hx
 ·rcases Yt.1 hx with h|h
  ·exact d x h
  ·simp only[Ys,GJ,or_false]at h
   subst h;decide
 ·exact d x hx
theorem Xj2(c:Ck)(b:c.name.length<=10000)(d:c.value.length<=10000)(e:c.path.length<=10000)(a:c.cw<=99999999):(Go.Lib.join (TO c) [59,32]).length<=1000000:=by
 have f:=join_le [59,32] 30000 (TO c) (ML c b d e a);have g:=s9 c;simp only[Y4,Yi]at f
 omega
theorem Rt(c:Ck)(L:c.name.length<=10000)(M:c.value.length<=10000)(P:c.path.length<=10000)(G:Kz I)(N:La)(a:Aa B w I N):
  Ce B I N 321 [.agg (q4 c).toArray] w (.tuple #[S (S9 c).1,Ab ((S9 c).2:Nat)]):=by
 refine gH 4 ?_;intro b1 w a;refine gE 0 (Xsi c om om om) ?_;intro w a;refine gM 1 ?_ ?_<;>intro h H
 ·exact gG 2 ⟨by unfold S9;rw[Y3 (su h)];first|done|rfl,a.s⟩
 refine gG 0 ?_;have j:qf c=true:=su h
 have p:=(Xgp j)
 have J:=jM c.cw.toNat om;refine gH 10 ?_;intro y w a;replace a:=a.BB (k:=0) (size:=1) (n:=2) O O (by unfold maxLen;omega);try dsimp only[List.set]at a
 refine gH 1 (.nil (.ck [1] (σ:=Va) (λb _m=>(4,b)::_m) (λb w=>Aa B w I (Ao 9 1 b (bJ c).length ((bJ c).map S)::Ad b1 (q4 c) 433::N)) ?_ ?_))
 ·refine gN 3 ?_ ?_<;>intro i
  ·refine gE 3 (Xnj _ om om G) ?_;intro w a;refine gG 4 ?_;intro z t D l w a;have d:bJ c=_:=Y7 (by exact i);refine Eo _ O ?_;rw[d];rw[Yn,Y0];exact(a.x [1,1])
  refine gG 0 ?_;have d:bJ c=_:=Y3 om;refine Eo _ O ?_;rw[d];exact(a.x [1,1])
 rintro b w a;refine .ck [1] (σ:=Va) (λb _m=>(4,b)::_m) (λb w=>Aa B w I (Ao 9 1 b (bK c).length ((bK c).map S)::Ad b1 (q4 c) 433::N)) ?_ ?_
 ·refine gM 2 ?_ ?_<;>intro e q
  ·have g:=s9 c;refine gG 4 ?_;intro A u E m w a;have d:bK c=_:=Y7 (by exact e);refine Eo _ O ?_;rw[d];rw[Yn,Y0];exact(a.x [1,1])
  refine gG 0 ?_;have d:bK c=_:=Y3 (nB e);refine Eo _ O ?_;rw[d];exact(a.x [1,1])
 rintro b w a;refine .ck [1] (σ:=Va) (λb _m=>(4,b)::_m) (λb w=>Aa B w I (Ao 9 1 b (TO c).length ((TO c).map S)::Ad b1 (q4 c) 433::N)) ?_ ?_
 ·refine gM 2 ?_ ?_<;>intro f r
  ·have g:=s9 c;refine gG 4 ?_;intro C v F o w a;have d:TO c=_:=Y7 (by exact f);refine Eo _ O ?_;rw[d];rw[Yn,Y0];exact(a.x [1,1])
  refine gG 0 ?_;have d:TO c=_:=Y3 (nB f);refine Eo _ O ?_;rw[d];exact(a.x [1,1])
 rintro b w a;refine gG 0 ?_;have g:=s9 c;have K:=Xj2 c om om om p;refine gC 1 (Qh _ [59,32] b 0 g.1.1 om om _ a O) ?_;rintro _ w ⟨rfl,a⟩;exact gG 2 ⟨by unfold S9;rw[Y7 j];first|done|rfl,a.s⟩
theorem Tb(a:Oa)(m s:Nat):sliced a 0 ((m:Nat):Int).toNat ((m:Nat):Int).toNat s=.slice a m m:=by
 unfold sliced;cases a<;>simp[Addr.add]
theorem Xda{r:Da}(h:bL r=true):TJ r.status≠[]/\r.Ai.length<=32/\r.body.length<=8192:=by
 unfold bL uS at h;simp only[Yb,iN,G3,decide_eq_false_iff_not,beq_eq_false_iff_ne,ne_eq]at h
 exact⟨h.1.1.1,om,om⟩
theorem P5{r:Da}(h:r.status.toNat<=1000):(KJ r).length<=60:=by
 have a:=xr r.status;have b:=jM r.status.toNat om;unfold KJ H11 CR;simp only[Y0,Y4,Yi];omega
theorem sO{r:Da}(c:∀h∈r.Ai,h.1.length<=1000000/\h.2.length<=1000000)(d:r.body.length<=8192):∀h∈Ia r,h.1.length<=1000000/\h.2.length<=1000000:=λh b=>by
 rcases Yt.1 b with a|a
 ·exact c h a
 ·simp only[Ys,GJ,or_false]at a
  subst a
  have:=jM r.body.length om
  exact⟨by show pb.length<=_;decide,by show(Go.Lib.decDigits r.body.length).length<=_;omega⟩
theorem Xu0(r:Da):X2 X8 r.Ai++[S pb,S (Go.Lib.decDigits r.body.length)]=X2 X8 (Ia r):=by
 unfold Ia;rw[gJ];rfl
theorem s7(r:Da):(Ia r).length=r.Ai.length+1:=by unfold Ia;simp
theorem MS(r:Da)(k:Oa)(l:Nat)(C:Kz I)(T:r.Ai.length<=l)(A:RS I k 2 r.Ai.length (X2 X8 r.Ai))(m:∀h∈r.Ai,h.1.length<=1000000/\h.2.length<=1000000)(N:La)(a:Aa B w I N):
  Ce B I N 125 [.agg #[Ab r.status,.slice k r.Ai.length l,S r.body]] w (.tuple #[S (oj r).1,Ab ((oj r).2:Nat)]):=by
 refine gH 4 ?_;intro b1 w a;refine gE 0 (v7 r k l A m) ?_;intro w a;refine gM 1 ?_ ?_<;>intro c L
 ·exact gG 2 ⟨by unfold oj;rw[Y3 (su c)];first|done|rfl,a.s⟩
 refine gG 0 ?_;have g:bL r=true:=su c
 obtain⟨v,R,b⟩:=Xda g;obtain⟨Y,F,Q⟩:=Xq2 v;have U:=xr r.status;have P:=jM r.status.toNat om;have M:=jM r.body.length om;have V:=P5 (r:=r) om;refine gD [0] [] [0,1,5,6,2,3,4,7,8,9,10] ?_;intro w a;refine gE 4 (Xnj _ om om C) ?_;intro w a;refine gE 2 (wy _) ?_;intro w a;refine gG 3 (gD [0] [] [0,1,2,3,4,5,6,7,8,9,10,11,17,12,13,14,15,16] ?_);intro w a;refine gH 8 (AN.j 8 (λw=>Ex.as (Ex.r4 (.of O) (.of O) (.of O) om om om Ov JN) (Tb _ _ _)) (gE 4 (sV _ om C.kx) ?_));intro w a;refine gH 2 ?_;intro J w a;refine gH 0 (AN.e (.dK (bytes:=32) a (.of O) (.of O) A Ov Mk O O O O O O ⟨om,by unfold maxLen;omega⟩ O ?_));intro y w a;replace a:Aa B w I (Ao 99 2 y (Ia r).length (X2 X8 (Ia r))::Ad b1 [Ab r.status,.slice k r.Ai.length l,S r.body] 166::N):=by rw[<-Xu0,s7];exact a
 obtain⟨H,K,rfl,D,_⟩:=a.vS 0;refine gG 1 ?_;have p:=a.fV 0;clear a;obtain⟨G,n,o,a⟩:=p;refine .lk [1,35,36] (σ:=Nat) (λi _m=>(4,S (((Ia r).take i).foldl kC (KJ r)))::(37,Ab (i:Nat))::_m) (λi w=>i<=(Ia r).length/\Aa B w G (Ad b1 [Ab r.status,.slice k r.Ai.length l,S r.body] 166::N)) (λi=>(Ia r).length-i) 0 ⟨Y5 _,a⟩ ?_;rintro i w ⟨hi,a⟩;refine gN 1 ?_ ?_<;>intro E
 ·obtain⟨x,hx⟩:∃x,(Ia r)[i]?=some x:=⟨_,Y2 om⟩
  have X:=sO m b x (Y8 hx);obtain⟨q,rfl,W⟩:=Bv (cells:=X8) (λ_=>rfl) o hx;have d:=tF 2000000 ((Ia r).take i) (KJ r) (λh t=>by have:=sO m b h (kO t);omega);have u:=s7 r;rw[Yj]at d;have f:min i (Ia r).length*(2000000+4)<=33*2000004:=T3 _ om;refine gG 14 ?_;intro Z w a;refine gG 2 (⟨i+1,⟨?_,O,O,O,O,trivial⟩,⟨om,(a.z [1] 1 1)⟩,om⟩);rw[Yv,hx,DO,K9];rfl
 have d:=tF 2000000 (Ia r) (KJ r) (λh t=>by have:=sO m b h t;omega);have u:=s7 r;have f:(Ia r).length*(2000000+4)<=33*2000004:=T3 _ om;rw[Yk (show(Ia r).length<=i by omega)];exact gG 7 ⟨by unfold oj;rw[Y7 g];first|done|rfl,a.s.weaken n⟩
theorem Xjg(b:Lu)(cs:List Lu)(m:Oa)(y:Nat)(D:cs.length<=1000)(C:RS I m 1 cs.length (cs.map S))(N:La)(a:Aa B w I N):
  Cz 229 [S b,.slice m cs.length y] w λv w'=>LN I (Od b cs) B N v w':=by
 refine gH 4 ?_;intro t p w a;replace a:=a.BB (k:=0) (E:=99) (size:=2) (n:=1) O O (by unfold maxLen;omega);refine gH 6 ?_;intro u w a;refine gG 0 ?_;have c:=(((a.pick 2 O).pick 2 O).pick 2 O);clear a;refine .lk [4,5,12,13] (σ:=Nat×Va) (λ(i,e) _m=>(14,Ab (i:Nat))::_m) (λ(i,e) w=>i<=cs.length/\Aa B w I (Ad u [Ab 302,e,S []] 166::Ao 99 2 e ((Od b (cs.take i)).Ai).length (X2 X8 ((Od b (cs.take i)).Ai))::Ad t [Ab 0,.slice none 0 0,S []] 166::N)) (λ(i,e)=>cs.length-i) (0,_) ⟨Y5 _,c⟩ ?_;rintro⟨i,e⟩ w ⟨hi,a⟩;clear c;refine gN 1 ?_ ?_<;>intro o
 ·refine gG 0 ?_;obtain⟨x,hx⟩:∃x,cs[i]?=some x:=⟨_,Y2 om⟩
  obtain⟨q,rfl,G⟩:=Bv (cells:=tC) (s:=1) (λ_=>rfl) (by rw[uT];exact C) hx;have F:((Od b (cs.take i)).Ai).length=i+1:=by unfold Od;simp;omega
  refine gH 13 ?_;intro r g h f w a;refine gG 0 (rd (i+1,.slice g ((Od b (cs.take i)).Ai.length+1) h) ⟨om,?_⟩);have z:(Od b (cs.take (i+1))).Ai=(Od b (cs.take i)).Ai++[(QD,x)]:=by unfold Od;rw[Yv,hx];simp
  rw[z,gJ,Y0];exact(a.x [2,2,2])
 refine gG 0 ?_;obtain⟨H,K,rfl,d,_⟩:=a.vS 1;rw[Yk (show cs.length<=i by omega)]at a d;refine gH 2 ?_;intro w a;refine gG 0 ?_;have l:=(((a.pick 1 O).drop (k:=1) O).drop (k:=1) O)
 obtain⟨J,A,j,a⟩:=l.fV 0;exact⟨J,H,K,O,A,d,j,a⟩
structure oF(x:Sx):Prop where
 user:x.user.length<=100
 B4:x.B4.length<=100
 attrs:x.attrs.length<=64/\∀a∈x.attrs,a.1.length<=100/\a.2.length<=100
 Zj:x.Ax.length<=64/\∀p∈x.Ax,p.length<=200
def VV(a:Pr):Nd:=D8 (Ph++a.1) a.2 []
abbrev qY(a:Pr):Lv:=[S (Ph++a.1),.slice none 0 0,S a.2,.slice none 0 0]
def Zn(p:Lu):Nd:=D8 Pj p []
abbrev rS(p:Lu):Lv:=[S Pj,.slice none 0 0,S p,.slice none 0 0]
def KH(x:Sx):List Nd:=[D8 qA x.user []]
def FG(x:Sx)(attrs:Bool):List Nd:=if(attrs&&decide (0<((x.attrs.length:Nat):Int)))=true then KH x++[G4 p8 (x.attrs.map VV)]else KH x
def FH(x:Sx)(attrs:Bool):List Nd:=if x.B4≠[]then FG x attrs++[D8 iv x.B4 []]else FG x attrs
def FI(x:Sx)(attrs:Bool):List Nd:=if 0<((x.Ax.length:Nat):Int)then FH x attrs++[G4 pL (x.Ax.map Zn)]else FH x attrs
def iD(x:Sx)(attrs:Bool):Nd:=.mk Cc [] [] (FI x attrs)
theorem uA(x:Sx)(attrs:Bool):(FG x attrs).length<=2/\(FH x attrs).length<=3/\(FI x attrs).length<=4:=by
 have c:(KH x).length=1:=rfl;have a:(FG x attrs).length<=2:=by unfold FG;split<;>(try simp only[Y0,Y4,Yi])<;>omega
 have b:(FH x attrs).length<=3:=by unfold FH;split<;>(try simp only[Y0,Y4,Yi])<;>omega
 refine⟨a,b,?_⟩;unfold FI;split<;>(try simp only[Y0,Y4,Yi])<;>omega
theorem uU{a:Lu}(d:Nat)(b:nm.length<=10000)(c:a.length<=10000):CC (d+1) I [S nm,.slice none 0 0,S a,.slice none 0 0] (D8 nm a []) :=
 FD (d:=d) (l:=[]) b c (Y5 _) sz (Y9 _) (RS.nil _ _) (HO _ _)
theorem xQ{d ck:Nat}{ks:List Nd}(a:nm.length<=10000)(h:Cv d I ka ck ks):CC (d+1) I [S nm,.slice none 0 0,S [],.slice ka ks.length ck] (G4 nm ks) :=
 FD (d:=d) (l:=[]) a (Y5 _) (Y5 _) sz (Y9 _) (RS.nil _ _) h
theorem Xwf{d ck:Nat}{l:List α}(cs:α->Lv)(nd:α->Nd)(e:l.length<=10000)(c:l.length<=ck)(g:∀x,(cs x).length=4)(b:RS I ka 4 l.length (X2 cs l))(a:∀x∈l,CC d I (cs x) (nd x)):Cv d I ka ck (l.map nd):=by
 have:=cU (d:=d) (I:=I) (ka:=ka) (ck:=ck) (l.map λx=>(cs x,nd x)) (by rw[Ym];exact e) (by rw[Ym];exact c) (by rw[Ym,iU];exact b) (λp f=>by
  obtain⟨x,hx,rfl⟩:=Dj.1 f;exact a x hx)
 rwa[iU]at this
theorem SS(x:Sx)(y:oF x)(attrs:Bool)(xs:Lv)(hX:F5 I x xs)(N:La)(b:Aa B w I N):
  Cz 347 [.agg xs.toArray,.bool attrs] w λv w'=>∃J ka kc n,v=.agg #[S Cc,.slice none 0 0,S [],.slice ka n kc]/\Le I J/\CC 7 J [S Cc,.slice none 0 0,S [],.slice ka n kc] (iD x attrs)/\Aa B w' J N:=by
 obtain⟨R,T,pa,Q,rfl,bh,ap,bi,ar⟩:=hX;have be:=y.attrs.1;have bf:=y.Zj.1;refine gG 0 (.G7 (cs:=[S x.user,.slice R x.attrs.length T,.slice pa x.Ax.length Q,S x.B4]) b (.of O) O ?_);intro U w b;refine gH 1 ?_;intro V w b;refine gG 0 (gH 1 (gE 1 (cM _ _ _ _ _) ?_));intro w b;refine gH 1 ?_;intro G w b;obtain⟨l,hl⟩:∃l:List (Lv×Nd),l=[([S qA,.slice none 0 0,S x.user,.slice none 0 0],D8 qA x.user [])]:=⟨_,O⟩
 replace b:=b.BB (k:=0) (E:=371) (size:=4) (n:=1) O O (by unfold maxLen;omega);try dsimp only[List.set]at b
 have e:∀p∈l,CC 6 I p.1 p.2:=by
  intro p c;rw[hl]at c;simp only[Ys,GJ,or_false]at c
  subst c;exact uU 5 de (oh y.user)
 have j:l.map (·.2)=KH x:=by rw[hl];rfl
 have L:l.length=1:=by rw[hl];rfl
 replace b:Aa B w I (Ao 371 4 (.slice (some (ad G 0)) 1 1) (l).length ((l).map (·.1)).flatten::Ad V [S [],.slice none 0 0,S [],.slice none 0 0] 371::Ad U [S x.user,.slice R x.attrs.length T,.slice pa x.Ax.length Q,S x.B4] 345::N):=by rw[hl];exact b
 refine gE 0 (gy _ _ _ _) ?_;intro w b;refine gH 1 ?_;intro X w b;refine gH 1 ?_;intro w b;refine .nil (.ck [2,4,5] (σ:=Im×Va×List (Lv×Nd)) (λ(J,f,l) _m=>_m) (λ(J,f,l) w=>Le I J/\(∀p∈l,CC 6 J p.1 p.2)/\l.map (·.2)=FG x attrs/\l.length<=4/\Aa B w J (Ad X [S Cc,.slice none 0 0,S [],f] 371::Ao 371 4 f (l).length ((l).map (·.1)).flatten::Ad U [S x.user,.slice R x.attrs.length T,.slice pa x.Ax.length Q,S x.B4] 345::Ad V [S [],.slice none 0 0,S [],.slice none 0 0] 371::N)) ?_ ?_)
 ·refine gH 1 (gH 1 (gH 1 (gH 1 (gH 1 (gH 1 ?_)))));refine gM 1 ?_ ?_<;>intro C a0
  ·refine gG 1 (gH 1 (gH 1 (gH 1 ?_)));have t:=(((((b.pick 2 O).pick 3 O).pick 3 O).pick 3 O)).Al 371 4;clear b;refine gG 1 (.lk [2,4,5,25,26] (σ:=Nat×Va) (λ(i,u) _m=>(27,Ab (i:Nat))::(6,u)::_m) (λ(i,u) w=>i<=x.attrs.length/\Aa B w I (Ao 371 4 u (x.attrs.take i).length (X2 qY (x.attrs.take i))::Ad X [S Cc,.slice none 0 0,S [],(.slice (some (ad G 0)) 1 1)] 371::Ao 371 4 (.slice (some (ad G 0)) 1 1) (l).length ((l).map (·.1)).flatten::Ad U [S x.user,.slice R x.attrs.length T,.slice pa x.Ax.length Q,S x.B4] 345::Ad V [S [],.slice none 0 0,S [],.slice none 0 0] 371::N)) (λ(i,u)=>x.attrs.length-i) (0,.slice none 0 0) ⟨Y5 _,t⟩ ?_);rintro⟨i,u⟩ w ⟨hi,b⟩;clear t;refine gN 1 ?_ ?_<;>intro a1
   ·refine gG 0 ?_;obtain⟨a,m⟩:∃a,x.attrs[i]?=some a:=⟨_,Y2 om⟩
    have au:=y.attrs.2 a (Y8 m);obtain⟨q,rfl,P⟩:=Bv (cells:=X8) (s:=2) (λ_=>rfl) ap m;refine gH 1 (.val (.D7 (us:=[S a.1,S a.2]) (.of O) b P F3 JN O (λ_ _ h=>h)) O (gH 1 ?_));intro b8 w b;refine gH 1 ?_;intro w b;refine gG 0 ?_;have ax:(x.attrs.take i).length=i:=by rw[Yj];omega
    refine gH 1 (gH 1 (gH 1 (gH 1 (gH 1 (gE 1 (cM _ a.2 _ _ _) ?_)))));intro w b;refine gH 1 ?_;intro a7 w b;refine gH 1 ?_;intro a5 bc ab w b;refine gG 1 (gH 1 (gG 1 (Br (i+1,_) O ⟨od,?_⟩)))
    (try dsimp only)
    rw[Yv,m,DO,gJ,Y0];exact(b.z [5,5,5,5,5] 5 1)
   refine gG 0 ?_;rw[Yk (show x.attrs.length<=i by omega)]at b;obtain⟨na,nc,rfl,M,_⟩:=b.vS 0;have K:=b.fV 0;clear b;obtain⟨W,r,H,b⟩:=K;try dsimp only[List.eraseIdx]at b
   have g:CC 6 W _ (G4 p8 (x.attrs.map VV)):=xQ de (Xwf qY VV om M (λ_=>rfl) H (λa m=>uU 4 (by have:=(y.attrs.2 a m).1;simp only[Ph,Y0,Y4,Yi];omega) (oh ((y.attrs.2 a m).2))));rw[Ym]at g;refine gD [0] [7] [0,1,2,3,4,5,6,7] ?_;intro w b;refine gH 1 (gH 1 (gE 1 (gy _ _ _ _) ?_));intro w b;refine gH 1 ?_;intro a8 w b;refine gH 1 ?_;intro aj am ac w b;refine gH 1 (gH 1 ?_);intro w b;refine gG 0 ?_;have o:FG x attrs=KH x++[G4 p8 (x.attrs.map VV)]:=Y7 (by exact C);refine cd (W,.slice aj (l.length+1) am,l++[([S p8,.slice none 0 0,S [],.slice na x.attrs.length nc],G4 p8 (x.attrs.map VV))]) ⟨r,?_,?_,?_,?_⟩
   ·intro p c;rcases Yt.1 c with c|c
    ·exact(e p c).mono r
    ·simp only[Ys,GJ,or_false]at c
     subst c;exact g
   ·rw[Yn,j,o];rfl
   ·have:=Ye List.length j
    rw[Ym]at this
    have:=uA x attrs
    simp only[Y0,Y4,Yi];omega
   ·(try dsimp only)
    rw[Y0,Yn,T5];exact(b.x [3,3,3,3])
  refine gG 0 ?_;have o:FG x attrs=KH x:=Y3 (nB C);exact Eo (I,_,l) O ⟨Le.refl _,e,by rw[o];exact j,om,(b.x [2,3,3,3])⟩
 rintro⟨J,f,l⟩ w ⟨A,e,j,L,b⟩;refine .ck [2,4,5] (σ:=Im×Va×List (Lv×Nd)) (λ(J,f,l) _m=>_m) (λ(J,f,l) w=>Le I J/\(∀p∈l,CC 6 J p.1 p.2)/\l.map (·.2)=FH x attrs/\l.length<=4/\Aa B w J (Ad X [S Cc,.slice none 0 0,S [],f] 371::Ao 371 4 f (l).length ((l).map (·.1)).flatten::Ad U [S x.user,.slice R x.attrs.length T,.slice pa x.Ax.length Q,S x.B4] 345::Ad V [S [],.slice none 0 0,S [],.slice none 0 0] 371::N)) ?_ ?_
 ·refine gH 1 (gH 1 ?_);refine gM 1 ?_ ?_<;>intro D a2
  ·refine gD [0,1] [8] [0,1,2,3,4,5,6,7,8] ?_;intro w b;refine gH 1 (gH 1 (gH 1 (gE 1 (cM _ _ _ _ _) ?_)));intro w b;refine gH 1 ?_;intro a9 w b;refine gH 1 ?_;intro ak an ae w b;refine gH 1 (gH 1 ?_);intro w b;refine gG 0 ?_;have g:CC 6 J [S iv,.slice none 0 0,S x.B4,.slice none 0 0] (D8 iv x.B4 []):=uU 5 de (oh y.B4);have o:FH x attrs=FG x attrs++[D8 iv x.B4 []]:=Y7 (su D);refine cd (J,.slice ak (l.length+1) an,l++[([S iv,.slice none 0 0,S x.B4,.slice none 0 0],D8 iv x.B4 [])]) ⟨A,?_,?_,?_,?_⟩
   ·intro p c;rcases Yt.1 c with c|c
    ·exact(e p c).mono (Le.refl _)
    ·simp only[Ys,GJ,or_false]at c
     subst c;exact g
   ·rw[Yn,j,o];rfl
   ·have:=Ye List.length j
    rw[Ym]at this
    have:=uA x attrs
    simp only[Y0,Y4,Yi];omega
   ·(try dsimp only)
    rw[Y0,Yn,T5];exact(b.x [3,3,3,3])
  refine gG 0 ?_;have o:FH x attrs=FG x attrs:=Y3 (su D);exact Eo (J,_,l) O ⟨A,e,by rw[o];exact j,om,(b.x [3,3,3,3])⟩
 rintro⟨J,f,l⟩ w ⟨A,e,j,L,b⟩;refine .ck [2,4,5] (σ:=Im×Va×List (Lv×Nd)) (λ(J,f,l) _m=>_m) (λ(J,f,l) w=>Le I J/\(∀p∈l,CC 6 J p.1 p.2)/\l.map (·.2)=FI x attrs/\l.length<=4/\Aa B w J (Ad X [S Cc,.slice none 0 0,S [],f] 371::Ao 371 4 f (l).length ((l).map (·.1)).flatten::Ad U [S x.user,.slice R x.attrs.length T,.slice pa x.Ax.length Q,S x.B4] 345::Ad V [S [],.slice none 0 0,S [],.slice none 0 0] 371::N)) ?_ ?_
 ·refine gH 1 (gH 1 (gH 1 ?_));refine gN 1 ?_ ?_<;>intro F
  ·refine gG 1 (gH 1 (gH 1 (gH 1 ?_)));have t:=(((((b.pick 3 O).pick 3 O).pick 3 O).pick 3 O)).Al 371 4;clear b;refine gG 1 (.lk [2,4,5,64,65] (σ:=Nat×Va) (λ(i,u) _m=>(66,Ab (i:Nat))::(9,u)::_m) (λ(i,u) w=>i<=x.Ax.length/\Aa B w J (Ao 371 4 u (x.Ax.take i).length (X2 rS (x.Ax.take i))::Ad X [S Cc,.slice none 0 0,S [],f] 371::Ao 371 4 f (l).length ((l).map (·.1)).flatten::Ad U [S x.user,.slice R x.attrs.length T,.slice pa x.Ax.length Q,S x.B4] 345::Ad V [S [],.slice none 0 0,S [],.slice none 0 0] 371::N)) (λ(i,u)=>x.Ax.length-i) (0,.slice none 0 0) ⟨Y5 _,t⟩ ?_);rintro⟨i,u⟩ w ⟨hi,b⟩;clear t;refine gN 1 ?_ ?_<;>intro a3
   ·refine gG 0 ?_;obtain⟨a,m⟩:∃a,x.Ax[i]?=some a:=⟨_,Y2 om⟩
    have au:=y.Zj.2 a (Y8 m);obtain⟨q,rfl,P⟩:=Bv (cells:=tC) (s:=1) (λ_=>rfl) (by rw[uT];exact ar.mono A) m;refine gH 1 (.val (.BG (.of O) b P Bq O) O ?_);have ax:(x.Ax.take i).length=i:=by rw[Yj];omega
    refine gG 1 (gH 1 (gE 1 (cM _ a _ _ _) ?_));intro w b;refine gH 1 ?_;intro ba w b;refine gH 1 ?_;intro a6 bd af w b;refine gG 1 (gH 1 (gG 1 (Br (i+1,_) O ⟨od,?_⟩)))
    (try dsimp only)
    rw[Yv,m,DO,gJ,Y0];exact(b.x [4,4,4,4,4])
   refine gG 0 ?_;rw[Yk (show x.Ax.length<=i by omega)]at b;obtain⟨na,nc,rfl,M,_⟩:=b.vS 0;have K:=b.fV 0;clear b;obtain⟨W,r,H,b⟩:=K;try dsimp only[List.eraseIdx]at b
   have g:CC 6 W _ (G4 pL (x.Ax.map Zn)):=xQ de (Xwf rS Zn om M (λ_=>rfl) H (λa m=>uU 4 de (oh (y.Zj.2 a m))));rw[Ym]at g;refine gD [0] [7] [0,1,2,3,4,5,6,7] ?_;intro w b;refine gH 1 (gH 1 (gE 1 (gy _ _ _ _) ?_));intro w b;refine gH 1 ?_;intro bb w b;refine gH 1 ?_;intro al ao ag w b;refine gH 1 (gH 1 ?_);intro w b;refine gG 0 ?_;have o:FI x attrs=FH x attrs++[G4 pL (x.Ax.map Zn)]:=Y7 (oh F);refine cd (W,.slice al (l.length+1) ao,l++[([S pL,.slice none 0 0,S [],.slice na x.Ax.length nc],G4 pL (x.Ax.map Zn))]) ⟨A.trans r,?_,?_,?_,?_⟩
   ·intro p c;rcases Yt.1 c with c|c
    ·exact(e p c).mono r
    ·simp only[Ys,GJ,or_false]at c
     subst c;exact g
   ·rw[Yn,j,o];rfl
   ·have:=Ye List.length j
    rw[Ym]at this
    have:=uA x attrs
    simp only[Y0,Y4,Yi];omega
   ·(try dsimp only)
    rw[Y0,Yn,T5];exact(b.x [3,3,3,3])
  refine gG 0 ?_;have o:FI x attrs=FH x attrs:=Y3 (oh F);exact Eo (J,_,l) O ⟨A,e,by rw[o];exact j,om,(b.x [3,3,3,3])⟩
 rintro⟨J,f,l⟩ w ⟨A,e,j,L,b⟩;obtain⟨ka,kc,rfl,av,_⟩:=b.vS 1;refine gH 1 (gH 1 ?_);intro w b;refine gG 0 ?_;obtain⟨J9,Y,aq,b⟩:=b.fV 1;try dsimp only[List.eraseIdx]at b
 have Z:=cU (d:=6) l om av aq (λp c=>(e p c).mono Y);rw[j]at Z;have aw:l.length=(FI x attrs).length:=by rw[<-j,Ym]
 have aa:=xQ (nm:=Cc) de Z;rw[<-aw]at aa;exact⟨J9,ka,kc,l.length,O,A.trans Y,aa,b.s⟩
def QL(x:Sx)(e:Nat)(attrs:Bool):Da:=if e≠0 then JW (n5 uL uN (iu e))else JW (iD x attrs)
theorem Nn{α:Type}(f:α->Nat)(n:Nat):∀l:List α,(∀x∈l,f x<=n)->(l.map f).sum<=l.length*n
 | [],_=>Y5 _
 | x::l,h=>by
  have b:=h x sz;have c:=Nn f n l (λy a=>h y (by simp[a]));rw[Yw,VF,Y4,Gh];omega
theorem mK{x:Sx}(c:oF x)(attrs:Bool):D1 8 (.mk Vs [(TN,TM)] [] [iD x attrs])<=1000000:=by
 have b1:=c.user;have v:=c.B4;have e:∀nm g:Lu,nm.length<=200->g.length<=200->∀d,D1 (d+1) (D8 nm g [])<=3000:=λnm g q i d=>by
  simp only[D1,D8,Nd.name,Nd.attrs,Nd.text,Nd.kids,EK,vp];omega
 have h:∀(nm:Lu) (ks:List Nd),nm.length<=200->ks.length<=64->(∀k∈ks,D1 5 k<=3000)->D1 6 (G4 nm ks)<=200000:=λnm ks q i r=>by
  have s:=Nn (D1 5) 3000 ks r;have w:ks.length*3000<=64*3000:=T3 _ i;simp only[D1,G4,Nd.name,Nd.attrs,Nd.text,Nd.kids,EK,vp,Yi]at s ⊢;omega
 have j:∀k∈KH x,D1 6 k<=200000:=λk b=>by
  simp only[KH,Ys,GJ,or_false]at b
  subst b
  have:D1 6 (D8 qA x.user [])<=3000:=e qA x.user de om 5
  omega
 have l:∀k∈FG x attrs,D1 6 k<=200000:=λk b=>by
  unfold FG at b;split at b
  ·rcases Yt.1 b with b|b
   ·exact j k b
   ·simp only[Ys,GJ,or_false]at b
    subst b;refine h _ _ de (by rw[Ym];exact c.attrs.1) (λk b=>?_);obtain⟨a,f,rfl⟩:=Dj.1 b
    have:=c.attrs.2 a f
    exact e _ _ (by simp only[Ph,Y0,Y4,Yi];omega) om 4
  ·exact j k b
 have m:∀k∈FH x attrs,D1 6 k<=200000:=λk b=>by
  unfold FH at b;split at b
  ·rcases Yt.1 b with b|b
   ·exact l k b
   ·simp only[Ys,GJ,or_false]at b
    subst b
    have:D1 6 (D8 iv x.B4 [])<=3000:=e iv x.B4 de om 5
    omega
  ·exact l k b
 have u:∀k∈FI x attrs,D1 6 k<=200000:=λk b=>by
  unfold FI at b;split at b
  ·rcases Yt.1 b with b|b
   ·exact m k b
   ·simp only[Ys,GJ,or_false]at b
    subst b;refine h _ _ de (by rw[Ym];exact c.Zj.1) (λk b=>?_);obtain⟨a,f,rfl⟩:=Dj.1 b
    have:=c.Zj.2 a f
    exact e _ _ de om 4
  ·exact m k b
 have y:=Nn (D1 6) 200000 (FI x attrs) u;have t:=(uA x attrs).2.2;have z:(FI x attrs).length*200000<=4*200000:=T3 _ t;have n:D1 8 (.mk Vs [(TN,TM)] [] [iD x attrs])=2*19+5+(9+6*26+4)+6*0+D1 7 (iD x attrs):=by
  simp[D1,Nd.name,Nd.attrs,Nd.text,Nd.kids,Vs,TN,TM]
 have o:D1 7 (iD x attrs)=2*Cc.length+5+0+6*0+((FI x attrs).map (D1 6)).sum:=by
  simp[D1,iD,Nd.name,Nd.attrs,Nd.text,Nd.kids]
 have p:Cc.length=25:=rfl;rw[n,o,p];omega
theorem F5.len{x:Sx}(h:F5 I x xs):xs.length=4:=by
 obtain⟨ka,a,pa,b,rfl,_⟩:=h;rfl
theorem sG(x:Sx)(e:Nat)(p:e=0->oF x)(attrs:Bool)(xs:Lv)(r:Kz I)(q:F5 I x xs)(N:La)(b:Aa B w I N):
  Cz 262 [.agg xs.toArray,Ab (e:Nat),.bool attrs] w λv w'=>LN I (QL x e attrs) B N v w':=by
 refine gG 4 ?_;intro y z w b;refine gN 0 ?_ ?_<;>intro c
 ·refine gE 1 (Xuo e) ?_;intro w b;refine gF 0 (Xq0 _ _ _) ?_;rintro _ w ⟨t,A,rfl,a,l,b⟩;refine gF 0 (tK _ _ _ _ _ _ _ _ _ (r.mono a) (WH de de (oh (tT e)) l) (by have:=tT e;simp[D1,n5,D8,Nd.name,Nd.attrs,Nd.text,Nd.kids,Vs,TN,TM,kA,uL,Mn,uN,XK];omega)) ?_;rintro _ w ⟨h,n,o,rfl,d,g,f,b⟩;refine gH 1 ?_;intro w b;refine gG 0 ?_;have i:QL x e attrs=JW (n5 uL uN (iu e)):=Y7 (oh c);rw[i];exact⟨h,n,o,O,a.trans d,g,f,b.s⟩
 refine gG 0 ?_;refine .val (.D6 (.of O) b (k:=1) O isAgg345 sizeOf345 (F5.len q) (λj v u=>by rw[Yl];exact u)) O ?_;refine gF 1 (SS x (p (oh c)) _ xs q) ?_;rintro _ w ⟨t,ka,C,D,rfl,a,m,b⟩;refine gF 0 (tK _ _ _ _ _ _ _ _ _ (r.mono a) m (mK (p (oh c)) attrs)) ?_;rintro _ w ⟨h,n,o,rfl,d,g,f,b⟩;refine gH 1 ?_;intro w b;refine gG 0 ?_;have i:QL x e attrs=JW (iD x attrs):=Y3 (oh c);rw[i];exact⟨h,n,o,O,a.trans d,g,f,b.s⟩
structure jm where
 url:Lu
 fu:Lu
 B4:Lu
deriving DecidableEq
abbrev dW(k:jm):Lv:=[S k.url,S k.fu,S k.B4]
def c0:jm:=⟨[],[],[]⟩
def Zk(lo:List Sv)(Z:Wd)(t:Lu):Sv×Lu×Nat:=Xk lo (getD Z.l t).service
def HW(lo:List Sv)(Z:Wd)(t a:Lu):Lu×Bool:=c6 lo (Zk lo Z t).1.id a
def Sn(Z:Wd)(t:Lu):Bool:=((getD Z.l t).kind !=2&&(getD Z.l t).kind !=3)||(getD Z.l t).A4==0
def rK(lo:List Sv)(Z:Wd)(t a:Lu):Bool:=((((Zk lo Z t).2.2:Nat):Int)!=0||!(Zk lo Z t).1.Co)||!(HW lo Z t a).2
def CP(lo:List Sv)(Z:Wd)(t a:Lu):Ah:=⟨4,[],t,(getD Z.l t).user,(getD Z.l t).service,(HW lo Z t a).1,0,0,0,false⟩
def Oy(a:Lu):Ah:=⟨5,[],a,[],[],[],0,0,0,false⟩
def Xg(lo:List Sv)(Z:Wd)(t a:Lu):(jm×Nat)×Wd :=
 if Sn Z t=true then((c0,30),Z)
 else if rK lo Z t a=true then((c0,34),Z)
 else if(AB Z (CP lo Z t a)).1.2≠0 then((c0,(AB Z (CP lo Z t a)).1.2),(AB Z (CP lo Z t a)).2)
 else if(AB (AB Z (CP lo Z t a)).2 (Oy (AB Z (CP lo Z t a)).1.1)).1.2≠0 then((c0,(AB (AB Z (CP lo Z t a)).2 (Oy (AB Z (CP lo Z t a)).1.1)).1.2),F7 (AB (AB Z (CP lo Z t a)).2 (Oy (AB Z (CP lo Z t a)).1.1)).2 (AB Z (CP lo Z t a)).1.1)
 else((⟨(HW lo Z t a).1,(AB Z (CP lo Z t a)).1.1,(AB (AB Z (CP lo Z t a)).2 (Oy (AB Z (CP lo Z t a)).1.1)).1.1⟩,0),(AB (AB Z (CP lo Z t a)).2 (Oy (AB Z (CP lo Z t a)).1.1)).2)
theorem Xv5{lo:List Sv}{Z:Wd}(h:A9 Z)(t a:Lu):A9 (Xg lo Z t a).2:=by
 unfold Xg;split
 ·exact h
 ·split
  ·exact h
  ·split
   ·exact Hu h _
   ·split
    ·exact cN (Hu (Hu h _) _) _
    ·exact Hu (Hu h _) _
def N_(Z:Wd)(a:Lu)(n:Int):(Lu×Nat)×Wd :=
 if((getD Z.l a).kind !=5)=true then(([],30),Z)
 else if(n !=200)=true then(([],34),F7 Z (getD Z.l a).parent)
 else((a,0),F7 Z a)
theorem Xz2{Z:Wd}(h:A9 Z)(a:Lu)(n:Int):A9 (N_ Z a n).2:=by
 unfold N_;split
 ·exact h
 ·split<;>exact cN h _
def Oj(r:Ah):Bool:=r.kind==5
def JM(l:List Ah):List Lu:=(l.filter Oj).map Ah.name
def PH(l:List Ah)(a:Lu):Bool:=(kids l a).any λk=>(getD l k).kind==5
def FT(lo:List Sv)(ps:Nat->Int)(Z:Wd)(b a:Lu):Ah:=⟨3,[],b,(Xr ps Z b 4).1.user,(Xk lo a).2.1,[],0,0,0,false⟩
def Gy(lo:List Sv)(ps:Nat->Int)(Z:Wd)(b a:Lu):((Lu×Lu)×Nat)×Wd :=
 if(b==[]||a==[])=true then((([],[]),33),Z)
 else if(!(Xr ps Z b 4).2||PH Z.l b)=true then((([],[]),30),Z)
 else if((((Xk lo a).2.2:Nat):Int)!=0)=true then((([],[]),36),Z)
 else if(AB Z (FT lo ps Z b a)).1.2≠0 then((([],[]),(AB Z (FT lo ps Z b a)).1.2),(AB Z (FT lo ps Z b a)).2)
 else((((AB Z (FT lo ps Z b a)).1.1,(Xk lo a).2.1),0),Oz (AB Z (FT lo ps Z b a)).2 (QS (Xr ps Z b 4).1 (AB Z (FT lo ps Z b a)).2.now))
theorem R9{lo:List Sv}{Z:Wd}(h:A9 Z)(b a:Lu):A9 (Gy lo ps Z b a).2:=by
 unfold Gy;split
 ·exact h
 ·split
  ·exact h
  ·split
   ·exact h
   ·split
    ·exact Hu h _
    ·exact uw (Hu h _) _
theorem Sk{Z:Wd}{r:Ah}:(AB Z r).1.1.length<=23:=by
 unfold AB;have h:=xn (pr:=λs=>(get Z.l s).isSome) (kind:=r.kind) (D:=Z.D);split
 ·exact Y5 _
 ·(try dsimp only)
  split
  ·exact Y5 _
  ·exact h
theorem Xud{l:List Ah}(b:Wf l)(name:Lu):(getD l name).service.length<=100:=by
 rcases s4 b name with⟨_,e⟩|⟨_,a,_⟩
 ·rw[e];decide
 ·unfold Dh at a;simp only[Yb,decide_eq_true_eq]at a
  show(getD l name).service.length<=100
  omega
theorem cA(d:Int)(s:Lu)(h:s.length<=1000000)(p:Wp)(b:BU I p)(N:La)(g:Aa B w I N):
  Ce B I N 383 [.pointer (some p.pr),Ab d,S s] w (.tuple #[S (c6 p.lo d s).1,.bool (c6 p.lo d s).2]):=by
 obtain⟨a,c,E,e,i,f⟩:=b.vD;exact Xns p.pr p.lo b.lo b.rel d s h a c E b.known e f N g
theorem Xya(b:Lu)(n:Int)(p:Wp)(Z:Wd)(t:A9 Z)(C:BU I p)(N:La)(d:Aa B w I (AV p Z::N)):
  Ce B I (AV p (N_ Z b n).2::N) 261 [ptr p.wb 0,S b,Ab n] w (.tuple #[S (N_ Z b n).1.1,Ab ((N_ Z b n).1.2:Nat)]):=by
 refine gG 2 ?_;obtain⟨a,c,r,s,d⟩:=EJ d;have x:=t.len;have h:=t.wf;refine gE 5 (Fx p.tb Z.room a c Z.l om b) ?_;intro w d;refine gG 10 ?_;intro A w d;refine gM 0 ?_ ?_<;>intro e u
 ·refine gG 2 ?_;have g:N_ Z b n=(([],30),Z):=by rw[N_,Y7 e]
  rw[g];exact⟨O,Aa.box (T:=Bl p Z) (a,c,r,s) ((((((d.drop (k:=0) O).pick 4 O).pick 4 O).pick 3 O).pick 3 O).pick 4 O)⟩
 refine gM 3 ?_ ?_<;>intro f v
 ·refine gG 0 (gD [0,2] [] [0,1,2,3,4,5,6] ?_);intro w d;refine gF 6 (gR p.tb Z.room a c Z.l om h _) ?_;rintro _ w ⟨J,y,z,rfl,m,q,o,i,j,d⟩;replace d:=d.weaken m;refine gG 2 ?_;have g:N_ Z b n=(([],34),F7 Z (getD Z.l b).parent):=by rw[N_,Y3 (nB e),Y7 f]
  rw[g];exact⟨O,Aa.box (T:=Bl p _) (i,j,r,s) ((((((d.drop (k:=2) O).pick 4 O).pick 4 O).pick 3 O).pick 3 O).pick 4 O)⟩
 refine gF 5 (gR p.tb Z.room a c Z.l om h b) ?_;rintro _ w ⟨J,y,z,rfl,m,q,o,i,j,d⟩;replace d:=d.weaken m;refine gG 3 ?_;have g:N_ Z b n=((b,0),F7 Z b):=by rw[N_,Y3 (nB e),Y3 (nB f)]
 rw[g];exact⟨O,Aa.box (T:=Bl p (F7 Z b)) (i,j,r,s) ((((((d.drop (k:=2) O).pick 4 O).pick 4 O).pick 3 O).pick 3 O).pick 4 O)⟩
theorem Xje(bad:Int)(d:Lu)(i h f:Nat)(u:FrameMode)(p:Wp)(Z:Wd)(k:A9 Z)(N:La)(b:Aa B w I (Ad i [Ab bad] 35::Ad h [ptr p.wb 0] 87::Ad f [S d] 9::AV p Z::N)):
  CallsD prog 384 #[ptr i 0,ptr h 0,ptr f 0] u w (λe A w'=>A=u/\AY (λv w'=>Aa B w' I (Ad i [Ab bad] 35::Ad h [ptr p.wb 0] 87::Ad f [S d] 9::AV p (if bad=0 then Z else F7 Z d)::N)) e w'):=by
 refine ln func384 O ntmps384 O ?_;dsimp only[QV,Nat.reduceAdd]
 refine gM 2 ?_ ?_<;>intro g s
 ·replace b:=b.px [3];obtain⟨a,c,y,z,b⟩:=EJ b;have m:=k.len;have j:=k.wf;refine gD [6,6,0] [] [0,1,2,3,4,5] ?_;intro w b;refine gF 5 (gR _ Z.room a c Z.l om j d) ?_;rintro _ w ⟨J,C,D,rfl,q,t,r,n,o,b⟩;replace b:=b.weaken q;refine gH 0 (WA results384 ?_);replace b:=Aa.box (T:=Bl p (F7 Z d)) (n,o,y,z) (b.px [4,4,3,3,4]);refine⟨_,O,?_⟩;rw[Y3 (su g)];exact(b.x [3,3,3])
 refine .skip (WA results384 (⟨_,O,?_⟩));rw[Y7 (su g)];exact b
theorem Xpw(b:Lu)(p:Wp)(Z:Wd)(A:A9 Z)(N:La)(e:Aa B w I (AV p Z::N)):
  Ce B I (AV p Z::N) 324 [ptr p.wb 0,S b] w (.bool (PH Z.l b)):=by
 refine gG 1 ?_;obtain⟨a,c,j,m,e⟩:=EJ e;have u:=A.len;refine gF 5 (xM _ Z.room a c Z.l om b) ?_;rintro _ w ⟨J,ka,G,rfl,r,C,n,e⟩;have E:=yM Z.l b;refine gG 2 ?_;replace e:=(((((e.pick 4 O).pick 4 O).pick 3 O).pick 3 O).pick 4 O)
 refine .lk [0,1,4,14,15] (σ:=Nat) (λi _m=>(16,Ab (i:Nat))::_m) (λi w=>i<=(kids Z.l b).length/\((kids Z.l b).take i).any (λk=>(getD Z.l k).kind==5)=false/\Aa B w J (Ad p.wb (Cr p Z) 115::Bc p.tb Z.room a c Z.l (Ad p.mb [.slice j Z.D.length m] 225::CA 41 (.slice j Z.D.length m) (Z.D.map λd=>Ba (d:Nat))::N))) (λi=>(kids Z.l b).length-i) 0 ⟨Y5 _,O,e⟩ ?_;rintro i w ⟨hi,h,e⟩;refine gN 1 ?_ ?_<;>intro s
 ·obtain⟨k,g⟩:∃k,(kids Z.l b)[i]?=some k:=⟨_,Y2 om⟩
  obtain⟨H,rfl,x⟩:=n.2 om;have q:((kids Z.l b).map S)[i]?=some (S k):=by rw[Yu,g];rfl
  refine gH 1 ?_;refine .val (.ld1 (.of O) (by have v:=JH e x q;simpa using v) Bq) O ?_;refine gE 6 (Fx p.tb Z.room a c Z.l om k) ?_;intro w e;refine gG 9 ?_;intro F w e;refine gM 0 ?_ ?_<;>intro f t
  ·refine gG 1 ?_;have y:PH Z.l b=true:=vg.2 ⟨k,Y8 g,f⟩;rw[y];exact⟨O,Aa.box (T:=Bl p Z) (a,c,j,m) (Aa.weaken (e.z [5,5,4,4,5] 5 1) r)⟩
  refine gG 2 (rd (i+1) ⟨om,?_,(e.z [5,5,4,4,5] 5 1)⟩);rw[Yv,g,DO,List.any_append,h,zK,List.any_nil,show((getD Z.l k).kind==5)=false from f];rfl
 refine gG 1 ?_;have o:i=(kids Z.l b).length:=om
 rw[o,GK]at h;rw[show PH Z.l b=false from h];exact⟨O,Aa.box (T:=Bl p Z) (a,c,j,m) (e.weaken r)⟩
theorem Xrp(p:Wp)(Z:Wd)(M:A9 Z)(N:La)(b:Aa B w I (AV p Z::N)):
  Cz 155 [ptr p.wb 0] w λv w'=>∃J ka j,v=.slice ka (JM Z.l).length j/\Le I J/\(JM Z.l).length<=j/\RS J ka 1 (JM Z.l).length ((JM Z.l).map S)/\Aa B w' J (AV p Z::N):=by
 refine gG 2 ?_;obtain⟨a,c,y,A,b⟩:=EJ b;have F:=M.len;refine gF 4 (Xf1 _ Z.room a c Z.l om) ?_;rintro _ w ⟨J,U,V,rfl,L,Q,q,b⟩;refine gG 2 ?_;replace b:=(((((b.pick 4 O).pick 4 O).pick 3 O).pick 3 O).pick 4 O).Al 9 1;refine .lk [0,10,11] (σ:=Nat×Va) (λ(i,f) _m=>(3,f)::(12,Ab (i:Nat))::_m) (λ(i,f) w=>i<=Z.l.length/\Aa B w J (Ao 9 1 f (((Z.l.take i).filter Oj).map Ah.name).length ((((Z.l.take i).filter Oj).map Ah.name).map S)::Ad p.wb (Cr p Z) 115::Bc p.tb Z.room a c Z.l (Ad p.mb [.slice y Z.D.length A] 225::CA 41 (.slice y Z.D.length A) (Z.D.map λd=>Ba (d:Nat))::N))) (λ(i,f)=>Z.l.length-i) (0,.slice none 0 0) ⟨Y5 _,b⟩ ?_;rintro⟨i,f⟩ w ⟨hi,b⟩;refine gN 1 ?_ ?_<;>intro C
 ·obtain⟨r,G⟩:∃r,Z.l[i]?=some r:=⟨_,Y2 om⟩
  obtain⟨W,x,hx⟩:=jj (cells:=X5) (λ_=>rfl) q G;subst x;have s:=EV Oj (Z.l.take i);rw[Yj]at s;have P:(((Z.l.take i).filter Oj).map Ah.name).length=((Z.l.take i).filter Oj).length:=Ym _;have g:((Z.l.take (i+1)).filter Oj).map Ah.name=((Z.l.take i).filter Oj).map Ah.name++([r].filter Oj).map Ah.name:=by rw[Yv,G,DO,VB,Yn]
  refine gG 7 ?_;intro R w b;refine gM 0 ?_ ?_<;>intro e E
  ·refine gG 8 ?_;intro K k m h w b;refine rd (i+1,.slice k ((((Z.l.take i).filter Oj).map Ah.name).length+1) m) ⟨om,?_⟩;rw[g,JQ,Y7 (by simpa[Oj]using e),iS,Yw,EK,Yn,show(((Z.l.take i).filter Oj).map Ah.name++[r.name]).length=(((Z.l.take i).filter Oj).map Ah.name).length+1 from Y0];exact(b.z [6,6,6,6,6,6] 6 1)
  refine gG 2 (rd (i+1,f) ⟨om,?_⟩);rw[g,JQ,Y3 (by simpa[Oj]using e),iS,EK,Yx];exact(b.z [6,6,6,6,6,6] 6 1)
 refine gG 2 ?_;have t:i=Z.l.length:=om
 subst t;rw[GK]at b;obtain⟨ka,j,rfl,u,_⟩:=b.vS 0;obtain⟨H,n,o,b⟩:=b.fV 0;exact⟨H,ka,j,O,L.trans n,u,o,Aa.box (T:=Bl p Z) (a,c,y,A) b⟩
theorem Qf(e b:Lu)(C:e.length<=1000000)(A:b.length<=1000000)(p:Wp)(Z:Wd)(r:A9 Z)(t:BU I p)(N:La)(f:Aa B w I (AV p Z::N)):
  Ce B I (AV p (Gy p.lo p.ps Z e b).2::N) 239 [ptr p.wb 0,S e,S b] w (.tuple #[S (Gy p.lo p.ps Z e b).1.1.1,S (Gy p.lo p.ps Z e b).1.1.2,Ab ((Gy p.lo p.ps Z e b).1.2:Nat)]):=by
 refine gM 9 ?_ ?_<;>intro g E
 ·refine gG 3 ?_;have j:Gy p.lo p.ps Z e b=((([],[]),33),Z):=by rw[Gy,Y7 g]
  rw[j];exact⟨O,f⟩
 refine gE 2 (jH e 4 p Z r) ?_;intro w f;refine gG 6 ?_;intro M w f;replace f:=f.px [1];refine gH 5 (.AA (T:=λw=>Aa B w I _) O O O func324 O (λn=>(X4 (.gd n O) (X4 (.gd n O) X3))) O (λn=>Xpw e p Z r _ f) f ?_);clear f;rintro w f;refine gM 1 ?_ ?_<;>intro h F
 ·refine gG 3 ?_;have j:Gy p.lo p.ps Z e b=((([],[]),30),Z):=by rw[Gy,Y3 (nB g),Y7 h]
  rw[j];exact⟨O,f.s⟩
 obtain⟨a,c,K,L,f⟩:=EJ f;refine gF 5 (Vb b A p t) ?_;rintro _ w ⟨P,Q,rfl,f⟩;refine gG 8 ?_;intro J w f;replace f:=Aa.box (T:=Bl p _) (a,c,K,L) (f.px [5,5,5,5,5]);refine gM 2 ?_ ?_<;>intro i G
 ·refine gG 3 ?_;have j:Gy p.lo p.ps Z e b=((([],[]),36),Z):=by rw[Gy,Y3 (nB g),Y3 (nB h),Y7 i]
  rw[j];exact⟨O,f.s⟩
 refine gE 6 (nE (FT p.lo p.ps Z e b) C p Z r t) ?_;intro w f;refine gM 7 ?_ ?_<;>intro m H
 ·refine gG 4 ?_;have j:Gy p.lo p.ps Z e b=((([],[]),(AB Z (FT p.lo p.ps Z e b)).1.2),(AB Z (FT p.lo p.ps Z e b)).2):=by rw[Gy,Y3 (nB g),Y3 (nB h),Y3 (nB i),Y7 (su m)]
  rw[j];exact⟨O,f.s⟩
 refine gG 0 ?_;obtain⟨⟨u,v,o,q⟩,f⟩:=Aa.unbox f;replace f:Aa B _ _ (Ad p.wb (Cr p (AB Z (FT p.lo p.ps Z e b)).2) 115::Bc p.tb (AB Z (FT p.lo p.ps Z e b)).2.room u v (AB Z (FT p.lo p.ps Z e b)).2.l (Ad p.mb [.slice o (AB Z (FT p.lo p.ps Z e b)).2.D.length q] 225::CA 41 (.slice o (AB Z (FT p.lo p.ps Z e b)).2.D.length q) ((AB Z (FT p.lo p.ps Z e b)).2.D.map λd=>Ba (d:Nat))::_)):=f;have x:=Hu r (FT p.lo p.ps Z e b);have z:=x.len;have k:=vV (ps:=p.ps) r e 4;refine gD [6,0] [] [0,1,2,3,4,5,6,7,8,9,10] ?_;intro w f;refine gE 9 (w2 _ _ k.2.2.1 k.2.2.2) ?_;intro w f;refine gE 0 (tR p.tb (AB Z (FT p.lo p.ps Z e b)).2.room u v (AB Z (FT p.lo p.ps Z e b)).2.l om (QS (Xr p.ps Z e 4).1 (AB Z (FT p.lo p.ps Z e b)).2.now) (Yr k.1 de) (Yr k.2.1 de) t.known t.pre) ?_;intro w f;refine gG 5 ?_;replace f:=Aa.box (T:=Bl p (Oz (AB Z (FT p.lo p.ps Z e b)).2 (QS (Xr p.ps Z e 4).1 (AB Z (FT p.lo p.ps Z e b)).2.now))) (u,v,o,q) (f.px [4,4,3,3,4]);have j:Gy p.lo p.ps Z e b=((((AB Z (FT p.lo p.ps Z e b)).1.1,(Xk p.lo b).2.1),0),Oz (AB Z (FT p.lo p.ps Z e b)).2 (QS (Xr p.ps Z e 4).1 (AB Z (FT p.lo p.ps Z e b)).2.now)):=by rw[Gy,Y3 (nB g),Y3 (nB h),Y3 (nB i),Y3 (su m)]
 rw[j];exact⟨O,(f.y 1 2)⟩
theorem xI(t d:Lu)(R:t.length<=1000000)(F:d.length<=1000000)(p:Wp)(Z:Wd)(n:A9 Z)(s:BU I p)(N:La)(b:Aa B w I (AV p Z::N)):
  Ce B I (AV p (Xg p.lo Z t d).2::N) 323 [ptr p.wb 0,S t,S d] w (.tuple #[.agg (dW (Xg p.lo Z t d).1.1).toArray,Ab ((Xg p.lo Z t d).1.2:Nat)]):=by
 refine lq func323 O ntmps323 O ?_;dsimp only[QV,Nat.reduceAdd]
 refine gH 3 ?_;intro C M D w b;replace b:=b.px [3];obtain⟨a,c,o,q,b⟩:=EJ b;have L:=n.len;have Q:=Xud n.wf t;refine gE 5 (Fx p.tb Z.room a c Z.l om t) ?_;intro w b;refine gH 14 ?_;intro P w b;refine gM 5 ?_ ?_<;>intro e G
 ·refine gH 3 ?_;intro w b;refine .nil (.ret ?_);replace b:=Aa.box (T:=Bl p Z) (a,c,o,q) (b.px [5,5,4,4,5]);have m:Xg p.lo Z t d=((c0,30),Z):=by rw[Xg,Y7 (show Sn Z t=true from e)]
  refine Zq O (qp oy b (k:=3) (j:=2) O O ox oA Qs O O O) ?_;rw[m];exact⟨_,O,O,(b.y 1 4)⟩
 refine .skip (.ck [1,2,3,6,7,8] (σ:=Nat×Oa×Nat) (λ(g,v,A) _m=>(10,ptr g 0)::(12,Ab (((Xk p.lo (getD Z.l t).service).2.2:Nat):Int))::_m) (λ(g,v,A) w=>Aa B w I (Ad g (g_ (Xk p.lo (getD Z.l t).service).1 v A) 62::Ad P (X5 (getD Z.l t)) 160::Ad D [Ab 0] 35::Ad M [S [],S [],S []] 275::Ad C [ptr p.wb 0] 87::AV p Z::N)) ?_ ?_)
 ·refine gD [0,7,2] [] [0,1,2,3,4,5] ?_;intro w b;refine gH 6 (gB 6 11 [7,8,9,10,11,12,13,14] [6,7,8,9,10,12,13,14] ?_ ?_)
  ·refine gF 0 (Vb (getD Z.l t).service om p s) ?_;rintro _ w ⟨v,A,rfl,b⟩;refine gH 5 ?_;intro g w b;refine gH 1 ?_;intro w b;refine gG 2 ?_;replace b:=Aa.box (T:=Bl p Z) (a,c,o,q) (b.px [6,6,5,5,6]);exact Eo (_,_,_) O (b.x [5,5,5,5,5])
  ·refine gH 1 ?_;intro g w b;refine gF 0 (Vb (getD Z.l t).service om p s) ?_;rintro _ w ⟨v,A,rfl,b⟩;refine gH 5 ?_;intro w b;refine gG 2 ?_;replace b:=Aa.box (T:=Bl p Z) (a,c,o,q) (b.px [6,6,5,5,6]);exact Eo (_,_,_) O (b.x [5,5,5,5,5])
 rintro⟨g,v,A⟩ w b;refine gG 0 ?_;replace b:=b.px [5];obtain⟨a,c,o,q,b⟩:=EJ b;refine gD [5,8,0] [] [0,1,2,3,4,5,6,7,8,9,10,11,12] ?_;intro w b;refine gE 7 (cA (Xk p.lo (getD Z.l t).service).1.id d F p s) ?_;intro w b;refine gH 14 ?_;refine gM 2 ?_ ?_<;>intro f H
 ·refine gH 3 ?_;intro w b;refine .nil (.ret ?_);replace b:=Aa.box (T:=Bl p Z) (a,c,o,q) (b.px [4,4,4,4,4]);have m:Xg p.lo Z t d=((c0,34),Z):=by rw[Xg,Y3 (nB (show Sn Z t=false from e)),Y7 (show rK p.lo Z t d=true from f)]
  refine Zq O (qp oy b (k:=4) (j:=3) O O ox oA Qs O O O) ?_;rw[m];exact⟨_,O,O,(b.y 1 5)⟩
 refine gG 0 ?_;replace b:=Aa.box (T:=Bl p _) (a,c,o,q) (b.px [4,4,4,4,4]);refine gE 8 (nE (CP p.lo Z t d) R p Z n s) ?_;intro w b;refine gG 8 ?_;intro r w b;refine gM 0 ?_ ?_<;>intro h J
 ·refine gH 4 ?_;intro w b;refine .nil (.ret ?_);have m:Xg p.lo Z t d=((c0,(AB Z (CP p.lo Z t d)).1.2),(AB Z (CP p.lo Z t d)).2):=by rw[Xg,Y3 (nB (show Sn Z t=false from e)),Y3 (nB (show rK p.lo Z t d=false from f)),Y7 (su h)]
  refine Zq O (qp oy b (k:=5) (j:=4) O O ox oA Qs O O O) ?_;rw[m];exact⟨_,O,O,(b.z [1] 1 6)⟩
 refine gH 1 (.later (.of O) O (gE 3 (nE (Oy (AB Z (CP p.lo Z t d)).1.1) (Yr Sk de) p (AB Z (CP p.lo Z t d)).2 (Hu n _) s) ?_));intro w b;refine gM 7 ?_ ?_<;>intro i K
 ·refine gH 4 ?_;intro w b;refine .nil (.ret ?_);have m:Xg p.lo Z t d=((c0,(AB (AB Z (CP p.lo Z t d)).2 (Oy (AB Z (CP p.lo Z t d)).1.1)).1.2),F7 (AB (AB Z (CP p.lo Z t d)).2 (Oy (AB Z (CP p.lo Z t d)).1.1)).2 (AB Z (CP p.lo Z t d)).1.1):=by rw[Xg,Y3 (nB (show Sn Z t=false from e)),Y3 (nB (show rK p.lo Z t d=false from f)),Y3 (su h),Y7 (su i)]
  refine rV func384 O O (λu=>Xje (((AB (AB Z (CP p.lo Z t d)).2 (Oy (AB Z (CP p.lo Z t d)).1.1)).1.2:Nat):Int) (AB Z (CP p.lo Z t d)).1.1 D C r u p (AB (AB Z (CP p.lo Z t d)).2 (Oy (AB Z (CP p.lo Z t d)).1.1)).2 (Hu (Hu n _) _) _ (b.x [1,6,5])) ?_;intro w b;rw[Y3 (su i)]at b;refine λa E=>⟨_,qp oy b (k:=6) (j:=0) O O ox oA Qs O O O a E,?_⟩
  rw[m];exact⟨_,O,O,(b.z [3] 1 6)⟩
 refine gH 6 ?_;intro w b;refine .nil (.ret ?_);have m:Xg p.lo Z t d=((⟨(HW p.lo Z t d).1,(AB Z (CP p.lo Z t d)).1.1,(AB (AB Z (CP p.lo Z t d)).2 (Oy (AB Z (CP p.lo Z t d)).1.1)).1.1⟩,0),(AB (AB Z (CP p.lo Z t d)).2 (Oy (AB Z (CP p.lo Z t d)).1.1)).2):=by rw[Xg,Y3 (nB (show Sn Z t=false from e)),Y3 (nB (show rK p.lo Z t d=false from f)),Y3 (su h),Y3 (su i)]
 refine rV func384 O O (λu=>Xje 0 (AB Z (CP p.lo Z t d)).1.1 D C r u p (AB (AB Z (CP p.lo Z t d)).2 (Oy (AB Z (CP p.lo Z t d)).1.1)).2 (Hu (Hu n _) _) _ (b.x [1,6,5])) ?_;intro w b;rw[Y7 O]at b;refine λa E=>⟨_,qp oy b (k:=6) (j:=0) O O ox oA Qs O O O a E,?_⟩
 rw[m];exact⟨_,O,O,(b.z [3] 1 6)⟩
open Go
structure Cg where
 lo:List Sv
 us:List Us
 ps:Nat->Int
 qc:Qc
structure BR where
 Z:Wd
 q:List Nt
 k:St
structure Bi where
 Z:Wd
 q:List Nt
 An:Da
 call:Lu
 DY:Bool
def fJ:Da:=⟨0,[],[]⟩
def Dx(s:BR):Bi:=⟨s.Z,s.q,fJ,[],false⟩
def Mp:Lu:=[114,101,110,101,119]
def Xwa:Lu:=[103,97,116,101,119,97,121]
def Kg:Lu:=[119,97,114,110]
def ru:Lu:=[116,114,117,101]
def Af:Lu:=[116,105,99,107,101,116]
def X7:Lu:=[112,103,116,85,114,108]
def eC:Lu:=[112,103,116]
def uh:Lu:=[116,97,114,103,101,116,83,101,114,118,105,99,101]
def dq:Lu:=[104,111,109,101]
def eA:Lu:=[98,121,101]
def Mm:Lu:=[108,111,103,105,110,32,116,105,99,107,101,116,32,105,115,32,110,111,116,32,103,111,111,100]
def Mq:Lu:=[110,97,109,101,32,111,114,32,112,97,115,115,119,111,114,100,32,105,115,32,119,114,111,110,103]
def X9(l:List Pq)(name:Lu):Lu:=(Gd name l).1
def jh(l:List Pq)(name:Lu):Bool:=X9 l name==ru
def Di(s:Bi):Bi:={ s with DY:=true,An:=Fy 503 }
def FC:Ah:=⟨6,[],[],[],[],[],0,0,0,false⟩
def F8(s:Bi)(n HC:Lu):Bi :=
 if(AB s.Z FC).1.2≠0 then Di { s with Z:=(AB s.Z FC).2 } else{ s with Z:=(AB s.Z FC).2,An:=ky (AB s.Z FC).1.1 n HC }
def oH(n st:Lu)(cs:List Lu):Da:=Od (Hi (Ow (pU n).1 Af st)) cs
def bV(v:Lu)(a:Int):Lu:=(S9 ⟨Hk,v,[47],a,true,true⟩).1
def bZ(r:Da)(c:Lu):Da:={ r with Ai:=r.Ai++[(QD,c)] }
def k7(l:List Pq)(ck:Lu):Ak:=⟨X9 l Xb,ck,decide (0<((Gd Xb l).2:Int)),jh l Mp,jh l Xwa,jh l Kg⟩
def D_(g:Cg)(l:List Pq)(ck:Lu)(s:Bi):Bi :=
 let n:=(Xk g.lo (X9 l Xb)).2.1
 let c:=H8 g.lo g.ps s.Z (k7 l ck)
 if c=6 then{ s with An:=Fy 403 } else
 if c=5 then{ s with An:=TZ dq (getD s.Z.l ck).user } else
 if c=1 then F8 s n []else
 if c=4 then{ s with An:=TZ Kg n } else
 if c=3 then{ s with An:=Od n [] } else
 if c=2 then
  let r:=DJ g.lo g.ps s.Z ck (X9 l Xb) false
  if r.1.2≠0 then Di { s with Z:=r.2 } else{ s with Z:=r.2,An:=oH r.1.1.2 r.1.1.1 [] }
 else s
def H6(g:Cg)(l:List Pq)(Az sv:Lu)(s:Bi):Bi :=
 if sv=[]then{ s with An:=bZ (TZ dq (X9 l Xp)) (bV Az (-1)) } else
 let r:=DJ g.lo g.ps s.Z Az sv true
 if r.1.2≠0 then Di { s with Z:=r.2 } else{ s with Z:=r.2,An:=oH r.1.1.2 r.1.1.1 [bV Az (-1)] }
def FM(g:Cg)(l:List Pq)(s:Bi):Bi :=
 let f:=Xk g.lo (X9 l Xb)
 if X9 l Xb≠[]/\f.2.2≠0 then{ s with An:=Fy 403 } else
 let r:=ER g.us g.ps s.Z (X9 l HF) (X9 l Xp) (X9 l Xv)
 let t:={ s with Z:=r.2 }
 if r.1.2=39 then Di t else if r.1.2=38 then F8 t f.2.1 Mm else if r.1.2=37 then F8 t f.2.1 Mq else H6 g l r.1.1 (X9 l Xb) t
def Hq(g:Cg)(ck:Lu)(s:Bi):Bi :=
 let r:=Fc s.q (Gc g.lo s.Z ck)
 let t:={ s with Z:=K4 s.Z ck,q:=r.1 }
 if r.2≠0 then Di t else{ t with An:=bZ (TZ eA []) (bV [] 0) }
def AU(l:List Pq)(a:Bool):Qr:=⟨X9 l Af,X9 l Xb,jh l Mp,a⟩
def uQ(g:Cg)(l:List Pq)(s:Bi):Bi :=
 { s with Z:=(Xl g.ps s.Z (AU l false)).2,An:=oe (KU g.lo g.us g.ps s.Z (AU l false)).user (((KT g.ps s.Z (AU l false):Nat):Int)==0) }
def Dv(g:Cg)(l:List Pq)(a attrs:Bool)(s:Bi):Bi :=
 let q:=AU l a
 let e:=KT g.ps s.Z q
 let Z:=(Xl g.ps s.Z q).2
 if e≠0\/X9 l X7=[]then{ s with Z:=Z,An:=QL (KU g.lo g.us g.ps s.Z q) e attrs } else
 let k:=Xg g.lo Z (X9 l Af) (X9 l X7)
 if k.1.2≠0 then{ s with Z:=k.2,An:=QL I7 k.1.2 attrs,DY:=((k.1.2:Nat):Int)==39 } else
 { s with Z:=if attrs then Oz k.2 { getD k.2.l k.1.1.B4 with A4:=1 } else k.2,call:=(bX k.1.1.url k.1.1.fu k.1.1.B4).1 }
def uK(g:Cg)(l:List Pq)(s:Bi):Bi :=
 let r:=Gy g.lo g.ps s.Z (X9 l eC) (X9 l uh)
 { s with Z:=r.2,An:=og r.1.1.1 r.1.2,DY:=((r.1.2:Nat):Int)==39 }
def BS:Lu:=[110,111,116,101,58]
def Vp(a b:List Nt):List Ch:=(a.filter λn=>decide (Kf b n.ticket<0)).map λn=>⟨BS++n.ticket,[],true⟩
def Sl(a b:List Nt):List Ch:=(b.filter λn=>!a.contains n).map λn=>⟨BS++n.ticket,(IV n).1,false⟩
def QI(a b:List Nt):List Ch:=Q4 (Vp a b++Sl a b)
def DU(s:BR)(t:Bi):Nat×BR :=
 if t.DY then(0,{ s with Z:={ s.Z with D:=t.Z.D } })else
 let c:=EB s.k (QU s.Z.l t.Z.l++QI s.q t.q)
 if c.1=0 then(0,⟨t.Z,t.q,c.2⟩)else(c.1,⟨{ s.Z with D:=t.Z.D },s.q,c.2⟩)
def Hr(r:Da):Lu:=(oj r).1
structure Vk(lo:List Sv)(us:List Us):Prop where
 rel:∀s∈lo,s.rel.length<=8
 iW:∀u∈us,u.attrs.length<=8/\∀a∈u.attrs,a.1.length<=100/\a.2.length<=100
structure Lp where
 tp:Nat
 qb:Nat
 p:Wp
 ra:Oa
 rc:Nat
 args:List Pq
 ck:Lu
abbrev BL(x:Lp)(s:Bi)(a:Oa)(b:Nat):X1:=Ad x.tp [ptr x.p.wb 0,ptr x.qb 0,.slice x.ra x.args.length x.rc,S x.ck,Ab s.An.status,.slice a s.An.Ai.length b,S s.An.body,S s.call,.bool s.DY] 183
structure BV(I:Im)(x:Lp):Prop where
 wp:BU I x.p
 kz:Kz I
 ra:RS I x.ra 2 x.args.length (X2 X8 x.args)
 al:x.args.length<=100
 each:∀a∈x.args,a.1.length<=5000/\a.2.length<=5000
 ck:x.ck.length<=5000
 fit:Vk x.p.lo x.p.us
theorem BV.mono{x:Lp}(h:BV I x)(a:Le I J):BV J x:=⟨h.wp.mono a,h.kz.mono a,h.ra.mono a,h.al,h.each,h.ck,h.fit⟩
def Gb(J:Im)(a:Oa)(b:Nat)(r:Da):Prop:=r.Ai.length<=b/\RS J a 2 r.Ai.length (X2 X8 r.Ai)
theorem Xvy(name:Lu)(n:Nat):∀(l:List Pq) (a:Lu×Nat),(∀h∈l,h.2.length<=n)->a.1.length<=n->(l.foldl (λa h=>if h.1=name then(if a.2=0 then h.2 else a.1,a.2+1)else a) a).1.length<=n
 | [],a,_,b=>b
 | h::l,a,c,b=>by
  rw[JS];refine Xvy name n l _ (λy d=>c y (by simp[d])) ?_;split
  ·dsimp only
   split
   ·exact c h sz
   ·exact b
  ·exact b
theorem bA{l:List Pq}(h:∀a∈l,a.1.length<=5000/\a.2.length<=5000)(name:Lu):(X9 l name).length<=5000:=Xvy name 5000 l ([],0) (λa b=>(h a b).2) (Y5 _)
theorem tA(lo:List Sv)(s:Lu):(Xk lo s).2.1.length<=100:=by
 unfold Xk;split
 ·exact Y5 _
 ·split
  ·exact Y5 _
  ·split
   ·exact Y5 _
   ·dsimp only;omega
theorem JG(x:Lp)(s:Bi)(c:Oa)(d:Nat)(name:Lu)(b:BV I x)(N:La)(a:Aa B w I (BL x s c d::N)):
  Ce B I (BL x s c d::N) 224 [ptr x.tp 0,S name] w (S (X9 x.args name)):=by
 refine gE 6 (wX _ _ _ _ b.al b.ra) ?_;intro w a;exact gG 7 ⟨O,a⟩
theorem QM(x:Lp)(s:Bi)(a:Oa)(b:Nat)(name:Lu)(d:BV I x)(N:La)(c:Aa B w I (BL x s a b::N)):
  Ce B I (BL x s a b::N) 225 [ptr x.tp 0,S name] w (.bool (jh x.args name)):=by
 refine gE 3 (JG x s a b _ d) ?_;intro w c;exact gG 2 ⟨O,c⟩
theorem nD(x:Lp)(s:Bi)(a:Oa)(b:Nat)(i:BV I x)(N:La)(d:Aa B w I (BL x s a b::N)):
  Cz 80 [ptr x.tp 0] w λv w'=>v=.tuple #[]/\∃J a b,Le I J/\Gb J a b (Di s).An/\Aa B w' J (BL x (Di s) a b::N):=by
 refine gF 2 (nr 503) ?_;rintro _ w ⟨J,g,h,rfl,f,e,c,d⟩;refine gG 6 ?_;intro w d;exact⟨O,J,g,h,f,⟨e,c⟩,d⟩
theorem Xgx(x:Lp)(s:Bi)(e:Oa)(f:Nat)(d:BV I x)(N:La)(b:Aa B w I (BL x s e f::AV x.p s.Z::N)):
  Ce B I (BL x s e f::AV x.p s.Z::N) 223 [ptr x.tp 0] w (.tuple #[S (Xk x.p.lo (X9 x.args Xb)).2.1,Ab (((Xk x.p.lo (X9 x.args Xb)).2.2:Nat):Int)]):=by
 refine gG 2 ?_;replace b:=b.px [1];obtain⟨a,c,g,h,b⟩:=EJ b;refine gD [5,0] [] [0,1,2,3,4,5,6,7] ?_;intro w b;refine gH 8 (gB 8 14 [] [8,9,10,11,12,13,15,16,17] ?_ ?_)
 ·refine gE 0 (JG x s e f Xb d) ?_;intro w b;refine gH 0 (gB 9 14 [10,11,12,13,14,15,16,17] [9,10,11,12,13,15,16,17] ?_ ?_)
  ·refine gF 0 (Vb (X9 x.args Xb) (oh (bA d.each Xb)) x.p d.wp) ?_;rintro _ w ⟨j,k,rfl,b⟩;refine gH 5 ?_;intro i w b;refine gH 1 ?_;intro w b;refine gG 6 ?_;replace b:=Aa.box (T:=Bl x.p _) (a,c,g,h) (b.px [6,6,6,6,6]);exact⟨O,(b.z [2] 2 1)⟩
  ·refine gH 1 ?_;intro i w b;refine gF 0 (Vb _ (oh (bA d.each Xb)) x.p d.wp) ?_;rintro _ w ⟨j,k,rfl,b⟩;refine gH 5 ?_;intro w b;refine gG 6 ?_;replace b:=Aa.box (T:=Bl x.p _) (a,c,g,h) (b.px [6,6,6,6,6]);exact⟨O,(b.z [2] 2 1)⟩
 ·refine gH 1 ?_;intro i w b;refine gE 0 (JG x s e f _ d) ?_;intro w b;refine gF 0 (Vb (X9 x.args Xb) (oh (bA d.each Xb)) x.p d.wp) ?_;rintro _ w ⟨j,k,rfl,b⟩;refine gH 5 ?_;intro w b;refine gG 6 ?_;replace b:=Aa.box (T:=Bl x.p s.Z) (a,c,g,h) (b.px [6,6,6,6,6]);exact⟨O,(b.z [1] 2 1)⟩
theorem Xxm(b:Lu)(a:Int)(e:b.length<=5000)(d:Kz I)(N:La)(c:Aa B w I N):
  Ce B I N 235 [S b,Ab a] w (S (bV b a)):=by
 refine gE 4 (Rt ⟨Hk,b,[47],a,true,true⟩ (show Hk.length<=10000 by decide) (show b.length<=10000 by omega) (show([47]:Lu).length<=10000 by decide) d) ?_;intro w c;exact gG 7 ⟨O,c⟩
theorem Xrg(a:Oa)(c:Nat)(l:List Pr)(n:l.length<=100000)(e:RS I a 2 l.length (X2 X8 l))(N:La)(b:Aa B w I N):
  Cz 101 [.slice a l.length c] w λv w'=>∃f,v=f/\Aa B w' I (Ao 99 2 f (l).length (X2 X8 (l))::N):=by
 refine gH 2 (.val (Ex.Fp (.of O) (.of O) Ov) O ?_);refine gM 0 ?_ ?_<;>intro d j
 ·refine gG 1 ?_;cases a with
  | some p=>simp at d
  | none =>
  have g:l=[]:=by
   cases l with
   | nil=>rfl
   | cons x l=>obtain⟨p,h,_⟩:=e.2 sz;cases h
  subst g;exact⟨_,O,b.Al 99 2⟩
 refine gH 2 ?_;intro m w b;replace b:=b.BB (k:=0) (size:=2) O O (Y5 _);refine .Bk (bytes:=32) b (.of O) (.of O) e (k:=0) O Ov (i:=t99) kr O O O O (Zg l) ⟨om,by unfold maxLen;omega⟩ O ?_;intro o w b;rw[Yl,CS]at b;exact gG 1 ⟨_,O,b⟩
theorem Xqd(r:Da)(h:Oa)(i:Nat)(c:Lu)(t:r.Ai.length<=1000)(o:RS I h 2 r.Ai.length (X2 X8 r.Ai))(N:La)(b:Aa B w I N):
  Cz 234 [.agg #[Ab r.status,.slice h r.Ai.length i,S r.body],S c] w λv w'=>LN I (bZ r c) B N v w':=by
 refine gH 4 ?_;intro q s w b;refine gF 0 (Xrg h i _ om o) ?_;rintro _ w ⟨u,rfl,b⟩;obtain⟨x,y,rfl,p,_⟩:=b.vS 0;refine gH 8 ?_;intro j d e a w b;refine gG 0 ?_;have g:=((b.drop (k:=1) O).drop (k:=1) O)
 obtain⟨J,n,f,b⟩:=g.fV 0;have l:(bZ r c).Ai.length=r.Ai.length+1:=by unfold bZ;simp
 have m:X2 X8 (bZ r c).Ai=X2 X8 r.Ai++[S QD,S c]:=by unfold bZ;rw[gJ];rfl
 refine ?_;unfold LN;rw[l,m];exact⟨J,d,e,O,n,a,f,b⟩
theorem Xz6(n st:Lu)(d:n.length<=100000)(e:st.length<=100000):QN (Ow (pU n).1 Af st):=by
 have b:=(YX n).1;have c:=pS (pU n).1.query Af st;have a:Af.length=6:=rfl;exact xA (p4 n) (by show(G5 (pU n).1.query Af st).length<=_;omega)
theorem Xq8(n st:Lu)(cs:List Lu)(b:Oa)(g:Nat)(p:n.length<=5000)(l:st.length<=5000)(e:cs.length<=1000)(d:Kz I)(k:RS I b 1 cs.length (cs.map S))(N:La)(a:Aa B w I N):
  Cz 231 [S n,S st,.slice b cs.length g] w λv w'=>LN I (oH n st cs) B N v w':=by
 refine gH 2 ?_;intro m w a;refine gE 0 (wU n om d.kn) ?_;intro w a;refine gH 8 ?_;intro o w a;refine gE 0 (yu _ (p4 n) _ st de om d.kn.iZ) ?_;intro w a;refine gE 0 (wo _ (Xz6 n st om om) d.kn) ?_;intro w a;refine gF 1 (Xjg _ cs b g e k) ?_;rintro _ w ⟨J,h,i,rfl,j,f,c,a⟩;refine gH 1 ?_;intro w a;exact gG 0 ⟨J,h,i,O,j,f,c,a.s⟩
theorem nW(Z:Wd)(r:Ah):(AB Z r).1.1.length<=23:=by
 unfold AB I6;split
 ·simp
 ·dsimp only
  split
  ·simp
  ·exact xn
theorem xw(x:Lp)(s:Bi)(d:Oa)(e:Nat)(n a:Lu)(t:n.length<=5000)(r:a.length<=5000)(q:A9 s.Z)(j:BV I x)(N:La)(c:Aa B w I (BL x s d e::AV x.p s.Z::N)):
  Cz 228 [ptr x.tp 0,S n,S a] w λv w'=>v=.tuple #[]/\∃J d e,Le I J/\Gb J d e (F8 s n a).An/\Aa B w' J (BL x (F8 s n a) d e::AV x.p (F8 s n a).Z::N):=by
 refine gE 4 (Xeq x.p s.Z q j.wp) ?_;intro w c;refine gN 7 ?_ ?_<;>intro b
 ·refine gF 1 (nD x ({ s with Z:=(AB s.Z FC).2 }:Bi) d e j) ?_;rintro _ w ⟨rfl,J,l,m,g,i,c⟩;refine gG 0 ?_;have f:F8 s n a=Di ({ s with Z:=(AB s.Z FC).2 }:Bi):=by unfold F8;rw[Y7 (by have o:(((AB s.Z FC).1.2:Nat):Int)≠0:=b;omega)]
  rw[f];exact⟨O,J,l,m,g,i,(c.x [1,1])⟩
 refine gF 4 (SR (AB s.Z FC).1.1 n a (oh (nW s.Z FC)) om om j.kz) ?_;rintro _ w ⟨J,l,m,rfl,g,k,h,c⟩;refine gG 3 ?_;intro w c;have f:F8 s n a={ s with Z:=(AB s.Z FC).2,An:=ky (AB s.Z FC).1.1 n a }:=by unfold F8;rw[Y3 (by have o:(((AB s.Z FC).1.2:Nat):Int)=0:=b;omega)]
 rw[f];exact⟨O,J,l,m,g,⟨k,h⟩,(c.x [1])⟩
def Xq(p:Wp)(a:Qc):Cg:=⟨p.lo,p.us,p.ps,a⟩
theorem Xp3{l:List Ah}(h:Wf l)(name:Lu):(getD l name).user.length<=32:=by
 rcases Tr.get_at l name with⟨_,a⟩|⟨j,r,_,b,_,a⟩
 ·unfold getD;rw[a];decide
 ·unfold getD;rw[a]
  have:=h.right r (Y8 b)
  unfold Dh at this;simp only[Yb,decide_eq_true_eq]at this
  show r.user.length<=32
  omega
theorem BH{lo:List Sv}{Z:Wd}{sv:Lu}{a:Bool}:(DJ lo ps Z Az sv a).1.1.1.length<=5000/\(DJ lo ps Z Az sv a).1.1.2.length<=5000:=by
 unfold DJ;split
 ·exact⟨Y5 _,Y5 _⟩
 ·split
  ·exact⟨Y5 _,Y5 _⟩
  ·split
   ·exact⟨Y5 _,Y5 _⟩
   ·split
    ·exact⟨Y5 _,Y5 _⟩
    ·exact⟨Yr (nW _ _) de,Yr (tA lo sv) de⟩
theorem Rr(lo:List Sv)(ps:Nat->Int)(Z:Wd)(q:Ak):1<=H8 lo ps Z q/\H8 lo ps Z q<=6:=by
 unfold H8
 repeat' split
 all_goals decide
theorem M6(C:Qc)(x:Lp)(s:Bi)(i:Oa)(j:Nat)(E:A9 s.Z)(e:BV I x)(N:La)(b:Aa B w I (BL x s i j::AV x.p s.Z::N)):
  Cz 137 [ptr x.tp 0] w λv w'=>v=.tuple #[]/\∃J i j,Le I J/\Gb J i j (D_ (Xq x.p C) x.args x.ck s).An/\Aa B w' J (BL x (D_ (Xq x.p C) x.args x.ck s) i j::AV x.p (D_ (Xq x.p C) x.args x.ck s).Z::N):=by
 refine gE 1 (Xgx x s i j e) ?_;intro w b;refine gE 9 (wX _ _ _ _ e.al e.ra) ?_;intro w b;refine gH 5 (.nil (.ck [0,2] (σ:=Nat) (λt _m=>(6,ptr t 0)::_m) (λt w=>Aa B w I (Ad t [S (X9 x.args Xb),S x.ck,.bool (decide (0<((Gd Xb x.args).2:Int))),.bool (jh x.args Mp),.bool (jh x.args Xwa),.bool (jh x.args Kg)] 333::BL x s i j::AV x.p s.Z::N)) ?_ ?_))
 ·refine gD [0] [] [0,2,3,4,5,6,7,8,10,12] ?_;intro w b;refine gH 10 (gB 1 15 [] [1,9,11,13,14,16] ?_ ?_)
  ·refine gE 0 (JG x s i j _ e) ?_;intro w b;refine gH 0 (gB 9 15 [] [9,11,13,14,16] ?_ ?_)
   ·refine gE 0 (QM x s i j _ e) ?_;intro w b;refine gH 0 (gB 11 15 [] [11,13,14,16] ?_ ?_)
    ·refine gE 0 (QM x s i j _ e) ?_;intro w b;refine gH 0 (gB 13 15 [14,15,16] [13,14,16] ?_ ?_)
     ·refine gE 0 (QM x s i j _ e) ?_;intro w b;refine gH 2 ?_;intro t w b;refine gH 1 ?_;intro w b;exact gG 0 (cd t (b.x [2,2,2]))
     ·refine gH 1 ?_;intro t w b;refine gE 0 (QM x s i j _ e) ?_;intro w b;refine gH 2 ?_;intro w b;exact gG 0 (cd t (b.x [2,1,2]))
    ·refine gH 1 ?_;intro t w b;refine gE 0 (QM x s i j _ e) ?_;intro w b;refine gE 0 (QM x s i j _ e) ?_;intro w b;refine gH 2 ?_;intro w b;exact gG 0 (cd t (b.x [2,1,2]))
   ·refine gH 1 ?_;intro t w b;refine gE 0 (QM x s i j _ e) ?_;intro w b;refine gE 0 (QM x s i j _ e) ?_;intro w b;refine gE 0 (QM x s i j _ e) ?_;intro w b;refine gH 2 ?_;intro w b;exact gG 0 (cd t (b.x [2,1,2]))
  ·refine gH 1 ?_;intro t w b;refine gE 0 (JG x s i j _ e) ?_;intro w b;refine gE 0 (QM x s i j _ e) ?_;intro w b;refine gE 0 (QM x s i j _ e) ?_;intro w b;refine gE 0 (QM x s i j _ e) ?_;intro w b;refine gH 2 ?_;intro w b;exact gG 0 (cd t (b.x [2,1,2]))
 rintro t w b;refine gG 0 (gD [1,0] [] [0,1,2,3,4,5] ?_);intro w b;refine gE 5 (Xyb (k7 x.args x.ck) (by have:=bA e.each Xb;show(X9 x.args Xb).length<=_;omega) x.p s.Z E e.wp) ?_;intro w b;have L:=tA x.p.lo (X9 x.args Xb);refine gN 2 ?_ ?_<;>intro d
 ·refine gF 1 (nr 403) ?_;rintro _ w ⟨J,q,r,rfl,o,h,g,b⟩;refine gG 3 ?_;intro w b;have n:D_ (Xq x.p C) x.args x.ck s={ s with An:=Fy 403 }:=by
   unfold D_ Xq;dsimp only
   rw[Y7 (oh d)]
  rw[n];exact⟨O,J,q,r,o,⟨h,g⟩,b.s⟩
 refine gN 2 ?_ ?_<;>intro f
 ·refine gG 0 ?_;obtain⟨a,c,G,H,b⟩:=EJ b;refine gD [6,0] [] [0,1,2,3,4,5,6,7,8,9,10] ?_;intro w b;refine gH 11 (gB 11 15 [12,13,14,15,16,17] [11,12,13,14,16,17] ?_ ?_)
  ·refine gE 0 (Fx x.p.tb s.Z.room a c s.Z.l (oh E.len) x.ck) ?_;intro w b;refine gH 4 ?_;intro K w b;refine gH 1 ?_;intro w b;refine gF 4 (pF dq (getD s.Z.l x.ck).user de (oh (Xp3 E.wf x.ck)) e.kz) ?_;rintro _ w ⟨J,q,r,rfl,o,h,g,b⟩;refine gG 3 ?_;intro w b;replace b:=Aa.box (T:=Bl x.p s.Z) (a,c,G,H) (b.px [5,5,4,4,5]);have n:D_ (Xq x.p C) x.args x.ck s={ s with An:=TZ dq (getD s.Z.l x.ck).user }:=by
    unfold D_ Xq;dsimp only
    rw[Y3 (oh d),Y7 (oh f)]
   rw[n];exact⟨O,J,q,r,o,⟨h,g⟩,(b.z [3] 2 2)⟩
  ·refine gH 1 ?_;intro K w b;refine gE 0 (Fx x.p.tb s.Z.room a c s.Z.l (oh E.len) x.ck) ?_;intro w b;refine gH 4 ?_;intro w b;refine gF 4 (pF dq (getD s.Z.l x.ck).user de (oh (Xp3 E.wf x.ck)) e.kz) ?_;rintro _ w ⟨J,q,r,rfl,o,h,g,b⟩;refine gG 3 ?_;intro w b;replace b:=Aa.box (T:=Bl x.p s.Z) (a,c,G,H) (b.px [5,5,3,3,5]);have n:D_ (Xq x.p C) x.args x.ck s={ s with An:=TZ dq (getD s.Z.l x.ck).user }:=by
    unfold D_ Xq;dsimp only
    rw[Y3 (oh d),Y7 (oh f)]
   rw[n];exact⟨O,J,q,r,o,⟨h,g⟩,(b.z [3] 2 2)⟩
 refine gN 2 ?_ ?_<;>intro k
 ·refine gF 2 (xw x s i j _ [] om de E e) ?_;rintro _ w ⟨rfl,J,q,r,o,D,b⟩;refine gG 0 ?_;have n:D_ (Xq x.p C) x.args x.ck s=F8 s (Xk x.p.lo (X9 x.args Xb)).2.1 []:=by
   unfold D_ Xq;dsimp only
   rw[Y3 (oh d),Y3 (oh f),Y7 (oh k)]
  rw[n];exact⟨O,J,q,r,o,D,b.s⟩
 refine gN 2 ?_ ?_<;>intro m
 ·refine gF 2 (pF Kg _ de om e.kz) ?_;rintro _ w ⟨J,q,r,rfl,o,h,g,b⟩;refine gG 3 ?_;intro w b;have n:D_ (Xq x.p C) x.args x.ck s={ s with An:=TZ Kg (Xk x.p.lo (X9 x.args Xb)).2.1 }:=by
   unfold D_ Xq;dsimp only
   rw[Y3 (oh d),Y3 (oh f),Y3 (oh k),Y7 (oh m)]
  rw[n];exact⟨O,J,q,r,o,⟨h,g⟩,b.s⟩
 refine gN 2 ?_ ?_<;>intro u
 ·refine gF 2 (Xjg _ [] none 0 de (RS.nil _ _)) ?_;rintro _ w ⟨J,q,r,rfl,o,h,g,b⟩;refine gG 3 ?_;intro w b;have n:D_ (Xq x.p C) x.args x.ck s={ s with An:=Od (Xk x.p.lo (X9 x.args Xb)).2.1 [] }:=by
   unfold D_ Xq;dsimp only
   rw[Y3 (oh d),Y3 (oh f),Y3 (oh k),Y3 (oh m),Y7 (oh u)]
  rw[n];exact⟨O,J,q,r,o,⟨h,g⟩,b.s⟩
 refine gN 2 ?_ ?_<;>intro A
 ·refine gG 0 (gD [2,1] [] [0,1,2,3,4,5,6,7,8,9,10,11,12,13,14,15,16,17] ?_);intro w b;refine gE 10 (Xne x.ck (X9 x.args Xb) false (oh e.ck) (oh (bA e.each Xb)) x.p s.Z E e.wp) ?_;intro w b;refine gN 9 ?_ ?_<;>intro y
  ·refine gF 1 (nD x { s with Z:=(DJ x.p.lo x.p.ps s.Z x.ck (X9 x.args Xb) false).2 } i j e) ?_;rintro _ w ⟨rfl,J,q,r,o,D,b⟩;refine gG 0 ?_;have n:D_ (Xq x.p C) x.args x.ck s=Di { s with Z:=(DJ x.p.lo x.p.ps s.Z x.ck (X9 x.args Xb) false).2 }:=by
    unfold D_ Xq;dsimp only
    rw[Y3 (oh d),Y3 (oh f),Y3 (oh k),Y3 (oh m),Y3 (oh u),Y7 (oh A)];exact Y7 (oh y)
   rw[n];exact⟨O,J,q,r,o,D,(b.z [1,1] 2 1)⟩
  refine gF 3 (Xq8 _ _ [] none 0 BH.2 BH.1 de e.kz (RS.nil _ _)) ?_;rintro _ w ⟨J,q,r,rfl,o,h,g,b⟩;refine gG 3 ?_;intro w b;have n:D_ (Xq x.p C) x.args x.ck s={ s with Z:=(DJ x.p.lo x.p.ps s.Z x.ck (X9 x.args Xb) false).2,An:=oH (DJ x.p.lo x.p.ps s.Z x.ck (X9 x.args Xb) false).1.1.2 (DJ x.p.lo x.p.ps s.Z x.ck (X9 x.args Xb) false).1.1.1 [] }:=by
   unfold D_ Xq;dsimp only
   rw[Y3 (oh d),Y3 (oh f),Y3 (oh k),Y3 (oh m),Y3 (oh u),Y7 (oh A)];exact Y3 (oh y)
  rw[n];exact⟨O,J,q,r,o,⟨h,g⟩,b.s⟩
 refine .skip (λ_ F=>WA F ?_);exfalso
 have W:=Rr x.p.lo x.p.ps s.Z (k7 x.args x.ck);have M:=d;have P:=f;have Q:=k;have R:=m;have U:=u;have V:=A;omega
theorem Xqc(i:Qc)(Az sv:Lu)(u:Az.length<=5000)(D:sv.length<=5000)(x:Lp)(s:Bi)(g:Oa)(h:Nat)(A:A9 s.Z)(e:BV I x)(N:La)(a:Aa B w I (BL x s g h::AV x.p s.Z::N)):
  Cz 233 [ptr x.tp 0,S Az,S sv] w λv w'=>v=.tuple #[]/\∃J g h,Le I J/\Gb J g h (H6 (Xq x.p i) x.args Az sv s).An/\Aa B w' J (BL x (H6 (Xq x.p i) x.args Az sv s) g h::AV x.p (H6 (Xq x.p i) x.args Az sv s).Z::N):=by
 refine gE 1 (Xxm Az _ u e.kz) ?_;intro w a;refine gM 3 ?_ ?_<;>intro b y
 ·refine gE 2 (JG x s g h _ e) ?_;intro w a;refine gF 0 (pF dq (X9 x.args Xp) de (oh (bA e.each Xp)) e.kz) ?_;rintro _ w ⟨H,E,F,rfl,q,C,r,a⟩;refine gF 1 (Xqd (TZ dq (X9 x.args Xp)) E F _ (by show(1:Nat)<=1000;decide) r) ?_;rintro _ w ⟨J,n,o,rfl,l,f,d,a⟩;refine gG 3 ?_;intro w a;have j:H6 (Xq x.p i) x.args Az sv s={ s with An:=bZ (TZ dq (X9 x.args Xp)) (bV Az (-1)) }:=by
   unfold H6 Xq;exact Y7 (su b)
  rw[j];exact⟨O,J,n,o,(q.trans l),⟨f,d⟩,a.s⟩
 refine gE 6 (Xne Az sv true om om x.p s.Z A e.wp) ?_;intro w a;refine gN 9 ?_ ?_<;>intro c
 ·refine gF 1 (nD x { s with Z:=(DJ x.p.lo x.p.ps s.Z Az sv true).2 } g h e) ?_;rintro _ w ⟨rfl,J,n,o,l,t,a⟩;refine gG 0 ?_;have j:H6 (Xq x.p i) x.args Az sv s=Di { s with Z:=(DJ x.p.lo x.p.ps s.Z Az sv true).2 }:=by
   unfold H6 Xq;dsimp only
   rw[Y3 (su b)];exact Y7 (oh c)
  rw[j];exact⟨O,J,n,o,l,t,(a.x [1,1])⟩
 refine gH 5 ?_;intro z w a;replace a:=a;obtain⟨G,k,m,a⟩:=JF (size:=1) a O;refine gF 0 (Xq8 _ _ [bV Az (-1)] _ 1 BH.2 BH.1 sz (e.kz.mono k) m) ?_;rintro _ w ⟨J,n,o,rfl,l,f,d,a⟩;refine gG 3 ?_;intro w a;have j:H6 (Xq x.p i) x.args Az sv s={ s with Z:=(DJ x.p.lo x.p.ps s.Z Az sv true).2,An:=oH (DJ x.p.lo x.p.ps s.Z Az sv true).1.1.2 (DJ x.p.lo x.p.ps s.Z Az sv true).1.1.1 [bV Az (-1)] }:=by
  unfold H6 Xq;dsimp only
  rw[Y3 (su b)];exact Y3 (oh c)
 rw[j];exact⟨O,J,n,o,(k.trans l),⟨f,d⟩,a.s⟩
theorem Xj7(us:List Us)(ps:Nat->Int)(Z:Wd)(lt a b:Lu):(ER us ps Z lt a b).1.1.length<=5000:=by
 unfold ER;split
 ·exact Y5 _
 ·split
  ·exact Y5 _
  ·exact Yr (nW _ _) de
theorem Xu5(h:Qc)(x:Lp)(s:Bi)(d:Oa)(e:Nat)(y:A9 s.Z)(f:BV I x)(N:La)(a:Aa B w I (BL x s d e::AV x.p s.Z::N)):
  Cz 138 [ptr x.tp 0] w λv w'=>v=.tuple #[]/\∃J d e,Le I J/\Gb J d e (FM (Xq x.p h) x.args s).An/\Aa B w' J (BL x (FM (Xq x.p h) x.args s) d e::AV x.p (FM (Xq x.p h) x.args s).Z::N):=by
 refine gE 1 (JG x s d e Xb f) ?_;intro w a;refine gE 2 (Xgx x s d e f) ?_;intro w a;refine gM 11 ?_ ?_<;>intro n z
 ·refine gF 1 (nr 403) ?_;rintro _ w ⟨J,l,m,rfl,j,u,t,a⟩;refine gG 3 ?_;intro w a;have i:FM (Xq x.p h) x.args s={ s with An:=Fy 403 }:=by
   unfold FM Xq;exact Y7 (su n)
  rw[i];exact⟨O,J,l,m,j,⟨u,t⟩,a.s⟩
 refine gG 0 ?_;have C:=tA x.p.lo (X9 x.args Xb);have r:=λnm=>bA f.each nm
 have k:¬ (X9 x.args Xb≠[]/\(Xk x.p.lo (X9 x.args Xb)).2.2≠0):=by
  have A:=n
  revert A
  cases D:(X9 x.args Xb !=[])<;>simp_all
 refine gD [0] [] [0,1,2,3,4,6,8,5,7,9,10,11,12,13,14,15] ?_;intro w a;refine gE 7 (JG x s d e HF f) ?_;intro w a;refine gE 0 (JG x s d e Xp f) ?_;intro w a;refine gE 0 (JG x s d e Xv f) ?_;intro w a;refine gE 0 (Qi (X9 x.args HF) (X9 x.args Xp) (X9 x.args Xv) (oh (r Xv)) x.p s.Z y f.wp) ?_;intro w a;have q:=Xpk (us:=x.p.us) (ps:=x.p.ps) y (X9 x.args HF) (X9 x.args Xp) (X9 x.args Xv);refine gN 8 ?_ ?_<;>intro c
 ·refine gF 1 (nD x ({ s with Z:=(ER x.p.us x.p.ps s.Z (X9 x.args HF) (X9 x.args Xp) (X9 x.args Xv)).2 }) d e f) ?_;rintro _ w ⟨rfl,J,l,m,j,b,a⟩;refine gG 0 ?_;have i:FM (Xq x.p h) x.args s=Di { s with Z:=(ER x.p.us x.p.ps s.Z (X9 x.args HF) (X9 x.args Xp) (X9 x.args Xv)).2 }:=by
   unfold FM Xq;dsimp only
   rw[Y3 k];exact Y7 (oh c)
  rw[i];exact⟨O,J,l,m,j,b,(a.x [1,1])⟩
 refine gN 2 ?_ ?_<;>intro g
 ·refine gF 2 (xw x ({ s with Z:=(ER x.p.us x.p.ps s.Z (X9 x.args HF) (X9 x.args Xp) (X9 x.args Xv)).2 }) d e _ Mm om de q f) ?_;rintro _ w ⟨rfl,J,l,m,j,b,a⟩;refine gG 0 ?_;have i:FM (Xq x.p h) x.args s=F8 ({ s with Z:=(ER x.p.us x.p.ps s.Z (X9 x.args HF) (X9 x.args Xp) (X9 x.args Xv)).2 }) (Xk x.p.lo (X9 x.args Xb)).2.1 Mm:=by
   unfold FM Xq;dsimp only
   rw[Y3 k];rw[Y3 (oh c)];exact Y7 (oh g)
  rw[i];exact⟨O,J,l,m,j,b,a.s⟩
 refine gN 2 ?_ ?_<;>intro o
 ·refine gF 2 (xw x ({ s with Z:=(ER x.p.us x.p.ps s.Z (X9 x.args HF) (X9 x.args Xp) (X9 x.args Xv)).2 }) d e _ Mq om de q f) ?_;rintro _ w ⟨rfl,J,l,m,j,b,a⟩;refine gG 0 ?_;have i:FM (Xq x.p h) x.args s=F8 ({ s with Z:=(ER x.p.us x.p.ps s.Z (X9 x.args HF) (X9 x.args Xp) (X9 x.args Xv)).2 }) (Xk x.p.lo (X9 x.args Xb)).2.1 Mq:=by
   unfold FM Xq;dsimp only
   rw[Y3 k];rw[Y3 (oh c)];rw[Y3 (oh g)];exact Y7 (oh o)
  rw[i];exact⟨O,J,l,m,j,b,a.s⟩
 refine gF 3 (Xqc h _ _ (Xj7 x.p.us x.p.ps s.Z _ _ _) (r Xb) x ({ s with Z:=(ER x.p.us x.p.ps s.Z (X9 x.args HF) (X9 x.args Xp) (X9 x.args Xv)).2 }) d e q f) ?_;rintro _ w ⟨rfl,J,l,m,j,b,a⟩;refine gG 0 ?_;have i:FM (Xq x.p h) x.args s=H6 (Xq x.p h) x.args (ER x.p.us x.p.ps s.Z (X9 x.args HF) (X9 x.args Xp) (X9 x.args Xv)).1.1 (X9 x.args Xb) ({ s with Z:=(ER x.p.us x.p.ps s.Z (X9 x.args HF) (X9 x.args Xp) (X9 x.args Xv)).2 }):=by
  unfold FM Xq;dsimp only
  rw[Y3 k];rw[Y3 (oh c)];rw[Y3 (oh g)];rw[Y3 (oh o)]
 rw[i];exact⟨O,J,l,m,j,b,a.s⟩
theorem Xjo(px:Bool)(x:Lp)(s:Bi)(c:Oa)(e:Nat)(l:A9 s.Z)(b:BV I x)(N:La)(a:Aa B w I (BL x s c e::AV x.p s.Z::N)):
  Cz 236 [ptr x.tp 0,.bool px] w λv w'=>∃J cs,Le I J/\v=.tuple #[.agg (List.toArray cs),Ab (KT x.p.ps s.Z (AU x.args px):Nat)]/\F5 J (KU x.p.lo x.p.us x.p.ps s.Z (AU x.args px)) cs/\Aa B w' J (BL x s c e::AV x.p (Xl x.p.ps s.Z (AU x.args px)).2::N):=by
 refine gH 2 ?_;intro o w a;refine gG 0 ?_;have d:=λnm=>bA b.each nm
 refine gD [1] [15] [0,1,2,3,4,6,8,10,5,7,9,11,12,13,14,15,16] ?_;intro w a;refine gE 8 (JG x s c e _ b) ?_;intro w a;refine gE 0 (JG x s c e _ b) ?_;intro w a;refine gE 0 (QM x s c e _ b) ?_;intro w a;refine gF 1 (NC (AU x.args px) (by have:=d Af;show(X9 x.args Af).length<=_;omega) (by have:=d Xb;show(X9 x.args Xb).length<=_;omega) x.p s.Z l b.wp) ?_;rintro _ w ⟨J,cs,k,rfl,j,a⟩;obtain⟨ka,m,pa,n,rfl,f,g,h,i⟩:=j;refine gH 3 ?_;intro w a;exact gG 1 ⟨J,_,k,O,⟨ka,m,pa,n,O,f,g,h,i⟩,a.s⟩
theorem pX{l:List Ah}(h:Wf l)(name:Lu):(getD l name).user.length<=32/\(getD l name).url.length<=100/\(getD l name).service.length<=100:=by
 rcases Tr.get_at l name with⟨_,a⟩|⟨j,r,_,b,_,a⟩
 ·unfold getD;rw[a];decide
 ·unfold getD;rw[a]
  have:=h.right r (Y8 b)
  unfold Dh at this;simp only[Yb,decide_eq_true_eq]at this
  show r.user.length<=32/\r.url.length<=100/\r.service.length<=100
  omega
theorem Xo7{lo:List Sv}{us:List Us}{Z:Wd}(h:A9 Z)(f:Vk lo us)(q:Qr):oF (KU lo us ps Z q):=by
 unfold KU;split
 ·exact⟨Y5 _,Y5 _,⟨Y5 _,λa b=>by simp[I7]at b⟩,⟨Y5 _,λa b=>by simp[I7]at b⟩⟩
 ·have n:(Xl ps Z q).1.1.user.length<=32:=by
   have key:(Xr ps Z q.ticket (KW q.ticket)).1.user.length<=32:=by
    unfold Xr;split
    ·decide
    ·exact(pX h.wf q.ticket).1
   unfold Xl
   repeat' split
   all_goals first|exact key|exact Y5 _
  have d:=nZ (ps:=ps) h q;have c:∀nm,(CM us nm).length<=8/\∀a∈CM us nm,a.1.length<=100/\a.2.length<=100:=λnm=>by
   unfold CM;split
   ·rename_i e;exact f.iW _ (qI e)
   ·exact⟨Y5 _,λa b=>by simp at b⟩
  have g:(Xk lo (Xl ps Z q).1.1.service).1.rel.length<=8:=by
   rcases s3 lo (Xl ps Z q).1.1.service with e|e
   ·rw[e];decide
   ·exact f.rel _ e
  refine⟨by dsimp only;omega,Y5 _,⟨?_,λa b=>?_⟩,⟨?_,λp k=>?_⟩⟩
  ·have:=wB (rel:=(Xk lo (Xl ps Z q).1.1.service).1.rel) (c (Xl ps Z q).1.1.user).1
   show(TK _ _ _).length<=64
   unfold TK;omega
  ·obtain⟨x,_,hx⟩:=kT.1 b;exact(c _).2 a (Ik.1 hx).1
  ·show(TH _ _).length<=64
   unfold TH;rw[Ym];have l:=nX d.wf (Xl ps Z q).1.1.name;have m:=d.len;exact Yr (EV ..) om
  ·obtain⟨r,g,rfl⟩:=Dj.1 k;obtain⟨j,i⟩:=tJ (Ik.1 g).1
   have:=d.wf.right r (Y8 i)
   unfold Dh at this;simp only[Yb,decide_eq_true_eq]at this
   show r.url.length<=200
   omega
theorem Xvl{lo:List Sv}{Z:Wd}(h:A9 Z)(t:Lu):(Gc lo Z t).length<=70/\∀n∈Gc lo Z t,n.ticket.length<=60/\n.url.length<=120:=by
 unfold Gc;split
 ·unfold jP;have k:=Xps lo Z (below Z.l t);have o:=xS h.wf t;have p:=h.len;refine⟨om,λn a=>?_⟩;obtain⟨m,g,rfl⟩:=Dj.1 a;have b:=(Ik.1 g).2;unfold bU at b;simp only[Yb,I0,beq_iff_eq]at b
  rcases Tr.get_at Z.l m with⟨_,e⟩|⟨j,r,_,i,a,e⟩
  ·have d:getD Z.l m=r0:=by unfold getD;rw[e];rfl
   rw[d]at b;rcases b.1.1 with c|c<;>cases c
  ·have f:=nA (h.wf.right r (Y8 i));have q:=(pX h.wf m).2.2;rw[a]at f;exact⟨by show m.length<=60;omega,by show(getD Z.l m).service.length<=120;omega⟩
 ·exact⟨Y5 _,λn a=>by simp at a⟩
theorem CT{lo:List Sv}{Z:Wd}{t a:Lu}:(Xg lo Z t a).1.1.url.length<=100000/\(Xg lo Z t a).1.1.fu.length<=100000/\(Xg lo Z t a).1.1.B4.length<=100000:=by
 have b:c0.url.length<=100000/\c0.fu.length<=100000/\c0.B4.length<=100000:=de
 unfold Xg;split
 ·exact b
 ·split
  ·exact b
  ·split
   ·exact b
   ·split
    ·exact b
    ·refine⟨?_,Yr (nW _ _) de,Yr (nW _ _) de⟩;show(HW lo Z t a).1.length<=_
     unfold HW c6;split
     ·exact Y5 _
     ·split
      ·exact Y5 _
      ·rename_i c
       simp only[I0,decide_eq_true_eq,not_or]at c
       dsimp only;omega
theorem M7(h:Qc)(x:Lp)(s:Bi)(b:Oa)(c:Nat)(j:A9 s.Z)(i:BV I x)(N:La)(a:Aa B w I (BL x s b c::AV x.p s.Z::N)):
  Cz 140 [ptr x.tp 0] w λv w'=>v=.tuple #[]/\∃J b c,Le I J/\Gb J b c (uQ (Xq x.p h) x.args s).An/\Aa B w' J (BL x (uQ (Xq x.p h) x.args s) b c::AV x.p (uQ (Xq x.p h) x.args s).Z::N):=by
 refine gF 1 (Xjo _ x s b c j i) ?_;rintro _ w ⟨t,cs,d,rfl,g,a⟩;obtain⟨ka,y,pa,A,rfl,l,m,n,o⟩:=g;refine gH 11 ?_;intro u w a;refine gF 0 (MQ _ _ (oh ((Xo7 (ps:=x.p.ps) j i.fit (AU x.args false)).user))) ?_;rintro _ w ⟨J,q,r,rfl,k,f,e,a⟩;refine gG 3 ?_;intro w a;exact⟨O,J,q,r,d.trans k,⟨f,e⟩,(a.z [2,2] 2 1)⟩
theorem R_(lo:List Sv)(ps:Nat->Int)(Z:Wd)(b a:Lu):(Gy lo ps Z b a).1.1.1.length<=5000:=by
 unfold Gy
 repeat' split
 all_goals first|exact Y5 _|exact Yr (nW _ _) de
theorem M5(h:Qc)(x:Lp)(s:Bi)(b:Oa)(c:Nat)(j:A9 s.Z)(d:BV I x)(N:La)(a:Aa B w I (BL x s b c::AV x.p s.Z::N)):
  Cz 145 [ptr x.tp 0] w λv w'=>v=.tuple #[]/\∃J b c,Le I J/\Gb J b c (uK (Xq x.p h) x.args s).An/\Aa B w' J (BL x (uK (Xq x.p h) x.args s) b c::AV x.p (uK (Xq x.p h) x.args s).Z::N):=by
 have e:=λnm=>bA d.each nm
 refine gG 0 (gD [0] [] [0,1,2,3,4,6,5,7,8,9,10,11,12,13,14,15] ?_);intro w a;refine gE 6 (JG x s b c _ d) ?_;intro w a;refine gE 0 (JG x s b c uh d) ?_;intro w a;refine gE 0 (Qf (X9 x.args eC) _ (oh (e eC)) (oh (e uh)) x.p s.Z j d.wp) ?_;intro w a;refine gF 11 (MR _ (Gy x.p.lo x.p.ps s.Z (X9 x.args eC) (X9 x.args uh)).1.2 (R_ x.p.lo x.p.ps s.Z _ _) d.kz) ?_;rintro _ w ⟨J,k,l,rfl,i,g,f,a⟩;refine gG 8 ?_;intro w a;exact⟨O,J,k,l,i,⟨g,f⟩,(a.x [1])⟩
def CD(J:Im)(a:Oa)(b:Nat)(q:List Nt):Prop:=q.length<=b/\RS J a 4 q.length (X2 X6 q)
abbrev Ey(c:Nat)(a:Qc)(q:List Nt)(b:Oa)(d:Nat):X1:=Ad c [Ab (Mw a),AQ a.x,AQ a.y,AQ a.z,.slice b (q).length d] 149
theorem Xqb(d:Qc)(j:Oa)(k:Nat)(x:Lp)(s:Bi)(m:Oa)(n:Nat)(Q:A9 s.Z)(V:s.q.length<=64)(P:BV I x)(M:CD I j k s.q)(N:La)(b:Aa B w I (BL x s m n::Ey x.qb d s.q j k::AV x.p s.Z::N)):
  Cz 139 [ptr x.tp 0] w λv w'=>v=.tuple #[]/\∃J m n j k,Le I J/\Gb J m n (Hq (Xq x.p d) x.ck s).An/\CD J j k (Hq (Xq x.p d) x.ck s).q/\Aa B w' J (BL x (Hq (Xq x.p d) x.ck s) m n::Ey x.qb d (Hq (Xq x.p d) x.ck s).q j k::AV x.p (Hq (Xq x.p d) x.ck s).Z::N):=by
 refine gG 0 (gD [0] [] [0,1,2,3,4,5,6,7,8,9,10,11,12,13] ?_);intro w b;refine gF 8 (NM _ x.p s.Z Q P.wp) ?_;rintro _ w ⟨Y,E,F,ga,gc,c,rfl,T,u,S,R,b⟩;have h:=P.mono c;have r:=Xvl (lo:=x.p.lo) Q x.ck;refine gP 10 [2] (wY _ _ _ _ _ j k s.q V (M.2.mono c) M.1 E F _ r.1 r.2 u h.kz.kx h.kz.pre _) ?_;rintro _ w ⟨J2,K,L,rfl,f,a,o,b⟩;have i:=h.mono f;refine gN 1 ?_ ?_<;>intro e
 ·refine gF 1 (nD x ({ s with Z:=K4 s.Z x.ck,q:=(Fc s.q (Gc x.p.lo s.Z x.ck)).1 }) m n i) ?_;rintro _ w ⟨rfl,J,G,H,l,A,b⟩;replace a:=a.mono l;refine gG 0 ?_;have t:Hq (Xq x.p d) x.ck s=Di ({ s with Z:=K4 s.Z x.ck,q:=(Fc s.q (Gc x.p.lo s.Z x.ck)).1 }):=by
   unfold Hq Xq;dsimp only
   exact Y7 (oh e)
  rw[t];exact⟨O,J,G,H,K,L,c.trans (f.trans l),A,⟨o,a⟩,(b.x [2,2,2])⟩
 refine gF 1 (pF eA [] de de i.kz) ?_;rintro _ w ⟨J3,W,X,rfl,g,U,z,b⟩;have C:=i.mono g;refine gE 0 (Xxm [] 0 de C.kz) ?_;intro w b;refine gF 0 (Xqd (TZ eA []) W X _ (by show(1:Nat)<=1000;decide) z) ?_;rintro _ w ⟨J,G,H,rfl,l,D,y,b⟩;replace a:=(a.mono g).mono l;refine gG 3 ?_;intro w b;have t:Hq (Xq x.p d) x.ck s={ s with Z:=K4 s.Z x.ck,q:=(Fc s.q (Gc x.p.lo s.Z x.ck)).1,An:=bZ (TZ eA []) (bV [] 0) }:=by
  unfold Hq Xq;dsimp only
  exact Y3 (oh e)
 rw[t];exact⟨O,J,G,H,K,L,c.trans (f.trans (g.trans l)),⟨D,y⟩,⟨o,a⟩,b.s⟩
theorem PZ:oF I7:=⟨Y5 _,Y5 _,⟨Y5 _,λa b=>by simp[I7]at b⟩,⟨Y5 _,λa b=>by simp[I7]at b⟩⟩
theorem Xp2{l:List Ah}(h:Wf l)(name:Lu):(getD l name).name.length<=1000000/\(getD l name).parent.length<=1000000:=by
 rcases Tr.get_at l name with⟨_,a⟩|⟨j,r,_,b,_,a⟩
 ·unfold getD;rw[a];decide
 ·unfold getD;rw[a]
  have:=nA (h.right r (Y8 b))
  show r.name.length<=_/\r.parent.length<=_
  omega
theorem th(G:Qc)(px g:Bool)(x:Lp)(s:Bi)(i:Oa)(k:Nat)(R:A9 s.Z)(M:BV I x)(t:Gb I i k s.An)(N:La)(b:Aa B w I (BL x s i k::AV x.p s.Z::N)):
  Cz 238 [ptr x.tp 0,.bool px,.bool g] w λv w'=>v=.tuple #[]/\∃J i k,Le I J/\Gb J i k (Dv (Xq x.p G) x.args px g s).An/\Aa B w' J (BL x (Dv (Xq x.p G) x.args px g s) i k::AV x.p (Dv (Xq x.p G) x.args px g s).Z::N):=by
 refine gF 2 (Xjo px x s i k R M) ?_;rintro _ w ⟨H,cs,n,rfl,Y,b⟩;have e:=M.mono n;obtain⟨ka,kc,pa,pc,rfl,U,V,W,X⟩:=Y;refine gH 7 ?_;intro b6 w b;refine gE 0 (JG x s i k X7 e) ?_;intro w b;refine gN 7 ?_ ?_<;>intro q
 ·refine gF 4 (sG (KU x.p.lo x.p.us x.p.ps s.Z (AU x.args px)) (KT x.p.ps s.Z (AU x.args px)) (λ_=>Xo7 R M.fit (AU x.args px)) g _ e.kz ⟨ka,kc,pa,pc,O,U,V,W,X⟩) ?_;rintro _ w ⟨J,na,nc,rfl,Q,F,E,b⟩;refine gG 3 ?_;intro w b;have K:Dv (Xq x.p G) x.args px g s={ s with Z:=(Xl x.p.ps s.Z (AU x.args px)).2,An:=QL (KU x.p.lo x.p.us x.p.ps s.Z (AU x.args px)) (KT x.p.ps s.Z (AU x.args px)) g }:=by
   unfold Dv Xq;dsimp only
   exact Y7 (q.imp (λh=>by omega) id)
  rw[K];exact⟨O,J,na,nc,n.trans Q,⟨F,E⟩,b.s⟩
 refine .skip ?_;have r:=nZ (ps:=x.p.ps) R (AU x.args px);have j:=λnm=>bA M.each nm
 have L:¬ ((KT x.p.ps s.Z (AU x.args px))≠0\/X9 x.args X7=[]):=by
  rintro(P|P)
  ·exact P (oh q.1)
  ·exact q.2 P
 refine .ck [0,2,6] (σ:=Nat) (λm _m=>(7,Ab ((Xg x.p.lo (Xl x.p.ps s.Z (AU x.args px)).2 (X9 x.args Af) (X9 x.args X7)).1.2:Nat))::(9,ptr m 0)::_m) (λm w=>Aa B w H (Ad m [S (Xg x.p.lo (Xl x.p.ps s.Z (AU x.args px)).2 (X9 x.args Af) (X9 x.args X7)).1.1.url,S (Xg x.p.lo (Xl x.p.ps s.Z (AU x.args px)).2 (X9 x.args Af) (X9 x.args X7)).1.1.fu,S (Xg x.p.lo (Xl x.p.ps s.Z (AU x.args px)).2 (X9 x.args Af) (X9 x.args X7)).1.1.B4] 275::Ad b6 [S (KU x.p.lo x.p.us x.p.ps s.Z (AU x.args px)).user,.slice ka (KU x.p.lo x.p.us x.p.ps s.Z (AU x.args px)).attrs.length kc,.slice pa (KU x.p.lo x.p.us x.p.ps s.Z (AU x.args px)).Ax.length pc,S (KU x.p.lo x.p.us x.p.ps s.Z (AU x.args px)).B4] 345::BL x s i k::AV x.p (Xg x.p.lo (Xl x.p.ps s.Z (AU x.args px)).2 (X9 x.args Af) (X9 x.args X7)).2::N)) ?_ ?_
 ·refine gD [0] [] [0,1,2,3,4,6] ?_;intro w b;refine gH 6 (gB 5 11 [] [5,7,8,9,10,12,13] ?_ ?_)
  ·refine gE 0 (JG x s i k Af e) ?_;intro w b;refine gH 0 (gB 7 11 [8,9,10,11,12,13] [7,8,9,10,12,13] ?_ ?_)
   ·refine gE 0 (xI (X9 x.args Af) (X9 x.args X7) (oh (j Af)) (oh (j X7)) x.p (Xl x.p.ps s.Z (AU x.args px)).2 r e.wp) ?_;intro w b;refine gH 4 ?_;intro m w b;refine gH 1 ?_;intro w b;exact gG 1 (cd m (b.x [1,2,3,3]))
   ·refine gH 1 ?_;intro m w b;refine gE 0 (xI (X9 x.args Af) (X9 x.args X7) (oh (j Af)) (oh (j X7)) x.p (Xl x.p.ps s.Z (AU x.args px)).2 r e.wp) ?_;intro w b;refine gH 4 ?_;intro w b;exact gG 1 (cd m (b.x [2,3,3]))
  ·refine gH 1 ?_;intro m w b;refine gE 0 (JG x s i k Af e) ?_;intro w b;refine gE 0 (xI (X9 x.args Af) (X9 x.args X7) (oh (j Af)) (oh (j X7)) x.p (Xl x.p.ps s.Z (AU x.args px)).2 r e.wp) ?_;intro w b;refine gH 4 ?_;intro w b;exact gG 1 (cd m (b.x [1,3,3]))
 rintro m w b;have o:=Xv5 (lo:=x.p.lo) r (X9 x.args Af) (X9 x.args X7);refine gN 2 ?_ ?_<;>intro y
 ·refine gF 5 (sG I7 (Xg x.p.lo (Xl x.p.ps s.Z (AU x.args px)).2 (X9 x.args Af) (X9 x.args X7)).1.2 (λ_=>PZ) g _ e.kz (qD H)) ?_;rintro _ w ⟨J,na,nc,rfl,Q,F,E,b⟩;refine gG 8 ?_;intro w b;have K:Dv (Xq x.p G) x.args px g s={ s with Z:=(Xg x.p.lo (Xl x.p.ps s.Z (AU x.args px)).2 (X9 x.args Af) (X9 x.args X7)).2,An:=QL I7 (Xg x.p.lo (Xl x.p.ps s.Z (AU x.args px)).2 (X9 x.args Af) (X9 x.args X7)).1.2 g,DY:=(((Xg x.p.lo (Xl x.p.ps s.Z (AU x.args px)).2 (X9 x.args Af) (X9 x.args X7)).1.2:Nat):Int)==39 }:=by
   unfold Dv Xq;dsimp only
   rw[Y3 L];exact Y7 (oh y)
  rw[K];exact⟨O,J,na,nc,n.trans Q,⟨F,E⟩,b.s⟩
 refine .skip (.ck [0,9] (σ:=Unit) (λ_ _m=>_m) (λ_ w=>Aa B w H (Ad m [S (Xg x.p.lo (Xl x.p.ps s.Z (AU x.args px)).2 (X9 x.args Af) (X9 x.args X7)).1.1.url,S (Xg x.p.lo (Xl x.p.ps s.Z (AU x.args px)).2 (X9 x.args Af) (X9 x.args X7)).1.1.fu,S (Xg x.p.lo (Xl x.p.ps s.Z (AU x.args px)).2 (X9 x.args Af) (X9 x.args X7)).1.1.B4] 275::BL x s i k::AV x.p (if g=true then Oz (Xg x.p.lo (Xl x.p.ps s.Z (AU x.args px)).2 (X9 x.args Af) (X9 x.args X7)).2 { (getD (Xg x.p.lo (Xl x.p.ps s.Z (AU x.args px)).2 (X9 x.args Af) (X9 x.args X7)).2.l (Xg x.p.lo (Xl x.p.ps s.Z (AU x.args px)).2 (X9 x.args Af) (X9 x.args X7)).1.1.B4)with A4:=1 } else(Xg x.p.lo (Xl x.p.ps s.Z (AU x.args px)).2 (X9 x.args Af) (X9 x.args X7)).2)::N)) ?_ ?_)
 ·refine .ck [0,2,9] (σ:=Nat) (λf _m=>(10,ptr f 0)::_m) (λf w=>Aa B w H (Ad f [Ab (getD (Xg x.p.lo (Xl x.p.ps s.Z (AU x.args px)).2 (X9 x.args Af) (X9 x.args X7)).2.l (Xg x.p.lo (Xl x.p.ps s.Z (AU x.args px)).2 (X9 x.args Af) (X9 x.args X7)).1.1.B4).kind,S (getD (Xg x.p.lo (Xl x.p.ps s.Z (AU x.args px)).2 (X9 x.args Af) (X9 x.args X7)).2.l (Xg x.p.lo (Xl x.p.ps s.Z (AU x.args px)).2 (X9 x.args Af) (X9 x.args X7)).1.1.B4).name,S (getD (Xg x.p.lo (Xl x.p.ps s.Z (AU x.args px)).2 (X9 x.args Af) (X9 x.args X7)).2.l (Xg x.p.lo (Xl x.p.ps s.Z (AU x.args px)).2 (X9 x.args Af) (X9 x.args X7)).1.1.B4).parent,S (getD (Xg x.p.lo (Xl x.p.ps s.Z (AU x.args px)).2 (X9 x.args Af) (X9 x.args X7)).2.l (Xg x.p.lo (Xl x.p.ps s.Z (AU x.args px)).2 (X9 x.args Af) (X9 x.args X7)).1.1.B4).user,S (getD (Xg x.p.lo (Xl x.p.ps s.Z (AU x.args px)).2 (X9 x.args Af) (X9 x.args X7)).2.l (Xg x.p.lo (Xl x.p.ps s.Z (AU x.args px)).2 (X9 x.args Af) (X9 x.args X7)).1.1.B4).service,S (getD (Xg x.p.lo (Xl x.p.ps s.Z (AU x.args px)).2 (X9 x.args Af) (X9 x.args X7)).2.l (Xg x.p.lo (Xl x.p.ps s.Z (AU x.args px)).2 (X9 x.args Af) (X9 x.args X7)).1.1.B4).url,Ab (getD (Xg x.p.lo (Xl x.p.ps s.Z (AU x.args px)).2 (X9 x.args Af) (X9 x.args X7)).2.l (Xg x.p.lo (Xl x.p.ps s.Z (AU x.args px)).2 (X9 x.args Af) (X9 x.args X7)).1.1.B4).made,Ab (getD (Xg x.p.lo (Xl x.p.ps s.Z (AU x.args px)).2 (X9 x.args Af) (X9 x.args X7)).2.l (Xg x.p.lo (Xl x.p.ps s.Z (AU x.args px)).2 (X9 x.args Af) (X9 x.args X7)).1.1.B4).used,Ab (getD (Xg x.p.lo (Xl x.p.ps s.Z (AU x.args px)).2 (X9 x.args Af) (X9 x.args X7)).2.l (Xg x.p.lo (Xl x.p.ps s.Z (AU x.args px)).2 (X9 x.args Af) (X9 x.args X7)).1.1.B4).A4,.bool (getD (Xg x.p.lo (Xl x.p.ps s.Z (AU x.args px)).2 (X9 x.args Af) (X9 x.args X7)).2.l (Xg x.p.lo (Xl x.p.ps s.Z (AU x.args px)).2 (X9 x.args Af) (X9 x.args X7)).1.1.B4).fresh] 160::Ad m [S (Xg x.p.lo (Xl x.p.ps s.Z (AU x.args px)).2 (X9 x.args Af) (X9 x.args X7)).1.1.url,S (Xg x.p.lo (Xl x.p.ps s.Z (AU x.args px)).2 (X9 x.args Af) (X9 x.args X7)).1.1.fu,S (Xg x.p.lo (Xl x.p.ps s.Z (AU x.args px)).2 (X9 x.args Af) (X9 x.args X7)).1.1.B4] 275::BL x s i k::AV x.p (Xg x.p.lo (Xl x.p.ps s.Z (AU x.args px)).2 (X9 x.args Af) (X9 x.args X7)).2::N)) ?_ ?_
  ·replace b:=b.px [3];obtain⟨⟨a,c,A,C⟩,b⟩:=Aa.unbox b;replace b:Aa B _ _ (Ad x.p.wb (Cr x.p (Xg x.p.lo (Xl x.p.ps s.Z (AU x.args px)).2 (X9 x.args Af) (X9 x.args X7)).2) 115::Bc x.p.tb (Xg x.p.lo (Xl x.p.ps s.Z (AU x.args px)).2 (X9 x.args Af) (X9 x.args X7)).2.room a c (Xg x.p.lo (Xl x.p.ps s.Z (AU x.args px)).2 (X9 x.args Af) (X9 x.args X7)).2.l (Ad x.p.mb [.slice A (Xg x.p.lo (Xl x.p.ps s.Z (AU x.args px)).2 (X9 x.args Af) (X9 x.args X7)).2.D.length C] 225::CA 41 (.slice A (Xg x.p.lo (Xl x.p.ps s.Z (AU x.args px)).2 (X9 x.args Af) (X9 x.args X7)).2.D.length C) ((Xg x.p.lo (Xl x.p.ps s.Z (AU x.args px)).2 (X9 x.args Af) (X9 x.args X7)).2.D.map λd=>Ba (d:Nat))::_)):=b;refine gD [7,0,4] [] [0,1,2,3,4,5,6,7,8] ?_;intro w b;refine gH 9 (gB 9 13 [10,11,12,13,14,15] [9,10,11,12,14,15] ?_ ?_)
   ·refine gE 0 (Fx x.p.tb (Xg x.p.lo (Xl x.p.ps s.Z (AU x.args px)).2 (X9 x.args Af) (X9 x.args X7)).2.room a c (Xg x.p.lo (Xl x.p.ps s.Z (AU x.args px)).2 (X9 x.args Af) (X9 x.args X7)).2.l (oh o.len) (Xg x.p.lo (Xl x.p.ps s.Z (AU x.args px)).2 (X9 x.args Af) (X9 x.args X7)).1.1.B4) ?_;intro w b;refine gH 4 ?_;intro f w b;refine gH 1 ?_;intro w b;refine gG 1 ?_;replace b:=Aa.box (T:=Bl x.p (Xg x.p.lo (Xl x.p.ps s.Z (AU x.args px)).2 (X9 x.args Af) (X9 x.args X7)).2) (a,c,A,C) (b.px [5,5,4,4,5]);exact cd f (b.z [4,3,3] 4 1)
   ·refine gH 1 ?_;intro f w b;refine gE 0 (Fx x.p.tb (Xg x.p.lo (Xl x.p.ps s.Z (AU x.args px)).2 (X9 x.args Af) (X9 x.args X7)).2.room a c (Xg x.p.lo (Xl x.p.ps s.Z (AU x.args px)).2 (X9 x.args Af) (X9 x.args X7)).2.l (oh o.len) (Xg x.p.lo (Xl x.p.ps s.Z (AU x.args px)).2 (X9 x.args Af) (X9 x.args X7)).1.1.B4) ?_;intro w b;refine gH 4 ?_;intro w b;refine gG 1 ?_;replace b:=Aa.box (T:=Bl x.p (Xg x.p.lo (Xl x.p.ps s.Z (AU x.args px)).2 (X9 x.args Af) (X9 x.args X7)).2) (a,c,A,C) (b.px [5,5,3,3,5]);exact cd f (b.z [4,3,3] 4 1)
  rintro f w b;refine gM 1 ?_ ?_<;>intro u ad
  ·refine gG 2 ?_;intro w b;replace b:=b.px [3];obtain⟨⟨a,c,A,C⟩,b⟩:=Aa.unbox b;replace b:Aa B _ _ (Ad x.p.wb (Cr x.p (Xg x.p.lo (Xl x.p.ps s.Z (AU x.args px)).2 (X9 x.args Af) (X9 x.args X7)).2) 115::Bc x.p.tb (Xg x.p.lo (Xl x.p.ps s.Z (AU x.args px)).2 (X9 x.args Af) (X9 x.args X7)).2.room a c (Xg x.p.lo (Xl x.p.ps s.Z (AU x.args px)).2 (X9 x.args Af) (X9 x.args X7)).2.l (Ad x.p.mb [.slice A (Xg x.p.lo (Xl x.p.ps s.Z (AU x.args px)).2 (X9 x.args Af) (X9 x.args X7)).2.D.length C] 225::CA 41 (.slice A (Xg x.p.lo (Xl x.p.ps s.Z (AU x.args px)).2 (X9 x.args Af) (X9 x.args X7)).2.D.length C) ((Xg x.p.lo (Xl x.p.ps s.Z (AU x.args px)).2 (X9 x.args Af) (X9 x.args X7)).2.D.map λd=>Ba (d:Nat))::_)):=b;refine gD [7,0,4] [] [0,1,2,3,4,5,6,7,8] ?_;intro w b;refine gE 8 (tR x.p.tb (Xg x.p.lo (Xl x.p.ps s.Z (AU x.args px)).2 (X9 x.args Af) (X9 x.args X7)).2.room a c (Xg x.p.lo (Xl x.p.ps s.Z (AU x.args px)).2 (X9 x.args Af) (X9 x.args X7)).2.l (oh o.len) { (getD (Xg x.p.lo (Xl x.p.ps s.Z (AU x.args px)).2 (X9 x.args Af) (X9 x.args X7)).2.l (Xg x.p.lo (Xl x.p.ps s.Z (AU x.args px)).2 (X9 x.args Af) (X9 x.args X7)).1.1.B4)with A4:=1 } (Xp2 o.wf _).1 (Xp2 o.wf _).2 e.wp.known e.wp.pre) ?_;intro w b;refine gG 0 ?_;replace b:=Aa.box (T:=Bl x.p (Oz (Xg x.p.lo (Xl x.p.ps s.Z (AU x.args px)).2 (X9 x.args Af) (X9 x.args X7)).2 { (getD (Xg x.p.lo (Xl x.p.ps s.Z (AU x.args px)).2 (X9 x.args Af) (X9 x.args X7)).2.l (Xg x.p.lo (Xl x.p.ps s.Z (AU x.args px)).2 (X9 x.args Af) (X9 x.args X7)).1.1.B4)with A4:=1 })) (a,c,A,C) (b.px [4,4,3,3,4]);exact cd () (by rw[Y7 u];exact(b.z [3,3] 3 1))
  exact gG 0 (cd () (by rw[Y3 (nB u)];exact(b.z [3,3,3] 3 1)))
 rintro _ w b;refine gE 2 (Xik (Xg x.p.lo (Xl x.p.ps s.Z (AU x.args px)).2 (X9 x.args Af) (X9 x.args X7)).1.1.url (Xg x.p.lo (Xl x.p.ps s.Z (AU x.args px)).2 (X9 x.args Af) (X9 x.args X7)).1.1.fu (Xg x.p.lo (Xl x.p.ps s.Z (AU x.args px)).2 (X9 x.args Af) (X9 x.args X7)).1.1.B4 (Yr CT.1 de) CT.2.1 CT.2.2 e.kz.kn) ?_;intro w b;refine gG 6 ?_;intro w b;have K:Dv (Xq x.p G) x.args px g s={ s with Z:=(if g=true then Oz (Xg x.p.lo (Xl x.p.ps s.Z (AU x.args px)).2 (X9 x.args Af) (X9 x.args X7)).2 { (getD (Xg x.p.lo (Xl x.p.ps s.Z (AU x.args px)).2 (X9 x.args Af) (X9 x.args X7)).2.l (Xg x.p.lo (Xl x.p.ps s.Z (AU x.args px)).2 (X9 x.args Af) (X9 x.args X7)).1.1.B4)with A4:=1 } else(Xg x.p.lo (Xl x.p.ps s.Z (AU x.args px)).2 (X9 x.args Af) (X9 x.args X7)).2),call:=(bX (Xg x.p.lo (Xl x.p.ps s.Z (AU x.args px)).2 (X9 x.args Af) (X9 x.args X7)).1.1.url (Xg x.p.lo (Xl x.p.ps s.Z (AU x.args px)).2 (X9 x.args Af) (X9 x.args X7)).1.1.fu (Xg x.p.lo (Xl x.p.ps s.Z (AU x.args px)).2 (X9 x.args Af) (X9 x.args X7)).1.1.B4).1 }:=by
  unfold Dv Xq;dsimp only
  rw[Y3 L];exact Y3 (oh y)
 rw[K];exact⟨O,H,i,k,n,⟨t.1,t.2.mono n⟩,b.s⟩
theorem Xqa(d:Qc)(x:Lp)(s:Bi)(a:Oa)(b:Nat)(i:A9 s.Z)(h:BV I x)(c:Gb I a b s.An)(N:La)(f:Aa B w I (BL x s a b::AV x.p s.Z::N)):
  Cz 141 [ptr x.tp 0] w λv w'=>v=.tuple #[]/\∃J a b,Le I J/\Gb J a b (Dv (Xq x.p d) x.args false false s).An/\Aa B w' J (BL x (Dv (Xq x.p d) x.args false false s) a b::AV x.p (Dv (Xq x.p d) x.args false false s).Z::N):=by
 refine gF 1 (th d _ _ x s a b i h c) ?_;rintro _ w ⟨rfl,J,j,k,g,e,f⟩;exact gG 0 ⟨O,J,j,k,g,e,f⟩
theorem Xq9(d:Qc)(x:Lp)(s:Bi)(a:Oa)(b:Nat)(i:A9 s.Z)(h:BV I x)(c:Gb I a b s.An)(N:La)(f:Aa B w I (BL x s a b::AV x.p s.Z::N)):
  Cz 142 [ptr x.tp 0] w λv w'=>v=.tuple #[]/\∃J a b,Le I J/\Gb J a b (Dv (Xq x.p d) x.args true false s).An/\Aa B w' J (BL x (Dv (Xq x.p d) x.args true false s) a b::AV x.p (Dv (Xq x.p d) x.args true false s).Z::N):=by
 refine gF 1 (th d _ _ x s a b i h c) ?_;rintro _ w ⟨rfl,J,j,k,g,e,f⟩;exact gG 0 ⟨O,J,j,k,g,e,f⟩
theorem Xdw(d:Qc)(x:Lp)(s:Bi)(a:Oa)(b:Nat)(i:A9 s.Z)(h:BV I x)(c:Gb I a b s.An)(N:La)(f:Aa B w I (BL x s a b::AV x.p s.Z::N)):
  Cz 143 [ptr x.tp 0] w λv w'=>v=.tuple #[]/\∃J a b,Le I J/\Gb J a b (Dv (Xq x.p d) x.args false true s).An/\Aa B w' J (BL x (Dv (Xq x.p d) x.args false true s) a b::AV x.p (Dv (Xq x.p d) x.args false true s).Z::N):=by
 refine gF 1 (th d _ _ x s a b i h c) ?_;rintro _ w ⟨rfl,J,j,k,g,e,f⟩;exact gG 0 ⟨O,J,j,k,g,e,f⟩
theorem Xdv(d:Qc)(x:Lp)(s:Bi)(a:Oa)(b:Nat)(i:A9 s.Z)(h:BV I x)(c:Gb I a b s.An)(N:La)(f:Aa B w I (BL x s a b::AV x.p s.Z::N)):
  Cz 144 [ptr x.tp 0] w λv w'=>v=.tuple #[]/\∃J a b,Le I J/\Gb J a b (Dv (Xq x.p d) x.args true true s).An/\Aa B w' J (BL x (Dv (Xq x.p d) x.args true true s) a b::AV x.p (Dv (Xq x.p d) x.args true true s).Z::N):=by
 refine gF 1 (th d _ _ x s a b i h c) ?_;rintro _ w ⟨rfl,J,j,k,g,e,f⟩;exact gG 0 ⟨O,J,j,k,g,e,f⟩
def OA(g:Cg)(k:Nat)(l:List Pq)(ck:List UInt8)(s:Bi):Bi:=match k with
 | 0=>D_ g l ck s
 | 1=>FM g l s
 | 2=>Hq g ck s
 | 3=>uQ g l s
 | 4=>Dv g l false false s
 | 5=>Dv g l true false s
 | 6=>Dv g l false true s
 | 7=>Dv g l true true s
 | _=>uK g l s
def Lf:List Nat:=[137,138,139,140,141,142,143,144,145]
def C6:List Lu:=[[71,69,84,32,47,108,111,103,105,110],[80,79,83,84,32,47,108,111,103,105,110],[71,69,84,32,47,108,111,103,111,117,116],[71,69,84,32,47,118,97,108,105,100,97,116,101],[71,69,84,32,47,115,101,114,118,105,99,101,86,97,108,105,100,97,116,101],[71,69,84,32,47,112,114,111,120,121,86,97,108,105,100,97,116,101],[71,69,84,32,47,112,51,47,115,101,114,118,105,99,101,86,97,108,105,100,97,116,101],[71,69,84,32,47,112,51,47,112,114,111,120,121,86,97,108,105,100,97,116,101],[71,69,84,32,47,112,114,111,120,121]]
theorem W1(s:Bi)(n a:Lu):(F8 s n a).q=s.q:=by unfold F8 Di;split<;>rfl
theorem dv{g:Cg}{l:List Pq}{ck:Lu}{s:Bi}(d:k≠2):(OA g k l ck s).q=s.q:=by
 have c:∀a b,(Dv g l a b s).q=s.q:=λa b=>by
  unfold Dv;dsimp only
  (repeat' split)
  all_goals rfl
 match k,d with
 | 0,_=>show(D_ g l ck s).q=s.q;unfold D_ Di;dsimp only;(repeat' split)<;>first|rfl|exact W1 _ _ _
 | 1,_=>show(FM g l s).q=s.q;unfold FM H6 Di;dsimp only;(repeat' split)<;>first|rfl|exact W1 _ _ _
 | 3,_=>rfl
 | 4,_=>exact c _ _
 | 5,_=>exact c _ _
 | 6,_=>exact c _ _
 | 7,_=>exact c _ _
 | k+8,_=>rfl
theorem sZ{Z:Wd}(h:A9 Z)(t:Lu):A9 (K4 Z t):=by
 unfold K4;split
 ·exact cN h t
 ·exact h
theorem O4{s:Bi}(h:A9 s.Z)(n a:Lu):A9 (F8 s n a).Z:=by unfold F8 Di;split<;>exact Hu h _
theorem NF{g:Cg}{l:List Pq}{sv:Lu}{s:Bi}(h:A9 s.Z):A9 (H6 g l Az sv s).Z:=by
 unfold H6 Di;dsimp only
 repeat' split
 all_goals first|exact h|exact Xp5 h _ _ _
theorem mH{g:Cg}{l:List Pq}{ck:Lu}{s:Bi}(h:A9 s.Z):A9 (OA g k l ck s).Z:=by
 have d:∀a b,A9 (Dv g l a b s).Z:=λa b=>by
  have c:=nZ (ps:=g.ps) h (AU l a);have e:=Xv5 (lo:=g.lo) c (X9 l Af) (X9 l X7);unfold Dv;dsimp only;split
  ·exact c
  ·split
   ·exact e
   ·dsimp only;split
    ·exact uw e _
    ·exact e
 match k with
 | 0=>show A9 (D_ g l ck s).Z;unfold D_ Di;dsimp only;(repeat' split)<;>first|exact h|exact O4 h _ _|exact Xp5 h _ _ _
 | 1 =>
  have c:=Xpk (us:=g.us) (ps:=g.ps) h (X9 l HF) (X9 l Xp) (X9 l Xv);show A9 (FM g l s).Z;unfold FM Di;dsimp only;repeat' split
  all_goals first|exact h|exact c|exact O4 c _ _|exact NF c
 | 2=>show A9 (Hq g ck s).Z;unfold Hq Di;dsimp only;split<;>exact sZ h ck
 | 3=>exact nZ h _
 | 4=>exact d _ _
 | 5=>exact d _ _
 | 6=>exact d _ _
 | 7=>exact d _ _
 | k+8=>exact R9 h _ _
def gx(x:Lp)(e:Qc)(F:Bi)(B:Wo)(I:Im)(N:La)(v:Va)(w':Wo):Prop :=
 v=.tuple #[]/\∃J a b c d,Le I J/\Gb J a b F.An/\CD J c d F.q/\Aa B w' J (BL x F a b::Ey x.qb e F.q c d::AV x.p F.Z::N)
theorem gW{x:Lp}{k:Qc}{F:Bi}{q:List Nt}{c:Oa}{d f:Nat}(j:F.q=q)(i:CD I c d q)
  (h:Calls prog f #[ptr x.tp 0] w (AY λv w'=>v=.tuple #[]/\∃J a b,Le I J/\Gb J a b F.An/\Aa B w' J (BL x F a b::AV x.p F.Z::Ey x.qb k q c d::N))):Calls prog f #[ptr x.tp 0] w (AY (gx x k F B I N)) :=
 h.mono λe w' ⟨v,n,o,J,a,b,g,l,m⟩=>⟨v,n,o,J,a,b,c,d,g,l,by rw[j];exact⟨i.1,i.2.mono g⟩,by rw[j];exact m.x [2,1]⟩
theorem ZV(c:Qc)(j:Oa)(l:Nat)(x:Lp)(s:Bi)(d:Oa)(e:Nat)(h:A9 s.Z)(n:FK s.q)(g:BV I x)(f:CD I j l s.q)(b:Gb I d e s.An)(N:La)(m:Aa B w I (BL x s d e::Ey x.qb c s.q j l::AV x.p s.Z::N))(k:Nat)(i:k<9):
  Calls prog (Lf.getD k 0) #[ptr x.tp 0] w (AY (gx x c (OA (Xq x.p c) k x.args x.ck s) B I N)):=by
 have a:=(m.pick 2 O).pick 1 O
 match k,i with
 | 0,_=>exact gW (dv (k:=0) de) f (M6 c x s d e h g _ a)
 | 1,_=>exact gW (dv (k:=1) de) f (Xu5 c x s d e h g _ a)
 | 2,_=>exact Xqb c j l x s d e h n.1 g f N m
 | 3,_=>exact gW (dv (k:=3) de) f (M7 c x s d e h g _ a)
 | 4,_=>exact gW (dv (k:=4) de) f (Xqa c x s d e h g b _ a)
 | 5,_=>exact gW (dv (k:=5) de) f (Xq9 c x s d e h g b _ a)
 | 6,_=>exact gW (dv (k:=6) de) f (Xdw c x s d e h g b _ a)
 | 7,_=>exact gW (dv (k:=7) de) f (Xdv c x s d e h g b _ a)
 | 8,_=>exact gW (dv (k:=8) de) f (M5 c x s d e h g _ a)
 | k+9,i=>exact Aw i om
def vB(p:Wp)(Z:Wd):Oa×Nat->La:=λ⟨a,c⟩=>[Ad p.wb (Cr p Z) 115,Ad p.tb [Ab Z.room,.slice a Z.l.length c] 158,Ao 160 10 (.slice a Z.l.length c) Z.l.length (CI Z.l)]
abbrev rM(p:Wp)(Z:Wd):X1:=mY (vB p Z)
theorem ze(p:Wp)(Z:Wd):(Cr p Z).length=26:=rfl
abbrev DR(c b d a:Nat):X1:=Ad c [ptr b 0,ptr d 0,ptr a 0] 96
theorem w4(t:Qc)(u A h:Nat)(m:Oa)(n:Nat)(q:List Nt)(p:Wp)(Z:Wd)(E:A9 Z)(G:FK q)(D:CD I m n q)(N:La)(b:Aa B w I (DR u A p.wb h::AV p Z::Ey h t q m n::N)):
  Cz 78 [ptr u 0] w λv w'=>∃J tp z nb i d e,v=ptr tp 0/\Le I J/\CD J d e q/\Aa B w' J (BL ⟨tp,z,{ p with wb:=nb,tb:=i },none,0,[],[]⟩ ⟨Z,q,fJ,[],false⟩ none 0::Ey z t q d e::AV { p with wb:=nb,tb:=i } Z::rM p Z::DR u A p.wb h::Ey h t q m n::N):=by
 refine gG 1 ?_;replace b:=b.px [1];obtain⟨a,c,H,K,b⟩:=EJ b;refine gH 5 ?_;refine .val (.D6 (.of O) b (k:=0) O isAgg115 sizeOf115 O (λj v F=>by rw[Yl];exact F)) O ?_;refine gH 1 ?_;intro y w b;refine .so b (k:=0) O O O O sizeOf115 O sz ?_;intro w b;try dsimp only[List.set]at b
 refine gH 1 (.val (.lo O b (k:=0) O Jh O) O (gF 0 (Xqz _ Z.room a c Z.l (oh E.len)) ?_));rintro _ w ⟨i,L,M,rfl,b⟩;refine gH 1 (.s1 b (k:=4) O O O O jV (by simp[ze]) ?_);intro w b;try dsimp only[List.set]at b
 refine gP 4 [9] (SQ h _ _ _ _ m n q (oh G.1) D.2 _) ?_;rintro _ w ⟨C,P,d,e,rfl,s,g,f,b⟩;have r:=Le.refl I;refine gG 3 ?_;intro o w b;replace b:=Aa.box (T:=vB p Z) (a,c) (b.px [6,6,8]);replace b:=Aa.box (T:=Bl { p with wb:=y,tb:=i } Z) (L,M,H,K) (b.px [8,8,7,7,8]);exact⟨C,o,P,y,i,d,e,O,r.trans s,⟨g,f⟩,(b.x [4,5,3,3,5,5])⟩
theorem YP(r s:Nt)(w:Wo):(Op.equalIn 10000 103 (.agg (X6 r).toArray) (.agg (X6 s).toArray)).run prog w=.ok (decide (r=s)) w:=by
 have a:prog.underlying 103=some (.struct (prog.fieldsOf 103)):=by kernel_rfl
 have b:prog.stoodInHeld 103=false:=by kernel_rfl
 rw[show(10000:Nat)=9999+1 from O,run_equalIn_agg w 9999 103 _ _ a b];simp only[Program.fieldsOf,ij]
 obtain⟨t,u,k,n⟩:=r;obtain⟨t',e,c,d⟩:=s;unfold X6
 go_simp
 repeat' split
 all_goals simp_all
theorem Ex.zS{g:Option (Nat×Bool)}{x y:Operand}{r s:Nt}(hx:Ev n L x (.agg (X6 r).toArray))(a:Ev n L y (.agg (X6 s).toArray)):Ex prog n L w ⟨d,.binOp .eql 103 x y t',ty,pos,af,g⟩ (.bool (decide (r=s))) w :=
 C8 hx a (λp q=>run_eqGuard_agg w _ _ _ _ _ _ kr) (by rw[run_eql_struct,YP];rfl)
theorem Xtj(a:Oa)(c:Nat)(l:List Nt)(D:l.length<=100000)(n:Nt)(z:RS I a 4 l.length (X2 X6 l))(N:La)(b:Aa B w I N):
  Ce B I N 330 [.slice a l.length c,.agg (X6 n).toArray] w (Ab (EP (λt=>decide (n=t)) l 0)):=by
 refine gG 5 ?_;intro v w b;refine .lk [0,3,7] (σ:=Nat) (λi _m=>(8,Ab (i:Nat))::_m) (λi w=>i<=l.length/\(∀(j:Nat) t,j<i->l[j]?=some t->decide (n=t)=false)/\Aa B w I (Ad v (X6 n) 103::N)) (λi=>l.length-i) 0 ⟨Y5 _,λ_ _ h=>Aw h om,b⟩ ?_;rintro i w ⟨hi,g,b⟩;refine gN 1 ?_ ?_<;>intro A
 ·refine gG 2 ?_;obtain⟨x,hx⟩:∃x,l[i]?=some x:=⟨_,Y2 om⟩
  obtain⟨q,rfl,o⟩:=Bv (cells:=X6) (λ_=>rfl) z hx;refine gQ ?_;intro w b;refine AN.y 0 (λw _ _ d b=>(.D6 (.of O) b (k:=0) O oq QT O (λ_ _ h=>by rw[Yl];exact h))) ?_;refine gH 2 (AN.y 3 (λw _ _ d b=>(Ex.as (.ii O O om om TP QT) (by rw[Yh]))) ?_);refine AN.y 4 (λw _ _ d b=>(.D7 (.of O) b (o.mono d) oq QT O (λ_ _ h=>h))) (AN.y 5 (λw _ _ d b=>Ex.zS (r:=n) (.of O) (.of O)) ?_);refine gM 0 ?_ ?_<;>intro f u
  ·exact gG 2 ⟨by rw[jG g hx f],b.s⟩
  refine gG 2 (rd (i+1) ⟨om,λj t C m=>?_,b⟩);rcases Yz j i with p|p
  ·exact g j t p m
  ·have e:j=i:=om
   subst e;rw[hx]at m;cases m;exact f
 exact gG 1 ⟨by rw[jF (λj t m=>g j t (oh ((Y1.1 m).1)) m)],b.s⟩
theorem Xi8(a:Oa)(c:Nat)(l:List Nt)(e:l.length<=100000)(n:Nt)(d:RS I a 4 l.length (X2 X6 l))(N:La)(b:Aa B w I N):
  Ce B I N 247 [.slice a l.length c,.agg (X6 n).toArray] w (.bool (l.contains n)):=by
 refine gH 4 ?_;intro f w b;refine gE 0 (Xtj a c l e n d) ?_;intro w b;refine gG 2 (⟨Ye Value.bool ?_,b.s⟩);rw[cK (λt=>decide (n=t)) l 0,List.contains_eq_any_beq];rfl
theorem Ro(r n:Nt)(a:Nat)(N:La)(b:Aa B w I (Ad a (X6 n) 103::N)):
  Ce B I (Ad a (X6 n) 103::N) 246 [.agg (X6 r).toArray,ptr a 0] w (.bool (r.ticket==n.ticket)):=by
 refine gG 8 ?_;intro c w b;exact⟨O,b.s⟩
theorem Wb(a:Oa)(c:Nat)(l:List Nt)(f:l.length<=100000)(n:Nt)(e:RS I a 4 l.length (X2 X6 l))(N:La)(b:Aa B w I N):
  Ce B I N 245 [.slice a l.length c,.agg (X6 n).toArray] w (Ab (Kf l n.ticket)):=by
 refine gH 4 ?_;intro d w b;refine gP 0 [] (vO a c l om (λt=>t.ticket==n.ticket) 246 _ func246 O _ _ (λw h=>Ob (cells:=X6) (λ_=>rfl) h e) (λr g w h=>Ro r n d _ h)) ?_;rintro _ w ⟨rfl,b⟩;exact gG 1 ⟨O,b.s⟩
theorem yE{a b:List Nt}(c:a.length<=1000)(f:b.length<=1000)(i:Nat):(((a.take i).filter λn=>decide (Kf b n.ticket<0)).map (λn=>(⟨BS++n.ticket,[],true⟩:Ch))).length<=1000/\(Vp a b++((b.take i).filter λn=>!a.contains n).map (λn=>(⟨BS++n.ticket,(IV n).1,false⟩:Ch))).length<=2000/\(Vp a b++Sl a b).length<=2000:=by
 have d:∀i,(((a.take i).filter λn=>decide (Kf b n.ticket<0)).map (λn=>(⟨BS++n.ticket,[],true⟩:Ch))).length<=a.length:=λi=>by rw[Ym];exact Yr (EV ..) (by rw[Yj];omega)
 have g:(Vp a b).length<=a.length:=by unfold Vp;rw[Ym];exact EV ..
 have e:∀i,(((b.take i).filter λn=>!a.contains n).map λn=>(⟨BS++n.ticket,(IV n).1,false⟩:Ch)).length<=b.length:=λi=>by rw[Ym];exact Yr (EV ..) (by rw[Yj];omega)
 have h:(Sl a b).length<=b.length:=by unfold Sl;rw[Ym];exact EV ..
 refine⟨Yr (d i) c,?_,?_⟩
 ·have:=e i;rw[Y0];omega
 ·rw[Y0];omega
theorem Xsg(a lb:List Nt)(s t:Oa)(C D:Nat)(j:a.length<=1000)(k:lb.length<=1000)(u:∀n∈a,n.ticket.length<=1000000/\n.url.length<=1000000)(y:∀n∈lb,n.ticket.length<=1000000/\n.url.length<=1000000)(W:Kx I)(X:AR I)(m:RS I s 4 a.length (X2 X6 a))(o:RS I t 4 lb.length (X2 X6 lb))(N:La)(b:Aa B w I N):
  Cz 152 [.slice s a.length C,.slice t lb.length D] w λv w'=>∃d,v=d/\Aa B w' I (Ao 237 3 d (QI a lb).length (X2 DP (QI a lb))::N):=by
 have e:=b.Al 237 3;clear b;refine gG 6 (.lk [0,1,6,13,14] (σ:=Nat×Va) (λ(i,d) _m=>(5,d)::(15,Ab (i:Nat))::_m) (λ(i,d) w=>i<=a.length/\Aa B w I (Ao 237 3 d (((a.take i).filter λn=>decide (Kf lb n.ticket<0)).map (λn=>(⟨BS++n.ticket,[],true⟩:Ch))).length (X2 DP (((a.take i).filter λn=>decide (Kf lb n.ticket<0)).map (λn=>(⟨BS++n.ticket,[],true⟩:Ch))))::N)) (λ(i,d)=>a.length-i) (0,.slice none 0 0) ⟨Y5 _,e⟩ ?_);rintro⟨i,d⟩ w ⟨hi,b⟩;clear e;refine gM 1 ?_ ?_<;>intro E F
 ·obtain⟨x,hx⟩:∃x,a[i]?=some x:=⟨_,Y2 om⟩
  obtain⟨q,rfl,A⟩:=Bv (cells:=X6) (λ_=>rfl) m hx;refine gH 7 ?_;intro Y w b;refine .Bu (cap:=[]) func245 O (.of O) (AM O (AM O X3)) O (Wb t D lb om x o _ b) ?_;rintro _ w ⟨rfl,b⟩;refine gM 1 ?_ ?_<;>intro f G
  ·have h:=(yE j k i).1;have l:=u x (Y8 hx);refine gG 10 ?_;intro Q K S p w b;refine Br (i+1,_) O ⟨om,?_⟩;rw[gz _ a i x hx,Y7 (su f),Yn,Yw,EK,TD,Y0];exact(b.z [1] 1 1)
  refine gG 2 (Br (i+1,_) O ⟨om,?_⟩);rw[gz _ a i x hx,Y3 (su f),Yx];exact(b.z [1] 1 1)
 refine gG 3 ?_;rw[show a.take i=a from Yk om]at b;have V:Vp a lb++((lb.take 0).filter λn=>!a.contains n).map (λn=>(⟨BS++n.ticket,(IV n).1,false⟩:Ch))=Vp a lb:=by simp
 have e:=b;clear b;refine .lk [0,1,32,33] (σ:=Nat×Va) (λ(i,d) _m=>(5,d)::(34,Ab (i:Nat))::_m) (λ(i,d) w=>i<=lb.length/\Aa B w I (Ao 237 3 d (Vp a lb++((lb.take i).filter λn=>!a.contains n).map (λn=>(⟨BS++n.ticket,(IV n).1,false⟩:Ch))).length (X2 DP (Vp a lb++((lb.take i).filter λn=>!a.contains n).map (λn=>(⟨BS++n.ticket,(IV n).1,false⟩:Ch))))::N)) (λ(i,d)=>lb.length-i) (0,d) ⟨Y5 _,by rw[V];exact e⟩ ?_;rintro⟨i,d⟩ w ⟨hi,b⟩;clear e;refine gN 1 ?_ ?_<;>intro H
 ·obtain⟨x,hx⟩:∃x,lb[i]?=some x:=⟨_,Y2 om⟩
  obtain⟨q,rfl,A⟩:=Bv (cells:=X6) (λ_=>rfl) o hx;refine gH 6 ?_;intro P w b;refine gE 0 (Xi8 s C a om x m) ?_;intro w b;refine gM 1 ?_ ?_<;>intro g J
  ·have l:=y x (Y8 hx);refine gE 1 (Uk x l.1 l.2 W X) ?_;intro w b;have h:=(yE j k i).2.1;refine gG 14 ?_;intro R M T r w b;refine gG 2 ?_;have U:∀(L:List Ch) (c:Ch),(L++[c]).length=L.length+1:=λL c=>by simp
   refine Br (i+1,_) O ⟨om,?_⟩;rw[gz _ lb i x hx,Y7 g,Yn,Yw,EK,<-Yg,TD,U];exact(b.z [1] 1 1)
  refine gG 2 (Br (i+1,_) O ⟨om,?_⟩);rw[gz _ lb i x hx,Y3 (nB g),Yx];exact(b.z [1] 1 1)
 rw[show lb.take i=lb from Yk om]at b;have h:=(yE j k i).2.2;refine gC 1 (Xqo 249 Xsf (Vp a lb++Sl a lb) d 0 _ b O om) ?_;rintro _ w ⟨rfl,b⟩;exact gG 2 ⟨_,O,b⟩
structure Kp where
 sb:Nat
 lg:Nat
 db:Nat
 kb:Nat
 mv:Va
 us:Va
 sv:Va
 pl:Va
def l4(x:Kp)(s:St):Unit->La:=λ_=>[Ad x.sb [ptr x.lg 0,x.mv] 141,Ad x.lg [ptr x.db 0,Ab (s.log).gen,Ab (s.log).AG,Ab (s.log).used,x.us] 229,Ad x.db [.slice (some (ad x.kb 0)) (s.log).d.kept.length (s.log).d.kept.length,x.sv,x.pl,.bool (s.log).d.off,Ab (s.log).d.left] 86,Ad x.kb (X2 Aj (s.log).d.kept) 292,Ao 294 33 x.sv (s.log).d.Ae.length (X2 E8 (s.log).d.Ae),Cq x.mv (s.Av)]
abbrev EN(x:Kp)(s:St):X1:=mY (l4 x s)
structure Dq(J:Im)(x:Kp)(s:St):Prop where
 st:H5 s
 Au:Ay J x.pl s.log.d.Au
 data:Bh J x.us s.log.data
 hv:AZ J
theorem Dq.mono{x:Kp}{s:St}(h:Dq I x s)(a:Le I J):Dq J x s:=⟨h.st,h.Au.mono a,h.data.mono a,h.hv.mono a⟩
theorem Xsj(x:Kp)(s:St)(l:List Ch)(a:Oa)(c0:Nat)(m:∀x∈l,x.key.length<=1000000/\x.val.length<=1000000)(k:l.length<=100000)(i:RS I a 3 l.length (X2 DP l))(b:Dq I x s)(j:s.Av.length<=900000)(N:La)(c:Aa B w I (EN x s::N)):
  Cz 154 [ptr x.sb 0,.slice a l.length c0] w λv w'=>∃J y,v=Ab ((EB s l).1:Nat)/\Le I J/\y.sb=x.sb/\y.db=x.db/\Dq J y (EB s l).2/\Aa B w' J (EN y (EB s l).2::N):=by
 obtain⟨_,c⟩:=Aa.unbox c;exact(Xsk s x.sb x.lg x.db x.kb x.mv x.us x.sv x.pl l a c0 m k b.hv i b.st j b.Au b.data N c).mono λe w' ⟨v,q,J,d,h,g,f,r,n,o,p,c⟩ =>
  ⟨v,q,J,{ x with mv:=d,us:=h,sv:=g,pl:=f },r,n,O,O,⟨(Xzc b.st l).1,o,p,b.hv.mono n⟩,Aa.box (T:=l4 { x with mv:=d,us:=h,sv:=g,pl:=f } (EB s l).2) () c⟩
theorem Xob(x:Kp)(s:St)(a:Dq I x s)(g:s.Av.length<=900000)(N:La)(b:Aa B w I (EN x s::N)):
  Cz 89 [ptr x.sb 0] w λv w'=>∃J y,v=Ab ((Ho s).1:Nat)/\Le I J/\y.sb=x.sb/\y.db=x.db/\Dq J y (Ho s).2/\Aa B w' J (EN y (Ho s).2::N):=by
 obtain⟨_,b⟩:=Aa.unbox b;exact(Xoc s x.sb x.lg x.db x.kb x.mv x.us x.sv x.pl a.hv a.st g a.Au a.data N b).mono λe w' ⟨v,k,J,f,d,c,l,h,i,j,b⟩ =>
  ⟨v,k,J,{ x with us:=f,sv:=d,pl:=c },l,h,O,O,⟨Xsl a.st,i,j,a.hv.mono h⟩,Aa.box (T:=l4 { x with us:=f,sv:=d,pl:=c } (Ho s).2) () b⟩
theorem ef(r:Ah):(LH r).1.length<=1000:=by
 unfold LH;split
 ·rename_i h
  have a:=nA h;unfold Dh at h;simp only[Yb,decide_eq_true_eq]at h
  simp only[F9,LI,IE,Yw,EK,Gg,List.flatten_nil,Y0,Y4,Yi,gS]
  omega
 ·exact Y5 _
theorem ee(n:Nt):(IV n).1.length<=1000:=by
 by_cases h:(IV n).2=0
 ·have b:=(d_ h).2
  have:DD n=true:=by
   unfold IV at h;split at h
   ·assumption
   ·cases h
  unfold DD at this;simp only[Yb,decide_eq_true_eq]at this
  omega
 ·unfold IV at h ⊢;split at h
  ·exact Aw O h
  ·rename_i a;rw[Y3 a];exact Y5 _
theorem dV{c d:List Ah}{e f:List Nt}(j:∀r∈c,r.name.length<=1000000)(k:∀r∈d,r.name.length<=1000000)(g:∀n∈e,n.ticket.length<=900000)(i:∀n∈f,n.ticket.length<=900000):∀x∈QU c d++QI e f,x.key.length<=1000000/\x.val.length<=1000000:=by
 intro x hx;rcases Yt.1 hx with hx|hx
 ·rcases Yt.1 ((wT _).mem_iff.1 hx)with hx|hx
  ·obtain⟨r,a,rfl⟩:=Dj.1 hx;exact⟨j r (Ik.1 a).1,Y5 _⟩
  ·obtain⟨r,a,rfl⟩:=Dj.1 hx;exact⟨k r (Ik.1 a).1,Yr (ef r) de⟩
 ·have b:∀n:Nt,n.ticket.length<=900000->(BS++n.ticket).length<=1000000:=λn h=>by rw[Y0];have:BS.length=5:=rfl;omega
  rcases Yt.1 ((wT _).mem_iff.1 hx)with hx|hx
  ·obtain⟨r,a,rfl⟩:=Dj.1 hx;exact⟨b r (g r (Ik.1 a).1),Y5 _⟩
  ·obtain⟨r,a,rfl⟩:=Dj.1 hx;exact⟨b r (i r (Ik.1 a).1),Yr (ee r) de⟩
theorem Xvc{la lb:List Ah}{qa qb:List Nt}(e:la.length<=64)(f:lb.length<=64)(g:qa.length<=64)(h:qb.length<=64):(QU la lb).length<=128/\(QI qa qb).length<=128:=by
 unfold QU QI;rw[pO,pO,Y0,Y0];unfold Vq YL Vp Sl;simp only[Ym]
 have a:=EV (λx:Ah=>decide (BE lb x.name<0)) la;have b:=EV (λx:Ah=>!(get la x.name).isSome||!decide (getD la x.name=x)) lb;have c:=EV (λn:Nt=>decide (Kf qb n.ticket<0)) qa;have d:=EV (λn:Nt=>!qa.contains n) qb;omega
theorem pA{p e:Wp}{Z Z2:Wd}(m:e={ p with wb:=e.wb,tb:=e.tb })(b:Aa B w I (rM p Z::AV e Z2::N)):Aa B w I (AV p { Z with D:=Z2.D }::N):=by
 obtain⟨⟨a,c⟩,b⟩:=Aa.unbox b;replace b:=b.pick 3 O;obtain⟨⟨h,i,f,g⟩,b⟩:=Aa.unbox b;have j:e.mb=p.mb:=by rw[m]
 replace b:Aa B w I (Ad e.wb (Cr e Z2) 115::Bc e.tb Z2.room h i Z2.l (Ad e.mb [.slice f Z2.D.length g] 225::CA 41 (.slice f Z2.D.length g) (Z2.D.map λd=>Ba (d:Nat))::Ad p.wb (Cr p Z) 115::Bc p.tb Z.room a c Z.l N)):=b;rw[j]at b;replace b:=((b.drop (k:=0) O).drop (k:=0) O).drop (k:=0) O;exact Aa.box (T:=Bl p _) (a,c,f,g) (b.x [4,4,4])
theorem nL{q:List Nt}(h:FK q):∀n∈q,n.ticket.length<=900/\n.url.length<=1000000:=λn c=>by
 have:=h.2 n c
 unfold DD at this;simp only[Yb,decide_eq_true_eq]at this
 have e:n.ticket.length<=23:=by
  have a:=this.1.1.1.1.1;unfold jR R8 at a;cases b:Xi n.ticket with
  | none=>rw[b]at a;simp at a
  | some x=>exact(cL (k:=x.1) (d:=x.2) b).2.2.2.1
 exact⟨om,om⟩
theorem tW(qc:Qc)(V qb:Nat)(qa L:Oa)(qk M:Nat)(p:Wp)(Z:Wd)(q:List Nt)(k:St)(x:Kp)(y:Lp)(t:Bi)(W:Oa)(X:Nat)(hz:A9 Z)(G:A9 t.Z)(Y:FK q)(f:FK t.q)(ar:k.Av.length<=900000)(hy:y.p={ p with wb:=y.p.wb,tb:=y.p.tb })(hI:BU I p)(U:Kz I)(hQ:CD I qa qk q)(F:CD I L M t.q)(hK:Dq I x k)(N:La)(b:Aa B w I (DR V x.sb p.wb qb::rM p Z::Ey qb qc q qa qk::BL y t W X::Ey y.qb qc t.q L M::AV y.p t.Z::EN x k::N)):
  Cz 81 [ptr V 0,ptr y.tp 0] w λv w'=>∃J p9 af ae ah x9,v=Ab ((DU ⟨Z,q,k⟩ t).1:Nat)/\Le I J/\(∃wb tb,p9={ p with wb:=wb,tb:=tb })/\x9.sb=x.sb/\x9.db=x.db/\Dq J x9 (DU ⟨Z,q,k⟩ t).2.k/\CD J ae ah (DU ⟨Z,q,k⟩ t).2.q/\Aa B w' J (DR V x9.sb p9.wb af::AV p9 (DU ⟨Z,q,k⟩ t).2.Z::Ey af qc (DU ⟨Z,q,k⟩ t).2.q ae ah::EN x9 (DU ⟨Z,q,k⟩ t).2.k::BL y t W X::N):=by
 refine gM 5 ?_ ?_<;>intro u a8
 ·refine gG 1 ?_;have e9:DU ⟨Z,q,k⟩ t=(0,⟨{ Z with D:=t.Z.D },q,k⟩):=by
   unfold DU;exact Y7 (su u)
  rw[e9];replace b:=pA hy ((b.pick 5 O).pick 2 O);exact⟨I,p,qb,qa,qk,x,O,Le.refl _,⟨p.wb,p.tb,O⟩,O,O,hK,hQ,(b.z [3,5,4,3,4] 5 1)⟩
 refine gG 0 ?_;replace b:=b.px [5,2];obtain⟨⟨a0,c0⟩,b⟩:=Aa.unbox b;replace b:Aa B _ _ (Ad p.wb (Cr p Z) 115::Bc p.tb Z.room a0 c0 Z.l (AV y.p t.Z::_)):=b;replace b:=b.px [3];obtain⟨⟨a,c,ma,mc⟩,b⟩:=Aa.unbox b;replace b:Aa B _ _ (Ad y.p.wb (Cr y.p t.Z) 115::Bc y.p.tb t.Z.room a c t.Z.l (Ad y.p.mb [.slice ma t.Z.D.length mc] 225::CA 41 (.slice ma t.Z.D.length mc) (t.Z.D.map λd=>Ba (d:Nat))::Ad p.wb (Cr p Z) 115::Bc p.tb Z.room a0 c0 Z.l _)):=b;have bh:=hz.len;have bg:=G.len;refine .dw (λw=>∃e R,Le I e/\Aa B w e (DR V x.sb p.wb qb::Ad p.wb (Cr p Z) 115::Ad y.tp [ptr y.p.wb 0,ptr y.qb 0,.slice y.ra y.args.length y.rc,S y.ck,Ab t.An.status,.slice W t.An.Ai.length X,S t.An.body,S t.call,.bool t.DY] 183::Ad y.p.wb (Cr y.p t.Z) 115::R)) (λj=>!([24,25,26].contains j)) ?_;replace b:=b.drew;generalize w.drew=w at b ⊢;have g:∃e R,Le I e/\Aa B w e (DR V x.sb p.wb qb::Ad p.wb (Cr p Z) 115::Ad y.tp [ptr y.p.wb 0,ptr y.qb 0,.slice y.ra y.args.length y.rc,S y.ck,Ab t.An.status,.slice W t.An.Ai.length X,S t.An.body,S t.call,.bool t.DY] 183::Ad y.p.wb (Cr y.p t.Z) 115::R):=⟨_,_,Le.refl _,(b.x [0,10,6,9])⟩
 refine .tp 0 O (λw=>(.mo O)) (.tp 1 O (λw=>(.no O)) ?_);refine .tp 2 O (λw=>(.fo 1 O JC O O UG O)) (.D2 (i:=3) O kr kr kr kr g (λw ⟨e,R,s,b⟩=>(by exact(.lo O b (k:=0) O isAgg87 O))) O ?_);refine .tp 4 O (λw=>(.no O)) (.tp 5 O (λw=>(.fo 0 O TQ O O jV O)) (.D2 (i:=6) O kr kr kr kr g (λw ⟨e,R,s,b⟩=>(by exact(.lo O b (k:=1) O Jh O))) O ?_));refine .tp 7 O (λw=>(.mo O)) (.tp 8 O (λw=>(.no O)) ?_);refine .tp 9 O (λw=>(.fo 0 O bR O O UG O)) (.D2 (i:=10) O kr kr kr kr g (λw ⟨e,R,s,b⟩=>(by exact(.lo O b (k:=2) O isAgg87 O))) O ?_);refine .tp 11 O (λw=>(.no O)) (.tp 12 O (λw=>(.fo 0 O TQ O O jV O)) (.D2 (i:=13) O kr kr kr kr g (λw ⟨e,R,s,b⟩=>(by exact(.lo O b (k:=3) O Jh O))) O ?_));refine .tp 15 O (λw=>(.mo O)) (.tp 16 O (λw=>(.no O)) ?_);refine .tp 17 O (λw=>(.fo 2 O JC O O Lo O)) (.D2 (i:=18) O kr kr kr kr g (λw ⟨e,R,s,b⟩=>(by exact(.lo O b (k:=0) O UE O))) O ?_);refine .tp 20 O (λw=>(.mo O)) (.tp 21 O (λw=>(.no O)) ?_);refine .tp 22 O (λw=>(.fo 1 O bR O O Lo O)) (.D2 (i:=23) O kr kr kr kr g (λw ⟨e,R,s,b⟩=>(by exact(.lo O b (k:=2) O UE O))) O ?_);refine .b1 14 O (.call func151 O (AM O (AM O X3)) O (RG p.tb y.p.tb Z.room t.Z.room a0 a c0 c Z.l t.Z.l hz.wf G.wf om om hI.known hI.pre _ (b.x [2,2,7,7])) ?_);rintro _ w ⟨kv,rfl,b⟩;refine .nil ?_;clear g;have g:∃e R,Le I e/\Aa B w e (DR V x.sb p.wb qb::Ad p.wb (Cr p Z) 115::Ad y.tp [ptr y.p.wb 0,ptr y.qb 0,.slice y.ra y.args.length y.rc,S y.ck,Ab t.An.status,.slice W t.An.Ai.length X,S t.An.body,S t.call,.bool t.DY] 183::Ad y.p.wb (Cr y.p t.Z) 115::R):=⟨_,_,Le.refl _,(b.x [5,11,9,10])⟩
 refine⟨λ_ _=>g,?_⟩;refine .b1 19 O (.call func153 O (AM O X3) O (Xn6 qb _ _ _ _ qa qk q Y.1 hQ.2 hQ.1 _ (b.x [10])) ?_);rintro _ w ⟨J1,na,nc,rfl,m,bf,an,b⟩;refine .nil ?_;clear g;have g:∃e R,Le I e/\Aa B w e (DR V x.sb p.wb qb::Ad p.wb (Cr p Z) 115::Ad y.tp [ptr y.p.wb 0,ptr y.qb 0,.slice y.ra y.args.length y.rc,S y.ck,Ab t.An.status,.slice W t.An.Ai.length X,S t.An.body,S t.call,.bool t.DY] 183::Ad y.p.wb (Cr y.p t.Z) 115::R):=⟨_,_,m,(b.x [6,11,10,11])⟩
 refine⟨λ_ _=>g,?_⟩;refine .b1 24 O (.call func153 O (AM O X3) O (Xn6 y.qb _ _ _ _ L M t.q f.1 (F.2.mono m) F.1 _ (b.x [12])) ?_);rintro _ w ⟨J2,a1,a2,rfl,C,ba,ap,b⟩;refine .nil ?_;refine And.intro (by intro h;cases h) ?_;refine .b1 25 O (.call func152 O (AM O (AM O X3)) O (Xsg q t.q na a1 nc a2 (oh Y.1) (oh f.1) (λn H=>⟨Yr (nL Y n H).1 de,(nL Y n H).2⟩) (λn H=>⟨Yr (nL f n H).1 de,(nL f n H).2⟩) (U.kx.mono (m.trans C)) (U.pre.mono (m.trans C)) (an.mono C) ap _ b) ?_);rintro _ w ⟨kw,rfl,b⟩;refine .nil ?_;refine And.intro (by intro h;cases h) ?_;refine .b1 26 O ?_;obtain⟨da,dc,rfl,bd,_⟩:=b.vS 0;have Q:=b.fV 0;clear b;obtain⟨J3,al,aq,b⟩:=Q;try dsimp only[List.eraseIdx]at b
 have be:=Xvc (la:=Z.l) (lb:=t.Z.l) (qa:=q) (qb:=t.q) hz.len G.len Y.1 f.1;refine .Bk (bytes:=40) b (.of O) (.of O) aq (k:=2) O NT (i:=t237) kr O O O O (gK (λr=>rfl) _) ⟨om,by unfold maxLen;omega⟩ O ?_;intro bk w b;try dsimp only[List.set]at b
 refine .nil ?_;refine And.intro (by intro h;cases h) ?_;refine .tp 27 O (λw=>(.ao O)) (.dn ?_);obtain⟨ay,az,rfl,a9,_⟩:=b.vS 2;have Q:=b.fV 2;clear b;obtain⟨J4,am,P,b⟩:=Q;try dsimp only[List.eraseIdx]at b
 have o:Le I J4:=m.trans (C.trans (al.trans am));rw[<-gJ]at P;have au:(QU Z.l t.Z.l).length+(QI q t.q).length=(QU Z.l t.Z.l++QI q t.q).length:=(Y0 ..).symm;rw[au]at P ⊢;refine gF 5 (Xsj x k _ ay az (dV (λr hr=>(tN hz.wf r hr).1) (λr hr=>(tN G.wf r hr).1) (λn H=>Yr (nL Y n H).1 de) (λn H=>Yr (nL f n H).1 de)) om P (hK.mono o) ar) ?_;rintro _ w ⟨J5,x5,rfl,E,K,ad,ab,b⟩;refine gN 3 ?_ ?_<;>intro A
 ·refine gD [12] [12,15] [0,1,2,3,4,5,6,7,8,9,10,11,12,13,14,15] ?_;intro w b;refine gH 13 ?_;intro w b;refine gH 3 ?_;intro w b;refine gH 2 (.nil (.ret ?_));refine λ_ aw=>E3 aw O ?_
  have e9:DU ⟨Z,q,k⟩ t=(0,⟨t.Z,t.q,(EB k (QU Z.l t.Z.l++QI q t.q)).2⟩):=by
   unfold DU;dsimp only
   rw[Y3 (su u)];exact Y7 (oh A)
  rw[e9];replace b:=Aa.box (T:=vB p Z) (a0,c0) (b.px [4,4,10]);replace b:=Aa.box (T:=Bl y.p _) (a,c,ma,mc) (b.px [8,8,7,7,8]);exact⟨_,by have h9:=A;rw[h9];rfl,J5,y.p,y.qb,L,M,x5,O,o.trans E,⟨y.p.wb,y.p.tb,hy⟩,K,ad,ab,⟨F.1,F.2.mono (o.trans E)⟩,by rw[K];exact(((((((b.pick 6 O).pick 3 O).pick 4 O).pick 3 O).pick 6 O).drop (k:=5) O).drop (k:=5) O)⟩
 refine gG 2 ?_;have e9:DU ⟨Z,q,k⟩ t=((EB k (QU Z.l t.Z.l++QI q t.q)).1,⟨{ Z with D:=t.Z.D },q,(EB k (QU Z.l t.Z.l++QI q t.q)).2⟩):=by
  unfold DU;dsimp only
  rw[Y3 (su u)];exact Y3 (oh A)
 rw[e9];replace b:=Aa.box (T:=vB p Z) (a0,c0) (b.px [4,4,10]);replace b:=Aa.box (T:=Bl y.p _) (a,c,ma,mc) (b.px [8,8,7,7,8]);replace b:=pA hy (b.pick 1 O);try dsimp only[List.eraseIdx]at b
 exact⟨J5,p,qb,qa,qk,x5,O,o.trans E,⟨p.wb,p.tb,O⟩,K,ad,ab,⟨hQ.1,hQ.2.mono (o.trans E)⟩,by rw[K];exact(b.z [5,2,4,3,5] 5 1)⟩
theorem OI:∀s:Lu,Dd s=BK 38 s
 | []=>rfl
 | c::r=>by
  rw[Dd,BK,OI r];split
  ·rfl
  ·cases BK 38 r<;>rfl
theorem fq{x:Lu}{p:Pq}(h:Vu x=some p):p.1.length<=x.length/\p.2.length<=x.length:=by
 unfold Vu at h;split at h
 ·cases h
 ·rename_i n d
  split at h
  ·cases h
  ·rename_i v e
   cases h
   have b:=Ul.JY true _ _ d;have c:=Ul.JY true _ _ e;have a:=bC 61 x;exact⟨Yr b a.1,Yr c a.2⟩
theorem wJ{n:Nat}:∀(l:List Lu) (a:List Pq),(∀x∈l,x.length<=n)->(∀p∈a,p.1.length<=n/\p.2.length<=n)->∀p∈(TW l a).1,p.1.length<=n/\p.2.length<=n
 | [],a,_,h=>h
 | x::r,a,c,h=>by
  rw[TW];split
  ·exact wJ r a (λy d=>c y (by simp[d])) h
  ·split
   ·intro p b;simp at b
   ·cases hx:Vu x with
    | none=>intro p b;simp at b
    | some q =>
     refine wJ r _ (λy d=>c y (by simp[d])) λp b=>?_
     rcases Yt.1 b with b|b
     ·exact h p b
     ·simp only[Ys,GJ,or_false]at b
      subst b;have e:=fq hx;have f:=c x sz;omega
theorem Xp0(s:Lu):∀p∈(Q7 s).1,p.1.length<=s.length/\p.2.length<=s.length:=wJ _ _ (λx hx=>by rw[OI]at hx;exact qd 38 s x hx) (λp a=>by simp at a)
theorem Rb{m t b:Lu}(e:t.length<=n)(d:b.length<=n):∀p∈(B9 m t b).1,p.1.length<=n/\p.2.length<=n:=by
 have c:∀p∈(Q7 (EH 63 t).2.1).1,p.1.length<=n/\p.2.length<=n:=λp a=>by
  have:=Xp0 _ p a
  have:=(bC 63 t).2
  omega
 unfold B9;split
 ·exact c
 ·split
  ·intro p a;simp at a
  ·split
   ·intro p a;simp at a
   ·intro p a;rcases Yt.1 a with a|a
    ·exact c p a
    ·have:=Xp0 _ p a;omega
theorem wS{n:Nat}:∀(l:List Lu) (a:List Pq),(∀x∈l,x.length<=n)->(∀p∈a,p.2.length<=n)->∀p∈(GD l a).1,p.2.length<=n
 | [],a,_,h=>h
 | x::r,a,c,h=>by
  rw[GD];split
  ·exact wS r a (λy d=>c y (by simp[d])) h
  ·split
   ·intro p b;simp at b
   ·split
    ·intro p b;simp at b
    ·refine wS r _ (λy d=>c y (by simp[d])) λp b=>?_
     rcases Yt.1 b with b|b
     ·exact h p b
     ·simp only[Ys,GJ,or_false]at b
      subst b;have e:=(bC 61 (Go.Lib.trimB x 32)).2;have f:=Xy2 x 32;have g:=c x sz;dsimp only;omega
theorem lZ{b:List Pq}(h:∀h∈b,h.2.length<=n):(DM b).1.length<=n:=by
 have c:=(Mi qm b h).1;exact lI Hk _ λp a=>wS _ _ (λx hx=>Yr (qd 59 _ x hx) c) (λp a=>by simp at a) p a
structure gw(r:jB):Prop where
 AE:r.AE.length<=4096
 target:r.target.length<=4096
 body:r.body.length<=4096
 Ai:r.Ai.length<=32/\∀h∈r.Ai,h.1.length<=4096/\h.2.length<=4096
theorem WU(l:Lu):(QP l).1.length<=l.length/\(QP l).2.1.length<=l.length:=by
 unfold QP
 repeat' split
 all_goals first|exact⟨Y5 _,Y5 _⟩|exact⟨uP l 0,uP l 1⟩
theorem SI(s:Lu):gw (X0 s).1:=by
 have c:gw jB.none:=⟨Y5 _,Y5 _,Y5 _,Y5 _,λh b=>by simp[jB.none]at b⟩
 unfold X0;split
 ·exact c
 ·rename_i f
  have d:=uo s;have e:=WU (Xz s).1;have a:=x4 (n:=4096) ((Xz s).2.2.length+1) (Xz s).2.2 [] om de (λh b=>by simp at b)
  repeat' split
  all_goals first|exact c|exact⟨by dsimp only;omega,by dsimp only;omega,a.2.2,a.1,a.2.1⟩
theorem Xjn(m t a:Lu)(d:Oa)(n e:Nat)(f:t.length<=1000000)(c:Kz I)(N:La)(b:Aa B w I N):
  Ce B I N 77 [.agg #[S m,S t,.slice d n e,S a]] w (S (EH 63 t).1):=by
 refine gH 4 ?_;intro b1 w b;refine gE 0 (tt t 63 om c) ?_;intro w b;exact gG 9 ⟨O,b.s⟩
abbrev J_(f:Nat):Va:=.func (.func f) #[] #[]
def Dt:List (Lu×Va):=[([71,69,84,32,47,108,111,103,105,110],J_ 137),([80,79,83,84,32,47,108,111,103,105,110],J_ 138),([71,69,84,32,47,108,111,103,111,117,116],J_ 139),([71,69,84,32,47,118,97,108,105,100,97,116,101],J_ 140),([71,69,84,32,47,115,101,114,118,105,99,101,86,97,108,105,100,97,116,101],J_ 141),([71,69,84,32,47,112,114,111,120,121,86,97,108,105,100,97,116,101],J_ 142),([71,69,84,32,47,112,51,47,115,101,114,118,105,99,101,86,97,108,105,100,97,116,101],J_ 143),([71,69,84,32,47,112,51,47,112,114,111,120,121,86,97,108,105,100,97,116,101],J_ 144),([71,69,84,32,47,112,114,111,120,121],J_ 145)]
def C3(key:Lu):Nat:=C6.idxOf key
theorem Xwj(key:Lu):∀(ps:List Lu) (fs:List Nat),ps.length=fs.length->((ps.zip fs).map λp=>(p.1,J_ p.2)).lookup key=if ps.idxOf key<ps.length then some (J_ (fs.getD (ps.idxOf key) 0))else none
 | [],[],_=>rfl
 | p::ps,f::fs,h=>by
  have g:=Xwj key ps fs (su h);simp only[List.zip_cons_cons,Yw,List.lookup_cons,List.idxOf_cons,Y4]
  by_cases a:key=p
  ·subst a;simp
  ·have c:(key==p)=false:=su a
   have d:(p==key)=false:=by simpa using λe=>a e.symm
   rw[c,d];simp only[g,cond_false]
   by_cases b:ps.idxOf key<ps.length
   ·rw[Y7 b,Y7 om];simp
   ·rw[Y3 b,Y3 om]
theorem Xjk(key:Lu):(Dt.lookup key).getD .nilFunc=if C3 key<9 then J_ (Lf.getD (C3 key) 0)else .nilFunc:=by
 have h:=Xwj key C6 Lf O;rw[show((C6.zip Lf).map λp=>(p.1,J_ p.2))=Dt from O]at h;rw[h];show Option.getD (if C3 key<9 then some (J_ (Lf.getD (C3 key) 0))else none) _=_
 split<;>rfl
theorem Ex.rb{t:TypeId}{g:Option (Nat×Bool)}{x y:Operand}{b:Bool}{a1 a2 a3}(c:(v=.nilFunc/\b=true)\/∃f,v=J_ f/\b=false)(hx:Ev n L x v)(e:Ev n L y .nilFunc)(i:prog.underlying t=some (.func a1 a2 a3)):Ex prog n L w ⟨d,.binOp .eql t x y t',ty,pos,af,g⟩ (.bool b) w:=by
 have h:∀D,(Op.equalIn (D+1) t v .nilFunc).run prog w=.ok b w:=λD=>by
  rcases c with⟨rfl,rfl⟩|⟨f,rfl,rfl⟩<;>simp[Op.equalIn,run_underlying i]
 have a:(Op.equal t v .nilFunc).run prog w=.ok b w:=h 9999;rcases c with⟨rfl,rfl⟩|⟨f,rfl,rfl⟩
 ·exact C8 hx e (λp q=>by unfold eqGuard;split<;>simp) (by simp only[binOp];simp[a])
 ·exact C8 hx e (λp q=>by unfold eqGuard;split<;>simp) (by simp only[binOp];simp[a])
theorem mr(s:Lu):(pU s).2=0\/(pU s).1=U0:=by
 have d:∀a b c r,(IP a b c r).2=0\/(IP a b c r).1=U0:=λa b c r=>by
  unfold IP;split
  ·exact .inr O
  ·split
   ·exact .inr O
   ·exact .inl O
 unfold pU;split
 ·exact .inr O
 ·split
  ·exact .inr O
  ·split
   ·unfold hY;split
    ·split
     ·exact d _ _ _ _
     ·exact .inr O
    ·exact d _ _ _ _
   ·exact .inr O
theorem PW{u:U}(a:u.S8.length<=100)(b:u.host.length<=100)(c:u.port<=65535):(Hi u).length<=300+u.path.length+u.query.length:=by
 have d:=jM u.port om;unfold Hi jQ;split<;>split<;>simp only[Y0,Y4,Yi]<;>omega
theorem Xx2(s:Lu):(pU s).1.S8.length<=100/\(pU s).1.host.length<=100/\(pU s).1.port<=65535:=by
 rcases mr s with h|h
 ·have a:=fm h;refine⟨?_,?_,a.port.1⟩
  ·rcases a.S8 with e|e<;>rw[e]<;>decide
  ·have h:=a.host.1;unfold TL at h;simp at h
   omega
 ·rw[h];decide
theorem V4{n st:Lu}(h:n.length<=5000)(i:st.length<=5000):(Hi (Ow (pU n).1 Af st)).length<=100000:=by
 have a:=Xx2 n;have c:=YX n;have d:=pS (pU n).1.query Af st;have b:Af.length=6:=rfl;have e:=PW (u:=Ow (pU n).1 Af st) a.1 a.2.1 a.2.2;have f:(Ow (pU n).1 Af st).path.length=(pU n).1.path.length:=rfl;have g:(Ow (pU n).1 Af st).query.length=(G5 (pU n).1.query Af st).length:=rfl;omega
def ED(r:Da):Prop:=∀h∈r.Ai,h.1.length<=1000000/\h.2.length<=1000000
theorem N9{n:Int}{k b:Lu}(c:k.length<=1000):ED (Om n k b):=λh a=>by
 simp only[Om,Ys,GJ,or_false]at a
 subst a;exact⟨Yd O,by dsimp only;omega⟩
theorem Xp1{u:Lu}{cs:List Lu}(e:u.length<=1000000)(d:∀c∈cs,c.length<=1000000):ED (Od u cs):=λh b=>by
 simp only[Od,Ys,Dj]at b
 rcases b with rfl|⟨c,a,rfl⟩
 ·exact⟨by show I9.length<=_;decide,e⟩
 ·exact⟨by show QD.length<=_;decide,d c a⟩
theorem ZN(v:Lu)(a:Int)(b:v.length<=5000):(bV v a).length<=1000000:=by
 unfold bV S9;split
 ·rename_i h
  exact Xj2 _ (by show Hk.length<=_;decide) (by show v.length<=_;omega) (by show([47]:Lu).length<=_;decide) (Xgp h)
 ·exact Y5 _
theorem Xy9{r:Da}(h:ED r){c:Lu}(d:c.length<=1000000):ED (bZ r c):=λb a=>by
 rcases Yt.1 a with a|a
 ·exact h b a
 ·simp only[Ys,GJ,or_false]at a
  subst a;exact⟨by show QD.length<=_;decide,d⟩
theorem x6(ks:List Nd):ED (Ke ks):=N9 de
theorem OP(n:Nd):ED (JW n):=N9 de
theorem wz(x:Sx)(e:Nat)(b:Bool):ED (QL x e b):=by unfold QL;split<;>exact OP _
theorem RZ(a b c:Lu):ED (ky a b c):=by unfold ky;split<;>exact x6 _
theorem MN(a:Lu)(b:Bool):ED (oe a b):=by unfold oe;split<;>exact N9 de
theorem MO(a:Lu)(e:Int):ED (og a e):=by unfold og;split<;>exact OP _
theorem Xv1{n st:Lu}{cs:List Lu}(b:n.length<=5000)(d:st.length<=5000)(a:∀c∈cs,c.length<=1000000):ED (oH n st cs):=Xp1 (Yr (V4 b d) de) a
theorem pV(s:Bi):ED (Di s).An:=N9 de
theorem Xvx(s:Bi)(n a:Lu):ED (F8 s n a).An:=by
 unfold F8;split
 ·exact pV _
 ·exact RZ _ _ _
theorem Xuj{g:Cg}{l:List Pq}{sv:Lu}{s:Bi}(b:Az.length<=5000):ED (H6 g l Az sv s).An:=by
 have a:=ZN Az (-1) b;unfold H6;dsimp only
 split
 ·exact Xy9 (x6 _) a
 ·split
  ·exact pV _
  ·exact Xv1 BH.2 BH.1 (λc h=>by simp at h;subst h;exact a)
theorem PR{g:Cg}{l:List Pq}{ck:Lu}{s:Bi}(e:ED s.An):ED (OA g k l ck s).An:=by
 have d:∀a b,ED (Dv g l a b s).An:=λa b=>by
  unfold Dv;dsimp only;split
  ·exact wz _ _ _
  ·split
   ·exact wz _ _ _
   ·exact e
 match k with
 | 0 =>
  have f:=tA g.lo (X9 l Xb);show ED (D_ g l ck s).An
  unfold D_;dsimp only
  (repeat' split)
  all_goals first|exact e|exact pV _|exact Xvx _ _ _|exact N9 de|exact Xp1 om (λc h=>by simp at h)|exact Xv1 BH.2 BH.1 (λc h=>by simp at h)
 | 1 =>
  show ED (FM g l s).An
  unfold FM;dsimp only
  (repeat' split)
  all_goals first|exact N9 de|exact Xvx _ _ _|exact Xuj (Xj7 _ _ _ _ _ _)
 | 2 =>
  show ED (Hq g ck s).An
  unfold Hq;dsimp only;split
  ·exact pV _
  ·exact Xy9 (x6 _) (ZN [] 0 de)
 | 3=>exact MN _ _
 | 4=>exact d _ _
 | 5=>exact d _ _
 | 6=>exact d _ _
 | 7=>exact d _ _
 | k+8=>exact MO _ _
theorem pH(r:Da)(c:Oa)(d:Nat)(f:Kz I)(b:r.Ai.length<=d)(e:RS I c 2 r.Ai.length (X2 X8 r.Ai))(g:ED r)(N:La)(a:Aa B w I N):
  Ce B I N 71 [.agg #[Ab r.status,.slice c r.Ai.length d,S r.body]] w (S (Hr r)):=by
 refine gH 3 ?_;intro b1 w a;refine gE 0 (MS r c d f b e g) ?_;intro w a;exact gG 7 ⟨O,a.s⟩
theorem sQ(n:Int)(e:Kz I)(N:La)(a:Aa B w I N):
  Ce B I N 70 [Ab n] w (.agg #[S (Hr (Fy n)),S []]):=by
 refine gH 2 ?_;intro h w a;refine gF 0 (nr n) ?_;rintro _ w ⟨J,f,g,rfl,d,c,b,a⟩;refine gE 0 (pH _ f g (e.mono d) c b (N9 de)) ?_;intro w a;refine gH 2 ?_;intro w a;exact gG 0 ⟨O,a.s.weaken d⟩
theorem MW(N:La)(a:Aa B w I N):
  Cz 76 [] w λv w'=>∃b,v=.map (some b)/\Aa B w' I (LQ S b Dt::N):=by
 refine gG 1 (.mkMap S a O ?_);intro b1 w a;refine .Ci (key:=C6.getD 0 []) CW a (k:=0) O (.of O) (.of O) (.of O) O Vm Bb ?_;intro w a;refine .Ci (key:=C6.getD 1 []) CW a (k:=0) O (.of O) (.of O) (.of O) O Vm Bb ?_;intro w a;refine .Ci (key:=C6.getD 2 []) CW a (k:=0) O (.of O) (.of O) (.of O) O Vm Bb ?_;intro w a;refine .Ci (key:=C6.getD 3 []) CW a (k:=0) O (.of O) (.of O) (.of O) O Vm Bb ?_;intro w a;refine .Ci (key:=C6.getD 4 []) CW a (k:=0) O (.of O) (.of O) (.of O) O Vm Bb ?_;intro w a;refine .Ci (key:=C6.getD 5 []) CW a (k:=0) O (.of O) (.of O) (.of O) O Vm Bb ?_;intro w a;refine .Ci (key:=C6.getD 6 []) CW a (k:=0) O (.of O) (.of O) (.of O) O Vm Bb ?_;intro w a;refine .Ci (key:=C6.getD 7 []) CW a (k:=0) O (.of O) (.of O) (.of O) O Vm Bb ?_;intro w a;refine .Ci (key:=C6.getD 8 []) CW a (k:=0) O (.of O) (.of O) (.of O) O Vm Bb ?_;intro w a;exact gG 2 ⟨b1,O,a⟩
structure Sp where
 vb:Nat
 p:Wp
 qb:Nat
 qa:Oa
 qk:Nat
 k:Kp
def Ua(g:Cg)(x:Sp)(s:BR):La:=[DR x.vb x.k.sb x.p.wb x.qb,AV x.p s.Z,Ey x.qb g.qc s.q x.qa x.qk,EN x.k s.k]
abbrev PY(g:Cg)(x:Sp)(s:BR)(R:La):La:=DR x.vb x.k.sb x.p.wb x.qb::AV x.p s.Z::Ey x.qb g.qc s.q x.qa x.qk::EN x.k s.k::R
structure Bz(J:Im)(g:Cg)(x:Sp)(s:BR):Prop where
 wp:BU J x.p
 cg:Xq x.p g.qc=g
 kz:Kz J
 fit:Vk x.p.lo x.p.us
 kp:Dq J x.k s.k
 qu:CD J x.qa x.qk s.q
structure A2(s:BR)(n:Nat):Prop where
 Z:A9 s.Z
 q:FK s.q
 Av:s.k.Av.length<=n
theorem Bz.mono{g:Cg}{x:Sp}{s:BR}(h:Bz I g x s)(a:Le I J):Bz J g x s:=⟨h.wp.mono a,h.cg,h.kz.mono a,h.fit,h.kp.mono a,h.qu.1,h.qu.2.mono a⟩
theorem BU.cp{p:Wp}(h:BU J p)(wb tb:Nat):BU J { p with wb:=wb,tb:=tb }:=⟨h.vD,h.tab,h.lo,h.rel,h.fit,h.iW,h.known,h.pre⟩
theorem Bz.next{g:Cg}{x:Sp}{s s2:BR}(h:Bz I g x s)(a:Le I J){c:Wp}(i:∃wb tb,c={ x.p with wb:=wb,tb:=tb }){l:Nat}{d:Oa}{e:Nat}{b:Kp}(f:Dq J b s2.k)(j:CD J d e s2.q):Bz J g ⟨x.vb,c,l,d,e,b⟩ s2:=by
 obtain⟨wb,tb,rfl⟩:=i;exact⟨(h.wp.mono a).cp wb tb,h.cg,h.kz.mono a,h.fit,f,j⟩
def HN:Lu:=[71,69,84,32]
def C2(r:jB):Lu:=(EH 63 r.target).1
def Eb(g:Cg)(s:BR)(k:Nat)(l:List Pq)(ck:Lu):Bi :=
 let t:=OA g k l ck (Dx s)
 if(t.call==[]&&!bL t.An)=true then Di t else t
def Dm(g:Cg)(s:BR)(b:Lu):(Lu×Lu)×BR :=
 let r:=(X0 b).1
 let a:=B9 r.AE r.target r.body
 let j:=DM r.Ai
 if(X0 b).2≠0\/a.2≠0\/j.2≠0 then((Hr (Fy 400),[]),s)else
 if ¬ C3 (HN++C2 r)<9 then((Hr (Fy 404),[]),s)else
 if ¬ C3 ((r.AE++[32])++C2 r)<9 then((Hr (Fy 405),[]),s)else
 let t:=Eb g s (C3 ((r.AE++[32])++C2 r)) a.1 j.1
 let e:=DU s t
 if e.1≠0 then((Hr (Fy 503),[]),e.2)else
 if t.call≠[]then(([],t.call),e.2)else((Hr t.An,[]),e.2)
theorem fL{g:Cg}{l:List Pq}{ck:Lu}{s:Bi}(h:FK s.q):FK (OA g k l ck s).q:=by
 by_cases a:k=2
 ·subst a;show FK (Hq g ck s).q
  unfold Hq Di;dsimp only;split<;>exact qe h
 ·rw[dv a];exact h
theorem tU{g:Cg}{s:BR}(h:A2 s n)(k:Nat)(l:List Pq)(ck:Lu):A9 (Eb g s k l ck).Z/\FK (Eb g s k l ck).q/\ED (Eb g s k l ck).An:=by
 have a:=mH (g:=g) (k:=k) (l:=l) (ck:=ck) (s:=Dx s) h.Z;have b:=fL (g:=g) (k:=k) (l:=l) (ck:=ck) (s:=Dx s) h.q;have c:=PR (g:=g) (k:=k) (l:=l) (ck:=ck) (s:=Dx s) (λh d=>by simp[Dx,fJ]at d);unfold Eb;dsimp only
 split
 ·exact⟨a,b,pV _⟩
 ·exact⟨a,b,c⟩
theorem Xzd(s:St)(l:List Ch):(EB s l).2.Av.length<=s.Av.length+l.length:=by
 by_cases a:(DF l []).2≠0\/l=[]
 ·have:EB s l=((DF l []).2,s):=by unfold EB;exact Y7 a
  rw[this];exact JR _ _
 ·rw[sL a];split
  ·exact s6 _ _
  ·exact JR _ _
theorem tV{s:BR}{t:Bi}(h:A2 s n)(h1:A9 t.Z)(a:FK t.q):A2 (DU s t).2 (n+256):=by
 have b:A9 { s.Z with D:=t.Z.D }:=⟨h.Z.len,h.Z.wf,h1.D,h.Z.now,h.Z.room⟩
 have e:=Xvc (la:=s.Z.l) (lb:=t.Z.l) (qa:=s.q) (qb:=t.q) h.Z.len h1.len h.q.1 a.1;have c:(EB s.k (QU s.Z.l t.Z.l++QI s.q t.q)).2.Av.length<=n+256:=by
  have d:=Xzd s.k (QU s.Z.l t.Z.l++QI s.q t.q);rw[Y0]at d
  have:=h.Av
  omega
 unfold DU;dsimp only
 split
 ·exact⟨b,h.q,Yr h.Av (JR _ _)⟩
 ·split
  ·exact⟨h1,a,c⟩
  ·exact⟨b,h.q,c⟩
theorem lA{g:Cg}{s:BR}(h:A2 s n)(b:Lu):A2 (Dm g s b).2 (n+256):=by
 have a:A2 s (n+256):=⟨h.Z,h.q,Yr h.Av (JR _ _)⟩
 have c:=λk l ck=>tV h (tU (g:=g) h k l ck).1 (tU (g:=g) h k l ck).2.1
 unfold Dm;dsimp only
 (repeat' split)
 all_goals first|exact a|exact c _ _ _
theorem lG(k:Nat)(a:k<9):∃fn,prog.funcs[Lf.getD k 0]?=some fn/\Xc fn=true:=by
 match k,a with
 | 0,_=>exact⟨_,func137,O⟩
 | 1,_=>exact⟨_,func138,O⟩
 | 2,_=>exact⟨_,func139,O⟩
 | 3,_=>exact⟨_,func140,O⟩
 | 4,_=>exact⟨_,func141,O⟩
 | 5,_=>exact⟨_,func142,O⟩
 | 6,_=>exact⟨_,func143,O⟩
 | 7,_=>exact⟨_,func144,O⟩
 | 8,_=>exact⟨_,func145,O⟩
 | k+9,h=>exact Aw h om
theorem Xjj(key:Lu):((Dt.lookup key).getD .nilFunc=.nilFunc/\(!decide (C3 key<9))=true)\/∃f,(Dt.lookup key).getD .nilFunc=J_ f/\(!decide (C3 key<9))=false:=by
 rw[Xjk]
 by_cases h:C3 key<9
 ·rw[Y7 h];exact .inr ⟨_,O,by simp[h]⟩
 ·rw[Y3 h];exact .inl ⟨O,by simp[h]⟩
theorem CD.done{g:Cg}{s:BR}{l:List Pq}{ck:Lu}{a:Oa}{b:Nat}(h:CD I a b (OA g k l ck (Dx s)).q)(c:Le I J):CD J a b (Eb g s k l ck).q:=by
 have e:(Eb g s k l ck).q=(OA g k l ck (Dx s)).q:=by unfold Eb Di;dsimp only;split<;>rfl
 rw[e];exact⟨h.1,h.2.mono c⟩
theorem KG{a b c:Va}(d:cs[k]?=some a)(e:cs[k+1]?=some b)(f:cs[k+2]?=some c):∀(j:Nat) v,[a,b,c][j]?=some v->cs[k+j]?=some v
 | 0,v,h=>d.trans h
 | 1,v,h=>e.trans h
 | 2,v,h=>f.trans h
 | j+3,v,h=>by simp at h
theorem L8(g:Cg)(x:Sp)(s:BR)(b:Lu)(hb:b.length<=1000000)(hs:A2 s 800000)(f:Bz I g x s)(N:La)(c:Aa B w I (PY g x s N)):
  Cz 37 [ptr x.vb 0,S b] w λv w'=>v=.agg #[S (Dm g s b).1.1,S (Dm g s b).1.2]/\∃J y,Le I J/\y.vb=x.vb/\y.k.db=x.k.db/\Bz J g y (Dm g s b).2/\Aa B w' J (Ua g y (Dm g s b).2++N):=by
 refine gH 3 ?_;intro b4 w c;refine gF 0 (Xrn b om f.kz) ?_;rintro _ w ⟨J1,ra,rc,rfl,am,bz,bc,c⟩;have bf:=SI b;obtain⟨br,az,a0,bs,F⟩:=bf;refine gH 7 ?_;intro b6 w c;refine gF 0 (Ub _ _ _ _ _ _ om om (f.kz.mono am)) ?_;rintro _ w ⟨J2,aa,ac,rfl,an,bw,ba,c⟩;have j:=am.trans an;refine gF 6 (ez _ _ _ _ _ _ om (λh hh=>⟨Yr (F h hh).1 de,Yr (F h hh).2 de⟩) (f.kz.mono j) (bc.mono an)) ?_;rintro _ w ⟨Jj,rfl,a5,c⟩;replace c:=c.weaken a5;refine gH 14 ?_;refine gN 1 ?_ ?_<;>intro Q
 ·refine gH 1 (.Bu (cap:=[]) func70 O (.of O) (AM O X3) O (sQ 400 (f.kz.mono j) _ c) ?_);rintro _ w ⟨rfl,c⟩;refine gH 1 ?_;intro w c;refine gG 0 ?_;have u:Dm g s b=((Hr (Fy 400),[]),s):=by
   unfold Dm;rw[Y7 (oh Q)]
  rw[u];exact⟨O,I,x,Le.refl _,O,O,f,((c.z [5,5,5,5] 4 2)).weaken j⟩
 refine gF 0 (MW) ?_;rintro _ w ⟨mb,rfl,c⟩;have bd:=c.HL (k:=0) O;clear c;obtain⟨J3,ao,hM,c⟩:=bd;try dsimp only[List.eraseIdx]at c
 have d:=j.trans ao;refine gG 1 ?_;have E:¬ ((X0 b).2≠0\/(B9 (X0 b).1.AE (X0 b).1.target (X0 b).1.body).2≠0\/(DM (X0 b).1.Ai).2≠0):=by
  have h9:=Q;omega
 have bx:=(bC 63 (X0 b).1.target).1;refine gE 2 (Xjn _ _ _ _ _ _ om (f.kz.mono d)) ?_;intro w c;refine gH 1 (.val (v:=((Dt.lookup (HN++C2 (X0 b).1)).getD .nilFunc)) (.Pv (key:=(HN++C2 (X0 b).1)) CW (hM.now c) (.of O) (.of O) Vm Bb zeroValue178) O (.val (Ex.rb (b:=!decide (C3 (HN++C2 (X0 b).1)<9)) (Xjj (HN++C2 (X0 b).1)) (.of O) (.of O) underlying178) O ?_));refine gM 0 ?_ ?_<;>intro C bn
 ·refine gH 1 (.Bu (cap:=[]) func70 O (.of O) (AM O X3) O (sQ 404 (f.kz.mono d) _ c) ?_);rintro _ w ⟨rfl,c⟩;refine gH 1 ?_;intro w c;refine gG 0 ?_;have u:Dm g s b=((Hr (Fy 404),[]),s):=by
   unfold Dm;dsimp only
   rw[Y3 E,Y7 (su C)]
  rw[u];exact⟨O,I,x,Le.refl _,O,O,f,((c.z [5,5,5,5] 4 2)).weaken d⟩
 refine gG 0 (gD [0] [] [0,1,2,3,4,5,6,7,8] ?_);intro w c;refine gE 5 (Xjn _ _ _ _ _ _ om (f.kz.mono d)) ?_;intro w c;refine gH 1 (AN.y 7 (v:=((Dt.lookup (((X0 b).1.AE++[32])++C2 (X0 b).1)).getD .nilFunc)) (λw _ _ a6 c=>.Pv (key:=(((X0 b).1.AE++[32])++C2 (X0 b).1)) CW ((hM.mono a6).now c) (.of O) (.of O) Vm Bb zeroValue178) (gH 2 (.val (Ex.rb (b:=!decide (C3 (((X0 b).1.AE++[32])++C2 (X0 b).1)<9)) (Xjj (((X0 b).1.AE++[32])++C2 (X0 b).1)) (.of O) (.of O) underlying178) O ?_)));refine gM 0 ?_ ?_<;>intro L bo
 ·refine gH 1 (.Bu (cap:=[]) func70 O (.of O) (AM O X3) O (sQ 405 (f.kz.mono d) _ c) ?_);rintro _ w ⟨rfl,c⟩;refine gH 1 ?_;intro w c;refine gG 0 ?_;have u:Dm g s b=((Hr (Fy 405),[]),s):=by
   unfold Dm;rw[Y3 E,Y3 (su C),Y7 (su L)]
  rw[u];exact⟨O,I,x,Le.refl _,O,O,f,((c.z [5,5,5,5] 4 2)).weaken d⟩
 refine gG 0 ?_;have X:C3 (HN++C2 (X0 b).1)<9:=su C
 have t:C3 (((X0 b).1.AE++[32])++C2 (X0 b).1)<9:=su L
 rw[show((Dt.lookup (((X0 b).1.AE++[32])++C2 (X0 b).1)).getD .nilFunc)=J_ (Lf.getD (C3 (((X0 b).1.AE++[32])++C2 (X0 b).1)) 0) from by rw[Xjk,Y7 t]];refine gF 1 (w4 g.qc x.vb x.k.sb x.qb x.qa x.qk s.q x.p s.Z hs.Z hs.q (f.mono d).qu) ?_;rintro _ w ⟨Jb,tp,nq,nb,R,bh,bi,rfl,ar,a7,c⟩;have A:=d.trans ar;have av:BV Jb (⟨tp,nq,{ x.p with wb:=nb,tb:=R },aa,ac,(B9 (X0 b).1.AE (X0 b).1.target (X0 b).1.body).1,(DM (X0 b).1.Ai).1⟩:Lp):=⟨(f.wp.mono A).cp nb R,f.kz.mono A,ba.mono (ao.trans ar),Yr (VU _ _ _) de,λa ha=>by have:=Rb (m:=(X0 b).1.AE) az a0 a ha;omega,Yr (lZ (λh hh=>(F h hh).2)) de,f.fit⟩
 have a9:Gb Jb none 0 (Dx s).An:=⟨Y9 _,RS.nil _ _⟩
 refine gH 13 ?_;intro w c;obtain⟨bu,ay,W⟩:=lG (C3 (((X0 b).1.AE++[32])++C2 (X0 b).1)) t;have G:=ZV g.qc bh bi (⟨tp,nq,{ x.p with wb:=nb,tb:=R },aa,ac,(B9 (X0 b).1.AE (X0 b).1.target (X0 b).1.body).1,(DM (X0 b).1.Ai).1⟩:Lp) (Dx s) none 0 hs.Z hs.q av a7 a9 _ (((c.pick 2 O).pick 2 O).pick 2 O) (C3 (((X0 b).1.AE++[32])++C2 (X0 b).1)) t;rw[show Xq (⟨tp,nq,{ x.p with wb:=nb,tb:=R },aa,ac,(B9 (X0 b).1.AE (X0 b).1.target (X0 b).1.body).1,(DM (X0 b).1.Ai).1⟩:Lp).p g.qc=g from f.cg]at G;refine .Bu (cap:=[]) ay W (.of O) (AM O X3) O G ?_;clear c G;rintro _ w ⟨rfl,J4,aw,ax,a1,a2,ap,au,a8,c⟩;refine .nil (.ck [0,4,5,14] (σ:=Im×Oa×Nat) (λ(J5,o,r) _m=>_m) (λ(J5,o,r) w=>Le J4 J5/\Gb J5 o r (Eb g s (C3 (((X0 b).1.AE++[32])++C2 (X0 b).1)) (B9 (X0 b).1.AE (X0 b).1.target (X0 b).1.body).1 (DM (X0 b).1.Ai).1).An/\Aa B w J5 (BL (⟨tp,nq,{ x.p with wb:=nb,tb:=R },aa,ac,(B9 (X0 b).1.AE (X0 b).1.target (X0 b).1.body).1,(DM (X0 b).1.Ai).1⟩:Lp) (Eb g s (C3 (((X0 b).1.AE++[32])++C2 (X0 b).1)) (B9 (X0 b).1.AE (X0 b).1.target (X0 b).1.body).1 (DM (X0 b).1.Ai).1) o r::Ey nq g.qc (Eb g s (C3 (((X0 b).1.AE++[32])++C2 (X0 b).1)) (B9 (X0 b).1.AE (X0 b).1.target (X0 b).1.body).1 (DM (X0 b).1.Ai).1).q a1 a2::AV { x.p with wb:=nb,tb:=R } (Eb g s (C3 (((X0 b).1.AE++[32])++C2 (X0 b).1)) (B9 (X0 b).1.AE (X0 b).1.target (X0 b).1.body).1 (DM (X0 b).1.Ai).1).Z::rM x.p s.Z::DR x.vb x.k.sb x.p.wb x.qb::Ey x.qb g.qc s.q x.qa x.qk::EN x.k s.k::Ad b4 [S [],S []] 118::N)) ?_ ?_)
 ·have bb:=PR (g:=g) (k:=C3 (((X0 b).1.AE++[32])++C2 (X0 b).1)) (l:=(B9 (X0 b).1.AE (X0 b).1.target (X0 b).1.body).1) (ck:=(DM (X0 b).1.Ai).1) (s:=Dx s) (λh hh=>by simp[Dx,fJ]at hh);refine gH 9 (.Am O O (λK=>(.D6 (vs:=[_,_,_]) (.gd K O) c (k:=0) O isAgg166 NR O (KG O O O))) O (.AA (T:=λw=>Aa B w J4 _) O O O func79 O (λK=>(X4 (.gd K O) X3)) O (λK=>v7 (OA g (C3 (((X0 b).1.AE++[32])++C2 (X0 b).1)) (B9 (X0 b).1.AE (X0 b).1.target (X0 b).1.body).1 (DM (X0 b).1.Ai).1 (Dx s)).An aw ax au.2 bb _ c) c ?_));clear c;rintro w c;refine gM 2 ?_ ?_<;>intro M bp
  ·refine gF 1 (nD (⟨tp,nq,{ x.p with wb:=nb,tb:=R },aa,ac,(B9 (X0 b).1.AE (X0 b).1.target (X0 b).1.body).1,(DM (X0 b).1.Ai).1⟩:Lp) (OA g (C3 (((X0 b).1.AE++[32])++C2 (X0 b).1)) (B9 (X0 b).1.AE (X0 b).1.target (X0 b).1.body).1 (DM (X0 b).1.Ai).1 (Dx s)) aw ax (av.mono ap)) ?_;rintro _ w ⟨rfl,J5,na,nc,H,n,c⟩;refine gG 0 ?_;have e8:(Eb g s (C3 (((X0 b).1.AE++[32])++C2 (X0 b).1)) (B9 (X0 b).1.AE (X0 b).1.target (X0 b).1.body).1 (DM (X0 b).1.Ai).1)=Di (OA g (C3 (((X0 b).1.AE++[32])++C2 (X0 b).1)) (B9 (X0 b).1.AE (X0 b).1.target (X0 b).1.body).1 (DM (X0 b).1.Ai).1 (Dx s)):=by unfold Eb;dsimp only;rw[Y7 M]
   exact Eo (_,_,_) O ⟨H,by rw[e8];exact n,by rw[e8];exact(((((((((c.pick 7 O).pick 8 O).pick 7 O).pick 7 O).pick 7 O).pick 7 O).pick 7 O).pick 7 O).drop (k:=8) O)⟩
  refine gG 0 ?_;have e8:(Eb g s (C3 (((X0 b).1.AE++[32])++C2 (X0 b).1)) (B9 (X0 b).1.AE (X0 b).1.target (X0 b).1.body).1 (DM (X0 b).1.Ai).1)=(OA g (C3 (((X0 b).1.AE++[32])++C2 (X0 b).1)) (B9 (X0 b).1.AE (X0 b).1.target (X0 b).1.body).1 (DM (X0 b).1.Ai).1 (Dx s)):=by unfold Eb;dsimp only;rw[Y3 (nB M)]
  exact Eo (_,_,_) O ⟨Le.refl _,by rw[e8];exact au,by rw[e8];exact(((((((((c.pick 7 O).pick 8 O).pick 7 O).pick 7 O).pick 7 O).pick 7 O).pick 7 O).pick 7 O).drop (k:=8) O)⟩
 rintro⟨J5,o,r⟩ w ⟨H,n,c⟩;have hd:=tU (g:=g) hs (C3 (((X0 b).1.AE++[32])++C2 (X0 b).1)) (B9 (X0 b).1.AE (X0 b).1.target (X0 b).1.body).1 (DM (X0 b).1.Ai).1;have i:=A.trans (ap.trans H);refine gF 2 (tW g.qc x.vb x.qb x.qa a1 x.qk a2 x.p s.Z s.q s.k x.k (⟨tp,nq,{ x.p with wb:=nb,tb:=R },aa,ac,(B9 (X0 b).1.AE (X0 b).1.target (X0 b).1.body).1,(DM (X0 b).1.Ai).1⟩:Lp) (Eb g s (C3 (((X0 b).1.AE++[32])++C2 (X0 b).1)) (B9 (X0 b).1.AE (X0 b).1.target (X0 b).1.body).1 (DM (X0 b).1.Ai).1) o r hs.Z hd.1 hs.q hd.2.1 (oh hs.Av) O (f.mono i).wp (f.mono i).kz (f.mono i).qu (CD.done a8 H) (f.mono i).kp) ?_;rintro _ w ⟨J6,p9,af,ae,ag,x9,rfl,aq,Y,b0,ab,U,V,c⟩;have e:=i.trans aq;refine gN 2 ?_ ?_<;>intro D
 ·refine gH 1 (.Bu (cap:=[]) func70 O (.of O) (AM O X3) O (sQ 503 (f.kz.mono e) _ c) ?_);rintro _ w ⟨rfl,c⟩;refine gH 1 ?_;intro w c;refine gG 0 ?_;have u:Dm g s b=((Hr (Fy 503),[]),(DU s (Eb g s (C3 (((X0 b).1.AE++[32])++C2 (X0 b).1)) (B9 (X0 b).1.AE (X0 b).1.target (X0 b).1.body).1 (DM (X0 b).1.Ai).1)).2):=by
   unfold Dm;rw[Y3 E,Y3 (λh=>h X),Y3 (λh=>h t)];exact Y7 (by have h9:(((DU s (Eb g s (C3 (((X0 b).1.AE++[32])++C2 (X0 b).1)) (B9 (X0 b).1.AE (X0 b).1.target (X0 b).1.body).1 (DM (X0 b).1.Ai).1)).1:Nat):Int)≠0:=D;omega)
  rw[u];exact⟨O,J6,⟨x.vb,p9,af,ae,ag,x9⟩,e,O,ab,f.next e Y U V,(c.z [3,3,3,3] 4 2)⟩
 refine gM 6 ?_ ?_<;>intro P bq
 ·refine gH 6 ?_;intro w c;refine gG 0 ?_;have u:Dm g s b=(([],(Eb g s (C3 (((X0 b).1.AE++[32])++C2 (X0 b).1)) (B9 (X0 b).1.AE (X0 b).1.target (X0 b).1.body).1 (DM (X0 b).1.Ai).1).call),(DU s (Eb g s (C3 (((X0 b).1.AE++[32])++C2 (X0 b).1)) (B9 (X0 b).1.AE (X0 b).1.target (X0 b).1.body).1 (DM (X0 b).1.Ai).1)).2):=by
   unfold Dm;rw[Y3 E,Y3 (λh=>h X),Y3 (λh=>h t)];rw[Y3 (by have h9:(((DU s (Eb g s (C3 (((X0 b).1.AE++[32])++C2 (X0 b).1)) (B9 (X0 b).1.AE (X0 b).1.target (X0 b).1.body).1 (DM (X0 b).1.Ai).1)).1:Nat):Int)=0:=D;omega)];exact Y7 (su P)
  rw[u];exact⟨O,J6,⟨x.vb,p9,af,ae,ag,x9⟩,e,O,ab,f.next e Y U V,(c.z [3,3,3,3] 4 2)⟩
 refine gH 3 (.val (.D6 (vs:=[_,_,_]) (.of O) c (k:=4) O isAgg166 NR O (KG O O O)) O (gE 0 (pH (Eb g s (C3 (((X0 b).1.AE++[32])++C2 (X0 b).1)) (B9 (X0 b).1.AE (X0 b).1.target (X0 b).1.body).1 (DM (X0 b).1.Ai).1).An o r (f.kz.mono e) n.1 (n.2.mono aq) hd.2.2) ?_));intro w c;refine gH 2 ?_;intro w c;refine gG 0 ?_;have u:Dm g s b=((Hr (Eb g s (C3 (((X0 b).1.AE++[32])++C2 (X0 b).1)) (B9 (X0 b).1.AE (X0 b).1.target (X0 b).1.body).1 (DM (X0 b).1.Ai).1).An,[]),(DU s (Eb g s (C3 (((X0 b).1.AE++[32])++C2 (X0 b).1)) (B9 (X0 b).1.AE (X0 b).1.target (X0 b).1.body).1 (DM (X0 b).1.Ai).1)).2):=by
  unfold Dm;rw[Y3 E,Y3 (λh=>h X),Y3 (λh=>h t)];rw[Y3 (by have h9:(((DU s (Eb g s (C3 (((X0 b).1.AE++[32])++C2 (X0 b).1)) (B9 (X0 b).1.AE (X0 b).1.target (X0 b).1.body).1 (DM (X0 b).1.Ai).1)).1:Nat):Int)=0:=D;omega)];exact Y3 (su P)
 rw[u];exact⟨O,J6,⟨x.vb,p9,af,ae,ag,x9⟩,e,O,ab,f.next e Y U V,(c.z [3,3,3,3] 4 2)⟩
theorem Nu(g:Cg)(x:Sp)(s:BR)(n:Int)(b:A9 s.Z)(c:Bz I g x s)(N:La)(a:Aa B w I (PY g x s N)):
  Ce B I (DR x.vb x.k.sb x.p.wb x.qb::AV x.p (tick s.Z n)::Ey x.qb g.qc s.q x.qa x.qk::EN x.k s.k::N) 38 [ptr x.vb 0,Ab n] w (.tuple #[]):=by
 refine gE 5 (Xuw x.p s.Z n b) ?_;intro w a;exact gG 0 ⟨O,a.s⟩
theorem Ti(g:Cg)(x:Sp)(s:BR)(f:Bz I g x s)(N:La)(b:Aa B w I (PY g x s N)):
  Ce B I (DR x.vb x.k.sb x.p.wb x.qb::AV x.p (s.Z)::Ey x.qb g.qc s.q x.qa x.qk::EN x.k s.k::N) 91 [ptr x.vb 0] w (Ab s.Z.now):=by
 replace b:=b.px [1];obtain⟨a,c,d,e,b⟩:=EJ b;refine gG 9 ?_;replace b:=Aa.box (T:=Bl x.p _) (a,c,d,e) (b.px [4,4,4,4,4]);exact⟨O,(b.x [3,3,2,3])⟩
theorem Nq(g:Cg)(x:Sp)(s:BR)(f:Bz I g x s)(N:La)(b:Aa B w I (PY g x s N)):
  Ce B I (DR x.vb x.k.sb x.p.wb x.qb::AV x.p (s.Z)::Ey x.qb g.qc s.q x.qa x.qk::EN x.k s.k::N) 92 [ptr x.vb 0] w (Ab (s.Z.D.length:Nat)):=by
 replace b:=b.px [1];obtain⟨a,c,d,e,b⟩:=EJ b;refine gE 8 (Uu _ d e s.Z.D) ?_;intro w b;refine gG 1 ?_;replace b:=Aa.box (T:=Bl x.p _) (a,c,d,e) (b.px [1,1,4,4,4]);exact⟨O,(b.x [3,3,2,3])⟩
theorem Xjs(g:Cg)(x:Sp)(s:BR)(e:Oa)(f:Nat)(l:List Nat)(j:s.Z.D.length<=1000000)(n:l.length<=1000000)(t:Bz I g x s)(m:RS I e 1 l.length (l.map λd=>Ba (d:Nat)))(N:La)(b:Aa B w I (PY g x s N)):
  Ce B I (DR x.vb x.k.sb x.p.wb x.qb::AV x.p ({ s.Z with D:=s.Z.D++l })::Ey x.qb g.qc s.q x.qa x.qk::EN x.k s.k::N) 39 [ptr x.vb 0,.slice e l.length f] w (.tuple #[]):=by
 replace b:=b.px [1];obtain⟨a,c,o,r,b⟩:=EJ b;refine gF 8 (Uo _ o r s.Z.D j e f l n m) ?_;rintro _ w ⟨rfl,h,i,b⟩;refine gG 0 ?_;replace b:=Aa.box (T:=Bl x.p { s.Z with D:=s.Z.D++l }) (a,c,h,i) (b.px [1,1,4,4,4]);exact⟨O,(b.x [3,3,2,3])⟩
theorem Xmk(g:Cg)(x:Sp)(s:BR)(c:s.k.Av.length<=900000)(a:Bz I g x s)(N:La)(f:Aa B w I (PY g x s N)):
  Cz 43 [ptr x.vb 0] w λv w'=>∃J y,v=Ab ((Ho s.k).1:Nat)/\Le I J/\y.vb=x.vb/\y.k.db=x.k.db/\Bz J g y { s with k:=(Ho s.k).2 }/\Aa B w' J (Ua g y { s with k:=(Ho s.k).2 }++N):=by
 refine gF 5 (Xob x.k s.k a.kp c) ?_;rintro _ w ⟨J,y,rfl,b,d,e,h,f⟩;exact gG 1 ⟨J,{ x with k:=y },O,b,O,e,⟨a.wp.mono b,a.cg,a.kz.mono b,a.fit,h,a.qu.1,a.qu.2.mono b⟩,by show Aa B _ J (DR x.vb y.sb x.p.wb x.qb::_);rw[d];exact(f.x [3,3,3])⟩
def EL(s:BR):Lu:=(JM s.Z.l).headD []
def FX:Lu:=[108,111,103,111,117,116,82,101,113,117,101,115,116,61]
def AH(s:BR):(List UInt8×List UInt8×List UInt8)×Bool:=match JM s.Z.l with
 | _::_=>(((getD s.Z.l (EL s)).name,(bX (getD s.Z.l (getD s.Z.l (EL s)).parent).url (getD s.Z.l (getD s.Z.l (EL s)).parent).name (getD s.Z.l (EL s)).name).1,[]),true)
 | []=>if(EE s.q s.Z.now).2 then(((EE s.q s.Z.now).1.ticket,(EE s.q s.Z.now).1.url,FX++Ar (TC (EE s.q s.Z.now).1.ticket (EE s.q s.Z.now).1.next.toNat)),true)else(([],[],[]),false)
theorem pK{l:List Ah}(h:Wf l)(name:Lu):(getD l name).name.length<=32:=by
 rcases Tr.get_at l name with⟨_,a⟩|⟨j,r,_,b,_,a⟩
 ·unfold getD;rw[a];decide
 ·unfold getD;rw[a]
  have:=nA (h.right r (Y8 b))
  show r.name.length<=32
  omega
theorem wH{q:List Nt}{now:Int}(h:(EE q now).2=true):(EE q now).1∈q:=by
 unfold EE at h ⊢;split
 ·rename_i e;rw[e]at h;cases h
 ·rename_i b e
  rw[e]at h;dsimp only at h ⊢
  split
  ·rename_i c;rw[Y7 c]at h;cases h
  ·rcases w7 e with a|a
   ·cases a
   ·exact a
theorem Xnl(n:Nt)(a:DD n=true)(c:Kx I)(N:La)(d:Aa B w I N):Calls prog 159 #[.agg (X6 n).toArray] w (AY λv w'=>v=S (TC n.ticket n.next.toNat)/\Aa B w' I N):=by
 unfold DD at a;simp only[Yb,decide_eq_true_eq]at a
 have b:=Xrm n.ticket n.url n.tries n.next.toNat a.1.1.1.1.1 om c N d;rw[iJ a.1.2]at b;exact b
theorem Nr(g:Cg)(x:Sp)(s:BR)(m:A9 s.Z)(G:FK s.q)(A:Bz I g x s)(N:La)(b:Aa B w I (PY g x s N)):
  Cz 83 [ptr x.vb 0] w λv w'=>∃J,v=.tuple #[.agg #[S (AH s).1.1,S (AH s).1.2.1,S (AH s).1.2.2],.bool (AH s).2]/\Le I J/\Aa B w' J (DR x.vb x.k.sb x.p.wb x.qb::AV x.p (s.Z)::Ey x.qb g.qc s.q x.qa x.qk::EN x.k s.k::N):=by
 refine gH 6 ?_;intro K w b;refine gF 0 (Xrp x.p s.Z m) ?_;rintro _ w ⟨J,ka,kc,rfl,r,X,M,b⟩;refine gG 1 ?_;obtain⟨a,c,n,o,b⟩:=EJ b;refine gM 3 ?_ ?_<;>intro e Q
 ·refine .ck [0,2] (σ:=Nat) (λj _m=>(5,ptr j 0)::_m) (λj w=>Aa B w J (Ad j (X5 (getD s.Z.l (EL s))) 160::Ad x.p.wb (Cr x.p s.Z) 115::Bc x.p.tb s.Z.room a c s.Z.l (Ad x.p.mb [.slice n s.Z.D.length o] 225::CA 41 (.slice n s.Z.D.length o) (s.Z.D.map λd=>Ba (d:Nat))::Ad K [S [],S [],S []] 187::DR x.vb x.k.sb x.p.wb x.qb::Ey x.qb g.qc s.q x.qa x.qk::EN x.k s.k::N))) ?_ ?_
  ·have i:(JM s.Z.l)=EL s::((JM s.Z.l)).tail:=by
    unfold EL;cases h:(JM s.Z.l)with
    | nil=>rw[h]at e;simp at e
    | cons n0 rest=>rfl
   have P:((JM s.Z.l).map S)[0]?=some (S (EL s)):=by rw[i];rfl
   obtain⟨pp,rfl,V⟩:=M.2 (by rw[i];exact Nat.succ_pos _);refine gD [6,0] [15] [0,1,2,3,4,5,6,7,8,9] ?_;intro w b;refine gH 9 ?_;refine AN.y 9 (λw _ _ L b=>.ld1 (.of O) (by have U:=JH b (V.mono L) P;simpa using U) Bq) ?_;refine gB 10 14 [11,12,13,14,15,16] [10,11,12,13,15,16] ?_ ?_
   ·refine gE 0 (Fx _ s.Z.room a c s.Z.l (oh m.len) (EL s)) ?_;intro w b;refine gH 4 ?_;intro j w b;refine gH 1 ?_;intro w b;exact gG 1 (cd j ((((((((((b.pick 9 O).pick 9 O).pick 9 O).pick 9 O).pick 9 O).pick 9 O).pick 8 O).pick 8 O).pick 9 O).pick 9 O))
   ·refine gH 1 ?_;intro j w b;refine gE 0 (Fx _ s.Z.room a c s.Z.l (oh m.len) (EL s)) ?_;intro w b;refine gH 4 ?_;intro w b;exact gG 1 (cd j ((((((((((b.pick 9 O).pick 9 O).pick 9 O).pick 9 O).pick 9 O).pick 9 O).pick 7 O).pick 7 O).pick 9 O).pick 9 O))
  rintro j w b;refine .ck [2] (σ:=Nat×Nat) (λ(j,F) _m=>(5,ptr j 0)::(7,ptr F 0)::_m) (λ(j,F) w=>Aa B w J (Ad j (X5 (getD s.Z.l (EL s))) 160::Ad F (X5 (getD s.Z.l (getD s.Z.l (EL s)).parent)) 160::Ad x.p.wb (Cr x.p s.Z) 115::Bc x.p.tb s.Z.room a c s.Z.l (Ad x.p.mb [.slice n s.Z.D.length o] 225::CA 41 (.slice n s.Z.D.length o) (s.Z.D.map λd=>Ba (d:Nat))::Ad K [S [],S [],S []] 187::DR x.vb x.k.sb x.p.wb x.qb::Ey x.qb g.qc s.q x.qa x.qk::EN x.k s.k::N))) ?_ ?_
  ·refine gD [7,1,0] [14] [0,1,2,3,4,5,6,7,8] ?_;intro w b;refine gH 9 (gB 9 13 [10,11,12,13,14,15] [9,10,11,12,14,15] ?_ ?_)
   ·refine gE 0 (Fx _ s.Z.room a c s.Z.l (oh m.len) (getD s.Z.l (EL s)).parent) ?_;intro w b;refine gH 4 ?_;intro F w b;refine gH 1 ?_;intro w b;exact gG 1 (Eo (_,_) O (((((((((((b.pick 10 O).pick 10 O).pick 10 O).pick 10 O).pick 10 O).pick 10 O).pick 8 O).pick 8 O).pick 10 O).pick 9 O).pick 10 O))
   ·refine gH 1 ?_;intro F w b;refine gE 0 (Fx _ s.Z.room a c s.Z.l (oh m.len) (getD s.Z.l (EL s)).parent) ?_;intro w b;refine gH 4 ?_;intro w b;exact gG 1 (Eo (_,_) O (((((((((((b.pick 10 O).pick 10 O).pick 10 O).pick 10 O).pick 10 O).pick 10 O).pick 7 O).pick 7 O).pick 10 O).pick 9 O).pick 10 O))
  rintro⟨j,F⟩ w b;refine gG 0 ?_;have W:=pX m.wf (getD s.Z.l (EL s)).parent;have ac:=pK m.wf (getD s.Z.l (EL s)).parent;have ab:=pK m.wf (EL s);refine gE 7 (Xik _ _ _ om om om (A.kz.kn.mono r)) ?_;intro w b;refine gH 11 ?_;intro w b;refine gG 0 ?_;replace b:=Aa.box (T:=Bl x.p _) (a,c,n,o) (b.px [6,6,6,6,6]);have i:(JM s.Z.l)=EL s::((JM s.Z.l)).tail:=by
   unfold EL;cases h:(JM s.Z.l)with
   | nil=>rw[h]at e;simp at e
   | cons n0 rest=>rfl
  have H:AH s=(((getD s.Z.l (EL s)).name,(bX (getD s.Z.l (getD s.Z.l (EL s)).parent).url (getD s.Z.l (getD s.Z.l (EL s)).parent).name (getD s.Z.l (EL s)).name).1,[]),true):=by
   unfold AH;rw[i]
  rw[H];exact⟨J,O,r,(b.z [6,6,2,6] 4 3)⟩
 refine .skip (.ck [2] (σ:=Nat) (λf _m=>(11,ptr f 0)::(12,.bool (EE s.q s.Z.now).2)::_m) (λf w=>Aa B w J (Ad f (X6 (EE s.q s.Z.now).1) 103::Ad x.p.wb (Cr x.p s.Z) 115::Bc x.p.tb s.Z.room a c s.Z.l (Ad x.p.mb [.slice n s.Z.D.length o] 225::CA 41 (.slice n s.Z.D.length o) (s.Z.D.map λd=>Ba (d:Nat))::Ad K [S [],S [],S []] 187::DR x.vb x.k.sb x.p.wb x.qb::Ey x.qb g.qc s.q x.qa x.qk::EN x.k s.k::N))) ?_ ?_)
 ·refine gD [6,0] [16] [0,1,2,3,4,5,6,7,8,9,10] ?_;intro w b;refine gH 11 (gB 11 15 [12,13,14,15,16,17] [11,12,13,14,16,17] ?_ ?_)
  ·refine gP 0 [7] (Xnc _ _ _ _ _ _ _ s.q G.1 (A.qu.2.mono r) A.qu.1 G.2 s.Z.now m.now.1 m.now.2 _) ?_;rintro _ w ⟨rfl,b⟩;refine gH 4 ?_;intro f w b;refine gH 1 ?_;intro w b;exact gG 1 (cd f ((((((((((b.pick 9 O).pick 2 O).pick 9 O).pick 9 O).pick 9 O).pick 9 O).pick 9 O).pick 9 O).pick 9 O).pick 9 O))
  ·refine gH 1 ?_;intro f w b;refine gP 0 [8] (Xnc x.qb _ _ _ _ x.qa x.qk s.q G.1 (A.qu.2.mono r) A.qu.1 G.2 s.Z.now m.now.1 m.now.2 _) ?_;rintro _ w ⟨rfl,b⟩;refine gH 4 ?_;intro w b;exact gG 1 (cd f ((((((((((b.pick 9 O).pick 1 O).pick 9 O).pick 9 O).pick 9 O).pick 9 O).pick 9 O).pick 9 O).pick 9 O).pick 9 O))
 rintro f w b;refine gM 2 ?_ ?_<;>intro u R
 ·refine gH 3 ?_;intro w b;refine gG 0 ?_;replace b:=Aa.box (T:=Bl x.p s.Z) (a,c,n,o) (b.px [5,5,5,5,5]);have i:(JM s.Z.l)=[]:=by
   cases h:(JM s.Z.l)with
   | nil=>rfl
   | cons n0 rest=>rw[h]at e;simp at e
  have H:AH s=(([],[],[]),false):=by
   unfold AH;rw[i];exact Y3 (su u)
  rw[H];exact⟨J,O,r,(b.z [5,5,2,5] 4 2)⟩
 refine gG 0 ?_;have C:(EE s.q s.Z.now).2=true:=su u
 have E:=G.2 _ (wH C);unfold DD at E;simp only[Yb,decide_eq_true_eq]at E
 have Y:=a_ (TC (EE s.q s.Z.now).1.ticket (EE s.q s.Z.now).1.next.toNat);have aa:=yP (t:=(EE s.q s.Z.now).1.ticket) (nn:=(EE s.q s.Z.now).1.next.toNat) (oh ((gL E.1.1.1.1.1).2)) om;refine gD [0] [9] [0,1,2,3,4,5,6,7,8,9,10] ?_;intro w b;refine gE 5 (Xnl (EE s.q s.Z.now).1 (G.2 _ (wH C)) (A.kz.kx.mono r)) ?_;intro w b;refine gE 0 (wu _ om (A.kz.kn.iZ.mono r)) ?_;intro w b;refine gH 3 ?_;intro w b;refine gG 1 ?_;replace b:=Aa.box (T:=Bl x.p s.Z) (a,c,n,o) (b.px [5,5,5,5,5]);have i:(JM s.Z.l)=[]:=by
  cases h:(JM s.Z.l)with
  | nil=>rfl
  | cons n0 rest=>rw[h]at e;simp at e
 have H:AH s=(((EE s.q s.Z.now).1.ticket,(EE s.q s.Z.now).1.url,FX++Ar (TC (EE s.q s.Z.now).1.ticket (EE s.q s.Z.now).1.next.toNat)),true):=by
  unfold AH;rw[i];exact Y7 C
 rw[H];exact⟨J,O,r,(b.z [5,5,2,5] 4 2)⟩
def oI(g:Cg)(Z:Wd)(r:Ah)(n:Int):Bool:=n==200&&!(Xr g.ps Z (getD Z.l r.parent).name 4).2
def kl(g:Cg)(Z:Wd)(r:Ah)(n:Int):Int:=if oI g Z r n=true then 0 else n
def kk(g:Cg)(Z:Wd)(r:Ah)(n:Int):Nat:=if oI g Z r n=true then 30 else 34
def Xy(g:Cg)(Z:Wd)(r:Ah)(n:Int):Wd:=(N_ Z r.name (kl g Z r n)).2
def VN(g:Cg)(Z:Wd)(r:Ah)(n:Int):Sx :=
 let q:=getD (Xy g Z r n).l (getD Z.l r.parent).parent
 ⟨q.user,TK g.us q.user (Xk g.lo q.service).1.rel,TH (Xy g Z r n).l q.name,r.name⟩
def TS(g:Cg)(Z:Wd)(r:Ah)(n:Int):Da :=
 if(N_ Z r.name (kl g Z r n)).1.2≠0 then QL I7 (kk g Z r n) (decide (0<r.A4))else QL (VN g Z r n) 0 (decide (0<r.A4))
theorem mN{lo:List Sv}{us:List Us}{Z:Wd}(d:A9 Z)(f:Vk lo us)(u sv nm i:Lu)(o:u.length<=32)(hi:i.length<=100):oF ⟨u,TK us u (Xk lo sv).1.rel,TH Z.l nm,i⟩:=by
 have b:∀nm,(CM us nm).length<=8/\∀a∈CM us nm,a.1.length<=100/\a.2.length<=100:=λnm=>by
  unfold CM;split
  ·rename_i e;exact f.iW _ (qI e)
  ·exact⟨Y5 _,λa c=>by simp at c⟩
 have g:(Xk lo sv).1.rel.length<=8:=by
  rcases s3 lo sv with e|e
  ·rw[e];decide
  ·exact f.rel _ e
 refine⟨by dsimp only;omega,hi,⟨?_,λa c=>?_⟩,⟨?_,λp k=>?_⟩⟩
 ·have:=wB (rel:=(Xk lo sv).1.rel) (b u).1
  show(TK _ _ _).length<=64
  unfold TK;omega
 ·obtain⟨x,_,hx⟩:=kT.1 c;exact(b _).2 a (Ik.1 hx).1
 ·show(TH _ _).length<=64
  unfold TH;rw[Ym];have m:=nX d.wf nm;have n:=d.len;exact Yr (EV ..) om
 ·obtain⟨r,g,rfl⟩:=Dj.1 k;obtain⟨j,h⟩:=tJ (Ik.1 g).1
  have:=d.wf.right r (Y8 h)
  unfold Dh at this;simp only[Yb,decide_eq_true_eq]at this
  show r.url.length<=200
  omega
theorem yB{g:Cg}{Z:Wd}(h:A9 Z)(r:Ah)(n:Int):A9 (Xy g Z r n):=Xz2 h _ _
theorem Xme(f:Qc)(r:Ah)(n:Int)(ai:r.name.length<=100)(x:Lp)(s:Bi)(H:Oa)(K:Nat)(Q:A9 s.Z)(u:BV I x)(N:La)(b:Aa B w I (BL x s H K::AV x.p s.Z::N)):
  Cz 161 [ptr x.tp 0,.agg (X5 r).toArray,Ab n] w λv w'=>LN I (TS (Xq x.p f) s.Z r n) B (BL x s H K::AV x.p (Xy (Xq x.p f) s.Z r n)::N) v w':=by
 refine gH 2 ?_;intro R U w b;refine .nil (.ck [0,2,4,6] (σ:=Nat) (λt _m=>(7,ptr t 0)::_m) (λt w=>Aa B w I (Ad t (X5 (getD s.Z.l r.parent)) 160::Ad R (X5 r) 160::Ad U [Ab 0,.slice none 0 0,S []] 166::BL x s H K::AV x.p s.Z::N)) ?_ ?_)
 ·replace b:=b.px [3];obtain⟨a,c,j,k,b⟩:=EJ b;refine gD [7,0,5] [14] [0,1,2,3,4,5,6,7,8] ?_;intro w b;refine gH 9 (gB 9 13 [10,11,12,13,14,15] [9,10,11,12,14,15] ?_ ?_)
  ·refine gE 0 (Fx _ s.Z.room a c s.Z.l (oh Q.len) r.parent) ?_;intro w b;refine gH 4 ?_;intro t w b;refine gH 1 ?_;intro w b;refine gG 1 ?_;replace b:=Aa.box (T:=Bl x.p _) (a,c,j,k) (b.px [5,5,4,4,5]);exact cd t (b.x [4,3,4,4])
  ·refine gH 1 ?_;intro t w b;refine gE 0 (Fx _ s.Z.room a c s.Z.l (oh Q.len) r.parent) ?_;intro w b;refine gH 4 ?_;intro w b;refine gG 1 ?_;replace b:=Aa.box (T:=Bl x.p _) (a,c,j,k) (b.px [5,5,3,3,5]);exact cd t (b.x [4,3,4,4])
 rintro t w b;refine .ck [0,2,4,6,7] (σ:=Unit) (λ_ _m=>(10,.bool (Xr x.p.ps s.Z (getD s.Z.l r.parent).name 4).2)::_m) (λ_ w=>Aa B w I (Ad t (X5 (getD s.Z.l r.parent)) 160::Ad R (X5 r) 160::Ad U [Ab 0,.slice none 0 0,S []] 166::BL x s H K::AV x.p s.Z::N)) ?_ ?_
 ·refine gD [3,0] [11] [0,1,2,3,4,5] ?_;intro w b;refine gH 6 (gB 6 10 [7,8,9,10,11,12] [6,7,8,9,11,12] ?_ ?_)
  ·refine gE 0 (jH _ 4 x.p s.Z Q) ?_;intro w b;refine gH 4 ?_;intro b9 w b;refine gH 1 ?_;intro w b;exact gG 1 (cd () (b.z [1,5,5,5,5] 5 1))
  ·refine gH 1 ?_;intro b9 w b;refine gE 0 (jH _ 4 x.p s.Z Q) ?_;intro w b;refine gH 4 ?_;intro w b;exact gG 1 (cd () (b.z [5,5,5,5] 5 1))
 rintro _ w b;refine gH 1 (.nil (.ck [0,4,6,7] (σ:=Unit) (λ_ _m=>(2,Ab (kl (Xq x.p f) s.Z r n))::(11,Ab (kk (Xq x.p f) s.Z r n:Nat))::_m) (λ_ w=>Aa B w I (Ad t (X5 (getD s.Z.l r.parent)) 160::Ad R (X5 r) 160::Ad U [Ab 0,.slice none 0 0,S []] 166::BL x s H K::AV x.p s.Z::N)) ?_ ?_))
 ·refine gM 6 ?_ ?_<;>intro A am
  ·refine gG 2 ?_;have V:oI (Xq x.p f) s.Z r n=true:=by simpa[oI,Xq]using A
   exact⟨(),⟨by simp only[kl,kk,V];rfl,by simp only[kl,kk,V];rfl,O,O,O,O,trivial⟩,(b.x [4,4,4,4,4])⟩
  refine gG 0 ?_;have V:oI (Xq x.p f) s.Z r n=false:=by simpa[oI,Xq]using A
  exact⟨(),⟨by simp only[kl,kk,V];rfl,by simp only[kl,kk,V];rfl,O,O,O,O,trivial⟩,(b.x [4,4,4,4,4])⟩
 rintro _ w b;refine gG 4 ?_;have q:=yB (g:=(Xq x.p f)) Q r n;have ae:=pX q.wf (getD s.Z.l r.parent).parent;refine gD [3,1] [] [0,1,2,3,4,5,6,7,8,9,10,11,12] ?_;intro w b;refine gE 7 (Xya _ _ x.p s.Z Q u.wp) ?_;intro w b;refine gN 7 ?_ ?_<;>intro C
 ·refine gF 3 (sG I7 _ (λ_=>PZ) (decide (0<r.A4)) _ u.kz (qD I)) ?_;rintro _ w ⟨J,na,nc,rfl,hJ,L,G,b⟩;refine gH 1 ?_;intro w b;refine gG 0 ?_;have X:TS (Xq x.p f) s.Z r n=QL I7 (kk (Xq x.p f) s.Z r n) (decide (0<r.A4)):=by unfold TS;exact Y7 (oh C)
  rw[X];exact⟨J,na,nc,O,hJ,L,G,(b.z [4] 2 3)⟩
 refine .skip (.ck [0,4,6,12] (σ:=Nat) (λh _m=>(15,ptr h 0)::_m) (λh w=>Aa B w I (Ad h (X5 (getD (Xy (Xq x.p f) s.Z r n).l (getD s.Z.l r.parent).parent)) 160::Ad t (X5 (getD s.Z.l r.parent)) 160::Ad R (X5 r) 160::Ad U [Ab 0,.slice none 0 0,S []] 166::BL x s H K::AV x.p (Xy (Xq x.p f) s.Z r n)::N)) ?_ ?_)
 ·obtain⟨⟨a,c,j,k⟩,b⟩:=Aa.unbox b;replace b:Aa B _ _ (Ad x.p.wb (Cr x.p (Xy (Xq x.p f) s.Z r n)) 115::Bc x.p.tb (Xy (Xq x.p f) s.Z r n).room a c (Xy (Xq x.p f) s.Z r n).l (Ad x.p.mb [.slice j (Xy (Xq x.p f) s.Z r n).D.length k] 225::CA 41 (.slice j (Xy (Xq x.p f) s.Z r n).D.length k) ((Xy (Xq x.p f) s.Z r n).D.map λd=>Ba (d:Nat))::_)):=b;refine gD [8,0,4] [14] [0,1,2,3,4,5,6,7,8] ?_;intro w b;refine gH 9 (gB 9 13 [10,11,12,13,14,15] [9,10,11,12,14,15] ?_ ?_)
  ·refine gE 0 (Fx x.p.tb (Xy (Xq x.p f) s.Z r n).room a c (Xy (Xq x.p f) s.Z r n).l (oh q.len) (getD s.Z.l r.parent).parent) ?_;intro w b;refine gH 4 ?_;intro h w b;refine gH 1 ?_;intro w b;refine gG 1 ?_;replace b:=Aa.box (T:=Bl x.p (Xy (Xq x.p f) s.Z r n)) (a,c,j,k) (b.px [5,5,4,4,5]);exact cd h (b.x [5,5,5,5,5])
  ·refine gH 1 ?_;intro h w b;refine gE 0 (Fx x.p.tb (Xy (Xq x.p f) s.Z r n).room a c (Xy (Xq x.p f) s.Z r n).l (oh q.len) (getD s.Z.l r.parent).parent) ?_;intro w b;refine gH 4 ?_;intro w b;refine gG 1 ?_;replace b:=Aa.box (T:=Bl x.p (Xy (Xq x.p f) s.Z r n)) (a,c,j,k) (b.px [5,5,3,3,5]);exact cd h (b.x [5,5,5,5,5])
 rintro h w b;refine .ck [0,4,6,12,15] (σ:=Im×Nat×Oa×Nat) (λ(E,o,M,P) _m=>(17,ptr o 0)::_m) (λ(E,o,M,P) w=>Le I E/\(Xk x.p.lo (getD (Xy (Xq x.p f) s.Z r n).l (getD s.Z.l r.parent).parent).service).1.rel.length<=P/\RS E M 1 (Xk x.p.lo (getD (Xy (Xq x.p f) s.Z r n).l (getD s.Z.l r.parent).parent).service).1.rel.length ((Xk x.p.lo (getD (Xy (Xq x.p f) s.Z r n).l (getD s.Z.l r.parent).parent).service).1.rel.map S)/\Aa B w E (Ad o (g_ (Xk x.p.lo (getD (Xy (Xq x.p f) s.Z r n).l (getD s.Z.l r.parent).parent).service).1 M P) 62::Ad h (X5 (getD (Xy (Xq x.p f) s.Z r n).l (getD s.Z.l r.parent).parent)) 160::Ad R (X5 r) 160::Ad U [Ab 0,.slice none 0 0,S []] 166::BL x s H K::AV x.p (Xy (Xq x.p f) s.Z r n)::N)) ?_ ?_
 ·replace b:=b.px [5];obtain⟨⟨a,c,j,k⟩,b⟩:=Aa.unbox b;replace b:Aa B _ _ (Ad x.p.wb (Cr x.p (Xy (Xq x.p f) s.Z r n)) 115::Bc x.p.tb (Xy (Xq x.p f) s.Z r n).room a c (Xy (Xq x.p f) s.Z r n).l (Ad x.p.mb [.slice j (Xy (Xq x.p f) s.Z r n).D.length k] 225::CA 41 (.slice j (Xy (Xq x.p f) s.Z r n).D.length k) ((Xy (Xq x.p f) s.Z r n).D.map λd=>Ba (d:Nat))::_)):=b;refine gD [9,0,4] [15] [0,1,2,3,4,5,6,7,8] ?_;intro w b;refine gH 9 (gB 9 14 [10,11,12,13,14,15,16,17] [9,10,11,12,13,15,16,17] ?_ ?_)
  ·refine gF 0 (pG (getD (Xy (Xq x.p f) s.Z r n).l (getD s.Z.l r.parent).parent).service om x.p u.wp) ?_;rintro _ w ⟨E,M,P,m,rfl,y,i,b⟩;refine gH 5 ?_;intro o w b;refine gH 1 ?_;intro w b;refine gG 2 ?_;replace b:=Aa.box (T:=Bl x.p (Xy (Xq x.p f) s.Z r n)) (a,c,j,k) (b.px [5,5,5,5,5]);exact Eo (_,_,_,_) O ⟨m,y,i,(b.z [6,6,6,5,5] 6 1)⟩
  ·refine gH 1 ?_;intro o w b;refine gF 0 (pG (getD (Xy (Xq x.p f) s.Z r n).l (getD s.Z.l r.parent).parent).service om x.p u.wp) ?_;rintro _ w ⟨E,M,P,m,rfl,y,i,b⟩;refine gH 5 ?_;intro w b;refine gG 2 ?_;replace b:=Aa.box (T:=Bl x.p (Xy (Xq x.p f) s.Z r n)) (a,c,j,k) (b.px [5,5,5,5,5]);exact Eo (_,_,_,_) O ⟨m,y,i,(b.z [6,6,6,5,5] 6 1)⟩
 rintro⟨E,o,M,P⟩ w ⟨m,y,i,b⟩;refine gG 0 ?_;replace b:=b.px [5];obtain⟨⟨a,c,j,k⟩,b⟩:=Aa.unbox b;replace b:Aa B _ _ (Ad x.p.wb (Cr x.p (Xy (Xq x.p f) s.Z r n)) 115::Bc x.p.tb (Xy (Xq x.p f) s.Z r n).room a c (Xy (Xq x.p f) s.Z r n).l (Ad x.p.mb [.slice j (Xy (Xq x.p f) s.Z r n).D.length k] 225::CA 41 (.slice j (Xy (Xq x.p f) s.Z r n).D.length k) ((Xy (Xq x.p f) s.Z r n).D.map λd=>Ba (d:Nat))::_)):=b;have Y:=u.wp.mono m;have ad:=VW u.wp.iW (getD (Xy (Xq x.p f) s.Z r n).l (getD s.Z.l r.parent).parent).user;have ah:(Xk x.p.lo (getD (Xy (Xq x.p f) s.Z r n).l (getD s.Z.l r.parent).parent).service).1.rel.length<=1000000:=by
  rcases s3 x.p.lo (getD (Xy (Xq x.p f) s.Z r n).l (getD s.Z.l r.parent).parent).service with e|e
  ·rw[e];decide
  ·exact u.wp.rel _ e
 have aj:=mN q u.fit (getD (Xy (Xq x.p f) s.Z r n).l (getD s.Z.l r.parent).parent).user (getD (Xy (Xq x.p f) s.Z r n).l (getD s.Z.l r.parent).parent).service (getD (Xy (Xq x.p f) s.Z r n).l (getD s.Z.l r.parent).parent).name r.name ae.1 ai;refine gD [9,0,5,4,4] [26] [0,1,2,3,4,5,6,7,8,9,10,11,12,14,15,16,17,18,19,21,22,24,13,20,23,25,26] ?_;intro w b;refine gH 14 (gF 8 (Xjv x.p.ub x.p.us u.wp.fit (getD (Xy (Xq x.p f) s.Z r n).l (getD s.Z.l r.parent).parent).user ad M P (Xk x.p.lo (getD (Xy (Xq x.p f) s.Z r n).l (getD s.Z.l r.parent).parent).service).1.rel ah (by exact Y.tab) (by exact i)) ?_);rintro _ w ⟨Ja,ka,kc,rfl,W,af,ab,b⟩;refine gF 0 (Xet x.p (Xy (Xq x.p f) s.Z r n) a c q.len q.wf (getD (Xy (Xq x.p f) s.Z r n).l (getD s.Z.l r.parent).parent).name) ?_;rintro _ w ⟨Jp,pa,pc,rfl,F,ag,ac,b⟩;refine gF 1 (sG (VN (Xq x.p f) s.Z r n) 0 (λ_=>aj) (decide (0<r.A4)) _ (by exact((u.kz.mono m).mono W).mono F) ⟨ka,kc,pa,pc,O,af,(by exact(ab).mono F),ag,(by exact ac)⟩) ?_;rintro _ w ⟨J,na,nc,rfl,hJ,L,G,b⟩;refine gH 1 ?_;intro w b;refine gG 0 ?_;replace b:=Aa.box (T:=Bl x.p (Xy (Xq x.p f) s.Z r n)) (a,c,j,k) (b.px [4,4,4,4,4]);have X:TS (Xq x.p f) s.Z r n=QL (VN (Xq x.p f) s.Z r n) 0 (decide (0<r.A4)):=by unfold TS;exact Y3 (oh C)
 rw[X];exact⟨J,na,nc,O,((m.trans W).trans F).trans hJ,L,G,(b.z [5] 2 4)⟩
theorem Xic(g:Cg)(s:BR)(y:Lp)(r:Ah)(n:Int)(a:r.name.length<=100)(e:Xq y.p g.qc=g)(d:A9 s.Z)(c:BV I y)(N:La)(b:Aa B w I (BL y (Dx s) none 0::AV y.p s.Z::N)):
  Cz 161 [ptr y.tp 0,.agg (X5 r).toArray,Ab n] w λv w'=>LN I (TS g s.Z r n) B (BL y (Dx s) none 0::AV y.p (Xy g s.Z r n)::N) v w':=by
 have h:=Xme g.qc r n a y (Dx s) none 0 d c N b;rw[e]at h;exact h
theorem RI(d:Nat)(a:Qc)(g:Oa)(h:Nat)(q:List Nt)(k:FK q)(t:Lu)(ok:Bool)(now:Int)(j:0<=now/\now<=1099511627776)(i:CD I g h q)(N:La)(f:Aa B w I (Ey d a q g h::N)):
  Calls prog 160 #[ptr d 0,S t,.bool ok,Ab now] w (AY λv w'=>∃J b c,v=Ab ((G0 a q t ok now).2:Nat)/\Le I J/\CD J b c (G0 a q t ok now).1/\Aa B w' J (Ey d a (G0 a q t ok now).1 b c::N)) :=
 (Uh d _ a.x a.y a.z g h q k.1 i.2 i.1 k.2 a.tries O t ok now j.1 j.2 N f).mono λe w' ⟨v,r,J,l,m,s,n,o,p,f⟩=>⟨v,r,J,l,m,s,n,⟨p,o⟩,f⟩
def FP(g:Cg)(s:BR)(a:Lu)(n:Int):(Lu×Nat)×BR :=
 let r:=getD s.Z.l a
 if(r.kind !=5)=true then
  let d:=G0 g.qc s.q a (n==200) s.Z.now
  if d.2≠0 then(([],6),s)else
  let e:=DU s { Dx s with q:=d.1 }
  (([],e.1),e.2)
 else
  let p:=TS g s.Z r n
  let Z:=Xy g s.Z r n
  if(!bL p)=true then((Hr (Fy 503),39),{ s with Z:={ s.Z with D:=Z.D } })else
  let e:=DU s { Dx s with Z:=Z }
  if e.1≠0 then((Hr (Fy 503),e.1),e.2)else((Hr p,0),e.2)
theorem xP(g:Cg)(Z:Wd)(r:Ah)(n:Int):ED (TS g Z r n):=by unfold TS;split<;>exact wz _ _ _
theorem ZL{g:Cg}{s:BR}(h:A2 s k)(a:Lu)(n:Int):A2 (FP g s a n).2 (k+256):=by
 have b:A2 s (k+256):=⟨h.Z,h.q,Yr h.Av (JR _ _)⟩
 have ha:=yB (g:=g) h.Z (getD s.Z.l a) n;have c:=tV (t:={ Dx s with q:=(G0 g.qc s.q a (n==200) s.Z.now).1 }) h h.Z (Xvf h.q h.Z.now.1);have d:=tV (t:={ Dx s with Z:=Xy g s.Z (getD s.Z.l a) n }) h ha h.q;have e:A2 { s with Z:={ s.Z with D:=(Xy g s.Z (getD s.Z.l a) n).D } } (k+256):=⟨⟨h.Z.len,h.Z.wf,ha.D,h.Z.now,h.Z.room⟩,h.q,b.Av⟩
 unfold FP;dsimp only
 (repeat' split)
 all_goals first|exact b|exact c|exact d|exact e
theorem Ns(g:Cg)(x:Sp)(s:BR)(i:Lu)(n:Int)(hs:A2 s 800000)(f:Bz I g x s)(N:La)(d:Aa B w I (PY g x s N)):
  Cz 84 [ptr x.vb 0,S i,Ab n] w λv w'=>v=.tuple #[S (FP g s i n).1.1,Ab ((FP g s i n).1.2:Nat)]/\∃J y,Le I J/\y.vb=x.vb/\y.k.db=x.k.db/\Bz J g y (FP g s i n).2/\Aa B w' J (Ua g y (FP g s i n).2++N):=by
 refine gF 3 (w4 g.qc x.vb x.k.sb x.qb x.qa x.qk s.q x.p s.Z hs.Z hs.q f.qu) ?_;rintro _ w ⟨J,tp,Y,nb,tc,ap,aq,rfl,hJ,Q,d⟩;have W:BV J ⟨tp,Y,{ x.p with wb:=nb,tb:=tc },none,0,[],[]⟩:=⟨(f.wp.mono hJ).cp nb tc,f.kz.mono hJ,RS.nil _ _,Y5 _,λa ha=>by simp at ha,Y5 _,f.fit⟩
 have X:Xq ({ x.p with wb:=nb,tb:=tc }:Wp) g.qc=g:=f.cg;have m:∀q:Wp,q={ x.p with wb:=nb,tb:=tc }->q={ x.p with wb:=q.wb,tb:=q.tb }:=by rintro q rfl;rfl
 generalize aj:({ x.p with wb:=nb,tb:=tc }:Wp)=p2 at d W X;replace m:=m p2 aj.symm;refine gG 1 ?_;replace d:=d.px [2];obtain⟨a,c,ma,mc,d⟩:=EJ d;refine gE 8 (Fx p2.tb s.Z.room a c s.Z.l (oh hs.Z.len) i) ?_;intro w d;refine gG 9 ?_;intro b9 w d;refine gM 0 ?_ ?_<;>intro j ar
 ·refine gG 0 (gD [6,3] [] [0,1,2,3,4,5,6,7,8,9,10,11,12,13,14,15] ?_);intro w d;refine gF 14 (RI Y g.qc ap aq s.q hs.q i _ s.Z.now hs.Z.now Q) ?_;rintro _ w ⟨J2,a1,a2,rfl,u,ag,d⟩;have b:=hJ.trans u;refine gN 1 ?_ ?_<;>intro M
  ·refine gG 2 ?_;have t:FP g s i n=(([],6),s):=by
    unfold FP;rw[Y7 j];exact Y7 (oh M)
   rw[t];replace d:=Aa.box (T:=Bl p2 _) (a,c,ma,mc) (d.px [6,6,5,5,6]);replace d:=pA m (d.pick 4 O);exact⟨O,J2,x,b,O,O,f.mono b,(d.z [6,6,2,6] 4 3)⟩
  replace d:=Aa.box (T:=Bl p2 _) (a,c,ma,mc) (d.px [6,6,5,5,6]);refine gP 2 [7,1,2,4,7,6,7] (tW _ _ _ _ _ _ _ x.p s.Z s.q s.k x.k (⟨tp,Y,p2,none,0,[],[]⟩:Lp) ({ Dx s with q:=(G0 g.qc s.q i (n==200) s.Z.now).1 }:Bi) none 0 hs.Z hs.Z hs.q (Xvf hs.q hs.Z.now.1) (oh hs.Av) m (f.mono b).wp (f.mono b).kz (f.mono b).qu ag (f.mono b).kp _) ?_;rintro _ w ⟨J6,p9,K,H,L,x9,rfl,A,F,ak,G,C,E,d⟩;have e:=(b).trans A;refine gG 2 ?_;have t:FP g s i n=(([],(DU s ({ Dx s with q:=(G0 g.qc s.q i (n==200) s.Z.now).1 }:Bi)).1),(DU s ({ Dx s with q:=(G0 g.qc s.q i (n==200) s.Z.now).1 }:Bi)).2):=by
   unfold FP;rw[Y7 j];exact Y3 (oh M)
  rw[t];exact⟨O,⟨J6,⟨x.vb,p9,K,H,L,x9⟩,e,O,G,f.next e F C E,(d.z [3,3,3,3] 4 2)⟩⟩
 replace d:=Aa.box (T:=Bl p2 _) (a,c,ma,mc) (d.px [5,5,4,4,5]);have ah:=yB (g:=g) hs.Z (getD s.Z.l i) n;have a0:=pK hs.Z.wf i;refine gP 3 [2] (Xic g s (⟨tp,Y,p2,none,0,[],[]⟩:Lp) (getD s.Z.l i) n om X hs.Z W _) ?_;rintro _ w ⟨J2,na,nc,rfl,u,ai,V,d⟩;have b:=hJ.trans u;refine gH 3 ?_;intro ay w d;refine gE 0 (v7 (TS g s.Z (getD s.Z.l i) n) na nc V (xP _ _ _ _)) ?_;intro w d;refine gM 1 ?_ ?_<;>intro r au
 ·refine gF 0 (nr 503) ?_;rintro _ w ⟨J3,oa,oc,rfl,o,U,R,d⟩;refine gE 0 (pH (Fy 503) oa oc ((f.kz.mono b).mono o) U R (N9 de)) ?_;intro w d;replace d:=d.weaken o;refine gG 2 ?_;have t:FP g s i n=((Hr (Fy 503),39),{ s with Z:={ s.Z with D:=(Xy g s.Z (getD s.Z.l i) n).D } }):=by
   unfold FP;rw[Y3 (nB j)];exact Y7 (su r)
  rw[t];replace d:=pA m ((d.pick 2 O).pick 5 O);exact⟨O,J2,x,b,O,O,⟨(f.mono b).wp,f.cg,(f.mono b).kz,f.fit,(f.mono b).kp,(f.mono b).qu⟩,(d.z [7,7,2,7] 4 4)⟩
 refine gP 2 [8,3,5,4,8,7,8] (tW g.qc x.vb x.qb x.qa _ x.qk _ x.p s.Z s.q s.k x.k (⟨tp,Y,p2,none,0,[],[]⟩:Lp) ({ Dx s with Z:=Xy g s.Z (getD s.Z.l i) n }:Bi) none 0 hs.Z ah hs.q hs.q (oh hs.Av) m (f.mono b).wp (f.mono b).kz (f.mono b).qu ⟨Q.1,Q.2.mono u⟩ (f.mono b).kp _) ?_;rintro _ w ⟨J6,p9,K,H,L,x9,rfl,A,F,ak,G,C,E,d⟩;have e:=(b).trans A;refine gN 3 ?_ ?_<;>intro P
 ·refine gF 0 (nr 503) ?_;rintro _ w ⟨J3,oa,oc,rfl,o,U,R,d⟩;refine gE 0 (pH (Fy 503) oa oc ((f.kz.mono e).mono o) U R (N9 de)) ?_;intro w d;replace d:=d.weaken o;refine gG 3 ?_;have t:FP g s i n=((Hr (Fy 503),(DU s ({ Dx s with Z:=Xy g s.Z (getD s.Z.l i) n }:Bi)).1),(DU s ({ Dx s with Z:=Xy g s.Z (getD s.Z.l i) n }:Bi)).2):=by
   unfold FP;rw[Y3 (nB j)];rw[Y3 (su r)];exact Y7 (λh=>P (Ye (Nat.cast:Nat->Int) h))
  rw[t];exact⟨O,⟨J6,⟨x.vb,p9,K,H,L,x9⟩,e,O,G,f.next e F C E,(d.z [3,3,3,3] 4 3)⟩⟩
 refine gE 1 (pH (TS g s.Z (getD s.Z.l i) n) na nc (f.kz.mono e) ai (V.mono A) (xP _ _ _ _)) ?_;intro w d;refine gG 2 ?_;have t:FP g s i n=((Hr (TS g s.Z (getD s.Z.l i) n),0),(DU s ({ Dx s with Z:=Xy g s.Z (getD s.Z.l i) n }:Bi)).2):=by
  unfold FP;rw[Y3 (nB j)];rw[Y3 (su r)];exact Y3 (λh=>h (Int.ofNat.inj P))
 rw[t];exact⟨O,⟨J6,⟨x.vb,p9,K,H,L,x9⟩,e,O,G,f.next e F C E,(d.z [3,3,3,3] 4 3)⟩⟩
theorem Nv(g:Cg)(p:Wp)(i:Xq p g.qc=g)(Z:Wd)(b:A9 Z)(a:Oa)(c:Nat)(N:La)(h:Aa B w I (Bc p.tb Z.room a c Z.l N)):
  Cz 85 [ptr p.tb 0,.agg ((C9 p.ps).map Ab).toArray,Ab Z.now] w λv w'=>∃J d f,v=.slice d (GC (C9 g.ps) Z.l Z.now).length f/\Le I J/\(GC (C9 g.ps) Z.l Z.now).length<=f/\RS J d 1 (GC (C9 g.ps) Z.l Z.now).length ((GC (C9 g.ps) Z.l Z.now).map S)/\Aa B w' J (Bc p.tb Z.room a c Z.l N):=by
 have e:p.ps=g.ps:=Ye Cg.ps i;rw[<-e];exact Tm p.tb Z.room a c Z.l (oh b.len) b.wf (C9 p.ps) O Z.now b.now N h
theorem WB(g:Cg)(p:Wp)(q:Xq p g.qc=g)(Az:Lu)(Z:Wd)(n:A9 Z)(l:BU I p)(N:La)(m:Aa B w I (AV p Z::N)):
  Cz 87 [ptr p.wb 0,S Az] w λv w'=>∃J a b c d,Le I J/\v=.tuple #[.slice a (Gc g.lo Z Az).length b,.slice c (L_ Z Az).length d]/\(Gc g.lo Z Az).length<=b/\RS J a 4 (Gc g.lo Z Az).length (X2 X6 (Gc g.lo Z Az))/\Aa B w' J (AV p (K4 Z Az)::N):=by
 have e:p.lo=g.lo:=Ye Cg.lo q;rw[<-e];exact(NM Az p Z n l N m).mono λe w' ⟨v,o,J,a,b,c,d,f,h,i,j,r,s,k⟩=>⟨v,o,J,a,b,c,d,f,h,i,j,k⟩
def LD(g:Cg):List (List UInt8)->Wd->List Nt->Nat×Wd×List Nt
 | [],Z,q=>(0,Z,q)
 | n::r,Z,q =>
  if((getD Z.l n).kind==1)=true then
   if(Fc q (Gc g.lo Z n)).2≠0 then(5,K4 Z n,(Fc q (Gc g.lo Z n)).1)else LD g r (K4 Z n) (Fc q (Gc g.lo Z n)).1
  else if((getD Z.l n).kind==5)=true then LD g r (F7 Z (getD Z.l n).parent) q
  else LD g r (F7 Z n) q
def QR(g:Cg)(s:BR):Nat×Wd×List Nt:=LD g (GC (C9 g.ps) s.Z.l s.Z.now) s.Z s.q
def LF(g:Cg)(s:BR):Nat×BR :=
 if(QR g s).1≠0 then(5,{ s with Z:={ s.Z with D:=(QR g s).2.1.D } })else DU s { Dx s with Z:=(QR g s).2.1,q:=(QR g s).2.2 }
theorem tn{g:Cg}:∀(l:List Lu) {Z:Wd} {q:List Nt},A9 Z->FK q->A9 (LD g l Z q).2.1/\FK (LD g l Z q).2.2
 | [],_,_,h,a=>⟨h,a⟩
 | n::r,Z,q,h,a=>by
  unfold LD
  (repeat' split)
  ·exact⟨sZ h n,qe a⟩
  ·exact tn r (sZ h n) (qe a)
  ·exact tn r (cN h _) a
  ·exact tn r (cN h n) a
theorem Tl{g:Cg}{s:BR}(h:A2 s k):A2 (LF g s).2 (k+256):=by
 have a:A9 (QR g s).2.1/\FK (QR g s).2.2:=tn (g:=g) (GC (C9 g.ps) s.Z.l s.Z.now) h.Z h.q;unfold LF;split
 ·exact⟨⟨h.Z.len,h.Z.wf,a.1.D,h.Z.now,h.Z.room⟩,h.q,Yr h.Av (JR _ _)⟩
 ·exact tV h a.1 a.2
theorem Xuc(g:Cg)(x:Sp)(s:BR)(hs:A2 s 800000)(f:Bz I g x s)(N:La)(b:Aa B w I (PY g x s N)):
  Cz 42 [ptr x.vb 0] w λv w'=>v=Ab ((LF g s).1:Nat)/\∃J y,Le I J/\y.vb=x.vb/\y.k.db=x.k.db/\Bz J g y (LF g s).2/\Aa B w' J (Ua g y (LF g s).2++N):=by
 refine gF 2 (w4 g.qc x.vb x.k.sb x.qb x.qa x.qk s.q x.p s.Z hs.Z hs.q f.qu) ?_;rintro _ w ⟨J,tp,nq,nb,tc,a1,a5,rfl,hJ,U,b⟩;have X:BV J ⟨tp,nq,{ x.p with wb:=nb,tb:=tc },none,0,[],[]⟩:=⟨(f.wp.mono hJ).cp nb tc,f.kz.mono hJ,RS.nil _ _,Y5 _,λa ha=>by simp at ha,Y5 _,f.fit⟩
 have P:Xq ({ x.p with wb:=nb,tb:=tc }:Wp) g.qc=g:=f.cg;have C:∀q:Wp,q={ x.p with wb:=nb,tb:=tc }->q={ x.p with wb:=q.wb,tb:=q.tb }:=by rintro q rfl;rfl
 generalize ay:({ x.p with wb:=nb,tb:=tc }:Wp)=p2 at b X P;replace C:=C p2 ay.symm;refine gG 1 ?_;replace b:=b.px [2];obtain⟨a,c,ma,mc,b⟩:=EJ b;refine gD [5,0] [] [0,1,2,3,4,5,6,7,8,9,10,11,12,13,14,15,16,17,18,19,20,23,21,22] ?_;intro w b;refine gH 13 (AN.y 13 (λw _ _ bm b=>.D6 (vs:=(C9 p2.ps).map Ab) (.of O) b (k:=1) O Qp H3 O (λj v hj=>aT hj)) (gF 8 (Nv g p2 P s.Z hs.Z a c) ?_));rintro _ w ⟨J2,oa,oc,rfl,K,bq,au,b⟩;have E:=hJ.trans K;have br:(GC (C9 g.ps) s.Z.l s.Z.now).length<=64:=by unfold GC;rw[Ym];exact Yr (EV ..) hs.Z.len
 refine gG 1 ?_;replace b:=Aa.box (T:=Bl p2 s.Z) (a,c,ma,mc) (b.px [4,4,3,3,4]);have W:=(((((((b.pick 6 O).pick 6 O).pick 6 O).pick 6 O).pick 4 O).pick 6 O).pick 6 O);clear b;refine .lk [0,3] (σ:=Nat×Im×Wd×List Nt×Oa×Nat) (λ(i,Q,Z,q,n,o) _m=>(33,.slice oa (GC (C9 g.ps) s.Z.l s.Z.now).length oc)::(34,Ab ((GC (C9 g.ps) s.Z.l s.Z.now).length:Nat))::(35,Ab (i:Nat))::_m) (λ(i,Q,Z,q,n,o) w=>i<=(GC (C9 g.ps) s.Z.l s.Z.now).length/\Le J2 Q/\A9 Z/\FK q/\CD Q n o q/\LD g ((GC (C9 g.ps) s.Z.l s.Z.now).drop i) Z q=LD g (GC (C9 g.ps) s.Z.l s.Z.now) s.Z s.q/\Aa B w Q (BL (⟨tp,nq,p2,none,0,[],[]⟩:Lp) (Dx s) none 0::Ey nq g.qc q n o::AV p2 Z::rM x.p s.Z::DR x.vb x.k.sb x.p.wb x.qb::Ey x.qb g.qc s.q x.qa x.qk::EN x.k s.k::N)) (λ(i,Q,Z,q,n,o)=>(GC (C9 g.ps) s.Z.l s.Z.now).length-i) (0,J2,s.Z,s.q,a1,a5) ⟨Y5 _,Le.refl _,hs.Z,hs.q,⟨U.1,U.2.mono K⟩,O,W⟩ ?_;rintro⟨i,Q,Z,q,n,o⟩ w ⟨hi,e,u,hq,t,A,b⟩;clear W;refine gN 1 ?_ ?_<;>intro bd
 ·obtain⟨nm,aa⟩:∃nm,(GC (C9 g.ps) s.Z.l s.Z.now)[i]?=some nm:=⟨_,Y2 om⟩
  obtain⟨pp,rfl,hA⟩:=(au.mono e).2 om;have ax:((GC (C9 g.ps) s.Z.l s.Z.now).map S)[i]?=some (S nm):=by rw[Yu,aa];rfl
  have hd:(GC (C9 g.ps) s.Z.l s.Z.now).drop i=nm::(GC (C9 g.ps) s.Z.l s.Z.now).drop (i+1):=by
   obtain⟨h1,h2⟩:=Y1.1 aa;rw[Yq h1,h2]
  refine gH 1 ?_;refine .val (.ld1 (.of O) (by have h9:=JH b hA ax;simpa using h9) Bq) O ?_;refine gG 1 ?_;replace b:=b.px [2];obtain⟨a,c,ma,mc,b⟩:=EJ b;refine gE 8 (Fx p2.tb Z.room a c Z.l (oh u.len) nm) ?_;intro w b;refine gG 10 ?_;intro b6 w b;refine gM 0 ?_ ?_<;>intro m be
  ·replace b:=Aa.box (T:=Bl p2 Z) (a,c,ma,mc) (b.px [5,5,4,4,5]);refine gF 5 (WB g p2 P nm Z u ((X.mono K).mono e).wp) ?_;rintro _ w ⟨J4,na,nc,ga,gc,L,rfl,bp,ar,b⟩;have Y:=Xvl (lo:=g.lo) u nm;have r:=(E.trans e).trans L;refine gP 10 [3] (wY nq _ _ _ _ n o q hq.1 (t.2.mono L) t.1 na nc (Gc g.lo Z nm) Y.1 Y.2 ar (f.kz.mono r).kx (f.kz.mono r).pre _) ?_;rintro _ w ⟨J5,a2,a6,rfl,R,aq,aw,b⟩;have ao:CD J5 a2 a6 (Fc q (Gc g.lo Z nm)).1:=⟨aw,aq⟩
   have h:=r.trans R;refine gN 1 ?_ ?_<;>intro H
   ·refine gG 1 ?_;have e8:(QR g s)=(5,K4 Z nm,(Fc q (Gc g.lo Z nm)).1):=by
     unfold QR;rw[<-A,hd,LD,Y7 m,Y7 (oh H)]
    have e9:LF g s=(5,{ s with Z:={ s.Z with D:=(K4 Z nm).D } }):=by
     unfold LF;rw[e8]
     first|done|rfl
    rw[e9];replace b:=pA C ((b.pick 1 O).pick 4 O);exact⟨O,J5,x,h,O,O,⟨(f.mono h).wp,f.cg,(f.mono h).kz,f.fit,(f.mono h).kp,(f.mono h).qu⟩,(b.z [6,6,2,6] 4 3)⟩
   refine gG 2 (Br (_,_,_,_,_,_) O ⟨od,e.trans (L.trans R),sZ u nm,qe hq,ao,?_,(b.z [7,7,7,7,5,5,7] 7 1)⟩);rw[<-A,hd,LD,Y7 m,Y3 (oh H)]
  refine gM 2 ?_ ?_<;>intro G bf
  ·refine gD [6,3,0] [] [0,1,2,3,4,5,6,7,8,9] ?_;intro w b;refine gF 9 (gR p2.tb Z.room a c Z.l (oh u.len) u.wf (getD Z.l nm).parent) ?_;rintro _ w ⟨J9,ga,gc,rfl,M,av,V,a9,c9,b⟩;replace b:=b.weaken M;refine gG 2 ?_;replace b:=Aa.box (T:=Bl p2 (F7 Z (getD Z.l nm).parent)) (a9,c9,ma,mc) (b.px [5,5,3,3,5]);refine Br (_,_,_,q,_,_) O ⟨od,e,cN u _,hq,t,?_,(b.z [7,7,7,7,4,7,7] 7 1)⟩;rw[<-A,hd,LD,Y3 (nB m),Y7 G]
  refine gF 8 (gR p2.tb Z.room a c Z.l (oh u.len) u.wf nm) ?_;rintro _ w ⟨J9,ga,gc,rfl,M,av,V,a9,c9,b⟩;replace b:=b.weaken M;refine gG 2 ?_;replace b:=Aa.box (T:=Bl p2 (F7 Z nm)) (a9,c9,ma,mc) (b.px [5,5,3,3,5]);refine Br (_,_,_,q,_,_) O ⟨od,e,cN u nm,hq,t,?_,(b.z [7,7,7,7,4,7,7] 7 1)⟩;rw[<-A,hd,LD,Y3 (nB m),Y3 (nB G)]
 have e8:(QR g s)=(0,Z,q):=by
  unfold QR;rw[<-A,Yo om];rfl
 have d:=E.trans e;refine gF 2 (tW g.qc x.vb x.qb x.qa _ x.qk _ x.p s.Z s.q s.k x.k (⟨tp,nq,p2,none,0,[],[]⟩:Lp) ({ Dx s with Z:=Z,q:=q }:Bi) none 0 hs.Z u hs.q hq (oh hs.Av) C (f.mono d).wp (f.mono d).kz (f.mono d).qu t (f.mono d).kp) ?_;rintro _ w ⟨J6,p9,a4,a3,a7,x9,rfl,am,az,bs,a0,an,ap,b⟩;have F:=(d).trans am;refine gG 1 ?_;have e9:LF g s=DU s ({ Dx s with Z:=(QR g s).2.1,q:=(QR g s).2.2 }:Bi):=by
  unfold LF;rw[e8]
  first|done|rfl
 rw[e9,e8];exact⟨O,⟨J6,⟨x.vb,p9,a4,a3,a7,x9⟩,F,O,a0,f.next F az an ap,(b.z [3,3,3,3] 4 1)⟩⟩
theorem Ss(d:Dk)(db kb:Nat)(sv pl:Va)(m:Ct d)(c:d.Ae.length<=600)(a:d.off=true\/d.Ae=[])(l:AZ I)(r:Ay I pl d.Au)(N:La)(s:Aa B w I (BA db kb sv pl d N)):
  Calls prog 29 #[ptr db 0] w (AY λv w'=>∃J o,v=.tuple #[.pointer o,Ab ((BQ d).1:Nat)]/\Le I J/\(((BQ d).1≠0/\Aa B w' J N)\/((BQ d).1=0/\∃y:Kp,o=some (ad y.sb 0)/\y.db=db/\Dq J y (BQ d).2/\Aa B w' J (EN y (BQ d).2::N)))) :=
 (Su d db kb sv pl m c a l N s).mono λe w' ⟨v,n,J,f,h⟩=>by
  rcases h with⟨b,g,i⟩|⟨b,j,lg,p,us,g,i,q⟩
  ·exact⟨v,n,J,none,g,f,.inl ⟨b,((i.drop (k:=0) O).drop (k:=0) O).drop (k:=0) O⟩⟩
  ·refine⟨v,n,J,some (ad j 0),by rw[b];exact g,f,.inr ⟨b,⟨j,lg,db,kb,p,us,sv,pl⟩,O,O,⟨(Xwy m c a b).1,?_,i,l.mono f⟩,Aa.box (T:=l4 ⟨j,lg,db,kb,p,us,sv,pl⟩ (BQ d).2) () q⟩⟩;rw[fj];exact r.mono f
theorem Sa(x:Kp)(s:St)(p:Lu)(g:p.length<=1000)(d:H5 s)(c:s.Av.length<=1000000)(N:La)(a:Aa B w I (EN x s::N)):
  Cz 31 [ptr x.sb 0,S p] w λv w'=>∃b,v=b/\Aa B w' I (Ao 99 2 b (DL s.Av p).length (X2 X8 (DL s.Av p))::EN x s::N):=by
 obtain⟨_,a⟩:=Aa.unbox a;exact(XI s x.sb x.lg x.db x.kb x.mv x.us x.sv x.pl p g d.Av c N a).mono λe w' ⟨v,f,b,h,a⟩=>⟨v,f,b,h,(Aa.box (T:=l4 x s) () (a.x [6,6,6,6,6,6])).pick 1 O⟩
def T0:List Pr->List Pr->List Nt->Option (List Pr×List Nt)
 | [],t,q=>some (t,q)
 | p::r,t,q =>
  if DS.AW p.1 BS=true then
   if(EI (p.1.drop 5) p.2).2≠0 then none else if(Fc q [(EI (p.1.drop 5) p.2).1]).2≠0 then none else T0 r t (Fc q [(EI (p.1.drop 5) p.2).1]).1
  else T0 r (t++[p]) q
def qcF(c:Cf):Qc:=⟨c.base,c.Gn,c.most,c.tries⟩
def CH(c:Cf)(d:Dk)(now:Int):Nat×BR :=
 if Ge c≠0 then(Ge c,⟨w0 c,[],(BQ d).2⟩)else if(BQ d).1≠0 then((BQ d).1,⟨w0 c,[],(BQ d).2⟩)else
 match T0 (DL (BQ d).2.Av []) [] []with
 | none=>(22,⟨w0 c,[],(BQ d).2⟩)
 | some t=>match iw c.room t.1 with
  | none=>(22,⟨w0 c,[],(BQ d).2⟩)
  | some l=>(0,⟨tick { w0 c with l:=l } now,t.2,(BQ d).2⟩)
def Ld(c:Cf)(g:Cg):Prop:=∃D,Be.Ord (kx (De c.BT)) c.BT.length D/\g=⟨LL c.BT D,c.us,c.ps,qcF c⟩
theorem Xsq{t s:Lu}(h:(EI t s).2=0):DD (EI t s).1=true:=by
 unfold EI at h ⊢;split
 ·rename_i a;rw[Y7 a]at h;cases h
 ·rename_i a
  rw[Y3 a]at h;split
  ·assumption
  ·rename_i b;rw[Y3 b]at h;cases h
theorem Ze{l:List Sv}{us:List Us}(h:Vk l us)(D:List Int):Vk (LL l D) us:=by
 refine⟨λs a=>?_,h.iW⟩;obtain⟨i,_,hi⟩:=Dj.1 a;rw[<-hi,Ya];cases e:l[i.toNat]? with
 | none=>decide
 | some x=>exact h.rel x (Y8 e)
theorem Xjt(c:Cf)(hc:c.fits)(a8:Ge c=0->Vk c.BT c.us)(g:Cg)(hg:Ld c g)(a:Oa)(cap:Nat)(ua:Oa)(o:Nat)(d:Dk)(db kb:Nat)(sv pl:Va)(hd:Ct d)(bd:d.Ae.length<=600)(am:d.off=true\/d.Ae=[])(now:Int)(hZ:Kz I)(hV:AZ I)(hP:Ay I pl d.Au)(hl:Cy I a c.BT)(hU:BM I ua c.us)(N:La)(e:Aa B w I (BA db kb sv pl d N)):
  Cz 14 [.agg (FL c a cap ua o).toArray,ptr db 0,Ab now] w λv w'=>∃J,Le I J/\(((CH c d now).1≠0/\v=.tuple #[.pointer none,Ab ((CH c d now).1:Nat)]/\Aa B w' J N)\/((CH c d now).1=0/\∃x:Sp,v=.tuple #[ptr x.vb 0,Ab 0]/\x.k.db=db/\Bz J g x (CH c d now).2/\A2 (CH c d now).2 8160/\Aa B w' J (Ua g x (CH c d now).2++N))):=by
 refine gG 0 (.G7 (cs:=FL c a cap ua o) e (.of O) O ?_);intro b3 w e;refine gG 2 ?_;refine .val (.D6 (vs:=FL c a cap ua o) (.of O) e (k:=0) O GU F4 O (λ_ _ h=>by rw[Yl];exact h)) O ?_;refine gF 0 (Xp4 c hc a cap ua o hZ.kn hZ.pre hl hU) ?_;rintro v w ⟨J1,Y,au⟩;obtain⟨pv,rfl,a6⟩:∃(pv:Oa),v=.tuple #[.pointer pv,Ab (Ge c:Nat)]/\((Ge c≠0/\Aa B w J1 (Ad b3 (FL c a cap ua o) 29::BA db kb sv pl d N))\/(Ge c=0/\∃p D,Be.Ord (kx (De c.BT)) c.BT.length D/\p.lo=LL c.BT D/\p.us=c.us/\p.ps=c.ps/\pv=some (ad p.wb 0)/\BU J1 p/\Aa B w J1 (AV p (w0 c)::Ad b3 (FL c a cap ua o) 29::BA db kb sv pl d N))):=by
  rcases au with⟨h1,h2,h3⟩|⟨h1,p,D,h2,h3,h4,h5,h6,h7,h8⟩
  ·exact⟨none,h2,.inl ⟨h1,h3⟩⟩
  ·exact⟨some (ad p.wb 0),by rw[h1];exact h6,.inr ⟨h1,p,D,h2,h3,h4,h5,O,h7,h8⟩⟩
 refine gN 7 ?_ ?_<;>intro ak
 ·refine gG 3 ?_;have u:Ge c≠0:=by have h9:=ak;omega
  rcases a6 with⟨_,e⟩|⟨h9,_⟩
  ·have S:CH c d now=(Ge c,⟨w0 c,[],(BQ d).2⟩):=by
    unfold CH;exact Y7 u
   rw[S];exact⟨J1,Y,.inl ⟨u,O,e.s⟩⟩
  ·exact Aw h9 u
 refine gG 0 ?_;obtain⟨P,p,D,hD,bb,be,b8,rfl,bz,e⟩:=a6.resolve_left (λh=>h.1 (oh ak));refine gF 1 (Ss d db kb sv pl hd bd am (hV.mono Y) (hP.mono Y)) ?_;rintro _ w ⟨J2,kv,rfl,a2,ba⟩;have ag:=Y.trans a2;refine gN 7 ?_ ?_<;>intro al
 ·refine gG 3 ?_;have u:(BQ d).1≠0:=by have h9:=al;omega
  rcases ba with⟨_,e⟩|⟨h9,_⟩
  ·have S:CH c d now=((BQ d).1,⟨w0 c,[],(BQ d).2⟩):=by
    unfold CH;rw[Y3 (λh=>h P)];exact Y7 u
   rw[S];exact⟨J2,ag,.inl ⟨u,O,e.s⟩⟩
  ·exact Aw h9 u
 refine gG 0 ?_;obtain⟨V,y,rfl,bg,bt,e⟩:=ba.resolve_left (λh=>h.1 (oh al));have ae:=Xwy hd bd am V;refine gH 2 ?_;refine .val (.D6 (vs:=FL c a cap ua o) (.of O) e (k:=2) O GU F4 O (λ_ _ h=>by rw[Yl];exact h)) O ?_;refine gF 0 (Qj (FL c a cap ua o) c.base c.Gn c.most c.tries O O O O) ?_;rintro _ w ⟨Q,rfl,e⟩;refine gH 5 ?_;intro A w e;refine gF 0 (Sa y (BQ d).2 [] de ae.1 om) ?_;rintro _ w ⟨dh,rfl,e⟩;obtain⟨pa,pc,rfl,c8,_⟩:=e.vS 0;have ar:=e.fV 0;clear e;obtain⟨J4,ap,bw,e⟩:=ar;try dsimp only[List.eraseIdx]at e
 have ah:=ag.trans ap;have cf:(DL (BQ d).2.Av []).length<=8160:=Yr (EV ..) ae.2;have a4:=((((e.pick 3 O).pick 4 O).pick 4 O).pick 4 O).Al 99 2;clear e;refine gG 2 (.lk [2,3,8,11,42,43] (σ:=Nat×Im×List Pr×Va×List Nt×Oa×Nat) (λ(i,G,tk,tv,q,qa,qk) _m=>(12,tv)::(44,Ab (i:Nat))::_m) (λ(i,G,tk,tv,q,qa,qk) w=>i<=(DL (BQ d).2.Av []).length/\Le J4 G/\FK q/\CD G qa qk q/\tk.length<=i/\(∀z∈tk,z.1.length<=64/\z.2.length<=300)/\T0 ((DL (BQ d).2.Av []).drop i) tk q=T0 (DL (BQ d).2.Av []) [] []/\Aa B w G (Ao 99 2 tv (tk).length (X2 X8 (tk))::DR A y.sb p.wb Q::Ey Q (qcF c) q qa qk::Ad b3 (FL c a cap ua o) 29::AV p (w0 c)::EN y (BQ d).2::N)) (λ(i,G,tk,tv,q,qa,qk)=>(DL (BQ d).2.Av []).length-i) (0,J4,[],.slice none 0 0,[],none,0) ⟨Y5 _,Le.refl _,⟨Y5 _,λn hn=>by simp at hn⟩,⟨Y9 _,RS.nil _ _⟩,Y9 _,λz H=>by simp at H,O,a4⟩ ?_);rintro⟨i,G,tk,tv,q,qa,qk⟩ w ⟨hi,K,hq,hQ,dc,aw,X,e⟩;clear a4;refine gN 1 ?_ ?_<;>intro cc
 ·refine gG 0 ?_;obtain⟨x,hx⟩:∃x,(DL (BQ d).2.Av [])[i]?=some x:=⟨_,Y2 om⟩
  have dg:=(ae.1.Av.each x (Ik.1 (Y8 hx)).1)
  have ac:(DL (BQ d).2.Av []).drop i=x::(DL (BQ d).2.Av []).drop (i+1):=by rw[Yq (Y1.1 hx).1,(Y1.1 hx).2]
  obtain⟨pp,b0,hp⟩:=Ob (l:=(DL (BQ d).2.Av [])) (cells:=X8) (s:=2) (λ_=>rfl) e (bw.mono K) i x hx;subst b0;have t:=ah.trans K;refine gG 0 (.val (.ii O O om om Ov JN) O ?_);refine .val (.as (.Hc (vs:=X8 x) (.of O) (by intro j v hj;rw[Yh];exact hp j v hj) F3 JN O) O) O ?_;refine gH 4 ?_;intro cl w e;refine gE 0 (Xk1 x.1 BS) ?_;intro w e;refine gM 7 ?_ ?_<;>intro aj cd
  ·refine gG 7 ?_;intro cm ci cn bl w e;refine Br (i+1,G,tk++[x],_,q,qa,qk) O ⟨om,K,hq,hQ,by rw[Y0,LS];omega,λz H=>?_,?_,?_⟩
   ·rcases Yt.1 H with h|h
    ·exact aw z h
    ·rw[iL.1 h];omega
   ·rw[<-X,ac,T0,Y3 (by rw[show DS.AW x.1 BS=false from by simpa using aj];decide)]
   ·rw[show(tk++[x]).length=tk.length+1 from Y0,TD];exact(e.z [6,6,6,6,6,6] 6 1)
  refine gG 0 ?_;have L:DS.AW x.1 BS=true:=su aj
  have df:(x.1.drop 5).length<=64:=by rw[Y6];omega
  rw[Y7 L,show BS.length=5 from O];refine gE 3 (Ug (x.1.drop 5) x.2 om om (hZ.mono t).kx (hZ.mono t).pre) ?_;intro w e;refine gG 6 ?_;intro E w e;rcases H:(((((EI (x.1.drop 5) x.2).2:Nat)):Int)!=0)with _|_
  ·have ab:(EI (x.1.drop 5) x.2).2=0:=by simp at H;omega
   have W:=Xsq ab;have b7:∀n∈[(EI (x.1.drop 5) x.2).1],n.ticket.length<=60/\n.url.length<=120:=λn hn=>by
    rw[iL.1 hn];have h1:=(gL (by unfold DD at W;simp only[Yb]at W;exact W.1.1.1.1.1)).2;unfold DD at W;simp only[Yb,decide_eq_true_eq]at W
    exact⟨om,om⟩
   refine .dw (λw=>∃m R,Le G m/\Aa B w m (DR A y.sb p.wb Q::Ad E (X6 (EI (x.1.drop 5) x.2).1) 103::R)) (λj=>!([].contains j)) ?_;replace e:=e.drew;generalize w.drew=w at e ⊢;have r:∃m R,Le G m/\Aa B w m (DR A y.sb p.wb Q::Ad E (X6 (EI (x.1.drop 5) x.2).1) 103::R):=⟨_,_,Le.refl _,(e.x [0,3])⟩
   refine .tp 0 O (λw=>(.mo O)) (.tp 1 O (λw=>(.neq (.of O) (.of O))) (.tp 2 O (λw=>(.mo O)) (.tg 3 O r O O (λf w ⟨m,R,C,e⟩=>(.mo O)) (.tg 4 O r O O (λf w ⟨m,R,C,e⟩=>(.nilCheck (.gd f O))) ?_))));refine .tg 5 O r O O (λf w ⟨m,R,C,e⟩=>(.fieldAddr 2 (.gd f O) JC O O Lo O)) (.tg 6 O r O O (λf w ⟨m,R,C,e⟩=>((.ld (.gd f O) e (k:=0) O UE O))) (.tg 7 O r O O (λf w ⟨m,R,C,e⟩=>((.Ks (cs:=[_,_,_,_]) (.of O) e (k:=1) O oq QT O))) (.b1 8 O (.KA O O (Ye (λb=>some (Value.bool b)) H) (.buildSlice (cs:=[_,_,_,_]) e (wQ (.gd H O) U_) TP QT N4 O O O O ?_)))));intro bo w e;obtain⟨J6,M,bv,e⟩:=JF (size:=4) (n:=1) e O;have ai:=t.trans M;refine .nil ?_;clear r;have r:∃m R,Le G m/\Aa B w m (DR A y.sb p.wb Q::Ad E (X6 (EI (x.1.drop 5) x.2).1) 103::R):=⟨_,_,(by exact M),(e.x [0,3])⟩
   refine⟨λ_ _=>r,?_⟩;refine .b1 9 O (.KA O O (Ye (λb=>some (Value.bool b)) H) ?_);refine .call func34 O (X4 (.gd H O) (AM O X3)) O (wY Q _ _ _ _ qa qk q hq.1 (hQ.2.mono M) hQ.1 (some (ad bo 0)) 1 [(EI (x.1.drop 5) x.2).1] (by show(1:Nat)<=70;decide) b7 (by rw[show X2 X6 [(EI (x.1.drop 5) x.2).1]=X6 (EI (x.1.drop 5) x.2).1 from Yx _];exact bv) (hZ.mono ai).kx (hZ.mono ai).pre _ (e.x [4])) ?_;rintro _ w ⟨J7,di,dj,rfl,aq,bu,b4,e⟩;try dsimp only[List.eraseIdx]at e
   refine .nil ?_;clear r;have r:∃m R,Le G m/\Aa B w m (DR A y.sb p.wb Q::Ad E (X6 (EI (x.1.drop 5) x.2).1) 103::R):=⟨_,_,(by exact M.trans aq),(e.x [1,4])⟩
   refine⟨λ_ _=>r,?_⟩;refine .tg 10 O r O O (λf w ⟨m,R,C,e⟩=>(.neq (.of O) (.of O))) (.tp 11 O (λw=>(.po O O O)) (.dn ?_));refine .cond O (λU=>?_) λU=>?_
   ·refine gG 2 ?_;have e8:T0 (DL (BQ d).2.Av []) [] []=none:=by
     rw[<-X,ac,T0,Y7 L];rw[Y3 om,Y7 (λh=>by simp[ab,h]at U)]
    have S:CH c d now=(22,⟨w0 c,[],(BQ d).2⟩):=by
     unfold CH;rw[Y3 (λh=>h P),Y3 (λh=>h V)];rw[e8]
    rw[S];exact⟨J7,t.trans (M.trans aq),.inl ⟨by show(22:Nat)≠0;decide,O,e.s⟩⟩
   refine gG 2 (Br (i+1,_,_,_,_,_,_) O ⟨om,K.trans (M.trans aq),qe hq,⟨b4,bu⟩,om,aw,?_,(e.z [7,7,7,3,7,7] 6 2)⟩);rw[<-X,ac,T0,Y7 L,Y3 om,Y3 (λh=>by simp at U;omega)]
  have ab:(EI (x.1.drop 5) x.2).2≠0:=by simp at H;omega
  refine .dw (λw=>∃m R,Le G m/\Aa B w m (DR A y.sb p.wb Q::Ad E (X6 (EI (x.1.drop 5) x.2).1) 103::R)) (λj=>!([].contains j)) ?_;replace e:=e.drew;generalize w.drew=w at e ⊢;have r:∃m R,Le G m/\Aa B w m (DR A y.sb p.wb Q::Ad E (X6 (EI (x.1.drop 5) x.2).1) 103::R):=⟨_,_,Le.refl _,(e.x [0,3])⟩
  refine .tp 0 O (λw=>(.mo O)) (.tp 1 O (λw=>(.neq (.of O) (.of O))) (.tp 2 O (λw=>(.mo O)) (.tg 3 O r O O (λf w ⟨m,R,C,e⟩=>(.mo O)) (.tg 4 O r O O (λf w ⟨m,R,C,e⟩=>(.nilCheck (.gd f O))) ?_))));refine .tg 5 O r O O (λf w ⟨m,R,C,e⟩=>(.fieldAddr 2 (.gd f O) JC O O Lo O)) (.tg 6 O r O O (λf w ⟨m,R,C,e⟩=>((.ld (.gd f O) e (k:=0) O UE O))) (.tg 7 O r O O (λf w ⟨m,R,C,e⟩=>((.Ks (cs:=[_,_,_,_]) (.of O) e (k:=1) O oq QT O))) (.b1 8 O ?_)));refine .off O O O O (by rw[H];rfl) O ?_;refine .nil ?_;clear r;have r:∃m R,Le G m/\Aa B w m (DR A y.sb p.wb Q::Ad E (X6 (EI (x.1.drop 5) x.2).1) 103::R):=⟨_,_,(by exact Le.refl _),(e.x [0,3])⟩
  refine⟨λ_ _=>r,?_⟩;refine .b1 9 O ?_;refine .off O O O O (by rw[H];rfl) O ?_;refine .nil ?_;clear r;have r:∃m R,Le G m/\Aa B w m (DR A y.sb p.wb Q::Ad E (X6 (EI (x.1.drop 5) x.2).1) 103::R):=⟨_,_,(by exact Le.refl _),(e.x [0,3])⟩
  refine⟨λ_ _=>r,?_⟩;refine .tg 10 O r O O (v:=.bool true) (λf w _=>Aw f (nB H)) ?_;refine .tp 11 O (λw=>(.po O O O)) (.dn ?_);refine .CU (by rw[H];rfl) ?_;refine gG 2 ?_;have e8:T0 (DL (BQ d).2.Av []) [] []=none:=by
   rw[<-X,ac,T0,Y7 L];exact Y7 ab
  have S:CH c d now=(22,⟨w0 c,[],(BQ d).2⟩):=by
   unfold CH;rw[Y3 (λh=>h P),Y3 (λh=>h V)];rw[e8]
  rw[S];exact⟨G,t,.inl ⟨by show(22:Nat)≠0;decide,O,e.s⟩⟩
 refine gG 0 ?_;have e8:T0 (DL (BQ d).2.Av []) [] []=some (tk,q):=by rw[<-X,Yo om];rfl
 have t:=ah.trans K;obtain⟨ta,bi,rfl,da,_⟩:=e.vS 0;have ar:=e.fV 0;clear e;obtain⟨J8,Z,bx,e⟩:=ar;try dsimp only[List.eraseIdx]at e
 have F:=t.trans Z;replace e:=e.px [3];obtain⟨⟨a7,c7,ax,ay⟩,e⟩:=Aa.unbox e;replace e:Aa B _ _ (Ad p.wb (Cr p (w0 c)) 115::Bc p.tb (w0 c).room a7 c7 (w0 c).l (Ad p.mb [.slice ax (w0 c).D.length ay] 225::CA 41 (.slice ax (w0 c).D.length ay) ((w0 c).D.map λd=>Ba (d:Nat))::_)):=e;refine gF 4 (Sg c.room tk ta bi om (λz H=>by have:=aw z H;omega) (hZ.mono F).kn (hZ.mono F).pre bx) ?_;rintro v w b5;rcases b5 with⟨av,rfl,e⟩|⟨l9,af,a9,c9,av,rfl,bf,bc,e⟩
 ·refine gH 5 (.s1 e (k:=0) O O O O jV (by simp[ze]) ?_);intro w e;try dsimp only[List.set]at e
  refine gG 3 (.CU (rfl) (gG 2 ?_));have S:CH c d now=(22,⟨w0 c,[],(BQ d).2⟩):=by
   unfold CH;rw[Y3 (λh=>h P),Y3 (λh=>h V)];rw[e8];dsimp only
   rw[av]
  rw[S];exact⟨J8,F,.inl ⟨by show(22:Nat)≠0;decide,O,e.s⟩⟩
 refine gH 5 (.s1 e (k:=2) O O O O jV (by simp[ze]) ?_);intro w e;try dsimp only[List.set]at e
 refine gG 3 (.Bt (rfl) (gG 0 ?_));replace e:=Aa.box (T:=Bl { p with tb:=af } ({ w0 c with l:=l9 }:Wd)) (a9,c9,ax,ay) (e.px [6,6,3,3,4]);have a5:A9 ({ w0 c with l:=l9 }:Wd):=⟨by show l9.length<=64;unfold Hz at bc;omega,bf,λdd hh=>by simp[w0]at hh,by show(0:Int)<=0/\(0:Int)<=1099511627776;omega,(sf c).room⟩
 refine gE 2 (Xuw { p with tb:=af } ({ w0 c with l:=l9 }:Wd) now a5) ?_;intro w e;refine gG 3 ?_;obtain⟨D9,br,b2⟩:=hg;have bs:=hD.unique br;subst b2;have S:CH c d now=(0,⟨tick ({ w0 c with l:=l9 }:Wd) now,q,(BQ d).2⟩):=by
  unfold CH;rw[Y3 (λh=>h P),Y3 (λh=>h V)];rw[e8];dsimp only
  rw[av]
 rw[S];refine⟨J8,F,.inr ⟨O,⟨A,{ p with tb:=af },Q,qa,qk,y⟩,O,bg,⟨?_,?_,hZ.mono F,?_,bt.mono ((ap.trans K).trans Z),hQ.1,hQ.2.mono Z⟩,⟨P4 a5 now,hq,ae.2⟩,(e.z [6,5,2,5] 4 3)⟩⟩
 ·exact(bz.mono (a2.trans (ap.trans (K.trans Z)))).cp p.wb af
 ·show(⟨p.lo,p.us,p.ps,qcF c⟩:Cg)=_;rw[bb,be,b8,bs]
 ·show Vk p.lo p.us;rw[bb,be];exact Ze (a8 P) D
open Sc
theorem t_{s:Lu}(b:Bool)(h:(decide ((s.length:Int)<=(i:Int)+2)||((at_ s (i:Int)).toNat:Int)!=123||decide (((at_ s ((i:Int)+1)).toNat:Int)<48)||decide (57<((at_ s ((i:Int)+1)).toNat:Int))||((at_ s ((i:Int)+2)).toNat:Int)!=125)=b):hole (s.drop i)=!b:=by
 have e0:(s.drop i).getD 0 0=at_ s (i:Int):=by simp[at_,Ya]
 have d:(s.drop i).getD 1 0=at_ s ((i:Int)+1):=by simp[at_,Ya,show((i:Int)+1).toNat=i+1 by omega]
 have e:(s.drop i).getD 2 0=at_ s ((i:Int)+2):=by simp[at_,Ya,show((i:Int)+2).toNat=i+2 by omega]
 subst h;unfold hole;rw[e0,d,e,kV];simp only[iN,G3,decide_eq_false_iff_not,bne_eq_false_iff_eq,Yb,decide_eq_true_eq,beq_iff_eq,Y6,<-GL]
 constructor
 ·intro h;obtain⟨⟨⟨f,a⟩,g,j⟩,c⟩:=h;refine⟨⟨⟨⟨om,?_⟩,om⟩,om⟩,?_⟩
  ·rw[a];rfl
  ·rw[c];rfl
 ·intro h;obtain⟨⟨⟨⟨f,a⟩,g⟩,j⟩,c⟩:=h;refine⟨⟨⟨om,?_⟩,om,om⟩,?_⟩
  ·show _=123;omega
  ·show _=125;omega
theorem Xdl(a:Nat)(p v:Va)(l:Lu)(d:p=.pointer none\/p=ptr a 0)(F:La)(b:Aa B w I (Ad a [p,v] 68::Ao 5 1 v l.length (Aj l)::F)):
  Calls prog 20 #[ptr a 0,S []] w (AY λu w'=>u=.tuple #[Ab 0,.nilIface]/\Aa B w' I (Ad a [ptr a 0,v] 68::Ao 5 1 v l.length (Aj l)::F)):=by
 refine gE 3 (vU a p v d) ?_;intro w b;obtain⟨e,f,rfl,c,_⟩:=b.vS 1;refine gH 6 (.val (.VT (.of O) (.of O) BC Bb Xt c) O (gG 7 ?_));intro w b;exact⟨O,su b⟩
theorem xJ(s:Lu)(told:List Lu)(z:Oa)(G:Nat)(H:s.length<=10000)(F:told.length<=100000000000)(o:∀x∈told,x.length<=60)(C:RS I z 1 told.length (told.map S))(N:La)(c:Aa B w I N):
  Ce B I N 11 [S s,.slice z told.length G] w (S (Ec told s)):=by
 refine gG 3 ?_;intro f w c;replace c:=(c.Al 5 1).pick 1 O;refine .lk [0,1,5] (σ:=Lu×Va×Va×Nat) (λ(a,p,v,i) _m=>(6,Ab (i:Nat))::_m) (λ(a,p,v,i) w=>i<=s.length/\a.length<=60*i/\a++Ec told (s.drop i)=Ec told s/\(p=.pointer none\/p=ptr f 0)/\(a=[]->v=.slice none 0 0)/\Aa B w I (Ad f [p,v] 68::Ao 5 1 v (a).length (Aj (a))::N)) (λ(a,p,v,i)=>s.length-i) ([],.pointer none,.slice none 0 0,0) ⟨Y5 _,Y5 _,O,.inl O,λ_=>rfl,c⟩ ?_;rintro⟨a,p,v,i⟩ w ⟨hi,D,b,m,j,c⟩;refine gN 4 ?_ ?_<;>intro r
 ·refine gH 14 (gH 14 ?_);refine gM 4 ?_ ?_<;>intro d t
  ·refine gC 3 (X9y f p v a _ m _ c om) ?_;rintro _ w ⟨rfl,A,c⟩;refine gG 3 ?_;have g:hole (s.drop i)=false:=t_ true d;refine Br (_,_,_,i+1) O ⟨om,by rw[Y0];simp only[Y4,Yi];omega,?_,.inr O,λh=>Aw h sz,c⟩;rw[<-b,WS g,show(s.drop i).take 1=[at_ s (i:Int)]by rw[Xf s om];rfl,JU,Yg]
  refine gH 7 (.val (.ZY (.of O) (.of O) (by rw[IntKind.wrap_u8];omega)) O ?_);refine gN 5 ?_ ?_<;>intro u
  ·obtain⟨q,rfl,E⟩:=C.2 om;obtain⟨x,hx⟩:∃x,told[((told.length:Int)-1-(((at_ s ((i:Int)+1)).toNat:Int)-48)).toNat]?=some x:=⟨_,Y2 om⟩
   have n:((told.map S).drop (((told.length:Int)-1-(((at_ s ((i:Int)+1)).toNat:Int)-48)).toNat*1))[0]?=some (S x):=by rw[GI,Ca,DG,Yu,hx];rfl
   have y:=o x (Y8 hx);refine gH 3 (.val (.BG (.of O) c (E.add _) Bq n) O ?_)
   by_cases l:x=[]
   ·subst l;refine gE 0 (Xdl f p v a m) ?_;intro w c;refine gG 6 ?_;have g:hole (s.drop i)=true:=t_ false d;have k:(s.drop i).getD 1 0=at_ s ((i:Int)+1):=by simp[at_,Ya,show((i:Int)+1).toNat=i+1 by omega]
    have e:back told (s.drop i)=[]:=by
     unfold back;rw[k,Y7 om,Ya,show told.length-((at_ s ((i:Int)+1)).toNat-47)=((told.length:Int)-1-(((at_ s ((i:Int)+1)).toNat:Int)-48)).toNat by omega,hx];rfl
    refine rd (a,ptr f 0,v,i+3) ⟨om,om,?_,.inr O,j,c⟩;rw[<-b,xY g,e,JU,CS]
   refine gC 0 (Xo f p v a x m _ c om) ?_;rintro _ w ⟨rfl,A,c⟩;refine gG 6 ?_;have g:hole (s.drop i)=true:=t_ false d;have k:(s.drop i).getD 1 0=at_ s ((i:Int)+1):=by simp[at_,Ya,show((i:Int)+1).toNat=i+1 by omega]
   have e:back told (s.drop i)=x:=by
    unfold back;rw[k,Y7 om,Ya,show told.length-((at_ s ((i:Int)+1)).toNat-47)=((told.length:Int)-1-(((at_ s ((i:Int)+1)).toNat:Int)-48)).toNat by omega,hx];rfl
   refine rd (a++x,ptr f 0,A,i+3) ⟨om,by rw[Y0];omega,?_,.inr O,λh=>Aw (Y6i.1 h).2 l,c⟩;rw[<-b,xY g,e,JU,Yg]
  refine gG 6 ?_;have g:hole (s.drop i)=true:=t_ false d;have k:(s.drop i).getD 1 0=at_ s ((i:Int)+1):=by simp[at_,Ya,show((i:Int)+1).toNat=i+1 by omega]
  have e:back told (s.drop i)=[]:=by
   unfold back;rw[k,Y3 om]
  refine rd (a,p,v,i+3) ⟨om,om,?_,m,j,c⟩;rw[<-b,xY g,e,JU,CS]
 refine gE 0 (nt f p v a j) ?_;intro w c;refine gG 1 (⟨?_,c⟩);rw[show i=s.length by omega,VC]at b;rw[<-b];exact Ye S (Yx _).symm
theorem VS:∀l m:Lv,k6 l m=l++m
 | [],_=>rfl
 | v::l,m=>by simp[k6,VS l m]
theorem Aa.l6{E:Nat}(Q:Aa B w I N)(T:N[k]?=some (Ao E size (.slice a nn c) nn xs)):
  ∃J,Le I J/\RS J a size nn xs/\Aa B w J (N.eraseIdx k)/\∀w' A5,Aa B w' J A5->Aa B w' I (Ao E size (.slice a nn c) nn xs::A5):=by
 obtain⟨h,W,S⟩:=Q;obtain⟨X,P,V,⟨p,R⟩,_,H,K,o⟩:=W.at_ T;have g:=S.perm V;rcases R with⟨C,M,rfl⟩|⟨b,cap,rest,C,rfl,s,t,v⟩
 ·refine⟨I,Le.refl I,⟨p,λh=>Aw h om⟩,⟨H,K,Good.perm g.right o.symm⟩,λw' A5 l=>?_⟩;obtain⟨n,m,d⟩:=l;exact⟨n,⟨[],n,O,⟨p,.inl ⟨C,M,O⟩⟩,m⟩,d⟩
 ·injection C with D _ F
  subst D;subst F;have r:I b=none:=g.apart b (Xd (xs++rest) E) sz;have U:b ∉ P.map (·.1):=by
   have:=g.nodup
   simp only[DV,CS,Yw,VD]at this
   exact this.1
  refine⟨λx=>if x=b then some (Xd (xs++rest) E)else I x,⟨λx y hx=>?_⟩,⟨p,λ_=>⟨_,O,O,_,_,_,Y7 O,λj u L=>?_⟩⟩,⟨H,K,Good.perm ⟨g.os,g.tape,g.output,λx y hx=>?_,g.right.own,g.right.nodup,λx y i=>?_⟩ o.symm⟩,λw' A5 l=>?_⟩
  ·by_cases e:x=b
   ·subst e;rw[r]at hx;cases hx
   ·simpa[e]using hx
  ·have z:j<xs.length:=(Y1.1 L).1;simp only[Yl,qN]
   rw[Yf z];exact L
  ·by_cases e:x=b
   ·subst e;simp only[if_true,Option.some.injEq]at hx
    subst hx;exact g.own x _ sz
   ·exact g.Ha x y (by simpa[e]using hx)
  ·have hx:x≠b:=λe=>U (e▸iK (f:=(·.1)) i)
   simp only[hx,if_false]
   exact g.right.apart x y i
  ·obtain⟨n,m,d⟩:=l;have A:b ∉ n.map (·.1):=λi=>by
    obtain⟨⟨x,y⟩,G,e⟩:=Dj.1 i
    have:=d.apart x y G
    simp only at e
    rw[Y7 e]at this;cases this
   refine⟨(b,Xd (xs++rest) E)::n,⟨[_],n,O,⟨p,.inr ⟨b,c,rest,O,O,s,t,v⟩⟩,m⟩,⟨d.os,d.tape,d.output,λx y hx=>?_,λx y i=>?_,?_,λx y i=>?_⟩⟩
   ·refine d.Ha x y ?_
    by_cases e:x=b
    ·subst e;rw[r]at hx;cases hx
    ·simpa[e]using hx
   ·rcases Ys.1 i with e|i
    ·cases e;exact d.Ha b _ (Y7 O)
    ·exact d.own x y i
   ·rw[Yw,VD];exact⟨A,d.nodup⟩
   ·rcases Ys.1 i with e|i
    ·cases e;exact r
    ·have q:=d.apart x y i
     by_cases e:x=b
     ·rw[Y7 e]at q;cases q
     ·simpa[e]using q
theorem tO{r:Da}(h:ED r):(Hr r).length<=70000000:=by
 unfold Hr oj;split
 ·rename_i d
  have a:=Xda d;obtain⟨k,b,c⟩:=Xq2 a.1;have e:=tF 2000000 (Ia r) (KJ r) (λx hx=>by have:=sO h a.2.2 x hx;omega);have f:=P5 (r:=r) (by rw[b];show k<=1000;omega);have g:=s7 r;have i:CR.length=2:=rfl;show(((Ia r).foldl kC (KJ r)++CR)++r.body).length<=_
  rw[Y0,Y0];omega
 ·exact Y5 _
def qx(s:St)(p:List Bool):St:={ s with log:={ s.log with d:=yJ s.log.d p } }
def KF(s:St)(n:Int):St:={ s with log:={ s.log with d:=KE s.log.d n } }
theorem Mg{x:Kp}{s:St}(a:Aa B w I (EN x s::N)):Aa B w I (BA x.db x.kb x.sv x.pl s.log.d (Ad x.sb [ptr x.lg 0,x.mv] 141::Ad x.lg [ptr x.db 0,Ab s.log.gen,Ab s.log.AG,Ab s.log.used,x.us] 229::Cq x.mv (s.Av)::N)):=by
 obtain⟨_,a⟩:=Aa.unbox a;exact a.x [4,4,4]
theorem Xsv(x:Kp)(s:St)(p:List Bool)(pa:Oa)(g:Nat)(l:p.length<=1000000)(b:Dq I x s)(j:RS I pa 1 p.length (p.map Value.bool))(N:La)(f:Aa B w I (EN x s::N)):
  Calls prog 44 #[ptr x.db 0,.slice pa p.length g] w (AY λv w'=>∃J y,Le I J/\y.sb=x.sb/\y.db=x.db/\Dq J y (qx s p)/\Aa B w' J (EN y (qx s p)::N)) :=
 (Xsp p pa g l s.log.d x.db x.kb x.sv x.pl b.st.log.d b.Au j _ (Mg f)).mono λe w' ⟨v,k,J,sv,pl,c,i,f⟩ =>
  have a:=b.st.log;have h:Ct (yJ s.log.d p):=⟨a.d.size,a.d.kept,a.d.at_,a.d.what,a.d.left⟩
  ⟨v,k,J,{ x with sv:=sv,pl:=pl },c,O,O,⟨⟨⟨h,a.len,a.gen,a.AG,a.used,a.room,a.st,a.emp⟩,b.st.Av⟩,i,b.data.mono c,b.hv.mono c⟩,Aa.box (T:=l4 { x with sv:=sv,pl:=pl } (qx s p)) () (f.x [4,4])⟩
theorem Th(x:Kp)(s:St)(n:Int)(j:n<=9223372036854775807)(b:Dq I x s)(N:La)(c:Aa B w I (EN x s::N)):
  Calls prog 45 #[ptr x.db 0,Ab n] w (AY λv w'=>∃y,y.sb=x.sb/\y.db=x.db/\Dq I y (KF s n)/\Aa B w' I (EN y (KF s n)::N)) :=
 (RD n s.log.d x.db x.kb x.sv x.pl _ (Mg c)).mono λe w' ⟨v,i,sv,c⟩ =>
  have a:=b.st.log;have f:Ct (KE s.log.d n):=⟨a.d.size,a.d.kept,a.d.at_,a.d.what,by have:=a.d.left;show -1<=max (-1) n/\max (-1) n<=9223372036854775807;omega⟩
  have g:(KE s.log.d n).off=true\/(KE s.log.d n).Ae=[]:=a.emp.imp (λh=>by show(s.log.d.off||n==0)=true;rw[h];rfl) id
  ⟨v,i,{ x with sv:=sv },O,O,⟨⟨⟨f,a.len,a.gen,a.AG,a.used,a.room,a.st,g⟩,b.st.Av⟩,b.Au,b.data,b.hv⟩,Aa.box (T:=l4 { x with sv:=sv } (KF s n)) () (c.x [4,4])⟩
theorem Xze(x:Kp)(s:St)(a:Lu)(b:Oa)(h:Nat)(g:a.length<=1000000)(f:Dq I x s)(i:RS I b 1 a.length (Aj a))(N:La)(c:Aa B w I (EN x s::N)):
  Calls prog 93 #[ptr x.db 0,.slice b a.length h] w (AY λv w'=>∃sv,Aa B w' I (BA x.db x.kb sv (.slice none 0 0) (JI s.log.d a) N)) :=
 (Xzg a b h s.log.d x.db x.kb x.sv x.pl f.st.log.d f.Au i g (Yr f.st.log.st de) _ (Mg c)).mono λe w' ⟨v,j,sv,c⟩=>⟨v,j,sv,c.y 3 3⟩
def eB:Lu:=[102,97,105,108,101,100]
def c_(e:Nat):Lu:=if e=0 then[]else eB
theorem Xdc(e:Nat)(N:La)(b:Aa B w I N):
  Ce B I N 41 [Ab (e:Nat)] w (S (c_ e)):=by
 refine gN 3 ?_ ?_<;>intro a
 ·exact gG 1 ⟨by rw[c_,Y3 (oh a)];rfl,b⟩
 exact gG 1 ⟨by rw[c_,Y7 (oh a)],b⟩
structure Yp where
 pp:Nat
 a:Oa
 cap:Nat
 ua:Oa
 Gv:Nat
 db:Nat
 tv:Va
 fv:Va
 x:Sp
abbrev D0(c:Cf)(y:Yp):X1:=Ad y.pp (k6 (FL c y.a y.cap y.ua y.Gv) [ptr y.db 0,ptr y.x.vb 0,y.tv,y.fv]) 56
def Oo(g:Cg)(s:BR)(n:Int):Lu×BR :=
 if(AH s).2=true then(((((((AH s).1.1++[32])++(AH s).1.2.1)++[32])++(AH s).1.2.2)++[10])++(FP g s (AH s).1.1 n).1.1,(FP g s (AH s).1.1 n).2)else([],s)
theorem Xxx{a c b:Lu}(j:a.length<=100000)(i:c.length<=100000)(hi:b.length<=100000):(bX a c b).1.length<=2000000:=by
 unfold bX;split
 ·have d:=Xx2 a;have e:=YX a;have f:=OO a c b;have g:=PW (u:=km (pU a).1 c b) d.1 d.2.1 d.2.2;have h:(km (pU a).1 c b).path.length=(pU a).1.path.length:=rfl;show(Hi (km (pU a).1 c b)).length<=_
  omega
 ·exact Y5 _
theorem Xwr{s:BR}(a:A9 s.Z)(g:FK s.q):(AH s).1.1.length<=100/\(AH s).1.2.1.length<=2000000/\(AH s).1.2.2.length<=1000000:=by
 unfold AH;split
 ·have c:=pK a.wf (EL s);have d:=pK a.wf (getD s.Z.l (EL s)).parent;have e:=(pX a.wf (getD s.Z.l (EL s)).parent).2.1;exact⟨by dsimp only;omega,Xxx om om om,Y5 _⟩
 ·split
  ·rename_i f
   have b:=g.2 _ (wH f);unfold DD at b;simp only[Yb,decide_eq_true_eq]at b
   have c:=(gL b.1.1.1.1.1).2;have d:=a_ (TC (EE s.q s.Z.now).1.ticket (EE s.q s.Z.now).1.next.toNat);have e:=yP (t:=(EE s.q s.Z.now).1.ticket) (nn:=(EE s.q s.Z.now).1.next.toNat) om om;have h:FX.length=14:=rfl;refine⟨by dsimp only;omega,by dsimp only;omega,?_⟩;show(FX++Ar (TC _ _)).length<=_
   rw[Y0];omega
  ·exact⟨Y5 _,Y5 _,Y5 _⟩
theorem Xxq{g:Cg}{s:BR}{id:Lu}{n:Int}:(FP g s id n).1.1.length<=70000000:=by
 unfold FP;dsimp only
 (repeat' split)
 all_goals first|exact Y5 _|exact tO (N9 de)|exact tO (xP _ _ _ _)
theorem ZJ{g:Cg}{s:BR}{n:Int}(a:A9 s.Z)(b:FK s.q):(Oo g s n).1.length<=90000000:=by
 have c:=Xwr a b;have d:=Xxq (g:=g) (s:=s) (id:=(AH s).1.1) (n:=n);unfold Oo;split
 ·simp only[Y0,Y4,Yi];omega
 ·exact Y5 _
theorem M8(c:Cf)(g:Cg)(y:Yp)(s:BR)(n:Int)(hs:A2 s 800000)(p:Bz I g y.x s)(N:La)(a:Aa B w I (D0 c y::PY g y.x s N)):
  Cz 40 [ptr y.pp 0,Ab n] w λv w'=>v=S (Oo g s n).1/\∃J e,Le I J/\e.vb=y.x.vb/\e.k.db=y.x.k.db/\Bz J g e (Oo g s n).2/\Aa B w' J (D0 c y::Ua g e (Oo g s n).2++N):=by
 refine gF 5 (Nr g y.x s hs.Z hs.q p) ?_;rintro _ w ⟨J,rfl,i,a⟩;refine gG 8 ?_;intro l w a;refine gM 0 ?_ ?_<;>intro d A
 ·refine gG 1 ?_;have m:Oo g s n=([],s):=Y3 (su d);rw[m];exact⟨O,J,y.x,i,O,O,p.mono i,(a.z [4,4,4,4,5] 5 1)⟩
 refine gG 0 ?_;have D:=Xwr hs.Z hs.q;have E:=Xxq (g:=g) (s:=s) (id:=(AH s).1.1) (n:=n);refine .dw (λw=>∃b R,Le J b/\Aa B w b (D0 c y::Ad l [S (AH s).1.1,S (AH s).1.2.1,S (AH s).1.2.2] 187::R)) (λj=>!([].contains j)) ?_;replace a:=a.drew;generalize w.drew=w at a ⊢;have f:∃b R,Le J b/\Aa B w b (D0 c y::Ad l [S (AH s).1.1,S (AH s).1.2.1,S (AH s).1.2.2] 187::R):=⟨_,_,Le.refl _,(a.x [0,5])⟩
 refine .tp 0 O (λw=>(.mo O)) (.tp 1 O (λw=>(.no O)) ?_);refine .tp 2 O (λw=>(.fo 29 O Ou O O IU O)) (.tk 3 O f (λw ⟨b,R,o,a⟩=>((.lo O a (k:=0) O isAgg54 O))) (.tp 4 O (λw=>(.fo 0 O Jq O O A3 O)) (.tk 5 O f (λw ⟨b,R,o,a⟩=>((.lo O a (k:=1) O Bq O))) (.tp 6 O (λw=>(.mo O)) (.b1 7 O (.call func84 O (AM O (AM O (AM O X3))) O (Ns g y.x s (AH s).1.1 n hs (p.mono i) _ (a.x [4,4,4,4])) ?_))))));rintro _ w ⟨rfl,C,e,h,t,u,r,a⟩;refine .nil ?_;clear f;have f:∃b R,Le J b/\Aa B w b (D0 c y::Ad l [S (AH s).1.1,S (AH s).1.2.1,S (AH s).1.2.2] 187::R):=⟨_,_,h,(a.x [4,5])⟩
 refine⟨λ_ _=>f,?_⟩;refine .tp 8 O (λw=>(.mo O)) (.tp 9 O (λw=>(.extract (.of O) O)) (.tp 10 O (λw=>(.extract (.of O) O)) (.tp 11 O (λw=>(.ao O)) (.tp 12 O (λw=>(.ao O)) (.dn ?_)))));refine gH 1 (.val (.lo O a (k:=4) O Bq O) O (gH 2 (.val (.lo O a (k:=4) O Bq O) O (gH 3 (.val (.lo O a (k:=4) O Bq O) O (gH 3 (.val (.cat (.of O) (.of O) (by(try simp only[Y0,Y4,Yi]);omega)) O (gG 1 ?_))))))));have m:Oo g s n=(((((((AH s).1.1++[32])++(AH s).1.2.1)++[32])++(AH s).1.2.2)++[10])++(FP g s (AH s).1.1 n).1.1,(FP g s (AH s).1.1 n).2):=Y7 (su d);rw[m];exact⟨O,C,e,i.trans h,t,u,r,(a.z [3,3,3,3,5] 5 1)⟩
structure H0 where
 s:BR
 told:List Lu
 A6:List Nat
def Kt(P:H0):List Nat:=P.A6.drop (P.A6.length-P.s.Z.D.length)
def Ht(c:Cf)(P:H0)(a:Lu):Nat×BR :=
 let r:=CH c (JI P.s.k.log.d a) P.s.Z.now
 (r.1,{ r.2 with Z:={ r.2.Z with D:=r.2.Z.D++Kt P } })
structure I8(I:Im)(c:Cf)(a ua:Oa):Prop where
 fits:c.fits
 fit:Ge c=0->Vk c.BT c.us
 BT:Cy I a c.BT
 us:BM I ua c.us
theorem yT(c:Cf)(d:Dk)(now:Int):(CH c d now).2.Z.D=[]:=by
 unfold CH
 (repeat' split)
 all_goals rfl
theorem Xqf(c:Cf)(g:Cg)(hg:Ld c g)(L:Nat)(a:Oa)(cap:Nat)(ua:Oa)(l:Nat)(C:Va)(u:Oa)(m:Nat)(x:Sp)(P:H0)(b:Lu)(M:Oa)(cc:Nat)(W:b.length<=1000000)(ar:P.A6.length<=1000000)(Y:P.A6.length<=m)(aq:P.s.Z.D.length<=P.A6.length)(X:∀d∈P.A6,d<18446744073709551616)(K:I8 I c a ua)(A:Bz I g x P.s)(hR:RS I M 1 b.length (Aj b))(N:La)(e:Aa B w I (D0 c (⟨L,a,cap,ua,l,x.k.db,C,.slice u P.A6.length m,x⟩:Yp)::Ao 9 1 C P.told.length (P.told.map S)::Ao 41 1 (.slice u P.A6.length m) P.A6.length ((P.A6).map λd=>Ba (d:Nat))::PY g x P.s N)):
  Cz 46 [ptr L 0,.slice M b.length cc] w λv w'=>∃J,Le I J/\(((Ht c P b).1≠0/\v=Ab ((Ht c P b).1:Nat)/\Aa B w' J N)\/((Ht c P b).1=0/\v=Ab 0/\∃i:Sp,i.k.db=x.k.db/\Bz J g i (Ht c P b).2/\A2 (Ht c P b).2 8160/\Aa B w' J (D0 c { (⟨L,a,cap,ua,l,x.k.db,C,.slice u P.A6.length m,x⟩:Yp)with x:=i }::Ao 9 1 C P.told.length (P.told.map S)::Ao 41 1 (.slice u P.A6.length m) P.A6.length ((P.A6).map λd=>Ba (d:Nat))::Ua g i (Ht c P b).2++N))):=by
 refine gE 5 (Ti g x P.s A) ?_;intro w e;refine gG 1 (gD [4] [] [0,1,2,3,4,5,6,7,8,9,10,11,12,13,14,15,16] ?_);intro w e;refine gE 13 (Nq g x P.s A) ?_;intro w e;refine gF 8 (Xze x.k _ _ M cc W A.kp hR) ?_;rintro _ w ⟨ag,e⟩;refine gG 0 (gD [6] [9] [0,1,2,3,4,5,6,7,8,9,10,11,12,13,14] ?_);intro w e;refine gH 3 ?_;refine AN.y 3 (λw _ _ an e=>.D6 (.of O) e (k:=0) O GU F4 O (λj v hj=>by rw[Yl,VS,Yf (by have:=(Y1.1 hj).1;exact this)];exact hj)) ?_;refine gF 5 (Xjt c K.fits K.fit g hg a cap ua _ _ _ x.k.kb ag (.slice none 0 0) (Rz A.kp.st.log.d b) (Y5 _) (.inr O) P.s.Z.now A.kz A.kp.hv ⟨none,0,O,Y9 _,RS.nil _ _⟩ K.BT K.us) ?_;rintro v w ⟨E,F,ab⟩;obtain⟨pv,rfl,H⟩:∃(pv:Oa),v=.tuple #[.pointer pv,Ab ((CH c (JI P.s.k.log.d b) P.s.Z.now).1:Nat)]/\(((CH c (JI P.s.k.log.d b) P.s.Z.now).1≠0/\Aa B w E N)\/((CH c (JI P.s.k.log.d b) P.s.Z.now).1=0/\∃i:Sp,pv=some (ad i.vb 0)/\i.k.db=x.k.db/\Bz E g i (CH c (JI P.s.k.log.d b) P.s.Z.now).2/\A2 (CH c (JI P.s.k.log.d b) P.s.Z.now).2 8160/\Aa B w E (Ua g i (CH c (JI P.s.k.log.d b) P.s.Z.now).2++DR x.vb x.k.sb x.p.wb x.qb::AV x.p P.s.Z::Ey x.qb g.qc P.s.q x.qa x.qk::D0 c (⟨L,a,cap,ua,l,x.k.db,C,.slice u P.A6.length m,x⟩:Yp)::Ao 9 1 C P.told.length (P.told.map S)::Ao 41 1 (.slice u P.A6.length m) P.A6.length ((P.A6).map λd=>Ba (d:Nat))::N))):=by
  rcases ab with⟨n,Q,R⟩|⟨n,i,Q,R,h4,h5,h6⟩
  ·exact⟨none,Q,.inl ⟨n,((((((R.drop (k:=0) O).drop (k:=0) O).drop (k:=0) O).drop (k:=0) O).drop (k:=0) O).drop (k:=0) O)⟩⟩
  ·exact⟨some (ad i.vb 0),by rw[n];exact Q,.inr ⟨n,i,O,R,h4,h5,h6⟩⟩
 refine gH 6 (.val (.eql (.of O) (.of O)) O ?_);refine gN 0 ?_ ?_<;>intro o
 ·obtain⟨G,i,rfl,ae,f,lQ,e⟩:=H.resolve_left (λh=>h.1 (oh o));refine gH 2 ?_;obtain⟨JL,T,V,e,t⟩:=Aa.l6 (k:=9) e O;obtain⟨la,ac,r⟩:=y8 (k:=P.A6.length-P.s.Z.D.length) (c:=m) V om Y;rw[show(((P.A6.length:Nat):Int)-((P.s.Z.D.length:Nat):Int)).toNat=P.A6.length-P.s.Z.D.length by omega,ac];have aa:(Kt P).length=P.A6.length-(P.A6.length-P.s.Z.D.length):=Y6 ..;rw[<-aa]at r ⊢;rw[Ca,<-qR]at r;have U:=yT c (JI P.s.k.log.d b) P.s.Z.now;refine gC 0 (Xjs g i (CH c (JI P.s.k.log.d b) P.s.Z.now).2 la _ (Kt P) (by rw[U];exact Y5 _) om (f.mono T) r _ (e.x [3,3,3,3])) ?_;rintro _ w ⟨rfl,e⟩;replace e:=t _ _ e;refine gH 4 ?_
  first|refine .s1 e (k:=0) O O O O IU lz ?_|refine .s1 e (k:=1) O O O O IU lz ?_|refine .s1 e (k:=2) O O O O IU lz ?_|refine .s1 e (k:=3) O O O O IU lz ?_|refine .s1 e (k:=4) O O O O IU lz ?_|refine .s1 e (k:=5) O O O O IU lz ?_|refine .s1 e (k:=6) O O O O IU lz ?_|refine .s1 e (k:=7) O O O O IU lz ?_|refine .s1 e (k:=8) O O O O IU lz ?_|refine .s1 e (k:=9) O O O O IU lz ?_
  intro w e;refine gG 2 ?_;have e9:(Ht c P b).1=0:=G;refine⟨E,F,.inr ⟨e9,by show Ab (((CH c (JI P.s.k.log.d b) P.s.Z.now).1:Nat):Int)=Ab 0;rw[G];first|done|rfl,i,ae,⟨f.wp,f.cg,f.kz,f.fit,f.kp,f.qu⟩,⟨⟨lQ.Z.len,lQ.Z.wf,?_,lQ.Z.now,lQ.Z.room⟩,lQ.q,lQ.Av⟩,(e.z [4,4,4,4,4,9,9] 7 3)⟩⟩;intro d hd;rcases Yt.1 hd with h|h
  ·exact lQ.Z.D d h
  ·exact X d (zo h)
 refine gG 2 ?_;rcases H with⟨n,e⟩|⟨n,_⟩
 ·exact⟨E,F,.inl ⟨n,O,e⟩⟩
 ·exact Aw n (oh o)
abbrev Dl(Z Z2:Wd):Prop:=Z2.D.length<=Z.D.length
theorem mg{b:Lu->Bool}{a:Int}{D:List Nat}:(Hy b a D).2.length<=D.length:=by
 unfold Hy
 (repeat' split)
 all_goals first|exact Y9 _|(simp only[Y4];omega)
theorem HT(Z:Wd)(r:Ah):Dl Z (AB Z r).2:=by
 unfold AB;split<;>exact mg
theorem Xvz{lo:List Sv}(Z:Wd)(t s:Lu)(f:Bool):Dl Z (DJ lo ps Z t s f).2:=by
 unfold DJ
 (repeat' split)
 all_goals first|exact Y9 _|exact HT _ _
theorem XR{us:List Us}(Z:Wd)(t u p:Lu):Dl Z (ER us ps Z t u p).2:=by
 unfold ER
 (repeat' split)
 all_goals first|exact Y9 _|exact HT _ _
theorem aM(Z:Wd)(q:Qr):Dl Z (Xl ps Z q).2:=by
 unfold Xl
 (repeat' split)
 all_goals exact Y9 _
theorem dU{lo:List Sv}(Z:Wd)(t a:Lu):Dl Z (Xg lo Z t a).2:=by
 have b:=HT Z (CP lo Z t a);have c:=HT (AB Z (CP lo Z t a)).2 (Oy (AB Z (CP lo Z t a)).1.1);unfold Xg
 (repeat' split)
 all_goals first|exact Y9 _|exact b|exact Yr c b
theorem XH{lo:List Sv}(Z:Wd)(p t:Lu):Dl Z (Gy lo ps Z p t).2:=by
 unfold Gy
 (repeat' split)
 all_goals first|exact Y9 _|exact HT _ _
theorem Ma(Z:Wd)(t:Lu):(K4 Z t).D=Z.D:=by unfold K4;split<;>rfl
theorem W0(s:Bi)(n a:Lu):Dl s.Z (F8 s n a).Z:=by unfold F8 Di;split<;>exact HT _ _
theorem Ty{g:Cg}{l:List Pq}{sv:Lu}(s:Bi):Dl s.Z (H6 g l Az sv s).Z:=by
 unfold H6 Di;dsimp only
 (repeat' split)
 all_goals first|exact Y9 _|exact Xvz _ _ _ _
theorem rY{g:Cg}{l:List Pq}{ck:Lu}(s:Bi):Dl s.Z (OA g k l ck s).Z:=by
 have d:∀a b,Dl s.Z (Dv g l a b s).Z:=λa b=>by
  have c:=aM (ps:=g.ps) s.Z (AU l a);have e:=dU (lo:=g.lo) (Xl g.ps s.Z (AU l a)).2 (X9 l Af) (X9 l X7);unfold Dv;dsimp only;split
  ·exact c
  ·split
   ·exact Yr e c
   ·dsimp only;split<;>exact Yr e c
 match k with
 | 0=>show Dl s.Z (D_ g l ck s).Z;unfold D_ Di;dsimp only;(repeat' split)<;>first|exact Y9 _|exact W0 _ _ _|exact Xvz _ _ _ _
 | 1 =>
  have c:=XR (us:=g.us) (ps:=g.ps) s.Z (X9 l HF) (X9 l Xp) (X9 l Xv);show Dl s.Z (FM g l s).Z;unfold FM Di;dsimp only;(repeat' split)
  all_goals first|exact Y9 _|exact c|exact Yr (W0 _ _ _) c|exact Yr (Ty _) c
 | 2=>show Dl s.Z (Hq g ck s).Z;unfold Hq Di;dsimp only;split<;>exact o1 (Ye List.length (Ma s.Z ck))
 | 3=>exact aM _ _
 | 4=>exact d _ _
 | 5=>exact d _ _
 | 6=>exact d _ _
 | 7=>exact d _ _
 | k+8=>exact XH _ _ _
theorem lB{g:Cg}{s:BR}{l:List Pq}{ck:Lu}:Dl s.Z (Eb g s k l ck).Z:=by
 unfold Eb Di;dsimp only
 split<;>exact rY (Dx s)
theorem uH{s:BR}{t:Bi}(h:Dl s.Z t.Z):Dl s.Z (DU s t).2.Z:=by
 unfold DU;dsimp only
 (repeat' split)
 all_goals exact h
theorem q9{g:Cg}{s:BR}{b:Lu}:Dl s.Z (Dm g s b).2.Z:=by
 unfold Dm;dsimp only
 (repeat' split)
 all_goals first|exact Y9 _|exact uH lB
theorem dH{g:Cg}{Z:Wd}{r:Ah}{n:Int}:(Xy g Z r n).D=Z.D:=by
 unfold Xy N_
 (repeat' split)
 all_goals rfl
theorem fP{g:Cg}{s:BR}{a:Lu}{n:Int}:Dl s.Z (FP g s a n).2.Z:=by
 have h:Dl s.Z (Xy g s.Z (getD s.Z.l a) n):=o1 (Ye List.length dH);unfold FP;dsimp only
 (repeat' split)
 all_goals first|exact Y9 _|exact h|exact uH h|exact uH (Y9 _)
theorem tP{g:Cg}:∀(l:List Lu) (Z:Wd) (q:List Nt),(LD g l Z q).2.1.D=Z.D
 | [],_,_=>rfl
 | n::r,Z,q=>by
  unfold LD
  (repeat' split)
  ·exact Ma Z n
  ·rw[tP r];exact Ma Z n
  ·rw[tP r];rfl
  ·rw[tP r];rfl
theorem Z1{g:Cg}{s:BR}:Dl s.Z (LF g s).2.Z:=by
 have h:Dl s.Z (QR g s).2.1:=o1 (Ye List.length (tP _ _ _));unfold LF;split
 ·exact h
 ·exact uH h
theorem fO{g:Cg}{s:BR}{n:Int}:Dl s.Z (Oo g s n).2.Z:=by
 unfold Oo;split
 ·exact fP
 ·exact Y9 _
theorem w_{told:List Lu}(h:∀x∈told,x.length<=60):∀(k:Nat) (s:Lu),(QW told k s).length<=60*k
 | 0,_=>Y5 _
 | k+1,s=>by
  have d:(back told s).length<=60:=by
   unfold back;split
   ·rw[Ya];cases e:told[told.length-((s.getD 1 0).toNat-47)]? with
    | none=>exact Y5 _
    | some x=>exact h x (Y8 e)
   ·exact Y5 _
  have a:=w_ h k (s.drop 3);have b:=w_ h k (s.drop 1);have c:(s.take 1).length<=1:=by rw[Yj];omega
  rw[QW];split<;>rw[Y0]<;>omega
theorem RW{told:List Lu}(h:∀x∈told,x.length<=60)(s:Lu):(Ec told s).length<=60*s.length:=w_ h _ _
theorem Xoq(s:Lu):(B_ s).length<=s.length/\∀x∈B_ s,x.length<=60:=by
 have c:=gA _ s (Y9 _);refine⟨om,λx hx=>?_⟩;have a:=sM _ s (Y9 _) x hx;cases b:Xi x with
 | none=>rw[b]at a;cases a
 | some y=>have:=(cL (k:=y.1) (d:=y.2) b).2.2.2.1;omega
theorem O1{g:Cg}{s:BR}{b:Lu}(h:A2 s 800000):(Dm g s b).1.1.length<=70000000:=by
 have a:ED (Fy 400)/\ED (Fy 404)/\ED (Fy 405)/\ED (Fy 503):=⟨N9 de,N9 de,N9 de,N9 de⟩
 unfold Dm;dsimp only
 (repeat' split)
 all_goals first|exact Y5 _|exact tO a.1|exact tO (tU h _ _ _).2.2
theorem Xoz(s:Bi)(n a:Lu):(F8 s n a).call=s.call:=by unfold F8 Di;split<;>rfl
theorem ZG{g:Cg}{l:List Pq}{ck:Lu}{s:Bi}(c:s.call.length<=2000000):(OA g k l ck s).call.length<=2000000:=by
 have d:∀a b,(Dv g l a b s).call.length<=2000000:=λa b=>by
  unfold Dv;dsimp only;split
  ·exact c
  ·split
   ·exact c
   ·exact Xxx CT.1 CT.2.1 CT.2.2
 match k with
 | 0=>show(D_ g l ck s).call.length<=_;unfold D_ Di;dsimp only;(repeat' split)<;>first|exact c|(rw[Xoz];exact c)
 | 1=>show(FM g l s).call.length<=_;unfold FM H6 Di;dsimp only;(repeat' split)<;>first|exact c|(rw[Xoz];exact c)
 | 2=>show(Hq g ck s).call.length<=_;unfold Hq Di;dsimp only;split<;>exact c
 | 3=>exact c
 | 4=>exact d _ _
 | 5=>exact d _ _
 | 6=>exact d _ _
 | 7=>exact d _ _
 | k+8=>exact c
theorem Xve{g:Cg}{s:BR}{b:Lu}:(Dm g s b).1.2.length<=2000000:=by
 have h:∀k l ck,(Eb g s k l ck).call.length<=2000000:=λk l ck=>by
  have:=ZG (g:=g) (k:=k) (l:=l) (ck:=ck) (s:=Dx s) (Y5 _)
  unfold Eb Di;dsimp only
  split<;>exact this
 unfold Dm;dsimp only
 (repeat' split)
 all_goals first|exact Y5 _|exact h _ _ _
structure DC where
 act:Int
 text:Lu
 n:Int
 AK:List Nat
 Au:List Bool
 Bf:Lu
structure DC.fits(e:DC):Prop where
 text:e.text.length<=10000
 n:e.n<=9223372036854775807
 AK:e.AK.length<=1000
 Au:e.Au.length<=1000
 Bf:e.Bf.length<=1000
 small:∀d∈e.AK,d<18446744073709551616
structure GQ(I:Im)(e:DC)(da la ka:Oa):Prop where
 AK:RS I da 1 e.AK.length (e.AK.map λd=>Ba (d:Nat))
 Au:RS I la 1 e.Au.length (e.Au.map Value.bool)
 Bf:RS I ka 1 e.Bf.length (Aj e.Bf)
def Xa(c:Cf)(g:Cg)(P:H0)(e:DC):(Lu×Nat)×H0 :=
 if e.act=1 then(((Dm g P.s (Ec P.told e.text)).1.1++(Dm g P.s (Ec P.told e.text)).1.2,0),{ P with s:=(Dm g P.s (Ec P.told e.text)).2 })
 else if e.act=2 then(([],0),{ P with s:={ P.s with Z:=tick P.s.Z e.n } })
 else if e.act=3 then(([],0),{ P with s:={ P.s with Z:={ P.s.Z with D:=P.s.Z.D++e.AK } },A6:=P.A6++e.AK })
 else if e.act=4 then(((Oo g P.s e.n).1,0),{ P with s:=(Oo g P.s e.n).2 })
 else if e.act=5 then((c_ (LF g P.s).1,0),{ P with s:=(LF g P.s).2 })
 else if e.act=6 then((c_ (Ho P.s.k).1,0),{ P with s:={ P.s with k:=(Ho P.s.k).2 } })
 else if e.act=7 then(([],0),{ P with s:={ P.s with k:=qx P.s.k e.Au } })
 else if e.act=8 then(([],0),{ P with s:={ P.s with k:=KF P.s.k e.n } })
 else if e.act=9 then(([],(Ht c P e.Bf).1),{ P with s:=(Ht c P e.Bf).2 })
 else(([],0),P)
theorem nN{c:Cf}{f:Nat}{b:Nat}{e d:Va}{x x2:Sp}(g:x2.vb=x.vb)(h:x2.k.db=x.k.db):D0 c ⟨f,a,cap,ua,b,x2.k.db,e,d,x2⟩=D0 c ⟨f,a,cap,ua,b,x.k.db,e,d,x⟩:=by
 show Ad _ (k6 _ [ptr x2.k.db 0,ptr x2.vb 0,e,d]) _=_
 rw[g,h]
structure Ek(P:H0)(n:Nat):Prop where
 s:A2 P.s n
 told:P.told.length<=n*100000/\∀t∈P.told,t.length<=60
 A6:P.A6.length<=n*4/\∀d∈P.A6,d<18446744073709551616
 left:P.s.Z.D.length<=P.A6.length
end Go.Proofs.W9
