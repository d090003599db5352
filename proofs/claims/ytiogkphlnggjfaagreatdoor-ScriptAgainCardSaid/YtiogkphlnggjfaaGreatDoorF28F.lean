/- Part 6 of what the proof stands on. -/
import Derived.Test.YtiogkphlnggjfaaGreatDoorF28E
set_option linter.unusedVariables false
set_option linter.unusedSimpArgs false
set_option maxHeartbeats 2000000
set_option maxRecDepth 100000
set_option synthInstance.maxHeartbeats 400000
set_option synthInstance.maxSize 10000
open Go Gk
variable {p:Addr}{Ac:Array Bool}{af:Array Edge}{fs:Array Field}{ops Ew:Array Oper}{ts:Array TypeId}{held w1 want:Bool}{R:Ending->Wo->Prop}{L L' M:AD}{fd:Field}{fn:Func}{f:FuncId}{I J:Im}{DW DZ hi room D3:Int}{N A5 Hs:La}{G:List (Bool×Bool)}{pl:List (Nat×Nat)}{D T:List Int}{ks:List Nat}{rest:List Oper}{V:List CK}{key nm Az:Lu}{args cs ds news vs xs zs:Lv}{b bytes c cap db fuel i k kb lg m n n0 nn o size:Nat}{nd spare:Nat->Bool}{ps:Nat->Int}{a a0 ka ua:Oa}{op:Op}{d:Option Nat}{P:Program}{S1 S2 g1 g2:Prop}{pos:String}{H X α β σ:Type}{E dst src t' ty:TypeId}{u us v v0:Va}{B w:Wo}{C:Wo->Prop}{A:X1}{K K':Bj}
namespace Go.Proofs.W9
open Gk Ul Pc Tk Tr Xm Rq Tryz Go Sc
theorem Xqg(c:Cf)(g:Cg)(hg:Ld c g)(V:Nat)(a:Oa)(cap:Nat)(ua:Oa)(l:Nat)(H:Oa)(K:Nat)(u:Oa)(t:Nat)(x:Sp)(P:H0)(e:DC)(da:Oa)(dc:Nat)(la:Oa)(lc:Nat)(ka:Oa)(kc:Nat)(he:e.fits)(Y:Ek P 800000)(bf:P.told.length<=100000000000)(be:P.A6.length<=1000000)(Q:P.A6.length<=t)(hc:I8 I c a ua)(hE:GQ I e da la ka)(q:Bz I g x P.s)(N:La)(f:Aa B w I (D0 c ⟨V,a,cap,ua,l,x.k.db,.slice H P.told.length K,.slice u P.A6.length t,x⟩::Ao 9 1 (.slice H P.told.length K) P.told.length (P.told.map S)::Ao 41 1 (.slice u (P.A6).length t) (P.A6).length ((P.A6).map λd=>Ba (d:Nat))::PY g x P.s N)):
  Cz 15 [ptr V 0,.agg ([Ab e.act,S e.text,Ab e.n,.slice da e.AK.length dc,.slice la e.Au.length lc,.slice ka e.Bf.length kc]:Lv).toArray] w λv w'=>∃J,Le I J/\(((Xa c g P e).1.2≠0/\v=.tuple #[S (Xa c g P e).1.1,Ab ((Xa c g P e).1.2:Nat)]/\Aa B w' J N)\/((Xa c g P e).1.2=0/\v=.tuple #[S (Xa c g P e).1.1,Ab 0]/\∃x2 ao ah,(Xa c g P e).2.A6.length<=ah/\x2.k.db=x.k.db/\(e.act=9->A2 (Ht c P e.Bf).2 8160)/\Bz J g x2 (Xa c g P e).2.s/\Aa B w' J (D0 c ⟨V,a,cap,ua,l,x2.k.db,.slice H P.told.length K,.slice ao (Xa c g P e).2.A6.length ah,x2⟩::Ao 9 1 (.slice H P.told.length K) P.told.length (P.told.map S)::Ao 41 1 (.slice ao ((Xa c g P e).2.A6).length ah) ((Xa c g P e).2.A6).length (((Xa c g P e).2.A6).map λd=>Ba (d:Nat))::Ua g x2 (Xa c g P e).2.s++N))):=by
 refine gG 7 ?_;intro b3 w f;refine gN 0 ?_ ?_<;>intro M
 ·refine .lx (σ:=Im×Sp×Nat) (λ(J2,x2,b6)=>[(6,ptr b6 0)]) (λ(J2,x2,b6) w=>Le I J2/\x2.vb=x.vb/\x2.k.db=x.k.db/\Bz J2 g x2 (Dm g P.s (Ec P.told e.text)).2/\Aa B w J2 (Ad b6 [S (Dm g P.s (Ec P.told e.text)).1.1,S (Dm g P.s (Ec P.told e.text)).1.2] 118::D0 c ⟨V,a,cap,ua,l,x.k.db,.slice H P.told.length K,.slice u P.A6.length t,x⟩::Ao 9 1 (.slice H P.told.length K) P.told.length (P.told.map S)::Ao 41 1 (.slice u (P.A6).length t) (P.A6).length ((P.A6).map λd=>Ba (d:Nat))::PY g x2 (Dm g P.s (Ec P.told e.text)).2 N)) ?_ ?_
  ·have ax:(Ec P.told e.text).length<=1000000:=by have h1:=RW Y.told.2 e.text;have h2:=he.text;omega
   refine .dw (λw=>∃m R,Le I m/\Aa B w m (D0 c ⟨V,a,cap,ua,l,x.k.db,.slice H P.told.length K,.slice u P.A6.length t,x⟩::Ad b3 [Ab e.act,S e.text,Ab e.n,.slice da e.AK.length dc,.slice la e.Au.length lc,.slice ka e.Bf.length kc] 46::R)) (λj=>!([13].contains j)) ?_;replace f:=f.drew;generalize w.drew=w at f ⊢;have C:∃m R,Le I m/\Aa B w m (D0 c ⟨V,a,cap,ua,l,x.k.db,.slice H P.told.length K,.slice u P.A6.length t,x⟩::Ad b3 [Ab e.act,S e.text,Ab e.n,.slice da e.AK.length dc,.slice la e.Au.length lc,.slice ka e.Bf.length kc] 46::R):=⟨_,_,Le.refl _,(f.x [0,1])⟩
   refine .tp 0 O (λw=>(.mo O)) (.tp 1 O (λw=>(.no O)) ?_);refine .tp 2 O (λw=>(by first|exact .fo 29 O Ou O O IU O|exact .fi 29 O Ou O O IU O)) ?_;refine .tk 3 O C (λw ⟨m,R,a1,f⟩=>(by first|exact(.lo O f (k:=0) O isAgg54 O)|exact(.lo O f (k:=1) O isAgg54 O))) ?_;refine .tp 4 O (λw=>(by first|exact .fo 1 O GX O O A3 O|exact .fi 1 O GX O O A3 O)) ?_;refine .tk 5 O C (λw ⟨m,R,a1,f⟩=>(by first|exact(.lo O f (k:=0) O Bq O)|exact(.lo O f (k:=1) O Bq O))) ?_;refine .tp 6 O (λw=>(.mo O)) (.tp 7 O (λw=>(.no O)) ?_);refine .tp 8 O (λw=>(by first|exact .fo 30 O Ou O O G2 O|exact .fi 30 O Ou O O G2 O)) ?_;refine .tk 9 O C (λw ⟨m,R,a1,f⟩=>(by first|exact(.lo O f (k:=0) O Ji O)|exact(.lo O f (k:=1) O Ji O))) ?_;refine .branch [10,12] kr O (WO.cons O ?_ (WO.cons O ?_ (WO.nil)))
   ·obtain⟨JL,a5,aw,f,ac⟩:=Aa.l6 (k:=2) f O;refine .call func11 O (AM O (AM O X3)) O (xJ e.text P.told H K he.text om Y.told.2 aw _ f) ?_;rintro _ w ⟨rfl,f⟩;replace f:=ac _ _ f;refine .nil ?_;clear C;have C:∃m R,Le I m/\Aa B w m (D0 c ⟨V,a,cap,ua,l,x.k.db,.slice H P.told.length K,.slice u P.A6.length t,x⟩::Ad b3 [Ab e.act,S e.text,Ab e.n,.slice da e.AK.length dc,.slice la e.Au.length lc,.slice ka e.Bf.length kc] 46::R):=⟨_,_,Le.refl _,(f.x [1,2])⟩
    refine⟨λ_ _=>C,?_⟩;refine .branch [11,12] kr O (WO.cons O ?_ (WO.cons O ?_ (WO.nil)))
    ·refine .call func37 O (AM O (AM O X3)) O (L8 g x P.s (Ec P.told e.text) ax Y.s q _ (f.x [7,7,7,7])) ?_;rintro _ w ⟨rfl,J2,x2,o,F,r,E,f⟩;refine .nil ?_;clear C;have C:∃m R,Le I m/\Aa B w m (D0 c ⟨V,a,cap,ua,l,x.k.db,.slice H P.told.length K,.slice u P.A6.length t,x⟩::Ad b3 [Ab e.act,S e.text,Ab e.n,.slice da e.AK.length dc,.slice la e.Au.length lc,.slice ka e.Bf.length kc] 46::R):=⟨_,_,o,(f.x [5,6])⟩
     refine⟨λ_ _=>C,?_⟩;refine .b1 12 O (.C5 (cs:=[_,_]) f JD O ?_);intro b6 w f;refine .nil ?_;clear C;have C:∃m R,Le I m/\Aa B w m (D0 c ⟨V,a,cap,ua,l,x.k.db,.slice H P.told.length K,.slice u P.A6.length t,x⟩::Ad b3 [Ab e.act,S e.text,Ab e.n,.slice da e.AK.length dc,.slice la e.Au.length lc,.slice ka e.Bf.length kc] 46::R):=⟨_,_,(by first|exact Le.refl _|exact o),(f.x [6,7])⟩
     refine⟨λ_ _=>C,?_⟩;refine .b1 13 O ?_
     first|refine .so f (k:=0) O O O O EG O lz ?_|refine .so f (k:=1) O O O O EG O lz ?_|refine .so f (k:=2) O O O O EG O lz ?_|refine .so f (k:=3) O O O O EG O lz ?_|refine .so f (k:=4) O O O O EG O lz ?_|refine .so f (k:=5) O O O O EG O lz ?_|refine .so f (k:=6) O O O O EG O lz ?_|refine .so f (k:=7) O O O O EG O lz ?_|refine .so f (k:=8) O O O O EG O lz ?_
     intro w f;refine .nil ?_;refine And.intro (by intro h;cases h) ?_;refine .dn ?_;exact Eo (_,_,_) O ⟨o,F,r,E,(((((((((f.pick 4 O).pick 4 O).pick 4 O).pick 4 O).pick 8 O).pick 6 O).pick 8 O).pick 7 O).drop (k:=8) O)⟩
    ·refine .C5 (cs:=[_,_]) f JD O ?_;intro b6 w f;refine .nil ?_;clear C;have C:∃m R,Le I m/\Aa B w m (D0 c ⟨V,a,cap,ua,l,x.k.db,.slice H P.told.length K,.slice u P.A6.length t,x⟩::Ad b3 [Ab e.act,S e.text,Ab e.n,.slice da e.AK.length dc,.slice la e.Au.length lc,.slice ka e.Bf.length kc] 46::R):=⟨_,_,(by first|exact Le.refl _|exact o),(f.x [2,3])⟩
     refine⟨λ_ _=>C,?_⟩;refine .b1 11 O (.call func37 O (AM O (AM O X3)) O (L8 g x P.s (Ec P.told e.text) ax Y.s q _ (f.x [8,8,8,8])) ?_);rintro _ w ⟨rfl,J2,x2,o,F,r,E,f⟩;refine .nil ?_;clear C;have C:∃m R,Le I m/\Aa B w m (D0 c ⟨V,a,cap,ua,l,x.k.db,.slice H P.told.length K,.slice u P.A6.length t,x⟩::Ad b3 [Ab e.act,S e.text,Ab e.n,.slice da e.AK.length dc,.slice la e.Au.length lc,.slice ka e.Bf.length kc] 46::R):=⟨_,_,o,(f.x [6,7])⟩
     refine⟨λ_ _=>C,?_⟩;refine .b1 13 O ?_
     first|refine .so f (k:=0) O O O O EG O lz ?_|refine .so f (k:=1) O O O O EG O lz ?_|refine .so f (k:=2) O O O O EG O lz ?_|refine .so f (k:=3) O O O O EG O lz ?_|refine .so f (k:=4) O O O O EG O lz ?_|refine .so f (k:=5) O O O O EG O lz ?_|refine .so f (k:=6) O O O O EG O lz ?_|refine .so f (k:=7) O O O O EG O lz ?_|refine .so f (k:=8) O O O O EG O lz ?_
     intro w f;refine .nil ?_;refine And.intro (by intro h;cases h) ?_;refine .dn ?_;exact Eo (_,_,_) O ⟨o,F,r,E,(((((((((f.pick 3 O).pick 3 O).pick 3 O).pick 3 O).pick 8 O).pick 6 O).pick 8 O).pick 7 O).drop (k:=8) O)⟩
   ·refine .C5 (cs:=[_,_]) f JD O ?_;intro b6 w f;refine .nil ?_;clear C;have C:∃m R,Le I m/\Aa B w m (D0 c ⟨V,a,cap,ua,l,x.k.db,.slice H P.told.length K,.slice u P.A6.length t,x⟩::Ad b3 [Ab e.act,S e.text,Ab e.n,.slice da e.AK.length dc,.slice la e.Au.length lc,.slice ka e.Bf.length kc] 46::R):=⟨_,_,(by first|exact Le.refl _|exact o),(f.x [1,2])⟩
    refine⟨λ_ _=>C,?_⟩;refine .b1 10 O ?_;obtain⟨JL,a5,aw,f,ac⟩:=Aa.l6 (k:=3) f O;try dsimp only[List.eraseIdx]at f
    refine .call func11 O (AM O (AM O X3)) O (xJ e.text P.told H K he.text om Y.told.2 aw _ f) ?_;rintro _ w ⟨rfl,f⟩;replace f:=ac _ _ f;try dsimp only[List.eraseIdx]at f
    refine .nil ?_;clear C;have C:∃m R,Le I m/\Aa B w m (D0 c ⟨V,a,cap,ua,l,x.k.db,.slice H P.told.length K,.slice u P.A6.length t,x⟩::Ad b3 [Ab e.act,S e.text,Ab e.n,.slice da e.AK.length dc,.slice la e.Au.length lc,.slice ka e.Bf.length kc] 46::R):=⟨_,_,Le.refl _,(f.x [2,3])⟩
    refine⟨λ_ _=>C,?_⟩;refine .b1 11 O (.call func37 O (AM O (AM O X3)) O (L8 g x P.s (Ec P.told e.text) ax Y.s q _ (f.x [8,8,8,8])) ?_);rintro _ w ⟨rfl,J2,x2,o,F,r,E,f⟩;try dsimp only[List.eraseIdx]at f
    refine .nil ?_;clear C;have C:∃m R,Le I m/\Aa B w m (D0 c ⟨V,a,cap,ua,l,x.k.db,.slice H P.told.length K,.slice u P.A6.length t,x⟩::Ad b3 [Ab e.act,S e.text,Ab e.n,.slice da e.AK.length dc,.slice la e.Au.length lc,.slice ka e.Bf.length kc] 46::R):=⟨_,_,o,(f.x [6,7])⟩
    refine⟨λ_ _=>C,?_⟩;refine .b1 13 O ?_
    first|refine .so f (k:=0) O O O O EG O lz ?_|refine .so f (k:=1) O O O O EG O lz ?_|refine .so f (k:=2) O O O O EG O lz ?_|refine .so f (k:=3) O O O O EG O lz ?_|refine .so f (k:=4) O O O O EG O lz ?_|refine .so f (k:=5) O O O O EG O lz ?_|refine .so f (k:=6) O O O O EG O lz ?_|refine .so f (k:=7) O O O O EG O lz ?_|refine .so f (k:=8) O O O O EG O lz ?_
    intro w f;refine .nil ?_;refine And.intro (by intro h;cases h) ?_;refine .dn ?_;exact Eo (_,_,_) O ⟨o,F,r,E,(((((((((f.pick 3 O).pick 3 O).pick 3 O).pick 3 O).pick 8 O).pick 5 O).pick 8 O).pick 7 O).drop (k:=8) O)⟩
  rintro⟨J2,x2,b6⟩ w ⟨o,F,r,E,f⟩;have bi:=O1 (g:=g) (b:=Ec P.told e.text) Y.s;have bh:=Xve (g:=g) (s:=P.s) (b:=Ec P.told e.text);refine gG 7 ?_;have U:Xa c g P e=(((Dm g P.s (Ec P.told e.text)).1.1++(Dm g P.s (Ec P.told e.text)).1.2,0),{ P with s:=(Dm g P.s (Ec P.told e.text)).2 }):=by unfold Xa;rw[Y7 M]
  rw[U];exact⟨J2,o,.inr ⟨O,O,x2,u,t,Q,r,λW=>Aw W om,E,by rw[nN F r];exact((((((((f.pick 7 O).pick 7 O).pick 7 O).pick 7 O).pick 7 O).pick 7 O).pick 7 O).drop (k:=7) O)⟩⟩
 refine gN 2 ?_ ?_<;>intro A
 ·refine gD [1,0] [] [0,1,2,3,4,5,6] ?_;intro w f;refine gE 6 (Nu g x P.s e.n Y.s.Z q) ?_;intro w f;refine gG 2 ?_;have U:Xa c g P e=(([],0),{ P with s:={ P.s with Z:=tick P.s.Z e.n } }):=by unfold Xa;rw[Y3 M,Y7 A]
  rw[U];exact⟨I,Le.refl _,.inr ⟨O,O,x,u,t,Q,O,λW=>Aw W om,⟨q.wp,q.cg,q.kz,q.fit,q.kp,q.qu⟩,((((((((f.pick 3 O).pick 3 O).pick 3 O).pick 3 O).pick 7 O).pick 7 O).pick 7 O).drop (k:=7) O)⟩⟩
 refine gN 2 ?_ ?_<;>intro G
 ·refine gG 0 ?_;have bb:=Y.A6.1;have ba:=he.AK;refine gD [1,0] [10] [0,1,2,3,4,5,6,7,8,9,10] ?_;intro w f;refine gH 7 (AN.e ?_);refine .Bk (size:=1) (bytes:=8) f (.of O) (.of O) hE.AK (k:=3) O Qy (i:=t41) kr O O O O (by rw[Dy];intro v hv;obtain⟨d,_,rfl⟩:=Dj.1 hv;rfl) ⟨om,by unfold maxLen;omega⟩ O ?_;intro a9 w f;try dsimp only[List.set]at f
  obtain⟨ao,ah,rfl,a2,_⟩:=f.AP (k:=3) (v:=a9) O;refine gH 3 ?_;intro w f;refine gG 0 (gD [1,0] [] [0,1,2,3,4,5,6] ?_);intro w f;refine gE 6 (Xjs g x P.s da dc e.AK (oh Y.left) (oh he.AK) q hE.AK) ?_;intro w f;refine gG 2 ?_;have U:Xa c g P e=(([],0),{ P with s:={ P.s with Z:={ P.s.Z with D:=P.s.Z.D++e.AK } },A6:=P.A6++e.AK }):=by unfold Xa;rw[Y3 M,Y3 A,Y7 G]
  rw[U];rw[<-Y0,<-Yn]at f;exact⟨I,Le.refl _,.inr ⟨O,O,x,ao,ah,by show(P.A6++e.AK).length<=ah;rw[Y0];exact a2,O,λW=>Aw W om,⟨q.wp,q.cg,q.kz,q.fit,q.kp,q.qu⟩,((((((((f.pick 3 O).pick 3 O).pick 3 O).pick 3 O).pick 7 O).pick 7 O).pick 7 O).drop (k:=7) O)⟩⟩
 refine gN 2 ?_ ?_<;>intro L
 ·refine gF 3 (M8 c g ⟨V,a,cap,ua,l,x.k.db,.slice H P.told.length K,.slice u P.A6.length t,x⟩ P.s e.n Y.s q) ?_;rintro _ w ⟨rfl,J2,x2,o,F,r,E,f⟩;refine gG 2 ?_;have U:Xa c g P e=(((Oo g P.s e.n).1,0),{ P with s:=(Oo g P.s e.n).2 }):=by unfold Xa;rw[Y3 M,Y3 A,Y3 G,Y7 L]
  rw[U];exact⟨J2,o,.inr ⟨O,O,x2,u,t,Q,r,λW=>Aw W om,E,by rw[nN F r];exact((((((((f.pick 4 O).pick 4 O).pick 4 O).pick 4 O).pick 7 O).pick 7 O).pick 6 O).drop (k:=7) O)⟩⟩
 refine gN 2 ?_ ?_<;>intro T
 ·refine gF 4 (Xuc g x P.s Y.s q) ?_;rintro _ w ⟨rfl,J2,x2,o,F,r,E,f⟩;refine gE 0 (Xdc _) ?_;intro w f;refine gG 2 ?_;have U:Xa c g P e=((c_ (LF g P.s).1,0),{ P with s:=(LF g P.s).2 }):=by unfold Xa;rw[Y3 M,Y3 A,Y3 G,Y3 L,Y7 T]
  rw[U];exact⟨J2,o,.inr ⟨O,O,x2,u,t,Q,r,λW=>Aw W om,E,by rw[nN F r];exact((((((((f.pick 3 O).pick 3 O).pick 3 O).pick 3 O).pick 7 O).pick 7 O).pick 7 O).drop (k:=7) O)⟩⟩
 refine gN 2 ?_ ?_<;>intro X
 ·refine gF 4 (Xmk g x P.s (oh Y.s.Av) q) ?_;rintro _ w ⟨J2,x2,rfl,o,F,r,E,f⟩;refine gE 0 (Xdc _) ?_;intro w f;refine gG 2 ?_;have U:Xa c g P e=((c_ (Ho P.s.k).1,0),{ P with s:={ P.s with k:=(Ho P.s.k).2 } }):=by unfold Xa;rw[Y3 M,Y3 A,Y3 G,Y3 L,Y3 T,Y7 X]
  rw[U];exact⟨J2,o,.inr ⟨O,O,x2,u,t,Q,r,λW=>Aw W om,E,by rw[nN F r];exact((((((((f.pick 3 O).pick 3 O).pick 3 O).pick 3 O).pick 7 O).pick 7 O).pick 7 O).drop (k:=7) O)⟩⟩
 refine gN 2 ?_ ?_<;>intro ae
 ·refine gD [1,0] [] [0,1,2,3,4,5,6] ?_;intro w f;refine gF 6 (Xsv x.k P.s.k e.Au la lc (oh he.Au) q.kp hE.Au) ?_;rintro _ w ⟨m,y9,ab,ay,am,av,f⟩;refine gG 2 ?_;have U:Xa c g P e=(([],0),{ P with s:={ P.s with k:=qx P.s.k e.Au } }):=by unfold Xa;rw[Y3 M,Y3 A,Y3 G,Y3 L,Y3 T,Y3 X,Y7 ae]
  rw[U];refine⟨m,ab,.inr ⟨O,O,{ x with k:=y9 },u,t,Q,am,λW=>Aw W om,⟨q.wp.mono ab,q.cg,q.kz.mono ab,q.fit,av,q.qu.1,q.qu.2.mono ab⟩,?_⟩⟩;rw[nN (x:=x) (x2:={ x with k:=y9 }) O am];show Aa B _ m (_::_::_::DR x.vb y9.sb x.p.wb x.qb::_)
  rw[ay];exact(f.z [7,7,7,7,7,7] 7 1)
 refine gN 2 ?_ ?_<;>intro al
 ·refine gD [1,0] [] [0,1,2,3,4,5,6] ?_;intro w f;refine gF 6 (Th x.k P.s.k e.n he.n q.kp) ?_;rintro _ w ⟨y9,ay,am,av,f⟩;refine gG 2 ?_;have U:Xa c g P e=(([],0),{ P with s:={ P.s with k:=KF P.s.k e.n } }):=by unfold Xa;rw[Y3 M,Y3 A,Y3 G,Y3 L,Y3 T,Y3 X,Y3 ae,Y7 al]
  rw[U];refine⟨I,Le.refl _,.inr ⟨O,O,{ x with k:=y9 },u,t,Q,am,λW=>Aw W om,⟨q.wp,q.cg,q.kz,q.fit,av,q.qu⟩,?_⟩⟩;rw[nN (x:=x) (x2:={ x with k:=y9 }) O am];show Aa B _ I (_::_::_::DR x.vb y9.sb x.p.wb x.qb::_)
  rw[ay];exact(f.z [7,7,7,7,7,7] 7 1)
 refine gN 2 ?_ ?_<;>intro ap
 ·refine gF 3 (Xqf c g hg V a cap ua l (.slice H P.told.length K) u t x P e.Bf ka kc (oh he.Bf) (oh Y.A6.1) Q Y.left Y.A6.2 hc q hE.Bf) ?_;rintro v w ⟨m,ab,a6⟩;obtain⟨rfl,a7⟩:v=Ab ((Ht c P e.Bf).1:Nat)/\(((Ht c P e.Bf).1≠0/\Aa B w m N)\/((Ht c P e.Bf).1=0/\∃x2:Sp,x2.k.db=x.k.db/\Bz m g x2 (Ht c P e.Bf).2/\A2 (Ht c P e.Bf).2 8160/\Aa B w m (D0 c ⟨V,a,cap,ua,l,x.k.db,.slice H P.told.length K,.slice u P.A6.length t,x2⟩::Ao 9 1 (.slice H P.told.length K) P.told.length (P.told.map S)::Ao 41 1 (.slice u (P.A6).length t) (P.A6).length ((P.A6).map λd=>Ba (d:Nat))::Ua g x2 (Ht c P e.Bf).2++(Ad b3 [Ab e.act,S e.text,Ab e.n,.slice da e.AK.length dc,.slice la e.Au.length lc,.slice ka e.Bf.length kc] 46::N)))):=by
   rcases a6 with⟨h1,h2,h3⟩|⟨h1,h2,x2,h3,h4,h6,h5⟩
   ·exact⟨h2,.inl ⟨h1,h3.drop (k:=0) O⟩⟩
   ·exact⟨by rw[h1];exact h2,.inr ⟨h1,x2,h3,h4,h6,h5⟩⟩
  refine gH 2 (.nil (.ret ?_));refine λ_ a8=>mB a8 O O ?_
  have U:Xa c g P e=(([],(Ht c P e.Bf).1),{ P with s:=(Ht c P e.Bf).2 }):=by unfold Xa;rw[Y3 M,Y3 A,Y3 G,Y3 L,Y3 T,Y3 X,Y3 ae,Y3 al,Y7 ap]
  rw[U];rcases a7 with⟨h1,f⟩|⟨h1,x2,h2,h3,h6,f⟩
  ·exact⟨_,O,m,ab,.inl ⟨h1,O,f⟩⟩
  ·rw[show(D0 c ⟨V,a,cap,ua,l,x.k.db,.slice H P.told.length K,.slice u P.A6.length t,x2⟩)=D0 c ⟨V,a,cap,ua,l,x2.k.db,.slice H P.told.length K,.slice u P.A6.length t,x2⟩by rw[h2]]at f;exact⟨_,O,m,ab,.inr ⟨h1,by rw[h1];rfl,x2,u,t,Q,h2,λ_=>h6,h3,f.y 7 1⟩⟩
 refine gG 2 ?_;have U:Xa c g P e=(([],0),P):=by unfold Xa;rw[Y3 M,Y3 A,Y3 G,Y3 L,Y3 T,Y3 X,Y3 ae,Y3 al,Y3 ap]
 rw[U];exact⟨I,Le.refl _,.inr ⟨O,O,x,u,t,Q,O,λW=>Aw W om,q,((((((((f.pick 7 O).pick 7 O).pick 7 O).pick 7 O).pick 7 O).pick 7 O).pick 7 O).drop (k:=7) O)⟩⟩
def OpF(J:Im)(g:Cg)(db:Nat)(r:Nat×BR)(a:Option Addr):Option Sp->Prop
 | none=>r.1≠0/\a=none
 | some x=>r.1=0/\a=some (ad x.vb 0)/\x.k.db=db/\Bz J g x r.2/\A2 r.2 8160
def vK(J:Im)(g:Cg)(db:Nat)(r:Nat×BR)(a:Option Addr)(o:{o:Option Sp // OpF J g db r a o}):List X1:=match o.1 with
 | none=>[]
 | some x=>Ua g x r.2
theorem Sw(c:Cf)(C:c.fits)(i:Ge c=0->Vk c.BT c.us)(g:Cg)(E:Ld c g)(a:Oa)(cap:Nat)(ua:Oa)(b:Nat)(d:Dk)(db kb:Nat)(sv pl:Va)(D:Ct d)(m:d.Ae.length<=600)(f:d.off=true\/d.Ae=[])(now:Int)(A:Kz I)(z:AZ I)(t:Ay I pl d.Au)(F:Cy I a c.BT)(y:BM I ua c.us)(N:La)(u:Aa B w I (BA db kb sv pl d N)):
  Calls prog 14 #[.agg (FL c a cap ua b).toArray,ptr db 0,Ab now] w (AY λv w'=>∃J p,v=.tuple #[.pointer p,Ab ((CH c d now).1:Nat)]/\Le I J/\Aa B w' J (mY (vK J g db (CH c d now) p)::N)) :=
 (Xjt c C i g E a cap ua b d db kb sv pl D m f now A z t F y N u).mono λe w' ⟨v,o,J,n,h⟩=>by
  rcases h with⟨j,k,l⟩|⟨j,x,k,l,q,r,s⟩
  ·exact⟨v,o,J,none,k,n,Aa.box (T:=vK J g db (CH c d now) none) ⟨none,j,O⟩ l⟩
  ·exact⟨v,o,J,some (ad x.vb 0),by rw[j];exact k,n,Aa.box (T:=vK J g db (CH c d now) (some (ad x.vb 0))) ⟨some x,j,O,l,q,r⟩ s⟩
def E4(c:Cf)(g:Cg):List DC->H0->List (List UInt8)->List (List UInt8)×Nat
 | [],_,a=>(a,0)
 | e::r,P,a =>
  if(Xa c g P e).1.2≠0 then(a,(Xa c g P e).1.2)else E4 c g r { (Xa c g P e).2 with told:=(Xa c g P e).2.told++B_ (Xa c g P e).1.1 } (a++[(Xa c g P e).1.1])
def Ed(c:Cf)(g:Cg)(n:Int)(l:List DC):List Lu×Nat :=
 if(CH c (EU n) 0).1≠0 then([],(CH c (EU n) 0).1)else E4 c g l ⟨(CH c (EU n) 0).2,[],[]⟩ []
theorem ym{c:Cf}{g:Cg}:∀(l:List DC) (P:H0) (a:List Lu),a <+: (E4 c g l P a).1/\(E4 c g l P a).1.length<=a.length+l.length
 | [],_,a=>⟨vh _,JR _ _⟩
 | e::r,P,a=>by
  rw[E4];split
  ·exact⟨vh _,JR _ _⟩
  ·obtain⟨b,d⟩:=ym r { (Xa c g P e).2 with told:=(Xa c g P e).2.told++B_ (Xa c g P e).1.1 } (a++[(Xa c g P e).1.1]);refine⟨(List.prefix_append _ _).trans b,?_⟩;rw[Y0,LS]at d;rw[Y4];omega
theorem Xxk{c:Cf}{g:Cg}(m:List DC):∀(l:List DC) (P:H0) (a:List Lu),(E4 c g l P a).1 <+: (E4 c g (l++m) P a).1
 | [],P,a=>(ym m P a).1
 | e::r,P,a=>by
  rw[DV,E4,E4];split
  ·exact vh _
  ·exact Xxk m r _ _
theorem ZE{c:Cf}{g:Cg}(n:Int)(l m:List DC):(Ed c g n l).1 <+: (Ed c g n (l++m)).1:=by
 unfold Ed;split
 ·exact vh _
 ·exact Xxk m l _ _
theorem Xfg(c:Cf)(g:Cg)(P:H0)(e:DC):(Xa c g P e).2.told=P.told:=by
 unfold Xa
 (repeat' split)
 all_goals rfl
theorem A2.up{s:BR}(h:A2 s n)(a:n<=m):A2 s m:=⟨h.Z,h.q,Yr h.Av a⟩
theorem Ek.up{P:H0}(h:Ek P n)(a:n<=m):Ek P m:=⟨h.s.up a,⟨Yr h.told.1 (T3 _ a),h.told.2⟩,⟨by have:=h.A6.1;omega,h.A6.2⟩,h.left⟩
theorem WI(e:Nat):(c_ e).length<=6:=by unfold c_;split<;>decide
theorem Xiu{c:Cf}{g:Cg}{P:H0}{e:DC}(a:Ek P 800000):(Xa c g P e).1.1.length<=90000000:=by
 have f:=O1 (g:=g) (b:=Ec P.told e.text) a.s;have h:=Xve (g:=g) (s:=P.s) (b:=Ec P.told e.text);have d:=ZJ (g:=g) (n:=e.n) a.s.Z a.s.q;unfold Xa
 (repeat' split)
 all_goals first|exact Y5 _|exact d|exact Yr (WI _) de|(show((Dm g P.s (Ec P.told e.text)).1.1++(Dm g P.s (Ec P.told e.text)).1.2).length<=_;rw[Y0];omega)
theorem RR{c:Cf}{g:Cg}{P:H0}{e:DC}(f:Ek P n)(p:e.fits)(B:8160<=n)(z:n<=800000)(w:e.act=9->A2 (Ht c P e.Bf).2 8160):
  Ek { (Xa c g P e).2 with told:=(Xa c g P e).2.told++B_ (Xa c g P e).1.1 } (n+256):=by
 have A:=Xiu (c:=c) (g:=g) (e:=e) (f.up z);have u:=Xoq (Xa c g P e).1.1;have v:=gA _ (Xa c g P e).1.1 (Y9 _);have r:=Xfg c g P e;have i:A2 (Xa c g P e).2.s (n+256)/\(Xa c g P e).2.A6.length<=(n+256)*4/\(∀d∈(Xa c g P e).2.A6,d<18446744073709551616)/\(Xa c g P e).2.s.Z.D.length<=(Xa c g P e).2.A6.length:=by
  have hu:=f.s.up (show n<=n+256 by omega);have E:=f.A6.1;have o:P.A6.length<=(n+256)*4:=om
  have m:=f.A6.2;have y:=f.left;have C:=p.AK;have j:∀(s2:BR),A2 s2 (n+256)->Dl P.s.Z s2.Z->A2 s2 (n+256)/\P.A6.length<=(n+256)*4/\(∀d∈P.A6,d<18446744073709551616)/\s2.Z.D.length<=P.A6.length:=λs2 a b=>⟨a,o,m,Yr b y⟩
  unfold Xa
  (repeat' split)
  ·exact j _ (lA f.s _) q9
  ·exact j _ ⟨P4 hu.Z _,hu.q,hu.Av⟩ (Y9 _)
  ·refine⟨⟨⟨hu.Z.len,hu.Z.wf,λd l=>?_,hu.Z.now,hu.Z.room⟩,hu.q,hu.Av⟩,?_,λd l=>?_,?_⟩
   ·rcases Yt.1 l with h|h
    ·exact hu.Z.D d h
    ·exact p.small d h
   ·show(P.A6++e.AK).length<=_
    rw[Y0];omega
   ·rcases Yt.1 l with h|h
    ·exact m d h
    ·exact p.small d h
   ·show(P.s.Z.D++e.AK).length<=(P.A6++e.AK).length
    rw[Y0,Y0];omega
  ·refine j _ ?_ fO;unfold Oo;split
   ·exact ZL f.s _ _
   ·exact hu
  ·exact j _ (Tl f.s) Z1
  ·exact j _ ⟨hu.Z,hu.q,hu.Av⟩ (Y9 _)
  ·exact j _ ⟨hu.Z,hu.q,hu.Av⟩ (Y9 _)
  ·exact j _ ⟨hu.Z,hu.q,hu.Av⟩ (Y9 _)
  ·rename_i h
   refine⟨(w h).up om,o,m,?_⟩;show((CH c (JI P.s.k.log.d e.Bf) P.s.Z.now).2.Z.D++Kt P).length<=P.A6.length
   rw[yT,CS];unfold Kt;rw[Y6];omega
  ·exact j _ hu (Y9 _)
 refine⟨i.1,⟨?_,λt x=>?_⟩,⟨i.2.1,i.2.2.1⟩,i.2.2.2⟩
 ·show((Xa c g P e).2.told++B_ (Xa c g P e).1.1).length<=_
  have:=f.told.1
  rw[r,Y0];omega
 ·rcases Yt.1 x with h|h
  ·rw[r]at h;exact f.told.2 t h
  ·exact u.2 t h
theorem R6:prog.info? 9=some t9:=by kernel_rfl
abbrev tX(e:DC)(a:Oa)(b:Nat)(d:Oa)(f:Nat)(ka:Oa)(c:Nat):Lv:=[Ab e.act,S e.text,Ab e.n,.slice a e.AK.length b,.slice d e.Au.length f,.slice ka e.Bf.length c]
structure Er where
 e:DC
 da:Oa
 dc:Nat
 la:Oa
 lc:Nat
 ka:Oa
 kc:Nat
abbrev nT(r:Er):Lv:=tX r.e r.da r.dc r.la r.lc r.ka r.kc
def B7(I:Im)(a:Oa)(l:List DC):Prop:=∃L:List Er,L.map Er.e=l/\RS I a 6 L.length (X2 nT L)/\∀r∈L,GQ I r.e r.da r.la r.ka
theorem GQ.mono{e:DC}{b c:Oa}(h:GQ I e b c ka)(a:Le I J):GQ J e b c ka:=⟨h.AK.mono a,h.Au.mono a,h.Bf.mono a⟩
theorem B7.mono{l:List DC}(h:B7 I a l)(b:Le I J):B7 J a l:=by
 obtain⟨L,c,d,e⟩:=h;exact⟨L,c,d.mono b,λr f=>(e r f).mono b⟩
theorem B7.get{l:List DC}(h:B7 I a l){e:DC}(c:l[i]?=some e):∃p b g f o ka n,a=some p/\At I (p.add (i*6)) (tX e b g f o ka n)/\GQ I e b f ka:=by
 obtain⟨L,rfl,j,k⟩:=h;rw[Yu]at c;obtain⟨r,d,rfl⟩:=Gf.1 c;obtain⟨p,m,hx⟩:=Bv (cells:=nT) (λ_=>rfl) j d;exact⟨p,_,_,_,_,_,_,m,hx,k r (Y8 d)⟩
theorem I8.mono{c:Cf}(h:I8 I c a ua)(b:Le I J):I8 J c a ua:=⟨h.fits,h.fit,h.BT.mono b,h.us.mono b⟩
theorem ti(c:Cf)(g:Cg)(hg:Ld c g)(a:Oa)(cap:Nat)(ua:Oa)(f:Nat)(n:Int)(l:List DC)(ea:Oa)(ec:Nat)(ca:l.length<=100)(bg:∀e∈l,e.fits)(hZ:Kz I)(hV:AZ I)(hc:I8 I c a ua)(hL:B7 I ea l)(N:La)(b:Aa B w I N):
  Cz 6 [.agg (FL c a cap ua f).toArray,Ab n,.slice ea l.length ec] w λv w'=>∃J oa oc,v=.tuple #[.slice oa (Ed c g n l).1.length oc,Ab ((Ed c g n l).2:Nat)]/\Le I J/\(Ed c g n l).1.length<=oc/\RS J oa 1 (Ed c g n l).1.length ((Ed c g n l).1.map S)/\Aa B w' J N:=by
 refine gG 0 (.G7 b (.of O) O ?_);intro b3 w b;refine gG 2 (gD [0] [] [0,1,2,3,4,5] ?_);intro w b;refine AN.y 0 (λw _ _ aj b=>.D6 (.of O) b (k:=0) O GU F4 O (λ_ _ h=>by rw[Yl];exact h)) ?_;refine gF 1 (Wh n) ?_;rintro _ w ⟨db,kb,sv,rfl,b⟩;refine gH 1 (AN.e (.G7 b (.of O) O ?_));intro r w b;refine gG 2 (.dw (λw=>∃q R,Le I q/\Aa B w q (Ad b3 (FL c a cap ua f) 29::Ad r (FL c a cap ua f++[ptr db 0,.pointer none,.slice none 0 0,.slice none 0 0]) 56::R)) (λj=>!([12].contains j)) ?_);replace b:=b.drew;generalize w.drew=w at b ⊢;have C:∃q R,Le I q/\Aa B w q (Ad b3 (FL c a cap ua f) 29::Ad r (FL c a cap ua f++[ptr db 0,.pointer none,.slice none 0 0,.slice none 0 0]) 56::R):=⟨_,_,Le.refl _,(b.x [0,4])⟩
 refine .tp 0 O (λw=>(.mo O)) ?_;refine .tk 1 O C (λw ⟨_,R,_,b⟩=>.D6 (.of O) b (k:=0) O GU F4 O (λ_ _ h=>by rw[Yl];exact h)) ?_;refine .tp 2 O (λw=>(.mo O)) (.tp 3 O (λw=>(.no O)) ?_);refine .tp 4 O (λw=>(.fo 28 O Ou O O Lm O)) (.tk 5 O C (λw ⟨q,R,aj,b⟩=>((.lo O b (k:=1) O isAgg52 O))) (.b1 6 O (.call func14 O (AM O (AM O (AM O X3))) O (Sw c hc.fits hc.fit g hg a cap ua f (EU n) db kb sv (.slice none 0 0) (e_ n) (Y5 _) (.inr O) 0 hZ hV ⟨none,0,O,Y9 _,RS.nil _ _⟩ hc.BT hc.us _ (b.x [3,3,3])) ?_)));rintro _ w ⟨J1,pv,rfl,o,b⟩;try dsimp only[List.eraseIdx]at b
 refine .nil ?_;clear C;have C:∃q R,Le I q/\Aa B w q (Ad b3 (FL c a cap ua f) 29::Ad r (FL c a cap ua f++[ptr db 0,.pointer none,.slice none 0 0,.slice none 0 0]) 56::R):=⟨_,_,o,(b.x [1,2])⟩
 refine⟨λ_ _=>C,?_⟩;refine .tp 7 O (λw=>(.mo O)) (.tp 8 O (λw=>(.extract (.of O) O)) (.tp 9 O (λw=>(.extract (.of O) O)) (.tp 10 O (λw=>(.no O)) ?_)));refine .tp 11 O (λw=>(.fo 29 O Ou O O IU O)) (.b1 12 O ?_)
 first|refine .s1 b (k:=0) O O O O IU lz ?_|refine .s1 b (k:=1) O O O O IU lz ?_|refine .s1 b (k:=2) O O O O IU lz ?_
 intro w b;try dsimp only[List.set]at b
 refine .nil ?_;refine And.intro (by intro h;cases h) ?_;refine .tp 13 O (λw=>(.ao O)) (.dn ?_);refine gH 1 (.val (.neq (.of O) (.of O)) O ?_);refine gN 0 ?_ ?_<;>intro K
 ·refine gG 3 ?_;have e9:Ed c g n l=([],(CH c (EU n) 0).1):=Y7 (oh K);rw[e9];exact⟨J1,none,0,O,o,Y9 _,RS.nil _ _,b.s⟩
 refine gG 0 ?_;replace b:=b;try dsimp only[List.eraseIdx]at b
 obtain⟨⟨o9,aw⟩,b⟩:=Aa.unbox b;cases o9 with
 | none=>exact Aw aw.1 (λh=>h (oh K))
 | some x0 =>
 obtain⟨aa,rfl,an,ba,bi⟩:=aw;rw[aa];refine gG 4 ?_;have a8:Ek (⟨(CH c (EU n) 0).2,[],[]⟩:H0) 8160:=⟨bi,⟨Y5 _,λt ht=>by simp at ht⟩,⟨Y5 _,λt ht=>by simp at ht⟩,by show(CH c (EU n) 0).2.Z.D.length<=0;rw[yT];exact Y9 _⟩
 have al:=((((((((((b.pick 3 O).pick 3 O).pick 3 O).pick 3 O).pick 4 O).drop (k:=5) O).Al 41 1).Al 9 1).pick 2 O).Al 9 1);clear b;refine .lk [2,8,9,35,36] (σ:=Nat×Im×Sp×H0×Oa×Nat×Oa×Nat×Va×List Lu) (λ(i,J,x,Q,E,F,fa,T,ov,m) _m=>(10,ov)::(37,Ab (i:Nat))::_m) (λ(i,J,x,Q,E,F,fa,T,ov,m) w=>i<=l.length/\Le J1 J/\Ek Q (8160+256*i)/\Q.A6.length<=T/\Bz J g x Q.s/\E4 c g (l.drop i) Q m=E4 c g l (⟨(CH c (EU n) 0).2,[],[]⟩:H0) []/\m.length<=i/\Aa B w J (Ao 9 1 ov m.length (m.map S)::D0 c ⟨r,a,cap,ua,f,x.k.db,.slice E Q.told.length F,.slice fa Q.A6.length T,x⟩::Ao 9 1 (.slice E Q.told.length F) Q.told.length (Q.told.map S)::Ao 41 1 (.slice fa Q.A6.length T) Q.A6.length ((Q.A6).map λd=>Ba (d:Nat))::PY g x Q.s N)) (λ(i,J,x,Q,E,F,fa,T,ov,m)=>l.length-i) (0,J1,x0,(⟨(CH c (EU n) 0).2,[],[]⟩:H0),none,0,none,0,.slice none 0 0,[]) ⟨Y5 _,Le.refl _,a8,Y9 _,ba,O,Y9 _,by rw[an];exact al⟩ ?_;rintro⟨i,J,x,Q,E,F,fa,T,ov,m⟩ w ⟨hi,U,hQ,bf,hX,ac,cc,b⟩;clear al;refine gN 1 ?_ ?_<;>intro bs
 ·refine gG 0 ?_;obtain⟨e,he⟩:∃e,l[i]?=some e:=⟨_,Y2 om⟩
  have aq:=bg e (Y8 he);have ap:l.drop i=e::l.drop (i+1):=by rw[Yq (Y1.1 he).1,(Y1.1 he).2]
  obtain⟨pe,da,dc,la,lc,ka,kc,rfl,bk,hE⟩:=(hL.mono (o.trans U)).get he;have Y:8160+256*i<=800000:=om
  have b6:=hQ.told.1;have b5:=hQ.A6.1;refine gG 0 (.val (.ii O O om om Qw cH) O ?_);try rw[Yh]
  refine .val (.as (.D7 (.of O) b bk isAgg46 cH O (λ_ _ h=>h)) O) O (gH 4 ?_);intro ah w b;refine gF 0 (Xqg c g hg r a cap ua f E F fa T x Q e da dc la lc ka kc aq (hQ.up Y) om om bf (hc.mono (o.trans U)) hE hX) ?_;rintro v w ⟨P,G,be⟩;obtain⟨rfl,ar⟩:v=.tuple #[S (Xa c g Q e).1.1,Ab ((Xa c g Q e).1.2:Nat)]/\(((Xa c g Q e).1.2≠0/\Aa B w P (Ad ah (tX e da dc la lc ka kc) 46::Ao 9 1 ov m.length (m.map S)::N))\/((Xa c g Q e).1.2=0/\∃A u p,(Xa c g Q e).2.A6.length<=p/\A.k.db=x.k.db/\(e.act=9->A2 (Ht c Q e.Bf).2 8160)/\Bz P g A (Xa c g Q e).2.s/\Aa B w P (D0 c ⟨r,a,cap,ua,f,A.k.db,.slice E Q.told.length F,.slice u (Xa c g Q e).2.A6.length p,A⟩::Ao 9 1 (.slice E Q.told.length F) Q.told.length (Q.told.map S)::Ao 41 1 (.slice u (Xa c g Q e).2.A6.length p) (Xa c g Q e).2.A6.length (((Xa c g Q e).2.A6).map λd=>Ba (d:Nat))::Ua g A (Xa c g Q e).2.s++(Ad ah (tX e da dc la lc ka kc) 46::Ao 9 1 ov m.length (m.map S)::N)))):=by
   rcases be with⟨h1,h2,h3⟩|⟨h1,h2,A,u,p,h3⟩
   ·exact⟨h2,.inl ⟨h1,h3⟩⟩
   ·exact⟨by rw[h1];exact h2,.inr ⟨h1,A,u,p,h3⟩⟩
  refine gN 7 ?_ ?_<;>intro L
  ·refine gG 6 ?_;have M:(Xa c g Q e).1.2≠0:=by have h9:=L;omega
   rcases ar with⟨_,b⟩|⟨h9,_⟩
   ·obtain⟨oa,oc,rfl,ab,_⟩:=b.vS 1;have X:=b.fV 1;clear b;obtain⟨J8,V,W,b⟩:=X;try dsimp only[List.eraseIdx]at b
    have e9:Ed c g n l=(m,(Xa c g Q e).1.2):=by
     unfold Ed;rw[Y3 (λh=>h aa),<-ac,ap,E4,Y7 M]
    rw[e9];exact⟨J8,oa,oc,O,((o.trans U).trans G).trans V,ab,W,b.s⟩
   ·exact Aw h9 M
  refine gG 0 ?_;obtain⟨au,A,u,p,av,cf,a7,bb,b⟩:=ar.resolve_left (λh=>h.1 (oh L));have cd:=Xiu (c:=c) (g:=g) (e:=e) (hQ.up Y);have b9:=Xoq (Xa c g Q e).1.1;refine gH 3 ?_;intro bx w b;refine .append (bytes:=16) b (.of O) (.of O) (k:=8) O ET R6 O O O O O O O ⟨om,by unfold maxLen;omega⟩ O ?_;intro ch w b;try dsimp only[List.set]at b
  obtain⟨bw,bz,rfl,ay,_⟩:=b.vS 8;refine gG 1 (.dw (λw=>∃q R,Le P q/\Aa B w q (D0 c ⟨r,a,cap,ua,f,A.k.db,.slice E Q.told.length F,.slice u (Xa c g Q e).2.A6.length p,A⟩::R)) (λj=>!([10].contains j)) ?_);replace b:=b.drew;generalize w.drew=w at b ⊢;have C:∃q R,Le P q/\Aa B w q (D0 c ⟨r,a,cap,ua,f,A.k.db,.slice E Q.told.length F,.slice u (Xa c g Q e).2.A6.length p,A⟩::R):=⟨_,_,Le.refl _,(b.x [0])⟩
  refine .tp 0 O (λw=>(.mo O)) (.tp 1 O (λw=>(.mo O)) (.tp 2 O (λw=>(.no O)) ?_));refine .tp 3 O (λw=>(.fo 30 O Ou O O G2 O)) (.tk 4 O C (λw ⟨q,R,aj,b⟩=>(.lo O b (k:=0) O Ji O)) (.tp 5 O (λw=>(.mo O)) ?_));refine .b1 6 O (.call func16 O (AM O X3) O (Xyg (Xa c g Q e).1.1 om (hZ.mono (((o.trans U).trans G))).kn (hZ.mono (((o.trans U).trans G))).pre _ b) ?_);rintro _ w ⟨Jf,na,nc,rfl,H,cb,a9,b⟩;refine .nil ?_;clear C;have C:∃q R,Le P q/\Aa B w q (D0 c ⟨r,a,cap,ua,f,A.k.db,.slice E Q.told.length F,.slice u (Xa c g Q e).2.A6.length p,A⟩::R):=⟨_,_,H,(b.x [0])⟩
  refine⟨λ_ _=>C,?_⟩;refine .b1 7 O ?_;refine .Bk (bytes:=16) b (.of O) (.of O) a9 (k:=1) O ET (i:=t9) kr O O O O (by rw[Dy];intro v hv;obtain⟨d,_,rfl⟩:=Dj.1 hv;rfl) ⟨om,by unfold maxLen;omega⟩ O ?_;intro ci w b;try dsimp only[List.set]at b
  obtain⟨bo,bp,rfl,bu,_⟩:=b.vS 1;refine .nil ?_;clear C;have C:∃q R,Le P q/\Aa B w q (D0 c ⟨r,a,cap,ua,f,A.k.db,.slice E Q.told.length F,.slice u (Xa c g Q e).2.A6.length p,A⟩::R):=⟨_,_,H,(b.x [0])⟩
  refine⟨λ_ _=>C,?_⟩;refine .tp 8 O (λw=>(.no O)) (.tp 9 O (λw=>(.fo 30 O Ou O O G2 O)) (.b1 10 O ?_))
  first|refine .s1 b (k:=0) O O O O G2 lz ?_|refine .s1 b (k:=1) O O O O G2 lz ?_|refine .s1 b (k:=2) O O O O G2 lz ?_|refine .s1 b (k:=3) O O O O G2 lz ?_|refine .s1 b (k:=4) O O O O G2 lz ?_|refine .s1 b (k:=5) O O O O G2 lz ?_|refine .s1 b (k:=6) O O O O G2 lz ?_|refine .s1 b (k:=7) O O O O G2 lz ?_|refine .s1 b (k:=8) O O O O G2 lz ?_
  intro w b;try dsimp only[List.set]at b
  refine .nil ?_;refine And.intro (by intro h;cases h) ?_;refine .dn (gG 2 ?_);have bd:=Xfg c g Q e;have bh:=RR (c:=c) (g:=g) hQ aq om Y a7;rw[<-Y0,<-Yn,<-bd]at b;refine Br (i+1,Jf,A,({ (Xa c g Q e).2 with told:=(Xa c g Q e).2.told++B_ (Xa c g Q e).1.1 }:H0),bo,bp,u,p,_,m++[(Xa c g Q e).1.1]) O ⟨om,U.trans (G.trans H),?_,av,bb.mono H,?_,by rw[Y0,LS];omega,?_⟩
  ·rw[show 8160+256*(i+1)=8160+256*i+256 by omega];exact bh
  ·rw[<-ac,ap,E4,Y3 (λh=>h au)]
  ·(try dsimp only)
   rw[show(m++[(Xa c g Q e).1.1]).length=m.length+1 from Y0,Yn];exact(((((((((b.pick 6 O).pick 6 O).pick 6 O).pick 6 O).pick 6 O).pick 6 O).pick 6 O).pick 8 O).drop (k:=8) O)
 refine gG 4 ?_;obtain⟨oa,oc,rfl,ab,_⟩:=b.vS 0;have X:=b.fV 0;clear b;obtain⟨J8,V,W,b⟩:=X;try dsimp only[List.eraseIdx]at b
 have e9:Ed c g n l=(m,0):=by
  unfold Ed;rw[Y3 (λh=>h aa),<-ac,Yo om];rfl
 rw[e9];exact⟨J8,oa,oc,O,(o.trans U).trans V,ab,W,b.s⟩
def V7(y:Pr):Bool:=decide ((80:Int)<(y.1.length:Int))||decide ((80:Int)<(y.2.length:Int))
def lj(u:Us):Bool:=(decide ((20:Int)<(u.attrs.length:Int))||decide ((80:Int)<(u.name.length:Int)))||decide ((80:Int)<(u.pw.length:Int))
def dm(u:Us):Bool:=!lj u&&u.attrs.all λy=>!V7 y
def RU(l:List Us):Bool:=l.all dm&&decide ((l.length:Int)<=20)
def Mc(c:Cf):Bool:=T9 c.BT&&RU c.us
theorem mG{cells:α->Lv}{s:Nat}(e:∀x,(cells x).length=s){l:List α}(d:RS I a s l.length (X2 cells l)){x:α}(hx:l[i]?=some x):∃q,a=some q/\At I (q.add (i*s)) (cells x):=by
 obtain⟨q,rfl,f⟩:=d.2 (oh ((Y1.1 hx).1));refine⟨q,O,?_⟩;have b:=nR (f.add (i*s)) s;rw[X2,aZ (l.map cells) (λc h=>by obtain⟨y,_,rfl⟩:=Dj.1 h;exact e y) i (cells x) (by rw[Yu,hx];rfl)]at b;exact b
theorem WM(a:Oa)(cap:Nat)(l:List Us)(L:l.length<=9223372036854775807)(E:∀u∈l,u.fits)(H:BM I a l)(N:La)(b:Aa B w I N):
  Ce B I N 27 [.slice a l.length cap] w (.bool (RU l)):=by
 refine gG 2 (.lk [0] (σ:=Nat) (λi _m=>(3,Ab (i:Nat))::_m) (λi w=>i<=l.length/\(∀(j:Nat) u,j<i->l[j]?=some u->dm u=true)/\Aa B w I N) (λi=>l.length-i) 0 ⟨Y5 _,λ_ _ h=>Aw h om,b⟩ ?_);rintro i w ⟨hi,o,b⟩;refine gN 4 ?_ ?_<;>intro J
 ·obtain⟨u,m⟩:∃u,l[i]?=some u:=⟨_,Y2 om⟩
  obtain⟨p,Q,R,x,hx,M,v⟩:=H i u m;subst x;refine gH 14 ?_;refine gM 11 ?_ ?_<;>intro c A
  ·refine gG 1 (⟨Ye Value.bool ?_,b⟩)
   have:l.all dm=false:=kR.2 ⟨u,Y8 m,by
    rw[dm,show lj u=true from c,vk,zH];decide⟩
   rw[RU,this];rfl
  refine gG 1 (.lk [0,3] (σ:=Nat) (λk _m=>(4,Ab (k:Nat))::_m) (λk w=>k<=u.attrs.length/\(∀(j:Nat) y,j<k->u.attrs[j]?=some y->V7 y=false)/\Aa B w I N) (λk=>u.attrs.length-k) 0 ⟨Y5 _,λ_ _ h=>Aw h om,b⟩ ?_);rintro k w ⟨P,r,b⟩;refine gN 8 ?_ ?_<;>intro C
  ·obtain⟨y,g⟩:∃y,u.attrs[k]?=some y:=⟨_,Y2 om⟩
   obtain⟨q,z,F⟩:=mG (cells:=X8) (λ_=>rfl) v g;subst z;refine gH 14 ?_;refine gM 10 ?_ ?_<;>intro d D
   ·refine gG 1 (⟨Ye Value.bool ?_,b⟩)
    have:l.all dm=false:=kR.2 ⟨u,Y8 m,by
     have:u.attrs.all (λy=>!V7 y)=false:=kR.2 ⟨y,Y8 g,by
      rw[show V7 y=true from d];decide⟩
     rw[dm,this,b_];decide⟩
    rw[RU,this];rfl
   refine gG 3 (rd (k+1) ⟨om,λj t K f=>?_,b⟩);rcases Yz j k with n|n
   ·exact r j t n f
   ·have e:j=k:=om
    subst e;rw[g]at f;cases f;exact d
  refine gG 3 (rd (i+1) ⟨om,λj t K f=>?_,b⟩);rcases Yz j i with n|n
  ·exact o j t n f
  ·have e:j=i:=om
   subst e;rw[m]at f;cases f;have G:lj u=false:=c;rw[dm,G,iT,HH,Dy];intro y F;obtain⟨q,s⟩:=GH.1 F
   have:=(Y1.1 s).1
   rw[r q y om s];rfl
 refine gG 4 (⟨Ye Value.bool ?_,b⟩)
 have:l.all dm=true:=by
  rw[Dy];intro u m;obtain⟨q,s⟩:=GH.1 m
  have:=(Y1.1 s).1
  exact o q u om s
 rw[RU,this,HH]
theorem WK(c:Cf)(a:Oa)(cap:Nat)(ua:Oa)(e:Nat)(b:c.BT.length<=cap)(g:cap<=maxLen)(h:c.us.length<=9223372036854775807)(d:∀u∈c.us,u.fits)(j:Cy I a c.BT)(i:BM I ua c.us)(N:La)(f:Aa B w I N):
  Ce B I N 12 [.agg (FL c a cap ua e).toArray] w (.bool (Mc c)):=by
 refine gH 4 ?_;intro b1 w f;refine gE 0 (cD a cap _ b g j) ?_;intro w f;refine gE 3 (WM ua _ _ h d i) ?_;intro w f;exact gG 6 ⟨O,f.s⟩
theorem Xm6(k:Int)(N:La)(a:Aa B w I N):
  Ce B I N 51 [Ab k] w (S (IX k)):=by
 refine gN 4 ?_ ?_<;>intro e
 ·refine gG 1 (⟨Ye S ?_,a⟩)
  subst_vars;rfl
 refine gN 2 ?_ ?_<;>intro f
 ·refine gG 1 (⟨Ye S ?_,a⟩)
  subst_vars;rfl
 refine gN 2 ?_ ?_<;>intro g
 ·refine gG 1 (⟨Ye S ?_,a⟩)
  subst_vars;rfl
 refine gN 2 ?_ ?_<;>intro b
 ·refine gG 1 (⟨Ye S ?_,a⟩)
  subst_vars;rfl
 refine gN 2 ?_ ?_<;>intro c
 ·refine gG 1 (⟨Ye S ?_,a⟩)
  subst_vars;rfl
 refine gN 2 ?_ ?_<;>intro d
 ·refine gG 1 (⟨Ye S ?_,a⟩)
  subst_vars;rfl
 refine gG 1 (⟨Ye S ?_,a⟩)
 (rw[IX,Y7 om])
def Ri(e:DC):Bool:=((decide ((700:Int)<(e.text.length:Int))||decide ((30:Int)<(e.AK.length:Int)))||decide ((30:Int)<(e.Au.length:Int)))||decide ((30:Int)<(e.Bf.length:Int))
def JZ(c:Cf)(l:List DC)(a:Int):Bool:=(l.all λe=>!Ri e)&&(Mc c&&decide ((l.length:Int)<=a))
structure jT(e:DC):Prop where
 text:e.text.length<=9223372036854775807
 n:e.n<=9223372036854775807
 AK:e.AK.length<=9223372036854775807
 Au:e.Au.length<=9223372036854775807
 Bf:e.Bf.length<=9223372036854775807
 small:∀d∈e.AK,d<18446744073709551616
theorem Xfh{c:Cf}{l:List DC}{a:Int}(h:JZ c l a=true)(g:∀e∈l,jT e):Mc c=true/\(l.length:Int)<=a/\∀e∈l,e.fits:=by
 unfold JZ at h;simp only[Yb,decide_eq_true_eq,Dy]at h
 refine⟨h.2.1,h.2.2,λe f=>?_⟩;have b:=h.1 e f;unfold Ri at b;simp only[iN,G3,decide_eq_false_iff_not,Int.not_lt]at b
 have d:=g e f;exact⟨om,d.n,om,om,om,d.small⟩
theorem ON:∀(l:List Sv) (r:List Sv) (i:Nat),(cW l i r).1=0->∀s∈r,s.rel.length<=8
 | _,[],_,_,s,b=>by simp at b
 | l,t::r,i,h,s,b=>by
  rw[cW]at h;split at h
  ·rename_i a;exact Aw h a
  ·rename_i a
   rcases Ys.1 b with rfl|b
   ·have a:bad l i s=0:=su a
    unfold bad at a;split at a
    ·cases a
    ·split at a
     ·cases a
     ·rename_i c
      simp only[I0,decide_eq_true_eq,not_or]at c
      omega
   ·exact ON l r (i+1) h s b
theorem ei{c:Cf}(h:Mc c=true)(a:Ge c=0):Vk c.BT c.us:=by
 unfold Ge at a;split at a
 ·rename_i e;exact Aw a e
 ·rename_i l
  split at a
  ·rename_i e;exact Aw a e
  ·rename_i k
   have f:=yQ c.us 0 [] (su k);refine⟨λs j=>ON c.BT c.BT 0 (by simpa[HC]using l) s j,λu b=>?_⟩;have g:=f u b;unfold dz at g;simp only[Yb,decide_eq_true_eq]at g
   unfold Mc RU at h;simp only[Yb,Dy]at h
   have d:=h.2.1 u b;unfold dm at d;simp only[Yb,Dy]at d
   refine⟨om,λy m=>?_⟩;have i:=d.2 y m;unfold V7 at i;simp only[iN,G3,decide_eq_false_iff_not,Int.not_lt]at i
   omega
theorem RV{l:List Sv}(h:T9 l=true):l.length<=20/\∀s∈l,s.rel.length<=20:=by
 unfold T9 at h;simp only[Yb,decide_eq_true_eq]at h
 refine⟨om,λs a=>?_⟩
 have:=Dy.1 h.1 s a
 unfold Mb at this;simp only[iN,G3,decide_eq_false_iff_not]at this
 omega
theorem WX{l:List Sv}(h:∀s∈l,s.fits):∀v∈De l,v<18446744073709551616:=λv b=>by
 obtain⟨s,a,rfl⟩:=Dj.1 b;exact(h s a).ord
theorem WW{l:List Sv}(h:∀s∈l,s.fits)(d:∀s∈l,s.rel.length<=20):∀s∈l,s.urls.length<=9223372036854775807/\s.calls.length<=9223372036854775807/\s.rel.length<=1000000:=λs a=>by
 have b:=(h s a).urls;have c:=(h s a).calls;have e:=d s a;unfold maxLen at b c;exact⟨om,om,om⟩
structure Lc(I:Im)(c:Cf)(a:Oa)(cap:Nat)(ua:Oa)(Gv:Nat):Prop where
 BT:Cy I a c.BT
 us:BM I ua c.us
 cap:c.BT.length<=cap/\cap<=maxLen
 un:c.us.length<=9223372036854775807
 S_:∀s∈c.BT,s.fits
 Ts:∀u∈c.us,u.fits
theorem Lc.mono{c:Cf}{Gv:Nat}(h:Lc I c a cap ua Gv)(b:Le I J):Lc J c a cap ua Gv:=⟨h.BT.mono b,h.us.mono b,h.cap,h.un,h.S_,h.Ts⟩
theorem RT{c:Cf}{b:Nat}(h:Lc I c a cap ua b)(d:Mc c=true):c.fits:=by
 unfold Mc at d;simp only[Yb]at d
 have e:=RV d.1;refine⟨om,WX h.S_,WW h.S_ e.2,h.un,h.Ts⟩
theorem Xon(c:Cf)(a:Oa)(cap:Nat)(ua:Oa)(b:Nat)(l:List DC)(v:Oa)(C:Nat)(g:Int)(M:l.length<=9223372036854775807)(r:∀e∈l,jT e)(k:Lc I c a cap ua b)(E:B7 I v l)(N:La)(d:Aa B w I N):
  Ce B I N 5 [.agg (FL c a cap ua b).toArray,.slice v l.length C,Ab g] w (.bool (JZ c l g)):=by
 refine gG 0 (.G7 d (.of O) O ?_);intro A w d;refine gG 2 (.lk [1,2,3] (σ:=Nat) (λi _m=>(7,Ab (i:Nat))::_m) (λi w=>i<=l.length/\(∀(j:Nat) e,j<i->l[j]?=some e->Ri e=false)/\Aa B w I (Ad A (FL c a cap ua b) 29::N)) (λi=>l.length-i) 0 ⟨Y5 _,λ_ _ h=>Aw h om,d⟩ ?_);rintro i w ⟨hi,o,d⟩;refine gN 4 ?_ ?_<;>intro y
 ·obtain⟨e,m⟩:∃e,l[i]?=some e:=⟨_,Y2 om⟩
  obtain⟨W,Q,R,U,V,ka,T,rfl,P,S⟩:=E.get m;have p:=r e (Y8 m);obtain⟨F,G,H,J,K,L⟩:=p;refine gH 14 (gH 14 ?_);refine gM 6 ?_ ?_<;>intro f z
  ·refine gG 1 ?_
   have:(l.all λe=>!Ri e)=false:=kR.2 ⟨e,Y8 m,by
    have D:Ri e=true:=f;rw[D];decide⟩
   exact⟨by rw[JZ,this];rfl,d.s⟩
  refine gG 3 (rd (i+1) ⟨om,λj t q u=>?_,d⟩);rcases Yz j i with x|x
  ·exact o j t x u
  ·have e0:j=i:=om
   subst e0;rw[m]at u;cases u;exact f
 refine gE 1 (WK c a cap ua _ k.cap.1 k.cap.2 k.un k.Ts k.BT k.us) ?_;intro w d;refine gG 9 ?_;have n:(l.all λe=>!Ri e)=true:=Dy.2 (λe m=>by
  obtain⟨j,q⟩:=GH.1 m;rw[o j e (oh ((Y1.1 q).1)) q];rfl)
 exact⟨by rw[JZ,n,HH],d.s⟩
theorem x7(s:Lu)(c:Ui)(n:Nat):EM n (s++[c])=(EM n s).bind λm=>(hx c).map λd=>16*m+d:=by
 rw[yK]
 congr 1
 funext m
 rw[EM];cases hx c with
 | none=>rfl
 | some d=>rfl
theorem Xfq{c:Ui}{r:Lu}:∀{s:Lu},Xu [45] s=c::r->c=45
 | [],h=>by simp[Xu]at h
 | x::s,h=>by
  unfold Xu at h;rw[u4]at h;split at h
  ·exact Xfq h
  ·rename_i a
   cases h
   simpa using a
theorem NA(cs s:Lu):BD cs s++Xu cs s=s:=Y5e
theorem PJ{s t:Lu}(b:s=pre k++45::t)(c:t.length=16):s.length=(pre k).length+1+16/\s.take ((pre k).length+1)=pre k++[45]/\s.drop ((pre k).length+1)=t:=by
 have e:s=(pre k++[45])++t:=by rw[b];simp
 have a:(pre k).length+1=(pre k++[45]).length:=by simp
 refine⟨by rw[b];simp[c],?_,?_⟩
 ·rw[e,a,VE]
 ·rw[e,a,kX]
theorem Xx4{s:Lu}{d:Nat}(h:Xi s=some (k,d)):∃t,s=pre k++45::t/\t.length=16/\EM 0 t=some d:=by
 unfold Xi at h;split at h
 ·cases h
 ·rename_i l
  obtain⟨x,hx,e⟩:=Gf.1 h;simp only[Prod.mk.injEq]at e
  obtain⟨i,rfl⟩:=e;have f:=uk l;rw[i]at f;unfold Oc at hx;split at hx
  ·rename_i b
   have g:=NA [45] s;cases a:Xu [45] s with
   | nil=>rw[a]at b;cases b
   | cons c r =>
    rw[a]at b hx;have j:c=45:=Xfq a;subst j;exact⟨r,by rw[<-f];rw[a]at g;exact g.symm,b,hx⟩
  ·cases hx
theorem YZ{d:Nat}{t:Lu}(c:1<=k)(e:k<=6)(g:t.length=16)(f:EM 0 t=some d):Xi (pre k++45::t)=some (k,d):=by
 unfold Xi;obtain⟨a,b⟩:=xU (p:=pre k) (r:=t) yf;rw[a,b,XN c e,Y3 om,Em,EW,Oc,Y7 g,f];rfl
theorem Zh(a:1<=k)(b:k<=6):IX (k:Int)=pre k:=by
 unfold IX;rw[Y3 om];(try rw[Yh])
theorem lU{c:Ui}(a:48<=c.toNat)(b:c.toNat<=57):hx c=some (c.toNat-48):=by
 unfold hx;rw[Y7];simp only[Yb,decide_eq_true_eq,Vz]
 exact⟨a,b⟩
theorem lT{c:Ui}(a:97<=c.toNat)(b:c.toNat<=102):hx c=some (c.toNat-87):=by
 unfold hx;rw[Y3,Y7]
 ·simp only[Yb,decide_eq_true_eq,Vz]
  exact⟨a,b⟩
 ·simp only[Yb,decide_eq_true_eq,Vz]
  intro h
  have:c.toNat<=57:=h.2
  omega
theorem rq{c:Ui}(a:¬(48<=c.toNat/\c.toNat<=57))(b:¬(97<=c.toNat/\c.toNat<=102)):hx c=none:=by
 unfold hx;rw[Y3,Y3]
 ·simp only[Yb,decide_eq_true_eq,Vz];exact b
 ·simp only[Yb,decide_eq_true_eq,Vz];exact a
theorem xC{s:Lu}(b:n<=i)(a:i<s.length):(s.drop n).take (i+1-n)=(s.drop n).take (i-n)++[at_ s (i:Int)]:=by
 have e:i+1-n=(i-n)+1:=om
 rw[e,Yv,GI,show n+(i-n)=i by omega,LA a];rfl
theorem Xm7(s:Lu)(ab:s.length<=9223372036854775000)(N:La)(m:Aa B w I N):
  Ce B I N 24 [S s] w (match Xi s with|some (k,d)=>.tuple #[Ab (k:Nat),Ba (d:Nat),.bool true]|none=>.tuple #[Ab 0,Ba 0,.bool false]):=by
 refine gG 4 (.lk [0] (σ:=Nat) (λk _m=>(5,Ab (k:Nat))::_m) (λk w=>1<=k/\k<=7/\(∀(j d:Nat),j<k->Xi s≠some (j,d))/\Aa B w I N) (λk=>7-k) 1 ⟨Y9 _,de,λj d R h=>by have:=(cL h).1;omega,m⟩ ?_);rintro k w ⟨X,Y,r,m⟩;refine gN 2 ?_ ?_<;>intro J
 ·have o:1<=k/\k<=6:=om
  have y:=Zh o.1 o.2;have aa:(pre k).length<=6:=by rw[<-y];exact yW _
  have E:(pre k++[45]).length=(pre k).length+1:=by simp
  refine gE 1 (Xm6 _) ?_;intro w m;rw[y];refine gG 5 ?_;rw[E];refine gM 12 ?_ ?_<;>intro g K
  ·refine gG 3 (rd (k+1) ⟨om,om,λj d R h=>?_,m⟩);rcases Yz j k with p|p
   ·exact r j d p h
   ·have e:k=j:=om
    subst e;obtain⟨t,H,v,u⟩:=Xx4 h;obtain⟨g1,g2,z⟩:=PJ H v
    first
    | (have l:=g;simp[g1,g2]at l;done)
    | (have l:=g;simp[g1,g2]at l;omega)
    | (have l:EM 0 ((s.drop ((pre k).length+1)).take (s.length-((pre k).length+1)))=some d:=(by(rw[z,Yk om];exact u));rw[show i=s.length by omega]at f;rw[f]at l;simp[n]at l)
  obtain⟨Z,F⟩:s.length=(pre k).length+1+16/\s.take ((pre k).length+1)=pre k++[45]:=by
   have h:=g;simp at h
   refine⟨om,?_⟩;simpa using h.2
  refine gG 4 ?_;refine .lk [0,5] (σ:=Nat×Nat×Bool) (λ(i,d,b) _m=>(8,Ba (d:Nat))::(9,.bool b)::(10,Ab (i:Nat))::_m) (λ(i,d,b) w=>((pre k).length+1)<=i/\i<=s.length/\d<16^(i-((pre k).length+1))/\EM 0 ((s.drop ((pre k).length+1)).take (i-((pre k).length+1)))=(if b=true then some d else none)/\Aa B w I N) (λ(i,d,b)=>s.length-i) (((pre k).length+1),0,true) ⟨Y9 _,om,by exact Nat.pow_pos de,by rw[o3];rfl,m⟩ ?_;rintro⟨i,d,b⟩ w ⟨q,hi,C,f,m⟩;refine gN 4 ?_ ?_<;>intro L
  ·have T:d<1152921504606846976:=iM C (Yr (VA de (show i-((pre k).length+1)<=15 by omega)) de);refine gM 11 ?_ ?_<;>intro c M
   ·refine gH 1 (.val (.rF (.of O) (.of O) (by rw[IntKind.wrap_u64];omega)) O (.vm O O ?_));refine .val (.ZY (.of O) (.of O) (by rw[IntKind.wrap_u8];simp at c;omega)) O ?_;refine .val (.q8 (.of O) BW Qx (by rw[IntKind.wrap_u64];omega)) O (.val (.kZ (.of O) (.of O) (by rw[IntKind.wrap_u64];omega)) O ?_);rw[show(16*(d:Int)+(((at_ s (i:Int)).toNat:Int)-48))=((16*d+((at_ s (i:Int)).toNat-48):Nat):Int)by simp at c;omega];refine gG 4 (rd (i+1,16*d+((at_ s (i:Int)).toNat-48),b) ⟨om,om,by exact iM (show 16*d+((at_ s (i:Int)).toNat-48)<16*16^(i-((pre k).length+1))by have V:(at_ s (i:Int)).toNat<=57:=(by simp at c;omega);omega) (by rw[show i+1-((pre k).length+1)=(i-((pre k).length+1))+1 by omega,LX];omega),?_,m⟩);rw[xC q om,x7,f,lU (by simp at c;omega) (by simp at c;omega)];cases b with
     | true=>simp
     | false=>simp
   refine gM 7 ?_ ?_<;>intro a P
   ·refine gH 1 (.val (.rF (.of O) (.of O) (by rw[IntKind.wrap_u64];omega)) O (.vm O O ?_));refine .val (.ZY (.of O) (.of O) (by rw[IntKind.wrap_u8];simp at a;omega)) O ?_;refine .val (.q8 (.of O) BW Qx (by rw[IntKind.wrap_u64];omega)) O (.val (.kZ (.of O) (.of O) (by rw[IntKind.wrap_u64];omega)) O (.val (.kZ (.of O) (.of O) (by rw[IntKind.wrap_u64];omega)) O ?_));rw[show(16*(d:Int)+(((at_ s (i:Int)).toNat:Int)-97)+10)=((16*d+((at_ s (i:Int)).toNat-97)+10:Nat):Int)by simp at a;omega];refine gG 4 ?_;refine rd (i+1,16*d+((at_ s (i:Int)).toNat-97)+10,b) ⟨om,om,by exact iM (show 16*d+((at_ s (i:Int)).toNat-97)+10<16*16^(i-((pre k).length+1))by have V:(at_ s (i:Int)).toNat<=102:=(by simp at a;omega);have h8:97<=(at_ s (i:Int)).toNat:=(by simp at a;omega);omega) (by rw[show i+1-((pre k).length+1)=(i-((pre k).length+1))+1 by omega,LX];omega),?_,m⟩;rw[xC q om,x7,f,lT (by simp at a;omega) (by simp at a;omega)];cases b with
     | true=>simp;omega
     | false=>simp
   refine gG 4 (rd (i+1,d,false) ⟨om,om,by exact iM (show d<16*16^(i-((pre k).length+1))by omega) (by rw[show i+1-((pre k).length+1)=(i-((pre k).length+1))+1 by omega,LX];omega),?_,m⟩);rw[xC q om,x7,f,rq (λh=>by have p:=h.1;have U:=h.2;simp at c;omega) (λh=>by have p:=h.1;have U:=h.2;simp at a;omega)];cases b<;>simp
  refine gM 1 ?_ ?_<;>intro n Q
  ·refine gG 5 ?_;have G:s=pre k++45::s.drop ((pre k).length+1):=by
    have h:=FA ((pre k).length+1) s;rw[F,Yg]at h;exact h.symm
   have D:i=s.length:=om
   have W:EM 0 (s.drop ((pre k).length+1))=some d:=by
    rw[D,Yk (by rw[Y6];omega),n]at f;exact f
   have A:Xi s=some (k,d):=by
    rw[G];exact YZ o.1 o.2 (by rw[Y6];omega) W
   rw[A];exact⟨O,m⟩
  refine gG 3 (rd (k+1) ⟨om,om,λj d R h=>?_,m⟩);rcases Yz j k with p|p
  ·exact r j d p h
  ·have e:k=j:=om
   subst e;obtain⟨t,H,v,u⟩:=Xx4 h;obtain⟨g1,g2,z⟩:=PJ H v
   first
   | (have l:=g;simp[g1,g2]at l;done)
   | (have l:=g;simp[g1,g2]at l;omega)
   | (have l:EM 0 ((s.drop ((pre k).length+1)).take (s.length-((pre k).length+1)))=some d:=(by(rw[z,Yk om];exact u));rw[show i=s.length by omega]at f;rw[f]at l;simp[n]at l)
 refine gG 3 ?_;have A:Xi s=none:=by
  cases h:Xi s with
  | none=>rfl
  | some x =>
   obtain⟨j,d⟩:=x
   have:=cL h
   exact Aw h (r j d om)
 rw[A];exact⟨O,m⟩
def SY:List Nat:=[18,19,20,21,22,23]
def Tp(s:Lu)(j:Nat):Nat:=(SY.take j).foldl (E5 s) 0
theorem mO{j:Nat}(h:j<6):SY[j]?=some (18+j):=by
 match j,h with
 | 0,_=>rfl
 | 1,_=>rfl
 | 2,_=>rfl
 | 3,_=>rfl
 | 4,_=>rfl
 | 5,_=>rfl
theorem xD{s:Lu}{j:Nat}(h:j<6):Tp s (j+1)=E5 s (Tp s j) (18+j):=by
 unfold Tp;rw[Yv,mO h,DO,K9];rfl
theorem aI(s:Lu):Tp s 6=BO s:=Xy6 s (L:=SY) de de de
theorem Xy4{s:Lu}:∀(k j:Nat),j+k=6->(j=6\/s.length<18+j)->Tp s j=BO s
 | 0,j,h,_=>by
  have:j=6:=om
  subst this;exact aI s
 | k+1,j,h,a=>by
  rw[<-Xy4 k (j+1) om (.inr om),xD om,E5,Y3 (λh=>by omega)]
abbrev se(s:Lu):Va:=.tuple #[Ab (((Xi s).getD (0,0)).1:Nat),Ba (((Xi s).getD (0,0)).2:Nat),.bool (Xi s).isSome]
theorem MT(s:Lu)(c:s.length<=9223372036854775000)(N:La)(a:Aa B w I N):Calls prog 24 #[S s] w (AY λv w'=>v=se s/\Aa B w' I N) :=
 (Xm7 s c N a).mono λe w' ⟨v,b,d,a⟩=>⟨v,b,by rw[d];unfold se;cases Xi s<;>rfl,a⟩
theorem Xtw(s:Lu)(H:s.length<=100000)(N:La)(c:Aa B w I N):
  Cz 10 [S s] w λv w'=>Aa B w' I (Ao 9 1 v (B_ s).length ((B_ s).map S)::N):=by
 refine gG 3 ?_;replace c:=c.Al 9 1;refine .lk [0] (σ:=Nat×Va×List Lu) (λ(at_,e,a) _m=>(3,e)::(4,Ab (at_:Nat))::_m) (λ(at_,e,a) w=>at_<=s.length/\a++B_ (s.drop at_)=B_ s/\Aa B w I (Ao 9 1 e a.length (a.map S)::N)) (λ(at_,e,a)=>s.length-at_) (0,.slice none 0 0,[]) ⟨Y5 _,O,c⟩ ?_;rintro⟨at_,e,a⟩ w ⟨E,b,c⟩;refine gN 4 ?_ ?_<;>intro u
 ·refine gG 2 (.lk [0,3,4] (σ:=Nat×Nat) (λ(j,n) _m=>(5,Ab (n:Nat))::(6,Ab ((18+j:Nat):Int))::_m) (λ(j,n) w=>j<=6/\n=Tp (s.drop at_) j/\Aa B w I (Ao 9 1 e a.length (a.map S)::N)) (λ(j,n)=>6-j) (0,0) ⟨Y5 _,O,c⟩ ?_);rintro⟨j,n⟩ w ⟨G,A,c⟩;refine gM 10 ?_ ?_<;>intro f x
  ·have g:j<6:=om
   refine gH 5 (.val (.KG (l:=s) (i:=(at_:Int)) (j:=((at_+(18+j):Nat):Int)) (.of O) (.of O) (.of O) om om om Bb) O ?_);rw[show(s.drop (at_:Int).toNat).take (((at_+(18+j):Nat):Int).toNat-(at_:Int).toNat)=(s.drop at_).take (18+j)by(try rw[Yh]);rw[Yh,kJ]];refine gE 0 (MT _ (by rw[Yj];omega)) ?_;intro w c;refine gM 8 ?_ ?_<;>intro d y
   ·refine gG 5 (rd (j+1,18+j) ⟨om,?_,c⟩);rw[xD g,E5,Y7 ⟨by rw[Y6];omega,d⟩]
   refine gG 3 (rd (j+1,n) ⟨om,?_,c⟩);rw[xD g,E5,Y3 (λh=>by rw[h.2]at d;cases d)];exact A
  have r:n=BO (s.drop at_):=by
   rw[A];refine Xy4 (6-j) j om ?_;rw[Y6];rcases Yz j 6 with D|D
   ·refine .inr ?_;have h:=f;simp only[iI,decide_eq_false_iff_not]at h
    omega
   ·exact .inl om
  have q:=cT (s.drop at_);rw[Y6]at q;have F:=gA _ s (Y9 _);have t:=Ye List.length b;rw[Y0]at t;refine gN 2 ?_ ?_<;>intro z
  ·refine gH 6 (.val (.KG (l:=s) (i:=(at_:Int)) (j:=((at_+n:Nat):Int)) (.of O) (.of O) (.of O) om om om Bb) O ?_);rw[show(s.drop (at_:Int).toNat).take (((at_+n:Nat):Int).toNat-(at_:Int).toNat)=(s.drop at_).take n by(try rw[Yh]);rw[Yh,kJ]];refine gG 8 ?_;intro C m o k w c;refine⟨(at_+n,.slice m (a.length+1) o,a++[(s.drop at_).take n]),⟨O,by show some (Value.int IntKind.i64 _)=some (Value.int IntKind.i64 _);rw[show(max 1 (n:Int))=(n:Int)by omega];rfl,O,trivial⟩,⟨om,?_,?_⟩,od⟩
   ·(try dsimp only)
    rw[<-b,nI (s:=s.drop at_) om,<-r,JU,Yg];rfl
   ·(try dsimp only)
    rw[Y0,Yn];exact c
  refine gG 5 ?_;refine⟨(at_+1,e,a),⟨O,by show some (Value.int IntKind.i64 _)=some (Value.int IntKind.i64 _);rw[show(max 1 (n:Int))=1 by omega];rfl,O,trivial⟩,⟨om,?_,c⟩,od⟩;rw[<-b,nH (s:=s.drop at_) om,JU]
 refine gG 2 ?_;have p:at_=s.length:=om
 subst p;rw[VC,nG,Yx]at b;subst b;exact c
theorem Xm5(s:Lu)(i:s.length<=100000)(N:La)(a:Aa B w I N):Calls prog 10 #[S s] w (AY λv w'=>∃J d f,v=.slice d (B_ s).length f/\Le I J/\(B_ s).length<=f/\RS J d 1 (B_ s).length ((B_ s).map S)/\Aa B w' J N) :=
 (Xtw s i N a).mono λe w' ⟨v,h,a⟩=>by
  obtain⟨ka,j,rfl,c,_⟩:=a.vS 0;obtain⟨J,g,b,a⟩:=a.fV 0;exact⟨_,h,J,ka,j,O,g,c,b,a⟩
abbrev Z5(s:Lu):Lv:=[S s]
theorem Zz(l:List Lu):X2 Z5 l=l.map S:=by
 induction l with
 | nil=>rfl
 | cons x l a=>rw[Yw,<-a];rfl
theorem Xyi(a:Oa)(c:Nat)(l:List Lu)(s:l.length<=100000)(p:Lu)(N:La)(o:∀w,Aa B w I N->H9 w Z5 1 a l)(f:Aa B w I N):
  Ce B I N 17 [.slice a l.length c,S p] w (Ab (Ig p l 0)):=by
 refine gG 4 (.lk [0,1,7] (σ:=Nat) (λi _m=>(8,Ab (i:Nat))::_m) (λi w=>i<=l.length/\(∀(j:Nat) x,j<i->l[j]?=some x->p≠x)/\Aa B w I N) (λi=>l.length-i) 0 ⟨Y5 _,λ_ _ h=>Aw h om,f⟩ ?_);rintro i w ⟨hi,d,f⟩;refine gN 1 ?_ ?_<;>intro r
 ·obtain⟨x,hx⟩:∃x,l[i]?=some x:=⟨_,Y2 om⟩
  obtain⟨q,rfl,g⟩:=o _ f i x hx;refine gH 6 (.val (.ld1 (.of O) (g 0 _ O) Bq) O ?_);refine gM 1 ?_ ?_<;>intro b n
  ·refine gG 2 ?_;have e:p=x:=su b
   subst e;exact⟨by rw[Xw6 d hx],f⟩
  refine gG 2 (rd (i+1) ⟨om,λj y t k=>?_,f⟩);rcases Yz j i with m|m
  ·exact d j y m k
  ·have e:j=i:=om
   subst e;rw[hx]at k;cases k;simpa using b
 exact gG 1 ⟨by rw[Xpb (λj x hx=>d j x (oh ((Y1.1 hx).1)) hx)],f⟩
theorem XD(p:Lu):∀(l:List Lu) (i:Nat),Ig p l i=if p∈l then((l.idxOf p+i:Nat):Int)else -1
 | [],i=>by simp[Ig]
 | x::l,i=>by
  rw[Ig,XD p l (i+1)]
  by_cases h:p=x
  ·subst h;simp
  ·rw[Y3 h]
   by_cases a:p∈l
   ·rw[Y7 a,Y7 (Q8 _ a),List.idxOf_cons,show(x==p)=false from beq_eq_false_iff_ne.2 (λe=>h e.symm)];simp only[cond_false]
    congr 1;omega
   ·rw[Y3 a,Y3 (by simp[h,a])]
theorem Xyh(a:Oa)(c:Nat)(l:List Lu)(d:l.length<=100000)(p:Lu)(N:La)(f:∀w,Aa B w I N->H9 w Z5 1 a l)(b:Aa B w I N):
  Calls prog 17 #[.slice a l.length c,S p] w (AY λv w'=>v=Ab (if p∈l then((l.idxOf p:Nat):Int)else -1)/\Aa B w' I N) :=
 (Xyi a c l d p N f b).mono λe w' ⟨v,g,h,b⟩=>⟨v,g,by rw[h,XD];rfl,b⟩
theorem Xup(s v u x:Lu)(g:s.length<=100000)(hx:(Xi x).isSome)(e:s=v++(x++u))(h:∀j,j<v.length->BO (s.drop j)=0)(b:AJ I)(N:La)(a:Aa B w I N):
  Calls prog 18 #[S s,S x] w (AY λr w'=>r=.tuple #[S v,S u,.bool true]/\Aa B w' I N):=by
 obtain⟨m,f⟩:=b.max B w N a;have hi:=RB hx e h
 refine(strings_Cut ⟨s.toArray⟩ ⟨x.toArray⟩ m w (by show s.length<_;omega) f).mono λr w' d=>?_
 obtain⟨rfl,k,rfl⟩:=d;refine⟨_,O,?_,jI a k⟩;have c:Go.Lib.cut s x=(v,u,true):=by
  unfold Go.Lib.cut;rw[hi,Y7 om];(try rw[Yh]);rw[e,VE,<-JU,kX,kX]
 show Value.tuple #[.string ⟨(Go.Lib.cut s x).1.toArray⟩,.string ⟨(Go.Lib.cut s x).2.1.toArray⟩,.bool (Go.Lib.cut s x).2.2]=_
 rw[c]
theorem fB{x:Lu}(hx:(Xi x).isSome):IX (((Xi x).getD (0,0)).1:Nat)=tag x:=by
 obtain⟨⟨k,d⟩,a⟩:=qJ.1 hx;obtain⟨_,_,_,_,b,c⟩:=Sc.shape a;unfold IX tag;rw[a];show(if((k:Nat):Int)<1\/6<((k:Nat):Int)then[]else pre ((k:Nat):Int).toNat)=pre k
 rw[Y3 om];(try rw[Yh])
theorem fX{x:Lu}(hx:(Xi x).isSome):(tag x).length<=6:=by
 obtain⟨⟨k,d⟩,a⟩:=qJ.1 hx;obtain⟨_,_,_,_,c,b⟩:=Sc.shape a;unfold tag;rw[a];exact Xxa b
theorem Xes(x:Lu)(hx:(Xi x).isSome)(b:AR I)(N:La)(a:Aa B w I N):Calls prog 21 #[Ab (((Xi x).getD (0,0)).1:Nat)] w (AY λv w'=>v=S (tag x)/\Aa B w' I N) :=
 (wx (((Xi x).getD (0,0)).1:Nat) b N a).mono λe w' ⟨v,c,d,a⟩=>⟨v,c,by rw[d,fB hx],a⟩
theorem Ux(l:List Lu)(la:Oa)(lc:Nat)(aw:l.length<=1000)(V:∀x∈l,x.length<=1000)(z:AJ I)(F:AR I)(hT:RS I la 1 l.length (l.map S))(N:La)(c:Aa B w I N):
  Cz 9 [.slice la l.length lc] w λv w'=>Aa B w' I (Ao 9 1 v (Vt [] l).length ((Vt [] l).map S)::N):=by
 refine gG 6 ?_;replace c:=(c.Al 9 1).Al 9 1;refine .lk [17,18] (σ:=List Lu×Va×Va×List Lu×Nat) (λ(a,o,E,b,i) _m=>(3,o)::(4,E)::(19,Ab (i:Nat))::_m) (λ(a,o,E,b,i) w=>i<=l.length/\b++Vt a (l.drop i)=Vt [] l/\b.length=i/\a.length<=64*i/\Aa B w I (Ao 9 1 o a.length (a.map S)::Ao 9 1 E b.length (b.map S)::N)) (λ(a,o,E,b,i)=>l.length-i) ([],.slice none 0 0,.slice none 0 0,[],0) ⟨Y5 _,O,O,Y5 _,c⟩ ?_;rintro⟨a,o,E,b,i⟩ w ⟨hi,g,ay,ai,c⟩;refine gN 1 ?_ ?_<;>intro ae
 ·obtain⟨q,rfl,hq⟩:=hT.2 om;obtain⟨s0,C⟩:∃s0,l[i]?=some s0:=⟨_,Y2 om⟩
  have Z:((l.map S).drop ((i:Int).toNat*1))[0]?=some (S s0):=by rw[GI];(try rw[Yh]);rw[Ca,DG,Yu,C];rfl
  have aa:=V s0 (Y8 C);have U:l.drop i=s0::l.drop (i+1):=by rw[Yq om,(Y1.1 C).2]
  have ag:=gA _ s0 (Y9 _);refine gH 1 (.val (.BG (.of O) c (hq.add _) Bq Z) O (gH 3 ?_));intro y w c;refine gF 0 (Xuq s0 om z F) ?_;rintro a5 w c;obtain⟨fa,fc,rfl,av,_⟩:=c.vS 0;refine gG 2 ?_;replace c:=(c.Al 5 1).pick 2 O;refine .lk [4,7,17,18,19,24,25] (σ:=Lu×List Lu×Va×Va×Va×Lu×Nat) (λ(u,seen,sv,p,v,d,j) _m=>(3,sv)::(6,S u)::(26,Ab (j:Nat))::_m) (λ(u,seen,sv,p,v,d,j) w=>j<=(B_ s0).length/\B_ u=(B_ s0).drop j/\u.length<=1000/\(Hw seen u).1=(Hw a s0).1/\d++(Hw seen u).2=(Hw a s0).2/\seen.length<=64*i+j/\d.length<=1100*j/\(p=.pointer none\/p=ptr y 0)/\(d=[]->v=.slice none 0 0)/\Aa B w I (Ad y [p,v] 68::Ao 5 1 v d.length (Aj d)::Ao 9 1 (.slice fa (B_ s0).length fc) (B_ s0).length ((B_ s0).map S)::Ao 9 1 sv seen.length (seen.map S)::Ao 9 1 E b.length (b.map S)::N)) (λ(u,seen,sv,p,v,d,j)=>(B_ s0).length-j) (s0,a,o,.pointer none,.slice none 0 0,[],0) ⟨Y5 _,O,om,O,O,om,Y5 _,.inl O,λ_=>rfl,c⟩ ?_;rintro⟨u,seen,sv,p,v,d,j⟩ w ⟨hj,e,aj,r,t,a1,au,hp,W,c⟩;refine gN 1 ?_ ?_<;>intro af
  ·obtain⟨x,hx⟩:∃x,(B_ s0)[j]?=some x:=⟨_,Y2 om⟩
   obtain⟨q2,X,Y⟩:=yk (cells:=Z5) (λ_=>rfl) c (k:=2) (by rw[Zz];rfl) j x hx;subst X;have n:=sM _ s0 (Y9 _) x (Y8 hx);have a3:=Mt n;rw[show(B_ s0).drop j=x::(B_ s0).drop (j+1)by rw[Yq om,(Y1.1 hx).2]]at e;obtain⟨L,K,hu,e,G,m⟩:=Xiw _ seen u x _ (Y9 _) e;have ac:=Ye List.length hu;rw[Y0,Y0]at ac;have a2:=fX n;obtain⟨sa,sc,rfl,a0,_⟩:=c.vS 3;refine gH 1 (.val (.ld1 (.of O) (Y 0 _ O) Bq) O ?_);refine gP 3 [] (Xyh sa sc _ om x _ (λw h=>yk (cells:=Z5) (λ_=>rfl) h (k:=3) (by rw[Zz];rfl))) ?_;rintro _ w ⟨rfl,c⟩;refine gG 1 ?_
   by_cases f:x∈seen
   ·rw[Y7 f];refine gG 2 ?_;refine .Bt (by show some (Value.bool (decide (((List.idxOf x seen:Nat):Int)<0)))=_;rw[decide_eq_false om]) ?_;refine gE 2 (Xup u L K x om n hu G z) ?_;intro w c;refine gE 8 (yy x om z F) ?_;intro w c;refine gE 9 (Xes x n F) ?_;intro w c;refine gE 3 (xL _ (oh (Y5r f)) z) ?_;intro w c;have T:=Yr (o1 (Go.Lib.decDigits_length (seen.idxOf x))) (Go.Lib.nDigits_le20 _ (oh (Y5r f)));refine gC 1 (Xo y p v d _ hp _ (c.x [1,1]) (by simp only[Y0,Y4,Yi];omega)) ?_;rintro _ w ⟨rfl,v2,c⟩;refine gG 4 ?_;have A:grow seen x=seen:=by unfold grow;rw[Y7 f]
    have D:sign seen x=tag x++35::Go.Lib.decDigits (seen.idxOf x):=by unfold sign;rfl
    rw[A,D]at m;refine rd (K,seen,.slice sa seen.length sc,ptr y 0,v2,d++(((L++tag x)++[35])++Go.Lib.decDigits (seen.idxOf x)),j+1) ⟨od,?_,?_,?_,?_,?_,?_,.inr O,?_,?_⟩
    ·exact e
    ·(try dsimp only);omega
    ·(try dsimp only);rw[<-r,m]
    ·(try dsimp only);rw[<-t,m];simp[Yg]
    ·(try dsimp only);(try rw[Y0]);(try simp only[Y4,Yi]);omega
    ·(try dsimp only);simp only[Y0,Y4,Yi];omega
    ·intro h;simp at h
    ·(try dsimp only);
     exact(c.x [4,4,4,4,4])
   rw[Y3 f];refine gG 2 (.CU (rfl) (gH 10 ?_));intro an M Q H w c;refine gE 0 (Xup u L K x om n hu G z) ?_;intro w c;refine gE 8 (yy x om z F) ?_;intro w c;refine gE 9 (Xes x n F) ?_;intro w c;refine gE 3 (xL seen.length om z) ?_;intro w c;have T:=Yr (o1 (Go.Lib.decDigits_length seen.length)) (Go.Lib.nDigits_le20 _ om);refine gC 1 (Xo y p v d _ hp _ (c.x [1,1]) (by simp only[Y0,Y4,Yi];omega)) ?_;rintro _ w ⟨rfl,v2,c⟩;refine gG 4 ?_;have A:grow seen x=seen++[x]:=by unfold grow;rw[Y3 f]
   have D:sign seen x=tag x++35::Go.Lib.decDigits (seen.length):=by unfold sign;rw[List.idxOf_eq_length f]
   rw[A,D]at m;refine rd (K,seen++[x],.slice M (seen.length+1) Q,ptr y 0,v2,d++(((L++tag x)++[35])++Go.Lib.decDigits (seen.length)),j+1) ⟨od,?_,?_,?_,?_,?_,?_,.inr O,?_,?_⟩
   ·exact e
   ·omega
   ·rw[<-r,m]
   ·rw[<-t,m];simp[Yg]
   ·(try rw[Y0]);(try simp only[Y4,Yi]);omega
   ·simp only[Y0,Y4,Yi];omega
   ·intro h;simp at h
   ·rw[Yn,show(seen++[x]).length=seen.length+1 by simp];exact(c.x [4,4,4,4,4])
  refine gE 1 (nt y p v d W) ?_;intro w c;refine gG 7 ?_;intro ao P R J w c;rw[show j=(B_ s0).length by omega,VC]at e;have hn:=Xpn _ seen u (Y9 _) e;rw[hn]at r t;refine rd (seen,sv,.slice P (b.length+1) R,b++[d++u],i+1) ⟨om,?_,?_,?_,?_⟩
  ·rw[Yg,<-g,U];show b++([d++u]++_)=b++((Hw a s0).2::Vt (Hw a s0).1 (l.drop (i+1)))
   rw[<-r,<-t];rfl
  ·rw[Y0];simp only[Y4,Yi];omega
  ·omega
  ·rw[Y0,Yn];exact((c.x [2,2])).drop (k:=2) O
 refine gG 2 ?_;rw[show i=l.length by omega,VC]at g;rw[show Vt a []=[]by cases a<;>rfl,Yx]at g;rw[<-g];exact c.s
def jl:Sv:=⟨0,0,[104,116,116,112,58,47,47,97,47,42,42],true,false,false,[],[]⟩
def GO:Us:=⟨[117],[112],[]⟩
def IG:Cf:=⟨[jl],[GO],λ_=>0,9,0,0,0,0⟩
theorem dO:Be.Ord (kx (De [jl])) 1 [0]:=⟨by decide+kernel,by decide+kernel⟩
theorem VZ:IG.fits:=⟨de,by decide+kernel,by decide+kernel,de,λu a=>by
 rw[show IG.us=[GO] from O,iL]at a;subst a;exact⟨de,de,de,λp b=>by simp[GO]at b⟩⟩
theorem VY{s u:Nat}{F:TypeId}(b:J s=some (Xd [Ab 0,AQ 0,S jl.urls,.bool true,.bool false,.bool false,S [],.slice none 0 0] E))(c:J u=some (Xd [S GO.name,S GO.pw,.slice none 0 0] F)):Cy J (some (ad s 0)) [jl]/\BM J (some (ad u 0)) [GO]:=by
 constructor
 ·intro i t a
  match i,a with
  | 0,a=>cases a;exact⟨_,none,0,O,w3 b,Y9 _,RS.nil _ _⟩
  | i+1,a=>simp at a
 ·intro i t a
  match i,a with
  | 0,a=>cases a;exact⟨_,none,0,O,w3 c,Y9 _,RS.nil _ _⟩
  | i+1,a=>simp at a
def TB:Cg:=⟨[jl],[GO],λ_=>0,⟨0,0,0,0⟩⟩
theorem k8:Ld IG TB:=⟨[0],dO,O⟩
def NJ:DC:=⟨3,[],0,[5],[],[]⟩
def NK:DC:=⟨1,[71,69,84,32,47,108,111,103,105,110,32,72,84,84,80,47,49,46,49,13,10,13,10],0,[],[],[]⟩
abbrev AWN:Lu:=[76,84,45,48,48,48,48,48,48,48,48,48,48,48,48,48,48,48,53]
def o8:Lu:=(Ed IG TB 60 [NJ,NK]).1.getD 1 []
theorem yC:(Ed IG TB 60 [NJ,NK]).1.length=2:=by kernel_rfl
theorem dP:(Ed IG TB 60 [NJ,NK]).2=0:=by kernel_rfl
theorem OM:∀x∈(Ed IG TB 60 [NJ,NK]).1,x.length<=1000:=by
 have h:(Ed IG TB 60 [NJ,NK]).1.all (λx=>decide (x.length<=1000))=true:=by kernel_rfl
 intro x hx;simpa using Dy.1 h x hx
theorem V2:(Ed IG TB 60 [NJ,NK]).1[1]?=some o8:=by
 have h:=yC;unfold o8;rw[Ya,Y2 om];rfl
theorem V3:B_ o8=[AWN]:=by kernel_rfl
theorem Xnz:o8.length<=1000:=OM _ (Y8 V2)
theorem Xwn:∀(l seen:List Lu),(Vt seen l).length=l.length
 | [],seen=>by cases seen<;>rfl
 | s::l,seen=>by rw[Vt,Y4,Y4,Xwn l]
theorem k9:(Vt [] (Ed IG TB 60 [NJ,NK]).1)[1]?=some ((Vt [] (Ed IG TB 60 [NJ,NK]).1).getD 1 []):=by
 have h:=yC;have a:=Xwn (Ed IG TB 60 [NJ,NK]).1 [];rw[Ya,Y2 om];rfl
theorem MZ{l:List Lu}(b:RS I a 1 l.length (l.map S)){x:Lu}(hx:l[i]?=some x):∃q,a=some q/\At I q (l.map S)/\((l.map S).drop (i*1))[0]?=some (S x):=by
 obtain⟨q,e,h⟩:=b.2 (oh ((Y1.1 hx).1));exact⟨q,e,h,by rw[GI,Ca,DG,Yu,hx];rfl⟩
theorem Xod(N:La)(a:Aa B w I N):
  Cz 8 [] w λv w'=>∃J s u,Le I J/\v=.agg (FL IG (some (ad s 0)) 1 (some (ad u 0)) 1).toArray/\Cy J (some (ad s 0)) [jl]/\BM J (some (ad u 0)) [GO]/\Aa B w' J N:=by
 refine gH 7 ?_;intro l i j w a;refine gG 0 ?_;obtain⟨k,d,f,a⟩:=a.fZ 0;obtain⟨g,b,e,a⟩:=a.fZ 0;try dsimp only[List.eraseIdx]at a
 have c:=VY (J:=g) e (b.h _ _ f);exact⟨g,i,j,d.trans b,O,c.1,c.2,a.s⟩
theorem Xny(G:Kz I)(hV:AZ I)(N:La)(c:Aa B w I N):
  Cz 4 [] w λv w'=>v=.bool true/\∃J,Le I J/\Aa B w' J N:=by
 refine gF 1 (Xod) ?_;rintro _ w ⟨J1,sb,ub,y,rfl,V,W,c⟩;refine gH 4 ?_;intro b7 o w c;obtain⟨J2,j,D,c⟩:=JF (size:=6) (n:=2) c O;obtain⟨X,h,C,c⟩:=JF (size:=1) (n:=1) c O;have f:=(y.trans j).trans h;have H:I8 X IG (some (ad sb 0)) (some (ad ub 0)):=⟨VZ,λ_=>⟨λs hs=>by rw[show IG.BT=[jl] from O,iL]at hs;subst hs;decide,λu hu=>by rw[show IG.us=[GO] from O,iL]at hu;subst hu;exact⟨de,λa ha=>by simp[GO]at ha⟩⟩,(V.mono j).mono h,(W.mono j).mono h⟩
 have L:B7 X (some (ad o 0)) [NJ,NK]:=⟨[⟨NJ,some (ad b7 0),1,none,0,none,0⟩,⟨NK,none,0,none,0,none,0⟩],O,D.mono h,λr Z=>by
  simp only[Ys,GJ,or_false]at Z
  rcases Z with rfl|rfl
  ·exact⟨C,RS.nil _ _,RS.nil _ _⟩
  ·exact⟨RS.nil _ _,RS.nil _ _,RS.nil _ _⟩⟩
 have Q:∀e∈[NJ,NK],e.fits:=λe Y=>by
  simp only[Ys,GJ,or_false]at Y
  rcases Y with rfl|rfl
  ·exact⟨de,de,de,de,de,λd K=>by simp[NJ]at K;omega⟩
  ·exact⟨de,de,de,de,de,λd K=>by simp[NK]at K⟩
 refine gF 0 (ti IG TB k8 (some (ad sb 0)) 1 _ 1 60 _ (some (ad o 0)) 2 de Q (G.mono f) (hV.mono f) H L) ?_;rintro _ w ⟨J4,oa,oc,rfl,z,ak,p,c⟩;have g:=f.trans z;have A:=yC;obtain⟨po,rfl,q,t⟩:=MZ p V2;refine gG 12 ?_;refine .Bt (by rw[A,dP];rfl) ?_;refine gF 1 (Ux (Ed IG TB 60 [NJ,NK]).1 (some po) oc om OM (G.mono g).kn (G.mono g).pre p) ?_;rintro mv w c;obtain⟨ma,mc,rfl,aj,_⟩:=c.vS 0;have F:=c.fV 0;clear c;obtain⟨J5,k,E,c⟩:=F;obtain⟨pm,rfl,U,S⟩:=MZ E k9;refine gH 3 (.val (.BG (.of O) c ((q.mono k).add _) Bq t) O (gF 0 (Xm5 o8 (oh Xnz)) ?_));rintro _ w ⟨J6,fa,fc,rfl,l,P,m,c⟩;rw[V3]at m P ⊢;obtain⟨pf,rfl,T,M⟩:=MZ (i:=0) m O;refine gG 1 ?_;have al:=Xnz;have R:=m;refine .qt c (.val (λw c=>(.mo O)) O (.val (λw c=>(.Bo (.of O) ET)) O (.val (λw c=>(.eql (.of O) (.of O))) O (.val (λw c=>(.mo O)) O (.Am O O O (λb w c=>(.mo O)) O (.Am O O O (λb w c=>(.Bo (.gd b O) ET)) O (.Am O O O (λb w c=>(.eql (.gd b O) (.of O))) O (.val (λw c=>(.pa O O O)) O (.val (λw c=>(.mo O)) O (.Am O O O (λb w c=>(.mo O)) O ?_))))))))));refine .Am O O O (λb w c=>(by exact .AX (.gd b O) (.of O) (ot b) (ot b) ET A3)) O ?_;refine .Am O O O (λb w c=>(.BG (.gd b O) c (T.add _) Bq M)) O (.Am O O O (λb w c=>(.eqs (.gd b O) (.of O))) O (.val (λw c=>(.pa O O O)) O (.val (λw c=>(.mo O)) O (.Am O O O (λb w c=>(.mo O)) O ?_))));refine .Am O O O (λb w c=>(by exact .AX (.gd b O) (.of O) (ot b) (ot b) ET A3)) O ?_;refine .Am O O O (λb w c=>(.BG (.gd b O) c ((U.mono l).add _) Bq S)) O (.Am O O O (λb w c=>(.len (.gd b O) Bb)) O (.Am O O O (λb w c=>(.mo O)) O ?_));refine .Am O O O (λb w c=>(by exact .AX (.gd b O) (.of O) (ot b) (ot b) ET A3)) O ?_;refine .Am O O O (λb w c=>(.BG (.gd b O) c ((q.mono (k.trans l)).add _) Bq t)) O (.Am O O O (λb w c=>(.len (.gd b O) Bb)) O (.Am O O O (λb w c=>(.sub (.gd b O) (.of O) ⟨om,om⟩)) O (.Am O O O (λb w c=>(.eql (.gd b O) (.gd b O))) O (.val (λw c=>(.pa O O O)) O (.val (λw c=>(.mo O)) O (.Am O O O (λb w c=>(.mo O)) O ?_))))));refine .AA O O O func11 O (λb=>(AM O (X4 (.gd b O) X3))) O (λb w c=>xJ [123,48,125,120] [AWN] (some pf) fc de de (λx hx=>by rw[iL.1 hx];decide) R _ c) ?_;refine .Am O O O (λb w c=>(.eqs (.gd b O) (.of O))) O (.val (λw c=>(.pa O O O)) O (.val (λw c=>(.ao O)) O (.nil ?_)));intro w c;exact gG 0 ⟨Ye Value.bool kr,J6,(g.trans k).trans l,c⟩
theorem YW(k:Int->Nat):∀T:List Int,T.Nodup->∃D,Be.So k D/\D.Perm T
 | [],_=>⟨[],List.Pairwise.nil,List.Perm.refl _⟩
 | x::T,h=>by
  obtain⟨hx,n⟩:=VD.1 h;obtain⟨D,j,l⟩:=YW k T n;have c:∀d∈D,d≠x:=λd o e=>hx (e▸l.mem_iff.1 o)
  have g:∀v∈D.filter (λd=>!decide (Be.DX k d x)),Be.DX k x v:=λv a=>by
   have i:=Ik.1 a;rcases Be.Rg (k:=k) (c v i.1)with b|b
   ·simp[b]at i
   ·exact b
  have f:∀v∈D.filter (λd=>decide (Be.DX k d x)),Be.DX k v x:=λv a=>by simpa using(Ik.1 a).2
  refine⟨D.filter (λd=>decide (Be.DX k d x))++x::D.filter (λd=>!decide (Be.DX k d x)),Be.mJ (j.filter _) (T7.2 ⟨g,j.filter _⟩) λu m v a=>?_,?_⟩
  ·rcases Ys.1 a with rfl|a
   ·exact f u m
   ·exact Be.EY (f u m) (g v a)
  ·exact qP.trans (List.Perm.cons _ ((List.filter_append_perm _ D).trans l))
theorem qZ(c:Cf):∃g,Ld c g:=by
 obtain⟨D,a,b⟩:=YW (kx (De c.BT)) (Be.BI c.BT.length) ((Be.IF _).imp λh=>by omega);exact⟨_,D,⟨a,b⟩,O⟩
theorem ZF{c:Cf}{g:Cg}(n:Int)(l:List DC):(Ed c g n l).1.length<=l.length:=by
 unfold Ed;split
 ·exact Y5 _
 ·have h:=(ym (c:=c) (g:=g) l ⟨(CH c (EU n) 0).2,[],[]⟩ []).2;rw[Yi,Yl]at h;exact h
theorem B7.app{ea ma c:Oa}{l m:List DC}{L M:List Er}(a:L.map Er.e=l)(b:M.map Er.e=m)(g:RS J c 6 (l++m).length ([]++X2 nT L++X2 nT M))(d:∀r∈L,GQ J r.e r.da r.la r.ka)(f:∀r∈M,GQ J r.e r.da r.la r.ka):B7 J c (l++m):=by
 refine⟨L++M,by rw[Yn,a,b],?_,λr i=>?_⟩
 ·rw[gJ,show(L++M).length=(l++m).length by rw[<-a,<-b];simp];exact g
 ·rcases Yt.1 i with h|h
  ·exact d r h
  ·exact f r h
theorem Xez(c:Cf)(a:Oa)(cap:Nat)(ua:Oa)(z:Nat)(l:List DC)(ea:Oa)(ec:Nat)(ao:l.length<=9223372036854775807)(Z:∀e∈l,jT e)(m:List DC)(ma:Oa)(mc:Nat)(ar:m.length<=9223372036854775807)(aa:∀e∈m,jT e)(b:Int)(bb:0<=b/\b<=65535)(B w:Wo)(I:Im)(hZ:Kz I)(hV:AZ I)(H:Lc I c a cap ua z)(P:B7 I ea l)(hM:B7 I ma m)(N:La)(d:Aa B w I N):
  Cz 3 [.agg (FL c a cap ua z).toArray,.int .u16 b,.slice ea l.length ec,.slice ma m.length mc] w λv w'=>v=.bool true/\∃J,Le I J/\Aa B w' J N:=by
 refine gG 0 (.G7 d (.of O) O ?_);intro b4 w d;refine gF 1 (Xny hZ hV) ?_;rintro _ w ⟨rfl,J0,f,d⟩;refine gE 3 (Xon c a cap ua _ l ea ec 20 ao Z (H.mono f) (P.mono f)) ?_;intro w d;refine gG 1 ?_;refine .val (.D6 (.of O) d (k:=0) O GU F4 O (λ_ _ h=>by rw[Yl];exact h)) O ?_;refine gE 1 (Xon c a cap ua _ m ma mc 10 ar aa (H.mono f) (hM.mono f)) ?_;intro w d;refine gM 7 ?_ ?_<;>intro W a0
 ·exact gG 2 ⟨O,J0,f,d.s⟩
 have hb:=W;simp only[G3,ve]at hb
 obtain⟨Y,bd,G⟩:=Xfh hb.1 Z;obtain⟨_,be,aq⟩:=Xfh hb.2 aa;have F:I8 I c a ua:=⟨RT H Y,λh0=>ei Y h0,H.BT,H.us⟩
 obtain⟨g,hg⟩:=qZ c;obtain⟨L,C,D,Q⟩:=P;obtain⟨M,R,S,ai⟩:=hM;have P:B7 I ea l:=⟨L,C,D,Q⟩
 rw[show L.length=l.length by rw[<-C,Ym]]at D;rw[show M.length=m.length by rw[<-R,Ym]]at S;refine gG 4 ?_;refine .val (.D6 (.of O) d (k:=0) O GU F4 O (λ_ _ h=>by rw[Yl];exact h)) O ?_;refine gF 2 (ti c g hg a cap ua _ _ l ea ec om G (hZ.mono f) (hV.mono f) (F.mono f) (P.mono f)) ?_;rintro _ w ⟨J1,oa,oc,rfl,ah,ab,T,d⟩;have o:=f.trans ah;refine gG 5 ?_;refine .val (.D6 (.of O) d (k:=0) O GU F4 O (λ_ _ h=>by rw[Yl];exact h)) O ?_;refine gF 2 (ti c g hg a cap ua _ _ l ea ec om G (hZ.mono o) (hV.mono o) (F.mono o) (P.mono o)) ?_;rintro _ w ⟨J2,pa,pc,rfl,A,au,aj,d⟩;have q:=o.trans A;refine gG 5 (gD [0] [7] [0,1,3,5,2,4,6,7,8,9,10,11,12] ?_);intro w d;refine AN.y 0 (λw _ _ a9 d=>.D6 (.of O) d (k:=0) O GU F4 O (λ_ _ h=>by rw[Yl];exact h)) ?_;refine gH 3 (AN.e (.buildSlice d U_ Qw cH jz O O O O ?_));intro a7 w d;replace d:=d.BB (k:=0) (E:=46) (size:=6) (n:=0) O O (Y5 _);try dsimp only[List.set]at d
 refine gH 0 (AN.e (.Bk (size:=6) (bytes:=104) d (.of O) (.of O) (D.mono q) (k:=0) O Qw (i:=t46) kr O O O O (gK (λr=>rfl) _) ⟨om,by unfold maxLen;omega⟩ O ?_));intro bi w d;try dsimp only[List.set]at d
 refine gH 0 (AN.e (.Bk (size:=6) (bytes:=104) d (.of O) (.of O) (S.mono q) (k:=0) O Qw (i:=t46) kr O O O O (gK (λr=>rfl) _) ⟨om,by unfold maxLen;omega⟩ O ?_));intro bj w d;try dsimp only[List.set]at d
 obtain⟨xa,xc,rfl,bf,_⟩:=d.vS 0;have al:=d.fV 0;clear d;obtain⟨J3,u,V,d⟩:=al;try dsimp only[List.eraseIdx]at d
 have j:=q.trans u;have ap:0+l.length+m.length=(l++m).length:=by rw[Y0];omega
 rw[ap]at V ⊢;have hX:=B7.app (ea:=ea) (ma:=ma) C R V (λr hr=>(Q r hr).mono j) (λr hr=>(ai r hr).mono j);refine gF 0 (ti c g hg a cap ua _ _ _ xa xc (by rw[Y0];omega) (λe he=>(Yt.1 he).elim (G e) (aq e)) (hZ.mono j) (hV.mono j) (F.mono j) hX) ?_;rintro _ w ⟨J4,qa,qc,rfl,x,ac,ak,d⟩;have K:=j.trans x;refine gG 5 ?_;have p:=ZE (c:=c) (g:=g) (b%513) l m;have ad:(Ed c g (b%513) l).1.length<=140737488355328:=Yr (ZF _ l) om;have ay:((Ed c g (b%513) (l++m)).1).take (Ed c g (b%513) l).1.length=(Ed c g (b%513) l).1:=Y6a.1 p |>.symm;refine gH 2 (.val (.neq (.of O) (.of O)) O ?_);rw[bne_self_eq_false];refine gH 1 (.KA O O O (gH 1 (.KA O O O (gH 1 (.KA O O O (.call func7 O (AM O (AM O X3)) O (Xnv oa pa oc pc _ _ ab au ad (T.mono ((A.trans u).trans x)) (aj.mono (u.trans x)) _ d) ?_))))));rintro _ w ⟨rfl,d⟩;rw[decide_eq_true O];refine .KA O O O (gH 1 (.val (.pick (.of O) (.of O) (.of O)) O (gH 1 (.KA O O O (gH 1 (.KA O O O (.val (.Bo (.of O) ET) O (.KA O O O ?_))))))));refine gH 1 (.KA O O O (gH 1 (.KA O O O (gH 1 (.val (.pick (.of O) (.of O) (.of O)) O (gG 0 (.cond O (λt=>?_) λt=>?_)))))))
 ·refine gH 1 (.nil (.ret ?_));refine λ_ aw=>E3 aw O ?_
  exfalso
  have h9:=p.length_le;simp at t
  omega
 have X:=t;try simp only[iF]at X
 refine gH 2 (.KA O O O (gH 1 (.KA O O O (gH 1 (.KA O O O (gH 1 (.KA O O O (.val (.Fq (.of O) (.of O) om om ET A3) O ?_))))))));try rw[Yh]
 obtain⟨ta,ax,U⟩:=Vi (lo:=0) (hi:=(Ed c g (b%513) l).1.length) (c:=qc) ak (Y5 _) p.length_le ac;rw[ax];rw[OE,EW,dE,Ca,<-ct,ay]at U;rw[dE,dE];refine .KA O O O (gH 1 (.KA O O O (.call func7 O (AM O (AM O X3)) O (Xnv ta oa qc oc _ _ (Yr p.length_le ac) ab ad U (T.mono ((A.trans u).trans x)) _ d) ?_)));rintro _ w ⟨rfl,d⟩;rw[decide_eq_true O];refine .val (.pick (.of O) (.of O) (.of O)) O ?_;exact gG 1 ⟨O,J4,K,d.s⟩
end Go.Proofs.W9
namespace Gk
open Go Go.RowKit Go.WideShapes Go.ChangeShapes
section
variable {H:Type} {Ar:TypeId×Va->H}
def vM(Ar:TypeId×Va->H)(a:Assume)(C:Checked)(e:Os)(f:FuncId)(fn:Func)(s:ChangeSpec)(d:List PathCond)(c:Bool)(X:Wo->Array Va->Prop):Prop :=
  ∃(w:Wo) (b:Tape) (i:Input),w.os=e/\(w.forCall b i).Shaped C.prog/\i.vars=[]/\Input.okWide C.prog (w.forCall b i) .any w.heap.size f i/\
   ((s.pre Ar C.prog fn d c (w.forCall b i).memory i.args/\X (w.forCall b i).memory i.args)/\sizedMet Ar C.prog fn (OpenSpec.ofChange s) c (w.forCall b i).memory i.args)/\a.holds C.prog (lone (Frame.enter C.prog f i.args .normal) [] (w.forCall b i))
theorem Xav{a:Assume}{C:Checked}{os:Os}{s:ChangeSpec}{k:List PathCond}{b l d h:Bool}{X:Wo->Array Va->Prop}
  (G:∀(w w':Wo) (args:Array Va),w.heap=w'.heap->X w args->X w' args)
  (own:ownKnob C.prog.godebug=none) (m:os.Started) (o:C.prog.inits.idxOf? f=none) (A:C.prog.funcs[f]?=some fn)
  (n:vM Ar a C os f fn s k b X)
  (g:∀(W:Wo) (q:Nat) (args:Array Va) (ds z:List (DataW H)) (c:List MemPlace),
   (∀(j:Nat) t v,fn.params[j]?=some t->args[j]?=some v->Value.okWide C.prog W .any q t v)->
   DataW.Whole Ar C.prog fn.params.toList s.vars b W args.toList ds z c->X W args->W.ShapedOpen C.prog->
   Calls C.prog f args W λe F=>∃v,e=.returned v/\s.post Ar C.prog fn b l d h W args v F) :
  ReturnsInHanded a C os f .any (λw args=>(s.pre Ar C.prog fn k b w args/\X w args)/\sizedMet Ar C.prog fn (OpenSpec.ofChange s) b w args) (s.post Ar C.prog fn b l d h):=by
 refine returnsInHanded_of_calls own m o n ?_;intro w p i _ D _ B u _;obtain⟨_,_,_,y,r,_,_,_,_,x⟩:=B;have e:y=fn:=Option.some.inj (r.symm.trans A);subst e;obtain⟨⟨⟨ds,z,c,K,L⟩,hx⟩,M⟩:=u;have E:=DataW.Whole.of_heap (w':=w.forCall p i) (by rfl) K;refine(g (w.forCall p i) w.heap.size i.args ds z c x E (G _ _ _ (by rfl) hx) D).mono λe F ⟨v,I,J⟩=>?_
 subst I;exact ChangeSpec.post_blind J
end
section
variable {P:Program} {W:Wo}
theorem vQ{name:String}{k:IntKind}{zs:List Int}{g:Nat}{t e:TypeId}
  (m:P.globalNamed name=some g) (i:(P.globals[g]?).map (·.type)=some t) (o:P.underlying t=some (.array n e)) (l:P.underlying e=some (.int k)) (b:P.cellsOf e=1) (c:P.cellsOf t=n)
  (h:Lib.VarReads P W name (Lib.tabData k zs)):Lib.TabIs P W name k zs:=by
 obtain⟨q,t',cs,fuel,p,d,f,a,j⟩:=h;obtain rfl:=Option.some.inj (m.symm.trans d);obtain rfl:=Option.some.inj (i.symm.trans f);unfold Lib.TabIs;rw[a,<-Lib.cells_of_tab o l b c j]
theorem Z6{name:String}{k:IntKind}{zs:List Int}{g:Nat}(f:P.globalNamed name=some g)(h:Lib.TabIs P W name k zs)(d:0<zs.length):At (Fk W) (ad g 0) (zs.map λz=>.int k z):=by
 refine uE (by rw[Ym];exact d) λj v a=>?_
 rw[Yu]at a;cases b:zs[j]? with
 | none=>rw[b]at a;cases a
 | some z =>
  rw[b]at a;have c:=(Y1.1 b).1;have e:=h.cell f j c;rw[C7,Yl,e,Ya,b,<-a];rfl
variable {B w:Wo} {N:La}
theorem Xo0{o:Obj}(h:W.heap[b]?=some o)(a:Aa B w (Fk W) N):w.heap[b]?=some o:=by
 obtain⟨_,_,c⟩:=a;exact c.Ha b o h
theorem P0{name:String}{k:IntKind}{zs:List Int}(h:Lib.TabIs P W name k zs)(c:Aa B w (Fk W) N):Lib.TabIs P w name k zs:=by
 unfold Lib.TabIs World.var? at h ⊢;cases b:P.globalNamed name with
 | none=>rw[b]at h;cases h
 | some g =>
  rw[b]at h;simp only[iP]at h ⊢
  cases a:W.heap[g]? with
  | none=>rw[a]at h;cases h
  | some o =>
   rw[Xo0 a c];rw[a]at h;exact h
theorem Wa{a:Addr}(h:W.cell? a=some v)(c:Aa B w (Fk W) N):w.cell? a=some v:=by
 unfold World.cell? at h ⊢;cases b:W.heap[a.block]? with
 | none=>rw[b]at h;cases h
 | some o=>rw[Xo0 b c];rw[b]at h;exact h
end
end Gk
namespace Go.Proofs.W9
open Gk Pc Xm Tk Sc Go.ChangeMaps Go.ChangeShapes Go.RowKit
open Tryz
open Go.Proofs.YtiogkphlnggjfaaGreatDoor
theorem Xzl:Rows.laid_matricula_pct_digits (H:=Unit)=Lib.tabData .u8 (Fs.map λc=>(c.toNat:Int)):=by kernel_rfl
theorem fw:Rows.laid_internal_strconv_uint64pow10 (H:=Unit)=Lib.tabData .u64 Lib.pow10Tab:=by kernel_rfl
def yq(zs:List Lu):DataW H:=.agg (zs.map λz=>.lit (.string z))
theorem fA:Rows.laid_matricula_ticket_prefixes (H:=Unit)=yq Lk:=by kernel_rfl
theorem Xi4{Ar:TypeId×Va->H}{a:Nat}{y:Nat->Bool}{t e:TypeId}{zs:List Lu}{p:List MemPlace}
  (u:P.underlying t=some (.array n e)) (r:P.underlying e=some .string) (f:P.cellsOf e=1) (g:P.cellsOf t=n)
  (h:DataW.trod Ar P w a y held fuel t cs=some (yq zs,p)):cs=zs.map S:=by
 cases fuel with
 | zero=>simp[DataW.trod]at h
 | succ fuel =>
  simp only[DataW.trod,u,f,g,Ca]at h
  split at h
  ·rename_i A
   obtain⟨xs,k,hx⟩:=Gf.1 h;have c:xs.map (·.1)=zs.map λz=>(DataW.lit (.string z):DataW H):=by
    have:=Ye Prod.fst hx
    simpa[yq]using this
   have v:xs.length=n:=by simpa using Lib.mapM_length k
   have x:zs.length=n:=by
    have:=Ye List.length c
    simp at this
    omega
   apply OD
   intro i
   by_cases hi:i<n
   ·obtain⟨b,o,s⟩:=Lib.mapM_at k i i (by simp[hi]);obtain⟨z,q,rfl,_⟩:=DataW.trod_string r s;have m:cs[i]?=some (.string z):=by
     have:=Ye (·[0]?) q
     simpa[Q_,GI]using this
    have d:(xs.map (·.1))[i]?=some (DataW.lit (.string z.data.toList):DataW H):=by simp[o]
    rw[c]at d;simp only[Yu,Gf,DataW.lit.injEq,Lit.string.injEq]at d
    obtain⟨B,j,l⟩:=d;rw[m,Yu,j,l];rfl
   ·rw[T1 om,T1 (by simp;omega)]
  ·cases h
theorem fx{W : World}(h : Lib.VarReads prog W "matricula/ticket.prefixes" Rows.laid_matricula_ticket_prefixes): AR (Fk W) := by
 rw[fA]at h;obtain⟨i,t',cs,fuel,p,a,d,b,f⟩:=h;obtain rfl := Option.some.inj ((show prog.globalNamed "matricula/ticket.prefixes" = some 0 by kernel_rfl).symm.trans a);obtain rfl:=Option.some.inj ((show(prog.globals[0]?).map (·.type)=some 125 by kernel_rfl).symm.trans d);have c:=Xi4 jY Bb kr kr f;refine uE de λj v g=>?_
 have e:=World.var?_cell a b j;rw[C7,Yl];rw[<-iH,c,g]at e;exact e
theorem pE{W:Wo}{o:Nat->Bool}{y:DataW Unit×List MemPlace}{a b:Lu}(h:DataW.trod (λ_=>()) prog W 0 o held fuel 99 cs=some y)(f:y.1=.agg [.lit (.string a),.lit (.string b)]):cs=[S a,S b]:=by
 obtain⟨xs,n,_,hx,c,d,m⟩:=DataW.trod_struct US h;rw[show prog.cellsOf 99=2 from by kernel_rfl]at c;have k:DataW.trod (λ_=>()) prog W 0 o held n 9 ((cs.drop 0).take (prog.cellsOf 9))=xs[0]?:=m 0 _ O;have l:DataW.trod (λ_=>()) prog W 0 o held n 9 ((cs.drop 1).take (prog.cellsOf 9))=xs[1]?:=m 1 _ O;rw[show prog.cellsOf 9=1 from by kernel_rfl]at k l;have e:xs.length=2:=d;clear m d h;obtain⟨u,v,rfl⟩:∃u v,cs=[u,v]:=by
  match cs,c with
  | [u,v],_=>exact⟨u,v,O⟩
 obtain⟨q,r,rfl⟩:∃u v,xs=[u,v]:=by
  match xs,e with
  | [u,v],_=>exact⟨u,v,O⟩
 simp only[Em,EW,Q9,Il]at k l
 obtain⟨p,e0,i,_⟩:=DataW.trod_string Bb (k.trans O);obtain⟨s1,g,j,_⟩:=DataW.trod_string Bb (l.trans O);subst hx;simp only[Yw,EK,DataW.agg.injEq,List.cons.injEq,and_true]at f
 rw[i,j]at f;simp only[DataW.lit.injEq,Lit.string.injEq]at f
 obtain⟨rfl,rfl⟩:=f;injection e0 with e0;injection g with g
 rw[e0,g]
theorem Xtd{W:Wo}{r:Nat->Bool}{p:List MemPlace}(h:DataW.trod (λ_=>()) prog W 0 r held fuel 506 cs=some (Rows.laid_matricula_xml_marks,p)):cs=sx:=by
 obtain⟨xs,n,_,hx,b,d,a⟩:=DataW.trod_array underlying506 h;rw[show prog.cellsOf 506=10 from by kernel_rfl]at b;rw[show prog.cellsOf 99=2 from by kernel_rfl]at a;have c:=Ye Prod.fst hx;unfold Rows.laid_matricula_xml_marks at c
 match cs,b,xs,d with
 | [v0,s,t,u,v,w,x,y,z,A],_,[B,C,D,E,F],_ =>
  simp only[Yw,EK,DataW.agg.injEq,List.cons.injEq,and_true]at c
  obtain⟨k,l,m,o,q⟩:=c;have e:=pE ((a 0 de).trans O) k.symm;have f:=pE ((a 1 de).trans O) l.symm;have g:=pE ((a 2 de).trans O) m.symm;have i:=pE ((a 3 de).trans O) o.symm;have j:=pE ((a 4 de).trans O) q.symm;simp at e f g i j
  obtain⟨rfl,rfl⟩:=e;obtain⟨rfl,rfl⟩:=f;obtain⟨rfl,rfl⟩:=g;obtain⟨rfl,rfl⟩:=i;obtain⟨rfl,rfl⟩:=j;rfl
theorem YA{W : World}(h : Lib.VarReads prog W "matricula/xml.marks" Rows.laid_matricula_xml_marks): At (Fk W) (ad 7 0) sx := by
 obtain⟨i,t',cs,fuel,p,a,d,b,f⟩:=h;obtain rfl := Option.some.inj ((show prog.globalNamed "matricula/xml.marks" = some 7 by kernel_rfl).symm.trans a);obtain rfl:=Option.some.inj ((show(prog.globals[7]?).map (·.type)=some 506 by kernel_rfl).symm.trans d);have c:=Xtd f;refine uE de λj v g=>?_
 have e:=World.var?_cell a b j;rw[C7,Yl];rw[<-iH,c,g]at e;exact e
def HLV:List Int:=[0,274646895,549293790,820201905,1098587580,1361435347,1640403810,1905808397,2197175160,2460548119,2722870694,2987750089,3280807620,3553878443,3811616794,4084100981]
theorem Xzu:Rows.laid_matricula_crc_halves (H:=Unit)=Lib.tabData .u32 HLV:=by kernel_rfl
theorem Xp7:vH=HLV.map λz=>Value.int .u32 z:=by kernel_rfl
theorem rz{W : World}(d : Lib.VarReads prog W "matricula/pct.digits" Rows.laid_matricula_pct_digits)(e : Lib.VarReads prog W "internal/strconv.uint64pow10" Rows.laid_internal_strconv_uint64pow10)(i : Lib.VarReads prog W "matricula/ticket.prefixes" Rows.laid_matricula_ticket_prefixes)(j : Lib.VarReads prog W "matricula/xml.marks" Rows.laid_matricula_xml_marks)(f : Lib.VarReads prog W "matricula/crc.halves" Rows.laid_matricula_crc_halves)(c : W.ShapedOpen prog): (Kz (Fk W) ∧ AZ (Fk W)) := by
 rw[Xzl]at d;rw[fw]at e;rw[Xzu]at f;have n:=vQ (g:=3) kr kr N1 BW kr kr d;have h:=vQ (g:=2) kr kr underlying393 Qx kr kr e;have o:=vQ (g:=8) kr kr underlying509 Of kr kr f;have a:∀(B w:Wo) (N:La),Aa B w (Fk W) N->∃m,w.cell? ⟨1,0,none⟩=some (.int .i64 m):=λB w N b=>by
  obtain⟨m,l⟩:=Go.Proofs.cell_of_shapedOpen_int (g:=1) (t:=3) (zero:=#[.int .i64 0]) (k:=.i64) c dk kr kr kr kr B5;exact⟨m,Wa l b⟩
 refine⟨⟨⟨Z6 (g:=3) kr n de,λB w N b=>P0 h b,a⟩,fx i,⟨YA j,λB w N b=>P0 h b,a⟩⟩,?_⟩;unfold AZ;rw[Xp7];exact Z6 (g:=8) kr o de
theorem pM{cells:α->Lv}{fit:α->Prop}{t e:TypeId}{Ar:TypeId×Va->H}{W:Wo}{x:DataW H×List MemPlace}(q:prog.underlying t=some (.slice e))(d:prog.cellsOf e=c)(f:0<c)
  (one:∀n cs y,DataW.trod Ar prog W 0 spare held n e cs=some y->∃z:α,cs=cells z/\fit z) (h:DataW.trod Ar prog W 0 spare held fuel t cs=some x) :
  ∃(a:Oa) (cap:Nat) (l:List α),cs=[.slice a l.length cap]/\l.length<=cap/\cap<=maxLen/\RS (Fk W) a c l.length (X2 cells l)/\∀z∈l,fit z:=by
 obtain⟨a,cap,L,n,rfl,i,m,v,j,o⟩:=s8 q d f h;have key:∀L:List Lv,(∀l∈L,∃y,DataW.trod Ar prog W 0 spare held n e l=some y)->∃l:List α,L=l.map cells/\∀z∈l,fit z:=by
  intro L
  induction L with
  | nil=>intro _;exact⟨[],O,λz h=>by simp at h⟩
  | cons c L s =>
   intro h;obtain⟨y,r⟩:=h c sz;obtain⟨z,rfl,p⟩:=one n c y r;obtain⟨l,rfl,k⟩:=s (λc d=>h c (by simp[d]));exact⟨z::l,O,λu g=>by
    rcases Ys.1 g with e|g
    ·subst e;exact p
    ·exact k u g⟩
 obtain⟨l,rfl,b⟩:=key L o;rw[Ym]at i j;exact⟨a,cap,l,by rw[Ym],i,m,j,b⟩
open Ul Tr Go.WideShapes
theorem open_pair{Ar:TypeId×Va->H}{W:Wo}{x:DataW H×List MemPlace}(h:DataW.trod Ar prog W 0 spare held fuel 99 cs=some x):∃z:Pr,cs=X8 z/\qy z:=by
 obtain⟨xs,n,_,_,c,d,g⟩:=DataW.trod_struct US h;rw[show prog.cellsOf 99=2 from by kernel_rfl]at c;obtain⟨j,a⟩:∃y,DataW.trod Ar prog W 0 spare held n 9 ((cs.drop 0).take (prog.cellsOf 9))=some y:=⟨_,(g 0 _ O).trans (Y2 (nB d))⟩
 rw[show prog.cellsOf 9=1 from by kernel_rfl]at a;obtain⟨k,b⟩:∃y,DataW.trod Ar prog W 0 spare held n 9 ((cs.drop 1).take (prog.cellsOf 9))=some y:=⟨_,(g 1 _ O).trans (Y2 (nB d))⟩
 rw[show prog.cellsOf 9=1 from by kernel_rfl]at b;obtain⟨v0,e,rfl⟩:∃v0 e,cs=[v0,e]:=by
  match cs,c with
  | [v0,e],_=>exact⟨v0,e,O⟩
 simp only[Em,EW,Q9,Il]at a b
 obtain⟨z0,e0,_,w0⟩:=DataW.trod_string Bb a;obtain⟨i,f,_,w1⟩:=DataW.trod_string Bb b;simp only[List.cons.injEq,and_true]at e0 f
 subst e0 f;exact⟨(z0.data.toList,i.data.toList),O,⟨w0,w1⟩⟩
theorem YV{Ar:TypeId×Va->H}{W:Wo}{x:DataW H×List MemPlace}(h:DataW.trod Ar prog W 0 spare held fuel 65 cs=some x):∃u:Us,JE (Fk W) u cs/\u.fits:=by
 obtain⟨xs,n,_,_,g,b,k⟩:=DataW.trod_struct JA h;rw[show prog.cellsOf 65=3 from by kernel_rfl]at g;obtain⟨v,d⟩:∃y,DataW.trod Ar prog W 0 spare held n 9 ((cs.drop 0).take (prog.cellsOf 9))=some y:=⟨_,(k 0 _ O).trans (Y2 (nB b))⟩
 rw[show prog.cellsOf 9=1 from by kernel_rfl]at d;obtain⟨w,e⟩:∃y,DataW.trod Ar prog W 0 spare held n 9 ((cs.drop 1).take (prog.cellsOf 9))=some y:=⟨_,(k 1 _ O).trans (Y2 (nB b))⟩
 rw[show prog.cellsOf 9=1 from by kernel_rfl]at e;obtain⟨z,f⟩:∃y,DataW.trod Ar prog W 0 spare held n 63 ((cs.drop 2).take (prog.cellsOf 63))=some y:=⟨_,(k 2 _ O).trans (Y2 (nB b))⟩
 rw[show prog.cellsOf 63=1 from by kernel_rfl]at f;obtain⟨v0,i,j,rfl⟩:∃v0 i j,cs=[v0,i,j]:=by
  match cs,g with
  | [v0,i,j],_=>exact⟨v0,i,j,O⟩
 simp only[Em,EW,Q9,Il]at d e f
 obtain⟨z0,e0,_,w0⟩:=DataW.trod_string Bb d;obtain⟨t,m,_,w1⟩:=DataW.trod_string Bb e;obtain⟨a,c,l,o,p,q,r,s⟩:=pM (cells:=X8) (c:=2) (fit:=qy) Ov kr de (λn cs y h=>open_pair h) f;simp only[List.cons.injEq,and_true]at e0 m o
 subst e0 m o;exact⟨⟨z0.data.toList,t.data.toList,l⟩,⟨a,c,O,p,r⟩,⟨w0,w1,Yr p q,s⟩⟩
theorem SC{Ar:TypeId×Va->H}{W:Wo}{x:DataW H×List MemPlace}(h:DataW.trod Ar prog W 0 spare held fuel 23 cs=some x):∃(a:Oa) (cap:Nat) (l:List Us),cs=[.slice a l.length cap]/\l.length<=cap/\cap<=maxLen/\BM (Fk W) a l/\∀u∈l,u.fits:=by
 obtain⟨a,cap,L,n,rfl,j,k,m,o,q⟩:=s8 (c:=3) underlying23 kr de h;have key:∀L:List Lv,(∀l∈L,∃y,DataW.trod Ar prog W 0 spare held n 65 l=some y)->∃l:List Us,L.length=l.length/\∀(i:Nat) (u:Us),l[i]?=some u->u.fits/\∃c,L[i]?=some c/\JE (Fk W) u c:=by
  intro L
  induction L with
  | nil=>intro _;exact⟨[],O,λi s h=>by simp at h⟩
  | cons c L B =>
   intro h;obtain⟨y,A⟩:=h c sz;obtain⟨s,z,v⟩:=YV A;obtain⟨l,d,e⟩:=B (λc f=>h c (by simp[f]));refine⟨s::l,by simp[d],λi u b=>?_⟩;cases i with
   | zero=>simp at b;subst b;exact⟨v,c,O,z⟩
   | succ i=>simpa using e i u (su b)
 obtain⟨l,d,e⟩:=key L q;refine⟨a,cap,l,by rw[d],by rw[<-d];exact j,k,λi u b=>?_,λu b=>?_⟩
 ·obtain⟨_,c,f,C,D,rfl,r,t⟩:=e i u b;obtain⟨p,rfl,w⟩:=o.2 (oh ((Y1.1 f).1));have g:=nR (w.add (i*3)) 3;rw[aZ L m i _ f]at g;exact⟨p,C,D,O,g,r,t⟩
 ·obtain⟨i,hi⟩:=GH.1 b;exact(e i u hi).1
theorem yd{Ar:TypeId×Va->H}{W:Wo}{x:DataW H×List MemPlace}(h:DataW.trod Ar prog W 0 spare held fuel 24 cs=some x):∃l:List Int,l.length=7/\cs=l.map Ab:=by
 obtain⟨xs,n,_,_,b,j,f⟩:=DataW.trod_array Lr h;rw[show prog.cellsOf 24=7 from by kernel_rfl]at b;rw[show prog.cellsOf 3=1 from by kernel_rfl]at f;have a:∀v∈cs,∃z:Int,v=Ab z:=by
  intro v d;obtain⟨i,hi⟩:=GH.1 d;have c:=(Y1.1 hi).1;obtain⟨y,k⟩:∃y,xs[i]?=some y:=⟨_,Y2 om⟩
  have g:=(f i om).trans k;obtain⟨z,e,_⟩:=DataW.trod_int B5 g;rw[Ca,Yq c,Q9,Il,(Y1.1 hi).2]at e;exact⟨z,(List.cons.inj e).1⟩
 have key:∀cs:Lv,(∀v∈cs,∃z:Int,v=Ab z)->∃l:List Int,cs=l.map Ab:=by
  intro cs
  induction cs with
  | nil=>intro _;exact⟨[],O⟩
  | cons v r m =>
   intro h;obtain⟨z,rfl⟩:=h v sz;obtain⟨l,rfl⟩:=m (λv d=>h v (by simp[d]));exact⟨z::l,O⟩
 obtain⟨l,rfl⟩:=key cs a;exact⟨l,su b,O⟩
theorem mA{L:List Int}(h:L.length=21):C9 (λi=>L.getD i 0)=L:=by
 match L,h with
 | [a0,n,o,p,q,r,s,t,u,v,a,b,c,d,e,f,g,j,k,l,m],_=>rfl
theorem YT{Ar:TypeId×Va->H}{W:Wo}{x:DataW H×List MemPlace}(h:DataW.trod Ar prog W 0 spare held fuel 26 cs=some x):∃p:Nat->Int,cs=(C9 p).map Ab:=by
 obtain⟨xs,n,_,_,t,o,F⟩:=DataW.trod_struct Ls h;rw[show prog.cellsOf 26=21 from by kernel_rfl]at t;obtain⟨R,q⟩:∃y,DataW.trod Ar prog W 0 spare held n 24 ((cs.drop 0).take (prog.cellsOf 24))=some y:=⟨_,(F 0 _ O).trans (Y2 (nB o))⟩
 rw[show prog.cellsOf 24=7 from by kernel_rfl]at q;obtain⟨S,r⟩:∃y,DataW.trod Ar prog W 0 spare held n 24 ((cs.drop 7).take (prog.cellsOf 24))=some y:=⟨_,(F 1 _ O).trans (Y2 (nB o))⟩
 rw[show prog.cellsOf 24=7 from by kernel_rfl]at r;obtain⟨T,s⟩:∃y,DataW.trod Ar prog W 0 spare held n 24 ((cs.drop 14).take (prog.cellsOf 24))=some y:=⟨_,(F 2 _ O).trans (Y2 (nB o))⟩
 rw[show prog.cellsOf 24=7 from by kernel_rfl]at s;obtain⟨v0,u,v,w,z,A,B,C,D,E,a,b,c,d,e,f,g,j,k,l,m,rfl⟩:∃v0 u v w z A B C D E a b c d e f g j k l m,cs=[v0,u,v,w,z,A,B,C,D,E,a,b,c,d,e,f,g,j,k,l,m]:=by
  match cs,t with
  | [v0,u,v,w,z,A,B,C,D,E,a,b,c,d,e,f,g,j,k,l,m],_=>exact⟨v0,u,v,w,z,A,B,C,D,E,a,b,c,d,e,f,g,j,k,l,m,O⟩
 simp only[Em,EW,Q9,Il]at q r s
 obtain⟨J,M,e0⟩:=yd q;obtain⟨K,P,G⟩:=yd r;obtain⟨L,Q,I⟩:=yd s;refine⟨λi=>(J++(K++L)).getD i 0,?_⟩;rw[mA (by simp only[Y0];omega),Yn,Yn,<-e0,<-G,<-I];rfl
theorem rO{Ar:TypeId×Va->H}{W:Wo}{x:DataW H×List MemPlace}(h:DataW.trod Ar prog W 0 spare held fuel 29 cs=some x):∃(c:Cf) (a:Oa) (cap:Nat) (ua:Oa) (Gv:Nat),cs=FL c a cap ua Gv/\Lc (Fk W) c a cap ua Gv:=by
 obtain⟨xs,n,_,_,P,b,C⟩:=DataW.trod_struct GV h;rw[show prog.cellsOf 29=28 from by kernel_rfl]at P;obtain⟨y0,D⟩:∃y,DataW.trod Ar prog W 0 spare held n 22 ((cs.drop 0).take (prog.cellsOf 22))=some y:=⟨_,(C 0 _ O).trans (Y2 (nB b))⟩
 rw[show prog.cellsOf 22=1 from by kernel_rfl]at D;obtain⟨y1,E⟩:∃y,DataW.trod Ar prog W 0 spare held n 23 ((cs.drop 1).take (prog.cellsOf 23))=some y:=⟨_,(C 1 _ O).trans (Y2 (nB b))⟩
 rw[show prog.cellsOf 23=1 from by kernel_rfl]at E;obtain⟨y2,F⟩:∃y,DataW.trod Ar prog W 0 spare held n 26 ((cs.drop 2).take (prog.cellsOf 26))=some y:=⟨_,(C 2 _ O).trans (Y2 (nB b))⟩
 rw[show prog.cellsOf 26=21 from by kernel_rfl]at F;obtain⟨y3,G⟩:∃y,DataW.trod Ar prog W 0 spare held n 3 ((cs.drop 23).take (prog.cellsOf 3))=some y:=⟨_,(C 3 _ O).trans (Y2 (nB b))⟩
 rw[show prog.cellsOf 3=1 from by kernel_rfl]at G;obtain⟨y4,I⟩:∃y,DataW.trod Ar prog W 0 spare held n 27 ((cs.drop 24).take (prog.cellsOf 27))=some y:=⟨_,(C 4 _ O).trans (Y2 (nB b))⟩
 rw[show prog.cellsOf 27=1 from by kernel_rfl]at I;obtain⟨y5,J⟩:∃y,DataW.trod Ar prog W 0 spare held n 27 ((cs.drop 25).take (prog.cellsOf 27))=some y:=⟨_,(C 5 _ O).trans (Y2 (nB b))⟩
 rw[show prog.cellsOf 27=1 from by kernel_rfl]at J;obtain⟨y6,K⟩:∃y,DataW.trod Ar prog W 0 spare held n 27 ((cs.drop 26).take (prog.cellsOf 27))=some y:=⟨_,(C 6 _ O).trans (Y2 (nB b))⟩
 rw[show prog.cellsOf 27=1 from by kernel_rfl]at K;obtain⟨y7,M⟩:∃y,DataW.trod Ar prog W 0 spare held n 3 ((cs.drop 27).take (prog.cellsOf 3))=some y:=⟨_,(C 7 _ O).trans (Y2 (nB b))⟩
 rw[show prog.cellsOf 3=1 from by kernel_rfl]at M;obtain⟨v0,Q,R,S,T,U,V,X,Y,Z,d,e,f,g,j,k,m,o,p,q,r,t,u,v,w,z,A,B,rfl⟩:∃v0 Q R S T U V X Y Z d e f g j k m o p q r t u v w z A B,cs=[v0,Q,R,S,T,U,V,X,Y,Z,d,e,f,g,j,k,m,o,p,q,r,t,u,v,w,z,A,B]:=by
  match cs,P with
  | [v0,Q,R,S,T,U,V,X,Y,Z,d,e,f,g,j,k,m,o,p,q,r,t,u,v,w,z,A,B],_=>exact⟨v0,Q,R,S,T,U,V,X,Y,Z,d,e,f,g,j,k,m,o,p,q,r,t,u,v,w,z,A,B,O⟩
 simp only[Em,EW,Q9,Il]at D E F G I J K M
 obtain⟨a,cap,L,l,e0,h1,h2,h3,h4,h5,h6⟩:=SB D;obtain⟨ua,Gv,us,e1,h7,h8,h9,aa⟩:=SC E;obtain⟨ps,e2⟩:=YT F;obtain⟨z3,e3,_⟩:=DataW.trod_int B5 G;obtain⟨z4,e4,_⟩:=sI UL I;obtain⟨z5,e5,_⟩:=sI UL J;obtain⟨z6,e6,_⟩:=sI UL K;obtain⟨z7,e7,_⟩:=DataW.trod_int B5 M;simp only[List.cons.injEq,and_true]at e0 e1 e3 e4 e5 e6 e7
 subst e0 e1 e3 e4 e5 e6 e7;refine⟨⟨l,us,ps,z3,z4,z5,z6,z7⟩,a,cap,ua,Gv,?_,mL h4 h5 (λi s hs=>(h6 i s hs).2),h9,⟨by rw[<-h3];exact h1,h2⟩,Yr h7 h8,λs hs=>?_,aa⟩
 ·show _=Value.slice a l.length cap::Value.slice ua us.length Gv::((C9 ps).map Ab++_)
  rw[<-e2,<-h3];rfl
 ·obtain⟨i,hi⟩:=GH.1 hs;exact(h6 i s hi).1
abbrev uW(d:Nat):Lv:=[Ba (d:Nat)]
theorem fG(l:List Nat):X2 uW l=l.map λd=>Ba (d:Nat):=by
 unfold X2
 induction l with
 | nil=>rfl
 | cons x l a=>rw[Yw,Gg,a];rfl
theorem SD{Ar:TypeId×Va->H}{W:Wo}{x:DataW H×List MemPlace}(h:DataW.trod Ar prog W 0 spare held fuel 41 cs=some x):∃z:Nat,cs=uW z/\z<18446744073709551616:=by
 obtain⟨z,e,_,w⟩:=DataW.trod_int Qx h;have a:=w;simp only[Lit.wf,Yb,decide_eq_true_eq]at a
 have b:(0:Int)<=z:=a.1;have c:z<=18446744073709551615:=a.2;refine⟨z.toNat,?_,om⟩;rw[e,uW,iJ b]
abbrev yD(b:Bool):Lv:=[.bool b]
theorem mE(l:List Bool):X2 yD l=l.map Value.bool:=by
 unfold X2
 induction l with
 | nil=>rfl
 | cons x l a=>rw[Yw,Gg,a];rfl
theorem SA{Ar:TypeId×Va->H}{W:Wo}{x:DataW H×List MemPlace}(h:DataW.trod Ar prog W 0 spare held fuel 4 cs=some x):∃z:Bool,cs=yD z/\True:=by
 obtain⟨z,e,_⟩:=DataW.trod_bool KP h;exact⟨z,e,trivial⟩
def zg(b:Ui):Lv:=Aj [b]
theorem mF(l:Lu):X2 zg l=Aj l:=by
 unfold X2
 induction l with
 | nil=>rfl
 | cons x l a=>rw[Yw,Gg,a];rfl
theorem Sy{Ar:TypeId×Va->H}{W:Wo}{x:DataW H×List MemPlace}(h:DataW.trod Ar prog W 0 spare held fuel 5 cs=some x):∃z:Ui,cs=zg z/\True:=by
 obtain⟨z,e,_,w⟩:=DataW.trod_int BW h;have a:=w;simp only[Lit.wf,Yb,decide_eq_true_eq]at a
 have b:(0:Int)<=z:=a.1;have c:z<=255:=a.2;refine⟨UInt8.ofNat z.toNat,?_,trivial⟩;rw[e];show _=[Value.int .u8 (((UInt8.ofNat z.toNat).toNat:Nat):Int)]
 rw[Y66 (by show z.toNat<256;omega),iJ b]
theorem MC{Ar:TypeId×Va->H}{W:Wo}{x:DataW H×List MemPlace}(h:DataW.trod Ar prog W 0 spare held fuel 46 cs=some x):∃r:Er,cs=nT r/\GQ (Fk W) r.e r.da r.la r.ka/\jT r.e:=by
 obtain⟨xs,n,_,_,t,a,k⟩:=DataW.trod_struct GX h;rw[show prog.cellsOf 46=6 from by kernel_rfl]at t;obtain⟨y0,b⟩:∃y,DataW.trod Ar prog W 0 spare held n 3 ((cs.drop 0).take (prog.cellsOf 3))=some y:=⟨_,(k 0 _ O).trans (Y2 (nB a))⟩
 rw[show prog.cellsOf 3=1 from by kernel_rfl]at b;obtain⟨y1,d⟩:∃y,DataW.trod Ar prog W 0 spare held n 9 ((cs.drop 1).take (prog.cellsOf 9))=some y:=⟨_,(k 1 _ O).trans (Y2 (nB a))⟩
 rw[show prog.cellsOf 9=1 from by kernel_rfl]at d;obtain⟨y2,f⟩:∃y,DataW.trod Ar prog W 0 spare held n 3 ((cs.drop 2).take (prog.cellsOf 3))=some y:=⟨_,(k 2 _ O).trans (Y2 (nB a))⟩
 rw[show prog.cellsOf 3=1 from by kernel_rfl]at f;obtain⟨y3,g⟩:∃y,DataW.trod Ar prog W 0 spare held n 42 ((cs.drop 3).take (prog.cellsOf 42))=some y:=⟨_,(k 3 _ O).trans (Y2 (nB a))⟩
 rw[show prog.cellsOf 42=1 from by kernel_rfl]at g;obtain⟨y4,i⟩:∃y,DataW.trod Ar prog W 0 spare held n 43 ((cs.drop 4).take (prog.cellsOf 43))=some y:=⟨_,(k 4 _ O).trans (Y2 (nB a))⟩
 rw[show prog.cellsOf 43=1 from by kernel_rfl]at i;obtain⟨y5,j⟩:∃y,DataW.trod Ar prog W 0 spare held n 44 ((cs.drop 5).take (prog.cellsOf 44))=some y:=⟨_,(k 5 _ O).trans (Y2 (nB a))⟩
 rw[show prog.cellsOf 44=1 from by kernel_rfl]at j;obtain⟨v0,u,v,w,A,B,rfl⟩:∃v0 u v w A B,cs=[v0,u,v,w,A,B]:=by
  match cs,t with
  | [v0,u,v,w,A,B],_=>exact⟨v0,u,v,w,A,B,O⟩
 simp only[Em,EW,Q9,Il]at b d f g i j
 obtain⟨z0,e0,_,_⟩:=DataW.trod_int B5 b;obtain⟨z1,G,_,w1⟩:=DataW.trod_string Bb d;obtain⟨P,I,_,Z⟩:=DataW.trod_int B5 f;obtain⟨Q,R,dl,J,C,l,m,D⟩:=pM (cells:=uW) (c:=1) (fit:=λz=>z<18446744073709551616) Qy kr de (λn cs y h=>SD h) g;obtain⟨V,X,Y,K,E,o,p,_⟩:=pM (cells:=yD) (c:=1) (fit:=λ_=>True) Jy kr de (λn cs y h=>SA h) i;obtain⟨ka,T,U,L,F,q,s,_⟩:=pM (cells:=zg) (c:=1) (fit:=λ_=>True) BC kr de (λn cs y h=>Sy h) j;simp only[List.cons.injEq,and_true]at e0 G I J K L
 subst e0 G I J K L;rw[fG]at m;rw[mE]at p;rw[mF]at s;have M:=Z;simp only[Lit.wf,Yb,decide_eq_true_eq]at M
 have S:P<=9223372036854775807:=M.2;unfold maxLen at l o q w1;exact⟨⟨⟨z0,z1.data.toList,P,dl,Y,U⟩,Q,R,V,X,ka,T⟩,O,⟨m,p,s⟩,⟨w1,S,Yr C l,Yr E o,Yr F q,D⟩⟩
theorem Xgd{Ar:TypeId×Va->H}{W:Wo}{x:DataW H×List MemPlace}(h:DataW.trod Ar prog W 0 spare held fuel 31 cs=some x):∃(a:Oa) (cap:Nat) (l:List DC),cs=[.slice a l.length cap]/\l.length<=cap/\cap<=maxLen/\B7 (Fk W) a l/\∀e∈l,jT e:=by
 obtain⟨a,cap,L,rfl,f,g,i,d⟩:=pM (cells:=nT) (c:=6) (fit:=λr=>GQ (Fk W) r.e r.da r.la r.ka/\jT r.e) Qw kr de (λn cs y h=>MC h) h;refine⟨a,cap,L.map Er.e,by rw[Ym],by rw[Ym];exact f,g,⟨L,O,i,λr b=>(d r b).1⟩,λe j=>?_⟩;obtain⟨r,b,rfl⟩:=Dj.1 j;exact(d r b).2
open Go
theorem R2(h:P.funcs.any Func.goes=false)(f:FuncId):P.goes f=false:=by
 unfold Program.goes;rw[h,b_,Bool.or_false,zx];intro g _;rw[Array.any_eq_false]at h;cases e:P.funcs[g]? with
 | none=>simp
 | some fn =>
  obtain⟨a,rfl⟩:=Ij.1 e;simpa using h g a
theorem VP:prog.funcs.any Func.goes=false:=by kernel_rfl
theorem vw(c:OpenClaim)(h:(match c.start with|.entering=>true|_=>false)=true):false=c.goesBy prog:=by
 unfold OpenClaim.goesBy Program.goesAt Program.goesFrom;cases a:c.start with
 | entering =>
  cases b:prog.funcNamed c.func with
  | none=>rfl
  | some f=>simp[Option.any,R2 VP f]
 | _=>rw[a]at h;cases h
end Go.Proofs.W9
