/- Part 4 of what the proof stands on. -/
import Derived.Test.YtbciobiiejpdgaaGreatDoorMEC
import Derived.Test.YtbciobiiejpdgaaGreatDoorChecked
set_option linter.unusedVariables false
set_option linter.unusedSimpArgs false
namespace Go.Proofs.YtbciobiiejpdgaaGreatDoor
open Gk Rk
theorem Xx6 (F X Y C:List Int) (hX0:0<X.length) (hY0:0<Y.length) (cv:Value) (b0 n c:Nat) (r:List Value) (ia im ib:Int) (hia:ia=F.length) (him:im=F.length+X.length) (hib:ib=F.length+X.length+Y.length) (hn:ib<=n) (hbb:F.length+(X.length+(Y.length+C.length))<=1000000) (B w:World) (I:Im) (As:List X7) (hS:Sat B w I (blk b0 ((F ++ (X ++ (Y ++ C))).map I64 ++ r) 3::As)) :
  Cz 272 [.slice (some (ad b0 0)) n c,I64 ia,I64 im,I64 ib,cv] w fun v w'=>v=.tuple #[]/\Sat B w' I (blk b0 ((F ++ (Y ++ (X ++ C))).map I64 ++ r) 3::As):=by
 refine calls Tryz.func272 rfl Tryz.ntmps272 rfl (.seq (.region (.run 4 rfl ⟨⟨by omega,by omega⟩,trivial⟩ (.nil (.seq (.region (.run 4 rfl ⟨⟨by omega,by omega⟩,trivial⟩ (.nil (.seq (.block ?_))))))))));refine .loop (σ:=Int×Int×List Int×List Int×List Int×List Int) (fun ⟨i,j,F1,X1,Y1,C1⟩=>[(0,.slice (some (ad b0 0)) n c),(2,I64 im),(4,cv),(10,I64 i),(11,I64 j)]) (fun ⟨i,j,F1,X1,Y1,C1⟩ w=>F1 ++ (Y1 ++ (X1 ++ C1))=F ++ (Y ++ (X ++ C))/\i=X1.length/\j=Y1.length/\0<X1.length/\0<Y1.length/\F1.length+X1.length=F.length+X.length/\X1.length+Y1.length<=X.length+Y.length/\Y1.length<=Y.length/\Sat B w I (blk b0 ((F1 ++ (X1 ++ (Y1 ++ C1))).map I64 ++ r) 3::As)) (fun ⟨i,j,F1,X1,Y1,C1⟩=>X1.length+Y1.length) (im - ia,ib - im,F,X,Y,C) ⟨rfl,rfl,rfl,rfl,rfl,trivial⟩ ⟨rfl,by (try dsimp only); omega,by (try dsimp only); omega,hX0,hY0,rfl,Yq _,Yq _,hS⟩ ?_;rintro ⟨i,j,F1,X1,Y1,C1⟩ w ⟨hG,hi,hj,hx0,hy0,hFX,hXY,hYY,hS⟩;have hGl:=congrArg List.length hG;simp only [Y0] at hGl
 refine .seq (.seq (.q 3 rfl ?_));refine .cond rfl (fun hb20=>?_) fun hb20=>?_
 ·have hc20:=hb20; simp only [Y6] at hc20;refine .skip (.block (.seq (.q 3 rfl ?_)));refine .cond rfl (fun hb23=>?_) fun hb23=>?_
  ·have hc23:=hb23; simp only [Y6] at hc23;refine .seq (.region (.run 7 rfl ⟨⟨by omega,by omega⟩,trivial⟩ ?_));obtain ⟨Xa,Xb,rfl,hXa⟩:∃ Xa Xb,X1=Xa ++ Xb/\Xa.length=Y1.length:=⟨X1.take Y1.length,X1.drop Y1.length,(Yv _ _).symm,by rw [Yr]; omega⟩
   simp only [Y0] at hi hx0 hFX hXY hGl
   rw [Yd] at hS;refine .call Xqx rfl (ec9 rfl (ec9 rfl (ec9 rfl (ec9 rfl (ec9 rfl X0))))) rfl (X5g F1 Xa Xb Y1 C1 (by omega) cv b0 n c r _ _ _ (by omega) (by omega) (by omega) (by omega) (by omega) B w I As hS) ?_;rintro _ w ⟨rfl,hS⟩;refine .nil (.region (.run 4 rfl ⟨⟨by omega,by omega⟩,trivial⟩ (.nil ?_)));refine ⟨(i - j,j,F1 ++ Y1,Xb,Xa,C1),⟨rfl,rfl,rfl,rfl,rfl,trivial⟩,⟨by rw [<- hG]; simp only [Yd],by (try dsimp only); omega,by (try dsimp only); omega,by omega,by omega,by simp only [Y0]; omega,by omega,by omega,?_⟩,by (try dsimp only); simp only [Y0]; omega⟩;rw [Yd]; exact hS
  have hc23:=hb23; simp only [Y6] at hc23;refine .seq (.region (.run 11 rfl ⟨⟨by omega,by omega⟩,⟨by omega,by omega⟩,⟨by omega,by omega⟩,trivial⟩ ?_));obtain ⟨Ya,Yb,rfl,hYb⟩:∃ Ya Yb,Y1=Ya ++ Yb/\Yb.length=X1.length:=⟨Y1.take (Y1.length - X1.length),Y1.drop (Y1.length - X1.length),(Yv _ _).symm,by rw [Yg]; omega⟩
  simp only [Y0] at hj hy0 hXY hGl hYY
  rw [Yd Ya] at hS;refine .call Xqx rfl (ec9 rfl (ec9 rfl (ec9 rfl (ec9 rfl (ec9 rfl X0))))) rfl (X5g F1 X1 Ya Yb C1 (by omega) cv b0 n c r _ _ _ (by omega) (by omega) (by omega) (by omega) (by omega) B w I As hS) ?_;rintro _ w ⟨rfl,hS⟩;refine .nil (.region (.run 4 rfl ⟨⟨by omega,by omega⟩,trivial⟩ (.nil ?_)));refine ⟨(i,j - i,F1,Yb,Ya,X1 ++ C1),⟨rfl,rfl,rfl,rfl,rfl,trivial⟩,⟨by rw [<- hG]; simp only [Yd],by (try dsimp only); omega,by (try dsimp only); omega,by omega,by omega,by omega,by omega,by omega,hS⟩,by (try dsimp only); simp only [Y0]; omega⟩
 have hc20:=hb20; simp only [Y6] at hc20;refine .exit (.region (.run 7 rfl ⟨⟨by omega,by omega⟩,trivial⟩ ?_));refine .call Xqx rfl (ec9 rfl (ec9 rfl (ec9 rfl (ec9 rfl (ec9 rfl X0))))) rfl (X5g F1 X1 [] Y1 C1 (by omega) cv b0 n c r _ _ _ (by omega) (by simp only [List.length_nil]; omega) (by omega) (by simp only [List.length_nil]; omega) (by simp only [List.length_nil]; omega) B w I As hS) ?_;rintro _ w ⟨rfl,hS⟩;refine .nil (X9d Tryz.results272 ?_);rw [Ye,hG] at hS;exact ⟨_,rfl,rfl,hS⟩
set_option maxHeartbeats 1000000 in
theorem Xpv {l:List Nat} {p:Addr} {I:Im} (hx:Cx I l p):∀ (N:Nat) (F U V C:List Int),Srt.So (kx l) U->Srt.So (kx l) V->Srt.cross U V->(∀ x∈U ++ V,0<=x/\x<(l.length:Int))->0<U.length->0<V.length->U.length+V.length<=N ->
  ∀ (b0 n c:Nat) (r:List Value) (ia im ib:Int),ia=F.length->im=F.length+U.length->ib=F.length+U.length+V.length->ib<=n->F.length+(U.length+(V.length+C.length))<=1000000->∀ (B w:World) (As:List X7),Sat B w I (blk b0 ((F ++ (U ++ (V ++ C))).map I64 ++ r) 3::As) ->
  Cz 250 [.slice (some (ad b0 0)) n c,I64 ia,I64 im,I64 ib,CF p] w fun v w'=>v=.tuple #[]/\∃ M,M.Perm (U ++ V)/\Srt.So (kx l) M/\Sat B w' I (blk b0 ((F ++ (M ++ C)).map I64 ++ r) 3::As):=by
 intro N
 induction N with
 | zero=>intros; omega
 | succ N ih =>
  intro F U V C hU hV hc hin hU0 hV0 hN b0 n c r ia im ib hia him hib hn hbb B w As hS;refine calls Xmr rfl Tryz.ntmps250 rfl (.seq (.seq ?_));have hUV:∀ v∈U ++ V,0<=v/\v<(l.length:Int):=hin;obtain ⟨D,hD⟩:∃ D,D=F ++ (U ++ (V ++ C)):=⟨_,rfl⟩
  rw [<- hD] at hS;have hDl:D.length=F.length+(U.length+(V.length+C.length)):=by rw [hD]; simp only [Y0]
  have hin2:∀ q:Nat,F.length<=q->q<F.length+(U.length+V.length)->0<=D.getD q 0/\D.getD q 0<(l.length:Int):=fun q h1 h2=>by
   refine hUV _ ?_;have e:D=F ++ ((U ++ V) ++ C):=by rw [hD]; simp only [Yd]
   rw [e];exact Srt.get_mid h1 (by rw [Y0]; exact h2)
  have hDU:∀ q:Nat,q<U.length->D.getD (F.length+q) 0=U.getD q 0:=fun q hq=>by
   rw [hD,Srt.get_app2 (by omega),show F.length+q - F.length=q by omega,Srt.get_app1 hq]
  have hDV:∀ q:Nat,q<V.length->D.getD (F.length+U.length+q) 0=V.getD q 0:=fun q hq=>by
   rw [hD,Srt.get_app2 (by omega),Srt.get_app2 (by omega),show F.length+U.length+q - F.length - U.length=q by omega,Srt.get_app1 hq]
  refine .region (.run 4 rfl ⟨⟨by omega,by omega⟩,trivial⟩ (.nil ?_));refine .cond rfl (fun hb28=>?_) fun hb28=>?_
  ·have hc28:=hb28; simp only [Y6] at hc28;refine .seq ?_;obtain ⟨x,U0,rfl⟩:=Srt.cons_of hU0;obtain rfl:U0=[]:=Yj (by simp only [List.length_cons] at him; omega);have hDx:D.getD ia.toNat 0=x:=by have:=hDU 0 (by simp); rw [show ia.toNat=F.length+0 by omega]; simpa using this
   simp only [List.length_cons,List.length_nil] at him hib hbb hDl hin2 hDV
   refine .q 2 rfl (.seq (.q 2 rfl (.seq (.block ?_))));refine .loop (σ:=Int×Int) (fun ⟨i,j⟩=>[(0,.slice (some (ad b0 0)) n c),(1,I64 ia),(2,I64 im),(3,I64 ib),(4,CF p),(10,I64 i),(11,I64 j)]) (fun ⟨i,j⟩ w=>im<=i/\i<=j/\j<=ib/\(i=im\/kx l (D.getD (i - 1).toNat 0)<kx l x)/\(j=ib\/¬ kx l (D.getD j.toNat 0)<kx l x)/\Sat B w I (blk b0 ((D).map I64 ++ r) 3::As)) (fun ⟨i,j⟩=>(j - i).toNat) (im,ib) ⟨rfl,rfl,rfl,rfl,rfl,rfl,rfl,trivial⟩ ⟨Y3u _,by (try dsimp only); omega,Y3u _,.inl rfl,.inl rfl,hS⟩ ?_;rintro ⟨i,j⟩ w ⟨hi1,hij,hj1,hb1,hb2,hS⟩;refine .seq (.seq (.q 3 rfl ?_));refine .cond rfl (fun hb33=>?_) fun hb33=>?_
   ·have hc33:=hb33; simp only [Y6] at hc33;refine .skip (.block (.seq (.region (.run 3 rfl ⟨⟨by omega,by omega⟩,trivial⟩ ?_))));refine .val (.cvi (.of rfl) Qu3 X6g (by rw [IntKind.wrap_u64]; omega)) rfl (.val (.shr1 (.of rfl) (.of rfl) (by decide)) rfl ?_);refine .val (.cvi (.of rfl) X6g Qu3 (by rw [IntKind.wrap_i64]; omega)) rfl (.q 1 rfl (.nil (.seq (.qt hS (.val (fun w hS=>(.mo rfl)) rfl (.val (fun w hS=>(.mo rfl)) rfl (.val (fun w hS=>(.mo rfl)) rfl (.val (fun w hS=>(.io rfl rfl (by omega) (by omega) Xf Qs3)) rfl (.val (fun w hS=>.ldE I64 D 0 r (i:=((i+j) / 2)) (.of rfl) hS (k:=0) rfl rfl Qg3 (by omega) (by omega)) rfl (.val (fun w hS=>(.mo rfl)) rfl (.val (fun w hS=>(.mo rfl)) rfl (.val (fun w hS=>(.io rfl rfl (by omega) (by omega) Xf Qs3)) rfl (.val (fun w hS=>.ldE I64 D 0 r (i:=ia) (.of rfl) hS (k:=0) rfl rfl Qg3 (by omega) (by omega)) rfl ?_)))))))))))));refine .vcall Xmo rfl (.of rfl) (ec9 rfl (ec9 rfl X0)) rfl (fun w hS=>by have hj1:=hin2 (((i+j) / 2)).toNat (by omega) (by omega); have hj2:=hin2 (ia).toNat (by omega) (by omega); exact Xd3 hx _ _ hj1.1 hj1.2 hj2.1 hj2.2 B w _ hS) ?_;refine .val (fun w hS=>(.lss (.of rfl) (.of rfl))) rfl (.nil ?_);intro w hS;refine .cond rfl (fun hb50=>?_) fun hb50=>?_
    ·have hc50:=hb50; simp only [Y6] at hc50;refine .region (.run 3 rfl ⟨⟨by omega,by omega⟩,trivial⟩ (.nil ?_));have h9:=Srt.cmpv_neg.1 hc50;rw [hDx] at h9;exact ⟨((i+j) / 2+1,j),⟨rfl,rfl,rfl,rfl,rfl,rfl,rfl,trivial⟩,⟨by (try dsimp only); omega,by (try dsimp only); omega,hj1,.inr (by (try dsimp only); rw [show (i+j) / 2+1 - 1=(i+j) / 2 by omega]; exact h9),hb2,hS⟩,by (try dsimp only); omega⟩
    have hc50:=hb50; simp only [Y6] at hc50;refine .q 2 rfl ?_;have h9:¬ _:=fun h=>(Int.not_lt.2 hc50) (Srt.cmpv_neg.2 h)
    rw [hDx] at h9;exact ⟨(i,(i+j) / 2),⟨rfl,rfl,rfl,rfl,rfl,rfl,rfl,trivial⟩,⟨hi1,by (try dsimp only); omega,by (try dsimp only); omega,hb1,.inr h9,hS⟩,by (try dsimp only); omega⟩
   have hc33:=hb33; simp only [Y6] at hc33;refine .exit (.seq (.seq ?_));have hij:i=j:=by omega
   subst hij;have hiV:(i - im).toNat<=V.length:=by omega
   have hso:Srt.So (kx l) (V.take (i - im).toNat ++ x::V.drop (i - im).toNat):=by
    refine Srt.so_left hV (fun v hv=>hc x (by simp) v hv) hiV ?_ ?_
    ·by_cases hz:i=im
     ·exact .inl (by omega)
     ·refine .inr ?_;have h:=hb1.resolve_left hz;rw [<- hDV ((i - im).toNat - 1) (by omega),show F.length+(0+1)+((i - im).toNat - 1)=(i - 1).toNat by omega];exact h
    ·by_cases hz:i=ib
     ·exact .inl (by omega)
     ·refine .inr ?_;have h:=hb2.resolve_left hz;rw [<- hDV (i - im).toNat (by omega),show F.length+(0+1)+(i - im).toNat=i.toNat by omega];exact h
   obtain ⟨Va,Vb,hVab,hVal,hso2⟩:∃ Va Vb,V=Va ++ Vb/\(Va.length:Int)=i - im/\Srt.So (kx l) (Va ++ x::Vb):=⟨_,_,(Yv (i - im).toNat V).symm,by rw [Yr]; omega,hso⟩
   refine .q 2 rfl (.block ?_);refine .loop (σ:=Int×List Int×List Int) (fun ⟨k,Vc,Vd⟩=>[(0,.slice (some (ad b0 0)) n c),(10,I64 i),(13,I64 k)]) (fun ⟨k,Vc,Vd⟩ w=>k=(F.length:Int)+Vc.length/\Vc ++ Vd=Va/\Sat B w I (blk b0 ((F ++ (Vc ++ x::(Vd ++ (Vb ++ C)))).map I64 ++ r) 3::As)) (fun ⟨k,Vc,Vd⟩=>Vd.length) (ia,[],Va) ⟨rfl,rfl,rfl,trivial⟩ ⟨by simp only [List.length_nil]; omega,rfl,by rw [hD,hVab] at hS; simpa using hS⟩ ?_;rintro ⟨k,Vc,Vd⟩ w ⟨hk,hcd,hS⟩;have hcl:=congrArg List.length hcd;rw [Y0] at hcl;have hVl:=congrArg List.length hVab;rw [Y0] at hVl;obtain ⟨E,hE⟩:∃ E,E=F ++ (Vc ++ x::(Vd ++ (Vb ++ C))):=⟨_,rfl⟩
   rw [<- hE] at hS;have hEl:E.length=F.length+(Vc.length+1+Vd.length+(Vb.length+C.length)):=by rw [hE]; simp only [Y0,List.length_cons]; omega
   refine .seq (.seq (.region (.run 4 rfl ⟨⟨by omega,by omega⟩,trivial⟩ (.nil ?_))));refine .cond rfl (fun hb58=>?_) fun hb58=>?_
   ·have hc58:=hb58; simp only [Y6] at hc58;refine .skip (.seq (.block (.dw (fun w=>∃ R,Sat B w I (blk b0 ((E).map I64 ++ r) 3::R)) (fun j=>!([15,17].contains j)) ?_)));replace hS:=hS.drew; generalize w.drew=w at hS ⊢;have hH:=(hS.x [0])
    refine .tp 0 rfl (fun w=>(.mo rfl)) (.tp 1 rfl (fun w=>(.mo rfl)) (.tp 2 rfl (fun w=>(.mo rfl)) (.tp 3 rfl (fun w=>(.mo rfl)) (.tp 4 rfl (fun w=>(.add (.of rfl) (.of rfl) ⟨by omega,by omega⟩)) (.tp 5 rfl (fun w=>(.mo rfl)) (.tp 6 rfl (fun w=>(.mo rfl)) (.tp 7 rfl (fun w=>(.add (.of rfl) (.of rfl) ⟨by omega,by omega⟩)) (.tp 8 rfl (fun w=>(.io rfl rfl (by omega) (by omega) Xf Qs3)) (.tk 9 rfl ⟨_,hH⟩ (fun w ⟨R,hS⟩=>.ldE I64 E 0 r (i:=k+1) (.of rfl) hS (k:=0) rfl rfl Qg3 (by omega) (by omega)) (.tp 10 rfl (fun w=>(.mo rfl)) (.tp 11 rfl (fun w=>(.mo rfl)) (.tp 12 rfl (fun w=>(.io rfl rfl (by omega) (by omega) Xf Qs3)) (.tk 13 rfl ⟨_,hH⟩ (fun w ⟨R,hS⟩=>.ldE I64 E 0 r (i:=k) (.of rfl) hS (k:=0) rfl rfl Qg3 (by omega) (by omega)) (.tp 14 rfl (fun w=>(.io rfl rfl (by omega) (by omega) Xf Qs3)) ?_))))))))))))));refine .b1 15 rfl (.stE I64 _ r hS (k:=0) rfl (.of rfl) (.of rfl) rfl rfl Qs3 (by omega) (by (try rw [Y2a]); omega) ?_);intro w hS; dsimp only [List.set] at hS;refine .nil ?_;refine And.intro (by intro h; cases h) ?_;refine .tp 16 rfl (fun w=>(.io rfl rfl (by omega) (by omega) Xf Qs3)) (.b1 17 rfl (.stE I64 _ r hS (k:=0) rfl (.of rfl) (.of rfl) rfl rfl Qs3 (by omega) (by (try rw [Y2a]); omega) ?_));intro w hS; dsimp only [List.set] at hS;refine .nil ?_;refine And.intro (by intro h; cases h) ?_;refine .dn (.region (.run 3 rfl ⟨⟨by omega,by omega⟩,trivial⟩ (.nil ?_)));obtain ⟨y,Ve,rfl⟩:=Srt.cons_of (U:=Vd) (by omega);have e1:E=(F ++ Vc) ++ x::y::(Ve ++ (Vb ++ C)):=by rw [hE]; simp only [Yd,Ys]
    have e:=Srt.swp_adj (F ++ Vc) (Ve ++ (Vb ++ C)) x y;rw [<- e1,show (F ++ Vc).length=k.toNat by rw [Y0]; omega,show k.toNat+1=(k+1).toNat by omega] at e;unfold Srt.swp at e;rw [e] at hS;refine ⟨(k+1,Vc ++ [y],Ve),⟨rfl,rfl,rfl,trivial⟩,⟨by simp only [Y0,List.length_cons,List.length_nil]; omega,by rw [<- hcd]; simp,?_⟩,by simp⟩;have e2:F ++ ((Vc ++ [y]) ++ x::(Ve ++ (Vb ++ C)))=(F ++ Vc) ++ y::x::(Ve ++ (Vb ++ C)):=by simp only [Yd,Ys,Ye]
    rw [e2]; exact hS
   have hc58:=hb58; simp only [Y6] at hc58;refine .exit (.ret (ret0 Xr5 ?_));have hd0:Vd=[]:=Yj (by have:=congrArg List.length hVab; rw [Y0] at this; omega);subst hd0;rw [Y9] at hcd;rw [hE,hcd] at hS;refine ⟨_,rfl,rfl,Va ++ x::Vb,?_,hso2,by simpa using hS⟩;rw [hVab];exact Y5m
  have hc28:=hb28; simp only [Y6] at hc28;refine .skip (.seq (.seq (.region (.run 4 rfl ⟨⟨by omega,by omega⟩,trivial⟩ (.nil ?_)))));refine .cond rfl (fun hb80=>?_) fun hb80=>?_
  ·have hc80:=hb80; simp only [Y6] at hc80;refine .seq ?_;obtain ⟨y,V0,rfl⟩:=Srt.cons_of hV0;obtain rfl:V0=[]:=Yj (by simp only [List.length_cons] at hib; omega);have hDy:D.getD im.toNat 0=y:=by have:=hDV 0 (by simp); rw [show im.toNat=F.length+U.length+0 by omega]; simpa using this
   simp only [List.length_cons,List.length_nil] at hib hbb hDl hin2
   refine .q 2 rfl (.seq (.q 2 rfl (.seq (.block ?_))));refine .loop (σ:=Int×Int) (fun ⟨i,j⟩=>[(0,.slice (some (ad b0 0)) n c),(1,I64 ia),(2,I64 im),(3,I64 ib),(4,CF p),(14,I64 i),(15,I64 j)]) (fun ⟨i,j⟩ w=>ia<=i/\i<=j/\j<=im/\(i=ia\/¬ kx l y<kx l (D.getD (i - 1).toNat 0))/\(j=im\/kx l y<kx l (D.getD j.toNat 0))/\Sat B w I (blk b0 ((D).map I64 ++ r) 3::As)) (fun ⟨i,j⟩=>(j - i).toNat) (ia,im) ⟨rfl,rfl,rfl,rfl,rfl,rfl,rfl,trivial⟩ ⟨Y3u _,by (try dsimp only); omega,Y3u _,.inl rfl,.inl rfl,hS⟩ ?_;rintro ⟨i,j⟩ w ⟨hi1,hij,hj1,hb1,hb2,hS⟩;refine .seq (.seq (.q 3 rfl ?_));refine .cond rfl (fun hb85=>?_) fun hb85=>?_
   ·have hc85:=hb85; simp only [Y6] at hc85;refine .skip (.block (.seq (.region (.run 3 rfl ⟨⟨by omega,by omega⟩,trivial⟩ ?_))));refine .val (.cvi (.of rfl) Qu3 X6g (by rw [IntKind.wrap_u64]; omega)) rfl (.val (.shr1 (.of rfl) (.of rfl) (by decide)) rfl ?_);refine .val (.cvi (.of rfl) X6g Qu3 (by rw [IntKind.wrap_i64]; omega)) rfl (.q 1 rfl (.nil (.seq (.qt hS (.val (fun w hS=>(.mo rfl)) rfl (.val (fun w hS=>(.mo rfl)) rfl (.val (fun w hS=>(.mo rfl)) rfl (.val (fun w hS=>(.io rfl rfl (by omega) (by omega) Xf Qs3)) rfl (.val (fun w hS=>.ldE I64 D 0 r (i:=im) (.of rfl) hS (k:=0) rfl rfl Qg3 (by omega) (by omega)) rfl (.val (fun w hS=>(.mo rfl)) rfl (.val (fun w hS=>(.mo rfl)) rfl (.val (fun w hS=>(.io rfl rfl (by omega) (by omega) Xf Qs3)) rfl (.val (fun w hS=>.ldE I64 D 0 r (i:=((i+j) / 2)) (.of rfl) hS (k:=0) rfl rfl Qg3 (by omega) (by omega)) rfl ?_)))))))))))));refine .vcall Xmo rfl (.of rfl) (ec9 rfl (ec9 rfl X0)) rfl (fun w hS=>by have hj1:=hin2 (im).toNat (by omega) (by omega); have hj2:=hin2 (((i+j) / 2)).toNat (by omega) (by omega); exact Xd3 hx _ _ hj1.1 hj1.2 hj2.1 hj2.2 B w _ hS) ?_;refine .val (fun w hS=>(.lss (.of rfl) (.of rfl))) rfl (.val (fun w hS=>(.not (.of rfl))) rfl (.nil ?_));intro w hS;refine .cond rfl (fun hb103=>?_) fun hb103=>?_
    ·have hc103:=hb103; simp only [Y6] at hc103;refine .region (.run 3 rfl ⟨⟨by omega,by omega⟩,trivial⟩ (.nil ?_));have h9:¬ _:=fun h=>(Int.not_lt.2 hc103) (Srt.cmpv_neg.2 h)
     rw [hDy] at h9;exact ⟨((i+j) / 2+1,j),⟨rfl,rfl,rfl,rfl,rfl,rfl,rfl,trivial⟩,⟨by (try dsimp only); omega,by (try dsimp only); omega,hj1,.inr (by (try dsimp only); rw [show (i+j) / 2+1 - 1=(i+j) / 2 by omega]; exact h9),hb2,hS⟩,by (try dsimp only); omega⟩
    have hc103:=hb103; simp only [Y6] at hc103;refine .q 2 rfl ?_;have h9:=Srt.cmpv_neg.1 hc103;rw [hDy] at h9;exact ⟨(i,(i+j) / 2),⟨rfl,rfl,rfl,rfl,rfl,rfl,rfl,trivial⟩,⟨hi1,by (try dsimp only); omega,by (try dsimp only); omega,hb1,.inr h9,hS⟩,by (try dsimp only); omega⟩
   have hc85:=hb85; simp only [Y6] at hc85;refine .exit (.seq (.seq ?_));have hij:i=j:=by omega
   subst hij;have hso:Srt.So (kx l) (U.take (i - ia).toNat ++ y::U.drop (i - ia).toNat):=by
    refine Srt.so_right hU (fun v hv=>hc v hv y (by simp)) (by omega) ?_ ?_
    ·by_cases hz:i=ia
     ·exact .inl (by omega)
     ·refine .inr ?_;have h:=hb1.resolve_left hz;rw [<- hDU ((i - ia).toNat - 1) (by omega),show F.length+((i - ia).toNat - 1)=(i - 1).toNat by omega];exact h
    ·by_cases hz:i=im
     ·exact .inl (by omega)
     ·refine .inr ?_;have h:=hb2.resolve_left hz;rw [<- hDU (i - ia).toNat (by omega),show F.length+(i - ia).toNat=i.toNat by omega];exact h
   obtain ⟨Ua,Ub,hUab,hUal,hso2⟩:∃ Ua Ub,U=Ua ++ Ub/\(Ua.length:Int)=i - ia/\Srt.So (kx l) (Ua ++ y::Ub):=⟨_,_,(Yv (i - ia).toNat U).symm,by rw [Yr]; omega,hso⟩
   have hUl:=congrArg List.length hUab;rw [Y0] at hUl;refine .q 2 rfl (.block ?_);refine .loop (σ:=Int×List Int×List Int) (fun ⟨k,Uc,Ud⟩=>[(0,.slice (some (ad b0 0)) n c),(14,I64 i),(17,I64 k)]) (fun ⟨k,Uc,Ud⟩ w=>k=(F.length:Int)+Ua.length+Uc.length/\Uc ++ Ud=Ub/\Sat B w I (blk b0 ((F ++ (Ua ++ (Uc ++ y::(Ud ++ C)))).map I64 ++ r) 3::As)) (fun ⟨k,Uc,Ud⟩=>Uc.length) (im,Ub,[]) ⟨rfl,rfl,rfl,trivial⟩ ⟨by (try dsimp only); omega,by simp,by rw [hD,hUab] at hS; simpa using hS⟩ ?_;rintro ⟨k,Uc,Ud⟩ w ⟨hk,hcd,hS⟩;have hcl:=congrArg List.length hcd;rw [Y0] at hcl;obtain ⟨E,hE⟩:∃ E,E=F ++ (Ua ++ (Uc ++ y::(Ud ++ C))):=⟨_,rfl⟩
   rw [<- hE] at hS;have hEl:E.length=F.length+(Ua.length+(Uc.length+1+Ud.length+C.length)):=by rw [hE]; simp only [Y0,List.length_cons]; omega
   refine .seq (.seq (.q 3 rfl ?_));refine .cond rfl (fun hb110=>?_) fun hb110=>?_
   ·have hc110:=hb110; simp only [Y6] at hc110;refine .skip (.seq (.block (.dw (fun w=>∃ R,Sat B w I (blk b0 ((E).map I64 ++ r) 3::R)) (fun j=>!([15,17].contains j)) ?_)));replace hS:=hS.drew; generalize w.drew=w at hS ⊢;have hH:=(hS.x [0])
    refine .tp 0 rfl (fun w=>(.mo rfl)) (.tp 1 rfl (fun w=>(.mo rfl)) (.tp 2 rfl (fun w=>(.mo rfl)) (.tp 3 rfl (fun w=>(.mo rfl)) (.tp 4 rfl (fun w=>(.sub (.of rfl) (.of rfl) ⟨by omega,by omega⟩)) (.tp 5 rfl (fun w=>(.mo rfl)) (.tp 6 rfl (fun w=>(.mo rfl)) (.tp 7 rfl (fun w=>(.sub (.of rfl) (.of rfl) ⟨by omega,by omega⟩)) (.tp 8 rfl (fun w=>(.io rfl rfl (by omega) (by omega) Xf Qs3)) (.tk 9 rfl ⟨_,hH⟩ (fun w ⟨R,hS⟩=>.ldE I64 E 0 r (i:=k - 1) (.of rfl) hS (k:=0) rfl rfl Qg3 (by omega) (by omega)) (.tp 10 rfl (fun w=>(.mo rfl)) (.tp 11 rfl (fun w=>(.mo rfl)) (.tp 12 rfl (fun w=>(.io rfl rfl (by omega) (by omega) Xf Qs3)) (.tk 13 rfl ⟨_,hH⟩ (fun w ⟨R,hS⟩=>.ldE I64 E 0 r (i:=k) (.of rfl) hS (k:=0) rfl rfl Qg3 (by omega) (by omega)) (.tp 14 rfl (fun w=>(.io rfl rfl (by omega) (by omega) Xf Qs3)) ?_))))))))))))));refine .b1 15 rfl (.stE I64 _ r hS (k:=0) rfl (.of rfl) (.of rfl) rfl rfl Qs3 (by omega) (by (try rw [Y2a]); omega) ?_);intro w hS; dsimp only [List.set] at hS;refine .nil ?_;refine And.intro (by intro h; cases h) ?_;refine .tp 16 rfl (fun w=>(.io rfl rfl (by omega) (by omega) Xf Qs3)) (.b1 17 rfl (.stE I64 _ r hS (k:=0) rfl (.of rfl) (.of rfl) rfl rfl Qs3 (by omega) (by (try rw [Y2a]); omega) ?_));intro w hS; dsimp only [List.set] at hS;refine .nil ?_;refine And.intro (by intro h; cases h) ?_;refine .dn (.region (.run 3 rfl ⟨⟨by omega,by omega⟩,trivial⟩ (.nil ?_)));obtain ⟨Ue,q,rfl⟩:=Srt.concat_of (U:=Uc) (by omega);simp only [Y0,List.length_cons,List.length_nil] at hk hEl hcl
    have e1:E=(F ++ (Ua ++ Ue)) ++ q::y::(Ud ++ C):=by rw [hE]; simp only [Yd,Ys,Ye]
    have e:=Srt.swp_adj (F ++ (Ua ++ Ue)) (Ud ++ C) q y;rw [<- e1,show (F ++ (Ua ++ Ue)).length=(k - 1).toNat by simp only [Y0]; omega,show (k - 1).toNat+1=k.toNat by omega,Srt.swp_comm (by omega)] at e;unfold Srt.swp at e;rw [e] at hS;refine ⟨(k - 1,Ue,q::Ud),⟨rfl,rfl,rfl,trivial⟩,⟨by (try dsimp only); omega,by rw [<- hcd]; simp,?_⟩,by simp⟩;have e2:F ++ (Ua ++ (Ue ++ y::((q::Ud) ++ C)))=(F ++ (Ua ++ Ue)) ++ y::q::(Ud ++ C):=by simp only [Yd,Ys]
    rw [e2]; exact hS
   have hc110:=hb110; simp only [Y6] at hc110;refine .exit (.ret (ret0 Xr5 ?_));have hc0:Uc=[]:=Yj (by omega);subst hc0;rw [Ye] at hcd;rw [hE,hcd] at hS;refine ⟨_,rfl,rfl,Ua ++ y::Ub,?_,hso2,by simpa using hS⟩;rw [hUab,Yd];exact List.Perm.append_left Ua (Y1u:([y] ++ Ub).Perm (Ub ++ [y]))
  have hc80:=hb80; simp only [Y6] at hc80;refine .skip (.seq (.region (.run 3 rfl ⟨⟨by omega,by omega⟩,trivial⟩ ?_)));refine .val (.cvi (.of rfl) Qu3 X6g (by rw [IntKind.wrap_u64]; omega)) rfl (.val (.shr1 (.of rfl) (.of rfl) (by decide)) rfl ?_);refine .val (.cvi (.of rfl) X6g Qu3 (by rw [IntKind.wrap_i64]; omega)) rfl (.q 1 rfl (.nil (.seq (.region (.run 4 rfl ⟨⟨by omega,by omega⟩,trivial⟩ (.nil (.seq (.q 2 rfl ?_))))))));refine .cutS (σ:=Int×Int) (fun ⟨s0,r0⟩=>[(0,.slice (some (ad b0 0)) n c),(1,I64 ia),(2,I64 im),(3,I64 ib),(4,CF p),(18,I64 ((ia+ib) / 2)),(19,I64 (((ia+ib) / 2)+im)),(20,I64 s0),(21,I64 r0)]) (fun ⟨s0,r0⟩ w=>((((ia+ib) / 2)<im/\s0=((ia+ib) / 2)+im - ib/\r0=((ia+ib) / 2))\/(im<=((ia+ib) / 2)/\s0=ia/\r0=im))/\Sat B w I (blk b0 ((D).map I64 ++ r) 3::As)) ?_ ?_
  ·refine .seq (.q 3 rfl ?_);refine .cond rfl (fun hb140=>?_) fun hb140=>?_
   ·have hc140:=hb140; simp only [Y6] at hc140;refine .seq (.region (.run 4 rfl ⟨⟨by omega,by omega⟩,trivial⟩ (.nil (.q 2 rfl ?_))));exact ⟨(((ia+ib) / 2)+im - ib,((ia+ib) / 2)),⟨rfl,rfl,rfl,rfl,rfl,rfl,rfl,rfl,rfl,trivial⟩,.inl ⟨hc140,rfl,rfl⟩,hS⟩
   have hc140:=hb140; simp only [Y6] at hc140;refine .seq (.q 2 rfl (.q 2 rfl ?_));exact ⟨(ia,im),⟨rfl,rfl,rfl,rfl,rfl,rfl,rfl,rfl,rfl,trivial⟩,.inr ⟨hc140,rfl,rfl⟩,hS⟩
  rintro ⟨s0,r0⟩ w ⟨h0,hS⟩;refine .seq (.region (.run 3 rfl ⟨⟨by omega,by omega⟩,trivial⟩ (.nil (.seq (.block ?_)))));refine .loop (σ:=Int×Int) (fun ⟨s,q⟩=>[(0,.slice (some (ad b0 0)) n c),(1,I64 ia),(2,I64 im),(3,I64 ib),(4,CF p),(18,I64 ((ia+ib) / 2)),(19,I64 (((ia+ib) / 2)+im)),(20,I64 s),(21,I64 q),(22,I64 (((ia+ib) / 2)+im - 1))]) (fun ⟨s,q⟩ w=>s0<=s/\s<=q/\q<=r0/\(s=s0\/¬ kx l (D.getD (((ia+ib) / 2)+im - 1 - (s - 1)).toNat 0)<kx l (D.getD (s - 1).toNat 0))/\(q=r0\/kx l (D.getD (((ia+ib) / 2)+im - 1 - q).toNat 0)<kx l (D.getD q.toNat 0))/\Sat B w I (blk b0 ((D).map I64 ++ r) 3::As)) (fun ⟨s,q⟩=>(q - s).toNat) (s0,r0) ⟨rfl,rfl,rfl,rfl,rfl,rfl,rfl,rfl,rfl,rfl,trivial⟩ ⟨Y3u _,by (try dsimp only); omega,Y3u _,.inl rfl,.inl rfl,hS⟩ ?_;rintro ⟨s,q⟩ w ⟨hs0,hsq,hq0,hb1,hb2,hS⟩;refine .seq (.seq (.q 3 rfl ?_));refine .cond rfl (fun hb151=>?_) fun hb151=>?_
  ·have hc151:=hb151; simp only [Y6] at hc151;refine .skip (.block (.seq (.region (.run 3 rfl ⟨⟨by omega,by omega⟩,trivial⟩ ?_))));refine .val (.cvi (.of rfl) Qu3 X6g (by rw [IntKind.wrap_u64]; omega)) rfl (.val (.shr1 (.of rfl) (.of rfl) (by decide)) rfl ?_);refine .val (.cvi (.of rfl) X6g Qu3 (by rw [IntKind.wrap_i64]; omega)) rfl (.q 1 rfl (.nil (.seq (.qt hS (.val (fun w hS=>(.mo rfl)) rfl (.val (fun w hS=>(.mo rfl)) rfl (.val (fun w hS=>(.mo rfl)) rfl (.val (fun w hS=>(.mo rfl)) rfl (.val (fun w hS=>(.sub (.of rfl) (.of rfl) ⟨by omega,by omega⟩)) rfl (.val (fun w hS=>(.io rfl rfl (by omega) (by omega) Xf Qs3)) rfl (.val (fun w hS=>.ldE I64 D 0 r (i:=((ia+ib) / 2)+im - 1 - ((s+q) / 2)) (.of rfl) hS (k:=0) rfl rfl Qg3 (by omega) (by omega)) rfl (.val (fun w hS=>(.mo rfl)) rfl (.val (fun w hS=>(.mo rfl)) rfl (.val (fun w hS=>(.io rfl rfl (by omega) (by omega) Xf Qs3)) rfl (.val (fun w hS=>.ldE I64 D 0 r (i:=((s+q) / 2)) (.of rfl) hS (k:=0) rfl rfl Qg3 (by omega) (by omega)) rfl ?_)))))))))))))));refine .vcall Xmo rfl (.of rfl) (ec9 rfl (ec9 rfl X0)) rfl (fun w hS=>by have hj1:=hin2 (((ia+ib) / 2)+im - 1 - ((s+q) / 2)).toNat (by omega) (by omega); have hj2:=hin2 (((s+q) / 2)).toNat (by omega) (by omega); exact Xd3 hx _ _ hj1.1 hj1.2 hj2.1 hj2.2 B w _ hS) ?_;refine .val (fun w hS=>(.lss (.of rfl) (.of rfl))) rfl (.val (fun w hS=>(.not (.of rfl))) rfl (.nil ?_));intro w hS;refine .cond rfl (fun hb171=>?_) fun hb171=>?_
   ·have hc171:=hb171; simp only [Y6] at hc171;refine .region (.run 3 rfl ⟨⟨by omega,by omega⟩,trivial⟩ (.nil ?_));have h9:¬ _:=fun h=>(Int.not_lt.2 hc171) (Srt.cmpv_neg.2 h)
    exact ⟨((s+q) / 2+1,q),⟨rfl,rfl,rfl,rfl,rfl,rfl,rfl,rfl,rfl,rfl,trivial⟩,⟨by (try dsimp only); omega,by (try dsimp only); omega,hq0,.inr (by (try dsimp only); rw [show (s+q) / 2+1 - 1=(s+q) / 2 by omega]; exact h9),hb2,hS⟩,by (try dsimp only); omega⟩
   have hc171:=hb171; simp only [Y6] at hc171;refine .q 2 rfl ?_;have h9:=Srt.cmpv_neg.1 hc171;exact ⟨(s,(s+q) / 2),⟨rfl,rfl,rfl,rfl,rfl,rfl,rfl,rfl,rfl,rfl,trivial⟩,⟨hs0,by (try dsimp only); omega,by (try dsimp only); omega,hb1,.inr h9,hS⟩,by (try dsimp only); omega⟩
  have hc151:=hb151; simp only [Y6] at hc151;refine .exit (.seq ?_);have hsq:s=q:=by omega
  subst hsq;have hsp:=Srt.split_lt hU hV hc (s:=(s - ia).toNat) (e:=(((ia+ib) / 2) - s).toNat) (by omega) (by omega) (by
   by_cases hz1:s=ia
   ·exact .inl (by omega)
   by_cases hz2:(((ia+ib) / 2) - s).toNat=V.length
   ·exact .inr (.inl hz2)
   rcases hb1 with h | h
   ·rcases h0 with h0 | h0
    ·exact .inr (.inl (by omega))
    ·exact .inl (by omega)
   ·refine .inr (.inr ?_);rw [show (((ia+ib) / 2)+im - 1 - (s - 1)).toNat=F.length+U.length+(((ia+ib) / 2) - s).toNat by omega,hDV (((ia+ib) / 2) - s).toNat (by omega),show (s - 1).toNat=F.length+((s - ia).toNat - 1) by omega,hDU ((s - ia).toNat - 1) (by omega)] at h;exact Srt.not_bef_later (hc _ (Srt.getD_mem (by omega)) _ (Srt.getD_mem (by omega))) h) (by
   by_cases hz1:s=((ia+ib) / 2)
   ·exact .inl (by omega)
   by_cases hz2:(s - ia).toNat=U.length
   ·exact .inr (.inl hz2)
   rcases hb2 with h | h
   ·rcases h0 with h0 | h0
    ·exact .inl (by omega)
    ·exact .inr (.inl (by omega))
   ·refine .inr (.inr ?_);rw [show (((ia+ib) / 2)+im - 1 - s).toNat=F.length+U.length+((((ia+ib) / 2) - s).toNat - 1) by omega,hDV ((((ia+ib) / 2) - s).toNat - 1) (by omega),show s.toNat=F.length+(s - ia).toNat by omega,hDU (s - ia).toNat (by omega)] at h;exact (Srt.bef_later (hc _ (Srt.getD_mem (by omega)) _ (Srt.getD_mem (by omega)))).2 h)
  have hs1:0<=s - ia/\s - ia<=U.length/\0<=((ia+ib) / 2) - s/\((ia+ib) / 2) - s<=V.length:=by omega
  obtain ⟨Ua,Ub,Va,Vb,hUab,hVab,hUal,hVal,hsp2⟩:∃ Ua Ub Va Vb,U=Ua ++ Ub/\V=Va ++ Vb/\(Ua.length:Int)=s - ia/\(Va.length:Int)=((ia+ib) / 2) - s/\(∀ x∈Ua ++ Va,∀ y∈Ub ++ Vb,Srt.bef (kx l) x y) :=
   ⟨_,_,_,_,(Yv (s - ia).toNat U).symm,(Yv (((ia+ib) / 2) - s).toNat V).symm,by rw [Yr]; omega,by rw [Yr]; omega,hsp⟩
  clear hsp;have hUl:=congrArg List.length hUab;rw [Y0] at hUl;have hVl:=congrArg List.length hVab;rw [Y0] at hVl;rw [hD,hUab,hVab] at hS;rw [hUab] at hU;rw [hVab] at hV;rw [hUab,hVab] at hc hin;have hUa:=(Y1t.1 hU).1;have hUb:=(Y1t.1 hU).2.1;have hVa:=(Y1t.1 hV).1;have hVb:=(Y1t.1 hV).2.1;refine .region (.run 4 rfl ⟨⟨by omega,by omega⟩,trivial⟩ (.nil ?_));refine .cutS (σ:=Unit) (fun _=>[(0,.slice (some (ad b0 0)) n c),(1,I64 ia),(3,I64 ib),(4,CF p),(18,I64 ((ia+ib) / 2)),(20,I64 s),(24,I64 (((ia+ib) / 2)+im - s))]) (fun _ w=>Sat B w I (blk b0 ((F ++ (Ua ++ (Va ++ (Ub ++ (Vb ++ C))))).map I64 ++ r) 3::As)) ?_ ?_
  ·refine .seq (.t 4 rfl (.gm rfl rfl rfl rfl (.gm rfl rfl rfl rfl (.gval rfl rfl (fun hg1=>(.lss (.gd hg1 rfl) (.gd hg1 rfl))) rfl (.val (.pa rfl rfl rfl) rfl (.nil ?_))))));refine .cond rfl (fun hb185=>?_) fun hb185=>?_
   ·have hc185:=hb185; simp only [Y6] at hc185;refine .t 5 rfl ?_;rw [show F ++ ((Ua ++ Ub) ++ ((Va ++ Vb) ++ C))=(F ++ Ua) ++ (Ub ++ (Va ++ (Vb ++ C))) by simp only [Yd]] at hS;refine .call Tryz.func272 rfl (ec9 rfl (ec9 rfl (ec9 rfl (ec9 rfl (ec9 rfl X0))))) rfl (Xx6 (F ++ Ua) Ub Va (Vb ++ C) (by omega) (by omega) (CF p) b0 n c r _ _ _ (by rw [Y0]; omega) (by rw [Y0]; omega) (by rw [Y0]; omega) (by omega) (by simp only [Y0]; omega) B w I As hS) ?_;rintro _ w ⟨rfl,hS⟩;refine .nil ?_;rw [show (F ++ Ua) ++ (Va ++ (Ub ++ (Vb ++ C)))=F ++ (Ua ++ (Va ++ (Ub ++ (Vb ++ C)))) by simp only [Yd]] at hS;exact ⟨(),⟨rfl,rfl,rfl,rfl,rfl,rfl,rfl,trivial⟩,hS⟩
   have hc185:=hb185; simp only [Y6] at hc185;refine .skip ?_;have e:F ++ ((Ua ++ Ub) ++ ((Va ++ Vb) ++ C))=F ++ (Ua ++ (Va ++ (Ub ++ (Vb ++ C)))):=by
    rcases hc185 with h | h
    ·obtain rfl:Ub=[]:=Yj (by omega);simp only [Yd,Ye]
    ·obtain rfl:Va=[]:=Yj (by omega);simp only [Yd,Ye]
   rw [e] at hS;exact ⟨(),⟨rfl,rfl,rfl,rfl,rfl,rfl,rfl,trivial⟩,hS⟩
  rintro _ w hS;refine .cutS (σ:=List Int) (fun M1=>[(0,.slice (some (ad b0 0)) n c),(1,I64 ia),(3,I64 ib),(4,CF p),(18,I64 ((ia+ib) / 2)),(20,I64 s),(24,I64 (((ia+ib) / 2)+im - s))]) (fun M1 w=>M1.Perm (Ua ++ Va)/\Srt.So (kx l) M1/\Sat B w I (blk b0 ((F ++ (M1 ++ (Ub ++ (Vb ++ C)))).map I64 ++ r) 3::As)) ?_ ?_
  ·refine .seq (.t 4 rfl (.gm rfl rfl rfl rfl (.gm rfl rfl rfl rfl (.gval rfl rfl (fun hg1=>(.lss (.gd hg1 rfl) (.gd hg1 rfl))) rfl (.val (.pa rfl rfl rfl) rfl (.nil ?_))))));refine .cond rfl (fun hb199=>?_) fun hb199=>?_
   ·have hc199:=hb199; simp only [Y6] at hc199;refine .t 5 rfl ?_;have hUa0:0<Ua.length:=by omega
    have hVa0:0<Va.length:=by omega
    refine .call Xmr rfl (ec9 rfl (ec9 rfl (ec9 rfl (ec9 rfl (ec9 rfl X0))))) rfl (ih F Ua Va (Ub ++ (Vb ++ C)) hUa hVa (Srt.cross_sub hc (fun _ h=>Y1s _ h) (fun _ h=>Y1s _ h)) (fun x hx=>hin x (by rcases Y12.1 hx with h | h <;> simp [h])) hUa0 hVa0 (by omega) b0 n c r _ _ _ (by omega) (by omega) (by omega) (by omega) (by simp only [Y0]; omega) B w As hS) ?_;rintro _ w ⟨rfl,M1,hM1,hMs,hS⟩;refine .nil ?_;exact ⟨M1,⟨rfl,rfl,rfl,rfl,rfl,rfl,rfl,trivial⟩,hM1,hMs,hS⟩
   have hc199:=hb199; simp only [Y6] at hc199;refine .skip ?_;have e:Srt.So (kx l) (Ua ++ Va):=by
    rcases hc199 with h | h
    ·obtain rfl:Ua=[]:=Yj (by omega);simpa using hVa
    ·obtain rfl:Va=[]:=Yj (by omega);simpa using hUa
   refine ⟨Ua ++ Va,⟨rfl,rfl,rfl,rfl,rfl,rfl,rfl,trivial⟩,.refl _,e,?_⟩;rw [Yd]; exact hS
  rintro M1 w ⟨hM1,hMs,hS⟩;refine .seq (.t 4 rfl (.gm rfl rfl rfl rfl (.gm rfl rfl rfl rfl (.gval rfl rfl (fun hg1=>(.lss (.gd hg1 rfl) (.gd hg1 rfl))) rfl (.val (.pa rfl rfl rfl) rfl (.nil ?_))))));refine .cond rfl (fun hb213=>?_) fun hb213=>?_
  ·have hc213:=hb213; simp only [Y6] at hc213;refine .t 5 rfl ?_;have hUb0:0<Ub.length:=by omega
   have hVb0:0<Vb.length:=by omega
   have hMl:=hM1.length_eq;rw [Y0] at hMl;rw [show F ++ (M1 ++ (Ub ++ (Vb ++ C)))=(F ++ M1) ++ (Ub ++ (Vb ++ C)) by simp only [Yd]] at hS;refine .call Xmr rfl (ec9 rfl (ec9 rfl (ec9 rfl (ec9 rfl (ec9 rfl X0))))) rfl (ih (F ++ M1) Ub Vb C hUb hVb (Srt.cross_sub hc (fun _ h=>Y1y _ h) (fun _ h=>Y1y _ h)) (fun x hx=>hin x (by rcases Y12.1 hx with h | h <;> simp [h])) hUb0 hVb0 (by omega) b0 n c r _ _ _ (by rw [Y0]; omega) (by rw [Y0]; omega) (by rw [Y0]; omega) (by omega) (by simp only [Y0]; omega) B w As hS) ?_;rintro _ w ⟨rfl,M2,hM2,hMs2,hS⟩;refine .nil (X9d Xr5 ?_);have hPM:(M1 ++ M2).Perm (U ++ V):=by
    rw [hUab,hVab];refine (hM1.append hM2).trans ?_;simp only [Yd]
    refine List.Perm.append_left Ua ?_;rw [<- Yd,<- Yd];exact Y1u.append_right Vb
   have hSM:Srt.So (kx l) (M1 ++ M2):=Srt.so_app hMs hMs2 (fun x hx y hy=>hsp2 x (hM1.mem_iff.1 hx) y (hM2.mem_iff.1 hy));exact ⟨_,rfl,rfl,M1 ++ M2,hPM,hSM,by simpa using hS⟩
  have hc213:=hb213; simp only [Y6] at hc213;refine .skip (X9d Xr5 ?_);obtain ⟨M2,hM2e⟩:∃ M2,M2=Ub ++ Vb:=⟨_,rfl⟩
  have hM2:M2.Perm (Ub ++ Vb):=by rw [hM2e]
  have hMs2:Srt.So (kx l) M2:=by
   rw [hM2e];rcases hc213 with h | h
   ·obtain rfl:Ub=[]:=Yj (by omega);simpa using hVb
   ·obtain rfl:Vb=[]:=Yj (by omega);simpa using hUb
  have hPM:(M1 ++ M2).Perm (U ++ V):=by
   rw [hUab,hVab];refine (hM1.append hM2).trans ?_;simp only [Yd]
   refine List.Perm.append_left Ua ?_;rw [<- Yd,<- Yd];exact Y1u.append_right Vb
  have hSM:Srt.So (kx l) (M1 ++ M2):=Srt.so_app hMs hMs2 (fun x hx y hy=>hsp2 x (hM1.mem_iff.1 hx) y (hM2.mem_iff.1 hy));refine ⟨_,rfl,rfl,M1 ++ M2,hPM,hSM,?_⟩;rw [hM2e]; simpa using hS
end Go.Proofs.YtbciobiiejpdgaaGreatDoor
namespace Go.Proofs.YtbciobiiejpdgaaGreatDoor
open Gk Rk
set_option maxHeartbeats 400000 in
theorem Xlv {l:List Nat} {p:Addr} {I:Im} (hx:Cx I l p) (b0 n c:Nat) (r:List Value) (hn:l.length=n) (hb:n<=100000) (B w:World) (As:List X7) (hS:Sat B w I (blk b0 ((Srt.upto n).map I64 ++ r) 3::As)) :
  Cz 211 [.slice (some (ad b0 0)) n c,I64 n,CF p] w fun v w'=>v=.tuple #[]/\∃ D,Srt.Ord (kx l) n D/\Sat B w' I (blk b0 ((D).map I64 ++ r) 3::As):=by
 refine calls Xqw rfl Tryz.ntmps211 rfl (.seq (.q 1 rfl (.seq (.q 3 rfl (.seq (.block (.loop (σ:=Int×Int×List Int×List Int) (fun ⟨a,b,M,R⟩=>[(0,.slice (some (ad b0 0)) n c),(1,I64 n),(2,CF p),(6,I64 20),(7,I64 a),(8,I64 b)]) (fun ⟨a,b,M,R⟩ w=>a=M.length/\b=a+20/\Srt.Full (kx l) 20 M/\Srt.cross M R/\R.Pairwise (·<·)/\(M ++ R).Perm (Srt.upto n)/\Sat B w I (blk b0 ((M ++ R).map I64 ++ r) 3::As)) (fun ⟨a,b,M,R⟩=>R.length) (0,20,[],Srt.upto n) ⟨rfl,rfl,rfl,rfl,rfl,rfl,trivial⟩ ⟨rfl,rfl,.nil,(fun _ h=>by cases h),Srt.upto_lt n,.refl _,hS⟩ ?_)))))));rintro ⟨a,b,M,R⟩ w ⟨ha,hb2,hF,hc,hR,hP,hS⟩;have hPl:=hP.length_eq;rw [Y0,Srt.upto_len] at hPl;have hin:∀ x∈R,0<=x/\x<(l.length:Int):=fun x hx=>by rw [hn]; exact Srt.upto_mem.1 (hP.mem_iff.1 (Y1y _ hx))
 refine .seq (.seq (.q 3 rfl ?_));refine .cond rfl (fun hb13=>?_) fun hb13=>?_
 ·have hc13:=hb13; simp only [Y6] at hc13;refine .skip (.block (.seq (.t 4 rfl ?_)));have hTD:R.take 20 ++ R.drop 20=R:=Yv 20 R;rw [<- hTD] at hS;refine .call Xmq rfl (ec9 rfl (ec9 rfl (ec9 rfl (ec9 rfl X0)))) rfl (Xua hx M (R.take 20) (R.drop 20) (hR.sublist (List.take_sublist 20 R)) (fun x h=>hin x (Y4t h)) b0 n c r _ b (by omega) (by rw [Yr]; omega) (by omega) (by rw [Yr,Yg]; omega) B w As hS) ?_;rintro _ w ⟨rfl,M2,hM2,hMs,hS⟩;refine .nil (.seq (.q 2 rfl (.region (.run 4 rfl ⟨⟨by omega,by omega⟩,trivial⟩ (.nil ?_)))));refine ⟨(b,b+20,M ++ M2,R.drop 20),⟨rfl,rfl,rfl,rfl,rfl,rfl,trivial⟩,⟨by have h1:=hM2.length_eq; rw [Yr] at h1; (try dsimp only); rw [Y0]; omega,rfl,?_,?_,hR.sublist (List.drop_sublist 20 R),?_,?_⟩,by (try dsimp only); rw [Yg]; omega⟩
  ·exact hF.append (.one (by rw [hM2.length_eq,Yr]; omega) hMs) (Srt.cross_permr (Srt.cross_sub hc (fun _ h=>h) (fun _ h=>Y4t h)) hM2)
  ·refine Srt.cross_app (Srt.cross_sub hc (fun _ h=>h) (fun _ h=>List.mem_of_mem_drop h)) (Srt.cross_perm ?_ hM2);intro u hu t ht;rw [<- Yv 20 R] at hR;exact (Y1t.1 hR).2.2 u hu t ht
  ·rw [Yd];refine List.Perm.trans (List.Perm.append_left M (hM2.append_right _)) ?_;rw [Yv]; exact hP
  ·rw [Yd]; exact hS
 have hc13:=hb13; simp only [Y6] at hc13;refine .exit (.seq (.t 4 rfl ?_));replace hS:Sat B w I (blk b0 ((M ++ (R ++ [])).map I64 ++ r) 3::As):=by simpa using hS
 refine .call Xmq rfl (ec9 rfl (ec9 rfl (ec9 rfl (ec9 rfl X0)))) rfl (Xua hx M R [] hR hin b0 n c r _ n (by omega) (by omega) (by omega) (by simp only [List.length_nil]; omega) B w As hS) ?_;rintro _ w ⟨rfl,M2,hM2,hMs,hS⟩;refine .nil (.block ?_);refine .loop (σ:=Int×List Int) (fun ⟨s,D⟩=>[(0,.slice (some (ad b0 0)) n c),(1,I64 n),(2,CF p),(6,I64 s)]) (fun ⟨s,D⟩ w=>20<=s/\s<=1000000/\Srt.Runs (kx l) s.toNat D/\D.Perm (Srt.upto n)/\Sat B w I (blk b0 ((D).map I64 ++ r) 3::As)) (fun ⟨s,D⟩=>(n - s:Int).toNat) (20,M ++ M2) ⟨rfl,rfl,rfl,rfl,trivial⟩ ⟨by decide,by decide,⟨M,M2,rfl,hF,by rw [hM2.length_eq]; omega,hMs,Srt.cross_permr hc hM2⟩,(List.Perm.append_left M hM2).trans hP,by simpa using hS⟩ ?_;rintro ⟨s,D⟩ w ⟨hs20,hsb,hRu,hP,hS⟩;have hDl:=hP.length_eq;rw [Srt.upto_len] at hDl;refine .seq (.seq (.q 3 rfl ?_));refine .cond rfl (fun hb30=>?_) fun hb30=>?_
 ·have hc30:=hb30; simp only [Y6] at hc30;refine .skip (.block (.seq (.region (.run 4 rfl ⟨⟨by omega,by omega⟩,trivial⟩ (.nil (.seq (.block ?_)))))));obtain ⟨E0,U0,rfl,hE0,hU0,hU0s,hEU⟩:=hRu;refine .loop (σ:=Int×Int×List Int×List Int) (fun ⟨a,b,Md,E⟩=>[(0,.slice (some (ad b0 0)) n c),(1,I64 n),(2,CF p),(6,I64 s),(7,I64 a),(8,I64 b)]) (fun ⟨a,b,Md,E⟩ w=>a=Md.length/\b=a+2*s/\Srt.Full (kx l) (2*s).toNat Md/\Srt.Full (kx l) s.toNat E/\Srt.cross E U0/\Srt.cross Md (E ++ U0)/\(Md ++ (E ++ U0)).Perm (Srt.upto n)/\Sat B w I (blk b0 ((Md ++ (E ++ U0)).map I64 ++ r) 3::As)) (fun ⟨a,b,Md,E⟩=>E.length) (0,2*s,[],E0) ⟨rfl,rfl,rfl,rfl,rfl,rfl,trivial⟩ ⟨rfl,by (try dsimp only); omega,.nil,hE0,hEU,(fun _ h=>by cases h),hP,hS⟩ ?_;rintro ⟨a,b,Md,E⟩ w ⟨ha,hb2,hMd,hE,hEU,hc,hP,hS⟩;have hPl:=hP.length_eq;rw [Y0,Y0,Srt.upto_len] at hPl;have hin:∀ x∈E ++ U0,0<=x/\x<(l.length:Int):=fun x hx=>by rw [hn]; exact Srt.upto_mem.1 (hP.mem_iff.1 (Y1y _ hx))
  refine .seq (.seq (.q 3 rfl ?_));refine .cond rfl (fun hb35=>?_) fun hb35=>?_
  ·have hc35:=hb35; simp only [Y6] at hc35;refine .skip (.block (.seq (.region (.run 7 rfl ⟨⟨by omega,by omega⟩,trivial⟩ ?_))));obtain ⟨U,V,T,rfl,hUl,hVl,hUs,hVs,hUV,hUT,hVT,hT⟩:=hE.two (by omega);simp only [Y0] at hPl
   have hTU:Srt.cross T U0:=Srt.cross_sub hEU (fun _ h=>by simp [h]) (fun _ h=>h);rw [show Md ++ ((U ++ (V ++ T)) ++ U0)=Md ++ (U ++ (V ++ (T ++ U0))) by simp only [Yd]] at hS;refine .call Xmr rfl (ec9 rfl (ec9 rfl (ec9 rfl (ec9 rfl (ec9 rfl X0))))) rfl (Xpv hx _ Md U V (T ++ U0) hUs hVs hUV (fun x h=>hin x (by rcases Y12.1 h with h | h <;> simp [h])) (by omega) (by omega) (Yq _) b0 n c r _ _ _ (by omega) (by omega) (by omega) (by omega) (by simp only [Y0]; omega) B w As hS) ?_;rintro _ w ⟨rfl,M3,hM3,hMs3,hS⟩;refine .nil (.seq (.q 2 rfl (.region (.run 5 rfl ⟨⟨by omega,by omega⟩,⟨by omega,by omega⟩,trivial⟩ (.nil ?_)))));refine ⟨(b,b+2*s,Md ++ M3,T),⟨rfl,rfl,rfl,rfl,rfl,rfl,trivial⟩,⟨by (try dsimp only); rw [Y0,hM3.length_eq,Y0]; omega,rfl,?_,hT,hTU,?_,?_,?_⟩,by (try dsimp only); simp only [Y0]; omega⟩
   ·exact hMd.append (.one (by rw [hM3.length_eq,Y0]; omega) hMs3) (Srt.cross_permr (Srt.cross_sub hc (fun _ h=>h) (fun x h=>by rcases Y12.1 h with h | h <;> simp [h])) hM3)
   ·refine Srt.cross_app (Srt.cross_sub hc (fun _ h=>h) (fun x h=>by rcases Y12.1 h with h | h <;> simp [h])) (Srt.cross_perm ?_ hM3);exact Srt.cross_app (Srt.cross_appr hUT (Srt.cross_sub hEU (fun _ h=>Y1s _ h) (fun _ h=>h))) (Srt.cross_appr hVT (Srt.cross_sub hEU (fun _ h=>by simp [h]) (fun _ h=>h)))
   ·refine List.Perm.trans ?_ hP;simp only [Yd]
    refine List.Perm.append_left Md ?_
    have:=hM3.append_right (T ++ U0)
    simpa [Yd] using this
   ·rw [Yd]; exact hS
  have hc35:=hb35; simp only [Y6] at hc35;refine .exit (.seq (.seq (.region (.run 4 rfl ⟨⟨by omega,by omega⟩,trivial⟩ (.nil (.seq (.q 3 rfl ?_)))))));refine .cond rfl (fun hb54=>?_) fun hb54=>?_
  ·have hc54:=hb54; simp only [Y6] at hc54;refine .t 5 rfl ?_;have hEf:E.length=s.toNat/\Srt.So (kx l) E:=by
    rcases hE.few (by omega) with h | h
    ·subst h; simp at hPl; omega
    ·exact h
   replace hS:Sat B w I (blk b0 ((Md ++ (E ++ (U0 ++ []))).map I64 ++ r) 3::As):=by simpa using hS
   refine .call Xmr rfl (ec9 rfl (ec9 rfl (ec9 rfl (ec9 rfl (ec9 rfl X0))))) rfl (Xpv hx _ Md E U0 [] hEf.2 hU0s hEU (fun x h=>hin x h) (by omega) (by omega) (Yq _) b0 n c r _ _ _ (by omega) (by omega) (by omega) (by omega) (by simp only [List.length_nil]; omega) B w As hS) ?_;rintro _ w ⟨rfl,M3,hM3,hMs3,hS⟩;refine .nil (.region (.run 3 rfl ⟨⟨by omega,by omega⟩,trivial⟩ (.nil ?_)));refine ⟨(s*2,Md ++ M3),⟨rfl,rfl,rfl,rfl,trivial⟩,⟨by omega,by omega,⟨Md,M3,rfl,by rw [show (s*2).toNat=(2*s).toNat by omega]; exact hMd,by rw [hM3.length_eq,Y0]; omega,hMs3,Srt.cross_permr hc hM3⟩,?_,by simpa using hS⟩,by (try dsimp only); omega⟩;exact (List.Perm.append_left Md hM3).trans hP
  have hc54:=hb54; simp only [Y6] at hc54;refine .skip (.region (.run 3 rfl ⟨⟨by omega,by omega⟩,trivial⟩ (.nil ?_)));have hq:(E ++ U0).length<(s*2).toNat/\Srt.So (kx l) (E ++ U0):=by
   rcases hE.few (by omega) with h | h
   ·subst h; simp only [Ye]; exact ⟨by omega,hU0s⟩
   ·have hU00:U0=[]:=Yj (by omega);subst hU00;rw [Y9]; exact ⟨by omega,h.2⟩
  refine ⟨(s*2,Md ++ (E ++ U0)),⟨rfl,rfl,rfl,rfl,trivial⟩,⟨by omega,by omega,⟨Md,E ++ U0,rfl,by rw [show (s*2).toNat=(2*s).toNat by omega]; exact hMd,hq.1,hq.2,hc⟩,hP,hS⟩,by (try dsimp only); omega⟩
 have hc30:=hb30; simp only [Y6] at hc30;refine .exit (X9d Tryz.results211 ?_);refine ⟨_,rfl,rfl,D,⟨hRu.sorted (by omega) (by omega),hP⟩,hS⟩
theorem Xwi (cv:Value) (w:World) :
  Cz 249 [.slice none 0 0,I64 0,I64 0,cv] w fun v w'=>v=.tuple #[]/\w=w':=by
 obtain ⟨w0,hw0⟩:∃ w0,w=w0:=⟨_,rfl⟩
 rw [show (fun (v:Value) (w':World)=>v=.tuple #[]/\w=w')=(fun v w'=>v=.tuple #[]/\w0=w') by rw [hw0]];refine calls Xmq rfl Tryz.ntmps249 rfl (.seq (.region (.run 3 rfl ⟨⟨by omega,by omega⟩,trivial⟩ (.nil (.block (.loop (σ:=Unit) (fun _=>[(2,I64 0),(8,I64 1)]) (fun _ w=>w=w0) (fun _=>0) () ⟨rfl,rfl,trivial⟩ hw0 ?_))))));rintro _ w hw;refine .seq (.seq (.q 3 rfl (.condF (rfl) (.exit (X9d Tryz.results249 ?_)))));exact ⟨_,rfl,rfl,hw.symm⟩
theorem Xlw (cv:Value) (w:World) :
  Cz 211 [.slice none 0 0,I64 0,cv] w fun v w'=>v=.tuple #[]/\w=w':=by
 obtain ⟨w0,hw0⟩:∃ w0,w=w0:=⟨_,rfl⟩
 rw [show (fun (v:Value) (w':World)=>v=.tuple #[]/\w=w')=(fun v w'=>v=.tuple #[]/\w0=w') by rw [hw0]];refine calls Xqw rfl Tryz.ntmps211 rfl (.seq (.q 1 rfl (.seq (.q 3 rfl (.seq (.block (.loop (σ:=Unit) (fun _=>[(0,.slice none 0 0),(1,I64 0),(2,cv),(6,I64 20),(7,I64 0),(8,I64 20)]) (fun _ w=>w=w0) (fun _=>0) () ⟨rfl,rfl,rfl,rfl,rfl,rfl,trivial⟩ hw0 ?_)))))));rintro _ w hw;refine .seq (.seq (.q 3 rfl (.condF (rfl) (.exit (.seq (.t 4 rfl (.call Xmq rfl (ec9 rfl (ec9 rfl (ec9 rfl (ec9 rfl X0)))) rfl (Xwi _ _) ?_)))))));rintro _ _ ⟨rfl,rfl⟩;refine .nil (.block (.loop (σ:=Unit) (fun _=>[(1,I64 0),(6,I64 20)]) (fun _ w=>w=w0) (fun _=>0) () ⟨rfl,rfl,trivial⟩ hw ?_));rintro _ w hw;refine .seq (.seq (.q 3 rfl (.condF (rfl) (.exit (X9d Tryz.results211 ?_)))));exact ⟨_,rfl,rfl,hw.symm⟩
theorem Xtp (cv:Value) (w:World) :
  Cz 162 [.slice none 0 0,cv] w fun v w'=>v=.tuple #[]/\w=w':=by
 refine calls Tryz.func162 rfl Tryz.ntmps162 rfl (.region (.run 4 rfl ⟨⟨_,Xf⟩,trivial⟩ (.call Xqw rfl (ec9 rfl (ec9 rfl (ec9 rfl X0))) rfl (Xlw _ _) ?_)));rintro _ _ ⟨rfl,rfl⟩;refine .nil (X9d Tryz.results162 ?_);exact ⟨_,rfl,rfl,rfl⟩
theorem Xjw {l:List Nat} {p:Addr} {I:Im} (hx:Cx I l p) (b0 n c:Nat) (r:List Value) (hn:l.length=n) (hb:n<=100000) (B w:World) (As:List X7) (hS:Sat B w I (blk b0 ((Srt.upto n).map I64 ++ r) 3::As)) :
  Cz 162 [.slice (some (ad b0 0)) n c,CF p] w fun v w'=>v=.tuple #[]/\∃ D,Srt.Ord (kx l) n D/\Sat B w' I (blk b0 ((D).map I64 ++ r) 3::As):=by
 refine calls Tryz.func162 rfl Tryz.ntmps162 rfl (.region (.run 4 rfl ⟨⟨_,Xf⟩,trivial⟩ (.call Xqw rfl (ec9 rfl (ec9 rfl (ec9 rfl X0))) rfl (Xlv hx b0 n c r hn hb B w As hS) ?_)));rintro _ w ⟨rfl,D,hD,hS⟩;refine .nil (X9d Tryz.results162 ?_);exact ⟨_,rfl,rfl,D,hD,hS⟩
theorem Xtq {l:List Nat} {p:Addr} {I:Im} (hx:Cx I l p) (u:Value) (n:Nat) (hn:l.length=n) (hb:n<=100000) (B w:World) (As:List X7) (hS:Sat B w I (Vec 3 1 u n ((Srt.upto n).map I64)::As)) :
  Cz 162 [u,CF p] w fun v w'=>v=.tuple #[]/\∃ D,Srt.Ord (kx l) n D/\Sat B w' I (Vec 3 1 u n ((D).map I64)::As):=by
 rcases Y1v n with h0 | h0
 ·subst h0;have hcase:u=.slice none 0 0\/∃ b0 c r,u=.slice (some (ad b0 0)) 0 c/\c<=maxLen/\r.length=c/\Sat B w I (blk b0 (([]:List Int).map I64 ++ r) 3::As):=by
   obtain ⟨h,⟨h1,h2,rfl,⟨hl,ha⟩,hr⟩,hg⟩:=hS;rcases ha with ⟨hv,_,_⟩ | ⟨b,cap,rest,rfl,rfl,h3,h4,h5⟩
   ·exact .inl hv
   ·exact .inr ⟨b,cap,rest,rfl,h4,by simp [Srt.upto] at h5; exact h5,_,⟨_,h2,rfl,rfl,hr⟩,hg⟩
  rcases hcase with rfl | ⟨b0,c,r,rfl,hcm,hrl,hSo⟩
  ·refine (Xtp (CF p) w).mono ?_;rintro e w' ⟨v,rfl,rfl,rfl⟩;exact ⟨_,rfl,rfl,[],⟨.nil,.refl _⟩,hS⟩
  ·refine (Xjw hx b0 0 c r hn (by decide) B w As hSo).mono ?_;rintro e w' ⟨v,rfl,rfl,D,hD,hS'⟩;have hD0:D=[]:=Yj hD.len;subst hD0;exact ⟨_,rfl,rfl,[],hD,hS'.vecShut (k:=0) (n:=0) (xs:=[]) (size:=1) (cap:=c) (rest:=r) rfl (Yo _) hcm rfl (by simpa using hrl)⟩
 ·obtain ⟨b0,c,r,rfl,hnc,hcm,hxl,hxr,hSo⟩:=hS.vecOpen (k:=0) rfl h0;refine (Xjw hx b0 n c r hn hb B w As hSo).mono ?_;rintro e w' ⟨v,rfl,rfl,D,hD,hS'⟩;refine ⟨_,rfl,rfl,D,hD,hS'.vecShut (k:=0) (n:=n) (xs:=D.map I64) (size:=1) (cap:=c) (rest:=r) rfl hnc hcm (by rw [Y14,hD.len]; omega) ?_⟩;rw [Y14,hD.len];rw [hxl] at hxr;omega
theorem Xml (l:List Nat) (small:∀ v∈l,v<18446744073709551616) (hl:l.length<=100000) (a:Option Addr) (c:Nat) (B w:World) (I:Im) (hr:RS I a 1 l.length (l.map F64)) (As:List X7) (hS:Sat B w I As) :
  Cz 115 [.slice a l.length c] w fun v w'=>∃ D va vc,v=.slice va l.length vc/\Srt.Ord (kx l) l.length D/\Sat B w' I (Vec 3 1 (.slice va l.length vc) l.length (D.map I64)::As):=by
 refine calls Tryz.func115 rfl Tryz.ntmps115 rfl (.seq (.region (.box1 hS (.of rfl) rfl rfl ?_)));intro b1 w hS;refine .q 1 rfl (.nil (.seq (.q 1 rfl (.seq (.seq (.region (.val (.lo rfl hS (k:=0) rfl Tryz.isAgg185 rfl) rfl (.run 2 rfl ⟨⟨_,X63⟩,trivial⟩ (.nil (.block ?_))))))))));replace hS:=hS.vecNil 3 1;refine .loop (σ:=Nat×Option Addr×Nat) (fun ⟨k,va,vc⟩=>[(1,ptr b1 0),(3,.slice va k vc),(6,I64 l.length),(7,I64 (k:Nat))]) (fun ⟨k,va,vc⟩ w=>k<=l.length/\Sat B w I (Vec 3 1 (.slice va k vc) k ((Srt.upto k).map I64)::blk b1 [.slice a l.length c] 185::As)) (fun ⟨k,va,vc⟩=>l.length - k) (0,none,0) ⟨rfl,rfl,rfl,rfl,trivial⟩ ⟨Yo _,hS⟩ ?_;rintro ⟨k,va,vc⟩ w ⟨hk,hS⟩;refine .seq (.q 1 rfl (.seq ?_));refine .cond rfl (fun hb8=>?_) fun hb8=>?_
 ·have hc8:=hb8; simp only [Y6] at hc8;refine .skip (.seq (.block (.seq (.q 2 rfl (.t 2 rfl (.buildSlice (cs:=[_]) hS (pc9 rfl X4) Xf Qs3 Qz3 rfl rfl rfl rfl ?_))))));intro b12 w hS;refine .append (size:=1) (bytes:=8) hS (.of rfl) (.of rfl) (k:=0) rfl Xf X1g rfl rfl rfl rfl rfl rfl rfl ⟨by omega,by unfold maxLen; omega⟩ rfl ?_;intro v13 w hS;obtain ⟨a13,c13,rfl,hcap13,_⟩:=hS.vecSlice (k:=0) (v:=v13) rfl;refine .q 1 rfl (.nil (.region (.run 2 rfl ⟨⟨by omega,by omega⟩,trivial⟩ (.nil ?_))));refine ⟨(k+1,a13,c13),⟨rfl,rfl,rfl,rfl,trivial⟩,⟨by (try dsimp only); omega,?_⟩,by (try dsimp only); omega⟩;rw [Srt.upto,Yw]; exact hS
 have hc8:=hb8; simp only [Y6] at hc8;refine .exit (.seq (.t 1 rfl (.val (.makeFunc (ec9 rfl X0)) rfl ?_)));obtain rfl:k=l.length:=by omega
 obtain ⟨J,hJ,hJb,hT⟩:=hS.freeze (k:=1) rfl; clear hS; have hS:=hT; clear hT;have hcx:Cx J l (ad b1 0):=⟨⟨a,c,⟨rfl,_,_,_,hJb,fun j v h=>by simpa using h⟩,hr.mono hJ⟩,small⟩
 refine .call Tryz.func162 rfl (ec9 rfl (ec9 rfl X0)) rfl (Xtq hcx _ l.length rfl (by omega) B w As hS) ?_;rintro _ w ⟨rfl,D,hD,hS⟩;refine .nil (.seq (.q 2 rfl (.ret (Xc Tryz.results115 rfl ?_))));exact ⟨_,rfl,D,va,vc,rfl,hD,hS.weaken hJ⟩
end Go.Proofs.YtbciobiiejpdgaaGreatDoor
namespace Go.Proofs.YtbciobiiejpdgaaGreatDoor
open Gk Rk
theorem X42:Tryz.prog.info? 4=some Tryz.t4:=by kernel_rfl
set_option maxHeartbeats 400000 in
theorem Xfy (l:List Nat) (small:∀ v∈l,v<18446744073709551616) (hl:l.length<=100000) (a:Option Addr) (c:Nat) (B w:World) (I:Im) (hr:RS I a 1 l.length (l.map F64)) (As:List X7) (hS:Sat B w I As) :
  Cz 139 [.slice a l.length c] w fun v w'=>∃ D va vc,v=.slice va l.length vc/\Srt.Ord (kx l) l.length D/\Sat B w' I (Vec 3 1 (.slice va l.length vc) l.length (D.map I64)::As):=by
 refine calls Tryz.func139 rfl Tryz.ntmps139 rfl (.seq (.q 1 rfl (.seq (.q 1 rfl (.seq (.region (.run 2 rfl ⟨⟨_,X63⟩,trivial⟩ ?_)))))));refine .make (l:=l.length) hS (.of rfl) (.of rfl) X36 X42 rfl (by simp [Tryz.t4] <;> omega) (by omega) rfl rfl rfl ?_;intro b9 w hS;refine .q 1 rfl (.nil (.seq (.block ?_)));replace hS:=hS.vecNil 3 1;refine .loop (σ:=List Bool×List Int×List Int×Option Addr×Nat) (fun ⟨us,Os,T,va,vc⟩=>[(0,.slice a l.length c),(3,.slice va Os.length vc),(4,.slice (some (ad b9 0)) l.length l.length)]) (fun ⟨us,Os,T,va,vc⟩ w=>Srt.Sel (kx l) l.length us Os T/\Sat B w I (Vec 3 1 (.slice va Os.length vc) Os.length (Os.map I64)::blk b9 (us.map Value.bool ++ []) 4::As)) (fun ⟨us,Os,T,va,vc⟩=>T.length) (List.replicate l.length false,[],Srt.upto l.length,none,0) ⟨rfl,rfl,rfl,trivial⟩ ⟨Srt.Sel.start _ _,by rw [Y3b,Y9]; exact hS⟩ ?_;rintro ⟨us,Os,T,va,vc⟩ w ⟨hsel,hS⟩;have hsl:=hsel.len;have hse:=hsel.lens;refine .seq (.seq (.region (.run 5 rfl ⟨⟨_,Xf⟩,⟨_,X63⟩,trivial⟩ (.nil ?_))));refine .cond rfl (fun hb14=>?_) fun hb14=>?_
 ·have hc14:=hb14; simp only [Y6] at hc14;refine .skip (.block (.seq (.q 1 rfl (.seq (.seq (.q 1 rfl (.block (.loop (σ:=Nat×Int) (fun ⟨i,best⟩=>[(0,.slice a l.length c),(3,.slice va Os.length vc),(4,.slice (some (ad b9 0)) l.length l.length),(5,I64 best),(6,I64 (i:Nat))]) (fun ⟨i,best⟩ w=>i<=l.length/\-1<=best/\Srt.Best (kx l) T i best/\Sat B w I (Vec 3 1 (.slice va Os.length vc) Os.length (Os.map I64)::blk b9 (us.map Value.bool ++ []) 4::As)) (fun ⟨i,best⟩=>l.length - i) (0,-1) ⟨rfl,rfl,rfl,rfl,rfl,trivial⟩ ⟨Yo _,by decide,.inl ⟨rfl,fun t ht=>(hsel.mem ht).1⟩,hS⟩ ?_))))))));rintro ⟨i,best⟩ w ⟨hi,hbn,hbest,hS⟩;have hbl:=hbest.lt;refine .seq (.seq (.region (.run 4 rfl ⟨⟨_,X63⟩,trivial⟩ (.nil ?_))));refine .cond rfl (fun hb18=>?_) fun hb18=>?_
  ·have hc18:=hb18; simp only [Y6] at hc18;refine .skip (.seq (.block (.seq ?_)));obtain ⟨pa,rfl,ha⟩:=hr.2 (by omega);refine .qt hS (.val (fun w hS=>(.mo rfl)) rfl (.val (fun w hS=>(.mo rfl)) rfl (.val (fun w hS=>(.io rfl rfl (by omega) (by omega) X36 Qs4)) rfl (.val (fun w hS=>.ldE .bool us false [] (i:=(i:Int)) (.of rfl) hS (k:=1) rfl rfl Qg4 (by omega) (by omega)) rfl (.val (fun w hS=>(.not (.of rfl))) rfl (.val (fun w hS=>(.mo rfl)) rfl (.gval rfl rfl rfl (fun hg1 w hS=>(.mo rfl)) rfl (.gval rfl rfl rfl (fun hg1 w hS=>(.lss (.gd hg1 rfl) (.of rfl))) rfl (.gval rfl rfl rfl (fun hg1 w hS=>(.move (.gd hg1 rfl))) rfl (.gval2 rfl rfl rfl (fun hg1 hg2 w hS=>(.mo rfl)) rfl (.gval2 rfl rfl rfl (fun hg1 hg2 w hS=>(.mo rfl)) rfl ?_)))))))))));refine .gval2 rfl rfl rfl (fun hg1 hg2 w hS=>(.indexAddrI (.gd2 hg1 hg2 rfl) (.gd2 hg1 hg2 rfl) (by (try simp only [Y6] at hg1 hg2); omega) (by (try simp only [Y6] at hg1 hg2); omega) X63 Xgf)) rfl ?_;refine .gval2 rfl rfl rfl (fun hg1 hg2 w hS=>.ldEI F64 l 0 (i:=(i:Int)) (.gd2 hg1 hg2 rfl) hS ha rfl Xm5 (by omega) (by omega)) rfl (.gcall2 rfl rfl rfl Tryz.func184 rfl (fun hg1 hg2=>(Xd (.gd2 hg1 hg2 rfl) X0)) rfl (fun hg1 hg2 w hS=>Xcc _ (X7r small (i:Int).toNat) B w I _ hS) (.gval2 rfl rfl rfl (fun hg1 hg2 w hS=>(.mo rfl)) rfl (.gval2 rfl rfl rfl (fun hg1 hg2 w hS=>(.mo rfl)) rfl ?_)));refine .gval2 rfl rfl rfl (fun hg1 hg2 w hS=>(.indexAddrI (.gd2 hg1 hg2 rfl) (.gd2 hg1 hg2 rfl) (by (try simp only [Y6] at hg1 hg2); omega) (by (try simp only [Y6] at hg1 hg2); omega) X63 Xgf)) rfl ?_;refine .gval2 rfl rfl rfl (fun hg1 hg2 w hS=>.ldEI F64 l 0 (i:=best) (.gd2 hg1 hg2 rfl) hS ha rfl Xm5 (by (try simp only [Y6] at hg1 hg2); omega) (by omega)) rfl ?_;refine .gcall2 rfl rfl rfl Tryz.func184 rfl (fun hg1 hg2=>(Xd (.gd2 hg1 hg2 rfl) X0)) rfl (fun hg1 hg2 w hS=>Xcc _ (X7r small best.toNat) B w I _ hS) (.gval2 rfl rfl rfl (fun hg1 hg2 w hS=>(.lss (.gd2 hg1 hg2 rfl) (.gd2 hg1 hg2 rfl))) rfl (.gval rfl rfl rfl (fun hg1 w hS=>(.por (.gd hg1 rfl) (.of rfl) (.gd hg1 rfl))) rfl (.val (fun w hS=>(.pa rfl rfl rfl)) rfl (.nil ?_))));intro w hS;refine .cond rfl (fun hb42=>?_) fun hb42=>?_
   ·have hc42:=hb42; simp only [Y6] at hc42;refine .q 2 rfl (.region (.run 3 rfl ⟨⟨by omega,by omega⟩,trivial⟩ (.nil ?_)));have e1:Xop (l.getD (i:Int).toNat 0)=kx l (i:Int):=rfl;have e2:Xop (l.getD best.toNat 0)=kx l best:=rfl;rw [e1,e2] at hb42;have hc1:us.getD i false=false/\(best<0\/kx l (i:Int)<kx l best):=by
     simp only [Yf,Yn,Y1j,decide_eq_true_eq,Y3h,Y3v] at hb42
     exact hb42
    exact ⟨(i+1,(i:Int)),⟨rfl,rfl,rfl,rfl,rfl,trivial⟩,⟨by (try dsimp only); omega,by (try dsimp only); omega,hbest.take hsel (by omega) hc1.1 hc1.2,hS⟩,by (try dsimp only); omega⟩
   have hc42:=hb42; simp only [Y6] at hc42;refine .skip (.region (.run 3 rfl ⟨⟨by omega,by omega⟩,trivial⟩ (.nil ?_)));have e1:Xop (l.getD (i:Int).toNat 0)=kx l (i:Int):=rfl;have e2:Xop (l.getD best.toNat 0)=kx l best:=rfl;rw [e1,e2] at hb42;have hc1:us.getD i false=true\/(¬ best<0/\¬ kx l (i:Int)<kx l best):=by
    simp only [Yf,Y2t,Y10,decide_eq_false_iff_not,Y2m,Y3v] at hb42
    exact hb42
   exact ⟨(i+1,best),⟨rfl,rfl,rfl,rfl,rfl,trivial⟩,⟨by (try dsimp only); omega,hbn,hbest.keep hsel hc1,hS⟩,by (try dsimp only); omega⟩
  have hc18:=hb18; simp only [Y6] at hc18;refine .exit (.seq ?_);have hin:i=l.length:=by omega
  subst hin;have hst:=hsel.step hbest (by omega);have hbm:=hbest.is (by omega);refine .t 2 rfl (.val (.io rfl rfl (by omega) (by omega) X36 Qs4) rfl (.stE .bool us [] (u:=true) hS (k:=1) rfl (.of rfl) (.of rfl) rfl rfl Qs4 (by omega) (by omega) ?_));intro w hS; dsimp only [List.set] at hS;refine .nil (.t 2 rfl (.buildSlice (cs:=[_]) hS (pc9 rfl X4) Xf Qs3 Qz3 rfl rfl rfl rfl ?_));intro b49 w hS;refine .append (size:=1) (bytes:=8) hS (.of rfl) (.of rfl) (k:=0) rfl Xf X1g rfl rfl rfl rfl rfl rfl rfl ⟨by omega,by unfold maxLen; omega⟩ rfl ?_;intro v50 w hS;obtain ⟨a50,c50,rfl,hcap50,_⟩:=hS.vecSlice (k:=0) (v:=v50) rfl;refine .q 1 rfl (.nil ?_);refine ⟨(us.set best.toNat true,Os ++ [best],T.erase best,a50,c50),⟨rfl,?_,rfl,trivial⟩,⟨hst.2.2,?_⟩,by (try dsimp only); rw [Y5h hbm]; omega⟩
  ·rw [Y0]; rfl
  ·rw [Y0,Yw]; exact hS
 have hc14:=hb14; simp only [Y6] at hc14;refine .exit (.seq (.q 2 rfl (.ret (Xc Tryz.results139 rfl ?_))));exact ⟨_,rfl,Os,va,vc,by rw [show l.length=Os.length by omega],hsel.done (by omega),(by rw [show l.length=Os.length by omega]; exact hS.y 1 1)⟩
end Go.Proofs.YtbciobiiejpdgaaGreatDoor
namespace Go.Proofs.YtbciobiiejpdgaaGreatDoor
open Gk
def Xwa (s:Sv):Bool:=!((decide (100<(s.urls.length:Int)) && decide ((s.urls.length:Int)<=200) || decide (100<(s.calls.length:Int)) && decide ((s.calls.length:Int)<=200)) || decide (20<(s.rel.length:Int)))
def few (l:List Sv):Bool:=l.all Xwa && decide ((l.length:Int)<=20)
theorem Xuw (a:Option Addr) (cap:Nat) (l:List Sv) (hcap:l.length<=cap) (hcm:cap<=maxLen) (B w:World) (I:Im) (hl:SvsAt I a l) (As:List X7) (hS:Sat B w I As) :
  Cz 71 [.slice a l.length cap] w fun v w'=>v=.bool (few l)/\Sat B w' I As:=by
 unfold maxLen at hcm;refine calls Tryz.func71 rfl Tryz.ntmps71 rfl (.seq (.q 1 rfl (.seq (.seq (.q 1 rfl (.block (.loop (σ:=Nat) (fun i=>[(0,.slice a l.length cap),(3,I64 (i:Nat))]) (fun i w=>i<=l.length/\(∀ (j:Nat) (s:Sv),j<i->l[j]?=some s->Xwa s=true)/\Sat B w I As) (fun i=>l.length - i) 0 ⟨rfl,rfl,trivial⟩ ⟨Yo _,fun _ _ h=>absurd h (by omega),hS⟩ ?_)))))));rintro i w ⟨hi,hok,hS⟩;refine .seq (.seq (.region (.run 4 rfl ⟨⟨_,X9b⟩,trivial⟩ (.nil ?_))));refine .cond rfl (fun hb7=>?_) fun hb7=>?_
 ·have hc7:=hb7; simp only [Y6] at hc7;refine .skip (.seq (.block (.seq ?_)));obtain ⟨s,hs⟩:∃ s,l[i]?=some s:=⟨_,Y4 (by omega)⟩
  obtain ⟨p,ra,rc,rfl,hx,hrc,hr⟩:=hl i s hs;unfold X1o at hx;refine .t 2 rfl (.val (.ii rfl rfl (by omega) (by omega) X9b X10) rfl (.val (.fi 2 rfl X2d rfl rfl Qs9 rfl) rfl (.val (.ldI (.of rfl) hS (At.add hx _) Qg9 rfl) rfl (.run 3 rfl ⟨Qu9,trivial⟩ (.gm rfl rfl rfl rfl (.gm rfl rfl rfl rfl ?_))))));refine .gval rfl rfl (fun hg1=>(.indexAddrI (.gd hg1 rfl) (.gd hg1 rfl) (by (try simp only [Y6] at hg1); omega) (by (try simp only [Y6] at hg1); omega) X9b X10)) rfl ?_;refine .gval rfl rfl (fun hg1=>(.fieldAddrI 2 (.gd hg1 rfl) X2d rfl rfl Qs9 rfl)) rfl (.gval rfl rfl (fun hg1=>(.ldI (.gd hg1 rfl) hS (At.add hx _) Qg9 rfl)) rfl (.gval rfl rfl (fun hg1=>(.len (.gd hg1 rfl) Qu9)) rfl (.gval rfl rfl (fun hg1=>(.leq (.gd hg1 rfl) (.of rfl))) rfl (.val (.pa rfl rfl rfl) rfl (.q 1 rfl (.gm rfl rfl rfl rfl (.gm rfl rfl rfl rfl ?_)))))));refine .gval rfl rfl (fun hg1=>(.indexAddrI (.gd hg1 rfl) (.gd hg1 rfl) (by (try simp only [Y6] at hg1); omega) (by (try simp only [Y6] at hg1); omega) X9b X10)) rfl ?_;refine .gval rfl rfl (fun hg1=>(.fieldAddrI 6 (.gd hg1 rfl) X2d rfl rfl Qs9 rfl)) rfl (.gval rfl rfl (fun hg1=>(.ldI (.gd hg1 rfl) hS (At.add hx _) Qg9 rfl)) rfl (.gval rfl rfl (fun hg1=>(.len (.gd hg1 rfl) Qu9)) rfl (.gval rfl rfl (fun hg1=>(.gtr (.gd hg1 rfl) (.of rfl))) rfl (.gval rfl rfl (fun hg1=>(.move (.gd hg1 rfl))) rfl (.gval2 rfl rfl rfl (fun hg1 hg2=>(.mo rfl)) rfl (.gval2 rfl rfl rfl (fun hg1 hg2=>(.mo rfl)) rfl ?_))))));refine .gval2 rfl rfl rfl (fun hg1 hg2=>(.indexAddrI (.gd2 hg1 hg2 rfl) (.gd2 hg1 hg2 rfl) (by (try simp only [Y6] at hg1 hg2); omega) (by (try simp only [Y6] at hg1 hg2); omega) X9b X10)) rfl ?_;refine .gval2 rfl rfl rfl (fun hg1 hg2=>(.fieldAddrI 6 (.gd2 hg1 hg2 rfl) X2d rfl rfl Qs9 rfl)) rfl (.gval2 rfl rfl rfl (fun hg1 hg2=>(.ldI (.gd2 hg1 hg2 rfl) hS (At.add hx _) Qg9 rfl)) rfl (.gval2 rfl rfl rfl (fun hg1 hg2=>(.len (.gd2 hg1 hg2 rfl) Qu9)) rfl (.gval2 rfl rfl rfl (fun hg1 hg2=>(.leq (.gd2 hg1 hg2 rfl) (.of rfl))) rfl (.gval rfl rfl (fun hg1=>(.pand (.gd hg1 rfl) (.gd hg1 rfl) (.of rfl))) rfl (.val (.po rfl rfl rfl) rfl (.q 1 rfl (.gm rfl rfl rfl rfl (.gm rfl rfl rfl rfl ?_))))))));refine .gval rfl rfl (fun hg1=>(.indexAddrI (.gd hg1 rfl) (.gd hg1 rfl) (by (try simp only [Y6] at hg1); omega) (by (try simp only [Y6] at hg1); omega) X9b X10)) rfl ?_;refine .gval rfl rfl (fun hg1=>(.fieldAddrI 7 (.gd hg1 rfl) X2d rfl rfl Xkf rfl)) rfl (.gval rfl rfl (fun hg1=>(.ldI (.gd hg1 rfl) hS (At.add hx _) Xm6 rfl)) rfl (.gval rfl rfl (fun hg1=>(.lenSlice (.gd hg1 rfl) X1u)) rfl (.gval rfl rfl (fun hg1=>(.gtr (.gd hg1 rfl) (.of rfl))) rfl (.val (.po rfl rfl rfl) rfl (.nil ?_)))));refine .cond rfl (fun hb52=>?_) fun hb52=>?_
  ·refine .seq (.q 1 rfl (.ret (Xc Tryz.results71 rfl ?_)));refine ⟨_,rfl,?_,hS⟩
   have:few l=false:=by
    unfold few;rw [show l.all Xwa=false from Y33.2 ⟨s,Yl hs,by unfold Xwa; rw [hb52]; decide⟩];rfl
   rw [this]
  have hc52:=hb52; simp only [Y6] at hc52;refine .skip (.region (.run 3 rfl ⟨⟨by omega,by omega⟩,trivial⟩ (.nil ?_)));refine ⟨i+1,⟨rfl,rfl,trivial⟩,⟨by omega,fun j u hj hu=>?_,hS⟩,by omega⟩;rcases Yp j i with h1 | h1
  ·exact hok j u h1 hu
  ·have e:j=i:=by omega
   subst e;rw [hs] at hu; cases hu;unfold Xwa; rw [hb52]; rfl
 have hc7:=hb7; simp only [Y6] at hc7;refine .exit (.seq (.region (.run 4 rfl ⟨⟨_,X9b⟩,trivial⟩ (.nil (.ret (Xc Tryz.results71 rfl ?_))))));refine ⟨_,rfl,?_,hS⟩
 have:l.all Xwa=true:=Y1c.2 fun s hs=>by
  obtain ⟨j,hj⟩:=Yy.1 hs;exact hok j s (by have:=(Y5.1 hj).1; omega) hj
 unfold few;rw [this,Y2n]
theorem Xn9 (a b:Option Addr) (ca cb:Nat) (la lb:List (List UInt8)) (hla:la.length<=ca) (hlb:lb.length<=cb) (hlm:la.length<=140737488355328) (B w:World) (I:Im) (hA:RS I a 1 la.length (la.map S)) (hB:RS I b 1 lb.length (lb.map S)) (As:List X7) (hS:Sat B w I As) :
  Cz 43 [.slice a la.length ca,.slice b lb.length cb] w fun v w'=>v=.bool (decide (la=lb))/\Sat B w' I As:=by
 refine calls Tryz.func43 rfl Tryz.ntmps43 rfl (.seq (.q 1 rfl (.seq (.seq (.region (.run 5 rfl ⟨⟨_,X1u⟩,⟨_,X1u⟩,trivial⟩ (.nil ?_)))))));refine .cond rfl (fun hb10=>?_) fun hb10=>?_
 ·have hc10:=hb10; simp only [Y6] at hc10;refine .seq (.q 1 rfl (.ret (Xc Tryz.results43 rfl ?_)));exact ⟨_,rfl,by rw [decide_eq_false (fun e=>by subst e; omega)],hS⟩
 have hc10:=hb10; simp only [Y6] at hc10;refine .skip (.seq (.seq (.q 1 rfl (.block (.loop (σ:=Nat) (fun i=>[(0,.slice a la.length ca),(1,.slice b lb.length cb),(5,I64 (i:Nat))]) (fun i w=>i<=la.length/\(∀ j,j<i->la[j]?=lb[j]?)/\Sat B w I As) (fun i=>la.length - i) 0 ⟨rfl,rfl,rfl,trivial⟩ ⟨Yo _,fun _ h=>absurd h (by omega),hS⟩ ?_)))));rintro i w ⟨hi,hok,hS⟩;refine .seq (.seq (.region (.run 4 rfl ⟨⟨_,X1u⟩,trivial⟩ (.nil ?_))));refine .cond rfl (fun hb14=>?_) fun hb14=>?_
 ·have hc14:=hb14; simp only [Y6] at hc14;refine .skip (.seq (.block (.seq ?_)));obtain ⟨x,hx⟩:∃ x,la[i]?=some x:=⟨_,Y4 (by omega)⟩
  obtain ⟨y,hy⟩:∃ y,lb[i]?=some y:=⟨_,Y4 (by omega)⟩
  obtain ⟨p,rfl,hp⟩:=hA.2 (by omega);obtain ⟨q,rfl,hq⟩:=hB.2 (by omega);have hpx:((la.map S).drop ((i:Int).toNat*1))[0]?=some (S x):=by rw [Y1d,Yf,Y1n,Y21,Yu,hx]; rfl
  have hqy:((lb.map S).drop ((i:Int).toNat*1))[0]?=some (S y):=by rw [Y1d,Yf,Y1n,Y21,Yu,hy]; rfl
  refine .qt hS (.val (fun w hS=>(.mo rfl)) rfl (.val (fun w hS=>(.mo rfl)) rfl (.val (fun w hS=>(.ii rfl rfl (by omega) (by omega) X1u Qs9)) rfl (.val (fun w hS=>(.ldI (v:=S x) (.of rfl) hS (hp.add _) Qg9 hpx)) rfl (.val (fun w hS=>(.mo rfl)) rfl (.val (fun w hS=>(.mo rfl)) rfl (.val (fun w hS=>(.ii rfl rfl (by omega) (by omega) X1u Qs9)) rfl (.val (fun w hS=>(.ldI (v:=S y) (.of rfl) hS (hq.add _) Qg9 hqy)) rfl (.val (fun w hS=>(.nes (.of rfl) (.of rfl))) rfl (.nil ?_))))))))));intro w hS;refine .cond rfl (fun hb25=>?_) fun hb25=>?_
  ·refine .seq (.q 1 rfl (.ret (Xc Tryz.results43 rfl ?_)));exact ⟨_,rfl,by rw [decide_eq_false (fun e=>by subst e; rw [hx] at hy; cases hy; simp at hb25)],hS⟩
  have hc25:=hb25; simp only [Y6] at hc25;refine .skip (.region (.run 3 rfl ⟨⟨by omega,by omega⟩,trivial⟩ (.nil ?_)));refine ⟨i+1,⟨rfl,rfl,rfl,trivial⟩,⟨by omega,fun j hj=>?_,hS⟩,by omega⟩;rcases Yp j i with h1 | h1
  ·exact hok j h1
  ·have e:j=i:=by omega
   subst e;rw [hx,hy,show x=y by simpa using hb25]
 have hc14:=hb14; simp only [Y6] at hc14;refine .exit (.seq (.q 1 rfl (.ret (Xc Tryz.results43 rfl ?_))));refine ⟨_,rfl,?_,hS⟩;rw [decide_eq_true (Y1x fun j=>?_)];rcases Yp j la.length with h | h
 ·exact hok j (by omega)
 ·rw [Y1g h,Y1g (by omega)]
end Go.Proofs.YtbciobiiejpdgaaGreatDoor
namespace Go.Proofs.YtbciobiiejpdgaaGreatDoor
open Gk Pat
theorem Xpz (kind:Int) (own c:UInt8) (w:World) :
  Cz 227 [I64 kind,U8 own.toNat,U8 c.toNat] w fun v w'=>v=.bool (takes kind own c)/\w=w':=by
 refine calls Tryz.func227 rfl Tryz.ntmps227 rfl (.seq (.q 1 rfl (.seq (.t 3 rfl (.gm rfl rfl rfl rfl (.gval rfl rfl (fun hg1=>(.eql (.gd hg1 rfl) (.of rfl))) rfl (.gval rfl rfl (fun hg1=>(.move (.gd hg1 rfl))) rfl (.gval2 rfl rfl rfl (fun hg1 hg2=>(.mo rfl)) rfl (.gval2 rfl rfl rfl (fun hg1 hg2=>(.neq (.gd2 hg1 hg2 rfl) (.of rfl))) rfl (.gval rfl rfl (fun hg1=>(.pand (.gd hg1 rfl) (.gd hg1 rfl) (.of rfl))) rfl (.val (.po rfl rfl rfl) rfl (.q 1 rfl (.gm rfl rfl rfl rfl (.gval rfl rfl (fun hg1=>(.eql (.gd hg1 rfl) (.of rfl))) rfl (.gval rfl rfl (fun hg1=>(.move (.gd hg1 rfl))) rfl (.gval2 rfl rfl rfl (fun hg1 hg2=>(.mo rfl)) rfl (.gval2 rfl rfl rfl (fun hg1 hg2=>(.mo rfl)) rfl (.gval2 rfl rfl rfl (fun hg1 hg2=>(.eql (.gd2 hg1 hg2 rfl) (.gd2 hg1 hg2 rfl))) rfl (.gval rfl rfl (fun hg1=>(.pand (.gd hg1 rfl) (.gd hg1 rfl) (.of rfl))) rfl (.val (.po rfl rfl rfl) rfl (.q 1 rfl (.nil (.ret (Xc Tryz.results227 rfl ?_))))))))))))))))))))))));exact ⟨_,rfl,rfl,rfl⟩
set_option maxHeartbeats 400000 in
theorem Xs6 (s:List UInt8) (fr:List Bool) (p:Addr) (c:Nat) (kind:Int) (own:UInt8) (many:Bool) (B w:World) (I:Im) (As:List X7) (hS:Sat B w I As) (hp:At I p (fr.map Value.bool)) (hl:fr.length=s.length+1) (hb:s.length<=1000000) :
  Cz 185 [S s,.slice (some p) fr.length c,I64 kind,U8 own.toNat,.bool many] w fun v w'=>∃ J q,Le I J/\v=.slice (some q) (s.length+1) (s.length+1)/\At J q ((ends s fr kind own many).map Value.bool)/\Sat B w' J As:=by
 refine calls Xka rfl Tryz.ntmps185 rfl (.seq (.q 1 rfl (.seq (.region (.run 3 rfl ⟨Qu9,⟨by omega,by omega⟩,trivial⟩ ?_)))));refine .make (l:=s.length+1) hS (.of rfl) (.of rfl) X36 X42 rfl (by simp [Tryz.t4] <;> omega) (by omega) rfl rfl rfl ?_;intro b17 w hS;refine .q 1 rfl (.nil (.seq (.seq (.q 1 rfl (.block ?_)))));refine .loop (σ:=Nat) (fun k=>[(0,S s),(1,.slice (some p) fr.length c),(2,I64 kind),(3,U8 own.toNat),(4,.bool many),(11,.slice (some (ad b17 0)) (s.length+1) (s.length+1)),(12,I64 (k:Nat))]) (fun k w=>k<=s.length+1/\Sat B w I (blk b17 ((iter (X54 s fr kind own many) (List.replicate (s.length+1) false) k).map Value.bool ++ []) 4::As)) (fun k=>s.length+1 - k) 0 ⟨rfl,rfl,rfl,rfl,rfl,rfl,rfl,trivial⟩ ⟨Yo _,by rw [iter,Y3b,Y9]; exact hS⟩ ?_;rintro k w ⟨hk,hS⟩;have ho:=X2o s fr kind own many (List.replicate (s.length+1) false) k;rw [Y25] at ho;refine .seq (.seq (.region (.run 4 rfl ⟨Qu9,trivial⟩ (.nil ?_))));refine .cond rfl (fun hb21=>?_) fun hb21=>?_
 ·have hc21:=hb21; simp only [Y6] at hc21;refine .skip (.seq (.block ?_));refine .cutS (σ:=Unit) (fun u=>[(0,S s),(1,.slice (some p) fr.length c),(2,I64 kind),(3,U8 own.toNat),(4,.bool many),(11,.slice (some (ad b17 0)) (s.length+1) (s.length+1)),(12,I64 (k:Nat))]) (fun u w=>Sat B w I (blk b17 ((Xqg fr many (iter (X54 s fr kind own many) (List.replicate (s.length+1) false) k) k).map Value.bool ++ []) 4::As)) ?_ ?_
  ·refine .seq (.t 2 rfl (.gm rfl rfl rfl rfl (.gm rfl rfl rfl rfl ?_)));refine .gval rfl rfl (fun hg1=>(.indexAddrI (.gd hg1 rfl) (.gd hg1 rfl) (by (try simp only [Y6] at hg1); omega) (by (try simp only [Y6] at hg1); omega) X36 Qs4)) rfl ?_;refine .gval rfl rfl (fun hg1=>.ldEI .bool fr false (.gd hg1 rfl) hS hp rfl Qg4 (by omega) (by omega)) rfl (.val (.pa rfl rfl rfl) rfl (.nil ?_));refine .cond rfl (fun hb30=>?_) fun hb30=>?_
   ·have hc30:=hb30; simp only [Y6] at hc30;refine .t 2 rfl (.val (.io rfl rfl (by omega) (by omega) X36 Qs4) rfl (.stE .bool (iter (X54 s fr kind own many) (List.replicate (s.length+1) false) k) [] (u:=true) hS (k:=0) rfl (.of rfl) (.of rfl) rfl rfl Qs4 (by omega) (by omega) ?_));intro w hS; dsimp only [List.set] at hS;refine .nil (⟨(),⟨rfl,rfl,rfl,rfl,rfl,rfl,rfl,trivial⟩,?_⟩);rw [Xqg,hb30]; exact hS
   refine .skip (⟨(),⟨rfl,rfl,rfl,rfl,rfl,rfl,rfl,trivial⟩,?_⟩);rw [Xqg,hb30]; exact hS
  rintro u w hS;have ho1:=X6k fr many (iter (X54 s fr kind own many) (List.replicate (s.length+1) false) k) k;rw [ho] at ho1;obtain ⟨o1,ho1e⟩:∃ o1,o1=Xqg fr many (iter (X54 s fr kind own many) (List.replicate (s.length+1) false) k) k:=⟨_,rfl⟩
  rw [<- ho1e] at hS ho1;refine .seq (.q 2 rfl ?_);refine .cond rfl (fun hb35=>?_) fun hb35=>?_
  ·have hc35:=hb35; simp only [Y6] at hc35;refine .seq (.region (.run 6 rfl ⟨⟨by omega,by omega⟩,⟨⟨by omega,by omega⟩,Qu9⟩,trivial⟩ (.call Tryz.func227 rfl (ec9 rfl (ec9 rfl (ec9 rfl X0))) rfl (Xpz _ _ _ _) ?_)));rintro _ _ ⟨rfl,rfl⟩;refine .q 1 rfl (.nil (.seq (.t 2 rfl (.gm rfl rfl rfl rfl (.gm rfl rfl rfl rfl (.gval rfl rfl (fun hg1=>(.sub (.gd hg1 rfl) (.of rfl) ⟨by omega,by omega⟩)) rfl ?_))))));refine .gval rfl rfl (fun hg1=>(.indexAddrI (.gd hg1 rfl) (.gd hg1 rfl) (by (try simp only [Y6] at hg1); omega) (by (try simp only [Y6] at hg1); omega) X36 Qs4)) rfl ?_;refine .gval rfl rfl (fun hg1=>.ldEI .bool fr false (.gd hg1 rfl) hS hp rfl Qg4 (by omega) (by omega)) rfl (.gval rfl rfl (fun hg1=>(.move (.gd hg1 rfl))) rfl (.gval2 rfl rfl rfl (fun hg1 hg2=>(.mo rfl)) rfl (.gval2 rfl rfl rfl (fun hg1 hg2=>(.move (.gd2 hg1 hg2 rfl))) rfl (.gval3 rfl rfl rfl (fun hg1 hg2 hg3=>(.mo rfl)) rfl (.gval3 rfl rfl rfl (fun hg1 hg2 hg3=>(.mo rfl)) rfl (.gval3 rfl rfl rfl (fun hg1 hg2 hg3=>(.sub (.gd3 hg1 hg2 hg3 rfl) (.of rfl) ⟨by omega,by omega⟩)) rfl ?_))))));refine .gval3 rfl rfl rfl (fun hg1 hg2 hg3=>(.indexAddr (.gd3 hg1 hg2 hg3 rfl) (.gd3 hg1 hg2 hg3 rfl) (by (try simp only [Y6] at hg1 hg2 hg3); omega) (by (try simp only [Y6] at hg1 hg2 hg3); omega) X36 Qs4)) rfl ?_;refine .gval3 rfl rfl rfl (fun hg1 hg2 hg3=>.ldE .bool o1 false [] (.gd3 hg1 hg2 hg3 rfl) hS (k:=0) rfl rfl Qg4 (by omega) (by omega)) rfl (.gval2 rfl rfl rfl (fun hg1 hg2=>(.pand (.gd2 hg1 hg2 rfl) (.gd2 hg1 hg2 rfl) (.of rfl))) rfl (.gval rfl rfl (fun hg1=>(.por (.gd hg1 rfl) (.of rfl) (.gd hg1 rfl))) rfl (.val (.pa rfl rfl rfl) rfl (.nil ?_))));refine .cond rfl (fun hb60=>?_) fun hb60=>?_
   ·have hc60:=hb60; simp only [Y6] at hc60;refine .t 2 rfl (.val (.io rfl rfl (by omega) (by omega) X36 Qs4) rfl (.stE .bool o1 [] (u:=true) hS (k:=0) rfl (.of rfl) (.of rfl) rfl rfl Qs4 (by omega) (by omega) ?_));intro w hS; dsimp only [List.set] at hS;refine .nil (.region (.run 3 rfl ⟨⟨by omega,by omega⟩,trivial⟩ (.nil ?_)));refine ⟨k+1,⟨rfl,rfl,rfl,rfl,rfl,rfl,rfl,trivial⟩,⟨by omega,?_⟩,by omega⟩;have e:iter (X54 s fr kind own many) (List.replicate (s.length+1) false) (k+1)=o1.set (k:Int).toNat true:=by
     rw [iter,X54,<- ho1e];simp only [Xqh]
     rw [hb60,hb35]; rfl
    rw [e]; exact hS
   have hc60:=hb60; simp only [Y6] at hc60;refine .skip (.region (.run 3 rfl ⟨⟨by omega,by omega⟩,trivial⟩ (.nil ?_)));refine ⟨k+1,⟨rfl,rfl,rfl,rfl,rfl,rfl,rfl,trivial⟩,⟨by omega,?_⟩,by omega⟩;have e:iter (X54 s fr kind own many) (List.replicate (s.length+1) false) (k+1)=o1:=by
    rw [iter,X54,<- ho1e];simp only [Xqh]
    rw [hb60,hb35]; rfl
   rw [e]; exact hS
  have hc35:=hb35; simp only [Y6] at hc35;refine .skip (.region (.run 3 rfl ⟨⟨by omega,by omega⟩,trivial⟩ (.nil ?_)));refine ⟨k+1,⟨rfl,rfl,rfl,rfl,rfl,rfl,rfl,trivial⟩,⟨by omega,?_⟩,by omega⟩;have e:iter (X54 s fr kind own many) (List.replicate (s.length+1) false) (k+1)=o1:=by
   rw [iter,X54,<- ho1e];simp only [Xqh]
   rw [hb35]; rfl
  rw [e]; exact hS
 have hc21:=hb21; simp only [Y6] at hc21;refine .exit (.seq (.q 2 rfl (.ret (Xc Tryz.results185 rfl ?_))));obtain rfl:k=s.length+1:=by omega
 obtain ⟨J,hJ,hb,hS⟩:=hS.freeze (k:=0) rfl;refine ⟨_,rfl,J,_,hJ,rfl,⟨rfl,_,_,_,hb,?_⟩,hS⟩;intro j v hj;rw [Y9,<- ends] ;simpa using hj
set_option maxHeartbeats 400000 in
theorem Xe9 (l:List UInt8) (B w:World) (I:Im) (As:List X7) (hS:Sat B w I As) (hl:l.length<=9223372036854775807) :
  Cz 121 [S l] w fun v w'=>v=.tuple #[I64 (chk l).1,I64 (chk l).2]/\Sat B w' I As:=by
 refine calls Tryz.func121 rfl Tryz.ntmps121 rfl (.seq (.q 2 rfl (.seq (.seq (.region (.run 3 rfl ⟨Qu9,trivial⟩ (.nil ?_)))))));refine .cond rfl (fun hb8=>?_) fun hb8=>?_
 ·have hc8:=hb8; simp only [Y6] at hc8;refine .seq (.q 2 rfl (.ret (X1t Xgo rfl rfl ?_)));exact ⟨_,rfl,by rw [chk,if_pos (by omega)],hS⟩
 have hc8:=hb8; simp only [Y6] at hc8;refine .skip (.seq (.q 1 rfl (.seq (.seq (.q 1 rfl (.block ?_))))));refine .loop (σ:=Nat×Option Addr×Nat×List Int) (fun ⟨k,a,c,o⟩=>[(0,S l),(4,.slice a o.length c),(5,I64 (k:Nat))]) (fun ⟨k,a,c,o⟩ w=>k<=l.length/\o.length<=4/\chkGo (l.drop k) k o=chk l/\Sat B w I (Vec 3 1 (.slice a o.length c) o.length (o.map I64)::As)) (fun ⟨k,a,c,o⟩=>l.length - k) (0,none,0,[]) ⟨rfl,rfl,rfl,trivial⟩ ⟨Yo _,Yo _,by rw [chk,if_neg (by omega)]; rfl,hS.vecNil _ _⟩ ?_;rintro ⟨k,a,c,o⟩ w ⟨hk,ho4,hq,hS⟩;change WC _ _ _ _ [(0,S l),(4,.slice a o.length c),(5,I64 (k:Nat))] w;have hcap:=hS.vecCap (k:=0) rfl;refine .seq (.seq (.region (.run 4 rfl ⟨Qu9,trivial⟩ (.nil ?_))));refine .cond rfl (fun hb12=>?_) fun hb12=>?_
 ·have hc12:=hb12; simp only [Y6] at hc12;refine .skip (.seq (.block (.seq (.region (.run 3 rfl ⟨⟨⟨by omega,by omega⟩,Qu9⟩,trivial⟩ (.nil (.block (.seq (.q 2 rfl ?_)))))))));refine .cond rfl (fun hb18=>?_) fun hb18=>?_
  ·have hc18:=hb18; simp only [Y6] at hc18;refine .seq (.seq (.region (.run 3 rfl ⟨⟨_,Xf⟩,trivial⟩ (.nil ?_))));refine .cond rfl (fun hb22=>?_) fun hb22=>?_
   ·have hc22:=hb22; simp only [Y6] at hc22;refine .seq (.q 3 rfl (.ret (X1t Xgo rfl rfl ?_)));have e9:chk l=(24,(k:Int)):=by rw [<- hq,Xe l (by omega),X1e,if_pos (by omega),if_pos (by omega)]
    exact ⟨_,rfl,by rw [e9],hS.y 0 1⟩
   have hc22:=hb22; simp only [Y6] at hc22;refine .skip (.region (.buildSlice (cs:=[]) hS X4 Xf Qs3 Qz3 rfl rfl rfl rfl ?_));intro b24 w hS;have hS:=hS.vecOf (k:=0) (E:=3) (size:=1) (n:=0) rfl rfl (by unfold maxLen; omega); dsimp only [List.set] at hS;refine .q 1 rfl (.appendV (size:=1) (bytes:=8) hS (.of rfl) (.of rfl) (k:=0) (j:=1) rfl rfl Xf X1g rfl rfl rfl rfl (Xwu _) ⟨by omega,by unfold maxLen; omega⟩ rfl ?_);intro v26 w hS; dsimp only [List.set] at hS;refine .q 1 rfl (.buildSlice (cs:=[_]) hS (pc9 rfl X4) Xf Qs3 Qz3 rfl rfl rfl rfl ?_);intro b28 w hS
   skip
   refine .append (size:=1) (bytes:=8) hS (.of rfl) (.of rfl) (k:=0) rfl Xf X1g rfl rfl rfl rfl rfl rfl rfl ⟨by omega,by unfold maxLen; omega⟩ rfl ?_;intro v29 w hS; try dsimp only [List.set] at hS
   obtain ⟨a29,c29,rfl,hcap29,_⟩:=hS.vecSlice (k:=0) (v:=v29) rfl;have hS:=hS.drop (k:=1) rfl; dsimp only [List.eraseIdx] at hS;have e8:0+o.length+1=(o ++ [(k:Int)]).length:=by simp
   rw [e8] at hS ⊢;refine .q 1 rfl (.nil (.region (.run 3 rfl ⟨⟨by omega,by omega⟩,trivial⟩ (.nil ?_))));refine ⟨(k+1,a29,c29,o ++ [(k:Int)]),⟨rfl,rfl,rfl,trivial⟩,⟨by omega,by simp; omega,?_,by simpa using hS⟩,by dsimp only; omega⟩;have e9:=hq;rw [Xe l (by omega),X1e,if_pos (by omega),if_neg (by omega)] at e9;exact e9
  have hc18:=hb18; simp only [Y6] at hc18;refine .seq (.q 2 rfl ?_);refine .cond rfl (fun hb30=>?_) fun hb30=>?_
  ·have hc30:=hb30; simp only [Y6] at hc30;refine .seq (.seq (.region (.run 3 rfl ⟨⟨_,Xf⟩,trivial⟩ (.nil ?_))));refine .cond rfl (fun hb34=>?_) fun hb34=>?_
   ·have hc34:=hb34; simp only [Y6] at hc34;refine .seq (.q 3 rfl (.ret (X1t Xgo rfl rfl ?_)));have e9:chk l=(10,(k:Int)):=by rw [<- hq,Xe l (by omega),X1e,if_neg (by omega),if_pos (by omega),if_pos (by omega)]
    exact ⟨_,rfl,by rw [e9],hS.y 0 1⟩
   have hc34:=hb34; simp only [Y6] at hc34;refine .skip (.region (.run 4 rfl ⟨⟨_,Xf⟩,⟨by omega,by omega⟩,trivial⟩ (.val (.slcTo (.of rfl) (.of rfl) (by omega) (by omega) Xf Qs3) rfl ?_)));obtain ⟨a2,c2,e2,hS⟩:=hS.vecTakeI (k:=0) (f:=I64) (m:=((o.length:Int) - 1).toNat) rfl (by omega);rw [e2]; dsimp only [List.set] at hS;refine .val (.ao rfl) rfl (.nil (.region (.run 3 rfl ⟨⟨by omega,by omega⟩,trivial⟩ (.nil ?_))));refine ⟨(k+1,a2,c2,o.take ((o.length:Int) - 1).toNat),⟨rfl,rfl,rfl,trivial⟩,⟨by omega,by simp; omega,?_,hS⟩,by dsimp only; omega⟩;have e9:=hq;rw [Xe l (by omega),X1e,if_neg (by omega),if_pos (by omega),if_neg (by omega)] at e9;rw [show ((o.length:Int) - 1).toNat=o.length - 1 by omega];exact e9
  have hc30:=hb30; simp only [Y6] at hc30;refine .seq (.q 2 rfl ?_);refine .cond rfl (fun hb41=>?_) fun hb41=>?_
  ·have hc41:=hb41; simp only [Y6] at hc41;refine .seq (.region (.run 3 rfl ⟨⟨_,Xf⟩,trivial⟩ (.nil ?_)));refine .cond rfl (fun hb45=>?_) fun hb45=>?_
   ·have hc45:=hb45; simp only [Y6] at hc45;refine .seq (.q 3 rfl (.ret (X1t Xgo rfl rfl ?_)));have e9:chk l=(10,(k:Int)):=by rw [<- hq,Xe l (by omega),X1e,if_neg (by omega),if_neg (by omega),if_pos (by omega),if_pos (by omega)]
    exact ⟨_,rfl,by rw [e9],hS.y 0 1⟩
   have hc45:=hb45; simp only [Y6] at hc45;refine .skip (.region (.run 3 rfl ⟨⟨by omega,by omega⟩,trivial⟩ (.nil ?_)));refine ⟨(k+1,a,c,o),⟨rfl,rfl,rfl,trivial⟩,⟨by omega,by omega,?_,hS⟩,by dsimp only; omega⟩;have e9:=hq;rw [Xe l (by omega),X1e,if_neg (by omega),if_neg (by omega),if_pos (by omega),if_neg (by omega)] at e9;exact e9
  have hc41:=hb41; simp only [Y6] at hc41;refine .seq (.q 2 rfl ?_);refine .cond rfl (fun hb47=>?_) fun hb47=>?_
  ·have hc47:=hb47; simp only [Y6] at hc47;refine .seq (.seq (.region (.run 5 rfl ⟨⟨by omega,by omega⟩,Qu9,trivial⟩ (.nil ?_))));refine .cond rfl (fun hb53=>?_) fun hb53=>?_
   ·have hc53:=hb53; simp only [Y6] at hc53;refine .seq (.q 3 rfl (.ret (X1t Xgo rfl rfl ?_)));have e9:chk l=(10,(k:Int)):=by rw [<- hq,Xe l (by omega),X1e,if_neg (by omega),if_neg (by omega),if_neg (by omega),if_pos (by omega),Y11 (by omega)]
    exact ⟨_,rfl,by rw [e9],hS.y 0 1⟩
   have hc53:=hb53; simp only [Y6] at hc53;refine .skip (.region (.run 3 rfl ⟨⟨by omega,by omega⟩,trivial⟩ (.nil (.region (.run 3 rfl ⟨⟨by omega,by omega⟩,trivial⟩ (.nil ?_))))));refine ⟨(k+2,a,c,o),⟨rfl,rfl,rfl,trivial⟩,⟨by omega,by omega,?_,hS⟩,by dsimp only; omega⟩;have e9:=hq;rw [Xe l (by omega),X1e,if_neg (by omega),if_neg (by omega),if_neg (by omega),if_pos (by omega),Xe l (k:=k+1) (by omega)] at e9;exact e9
  have hc47:=hb47; simp only [Y6] at hc47;refine .skip (.region (.run 3 rfl ⟨⟨by omega,by omega⟩,trivial⟩ (.nil ?_)));refine ⟨(k+1,a,c,o),⟨rfl,rfl,rfl,trivial⟩,⟨by omega,by omega,?_,hS⟩,by dsimp only; omega⟩;have e9:=hq;rw [Xe l (by omega),X1e,if_neg (by omega),if_neg (by omega),if_neg (by omega),if_neg (by omega)] at e9;exact e9
 have hc12:=hb12; simp only [Y6] at hc12;refine .exit (.seq (.seq (.region (.run 3 rfl ⟨⟨_,Xf⟩,trivial⟩ (.nil ?_)))));refine .cond rfl (fun hb59=>?_) fun hb59=>?_
 ·have hc59:=hb59; simp only [Y6] at hc59;refine .seq ?_;obtain ⟨b8,c8,r,hv8,_,_,_,_,hS⟩:=hS.vecOpen (k:=0) rfl (by omega);injection hv8 with hv8 _ hv9; subst hv8; subst hv9
  dsimp only [List.set] at hS
  refine .qt hS (.val (fun w hS=>(.mo rfl)) rfl (.val (fun w hS=>(.mo rfl)) rfl (.val (fun w hS=>(.lenSlice (.of rfl) Xf)) rfl (.val (fun w hS=>(.sub (.of rfl) (.of rfl) ⟨by omega,by omega⟩)) rfl (.val (fun w hS=>(.io rfl rfl (by omega) (by omega) Xf Qs3)) rfl (.val (fun w hS=>.ldE I64 o 0 r (.of rfl) hS (k:=0) rfl rfl Qg3 (by omega) (by omega)) rfl (.val (fun w hS=>(.ao rfl)) rfl (.val (fun w hS=>(.ao rfl)) rfl (.nil ?_)))))))));intro w hS;refine .ret (X1t Xgo rfl rfl ?_);have e9:chk l=(23,o.getD ((o.length:Int) - 1).toNat 0):=by rw [<- hq,show ((o.length:Int) - 1).toNat=o.length - 1 by omega,Y11 (by omega),Xa4,if_pos (by omega)]
  exact ⟨_,rfl,by rw [e9],hS.y 0 1⟩
 have hc59:=hb59; simp only [Y6] at hc59;refine .skip (.seq (.q 2 rfl (.ret (X1t Xgo rfl rfl ?_))));have e9:chk l=(0,0):=by rw [<- hq,Y11 (by omega),Xa4,if_neg (by omega)]
 exact ⟨_,rfl,by rw [e9],hS.y 0 1⟩
def bad (l:List Sv) (i:Nat) (s:Sv):Nat :=
 if i=16 then 5 else if (decide (s.id<0) || decide (8<(s.rel.length:Int)))=true then 1 else if (l.take i).any (fun t=>t.id == s.id)=true then 7
 else if (((Pat.chk s.urls).1 != 0) || ((Pat.chk s.calls).1 != 0))=true then 8 else 0
def X4s (l:List Sv):Nat->List Sv->Nat×Nat
 | _,[]=>(0,0)
 | i,s::r=>if bad l i s≠0 then (bad l i s,i) else X4s l (i+1) r
def X4a (l:List Sv):Nat×Nat:=X4s l 0 l
theorem X5l (l:List Sv):∀ (n i:Nat) (r:List Sv),(∀ j s,j<n->r[j]?=some s->bad l (i+j) s=0)->X4s l i r=X4s l (i+min n r.length) (r.drop n)
 | 0,i,r,_=>by simp
 | n+1,i,[],_=>by simp [X4s]
 | n+1,i,s::r,h=>by
  have h0:=h 0 s (by omega) rfl;rw [Y21] at h0;rw [X4s,if_neg (by rw [h0]; decide),X5l l n (i+1) r (fun j t hj ht=>by have:=h (j+1) t (by omega) (by simpa using ht); rw [show i+1+j=i+(j+1) by omega]; exact this),Y7,List.length_cons]
  congr 1
  omega
theorem X5m {l:List Sv} {i:Nat} {s:Sv} (h:∀ j t,j<i->l[j]?=some t->bad l j t=0) (hs:l[i]?=some s) (hb:bad l i s≠0):X4a l=(bad l i s,i):=by
 have hi:=(Y5.1 hs).1;unfold X4a;rw [X5l l i 0 l (fun j t hj ht=>by rw [Yc]; exact h j t hj ht),Yc,Y2h (by omega),Y13 hi,(Y5.1 hs).2,X4s,if_pos hb]
theorem Xcn {l:List Sv} (h:∀ j t,l[j]?=some t->bad l j t=0):X4a l=(0,0):=by
 unfold X4a;rw [X5l l l.length 0 l (fun j t _ ht=>by rw [Yc]; exact h j t ht),Y2x];rfl
theorem Xnb (a:Option Addr) (cap:Nat) (l:List Sv) (hcap:l.length<=100000) (hfit:∀ s∈l,s.urls.length<=9223372036854775807/\s.calls.length<=9223372036854775807) (B w:World) (I:Im) (hl:SvsAt I a l) (As:List X7) (hS:Sat B w I As) :
  Cz 78 [.slice a l.length cap] w fun v w'=>v=.tuple #[I64 ((X4a l).1:Nat),I64 ((X4a l).2:Nat)]/\Sat B w' I As:=by
 refine calls Tryz.func78 rfl Tryz.ntmps78 rfl (.seq (.q 2 rfl (.seq (.seq (.q 1 rfl (.block (.loop (σ:=Nat) (fun i=>[(0,.slice a l.length cap),(4,I64 (i:Nat))]) (fun i w=>i<=l.length/\(∀ (j:Nat) (t:Sv),j<i->l[j]?=some t->bad l j t=0)/\Sat B w I As) (fun i=>l.length - i) 0 ⟨rfl,rfl,trivial⟩ ⟨Yo _,fun _ _ h=>absurd h (by omega),hS⟩ ?_)))))));rintro i w ⟨hi,hok,hS⟩;refine .seq (.seq (.region (.run 4 rfl ⟨⟨_,X9b⟩,trivial⟩ (.nil ?_))));refine .cond rfl (fun hb13=>?_) fun hb13=>?_
 ·have hc13:=hb13; simp only [Y6] at hc13;refine .skip (.seq (.block (.seq (.seq ?_))));obtain ⟨s,hs⟩:∃ s,l[i]?=some s:=⟨_,Y4 (by omega)⟩
  obtain ⟨p,ra,rc,rfl,hx,hrc,hr⟩:=hl i s hs;obtain ⟨hsu,hsc⟩:=hfit s (Yl hs);unfold X1o at hx;refine .q 2 rfl (.cond rfl (fun hb17=>?_) fun hb17=>?_)
  ·have hc17:=hb17; simp only [Y6] at hc17;refine .seq (.q 3 rfl (.ret (X1t Qr78 rfl rfl ?_)));have hbd:bad l i s=5:=by
    unfold bad;rw [if_pos (by omega)]
   refine ⟨_,rfl,?_,hS⟩;rw [X5m hok hs (by rw [hbd]; decide),hbd];rfl
  have hc17:=hb17; simp only [Y6] at hc17;refine .skip (.seq (.seq (.t 2 rfl (.val (.ii rfl rfl (by omega) (by omega) X9b X10) rfl (.val (.fi 0 rfl X2d rfl rfl Qs3 rfl) rfl (.val (.ldI (.of rfl) hS (At.add hx _) Qg3 rfl) rfl (.q 2 rfl (.gm rfl rfl rfl rfl (.gm rfl rfl rfl rfl ?_)))))))));refine .gval rfl rfl (fun hg1=>(.indexAddrI (.gd hg1 rfl) (.gd hg1 rfl) (by (try simp only [Y6] at hg1); omega) (by (try simp only [Y6] at hg1); omega) X9b X10)) rfl ?_;refine .gval rfl rfl (fun hg1=>(.fieldAddrI 7 (.gd hg1 rfl) X2d rfl rfl Xkf rfl)) rfl (.gval rfl rfl (fun hg1=>(.ldI (.gd hg1 rfl) hS (At.add hx _) Xm6 rfl)) rfl (.gval rfl rfl (fun hg1=>(.lenSlice (.gd hg1 rfl) X1u)) rfl (.gval rfl rfl (fun hg1=>(.gtr (.gd hg1 rfl) (.of rfl))) rfl (.val (.po rfl rfl rfl) rfl (.nil ?_)))));refine .cond rfl (fun hb33=>?_) fun hb33=>?_
  ·have hc33:=hb33; simp only [Y6] at hc33;refine .seq (.q 3 rfl (.ret (X1t Qr78 rfl rfl ?_)));have hbd:bad l i s=1:=by
    unfold bad;rw [if_neg (by omega),if_pos hb33]
   refine ⟨_,rfl,?_,hS⟩;rw [X5m hok hs (by rw [hbd]; decide),hbd];rfl
  have hc33:=hb33; simp only [Y6] at hc33;refine .skip (.seq (.seq (.q 1 rfl (.block (.loop (σ:=Nat) (fun k=>[(0,.slice (some p) l.length cap),(4,I64 (i:Nat)),(5,I64 (k:Nat))]) (fun k w=>k<=i/\(∀ (q:Nat) (t:Sv),q<k->l[q]?=some t->t.id≠s.id)/\Sat B w I As) (fun k=>i - k) 0 ⟨rfl,rfl,rfl,trivial⟩ ⟨Yo _,fun _ _ h=>absurd h (by omega),hS⟩ ?_)))));rintro k w ⟨hk,hids,hS⟩;refine .seq (.seq (.q 3 rfl ?_));refine .cond rfl (fun hb37=>?_) fun hb37=>?_
  ·have hc37:=hb37; simp only [Y6] at hc37;refine .skip (.seq (.block (.seq ?_)));obtain ⟨z,hzk⟩:∃ z,l[k]?=some z:=⟨_,Y4 (by omega)⟩
   obtain ⟨p2,ra2,rc2,e2,hz,_,_⟩:=hl k z hzk;cases e2
   unfold X1o at hz;refine .qt hS (.val (fun w hS=>(.mo rfl)) rfl (.val (fun w hS=>(.mo rfl)) rfl (.val (fun w hS=>(.ii rfl rfl (by omega) (by omega) X9b X10)) rfl (.val (fun w hS=>(.fi 0 rfl X2d rfl rfl Qs3 rfl)) rfl (.val (fun w hS=>(.ldI (.of rfl) hS (At.add hz _) Qg3 rfl)) rfl (.val (fun w hS=>(.mo rfl)) rfl (.val (fun w hS=>(.mo rfl)) rfl (.val (fun w hS=>(.ii rfl rfl (by omega) (by omega) X9b X10)) rfl (.val (fun w hS=>(.fi 0 rfl X2d rfl rfl Qs3 rfl)) rfl (.val (fun w hS=>(.ldI (.of rfl) hS (At.add hx _) Qg3 rfl)) rfl (.val (fun w hS=>(.eql (.of rfl) (.of rfl))) rfl (.nil ?_))))))))))));intro w hS;refine .cond rfl (fun hb50=>?_) fun hb50=>?_
   ·have hc50:=hb50; simp only [Y6] at hc50;refine .seq (.q 3 rfl (.ret (X1t Qr78 rfl rfl ?_)));have hbd:bad l i s=7:=by
     unfold bad;rw [if_neg (by omega),if_neg (by rw [hb33]; decide),if_pos];rw [Y35];exact ⟨z,Yl (i:=k) (by rw [Y1r,if_pos (by omega)]; exact hzk),hb50⟩
    refine ⟨_,rfl,?_,hS⟩;rw [X5m hok hs (by rw [hbd]; decide),hbd];rfl
   have hc50:=hb50; simp only [Y6] at hc50;refine .skip (.region (.run 3 rfl ⟨⟨by omega,by omega⟩,trivial⟩ (.nil ?_)));refine ⟨k+1,⟨rfl,rfl,rfl,trivial⟩,⟨by omega,fun q u hq hu=>?_,hS⟩,by omega⟩;rcases Yp q k with h1 | h1
   ·exact hids q u h1 hu
   ·have e:q=k:=by omega
    subst e;rw [hzk] at hu; cases hu;simpa using hb50
  have hc37:=hb37; simp only [Y6] at hc37;refine .exit (.seq ?_);have hno7:¬ (l.take i).any (fun t=>t.id == s.id)=true:=by
   rw [Y2q,Y4j];intro t ht;obtain ⟨q,hq⟩:=Yy.1 ht;rw [Y1r] at hq;split at hq
   ·rename_i hqi
    have:=hids q t (by omega) hq
    simpa using this
   ·cases hq
  refine .t 2 rfl (.val (.ii rfl rfl (by omega) (by omega) X9b X10) rfl (.val (.fi 2 rfl X2d rfl rfl Qs9 rfl) rfl (.val (.ldI (.of rfl) hS (At.add hx _) Qg9 rfl) rfl (.call Tryz.func121 rfl (ec9 rfl X0) rfl (Xe9 s.urls B _ I As hS (by omega)) ?_))));rintro _ w ⟨rfl,hS⟩;refine .q 5 rfl (.nil (.seq (.t 2 rfl (.val (.ii rfl rfl (by omega) (by omega) X9b X10) rfl (.val (.fi 6 rfl X2d rfl rfl Qs9 rfl) rfl (.val (.ldI (.of rfl) hS (At.add hx _) Qg9 rfl) rfl (.call Tryz.func121 rfl (ec9 rfl X0) rfl (Xe9 s.calls B _ I As hS (by omega)) ?_)))))));rintro _ w ⟨rfl,hS⟩;refine .q 5 rfl (.nil (.seq (.t 3 rfl (.gm rfl rfl rfl rfl (.gval rfl rfl (fun hg1=>(.neq (.gd hg1 rfl) (.of rfl))) rfl (.val (.po rfl rfl rfl) rfl (.nil ?_)))))));refine .cond rfl (fun hb75=>?_) fun hb75=>?_
  ·have hc75:=hb75; simp only [Y6] at hc75;refine .seq (.q 3 rfl (.ret (X1t Qr78 rfl rfl ?_)));have hbd:bad l i s=8:=by
    unfold bad;rw [if_neg (by omega),if_neg (by rw [hb33]; decide),if_neg hno7,if_pos hb75]
   refine ⟨_,rfl,?_,hS⟩;rw [X5m hok hs (by rw [hbd]; decide),hbd];rfl
  have hc75:=hb75; simp only [Y6] at hc75;refine .skip (.region (.run 3 rfl ⟨⟨by omega,by omega⟩,trivial⟩ (.nil ?_)));refine ⟨i+1,⟨rfl,rfl,trivial⟩,⟨by omega,fun j u hj hu=>?_,hS⟩,by omega⟩;rcases Yp j i with h1 | h1
  ·exact hok j u h1 hu
  ·have e:j=i:=by omega
   subst e;rw [hs] at hu; cases hu;unfold bad;rw [if_neg (by omega),if_neg (by rw [hb33]; decide),if_neg hno7,if_neg (by rw [hb75]; decide)]
 have hc13:=hb13; simp only [Y6] at hc13;refine .exit (.seq (.q 2 rfl (.ret (X1t Qr78 rfl rfl ?_))));refine ⟨_,rfl,?_,hS⟩;rw [Xcn (fun j t ht=>hok j t (by have:=(Y5.1 ht).1; omega) ht)];rfl
end Go.Proofs.YtbciobiiejpdgaaGreatDoor
namespace Go.Proofs.YtbciobiiejpdgaaGreatDoor
open Gk
theorem X7b:Tryz.prog.info? 27=some Tryz.t27:=by kernel_rfl
theorem Xlb:Tryz.prog.info? 105=some Tryz.t105:=by kernel_rfl
def SvsIn (I:Im) (a:Option Addr) (L:List (List Value)) (l:List Sv):Prop:=L.length=l.length/\∀ (i:Nat) (s:Sv),l[i]?=some s->∃ p c,a=some p/\L[i]?=some c/\At I (p.add (i*8)) c/\SvAt I s c
theorem SvsIn.mono {I J:Im} {a:Option Addr} {L:List (List Value)} {l:List Sv} (h:SvsIn I a L l) (hl:Le I J):SvsIn J a L l:=⟨h.1,fun i s hs=>by
 obtain ⟨p,c,e,h0,h1,h2⟩:=h.2 i s hs;exact ⟨p,c,e,h0,h1.mono hl,h2.mono hl⟩⟩
theorem SvsIn.svs {I:Im} {a:Option Addr} {L:List (List Value)} {l:List Sv} (h:SvsIn I a L l):SvsAt I a l:=fun i s hs=>by
 obtain ⟨p,c,e,h0,h1,ra,rc,rfl,h2,h3⟩:=h.2 i s hs;exact ⟨p,ra,rc,e,h1,h2,h3⟩
def X4v (L:List (List Value)) (D:List Int):List (List Value):=D.map fun d=>L.getD d.toNat []
def ords (l:List Sv):List Nat:=l.map Sv.ord
theorem Xuu (a:Option Addr) (cap:Nat) (L:List (List Value)) (l:List Sv) (hln:l.length<=100000) (hsm:∀ v∈ords l,v<18446744073709551616) (B w:World) (I:Im) (hl:SvsIn I a L l) (As:List X7) (hS:Sat B w I As) :
  Cz 94 [.slice a l.length cap] w fun v w'=>∃ J D,Le I J/\Srt.Ord (kx (ords l)) l.length D/\Sat B w' J (Vec 105 8 v l.length (X4v L D).flatten::As):=by
 refine calls Tryz.func94 rfl Tryz.ntmps94 rfl (.seq (.q 1 rfl (.seq (.q 1 rfl (.seq (.seq (.q 1 rfl (.block ?_))))))));replace hS:=hS.vecNil 27 1;refine .loop (σ:=Value×Nat) (fun ⟨kv,i⟩=>[(0,.slice a l.length cap),(3,kv),(4,I64 (i:Nat))]) (fun ⟨kv,i⟩ w=>i<=l.length/\Sat B w I (Vec 27 1 kv i (((ords l).take i).map F64)::As)) (fun ⟨kv,i⟩=>l.length - i) (.slice none 0 0,0) ⟨rfl,rfl,rfl,trivial⟩ ⟨Yo _,hS⟩ ?_;rintro ⟨kv,i⟩ w ⟨hi,hS⟩;refine .seq (.seq (.region (.run 4 rfl ⟨⟨_,X9b⟩,trivial⟩ (.nil ?_))));refine .cond rfl (fun hb11=>?_) fun hb11=>?_
 ·have hc11:=hb11; simp only [Y6] at hc11;refine .skip (.seq (.block ?_));obtain ⟨s,hs⟩:∃ s,l[i]?=some s:=⟨_,Y4 (by omega)⟩
  obtain ⟨p,ra,rc,rfl,hx,hrc,hr⟩:=hl.svs i s hs;unfold X1o at hx;have hnx:((ords l).take (i+1)).map F64=((ords l).take i).map F64 ++ [F64 s.ord]:=by
   rw [Yz,ords,Yu,hs,Yw]; rfl
  have htl:((ords l).take i).length=i:=by rw [Yr,ords,Y14]; omega
  refine .t 3 rfl (.val (.ii rfl rfl (by omega) (by omega) X9b X10) rfl (.val (.fi 1 rfl X2d rfl rfl Xgf rfl) rfl (.val (.ldI (.of rfl) hS (At.add hx _) Xm5 rfl) rfl (.buildSlice (cs:=[_]) hS (pc9 rfl X4) X63 Xgf Qz27 rfl rfl rfl rfl ?_))));clear hS; intro b20 w hS;refine .append (size:=1) (bytes:=8) hS (.of rfl) (.of rfl) (k:=0) rfl X63 X7b rfl rfl rfl rfl rfl rfl rfl ⟨by omega,by unfold maxLen; omega⟩ rfl ?_;clear hS; intro v21 w hS;obtain ⟨a21,c21,rfl,hcap21,_⟩:=hS.vecSlice (k:=0) (v:=v21) rfl;refine .q 1 rfl (.nil (.region (.run 3 rfl ⟨⟨by omega,by omega⟩,trivial⟩ (.nil ?_))));refine ⟨(_,i+1),⟨rfl,rfl,rfl,trivial⟩,⟨by (try dsimp only); omega,?_⟩,by (try dsimp only); omega⟩;rw [hnx]; exact hS
 have hc11:=hb11; simp only [Y6] at hc11;refine .exit (.seq ?_);have hin:i=l.length:=by omega
 subst hin;have hol:(ords l).length=l.length:=Y14 ..;rw [Yx (by omega)] at hS;obtain ⟨ka,kc,rfl,hkc,_⟩:=hS.vecSlice (k:=0) (v:=kv) rfl;obtain ⟨J,hJ,hOR,hS2⟩:=hS.freezeVec (k:=0) rfl;clear hS;have hS:=hS2;clear hS2;try dsimp only [List.eraseIdx] at hS
 rw [<- hol] at hOR ⊢;refine .t 1 rfl (.call Tryz.func139 rfl (ec9 rfl X0) rfl (Xfy (ords l) hsm (by omega) ka kc B _ J hOR As hS) ?_);clear hS;rintro _ w ⟨D,va,vc,rfl,hD,hS⟩;obtain ⟨J2,hJ2,hDR,hS2⟩:=hS.freezeVec (k:=0) rfl;clear hS;have hS:=hS2;clear hS2;try dsimp only [List.eraseIdx] at hS
 replace hJ:=Le.trans hJ hJ2;rw [hol] at hD hDR ⊢;have hDl:=hD.len;refine .q 1 rfl (.nil (.seq (.q 1 rfl (.seq (.seq (.q 1 rfl (.block ?_)))))));replace hS:=hS.vecNil 105 8;refine .loop (σ:=Value×Nat) (fun ⟨kv,j⟩=>[(0,.slice a l.length cap),(5,.slice va l.length vc),(6,kv),(7,I64 (j:Nat))]) (fun ⟨kv,j⟩ w=>j<=l.length/\Sat B w J2 (Vec 105 8 kv j (X4v L (D.take j)).flatten::As)) (fun ⟨kv,j⟩=>l.length - j) (.slice none 0 0,0) ⟨rfl,rfl,rfl,rfl,trivial⟩ ⟨Yo _,hS⟩ ?_;rintro ⟨kv,j⟩ w ⟨hj,hS⟩;refine .seq (.seq (.region (.run 4 rfl ⟨⟨_,Xf⟩,trivial⟩ (.nil ?_))));refine .cond rfl (fun hb27=>?_) fun hb27=>?_
 ·have hc27:=hb27; simp only [Y6] at hc27;refine .skip (.seq (.block ?_));obtain ⟨d,hd⟩:∃ d,D[j]?=some d:=⟨_,Y4 (by omega)⟩
  have hdm:d∈Srt.upto l.length:=hD.2.mem_iff.1 (Yl hd);have hdr:=Srt.upto_mem.1 hdm;obtain ⟨s,hs⟩:∃ s,l[d.toNat]?=some s:=⟨_,Y4 (by omega)⟩
  obtain ⟨p,c,rfl,hc,hx,ra,rc,rfl,hrc,hr⟩:=(hl.mono hJ).2 d.toNat s hs;have hnr:(X4v L (D.take (j+1))).flatten=(X4v L (D.take j)).flatten ++ X1o s ra rc:=by
   unfold X4v;rw [Yz,hd,Yw,Y29];simp [Y8,hc]
  unfold X1o at hx hnr;obtain ⟨dp,rfl,hdp⟩:=hDR.2 (by omega);have hdx:((D.map I64).drop ((j:Int).toNat*1))[0]?=some (I64 d):=by rw [Y1d,Yf,Y1n,Y21,Yu,hd]; rfl
  refine .t 4 rfl (.val (.ii rfl rfl (by omega) (by omega) Xf Qs3) rfl (.val (.ldI (v:=I64 d) (.of rfl) hS (hdp.add _) Qg3 hdx) rfl (.val (.ii rfl rfl (by omega) (by omega) X9b X10) rfl (.val (.ldsI (.of rfl) hS hx X61 X10 rfl (fun _ _ h=>h)) rfl (.buildSlice (cs:=[_,_,_,_,_,_,_,_]) hS (pc9 rfl X4) X9b X10 Xbq rfl rfl rfl rfl ?_)))));clear hS; intro b38 w hS;refine .append (size:=8) (bytes:=80) hS (.of rfl) (.of rfl) (k:=0) rfl X9b Xlb rfl rfl rfl rfl rfl rfl rfl ⟨by omega,by unfold maxLen; omega⟩ rfl ?_;clear hS; intro v39 w hS;obtain ⟨a39,c39,rfl,hcap39,_⟩:=hS.vecSlice (k:=0) (v:=v39) rfl;refine .q 1 rfl (.nil (.region (.run 3 rfl ⟨⟨by omega,by omega⟩,trivial⟩ (.nil ?_))));refine ⟨(_,j+1),⟨rfl,rfl,rfl,rfl,trivial⟩,⟨by (try dsimp only); omega,?_⟩,by (try dsimp only); omega⟩;rw [hnr]; exact hS
 have hc27:=hb27; simp only [Y6] at hc27;refine .exit (.seq (.q 2 rfl (.ret (Xc Tryz.results94 rfl ?_))));have hjn:j=l.length:=by omega
 subst hjn;rw [Yx (by omega)] at hS;exact ⟨_,rfl,J2,D,hJ,hD,hS⟩
end Go.Proofs.YtbciobiiejpdgaaGreatDoor
namespace Go.Proofs.YtbciobiiejpdgaaGreatDoor
open Gk Pat
theorem Xtn (xs:List Value) (x y:Value) (r:List Value):((xs ++ [x]) ++ r).set (0+(xs.length:Int).toNat*1) y=(xs ++ [y]) ++ r:=by
 rw [Yf,Yc,Y1n,Yd,Y2c _ _ (Yq _)]
 simp
theorem Xwd {l:List UInt8} {k:Nat} (h:Xg (l.drop (k:Int).toNat) [42,42]=true) (hk:k<l.length):k+1<l.length:=by
 simp [Xg] at h
 omega
theorem Xsh {l:List UInt8} {k:Nat} (h:Xg (l.drop (k:Int).toNat) [42,42]=true) (hk:k+1<l.length):(at_ l ((k+1:Nat):Int)).toNat=42:=by
 rw [Yf,Xe l (k:=k) (by omega),Xe l (k:=k+1) hk] at h;simp [Xg] at h
 rw [show ((k+1:Nat):Int)=(k:Int)+1 from rfl,h.2.2]; rfl
theorem star1 {l:List UInt8} {k:Nat} {Q:List Pl} {stk:List PFr} {ats:List Int} {X:Except (Int×Int) (List Pl)} (h:Xg (l.drop (k:Int).toNat) [42,42]=false) (hk:k<l.length/\(at_ l (k:Int)).toNat=42)
  (e:(match l.drop (k+1) with
   | d::r'=>if d.toNat=42 then cmpGo r' ((k:Int)+2) (Q ++ [(2,0,[])]) stk ats else cmpGo (d::r') ((k:Int)+1) (Q ++ [(3,0,[])]) stk ats
   | []=>cmpGo [] ((k:Int)+1) (Q ++ [(3,0,[])]) stk ats)=X):cmpGo (l.drop (k+1)) ((k:Int)+1) (Q ++ [(3,0,[])]) stk ats=X:=by
 cases hd:l.drop (k+1) with
 | nil=>rw [hd] at e; exact e
 | cons d r =>
  rw [hd] at e;have hne:¬ d.toNat=42:=fun h42=>by
   rw [Yf,Xe l (k:=k) hk.1,hd] at h;have h1:at_ l (k:Int)=42:=Y18.1 hk.2;have h2:d=42:=Y18.1 h42;rw [h1,h2] at h;simp [Xg] at h
   omega
  simp only [hne,if_false] at e
  exact e
theorem Xks:Bld Tryz.prog 275 [(0,1),(1,1),(2,1)] [.slice none 0 0,.slice none 0 0,.slice none 0 0]:=X23 X1z Tryz.zeroValue275 (fun w=>by simp [go_sem])
theorem Xkt:Bld Tryz.prog 278 [(0,1),(1,1)] [.slice none 0 0,.int .i64 0]:=X23 Xgt Tryz.zeroValue278 (fun w=>by simp [go_sem])
set_option maxHeartbeats 1600000 in
theorem Xgh (l:List UInt8) (B w:World) (I:Im) (As:List X7) (hS:Sat B w I As) (hl:l.length<=9223372036854775807) :
  Calls Tryz.prog 160 [S l].toArray w (Ret fun v w'=>(∃ e a J,cmp l=.error (e,a)/\v=.tuple #[.pointer none,I64 e,I64 a]/\Le I J/\Sat B w' J As) \/
   (∃ Q p J,cmp l=.ok Q/\v=.tuple #[.pointer (some p),I64 0,I64 0]/\Le I J/\PatI J p Q l.length/\Sat B w' J As)):=by
 refine calls Tryz.func160 rfl Tryz.ntmps160 rfl (.seq (.q 3 rfl (.seq (.seq (.region (.run 3 rfl ⟨Qu9,trivial⟩ (.nil ?_)))))));refine .cond rfl (fun hb12=>?_) fun hb12=>?_
 ·have hc12:=hb12; try simp only [Y6] at hc12
  refine .seq (.q 3 rfl (.ret (Xap Xgp rfl rfl rfl ?_)));exact ⟨_,rfl,.inl ⟨_,_,I,by rw [cmp,if_pos (by omega)],rfl,Le.refl I,hS⟩⟩
 have hc12:=hb12; try simp only [Y6] at hc12
 refine .skip (.seq (.region (.val (.build (cs:=[_,_,_]) X4 Xks rfl) rfl (.boxA (cs:=[_,_,_]) hS (.of rfl) rfl ?_))));clear hS; intro b14 w hS;have hS:=((((Xki hS).vecNil 3 1).vecNil 109 1).vecNil 288 3).pick 4 rfl;refine .q 1 rfl (.nil (.seq (.seq (.q 1 rfl (.block ?_)))));refine .loop (σ:=Nat×List PFr×List (Value×List Int)×List Pl×List X2g×Value×Value×Value×List Int×Im) (fun ⟨k,stk,st,Q,P,lv,sv,av,ats,J⟩=>[(0,S l),(5,ptr b14 0),(6,I64 (k:Nat))]) (fun ⟨k,stk,st,Q,P,lv,sv,av,ats,J⟩ w=>k<=l.length/\Q.length<=k/\st.map (·.2)=stk.reverse.map mks/\stk.length<=4/\ats.length=stk.length/\Frames Q Q.length stk/\RelP J P Q/\Le I J/\cmpGo (l.drop k) k Q stk ats=cmp l/\Sat B w J (blk b14 [lv,sv,av] 275::Vec 288 3 lv P.length (P.flatMap enc)::Vec 109 1 sv st.length (st.map (·.1))::Vec 3 1 av ats.length (ats.map I64)::X45 3 st::As)) (fun ⟨k,stk,st,Q,P,lv,sv,av,ats,J⟩=>l.length - k) (0,[],[],[],[],.slice none 0 0,.slice none 0 0,.slice none 0 0,[],I) ⟨rfl,rfl,rfl,trivial⟩ ⟨Yo _,Yq _,rfl,by simp,rfl,trivial,RelP.nil _,Le.refl _,by rw [cmp,if_neg (by omega)]; rfl,hS⟩ ?_;rintro ⟨k,stk,st,Q,P,lv,sv,av,ats,J⟩ w ⟨hk,hQk,hst,hlen4,hats,hF,hR,hJ,hq,hS⟩;obtain ⟨la,lc,rfl,hlc,_⟩:=hS.vecSlice (k:=1) rfl;obtain ⟨sa,sc,rfl,hsc,_⟩:=hS.vecSlice (k:=2) rfl;obtain ⟨aa,ac,rfl,hac,_⟩:=hS.vecSlice (k:=3) rfl;have hst2:st.length=stk.length:=by have:=congrArg List.length hst; simpa using this
 have hPQ:=hR.1;refine .seq (.seq (.region (.run 4 rfl ⟨Qu9,trivial⟩ (.nil ?_))));refine .cond rfl (fun hb18=>?_) fun hb18=>?_
 ·have hc18:=hb18; try simp only [Y6] at hc18
  refine .skip (.seq (.block (.seq (.t 2 rfl (.val (.fo 1 rfl X1z rfl rfl X4z rfl) rfl (.val (.lo rfl hS (k:=0) rfl Xgn rfl) rfl (.run 2 rfl ⟨⟨_,X2a⟩,trivial⟩ (.nil (.seq (.region (.run 4 rfl ⟨⟨⟨by omega,by omega⟩,Qu9⟩,trivial⟩ (.nil (.seq (.q 1 rfl (.block (.seq (.q 2 rfl ?_)))))))))))))))));refine .cond rfl (fun hb33=>?_) fun hb33=>?_
  ·have hc33:=hb33; try simp only [Y6] at hc33
   refine .t 1 rfl (.call X80 rfl (ec9 rfl (ec9 rfl (ec9 rfl X0))) rfl (X30 _ P.length _ _ _ _ _ _ _ _ _ _ hS (by omega)) ?_);clear hS;rintro _ w ⟨rfl,lv2,hS⟩;refine .nil (.region (.run 3 rfl ⟨⟨by omega,by omega⟩,trivial⟩ (.nil ?_)));have e9:=hq;rw [Xe l (by omega),Xi,if_pos (by omega)] at e9;refine ⟨(k+1,stk,st,Q ++ [(1,0,[])],P ++ [(1,0,.slice none 0 0)],lv2,.slice sa st.length sc,.slice aa ats.length ac,ats,J),⟨rfl,rfl,rfl,trivial⟩,⟨by omega,by rw [Y0]; simp; omega,hst,hlen4,hats,hF.app _,hR.snoc _ _ _ _ (IntsI.nil _),hJ,e9,?_⟩,by dsimp only; omega⟩;rw [Y0,Y1k]; exact hS
  have hc33:=hb33; try simp only [Y6] at hc33
  refine .seq (.q 2 rfl ?_);refine .cond rfl (fun hb37=>?_) fun hb37=>?_
  ·have hc37:=hb37; try simp only [Y6] at hc37
   refine .seq (.t 2 rfl (.val (.subFrom (.of rfl) (.of rfl) (by omega) (by omega) Qu9) rfl ?_));refine .call Xgl rfl (ec9 rfl (ec9 rfl X0)) rfl (X1s _ _ _ (by simp; omega) (by simp)) ?_;rintro _ _ ⟨rfl,rfl⟩;refine .nil (.cond rfl (fun hb42=>?_) fun hb42=>?_)
   ·have hc42:=hb42; try simp only [Y6] at hc42
    refine .seq (.t 1 rfl (.call X80 rfl (ec9 rfl (ec9 rfl (ec9 rfl X0))) rfl (X30 _ P.length _ _ _ _ _ _ _ _ _ _ hS (by omega)) ?_));clear hS;rintro _ w ⟨rfl,lv2,hS⟩;refine .nil (.region (.run 3 rfl ⟨⟨by omega,by omega⟩,trivial⟩ (.nil (.region (.run 3 rfl ⟨⟨by omega,by omega⟩,trivial⟩ (.nil ?_))))));have e9:=hq;have hk2:k+1<l.length:=Xwd hb42 (by omega);rw [Xe l (by omega),Xi,if_neg (by omega),if_pos (by omega),Xe l hk2] at e9;simp only [] at e9
    rw [if_pos (Xsh hb42 hk2)] at e9;refine ⟨(k+2,stk,st,Q ++ [(2,0,[])],P ++ [(2,0,.slice none 0 0)],lv2,.slice sa st.length sc,.slice aa ats.length ac,ats,J),⟨rfl,rfl,rfl,trivial⟩,⟨by omega,by rw [Y0]; simp; omega,hst,hlen4,hats,hF.app _,hR.snoc _ _ _ _ (IntsI.nil _),hJ,e9,?_⟩,by dsimp only; omega⟩;rw [Y0,Y1k]; exact hS
   have hc42:=hb42; try simp only [Y6] at hc42
   refine .t 1 rfl (.call X80 rfl (ec9 rfl (ec9 rfl (ec9 rfl X0))) rfl (X30 _ P.length _ _ _ _ _ _ _ _ _ _ hS (by omega)) ?_);clear hS;rintro _ w ⟨rfl,lv2,hS⟩;refine .nil (.region (.run 3 rfl ⟨⟨by omega,by omega⟩,trivial⟩ (.nil ?_)));have e9:=hq;rw [Xe l (by omega),Xi,if_neg (by omega),if_pos (by omega)] at e9;have e9:=star1 hb42 (by omega) e9;refine ⟨(k+1,stk,st,Q ++ [(3,0,[])],P ++ [(3,0,.slice none 0 0)],lv2,.slice sa st.length sc,.slice aa ats.length ac,ats,J),⟨rfl,rfl,rfl,trivial⟩,⟨by omega,by rw [Y0]; simp; omega,hst,hlen4,hats,hF.app _,hR.snoc _ _ _ _ (IntsI.nil _),hJ,e9,?_⟩,by dsimp only; omega⟩;rw [Y0,Y1k]; exact hS
  have hc37:=hb37; try simp only [Y6] at hc37
  refine .seq (.q 2 rfl ?_);refine .cond rfl (fun hb49=>?_) fun hb49=>?_
  ·have hc49:=hb49; try simp only [Y6] at hc49
   refine .seq (.seq (.q 2 rfl ?_));refine .cond rfl (fun hb52=>?_) fun hb52=>?_
   ·have hc52:=hb52; try simp only [Y6] at hc52
    refine .seq (.q 4 rfl (.ret (Xap Xgp rfl rfl rfl ?_)));have e9:cmp l=.error (24,(k:Int)):=by rw [<- hq,Xe l (by omega),Xi,if_neg (by omega),if_neg (by omega),if_pos (by omega),if_pos (by omega)]
    exact ⟨_,rfl,.inl ⟨_,_,J,e9,rfl,hJ,hS.y 0 5⟩⟩
   have hc52:=hb52; try simp only [Y6] at hc52
   refine .skip (.t 2 rfl (.call Tryz.func209 rfl (ec9 rfl (ec9 rfl X0)) rfl (Xh1 _ P.length _ _ _ _ st ats _ _ _ _ _ hS (by omega) (by omega) (by omega)) ?_));clear hS;rintro _ w ⟨rfl,lv2,sv2,av2,mv2,hS⟩;refine .nil (.region (.run 3 rfl ⟨⟨by omega,by omega⟩,trivial⟩ (.nil ?_)));have e9:=hq;rw [Xe l (by omega),Xi,if_neg (by omega),if_neg (by omega),if_pos (by omega),if_neg (by omega)] at e9;have hx:=hR.1;refine ⟨(k+1,(Q.length,[])::stk,st ++ [(mv2,[(P.length:Int)])],Q ++ [(4,0,[])],P ++ [(4,0,.slice none 0 0)],lv2,sv2,av2,ats ++ [(k:Int)],J),⟨rfl,rfl,rfl,trivial⟩,⟨by omega,by rw [Y0]; simp; omega,?_,by simp; omega,by simp [hats],⟨by simp,by simp,by simp,fun b hb=>by simp at hb,hF.grow (by simp) (by simp) fun i hi hq2=>by rw [Yi hi]; exact hq2⟩,hR.snoc _ _ _ _ (IntsI.nil _),hJ,e9,?_⟩,by dsimp only; omega⟩
   ·simp [hst,mks,hx]
   ·simp only [Y0,Y1k,Yw,Y1h,Y1b,Y3a]; exact hS
  have hc49:=hb49; try simp only [Y6] at hc49
  refine .seq (.seq (.q 2 rfl ?_));refine .cond rfl (fun hb57=>?_) fun hb57=>?_
  ·have hc57:=hb57; try simp only [Y6] at hc57
   refine .skip ?_;refine .cond rfl (fun hb57=>?_) (fun hb57=>by exfalso; simp only [Y6] at hb57; omega);have hc57:=hb57; try simp only [Y6] at hc57
   refine .seq (.seq (.q 2 rfl ?_));refine .cond rfl (fun hb61=>?_) fun hb61=>?_
   ·have hc61:=hb61; try simp only [Y6] at hc61
    refine .seq (.q 4 rfl (.ret (Xap Xgp rfl rfl rfl ?_)));obtain rfl:stk=[]:=Yj (by omega);have e9:cmp l=.error (10,(k:Int)):=by rw [<- hq,Xe l (by omega),Xi,if_neg (by omega),if_neg (by omega),if_neg (by omega),if_pos (by omega)]
    exact ⟨_,rfl,.inl ⟨_,_,J,e9,rfl,hJ,hS.y 0 5⟩⟩
   have hc61:=hb61; try simp only [Y6] at hc61
   refine .skip (.seq (.seq (.q 2 rfl ?_)));refine .cond rfl (fun hb64=>by exfalso; simp only [Y6] at hb64; omega) (fun hb64=>?_);have hc64:=hb64; try simp only [Y6] at hc64
   refine .skip (.seq ?_);obtain ⟨o,bs,rest,rfl⟩:∃ o bs rest,stk=(o,bs)::rest:=by
    cases stk with
    | nil=>exfalso; have:st.length=0:=hst2; omega
    | cons f r=>exact ⟨f.1,f.2,r,rfl⟩
   obtain ⟨st0,mv,rfl,hst0⟩:=Xjx hst;obtain ⟨hf1,hf2,hf3,hf4,hf5⟩:=id hF;simp only [Yw,Y1b,Y3a,Y0,Y1h] at hS
   have hl0:st0.length+1=rest.length+1:=by simpa using hst2
   have hats2:ats.length=rest.length+1:=by simpa using hats
   have hlen5:rest.length+1<=4:=by simpa using hlen4
   obtain ⟨gs,sc2,rs,hv8,hsc1,hsc2,hsc3,hsc4,hS⟩:=hS.vecOpen (k:=2) rfl (by omega);injection hv8 with hv8 _ hv9; subst hv8; subst hv9
   have e4:X45 3 (st0 ++ [(mv,mks (o,bs))])=SepAll ((st0.map fun x=>Vec 3 1 x.1 x.2.length (x.2.map I64)) ++ [Vec 3 1 mv (mks (o,bs)).length ((mks (o,bs)).map I64)]):=by rw [X45,Yw]; rfl
   rw [e4] at hS;replace hS:=hS.pop (k:=4) rfl;obtain ⟨ma,mc,rfl,hmc,_⟩:=hS.vecSlice (k:=0) rfl;have hmk:(mks (o,bs)).length=bs.length+1:=by simp [mks]
   have e28:(((st0 ++ [(Value.slice ma (mks (o,bs)).length mc,mks (o,bs))]).length:Nat):Int) - 1=(st0.length:Int):=by simp
   refine .dw (fun w=>∃ R,Sat B w J (blk gs ((st0.map (·.1) ++ [Value.slice ma (mks (o,bs)).length mc]) ++ rs) 109::blk b14 [.slice la P.length lc,.slice (some (ad gs 0)) (st0.length+1) sc,.slice aa ats.length ac] 275::R)) (fun j=>!([22].contains j)) ?_;replace hS:=hS.drew; generalize w.drew=w at hS ⊢;have hH:=(hS.x [1,3])
   refine .tp 0 rfl (fun w=>(.mo rfl)) (.tp 1 rfl (fun w=>(.no rfl)) (.tp 2 rfl (fun w=>(.fo 1 rfl X1z rfl rfl X4z rfl)) (.tk 3 rfl ⟨_,hH⟩ (fun w ⟨R,hS⟩=>(.lo rfl hS (k:=1) rfl Xgn rfl)) (.tp 4 rfl (fun w=>(.mo rfl)) (.tp 5 rfl (fun w=>(.sub (.of rfl) (.of rfl) ⟨by omega,by omega⟩)) (.tp 6 rfl (fun w=>(.mo rfl)) (.tp 7 rfl (fun w=>(.no rfl)) (.tp 8 rfl (fun w=>(.fo 1 rfl X1z rfl rfl X4z rfl)) (.tk 9 rfl ⟨_,hH⟩ (fun w ⟨R,hS⟩=>(.lo rfl hS (k:=1) rfl Xgn rfl)) (.tp 10 rfl (fun w=>(.mo rfl)) (.tp 11 rfl (fun w=>(.sub (.of rfl) (.of rfl) ⟨by omega,by omega⟩)) (.tp 12 rfl (fun w=>(.io rfl rfl (by omega) (by omega) X2a X1c)) ?_))))))))))));refine .tk 13 rfl ⟨_,hH⟩ (fun w ⟨R,hS⟩=>.lo rfl hS (k:=0) rfl X3i (v:=Value.slice ma (mks (o,bs)).length mc) (by rw [e28]; simp)) ?_;refine .tp 14 rfl (fun w=>(.mo rfl)) (.tp 15 rfl (fun w=>(.no rfl)) (.tp 16 rfl (fun w=>(.fo 0 rfl X1z rfl rfl X6e rfl)) (.tk 17 rfl ⟨_,hH⟩ (fun w ⟨R,hS⟩=>(.lo rfl hS (k:=1) rfl X81 rfl)) (.tp 18 rfl (fun w=>(.lenSlice (.of rfl) X84)) ?_))));refine .b1 19 rfl (.buildSlice (cs:=[_]) hS (pc9 rfl X4) Xf Qs3 Qz3 rfl rfl rfl rfl ?_);clear hS; intro b86 w hS;refine .nil ?_;clear hH;have hH:=(hS.x [2,4])
   refine ⟨fun _ _=>⟨_,hH⟩,?_⟩;refine .b1 20 rfl (.append (size:=1) (bytes:=8) hS (.of rfl) (.of rfl) (k:=0) rfl Xf X1g rfl rfl rfl rfl rfl rfl rfl ⟨by omega,by unfold maxLen; omega⟩ rfl ?_);clear hS; intro v87 w hS;obtain ⟨a87,c87,rfl,hcap87,_⟩:=hS.vecSlice (k:=0) (v:=v87) rfl;have hm28:mks (o,bs ++ [Q.length])=mks (o,bs) ++ [(P.length:Int)]:=by simp [mks,hR.1]
   refine .nil ?_;clear hH;have hH:=(hS.x [1,3])
   refine ⟨fun _ _=>⟨_,hH⟩,?_⟩;refine .tp 21 rfl (fun w=>(.io rfl rfl (by omega) (by omega) X2a X1c)) (.b1 22 rfl ?_);refine .s1 hS (k:=3) rfl rfl rfl rfl X1c (by rw [e28]; simp) ?_;clear hS; intro w hS;rw [e28,show (st0.length:Int)=((st0.map (·.1)).length:Int) by simp,Xtn] at hS;replace hS:=hS.vecShut (k:=3) (n:=st0.length+1) (cap:=sc) (size:=1) rfl hsc1 hsc2 (by simp) (by simpa using hsc4);replace hS:=hS.push (k:=4) rfl;replace hS:=hS.say (k:=4) (A':=X45 3 (st0 ++ [(.slice a87 ((mks (o,bs)).length+1) c87,mks (o,bs ++ [Q.length]))])) rfl (fun h hh=>by rw [hm28,X45,Yw]; simp only [Y1b,Y3a,Y0,Y1h,Yw]; exact hh);refine .nil ?_;refine And.intro (by intro h; cases h) ?_;refine .dn (.t 1 rfl (.call X80 rfl (ec9 rfl (ec9 rfl (ec9 rfl X0))) rfl (X30 _ P.length _ _ _ _ _ _ _ _ _ _ hS (by omega)) ?_));clear hS;rintro _ w ⟨rfl,lv2,hS⟩;refine .nil (.region (.run 3 rfl ⟨⟨by omega,by omega⟩,trivial⟩ (.nil ?_)));have e9:=hq;rw [Xe l (by omega),Xi,if_neg (by omega),if_neg (by omega),if_neg (by omega),if_pos (by omega)] at e9;simp only [] at e9
   have hx:=hR.1;refine ⟨(k+1,(o,bs ++ [Q.length])::rest,st0 ++ [(.slice a87 ((mks (o,bs)).length+1) c87,mks (o,bs ++ [Q.length]))],Q ++ [(5,0,[])],P ++ [(5,0,.slice none 0 0)],lv2,.slice (some (ad gs 0)) (st0.length+1) sc,.slice aa ats.length ac,ats,J),⟨rfl,rfl,rfl,trivial⟩,⟨by omega,by rw [Y0]; simp; omega,?_,by simpa using hlen4,by simpa using hats,⟨?_,?_,?_,?_,?_⟩,hR.snoc _ _ _ _ (IntsI.nil _),hJ,e9,?_⟩,by dsimp only; omega⟩
   ·simp [hst0]
   ·simp; omega
   ·rw [Yi hf1]; exact hf2
   ·simp; omega
   ·intro b hb;rcases Y12.1 hb with hb | hb
    ·have:=hf4 b hb; simp; omega
    ·simp at hb; subst hb; simp; omega
   ·exact hf5.grow (Yq _) (by simp) fun i hi hq2=>by rw [Yi (by omega)]; exact hq2
   ·simp only [Y0,Y1k,Yw,Y1h,Y1b,Y3a]; exact hS
  have hc57:=hb57; try simp only [Y6] at hc57
  refine .q 2 rfl (.cond rfl (fun hb57=>?_) fun hb57=>?_)
  ·have hc57:=hb57; try simp only [Y6] at hc57
   refine .seq (.seq (.q 2 rfl ?_));refine .cond rfl (fun hb61=>?_) fun hb61=>?_
   ·have hc61:=hb61; try simp only [Y6] at hc61
    refine .seq (.q 4 rfl (.ret (Xap Xgp rfl rfl rfl ?_)));obtain rfl:stk=[]:=Yj (by omega);have e9:cmp l=.error (10,(k:Int)):=by rw [<- hq,Xe l (by omega),Xi,if_neg (by omega),if_neg (by omega),if_neg (by omega),if_neg (by omega),if_pos (by omega)]
    exact ⟨_,rfl,.inl ⟨_,_,J,e9,rfl,hJ,hS.y 0 5⟩⟩
   have hc61:=hb61; try simp only [Y6] at hc61
   refine .skip (.seq (.seq (.q 2 rfl ?_)));refine .cond rfl (fun hb64=>?_) (fun hb64=>by exfalso; simp only [Y6] at hb64; omega);have hc64:=hb64; try simp only [Y6] at hc64
   refine .seq (.t 1 rfl ?_);obtain ⟨o,bs,rest,rfl⟩:∃ o bs rest,stk=(o,bs)::rest:=by
    cases stk with
    | nil=>exfalso; have:st.length=0:=hst2; omega
    | cons f r=>exact ⟨f.1,f.2,r,rfl⟩
   obtain ⟨st0,mv,rfl,hst0⟩:=Xjx hst;obtain ⟨hf1,hf2,hf3,hf4,hf5⟩:=id hF;simp only [Yw,Y1b,Y3a,Y0,Y1h] at hS
   have hl0:st0.length+1=rest.length+1:=by simpa using hst2
   have hats2:ats.length=rest.length+1:=by simpa using hats
   have hlen5:rest.length+1<=4:=by simpa using hlen4
   refine .call Tryz.func210 rfl (ec9 rfl X0) rfl (Xny _ _ _ _ mv P Q st0 o bs ats _ _ _ _ hS hR (fun b hb=>by have:=hf4 b hb; have hx:=hR.1; omega) (by have hx:=hR.1; omega) 4 0 (hR.nil_of hf2) hf2 (by have hx:=hR.1; omega) (by omega) (by omega) (by omega)) ?_;clear hS;rintro _ w ⟨rfl,lv2,sv2,av2,P2,J2,hJ2,hR2,hS⟩;refine .nil (.exit (.region (.run 3 rfl ⟨⟨by omega,by omega⟩,trivial⟩ (.nil ?_))));have e9:=hq;rw [Xe l (by omega),Xi,if_neg (by omega),if_neg (by omega),if_neg (by omega),if_neg (by omega),if_pos (by omega)] at e9;simp only [] at e9
   have hx:=hR.1;refine ⟨(k+1,rest,st0,X1m Q.length o Q [] bs ++ [(6,0,[])],P2,lv2,sv2,av2,ats.take rest.length,J2),⟨rfl,rfl,rfl,trivial⟩,⟨by omega,by rw [Y0,X38]; simp; omega,hst0,by simp at hlen4; omega,by simp at hats; simp; omega,hF.close _,by rw [hx] at hR2; exact hR2,hJ.trans hJ2,e9,?_⟩,by dsimp only; omega⟩;have e5:(ats.take rest.length).length=st0.length:=by simp at hats; rw [Yr]; omega
   have e6:rest.length=st0.length:=by omega
   rw [e5,e6]; exact hS
  have hc57:=hb57; try simp only [Y6] at hc57
  refine .seq (.q 2 rfl ?_);refine .cond rfl (fun hb91=>?_) fun hb91=>?_
  ·have hc91:=hb91; try simp only [Y6] at hc91
   refine .seq (.seq (.region (.run 5 rfl ⟨⟨by omega,by omega⟩,Qu9,trivial⟩ (.nil ?_))));refine .cond rfl (fun hb97=>?_) fun hb97=>?_
   ·have hc97:=hb97; try simp only [Y6] at hc97
    refine .seq (.q 4 rfl (.ret (Xap Xgp rfl rfl rfl ?_)));have e9:cmp l=.error (10,(k:Int)):=by rw [<- hq,Xe l (by omega),Xi,if_neg (by omega),if_neg (by omega),if_neg (by omega),if_neg (by omega),if_neg (by omega),if_pos (by omega),Y11 (by omega)]
    exact ⟨_,rfl,.inl ⟨_,_,J,e9,rfl,hJ,hS.y 0 5⟩⟩
   have hc97:=hb97; try simp only [Y6] at hc97
   refine .skip (.seq (.region (.run 3 rfl ⟨⟨by omega,by omega⟩,trivial⟩ (.nil (.region (.run 4 rfl ⟨⟨⟨by omega,by omega⟩,Qu9⟩,trivial⟩ (.call X80 rfl (ec9 rfl (ec9 rfl (ec9 rfl X0))) rfl (X30 _ P.length _ _ _ _ _ _ _ _ _ _ hS (by omega)) ?_)))))));clear hS;rintro _ w ⟨rfl,lv2,hS⟩;refine .nil (.region (.run 3 rfl ⟨⟨by omega,by omega⟩,trivial⟩ (.nil ?_)));have e9:=hq;rw [Xe l (by omega),Xi,if_neg (by omega),if_neg (by omega),if_neg (by omega),if_neg (by omega),if_neg (by omega),if_pos (by omega),Xe l (k:=k+1) (by omega)] at e9;simp only [] at e9
   refine ⟨(k+2,stk,st,Q ++ [(0,((at_ l ((k:Int)+1)).toNat:Int),[])],P ++ [(0,((at_ l ((k:Int)+1)).toNat:Int),.slice none 0 0)],lv2,.slice sa st.length sc,.slice aa ats.length ac,ats,J),⟨rfl,rfl,rfl,trivial⟩,⟨by omega,by rw [Y0]; simp; omega,hst,hlen4,hats,hF.app _,hR.snoc _ _ _ _ (IntsI.nil _),hJ,e9,?_⟩,by dsimp only; omega⟩;rw [Y0,Y1k]; exact hS
  have hc91:=hb91; try simp only [Y6] at hc91
  refine .t 2 rfl (.call X80 rfl (ec9 rfl (ec9 rfl (ec9 rfl X0))) rfl (X30 _ P.length _ _ _ _ _ _ _ _ _ _ hS (by omega)) ?_);clear hS;rintro _ w ⟨rfl,lv2,hS⟩;refine .nil (.region (.run 3 rfl ⟨⟨by omega,by omega⟩,trivial⟩ (.nil ?_)));have e9:=hq;rw [Xe l (by omega),Xi,if_neg (by omega),if_neg (by omega),if_neg (by omega),if_neg (by omega),if_neg (by omega),if_neg (by omega)] at e9;refine ⟨(k+1,stk,st,Q ++ [(0,((at_ l (k:Int)).toNat:Int),[])],P ++ [(0,((at_ l (k:Int)).toNat:Int),.slice none 0 0)],lv2,.slice sa st.length sc,.slice aa ats.length ac,ats,J),⟨rfl,rfl,rfl,trivial⟩,⟨by omega,by rw [Y0]; simp; omega,hst,hlen4,hats,hF.app _,hR.snoc _ _ _ _ (IntsI.nil _),hJ,e9,?_⟩,by dsimp only; omega⟩;rw [Y0,Y1k]; exact hS
 have hc18:=hb18; try simp only [Y6] at hc18
 refine .exit (.seq (.seq (.t 2 rfl (.val (.fo 2 rfl X1z rfl rfl X1c rfl) rfl (.val (.lo rfl hS (k:=0) rfl X3i rfl) rfl (.run 2 rfl ⟨⟨_,Xf⟩,trivial⟩ (.nil (.seq (.q 2 rfl ?_)))))))));refine .cond rfl (fun hb112=>?_) fun hb112=>?_
 ·have hc112:=hb112; try simp only [Y6] at hc112
  refine .seq ?_;obtain ⟨b8,c8,r,hv8,_,_,_,_,hS⟩:=hS.vecOpen (k:=3) rfl (by omega);injection hv8 with hv8 _ hv9; subst hv8; subst hv9
  refine .qt hS (.val (fun w hS=>(.mo rfl)) rfl (.val (fun w hS=>(.no rfl)) rfl (.val (fun w hS=>(.fo 2 rfl X1z rfl rfl X1c rfl)) rfl (.val (fun w hS=>(.lo rfl hS (k:=0) rfl X3i rfl)) rfl (.val (fun w hS=>(.mo rfl)) rfl (.val (fun w hS=>(.sub (.of rfl) (.of rfl) ⟨by omega,by omega⟩)) rfl (.val (fun w hS=>(.io rfl rfl (by omega) (by omega) Xf Qs3)) rfl (.val (fun w hS=>.ldE I64 ats 0 r (.of rfl) hS (k:=3) rfl rfl Qg3 (by omega) (by omega)) rfl (.val (fun w hS=>(.ao rfl)) rfl (.val (fun w hS=>(.ao rfl)) rfl (.val (fun w hS=>(.ao rfl)) rfl (.nil ?_))))))))))));clear hS; intro w hS;refine .ret (Xap Xgp rfl rfl rfl ?_);have e9:cmp l=.error (23,ats.getD ((ats.length:Int) - 1).toNat 0):=by rw [<- hq,show ((ats.length:Int) - 1).toNat=ats.length - 1 by omega,Y11 (by omega),X40,if_pos (by omega)]
  exact ⟨_,rfl,.inl ⟨_,_,J,e9,rfl,hJ,hS.y 0 5⟩⟩
 have hc112:=hb112; try simp only [Y6] at hc112
 refine .skip (.seq (.t 1 rfl (.call X80 rfl (ec9 rfl (ec9 rfl (ec9 rfl X0))) rfl (X30 _ P.length _ _ _ _ _ _ _ _ _ _ hS (by omega)) ?_)));clear hS;rintro _ w ⟨rfl,lv2,hS⟩;refine .nil (.seq ?_);obtain ⟨a9,c9,rfl,hcap9,_⟩:=hS.vecSlice (k:=1) rfl;refine .t 2 rfl (.val (.fo 0 rfl X1z rfl rfl X6e rfl) rfl (.val (.lo rfl hS (k:=0) rfl X81 rfl) rfl (.run 2 rfl ⟨Qu9,trivial⟩ (.val (.build (cs:=[_,_]) (pc9 rfl (pc9 rfl X4)) Xkt rfl) rfl (.boxA (cs:=[_,_]) hS (.of rfl) rfl ?_)))));clear hS; intro b130 w hS;refine .q 3 rfl (.nil (.ret (Xap Xgp rfl rfl rfl ?_)));have e9:cmp l=.ok (Q ++ [(7,0,[])]):=by rw [<- hq,Y11 (by omega),X40,if_neg (by omega)]
 obtain ⟨J2,hJ2,hrs,hS⟩:=hS.freezeVec (k:=2) rfl;obtain ⟨J3,hJ3,hb9,hS⟩:=hS.freeze (k:=0) rfl;refine ⟨_,rfl,.inr ⟨_,_,J3,e9,rfl,(hJ.trans hJ2).trans hJ3,⟨a9,c9,P ++ [(7,0,.slice none 0 0)],?_,?_,?_,?_⟩,hS.y 0 4⟩⟩
 ·refine ⟨rfl,_,_,_,hb9,fun j u hj=>?_⟩;rw [Y0] at hj;simpa using hj
 ·simpa using hcap9
 ·rw [Y0,Y1k]; exact hrs.mono hJ3
 ·exact ((hR.snoc _ _ _ _ (IntsI.nil _)).mono hJ2).mono hJ3
end Go.Proofs.YtbciobiiejpdgaaGreatDoor
namespace Pat
open Go Gk
def X8o (k:Int):Bool:=(((k == 2) || (k == 3)) || (k == 4)) || (k == 6)
def X6u (Q:List Pl):Nat->List Bool->Nat->List Bool
 | 0,set,_=>set
 | f+1,set,i=>bif set.getD i false then set else
   bif X8o (Q.getD i (7,0,[])).1 then X6u Q f ((Q.getD i (7,0,[])).2.2.foldl (fun s t=>X6u Q f s t.toNat) (set.set i true)) (i+1)
   else (Q.getD i (7,0,[])).2.2.foldl (fun s t=>X6u Q f s t.toNat) (set.set i true)
def X8q (s:List Bool):Nat:=s.countP (fun b=>!b)
def SubB (s t:List Bool):Prop:=s.length=t.length/\∀ i:Nat,s.getD i false=true->t.getD i false=true
theorem SubB.refl (s:List Bool):SubB s s:=⟨rfl,fun _ h=>h⟩
theorem SubB.trans {s t u:List Bool} (h:SubB s t) (k:SubB t u):SubB s u:=⟨h.1.trans k.1,fun i hi=>k.2 i (h.2 i hi)⟩
theorem SubB.set (s:List Bool) (i:Nat):SubB s (s.set i true):=by
 refine ⟨by simp,fun j hj=>?_⟩;rw [Y8] at hj ⊢;rw [Y23]
 by_cases e:i=j
 ·subst e;have hlt:i<s.length:=by
   apply Classical.byContradiction
   intro hn;rw [Y1g (by omega)] at hj;cases hj
  simp [hlt]
 ·simpa [e] using hj
theorem X7t:∀ {s t:List Bool},SubB s t->X8q t<=X8q s
 | [],[],_=>Yq _
 | [],_::_,h=>by cases h.1
 | _::_,[],h=>by cases h.1
 | a::s,b::t,h=>by
  have h1:SubB s t:=⟨by simpa using h.1,fun i hi=>by have:=h.2 (i+1) (by simpa using hi); simpa using this⟩
  have h2:=X7t h1;have h3:=h.2 0;unfold X8q at h2 ⊢;cases a <;> cases b <;> simp_all <;> omega
theorem Xb7:∀ {s:List Bool} {i:Nat},i<s.length->s.getD i false=false->X8q (s.set i true)+1=X8q s
 | [],_,h,_=>by simp at h
 | a::s,0,_,h=>by simp at h; subst h; simp [X8q]
 | a::s,i+1,h,h2=>by
  have:=Xb7 (s:=s) (i:=i) (by simpa using h) (by simpa using h2)
  unfold X8q at this ⊢;cases a <;> simp_all
theorem X5p (Q:List Pl):∀ (f:Nat) (s:List Bool) (i:Nat),SubB s (X6u Q f s i)
 | 0,s,_=>SubB.refl s
 | f+1,s,i=>by
  have fold:∀ (l:List Int) (s:List Bool),SubB s (l.foldl (fun s t=>X6u Q f s t.toNat) s):=by
   intro l
   induction l with
   | nil=>intro s; exact SubB.refl s
   | cons x l ih=>intro s; exact (X5p Q f s x.toNat).trans (ih _)
  rw [X6u];cases s.getD i false
  ·cases X8o (Q.getD i (7,0,[])).1
   ·exact (SubB.set s i).trans (fold _ _)
   ·exact ((SubB.set s i).trans (fold _ _)).trans (X5p Q f _ _)
  ·exact SubB.refl s
theorem Xj8 (Q:List Pl) (f:Nat):∀ (l:List Int) (s:List Bool),SubB s (l.foldl (fun s t=>X6u Q f s t.toNat) s)
 | [],s=>SubB.refl s
 | x::l,s=>(X5p Q f s x.toNat).trans (Xj8 Q f l _)
def WF (Q:List Pl):Prop:=∀ (i:Nat) (q:Pl),Q[i]?=some q->(∀ t∈q.2.2,0<=t/\t<(Q.length:Int))/\(X8o q.1=true->i+1<Q.length)/\(0<=q.1/\q.1<=7)/\(q.1≠7->i+1<Q.length)/\q.2.2.length<=Q.length
theorem Xpx {α β:Type} (f:β->α->β) (b:β) (l:List α) (k:Nat) (d:α) (h:k<l.length):(l.take (k+1)).foldl f b=f ((l.take k).foldl f b) (l.getD k d):=by
 rw [Y4e h,Y2r];simp [Y8,h]
theorem WF.at_ {Q:List Pl} (h:WF Q) {i:Nat} (hi:i<Q.length):(∀ t∈(Q.getD i (7,0,[])).2.2,0<=t/\t<(Q.length:Int))/\(X8o (Q.getD i (7,0,[])).1=true->i+1<Q.length)/\(0<=(Q.getD i (7,0,[])).1/\(Q.getD i (7,0,[])).1<=7)/\((Q.getD i (7,0,[])).1≠7->i+1<Q.length)/\(Q.getD i (7,0,[])).2.2.length<=Q.length:=by
 have e:Q[i]?=some (Q.getD i (7,0,[])):=by simp [Y8,hi]
 exact h i _ e
def X1n (k c:Int) (b:UInt8):Bool:=bif k == 0 then c == (b.toNat:Int) else bif (k == 1) || (k == 3) then (b.toNat:Int) != 47 else k == 2
def X3k (Q:List Pl) (F:Nat) (c:UInt8) (now:List Bool) (st:List Bool×Bool×Nat) (k:Nat):List Bool×Bool×Nat :=
 bif now.getD k false then
  bif X1n (Q.getD k (7,0,[])).1 (Q.getD k (7,0,[])).2.1 c then
   (X6u Q F st.1 (bif ((Q.getD k (7,0,[])).1 == 2) || ((Q.getD k (7,0,[])).1 == 3) then k else k+1),true,st.2.2+1)
  else (st.1,st.2.1,st.2.2+1)
 else st
def Xul (Q:List Pl) (F:Nat) (c:UInt8) (now:List Bool) (steps:Nat):List Bool×Bool×Nat:=iter (X3k Q F c now) (List.replicate Q.length false,false,steps) Q.length
def Xxa (Q:List Pl) (F:Nat):List UInt8->List Bool->Nat->List Bool×Nat
 | [],now,st=>(now,st)
 | c::r,now,st=>bif (Xul Q F c now st).2.1 then Xxa Q F r (Xul Q F c now st).1 (Xul Q F c now st).2.2 else ((Xul Q F c now st).1,(Xul Q F c now st).2.2)
def run (Q:List Pl) (l:List UInt8):List Bool×Nat:=Xxa Q (Q.length+1) l (X6u Q (Q.length+1) (List.replicate Q.length false) 0) 1
theorem Xi8 (Q:List Pl) (F:Nat) (c:UInt8) (now:List Bool) (st:List Bool×Bool×Nat) (k:Nat):st.2.2<=(X3k Q F c now st k).2.2/\(X3k Q F c now st k).2.2<=st.2.2+1:=by
 unfold X3k;cases now.getD k false <;> cases X1n (Q.getD k (7,0,[])).1 (Q.getD k (7,0,[])).2.1 c <;> simp
theorem Xpo (Q:List Pl) (F:Nat) (c:UInt8) (now:List Bool) (st:List Bool×Bool×Nat) (k:Nat):(X3k Q F c now st k).1.length=st.1.length:=by
 unfold X3k;cases now.getD k false <;> cases X1n (Q.getD k (7,0,[])).1 (Q.getD k (7,0,[])).2.1 c <;> simp
 exact (X5p Q F _ _).1.symm
theorem X7n (Q:List Pl) (F:Nat) (c:UInt8) (now:List Bool) (st:List Bool×Bool×Nat):∀ k,(iter (X3k Q F c now) st k).1.length=st.1.length/\st.2.2<=(iter (X3k Q F c now) st k).2.2/\(iter (X3k Q F c now) st k).2.2<=st.2.2+k
 | 0=>⟨rfl,Yq _,Yq _⟩
 | k+1=>by
  have h:=X7n Q F c now st k;have h1:=Xi8 Q F c now (iter (X3k Q F c now) st k) k;have h2:=Xpo Q F c now (iter (X3k Q F c now) st k) k;rw [iter];omega
theorem At.sub {I:Im} {p:Addr} {vs us:List Value} (h:At I p vs) (hu:∀ (j:Nat) (v:Value),us[j]?=some v->vs[j]?=some v):At I p us:=by
 obtain ⟨h1,arr,E,fr,h2,h3⟩:=h;exact ⟨h1,arr,E,fr,h2,fun j v hj=>h3 j v (hu j v hj)⟩
theorem At.place {I:Im} {la:Addr} {P:List X2g} {i:Nat} {x:X2g} (h:At I la (P.flatMap enc)) (hx:P[i]?=some x):At I (la.add (i*3)) [.int .u8 x.1,.int .u8 x.2.1,x.2.2]:=by
 refine At.sub (h.add (i*3)) fun j v hj=>?_
 have hl:j<3:=by have:=(Y5.1 hj).1; simpa using this
 rw [Y1d]
 have:=Xda enc 3 X4i P [] i j x hx hl
 rw [Y9] at this;rw [this]; exact hj
theorem PatI.opened {I:Im} {p:Addr} {Q:List Pl} {n:Nat} (h:PatI I p Q n) (hQ:0<Q.length):∃ la c P,At I p [.slice (some la) Q.length c,I64 n]/\At I la (P.flatMap enc)/\RelP I P Q:=by
 obtain ⟨a,c,P,h1,h2,h3,h4⟩:=h;obtain ⟨la,rfl,h5⟩:=h3.2 (by rw [h4.1]; exact hQ);exact ⟨la,c,P,by rw [<- h4.1]; exact h1,h5,h4⟩
theorem RelP.at_ {I:Im} {P:List X2g} {Q:List Pl} (h:RelP I P Q) {i:Nat} (hi:i<Q.length):∃ xa xc,P[i]?=some ((Q.getD i (7,0,[])).1,(Q.getD i (7,0,[])).2.1,.slice xa (Q.getD i (7,0,[])).2.2.length xc)/\∃ xp,0<(Q.getD i (7,0,[])).2.2.length->xa=some xp/\At I xp ((Q.getD i (7,0,[])).2.2.map I64):=by
 have e:Q[i]?=some (Q.getD i (7,0,[])):=by simp [Y8,hi]
 obtain ⟨⟨p1,p2,p3⟩,hp⟩:∃ p,P[i]?=some p:=⟨_,Y4 (by rw [h.1]; exact hi)⟩
 obtain ⟨a,b,_,xa,xc,h1,_,h2⟩:=h.2 i _ _ hp e;simp only at a b h1
 subst a; subst b; subst h1;refine ⟨xa,xc,hp,?_⟩
 by_cases h0:0<(Q.getD i (7,0,[])).2.2.length
 ·obtain ⟨xp,rfl,h3⟩:=h2.2 h0;exact ⟨xp,fun _=>⟨rfl,h3⟩⟩
 ·exact ⟨ad 0 0,fun h=>absurd h h0⟩
end Pat
namespace Go.Proofs.YtbciobiiejpdgaaGreatDoor
open Gk Pat
theorem getD_mem {l:List Int} {k:Nat} (h:k<l.length):l.getD k 0∈l:=by
 rw [Y8,Y4 h]; exact Y36 h
theorem Xb6 (l:List Bool):X8q l<=l.length:=Y4o
set_option maxHeartbeats 800000 in
theorem Xgz (Q:List Pl) (p:Addr) (nn n:Nat) (hW:WF Q) (hn:Q.length=n) (hn2:n<=100000):∀ (f:Nat) (set:List Bool) (i:Int) (b c:Nat) (r:List Value) (B w:World) (I:Im) (As:List X7),
  Sat B w I (blk b (set.map Value.bool ++ r) 4::As)->PatI I p Q nn->set.length=n->0<=i->i<n->X8q set<f ->
  Cz 222 [.pointer (some p),.slice (some (ad b 0)) n c,I64 i] w fun v w'=>v=.tuple #[]/\Sat B w' I (blk b ((X6u Q f set i.toNat).map Value.bool ++ r) 4::As):=by
 intro f
 induction f with
 | zero=>intros; omega
 | succ f ih =>
  intro set i b c r B w I As hS hp hset hi0 hi1 hf;refine calls Xkb rfl Tryz.ntmps222 rfl (.seq (.seq (.t 2 rfl (.val (.io rfl rfl (by omega) (by omega) X36 Qs4) rfl (.val (.ldE .bool set false r (.of rfl) hS (k:=0) rfl rfl Qg4 (by omega) (by omega)) rfl (.nil ?_))))));refine .cond rfl (fun hb12=>?_) fun hb12=>?_
  ·refine .ret (ret0 Xvc ?_);exact ⟨_,rfl,rfl,by rw [X6u,hb12]; exact hS⟩
  have hc12:=hb12; try simp only [Y6] at hc12
  refine .skip (.seq (.t 2 rfl (.val (.io rfl rfl (by omega) (by omega) X36 Qs4) rfl (.stE .bool set r (u:=true) hS (k:=0) rfl (.of rfl) (.of rfl) rfl rfl Qs4 (by omega) (by omega) ?_))));clear hS; intro w hS; dsimp only [List.set] at hS;refine .nil (.seq ?_);obtain ⟨la,lc,P,hpA,hlA,hR⟩:=hp.opened (by omega);obtain ⟨xa,xc,hx,xp,hxp⟩:=hR.at_ (i:=i.toNat) (by omega);have hus:=Xb7 (s:=set) (i:=i.toNat) (by omega) hb12;have hto:=(hW.at_ (i:=i.toNat) (by omega)).2.2.2.2;refine .t 2 rfl (.val (.fi 0 rfl Xgt rfl rfl X6e rfl) rfl (.val (.ldI (.of rfl) hS hpA X81 rfl) rfl (.q 1 rfl (.val (.ii rfl rfl (by omega) (by omega) X84 X9u) rfl (.val (.ldsI (us:=[_,_,_]) (.of rfl) hS (Pat.At.place hlA hx) Tryz.isAgg288 X9u rfl (fun _ _ h=>h)) rfl (.allocA (cs:=[_,_,_]) hS Xrc rfl ?_))))));clear hS; intro b6 w hS;refine .so hS (k:=0) rfl rfl rfl rfl X9u rfl (by simp) ?_;clear hS; intro w hS;refine .nil (.seq (.seq (.region (.val (.fo 2 rfl X6h rfl rfl X1c rfl) rfl (.val (.lo rfl hS (k:=0) rfl X3i rfl) rfl (.run 2 rfl ⟨⟨_,Xf⟩,trivial⟩ (.nil (.block (.loop (σ:=Nat) (fun k=>[(0,.pointer (some p)),(1,.slice (some (ad b 0)) n c),(2,I64 i),(6,ptr b6 0),(24,.slice xa (Q.getD i.toNat (7,0,[])).2.2.length xc),(25,I64 (Q.getD i.toNat (7,0,[])).2.2.length),(26,I64 (k:Nat))]) (fun k w=>k<=(Q.getD i.toNat (7,0,[])).2.2.length/\Sat B w I (blk b6 [.int .u8 (Q.getD i.toNat (7,0,[])).1,.int .u8 (Q.getD i.toNat (7,0,[])).2.1,.slice xa (Q.getD i.toNat (7,0,[])).2.2.length xc] 288::blk b ((((Q.getD i.toNat (7,0,[])).2.2.take k).foldl (fun s t=>X6u Q f s t.toNat) (set.set i.toNat true)).map Value.bool ++ r) 4::As)) (fun k=>(Q.getD i.toNat (7,0,[])).2.2.length - k) 0 ⟨rfl,rfl,rfl,rfl,rfl,rfl,rfl,trivial⟩ ⟨Yo _,hS⟩ ?_)))))))));rintro k w ⟨hk,hS⟩;have hsub:=Xj8 Q f ((Q.getD i.toNat (7,0,[])).2.2.take k) (set.set i.toNat true);obtain ⟨S1,hS1⟩:∃ S1,S1=((Q.getD i.toNat (7,0,[])).2.2.take k).foldl (fun s t=>X6u Q f s t.toNat) (set.set i.toNat true):=⟨_,rfl⟩
  rw [<- hS1] at hS hsub;refine .seq (.q 1 rfl (.seq ?_));refine .cond rfl (fun hb27=>?_) fun hb27=>?_
  ·have hc27:=hb27; try simp only [Y6] at hc27
   refine .skip (.seq (.block (.seq ?_)));obtain ⟨hxp1,hxA⟩:=hxp (by omega);rw [hxp1] at hS ⊢;refine .region (.val (.ii rfl rfl (by omega) (by omega) Xf Qs3) rfl (.val (.ldEI I64 (Q.getD i.toNat (7,0,[])).2.2 0 (.of rfl) hS hxA rfl Qg3 (by omega) (by omega)) rfl (.q 1 rfl (.nil (.t 3 rfl ?_)))));replace hS:=hS.pick 1 rfl;have ht:=(hW.at_ (i:=i.toNat) (by omega)).1 ((Q.getD i.toNat (7,0,[])).2.2.getD k 0) (getD_mem (by omega));refine .call Xkb rfl (ec9 rfl (ec9 rfl (ec9 rfl X0))) rfl (ih S1 ((Q.getD i.toNat (7,0,[])).2.2.getD k 0) b c r B w I _ hS hp (by have:=hsub.1; simp at this; omega) ht.1 (by omega) (by have:=X7t hsub; omega)) ?_;clear hS;rintro _ w ⟨rfl,hS⟩;replace hS:=hS.pick 1 rfl;refine .nil (.region (.run 2 rfl ⟨⟨by omega,by omega⟩,trivial⟩ (.nil ?_)));refine ⟨k+1,⟨rfl,rfl,rfl,rfl,rfl,rfl,rfl,trivial⟩,⟨by omega,?_⟩,by omega⟩;rw [Xpx _ _ _ _ 0 (by omega),<- hS1]; exact hS
  have hc27:=hb27; try simp only [Y6] at hc27
  refine .exit (.seq (.region (.val (.fo 0 rfl X6h rfl rfl Qs5 rfl) rfl (.val (.lo rfl hS (k:=0) rfl Qg5 rfl) rfl (.q 2 rfl (.gval rfl rfl (fun hg1=>(.fo 0 rfl X6h rfl rfl Qs5 rfl)) rfl (.gval rfl rfl (fun hg1=>(.ld (.gd hg1 rfl) hS (k:=0) rfl Qg5 rfl)) rfl (.gval rfl rfl (fun hg1=>(.eql (.gd hg1 rfl) (.of rfl))) rfl (.val (.po rfl rfl rfl) rfl (.q 1 rfl (.gval rfl rfl (fun hg1=>(.fo 0 rfl X6h rfl rfl Qs5 rfl)) rfl (.gval rfl rfl (fun hg1=>(.ld (.gd hg1 rfl) hS (k:=0) rfl Qg5 rfl)) rfl (.gval rfl rfl (fun hg1=>(.eql (.gd hg1 rfl) (.of rfl))) rfl (.val (.po rfl rfl rfl) rfl (.q 1 rfl (.gval rfl rfl (fun hg1=>(.fo 0 rfl X6h rfl rfl Qs5 rfl)) rfl (.gval rfl rfl (fun hg1=>(.ld (.gd hg1 rfl) hS (k:=0) rfl Qg5 rfl)) rfl (.gval rfl rfl (fun hg1=>(.eql (.gd hg1 rfl) (.of rfl))) rfl (.val (.po rfl rfl rfl) rfl (.nil ?_))))))))))))))))))));refine .cond rfl (fun hb52=>?_) fun hb52=>?_
  ·have hc52:=hb52; try simp only [Y6] at hc52
   refine .region (.run 4 rfl ⟨⟨by omega,by omega⟩,trivial⟩ ?_);replace hS:=hS.drop (k:=0) rfl;rw [Yx (by omega)] at hS1;have hsk:X8o (Q.getD i.toNat (7,0,[])).1=true:=hb52;have hnx:=(hW.at_ (i:=i.toNat) (by omega)).2.1 hsk;refine .call Xkb rfl (ec9 rfl (ec9 rfl (ec9 rfl X0))) rfl (ih S1 (i+1) b c r B w I _ hS hp (by have:=hsub.1; simp at this; omega) (by omega) (by omega) (by have:=X7t hsub; omega)) ?_;clear hS;rintro _ w ⟨rfl,hS⟩;refine .nil (X9d Xvc ?_);refine ⟨_,rfl,rfl,?_⟩;rw [X6u,hc12,hsk]; simp only [cond_true,cond_false]; rw [<- hS1]; rw [show (i+1).toNat=i.toNat+1 by omega] at hS; exact hS
  have hc52:=hb52; try simp only [Y6] at hc52
  refine .skip (X9d Xvc ?_);have hsk:X8o (Q.getD i.toNat (7,0,[])).1=false:=hb52;replace hS:=hS.drop (k:=0) rfl;rw [Yx (by omega)] at hS1;refine ⟨_,rfl,rfl,?_⟩;rw [X6u,hc12,hsk]; simp only [cond_true,cond_false]; rw [<- hS1]; exact hS
theorem Xse (k c:Int) (b:UInt8) (v:Value) (B w:World) (I:Im) (As:List X7) (hS:Sat B w I As) :
  Cz 223 [.agg [.int .u8 k,.int .u8 c,v].toArray,U8 b.toNat] w fun v w'=>v=.bool (X1n k c b)/\Sat B w' I As:=by
 refine calls Tryz.func223 rfl Tryz.ntmps223 rfl (.seq (.region (.boxA (cs:=[_,_,_]) hS (.of rfl) rfl ?_)));intro b2 w hS;refine .q 1 rfl (.nil (.seq (.seq (.region (.val (.fo 0 rfl X6h rfl rfl Qs5 rfl) rfl (.val (.lo rfl hS (k:=0) rfl Qg5 rfl) rfl (.nil (.block (.seq (.q 2 rfl ?_))))))))));refine .cond rfl (fun hb7=>?_) fun hb7=>?_
 ·refine .seq (.region (.val (.fo 1 rfl X6h rfl rfl Qs5 rfl) rfl (.val (.lo rfl hS (k:=0) rfl Qg5 rfl) rfl (.q 3 rfl (.nil (.ret (Xc Xmv rfl ?_)))))));exact ⟨_,rfl,by rw [X1n,hb7]; rfl,hS.y 0 1⟩
 refine .seq (.seq (.q 2 rfl ?_));refine .cond rfl (fun hb13=>?_) fun hb13=>?_
 ·refine .skip (.cond rfl (fun hb13=>?_) fun hb13=>?_)
  ·refine .seq (.q 3 rfl (.ret (Xc Xmv rfl ?_)));exact ⟨_,rfl,by rw [X1n,hb7,hb13]; rfl,hS.y 0 1⟩
  refine .skip (.seq (.region (.val (.fo 0 rfl X6h rfl rfl Qs5 rfl) rfl (.val (.lo rfl hS (k:=0) rfl Qg5 rfl) rfl (.q 2 rfl (.nil (.ret (Xc Xmv rfl ?_))))))));exfalso; simp_all
 refine .q 2 rfl (.cond rfl (fun hb13=>?_) fun hb13=>?_)
 ·refine .seq (.q 3 rfl (.ret (Xc Xmv rfl ?_)));exact ⟨_,rfl,by rw [X1n,hb7,show (k == 1)=false by assumption,hb13]; rfl,hS.y 0 1⟩
 refine .skip (.seq (.region (.val (.fo 0 rfl X6h rfl rfl Qs5 rfl) rfl (.val (.lo rfl hS (k:=0) rfl Qg5 rfl) rfl (.q 2 rfl (.nil (.ret (Xc Xmv rfl ?_))))))));exact ⟨_,rfl,by rw [X1n,hb7,show (k == 1)=false by assumption,hb13]; rfl,hS.y 0 1⟩
set_option maxHeartbeats 1600000 in
theorem Xxb (Q:List Pl) (p:Addr) (nn:Nat) (s:List UInt8) (hW:WF Q) (hQ:0<Q.length) (hn2:Q.length<=1000) (hnn:nn<=1000) (hs:s.length<=1000000) (B w:World) (I:Im) (As:List X7) (hS:Sat B w I As) (hp:PatI I p Q nn) :
  Cz 177 [.pointer (some p),S s] w fun v w'=>v=.tuple #[.bool ((Pat.run Q s).1.getD (Q.length - 1) false),I64 (min ((Pat.run Q s).2:Int) (((nn:Int)+1)*((s.length:Int)+1)))]/\Sat B w' I As:=by
 refine calls Tryz.func177 rfl Tryz.ntmps177 rfl (.seq (.q 2 rfl (.scope (.seq ?_))));obtain ⟨la,lc,P,hpA,hlA,hR⟩:=hp.opened (by omega);refine .t 2 rfl (.val (.fi 0 rfl Xgt rfl rfl X6e rfl) rfl (.val (.ldI (.of rfl) hS hpA X81 rfl) rfl (.run 1 rfl ⟨⟨_,X84⟩,trivial⟩ ?_)));refine .make (l:=Q.length) hS (.of rfl) (.of rfl) X36 X42 rfl (by simp [Tryz.t4] <;> omega) (by omega) rfl rfl rfl ?_;intro b19 w hS;refine .q 2 rfl (.nil (.seq (.t 2 rfl ?_)));have hun:=Xb6 (List.replicate Q.length false);rw [Y25] at hun;replace hS:Sat B w I (blk b19 ((List.replicate Q.length false).map Value.bool ++ []) 4::As):=by rw [Y3b,Y9]; exact hS
 refine .call Xkb rfl (ec9 rfl (ec9 rfl (ec9 rfl X0))) rfl (Xgz Q p nn Q.length hW rfl (by omega) (Q.length+1) (List.replicate Q.length false) 0 b19 _ [] B w I As hS hp (by simp) (by omega) (by omega) (by omega)) ?_;rintro _ w ⟨rfl,hS⟩;refine .nil (.seq (.label ?_));refine .cutS (σ:=List Bool×Nat×Nat) (fun ⟨now,steps,bn⟩=>[(0,.pointer (some p)),(1,S s),(6,.slice (some (ad bn 0)) Q.length Q.length),(7,I64 (steps:Nat))]) (fun ⟨now,steps,bn⟩ w=>now.length=Q.length/\(now,steps)=Pat.run Q s/\Sat B w I (blk bn (now.map Value.bool ++ []) 4::As)) ?_ ?_
 ·refine .seq (.region (.run 3 rfl ⟨Qu9,trivial⟩ (.nil (.block ?_))));refine .loop (σ:=List Bool×Nat×Nat×Nat) (fun ⟨now,steps0,bn,i⟩=>[(0,.pointer (some p)),(1,S s),(6,.slice (some (ad bn 0)) Q.length Q.length),(7,I64 (steps0:Nat)),(24,I64 s.length),(25,I64 (i:Nat))]) (fun ⟨now,steps0,bn,i⟩ w=>i<=s.length/\now.length=Q.length/\steps0<=1+i*1000/\Xxa Q (Q.length+1) (s.drop i) now steps0=Pat.run Q s/\Sat B w I (blk bn (now.map Value.bool ++ []) 4::As)) (fun ⟨now,steps0,bn,i⟩=>s.length - i) (X6u Q (Q.length+1) (List.replicate Q.length false) 0,1,b19,0) ⟨rfl,rfl,rfl,rfl,rfl,rfl,trivial⟩ ⟨Yo _,by rw [<- (X5p Q _ _ _).1]; simp,by omega,rfl,hS⟩ ?_;rintro ⟨now,steps0,bn,i⟩ w ⟨hi,hnow,hsteps,hrun,hS⟩;have hit0:=X7n Q (Q.length+1) (at_ s (i:Int)) now (List.replicate Q.length false,false,steps0);refine .seq (.q 1 rfl (.seq ?_));refine .cond rfl (fun hb26=>?_) fun hb26=>?_
  ·have hc26:=hb26; simp only [Y6] at hc26;refine .skip (.seq (.block (.seq (.q 2 rfl (.seq (.t 2 rfl (.val (.fi 0 rfl Xgt rfl rfl X6e rfl) rfl (.val (.ldI (.of rfl) hS hpA X81 rfl) rfl (.run 1 rfl ⟨⟨_,X84⟩,trivial⟩ ?_)))))))));refine .make (l:=Q.length) hS (.of rfl) (.of rfl) X36 X42 rfl (by simp [Tryz.t4] <;> omega) (by omega) rfl rfl rfl ?_;intro b33 w hS;refine .q 2 rfl (.nil (.seq (.seq (.region (.run 3 rfl ⟨⟨_,X36⟩,trivial⟩ (.nil (.block ?_)))))));refine .loop (σ:=List Bool×Bool×Nat×Nat) (fun ⟨next,any,steps,k⟩=>[(0,.pointer (some p)),(1,S s),(7,I64 (steps:Nat)),(8,I64 (i:Nat)),(9,.slice (some (ad b33 0)) Q.length Q.length),(10,.bool any),(24,I64 s.length),(25,I64 (i:Nat)),(34,.slice (some (ad bn 0)) Q.length Q.length),(35,I64 Q.length),(36,I64 (k:Nat))]) (fun ⟨next,any,steps,k⟩ w=>k<=Q.length/\iter (X3k Q (Q.length+1) (at_ s (i:Int)) now) (List.replicate Q.length false,false,steps0) k=(next,any,steps)/\Sat B w I (blk b33 (next.map Value.bool ++ []) 4::blk bn (now.map Value.bool ++ []) 4::As)) (fun ⟨next,any,steps,k⟩=>Q.length - k) (List.replicate Q.length false,false,steps0,0) ⟨rfl,rfl,rfl,rfl,rfl,rfl,rfl,rfl,rfl,rfl,rfl,trivial⟩ ⟨Yo _,rfl,by rw [Y3b,Y9]; exact hS⟩ ?_;rintro ⟨next,any,steps,k⟩ w ⟨hk,hit,hS⟩;have hit1:=hit0 k;rw [hit] at hit1; simp only [Y25] at hit1;refine .seq (.q 1 rfl (.seq ?_));refine .cond rfl (fun hb37=>?_) fun hb37=>?_
   ·have hc37:=hb37; simp only [Y6] at hc37;refine .skip (.seq (.block (.seq (.t 1 rfl (.val (.io rfl rfl (by omega) (by omega) X36 Qs4) rfl (.val (.ldE .bool now false [] (.of rfl) hS (k:=1) rfl rfl Qg4 (by omega) (by omega)) rfl (.q 2 rfl (.nil (.seq (.seq (.q 2 rfl ?_)))))))))));refine .cond rfl (fun hb42=>?_) fun hb42=>?_
    ·have hc42:=hb42; simp only [Y6] at hc42;refine .exit (.region (.run 2 rfl ⟨⟨by omega,by omega⟩,trivial⟩ (.nil ?_)));have hb42x:now.getD k false=false:=by simpa using hb42
     have e9:X3k Q (Q.length+1) (at_ s (i:Int)) now (next,any,steps) k=(next,any,steps):=by rw [X3k,hb42x]; rfl
     refine ⟨(next,any,steps,k+1),⟨rfl,rfl,rfl,rfl,rfl,rfl,rfl,rfl,rfl,rfl,rfl,trivial⟩,⟨by omega,by rw [iter,hit,e9],hS⟩,by dsimp only; omega⟩
    have hc42:=hb42; simp only [Y6] at hc42;refine .skip (.seq (.region (.run 3 rfl ⟨⟨by omega,by omega⟩,trivial⟩ (.nil (.seq ?_)))));have hnk:now.getD k false=true:=by simpa using hb42
    obtain ⟨xa,xc,hx,_⟩:=hR.at_ (i:=k) (by omega);refine .t 2 rfl (.val (.fi 0 rfl Xgt rfl rfl X6e rfl) rfl (.val (.ldI (.of rfl) hS hpA X81 rfl) rfl (.q 1 rfl (.val (.ii rfl rfl (by omega) (by omega) X84 X9u) rfl (.val (.ldsI (us:=[_,_,_]) (.of rfl) hS (Pat.At.place hlA hx) Tryz.isAgg288 X9u rfl (fun _ _ h=>h)) rfl (.allocA (cs:=[_,_,_]) hS Xrc rfl ?_))))));intro b13 w hS;refine .so hS (k:=0) rfl rfl rfl rfl X9u rfl (by simp) ?_;intro w hS;refine .nil (.seq (.seq (.qt hS (.val (fun w hS=>.lds (vs:=[.int .u8 (Q.getD k (7,0,[])).1,.int .u8 (Q.getD k (7,0,[])).2.1,.slice xa (Q.getD k (7,0,[])).2.2.length xc]) (.of rfl) hS (k:=0) rfl Tryz.isAgg288 X9u rfl (fun j v h=>by simpa using h)) rfl (.val (fun w hS=>(.mo rfl)) rfl (.val (fun w hS=>(.mo rfl)) rfl (.val (fun w hS=>(.index (.of rfl) (.of rfl) (by omega) (by omega) Qu9)) rfl (.call Tryz.func223 rfl (ec9 rfl (ec9 rfl X0)) rfl (fun w hS=>Xse _ _ _ _ _ _ _ _ hS) (.val (fun w hS=>(.not (.of rfl))) rfl (.nil ?_))))))))));intro w hS;refine .cond rfl (fun hb57=>?_) fun hb57=>?_
    ·have hc57:=hb57; simp only [Y6] at hc57;refine .exit (.region (.run 2 rfl ⟨⟨by omega,by omega⟩,trivial⟩ (.nil ?_)));have hnk:now.getD k false=true:=by simpa using hb42
     have hfk:X1n (Q.getD k (7,0,[])).1 (Q.getD k (7,0,[])).2.1 (at_ s (i:Int))=false:=by simpa using hb57
     replace hS:=hS.drop (k:=0) rfl;have e9:X3k Q (Q.length+1) (at_ s (i:Int)) now (next,any,steps) k=(next,any,steps+1):=by rw [X3k,hnk,hfk]; rfl
     refine ⟨(next,any,steps+1,k+1),⟨rfl,rfl,rfl,rfl,rfl,rfl,rfl,rfl,rfl,rfl,rfl,trivial⟩,⟨by omega,by rw [iter,hit,e9],hS⟩,by dsimp only; omega⟩
    have hc57:=hb57; simp only [Y6] at hc57;refine .skip (.seq (.q 1 rfl (.seq (.region (.val (.fo 0 rfl X6h rfl rfl Qs5 rfl) rfl (.val (.lo rfl hS (k:=0) rfl Qg5 rfl) rfl (.q 2 rfl (.gval rfl rfl (fun hg1=>(.fo 0 rfl X6h rfl rfl Qs5 rfl)) rfl (.gval rfl rfl (fun hg1=>(.ld (.gd hg1 rfl) hS (k:=0) rfl Qg5 rfl)) rfl (.gval rfl rfl (fun hg1=>(.eql (.gd hg1 rfl) (.of rfl))) rfl (.val (.po rfl rfl rfl) rfl (.nil ?_))))))))))));refine .cond rfl (fun hb65=>?_) fun hb65=>?_
    ·have hc65:=hb65; simp only [Y6] at hc65;refine .t 3 rfl ?_;have hfk:X1n (Q.getD k (7,0,[])).1 (Q.getD k (7,0,[])).2.1 (at_ s (i:Int))=true:=by simpa using hb57
     replace hS:=hS.pick 1 rfl;have hun:=Xb6 next;refine .call Xkb rfl (ec9 rfl (ec9 rfl (ec9 rfl X0))) rfl (Xgz Q p nn Q.length hW rfl (by omega) (Q.length+1) next k b33 _ [] B w I _ hS hp (by omega) (by omega) (by omega) (by omega)) ?_;rintro _ w ⟨rfl,hS⟩;refine .nil (.region (.run 2 rfl ⟨⟨by omega,by omega⟩,trivial⟩ (.nil ?_)));have hst:((Q.getD k (7,0,[])).1 == 2 || (Q.getD k (7,0,[])).1 == 3)=true:=hb65;replace hS:=hS.drop (k:=1) rfl;have e9:X3k Q (Q.length+1) (at_ s (i:Int)) now (next,any,steps) k=(X6u Q (Q.length+1) next k,true,steps+1):=by rw [X3k,hnk,hfk,hst]; rfl
     refine ⟨(X6u Q (Q.length+1) next k,true,steps+1,k+1),⟨rfl,rfl,rfl,rfl,rfl,rfl,rfl,rfl,rfl,rfl,rfl,trivial⟩,⟨by omega,by rw [iter,hit,e9],hS⟩,by dsimp only; omega⟩
    have hc65:=hb65; simp only [Y6] at hc65;refine .region (.run 4 rfl ⟨⟨by omega,by omega⟩,trivial⟩ ?_);have hfk:X1n (Q.getD k (7,0,[])).1 (Q.getD k (7,0,[])).2.1 (at_ s (i:Int))=true:=by simpa using hb57
    have hk7:=(hW.at_ (i:=k) (by omega)).2.2.2.1 (fun e=>by rw [e,X1n] at hfk; simp at hfk);replace hS:=hS.pick 1 rfl;have hun:=Xb6 next;refine .call Xkb rfl (ec9 rfl (ec9 rfl (ec9 rfl X0))) rfl (Xgz Q p nn Q.length hW rfl (by omega) (Q.length+1) next (k+1) b33 _ [] B w I _ hS hp (by omega) (by omega) (by omega) (by omega)) ?_;rintro _ w ⟨rfl,hS⟩;refine .nil (.region (.run 2 rfl ⟨⟨by omega,by omega⟩,trivial⟩ (.nil ?_)));have hst:((Q.getD k (7,0,[])).1 == 2 || (Q.getD k (7,0,[])).1 == 3)=false:=hb65;replace hS:=hS.drop (k:=1) rfl;have e9:X3k Q (Q.length+1) (at_ s (i:Int)) now (next,any,steps) k=(X6u Q (Q.length+1) next (k+1),true,steps+1):=by rw [X3k,hnk,hfk,hst]; rfl
    refine ⟨(X6u Q (Q.length+1) next (k+1),true,steps+1,k+1),⟨rfl,rfl,rfl,rfl,rfl,rfl,rfl,rfl,rfl,rfl,rfl,trivial⟩,⟨by omega,by rw [iter,hit,e9],hS⟩,by dsimp only; omega⟩
   have hc37:=hb37; simp only [Y6] at hc37;refine .exit (.seq (.q 2 rfl (.seq (.q 2 rfl ?_))));refine .cond rfl (fun hb78=>?_) fun hb78=>?_
   ·have hc78:=hb78; simp only [Y6] at hc78;refine .exit ?_;have hkq:k=Q.length:=by omega
    subst hkq;have hB:Xul Q (Q.length+1) (at_ s (i:Int)) now steps0=(next,any,steps):=hit;replace hS:=hS.drop (k:=1) rfl;rw [Xe s (by omega),Xxa,hB] at hrun;rw [hc78] at hrun;exact ⟨(next,steps,b33),⟨rfl,rfl,rfl,rfl,trivial⟩,hit1.1,hrun,hS⟩
   have hc78:=hb78; simp only [Y6] at hc78;refine .skip (.region (.run 2 rfl ⟨⟨by omega,by omega⟩,trivial⟩ (.nil ?_)));have hkq:k=Q.length:=by omega
   subst hkq;have hB:Xul Q (Q.length+1) (at_ s (i:Int)) now steps0=(next,any,steps):=hit;replace hS:=hS.drop (k:=1) rfl;rw [Xe s (by omega),Xxa,hB] at hrun;have hany:any=true:=by simpa using hb78
   rw [hany] at hrun;exact ⟨(next,steps,b33,i+1),⟨rfl,rfl,rfl,rfl,rfl,rfl,trivial⟩,⟨by omega,hit1.1,by omega,hrun,hS⟩,by dsimp only; omega⟩
  have hc26:=hb26; simp only [Y6] at hc26;refine .exit ?_;rw [Y11 (by omega)] at hrun;exact ⟨(now,steps0,bn),⟨rfl,rfl,rfl,rfl,trivial⟩,hnow,hrun,hS⟩
 rintro ⟨now,steps,bn⟩ w ⟨hnow,hrun,hS⟩;refine .seq ?_;have hm1:((nn:Int)+1)*((s.length:Int)+1)<=1001*1000001:=Int.mul_le_mul (by omega) (by omega) (by omega) (by omega);have hm0:0<=((nn:Int)+1)*((s.length:Int)+1):=Int.mul_nonneg (by omega) (by omega);have hmul:Xu0 (((nn:Int)+1)*((s.length:Int)+1)):=⟨by omega,by omega⟩
 refine .qt hS (.val (fun w hS=>(.mo rfl)) rfl (.val (fun w hS=>(.mo rfl)) rfl (.val (fun w hS=>(.no rfl)) rfl (.val (fun w hS=>(.fi 0 rfl Xgt rfl rfl X6e rfl)) rfl (.val (fun w hS=>.ldI (.of rfl) hS hpA X81 rfl) rfl (.val (fun w hS=>(.lenSlice (.of rfl) X84)) rfl (.val (fun w hS=>(.sub (.of rfl) (.of rfl) ⟨by omega,by omega⟩)) rfl (.val (fun w hS=>(.io rfl rfl (by omega) (by omega) X36 Qs4)) rfl (.val (fun w hS=>.ldE .bool now false [] (.of rfl) hS (k:=0) rfl rfl Qg4 (by omega) (by omega)) rfl (.val (fun w hS=>(.mo rfl)) rfl (.val (fun w hS=>(.mo rfl)) rfl (.val (fun w hS=>(.no rfl)) rfl (.val (fun w hS=>(.fi 1 rfl Xgt rfl rfl Qs3 rfl)) rfl (.val (fun w hS=>.ldI (.of rfl) hS (hpA.add 1) Qg3 rfl) rfl (.val (fun w hS=>(.add (.of rfl) (.of rfl) ⟨by omega,by omega⟩)) rfl (.val (fun w hS=>(.mo rfl)) rfl (.val (fun w hS=>(.len (.of rfl) Qu9)) rfl (.val (fun w hS=>(.add (.of rfl) (.of rfl) ⟨by omega,by omega⟩)) rfl (.val (fun w hS=>.mul (.of rfl) (.of rfl) hmul) rfl (.val (fun w hS=>(.min2 (.of rfl) (.of rfl))) rfl (.val (fun w hS=>(.ao rfl)) rfl (.val (fun w hS=>(.ao rfl)) rfl (.nil ?_)))))))))))))))))))))));intro w hS;refine .ret (X1t Tryz.results177 rfl rfl ?_);exact ⟨_,rfl,by rw [<- hrun,show ((Q.length:Int) - 1).toNat=Q.length - 1 by omega],hS.y 0 1⟩
end Go.Proofs.YtbciobiiejpdgaaGreatDoor
namespace Pat
open Go Gk
inductive Pt
 | nil
 | lit (k c:Int) (r:Pt)
 | bar (r:Pt)
 | grp (b r:Pt)
namespace Pt
def len:Pt->Nat
 | nil=>0
 | lit _ _ r=>len r+1
 | bar r=>len r+1
 | grp b r=>len b+len r+2
def dep:Pt->Nat
 | nil=>0
 | lit _ _ r=>dep r
 | bar r=>dep r
 | grp b r=>max (dep b+1) (dep r)
def flat:Pt->Prop
 | nil=>True
 | lit _ _ r=>flat r
 | bar _=>False
 | grp _ r=>flat r
def app:Pt->Pt->Pt
 | nil,q=>q
 | lit k c r,q=>lit k c (app r q)
 | bar r,q=>bar (app r q)
 | grp b r,q=>grp b (app r q)
def tos:Pt->Nat->List Int
 | nil,_=>[]
 | lit _ _ r,n=>tos r (n+1)
 | bar r,n=>((n:Int)+1)::tos r (n+1)
 | grp b r,n=>tos r (n+2+len b)
def marks:Pt->Nat->List Nat
 | nil,_=>[]
 | lit _ _ r,n=>marks r (n+1)
 | bar r,n=>n::marks r (n+1)
 | grp b r,n=>marks r (n+2+len b)
def pls (es:List Int):Pt->Nat->List Pl
 | nil,_=>[]
 | lit k c r,n=>(k,c,[])::pls es r (n+1)
 | bar r,n=>(5,0,es)::pls es r (n+1)
 | grp b r,n=>(4,0,tos b (n+1))::(pls [((n+1+len b:Nat):Int)] b (n+1) ++ (6,0,[])::pls es r (n+2+len b))
theorem X2c:∀ (p:Pt) (es:List Int) (n:Nat),(pls es p n).length=p.len
 | nil,_,_=>rfl
 | lit _ _ r,es,n=>by simp [pls,len,X2c r]
 | bar r,es,n=>by simp [pls,len,X2c r]
 | grp b r,es,n=>by simp [pls,len,X2c b,X2c r]; omega
end Pt
open Pt
inductive Rep:List UInt8->Pt->Prop
 | nil:Rep [] .nil
 | one {l p}:Rep l p->Rep (63::l) (.lit 1 0 p)
 | all {l p}:Rep l p->Rep (42::42::l) (.lit 2 0 p)
 | few {l p}:l.head?≠some 42->Rep l p->Rep (42::l) (.lit 3 0 p)
 | grp {t l b p}:Rep t b->Rep l p->Rep (40::(t ++ 41::l)) (.grp b p)
 | bar {l p}:Rep l p->Rep (124::l) (.bar p)
 | esc {l p} (c:UInt8):Rep l p->Rep (92::c::l) (.lit 0 (c.toNat:Int) p)
 | byte {l p} (c:UInt8):c≠63->c≠42->c≠40->c≠124->c≠41->c≠92->Rep l p->Rep (c::l) (.lit 0 (c.toNat:Int) p)
theorem Rep.app {l m:List UInt8} {p q:Pt} (h:Rep l p) (k:Rep m q) (hs:l.getLast?=some 42->m.head?≠some 42):Rep (l ++ m) (p.app q):=by
 have sub:∀ {x:UInt8} {l:List UInt8},((x::l).getLast?=some 42->m.head?≠some 42)->l.getLast?=some 42->m.head?≠some 42:=by
  intro x l h1 h2;refine h1 ?_;cases l with
  | nil=>simp at h2
  | cons y l=>simpa using h2
 have suba:∀ {t l:List UInt8},((t ++ 41::l).getLast?=some 42->m.head?≠some 42)->l.getLast?=some 42->m.head?≠some 42:=by
  intro t l h1 h2;refine h1 ?_;rw [List.getLast?_append];cases l with
  | nil=>simp at h2
  | cons y l=>simp at h2 ⊢; simp [h2]
 induction h with
 | nil=>exact k
 | one _ ih=>exact .one (ih (sub hs))
 | all _ ih=>exact .all (ih (sub (sub hs)))
 | @few l p h1 _ ih =>
  refine .few ?_ (ih (sub hs));cases l with
  | nil=>exact hs rfl
  | cons y l=>exact h1
 | @grp t l b p hb _ _ ih =>
  have:=Rep.grp hb (ih (suba (sub hs)))
  simpa [Pt.app] using this
 | bar _ ih=>exact .bar (ih (sub hs))
 | esc c _ ih=>exact .esc c (ih (sub (sub hs)))
 | byte c h1 h2 h3 h4 h5 h6 _ ih=>exact .byte c h1 h2 h3 h4 h5 h6 (ih (sub hs))
def addm:List PFr->List Nat->List PFr
 | [],_=>[]
 | (o,bs)::r,ms=>(o,bs ++ ms)::r
theorem Xne (o:Nat) (bs:List Nat) (r:List PFr) (ms:List Nat):addm ((o,bs)::r) ms=(o,bs ++ ms)::r:=rfl
theorem Xrg (s:List PFr):addm s []=s:=by cases s <;> simp [addm]
theorem X4o {A B:List Pl} {o:Nat} (h:o<A.length) (xs:List Int):Xz (A ++ B) o xs=Xz A o xs ++ B:=by
 unfold Xz;refine Y1x fun i=>?_
 rw [Y1m,Y2o,Y2o,List.length_modify,Y1m]
 by_cases e:o=i
 ·subst e; simp [h]
 ·simp [e]
theorem Xav (A:List Pl) (k c:Int) (d xs:List Int) (B:List Pl):Xz (A ++ (k,c,d)::B) A.length xs=A ++ (k,c,xs)::B:=by
 unfold Xz;refine Y1x fun i=>?_
 rw [Y1m]
 by_cases e:A.length=i
 ·subst e; simp
 ·simp [e]
  rcases Yp i A.length with hi | hi
  ·rw [Yi hi,Yi hi]
  ·obtain ⟨j,rfl⟩:∃ j,i=A.length+(j+1):=⟨i - A.length - 1,by omega⟩
   rw [Yt (by omega),Yt (by omega)]
   simp
theorem Xib {A:List Pl} {o:Nat} {k c:Int} {d:List Int} (h:A[o]?=some (k,c,d)):Xz A o d=A:=by
 unfold Xz;refine Y1x fun i=>?_
 rw [Y1m]
 by_cases e:o=i
 ·subst e; simp [h]
 ·simp [e]
theorem Xg7 (A:List Pl) (o:Nat) (x y:List Int):Xz (Xz A o x) o y=Xz A o y:=by
 unfold Xz;refine Y1x fun i=>?_
 rw [Y1m,Y1m,Y1m]
 by_cases e:o=i
 ·subst e; simp [Y5t,Function.comp_def]
 ·simp [e]
theorem X60 (A:List Pl) (o:Nat) (x:List Int):(Xz A o x).length=A.length:=by simp [Xz]
theorem X4h (n o:Nat):∀ (p:Pt) (A:List Pl) (k c:Int) (d:List Int),A[o]?=some (k,c,d) ->
  X1m n o (A ++ pls [] p A.length) d (marks p A.length)=Xz A o (d ++ tos p A.length) ++ pls [(n:Int)] p A.length
 | .nil,A,k,c,d,h=>by simp [pls,marks,X1m,tos,Xib h]
 | .lit k' c' r,A,k,c,d,h=>by
  have ho:o<A.length:=(Y5.1 h).1;have ih:=X4h n o r (A ++ [(k',c',[])]) k c d (by rw [Yi ho]; exact h);rw [Y0,X4o ho] at ih;simpa [pls,marks,tos] using ih
 | .bar r,A,k,c,d,h=>by
  have ho:o<A.length:=(Y5.1 h).1;have ih:=X4h n o r (Xz A o (d ++ [(A.length:Int)+1]) ++ [(5,0,[(n:Int)])]) k c (d ++ [(A.length:Int)+1]) (by
   rw [Yi (by rw [X60]; exact ho)]; simp [Xz,h])
  rw [Y0,X60,X4o (by rw [X60]; exact ho),Xg7] at ih;rw [marks,X1m,pls,X4o ho];have e:=Xav (Xz A o (d ++ [(A.length:Int)+1])) 5 0 [] [(n:Int)] (pls [] r (A.length+1));rw [X60] at e;rw [e];simpa [pls,tos] using ih
 | .grp b r,A,k,c,d,h=>by
  have ho:o<A.length:=(Y5.1 h).1;have ih:=X4h n o r (A ++ ((4,0,tos b (A.length+1))::(pls [((A.length+1+len b:Nat):Int)] b (A.length+1) ++ [(6,0,[])]))) k c d (by rw [Yi ho]; exact h);have e:(A ++ ((4,0,tos b (A.length+1))::(pls [((A.length+1+len b:Nat):Int)] b (A.length+1) ++ [(6,0,[])]))).length=A.length+2+len b:=by
   simp [X2c]; omega
  rw [e,X4o ho] at ih;simpa [pls,marks,tos] using ih
theorem hd_app {l rest:List UInt8} (h:l.head?≠some 42) (h2:l=[]->rest.head?≠some 42):(l ++ rest).head?≠some 42:=by
 cases l with
 | nil=>exact h2 rfl
 | cons y l=>exact h
theorem Xkv {l:List UInt8} (h:l.head?≠some 42) (i:Int) (Q:List Pl) (stk:List PFr) (ats:List Int):cmpGo (42::l) i Q stk ats=cmpGo l (i+1) (Q ++ [(3,0,[])]) stk ats:=by
 rw [Xi,if_neg (by decide),if_pos (by decide)];cases l with
 | nil=>rfl
 | cons d r =>
  have hd:¬ d.toNat=42:=fun e=>h (by rw [Y5r]; exact congrArg _ (Y18.1 e))
  simp only [hd,if_false]
theorem X2q {c:UInt8} {n:UInt8} (h:c≠n):¬ c.toNat=n.toNat:=fun e=>h (Y18.1 e)
theorem Xa6 {l:List UInt8} {p:Pt} (h:Rep l p):∀ (rest:List UInt8) (i:Int) (Q:List Pl) (stk:List PFr) (ats:List Int),(l.getLast?=some 42->rest.head?≠some 42)->(p.flat\/stk≠[])->ats.length=stk.length->stk.length<=4 ->
  (p.dep+stk.length<=4->cmpGo (l ++ rest) i Q stk ats=cmpGo rest (i+l.length) (Q ++ pls [] p Q.length) (addm stk (marks p Q.length)) ats)/\(4<p.dep+stk.length->∀ X,cmpGo (l ++ rest) i Q stk ats≠.ok X):=by
 have sub:∀ {x:UInt8} {l rest:List UInt8},((x::l).getLast?=some 42->rest.head?≠some 42)->l.getLast?=some 42->rest.head?≠some 42:=by
  intro x l rest h1 h2;refine h1 ?_;cases l with
  | nil=>simp at h2
  | cons y l=>simpa using h2
 have suba:∀ {t l rest:List UInt8},((t ++ 41::l).getLast?=some 42->rest.head?≠some 42)->l.getLast?=some 42->rest.head?≠some 42:=by
  intro t l rest h1 h2;refine h1 ?_;rw [List.getLast?_append];cases l with
  | nil=>simp at h2
  | cons y l=>simp at h2 ⊢; simp [h2]
 induction h with
 | nil=>intro rest i Q stk ats _ _ _ h4; simp [pls,marks,Xrg,dep]; intro hh; omega
 | @one l p _ ih =>
  intro rest i Q stk ats hs hf ha h4
  have:=ih rest (i+1) (Q ++ [(1,0,[])]) stk ats (sub hs) hf ha h4
  rw [Ys,Xi,if_pos (show (63:UInt8).toNat=63 by decide)];simpa [pls,marks,dep,Int.add_assoc,Int.add_comm,Int.add_left_comm] using this
 | @all l p _ ih =>
  intro rest i Q stk ats hs hf ha h4
  have:=ih rest (i+2) (Q ++ [(2,0,[])]) stk ats (sub (sub hs)) hf ha h4
  rw [Ys,Xi,if_neg (show ¬ (42:UInt8).toNat=63 by decide),if_pos (show (42:UInt8).toNat=42 by decide)];simp only [Ys]
  rw [if_pos (show (42:UInt8).toNat=42 by decide)];rw [show i+((42::42::l).length:Nat)=i+2+(l.length:Int) by simp; omega];simpa [pls,marks,dep] using this
 | @few l p h1 _ ih =>
  intro rest i Q stk ats hs hf ha h4
  have:=ih rest (i+1) (Q ++ [(3,0,[])]) stk ats (sub hs) hf ha h4
  rw [Ys,Xkv (hd_app h1 fun e=>by subst e; exact hs rfl)];rw [show i+((42::l).length:Nat)=i+1+(l.length:Int) by simp; omega];simpa [pls,marks,dep] using this
 | @bar l p _ ih =>
  intro rest i Q stk ats hs hf ha h4;cases stk with
  | nil=>rcases hf with hf | hf; exact hf.elim; exact absurd rfl hf
  | cons f stk =>
   obtain ⟨o,bs⟩:=f
   have:=ih rest (i+1) (Q ++ [(5,0,[])]) ((o,bs ++ [Q.length])::stk) ats (sub hs) (.inr (by simp)) ha h4
   rw [Ys,Xi,if_neg (show ¬ (124:UInt8).toNat=63 by decide),if_neg (show ¬ (124:UInt8).toNat=42 by decide),if_neg (show ¬ (124:UInt8).toNat=40 by decide),if_pos (show (124:UInt8).toNat=124 by decide)];simp only []
   rw [show i+((124::l).length:Nat)=i+1+(l.length:Int) by simp; omega];simpa [pls,marks,dep,addm] using this
 | @esc l p c _ ih =>
  intro rest i Q stk ats hs hf ha h4
  have:=ih rest (i+2) (Q ++ [(0,(c.toNat:Int),[])]) stk ats (sub (sub hs)) hf ha h4
  rw [Ys,Xi,if_neg (show ¬ (92:UInt8).toNat=63 by decide),if_neg (show ¬ (92:UInt8).toNat=42 by decide),if_neg (show ¬ (92:UInt8).toNat=40 by decide),if_neg (show ¬ (92:UInt8).toNat=124 by decide),if_neg (show ¬ (92:UInt8).toNat=41 by decide),if_pos (show (92:UInt8).toNat=92 by decide)];simp only [Ys]
  rw [show i+((92::c::l).length:Nat)=i+2+(l.length:Int) by simp; omega];simpa [pls,marks,dep] using this
 | @byte l p c h1 h2 h3 h4' h5 h6 _ ih =>
  intro rest i Q stk ats hs hf ha h4
  have:=ih rest (i+1) (Q ++ [(0,(c.toNat:Int),[])]) stk ats (sub hs) hf ha h4
  rw [Ys,Xi,if_neg (show ¬ c.toNat=63 from X2q h1),if_neg (show ¬ c.toNat=42 from X2q h2),if_neg (show ¬ c.toNat=40 from X2q h3),if_neg (show ¬ c.toNat=124 from X2q h4'),if_neg (show ¬ c.toNat=41 from X2q h5),if_neg (show ¬ c.toNat=92 from X2q h6)];rw [show i+((c::l).length:Nat)=i+1+(l.length:Int) by simp; omega];simpa [pls,marks,dep] using this
 | @grp t l b p _ _ ihb ih =>
  intro rest i Q stk ats hs hf ha h4;rw [Ys,Yd,Ys,Xi,if_neg (show ¬ (40:UInt8).toNat=63 by decide),if_neg (show ¬ (40:UInt8).toNat=42 by decide),if_pos (show (40:UInt8).toNat=40 by decide)]
  by_cases h5:stk.length=4
  ·rw [if_pos h5];refine ⟨fun h=>?_,fun _ X h=>by cases h⟩;simp [dep] at h
   omega
  ·rw [if_neg h5];have h1:=ihb (41::(l ++ rest)) (i+1) (Q ++ [(4,0,[])]) ((Q.length,[])::stk) (ats ++ [i]) (fun _=>by simp) (.inr (by simp)) (by simp [ha]) (by simp; omega)
   by_cases h6:b.dep+(stk.length+1)<=4
   ·have h7:=h1.1 (by simpa using h6);rw [h7];have h8:=ih rest (i+1+t.length+1) (Q ++ ((4,0,tos b (Q.length+1))::(pls [((Q.length+1+len b:Nat):Int)] b (Q.length+1) ++ [(6,0,[])]))) stk ats (suba (sub hs)) hf ha h4;have hc:=X4h (Q.length+1+len b) Q.length b (Q ++ [(4,0,[])]) 4 0 [] (by simp);have hl:=Xav Q 4 0 [] (tos b (Q.length+1)) [];simp only [Y0,Y1h,Ye] at hc
    rw [hl] at hc;rw [Xi,if_neg (show ¬ (41:UInt8).toNat=63 by decide),if_neg (show ¬ (41:UInt8).toNat=42 by decide),if_neg (show ¬ (41:UInt8).toNat=40 by decide),if_neg (show ¬ (41:UInt8).toNat=124 by decide),if_pos (show (41:UInt8).toNat=41 by decide)];simp only [Xne,Y0,Y1h,Ye,X2c]
    rw [hc];have ht:(ats ++ [i]).take stk.length=ats:=by rw [<- ha]; simp
    rw [ht];have e1:(Q ++ ((4,0,tos b (Q.length+1))::(pls [((Q.length+1+len b:Nat):Int)] b (Q.length+1) ++ [(6,0,[])]))).length=Q.length+2+len b:=by simp [X2c]; omega
    rw [e1] at h8;have e2:i+((40::(t ++ 41::l)).length:Nat)=i+1+t.length+1+l.length:=by simp; omega
    rw [e2];have e3:4<(Pt.grp b p).dep+stk.length ↔ 4<p.dep+stk.length:=by simp [dep]; omega
    have e4:(Pt.grp b p).dep+stk.length<=4 ↔ p.dep+stk.length<=4:=by simp [dep]; omega
    rw [e3,e4];simpa [pls,marks] using h8
   ·refine ⟨fun h=>?_,fun _=>h1.2 (by simp; omega)⟩;simp [dep] at h
    omega
end Pat
namespace Pat
open Go Gk Pt
inductive Splits:Nat->List UInt8->Prop
 | last {l p}:Rep l p->p.flat->p.dep<=4->Splits 0 l
 | more {d t l p}:Rep t p->p.dep+(d+1)<=4->Splits d l->Splits (d+1) (t ++ 41::l)
theorem Splits.lit {d:Nat} {l pre:List UInt8} {k c:Int} (h:Splits d l) (hp:∀ {t p},(t.head?=some 42->l.head?=some 42)->Rep t p->Rep (pre ++ t) (.lit k c p)):Splits d (pre ++ l):=by
 cases h with
 | last h1 h2 h3=>exact .last (hp (fun h=>h) h1) h2 h3
 | @more d t l p h1 h2 h3 =>
  rw [<- Yd];refine .more (hp ?_ h1) h2 h3;intro e;cases t with
  | nil=>simp at e
  | cons x t=>simpa using e
theorem Splits.grp {d:Nat} {t l:List UInt8} {b:Pt} (h:Splits d l) (h1:Rep t b) (h2:b.dep+(d+1)<=4):Splits d (40::(t ++ 41::l)):=by
 cases h with
 | @last _ p k1 k2 k3=>exact .last (.grp h1 k1) k2 (by simp [dep]; omega)
 | @more d t2 l2 p k1 k2 k3 =>
  have:=Splits.more (.grp h1 k1) (by simp [dep]; omega) k3
  simpa using this
theorem X6c:∀ (n:Nat) (l:List UInt8) (i:Int) (Q:List Pl) (stk:List PFr) (ats:List Int) (X:List Pl),l.length<=n->ats.length=stk.length->stk.length<=4->cmpGo l i Q stk ats=.ok X->Splits stk.length l
 | n,[],i,Q,stk,ats,X,_,ha,h4,h=>by
  rw [X40] at h;split at h
  ·cases h
  ·have e:stk.length=0:=by omega
   rw [e]; exact .last .nil trivial (by simp [dep])
 | 0,c::l,_,_,_,_,_,hn,_,_,_=>by simp at hn
 | n+1,c::l,i,Q,stk,ats,X,hn,ha,h4,h=>by
  have hn':l.length<=n:=by simpa using hn
  rw [Xi] at h;split at h
  ·rename_i e
   have e:c=63:=Y18.1 e;subst e;exact (X6c n l _ _ stk ats X hn' ha h4 h).lit (pre:=[63]) fun _ hr=>.one hr
  split at h
  ·rename_i e
   have e:c=42:=Y18.1 e;subst e;cases l with
   | nil=>exact (X6c n [] _ _ stk ats X hn' ha h4 h).lit (pre:=[42]) fun {t p} hd hr=>.few (fun e=>by have:=hd e; simp at this) hr
   | cons d r =>
    simp only at h
    split at h
    ·rename_i e2
     have e2:d=42:=Y18.1 e2;subst e2;exact (X6c n r _ _ stk ats X (by simp at hn'; omega) ha h4 h).lit (pre:=[42,42]) fun _ hr=>.all hr
    ·rename_i e2
     exact (X6c n (d::r) _ _ stk ats X hn' ha h4 h).lit (pre:=[42]) fun {t p} hd hr=>.few (fun e=>by have:=hd e; simp at this; subst this; exact e2 (by decide)) hr
  split at h
  ·rename_i e
   have e:c=40:=Y18.1 e;subst e;split at h
   ·cases h
   ·rename_i h5
    have hs:=X6c n l _ _ ((Q.length,[])::stk) (ats ++ [i]) X hn' (by simp [ha]) (by simp; omega) h;generalize hm:((Q.length,[])::stk:List PFr).length=m at hs;simp only [List.length_cons] at hm
    cases hs with
    | last=>omega
    | @more d t l b h1 h2 h3 =>
     have hd:d=stk.length:=by omega
     subst hd;exact h3.grp h1 h2
  split at h
  ·rename_i e
   have e:c=124:=Y18.1 e;subst e;cases stk with
   | nil=>cases h
   | cons f stk =>
    obtain ⟨o,bs⟩:=f;have hs:=X6c n l _ _ ((o,bs ++ [Q.length])::stk) ats X hn' ha h4 h;cases hs with
    | more h1 h2 h3=>exact Splits.more (t:=124::_) (.bar h1) h2 h3
  split at h
  ·rename_i e
   have e:c=41:=Y18.1 e;subst e;cases stk with
   | nil=>cases h
   | cons f stk =>
    obtain ⟨o,bs⟩:=f;have hs:=X6c n l _ _ stk _ X hn' (by simp at ha; simp; omega) (by simp at h4; omega) h;exact Splits.more (t:=[]) .nil (by simp [dep] at *; omega) hs
  split at h
  ·rename_i e
   have e:c=92:=Y18.1 e;subst e;cases l with
   | nil=>cases h
   | cons d r=>exact (X6c n r _ _ stk ats X (by simp at hn'; omega) ha h4 h).lit (pre:=[92,d]) fun _ hr=>.esc d hr
  ·rename_i h1 h2 h3 h4' h5 h6
   have ne:∀ {n:UInt8},¬ c.toNat=n.toNat->c≠n:=fun h e=>h (by rw [e])
   exact (X6c n l _ _ stk ats X hn' ha h4 h).lit (pre:=[c]) fun _ hr=>.byte c (ne h1) (ne h2) (ne h3) (ne h4') (ne h5) (ne h6) hr
theorem Xo0 {l:List UInt8} {Q:List Pl} (h:cmp l=.ok Q):l.length<=200/\∃ p,Rep l p/\p.flat/\p.dep<=4/\Q=pls [] p 0 ++ [(7,0,[])]:=by
 unfold cmp at h;split at h
 ·cases h
 ·rename_i hl
  refine ⟨by omega,?_⟩;have hs:=X6c l.length l 0 [] [] [] Q (Yq _) rfl (by simp) h;cases hs with
  | @last _ p h1 h2 h3 =>
   refine ⟨p,h1,h2,h3,?_⟩;have h5:=(Xa6 h1 [] 0 [] [] [] (fun _=>by simp) (.inl h2) rfl (by simp)).1 (by simpa using h3);rw [Y9,h,X40] at h5;simpa using h5
theorem cmp_of {l:List UInt8} {p:Pt} (h:Rep l p) (hf:p.flat) (hl:l.length<=200) (hd:p.dep<=4):cmp l=.ok (pls [] p 0 ++ [(7,0,[])]):=by
 have h5:=(Xa6 h [] 0 [] [] [] (fun _=>by simp) (.inl hf) rfl (by simp)).1 (by simpa using hd);rw [cmp,if_neg (by omega)];rw [Y9,X40] at h5;simpa using h5
theorem Xrv {l:List UInt8} {p:Pt} (h:Rep l p) (hf:p.flat) (hd:4<p.dep) (X:List Pl):cmp l≠.ok X:=by
 have h5:=(Xa6 h [] 0 [] [] [] (fun _=>by simp) (.inl hf) rfl (by simp)).2 (by simpa using hd) X;rw [Y9] at h5;unfold cmp;split
 ·intro e; cases e
 ·exact h5
theorem X1j:∀ (n:Nat) (l:List UInt8) (i:Int) (Q:List Pl) (stk:List PFr) (o:List Int),l.length<=n->o.length=stk.length ->
  (∀ e,cmpGo l i Q stk o=.error e->chkGo l i o=e/\e.1≠0)/\(∀ X,cmpGo l i Q stk o=.ok X->chkGo l i o=(0,0))
 | n,[],i,Q,stk,o,_,ho=>by
  rw [X40,Xa4];split
  ·exact ⟨fun e h=>by injection h with h; subst h; exact ⟨rfl,by simp⟩,fun X h=>by cases h⟩
  ·exact ⟨fun e h=>(by cases h),fun X h=>rfl⟩
 | 0,c::l,_,_,_,_,hn,_=>by simp at hn
 | n+1,c::l,i,Q,stk,o,hn,ho=>by
  have hn':l.length<=n:=by simpa using hn
  rw [Xi,X1e]
  by_cases h63:c.toNat=63
  ·rw [if_pos h63,if_neg (by omega),if_neg (by omega),if_neg (by omega),if_neg (by omega)];exact X1j n l _ _ stk o hn' ho
  rw [if_neg h63]
  by_cases h42:c.toNat=42
  ·rw [if_pos h42,if_neg (by omega),if_neg (by omega),if_neg (by omega),if_neg (by omega)];cases l with
   | nil=>exact X1j n [] _ _ stk o hn' ho
   | cons d r =>
    simp only
    by_cases hd:d.toNat=42
    ·rw [if_pos hd,X1e,if_neg (by omega),if_neg (by omega),if_neg (by omega),if_neg (by omega),show i+1+1=i+2 by omega];exact X1j n r _ _ stk o (by simp at hn'; omega) ho
    ·rw [if_neg hd];exact X1j n (d::r) _ _ stk o hn' ho
  rw [if_neg h42]
  by_cases h40:c.toNat=40
  ·rw [if_pos h40,if_pos h40,<- ho]
   by_cases h4:o.length=4
   ·rw [if_pos h4,if_pos h4];exact ⟨fun e h=>by injection h with h; subst h; exact ⟨rfl,by simp⟩,fun X h=>by cases h⟩
   ·rw [if_neg h4,if_neg h4];exact X1j n l _ _ _ (o ++ [i]) hn' (by simp [ho])
  rw [if_neg h40,if_neg h40]
  by_cases h124:c.toNat=124
  ·rw [if_pos h124,if_neg (by omega),if_pos h124];cases stk with
   | nil=>rw [if_pos (by simpa using ho)]; exact ⟨fun e h=>by injection h with h; subst h; exact ⟨rfl,by simp⟩,fun X h=>by cases h⟩
   | cons f stk =>
    rw [if_neg (by simp at ho; omega)];exact X1j n l _ _ _ o hn' ho
  rw [if_neg h124,if_neg h124]
  by_cases h41:c.toNat=41
  ·rw [if_pos h41,if_pos h41];cases stk with
   | nil=>rw [if_pos (by simpa using ho)]; exact ⟨fun e h=>by injection h with h; subst h; exact ⟨rfl,by simp⟩,fun X h=>by cases h⟩
   | cons f stk =>
    obtain ⟨fo,fb⟩:=f;simp only [List.length_cons] at ho ⊢
    rw [if_neg (by omega),show stk.length=o.length - 1 by omega];exact X1j n l _ _ _ _ hn' (by simp; omega)
  rw [if_neg h41,if_neg h41]
  by_cases h92:c.toNat=92
  ·rw [if_pos h92,if_pos h92];cases l with
   | nil=>exact ⟨fun e h=>by injection h with h; subst h; exact ⟨rfl,by simp⟩,fun X h=>by cases h⟩
   | cons d r=>exact X1j n r _ _ stk o (by simp at hn'; omega) ho
  rw [if_neg h92,if_neg h92];exact X1j n l _ _ stk o hn' ho
def Succ (Q:List Pl) (i j:Nat):Prop:=(X8o (Q.getD i (7,0,[])).1=true/\j=i+1)\/(∃ t∈(Q.getD i (7,0,[])).2.2,j=t.toNat)
inductive Xcx (Q:List Pl):Nat->Nat->Prop
 | refl (i:Nat):Xcx Q i i
 | step {i j k:Nat}:Succ Q i j->Xcx Q j k->Xcx Q i k
def Cl (Q:List Pl) (a b:List Bool):Prop:=SubB a b/\∀ x,b.getD x false=true->a.getD x false=false->∀ y,Succ Q x y->b.getD y false=true
theorem Cl.refl (Q:List Pl) (a:List Bool):Cl Q a a:=⟨SubB.refl a,fun x h k=>by rw [h] at k; cases k⟩
theorem Cl.trans {Q:List Pl} {a b c:List Bool} (h:Cl Q a b) (k:Cl Q b c):Cl Q a c:=by
 refine ⟨h.1.trans k.1,fun x hx hn y hy=>?_⟩;cases hb:b.getD x false with
 | true=>exact k.1.2 y (h.2 x hb hn y hy)
 | false=>exact k.2 x hx hb y hy
theorem getD_set_true (s:List Bool) (i x:Nat):(s.set i true).getD x false=true->s.getD x false=true\/x=i:=by
 intro h
 by_cases e:x=i
 ·exact .inr e
 ·left
  rw [Y8,Y23] at h;rw [Y8]
  have:¬ i=x:=fun h=>e h.symm
  simpa [this] using h
theorem X79 {s:List Bool} {i:Nat} (h:i<s.length):(s.set i true).getD i false=true:=by
 rw [Y8,Y23]; simp [h]
theorem Xcz {Q:List Pl} (hW:WF Q):∀ (f:Nat) (set:List Bool) (i:Nat),set.length=Q.length->i<Q.length->X8q set<f->Cl Q set (X6u Q f set i)/\(X6u Q f set i).getD i false=true
 | 0,_,_,_,_,h=>by omega
 | f+1,set,i,hl,hi,hf=>by
  have fold:∀ (l:List Int) (s:List Bool),s.length=Q.length->X8q s<f->(∀ t∈l,0<=t/\t<(Q.length:Int))->Cl Q s (l.foldl (fun s t=>X6u Q f s t.toNat) s)/\∀ t∈l,(l.foldl (fun s t=>X6u Q f s t.toNat) s).getD t.toNat false=true:=by
   intro l
   induction l with
   | nil=>intro s _ _ _; exact ⟨Cl.refl Q s,by simp⟩
   | cons t l ih =>
    intro s h1 h2 h3;have ht:=h3 t (by simp);have h4:=Xcz hW f s t.toNat h1 (by omega) h2;have hsub:=X5p Q f s t.toNat;have h5:=ih (X6u Q f s t.toNat) (by rw [<- hsub.1]; exact h1) (by have:=X7t hsub; omega) (fun u hu=>h3 u (by simp [hu]));refine ⟨h4.1.trans h5.1,fun u hu=>?_⟩;rcases Y17.1 hu with rfl | hu
    ·exact h5.1.1.2 _ h4.2
    ·exact h5.2 u hu
  have hw:=hW.at_ hi;rw [X6u];cases hs:set.getD i false with
  | true=>exact ⟨Cl.refl Q set,hs⟩
  | false =>
   have hu:=Xb7 (s:=set) (i:=i) (by omega) hs;have h1:=fold (Q.getD i (7,0,[])).2.2 (set.set i true) (by simp [hl]) (by omega) hw.1;generalize hS:(Q.getD i (7,0,[])).2.2.foldl (fun s t=>X6u Q f s t.toNat) (set.set i true)=S1 at h1;have hset:SubB set S1:=(SubB.set set i).trans h1.1.1;have hiS:S1.getD i false=true:=h1.1.1.2 i (X79 (by omega));simp only [cond_false]
   cases hk:X8o (Q.getD i (7,0,[])).1 with
   | false =>
    simp only [cond_false]
    refine ⟨⟨hset,fun x hx hn y hy=>?_⟩,hiS⟩
    by_cases e:x=i
    ·subst e;rcases hy with ⟨h,_⟩ | ⟨t,ht,rfl⟩
     ·rw [hk] at h; cases h
     ·exact h1.2 t ht
    ·refine h1.1.2 x hx ?_ y hy;cases h9:(set.set i true).getD x false with
     | false=>rfl
     | true=>rcases getD_set_true _ _ _ h9 with h | h; rw [h] at hn; cases hn; exact absurd h e
   | true =>
    simp only [cond_true]
    have hi1:=hw.2.1 hk;have h2:=Xcz hW f S1 (i+1) (by rw [<- hset.1]; exact hl) hi1 (by have:=X7t h1.1.1; omega);refine ⟨⟨hset.trans h2.1.1,fun x hx hn y hy=>?_⟩,h2.1.1.2 i hiS⟩
    by_cases e:x=i
    ·subst e;rcases hy with ⟨_,rfl⟩ | ⟨t,ht,rfl⟩
     ·exact h2.2
     ·exact h2.1.1.2 _ (h1.2 t ht)
    ·cases h8:S1.getD x false with
     | true =>
      refine h2.1.1.2 y (h1.1.2 x h8 ?_ y hy);cases h9:(set.set i true).getD x false with
      | false=>rfl
      | true=>rcases getD_set_true _ _ _ h9 with h | h; rw [h] at hn; cases hn; exact absurd h e
     | false=>exact h2.1.2 x hx h8 y hy
theorem X5o {Q:List Pl}:∀ (f:Nat) (set:List Bool) (i x:Nat),(X6u Q f set i).getD x false=true->set.getD x false=true\/Xcx Q i x
 | 0,set,i,x,h=>.inl h
 | f+1,set,i,x,h=>by
  have fold:∀ (l:List Int) (s:List Bool),(l.foldl (fun s t=>X6u Q f s t.toNat) s).getD x false=true->s.getD x false=true\/∃ t∈l,Xcx Q t.toNat x:=by
   intro l
   induction l with
   | nil=>intro s h; exact .inl h
   | cons t l ih =>
    intro s h;rcases ih _ h with h | ⟨u,hu,h⟩
    ·rcases X5o f s t.toNat x h with h | h
     ·exact .inl h
     ·exact .inr ⟨t,by simp,h⟩
    ·exact .inr ⟨u,by simp [hu],h⟩
  have done:∀ {S1:List Bool},(∀ h:S1.getD x false=true,(set.set i true).getD x false=true\/∃ t∈(Q.getD i (7,0,[])).2.2,Xcx Q t.toNat x)->S1.getD x false=true->set.getD x false=true\/Xcx Q i x:=by
   intro S1 h1 h2;rcases h1 h2 with h | ⟨t,ht,h⟩
   ·rcases getD_set_true _ _ _ h with h | rfl
    ·exact .inl h
    ·exact .inr (.refl _)
   ·exact .inr (.step (.inr ⟨t,ht,rfl⟩) h)
  rw [X6u] at h;cases hs:set.getD i false with
  | true=>rw [hs] at h; exact .inl h
  | false =>
   rw [hs] at h;simp only [cond_false] at h
   cases hk:X8o (Q.getD i (7,0,[])).1 with
   | false=>rw [hk] at h; exact done (fold _ _) h
   | true =>
    rw [hk] at h;simp only [cond_true] at h
    rcases X5o f _ _ x h with h | h
    ·exact done (fold _ _) h
    ·exact .inr (.step (.inl ⟨hk,rfl⟩) h)
inductive Acc (Q:List Pl):Nat->List UInt8->Prop
 | fin {i}:i<Q.length->(Q.getD i (7,0,[])).1=7->Acc Q i []
 | go {i j s}:i<Q.length->Succ Q i j->Acc Q j s->Acc Q i s
 | eat {i c s}:i<Q.length->X1n (Q.getD i (7,0,[])).1 (Q.getD i (7,0,[])).2.1 c=true->Acc Q (bif ((Q.getD i (7,0,[])).1 == 2) || ((Q.getD i (7,0,[])).1 == 3) then i else i+1) s->Acc Q i (c::s)
theorem Acc.reach {Q:List Pl} (hW:WF Q) {i j:Nat} {s:List UInt8} (hi:i<Q.length) (h:Xcx Q i j) (k:Acc Q j s):Acc Q i s:=by
 induction h with
 | refl=>exact k
 | @step i j k' hs _ ih =>
  refine .go hi hs (ih ?_ k);have hw:=hW.at_ hi;rcases hs with ⟨h1,rfl⟩ | ⟨t,ht,rfl⟩
  ·exact hw.2.1 h1
  ·have:=hw.1 t ht; omega
def Closed (Q:List Pl) (s:List Bool):Prop:=∀ x,s.getD x false=true->∀ y,Succ Q x y->s.getD y false=true
theorem Closed.cl {Q:List Pl} {a b:List Bool} (h:Closed Q a) (k:Cl Q a b):Closed Q b:=by
 intro x hx y hy;cases ha:a.getD x false with
 | true=>exact k.1.2 y (h x ha y hy)
 | false=>exact k.2 x hx ha y hy
theorem X5s (n x:Nat):(List.replicate n false).getD x false=false:=by
 rw [Y8,Y5j]; split <;> rfl
theorem Closed.rep (Q:List Pl) (n:Nat):Closed Q (List.replicate n false):=fun x hx=>by rw [X5s] at hx; cases hx
section
variable {Q:List Pl} (hW:WF Q) {F:Nat} (hF:Q.length<F) (now:List Bool) (c:UInt8)
abbrev tgt (Q:List Pl) (i:Nat):Nat:=bif ((Q.getD i (7,0,[])).1 == 2) || ((Q.getD i (7,0,[])).1 == 3) then i else i+1
theorem Xq1 (hW:WF Q) {i:Nat} {c:UInt8} (hi:i<Q.length) (h:X1n (Q.getD i (7,0,[])).1 (Q.getD i (7,0,[])).2.1 c=true):tgt Q i<Q.length:=by
 have h7:=(hW.at_ hi).2.2.2.1 (fun e=>by rw [e,X1n] at h; simp at h);unfold tgt;cases ((Q.getD i (7,0,[])).1 == 2) || ((Q.getD i (7,0,[])).1 == 3)
 ·exact h7
 ·exact hi
theorem Xpp (hW:WF Q) (hF:Q.length<F) (steps:Nat):∀ k,k<=Q.length->∃ nx any st,iter (X3k Q F c now) (List.replicate Q.length false,false,steps) k=(nx,any,st)/\nx.length=Q.length/\Closed Q nx /\
  (∀ i,i<k->now.getD i false=true->X1n (Q.getD i (7,0,[])).1 (Q.getD i (7,0,[])).2.1 c=true->nx.getD (tgt Q i) false=true/\any=true) /\
  (∀ x,nx.getD x false=true->∃ i,i<Q.length/\now.getD i false=true/\X1n (Q.getD i (7,0,[])).1 (Q.getD i (7,0,[])).2.1 c=true/\Xcx Q (tgt Q i) x)
 | 0,_=>⟨_,_,_,rfl,by simp,Closed.rep _ _,fun _ h=>by omega,fun x hx=>by rw [X5s] at hx; cases hx⟩
 | k+1,hk=>by
  obtain ⟨nx,any,st,h1,h2,h3,h4,h5⟩:=Xpp hW hF steps k (by omega);rw [iter,h1,X3k];cases hn:now.getD k false with
  | false =>
   refine ⟨_,_,_,rfl,h2,h3,fun i hi hni hf=>?_,h5⟩
   by_cases e:i=k
   ·subst e; rw [hn] at hni; cases hni
   ·exact h4 i (by omega) hni hf
  | true =>
   cases hf:X1n (Q.getD k (7,0,[])).1 (Q.getD k (7,0,[])).2.1 c with
   | false =>
    refine ⟨_,_,_,rfl,h2,h3,fun i hi hni hf2=>?_,h5⟩
    by_cases e:i=k
    ·subst e; rw [hf] at hf2; cases hf2
    ·exact h4 i (by omega) hni hf2
   | true =>
    have ht:=Xq1 hW (i:=k) (by omega) hf;have hu:X8q nx<=nx.length:=Y4o;have h6:=Xcz hW F nx (tgt Q k) h2 ht (by omega);refine ⟨_,_,_,rfl,?_,?_,fun i hi hni hf2=>?_,fun x hx=>?_⟩
    ·exact h6.1.1.1.symm.trans h2
    ·exact h3.cl h6.1
    ·by_cases e:i=k
     ·subst e; exact ⟨h6.2,rfl⟩
     ·exact ⟨h6.1.1.2 _ (h4 i (by omega) hni hf2).1,rfl⟩
    ·rcases X5o F nx (tgt Q k) x hx with h | h
     ·exact h5 x h
     ·exact ⟨k,by omega,hn,hf,h⟩
end
theorem Acc.inv_nil {Q:List Pl} {now:List Bool} (hc:Closed Q now):∀ {i:Nat} {s:List UInt8},Acc Q i s->s=[]->now.getD i false=true->∃ j,j<Q.length/\(Q.getD j (7,0,[])).1=7/\now.getD j false=true:=by
 intro i s h
 induction h with
 | fin h1 h2=>intro _ h; exact ⟨_,h1,h2,h⟩
 | go h1 h2 _ ih=>intro h3 h; exact ih h3 (hc _ h _ h2)
 | eat=>intro h; cases h
theorem Acc.inv_cons {Q:List Pl} {now:List Bool} (hc:Closed Q now) {c:UInt8} {r:List UInt8}:∀ {i:Nat} {s:List UInt8},Acc Q i s->s=c::r->now.getD i false=true->∃ j,j<Q.length/\now.getD j false=true/\X1n (Q.getD j (7,0,[])).1 (Q.getD j (7,0,[])).2.1 c=true/\Acc Q (tgt Q j) r:=by
 intro i s h
 induction h with
 | fin=>intro h; cases h
 | go h1 h2 _ ih=>intro h3 h; exact ih h3 (hc _ h _ h2)
 | eat h1 h2 h3=>intro h4 h; injection h4 with h4 h5; subst h4; subst h5; exact ⟨_,h1,h,h2,h3⟩
def End7 (Q:List Pl):Prop:=0<Q.length/\∀ j,j<Q.length->((Q.getD j (7,0,[])).1=7 ↔ j=Q.length - 1)
theorem Xjt {Q:List Pl} (hW:WF Q) (hE:End7 Q) {F:Nat} (hF:Q.length<F):∀ (s:List UInt8) (now:List Bool) (st:Nat),now.length=Q.length->Closed Q now ->
  ((Xxa Q F s now st).1.getD (Q.length - 1) false=true ↔ ∃ i,i<Q.length/\now.getD i false=true/\Acc Q i s)
 | [],now,st,hl,hc=>by
  constructor
  ·intro h;have h0:=hE.1;exact ⟨Q.length - 1,by omega,h,.fin (by omega) ((hE.2 _ (by omega)).2 rfl)⟩
  ·rintro ⟨i,hi,h1,h2⟩;obtain ⟨j,hj,h7,hn⟩:=h2.inv_nil hc rfl h1;rw [(hE.2 j hj).1 h7] at hn;exact hn
 | c::r,now,st,hl,hc=>by
  obtain ⟨nx,any,st2,h1,h2,h3,h4,h5⟩:=Xpp now c hW hF st Q.length (Yq _);have hB:Xul Q F c now st=(nx,any,st2):=h1;rw [Xxa,hB];have back:(∃ i,i<Q.length/\now.getD i false=true/\Acc Q i (c::r)) ↔ ∃ i,i<Q.length/\nx.getD i false=true/\Acc Q i r:=by
   constructor
   ·rintro ⟨i,hi,k1,k2⟩;obtain ⟨j,hj,m1,m2,m3⟩:=k2.inv_cons hc rfl k1;exact ⟨_,Xq1 hW hj m2,(h4 j hj m1 m2).1,m3⟩
   ·rintro ⟨i,hi,k1,k2⟩;obtain ⟨j,hj,m1,m2,m3⟩:=h5 i k1;exact ⟨j,hj,m1,.eat hj m2 (k2.reach hW (Xq1 hW hj m2) m3)⟩
  rw [back];cases any with
  | true=>exact Xjt hW hE hF r nx st2 h2 h3
  | false =>
   have none:∀ x,¬ nx.getD x false=true:=fun x hx=>by
    obtain ⟨j,hj,m1,m2,m3⟩:=h5 x hx
    have:=(h4 j hj m1 m2).2
    cases this
   constructor
   ·intro h; exact absurd h (none _)
   ·rintro ⟨i,_,h,_⟩; exact absurd h (none i)
theorem Xxc {Q:List Pl} (hW:WF Q) (hE:End7 Q) (s:List UInt8):(run Q s).1.getD (Q.length - 1) false=true ↔ Acc Q 0 s:=by
 have h0:=hE.1;have hu:X8q (List.replicate Q.length false)<=(List.replicate Q.length false).length:=Y4o;rw [Y25] at hu;have h1:=Xcz hW (Q.length+1) (List.replicate Q.length false) 0 (by simp) h0 (by omega);unfold run;rw [Xjt hW hE (Nat.lt_succ_self _) s _ 1 (by rw [<- h1.1.1.1]; simp) ((Closed.rep _ _).cl h1.1)];constructor
 ·rintro ⟨i,hi,k1,k2⟩;rcases X5o _ _ _ _ k1 with h | h
  ·rw [X5s] at h; cases h
  ·exact k2.reach hW h0 h
 ·intro h; exact ⟨0,h0,h1.2,h⟩
end Pat
namespace Pat
open Go Gk Pt
abbrev Xcu:=List UInt8->Prop
def Xm0 (k c:Int):Xcu:=fun u=>if k=2\/k=3 then ∀ x∈u,X1n k c x=true else ∃ x,u=[x]/\X1n k c x=true
def cat (A B:Xcu):Xcu:=fun s=>∃ u v,s=u ++ v/\A u/\B v
theorem X1w (A B C:Xcu) (s:List UInt8):cat (cat A B) C s ↔ cat A (cat B C) s:=by
 constructor
 ·rintro ⟨u,v,rfl,⟨a,b,rfl,h1,h2⟩,h3⟩;exact ⟨a,b ++ v,by simp,h1,b,v,rfl,h2,h3⟩
 ·rintro ⟨a,w,rfl,h1,b,v,rfl,h2,h3⟩;exact ⟨a ++ b,v,by simp,⟨a,b,rfl,h1,h2⟩,h3⟩
theorem X52 {A A' B B':Xcu} (h:∀ s,A s ↔ A' s) (k:∀ s,B s ↔ B' s) (s:List UInt8):cat A B s ↔ cat A' B' s:=by
 constructor
 ·rintro ⟨u,v,e,h1,h2⟩; exact ⟨u,v,e,(h u).1 h1,(k v).1 h2⟩
 ·rintro ⟨u,v,e,h1,h2⟩; exact ⟨u,v,e,(h u).2 h1,(k v).2 h2⟩
theorem Xu6 (A B C:Xcu) (s:List UInt8):cat (fun s=>A s\/B s) C s ↔ cat A C s\/cat B C s:=by
 constructor
 ·rintro ⟨u,v,e,h | h,h2⟩
  ·exact .inl ⟨u,v,e,h,h2⟩
  ·exact .inr ⟨u,v,e,h,h2⟩
 ·rintro (⟨u,v,e,h,h2⟩ | ⟨u,v,e,h,h2⟩)
  ·exact ⟨u,v,e,.inl h,h2⟩
  ·exact ⟨u,v,e,.inr h,h2⟩
theorem Xd1 (B:Xcu) (s:List UInt8):cat (fun u=>u=[]) B s ↔ B s:=by
 constructor
 ·rintro ⟨u,v,rfl,rfl,h⟩; exact h
 ·intro h; exact ⟨[],s,rfl,rfl,h⟩
def sem:Pt->Xcu×Xcu
 | .nil=>(fun s=>s=[],fun _=>False)
 | .lit k c r=>(cat (Xm0 k c) (sem r).1,(sem r).2)
 | .bar r=>(fun s=>s=[],fun s=>(sem r).1 s\/(sem r).2 s)
 | .grp b r=>(cat (fun s=>(sem b).1 s\/(sem b).2 s) (sem r).1,(sem r).2)
theorem Xia:∀ (p q:Pt),p.flat->∀ s,(sem (p.app q)).1 s ↔ cat (sem p).1 (sem q).1 s
 | .nil,q,_,s=>(Xd1 _ s).symm
 | .lit k c r,q,h,s=>(X52 (fun _=>Iff.rfl) (Xia r q h) s).trans (X1w _ _ _ s).symm
 | .bar _,_,h,_=>h.elim
 | .grp b r,q,h,s=>(X52 (fun _=>Iff.rfl) (Xia r q h) s).trans (X1w _ _ _ s).symm
theorem Xau:∀ (p:Pt),p.flat->∀ s,¬ (sem p).2 s
 | .nil,_,_=>id
 | .lit _ _ r,h,s=>Xau r h s
 | .bar _,h,_=>h.elim
 | .grp _ r,h,s=>Xau r h s
namespace Pt
def ok:Pt->Prop
 | nil=>True
 | lit k _ r=>(0<=k/\k<=3)/\ok r
 | bar r=>ok r
 | grp b r=>ok b/\ok r
end Pt
theorem Rep.ok {l:List UInt8} {p:Pt} (h:Rep l p):p.ok:=by
 induction h with
 | nil=>trivial
 | one _ ih=>exact ⟨⟨by decide,by decide⟩,ih⟩
 | all _ ih=>exact ⟨⟨by decide,by decide⟩,ih⟩
 | few _ _ ih=>exact ⟨⟨by decide,by decide⟩,ih⟩
 | grp _ _ h1 h2=>exact ⟨h1,h2⟩
 | bar _ ih=>exact ih
 | esc c _ ih=>exact ⟨⟨by decide,by decide⟩,ih⟩
 | byte c _ _ _ _ _ _ _ ih=>exact ⟨⟨by decide,by decide⟩,ih⟩
theorem Rep.len {l:List UInt8} {p:Pt} (h:Rep l p):p.len<=l.length:=by
 induction h <;> simp [Pt.len] at*<;> omega
theorem Xdz:∀ (p:Pt) (n:Nat),(tos p n).length<=p.len
 | .nil,_=>by simp [tos]
 | .lit _ _ r,n=>by have:=Xdz r (n+1); simp [tos,len]; omega
 | .bar r,n=>by have:=Xdz r (n+1); simp [tos,len]; omega
 | .grp b r,n=>by have:=Xdz r (n+2+len b); simp [tos,len]; omega
theorem Xk0:∀ (p:Pt) (n:Nat) (t:Int),t∈tos p n->(n:Int)<t/\t<=n+p.len
 | .nil,_,_,h=>by simp [tos] at h
 | .lit _ _ r,n,t,h=>by have:=Xk0 r (n+1) t h; simp [len]; omega
 | .bar r,n,t,h=>by
  simp only [tos,Y17] at h
  rcases h with rfl | h
  ·simp [len]; omega
  ·have:=Xk0 r (n+1) t h; simp [len]; omega
 | .grp b r,n,t,h=>by have:=Xk0 r (n+2+len b) t h; simp [len]; omega
theorem X8j:∀ (p:Pt) (es:List Int) (n N:Nat),p.ok->n+p.len<N->(∀ t∈es,0<=t/\t<(N:Int))->es.length<=N->∀ q∈pls es p n,(∀ t∈q.2.2,0<=t/\t<(N:Int))/\(0<=q.1/\q.1<=6)/\q.2.2.length<=N
 | .nil,_,_,_,_,_,_,_,q,h=>by simp [pls] at h
 | .lit k c r,es,n,N,ho,hl,he,hc,q,h=>by
  simp only [len] at hl
  simp only [pls,Y17] at h
  rcases h with rfl | h
  ·exact ⟨by simp,⟨ho.1.1,by have:=ho.1.2; simp only; omega⟩,by simp⟩
  ·exact X8j r es (n+1) N ho.2 (by omega) he hc q h
 | .bar r,es,n,N,ho,hl,he,hc,q,h=>by
  simp only [len] at hl
  simp only [pls,Y17] at h
  rcases h with rfl | h
  ·exact ⟨he,⟨by simp,by simp⟩,hc⟩
  ·exact X8j r es (n+1) N ho (by omega) he hc q h
 | .grp b r,es,n,N,ho,hl,he,hc,q,h=>by
  simp only [len] at hl
  simp only [pls,Y17,Y12] at h
  rcases h with rfl | h | rfl | h
  ·exact ⟨fun t ht=>by have:=Xk0 b (n+1) t ht; omega,⟨by simp,by simp⟩,by have:=Xdz b (n+1); simp only; omega⟩
  ·exact X8j b _ (n+1) N ho.1 (by omega) (fun t ht=>by simp at ht; omega) (by simp; omega) q h
  ·exact ⟨by simp,⟨by simp,by simp⟩,by simp⟩
  ·exact X8j r es (n+2+len b) N ho.2 (by omega) he hc q h
def X1d (p:Pt):List Pl:=pls [] p 0 ++ [(7,0,[])]
theorem X8y (p:Pt):(X1d p).length=p.len+1:=by simp [X1d,X2c]
theorem Xam {p:Pt} (ho:p.ok):WF (X1d p)/\End7 (X1d p):=by
 have hl:=X8y p;have hall:∀ (i:Nat) (q:Pl),(X1d p)[i]?=some q->(i<p.len/\q∈pls [] p 0)\/(i=p.len/\q=(7,0,[])):=by
  intro i q h;unfold X1d at h;rcases Yp i p.len with hi | hi
  ·rw [Yi (by rw [X2c]; exact hi)] at h;exact .inl ⟨hi,Yl h⟩
  ·rw [Yt (by rw [X2c]; exact hi),X2c] at h
   by_cases e:i=p.len
   ·subst e; simp at h; exact .inr ⟨rfl,h.symm⟩
   ·rw [Y1g (by simp; omega)] at h; cases h
 refine ⟨fun i q h=>?_,by omega,fun j hj=>?_⟩
 ·rw [hl];rcases hall i q h with ⟨hi,hm⟩ | ⟨hi,rfl⟩
  ·obtain ⟨h1,h2,h3⟩:=X8j p [] 0 (p.len+1) ho (by omega) (by simp) (by simp) q hm;exact ⟨h1,fun _=>by omega,⟨h2.1,by omega⟩,fun _=>by omega,h3⟩
  ·exact ⟨by simp,by simp [X8o],⟨by simp,by simp⟩,by simp,by simp⟩
 ·have e:(X1d p)[j]?=some ((X1d p).getD j (7,0,[])):=by simp [Y8,hj]
  rcases hall j _ e with ⟨hi,hm⟩ | ⟨hi,e2⟩
  ·obtain ⟨h1,h2,h3⟩:=X8j p [] 0 (p.len+1) ho (by omega) (by simp) (by simp) _ hm;constructor
   ·intro h; omega
   ·intro h; omega
  ·rw [e2]; simp; omega
def Seg (Q:List Pl) (n:Nat) (L:List Pl):Prop:=∀ (i:Nat) (q:Pl),L[i]?=some q->Q[n+i]?=some q
theorem Seg.head {Q:List Pl} {n:Nat} {q:Pl} {L:List Pl} (h:Seg Q n (q::L)):Q[n]?=some q:=h 0 q rfl
theorem Seg.tail {Q:List Pl} {n:Nat} {q:Pl} {L:List Pl} (h:Seg Q n (q::L)):Seg Q (n+1) L:=fun i x hx=>by
 rw [show n+1+i=n+(i+1) by omega]; exact h (i+1) x (by simpa using hx)
theorem Seg.left {Q:List Pl} {n:Nat} {L M:List Pl} (h:Seg Q n (L ++ M)):Seg Q n L:=fun i x hx=>h i x (by rw [Yi (Y5.1 hx).1]; exact hx)
theorem Seg.right {Q:List Pl} {n:Nat} {L M:List Pl} (h:Seg Q n (L ++ M)):Seg Q (n+L.length) M:=fun i x hx=>by
 rw [Y3z]; exact h (L.length+i) x (by rw [Yt (by omega)]; simpa using hx)
theorem X9x {Q:List Pl} {i:Nat} {k c:Int} {tz:List Int} (h:Q[i]?=some (k,c,tz)) (s:List UInt8) :
  Acc Q i s ↔ (k=7/\s=[])\/(X8o k=true/\Acc Q (i+1) s)\/(∃ t∈tz,Acc Q t.toNat s)\/(∃ x r,s=x::r/\X1n k c x=true/\Acc Q (bif (k == 2) || (k == 3) then i else i+1) r):=by
 have hi:i<Q.length:=(Y5.1 h).1;have e:Q.getD i (7,0,[])=(k,c,tz):=by rw [Y8,h]; rfl
 constructor
 ·intro ha;cases ha with
  | fin _ h7=>rw [e] at h7; exact .inl ⟨h7,rfl⟩
  | go _ hs ha =>
   rcases hs with ⟨h1,rfl⟩ | ⟨t,ht,rfl⟩
   ·rw [e] at h1; exact .inr (.inl ⟨h1,ha⟩)
   ·rw [e] at ht; exact .inr (.inr (.inl ⟨t,ht,ha⟩))
  | eat _ hf ha=>rw [e] at hf ha; exact .inr (.inr (.inr ⟨_,_,rfl,hf,ha⟩))
 ·rintro (⟨h7,rfl⟩ | ⟨h1,ha⟩ | ⟨t,ht,ha⟩ | ⟨x,r,rfl,hf,ha⟩)
  ·exact .fin hi (by rw [e]; exact h7)
  ·exact .go hi (.inl ⟨by rw [e]; exact h1,rfl⟩) ha
  ·exact .go hi (.inr ⟨t,by rw [e]; exact ht,rfl⟩) ha
  ·exact .eat hi (by rw [e]; exact hf) (by rw [e]; exact ha)
theorem Xvp {Q:List Pl} {n:Nat} {k c:Int} (h:Q[n]?=some (k,c,[])) (hk:0<=k/\k<=3):∀ s,Acc Q n s ↔ cat (Xm0 k c) (Acc Q (n+1)) s:=by
 have h7:¬ k=7:=by omega
 by_cases h23:k=2\/k=3
 ·have hs:X8o k=true:=by rcases h23 with rfl | rfl <;> rfl
  have hb:((k == 2) || (k == 3))=true:=by rcases h23 with rfl | rfl <;> rfl
  intro s
  induction s with
  | nil =>
   rw [X9x h];constructor
   ·rintro (⟨h,_⟩ | ⟨_,ha⟩ | ⟨t,ht,_⟩ | ⟨x,r,e,_⟩)
    ·exact absurd h h7
    ·exact ⟨[],[],rfl,by simp [Xm0,h23],ha⟩
    ·simp at ht
    ·cases e
   ·rintro ⟨u,v,e,_,ha⟩;obtain ⟨rfl,rfl⟩:=Y4g.1 e.symm;exact .inr (.inl ⟨hs,ha⟩)
  | cons y s ih =>
   rw [X9x h,hb];simp only [cond_true]
   constructor
   ·rintro (⟨h,_⟩ | ⟨_,ha⟩ | ⟨t,ht,_⟩ | ⟨x,r,e,hf,ha⟩)
    ·exact absurd h h7
    ·exact ⟨[],y::s,rfl,by simp [Xm0,h23],ha⟩
    ·simp at ht
    ·injection e with e1 e2
     subst e1; subst e2;obtain ⟨u,v,rfl,hu,hv⟩:=ih.1 ha;refine ⟨y::u,v,rfl,?_,hv⟩;unfold Xm0 at hu ⊢;rw [if_pos h23] at hu ⊢;intro z hz;rcases Y17.1 hz with rfl | hz
     ·exact hf
     ·exact hu z hz
   ·rintro ⟨u,v,e,hu,ha⟩;cases u with
    | nil=>exact .inr (.inl ⟨hs,by rw [e]; exact ha⟩)
    | cons z u =>
     injection e with e1 e2
     subst e1; subst e2;unfold Xm0 at hu;rw [if_pos h23] at hu;refine .inr (.inr (.inr ⟨y,u ++ v,rfl,hu y (by simp),ih.2 ⟨u,v,rfl,?_,ha⟩⟩));unfold Xm0;rw [if_pos h23];exact fun z hz=>hu z (by simp [hz])
 ·have hs:X8o k=false:=by
   have h2:k=0\/k=1:=by omega
   rcases h2 with rfl | rfl <;> rfl
  have hb:((k == 2) || (k == 3))=false:=by
   have h2:k=0\/k=1:=by omega
   rcases h2 with rfl | rfl <;> rfl
  intro s;rw [X9x h,hb,hs];simp only [cond_false]
  constructor
  ·rintro (⟨h,_⟩ | ⟨h,_⟩ | ⟨t,ht,_⟩ | ⟨x,r,rfl,hf,ha⟩)
   ·exact absurd h h7
   ·cases h
   ·simp at ht
   ·exact ⟨[x],r,rfl,by unfold Xm0; rw [if_neg h23]; exact ⟨x,rfl,hf⟩,ha⟩
  ·rintro ⟨u,v,rfl,hu,ha⟩;unfold Xm0 at hu;rw [if_neg h23] at hu;obtain ⟨x,rfl,hf⟩:=hu;exact .inr (.inr (.inr ⟨x,v,rfl,hf,ha⟩))
theorem X9y {Q:List Pl}:∀ (p:Pt) (es:List Int) (n:Nat),p.ok->Seg Q n (pls es p n)->(p.flat\/es=[((n+p.len:Nat):Int)]) ->
  (∀ s,Acc Q n s ↔ cat (sem p).1 (Acc Q (n+p.len)) s)/\(∀ s,(∃ t∈tos p n,Acc Q t.toNat s) ↔ cat (sem p).2 (Acc Q (n+p.len)) s)
 | .nil,es,n,_,_,_=>by
  refine ⟨fun s=>(Xd1 _ s).symm,fun s=>⟨fun ⟨t,ht,_⟩=>by simp [tos] at ht,fun ⟨_,_,_,h,_⟩=>h.elim⟩⟩
 | .lit k c r,es,n,ho,hseg,hf=>by
  rw [pls] at hseg;have ih:=X9y r es (n+1) ho.2 hseg.tail (by rcases hf with h | h; exact .inl h; right; rw [h]; congr 1; simp only [len]; omega);rw [show n+1+r.len=n+(Pt.lit k c r).len by simp only [len]; omega] at ih;refine ⟨fun s=>?_,ih.2⟩;rw [Xvp hseg.head ho.1];exact (X52 (fun _=>Iff.rfl) ih.1 s).trans (X1w _ _ _ s).symm
 | .bar r,es,n,ho,hseg,hf=>by
  have he:es=[((n+(Pt.bar r).len:Nat):Int)]:=by rcases hf with h | h; exact h.elim; exact h
  rw [pls] at hseg;have ih:=X9y r es (n+1) ho hseg.tail (by right; rw [he]; congr 1; simp only [len]; omega);rw [show n+1+r.len=n+(Pt.bar r).len by simp only [len]; omega] at ih;refine ⟨fun s=>?_,fun s=>?_⟩
  ·rw [X9x hseg.head];refine Iff.trans ?_ (Xd1 _ s).symm;constructor
   ·rintro (⟨h,_⟩ | ⟨h,_⟩ | ⟨t,ht,ha⟩ | ⟨x,r,rfl,hf,ha⟩)
    ·cases h
    ·cases h
    ·rw [he] at ht; simp only [Y3t] at ht; subst ht; exact ha
    ·cases hf
   ·intro h; exact .inr (.inr (.inl ⟨((n+(Pt.bar r).len:Nat):Int),by rw [he]; simp,h⟩))
  ·refine Iff.trans ?_ (Xu6 _ _ _ s).symm;rw [<- ih.1,<- ih.2];constructor
   ·rintro ⟨t,ht,ha⟩;simp only [tos,Y17] at ht
    rcases ht with rfl | ht
    ·left; rw [show ((n:Int)+1).toNat=n+1 by omega] at ha; exact ha
    ·exact .inr ⟨t,ht,ha⟩
   ·rintro (ha | ⟨t,ht,ha⟩)
    ·exact ⟨(n:Int)+1,by simp [tos],by rw [show ((n:Int)+1).toNat=n+1 by omega]; exact ha⟩
    ·exact ⟨t,by simp [tos,ht],ha⟩
 | .grp b r,es,n,ho,hseg,hf=>by
  rw [pls] at hseg;have h1:=hseg.tail.right;rw [X2c] at h1;have hb:=X9y b [((n+1+len b:Nat):Int)] (n+1) ho.1 hseg.tail.left (.inr rfl);have hr:=X9y r es (n+2+len b) ho.2 (by have:=h1.tail; rw [show n+1+b.len+1=n+2+b.len by omega] at this; exact this) (by rcases hf with h | h; exact .inl h; right; rw [h]; congr 1; simp only [len]; omega);rw [show n+2+b.len+r.len=n+(Pt.grp b r).len by simp only [len]; omega] at hr;have hc:∀ s,Acc Q (n+1+b.len) s ↔ cat (sem r).1 (Acc Q (n+(Pt.grp b r).len)) s:=by
   intro s;rw [X9x h1.head,<- hr.1,show n+1+b.len+1=n+2+b.len by omega];constructor
   ·rintro (⟨h,_⟩ | ⟨_,h⟩ | ⟨t,ht,ha⟩ | ⟨x,r,rfl,hf,ha⟩)
    ·cases h
    ·exact h
    ·simp at ht
    ·cases hf
   ·intro h; exact .inr (.inl ⟨rfl,h⟩)
  refine ⟨fun s=>?_,hr.2⟩;rw [X9x hseg.head];refine Iff.trans ?_ (X1w _ _ _ s).symm;refine Iff.trans ?_ (Xu6 _ _ _ s).symm;have e1:=(hb.1 s).trans (X52 (fun _=>Iff.rfl) hc s);have e2:=(hb.2 s).trans (X52 (fun _=>Iff.rfl) hc s);rw [<- e1,<- e2];constructor
  ·rintro (⟨h,_⟩ | ⟨_,h⟩ | h | ⟨x,r,rfl,hf,ha⟩)
   ·cases h
   ·exact .inl h
   ·exact .inr h
   ·cases hf
  ·rintro (h | h)
   ·exact .inr (.inl ⟨rfl,h⟩)
   ·exact .inr (.inr (.inl h))
theorem Xxd {p:Pt} (ho:p.ok) (hf:p.flat) (s:List UInt8):(run (X1d p) s).1.getD ((X1d p).length - 1) false=true ↔ (sem p).1 s:=by
 obtain ⟨hW,hE⟩:=Xam ho;rw [Xxc hW hE];have h:=(X9y (Q:=X1d p) p [] 0 ho (fun i q h=>by rw [Yc,X1d,Yi (Y5.1 h).1]; exact h) (.inl hf)).1 s;rw [h,Yc];have hl:(X1d p)[p.len]?=some (7,0,[]):=by rw [X1d,Yt (by rw [X2c]; omega),X2c]; simp
 have he:∀ v,Acc (X1d p) p.len v ↔ v=[]:=by
  intro v;rw [X9x hl];constructor
  ·rintro (⟨_,h⟩ | ⟨h,_⟩ | ⟨t,ht,_⟩ | ⟨x,r,rfl,hf,_⟩)
   ·exact h
   ·cases h
   ·simp at ht
   ·cases hf
  ·intro h; exact .inl ⟨rfl,h⟩
 constructor
 ·rintro ⟨u,v,rfl,h1,h2⟩;rw [(he v).1 h2,Y9]; exact h1
 ·intro h; exact ⟨s,[],by simp,h,(he []).2 rfl⟩
end Pat
namespace Pat
open Go Gk Pt
def mat (Q:List Pl) (s:List UInt8):Bool:=(run Q s).1.getD (Q.length - 1) false
theorem Xwp {l:List UInt8} {Q:List Pl} (h:cmp l=.ok Q) {p:Pt} (hr:Rep l p) (hf:p.flat) (s:List UInt8):mat Q s=true ↔ (sem p).1 s:=by
 have hl:=(Xo0 h).1;have hd:p.dep<=4:=by
  refine Nat.le_of_not_lt fun hd=>Xrv hr hf hd Q h
 rw [cmp_of hr hf hl hd] at h;injection h with h
 subst h;exact Xxd hr.ok hf s
def Xbg (l s:List UInt8):Bool×Bool:=match cmp l with
 | .ok Q=>(mat Q s,true)
 | .error _=>(false,false)
theorem mt_ok {l s:List UInt8} (h:(Xbg l s).2=true):∃ p,Rep l p/\p.flat/\p.dep<=4/\l.length<=200/\∀ t,(Xbg l t).2=true/\((Xbg l t).1=true ↔ (sem p).1 t):=by
 unfold Xbg at h;cases hq:cmp l with
 | error e=>rw [hq] at h; cases h
 | ok Q =>
  obtain ⟨hl,p,h1,h2,h3,_⟩:=Xo0 hq;refine ⟨p,h1,h2,h3,hl,fun t=>?_⟩;unfold Xbg;rw [hq];exact ⟨rfl,Xwp hq h1 h2 t⟩
theorem Xdv:∀ (p q:Pt),p.flat->(sem (p.app q)).2=(sem q).2
 | .nil,_,_=>rfl
 | .lit _ _ r,q,h=>Xdv r q h
 | .bar _,_,h=>h.elim
 | .grp _ r,q,h=>Xdv r q h
theorem Xnv (A:Xcu) (s:List UInt8):cat A (fun u=>u=[]) s ↔ A s:=by
 constructor
 ·rintro ⟨u,v,rfl,h,rfl⟩; rw [Y9]; exact h
 ·intro h; exact ⟨s,[],by simp,h,rfl⟩
def seg (s:List UInt8) (i j:Nat):List UInt8:=(s.drop i).take (j - i)
theorem X5z (s:List UInt8) (i:Nat):seg s i i=[]:=by simp [seg]
theorem X7o (s:List UInt8) {i j:Nat} (hi:i<=j) (hj:j<s.length):seg s i (j+1)=seg s i j ++ [at_ s (j:Int)]:=by
 unfold seg;rw [show j+1 - i=(j - i)+1 by omega,Y4e (by simp; omega)]
 congr 1
 simp [at_,Y8,show i+(j - i)=j by omega,hj]
theorem Xg6 (s:List UInt8) {i m j:Nat} (h1:i<=m) (h2:m<=j) (hj:j<=s.length):seg s i j=seg s i m ++ seg s m j:=by
 unfold seg;rw [show j - i=(m - i)+(j - m) by omega,List.take_add,Y1i,show i+(m - i)=m by omega]
theorem Xat (s:List UInt8) {i j:Nat} (hi:i<=j) (hj:j<=s.length):(seg s i j).length=j - i:=by simp [seg]; omega
theorem Xxe (s:List UInt8) {i j:Nat} {u v:List UInt8} (hi:i<=j) (hj:j<=s.length) (h:seg s i j=u ++ v):u=seg s i (i+u.length)/\v=seg s (i+u.length) j/\i+u.length<=j:=by
 have hl:=congrArg List.length h;rw [Xat s hi hj,Y0] at hl;have hm:i+u.length<=j:=by omega
 rw [Xg6 s (Nat.le_add_right i u.length) hm hj] at h
 have:=List.append_inj h (by rw [Xat s (by omega) (by omega)]; omega)
 exact ⟨this.1.symm,this.2.symm,hm⟩
def EndsAt (s:List UInt8) (fr:List Bool) (L:Xcu) (R:List Bool):Prop:=R.length=s.length+1/\∀ j,j<=s.length->(R.getD j false=true ↔ ∃ i,i<=j/\fr.getD i false=true/\L (seg s i j))
theorem EndsAt.congr {s:List UInt8} {fr R:List Bool} {L M:Xcu} (h:EndsAt s fr L R) (e:∀ u,L u ↔ M u):EndsAt s fr M R :=
 ⟨h.1,fun j hj=>(h.2 j hj).trans ⟨fun ⟨i,a,b,c⟩=>⟨i,a,b,(e _).1 c⟩,fun ⟨i,a,b,c⟩=>⟨i,a,b,(e _).2 c⟩⟩⟩
theorem EndsAt.nil {s:List UInt8} {fr:List Bool} (h:fr.length=s.length+1):EndsAt s fr (fun u=>u=[]) fr:=by
 refine ⟨h,fun j hj=>⟨fun h=>⟨j,Yq _,h,X5z s j⟩,?_⟩⟩;rintro ⟨i,h1,h2,h3⟩
 have:=Xat s h1 hj
 rw [h3] at this;have e:i=j:=by simp at this; omega
 subst e; exact h2
theorem EndsAt.cat {s:List UInt8} {fr R1 R2:List Bool} {A B:Xcu} (h:EndsAt s fr A R1) (k:EndsAt s R1 B R2):EndsAt s fr (cat A B) R2:=by
 refine ⟨k.1,fun j hj=>?_⟩;rw [k.2 j hj];constructor
 ·rintro ⟨m,h1,h2,h3⟩;obtain ⟨i,h4,h5,h6⟩:=(h.2 m (by omega)).1 h2;exact ⟨i,by omega,h5,_,_,Xg6 s h4 h1 hj,h6,h3⟩
 ·rintro ⟨i,h1,h2,u,v,h3,h4,h5⟩;obtain ⟨e1,e2,e3⟩:=Xxe s h1 hj h3;refine ⟨i+u.length,e3,(h.2 _ (by omega)).2 ⟨i,by omega,h2,?_⟩,?_⟩
  ·rw [<- e1]; exact h4
  ·rw [<- e2]; exact h5
def Xui (R1:List Bool) (out:List Bool) (k:Nat):List Bool:=out.set k (out.getD k false || R1.getD k false)
theorem Xal (R1 out:List Bool):∀ k,(iter (Xui R1) out k).length=out.length/\∀ j,j<out.length->(iter (Xui R1) out k).getD j false=(out.getD j false || (decide (j<k) && R1.getD j false))
 | 0=>⟨rfl,fun j _=>by simp [iter]⟩
 | k+1=>by
  obtain ⟨h1,h2⟩:=Xal R1 out k;rw [iter];unfold Xui at h1 h2 ⊢;refine ⟨by rw [Y2a]; exact h1,fun j hj=>?_⟩;rw [Y8,Y23]
  by_cases e:k=j
  ·subst e;simp only [if_true,h1,hj,Y2z]
   rw [h2 k hj]
   simp
  ·simp only [e,if_false]
   rw [<- Y8,h2 j hj]
   have:decide (j<k+1)=decide (j<k):=by simp; omega
   rw [this]
theorem EndsAt.or {s:List UInt8} {fr R1 R2:List Bool} {A B:Xcu} (h:EndsAt s fr A R1) (k:EndsAt s fr B R2):EndsAt s fr (fun u=>A u\/B u) (iter (Xui R2) R1 (s.length+1)):=by
 obtain ⟨h1,h2⟩:=Xal R2 R1 (s.length+1);refine ⟨h1.trans h.1,fun j hj=>?_⟩;rw [h2 j (by rw [h.1]; omega),Y1j,Yn,decide_eq_true_eq,h.2 j hj,k.2 j hj];constructor
 ·rintro (⟨i,a,b,c⟩ | ⟨_,i,a,b,c⟩)
  ·exact ⟨i,a,b,.inl c⟩
  ·exact ⟨i,a,b,.inr c⟩
 ·rintro ⟨i,a,b,c | c⟩
  ·exact .inl ⟨i,a,b,c⟩
  ·exact .inr ⟨by omega,i,a,b,c⟩
theorem EndsAt.none (s:List UInt8) (fr:List Bool):EndsAt s fr (fun _=>False) (List.replicate (s.length+1) false) :=
 ⟨by simp,fun j hj=>⟨fun h=>(by rw [X5s] at h; cases h),fun ⟨_,_,_,h⟩=>h.elim⟩⟩
def pj (s:List UInt8) (fr:List Bool) (kind:Int) (own:UInt8) (many:Bool):Nat->Bool
 | 0=>many && fr.getD 0 false
 | j+1=>(many && fr.getD (j+1) false) || (takes kind own (at_ s (j:Int)) && (fr.getD j false || (many && pj s fr kind own many j)))
theorem X8c (l:List Bool) (i j:Nat) (b:Bool) (hj:j<l.length):(l.set i b).getD j false=bif i == j then b else l.getD j false:=by
 rw [Y8,Y23,Y8]
 by_cases e:i=j
 ·subst e; simp [hj]
 ·have e2:(i == j)=false:=by simpa using e
  rw [e2]; simp [e]
theorem Xf7 (s:List UInt8) (fr:List Bool) (kind:Int) (own:UInt8) (many:Bool):∀ k,k<=s.length+1->∀ j,j<=s.length->(iter (X54 s fr kind own many) (List.replicate (s.length+1) false) k).getD j false=(decide (j<k) && pj s fr kind own many j)
 | 0,_,j,_=>by rw [iter,X5s]; simp
 | k+1,hk,j,hj=>by
  have ih:=Xf7 s fr kind own many k (by omega);have hl:=X2o s fr kind own many (List.replicate (s.length+1) false) k;rw [Y25] at hl;rw [iter,X54];generalize iter (X54 s fr kind own many) (List.replicate (s.length+1) false) k=o at ih hl;have h1:∀ j,j<=s.length->(Xqg fr many o k).getD j false=bif k == j then (many && fr.getD k false) else o.getD j false:=fun j hj=>by
   unfold Xqg;rw [Yf];cases hc:many && fr.getD k false with
   | true=>simp only [cond_true]; rw [X8c _ _ _ _ (by omega)]
   | false =>
    simp only [cond_false]
    by_cases e:k=j
    ·subst e; rw [ih k hj]; simp
    ·simp [e]
  have hl1:=X6k fr many o k;generalize Xqg fr many o k=o1 at h1 hl1;have hne:∀ j,k≠j->(k == j)=false:=fun j e=>by simpa using e
  have hrest:∀ j,j<=s.length->k≠j->(Xqh s fr kind own many o1 k).getD j false=o.getD j false:=fun j hj e=>by
   unfold Xqh;generalize (decide (0<(k:Int)) && _)=c;cases c
   ·simp only [cond_false]; rw [h1 j hj,hne j e]; rfl
   ·simp only [cond_true]; rw [X8c _ _ _ _ (by omega),h1 j hj,Yf,hne j e]; rfl
  by_cases e:k=j
  ·subst e;have hself:(Xqh s fr kind own many o1 k).getD k false=(o1.getD k false || (decide (0<(k:Int)) && (takes kind own (at_ s ((k:Int) - 1)) && (fr.getD ((k:Int) - 1).toNat false || (many && o1.getD ((k:Int) - 1).toNat false))))):=by
    unfold Xqh;rw [Yf];generalize (decide (0<(k:Int)) && _)=c;cases c
    ·simp
    ·simp only [cond_true]; rw [X8c _ _ _ _ (by omega)]; simp
   rw [hself,h1 k hj];cases k with
   | zero=>simp [pj]
   | succ m =>
    have e1:(((m+1:Nat):Int) - 1)=(m:Int):=by omega
    rw [e1,Yf,h1 m (by omega),ih m (by omega)];have hp:(0:Int)<((m+1:Nat):Int):=by omega
    rw [hne m (by omega)];simp [pj]
  ·rw [hrest j hj e,ih j hj]
   have:decide (j<k+1)=decide (j<k):=by simp; omega
   rw [this]
theorem Xo8 {s:List UInt8} {fr:List Bool} {kind k c:Int} {own:UInt8} {many:Bool} (hu:∀ x,takes kind own x=X1n k c x) (hm:many=true ↔ (k=2\/k=3)):EndsAt s fr (Xm0 k c) (ends s fr kind own many):=by
 refine ⟨Xh6 s fr kind own many,fun j hj=>?_⟩;unfold ends;rw [Xf7 s fr kind own many (s.length+1) (Yq _) j hj];have hd:decide (j<s.length+1)=true:=by simp; omega
 rw [hd,Y2n];cases many with
 | true =>
  have hk:=hm.1 rfl;unfold Xm0;simp only [hk,if_true]
  induction j with
  | zero =>
   simp only [pj,Y2n]
   constructor
   ·intro h; exact ⟨0,Yq _,h,by rw [X5z]; simp⟩
   ·rintro ⟨i,h1,h2,_⟩;obtain rfl:i=0:=by omega
    exact h2
  | succ j ih =>
   have ih:pj s fr kind own true j=true ↔ ∃ i,i<=j/\fr.getD i false=true/\∀ x,x∈seg s i j->X1n k c x=true:=ih (by omega) (by simp; omega);rw [pj,Y1j,Yn,Yn,Y1j,Yn,ih,hu];constructor
   ·rintro (⟨_,h⟩ | ⟨h1,h2 | ⟨_,i,h3,h4,h5⟩⟩)
    ·exact ⟨j+1,Yq _,h,by rw [X5z]; simp⟩
    ·refine ⟨j,by omega,h2,?_⟩;rw [X7o s (Yq _) (by omega),X5z];simpa using h1
    ·refine ⟨i,by omega,h4,?_⟩;rw [X7o s h3 (by omega)];intro x hx;rcases Y12.1 hx with hx | hx
     ·exact h5 x hx
     ·simp at hx; subst hx; exact h1
   ·rintro ⟨i,h1,h2,h3⟩
    by_cases e:i=j+1
    ·subst e; exact .inl ⟨rfl,h2⟩
    ·rw [X7o s (by omega) (by omega)] at h3;exact .inr ⟨h3 _ (by simp),.inr ⟨rfl,i,by omega,h2,fun x hx=>h3 x (by simp [hx])⟩⟩
 | false =>
  have hk:¬ (k=2\/k=3):=fun h=>by have:=hm.2 h; cases this
  unfold Xm0;simp only [hk,if_false]
  cases j with
  | zero =>
   simp only [pj,Y5s]
   constructor
   ·intro h; cases h
   ·rintro ⟨i,h1,h2,x,h3,_⟩
    have:=Xat s h1 hj
    rw [h3] at this;simp at this
  | succ j =>
   rw [pj];simp only [Y5s,Bool.or_false,Y3m,Yn,hu]
   constructor
   ·rintro ⟨h1,h2⟩;exact ⟨j,by omega,h2,at_ s (j:Int),by rw [X7o s (Yq _) (by omega),X5z]; rfl,h1⟩
   ·rintro ⟨i,h1,h2,x,h3,h4⟩;have hl:=Xat s h1 hj;rw [h3] at hl;obtain rfl:i=j:=by simp at hl; omega
    rw [X7o s (Yq _) (by omega),X5z] at h3;simp at h3
    subst h3;exact ⟨h4,h2⟩
end Pat
