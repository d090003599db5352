/- Part 4 of what the proof stands on: W16c, W16d, W16e, W16f, W18l, W18m, W18n, W17c, PatN, W17d, PatT, PatU, PatV, PatW, PatX, PatY, PatR, PatQ, PatL, W18o, W18q, W18r, W21c, W21d. -/
import Derived.Test.YtfibbpgikjggfaaGreatDoorM2TC
import Derived.DataElems
import Derived.Lib.LazyBuf
set_option linter.unusedVariables false
set_option linter.unusedSimpArgs false
namespace Go.Proofs.YtfibbpgikjggfaaGreatDoor
open Gk Rk
structure Cx (I:Im) (l:List Nat) (p:Addr):Prop where
 ex:∃ a c,At I p [.slice a l.length c]∧RS I a 1 l.length (l.map F64)
 small:∀ v∈l,v<18446744073709551616
def kx (l:List Nat) (x:Int):Nat:=keyN (l.getD x.toNat 0)
theorem Cx.mono {I J:Im} {l:List Nat} {p:Addr} (h:Cx I l p) (hl:Le I J):Cx J l p:=by
 obtain ⟨⟨a,c,h1,h2⟩,h3⟩:=h
 exact ⟨⟨a,c,h1.mono hl,h2.mono hl⟩,h3⟩
theorem Xb6 {l:List Nat} (h:∀ v∈l,v<18446744073709551616) (i:Nat):l.getD i 0<18446744073709551616:=by
 by_cases hi:i<l.length
 ·refine h _ ?_
  rw [Yd,Y7 hi]
  exact Y2k hi
 ·rw [Yd,Y1s (by omega)]; decide
abbrev CF (p:Addr):Value:=.func (.func 191) #[] [.pointer (some p)].toArray
theorem X9x {l:List Nat} {p:Addr} {I:Im} (h:Cx I l p) (x y:Int) (h0:0≤x) (h1:x<(l.length:Int)) (g0:0≤y) (g1:y<(l.length:Int)) (B w:World) (As:List X9) (hS:Sat B w I As) :
  Calls Tryz.prog 191 [I64 x,I64 y,.pointer (some p)].toArray w (Ret fun v w'=>v=I64 (Srt.cmpv (kx l) x y)∧Sat B w' I As):=by
 obtain ⟨sa,sc,hp,hr⟩:=h.ex
 obtain ⟨pa,rfl,ha⟩:=hr.2 (by omega)
 refine calls Xi9 rfl Tryz.ntmps191 rfl (.seq (.q 1 rfl (.seq (.quiet (by kernel_rfl) (by kernel_rfl) hS (.val (fun w hS=>.ldI (.of rfl) hS hp Tryz.isAgg167 rfl) rfl (.val (fun w hS=>(.move (.of rfl))) rfl (.val (fun w hS=>(.indexAddrI (.of rfl) (.of rfl) (by omega) (by omega) Xaf Qs27)) rfl (.val (fun w hS=>.ldEI F64 l 0 (i:=x) (.of rfl) hS ha rfl Tryz.isAgg27 h0 h1) rfl (.call Tryz.func193 rfl (X0 (.of rfl) X4) rfl (fun w hS=>X18 (Xix _ (Xb6 h.small (x).toNat) w) hS) (.val (fun w hS=>.ldI (.of rfl) hS hp Tryz.isAgg167 rfl) rfl (.val (fun w hS=>(.move (.of rfl))) rfl (.val (fun w hS=>(.indexAddrI (.of rfl) (.of rfl) (by omega) (by omega) Xaf Qs27)) rfl (.val (fun w hS=>.ldEI F64 l 0 (i:=y) (.of rfl) hS ha rfl Tryz.isAgg27 g0 g1) rfl (.call Tryz.func193 rfl (X0 (.of rfl) X4) rfl (fun w hS=>X18 (Xix _ (Xb6 h.small (y).toNat) w) hS) (.call Tryz.func192 rfl (X0 (.of rfl) (X0 (.of rfl) X4)) rfl (fun w hS=>X18 (Xcy _ _ w) hS) (.val (fun w hS=>(.assign (.of rfl))) rfl (.nil ?_)))))))))))))))))
 clear hS; intro w hS
 refine .ret (Xe Tryz.results191 rfl ?_)
 refine ⟨_,rfl,?_,hS⟩
 unfold Srt.cmpv kx
 simp only [Int.ofNat_lt]
theorem Xaj (U X M Y C:List Int) (hl:X.length=Y.length) (cv:Value) (b0 n c:Nat) (r:List Value) (hn:((U.length+(X.length+(M.length+Y.length)):Nat):Int)≤n) (hb:(U.length+(X.length+(M.length+(Y.length+C.length))))≤1000000) (B w:World) (I:Im) (As:List X9) (hS:Sat B w I (blk b0 ((U ++ (X ++ (M ++ (Y ++ C)))).map I64 ++ r) 3::As)) :
  Calls Tryz.prog 253 [.slice (some (ad b0 0)) n c,I64 (U.length:Nat),I64 (U.length+Y.length+M.length:Nat),I64 (Y.length:Nat),cv].toArray w (Ret fun v w'=>v=.tuple #[]∧Sat B w' I (blk b0 ((U ++ (Y ++ (M ++ (X ++ C)))).map I64 ++ r) 3::As)):=by
 refine calls Xl6 rfl Tryz.ntmps253 rfl (.seq (.q 1 rfl (.block (.loop (σ:=Int×List Int×List Int×List Int×List Int) (fun ⟨i,X1,X2,Y1,Y2⟩=>[(0,.slice (some (ad b0 0)) n c),(1,I64 (U.length:Nat)),(2,I64 (U.length+Y.length+M.length:Nat)),(3,I64 (Y.length:Nat)),(10,I64 i)]) (fun ⟨i,X1,X2,Y1,Y2⟩ w=>i=(X1.length:Int)∧X1.length=Y1.length∧X1 ++ X2=X∧Y1 ++ Y2=Y∧Sat B w I (blk b0 ((U ++ (Y1 ++ (X2 ++ (M ++ (X1 ++ (Y2 ++ C)))))).map I64 ++ r) 3::As)) (fun ⟨i,X1,X2,Y1,Y2⟩=>Y2.length) (0,[],X,[],Y) ⟨rfl,rfl,rfl,rfl,rfl,trivial⟩ ⟨rfl,rfl,rfl,rfl,hS⟩ ?_))))
 rintro ⟨i,X1,X2,Y1,Y2⟩ w ⟨hi,hxy,hX,hY,hS⟩
 change WC _ _ _ _ [(0,.slice (some (ad b0 0)) n c),(1,I64 (U.length:Nat)),(2,I64 (U.length+Y.length+M.length:Nat)),(3,I64 (Y.length:Nat)),(10,I64 i)] w
 have hXl:X1.length+X2.length=X.length:=by rw [← hX,Y0]
 have hYl:Y1.length+Y2.length=Y.length:=by rw [← hY,Y0]
 obtain ⟨D,hD⟩:∃ D,D=U ++ (Y1 ++ (X2 ++ (M ++ (X1 ++ (Y2 ++ C))))):=⟨_,rfl⟩
 rw [← hD] at hS
 have hDl:D.length=U.length+(X.length+(M.length+(Y.length+C.length))):=by rw [hD]; simp only [Y0]; omega
 refine .seq (.seq (.q 3 rfl ?_))
 refine WC.cond rfl (fun hb13=>?_) (fun hb13=>?_)
 ·
  have hc13:=hb13; try simp only [Y5] at hc13
  refine .skip (.seq (.block (.drawn (fun w=>∃ R,Sat B w I (blk b0 ((D).map I64 ++ r) 3::R)) (fun j=>!([21,23].contains j)) (by kernel_rfl) ?_)))
  replace hS:=hS.drew; generalize w.drew=w at hS ⊢
  have hH:∃ R,Sat B w I (blk b0 ((D).map I64 ++ r) 3::R):=⟨_,(hS.pick 0 rfl)⟩
  refine .tp (i:=0) rfl (by kernel_rfl) (fun w=>(.move (.of rfl))) rfl (.tp (i:=1) rfl (by kernel_rfl) (fun w=>(.move (.of rfl))) rfl (.tp (i:=2) rfl (by kernel_rfl) (fun w=>(.move (.of rfl))) rfl (.tp (i:=3) rfl (by kernel_rfl) (fun w=>(.add (.of rfl) (.of rfl) ⟨by omega,by omega⟩)) rfl (.tp (i:=4) rfl (by kernel_rfl) (fun w=>(.move (.of rfl))) rfl (.tp (i:=5) rfl (by kernel_rfl) (fun w=>(.move (.of rfl))) rfl (.tp (i:=6) rfl (by kernel_rfl) (fun w=>(.move (.of rfl))) rfl (.tp (i:=7) rfl (by kernel_rfl) (fun w=>(.add (.of rfl) (.of rfl) ⟨by omega,by omega⟩)) rfl (.tp (i:=8) rfl (by kernel_rfl) (fun w=>(.move (.of rfl))) rfl (.tp (i:=9) rfl (by kernel_rfl) (fun w=>(.move (.of rfl))) rfl (.tp (i:=10) rfl (by kernel_rfl) (fun w=>(.move (.of rfl))) rfl (.tp (i:=11) rfl (by kernel_rfl) (fun w=>(.add (.of rfl) (.of rfl) ⟨by omega,by omega⟩)) rfl (.tp (i:=12) rfl (by kernel_rfl) (fun w=>(.indexAddr (.of rfl) (.of rfl) (by omega) (by omega) Xm Qs3)) rfl (.tk (i:=13) rfl (by kernel_rfl) hH (fun w ⟨R,hS⟩=>.ldE I64 D 0 r (i:=((U.length+Y.length+M.length:Nat):Int)+i) (.of rfl) hS (k:=0) rfl rfl Qg3 (by omega) (by omega)) rfl (.tp (i:=14) rfl (by kernel_rfl) (fun w=>(.move (.of rfl))) rfl (.tp (i:=15) rfl (by kernel_rfl) (fun w=>(.move (.of rfl))) rfl (.tp (i:=16) rfl (by kernel_rfl) (fun w=>(.move (.of rfl))) rfl (.tp (i:=17) rfl (by kernel_rfl) (fun w=>(.add (.of rfl) (.of rfl) ⟨by omega,by omega⟩)) rfl (.tp (i:=18) rfl (by kernel_rfl) (fun w=>(.indexAddr (.of rfl) (.of rfl) (by omega) (by omega) Xm Qs3)) rfl (.tk (i:=19) rfl (by kernel_rfl) hH (fun w ⟨R,hS⟩=>.ldE I64 D 0 r (i:=((U.length:Nat):Int)+i) (.of rfl) hS (k:=0) rfl rfl Qg3 (by omega) (by omega)) rfl (.tp (i:=20) rfl (by kernel_rfl) (fun w=>(.indexAddr (.of rfl) (.of rfl) (by omega) (by omega) Xm Qs3)) rfl ?_))))))))))))))))))))
  refine WD.branch [21] (by kernel_rfl) rfl (WO.cons rfl ?_ (WO.nil))
  refine WL.stE I64 _ r hS (k:=0) rfl (.of rfl) (.of rfl) rfl rfl Qs3 (by omega) (by (try rw [Y1x]); omega) ?_
  clear hS; intro w hS; dsimp only [List.set] at hS
  refine .nil ?_
  refine And.intro (by intro h; cases h) ?_
  refine .tp (i:=22) rfl (by kernel_rfl) (fun w=>(.indexAddr (.of rfl) (.of rfl) (by omega) (by omega) Xm Qs3)) rfl ?_
  refine WD.branch [23] (by kernel_rfl) rfl (WO.cons rfl ?_ (WO.nil))
  refine WL.stE I64 _ r hS (k:=0) rfl (.of rfl) (.of rfl) rfl rfl Qs3 (by omega) (by (try rw [Y1x]); omega) ?_
  clear hS; intro w hS; dsimp only [List.set] at hS
  refine .nil ?_
  refine And.intro (by intro h; cases h) ?_
  refine .done (by kernel_rfl) (.region (.run 3 rfl ⟨⟨by omega,by omega⟩,trivial⟩ (.nil ?_)))
  obtain ⟨p,X3,rfl⟩:∃ p X3,X2=p::X3:=by cases X2 with | nil=>simp at hXl; omega | cons p X3=>exact ⟨p,X3,rfl⟩
  obtain ⟨q,Y3,rfl⟩:∃ q Y3,Y2=q::Y3:=by cases Y2 with | nil=>simp at hYl; omega | cons q Y3=>exact ⟨q,Y3,rfl⟩
  have e:=Srt.swp_eq (U ++ Y1) (X3 ++ (M ++ X1)) (Y3 ++ C) p q
  have e1:D=(U ++ Y1) ++ p::((X3 ++ (M ++ X1)) ++ q::(Y3 ++ C)):=by rw [hD]; simp only [Y8,Yu]
  simp only [Y6] at hXl hYl
  rw [← e1,show (U ++ Y1).length=(((U.length:Nat):Int)+i).toNat by rw [Y0]; omega,show (((U.length:Nat):Int)+i).toNat+1+(X3 ++ (M ++ X1)).length=(((U.length+Y.length+M.length:Nat):Int)+i).toNat by simp only [Y0]; omega] at e
  unfold Srt.swp at e
  rw [e] at hS
  refine ⟨(i+1,X1 ++ [p],X3,Y1 ++ [q],Y3),⟨rfl,rfl,rfl,rfl,rfl,trivial⟩,⟨by simp only [Y0,Y6,Yh]; omega,by simp only [Y0,Y6,Yh]; omega,by rw [← hX]; simp,by rw [← hY]; simp,?_⟩,by simp⟩
  have e2:(U ++ Y1) ++ q::((X3 ++ (M ++ X1)) ++ p::(Y3 ++ C))=U ++ ((Y1 ++ [q]) ++ (X3 ++ (M ++ ((X1 ++ [p]) ++ (Y3 ++ C))))):=by simp only [Y8,Yu,Yc]
  rw [← e2]; exact hS
 have hc13:=hb13; try simp only [Y5] at hc13
 refine .exit (X7d Tryz.results253 ?_)
 have hY2:Y2=[]:=Ye (by omega)
 have hX2:X2=[]:=Ye (by omega)
 subst hY2; subst hX2
 rw [Yg] at hX hY
 rw [hX,hY] at hD
 rw [hD] at hS
 exact ⟨_,rfl,rfl,hS⟩
theorem X3z (U X M Y C:List Int) (hl:X.length=Y.length) (cv:Value) (b0 n c:Nat) (r:List Value) (ia ib ic:Int) (ha:ia=U.length) (hib:ib=U.length+Y.length+M.length) (hic:ic=Y.length) (hn:((U.length+(X.length+(M.length+Y.length)):Nat):Int)≤n) (hb:(U.length+(X.length+(M.length+(Y.length+C.length))))≤1000000) (B w:World) (I:Im) (As:List X9) (hS:Sat B w I (blk b0 ((U ++ (X ++ (M ++ (Y ++ C)))).map I64 ++ r) 3::As)) :
  Calls Tryz.prog 253 [.slice (some (ad b0 0)) n c,I64 ia,I64 ib,I64 ic,cv].toArray w (Ret fun v w'=>v=.tuple #[]∧Sat B w' I (blk b0 ((U ++ (Y ++ (M ++ (X ++ C)))).map I64 ++ r) 3::As)):=by
 subst ha; subst hic
 obtain rfl:ib=((U.length+Y.length+M.length:Nat):Int):=by omega
 exact Xaj U X M Y C hl cv b0 n c r hn hb B w I As hS
end Go.Proofs.YtfibbpgikjggfaaGreatDoor
namespace Go.Proofs.YtfibbpgikjggfaaGreatDoor
open Gk Rk
set_option maxHeartbeats 400000 in
theorem Xoh {l:List Nat} {p:Addr} {I:Im} (hx:Cx I l p) (F R C:List Int) (hR:R.Pairwise (·<·)) (hin:∀ x∈R,0≤x∧x<(l.length:Int)) (b0 n c:Nat) (r:List Value) (ib:Int) (hib:ib=F.length+R.length) (hn:ib≤n) (hbb:F.length+R.length+C.length≤1000000) (B w:World) (As:List X9) (hS:Sat B w I (blk b0 ((F ++ (R ++ C)).map I64 ++ r) 3::As)) :
  Calls Tryz.prog 245 [.slice (some (ad b0 0)) n c,I64 (F.length:Nat),I64 ib,CF p].toArray w (Ret fun v w'=>v=.tuple #[]∧∃ M,M.Perm R∧Srt.So (kx l) M∧Sat B w' I (blk b0 ((F ++ (M ++ C)).map I64 ++ r) 3::As)):=by
 refine calls Xip rfl Tryz.ntmps245 rfl (.seq (.region (.run 3 rfl ⟨⟨by omega,by omega⟩,trivial⟩ (.nil (.block ?_)))))
 have hst:(F.length:Int)+1=max ((F.length:Int)+(R.take 1).length) (F.length+1)∧(R.take 1=[]→R.drop 1=[])∧Srt.So (kx l) (R.take 1)∧Srt.cross (R.take 1) (R.drop 1)∧(R.drop 1).Pairwise (·<·)∧(R.take 1 ++ R.drop 1).Perm R∧Sat B w I (blk b0 ((F ++ (R.take 1 ++ (R.drop 1 ++ C))).map I64 ++ r) 3::As):=by
  refine ⟨?_,?_,?_,?_,?_,by rw [Yw],?_⟩
  ·cases R <;> simp <;> omega
  ·intro h; cases R with
   | nil=>rfl
   | cons a R=>simp at h
  ·cases R with
   | nil=>exact .nil
   | cons a R=>simp
  ·cases R with
   | nil=>intro _ h; simp at h
   | cons a R=>intro u hu t ht; simp at hu ht; subst hu; exact (Y2n.1 hR).1 t ht
  ·exact hR.sublist (List.drop_sublist 1 R)
  ·have e:F ++ (R.take 1 ++ (R.drop 1 ++ C))=F ++ (R ++ C):=by rw [← Y8 (R.take 1),Yw]
   rw [e]; exact hS
 refine .loop (σ:=Int×List Int×List Int) (fun ⟨i,M,T⟩=>[(0,.slice (some (ad b0 0)) n c),(1,I64 (F.length:Nat)),(2,I64 ib),(3,CF p),(8,I64 i)]) (fun ⟨i,M,T⟩ w=>i=max ((F.length:Int)+M.length) (F.length+1)∧(M=[]→T=[])∧Srt.So (kx l) M∧Srt.cross M T∧T.Pairwise (·<·)∧(M ++ T).Perm R∧Sat B w I (blk b0 ((F ++ (M ++ (T ++ C))).map I64 ++ r) 3::As)) (fun ⟨i,M,T⟩=>T.length) ((F.length:Int)+1,R.take 1,R.drop 1) ⟨rfl,rfl,rfl,rfl,rfl,trivial⟩ hst ?_
 rintro ⟨i,M,T⟩ w ⟨hi,hMT,hM,hc,hT,hP,hS⟩
 change WC _ _ _ _ [(0,.slice (some (ad b0 0)) n c),(1,I64 (F.length:Nat)),(2,I64 ib),(3,CF p),(8,I64 i)] w
 have hPl:=hP.length_eq
 rw [Y0] at hPl
 refine .seq (.seq (.q 3 rfl ?_))
 refine WC.cond rfl (fun hb14=>?_) (fun hb14=>?_)
 ·
  have hc14:=hb14; try simp only [Y5] at hc14
  refine .skip (.seq (.block (.seq ?_)))
  have hMn:0<M.length:=by
   rcases Y1k M.length with h | h
   ·have h2:=hMT (Ye h); rw [h2] at hPl; simp at hPl; omega
   ·exact h
  obtain ⟨x,T,rfl⟩:=Srt.cons_of (U:=T) (by omega)
  simp only [Y6] at hPl
  refine .q 2 rfl (.block ?_)
  refine WC.loop (σ:=Int×List Int×List Int) (fun ⟨j,U1,U2⟩=>[(0,.slice (some (ad b0 0)) n c),(1,I64 (F.length:Nat)),(2,I64 ib),(3,CF p),(8,I64 i),(9,I64 j)]) (fun ⟨j,U1,U2⟩ w=>j=(F.length:Int)+U1.length∧Srt.So (kx l) (U1 ++ U2)∧(∀ u∈U2,Srt.bef (kx l) x u)∧(U1 ++ U2).Perm M∧Sat B w I (blk b0 ((F ++ (U1 ++ x::(U2 ++ (T ++ C)))).map I64 ++ r) 3::As)) (fun ⟨j,U1,U2⟩=>U1.length) (i,M,[]) ⟨rfl,rfl,rfl,rfl,rfl,rfl,trivial⟩ ⟨by (try dsimp only); omega,by rw [Yg]; exact hM,(fun _ h=>by cases h),by rw [Yg],hS⟩ ?_
  rintro ⟨j,U1,U2⟩ w ⟨hj,hs,hb2,hp2,hS⟩
  change WC _ _ _ _ [(0,.slice (some (ad b0 0)) n c),(1,I64 (F.length:Nat)),(2,I64 ib),(3,CF p),(8,I64 i),(9,I64 j)] w
  obtain ⟨D,hD⟩:∃ D,D=F ++ (U1 ++ x::(U2 ++ (T ++ C))):=⟨_,rfl⟩
  rw [← hD] at hS
  have hp3:=hp2.length_eq
  rw [Y0] at hp3
  have hDl:D.length=F.length+(U1.length+1+U2.length+(T.length+C.length)):=by rw [hD]; simp only [Y0,Y6]; omega
  have hinR:∀ v∈U1 ++ x::U2,0≤v∧v<(l.length:Int):=fun v hv=>by
   refine hin v (hP.mem_iff.1 ?_)
   rcases Y12.1 hv with h | h
   ·exact Y1m _ (hp2.mem_iff.1 (Y1m _ h))
   ·rcases Y17.1 h with rfl | h
    ·exact Y1p _ Y2o
    ·exact Y1m _ (hp2.mem_iff.1 (Y1p _ h))
  have hin2:∀ q:Nat,F.length≤q→q<F.length+(U1.length+1+U2.length)→0≤D.getD q 0∧D.getD q 0<(l.length:Int):=fun q h1 h2=>by
   refine hinR _ ?_
   have e:D=F ++ ((U1 ++ x::U2) ++ (T ++ C)):=by rw [hD]; simp only [Y8,Yu]
   rw [e]
   exact Srt.get_mid h1 (by simp only [Y0,Y6]; omega)
  have hx1:D.getD j.toNat 0=x:=by
   have:=Srt.at_app (F ++ U1) (U2 ++ (T ++ C)) x
   rw [show (F ++ U1).length=j.toNat by rw [Y0]; omega] at this
   rw [hD,← Y8]
   exact this
  have hlt:∀ u∈U1 ++ U2,u<x:=fun u hu=>hc u (hp2.mem_iff.1 hu) x Y2o
  refine .seq (.seq (.quiet (by kernel_rfl) (by kernel_rfl) hS (.val (fun w hS=>(.move (.of rfl))) rfl (.val (fun w hS=>(.move (.of rfl))) rfl (.val (fun w hS=>(.gtr (.of rfl) (.of rfl))) rfl (.val (fun w hS=>(.move (.of rfl))) rfl (.gval rfl rfl rfl (fun hg1 w hS=>(.move (.of rfl))) rfl (.gval rfl rfl rfl (fun hg1 w hS=>(.move (.of rfl))) rfl (.gval rfl rfl rfl (fun hg1 w hS=>(.move (.of rfl))) rfl ?_)))))))))
  refine WQ.gval rfl rfl rfl (fun hg1 w hS=>(.indexAddr (.gd hg1 rfl) (.gd hg1 rfl) (by (try simp only [Y5] at hg1); omega) (by (try simp only [Y5] at hg1); omega) Xm Qs3)) rfl ?_
  refine WQ.gval rfl rfl rfl (fun hg1 w hS=>.ldE I64 D 0 r (i:=j) (.gd hg1 rfl) hS (k:=0) rfl rfl Qg3 (by (try simp only [Y5] at hg1); omega) (by (try simp only [Y5] at hg1); omega)) rfl ?_
  refine .gval rfl rfl rfl (fun hg1 w hS=>(.move (.of rfl))) rfl (.gval rfl rfl rfl (fun hg1 w hS=>(.move (.of rfl))) rfl (.gval rfl rfl rfl (fun hg1 w hS=>(.sub (.gd hg1 rfl) (.of rfl) ⟨by omega,by omega⟩)) rfl ?_))
  refine WQ.gval rfl rfl rfl (fun hg1 w hS=>(.indexAddr (.gd hg1 rfl) (.gd hg1 rfl) (by (try simp only [Y5] at hg1); omega) (by (try simp only [Y5] at hg1); omega) Xm Qs3)) rfl ?_
  refine WQ.gval rfl rfl rfl (fun hg1 w hS=>.ldE I64 D 0 r (i:=j - 1) (.gd hg1 rfl) hS (k:=0) rfl rfl Qg3 (by (try simp only [Y5] at hg1); omega) (by (try simp only [Y5] at hg1); omega)) rfl ?_
  refine WQ.gvcall rfl rfl rfl Xi9 rfl (fun hg1=>.gd hg1 rfl) (fun hg1=>X0 (.gd hg1 rfl) (X0 (.gd hg1 rfl) X4)) rfl (fun hg1 w hS=>by have hj1:=hin2 j.toNat (by (try simp only [Y5] at hg1); omega) (by (try simp only [Y5] at hg1); omega); have hj2:=hin2 (j - 1).toNat (by (try simp only [Y5] at hg1); omega) (by (try simp only [Y5] at hg1); omega); exact X9x hx _ _ hj1.1 hj1.2 hj2.1 hj2.2 B w _ hS) ?_
  refine .gval rfl rfl rfl (fun hg1 w hS=>(.lss (.gd hg1 rfl) (.of rfl))) rfl (.val (fun w hS=>(.pand (.of rfl) (.of rfl) (.of rfl))) rfl (.nil ?_))
  clear hS; intro w hS
  refine WC.cond rfl (fun hb34=>?_) (fun hb34=>?_)
  ·
   have hc34:=hb34; try simp only [Y5] at hc34
   refine .skip (.seq (.block (.drawn (fun w=>∃ R,Sat B w I (blk b0 ((D).map I64 ++ r) 3::R)) (fun j=>!([15,17].contains j)) (by kernel_rfl) ?_)))
   replace hS:=hS.drew; generalize w.drew=w at hS ⊢
   have hH:∃ R,Sat B w I (blk b0 ((D).map I64 ++ r) 3::R):=⟨_,(hS.pick 0 rfl)⟩
   refine .tp (i:=0) rfl (by kernel_rfl) (fun w=>(.move (.of rfl))) rfl (.tp (i:=1) rfl (by kernel_rfl) (fun w=>(.move (.of rfl))) rfl (.tp (i:=2) rfl (by kernel_rfl) (fun w=>(.move (.of rfl))) rfl (.tp (i:=3) rfl (by kernel_rfl) (fun w=>(.move (.of rfl))) rfl (.tp (i:=4) rfl (by kernel_rfl) (fun w=>(.sub (.of rfl) (.of rfl) ⟨by omega,by omega⟩)) rfl (.tp (i:=5) rfl (by kernel_rfl) (fun w=>(.move (.of rfl))) rfl (.tp (i:=6) rfl (by kernel_rfl) (fun w=>(.move (.of rfl))) rfl (.tp (i:=7) rfl (by kernel_rfl) (fun w=>(.sub (.of rfl) (.of rfl) ⟨by omega,by omega⟩)) rfl (.tp (i:=8) rfl (by kernel_rfl) (fun w=>(.indexAddr (.of rfl) (.of rfl) (by omega) (by omega) Xm Qs3)) rfl (.tk (i:=9) rfl (by kernel_rfl) hH (fun w ⟨R,hS⟩=>.ldE I64 D 0 r (i:=j - 1) (.of rfl) hS (k:=0) rfl rfl Qg3 (by omega) (by omega)) rfl (.tp (i:=10) rfl (by kernel_rfl) (fun w=>(.move (.of rfl))) rfl (.tp (i:=11) rfl (by kernel_rfl) (fun w=>(.move (.of rfl))) rfl (.tp (i:=12) rfl (by kernel_rfl) (fun w=>(.indexAddr (.of rfl) (.of rfl) (by omega) (by omega) Xm Qs3)) rfl (.tk (i:=13) rfl (by kernel_rfl) hH (fun w ⟨R,hS⟩=>.ldE I64 D 0 r (i:=j) (.of rfl) hS (k:=0) rfl rfl Qg3 (by omega) (by omega)) rfl (.tp (i:=14) rfl (by kernel_rfl) (fun w=>(.indexAddr (.of rfl) (.of rfl) (by omega) (by omega) Xm Qs3)) rfl ?_))))))))))))))
   refine WD.branch [15] (by kernel_rfl) rfl (WO.cons rfl ?_ (WO.nil))
   refine WL.stE I64 _ r hS (k:=0) rfl (.of rfl) (.of rfl) rfl rfl Qs3 (by omega) (by (try rw [Y1x]); omega) ?_
   clear hS; intro w hS; dsimp only [List.set] at hS
   refine .nil ?_
   refine And.intro (by intro h; cases h) ?_
   refine .tp (i:=16) rfl (by kernel_rfl) (fun w=>(.indexAddr (.of rfl) (.of rfl) (by omega) (by omega) Xm Qs3)) rfl ?_
   refine WD.branch [17] (by kernel_rfl) rfl (WO.cons rfl ?_ (WO.nil))
   refine WL.stE I64 _ r hS (k:=0) rfl (.of rfl) (.of rfl) rfl rfl Qs3 (by omega) (by (try rw [Y1x]); omega) ?_
   clear hS; intro w hS; dsimp only [List.set] at hS
   refine .nil ?_
   refine And.intro (by intro h; cases h) ?_
   refine .done (by kernel_rfl) (.region (.run 3 rfl ⟨⟨by omega,by omega⟩,trivial⟩ (.nil ?_)))
   obtain ⟨U3,q,rfl⟩:=Srt.concat_of (U:=U1) (by omega)
   have e1:D=(F ++ U3) ++ q::x::(U2 ++ (T ++ C)):=by rw [hD]; simp only [Y8,Yu,Yc]
   have hq:D.getD (j - 1).toNat 0=q:=by
    have:=Srt.at_app (F ++ U3) (x::(U2 ++ (T ++ C))) q
    rw [show (F ++ U3).length=(j - 1).toNat by rw [Y0]; simp only [Y0,Y6,Yh] at hj; omega] at this
    rw [e1]; exact this
   have hbq:Srt.bef (kx l) x q:=by
    have h:=Srt.cmpv_neg.1 hc34.2
    rw [hx1,hq] at h
    exact (Srt.bef_later (hlt q (by simp))).2 h
   have e:=Srt.swp_adj (F ++ U3) (U2 ++ (T ++ C)) q x
   rw [← e1,show (F ++ U3).length=(j - 1).toNat by rw [Y0]; simp only [Y0,Y6,Yh] at hj; omega,show (j - 1).toNat+1=j.toNat by omega,Srt.swp_comm (by omega)] at e
   unfold Srt.swp at e
   rw [e] at hS
   refine ⟨(j - 1,U3,q::U2),⟨rfl,rfl,rfl,rfl,rfl,rfl,trivial⟩,⟨by simp only [Y0,Y6,Yh] at hj; (try dsimp only); omega,by simpa using hs,?_,by simpa using hp2,?_⟩,by simp⟩
   ·intro u hu
    rcases Y17.1 hu with rfl | hu
    ·exact hbq
    ·exact hb2 u hu
   ·rw [Y8] at hS; exact hS
  have hc34:=hb34; try simp only [Y5] at hc34
  refine .exit (.region (.run 3 rfl ⟨⟨by omega,by omega⟩,trivial⟩ (.nil ?_)))
  have hLQ:∀ u∈U1,Srt.bef (kx l) u x:=by
   intro u hu
   obtain ⟨U3,q,rfl⟩:=Srt.concat_of (U:=U1) (Y4f hu)
   have e1:D=(F ++ U3) ++ q::x::(U2 ++ (T ++ C)):=by rw [hD]; simp only [Y8,Yu,Yc]
   have hq:D.getD (j - 1).toNat 0=q:=by
    have:=Srt.at_app (F ++ U3) (x::(U2 ++ (T ++ C))) q
    rw [show (F ++ U3).length=(j - 1).toNat by rw [Y0]; simp only [Y0,Y6,Yh] at hj; omega] at this
    rw [e1]; exact this
   simp only [Y0,Y6,Yh] at hj
   have h34:¬ (Srt.cmpv (kx l) (D.getD j.toNat 0) (D.getD (j - 1).toNat 0)<0):=by
    rcases hc34 with h | h
    ·omega
    ·omega
   rw [Srt.cmpv_neg,hx1,hq] at h34
   exact Srt.so_last (Y1n.1 hs).1 (Srt.not_bef_later (hlt q (by simp)) h34) u hu
  have hU:Srt.So (kx l) (U1 ++ x::U2):=Srt.so_insert hs (hLQ) hb2
  refine ⟨(i+1,U1 ++ x::U2,T),⟨rfl,rfl,rfl,rfl,rfl,trivial⟩,⟨by simp only [Y0,Y6]; have:=hp2.length_eq; rw [Y0] at this; omega,fun h=>by simp at h,hU,?_,(Y2n.1 hT).2,?_,?_⟩,by simp⟩
  ·intro u hu t ht
   have h1:u∈U1 ++ U2∨u=x:=by
    rcases Y12.1 hu with h | h
    ·exact .inl (Y1m _ h)
    ·rcases Y17.1 h with h | h
     ·exact .inr h
     ·exact .inl (Y1p _ h)
   rcases h1 with h1 | rfl
   ·exact hc u (hp2.mem_iff.1 h1) t (Y2a _ ht)
   ·exact (Y2n.1 hT).1 t ht
  ·refine List.Perm.trans ?_ hP
   refine List.Perm.trans (List.Perm.append_right T Y4e) ?_
   rw [Yu]
   refine List.Perm.trans (List.Perm.cons x (hp2.append_right T)) ?_
   exact Y4e.symm
  ·rw [hD] at hS
   have e:F ++ (U1 ++ x::(U2 ++ (T ++ C)))=F ++ ((U1 ++ x::U2) ++ (T ++ C)):=by simp only [Y8,Yu]
   rw [e] at hS; exact hS
 have hc14:=hb14; try simp only [Y5] at hc14
 refine .exit (X7d Tryz.results245 ?_)
 have hT0:T=[]:=by
  refine Ye ?_
  rcases Y1k M.length with h | h
  ·have:=hMT (Ye h); rw [this]; rfl
  ·omega
 subst hT0
 rw [Yg] at hP
 exact ⟨_,rfl,rfl,M,hP,hM,by simpa using hS⟩
theorem Xn1 {l:List Nat} {p:Addr} {I:Im} (hx:Cx I l p) (F R C:List Int) (hR:R.Pairwise (·<·)) (hin:∀ x∈R,0≤x∧x<(l.length:Int)) (b0 n c:Nat) (r:List Value) (ia ib:Int) (hia:ia=F.length) (hib:ib=F.length+R.length) (hn:ib≤n) (hbb:F.length+R.length+C.length≤1000000) (B w:World) (As:List X9) (hS:Sat B w I (blk b0 ((F ++ (R ++ C)).map I64 ++ r) 3::As)) :
  Calls Tryz.prog 245 [.slice (some (ad b0 0)) n c,I64 ia,I64 ib,CF p].toArray w (Ret fun v w'=>v=.tuple #[]∧∃ M,M.Perm R∧Srt.So (kx l) M∧Sat B w' I (blk b0 ((F ++ (M ++ C)).map I64 ++ r) 3::As)):=by
 subst hia
 exact Xoh hx F R C hR hin b0 n c r ib hib hn hbb B w As hS
end Go.Proofs.YtfibbpgikjggfaaGreatDoor
namespace Go.Proofs.YtfibbpgikjggfaaGreatDoor
open Gk Rk
theorem Xp9 (F X Y C:List Int) (hX0:0<X.length) (hY0:0<Y.length) (cv:Value) (b0 n c:Nat) (r:List Value) (ia im ib:Int) (hia:ia=F.length) (him:im=F.length+X.length) (hib:ib=F.length+X.length+Y.length) (hn:ib≤n) (hbb:F.length+(X.length+(Y.length+C.length))≤1000000) (B w:World) (I:Im) (As:List X9) (hS:Sat B w I (blk b0 ((F ++ (X ++ (Y ++ C))).map I64 ++ r) 3::As)) :
  Calls Tryz.prog 252 [.slice (some (ad b0 0)) n c,I64 ia,I64 im,I64 ib,cv].toArray w (Ret fun v w'=>v=.tuple #[]∧Sat B w' I (blk b0 ((F ++ (Y ++ (X ++ C))).map I64 ++ r) 3::As)):=by
 refine calls Tryz.func252 rfl Tryz.ntmps252 rfl (.seq (.region (.run 4 rfl ⟨⟨by omega,by omega⟩,trivial⟩ (.nil (.seq (.region (.run 4 rfl ⟨⟨by omega,by omega⟩,trivial⟩ (.nil (.seq (.block ?_))))))))))
 refine WC.loop (σ:=Int×Int×List Int×List Int×List Int×List Int) (fun ⟨i,j,F1,X1,Y1,C1⟩=>[(0,.slice (some (ad b0 0)) n c),(2,I64 im),(4,cv),(10,I64 i),(11,I64 j)]) (fun ⟨i,j,F1,X1,Y1,C1⟩ w=>F1 ++ (Y1 ++ (X1 ++ C1))=F ++ (Y ++ (X ++ C))∧i=X1.length∧j=Y1.length∧0<X1.length∧0<Y1.length∧F1.length+X1.length=F.length+X.length∧X1.length+Y1.length≤X.length+Y.length∧Y1.length≤Y.length∧Sat B w I (blk b0 ((F1 ++ (X1 ++ (Y1 ++ C1))).map I64 ++ r) 3::As)) (fun ⟨i,j,F1,X1,Y1,C1⟩=>X1.length+Y1.length) (im - ia,ib - im,F,X,Y,C) ⟨rfl,rfl,rfl,rfl,rfl,trivial⟩ ⟨rfl,by (try dsimp only); omega,by (try dsimp only); omega,hX0,hY0,rfl,Ys _,Ys _,hS⟩ ?_
 rintro ⟨i,j,F1,X1,Y1,C1⟩ w ⟨hG,hi,hj,hx0,hy0,hFX,hXY,hYY,hS⟩
 change WC _ _ _ _ [(0,.slice (some (ad b0 0)) n c),(2,I64 im),(4,cv),(10,I64 i),(11,I64 j)] w
 have hGl:=congrArg List.length hG
 simp only [Y0] at hGl
 refine .seq (.seq (.q 3 rfl ?_))
 refine WC.cond rfl (fun hb20=>?_) (fun hb20=>?_)
 ·
  have hc20:=hb20; try simp only [Y5] at hc20
  refine .skip (.block (.seq (.q 3 rfl ?_)))
  refine WC.cond rfl (fun hb23=>?_) (fun hb23=>?_)
  ·
   have hc23:=hb23; try simp only [Y5] at hc23
   refine .seq (.region (.run 7 rfl ⟨⟨by omega,by omega⟩,trivial⟩ ?_))
   obtain ⟨Xa,Xb,rfl,hXa⟩:∃ Xa Xb,X1=Xa ++ Xb∧Xa.length=Y1.length:=⟨X1.take Y1.length,X1.drop Y1.length,(Yw _ _).symm,by rw [Yq]; omega⟩
   simp only [Y0] at hi hx0 hFX hXY hGl
   rw [Y8] at hS
   refine .call Xl6 rfl (X0 (.of rfl) (X0 (.of rfl) (X0 (.of rfl) (X0 (.of rfl) (X0 (.of rfl) X4))))) rfl (X3z F1 Xa Xb Y1 C1 (by omega) cv b0 n c r _ _ _ (by omega) (by omega) (by omega) (by omega) (by omega) B w I As hS) ?_
   clear hS
   rintro _ w ⟨rfl,hS⟩
   refine .nil (.region (.run 4 rfl ⟨⟨by omega,by omega⟩,trivial⟩ (.nil ?_)))
   refine ⟨(i - j,j,F1 ++ Y1,Xb,Xa,C1),⟨rfl,rfl,rfl,rfl,rfl,trivial⟩,⟨by rw [← hG]; simp only [Y8],by (try dsimp only); omega,by (try dsimp only); omega,by omega,by omega,by simp only [Y0]; omega,by omega,by omega,?_⟩,by (try dsimp only); simp only [Y0]; omega⟩
   rw [Y8]; exact hS
  have hc23:=hb23; try simp only [Y5] at hc23
  refine .seq (.region (.run 11 rfl ⟨⟨by omega,by omega⟩,⟨by omega,by omega⟩,⟨by omega,by omega⟩,trivial⟩ ?_))
  obtain ⟨Ya,Yb,rfl,hYb⟩:∃ Ya Yb,Y1=Ya ++ Yb∧Yb.length=X1.length:=⟨Y1.take (Y1.length - X1.length),Y1.drop (Y1.length - X1.length),(Yw _ _).symm,by rw [Yj]; omega⟩
  simp only [Y0] at hj hy0 hXY hGl hYY
  rw [Y8 Ya] at hS
  refine .call Xl6 rfl (X0 (.of rfl) (X0 (.of rfl) (X0 (.of rfl) (X0 (.of rfl) (X0 (.of rfl) X4))))) rfl (X3z F1 X1 Ya Yb C1 (by omega) cv b0 n c r _ _ _ (by omega) (by omega) (by omega) (by omega) (by omega) B w I As hS) ?_
  clear hS
  rintro _ w ⟨rfl,hS⟩
  refine .nil (.region (.run 4 rfl ⟨⟨by omega,by omega⟩,trivial⟩ (.nil ?_)))
  refine ⟨(i,j - i,F1,Yb,Ya,X1 ++ C1),⟨rfl,rfl,rfl,rfl,rfl,trivial⟩,⟨by rw [← hG]; simp only [Y8],by (try dsimp only); omega,by (try dsimp only); omega,by omega,by omega,by omega,by omega,by omega,hS⟩,by (try dsimp only); simp only [Y0]; omega⟩
 have hc20:=hb20; try simp only [Y5] at hc20
 refine .exit (.region (.run 7 rfl ⟨⟨by omega,by omega⟩,trivial⟩ ?_))
 refine WL.call Xl6 rfl (X0 (.of rfl) (X0 (.of rfl) (X0 (.of rfl) (X0 (.of rfl) (X0 (.of rfl) X4))))) rfl (X3z F1 X1 [] Y1 C1 (by omega) cv b0 n c r _ _ _ (by omega) (by simp only [Yh]; omega) (by omega) (by simp only [Yh]; omega) (by simp only [Yh]; omega) B w I As hS) ?_
 clear hS
 rintro _ w ⟨rfl,hS⟩
 refine .nil (X7d Tryz.results252 ?_)
 rw [Yc,hG] at hS
 exact ⟨_,rfl,rfl,hS⟩
set_option maxHeartbeats 1000000 in
theorem Xji {l:List Nat} {p:Addr} {I:Im} (hx:Cx I l p):∀ (N:Nat) (F U V C:List Int),Srt.So (kx l) U→Srt.So (kx l) V→Srt.cross U V→(∀ x∈U ++ V,0≤x∧x<(l.length:Int))→0<U.length→0<V.length→U.length+V.length≤N →
  ∀ (b0 n c:Nat) (r:List Value) (ia im ib:Int),ia=F.length→im=F.length+U.length→ib=F.length+U.length+V.length→ib≤n→F.length+(U.length+(V.length+C.length))≤1000000→∀ (B w:World) (As:List X9),Sat B w I (blk b0 ((F ++ (U ++ (V ++ C))).map I64 ++ r) 3::As) →
  Calls Tryz.prog 246 [.slice (some (ad b0 0)) n c,I64 ia,I64 im,I64 ib,CF p].toArray w (Ret fun v w'=>v=.tuple #[]∧∃ M,M.Perm (U ++ V)∧Srt.So (kx l) M∧Sat B w' I (blk b0 ((F ++ (M ++ C)).map I64 ++ r) 3::As)):=by
 intro N
 induction N with
 | zero=>intros; omega
 | succ N ih =>
  intro F U V C hU hV hc hin hU0 hV0 hN b0 n c r ia im ib hia him hib hn hbb B w As hS
  refine calls Xhj rfl Tryz.ntmps246 rfl (.seq (.seq ?_))
  have hUV:∀ v∈U ++ V,0≤v∧v<(l.length:Int):=hin
  obtain ⟨D,hD⟩:∃ D,D=F ++ (U ++ (V ++ C)):=⟨_,rfl⟩
  rw [← hD] at hS
  have hDl:D.length=F.length+(U.length+(V.length+C.length)):=by rw [hD]; simp only [Y0]
  have hin2:∀ q:Nat,F.length≤q→q<F.length+(U.length+V.length)→0≤D.getD q 0∧D.getD q 0<(l.length:Int):=fun q h1 h2=>by
   refine hUV _ ?_
   have e:D=F ++ ((U ++ V) ++ C):=by rw [hD]; simp only [Y8]
   rw [e]
   exact Srt.get_mid h1 (by rw [Y0]; exact h2)
  have hDU:∀ q:Nat,q<U.length→D.getD (F.length+q) 0=U.getD q 0:=fun q hq=>by
   rw [hD,Srt.get_app2 (by omega),show F.length+q - F.length=q by omega,Srt.get_app1 hq]
  have hDV:∀ q:Nat,q<V.length→D.getD (F.length+U.length+q) 0=V.getD q 0:=fun q hq=>by
   rw [hD,Srt.get_app2 (by omega),Srt.get_app2 (by omega),show F.length+U.length+q - F.length - U.length=q by omega,Srt.get_app1 hq]
  refine .region (.run 4 rfl ⟨⟨by omega,by omega⟩,trivial⟩ (.nil ?_))
  refine WC.cond rfl (fun hb28=>?_) (fun hb28=>?_)
  ·
   have hc28:=hb28; try simp only [Y5] at hc28
   refine .seq ?_
   obtain ⟨x,U0,rfl⟩:=Srt.cons_of hU0
   obtain rfl:U0=[]:=Ye (by simp only [Y6] at him; omega)
   have hDx:D.getD ia.toNat 0=x:=by have:=hDU 0 (by simp); rw [show ia.toNat=F.length+0 by omega]; simpa using this
   simp only [Y6,Yh] at him hib hbb hDl hin2 hDV
   refine .q 2 rfl (.seq (.q 2 rfl (.seq (.block ?_))))
   refine WC.loop (σ:=Int×Int) (fun ⟨i,j⟩=>[(0,.slice (some (ad b0 0)) n c),(1,I64 ia),(2,I64 im),(3,I64 ib),(4,CF p),(10,I64 i),(11,I64 j)]) (fun ⟨i,j⟩ w=>im≤i∧i≤j∧j≤ib∧(i=im∨kx l (D.getD (i - 1).toNat 0)<kx l x)∧(j=ib∨¬ kx l (D.getD j.toNat 0)<kx l x)∧Sat B w I (blk b0 ((D).map I64 ++ r) 3::As)) (fun ⟨i,j⟩=>(j - i).toNat) (im,ib) ⟨rfl,rfl,rfl,rfl,rfl,rfl,rfl,trivial⟩ ⟨Y3v _,by (try dsimp only); omega,Y3v _,.inl rfl,.inl rfl,hS⟩ ?_
   rintro ⟨i,j⟩ w ⟨hi1,hij,hj1,hb1,hb2,hS⟩
   change WC _ _ _ _ [(0,.slice (some (ad b0 0)) n c),(1,I64 ia),(2,I64 im),(3,I64 ib),(4,CF p),(10,I64 i),(11,I64 j)] w
   refine .seq (.seq (.q 3 rfl ?_))
   refine WC.cond rfl (fun hb33=>?_) (fun hb33=>?_)
   ·
    have hc33:=hb33; try simp only [Y5] at hc33
    refine .skip (.block (.seq (.region (.run 3 rfl ⟨⟨by omega,by omega⟩,trivial⟩ ?_))))
    refine WL.val (.cvi (.of rfl) Qu3 X5w (by rw [IntKind.wrap_u64]; omega)) rfl ?_
    refine .val (.shr1 (.of rfl) (.of rfl) (by decide)) rfl ?_
    refine WL.val (.cvi (.of rfl) X5w Qu3 (by rw [IntKind.wrap_i64]; omega)) rfl ?_
    refine .q 1 rfl (.nil (.seq (.quiet (by kernel_rfl) (by kernel_rfl) hS (.val (fun w hS=>(.move (.of rfl))) rfl (.val (fun w hS=>(.move (.of rfl))) rfl (.val (fun w hS=>(.move (.of rfl))) rfl (.val (fun w hS=>(.indexAddr (.of rfl) (.of rfl) (by omega) (by omega) Xm Qs3)) rfl (.val (fun w hS=>.ldE I64 D 0 r (i:=((i+j) / 2)) (.of rfl) hS (k:=0) rfl rfl Qg3 (by omega) (by omega)) rfl (.val (fun w hS=>(.move (.of rfl))) rfl (.val (fun w hS=>(.move (.of rfl))) rfl (.val (fun w hS=>(.indexAddr (.of rfl) (.of rfl) (by omega) (by omega) Xm Qs3)) rfl (.val (fun w hS=>.ldE I64 D 0 r (i:=ia) (.of rfl) hS (k:=0) rfl rfl Qg3 (by omega) (by omega)) rfl ?_))))))))))))
    refine WQ.vcall Xi9 rfl (.of rfl) (X0 (.of rfl) (X0 (.of rfl) X4)) rfl (fun w hS=>by have hj1:=hin2 (((i+j) / 2)).toNat (by omega) (by omega); have hj2:=hin2 (ia).toNat (by omega) (by omega); exact X9x hx _ _ hj1.1 hj1.2 hj2.1 hj2.2 B w _ hS) ?_
    refine .val (fun w hS=>(.lss (.of rfl) (.of rfl))) rfl (.nil ?_)
    clear hS; intro w hS
    refine WC.cond rfl (fun hb50=>?_) (fun hb50=>?_)
    ·
     have hc50:=hb50; try simp only [Y5] at hc50
     refine .region (.run 3 rfl ⟨⟨by omega,by omega⟩,trivial⟩ (.nil ?_))
     have h9:=Srt.cmpv_neg.1 hc50
     rw [hDx] at h9
     exact ⟨((i+j) / 2+1,j),⟨rfl,rfl,rfl,rfl,rfl,rfl,rfl,trivial⟩,⟨by (try dsimp only); omega,by (try dsimp only); omega,hj1,.inr (by (try dsimp only); rw [show (i+j) / 2+1 - 1=(i+j) / 2 by omega]; exact h9),hb2,hS⟩,by (try dsimp only); omega⟩
    have hc50:=hb50; try simp only [Y5] at hc50
    refine .q 2 rfl ?_
    have h9:¬ _:=fun h=>(Int.not_lt.2 hc50) (Srt.cmpv_neg.2 h)
    rw [hDx] at h9
    exact ⟨(i,(i+j) / 2),⟨rfl,rfl,rfl,rfl,rfl,rfl,rfl,trivial⟩,⟨hi1,by (try dsimp only); omega,by (try dsimp only); omega,hb1,.inr h9,hS⟩,by (try dsimp only); omega⟩
   have hc33:=hb33; try simp only [Y5] at hc33
   refine .exit (.seq (.seq ?_))
   have hij:i=j:=by omega
   subst hij
   have hiV:(i - im).toNat≤V.length:=by omega
   have hso:Srt.So (kx l) (V.take (i - im).toNat ++ x::V.drop (i - im).toNat):=by
    refine Srt.so_left hV (fun v hv=>hc x (by simp) v hv) hiV ?_ ?_
    ·by_cases hz:i=im
     ·exact .inl (by omega)
     ·refine .inr ?_
      have h:=hb1.resolve_left hz
      rw [← hDV ((i - im).toNat - 1) (by omega),show F.length+(0+1)+((i - im).toNat - 1)=(i - 1).toNat by omega]
      exact h
    ·by_cases hz:i=ib
     ·exact .inl (by omega)
     ·refine .inr ?_
      have h:=hb2.resolve_left hz
      rw [← hDV (i - im).toNat (by omega),show F.length+(0+1)+(i - im).toNat=i.toNat by omega]
      exact h
   obtain ⟨Va,Vb,hVab,hVal,hso2⟩:∃ Va Vb,V=Va ++ Vb∧(Va.length:Int)=i - im∧Srt.So (kx l) (Va ++ x::Vb):=⟨_,_,(Yw (i - im).toNat V).symm,by rw [Yq]; omega,hso⟩
   refine .q 2 rfl (.block ?_)
   refine WC.loop (σ:=Int×List Int×List Int) (fun ⟨k,Vc,Vd⟩=>[(0,.slice (some (ad b0 0)) n c),(10,I64 i),(13,I64 k)]) (fun ⟨k,Vc,Vd⟩ w=>k=(F.length:Int)+Vc.length∧Vc ++ Vd=Va∧Sat B w I (blk b0 ((F ++ (Vc ++ x::(Vd ++ (Vb ++ C)))).map I64 ++ r) 3::As)) (fun ⟨k,Vc,Vd⟩=>Vd.length) (ia,[],Va) ⟨rfl,rfl,rfl,trivial⟩ ⟨by simp only [Yh]; omega,rfl,by rw [hD,hVab] at hS; simpa using hS⟩ ?_
   rintro ⟨k,Vc,Vd⟩ w ⟨hk,hcd,hS⟩
   change WC _ _ _ _ [(0,.slice (some (ad b0 0)) n c),(10,I64 i),(13,I64 k)] w
   have hcl:=congrArg List.length hcd
   rw [Y0] at hcl
   have hVl:=congrArg List.length hVab
   rw [Y0] at hVl
   obtain ⟨E,hE⟩:∃ E,E=F ++ (Vc ++ x::(Vd ++ (Vb ++ C))):=⟨_,rfl⟩
   rw [← hE] at hS
   have hEl:E.length=F.length+(Vc.length+1+Vd.length+(Vb.length+C.length)):=by rw [hE]; simp only [Y0,Y6]; omega
   refine .seq (.seq (.region (.run 4 rfl ⟨⟨by omega,by omega⟩,trivial⟩ (.nil ?_))))
   refine WC.cond rfl (fun hb58=>?_) (fun hb58=>?_)
   ·
    have hc58:=hb58; try simp only [Y5] at hc58
    refine .skip (.seq (.block (.drawn (fun w=>∃ R,Sat B w I (blk b0 ((E).map I64 ++ r) 3::R)) (fun j=>!([15,17].contains j)) (by kernel_rfl) ?_)))
    replace hS:=hS.drew; generalize w.drew=w at hS ⊢
    have hH:∃ R,Sat B w I (blk b0 ((E).map I64 ++ r) 3::R):=⟨_,(hS.pick 0 rfl)⟩
    refine .tp (i:=0) rfl (by kernel_rfl) (fun w=>(.move (.of rfl))) rfl (.tp (i:=1) rfl (by kernel_rfl) (fun w=>(.move (.of rfl))) rfl (.tp (i:=2) rfl (by kernel_rfl) (fun w=>(.move (.of rfl))) rfl (.tp (i:=3) rfl (by kernel_rfl) (fun w=>(.move (.of rfl))) rfl (.tp (i:=4) rfl (by kernel_rfl) (fun w=>(.add (.of rfl) (.of rfl) ⟨by omega,by omega⟩)) rfl (.tp (i:=5) rfl (by kernel_rfl) (fun w=>(.move (.of rfl))) rfl (.tp (i:=6) rfl (by kernel_rfl) (fun w=>(.move (.of rfl))) rfl (.tp (i:=7) rfl (by kernel_rfl) (fun w=>(.add (.of rfl) (.of rfl) ⟨by omega,by omega⟩)) rfl (.tp (i:=8) rfl (by kernel_rfl) (fun w=>(.indexAddr (.of rfl) (.of rfl) (by omega) (by omega) Xm Qs3)) rfl (.tk (i:=9) rfl (by kernel_rfl) hH (fun w ⟨R,hS⟩=>.ldE I64 E 0 r (i:=k+1) (.of rfl) hS (k:=0) rfl rfl Qg3 (by omega) (by omega)) rfl (.tp (i:=10) rfl (by kernel_rfl) (fun w=>(.move (.of rfl))) rfl (.tp (i:=11) rfl (by kernel_rfl) (fun w=>(.move (.of rfl))) rfl (.tp (i:=12) rfl (by kernel_rfl) (fun w=>(.indexAddr (.of rfl) (.of rfl) (by omega) (by omega) Xm Qs3)) rfl (.tk (i:=13) rfl (by kernel_rfl) hH (fun w ⟨R,hS⟩=>.ldE I64 E 0 r (i:=k) (.of rfl) hS (k:=0) rfl rfl Qg3 (by omega) (by omega)) rfl (.tp (i:=14) rfl (by kernel_rfl) (fun w=>(.indexAddr (.of rfl) (.of rfl) (by omega) (by omega) Xm Qs3)) rfl ?_))))))))))))))
    refine WD.branch [15] (by kernel_rfl) rfl (WO.cons rfl ?_ (WO.nil))
    refine WL.stE I64 _ r hS (k:=0) rfl (.of rfl) (.of rfl) rfl rfl Qs3 (by omega) (by (try rw [Y1x]); omega) ?_
    clear hS; intro w hS; dsimp only [List.set] at hS
    refine .nil ?_
    refine And.intro (by intro h; cases h) ?_
    refine .tp (i:=16) rfl (by kernel_rfl) (fun w=>(.indexAddr (.of rfl) (.of rfl) (by omega) (by omega) Xm Qs3)) rfl ?_
    refine WD.branch [17] (by kernel_rfl) rfl (WO.cons rfl ?_ (WO.nil))
    refine WL.stE I64 _ r hS (k:=0) rfl (.of rfl) (.of rfl) rfl rfl Qs3 (by omega) (by (try rw [Y1x]); omega) ?_
    clear hS; intro w hS; dsimp only [List.set] at hS
    refine .nil ?_
    refine And.intro (by intro h; cases h) ?_
    refine .done (by kernel_rfl) (.region (.run 3 rfl ⟨⟨by omega,by omega⟩,trivial⟩ (.nil ?_)))
    obtain ⟨y,Ve,rfl⟩:=Srt.cons_of (U:=Vd) (by omega)
    have e1:E=(F ++ Vc) ++ x::y::(Ve ++ (Vb ++ C)):=by rw [hE]; simp only [Y8,Yu]
    have e:=Srt.swp_adj (F ++ Vc) (Ve ++ (Vb ++ C)) x y
    rw [← e1,show (F ++ Vc).length=k.toNat by rw [Y0]; omega,show k.toNat+1=(k+1).toNat by omega] at e
    unfold Srt.swp at e
    rw [e] at hS
    refine ⟨(k+1,Vc ++ [y],Ve),⟨rfl,rfl,rfl,trivial⟩,⟨by simp only [Y0,Y6,Yh]; omega,by rw [← hcd]; simp,?_⟩,by simp⟩
    have e2:F ++ ((Vc ++ [y]) ++ x::(Ve ++ (Vb ++ C)))=(F ++ Vc) ++ y::x::(Ve ++ (Vb ++ C)):=by simp only [Y8,Yu,Yc]
    rw [e2]; exact hS
   have hc58:=hb58; try simp only [Y5] at hc58
   refine .exit (.ret (ret0 Xk3 ?_))
   have hd0:Vd=[]:=Ye (by have:=congrArg List.length hVab; rw [Y0] at this; omega)
   subst hd0
   rw [Yg] at hcd
   rw [hE,hcd] at hS
   refine ⟨_,rfl,rfl,Va ++ x::Vb,?_,hso2,by simpa using hS⟩
   rw [hVab]
   exact Y4e
  have hc28:=hb28; try simp only [Y5] at hc28
  refine .skip (.seq (.seq (.region (.run 4 rfl ⟨⟨by omega,by omega⟩,trivial⟩ (.nil ?_)))))
  refine WC.cond rfl (fun hb80=>?_) (fun hb80=>?_)
  ·
   have hc80:=hb80; try simp only [Y5] at hc80
   refine .seq ?_
   obtain ⟨y,V0,rfl⟩:=Srt.cons_of hV0
   obtain rfl:V0=[]:=Ye (by simp only [Y6] at hib; omega)
   have hDy:D.getD im.toNat 0=y:=by have:=hDV 0 (by simp); rw [show im.toNat=F.length+U.length+0 by omega]; simpa using this
   simp only [Y6,Yh] at hib hbb hDl hin2
   refine .q 2 rfl (.seq (.q 2 rfl (.seq (.block ?_))))
   refine WC.loop (σ:=Int×Int) (fun ⟨i,j⟩=>[(0,.slice (some (ad b0 0)) n c),(1,I64 ia),(2,I64 im),(3,I64 ib),(4,CF p),(14,I64 i),(15,I64 j)]) (fun ⟨i,j⟩ w=>ia≤i∧i≤j∧j≤im∧(i=ia∨¬ kx l y<kx l (D.getD (i - 1).toNat 0))∧(j=im∨kx l y<kx l (D.getD j.toNat 0))∧Sat B w I (blk b0 ((D).map I64 ++ r) 3::As)) (fun ⟨i,j⟩=>(j - i).toNat) (ia,im) ⟨rfl,rfl,rfl,rfl,rfl,rfl,rfl,trivial⟩ ⟨Y3v _,by (try dsimp only); omega,Y3v _,.inl rfl,.inl rfl,hS⟩ ?_
   rintro ⟨i,j⟩ w ⟨hi1,hij,hj1,hb1,hb2,hS⟩
   change WC _ _ _ _ [(0,.slice (some (ad b0 0)) n c),(1,I64 ia),(2,I64 im),(3,I64 ib),(4,CF p),(14,I64 i),(15,I64 j)] w
   refine .seq (.seq (.q 3 rfl ?_))
   refine WC.cond rfl (fun hb85=>?_) (fun hb85=>?_)
   ·
    have hc85:=hb85; try simp only [Y5] at hc85
    refine .skip (.block (.seq (.region (.run 3 rfl ⟨⟨by omega,by omega⟩,trivial⟩ ?_))))
    refine WL.val (.cvi (.of rfl) Qu3 X5w (by rw [IntKind.wrap_u64]; omega)) rfl ?_
    refine .val (.shr1 (.of rfl) (.of rfl) (by decide)) rfl ?_
    refine WL.val (.cvi (.of rfl) X5w Qu3 (by rw [IntKind.wrap_i64]; omega)) rfl ?_
    refine .q 1 rfl (.nil (.seq (.quiet (by kernel_rfl) (by kernel_rfl) hS (.val (fun w hS=>(.move (.of rfl))) rfl (.val (fun w hS=>(.move (.of rfl))) rfl (.val (fun w hS=>(.move (.of rfl))) rfl (.val (fun w hS=>(.indexAddr (.of rfl) (.of rfl) (by omega) (by omega) Xm Qs3)) rfl (.val (fun w hS=>.ldE I64 D 0 r (i:=im) (.of rfl) hS (k:=0) rfl rfl Qg3 (by omega) (by omega)) rfl (.val (fun w hS=>(.move (.of rfl))) rfl (.val (fun w hS=>(.move (.of rfl))) rfl (.val (fun w hS=>(.indexAddr (.of rfl) (.of rfl) (by omega) (by omega) Xm Qs3)) rfl (.val (fun w hS=>.ldE I64 D 0 r (i:=((i+j) / 2)) (.of rfl) hS (k:=0) rfl rfl Qg3 (by omega) (by omega)) rfl ?_))))))))))))
    refine WQ.vcall Xi9 rfl (.of rfl) (X0 (.of rfl) (X0 (.of rfl) X4)) rfl (fun w hS=>by have hj1:=hin2 (im).toNat (by omega) (by omega); have hj2:=hin2 (((i+j) / 2)).toNat (by omega) (by omega); exact X9x hx _ _ hj1.1 hj1.2 hj2.1 hj2.2 B w _ hS) ?_
    refine .val (fun w hS=>(.lss (.of rfl) (.of rfl))) rfl (.val (fun w hS=>(.not (.of rfl))) rfl (.nil ?_))
    clear hS; intro w hS
    refine WC.cond rfl (fun hb103=>?_) (fun hb103=>?_)
    ·
     have hc103:=hb103; try simp only [Y5] at hc103
     refine .region (.run 3 rfl ⟨⟨by omega,by omega⟩,trivial⟩ (.nil ?_))
     have h9:¬ _:=fun h=>(Int.not_lt.2 hc103) (Srt.cmpv_neg.2 h)
     rw [hDy] at h9
     exact ⟨((i+j) / 2+1,j),⟨rfl,rfl,rfl,rfl,rfl,rfl,rfl,trivial⟩,⟨by (try dsimp only); omega,by (try dsimp only); omega,hj1,.inr (by (try dsimp only); rw [show (i+j) / 2+1 - 1=(i+j) / 2 by omega]; exact h9),hb2,hS⟩,by (try dsimp only); omega⟩
    have hc103:=hb103; try simp only [Y5] at hc103
    refine .q 2 rfl ?_
    have h9:=Srt.cmpv_neg.1 hc103
    rw [hDy] at h9
    exact ⟨(i,(i+j) / 2),⟨rfl,rfl,rfl,rfl,rfl,rfl,rfl,trivial⟩,⟨hi1,by (try dsimp only); omega,by (try dsimp only); omega,hb1,.inr h9,hS⟩,by (try dsimp only); omega⟩
   have hc85:=hb85; try simp only [Y5] at hc85
   refine .exit (.seq (.seq ?_))
   have hij:i=j:=by omega
   subst hij
   have hso:Srt.So (kx l) (U.take (i - ia).toNat ++ y::U.drop (i - ia).toNat):=by
    refine Srt.so_right hU (fun v hv=>hc v hv y (by simp)) (by omega) ?_ ?_
    ·by_cases hz:i=ia
     ·exact .inl (by omega)
     ·refine .inr ?_
      have h:=hb1.resolve_left hz
      rw [← hDU ((i - ia).toNat - 1) (by omega),show F.length+((i - ia).toNat - 1)=(i - 1).toNat by omega]
      exact h
    ·by_cases hz:i=im
     ·exact .inl (by omega)
     ·refine .inr ?_
      have h:=hb2.resolve_left hz
      rw [← hDU (i - ia).toNat (by omega),show F.length+(i - ia).toNat=i.toNat by omega]
      exact h
   obtain ⟨Ua,Ub,hUab,hUal,hso2⟩:∃ Ua Ub,U=Ua ++ Ub∧(Ua.length:Int)=i - ia∧Srt.So (kx l) (Ua ++ y::Ub):=⟨_,_,(Yw (i - ia).toNat U).symm,by rw [Yq]; omega,hso⟩
   have hUl:=congrArg List.length hUab
   rw [Y0] at hUl
   refine .q 2 rfl (.block ?_)
   refine WC.loop (σ:=Int×List Int×List Int) (fun ⟨k,Uc,Ud⟩=>[(0,.slice (some (ad b0 0)) n c),(14,I64 i),(17,I64 k)]) (fun ⟨k,Uc,Ud⟩ w=>k=(F.length:Int)+Ua.length+Uc.length∧Uc ++ Ud=Ub∧Sat B w I (blk b0 ((F ++ (Ua ++ (Uc ++ y::(Ud ++ C)))).map I64 ++ r) 3::As)) (fun ⟨k,Uc,Ud⟩=>Uc.length) (im,Ub,[]) ⟨rfl,rfl,rfl,trivial⟩ ⟨by (try dsimp only); omega,by simp,by rw [hD,hUab] at hS; simpa using hS⟩ ?_
   rintro ⟨k,Uc,Ud⟩ w ⟨hk,hcd,hS⟩
   change WC _ _ _ _ [(0,.slice (some (ad b0 0)) n c),(14,I64 i),(17,I64 k)] w
   have hcl:=congrArg List.length hcd
   rw [Y0] at hcl
   obtain ⟨E,hE⟩:∃ E,E=F ++ (Ua ++ (Uc ++ y::(Ud ++ C))):=⟨_,rfl⟩
   rw [← hE] at hS
   have hEl:E.length=F.length+(Ua.length+(Uc.length+1+Ud.length+C.length)):=by rw [hE]; simp only [Y0,Y6]; omega
   refine .seq (.seq (.q 3 rfl ?_))
   refine WC.cond rfl (fun hb110=>?_) (fun hb110=>?_)
   ·
    have hc110:=hb110; try simp only [Y5] at hc110
    refine .skip (.seq (.block (.drawn (fun w=>∃ R,Sat B w I (blk b0 ((E).map I64 ++ r) 3::R)) (fun j=>!([15,17].contains j)) (by kernel_rfl) ?_)))
    replace hS:=hS.drew; generalize w.drew=w at hS ⊢
    have hH:∃ R,Sat B w I (blk b0 ((E).map I64 ++ r) 3::R):=⟨_,(hS.pick 0 rfl)⟩
    refine .tp (i:=0) rfl (by kernel_rfl) (fun w=>(.move (.of rfl))) rfl (.tp (i:=1) rfl (by kernel_rfl) (fun w=>(.move (.of rfl))) rfl (.tp (i:=2) rfl (by kernel_rfl) (fun w=>(.move (.of rfl))) rfl (.tp (i:=3) rfl (by kernel_rfl) (fun w=>(.move (.of rfl))) rfl (.tp (i:=4) rfl (by kernel_rfl) (fun w=>(.sub (.of rfl) (.of rfl) ⟨by omega,by omega⟩)) rfl (.tp (i:=5) rfl (by kernel_rfl) (fun w=>(.move (.of rfl))) rfl (.tp (i:=6) rfl (by kernel_rfl) (fun w=>(.move (.of rfl))) rfl (.tp (i:=7) rfl (by kernel_rfl) (fun w=>(.sub (.of rfl) (.of rfl) ⟨by omega,by omega⟩)) rfl (.tp (i:=8) rfl (by kernel_rfl) (fun w=>(.indexAddr (.of rfl) (.of rfl) (by omega) (by omega) Xm Qs3)) rfl (.tk (i:=9) rfl (by kernel_rfl) hH (fun w ⟨R,hS⟩=>.ldE I64 E 0 r (i:=k - 1) (.of rfl) hS (k:=0) rfl rfl Qg3 (by omega) (by omega)) rfl (.tp (i:=10) rfl (by kernel_rfl) (fun w=>(.move (.of rfl))) rfl (.tp (i:=11) rfl (by kernel_rfl) (fun w=>(.move (.of rfl))) rfl (.tp (i:=12) rfl (by kernel_rfl) (fun w=>(.indexAddr (.of rfl) (.of rfl) (by omega) (by omega) Xm Qs3)) rfl (.tk (i:=13) rfl (by kernel_rfl) hH (fun w ⟨R,hS⟩=>.ldE I64 E 0 r (i:=k) (.of rfl) hS (k:=0) rfl rfl Qg3 (by omega) (by omega)) rfl (.tp (i:=14) rfl (by kernel_rfl) (fun w=>(.indexAddr (.of rfl) (.of rfl) (by omega) (by omega) Xm Qs3)) rfl ?_))))))))))))))
    refine WD.branch [15] (by kernel_rfl) rfl (WO.cons rfl ?_ (WO.nil))
    refine WL.stE I64 _ r hS (k:=0) rfl (.of rfl) (.of rfl) rfl rfl Qs3 (by omega) (by (try rw [Y1x]); omega) ?_
    clear hS; intro w hS; dsimp only [List.set] at hS
    refine .nil ?_
    refine And.intro (by intro h; cases h) ?_
    refine .tp (i:=16) rfl (by kernel_rfl) (fun w=>(.indexAddr (.of rfl) (.of rfl) (by omega) (by omega) Xm Qs3)) rfl ?_
    refine WD.branch [17] (by kernel_rfl) rfl (WO.cons rfl ?_ (WO.nil))
    refine WL.stE I64 _ r hS (k:=0) rfl (.of rfl) (.of rfl) rfl rfl Qs3 (by omega) (by (try rw [Y1x]); omega) ?_
    clear hS; intro w hS; dsimp only [List.set] at hS
    refine .nil ?_
    refine And.intro (by intro h; cases h) ?_
    refine .done (by kernel_rfl) (.region (.run 3 rfl ⟨⟨by omega,by omega⟩,trivial⟩ (.nil ?_)))
    obtain ⟨Ue,q,rfl⟩:=Srt.concat_of (U:=Uc) (by omega)
    simp only [Y0,Y6,Yh] at hk hEl hcl
    have e1:E=(F ++ (Ua ++ Ue)) ++ q::y::(Ud ++ C):=by rw [hE]; simp only [Y8,Yu,Yc]
    have e:=Srt.swp_adj (F ++ (Ua ++ Ue)) (Ud ++ C) q y
    rw [← e1,show (F ++ (Ua ++ Ue)).length=(k - 1).toNat by simp only [Y0]; omega,show (k - 1).toNat+1=k.toNat by omega,Srt.swp_comm (by omega)] at e
    unfold Srt.swp at e
    rw [e] at hS
    refine ⟨(k - 1,Ue,q::Ud),⟨rfl,rfl,rfl,trivial⟩,⟨by (try dsimp only); omega,by rw [← hcd]; simp,?_⟩,by simp⟩
    have e2:F ++ (Ua ++ (Ue ++ y::((q::Ud) ++ C)))=(F ++ (Ua ++ Ue)) ++ y::q::(Ud ++ C):=by simp only [Y8,Yu]
    rw [e2]; exact hS
   have hc110:=hb110; try simp only [Y5] at hc110
   refine .exit (.ret (ret0 Xk3 ?_))
   have hc0:Uc=[]:=Ye (by omega)
   subst hc0
   rw [Yc] at hcd
   rw [hE,hcd] at hS
   refine ⟨_,rfl,rfl,Ua ++ y::Ub,?_,hso2,by simpa using hS⟩
   rw [hUab,Y8]
   exact List.Perm.append_left Ua (Y1f:([y] ++ Ub).Perm (Ub ++ [y]))
  have hc80:=hb80; try simp only [Y5] at hc80
  refine .skip (.seq (.region (.run 3 rfl ⟨⟨by omega,by omega⟩,trivial⟩ ?_)))
  refine WL.val (.cvi (.of rfl) Qu3 X5w (by rw [IntKind.wrap_u64]; omega)) rfl ?_
  refine .val (.shr1 (.of rfl) (.of rfl) (by decide)) rfl ?_
  refine WL.val (.cvi (.of rfl) X5w Qu3 (by rw [IntKind.wrap_i64]; omega)) rfl ?_
  refine .q 1 rfl (.nil (.seq (.region (.run 4 rfl ⟨⟨by omega,by omega⟩,trivial⟩ (.nil (.seq (.q 2 rfl ?_)))))))
  refine WC.cutS (σ:=Int×Int) (fun ⟨s0,r0⟩=>[(0,.slice (some (ad b0 0)) n c),(1,I64 ia),(2,I64 im),(3,I64 ib),(4,CF p),(18,I64 ((ia+ib) / 2)),(19,I64 (((ia+ib) / 2)+im)),(20,I64 s0),(21,I64 r0)]) (fun ⟨s0,r0⟩ w=>((((ia+ib) / 2)<im∧s0=((ia+ib) / 2)+im - ib∧r0=((ia+ib) / 2))∨(im≤((ia+ib) / 2)∧s0=ia∧r0=im))∧Sat B w I (blk b0 ((D).map I64 ++ r) 3::As)) ?_ ?_
  ·
   refine .seq (.q 3 rfl ?_)
   refine WC.cond rfl (fun hb140=>?_) (fun hb140=>?_)
   ·
    have hc140:=hb140; try simp only [Y5] at hc140
    refine .seq (.region (.run 4 rfl ⟨⟨by omega,by omega⟩,trivial⟩ (.nil (.q 2 rfl ?_))))
    exact ⟨(((ia+ib) / 2)+im - ib,((ia+ib) / 2)),⟨rfl,rfl,rfl,rfl,rfl,rfl,rfl,rfl,rfl,trivial⟩,.inl ⟨hc140,rfl,rfl⟩,hS⟩
   have hc140:=hb140; try simp only [Y5] at hc140
   refine .seq (.q 2 rfl (.q 2 rfl ?_))
   exact ⟨(ia,im),⟨rfl,rfl,rfl,rfl,rfl,rfl,rfl,rfl,rfl,trivial⟩,.inr ⟨hc140,rfl,rfl⟩,hS⟩
  rintro ⟨s0,r0⟩ w ⟨h0,hS⟩
  change WC _ _ _ _ [(0,.slice (some (ad b0 0)) n c),(1,I64 ia),(2,I64 im),(3,I64 ib),(4,CF p),(18,I64 ((ia+ib) / 2)),(19,I64 (((ia+ib) / 2)+im)),(20,I64 s0),(21,I64 r0)] w
  refine .seq (.region (.run 3 rfl ⟨⟨by omega,by omega⟩,trivial⟩ (.nil (.seq (.block ?_)))))
  refine WC.loop (σ:=Int×Int) (fun ⟨s,q⟩=>[(0,.slice (some (ad b0 0)) n c),(1,I64 ia),(2,I64 im),(3,I64 ib),(4,CF p),(18,I64 ((ia+ib) / 2)),(19,I64 (((ia+ib) / 2)+im)),(20,I64 s),(21,I64 q),(22,I64 (((ia+ib) / 2)+im - 1))]) (fun ⟨s,q⟩ w=>s0≤s∧s≤q∧q≤r0∧(s=s0∨¬ kx l (D.getD (((ia+ib) / 2)+im - 1 - (s - 1)).toNat 0)<kx l (D.getD (s - 1).toNat 0))∧(q=r0∨kx l (D.getD (((ia+ib) / 2)+im - 1 - q).toNat 0)<kx l (D.getD q.toNat 0))∧Sat B w I (blk b0 ((D).map I64 ++ r) 3::As)) (fun ⟨s,q⟩=>(q - s).toNat) (s0,r0) ⟨rfl,rfl,rfl,rfl,rfl,rfl,rfl,rfl,rfl,rfl,trivial⟩ ⟨Y3v _,by (try dsimp only); omega,Y3v _,.inl rfl,.inl rfl,hS⟩ ?_
  rintro ⟨s,q⟩ w ⟨hs0,hsq,hq0,hb1,hb2,hS⟩
  change WC _ _ _ _ [(0,.slice (some (ad b0 0)) n c),(1,I64 ia),(2,I64 im),(3,I64 ib),(4,CF p),(18,I64 ((ia+ib) / 2)),(19,I64 (((ia+ib) / 2)+im)),(20,I64 s),(21,I64 q),(22,I64 (((ia+ib) / 2)+im - 1))] w
  refine .seq (.seq (.q 3 rfl ?_))
  refine WC.cond rfl (fun hb151=>?_) (fun hb151=>?_)
  ·
   have hc151:=hb151; try simp only [Y5] at hc151
   refine .skip (.block (.seq (.region (.run 3 rfl ⟨⟨by omega,by omega⟩,trivial⟩ ?_))))
   refine WL.val (.cvi (.of rfl) Qu3 X5w (by rw [IntKind.wrap_u64]; omega)) rfl ?_
   refine .val (.shr1 (.of rfl) (.of rfl) (by decide)) rfl ?_
   refine WL.val (.cvi (.of rfl) X5w Qu3 (by rw [IntKind.wrap_i64]; omega)) rfl ?_
   refine .q 1 rfl (.nil (.seq (.quiet (by kernel_rfl) (by kernel_rfl) hS (.val (fun w hS=>(.move (.of rfl))) rfl (.val (fun w hS=>(.move (.of rfl))) rfl (.val (fun w hS=>(.move (.of rfl))) rfl (.val (fun w hS=>(.move (.of rfl))) rfl (.val (fun w hS=>(.sub (.of rfl) (.of rfl) ⟨by omega,by omega⟩)) rfl (.val (fun w hS=>(.indexAddr (.of rfl) (.of rfl) (by omega) (by omega) Xm Qs3)) rfl (.val (fun w hS=>.ldE I64 D 0 r (i:=((ia+ib) / 2)+im - 1 - ((s+q) / 2)) (.of rfl) hS (k:=0) rfl rfl Qg3 (by omega) (by omega)) rfl (.val (fun w hS=>(.move (.of rfl))) rfl (.val (fun w hS=>(.move (.of rfl))) rfl (.val (fun w hS=>(.indexAddr (.of rfl) (.of rfl) (by omega) (by omega) Xm Qs3)) rfl (.val (fun w hS=>.ldE I64 D 0 r (i:=((s+q) / 2)) (.of rfl) hS (k:=0) rfl rfl Qg3 (by omega) (by omega)) rfl ?_))))))))))))))
   refine WQ.vcall Xi9 rfl (.of rfl) (X0 (.of rfl) (X0 (.of rfl) X4)) rfl (fun w hS=>by have hj1:=hin2 (((ia+ib) / 2)+im - 1 - ((s+q) / 2)).toNat (by omega) (by omega); have hj2:=hin2 (((s+q) / 2)).toNat (by omega) (by omega); exact X9x hx _ _ hj1.1 hj1.2 hj2.1 hj2.2 B w _ hS) ?_
   refine .val (fun w hS=>(.lss (.of rfl) (.of rfl))) rfl (.val (fun w hS=>(.not (.of rfl))) rfl (.nil ?_))
   clear hS; intro w hS
   refine WC.cond rfl (fun hb171=>?_) (fun hb171=>?_)
   ·
    have hc171:=hb171; try simp only [Y5] at hc171
    refine .region (.run 3 rfl ⟨⟨by omega,by omega⟩,trivial⟩ (.nil ?_))
    have h9:¬ _:=fun h=>(Int.not_lt.2 hc171) (Srt.cmpv_neg.2 h)
    exact ⟨((s+q) / 2+1,q),⟨rfl,rfl,rfl,rfl,rfl,rfl,rfl,rfl,rfl,rfl,trivial⟩,⟨by (try dsimp only); omega,by (try dsimp only); omega,hq0,.inr (by (try dsimp only); rw [show (s+q) / 2+1 - 1=(s+q) / 2 by omega]; exact h9),hb2,hS⟩,by (try dsimp only); omega⟩
   have hc171:=hb171; try simp only [Y5] at hc171
   refine .q 2 rfl ?_
   have h9:=Srt.cmpv_neg.1 hc171
   exact ⟨(s,(s+q) / 2),⟨rfl,rfl,rfl,rfl,rfl,rfl,rfl,rfl,rfl,rfl,trivial⟩,⟨hs0,by (try dsimp only); omega,by (try dsimp only); omega,hb1,.inr h9,hS⟩,by (try dsimp only); omega⟩
  have hc151:=hb151; try simp only [Y5] at hc151
  refine .exit (.seq ?_)
  have hsq:s=q:=by omega
  subst hsq
  have hsp:=Srt.split_lt hU hV hc (s:=(s - ia).toNat) (e:=(((ia+ib) / 2) - s).toNat) (by omega) (by omega) (by
   by_cases hz1:s=ia
   ·exact .inl (by omega)
   by_cases hz2:(((ia+ib) / 2) - s).toNat=V.length
   ·exact .inr (.inl hz2)
   rcases hb1 with h | h
   ·rcases h0 with h0 | h0
    ·exact .inr (.inl (by omega))
    ·exact .inl (by omega)
   ·refine .inr (.inr ?_)
    rw [show (((ia+ib) / 2)+im - 1 - (s - 1)).toNat=F.length+U.length+(((ia+ib) / 2) - s).toNat by omega,hDV (((ia+ib) / 2) - s).toNat (by omega),show (s - 1).toNat=F.length+((s - ia).toNat - 1) by omega,hDU ((s - ia).toNat - 1) (by omega)] at h
    exact Srt.not_bef_later (hc _ (Srt.getD_mem (by omega)) _ (Srt.getD_mem (by omega))) h) (by
   by_cases hz1:s=((ia+ib) / 2)
   ·exact .inl (by omega)
   by_cases hz2:(s - ia).toNat=U.length
   ·exact .inr (.inl hz2)
   rcases hb2 with h | h
   ·rcases h0 with h0 | h0
    ·exact .inl (by omega)
    ·exact .inr (.inl (by omega))
   ·refine .inr (.inr ?_)
    rw [show (((ia+ib) / 2)+im - 1 - s).toNat=F.length+U.length+((((ia+ib) / 2) - s).toNat - 1) by omega,hDV ((((ia+ib) / 2) - s).toNat - 1) (by omega),show s.toNat=F.length+(s - ia).toNat by omega,hDU (s - ia).toNat (by omega)] at h
    exact (Srt.bef_later (hc _ (Srt.getD_mem (by omega)) _ (Srt.getD_mem (by omega)))).2 h)
  have hs1:0≤s - ia∧s - ia≤U.length∧0≤((ia+ib) / 2) - s∧((ia+ib) / 2) - s≤V.length:=by omega
  obtain ⟨Ua,Ub,Va,Vb,hUab,hVab,hUal,hVal,hsp2⟩:∃ Ua Ub Va Vb,U=Ua ++ Ub∧V=Va ++ Vb∧(Ua.length:Int)=s - ia∧(Va.length:Int)=((ia+ib) / 2) - s∧(∀ x∈Ua ++ Va,∀ y∈Ub ++ Vb,Srt.bef (kx l) x y) :=
   ⟨_,_,_,_,(Yw (s - ia).toNat U).symm,(Yw (((ia+ib) / 2) - s).toNat V).symm,by rw [Yq]; omega,by rw [Yq]; omega,hsp⟩
  clear hsp
  have hUl:=congrArg List.length hUab
  rw [Y0] at hUl
  have hVl:=congrArg List.length hVab
  rw [Y0] at hVl
  rw [hD,hUab,hVab] at hS
  rw [hUab] at hU
  rw [hVab] at hV
  rw [hUab,hVab] at hc hin
  have hUa:=(Y1n.1 hU).1
  have hUb:=(Y1n.1 hU).2.1
  have hVa:=(Y1n.1 hV).1
  have hVb:=(Y1n.1 hV).2.1
  refine .region (.run 4 rfl ⟨⟨by omega,by omega⟩,trivial⟩ (.nil ?_))
  refine WC.cutS (σ:=Unit) (fun _=>[(0,.slice (some (ad b0 0)) n c),(1,I64 ia),(3,I64 ib),(4,CF p),(18,I64 ((ia+ib) / 2)),(20,I64 s),(24,I64 (((ia+ib) / 2)+im - s))]) (fun _ w=>Sat B w I (blk b0 ((F ++ (Ua ++ (Va ++ (Ub ++ (Vb ++ C))))).map I64 ++ r) 3::As)) ?_ ?_
  ·
   refine .seq (.t 4 rfl (.gval rfl rfl (fun hg1=>(.move (.of rfl))) rfl (.gval rfl rfl (fun hg1=>(.move (.of rfl))) rfl (.gval rfl rfl (fun hg1=>(.lss (.gd hg1 rfl) (.gd hg1 rfl))) rfl (.val (.pand (.of rfl) (.of rfl) (.of rfl)) rfl (.nil ?_))))))
   refine WC.cond rfl (fun hb185=>?_) (fun hb185=>?_)
   ·
    have hc185:=hb185; try simp only [Y5] at hc185
    refine .t 5 rfl ?_
    rw [show F ++ ((Ua ++ Ub) ++ ((Va ++ Vb) ++ C))=(F ++ Ua) ++ (Ub ++ (Va ++ (Vb ++ C))) by simp only [Y8]] at hS
    refine WL.call Tryz.func252 rfl (X0 (.of rfl) (X0 (.of rfl) (X0 (.of rfl) (X0 (.of rfl) (X0 (.of rfl) X4))))) rfl (Xp9 (F ++ Ua) Ub Va (Vb ++ C) (by omega) (by omega) (CF p) b0 n c r _ _ _ (by rw [Y0]; omega) (by rw [Y0]; omega) (by rw [Y0]; omega) (by omega) (by simp only [Y0]; omega) B w I As hS) ?_
    clear hS
    rintro _ w ⟨rfl,hS⟩
    refine .nil ?_
    rw [show (F ++ Ua) ++ (Va ++ (Ub ++ (Vb ++ C)))=F ++ (Ua ++ (Va ++ (Ub ++ (Vb ++ C)))) by simp only [Y8]] at hS
    exact ⟨(),⟨rfl,rfl,rfl,rfl,rfl,rfl,rfl,trivial⟩,hS⟩
   have hc185:=hb185; try simp only [Y5] at hc185
   refine .skip ?_
   have e:F ++ ((Ua ++ Ub) ++ ((Va ++ Vb) ++ C))=F ++ (Ua ++ (Va ++ (Ub ++ (Vb ++ C)))):=by
    rcases hc185 with h | h
    ·obtain rfl:Ub=[]:=Ye (by omega)
     simp only [Y8,Yc]
    ·obtain rfl:Va=[]:=Ye (by omega)
     simp only [Y8,Yc]
   rw [e] at hS
   exact ⟨(),⟨rfl,rfl,rfl,rfl,rfl,rfl,rfl,trivial⟩,hS⟩
  rintro _ w hS
  change WC _ _ _ _ [(0,.slice (some (ad b0 0)) n c),(1,I64 ia),(3,I64 ib),(4,CF p),(18,I64 ((ia+ib) / 2)),(20,I64 s),(24,I64 (((ia+ib) / 2)+im - s))] w
  refine WC.cutS (σ:=List Int) (fun M1=>[(0,.slice (some (ad b0 0)) n c),(1,I64 ia),(3,I64 ib),(4,CF p),(18,I64 ((ia+ib) / 2)),(20,I64 s),(24,I64 (((ia+ib) / 2)+im - s))]) (fun M1 w=>M1.Perm (Ua ++ Va)∧Srt.So (kx l) M1∧Sat B w I (blk b0 ((F ++ (M1 ++ (Ub ++ (Vb ++ C)))).map I64 ++ r) 3::As)) ?_ ?_
  ·
   refine .seq (.t 4 rfl (.gval rfl rfl (fun hg1=>(.move (.of rfl))) rfl (.gval rfl rfl (fun hg1=>(.move (.of rfl))) rfl (.gval rfl rfl (fun hg1=>(.lss (.gd hg1 rfl) (.gd hg1 rfl))) rfl (.val (.pand (.of rfl) (.of rfl) (.of rfl)) rfl (.nil ?_))))))
   refine WC.cond rfl (fun hb199=>?_) (fun hb199=>?_)
   ·
    have hc199:=hb199; try simp only [Y5] at hc199
    refine .t 5 rfl ?_
    have hUa0:0<Ua.length:=by omega
    have hVa0:0<Va.length:=by omega
    refine WL.call Xhj rfl (X0 (.of rfl) (X0 (.of rfl) (X0 (.of rfl) (X0 (.of rfl) (X0 (.of rfl) X4))))) rfl (ih F Ua Va (Ub ++ (Vb ++ C)) hUa hVa (Srt.cross_sub hc (fun _ h=>Y1m _ h) (fun _ h=>Y1m _ h)) (fun x hx=>hin x (by rcases Y12.1 hx with h | h <;> simp [h])) hUa0 hVa0 (by omega) b0 n c r _ _ _ (by omega) (by omega) (by omega) (by omega) (by simp only [Y0]; omega) B w As hS) ?_
    clear hS
    rintro _ w ⟨rfl,M1,hM1,hMs,hS⟩
    refine .nil ?_
    exact ⟨M1,⟨rfl,rfl,rfl,rfl,rfl,rfl,rfl,trivial⟩,hM1,hMs,hS⟩
   have hc199:=hb199; try simp only [Y5] at hc199
   refine .skip ?_
   have e:Srt.So (kx l) (Ua ++ Va):=by
    rcases hc199 with h | h
    ·obtain rfl:Ua=[]:=Ye (by omega)
     simpa using hVa
    ·obtain rfl:Va=[]:=Ye (by omega)
     simpa using hUa
   refine ⟨Ua ++ Va,⟨rfl,rfl,rfl,rfl,rfl,rfl,rfl,trivial⟩,.refl _,e,?_⟩
   rw [Y8]; exact hS
  rintro M1 w ⟨hM1,hMs,hS⟩
  change WC _ _ _ _ [(0,.slice (some (ad b0 0)) n c),(1,I64 ia),(3,I64 ib),(4,CF p),(18,I64 ((ia+ib) / 2)),(20,I64 s),(24,I64 (((ia+ib) / 2)+im - s))] w
  refine .seq (.t 4 rfl (.gval rfl rfl (fun hg1=>(.move (.of rfl))) rfl (.gval rfl rfl (fun hg1=>(.move (.of rfl))) rfl (.gval rfl rfl (fun hg1=>(.lss (.gd hg1 rfl) (.gd hg1 rfl))) rfl (.val (.pand (.of rfl) (.of rfl) (.of rfl)) rfl (.nil ?_))))))
  refine WC.cond rfl (fun hb213=>?_) (fun hb213=>?_)
  ·
   have hc213:=hb213; try simp only [Y5] at hc213
   refine .t 5 rfl ?_
   have hUb0:0<Ub.length:=by omega
   have hVb0:0<Vb.length:=by omega
   have hMl:=hM1.length_eq
   rw [Y0] at hMl
   rw [show F ++ (M1 ++ (Ub ++ (Vb ++ C)))=(F ++ M1) ++ (Ub ++ (Vb ++ C)) by simp only [Y8]] at hS
   refine WL.call Xhj rfl (X0 (.of rfl) (X0 (.of rfl) (X0 (.of rfl) (X0 (.of rfl) (X0 (.of rfl) X4))))) rfl (ih (F ++ M1) Ub Vb C hUb hVb (Srt.cross_sub hc (fun _ h=>Y1p _ h) (fun _ h=>Y1p _ h)) (fun x hx=>hin x (by rcases Y12.1 hx with h | h <;> simp [h])) hUb0 hVb0 (by omega) b0 n c r _ _ _ (by rw [Y0]; omega) (by rw [Y0]; omega) (by rw [Y0]; omega) (by omega) (by simp only [Y0]; omega) B w As hS) ?_
   clear hS
   rintro _ w ⟨rfl,M2,hM2,hMs2,hS⟩
   refine .nil (X7d Xk3 ?_)
   have hPM:(M1 ++ M2).Perm (U ++ V):=by
    rw [hUab,hVab]
    refine (hM1.append hM2).trans ?_
    simp only [Y8]
    refine List.Perm.append_left Ua ?_
    rw [← Y8,← Y8]
    exact Y1f.append_right Vb
   have hSM:Srt.So (kx l) (M1 ++ M2):=Srt.so_app hMs hMs2 (fun x hx y hy=>hsp2 x (hM1.mem_iff.1 hx) y (hM2.mem_iff.1 hy))
   exact ⟨_,rfl,rfl,M1 ++ M2,hPM,hSM,by simpa using hS⟩
  have hc213:=hb213; try simp only [Y5] at hc213
  refine .skip (X7d Xk3 ?_)
  obtain ⟨M2,hM2e⟩:∃ M2,M2=Ub ++ Vb:=⟨_,rfl⟩
  have hM2:M2.Perm (Ub ++ Vb):=by rw [hM2e]
  have hMs2:Srt.So (kx l) M2:=by
   rw [hM2e]
   rcases hc213 with h | h
   ·obtain rfl:Ub=[]:=Ye (by omega)
    simpa using hVb
   ·obtain rfl:Vb=[]:=Ye (by omega)
    simpa using hUb
  have hPM:(M1 ++ M2).Perm (U ++ V):=by
   rw [hUab,hVab]
   refine (hM1.append hM2).trans ?_
   simp only [Y8]
   refine List.Perm.append_left Ua ?_
   rw [← Y8,← Y8]
   exact Y1f.append_right Vb
  have hSM:Srt.So (kx l) (M1 ++ M2):=Srt.so_app hMs hMs2 (fun x hx y hy=>hsp2 x (hM1.mem_iff.1 hx) y (hM2.mem_iff.1 hy))
  refine ⟨_,rfl,rfl,M1 ++ M2,hPM,hSM,?_⟩
  rw [hM2e]; simpa using hS
end Go.Proofs.YtfibbpgikjggfaaGreatDoor
namespace Go.Proofs.YtfibbpgikjggfaaGreatDoor
open Gk Rk
set_option maxHeartbeats 400000 in
theorem Xfd {l:List Nat} {p:Addr} {I:Im} (hx:Cx I l p) (b0 n c:Nat) (r:List Value) (hn:l.length=n) (hb:n≤100000) (B w:World) (As:List X9) (hS:Sat B w I (blk b0 ((Srt.upto n).map I64 ++ r) 3::As)) :
  Calls Tryz.prog 226 [.slice (some (ad b0 0)) n c,I64 n,CF p].toArray w (Ret fun v w'=>v=.tuple #[]∧∃ D,Srt.Ord (kx l) n D∧Sat B w' I (blk b0 ((D).map I64 ++ r) 3::As)):=by
 refine calls Xm8 rfl Tryz.ntmps226 rfl (.seq (.q 1 rfl (.seq (.q 3 rfl (.seq (.block (.loop (σ:=Int×Int×List Int×List Int) (fun ⟨a,b,M,R⟩=>[(0,.slice (some (ad b0 0)) n c),(1,I64 n),(2,CF p),(6,I64 20),(7,I64 a),(8,I64 b)]) (fun ⟨a,b,M,R⟩ w=>a=M.length∧b=a+20∧Srt.Full (kx l) 20 M∧Srt.cross M R∧R.Pairwise (·<·)∧(M ++ R).Perm (Srt.upto n)∧Sat B w I (blk b0 ((M ++ R).map I64 ++ r) 3::As)) (fun ⟨a,b,M,R⟩=>R.length) (0,20,[],Srt.upto n) ⟨rfl,rfl,rfl,rfl,rfl,rfl,trivial⟩ ⟨rfl,rfl,.nil,(fun _ h=>by cases h),Srt.upto_lt n,.refl _,hS⟩ ?_)))))))
 rintro ⟨a,b,M,R⟩ w ⟨ha,hb2,hF,hc,hR,hP,hS⟩
 change WC _ _ _ _ [(0,.slice (some (ad b0 0)) n c),(1,I64 n),(2,CF p),(6,I64 20),(7,I64 a),(8,I64 b)] w
 have hPl:=hP.length_eq
 rw [Y0,Srt.upto_len] at hPl
 have hin:∀ x∈R,0≤x∧x<(l.length:Int):=fun x hx=>by rw [hn]; exact Srt.upto_mem.1 (hP.mem_iff.1 (Y1p _ hx))
 refine .seq (.seq (.q 3 rfl ?_))
 refine WC.cond rfl (fun hb13=>?_) (fun hb13=>?_)
 ·
  have hc13:=hb13; try simp only [Y5] at hc13
  refine .skip (.block (.seq (.t 4 rfl ?_)))
  have hTD:R.take 20 ++ R.drop 20=R:=Yw 20 R
  rw [← hTD] at hS
  refine WL.call Xip rfl (X0 (.of rfl) (X0 (.of rfl) (X0 (.of rfl) (X0 (.of rfl) X4)))) rfl (Xn1 hx M (R.take 20) (R.drop 20) (hR.sublist (List.take_sublist 20 R)) (fun x h=>hin x (Y3r h)) b0 n c r _ b (by omega) (by rw [Yq]; omega) (by omega) (by rw [Yq,Yj]; omega) B w As hS) ?_
  clear hS
  rintro _ w ⟨rfl,M2,hM2,hMs,hS⟩
  refine .nil (.seq (.q 2 rfl (.region (.run 4 rfl ⟨⟨by omega,by omega⟩,trivial⟩ (.nil ?_)))))
  refine ⟨(b,b+20,M ++ M2,R.drop 20),⟨rfl,rfl,rfl,rfl,rfl,rfl,trivial⟩,⟨by have h1:=hM2.length_eq; rw [Yq] at h1; (try dsimp only); rw [Y0]; omega,rfl,?_,?_,hR.sublist (List.drop_sublist 20 R),?_,?_⟩,by (try dsimp only); rw [Yj]; omega⟩
  ·exact hF.append (.one (by rw [hM2.length_eq,Yq]; omega) hMs) (Srt.cross_permr (Srt.cross_sub hc (fun _ h=>h) (fun _ h=>Y3r h)) hM2)
  ·refine Srt.cross_app (Srt.cross_sub hc (fun _ h=>h) (fun _ h=>List.mem_of_mem_drop h)) (Srt.cross_perm ?_ hM2)
   intro u hu t ht
   rw [← Yw 20 R] at hR
   exact (Y1n.1 hR).2.2 u hu t ht
  ·rw [Y8]
   refine List.Perm.trans (List.Perm.append_left M (hM2.append_right _)) ?_
   rw [Yw]; exact hP
  ·rw [Y8]; exact hS
 have hc13:=hb13; try simp only [Y5] at hc13
 refine .exit (.seq (.t 4 rfl ?_))
 replace hS:Sat B w I (blk b0 ((M ++ (R ++ [])).map I64 ++ r) 3::As):=by simpa using hS
 refine WL.call Xip rfl (X0 (.of rfl) (X0 (.of rfl) (X0 (.of rfl) (X0 (.of rfl) X4)))) rfl (Xn1 hx M R [] hR hin b0 n c r _ n (by omega) (by omega) (by omega) (by simp only [Yh]; omega) B w As hS) ?_
 clear hS
 rintro _ w ⟨rfl,M2,hM2,hMs,hS⟩
 refine .nil (.block ?_)
 refine WC.loop (σ:=Int×List Int) (fun ⟨s,D⟩=>[(0,.slice (some (ad b0 0)) n c),(1,I64 n),(2,CF p),(6,I64 s)]) (fun ⟨s,D⟩ w=>20≤s∧s≤1000000∧Srt.Runs (kx l) s.toNat D∧D.Perm (Srt.upto n)∧Sat B w I (blk b0 ((D).map I64 ++ r) 3::As)) (fun ⟨s,D⟩=>(n - s:Int).toNat) (20,M ++ M2) ⟨rfl,rfl,rfl,rfl,trivial⟩ ⟨by decide,by decide,⟨M,M2,rfl,hF,by rw [hM2.length_eq]; omega,hMs,Srt.cross_permr hc hM2⟩,(List.Perm.append_left M hM2).trans hP,by simpa using hS⟩ ?_
 rintro ⟨s,D⟩ w ⟨hs20,hsb,hRu,hP,hS⟩
 change WC _ _ _ _ [(0,.slice (some (ad b0 0)) n c),(1,I64 n),(2,CF p),(6,I64 s)] w
 have hDl:=hP.length_eq
 rw [Srt.upto_len] at hDl
 refine .seq (.seq (.q 3 rfl ?_))
 refine WC.cond rfl (fun hb30=>?_) (fun hb30=>?_)
 ·
  have hc30:=hb30; try simp only [Y5] at hc30
  refine .skip (.block (.seq (.region (.run 4 rfl ⟨⟨by omega,by omega⟩,trivial⟩ (.nil (.seq (.block ?_)))))))
  obtain ⟨E0,U0,rfl,hE0,hU0,hU0s,hEU⟩:=hRu
  refine WC.loop (σ:=Int×Int×List Int×List Int) (fun ⟨a,b,Md,E⟩=>[(0,.slice (some (ad b0 0)) n c),(1,I64 n),(2,CF p),(6,I64 s),(7,I64 a),(8,I64 b)]) (fun ⟨a,b,Md,E⟩ w=>a=Md.length∧b=a+2*s∧Srt.Full (kx l) (2*s).toNat Md∧Srt.Full (kx l) s.toNat E∧Srt.cross E U0∧Srt.cross Md (E ++ U0)∧(Md ++ (E ++ U0)).Perm (Srt.upto n)∧Sat B w I (blk b0 ((Md ++ (E ++ U0)).map I64 ++ r) 3::As)) (fun ⟨a,b,Md,E⟩=>E.length) (0,2*s,[],E0) ⟨rfl,rfl,rfl,rfl,rfl,rfl,trivial⟩ ⟨rfl,by (try dsimp only); omega,.nil,hE0,hEU,(fun _ h=>by cases h),hP,hS⟩ ?_
  rintro ⟨a,b,Md,E⟩ w ⟨ha,hb2,hMd,hE,hEU,hc,hP,hS⟩
  change WC _ _ _ _ [(0,.slice (some (ad b0 0)) n c),(1,I64 n),(2,CF p),(6,I64 s),(7,I64 a),(8,I64 b)] w
  have hPl:=hP.length_eq
  rw [Y0,Y0,Srt.upto_len] at hPl
  have hin:∀ x∈E ++ U0,0≤x∧x<(l.length:Int):=fun x hx=>by rw [hn]; exact Srt.upto_mem.1 (hP.mem_iff.1 (Y1p _ hx))
  refine .seq (.seq (.q 3 rfl ?_))
  refine WC.cond rfl (fun hb35=>?_) (fun hb35=>?_)
  ·
   have hc35:=hb35; try simp only [Y5] at hc35
   refine .skip (.block (.seq (.region (.run 7 rfl ⟨⟨by omega,by omega⟩,trivial⟩ ?_))))
   obtain ⟨U,V,T,rfl,hUl,hVl,hUs,hVs,hUV,hUT,hVT,hT⟩:=hE.two (by omega)
   simp only [Y0] at hPl
   have hTU:Srt.cross T U0:=Srt.cross_sub hEU (fun _ h=>by simp [h]) (fun _ h=>h)
   rw [show Md ++ ((U ++ (V ++ T)) ++ U0)=Md ++ (U ++ (V ++ (T ++ U0))) by simp only [Y8]] at hS
   refine WL.call Xhj rfl (X0 (.of rfl) (X0 (.of rfl) (X0 (.of rfl) (X0 (.of rfl) (X0 (.of rfl) X4))))) rfl (Xji hx _ Md U V (T ++ U0) hUs hVs hUV (fun x h=>hin x (by rcases Y12.1 h with h | h <;> simp [h])) (by omega) (by omega) (Ys _) b0 n c r _ _ _ (by omega) (by omega) (by omega) (by omega) (by simp only [Y0]; omega) B w As hS) ?_
   clear hS
   rintro _ w ⟨rfl,M3,hM3,hMs3,hS⟩
   refine .nil (.seq (.q 2 rfl (.region (.run 5 rfl ⟨⟨by omega,by omega⟩,⟨by omega,by omega⟩,trivial⟩ (.nil ?_)))))
   refine ⟨(b,b+2*s,Md ++ M3,T),⟨rfl,rfl,rfl,rfl,rfl,rfl,trivial⟩,⟨by (try dsimp only); rw [Y0,hM3.length_eq,Y0]; omega,rfl,?_,hT,hTU,?_,?_,?_⟩,by (try dsimp only); simp only [Y0]; omega⟩
   ·exact hMd.append (.one (by rw [hM3.length_eq,Y0]; omega) hMs3) (Srt.cross_permr (Srt.cross_sub hc (fun _ h=>h) (fun x h=>by rcases Y12.1 h with h | h <;> simp [h])) hM3)
   ·refine Srt.cross_app (Srt.cross_sub hc (fun _ h=>h) (fun x h=>by rcases Y12.1 h with h | h <;> simp [h])) (Srt.cross_perm ?_ hM3)
    exact Srt.cross_app (Srt.cross_appr hUT (Srt.cross_sub hEU (fun _ h=>Y1m _ h) (fun _ h=>h))) (Srt.cross_appr hVT (Srt.cross_sub hEU (fun _ h=>by simp [h]) (fun _ h=>h)))
   ·refine List.Perm.trans ?_ hP
    simp only [Y8]
    refine List.Perm.append_left Md ?_
    have:=hM3.append_right (T ++ U0)
    simpa [Y8] using this
   ·rw [Y8]; exact hS
  have hc35:=hb35; try simp only [Y5] at hc35
  refine .exit (.seq (.seq (.region (.run 4 rfl ⟨⟨by omega,by omega⟩,trivial⟩ (.nil (.seq (.q 3 rfl ?_)))))))
  refine WC.cond rfl (fun hb54=>?_) (fun hb54=>?_)
  ·
   have hc54:=hb54; try simp only [Y5] at hc54
   refine .t 5 rfl ?_
   have hEf:E.length=s.toNat∧Srt.So (kx l) E:=by
    rcases hE.few (by omega) with h | h
    ·subst h; simp at hPl; omega
    ·exact h
   replace hS:Sat B w I (blk b0 ((Md ++ (E ++ (U0 ++ []))).map I64 ++ r) 3::As):=by simpa using hS
   refine WL.call Xhj rfl (X0 (.of rfl) (X0 (.of rfl) (X0 (.of rfl) (X0 (.of rfl) (X0 (.of rfl) X4))))) rfl (Xji hx _ Md E U0 [] hEf.2 hU0s hEU (fun x h=>hin x h) (by omega) (by omega) (Ys _) b0 n c r _ _ _ (by omega) (by omega) (by omega) (by omega) (by simp only [Yh]; omega) B w As hS) ?_
   clear hS
   rintro _ w ⟨rfl,M3,hM3,hMs3,hS⟩
   refine .nil (.region (.run 3 rfl ⟨⟨by omega,by omega⟩,trivial⟩ (.nil ?_)))
   refine ⟨(s*2,Md ++ M3),⟨rfl,rfl,rfl,rfl,trivial⟩,⟨by omega,by omega,⟨Md,M3,rfl,by rw [show (s*2).toNat=(2*s).toNat by omega]; exact hMd,by rw [hM3.length_eq,Y0]; omega,hMs3,Srt.cross_permr hc hM3⟩,?_,by simpa using hS⟩,by (try dsimp only); omega⟩
   exact (List.Perm.append_left Md hM3).trans hP
  have hc54:=hb54; try simp only [Y5] at hc54
  refine .skip (.region (.run 3 rfl ⟨⟨by omega,by omega⟩,trivial⟩ (.nil ?_)))
  have hq:(E ++ U0).length<(s*2).toNat∧Srt.So (kx l) (E ++ U0):=by
   rcases hE.few (by omega) with h | h
   ·subst h; simp only [Yc]; exact ⟨by omega,hU0s⟩
   ·have hU00:U0=[]:=Ye (by omega)
    subst hU00
    rw [Yg]; exact ⟨by omega,h.2⟩
  refine ⟨(s*2,Md ++ (E ++ U0)),⟨rfl,rfl,rfl,rfl,trivial⟩,⟨by omega,by omega,⟨Md,E ++ U0,rfl,by rw [show (s*2).toNat=(2*s).toNat by omega]; exact hMd,hq.1,hq.2,hc⟩,hP,hS⟩,by (try dsimp only); omega⟩
 have hc30:=hb30; try simp only [Y5] at hc30
 refine .exit (X7d Tryz.results226 ?_)
 refine ⟨_,rfl,rfl,D,⟨hRu.sorted (by omega) (by omega),hP⟩,hS⟩
theorem Xnr (cv:Value) (w:World) :
  Calls Tryz.prog 245 [.slice none 0 0,I64 0,I64 0,cv].toArray w (Ret fun v w'=>v=.tuple #[]∧w=w'):=by
 obtain ⟨w0,hw0⟩:∃ w0,w=w0:=⟨_,rfl⟩
 rw [show (fun (v:Value) (w':World)=>v=.tuple #[]∧w=w')=(fun v w'=>v=.tuple #[]∧w0=w') by rw [hw0]]
 refine calls Xip rfl Tryz.ntmps245 rfl (.seq (.region (.run 3 rfl ⟨⟨by omega,by omega⟩,trivial⟩ (.nil (.block (.loop (σ:=Unit) (fun _=>[(2,I64 0),(8,I64 1)]) (fun _ w=>w=w0) (fun _=>0) () ⟨rfl,rfl,trivial⟩ hw0 ?_))))))
 rintro _ w hw
 change WC _ _ _ _ [(2,I64 0),(8,I64 1)] w
 refine .seq (.seq (.q 3 rfl (.condF (rfl) (.exit (X7d Tryz.results245 ?_)))))
 exact ⟨_,rfl,rfl,hw.symm⟩
theorem Xgr (cv:Value) (w:World) :
  Calls Tryz.prog 226 [.slice none 0 0,I64 0,cv].toArray w (Ret fun v w'=>v=.tuple #[]∧w=w'):=by
 obtain ⟨w0,hw0⟩:∃ w0,w=w0:=⟨_,rfl⟩
 rw [show (fun (v:Value) (w':World)=>v=.tuple #[]∧w=w')=(fun v w'=>v=.tuple #[]∧w0=w') by rw [hw0]]
 refine calls Xm8 rfl Tryz.ntmps226 rfl (.seq (.q 1 rfl (.seq (.q 3 rfl (.seq (.block (.loop (σ:=Unit) (fun _=>[(0,.slice none 0 0),(1,I64 0),(2,cv),(6,I64 20),(7,I64 0),(8,I64 20)]) (fun _ w=>w=w0) (fun _=>0) () ⟨rfl,rfl,rfl,rfl,rfl,rfl,trivial⟩ hw0 ?_)))))))
 rintro _ w hw
 change WC _ _ _ _ [(0,.slice none 0 0),(1,I64 0),(2,cv),(6,I64 20),(7,I64 0),(8,I64 20)] w
 refine .seq (.seq (.q 3 rfl (.condF (rfl) (.exit (.seq (.t 4 rfl (.call Xip rfl (X0 (.of rfl) (X0 (.of rfl) (X0 (.of rfl) (X0 (.of rfl) X4)))) rfl (Xnr _ _) ?_)))))))
 rintro _ _ ⟨rfl,rfl⟩
 refine .nil (.block (.loop (σ:=Unit) (fun _=>[(1,I64 0),(6,I64 20)]) (fun _ w=>w=w0) (fun _=>0) () ⟨rfl,rfl,trivial⟩ hw ?_))
 rintro _ w hw
 change WC _ _ _ _ [(1,I64 0),(6,I64 20)] w
 refine .seq (.seq (.q 3 rfl (.condF (rfl) (.exit (X7d Tryz.results226 ?_)))))
 exact ⟨_,rfl,rfl,hw.symm⟩
theorem Xlk (cv:Value) (w:World) :
  Calls Tryz.prog 190 [.slice none 0 0,cv].toArray w (Ret fun v w'=>v=.tuple #[]∧w=w'):=by
 refine calls Tryz.func190 rfl Tryz.ntmps190 rfl (.region (.run 4 rfl ⟨⟨_,Xm⟩,trivial⟩ (.call Xm8 rfl (X0 (.of rfl) (X0 (.of rfl) (X0 (.of rfl) X4))) rfl (Xgr _ _) ?_)))
 rintro _ _ ⟨rfl,rfl⟩
 refine .nil (X7d Tryz.results190 ?_)
 exact ⟨_,rfl,rfl,rfl⟩
theorem Xf2 {l:List Nat} {p:Addr} {I:Im} (hx:Cx I l p) (b0 n c:Nat) (r:List Value) (hn:l.length=n) (hb:n≤100000) (B w:World) (As:List X9) (hS:Sat B w I (blk b0 ((Srt.upto n).map I64 ++ r) 3::As)) :
  Calls Tryz.prog 190 [.slice (some (ad b0 0)) n c,CF p].toArray w (Ret fun v w'=>v=.tuple #[]∧∃ D,Srt.Ord (kx l) n D∧Sat B w' I (blk b0 ((D).map I64 ++ r) 3::As)):=by
 refine calls Tryz.func190 rfl Tryz.ntmps190 rfl (.region (.run 4 rfl ⟨⟨_,Xm⟩,trivial⟩ (.call Xm8 rfl (X0 (.of rfl) (X0 (.of rfl) (X0 (.of rfl) X4))) rfl (Xfd hx b0 n c r hn hb B w As hS) ?_)))
 clear hS
 rintro _ w ⟨rfl,D,hD,hS⟩
 refine .nil (X7d Tryz.results190 ?_)
 exact ⟨_,rfl,rfl,D,hD,hS⟩
theorem Xle {l:List Nat} {p:Addr} {I:Im} (hx:Cx I l p) (u:Value) (n:Nat) (hn:l.length=n) (hb:n≤100000) (B w:World) (As:List X9) (hS:Sat B w I (Vec 3 1 u n ((Srt.upto n).map I64)::As)) :
  Calls Tryz.prog 190 [u,CF p].toArray w (Ret fun v w'=>v=.tuple #[]∧∃ D,Srt.Ord (kx l) n D∧Sat B w' I (Vec 3 1 u n ((D).map I64)::As)):=by
 rcases Y1k n with h0 | h0
 ·subst h0
  have hcase:u=.slice none 0 0∨∃ b0 c r,u=.slice (some (ad b0 0)) 0 c∧c≤maxLen∧r.length=c∧Sat B w I (blk b0 (([]:List Int).map I64 ++ r) 3::As):=by
   obtain ⟨h,⟨h1,h2,rfl,⟨hl,ha⟩,hr⟩,hg⟩:=hS
   rcases ha with ⟨hv,_,_⟩ | ⟨b,cap,rest,rfl,rfl,h3,h4,h5⟩
   ·exact .inl hv
   ·exact .inr ⟨b,cap,rest,rfl,h4,by simp [Srt.upto] at h5; exact h5,_,⟨_,h2,rfl,rfl,hr⟩,hg⟩
  rcases hcase with rfl | ⟨b0,c,r,rfl,hcm,hrl,hSo⟩
  ·refine (Xlk (CF p) w).mono ?_
   rintro e w' ⟨v,rfl,rfl,rfl⟩
   exact ⟨_,rfl,rfl,[],⟨.nil,.refl _⟩,hS⟩
  ·refine (Xf2 hx b0 0 c r hn (by decide) B w As hSo).mono ?_
   rintro e w' ⟨v,rfl,rfl,D,hD,hS'⟩
   have hD0:D=[]:=Ye hD.len
   subst hD0
   exact ⟨_,rfl,rfl,[],hD,hS'.vecShut (k:=0) (n:=0) (xs:=[]) (size:=1) (cap:=c) (rest:=r) rfl (Yp _) hcm rfl (by simpa using hrl)⟩
 ·obtain ⟨b0,c,r,rfl,hnc,hcm,hxl,hxr,hSo⟩:=hS.vecOpen (k:=0) rfl h0
  refine (Xf2 hx b0 n c r hn hb B w As hSo).mono ?_
  rintro e w' ⟨v,rfl,rfl,D,hD,hS'⟩
  refine ⟨_,rfl,rfl,D,hD,hS'.vecShut (k:=0) (n:=n) (xs:=D.map I64) (size:=1) (cap:=c) (rest:=r) rfl hnc hcm (by rw [Y13,hD.len]; omega) ?_⟩
  rw [Y13,hD.len]
  rw [hxl] at hxr
  omega
theorem Xj3 (l:List Nat) (small:∀ v∈l,v<18446744073709551616) (hl:l.length≤100000) (a:Option Addr) (c:Nat) (B w:World) (I:Im) (hr:RS I a 1 l.length (l.map F64)) (As:List X9) (hS:Sat B w I As) :
  Calls Tryz.prog 148 [.slice a l.length c].toArray w (Ret fun v w'=>∃ D va vc,v=.slice va l.length vc∧Srt.Ord (kx l) l.length D∧Sat B w' I (Vec 3 1 (.slice va l.length vc) l.length (D.map I64)::As)):=by
 refine calls Tryz.func148 rfl Tryz.ntmps148 rfl (.seq (.region (.box1 hS (.of rfl) rfl rfl ?_)))
 clear hS; intro b1 w hS
 refine .q 1 rfl (.nil (.seq (.q 1 rfl (.seq (.seq (.region (.val (.ld (.of rfl) hS (k:=0) rfl Tryz.isAgg167 rfl) rfl (.run 2 rfl ⟨⟨_,Xaf⟩,trivial⟩ (.nil (.block ?_))))))))))
 replace hS:=hS.vecNil 3 1
 refine .loop (σ:=Nat×Option Addr×Nat) (fun ⟨k,va,vc⟩=>[(1,ptr b1 0),(3,.slice va k vc),(6,I64 l.length),(7,I64 (k:Nat))]) (fun ⟨k,va,vc⟩ w=>k≤l.length∧Sat B w I (Vec 3 1 (.slice va k vc) k ((Srt.upto k).map I64)::blk b1 [.slice a l.length c] 167::As)) (fun ⟨k,va,vc⟩=>l.length - k) (0,none,0) ⟨rfl,rfl,rfl,rfl,trivial⟩ ⟨Yp _,hS⟩ ?_
 rintro ⟨k,va,vc⟩ w ⟨hk,hS⟩
 change WC _ _ _ _ [(1,ptr b1 0),(3,.slice va k vc),(6,I64 l.length),(7,I64 (k:Nat))] w
 refine .seq (.q 1 rfl (.seq ?_))
 refine WC.cond rfl (fun hb8=>?_) (fun hb8=>?_)
 ·
  have hc8:=hb8; try simp only [Y5] at hc8
  refine .skip (.seq (.block (.seq (.q 2 rfl (.t 2 rfl (.buildSlice (cs:=[_]) hS (X5 (.of rfl) X6) Xm Qs3 Qz3 rfl rfl rfl rfl ?_))))))
  clear hS; intro b12 w hS
  refine WL.append (size:=1) (bytes:=8) hS (.of rfl) (.of rfl) (k:=0) rfl Xm X2n rfl rfl rfl rfl rfl rfl rfl ⟨by omega,by unfold maxLen; omega⟩ rfl ?_
  clear hS; intro v13 w hS; try dsimp only [List.set] at hS
  obtain ⟨a13,c13,rfl,hcap13,_⟩:=hS.vecSlice (k:=0) (v:=v13) rfl
  refine .q 1 rfl (.nil (.region (.run 2 rfl ⟨⟨by omega,by omega⟩,trivial⟩ (.nil ?_))))
  refine ⟨(k+1,a13,c13),⟨rfl,rfl,rfl,rfl,trivial⟩,⟨by (try dsimp only); omega,?_⟩,by (try dsimp only); omega⟩
  rw [Srt.upto,Yy]; exact hS
 have hc8:=hb8; try simp only [Y5] at hc8
 refine .exit (.seq (.t 1 rfl (.val (.makeFunc (X0 (.of rfl) X4)) rfl ?_)))
 obtain rfl:k=l.length:=by omega
 obtain ⟨J,hJ,hJb,hT⟩:=hS.freeze (k:=1) rfl; clear hS; have hS:=hT; clear hT; try dsimp only [List.eraseIdx] at hS
 have hcx:Cx J l (ad b1 0):=⟨⟨a,c,⟨rfl,_,_,_,hJb,fun j v h=>by simpa using h⟩,hr.mono hJ⟩,small⟩
 refine .call Tryz.func190 rfl (X0 (.of rfl) (X0 (.of rfl) X4)) rfl (Xle hcx _ l.length rfl (by omega) B w As hS) ?_
 clear hS
 rintro _ w ⟨rfl,D,hD,hS⟩
 refine .nil (.seq (.q 2 rfl (.ret (Xe Tryz.results148 rfl ?_))))
 exact ⟨_,rfl,D,va,vc,rfl,hD,hS.weaken hJ⟩
end Go.Proofs.YtfibbpgikjggfaaGreatDoor
namespace Go.Proofs.YtfibbpgikjggfaaGreatDoor
open Gk
def few1 (s:Sv):Bool:=!((decide (100<(s.urls.length:Int)) && decide ((s.urls.length:Int)≤200) || decide (100<(s.calls.length:Int)) && decide ((s.calls.length:Int)≤200)) || decide (20<(s.rel.length:Int)))
def few (l:List Sv):Bool:=l.all few1 && decide ((l.length:Int)≤20)
end Go.Proofs.YtfibbpgikjggfaaGreatDoor
namespace Go.Proofs.YtfibbpgikjggfaaGreatDoor
open Gk Pat
def bad (l:List Sv) (i:Nat) (s:Sv):Nat :=
 if i=16 then 5 else if (decide (s.id<0) || decide (8<(s.rel.length:Int)))=true then 1 else if (l.take i).any (fun t=>t.id == s.id)=true then 7
 else if (((Pat.chk s.urls).1 != 0) || ((Pat.chk s.calls).1 != 0))=true then 8 else 0
def X4w (l:List Sv):Nat→List Sv→Nat×Nat
 | _,[]=>(0,0)
 | i,s::r=>if bad l i s≠0 then (bad l i s,i) else X4w l (i+1) r
def X5i (l:List Sv):Nat×Nat:=X4w l 0 l
theorem X44 (l:List Sv):∀ (n i:Nat) (r:List Sv),(∀ j s,j<n→r[j]?=some s→bad l (i+j) s=0)→X4w l i r=X4w l (i+min n r.length) (r.drop n)
 | 0,i,r,_=>by simp
 | n+1,i,[],_=>by simp [X4w]
 | n+1,i,s::r,h=>by
  have h0:=h 0 s (by omega) rfl
  rw [Y2d] at h0
  rw [X4w,if_neg (by rw [h0]; decide),X44 l n (i+1) r (fun j t hj ht=>by have:=h (j+1) t (by omega) (by simpa using ht); rw [show i+1+j=i+(j+1) by omega]; exact this),Y9,Y6]
  congr 1
  omega
theorem Xjk {l:List Sv} {i:Nat} {s:Sv} (h:∀ j t,j<i→l[j]?=some t→bad l j t=0) (hs:l[i]?=some s) (hb:bad l i s≠0):X5i l=(bad l i s,i):=by
 have hi:=(Y4.1 hs).1
 unfold X5i
 rw [X44 l i 0 l (fun j t hj ht=>by rw [Yf]; exact h j t hj ht),Yf,Y31 (by omega),Y1e hi,(Y4.1 hs).2,X4w,if_pos hb]
theorem Xfk {l:List Sv} (h:∀ j t,l[j]?=some t→bad l j t=0):X5i l=(0,0):=by
 unfold X5i
 rw [X44 l l.length 0 l (fun j t _ ht=>by rw [Yf]; exact h j t ht),Y39]
 rfl
end Go.Proofs.YtfibbpgikjggfaaGreatDoor
namespace Go.Proofs.YtfibbpgikjggfaaGreatDoor
open Gk
def SvsIn (I:Im) (a:Option Addr) (L:List (List Value)) (l:List Sv):Prop:=L.length=l.length∧∀ (i:Nat) (s:Sv),l[i]?=some s→∃ p c,a=some p∧L[i]?=some c∧At I (p.add (i*8)) c∧SvAt I s c
theorem SvsIn.mono {I J:Im} {a:Option Addr} {L:List (List Value)} {l:List Sv} (h:SvsIn I a L l) (hl:Le I J):SvsIn J a L l:=⟨h.1,fun i s hs=>by
 obtain ⟨p,c,e,h0,h1,h2⟩:=h.2 i s hs
 exact ⟨p,c,e,h0,h1.mono hl,h2.mono hl⟩⟩
theorem SvsIn.svs {I:Im} {a:Option Addr} {L:List (List Value)} {l:List Sv} (h:SvsIn I a L l):SvsAt I a l:=fun i s hs=>by
 obtain ⟨p,c,e,h0,h1,ra,rc,rfl,h2,h3⟩:=h.2 i s hs
 exact ⟨p,ra,rc,e,h1,h2,h3⟩
def X96 (L:List (List Value)) (D:List Int):List (List Value):=D.map fun d=>L.getD d.toNat []
def ords (l:List Sv):List Nat:=l.map Sv.ord
end Go.Proofs.YtfibbpgikjggfaaGreatDoor
namespace Go.Proofs.YtfibbpgikjggfaaGreatDoor
open Gk Pat
theorem Xlt (xs:List Value) (x y:Value) (r:List Value):((xs ++ [x]) ++ r).set (0+(xs.length:Int).toNat*1) y=(xs ++ [y]) ++ r:=by
 rw [Yk,Yf,Y1i,Y8,Y2f _ _ (Ys _)]
 simp
theorem Xp8 {l:List UInt8} {k:Nat} (h:X1o (l.drop (k:Int).toNat) [42,42]=true) (hk:k<l.length):k+1<l.length:=by
 simp [X1o] at h
 omega
theorem Xkz {l:List UInt8} {k:Nat} (h:X1o (l.drop (k:Int).toNat) [42,42]=true) (hk:k+1<l.length):(at_ l ((k+1:Nat):Int)).toNat=42:=by
 rw [Yk,Xc l (k:=k) (by omega),Xc l (k:=k+1) hk] at h
 simp [X1o] at h
 rw [show ((k+1:Nat):Int)=(k:Int)+1 from rfl,h.2.2]; rfl
theorem star1 {l:List UInt8} {k:Nat} {Q:List Pl} {stk:List PFr} {ats:List Int} {X:Except (Int×Int) (List Pl)} (h:X1o (l.drop (k:Int).toNat) [42,42]=false) (hk:k<l.length∧(at_ l (k:Int)).toNat=42)
  (e:(match l.drop (k+1) with
   | d::r'=>if d.toNat=42 then cmpGo r' ((k:Int)+2) (Q ++ [(2,0,[])]) stk ats else cmpGo (d::r') ((k:Int)+1) (Q ++ [(3,0,[])]) stk ats
   | []=>cmpGo [] ((k:Int)+1) (Q ++ [(3,0,[])]) stk ats)=X):cmpGo (l.drop (k+1)) ((k:Int)+1) (Q ++ [(3,0,[])]) stk ats=X:=by
 cases hd:l.drop (k+1) with
 | nil=>rw [hd] at e; exact e
 | cons d r =>
  rw [hd] at e
  have hne:¬ d.toNat=42:=fun h42=>by
   rw [Yk,Xc l (k:=k) hk.1,hd] at h
   have h1:at_ l (k:Int)=42:=Yz.1 hk.2
   have h2:d=42:=Yz.1 h42
   rw [h1,h2] at h
   simp [X1o] at h
   omega
  simp only [hne,if_false] at e
  exact e
theorem Xfh:Bld Tryz.prog 235 [(0,1),(1,1)] [.slice none 0 0,.int .i64 0]:=X2l Xd5 Tryz.zeroValue235 (fun w=>by simp [go_sem])
theorem Xgq:Bld Tryz.prog 267 [(0,1),(1,1),(2,1)] [.slice none 0 0,.slice none 0 0,.slice none 0 0]:=X2l X1c Tryz.zeroValue267 (fun w=>by simp [go_sem])
set_option maxHeartbeats 1600000 in
theorem Xcz (l:List UInt8) (B w:World) (I:Im) (As:List X9) (hS:Sat B w I As) (hl:l.length≤9223372036854775807) :
  Calls Tryz.prog 189 [S l].toArray w (Ret fun v w'=>(∃ e a J,cmp l=.error (e,a)∧v=.tuple #[.pointer none,I64 e,I64 a]∧Le I J∧Sat B w' J As) ∨
   (∃ Q p J,cmp l=.ok Q∧v=.tuple #[.pointer (some p),I64 0,I64 0]∧Le I J∧PatI J p Q l.length∧Sat B w' J As)):=by
 refine calls Tryz.func189 rfl Tryz.ntmps189 rfl (.seq (.q 3 rfl (.seq (.seq (.region (.run 3 rfl ⟨Qu9,trivial⟩ (.nil ?_)))))))
 refine WC.cond rfl (fun hb12=>?_) (fun hb12=>?_)
 ·
  have hc12:=hb12; try simp only [Y5] at hc12
  refine .seq (.q 3 rfl (.ret (X8v Xd0 rfl rfl rfl ?_)))
  exact ⟨_,rfl,.inl ⟨_,_,I,by rw [cmp,if_pos (by omega)],rfl,Le.refl I,hS⟩⟩
 have hc12:=hb12; try simp only [Y5] at hc12
 refine .skip (.seq (.region (.val (.build (cs:=[_,_,_]) X6 Xgq rfl) rfl (.boxA (cs:=[_,_,_]) hS (.of rfl) rfl ?_))))
 clear hS; intro b14 w hS
 have hS:=((((Xfi hS).vecNil 3 1).vecNil 168 1).vecNil 238 3).pick 4 rfl; try dsimp only [List.eraseIdx] at hS
 refine .q 1 rfl (.nil (.seq (.seq (.q 1 rfl (.block ?_)))))
 refine WC.loop (σ:=Nat×List PFr×List (Value×List Int)×List Pl×List X1v×Value×Value×Value×List Int×Im) (fun ⟨k,stk,st,Q,P,lv,sv,av,ats,J⟩=>[(0,S l),(5,ptr b14 0),(6,I64 (k:Nat))]) (fun ⟨k,stk,st,Q,P,lv,sv,av,ats,J⟩ w=>k≤l.length∧Q.length≤k∧st.map (·.2)=stk.reverse.map mks∧stk.length≤4∧ats.length=stk.length∧Frames Q Q.length stk∧RelP J P Q∧Le I J∧cmpGo (l.drop k) k Q stk ats=cmp l∧Sat B w J (blk b14 [lv,sv,av] 267::Vec 238 3 lv P.length (P.flatMap enc)::Vec 168 1 sv st.length (st.map (·.1))::Vec 3 1 av ats.length (ats.map I64)::X31 3 st::As)) (fun ⟨k,stk,st,Q,P,lv,sv,av,ats,J⟩=>l.length - k) (0,[],[],[],[],.slice none 0 0,.slice none 0 0,.slice none 0 0,[],I) ⟨rfl,rfl,rfl,trivial⟩ ⟨Yp _,Ys _,rfl,by simp,rfl,trivial,RelP.nil _,Le.refl _,by rw [cmp,if_neg (by omega)]; rfl,hS⟩ ?_
 rintro ⟨k,stk,st,Q,P,lv,sv,av,ats,J⟩ w ⟨hk,hQk,hst,hlen4,hats,hF,hR,hJ,hq,hS⟩
 change WC _ _ _ _ [(0,S l),(5,ptr b14 0),(6,I64 (k:Nat))] w
 obtain ⟨la,lc,rfl,hlc,_⟩:=hS.vecSlice (k:=1) rfl
 obtain ⟨sa,sc,rfl,hsc,_⟩:=hS.vecSlice (k:=2) rfl
 obtain ⟨aa,ac,rfl,hac,_⟩:=hS.vecSlice (k:=3) rfl
 have hst2:st.length=stk.length:=by have:=congrArg List.length hst; simpa using this
 have hPQ:=hR.1
 refine .seq (.seq (.region (.run 4 rfl ⟨Qu9,trivial⟩ (.nil ?_))))
 refine WC.cond rfl (fun hb18=>?_) (fun hb18=>?_)
 ·
  have hc18:=hb18; try simp only [Y5] at hc18
  refine .skip (.seq (.block (.seq (.t 2 rfl (.val (.fieldAddr 1 (.of rfl) X1c rfl rfl X3u rfl) rfl (.val (.ld (.of rfl) hS (k:=0) rfl Xd8 rfl) rfl (.run 2 rfl ⟨⟨_,X68⟩,trivial⟩ (.nil (.seq (.region (.run 4 rfl ⟨⟨⟨by omega,by omega⟩,Qu9⟩,trivial⟩ (.nil (.seq (.q 1 rfl (.block (.seq (.q 2 rfl ?_)))))))))))))))))
  refine WC.cond rfl (fun hb33=>?_) (fun hb33=>?_)
  ·
   have hc33:=hb33; try simp only [Y5] at hc33
   refine .t 1 rfl (.call X67 rfl (X0 (.of rfl) (X0 (.of rfl) (X0 (.of rfl) X4))) rfl (X29 _ P.length _ _ _ _ _ _ _ _ _ _ hS (by omega)) ?_)
   clear hS
   rintro _ w ⟨rfl,lv2,hS⟩
   refine .nil (.region (.run 3 rfl ⟨⟨by omega,by omega⟩,trivial⟩ (.nil ?_)))
   have e9:=hq
   rw [Xc l (by omega),Xg,if_pos (by omega)] at e9
   refine ⟨(k+1,stk,st,Q ++ [(1,0,[])],P ++ [(1,0,.slice none 0 0)],lv2,.slice sa st.length sc,.slice aa ats.length ac,ats,J),⟨rfl,rfl,rfl,trivial⟩,⟨by omega,by rw [Y0]; simp; omega,hst,hlen4,hats,hF.app _,hR.snoc _ _ _ _ (IntsI.nil _),hJ,e9,?_⟩,by dsimp only; omega⟩
   rw [Y0,Y1o]; exact hS
  have hc33:=hb33; try simp only [Y5] at hc33
  refine .seq (.q 2 rfl ?_)
  refine WC.cond rfl (fun hb37=>?_) (fun hb37=>?_)
  ·
   have hc37:=hb37; try simp only [Y5] at hc37
   refine .seq (.t 2 rfl (.val (.subFrom (.of rfl) (.of rfl) (by omega) (by omega) Qu9) rfl ?_))
   refine WL.call Qf90 rfl (X0 (.of rfl) (X0 (.of rfl) X4)) rfl (X1m _ _ _ (by simp; omega) (by simp)) ?_
   rintro _ _ ⟨rfl,rfl⟩
   refine .nil ?_
   refine WC.cond rfl (fun hb42=>?_) (fun hb42=>?_)
   ·
    have hc42:=hb42; try simp only [Y5] at hc42
    refine .seq (.t 1 rfl (.call X67 rfl (X0 (.of rfl) (X0 (.of rfl) (X0 (.of rfl) X4))) rfl (X29 _ P.length _ _ _ _ _ _ _ _ _ _ hS (by omega)) ?_))
    clear hS
    rintro _ w ⟨rfl,lv2,hS⟩
    refine .nil (.region (.run 3 rfl ⟨⟨by omega,by omega⟩,trivial⟩ (.nil (.region (.run 3 rfl ⟨⟨by omega,by omega⟩,trivial⟩ (.nil ?_))))))
    have e9:=hq
    have hk2:k+1<l.length:=Xp8 hb42 (by omega)
    rw [Xc l (by omega),Xg,if_neg (by omega),if_pos (by omega),Xc l hk2] at e9
    simp only [] at e9
    rw [if_pos (Xkz hb42 hk2)] at e9
    refine ⟨(k+2,stk,st,Q ++ [(2,0,[])],P ++ [(2,0,.slice none 0 0)],lv2,.slice sa st.length sc,.slice aa ats.length ac,ats,J),⟨rfl,rfl,rfl,trivial⟩,⟨by omega,by rw [Y0]; simp; omega,hst,hlen4,hats,hF.app _,hR.snoc _ _ _ _ (IntsI.nil _),hJ,e9,?_⟩,by dsimp only; omega⟩
    rw [Y0,Y1o]; exact hS
   have hc42:=hb42; try simp only [Y5] at hc42
   refine .t 1 rfl (.call X67 rfl (X0 (.of rfl) (X0 (.of rfl) (X0 (.of rfl) X4))) rfl (X29 _ P.length _ _ _ _ _ _ _ _ _ _ hS (by omega)) ?_)
   clear hS
   rintro _ w ⟨rfl,lv2,hS⟩
   refine .nil (.region (.run 3 rfl ⟨⟨by omega,by omega⟩,trivial⟩ (.nil ?_)))
   have e9:=hq
   rw [Xc l (by omega),Xg,if_neg (by omega),if_pos (by omega)] at e9
   have e9:=star1 hb42 (by omega) e9
   refine ⟨(k+1,stk,st,Q ++ [(3,0,[])],P ++ [(3,0,.slice none 0 0)],lv2,.slice sa st.length sc,.slice aa ats.length ac,ats,J),⟨rfl,rfl,rfl,trivial⟩,⟨by omega,by rw [Y0]; simp; omega,hst,hlen4,hats,hF.app _,hR.snoc _ _ _ _ (IntsI.nil _),hJ,e9,?_⟩,by dsimp only; omega⟩
   rw [Y0,Y1o]; exact hS
  have hc37:=hb37; try simp only [Y5] at hc37
  refine .seq (.q 2 rfl ?_)
  refine WC.cond rfl (fun hb49=>?_) (fun hb49=>?_)
  ·
   have hc49:=hb49; try simp only [Y5] at hc49
   refine .seq (.seq (.q 2 rfl ?_))
   refine WC.cond rfl (fun hb52=>?_) (fun hb52=>?_)
   ·
    have hc52:=hb52; try simp only [Y5] at hc52
    refine .seq (.q 4 rfl (.ret (X8v Xd0 rfl rfl rfl ?_)))
    have e9:cmp l=.error (24,(k:Int)):=by rw [← hq,Xc l (by omega),Xg,if_neg (by omega),if_neg (by omega),if_pos (by omega),if_pos (by omega)]
    exact ⟨_,rfl,.inl ⟨_,_,J,e9,rfl,hJ,((((hS.drop (k:=0) rfl).drop (k:=0) rfl).drop (k:=0) rfl).drop (k:=0) rfl).drop (k:=0) rfl⟩⟩
   have hc52:=hb52; try simp only [Y5] at hc52
   refine .skip (.t 2 rfl (.call Tryz.func224 rfl (X0 (.of rfl) (X0 (.of rfl) X4)) rfl (Xdb _ P.length _ _ _ _ st ats _ _ _ _ _ hS (by omega) (by omega) (by omega)) ?_))
   clear hS
   rintro _ w ⟨rfl,lv2,sv2,av2,mv2,hS⟩
   refine .nil (.region (.run 3 rfl ⟨⟨by omega,by omega⟩,trivial⟩ (.nil ?_)))
   have e9:=hq
   rw [Xc l (by omega),Xg,if_neg (by omega),if_neg (by omega),if_pos (by omega),if_neg (by omega)] at e9
   have hx:=hR.1
   refine ⟨(k+1,(Q.length,[])::stk,st ++ [(mv2,[(P.length:Int)])],Q ++ [(4,0,[])],P ++ [(4,0,.slice none 0 0)],lv2,sv2,av2,ats ++ [(k:Int)],J),⟨rfl,rfl,rfl,trivial⟩,⟨by omega,by rw [Y0]; simp; omega,?_,by simp; omega,by simp [hats],⟨by simp,by simp,by simp,fun b hb=>by simp at hb,hF.grow (by simp) (by simp) fun i hi hq2=>by rw [Yi hi]; exact hq2⟩,hR.snoc _ _ _ _ (IntsI.nil _),hJ,e9,?_⟩,by dsimp only; omega⟩
   ·simp [hst,mks,hx]
   ·simp only [Y0,Y1o,Yy,Y25,Y1c,Y3d]; exact hS
  have hc49:=hb49; try simp only [Y5] at hc49
  refine .seq (.seq (.q 2 rfl ?_))
  refine WC.cond rfl (fun hb57=>?_) (fun hb57=>?_)
  ·
   have hc57:=hb57; try simp only [Y5] at hc57
   refine .skip ?_
   refine WC.cond rfl (fun hb57=>?_) (fun hb57=>by exfalso; simp only [Y5] at hb57; omega)
   have hc57:=hb57; try simp only [Y5] at hc57
   refine .seq (.seq (.q 2 rfl ?_))
   refine WC.cond rfl (fun hb61=>?_) (fun hb61=>?_)
   ·
    have hc61:=hb61; try simp only [Y5] at hc61
    refine .seq (.q 4 rfl (.ret (X8v Xd0 rfl rfl rfl ?_)))
    obtain rfl:stk=[]:=Ye (by omega)
    have e9:cmp l=.error (10,(k:Int)):=by rw [← hq,Xc l (by omega),Xg,if_neg (by omega),if_neg (by omega),if_neg (by omega),if_pos (by omega)]
    exact ⟨_,rfl,.inl ⟨_,_,J,e9,rfl,hJ,((((hS.drop (k:=0) rfl).drop (k:=0) rfl).drop (k:=0) rfl).drop (k:=0) rfl).drop (k:=0) rfl⟩⟩
   have hc61:=hb61; try simp only [Y5] at hc61
   refine .skip (.seq (.seq (.q 2 rfl ?_)))
   refine WC.cond rfl (fun hb64=>by exfalso; simp only [Y5] at hb64; omega) (fun hb64=>?_)
   have hc64:=hb64; try simp only [Y5] at hc64
   refine .skip (.seq ?_)
   obtain ⟨o,bs,rest,rfl⟩:∃ o bs rest,stk=(o,bs)::rest:=by
    cases stk with
    | nil=>exfalso; have:st.length=0:=hst2; omega
    | cons f r=>exact ⟨f.1,f.2,r,rfl⟩
   obtain ⟨st0,mv,rfl,hst0⟩:=Xet hst
   obtain ⟨hf1,hf2,hf3,hf4,hf5⟩:=id hF
   simp only [Yy,Y1c,Y3d,Y0,Y25] at hS
   have hl0:st0.length+1=rest.length+1:=by simpa using hst2
   have hats2:ats.length=rest.length+1:=by simpa using hats
   have hlen5:rest.length+1≤4:=by simpa using hlen4
   obtain ⟨gs,sc2,rs,hv8,hsc1,hsc2,hsc3,hsc4,hS⟩:=hS.vecOpen (k:=2) rfl (by omega)
   injection hv8 with hv8 _ hv9; subst hv8; subst hv9; try dsimp only [List.set] at hS
   have e4:X31 3 (st0 ++ [(mv,mks (o,bs))])=SepAll ((st0.map fun x=>Vec 3 1 x.1 x.2.length (x.2.map I64)) ++ [Vec 3 1 mv (mks (o,bs)).length ((mks (o,bs)).map I64)]):=by rw [X31,Yy]; rfl
   rw [e4] at hS
   replace hS:=hS.pop (k:=4) rfl; try dsimp only [List.set] at hS
   obtain ⟨ma,mc,rfl,hmc,_⟩:=hS.vecSlice (k:=0) rfl
   have hmk:(mks (o,bs)).length=bs.length+1:=by simp [mks]
   have e28:(((st0 ++ [(Value.slice ma (mks (o,bs)).length mc,mks (o,bs))]).length:Nat):Int) - 1=(st0.length:Int):=by simp
   refine .drawn (fun w=>∃ R,Sat B w J (blk gs ((st0.map (·.1) ++ [Value.slice ma (mks (o,bs)).length mc]) ++ rs) 168::blk b14 [.slice la P.length lc,.slice (some (ad gs 0)) (st0.length+1) sc,.slice aa ats.length ac] 267::R)) (fun j=>!([22].contains j)) (by kernel_rfl) ?_
   replace hS:=hS.drew; generalize w.drew=w at hS ⊢
   have hH:∃ R,Sat B w J (blk gs ((st0.map (·.1) ++ [Value.slice ma (mks (o,bs)).length mc]) ++ rs) 168::blk b14 [.slice la P.length lc,.slice (some (ad gs 0)) (st0.length+1) sc,.slice aa ats.length ac] 267::R):=⟨_,((hS.pick 1 rfl).pick 3 rfl)⟩
   refine .tp (i:=0) rfl (by kernel_rfl) (fun w=>(.move (.of rfl))) rfl (.tp (i:=1) rfl (by kernel_rfl) (fun w=>(.nilCheck (.of rfl))) rfl (.tp (i:=2) rfl (by kernel_rfl) (fun w=>(.fieldAddr 1 (.of rfl) X1c rfl rfl X3u rfl)) rfl (.tk (i:=3) rfl (by kernel_rfl) hH (fun w ⟨R,hS⟩=>(.ld (.of rfl) hS (k:=1) rfl Xd8 rfl)) rfl (.tp (i:=4) rfl (by kernel_rfl) (fun w=>(.move (.of rfl))) rfl (.tp (i:=5) rfl (by kernel_rfl) (fun w=>(.sub (.of rfl) (.of rfl) ⟨by omega,by omega⟩)) rfl (.tp (i:=6) rfl (by kernel_rfl) (fun w=>(.move (.of rfl))) rfl (.tp (i:=7) rfl (by kernel_rfl) (fun w=>(.nilCheck (.of rfl))) rfl (.tp (i:=8) rfl (by kernel_rfl) (fun w=>(.fieldAddr 1 (.of rfl) X1c rfl rfl X3u rfl)) rfl (.tk (i:=9) rfl (by kernel_rfl) hH (fun w ⟨R,hS⟩=>(.ld (.of rfl) hS (k:=1) rfl Xd8 rfl)) rfl (.tp (i:=10) rfl (by kernel_rfl) (fun w=>(.move (.of rfl))) rfl (.tp (i:=11) rfl (by kernel_rfl) (fun w=>(.sub (.of rfl) (.of rfl) ⟨by omega,by omega⟩)) rfl (.tp (i:=12) rfl (by kernel_rfl) (fun w=>(.indexAddr (.of rfl) (.of rfl) (by omega) (by omega) X68 X1n)) rfl ?_))))))))))))
   refine WD.tk (i:=13) rfl (by kernel_rfl) hH (fun w ⟨R,hS⟩=>.ld (.of rfl) hS (k:=0) rfl Xbv (v:=Value.slice ma (mks (o,bs)).length mc) (by rw [e28]; simp)) rfl ?_
   refine .tp (i:=14) rfl (by kernel_rfl) (fun w=>(.move (.of rfl))) rfl (.tp (i:=15) rfl (by kernel_rfl) (fun w=>(.nilCheck (.of rfl))) rfl (.tp (i:=16) rfl (by kernel_rfl) (fun w=>(.fieldAddr 0 (.of rfl) X1c rfl rfl X56 rfl)) rfl (.tk (i:=17) rfl (by kernel_rfl) hH (fun w ⟨R,hS⟩=>(.ld (.of rfl) hS (k:=1) rfl X6k rfl)) rfl (.tp (i:=18) rfl (by kernel_rfl) (fun w=>(.lenSlice (.of rfl) X62)) rfl ?_))))
   refine WD.branch [19] (by kernel_rfl) rfl (WO.cons rfl ?_ (WO.nil))
   refine .buildSlice (cs:=[_]) hS (X5 (.of rfl) X6) Xm Qs3 Qz3 rfl rfl rfl rfl ?_
   clear hS; intro b86 w hS
   refine .nil ?_
   clear hH
   have hH:∃ R,Sat B w J (blk gs ((st0.map (·.1) ++ [Value.slice ma (mks (o,bs)).length mc]) ++ rs) 168::blk b14 [.slice la P.length lc,.slice (some (ad gs 0)) (st0.length+1) sc,.slice aa ats.length ac] 267::R):=⟨_,((hS.pick 2 rfl).pick 4 rfl)⟩
   refine And.intro (by intro _ _; exact hH) ?_
   refine WD.branch [20] (by kernel_rfl) rfl (WO.cons rfl ?_ (WO.nil))
   refine WL.append (size:=1) (bytes:=8) hS (.of rfl) (.of rfl) (k:=0) rfl Xm X2n rfl rfl rfl rfl rfl rfl rfl ⟨by omega,by unfold maxLen; omega⟩ rfl ?_
   clear hS; intro v87 w hS; try dsimp only [List.set] at hS
   obtain ⟨a87,c87,rfl,hcap87,_⟩:=hS.vecSlice (k:=0) (v:=v87) rfl
   have hm28:mks (o,bs ++ [Q.length])=mks (o,bs) ++ [(P.length:Int)]:=by simp [mks,hR.1]
   refine .nil ?_
   clear hH
   have hH:∃ R,Sat B w J (blk gs ((st0.map (·.1) ++ [Value.slice ma (mks (o,bs)).length mc]) ++ rs) 168::blk b14 [.slice la P.length lc,.slice (some (ad gs 0)) (st0.length+1) sc,.slice aa ats.length ac] 267::R):=⟨_,((hS.pick 1 rfl).pick 3 rfl)⟩
   refine And.intro (by intro _ _; exact hH) ?_
   refine .tp (i:=21) rfl (by kernel_rfl) (fun w=>(.indexAddr (.of rfl) (.of rfl) (by omega) (by omega) X68 X1n)) rfl ?_
   refine WD.branch [22] (by kernel_rfl) rfl (WO.cons rfl ?_ (WO.nil))
   refine WL.st1 hS (k:=3) rfl (.of rfl) (.of rfl) rfl X1n (by rw [e28]; simp) ?_
   clear hS; intro w hS; try dsimp only [List.set] at hS
   rw [e28,show (st0.length:Int)=((st0.map (·.1)).length:Int) by simp,Xlt] at hS
   replace hS:=hS.vecShut (k:=3) (n:=st0.length+1) (cap:=sc) (size:=1) rfl hsc1 hsc2 (by simp) (by simpa using hsc4); try dsimp only [List.set] at hS
   replace hS:=hS.push (k:=4) rfl; try dsimp only [List.set] at hS
   replace hS:=hS.say (k:=4) (A':=X31 3 (st0 ++ [(.slice a87 ((mks (o,bs)).length+1) c87,mks (o,bs ++ [Q.length]))])) rfl (fun h hh=>by rw [hm28,X31,Yy]; simp only [Y1c,Y3d,Y0,Y25,Yy]; exact hh); try dsimp only [List.set] at hS
   refine .nil ?_
   refine And.intro (by intro h; cases h) ?_
   refine .done (by kernel_rfl) (.t 1 rfl (.call X67 rfl (X0 (.of rfl) (X0 (.of rfl) (X0 (.of rfl) X4))) rfl (X29 _ P.length _ _ _ _ _ _ _ _ _ _ hS (by omega)) ?_))
   clear hS
   rintro _ w ⟨rfl,lv2,hS⟩
   refine .nil (.region (.run 3 rfl ⟨⟨by omega,by omega⟩,trivial⟩ (.nil ?_)))
   have e9:=hq
   rw [Xc l (by omega),Xg,if_neg (by omega),if_neg (by omega),if_neg (by omega),if_pos (by omega)] at e9
   simp only [] at e9
   have hx:=hR.1
   refine ⟨(k+1,(o,bs ++ [Q.length])::rest,st0 ++ [(.slice a87 ((mks (o,bs)).length+1) c87,mks (o,bs ++ [Q.length]))],Q ++ [(5,0,[])],P ++ [(5,0,.slice none 0 0)],lv2,.slice (some (ad gs 0)) (st0.length+1) sc,.slice aa ats.length ac,ats,J),⟨rfl,rfl,rfl,trivial⟩,⟨by omega,by rw [Y0]; simp; omega,?_,by simpa using hlen4,by simpa using hats,⟨?_,?_,?_,?_,?_⟩,hR.snoc _ _ _ _ (IntsI.nil _),hJ,e9,?_⟩,by dsimp only; omega⟩
   ·simp [hst0]
   ·simp; omega
   ·rw [Yi hf1]; exact hf2
   ·simp; omega
   ·intro b hb
    rcases Y12.1 hb with hb | hb
    ·have:=hf4 b hb; simp; omega
    ·simp at hb; subst hb; simp; omega
   ·exact hf5.grow (Ys _) (by simp) fun i hi hq2=>by rw [Yi (by omega)]; exact hq2
   ·simp only [Y0,Y1o,Yy,Y25,Y1c,Y3d]; exact hS
  have hc57:=hb57; try simp only [Y5] at hc57
  refine .q 2 rfl ?_
  refine WC.cond rfl (fun hb57=>?_) (fun hb57=>?_)
  ·
   have hc57:=hb57; try simp only [Y5] at hc57
   refine .seq (.seq (.q 2 rfl ?_))
   refine WC.cond rfl (fun hb61=>?_) (fun hb61=>?_)
   ·
    have hc61:=hb61; try simp only [Y5] at hc61
    refine .seq (.q 4 rfl (.ret (X8v Xd0 rfl rfl rfl ?_)))
    obtain rfl:stk=[]:=Ye (by omega)
    have e9:cmp l=.error (10,(k:Int)):=by rw [← hq,Xc l (by omega),Xg,if_neg (by omega),if_neg (by omega),if_neg (by omega),if_neg (by omega),if_pos (by omega)]
    exact ⟨_,rfl,.inl ⟨_,_,J,e9,rfl,hJ,((((hS.drop (k:=0) rfl).drop (k:=0) rfl).drop (k:=0) rfl).drop (k:=0) rfl).drop (k:=0) rfl⟩⟩
   have hc61:=hb61; try simp only [Y5] at hc61
   refine .skip (.seq (.seq (.q 2 rfl ?_)))
   refine WC.cond rfl (fun hb64=>?_) (fun hb64=>by exfalso; simp only [Y5] at hb64; omega)
   have hc64:=hb64; try simp only [Y5] at hc64
   refine .seq (.t 1 rfl ?_)
   obtain ⟨o,bs,rest,rfl⟩:∃ o bs rest,stk=(o,bs)::rest:=by
    cases stk with
    | nil=>exfalso; have:st.length=0:=hst2; omega
    | cons f r=>exact ⟨f.1,f.2,r,rfl⟩
   obtain ⟨st0,mv,rfl,hst0⟩:=Xet hst
   obtain ⟨hf1,hf2,hf3,hf4,hf5⟩:=id hF
   simp only [Yy,Y1c,Y3d,Y0,Y25] at hS
   have hl0:st0.length+1=rest.length+1:=by simpa using hst2
   have hats2:ats.length=rest.length+1:=by simpa using hats
   have hlen5:rest.length+1≤4:=by simpa using hlen4
   refine WL.call Tryz.func225 rfl (X0 (.of rfl) X4) rfl (Xjo _ _ _ _ mv P Q st0 o bs ats _ _ _ _ hS hR (fun b hb=>by have:=hf4 b hb; have hx:=hR.1; omega) (by have hx:=hR.1; omega) 4 0 (hR.nil_of hf2) hf2 (by have hx:=hR.1; omega) (by omega) (by omega) (by omega)) ?_
   clear hS
   rintro _ w ⟨rfl,lv2,sv2,av2,P2,J2,hJ2,hR2,hS⟩
   refine .nil (.exit (.region (.run 3 rfl ⟨⟨by omega,by omega⟩,trivial⟩ (.nil ?_))))
   have e9:=hq
   rw [Xc l (by omega),Xg,if_neg (by omega),if_neg (by omega),if_neg (by omega),if_neg (by omega),if_pos (by omega)] at e9
   simp only [] at e9
   have hx:=hR.1
   refine ⟨(k+1,rest,st0,X10 Q.length o Q [] bs ++ [(6,0,[])],P2,lv2,sv2,av2,ats.take rest.length,J2),⟨rfl,rfl,rfl,trivial⟩,⟨by omega,by rw [Y0,X2q]; simp; omega,hst0,by simp at hlen4; omega,by simp at hats; simp; omega,hF.close _,by rw [hx] at hR2; exact hR2,hJ.trans hJ2,e9,?_⟩,by dsimp only; omega⟩
   have e5:(ats.take rest.length).length=st0.length:=by simp at hats; rw [Yq]; omega
   have e6:rest.length=st0.length:=by omega
   rw [e5,e6]; exact hS
  have hc57:=hb57; try simp only [Y5] at hc57
  refine .seq (.q 2 rfl ?_)
  refine WC.cond rfl (fun hb91=>?_) (fun hb91=>?_)
  ·
   have hc91:=hb91; try simp only [Y5] at hc91
   refine .seq (.seq (.region (.run 5 rfl ⟨⟨by omega,by omega⟩,Qu9,trivial⟩ (.nil ?_))))
   refine WC.cond rfl (fun hb97=>?_) (fun hb97=>?_)
   ·
    have hc97:=hb97; try simp only [Y5] at hc97
    refine .seq (.q 4 rfl (.ret (X8v Xd0 rfl rfl rfl ?_)))
    have e9:cmp l=.error (10,(k:Int)):=by rw [← hq,Xc l (by omega),Xg,if_neg (by omega),if_neg (by omega),if_neg (by omega),if_neg (by omega),if_neg (by omega),if_pos (by omega),Y15 (by omega)]
    exact ⟨_,rfl,.inl ⟨_,_,J,e9,rfl,hJ,((((hS.drop (k:=0) rfl).drop (k:=0) rfl).drop (k:=0) rfl).drop (k:=0) rfl).drop (k:=0) rfl⟩⟩
   have hc97:=hb97; try simp only [Y5] at hc97
   refine .skip (.seq (.region (.run 3 rfl ⟨⟨by omega,by omega⟩,trivial⟩ (.nil (.region (.run 4 rfl ⟨⟨⟨by omega,by omega⟩,Qu9⟩,trivial⟩ (.call X67 rfl (X0 (.of rfl) (X0 (.of rfl) (X0 (.of rfl) X4))) rfl (X29 _ P.length _ _ _ _ _ _ _ _ _ _ hS (by omega)) ?_)))))))
   clear hS
   rintro _ w ⟨rfl,lv2,hS⟩
   refine .nil (.region (.run 3 rfl ⟨⟨by omega,by omega⟩,trivial⟩ (.nil ?_)))
   have e9:=hq
   rw [Xc l (by omega),Xg,if_neg (by omega),if_neg (by omega),if_neg (by omega),if_neg (by omega),if_neg (by omega),if_pos (by omega),Xc l (k:=k+1) (by omega)] at e9
   simp only [] at e9
   refine ⟨(k+2,stk,st,Q ++ [(0,((at_ l ((k:Int)+1)).toNat:Int),[])],P ++ [(0,((at_ l ((k:Int)+1)).toNat:Int),.slice none 0 0)],lv2,.slice sa st.length sc,.slice aa ats.length ac,ats,J),⟨rfl,rfl,rfl,trivial⟩,⟨by omega,by rw [Y0]; simp; omega,hst,hlen4,hats,hF.app _,hR.snoc _ _ _ _ (IntsI.nil _),hJ,e9,?_⟩,by dsimp only; omega⟩
   rw [Y0,Y1o]; exact hS
  have hc91:=hb91; try simp only [Y5] at hc91
  refine .t 2 rfl (.call X67 rfl (X0 (.of rfl) (X0 (.of rfl) (X0 (.of rfl) X4))) rfl (X29 _ P.length _ _ _ _ _ _ _ _ _ _ hS (by omega)) ?_)
  clear hS
  rintro _ w ⟨rfl,lv2,hS⟩
  refine .nil (.region (.run 3 rfl ⟨⟨by omega,by omega⟩,trivial⟩ (.nil ?_)))
  have e9:=hq
  rw [Xc l (by omega),Xg,if_neg (by omega),if_neg (by omega),if_neg (by omega),if_neg (by omega),if_neg (by omega),if_neg (by omega)] at e9
  refine ⟨(k+1,stk,st,Q ++ [(0,((at_ l (k:Int)).toNat:Int),[])],P ++ [(0,((at_ l (k:Int)).toNat:Int),.slice none 0 0)],lv2,.slice sa st.length sc,.slice aa ats.length ac,ats,J),⟨rfl,rfl,rfl,trivial⟩,⟨by omega,by rw [Y0]; simp; omega,hst,hlen4,hats,hF.app _,hR.snoc _ _ _ _ (IntsI.nil _),hJ,e9,?_⟩,by dsimp only; omega⟩
  rw [Y0,Y1o]; exact hS
 have hc18:=hb18; try simp only [Y5] at hc18
 refine .exit (.seq (.seq (.t 2 rfl (.val (.fieldAddr 2 (.of rfl) X1c rfl rfl X1n rfl) rfl (.val (.ld (.of rfl) hS (k:=0) rfl Xbv rfl) rfl (.run 2 rfl ⟨⟨_,Xm⟩,trivial⟩ (.nil (.seq (.q 2 rfl ?_)))))))))
 refine WC.cond rfl (fun hb112=>?_) (fun hb112=>?_)
 ·
  have hc112:=hb112; try simp only [Y5] at hc112
  refine .seq ?_
  obtain ⟨b8,c8,r,hv8,_,_,_,_,hS⟩:=hS.vecOpen (k:=3) rfl (by omega)
  injection hv8 with hv8 _ hv9; subst hv8; subst hv9; try dsimp only [List.set] at hS
  refine .quiet (by kernel_rfl) (by kernel_rfl) hS (.val (fun w hS=>(.move (.of rfl))) rfl (.val (fun w hS=>(.nilCheck (.of rfl))) rfl (.val (fun w hS=>(.fieldAddr 2 (.of rfl) X1c rfl rfl X1n rfl)) rfl (.val (fun w hS=>(.ld (.of rfl) hS (k:=0) rfl Xbv rfl)) rfl (.val (fun w hS=>(.move (.of rfl))) rfl (.val (fun w hS=>(.sub (.of rfl) (.of rfl) ⟨by omega,by omega⟩)) rfl (.val (fun w hS=>(.indexAddr (.of rfl) (.of rfl) (by omega) (by omega) Xm Qs3)) rfl (.val (fun w hS=>.ldE I64 ats 0 r (.of rfl) hS (k:=3) rfl rfl Qg3 (by omega) (by omega)) rfl (.val (fun w hS=>(.assign (.of rfl))) rfl (.val (fun w hS=>(.assign (.of rfl))) rfl (.val (fun w hS=>(.assign (.of rfl))) rfl (.nil ?_))))))))))))
  clear hS; intro w hS
  refine .ret (X8v Xd0 rfl rfl rfl ?_)
  have e9:cmp l=.error (23,ats.getD ((ats.length:Int) - 1).toNat 0):=by rw [← hq,show ((ats.length:Int) - 1).toNat=ats.length - 1 by omega,Y15 (by omega),X3w,if_pos (by omega)]
  exact ⟨_,rfl,.inl ⟨_,_,J,e9,rfl,hJ,((((hS.drop (k:=0) rfl).drop (k:=0) rfl).drop (k:=0) rfl).drop (k:=0) rfl).drop (k:=0) rfl⟩⟩
 have hc112:=hb112; try simp only [Y5] at hc112
 refine .skip (.seq (.t 1 rfl (.call X67 rfl (X0 (.of rfl) (X0 (.of rfl) (X0 (.of rfl) X4))) rfl (X29 _ P.length _ _ _ _ _ _ _ _ _ _ hS (by omega)) ?_)))
 clear hS
 rintro _ w ⟨rfl,lv2,hS⟩
 refine .nil (.seq ?_)
 obtain ⟨a9,c9,rfl,hcap9,_⟩:=hS.vecSlice (k:=1) rfl
 refine .t 2 rfl (.val (.fieldAddr 0 (.of rfl) X1c rfl rfl X56 rfl) rfl (.val (.ld (.of rfl) hS (k:=0) rfl X6k rfl) rfl (.run 2 rfl ⟨Qu9,trivial⟩ (.val (.build (cs:=[_,_]) (X5 (.of rfl) (X5 (.of rfl) X6)) Xfh rfl) rfl (.boxA (cs:=[_,_]) hS (.of rfl) rfl ?_)))))
 clear hS; intro b130 w hS
 refine .q 3 rfl (.nil (.ret (X8v Xd0 rfl rfl rfl ?_)))
 have e9:cmp l=.ok (Q ++ [(7,0,[])]):=by rw [← hq,Y15 (by omega),X3w,if_neg (by omega)]
 obtain ⟨J2,hJ2,hrs,hS⟩:=hS.freezeVec (k:=2) rfl; try dsimp only [List.eraseIdx] at hS
 obtain ⟨J3,hJ3,hb9,hS⟩:=hS.freeze (k:=0) rfl; try dsimp only [List.eraseIdx] at hS
 refine ⟨_,rfl,.inr ⟨_,_,J3,e9,rfl,(hJ.trans hJ2).trans hJ3,⟨a9,c9,P ++ [(7,0,.slice none 0 0)],?_,?_,?_,?_⟩,(((hS.drop (k:=0) rfl).drop (k:=0) rfl).drop (k:=0) rfl).drop (k:=0) rfl⟩⟩
 ·refine ⟨rfl,_,_,_,hb9,fun j u hj=>?_⟩
  rw [Y0] at hj
  simpa using hj
 ·simpa using hcap9
 ·rw [Y0,Y1o]; exact hrs.mono hJ3
 ·exact ((hR.snoc _ _ _ _ (IntsI.nil _)).mono hJ2).mono hJ3
end Go.Proofs.YtfibbpgikjggfaaGreatDoor
namespace Pat
open Go Gk
def Xcg (k:Int):Bool:=(((k == 2) || (k == 3)) || (k == 4)) || (k == 6)
def X9a (Q:List Pl):Nat→List Bool→Nat→List Bool
 | 0,set,_=>set
 | f+1,set,i=>bif set.getD i false then set else
   bif Xcg (Q.getD i (7,0,[])).1 then X9a Q f ((Q.getD i (7,0,[])).2.2.foldl (fun s t=>X9a Q f s t.toNat) (set.set i true)) (i+1)
   else (Q.getD i (7,0,[])).2.2.foldl (fun s t=>X9a Q f s t.toNat) (set.set i true)
def Xak (s:List Bool):Nat:=s.countP (fun b=>!b)
def SubB (s t:List Bool):Prop:=s.length=t.length∧∀ i:Nat,s.getD i false=true→t.getD i false=true
theorem SubB.refl (s:List Bool):SubB s s:=⟨rfl,fun _ h=>h⟩
theorem SubB.trans {s t u:List Bool} (h:SubB s t) (k:SubB t u):SubB s u:=⟨h.1.trans k.1,fun i hi=>k.2 i (h.2 i hi)⟩
theorem SubB.set (s:List Bool) (i:Nat):SubB s (s.set i true):=by
 refine ⟨by simp,fun j hj=>?_⟩
 rw [Yd] at hj ⊢
 rw [Y2e]
 by_cases e:i=j
 ·subst e
  have hlt:i<s.length:=by
   apply Classical.byContradiction
   intro hn
   rw [Y1s (by omega)] at hj
   cases hj
  simp [hlt]
 ·simpa [e] using hj
theorem Xaa:∀ {s t:List Bool},SubB s t→Xak t≤Xak s
 | [],[],_=>Ys _
 | [],_::_,h=>by cases h.1
 | _::_,[],h=>by cases h.1
 | a::s,b::t,h=>by
  have h1:SubB s t:=⟨by simpa using h.1,fun i hi=>by have:=h.2 (i+1) (by simpa using hi); simpa using this⟩
  have h2:=Xaa h1
  have h3:=h.2 0
  unfold Xak at h2 ⊢
  cases a <;> cases b <;> simp_all <;> omega
theorem Xbe:∀ {s:List Bool} {i:Nat},i<s.length→s.getD i false=false→Xak (s.set i true)+1=Xak s
 | [],_,h,_=>by simp at h
 | a::s,0,_,h=>by simp at h; subst h; simp [Xak]
 | a::s,i+1,h,h2=>by
  have:=Xbe (s:=s) (i:=i) (by simpa using h) (by simpa using h2)
  unfold Xak at this ⊢
  cases a <;> simp_all
theorem X5o (Q:List Pl):∀ (f:Nat) (s:List Bool) (i:Nat),SubB s (X9a Q f s i)
 | 0,s,_=>SubB.refl s
 | f+1,s,i=>by
  have fold:∀ (l:List Int) (s:List Bool),SubB s (l.foldl (fun s t=>X9a Q f s t.toNat) s):=by
   intro l
   induction l with
   | nil=>intro s; exact SubB.refl s
   | cons x l ih=>intro s; exact (X5o Q f s x.toNat).trans (ih _)
  rw [X9a]
  cases s.getD i false
  ·cases Xcg (Q.getD i (7,0,[])).1
   ·exact (SubB.set s i).trans (fold _ _)
   ·exact ((SubB.set s i).trans (fold _ _)).trans (X5o Q f _ _)
  ·exact SubB.refl s
theorem Xef (Q:List Pl) (f:Nat):∀ (l:List Int) (s:List Bool),SubB s (l.foldl (fun s t=>X9a Q f s t.toNat) s)
 | [],s=>SubB.refl s
 | x::l,s=>(X5o Q f s x.toNat).trans (Xef Q f l _)
def WF (Q:List Pl):Prop:=∀ (i:Nat) (q:Pl),Q[i]?=some q→(∀ t∈q.2.2,0≤t∧t<(Q.length:Int))∧(Xcg q.1=true→i+1<Q.length)∧(0≤q.1∧q.1≤7)∧(q.1≠7→i+1<Q.length)∧q.2.2.length≤Q.length
theorem Xh5 {α β:Type} (f:β→α→β) (b:β) (l:List α) (k:Nat) (d:α) (h:k<l.length):(l.take (k+1)).foldl f b=f ((l.take k).foldl f b) (l.getD k d):=by
 rw [List.take_succ_eq_append_getElem h,Y33]
 simp [Yd,h]
theorem WF.at_ {Q:List Pl} (h:WF Q) {i:Nat} (hi:i<Q.length):(∀ t∈(Q.getD i (7,0,[])).2.2,0≤t∧t<(Q.length:Int))∧(Xcg (Q.getD i (7,0,[])).1=true→i+1<Q.length)∧(0≤(Q.getD i (7,0,[])).1∧(Q.getD i (7,0,[])).1≤7)∧((Q.getD i (7,0,[])).1≠7→i+1<Q.length)∧(Q.getD i (7,0,[])).2.2.length≤Q.length:=by
 have e:Q[i]?=some (Q.getD i (7,0,[])):=by simp [Yd,hi]
 exact h i _ e
def X4j (k c:Int) (b:UInt8):Bool:=bif k == 0 then c == (b.toNat:Int) else bif (k == 1) || (k == 3) then (b.toNat:Int) != 47 else k == 2
def X35 (Q:List Pl) (F:Nat) (c:UInt8) (now:List Bool) (st:List Bool×Bool×Nat) (k:Nat):List Bool×Bool×Nat :=
 bif now.getD k false then
  bif X4j (Q.getD k (7,0,[])).1 (Q.getD k (7,0,[])).2.1 c then
   (X9a Q F st.1 (bif ((Q.getD k (7,0,[])).1 == 2) || ((Q.getD k (7,0,[])).1 == 3) then k else k+1),true,st.2.2+1)
  else (st.1,st.2.1,st.2.2+1)
 else st
def Xoc (Q:List Pl) (F:Nat) (c:UInt8) (now:List Bool) (steps:Nat):List Bool×Bool×Nat:=iter (X35 Q F c now) (List.replicate Q.length false,false,steps) Q.length
def runS (Q:List Pl) (F:Nat):List UInt8→List Bool→Nat→List Bool×Nat
 | [],now,st=>(now,st)
 | c::r,now,st=>bif (Xoc Q F c now st).2.1 then runS Q F r (Xoc Q F c now st).1 (Xoc Q F c now st).2.2 else ((Xoc Q F c now st).1,(Xoc Q F c now st).2.2)
def run (Q:List Pl) (l:List UInt8):List Bool×Nat:=runS Q (Q.length+1) l (X9a Q (Q.length+1) (List.replicate Q.length false) 0) 1
theorem Xdq (Q:List Pl) (F:Nat) (c:UInt8) (now:List Bool) (st:List Bool×Bool×Nat) (k:Nat):st.2.2≤(X35 Q F c now st k).2.2∧(X35 Q F c now st k).2.2≤st.2.2+1:=by
 unfold X35
 cases now.getD k false <;> cases X4j (Q.getD k (7,0,[])).1 (Q.getD k (7,0,[])).2.1 c <;> simp
theorem Xiw (Q:List Pl) (F:Nat) (c:UInt8) (now:List Bool) (st:List Bool×Bool×Nat) (k:Nat):(X35 Q F c now st k).1.length=st.1.length:=by
 unfold X35
 cases now.getD k false <;> cases X4j (Q.getD k (7,0,[])).1 (Q.getD k (7,0,[])).2.1 c <;> simp
 exact (X5o Q F _ _).1.symm
theorem X5l (Q:List Pl) (F:Nat) (c:UInt8) (now:List Bool) (st:List Bool×Bool×Nat):∀ k,(iter (X35 Q F c now) st k).1.length=st.1.length∧st.2.2≤(iter (X35 Q F c now) st k).2.2∧(iter (X35 Q F c now) st k).2.2≤st.2.2+k
 | 0=>⟨rfl,Ys _,Ys _⟩
 | k+1=>by
  have h:=X5l Q F c now st k
  have h1:=Xdq Q F c now (iter (X35 Q F c now) st k) k
  have h2:=Xiw Q F c now (iter (X35 Q F c now) st k) k
  rw [iter]
  omega
theorem At.sub {I:Im} {p:Addr} {vs us:List Value} (h:At I p vs) (hu:∀ (j:Nat) (v:Value),us[j]?=some v→vs[j]?=some v):At I p us:=by
 obtain ⟨h1,arr,E,fr,h2,h3⟩:=h
 exact ⟨h1,arr,E,fr,h2,fun j v hj=>h3 j v (hu j v hj)⟩
theorem At.place {I:Im} {la:Addr} {P:List X1v} {i:Nat} {x:X1v} (h:At I la (P.flatMap enc)) (hx:P[i]?=some x):At I (la.add (i*3)) [.int .u8 x.1,.int .u8 x.2.1,x.2.2]:=by
 refine At.sub (h.add (i*3)) fun j v hj=>?_
 have hl:j<3:=by have:=(Y4.1 hj).1; simpa using this
 rw [Y1d]
 have:=Xae enc 3 X1a P [] i j x hx hl
 rw [Yg] at this
 rw [this]; exact hj
theorem PatI.opened {I:Im} {p:Addr} {Q:List Pl} {n:Nat} (h:PatI I p Q n) (hQ:0<Q.length):∃ la c P,At I p [.slice (some la) Q.length c,I64 n]∧At I la (P.flatMap enc)∧RelP I P Q:=by
 obtain ⟨a,c,P,h1,h2,h3,h4⟩:=h
 obtain ⟨la,rfl,h5⟩:=h3.2 (by rw [h4.1]; exact hQ)
 exact ⟨la,c,P,by rw [← h4.1]; exact h1,h5,h4⟩
theorem RelP.at_ {I:Im} {P:List X1v} {Q:List Pl} (h:RelP I P Q) {i:Nat} (hi:i<Q.length):∃ xa xc,P[i]?=some ((Q.getD i (7,0,[])).1,(Q.getD i (7,0,[])).2.1,.slice xa (Q.getD i (7,0,[])).2.2.length xc)∧∃ xp,0<(Q.getD i (7,0,[])).2.2.length→xa=some xp∧At I xp ((Q.getD i (7,0,[])).2.2.map I64):=by
 have e:Q[i]?=some (Q.getD i (7,0,[])):=by simp [Yd,hi]
 obtain ⟨⟨p1,p2,p3⟩,hp⟩:∃ p,P[i]?=some p:=⟨_,Y7 (by rw [h.1]; exact hi)⟩
 obtain ⟨a,b,_,xa,xc,h1,_,h2⟩:=h.2 i _ _ hp e
 simp only at a b h1
 subst a; subst b; subst h1
 refine ⟨xa,xc,hp,?_⟩
 by_cases h0:0<(Q.getD i (7,0,[])).2.2.length
 ·obtain ⟨xp,rfl,h3⟩:=h2.2 h0
  exact ⟨xp,fun _=>⟨rfl,h3⟩⟩
 ·exact ⟨ad 0 0,fun h=>absurd h h0⟩
end Pat
namespace Go.Proofs.YtfibbpgikjggfaaGreatDoor
open Gk Pat
theorem getD_mem {l:List Int} {k:Nat} (h:k<l.length):l.getD k 0∈l:=by
 rw [Yd,Y7 h]; exact Y2k h
theorem X8e (l:List Bool):Xak l≤l.length:=List.countP_le_length
theorem Xb1:Tryz.prog.info? 4=some Tryz.t4:=by kernel_rfl
set_option maxHeartbeats 800000 in
theorem Xdw (Q:List Pl) (p:Addr) (nn n:Nat) (hW:WF Q) (hn:Q.length=n) (hn2:n≤100000):∀ (f:Nat) (set:List Bool) (i:Int) (b c:Nat) (r:List Value) (B w:World) (I:Im) (As:List X9),
  Sat B w I (blk b (set.map Value.bool ++ r) 4::As)→PatI I p Q nn→set.length=n→0≤i→i<n→Xak set<f →
  Calls Tryz.prog 201 [.pointer (some p),.slice (some (ad b 0)) n c,I64 i].toArray w (Ret fun v w'=>v=.tuple #[]∧Sat B w' I (blk b ((X9a Q f set i.toNat).map Value.bool ++ r) 4::As)):=by
 intro f
 induction f with
 | zero=>intros; omega
 | succ f ih =>
  intro set i b c r B w I As hS hp hset hi0 hi1 hf
  refine calls Xfo rfl Tryz.ntmps201 rfl (.seq (.seq (.t 2 rfl (.val (.indexAddr (.of rfl) (.of rfl) (by omega) (by omega) Xdo Qs4) rfl (.val (.ldE .bool set false r (.of rfl) hS (k:=0) rfl rfl Qg4 (by omega) (by omega)) rfl (.nil ?_))))))
  refine WC.cond rfl (fun hb12=>?_) (fun hb12=>?_)
  ·
   have hc12:=hb12; try simp only [Y5] at hc12
   refine .ret (ret0 Xnw ?_)
   exact ⟨_,rfl,rfl,by rw [X9a,hb12]; exact hS⟩
  have hc12:=hb12; try simp only [Y5] at hc12
  refine .skip (.seq (.t 2 rfl (.val (.indexAddr (.of rfl) (.of rfl) (by omega) (by omega) Xdo Qs4) rfl (.stE .bool set r (u:=true) hS (k:=0) rfl (.of rfl) (.of rfl) rfl rfl Qs4 (by omega) (by omega) ?_))))
  clear hS; intro w hS; dsimp only [List.set] at hS
  refine .nil (.seq ?_)
  obtain ⟨la,lc,P,hpA,hlA,hR⟩:=hp.opened (by omega)
  obtain ⟨xa,xc,hx,xp,hxp⟩:=hR.at_ (i:=i.toNat) (by omega)
  have hus:=Xbe (s:=set) (i:=i.toNat) (by omega) hb12
  have hto:=(hW.at_ (i:=i.toNat) (by omega)).2.2.2.2
  refine .t 2 rfl (.val (.fieldAddrI 0 (.of rfl) Xd5 rfl rfl X56 rfl) rfl (.val (.ldI (.of rfl) hS hpA X6k rfl) rfl (.q 1 rfl (.val (.indexAddrI (.of rfl) (.of rfl) (by omega) (by omega) X62 X8d) rfl (.val (.ldsI (us:=[_,_,_]) (.of rfl) hS (Pat.At.place hlA hx) Tryz.isAgg238 X8d rfl (fun _ _ h=>h)) rfl (.allocA (cs:=[_,_,_]) hS Xlx rfl ?_))))))
  clear hS; intro b6 w hS
  refine .stA hS (k:=0) rfl (.of rfl) (.of rfl) rfl X8d rfl (by simp) ?_
  clear hS; intro w hS; try dsimp only [List.set] at hS
  refine .nil (.seq (.seq (.region (.val (.fieldAddr 2 (.of rfl) X4r rfl rfl X1n rfl) rfl (.val (.ld (.of rfl) hS (k:=0) rfl Xbv rfl) rfl (.run 2 rfl ⟨⟨_,Xm⟩,trivial⟩ (.nil (.block (.loop (σ:=Nat) (fun k=>[(0,.pointer (some p)),(1,.slice (some (ad b 0)) n c),(2,I64 i),(6,ptr b6 0),(24,.slice xa (Q.getD i.toNat (7,0,[])).2.2.length xc),(25,I64 (Q.getD i.toNat (7,0,[])).2.2.length),(26,I64 (k:Nat))]) (fun k w=>k≤(Q.getD i.toNat (7,0,[])).2.2.length∧Sat B w I (blk b6 [.int .u8 (Q.getD i.toNat (7,0,[])).1,.int .u8 (Q.getD i.toNat (7,0,[])).2.1,.slice xa (Q.getD i.toNat (7,0,[])).2.2.length xc] 238::blk b ((((Q.getD i.toNat (7,0,[])).2.2.take k).foldl (fun s t=>X9a Q f s t.toNat) (set.set i.toNat true)).map Value.bool ++ r) 4::As)) (fun k=>(Q.getD i.toNat (7,0,[])).2.2.length - k) 0 ⟨rfl,rfl,rfl,rfl,rfl,rfl,rfl,trivial⟩ ⟨Yp _,hS⟩ ?_)))))))))
  rintro k w ⟨hk,hS⟩
  change WC _ _ _ _ [(0,.pointer (some p)),(1,.slice (some (ad b 0)) n c),(2,I64 i),(6,ptr b6 0),(24,.slice xa (Q.getD i.toNat (7,0,[])).2.2.length xc),(25,I64 (Q.getD i.toNat (7,0,[])).2.2.length),(26,I64 (k:Nat))] w
  have hsub:=Xef Q f ((Q.getD i.toNat (7,0,[])).2.2.take k) (set.set i.toNat true)
  obtain ⟨S1,hS1⟩:∃ S1,S1=((Q.getD i.toNat (7,0,[])).2.2.take k).foldl (fun s t=>X9a Q f s t.toNat) (set.set i.toNat true):=⟨_,rfl⟩
  rw [← hS1] at hS hsub
  refine .seq (.q 1 rfl (.seq ?_))
  refine WC.cond rfl (fun hb27=>?_) (fun hb27=>?_)
  ·
   have hc27:=hb27; try simp only [Y5] at hc27
   refine .skip (.seq (.block (.seq ?_)))
   obtain ⟨hxp1,hxA⟩:=hxp (by omega)
   rw [hxp1] at hS ⊢
   refine .region (.val (.indexAddrI (.of rfl) (.of rfl) (by omega) (by omega) Xm Qs3) rfl (.val (.ldEI I64 (Q.getD i.toNat (7,0,[])).2.2 0 (.of rfl) hS hxA rfl Qg3 (by omega) (by omega)) rfl (.q 1 rfl (.nil (.t 3 rfl ?_)))))
   replace hS:=hS.pick 1 rfl; try dsimp only [List.eraseIdx] at hS
   have ht:=(hW.at_ (i:=i.toNat) (by omega)).1 ((Q.getD i.toNat (7,0,[])).2.2.getD k 0) (getD_mem (by omega))
   refine WL.call Xfo rfl (X0 (.of rfl) (X0 (.of rfl) (X0 (.of rfl) X4))) rfl (ih S1 ((Q.getD i.toNat (7,0,[])).2.2.getD k 0) b c r B w I _ hS hp (by have:=hsub.1; simp at this; omega) ht.1 (by omega) (by have:=Xaa hsub; omega)) ?_
   clear hS
   rintro _ w ⟨rfl,hS⟩
   replace hS:=hS.pick 1 rfl; try dsimp only [List.eraseIdx] at hS
   refine .nil (.region (.run 2 rfl ⟨⟨by omega,by omega⟩,trivial⟩ (.nil ?_)))
   refine ⟨k+1,⟨rfl,rfl,rfl,rfl,rfl,rfl,rfl,trivial⟩,⟨by omega,?_⟩,by omega⟩
   rw [Xh5 _ _ _ _ 0 (by omega),← hS1]; exact hS
  have hc27:=hb27; try simp only [Y5] at hc27
  refine .exit (.seq (.region (.val (.fieldAddr 0 (.of rfl) X4r rfl rfl Qs5 rfl) rfl (.val (.ld (.of rfl) hS (k:=0) rfl Qg5 rfl) rfl (.q 2 rfl (.gval rfl rfl (fun hg1=>(.fieldAddr 0 (.of rfl) X4r rfl rfl Qs5 rfl)) rfl (.gval rfl rfl (fun hg1=>(.ld (.gd hg1 rfl) hS (k:=0) rfl Qg5 rfl)) rfl (.gval rfl rfl (fun hg1=>(.eql (.gd hg1 rfl) (.of rfl))) rfl (.val (.por (.of rfl) (.of rfl) (.of rfl)) rfl (.q 1 rfl (.gval rfl rfl (fun hg1=>(.fieldAddr 0 (.of rfl) X4r rfl rfl Qs5 rfl)) rfl (.gval rfl rfl (fun hg1=>(.ld (.gd hg1 rfl) hS (k:=0) rfl Qg5 rfl)) rfl (.gval rfl rfl (fun hg1=>(.eql (.gd hg1 rfl) (.of rfl))) rfl (.val (.por (.of rfl) (.of rfl) (.of rfl)) rfl (.q 1 rfl (.gval rfl rfl (fun hg1=>(.fieldAddr 0 (.of rfl) X4r rfl rfl Qs5 rfl)) rfl (.gval rfl rfl (fun hg1=>(.ld (.gd hg1 rfl) hS (k:=0) rfl Qg5 rfl)) rfl (.gval rfl rfl (fun hg1=>(.eql (.gd hg1 rfl) (.of rfl))) rfl (.val (.por (.of rfl) (.of rfl) (.of rfl)) rfl (.nil ?_))))))))))))))))))))
  refine WC.cond rfl (fun hb52=>?_) (fun hb52=>?_)
  ·
   have hc52:=hb52; try simp only [Y5] at hc52
   refine .region (.run 4 rfl ⟨⟨by omega,by omega⟩,trivial⟩ ?_)
   replace hS:=hS.drop (k:=0) rfl; try dsimp only [List.eraseIdx] at hS
   rw [Y11 (by omega)] at hS1
   have hsk:Xcg (Q.getD i.toNat (7,0,[])).1=true:=hb52
   have hnx:=(hW.at_ (i:=i.toNat) (by omega)).2.1 hsk
   refine WL.call Xfo rfl (X0 (.of rfl) (X0 (.of rfl) (X0 (.of rfl) X4))) rfl (ih S1 (i+1) b c r B w I _ hS hp (by have:=hsub.1; simp at this; omega) (by omega) (by omega) (by have:=Xaa hsub; omega)) ?_
   clear hS
   rintro _ w ⟨rfl,hS⟩
   refine .nil (X7d Xnw ?_)
   refine ⟨_,rfl,rfl,?_⟩
   rw [X9a,hc12,hsk]; simp only [cond_true,cond_false]; rw [← hS1]; rw [show (i+1).toNat=i.toNat+1 by omega] at hS; exact hS
  have hc52:=hb52; try simp only [Y5] at hc52
  refine .skip (X7d Xnw ?_)
  have hsk:Xcg (Q.getD i.toNat (7,0,[])).1=false:=hb52
  replace hS:=hS.drop (k:=0) rfl; try dsimp only [List.eraseIdx] at hS
  rw [Y11 (by omega)] at hS1
  refine ⟨_,rfl,rfl,?_⟩
  rw [X9a,hc12,hsk]; simp only [cond_true,cond_false]; rw [← hS1]; exact hS
theorem Xmc (k c:Int) (b:UInt8) (v:Value) (B w:World) (I:Im) (As:List X9) (hS:Sat B w I As) :
  Calls Tryz.prog 202 [.agg [.int .u8 k,.int .u8 c,v].toArray,U8 b.toNat].toArray w (Ret fun v w'=>v=.bool (X4j k c b)∧Sat B w' I As):=by
 refine calls Tryz.func202 rfl Tryz.ntmps202 rfl (.seq (.region (.boxA (cs:=[_,_,_]) hS (.of rfl) rfl ?_)))
 clear hS; intro b2 w hS
 refine .q 1 rfl (.nil (.seq (.seq (.region (.val (.fieldAddr 0 (.of rfl) X4r rfl rfl Qs5 rfl) rfl (.val (.ld (.of rfl) hS (k:=0) rfl Qg5 rfl) rfl (.nil (.block (.seq (.q 2 rfl ?_))))))))))
 refine WC.cond rfl (fun hb7=>?_) (fun hb7=>?_)
 ·
  have hc7:=hb7; try simp only [Y5] at hc7
  refine .seq (.region (.val (.fieldAddr 1 (.of rfl) X4r rfl rfl Qs5 rfl) rfl (.val (.ld (.of rfl) hS (k:=0) rfl Qg5 rfl) rfl (.q 3 rfl (.nil (.ret (Xe Xhz rfl ?_)))))))
  exact ⟨_,rfl,by rw [X4j,hb7]; rfl,hS.drop (k:=0) rfl⟩
 have hc7:=hb7; try simp only [Y5] at hc7
 refine .seq (.seq (.q 2 rfl ?_))
 refine WC.cond rfl (fun hb13=>?_) (fun hb13=>?_)
 ·
  have hc13:=hb13; try simp only [Y5] at hc13
  refine .skip ?_
  refine WC.cond rfl (fun hb13=>?_) (fun hb13=>?_)
  ·
   have hc13:=hb13; try simp only [Y5] at hc13
   refine .seq (.q 3 rfl (.ret (Xe Xhz rfl ?_)))
   exact ⟨_,rfl,by rw [X4j,hb7,hb13]; rfl,hS.drop (k:=0) rfl⟩
  have hc13:=hb13; try simp only [Y5] at hc13
  refine .skip (.seq (.region (.val (.fieldAddr 0 (.of rfl) X4r rfl rfl Qs5 rfl) rfl (.val (.ld (.of rfl) hS (k:=0) rfl Qg5 rfl) rfl (.q 2 rfl (.nil (.ret (Xe Xhz rfl ?_))))))))
  exfalso; simp_all
 have hc13:=hb13; try simp only [Y5] at hc13
 refine .q 2 rfl ?_
 refine WC.cond rfl (fun hb13=>?_) (fun hb13=>?_)
 ·
  have hc13:=hb13; try simp only [Y5] at hc13
  refine .seq (.q 3 rfl (.ret (Xe Xhz rfl ?_)))
  exact ⟨_,rfl,by rw [X4j,hb7,show (k == 1)=false by assumption,hb13]; rfl,hS.drop (k:=0) rfl⟩
 have hc13:=hb13; try simp only [Y5] at hc13
 refine .skip (.seq (.region (.val (.fieldAddr 0 (.of rfl) X4r rfl rfl Qs5 rfl) rfl (.val (.ld (.of rfl) hS (k:=0) rfl Qg5 rfl) rfl (.q 2 rfl (.nil (.ret (Xe Xhz rfl ?_))))))))
 exact ⟨_,rfl,by rw [X4j,hb7,show (k == 1)=false by assumption,hb13]; rfl,hS.drop (k:=0) rfl⟩
set_option maxHeartbeats 1600000 in
theorem Xol (Q:List Pl) (p:Addr) (nn:Nat) (s:List UInt8) (hW:WF Q) (hQ:0<Q.length) (hn2:Q.length≤1000) (hnn:nn≤1000) (hs:s.length≤1000000) (B w:World) (I:Im) (As:List X9) (hS:Sat B w I As) (hp:PatI I p Q nn) :
  Calls Tryz.prog 156 [.pointer (some p),S s].toArray w (Ret fun v w'=>v=.tuple #[.bool ((Pat.run Q s).1.getD (Q.length - 1) false),I64 (min ((Pat.run Q s).2:Int) (((nn:Int)+1)*((s.length:Int)+1)))]∧Sat B w' I As):=by
 refine calls Tryz.func156 rfl Tryz.ntmps156 rfl (.seq (.q 2 rfl (.scope (.seq ?_))))
 obtain ⟨la,lc,P,hpA,hlA,hR⟩:=hp.opened (by omega)
 refine .t 2 rfl (.val (.fieldAddrI 0 (.of rfl) Xd5 rfl rfl X56 rfl) rfl (.val (.ldI (.of rfl) hS hpA X6k rfl) rfl (.run 1 rfl ⟨⟨_,X62⟩,trivial⟩ ?_)))
 refine WL.make (l:=Q.length) hS (.of rfl) (.of rfl) Xdo Xb1 rfl (by simp [Tryz.t4] <;> omega) (by omega) rfl rfl rfl ?_
 clear hS; intro b19 w hS
 refine .q 2 rfl (.nil (.seq (.t 2 rfl ?_)))
 have hun:=X8e (List.replicate Q.length false)
 rw [Y30] at hun
 replace hS:Sat B w I (blk b19 ((List.replicate Q.length false).map Value.bool ++ []) 4::As):=by rw [List.map_replicate,Yg]; exact hS
 refine .call Xfo rfl (X0 (.of rfl) (X0 (.of rfl) (X0 (.of rfl) X4))) rfl (Xdw Q p nn Q.length hW rfl (by omega) (Q.length+1) (List.replicate Q.length false) 0 b19 _ [] B w I As hS hp (by simp) (by omega) (by omega) (by omega)) ?_
 clear hS
 rintro _ w ⟨rfl,hS⟩
 refine .nil (.seq (.label ?_))
 refine WC.cutS (σ:=List Bool×Nat×Nat) (fun ⟨now,steps,bn⟩=>[(0,.pointer (some p)),(1,S s),(6,.slice (some (ad bn 0)) Q.length Q.length),(7,I64 (steps:Nat))]) (fun ⟨now,steps,bn⟩ w=>now.length=Q.length∧(now,steps)=Pat.run Q s∧Sat B w I (blk bn (now.map Value.bool ++ []) 4::As)) ?_ ?_
 ·
  refine .seq (.region (.run 3 rfl ⟨Qu9,trivial⟩ (.nil (.block ?_))))
  refine WC.loop (σ:=List Bool×Nat×Nat×Nat) (fun ⟨now,steps0,bn,i⟩=>[(0,.pointer (some p)),(1,S s),(6,.slice (some (ad bn 0)) Q.length Q.length),(7,I64 (steps0:Nat)),(24,I64 s.length),(25,I64 (i:Nat))]) (fun ⟨now,steps0,bn,i⟩ w=>i≤s.length∧now.length=Q.length∧steps0≤1+i*1000∧runS Q (Q.length+1) (s.drop i) now steps0=Pat.run Q s∧Sat B w I (blk bn (now.map Value.bool ++ []) 4::As)) (fun ⟨now,steps0,bn,i⟩=>s.length - i) (X9a Q (Q.length+1) (List.replicate Q.length false) 0,1,b19,0) ⟨rfl,rfl,rfl,rfl,rfl,rfl,trivial⟩ ⟨Yp _,by rw [← (X5o Q _ _ _).1]; simp,by omega,rfl,hS⟩ ?_
  rintro ⟨now,steps0,bn,i⟩ w ⟨hi,hnow,hsteps,hrun,hS⟩
  change WC _ _ _ _ [(0,.pointer (some p)),(1,S s),(6,.slice (some (ad bn 0)) Q.length Q.length),(7,I64 (steps0:Nat)),(24,I64 s.length),(25,I64 (i:Nat))] w
  have hit0:=X5l Q (Q.length+1) (at_ s (i:Int)) now (List.replicate Q.length false,false,steps0)
  refine .seq (.q 1 rfl (.seq ?_))
  refine WC.cond rfl (fun hb26=>?_) (fun hb26=>?_)
  ·
   have hc26:=hb26; try simp only [Y5] at hc26
   refine .skip (.seq (.block (.seq (.q 2 rfl (.seq (.t 2 rfl (.val (.fieldAddrI 0 (.of rfl) Xd5 rfl rfl X56 rfl) rfl (.val (.ldI (.of rfl) hS hpA X6k rfl) rfl (.run 1 rfl ⟨⟨_,X62⟩,trivial⟩ ?_)))))))))
   refine WL.make (l:=Q.length) hS (.of rfl) (.of rfl) Xdo Xb1 rfl (by simp [Tryz.t4] <;> omega) (by omega) rfl rfl rfl ?_
   clear hS; intro b33 w hS
   refine .q 2 rfl (.nil (.seq (.seq (.region (.run 3 rfl ⟨⟨_,Xdo⟩,trivial⟩ (.nil (.block ?_)))))))
   refine WC.loop (σ:=List Bool×Bool×Nat×Nat) (fun ⟨next,any,steps,k⟩=>[(0,.pointer (some p)),(1,S s),(7,I64 (steps:Nat)),(8,I64 (i:Nat)),(9,.slice (some (ad b33 0)) Q.length Q.length),(10,.bool any),(24,I64 s.length),(25,I64 (i:Nat)),(34,.slice (some (ad bn 0)) Q.length Q.length),(35,I64 Q.length),(36,I64 (k:Nat))]) (fun ⟨next,any,steps,k⟩ w=>k≤Q.length∧iter (X35 Q (Q.length+1) (at_ s (i:Int)) now) (List.replicate Q.length false,false,steps0) k=(next,any,steps)∧Sat B w I (blk b33 (next.map Value.bool ++ []) 4::blk bn (now.map Value.bool ++ []) 4::As)) (fun ⟨next,any,steps,k⟩=>Q.length - k) (List.replicate Q.length false,false,steps0,0) ⟨rfl,rfl,rfl,rfl,rfl,rfl,rfl,rfl,rfl,rfl,rfl,trivial⟩ ⟨Yp _,rfl,by rw [List.map_replicate,Yg]; exact hS⟩ ?_
   rintro ⟨next,any,steps,k⟩ w ⟨hk,hit,hS⟩
   change WC _ _ _ _ [(0,.pointer (some p)),(1,S s),(7,I64 (steps:Nat)),(8,I64 (i:Nat)),(9,.slice (some (ad b33 0)) Q.length Q.length),(10,.bool any),(24,I64 s.length),(25,I64 (i:Nat)),(34,.slice (some (ad bn 0)) Q.length Q.length),(35,I64 Q.length),(36,I64 (k:Nat))] w
   have hit1:=hit0 k
   rw [hit] at hit1; simp only [Y30] at hit1
   refine .seq (.q 1 rfl (.seq ?_))
   refine WC.cond rfl (fun hb37=>?_) (fun hb37=>?_)
   ·
    have hc37:=hb37; try simp only [Y5] at hc37
    refine .skip (.seq (.block (.seq (.t 1 rfl (.val (.indexAddr (.of rfl) (.of rfl) (by omega) (by omega) Xdo Qs4) rfl (.val (.ldE .bool now false [] (.of rfl) hS (k:=1) rfl rfl Qg4 (by omega) (by omega)) rfl (.q 2 rfl (.nil (.seq (.seq (.q 2 rfl ?_)))))))))))
    refine WC.cond rfl (fun hb42=>?_) (fun hb42=>?_)
    ·
     have hc42:=hb42; try simp only [Y5] at hc42
     refine .exit (.region (.run 2 rfl ⟨⟨by omega,by omega⟩,trivial⟩ (.nil ?_)))
     have hb42x:now.getD k false=false:=by simpa using hb42
     have e9:X35 Q (Q.length+1) (at_ s (i:Int)) now (next,any,steps) k=(next,any,steps):=by rw [X35,hb42x]; rfl
     refine ⟨(next,any,steps,k+1),⟨rfl,rfl,rfl,rfl,rfl,rfl,rfl,rfl,rfl,rfl,rfl,trivial⟩,⟨by omega,by rw [iter,hit,e9],hS⟩,by dsimp only; omega⟩
    have hc42:=hb42; try simp only [Y5] at hc42
    refine .skip (.seq (.region (.run 3 rfl ⟨⟨by omega,by omega⟩,trivial⟩ (.nil (.seq ?_)))))
    have hnk:now.getD k false=true:=by simpa using hb42
    obtain ⟨xa,xc,hx,_⟩:=hR.at_ (i:=k) (by omega)
    refine .t 2 rfl (.val (.fieldAddrI 0 (.of rfl) Xd5 rfl rfl X56 rfl) rfl (.val (.ldI (.of rfl) hS hpA X6k rfl) rfl (.q 1 rfl (.val (.indexAddrI (.of rfl) (.of rfl) (by omega) (by omega) X62 X8d) rfl (.val (.ldsI (us:=[_,_,_]) (.of rfl) hS (Pat.At.place hlA hx) Tryz.isAgg238 X8d rfl (fun _ _ h=>h)) rfl (.allocA (cs:=[_,_,_]) hS Xlx rfl ?_))))))
    clear hS; intro b13 w hS
    refine .stA hS (k:=0) rfl (.of rfl) (.of rfl) rfl X8d rfl (by simp) ?_
    clear hS; intro w hS; try dsimp only [List.set] at hS
    refine .nil (.seq (.seq (.quiet (by kernel_rfl) (by kernel_rfl) hS (.val (fun w hS=>.lds (vs:=[.int .u8 (Q.getD k (7,0,[])).1,.int .u8 (Q.getD k (7,0,[])).2.1,.slice xa (Q.getD k (7,0,[])).2.2.length xc]) (.of rfl) hS (k:=0) rfl Tryz.isAgg238 X8d rfl (fun j v h=>by simpa using h)) rfl (.val (fun w hS=>(.move (.of rfl))) rfl (.val (fun w hS=>(.move (.of rfl))) rfl (.val (fun w hS=>(.index (.of rfl) (.of rfl) (by omega) (by omega) Qu9)) rfl (.call Tryz.func202 rfl (X0 (.of rfl) (X0 (.of rfl) X4)) rfl (fun w hS=>Xmc _ _ _ _ _ _ _ _ hS) (.val (fun w hS=>(.not (.of rfl))) rfl (.nil ?_))))))))))
    clear hS; intro w hS
    refine WC.cond rfl (fun hb57=>?_) (fun hb57=>?_)
    ·
     have hc57:=hb57; try simp only [Y5] at hc57
     refine .exit (.region (.run 2 rfl ⟨⟨by omega,by omega⟩,trivial⟩ (.nil ?_)))
     have hnk:now.getD k false=true:=by simpa using hb42
     have hfk:X4j (Q.getD k (7,0,[])).1 (Q.getD k (7,0,[])).2.1 (at_ s (i:Int))=false:=by simpa using hb57
     replace hS:=hS.drop (k:=0) rfl; try dsimp only [List.eraseIdx] at hS
     have e9:X35 Q (Q.length+1) (at_ s (i:Int)) now (next,any,steps) k=(next,any,steps+1):=by rw [X35,hnk,hfk]; rfl
     refine ⟨(next,any,steps+1,k+1),⟨rfl,rfl,rfl,rfl,rfl,rfl,rfl,rfl,rfl,rfl,rfl,trivial⟩,⟨by omega,by rw [iter,hit,e9],hS⟩,by dsimp only; omega⟩
    have hc57:=hb57; try simp only [Y5] at hc57
    refine .skip (.seq (.q 1 rfl (.seq (.region (.val (.fieldAddr 0 (.of rfl) X4r rfl rfl Qs5 rfl) rfl (.val (.ld (.of rfl) hS (k:=0) rfl Qg5 rfl) rfl (.q 2 rfl (.gval rfl rfl (fun hg1=>(.fieldAddr 0 (.of rfl) X4r rfl rfl Qs5 rfl)) rfl (.gval rfl rfl (fun hg1=>(.ld (.gd hg1 rfl) hS (k:=0) rfl Qg5 rfl)) rfl (.gval rfl rfl (fun hg1=>(.eql (.gd hg1 rfl) (.of rfl))) rfl (.val (.por (.of rfl) (.of rfl) (.of rfl)) rfl (.nil ?_))))))))))))
    refine WC.cond rfl (fun hb65=>?_) (fun hb65=>?_)
    ·
     have hc65:=hb65; try simp only [Y5] at hc65
     refine .t 3 rfl ?_
     have hfk:X4j (Q.getD k (7,0,[])).1 (Q.getD k (7,0,[])).2.1 (at_ s (i:Int))=true:=by simpa using hb57
     replace hS:=hS.pick 1 rfl; try dsimp only [List.eraseIdx] at hS
     have hun:=X8e next
     refine .call Xfo rfl (X0 (.of rfl) (X0 (.of rfl) (X0 (.of rfl) X4))) rfl (Xdw Q p nn Q.length hW rfl (by omega) (Q.length+1) next k b33 _ [] B w I _ hS hp (by omega) (by omega) (by omega) (by omega)) ?_
     clear hS
     rintro _ w ⟨rfl,hS⟩
     refine .nil (.region (.run 2 rfl ⟨⟨by omega,by omega⟩,trivial⟩ (.nil ?_)))
     have hst:((Q.getD k (7,0,[])).1 == 2 || (Q.getD k (7,0,[])).1 == 3)=true:=hb65
     replace hS:=hS.drop (k:=1) rfl; try dsimp only [List.eraseIdx] at hS
     have e9:X35 Q (Q.length+1) (at_ s (i:Int)) now (next,any,steps) k=(X9a Q (Q.length+1) next k,true,steps+1):=by rw [X35,hnk,hfk,hst]; rfl
     refine ⟨(X9a Q (Q.length+1) next k,true,steps+1,k+1),⟨rfl,rfl,rfl,rfl,rfl,rfl,rfl,rfl,rfl,rfl,rfl,trivial⟩,⟨by omega,by rw [iter,hit,e9],hS⟩,by dsimp only; omega⟩
    have hc65:=hb65; try simp only [Y5] at hc65
    refine .region (.run 4 rfl ⟨⟨by omega,by omega⟩,trivial⟩ ?_)
    have hfk:X4j (Q.getD k (7,0,[])).1 (Q.getD k (7,0,[])).2.1 (at_ s (i:Int))=true:=by simpa using hb57
    have hk7:=(hW.at_ (i:=k) (by omega)).2.2.2.1 (fun e=>by rw [e,X4j] at hfk; simp at hfk)
    replace hS:=hS.pick 1 rfl; try dsimp only [List.eraseIdx] at hS
    have hun:=X8e next
    refine .call Xfo rfl (X0 (.of rfl) (X0 (.of rfl) (X0 (.of rfl) X4))) rfl (Xdw Q p nn Q.length hW rfl (by omega) (Q.length+1) next (k+1) b33 _ [] B w I _ hS hp (by omega) (by omega) (by omega) (by omega)) ?_
    clear hS
    rintro _ w ⟨rfl,hS⟩
    refine .nil (.region (.run 2 rfl ⟨⟨by omega,by omega⟩,trivial⟩ (.nil ?_)))
    have hst:((Q.getD k (7,0,[])).1 == 2 || (Q.getD k (7,0,[])).1 == 3)=false:=hb65
    replace hS:=hS.drop (k:=1) rfl; try dsimp only [List.eraseIdx] at hS
    have e9:X35 Q (Q.length+1) (at_ s (i:Int)) now (next,any,steps) k=(X9a Q (Q.length+1) next (k+1),true,steps+1):=by rw [X35,hnk,hfk,hst]; rfl
    refine ⟨(X9a Q (Q.length+1) next (k+1),true,steps+1,k+1),⟨rfl,rfl,rfl,rfl,rfl,rfl,rfl,rfl,rfl,rfl,rfl,trivial⟩,⟨by omega,by rw [iter,hit,e9],hS⟩,by dsimp only; omega⟩
   have hc37:=hb37; try simp only [Y5] at hc37
   refine .exit (.seq (.q 2 rfl (.seq (.q 2 rfl ?_))))
   refine WC.cond rfl (fun hb78=>?_) (fun hb78=>?_)
   ·
    have hc78:=hb78; try simp only [Y5] at hc78
    refine .exit ?_
    have hkq:k=Q.length:=by omega
    subst hkq
    have hB:Xoc Q (Q.length+1) (at_ s (i:Int)) now steps0=(next,any,steps):=hit
    replace hS:=hS.drop (k:=1) rfl; try dsimp only [List.eraseIdx] at hS
    rw [Xc s (by omega),runS,hB] at hrun
    rw [hc78] at hrun
    exact ⟨(next,steps,b33),⟨rfl,rfl,rfl,rfl,trivial⟩,hit1.1,hrun,hS⟩
   have hc78:=hb78; try simp only [Y5] at hc78
   refine .skip (.region (.run 2 rfl ⟨⟨by omega,by omega⟩,trivial⟩ (.nil ?_)))
   have hkq:k=Q.length:=by omega
   subst hkq
   have hB:Xoc Q (Q.length+1) (at_ s (i:Int)) now steps0=(next,any,steps):=hit
   replace hS:=hS.drop (k:=1) rfl; try dsimp only [List.eraseIdx] at hS
   rw [Xc s (by omega),runS,hB] at hrun
   have hany:any=true:=by simpa using hb78
   rw [hany] at hrun
   exact ⟨(next,steps,b33,i+1),⟨rfl,rfl,rfl,rfl,rfl,rfl,trivial⟩,⟨by omega,hit1.1,by omega,hrun,hS⟩,by dsimp only; omega⟩
  have hc26:=hb26; try simp only [Y5] at hc26
  refine .exit ?_
  rw [Y15 (by omega)] at hrun
  exact ⟨(now,steps0,bn),⟨rfl,rfl,rfl,rfl,trivial⟩,hnow,hrun,hS⟩
 rintro ⟨now,steps,bn⟩ w ⟨hnow,hrun,hS⟩
 change WC _ _ _ _ [(0,.pointer (some p)),(1,S s),(6,.slice (some (ad bn 0)) Q.length Q.length),(7,I64 (steps:Nat))] w
 refine .seq ?_
 have hm1:((nn:Int)+1)*((s.length:Int)+1)≤1001*1000001:=Int.mul_le_mul (by omega) (by omega) (by omega) (by omega)
 have hm0:0≤((nn:Int)+1)*((s.length:Int)+1):=Int.mul_nonneg (by omega) (by omega)
 have hmul:Xmw (((nn:Int)+1)*((s.length:Int)+1)):=⟨by omega,by omega⟩
 refine .quiet (by kernel_rfl) (by kernel_rfl) hS (.val (fun w hS=>(.move (.of rfl))) rfl (.val (fun w hS=>(.move (.of rfl))) rfl (.val (fun w hS=>(.nilCheck (.of rfl))) rfl (.val (fun w hS=>(.fieldAddrI 0 (.of rfl) Xd5 rfl rfl X56 rfl)) rfl (.val (fun w hS=>.ldI (.of rfl) hS hpA X6k rfl) rfl (.val (fun w hS=>(.lenSlice (.of rfl) X62)) rfl (.val (fun w hS=>(.sub (.of rfl) (.of rfl) ⟨by omega,by omega⟩)) rfl (.val (fun w hS=>(.indexAddr (.of rfl) (.of rfl) (by omega) (by omega) Xdo Qs4)) rfl (.val (fun w hS=>.ldE .bool now false [] (.of rfl) hS (k:=0) rfl rfl Qg4 (by omega) (by omega)) rfl (.val (fun w hS=>(.move (.of rfl))) rfl (.val (fun w hS=>(.move (.of rfl))) rfl (.val (fun w hS=>(.nilCheck (.of rfl))) rfl (.val (fun w hS=>(.fieldAddrI 1 (.of rfl) Xd5 rfl rfl Qs3 rfl)) rfl (.val (fun w hS=>.ldI (.of rfl) hS (hpA.add 1) Qg3 rfl) rfl (.val (fun w hS=>(.add (.of rfl) (.of rfl) ⟨by omega,by omega⟩)) rfl (.val (fun w hS=>(.move (.of rfl))) rfl (.val (fun w hS=>(.len (.of rfl) Qu9)) rfl (.val (fun w hS=>(.add (.of rfl) (.of rfl) ⟨by omega,by omega⟩)) rfl (.val (fun w hS=>.mul (.of rfl) (.of rfl) hmul) rfl (.val (fun w hS=>(.min2 (.of rfl) (.of rfl))) rfl (.val (fun w hS=>(.assign (.of rfl))) rfl (.val (fun w hS=>(.assign (.of rfl))) rfl (.nil ?_)))))))))))))))))))))))
 clear hS; intro w hS
 refine .ret (X1g Tryz.results156 rfl rfl ?_)
 exact ⟨_,rfl,by rw [← hrun,show ((Q.length:Int) - 1).toNat=Q.length - 1 by omega],hS.drop (k:=0) rfl⟩
end Go.Proofs.YtfibbpgikjggfaaGreatDoor
namespace Pat
open Go Gk
inductive Pt
 | nil
 | lit (k c:Int) (r:Pt)
 | bar (r:Pt)
 | grp (b r:Pt)
namespace Pt
def len:Pt→Nat
 | nil=>0
 | lit _ _ r=>len r+1
 | bar r=>len r+1
 | grp b r=>len b+len r+2
def dep:Pt→Nat
 | nil=>0
 | lit _ _ r=>dep r
 | bar r=>dep r
 | grp b r=>max (dep b+1) (dep r)
def flat:Pt→Prop
 | nil=>True
 | lit _ _ r=>flat r
 | bar _=>False
 | grp _ r=>flat r
def app:Pt→Pt→Pt
 | nil,q=>q
 | lit k c r,q=>lit k c (app r q)
 | bar r,q=>bar (app r q)
 | grp b r,q=>grp b (app r q)
def tos:Pt→Nat→List Int
 | nil,_=>[]
 | lit _ _ r,n=>tos r (n+1)
 | bar r,n=>((n:Int)+1)::tos r (n+1)
 | grp b r,n=>tos r (n+2+len b)
def X43:Pt→Nat→List Nat
 | nil,_=>[]
 | lit _ _ r,n=>X43 r (n+1)
 | bar r,n=>n::X43 r (n+1)
 | grp b r,n=>X43 r (n+2+len b)
def pls (es:List Int):Pt→Nat→List Pl
 | nil,_=>[]
 | lit k c r,n=>(k,c,[])::pls es r (n+1)
 | bar r,n=>(5,0,es)::pls es r (n+1)
 | grp b r,n=>(4,0,tos b (n+1))::(pls [((n+1+len b:Nat):Int)] b (n+1) ++ (6,0,[])::pls es r (n+2+len b))
theorem X2m:∀ (p:Pt) (es:List Int) (n:Nat),(pls es p n).length=p.len
 | nil,_,_=>rfl
 | lit _ _ r,es,n=>by simp [pls,len,X2m r]
 | bar r,es,n=>by simp [pls,len,X2m r]
 | grp b r,es,n=>by simp [pls,len,X2m b,X2m r]; omega
end Pt
open Pt
inductive Rep:List UInt8→Pt→Prop
 | nil:Rep [] .nil
 | one {l p}:Rep l p→Rep (63::l) (.lit 1 0 p)
 | all {l p}:Rep l p→Rep (42::42::l) (.lit 2 0 p)
 | few {l p}:l.head?≠some 42→Rep l p→Rep (42::l) (.lit 3 0 p)
 | grp {t l b p}:Rep t b→Rep l p→Rep (40::(t ++ 41::l)) (.grp b p)
 | bar {l p}:Rep l p→Rep (124::l) (.bar p)
 | esc {l p} (c:UInt8):Rep l p→Rep (92::c::l) (.lit 0 (c.toNat:Int) p)
 | byte {l p} (c:UInt8):c≠63→c≠42→c≠40→c≠124→c≠41→c≠92→Rep l p→Rep (c::l) (.lit 0 (c.toNat:Int) p)
theorem Rep.app {l m:List UInt8} {p q:Pt} (h:Rep l p) (k:Rep m q) (hs:l.getLast?=some 42→m.head?≠some 42):Rep (l ++ m) (p.app q):=by
 have sub:∀ {x:UInt8} {l:List UInt8},((x::l).getLast?=some 42→m.head?≠some 42)→l.getLast?=some 42→m.head?≠some 42:=by
  intro x l h1 h2
  refine h1 ?_
  cases l with
  | nil=>simp at h2
  | cons y l=>simpa using h2
 have suba:∀ {t l:List UInt8},((t ++ 41::l).getLast?=some 42→m.head?≠some 42)→l.getLast?=some 42→m.head?≠some 42:=by
  intro t l h1 h2
  refine h1 ?_
  rw [List.getLast?_append]
  cases l with
  | nil=>simp at h2
  | cons y l=>simp at h2 ⊢; simp [h2]
 induction h with
 | nil=>exact k
 | one _ ih=>exact .one (ih (sub hs))
 | all _ ih=>exact .all (ih (sub (sub hs)))
 | @few l p h1 _ ih =>
  refine .few ?_ (ih (sub hs))
  cases l with
  | nil=>exact hs rfl
  | cons y l=>exact h1
 | @grp t l b p hb _ _ ih =>
  have:=Rep.grp hb (ih (suba (sub hs)))
  simpa [Pt.app] using this
 | bar _ ih=>exact .bar (ih (sub hs))
 | esc c _ ih=>exact .esc c (ih (sub (sub hs)))
 | byte c h1 h2 h3 h4 h5 h6 _ ih=>exact .byte c h1 h2 h3 h4 h5 h6 (ih (sub hs))
def addm:List PFr→List Nat→List PFr
 | [],_=>[]
 | (o,bs)::r,ms=>(o,bs ++ ms)::r
theorem Xh7 (o:Nat) (bs:List Nat) (r:List PFr) (ms:List Nat):addm ((o,bs)::r) ms=(o,bs ++ ms)::r:=rfl
theorem Xlr (s:List PFr):addm s []=s:=by cases s <;> simp [addm]
theorem X3c {A B:List Pl} {o:Nat} (h:o<A.length) (xs:List Int):Xr (A ++ B) o xs=Xr A o xs ++ B:=by
 unfold Xr
 refine Y1u fun i=>?_
 rw [Y1h,Y2b,Y2b,List.length_modify,Y1h]
 by_cases e:o=i
 ·subst e; simp [h]
 ·simp [e]
theorem X8m (A:List Pl) (k c:Int) (d xs:List Int) (B:List Pl):Xr (A ++ (k,c,d)::B) A.length xs=A ++ (k,c,xs)::B:=by
 unfold Xr
 refine Y1u fun i=>?_
 rw [Y1h]
 by_cases e:A.length=i
 ·subst e; simp
 ·simp [e]
  rcases Yv i A.length with hi | hi
  ·rw [Yi hi,Yi hi]
  ·obtain ⟨j,rfl⟩:∃ j,i=A.length+(j+1):=⟨i - A.length - 1,by omega⟩
   rw [Yt (by omega),Yt (by omega)]
   simp
theorem Xdk {A:List Pl} {o:Nat} {k c:Int} {d:List Int} (h:A[o]?=some (k,c,d)):Xr A o d=A:=by
 unfold Xr
 refine Y1u fun i=>?_
 rw [Y1h]
 by_cases e:o=i
 ·subst e; simp [h]
 ·simp [e]
theorem Xbp (A:List Pl) (o:Nat) (x y:List Int):Xr (Xr A o x) o y=Xr A o y:=by
 unfold Xr
 refine Y1u fun i=>?_
 rw [Y1h,Y1h,Y1h]
 by_cases e:o=i
 ·subst e; simp [Y4l,Function.comp_def]
 ·simp [e]
theorem X4a (A:List Pl) (o:Nat) (x:List Int):(Xr A o x).length=A.length:=by simp [Xr]
theorem X3e (n o:Nat):∀ (p:Pt) (A:List Pl) (k c:Int) (d:List Int),A[o]?=some (k,c,d) →
  X10 n o (A ++ pls [] p A.length) d (X43 p A.length)=Xr A o (d ++ tos p A.length) ++ pls [(n:Int)] p A.length
 | .nil,A,k,c,d,h=>by simp [pls,X43,X10,tos,Xdk h]
 | .lit k' c' r,A,k,c,d,h=>by
  have ho:o<A.length:=(Y4.1 h).1
  have ih:=X3e n o r (A ++ [(k',c',[])]) k c d (by rw [Yi ho]; exact h)
  rw [Y0,X3c ho] at ih
  simpa [pls,X43,tos] using ih
 | .bar r,A,k,c,d,h=>by
  have ho:o<A.length:=(Y4.1 h).1
  have ih:=X3e n o r (Xr A o (d ++ [(A.length:Int)+1]) ++ [(5,0,[(n:Int)])]) k c (d ++ [(A.length:Int)+1]) (by
   rw [Yi (by rw [X4a]; exact ho)]; simp [Xr,h])
  rw [Y0,X4a,X3c (by rw [X4a]; exact ho),Xbp] at ih
  rw [X43,X10,pls,X3c ho]
  have e:=X8m (Xr A o (d ++ [(A.length:Int)+1])) 5 0 [] [(n:Int)] (pls [] r (A.length+1))
  rw [X4a] at e
  rw [e]
  simpa [pls,tos] using ih
 | .grp b r,A,k,c,d,h=>by
  have ho:o<A.length:=(Y4.1 h).1
  have ih:=X3e n o r (A ++ ((4,0,tos b (A.length+1))::(pls [((A.length+1+len b:Nat):Int)] b (A.length+1) ++ [(6,0,[])]))) k c d (by rw [Yi ho]; exact h)
  have e:(A ++ ((4,0,tos b (A.length+1))::(pls [((A.length+1+len b:Nat):Int)] b (A.length+1) ++ [(6,0,[])]))).length=A.length+2+len b:=by
   simp [X2m]; omega
  rw [e,X3c ho] at ih
  simpa [pls,X43,tos] using ih
theorem hd_app {l rest:List UInt8} (h:l.head?≠some 42) (h2:l=[]→rest.head?≠some 42):(l ++ rest).head?≠some 42:=by
 cases l with
 | nil=>exact h2 rfl
 | cons y l=>exact h
theorem Xfg {l:List UInt8} (h:l.head?≠some 42) (i:Int) (Q:List Pl) (stk:List PFr) (ats:List Int):cmpGo (42::l) i Q stk ats=cmpGo l (i+1) (Q ++ [(3,0,[])]) stk ats:=by
 rw [Xg,if_neg (by decide),if_pos (by decide)]
 cases l with
 | nil=>rfl
 | cons d r =>
  have hd:¬ d.toNat=42:=fun e=>h (by rw [List.head?_cons]; exact congrArg _ (Yz.1 e))
  simp only [hd,if_false]
theorem X4f {c:UInt8} {n:UInt8} (h:c≠n):¬ c.toNat=n.toNat:=fun e=>h (Yz.1 e)
theorem Xhr {l:List UInt8} {p:Pt} (h:Rep l p):∀ (rest:List UInt8) (i:Int) (Q:List Pl) (stk:List PFr) (ats:List Int),(l.getLast?=some 42→rest.head?≠some 42)→(p.flat∨stk≠[])→ats.length=stk.length→stk.length≤4 →
  (p.dep+stk.length≤4→cmpGo (l ++ rest) i Q stk ats=cmpGo rest (i+l.length) (Q ++ pls [] p Q.length) (addm stk (X43 p Q.length)) ats)∧(4<p.dep+stk.length→∀ X,cmpGo (l ++ rest) i Q stk ats≠.ok X):=by
 have sub:∀ {x:UInt8} {l rest:List UInt8},((x::l).getLast?=some 42→rest.head?≠some 42)→l.getLast?=some 42→rest.head?≠some 42:=by
  intro x l rest h1 h2
  refine h1 ?_
  cases l with
  | nil=>simp at h2
  | cons y l=>simpa using h2
 have suba:∀ {t l rest:List UInt8},((t ++ 41::l).getLast?=some 42→rest.head?≠some 42)→l.getLast?=some 42→rest.head?≠some 42:=by
  intro t l rest h1 h2
  refine h1 ?_
  rw [List.getLast?_append]
  cases l with
  | nil=>simp at h2
  | cons y l=>simp at h2 ⊢; simp [h2]
 induction h with
 | nil=>intro rest i Q stk ats _ _ _ h4; simp [pls,X43,Xlr,dep]; intro hh; omega
 | @one l p _ ih =>
  intro rest i Q stk ats hs hf ha h4
  have:=ih rest (i+1) (Q ++ [(1,0,[])]) stk ats (sub hs) hf ha h4
  rw [Yu,Xg,if_pos (show (63:UInt8).toNat=63 by decide)]
  simpa [pls,X43,dep,Int.add_assoc,Int.add_comm,Int.add_left_comm] using this
 | @all l p _ ih =>
  intro rest i Q stk ats hs hf ha h4
  have:=ih rest (i+2) (Q ++ [(2,0,[])]) stk ats (sub (sub hs)) hf ha h4
  rw [Yu,Xg,if_neg (show ¬ (42:UInt8).toNat=63 by decide),if_pos (show (42:UInt8).toNat=42 by decide)]
  simp only [Yu]
  rw [if_pos (show (42:UInt8).toNat=42 by decide)]
  rw [show i+((42::42::l).length:Nat)=i+2+(l.length:Int) by simp; omega]
  simpa [pls,X43,dep] using this
 | @few l p h1 _ ih =>
  intro rest i Q stk ats hs hf ha h4
  have:=ih rest (i+1) (Q ++ [(3,0,[])]) stk ats (sub hs) hf ha h4
  rw [Yu,Xfg (hd_app h1 fun e=>by subst e; exact hs rfl)]
  rw [show i+((42::l).length:Nat)=i+1+(l.length:Int) by simp; omega]
  simpa [pls,X43,dep] using this
 | @bar l p _ ih =>
  intro rest i Q stk ats hs hf ha h4
  cases stk with
  | nil=>rcases hf with hf | hf; exact hf.elim; exact absurd rfl hf
  | cons f stk =>
   obtain ⟨o,bs⟩:=f
   have:=ih rest (i+1) (Q ++ [(5,0,[])]) ((o,bs ++ [Q.length])::stk) ats (sub hs) (.inr (by simp)) ha h4
   rw [Yu,Xg,if_neg (show ¬ (124:UInt8).toNat=63 by decide),if_neg (show ¬ (124:UInt8).toNat=42 by decide),if_neg (show ¬ (124:UInt8).toNat=40 by decide),if_pos (show (124:UInt8).toNat=124 by decide)]
   simp only []
   rw [show i+((124::l).length:Nat)=i+1+(l.length:Int) by simp; omega]
   simpa [pls,X43,dep,addm] using this
 | @esc l p c _ ih =>
  intro rest i Q stk ats hs hf ha h4
  have:=ih rest (i+2) (Q ++ [(0,(c.toNat:Int),[])]) stk ats (sub (sub hs)) hf ha h4
  rw [Yu,Xg,if_neg (show ¬ (92:UInt8).toNat=63 by decide),if_neg (show ¬ (92:UInt8).toNat=42 by decide),if_neg (show ¬ (92:UInt8).toNat=40 by decide),if_neg (show ¬ (92:UInt8).toNat=124 by decide),if_neg (show ¬ (92:UInt8).toNat=41 by decide),if_pos (show (92:UInt8).toNat=92 by decide)]
  simp only [Yu]
  rw [show i+((92::c::l).length:Nat)=i+2+(l.length:Int) by simp; omega]
  simpa [pls,X43,dep] using this
 | @byte l p c h1 h2 h3 h4' h5 h6 _ ih =>
  intro rest i Q stk ats hs hf ha h4
  have:=ih rest (i+1) (Q ++ [(0,(c.toNat:Int),[])]) stk ats (sub hs) hf ha h4
  rw [Yu,Xg,if_neg (show ¬ c.toNat=63 from X4f h1),if_neg (show ¬ c.toNat=42 from X4f h2),if_neg (show ¬ c.toNat=40 from X4f h3),if_neg (show ¬ c.toNat=124 from X4f h4'),if_neg (show ¬ c.toNat=41 from X4f h5),if_neg (show ¬ c.toNat=92 from X4f h6)]
  rw [show i+((c::l).length:Nat)=i+1+(l.length:Int) by simp; omega]
  simpa [pls,X43,dep] using this
 | @grp t l b p _ _ ihb ih =>
  intro rest i Q stk ats hs hf ha h4
  rw [Yu,Y8,Yu,Xg,if_neg (show ¬ (40:UInt8).toNat=63 by decide),if_neg (show ¬ (40:UInt8).toNat=42 by decide),if_pos (show (40:UInt8).toNat=40 by decide)]
  by_cases h5:stk.length=4
  ·rw [if_pos h5]
   refine ⟨fun h=>?_,fun _ X h=>by cases h⟩
   simp [dep] at h
   omega
  ·rw [if_neg h5]
   have h1:=ihb (41::(l ++ rest)) (i+1) (Q ++ [(4,0,[])]) ((Q.length,[])::stk) (ats ++ [i]) (fun _=>by simp) (.inr (by simp)) (by simp [ha]) (by simp; omega)
   by_cases h6:b.dep+(stk.length+1)≤4
   ·have h7:=h1.1 (by simpa using h6)
    rw [h7]
    have h8:=ih rest (i+1+t.length+1) (Q ++ ((4,0,tos b (Q.length+1))::(pls [((Q.length+1+len b:Nat):Int)] b (Q.length+1) ++ [(6,0,[])]))) stk ats (suba (sub hs)) hf ha h4
    have hc:=X3e (Q.length+1+len b) Q.length b (Q ++ [(4,0,[])]) 4 0 [] (by simp)
    have hl:=X8m Q 4 0 [] (tos b (Q.length+1)) []
    simp only [Y0,Y25,Yc] at hc
    rw [hl] at hc
    rw [Xg,if_neg (show ¬ (41:UInt8).toNat=63 by decide),if_neg (show ¬ (41:UInt8).toNat=42 by decide),if_neg (show ¬ (41:UInt8).toNat=40 by decide),if_neg (show ¬ (41:UInt8).toNat=124 by decide),if_pos (show (41:UInt8).toNat=41 by decide)]
    simp only [Xh7,Y0,Y25,Yc,X2m]
    rw [hc]
    have ht:(ats ++ [i]).take stk.length=ats:=by rw [← ha]; simp
    rw [ht]
    have e1:(Q ++ ((4,0,tos b (Q.length+1))::(pls [((Q.length+1+len b:Nat):Int)] b (Q.length+1) ++ [(6,0,[])]))).length=Q.length+2+len b:=by simp [X2m]; omega
    rw [e1] at h8
    have e2:i+((40::(t ++ 41::l)).length:Nat)=i+1+t.length+1+l.length:=by simp; omega
    rw [e2]
    have e3:4<(Pt.grp b p).dep+stk.length ↔ 4<p.dep+stk.length:=by simp [dep]; omega
    have e4:(Pt.grp b p).dep+stk.length≤4 ↔ p.dep+stk.length≤4:=by simp [dep]; omega
    rw [e3,e4]
    simpa [pls,X43] using h8
   ·refine ⟨fun h=>?_,fun _=>h1.2 (by simp; omega)⟩
    simp [dep] at h
    omega
end Pat
namespace Pat
open Go Gk Pt
inductive Splits:Nat→List UInt8→Prop
 | last {l p}:Rep l p→p.flat→p.dep≤4→Splits 0 l
 | more {d t l p}:Rep t p→p.dep+(d+1)≤4→Splits d l→Splits (d+1) (t ++ 41::l)
theorem Splits.lit {d:Nat} {l pre:List UInt8} {k c:Int} (h:Splits d l) (hp:∀ {t p},(t.head?=some 42→l.head?=some 42)→Rep t p→Rep (pre ++ t) (.lit k c p)):Splits d (pre ++ l):=by
 cases h with
 | last h1 h2 h3=>exact .last (hp (fun h=>h) h1) h2 h3
 | @more d t l p h1 h2 h3 =>
  rw [← Y8]
  refine .more (hp ?_ h1) h2 h3
  intro e
  cases t with
  | nil=>simp at e
  | cons x t=>simpa using e
theorem Splits.grp {d:Nat} {t l:List UInt8} {b:Pt} (h:Splits d l) (h1:Rep t b) (h2:b.dep+(d+1)≤4):Splits d (40::(t ++ 41::l)):=by
 cases h with
 | @last _ p k1 k2 k3=>exact .last (.grp h1 k1) k2 (by simp [dep]; omega)
 | @more d t2 l2 p k1 k2 k3 =>
  have:=Splits.more (.grp h1 k1) (by simp [dep]; omega) k3
  simpa using this
theorem X4n:∀ (n:Nat) (l:List UInt8) (i:Int) (Q:List Pl) (stk:List PFr) (ats:List Int) (X:List Pl),l.length≤n→ats.length=stk.length→stk.length≤4→cmpGo l i Q stk ats=.ok X→Splits stk.length l
 | n,[],i,Q,stk,ats,X,_,ha,h4,h=>by
  rw [X3w] at h
  split at h
  ·cases h
  ·have e:stk.length=0:=by omega
   rw [e]; exact .last .nil trivial (by simp [dep])
 | 0,c::l,_,_,_,_,_,hn,_,_,_=>by simp at hn
 | n+1,c::l,i,Q,stk,ats,X,hn,ha,h4,h=>by
  have hn':l.length≤n:=by simpa using hn
  rw [Xg] at h
  split at h
  ·rename_i e
   have e:c=63:=Yz.1 e
   subst e
   exact (X4n n l _ _ stk ats X hn' ha h4 h).lit (pre:=[63]) fun _ hr=>.one hr
  split at h
  ·rename_i e
   have e:c=42:=Yz.1 e
   subst e
   cases l with
   | nil=>exact (X4n n [] _ _ stk ats X hn' ha h4 h).lit (pre:=[42]) fun {t p} hd hr=>.few (fun e=>by have:=hd e; simp at this) hr
   | cons d r =>
    simp only at h
    split at h
    ·rename_i e2
     have e2:d=42:=Yz.1 e2
     subst e2
     exact (X4n n r _ _ stk ats X (by simp at hn'; omega) ha h4 h).lit (pre:=[42,42]) fun _ hr=>.all hr
    ·rename_i e2
     exact (X4n n (d::r) _ _ stk ats X hn' ha h4 h).lit (pre:=[42]) fun {t p} hd hr=>.few (fun e=>by have:=hd e; simp at this; subst this; exact e2 (by decide)) hr
  split at h
  ·rename_i e
   have e:c=40:=Yz.1 e
   subst e
   split at h
   ·cases h
   ·rename_i h5
    have hs:=X4n n l _ _ ((Q.length,[])::stk) (ats ++ [i]) X hn' (by simp [ha]) (by simp; omega) h
    generalize hm:((Q.length,[])::stk:List PFr).length=m at hs
    simp only [Y6] at hm
    cases hs with
    | last=>omega
    | @more d t l b h1 h2 h3 =>
     have hd:d=stk.length:=by omega
     subst hd
     exact h3.grp h1 h2
  split at h
  ·rename_i e
   have e:c=124:=Yz.1 e
   subst e
   cases stk with
   | nil=>cases h
   | cons f stk =>
    obtain ⟨o,bs⟩:=f
    have hs:=X4n n l _ _ ((o,bs ++ [Q.length])::stk) ats X hn' ha h4 h
    cases hs with
    | more h1 h2 h3=>exact Splits.more (t:=124::_) (.bar h1) h2 h3
  split at h
  ·rename_i e
   have e:c=41:=Yz.1 e
   subst e
   cases stk with
   | nil=>cases h
   | cons f stk =>
    obtain ⟨o,bs⟩:=f
    have hs:=X4n n l _ _ stk _ X hn' (by simp at ha; simp; omega) (by simp at h4; omega) h
    exact Splits.more (t:=[]) .nil (by simp [dep] at *; omega) hs
  split at h
  ·rename_i e
   have e:c=92:=Yz.1 e
   subst e
   cases l with
   | nil=>cases h
   | cons d r=>exact (X4n n r _ _ stk ats X (by simp at hn'; omega) ha h4 h).lit (pre:=[92,d]) fun _ hr=>.esc d hr
  ·rename_i h1 h2 h3 h4' h5 h6
   have ne:∀ {n:UInt8},¬ c.toNat=n.toNat→c≠n:=fun h e=>h (by rw [e])
   exact (X4n n l _ _ stk ats X hn' ha h4 h).lit (pre:=[c]) fun _ hr=>.byte c (ne h1) (ne h2) (ne h3) (ne h4') (ne h5) (ne h6) hr
theorem cmp_ok {l:List UInt8} {Q:List Pl} (h:cmp l=.ok Q):l.length≤200∧∃ p,Rep l p∧p.flat∧p.dep≤4∧Q=pls [] p 0 ++ [(7,0,[])]:=by
 unfold cmp at h
 split at h
 ·cases h
 ·rename_i hl
  refine ⟨by omega,?_⟩
  have hs:=X4n l.length l 0 [] [] [] Q (Ys _) rfl (by simp) h
  cases hs with
  | @last _ p h1 h2 h3 =>
   refine ⟨p,h1,h2,h3,?_⟩
   have h5:=(Xhr h1 [] 0 [] [] [] (fun _=>by simp) (.inl h2) rfl (by simp)).1 (by simpa using h3)
   rw [Yg,h,X3w] at h5
   simpa using h5
theorem X12:∀ (n:Nat) (l:List UInt8) (i:Int) (Q:List Pl) (stk:List PFr) (o:List Int),l.length≤n→o.length=stk.length →
  (∀ e,cmpGo l i Q stk o=.error e→chkGo l i o=e∧e.1≠0)∧(∀ X,cmpGo l i Q stk o=.ok X→chkGo l i o=(0,0))
 | n,[],i,Q,stk,o,_,ho=>by
  rw [X3w,Xh8]
  split
  ·exact ⟨fun e h=>by injection h with h; subst h; exact ⟨rfl,by simp⟩,fun X h=>by cases h⟩
  ·exact ⟨fun e h=>(by cases h),fun X h=>rfl⟩
 | 0,c::l,_,_,_,_,hn,_=>by simp at hn
 | n+1,c::l,i,Q,stk,o,hn,ho=>by
  have hn':l.length≤n:=by simpa using hn
  rw [Xg,X9e]
  by_cases h63:c.toNat=63
  ·rw [if_pos h63,if_neg (by omega),if_neg (by omega),if_neg (by omega),if_neg (by omega)]
   exact X12 n l _ _ stk o hn' ho
  rw [if_neg h63]
  by_cases h42:c.toNat=42
  ·rw [if_pos h42,if_neg (by omega),if_neg (by omega),if_neg (by omega),if_neg (by omega)]
   cases l with
   | nil=>exact X12 n [] _ _ stk o hn' ho
   | cons d r =>
    simp only
    by_cases hd:d.toNat=42
    ·rw [if_pos hd,X9e,if_neg (by omega),if_neg (by omega),if_neg (by omega),if_neg (by omega),show i+1+1=i+2 by omega]
     exact X12 n r _ _ stk o (by simp at hn'; omega) ho
    ·rw [if_neg hd]
     exact X12 n (d::r) _ _ stk o hn' ho
  rw [if_neg h42]
  by_cases h40:c.toNat=40
  ·rw [if_pos h40,if_pos h40,← ho]
   by_cases h4:o.length=4
   ·rw [if_pos h4,if_pos h4]
    exact ⟨fun e h=>by injection h with h; subst h; exact ⟨rfl,by simp⟩,fun X h=>by cases h⟩
   ·rw [if_neg h4,if_neg h4]
    exact X12 n l _ _ _ (o ++ [i]) hn' (by simp [ho])
  rw [if_neg h40,if_neg h40]
  by_cases h124:c.toNat=124
  ·rw [if_pos h124,if_neg (by omega),if_pos h124]
   cases stk with
   | nil=>rw [if_pos (by simpa using ho)]; exact ⟨fun e h=>by injection h with h; subst h; exact ⟨rfl,by simp⟩,fun X h=>by cases h⟩
   | cons f stk =>
    rw [if_neg (by simp at ho; omega)]
    exact X12 n l _ _ _ o hn' ho
  rw [if_neg h124,if_neg h124]
  by_cases h41:c.toNat=41
  ·rw [if_pos h41,if_pos h41]
   cases stk with
   | nil=>rw [if_pos (by simpa using ho)]; exact ⟨fun e h=>by injection h with h; subst h; exact ⟨rfl,by simp⟩,fun X h=>by cases h⟩
   | cons f stk =>
    obtain ⟨fo,fb⟩:=f
    simp only [Y6] at ho ⊢
    rw [if_neg (by omega),show stk.length=o.length - 1 by omega]
    exact X12 n l _ _ _ _ hn' (by simp; omega)
  rw [if_neg h41,if_neg h41]
  by_cases h92:c.toNat=92
  ·rw [if_pos h92,if_pos h92]
   cases l with
   | nil=>exact ⟨fun e h=>by injection h with h; subst h; exact ⟨rfl,by simp⟩,fun X h=>by cases h⟩
   | cons d r=>exact X12 n r _ _ stk o (by simp at hn'; omega) ho
  rw [if_neg h92,if_neg h92]
  exact X12 n l _ _ stk o hn' ho
def Succ (Q:List Pl) (i j:Nat):Prop:=(Xcg (Q.getD i (7,0,[])).1=true∧j=i+1)∨(∃ t∈(Q.getD i (7,0,[])).2.2,j=t.toNat)
def Cl (Q:List Pl) (a b:List Bool):Prop:=SubB a b∧∀ x,b.getD x false=true→a.getD x false=false→∀ y,Succ Q x y→b.getD y false=true
theorem Cl.refl (Q:List Pl) (a:List Bool):Cl Q a a:=⟨SubB.refl a,fun x h k=>by rw [h] at k; cases k⟩
theorem Cl.trans {Q:List Pl} {a b c:List Bool} (h:Cl Q a b) (k:Cl Q b c):Cl Q a c:=by
 refine ⟨h.1.trans k.1,fun x hx hn y hy=>?_⟩
 cases hb:b.getD x false with
 | true=>exact k.1.2 y (h.2 x hb hn y hy)
 | false=>exact k.2 x hx hb y hy
def Closed (Q:List Pl) (s:List Bool):Prop:=∀ x,s.getD x false=true→∀ y,Succ Q x y→s.getD y false=true
theorem Closed.cl {Q:List Pl} {a b:List Bool} (h:Closed Q a) (k:Cl Q a b):Closed Q b:=by
 intro x hx y hy
 cases ha:a.getD x false with
 | true=>exact k.1.2 y (h x ha y hy)
 | false=>exact k.2 x hx ha y hy
theorem Xld (n x:Nat):(List.replicate n false).getD x false=false:=by
 rw [Yd,List.getElem?_replicate]; split <;> rfl
section
variable {Q:List Pl} (hW:WF Q) {F:Nat} (hF:Q.length<F) (now:List Bool) (c:UInt8)
end
def End7 (Q:List Pl):Prop:=0<Q.length∧∀ j,j<Q.length→((Q.getD j (7,0,[])).1=7 ↔ j=Q.length - 1)
end Pat
namespace Pat
open Go Gk Pt
abbrev Lang:=List UInt8→Prop
def cat (A B:Lang):Lang:=fun s=>∃ u v,s=u ++ v∧A u∧B v
namespace Pt
def ok:Pt→Prop
 | nil=>True
 | lit k _ r=>(0≤k∧k≤3)∧ok r
 | bar r=>ok r
 | grp b r=>ok b∧ok r
end Pt
theorem Rep.ok {l:List UInt8} {p:Pt} (h:Rep l p):p.ok:=by
 induction h with
 | nil=>trivial
 | one _ ih=>exact ⟨⟨by decide,by decide⟩,ih⟩
 | all _ ih=>exact ⟨⟨by decide,by decide⟩,ih⟩
 | few _ _ ih=>exact ⟨⟨by decide,by decide⟩,ih⟩
 | grp _ _ h1 h2=>exact ⟨h1,h2⟩
 | bar _ ih=>exact ih
 | esc c _ ih=>exact ⟨⟨by decide,by decide⟩,ih⟩
 | byte c _ _ _ _ _ _ _ ih=>exact ⟨⟨by decide,by decide⟩,ih⟩
theorem Rep.len {l:List UInt8} {p:Pt} (h:Rep l p):p.len≤l.length:=by
 induction h <;> simp [Pt.len] at*<;> omega
theorem Xa9:∀ (p:Pt) (n:Nat),(tos p n).length≤p.len
 | .nil,_=>by simp [tos]
 | .lit _ _ r,n=>by have:=Xa9 r (n+1); simp [tos,len]; omega
 | .bar r,n=>by have:=Xa9 r (n+1); simp [tos,len]; omega
 | .grp b r,n=>by have:=Xa9 r (n+2+len b); simp [tos,len]; omega
theorem Xem:∀ (p:Pt) (n:Nat) (t:Int),t∈tos p n→(n:Int)<t∧t≤n+p.len
 | .nil,_,_,h=>by simp [tos] at h
 | .lit _ _ r,n,t,h=>by have:=Xem r (n+1) t h; simp [len]; omega
 | .bar r,n,t,h=>by
  simp only [tos,Y17] at h
  rcases h with rfl | h
  ·simp [len]; omega
  ·have:=Xem r (n+1) t h; simp [len]; omega
 | .grp b r,n,t,h=>by have:=Xem r (n+2+len b) t h; simp [len]; omega
theorem X5u:∀ (p:Pt) (es:List Int) (n N:Nat),p.ok→n+p.len<N→(∀ t∈es,0≤t∧t<(N:Int))→es.length≤N→∀ q∈pls es p n,(∀ t∈q.2.2,0≤t∧t<(N:Int))∧(0≤q.1∧q.1≤6)∧q.2.2.length≤N
 | .nil,_,_,_,_,_,_,_,q,h=>by simp [pls] at h
 | .lit k c r,es,n,N,ho,hl,he,hc,q,h=>by
  simp only [len] at hl
  simp only [pls,Y17] at h
  rcases h with rfl | h
  ·exact ⟨by simp,⟨ho.1.1,by have:=ho.1.2; simp only; omega⟩,by simp⟩
  ·exact X5u r es (n+1) N ho.2 (by omega) he hc q h
 | .bar r,es,n,N,ho,hl,he,hc,q,h=>by
  simp only [len] at hl
  simp only [pls,Y17] at h
  rcases h with rfl | h
  ·exact ⟨he,⟨by simp,by simp⟩,hc⟩
  ·exact X5u r es (n+1) N ho (by omega) he hc q h
 | .grp b r,es,n,N,ho,hl,he,hc,q,h=>by
  simp only [len] at hl
  simp only [pls,Y17,Y12] at h
  rcases h with rfl | h | rfl | h
  ·exact ⟨fun t ht=>by have:=Xem b (n+1) t ht; omega,⟨by simp,by simp⟩,by have:=Xa9 b (n+1); simp only; omega⟩
  ·exact X5u b _ (n+1) N ho.1 (by omega) (fun t ht=>by simp at ht; omega) (by simp; omega) q h
  ·exact ⟨by simp,⟨by simp,by simp⟩,by simp⟩
  ·exact X5u r es (n+2+len b) N ho.2 (by omega) he hc q h
def X2e (p:Pt):List Pl:=pls [] p 0 ++ [(7,0,[])]
theorem X6r (p:Pt):(X2e p).length=p.len+1:=by simp [X2e,X2m]
theorem Xe2 {p:Pt} (ho:p.ok):WF (X2e p)∧End7 (X2e p):=by
 have hl:=X6r p
 have hall:∀ (i:Nat) (q:Pl),(X2e p)[i]?=some q→(i<p.len∧q∈pls [] p 0)∨(i=p.len∧q=(7,0,[])):=by
  intro i q h
  unfold X2e at h
  rcases Yv i p.len with hi | hi
  ·rw [Yi (by rw [X2m]; exact hi)] at h
   exact .inl ⟨hi,Yr h⟩
  ·rw [Yt (by rw [X2m]; exact hi),X2m] at h
   by_cases e:i=p.len
   ·subst e; simp at h; exact .inr ⟨rfl,h.symm⟩
   ·rw [Y1s (by simp; omega)] at h; cases h
 refine ⟨fun i q h=>?_,by omega,fun j hj=>?_⟩
 ·rw [hl]
  rcases hall i q h with ⟨hi,hm⟩ | ⟨hi,rfl⟩
  ·obtain ⟨h1,h2,h3⟩:=X5u p [] 0 (p.len+1) ho (by omega) (by simp) (by simp) q hm
   exact ⟨h1,fun _=>by omega,⟨h2.1,by omega⟩,fun _=>by omega,h3⟩
  ·exact ⟨by simp,by simp [Xcg],⟨by simp,by simp⟩,by simp,by simp⟩
 ·have e:(X2e p)[j]?=some ((X2e p).getD j (7,0,[])):=by simp [Yd,hj]
  rcases hall j _ e with ⟨hi,hm⟩ | ⟨hi,e2⟩
  ·obtain ⟨h1,h2,h3⟩:=X5u p [] 0 (p.len+1) ho (by omega) (by simp) (by simp) _ hm
   constructor
   ·intro h; omega
   ·intro h; omega
  ·rw [e2]; simp; omega
def Seg (Q:List Pl) (n:Nat) (L:List Pl):Prop:=∀ (i:Nat) (q:Pl),L[i]?=some q→Q[n+i]?=some q
theorem Seg.head {Q:List Pl} {n:Nat} {q:Pl} {L:List Pl} (h:Seg Q n (q::L)):Q[n]?=some q:=h 0 q rfl
theorem Seg.tail {Q:List Pl} {n:Nat} {q:Pl} {L:List Pl} (h:Seg Q n (q::L)):Seg Q (n+1) L:=fun i x hx=>by
 rw [show n+1+i=n+(i+1) by omega]; exact h (i+1) x (by simpa using hx)
theorem Seg.left {Q:List Pl} {n:Nat} {L M:List Pl} (h:Seg Q n (L ++ M)):Seg Q n L:=fun i x hx=>h i x (by rw [Yi (Y4.1 hx).1]; exact hx)
theorem Seg.right {Q:List Pl} {n:Nat} {L M:List Pl} (h:Seg Q n (L ++ M)):Seg Q (n+L.length) M:=fun i x hx=>by
 rw [Y2m]; exact h (L.length+i) x (by rw [Yt (by omega)]; simpa using hx)
end Pat
namespace Pat
open Go Gk Pt
def mat (Q:List Pl) (s:List UInt8):Bool:=(run Q s).1.getD (Q.length - 1) false
def Xmp (l s:List UInt8):Bool×Bool:=match cmp l with
 | .ok Q=>(mat Q s,true)
 | .error _=>(false,false)
def seg (s:List UInt8) (i j:Nat):List UInt8:=(s.drop i).take (j - i)
theorem Xkn (s:List UInt8) (i:Nat):seg s i i=[]:=by simp [seg]
theorem Xce (s:List UInt8) {i m j:Nat} (h1:i≤m) (h2:m≤j) (hj:j≤s.length):seg s i j=seg s i m ++ seg s m j:=by
 unfold seg
 rw [show j - i=(m - i)+(j - m) by omega,List.take_add,Y1l,show i+(m - i)=m by omega]
theorem Xdj (s:List UInt8) {i j:Nat} (hi:i≤j) (hj:j≤s.length):(seg s i j).length=j - i:=by simp [seg]; omega
theorem Xne (s:List UInt8) {i j:Nat} {u v:List UInt8} (hi:i≤j) (hj:j≤s.length) (h:seg s i j=u ++ v):u=seg s i (i+u.length)∧v=seg s (i+u.length) j∧i+u.length≤j:=by
 have hl:=congrArg List.length h
 rw [Xdj s hi hj,Y0] at hl
 have hm:i+u.length≤j:=by omega
 rw [Xce s (Nat.le_add_right i u.length) hm hj] at h
 have:=List.append_inj h (by rw [Xdj s (by omega) (by omega)]; omega)
 exact ⟨this.1.symm,this.2.symm,hm⟩
def EndsAt (s:List UInt8) (fr:List Bool) (L:Lang) (R:List Bool):Prop:=R.length=s.length+1∧∀ j,j≤s.length→(R.getD j false=true ↔ ∃ i,i≤j∧fr.getD i false=true∧L (seg s i j))
theorem EndsAt.congr {s:List UInt8} {fr R:List Bool} {L M:Lang} (h:EndsAt s fr L R) (e:∀ u,L u ↔ M u):EndsAt s fr M R :=
 ⟨h.1,fun j hj=>(h.2 j hj).trans ⟨fun ⟨i,a,b,c⟩=>⟨i,a,b,(e _).1 c⟩,fun ⟨i,a,b,c⟩=>⟨i,a,b,(e _).2 c⟩⟩⟩
theorem EndsAt.nil {s:List UInt8} {fr:List Bool} (h:fr.length=s.length+1):EndsAt s fr (fun u=>u=[]) fr:=by
 refine ⟨h,fun j hj=>⟨fun h=>⟨j,Ys _,h,Xkn s j⟩,?_⟩⟩
 rintro ⟨i,h1,h2,h3⟩
 have:=Xdj s h1 hj
 rw [h3] at this
 have e:i=j:=by simp at this; omega
 subst e; exact h2
theorem EndsAt.cat {s:List UInt8} {fr R1 R2:List Bool} {A B:Lang} (h:EndsAt s fr A R1) (k:EndsAt s R1 B R2):EndsAt s fr (cat A B) R2:=by
 refine ⟨k.1,fun j hj=>?_⟩
 rw [k.2 j hj]
 constructor
 ·rintro ⟨m,h1,h2,h3⟩
  obtain ⟨i,h4,h5,h6⟩:=(h.2 m (by omega)).1 h2
  exact ⟨i,by omega,h5,_,_,Xce s h4 h1 hj,h6,h3⟩
 ·rintro ⟨i,h1,h2,u,v,h3,h4,h5⟩
  obtain ⟨e1,e2,e3⟩:=Xne s h1 hj h3
  refine ⟨i+u.length,e3,(h.2 _ (by omega)).2 ⟨i,by omega,h2,?_⟩,?_⟩
  ·rw [← e1]; exact h4
  ·rw [← e2]; exact h5
def orAt (R1:List Bool) (out:List Bool) (k:Nat):List Bool:=out.set k (out.getD k false || R1.getD k false)
theorem Xbw (R1 out:List Bool):∀ k,(iter (orAt R1) out k).length=out.length∧∀ j,j<out.length→(iter (orAt R1) out k).getD j false=(out.getD j false || (decide (j<k) && R1.getD j false))
 | 0=>⟨rfl,fun j _=>by simp [iter]⟩
 | k+1=>by
  obtain ⟨h1,h2⟩:=Xbw R1 out k
  rw [iter]
  unfold orAt at h1 h2 ⊢
  refine ⟨by rw [Y1x]; exact h1,fun j hj=>?_⟩
  rw [Yd,Y2e]
  by_cases e:k=j
  ·subst e
   simp only [if_true,h1,hj,Y2i]
   rw [h2 k hj]
   simp
  ·simp only [e,if_false]
   rw [← Yd,h2 j hj]
   have:decide (j<k+1)=decide (j<k):=by simp; omega
   rw [this]
theorem EndsAt.or {s:List UInt8} {fr R1 R2:List Bool} {A B:Lang} (h:EndsAt s fr A R1) (k:EndsAt s fr B R2):EndsAt s fr (fun u=>A u∨B u) (iter (orAt R2) R1 (s.length+1)):=by
 obtain ⟨h1,h2⟩:=Xbw R2 R1 (s.length+1)
 refine ⟨h1.trans h.1,fun j hj=>?_⟩
 rw [h2 j (by rw [h.1]; omega),Y1w,Yn,decide_eq_true_eq,h.2 j hj,k.2 j hj]
 constructor
 ·rintro (⟨i,a,b,c⟩ | ⟨_,i,a,b,c⟩)
  ·exact ⟨i,a,b,.inl c⟩
  ·exact ⟨i,a,b,.inr c⟩
 ·rintro ⟨i,a,b,c | c⟩
  ·exact .inl ⟨i,a,b,c⟩
  ·exact .inr ⟨by omega,i,a,b,c⟩
theorem EndsAt.none (s:List UInt8) (fr:List Bool):EndsAt s fr (fun _=>False) (List.replicate (s.length+1) false) :=
 ⟨by simp,fun j hj=>⟨fun h=>(by rw [Xld] at h; cases h),fun ⟨_,_,_,h⟩=>h.elim⟩⟩
inductive Alts:List UInt8→Pt→Int→List Int→Prop
 | last {t b} (i:Int):Rep t b→b.flat→Alts t b i []
 | more {t1 b1 t2 b2 ps} (i:Int):Rep t1 b1→b1.flat→Alts t2 b2 (i+t1.length+1) ps→Alts (t1 ++ 124::t2) (b1.app (.bar b2)) i ((i+t1.length)::ps)
theorem Alts.pre {x t:List UInt8} {b:Pt} {i:Int} {ps:List Int} {f:Pt→Pt} (hf:∀ p,p.flat→(f p).flat) (hfa:∀ p q,f (p.app q)=(f p).app q) (h:Alts t b (i+x.length) ps) (hp:∀ {t1 p},(t1.head?=some 42→t.head?=some 42)→Rep t1 p→Rep (x ++ t1) (f p)):Alts (x ++ t) (f b) i ps:=by
 cases h with
 | last _ h1 h2=>exact .last i (hp (fun h=>h) h1) (hf _ h2)
 | @more t1 b1 t2 b2 ps _ h1 h2 h3 =>
  rw [← Y8,hfa]
  have e:i+(x.length:Int)+(t1.length:Int)=i+((x ++ t1).length:Int):=by simp; omega
  rw [e] at h3 ⊢
  refine .more i (hp ?_ h1) (hf _ h2) h3
  intro e
  cases t1 with
  | nil=>simp at e
  | cons y t1=>simpa using e
def spc (c:UInt8):Bool:=((((((c.toNat:Int) == 63) || ((c.toNat:Int) == 42)) || ((c.toNat:Int) == 40)) || ((c.toNat:Int) == 41)) || ((c.toNat:Int) == 124)) || ((c.toNat:Int) == 92)
def lit:List UInt8→List UInt8
 | []=>[]
 | c::l=>(bif spc c then [92,c] else [c]) ++ lit l
end Pat
namespace Go.Proofs.YtfibbpgikjggfaaGreatDoor
open Gk Pat
def z0:Sv:=⟨0,0,[],false,false,false,[],[]⟩
def right (l:List Sv):Prop:=∀ s∈l,(∃ Q,cmp s.urls=.ok Q)∧∃ Q,cmp s.calls=.ok Q
theorem Xbh (a:Option Addr) (c:Nat) (l:List (List UInt8)) (hl:l.length≤1000000) (B w:World) (I:Im) (hr:RS I a 1 l.length (l.map S)) (As:List X9) (hS:Sat B w I As) :
  Calls Tryz.prog 157 [.slice a l.length c].toArray w (Ret fun v w'=>∃ J ra rc,v=.slice ra l.length rc∧Le I J∧l.length≤rc∧RS J ra 1 l.length (l.map S)∧Sat B w' J As):=by
 have fin:∀ (v:Value) (w':World) (n:Nat) (xs:List Value),n=l.length→xs=l.map S→Go.RowKit.Below w.heap.size w w'→w'.ownsRow w.heap.size 9 1 v n xs→∃ J ra rc,v=.slice ra l.length rc∧Le I J∧l.length≤rc∧RS J ra 1 l.length (l.map S)∧Sat B w' J As:=by
  intro v w' n xs hn hx hb ho
  subst hn; subst hx
  have h2:=hS.grownRow hb ho
  obtain ⟨ra,rc,rfl,h3,_⟩:=h2.vecSlice (k:=0) rfl
  obtain ⟨J,hJ,hRS,hS2⟩:=h2.freezeVec (k:=0) rfl
  exact ⟨J,ra,rc,rfl,hJ,h3,hRS,hS2⟩
 cases a with
 | none =>
  have h0:l=[]:=by
   rcases Y1k l.length with h | h
   ·exact Ye h
   ·obtain ⟨p,hp,_⟩:=hr.2 h; cases hp
  subst h0
  refine (Tryz.slices_Clone_string_nil 0 c w).mono fun e w' he=>?_
  obtain ⟨rfl,rfl⟩:=he
  exact ⟨_,rfl,I,none,0,rfl,Le.refl _,Ys _,RS.nil _ _,hS⟩
 | some p =>
  rcases Y1k l.length with h | h
  ·have h0:=Ye h
   subst h0
   refine (Tryz.slices_Clone_string_zero p c w).mono fun e w' he=>?_
   obtain ⟨v',rfl,ho,_,hb⟩:=he
   exact ⟨_,rfl,fin v' w' 0 [] rfl rfl hb ho⟩
  ·obtain ⟨q,hq,hA⟩:=hr.2 h
   injection hq with hq
   subst hq
   obtain ⟨b,off,sp⟩:=p
   have hsp:sp=none:=hA.1
   subst hsp
   refine (Tryz.slices_Clone_string b off l.length c (l.map fun x=>⟨x.toArray⟩) w (by rw [Y13]; exact Ys _) (by omega) (fun j hj=>?_)).mono fun e w' he=>?_
   ·rw [Y13] at hj
    have h2:=X28 hS hA (j:=j) (v:=S (l[j])) (by rw [Yx,Y7 hj]; rfl)
    rw [show (⟨b,off,none⟩:Addr).add j=⟨b,off+j,none⟩ from Xt b off j] at h2
    rw [h2,Yd,Yx,Y7 hj]
    rfl
   ·obtain ⟨v',rfl,ho,_,hb⟩:=he
    refine ⟨_,rfl,fin v' w' l.length _ rfl ?_ hb ho⟩
    rw [Y11 (by rw [Y13]; exact Ys _),List.map_map]
    rfl
theorem Xpb (s:Sv) (a:Option Addr) (c:Nat) (hrl:s.rel.length≤1000000) (B w:World) (I:Im) (hr:RS I a 1 s.rel.length (s.rel.map S)) (As:List X9) (hS:Sat B w I As) :
  Calls Tryz.prog 112 [.agg [I64 s.id,F64 s.ord,S s.urls,.bool s.login,.bool s.proxy,.bool s.back,S s.calls,.slice a s.rel.length c].toArray].toArray w (Ret fun v w'=>∃ J cs,Le I J∧v=.agg (List.toArray cs)∧SvAt J s cs∧Sat B w' J As):=by
 refine calls Tryz.func112 rfl Tryz.ntmps112 rfl (.seq (.region (.boxA (cs:=[_,_,_,_,_,_,_,_]) hS (.of rfl) rfl ?_)))
 clear hS; intro b1 w hS
 refine .allocA (cs:=[_,_,_,_,_,_,_,_]) hS Xmt rfl ?_
 clear hS; intro b2 w hS
 refine .nil (.seq (.region (.val (.fieldAddr 7 (.of rfl) Xdt rfl rfl Xih rfl) rfl (.val (.ld (.of rfl) hS (k:=1) rfl Xjw rfl) rfl (.call Tryz.func157 rfl (X0 (.of rfl) X4) rfl (Xbh a c s.rel hrl B _ I hr _ hS) ?_)))))
 clear hS
 rintro _ w ⟨J,ra,rc,rfl,hJ,hrc,hrr,hS⟩
 refine .val (.fieldAddr 7 (.of rfl) Xdt rfl rfl Xih rfl) rfl (.st1 hS (k:=1) rfl (.of rfl) (.of rfl) rfl Xih (by simp) ?_)
 clear hS; intro w hS; try dsimp only [List.set] at hS
 refine .nil (.seq (.region (.val (.ldsW (cs:=[_,_,_,_,_,_,_,_]) (.of rfl) hS (k:=1) rfl Xjs X74 rfl) rfl (.stA hS (k:=0) rfl (.of rfl) (.of rfl) rfl X74 rfl (by simp) ?_))))
 clear hS; intro w hS; try dsimp only [List.set] at hS
 try simp only [Ym,Yc,Yg,Y9,Yl,Yo,Yf] at hS
 refine .nil (.ret (Xo6 (b:=_) (cs:=[_,_,_,_,_,_,_,_]) Tryz.results112 hS (k:=0) rfl Xjs X74 rfl rfl ?_))
 exact ⟨_,rfl,J,[I64 s.id,F64 s.ord,S s.urls,.bool s.login,.bool s.proxy,.bool s.back,S s.calls,.slice ra s.rel.length rc],hJ,rfl,⟨ra,rc,rfl,hrc,hrr⟩,(hS.drop (k:=0) rfl).drop (k:=0) rfl⟩
def X11 (s:Sv) (a:Option Addr) (c:Nat) (p q:Addr):List Value:=[I64 s.id,F64 s.ord,S s.urls,.bool s.login,.bool s.proxy,.bool s.back,S s.calls,.slice a s.rel.length c,.pointer (some p),.pointer (some q)]
def EntAt (I:Im) (s:Sv) (l:List Value):Prop:=∃ a c p q Q R,l=X11 s a c p q∧s.rel.length≤c∧RS I a 1 s.rel.length (s.rel.map S)∧cmp s.urls=.ok Q∧PatI I p Q s.urls.length∧cmp s.calls=.ok R∧PatI I q R s.calls.length
def EntsIn (I:Im) (a:Option Addr) (E:List (List Value)) (l:List Sv):Prop:=E.length=l.length∧∀ (i:Nat) (s:Sv),l[i]?=some s→∃ p c,a=some p∧E[i]?=some c∧At I (p.add (i*10)) c∧EntAt I s c
def Xcm (w:World) (I:Im) (a:Option Addr) (l:List Sv):Prop:=∀ (i:Nat) (s:Sv),l[i]?=some s→∃ p c,a=some p∧(∀ (j:Nat) v,c[j]?=some v→w.cell? ((p.add (i*10)).add j)=some v)∧EntAt I s c
theorem EntsIn.now {B w:World} {I:Im} {As:List X9} {a:Option Addr} {E:List (List Value)} {l:List Sv} (h:EntsIn I a E l) (hS:Sat B w I As):Xcm w I a l:=fun i s hs=>by
 obtain ⟨p,c,e,_,h1,h2⟩:=h.2 i s hs
 exact ⟨p,c,e,fun j v hj=>X28 hS h1 hj,h2⟩
theorem Xkc {B w:World} {I:Im} {As:List X9} {k T cap:Nat} {a:Option Addr} {E:List (List Value)} {l:List Sv} (hS:Sat B w I As) (hk:As[k]?=some (Vec T 10 (.slice a l.length cap) l.length E.flatten)) (h10:∀ c∈E,c.length=10)
  (hE:∀ (i:Nat) (s:Sv),l[i]?=some s→∃ c,E[i]?=some c∧EntAt I s c):Xcm w I a l:=fun i s hs=>by
 obtain ⟨c,hc,he⟩:=hE i s hs
 have hi:=(Y4.1 hs).1
 obtain ⟨g,cap',rest,hv,_,_,_,_,hS2⟩:=hS.vecOpen hk (by omega)
 injection hv with hv1 hv2 hv3
 have hlk:k<As.length:=(Y4.1 hk).1
 have hb:w.heap[g]?=some (Xh (E.flatten ++ rest) T):=hS2.block (k:=k) (by simp [hlk,blk])
 refine ⟨⟨g,0,none⟩,c,hv1,fun j v hj=>?_,he⟩
 have hjl:j<10:=by
  have h1:=(Y4.1 hj).1
  rw [h10 c (Yr hc)] at h1
  exact h1
 rw [Addr.add_add,show (⟨g,0,none⟩:Addr).add (i*10+j)=ad g (0+(i*10+j)) from Xt g 0 _,Yf]
 refine Xp hb ?_
 have h2:=X5b E h10 i j hjl
 rw [hc] at h2
 have h3:E.flatten[i*10+j]?=some v:=h2.trans hj
 rw [Yi (Y4.1 h3).1]
 exact h3
theorem ldsC {P:Program} {n:Nat} {L:Env} {w:World} {ty:TypeId} {pos:String} {af:Array Edge} {g:Option (Nat×Bool)} {t:TypeId} {x:Operand} {d:Option Nat} {p:Addr} {s:Nat} {vs:List Value} (hx:Ev n L x (.pointer (some p))) (hv:∀ (j:Nat) v,vs[j]?=some v→w.cell? (p.add j)=some v) (ht:∀ w,(isAgg t).run P w=.ok true w) (hs:∀ w,(Go.sizeOf t).run P w=.ok s w)
  (hl:vs.length=s):Ex P n L w ⟨d,.load t x,ty,pos,af,g⟩ (.agg vs.toArray) w:=fun a ha=>by
 have h:=run_loadCells_list (P:=P) w p vs hv
 rw [hl] at h
 simp [execOp,hx a ha,Instr.loadAt,Instr.sureAddr,loadVar,ht,hs,h]
def X1q (pr:Sv→Bool):List Sv→Nat→Int
 | [],_=>-1
 | s::r,i=>if pr s then (i:Int) else X1q pr r (i+1)
theorem X50 (pr:Sv→Bool):∀ (n:Nat) (r:List Sv) (i:Nat),(∀ (j:Nat) s,j<n→r[j]?=some s→pr s=false)→X1q pr r i=X1q pr (r.drop n) (i+min n r.length)
 | 0,r,i,_=>by simp
 | n+1,[],i,_=>by simp [X1q]
 | n+1,s::r,i,h=>by
  rw [X1q,if_neg (by rw [h 0 s (by omega) rfl]; decide),X50 pr n r (i+1) (fun j t hj ht=>h (j+1) t (by omega) (by simpa using ht)),Y9,Y6]
  congr 1
  omega
theorem Xgh {pr:Sv→Bool} {l:List Sv} {i:Nat} {s:Sv} (h:∀ (j:Nat) t,j<i→l[j]?=some t→pr t=false) (hs:l[i]?=some s) (hp:pr s=true):X1q pr l 0=(i:Int):=by
 have hi:=(Y4.1 hs).1
 rw [X50 pr i l 0 h,Yf,Y31 (by omega),Y1e hi,(Y4.1 hs).2,X1q,if_pos hp]
theorem Xe1 {pr:Sv→Bool} {l:List Sv} (h:∀ (j:Nat) t,l[j]?=some t→pr t=false):X1q pr l 0=-1:=by
 rw [X50 pr l.length l 0 (fun j t _ ht=>h j t ht),Y39]
 rfl
theorem X3i (a:Option Addr) (cap:Nat) (l:List Sv) (hln:l.length≤100000) (pr:Sv→Bool) (fid:FuncId) (fn:Func) (hfn:Tryz.prog.funcs[fid]?=some fn) (hcal:Xk fn=true) (capv:List Value) (B w:World) (I:Im) (As:List X9) (hE:∀ w,Sat B w I As→Xcm w I a l) (hf:∀ (s:Sv) (c:List Value),EntAt I s c→∀ w,Sat B w I As→Calls Tryz.prog fid ([Value.agg c.toArray] ++ capv).toArray w (Ret fun v w'=>v=.bool (pr s)∧Sat B w' I As)) (hS:Sat B w I As) :
  Calls Tryz.prog 109 [.slice a l.length cap,.func (.func fid) #[] capv.toArray].toArray w (Ret fun v w'=>v=I64 (X1q pr l 0)∧Sat B w' I As):=by
 refine calls Xl3 rfl Tryz.ntmps109 rfl (.seq (.q 1 rfl (.seq (.seq (.region (.run 3 rfl ⟨⟨_,X63⟩,trivial⟩ (.nil (.block (.loop (σ:=Nat) (fun i=>[(0,.slice a l.length cap),(1,.func (.func fid) #[] capv.toArray),(7,I64 (l.length:Nat)),(8,I64 (i:Nat))]) (fun i w=>i≤l.length∧(∀ (j:Nat) t,j<i→l[j]?=some t→pr t=false)∧Sat B w I As) (fun i=>l.length - i) 0 ⟨rfl,rfl,rfl,rfl,trivial⟩ ⟨Yp _,fun _ _ h=>absurd h (by omega),hS⟩ ?_)))))))))
 rintro i w ⟨hi,hno,hS⟩
 change WC _ _ _ _ [(0,.slice a l.length cap),(1,.func (.func fid) #[] capv.toArray),(7,I64 (l.length:Nat)),(8,I64 (i:Nat))] w
 refine .seq (.q 1 rfl (.seq ?_))
 refine WC.cond rfl (fun hb9=>?_) (fun hb9=>?_)
 ·
  have hc9:=hb9; try simp only [Y5] at hc9
  refine .skip (.seq (.block (.seq ?_)))
  obtain ⟨s,hs⟩:∃ s,l[i]?=some s:=⟨_,Y7 (by omega)⟩
  obtain ⟨p,c,rfl,hx,he⟩:=hE w hS i s hs
  have he2:=he
  obtain ⟨ra,rc,pp,qq,Q,R,rfl,_⟩:=he2
  unfold X11 at hx he
  refine .q 2 rfl (.seq (.t 3 rfl (.val (.indexAddrI (.of rfl) (.of rfl) (by omega) (by omega) X63 X2w) rfl (.val (ldsC (.of rfl) hx Xcb X2w rfl) rfl (.vcall (cap:=capv) hfn hcal (.of rfl) (X0 (.of rfl) X4) rfl (hf s _ he w hS) ?_)))))
  clear hS
  rintro _ w ⟨rfl,hS⟩
  refine .nil ?_
  refine WC.cond rfl (fun hb16=>?_) (fun hb16=>?_)
  ·
   have hc16:=hb16; try simp only [Y5] at hc16
   refine .seq (.q 2 rfl (.ret (Xe Tryz.results109 rfl ?_)))
   exact ⟨_,rfl,by rw [Xgh hno hs hb16],hS⟩
  have hc16:=hb16; try simp only [Y5] at hc16
  refine .skip (.region (.run 2 rfl ⟨⟨by omega,by omega⟩,trivial⟩ (.nil ?_)))
  refine ⟨i+1,⟨rfl,rfl,rfl,rfl,trivial⟩,⟨by omega,fun j t hj ht=>?_,hS⟩,by omega⟩
  rcases Yv j i with h1 | h1
  ·exact hno j t h1 ht
  ·have e:j=i:=by omega
   subst e
   rw [hs] at ht; cases ht
   exact hb16
 have hc9:=hb9; try simp only [Y5] at hc9
 refine .exit (.seq (.q 1 rfl (.ret (Xe Tryz.results109 rfl ?_))))
 exact ⟨_,rfl,by rw [Xe1 (fun j t ht=>hno j t (by have:=(Y4.1 ht).1; omega) ht)],hS⟩
theorem X6z (a:Option Addr) (cap:Nat) (l:List Sv) (hln:l.length≤100000) (pr:Sv→Bool) (fid:FuncId) (fn:Func) (hfn:Tryz.prog.funcs[fid]?=some fn) (hcal:Xk fn=true) (capv:List Value) (B w:World) (I:Im) (As:List X9) (hE:∀ w,Sat B w I As→Xcm w I a l) (hf:∀ (s:Sv) (c:List Value),EntAt I s c→∀ w,Sat B w I As→Calls Tryz.prog fid ([Value.agg c.toArray] ++ capv).toArray w (Ret fun v w'=>v=.bool (pr s)∧Sat B w' I As)) (hS:Sat B w I As) :
  Calls Tryz.prog 187 [.slice a l.length cap,.func (.func fid) #[] capv.toArray].toArray w (Ret fun v w'=>v=.bool (decide (0≤X1q pr l 0))∧Sat B w' I As):=by
 refine calls Tryz.func187 rfl Tryz.ntmps187 rfl (.seq (.q 1 rfl (.seq (.t 2 rfl (.call Xl3 rfl (X0 (.of rfl) (X0 (.of rfl) X4)) rfl (X3i a cap l hln pr fid fn hfn hcal capv B _ I As hE hf hS) ?_)))))
 clear hS
 rintro _ w ⟨rfl,hS⟩
 refine .q 2 rfl (.nil (.ret (Xe Tryz.results187 rfl ?_)))
 exact ⟨_,rfl,rfl,hS⟩
end Go.Proofs.YtfibbpgikjggfaaGreatDoor
namespace Go.Proofs.YtfibbpgikjggfaaGreatDoor
open Gk Ul Pc Tk Tr
def Xd (l:List Rec):List Value:=(l.map X8).flatten
theorem X7k (l:List Rec):(Xd l).length=l.length*10:=by
 unfold Xd
 induction l with
 | nil=>rfl
 | cons r l ih=>rw [Y1c,Y1t,Y0,ih,Y6,show (X8 r).length=10 from rfl]; omega
def RecsW (w:World) (a:Option Addr) (l:List Rec):Prop:=∀ (i:Nat) (r:Rec),l[i]?=some r→∃ p,a=some p∧(∀ (j:Nat) v,(X8 r)[j]?=some v→w.cell? ((p.add (i*10)).add j)=some v)
theorem Xje {l:List Rec} {i j:Nat} {r:Rec} {v:Value} (hr:l[i]?=some r) (hj:(X8 r)[j]?=some v):(Xd l)[i*10+j]?=some v:=by
 have h2:=X5b (l.map X8) (fun c hc=>by obtain ⟨x,_,rfl⟩:=Y2c.1 hc; rfl) i j (show j<10 from (Y4.1 hj).1)
 rw [Yx,hr] at h2
 exact h2.trans hj
theorem X2c {B w:World} {I:Im} {As:List X9} {k T cap:Nat} {a:Option Addr} {l:List Rec} (hS:Sat B w I As) (hk:As[k]?=some (Vec T 10 (.slice a l.length cap) l.length (Xd l))):RecsW w a l:=fun i r hr=>by
 have hi:=(Y4.1 hr).1
 obtain ⟨g,cap',rest,hv,_,_,_,_,hS2⟩:=hS.vecOpen hk (by omega)
 injection hv with hv1 hv2 hv3
 have hlk:k<As.length:=(Y4.1 hk).1
 have hb:w.heap[g]?=some (Xh (Xd l ++ rest) T):=hS2.block (k:=k) (by simp [hlk,blk])
 refine ⟨⟨g,0,none⟩,hv1,fun j v hj=>?_⟩
 rw [Addr.add_add,show (⟨g,0,none⟩:Addr).add (i*10+j)=ad g (0+(i*10+j)) from Xt g 0 _,Yf]
 refine Xp hb ?_
 have h3:=Xje hr hj
 rw [Yi (Y4.1 h3).1]
 exact h3
theorem ldC {P:Program} {n:Nat} {L:Env} {w:World} {ty:TypeId} {pos:String} {af:Array Edge} {g:Option (Nat×Bool)} {t:TypeId} {x:Operand} {d:Option Nat} {p:Addr} {v:Value} (hx:Ev n L x (.pointer (some p))) (hv:w.cell? p=some v) (ht:∀ w,(isAgg t).run P w=.ok false w):Ex P n L w ⟨d,.load t x,ty,pos,af,g⟩ v w:=fun a hh=>by
 simp [execOp,hx a hh,Instr.loadAt,Instr.sureAddr,loadVar,ht,load,Sem.run,hv]
theorem Ex.slNil {P:Program} {n:Nat} {L:Env} {w:World} {ty t':TypeId} {pos:String} {af:Array Edge} {g:Option (Nat×Bool)} {t e:TypeId} {x y:Operand} {d:Option Nat} {a:Option Addr} {m c:Nat} (hx:Ev n L x (.slice a m c)) (hy:Ev n L y (.slice none 0 0)) (hT:P.underlying t=some (.slice e)):Ex P n L w ⟨d,.binOp .eql t x y t',ty,pos,af,g⟩ (.bool a.isNone) w :=
 Xz hx hy (fun _ _=>by unfold eqGuard; split <;> simp) (run_eql_slice_nil w t e a m c hT)
theorem SepAll.app:∀ {Xs As:List X9} {h:X91},SepAll (Xs ++ As) h ↔ ∃ h1 h2,h=h1 ++ h2∧SepAll Xs h1∧SepAll As h2
 | [],As,h=>⟨fun hs=>⟨[],h,rfl,rfl,hs⟩,fun ⟨h1,h2,e,h3,h4⟩=>by
   have h3:h1=[]:=h3
   subst h3; subst e; exact h4⟩
 | X::Xs,As,h=>by
  constructor
  ·rintro ⟨h1,h2,rfl,hx,hs⟩
   obtain ⟨h3,h4,rfl,h5,h6⟩:=(SepAll.app (Xs:=Xs)).1 hs
   exact ⟨h1 ++ h3,h4,by rw [Y8],⟨h1,h3,rfl,hx,h5⟩,h6⟩
  ·rintro ⟨h1,h2,rfl,⟨h3,h4,rfl,hx,h5⟩,h6⟩
   exact ⟨h3,h4 ++ h2,by rw [Y8],hx,(SepAll.app (Xs:=Xs)).2 ⟨h4,h2,rfl,h5,h6⟩⟩
def Box {X:Type} (T:X→List X9):X9:=fun h=>∃ x,SepAll (T x) h
theorem Sat.unbox {X:Type} {T:X→List X9} {B w:World} {I:Im} {As:List X9} (hS:Sat B w I (Box T::As)):∃ x,Sat B w I (T x ++ As):=by
 obtain ⟨h,⟨h1,h2,rfl,⟨x,hx⟩,h3⟩,hg⟩:=hS
 exact ⟨x,h1 ++ h2,SepAll.app.2 ⟨h1,h2,rfl,hx,h3⟩,hg⟩
theorem Sat.box {X:Type} {T:X→List X9} {B w:World} {I:Im} {As:List X9} (x:X) (hS:Sat B w I (T x ++ As)):Sat B w I (Box T::As):=by
 obtain ⟨h,hs,hg⟩:=hS
 obtain ⟨h1,h2,rfl,h3,h4⟩:=SepAll.app.1 hs
 exact ⟨h1 ++ h2,⟨h1,h2,rfl,⟨x,h3⟩,h4⟩,hg⟩
theorem X4k (a:Option Addr) (cap:Nat) (l:List Rec) (hln:l.length≤100000) (pr:Rec→Bool) (fid:FuncId) (fn:Func) (hfn:Tryz.prog.funcs[fid]?=some fn) (hcal:Xk fn=true) (capv:List Value) (B w:World) (I:Im) (As:List X9) (hE:∀ w,Sat B w I As→RecsW w a l) (hf:∀ (r:Rec) w,Sat B w I As→Calls Tryz.prog fid ([Value.agg (X8 r).toArray] ++ capv).toArray w (Ret fun v w'=>v=.bool (pr r)∧Sat B w' I As)) (hS:Sat B w I As) :
  Calls Tryz.prog 116 [.slice a l.length cap,.func (.func fid) #[] capv.toArray].toArray w (Ret fun v w'=>v=I64 (X1l pr l 0)∧Sat B w' I As):=by
 refine calls Tryz.func116 rfl Tryz.ntmps116 rfl (.seq (.q 1 rfl (.seq (.seq (.region (.run 3 rfl ⟨⟨_,X7e⟩,trivial⟩ (.nil (.block (.loop (σ:=Nat) (fun i=>[(0,.slice a l.length cap),(1,.func (.func fid) #[] capv.toArray),(7,I64 (l.length:Nat)),(8,I64 (i:Nat))]) (fun i w=>i≤l.length∧(∀ (j:Nat) t,j<i→l[j]?=some t→pr t=false)∧Sat B w I As) (fun i=>l.length - i) 0 ⟨rfl,rfl,rfl,rfl,trivial⟩ ⟨Yp _,fun _ _ h=>absurd h (by omega),hS⟩ ?_)))))))))
 rintro i w ⟨hi,hno,hS⟩
 change WC _ _ _ _ [(0,.slice a l.length cap),(1,.func (.func fid) #[] capv.toArray),(7,I64 (l.length:Nat)),(8,I64 (i:Nat))] w
 refine .seq (.q 1 rfl (.seq ?_))
 refine WC.cond rfl (fun hb9=>?_) (fun hb9=>?_)
 ·
  have hc9:=hb9; try simp only [Y5] at hc9
  refine .skip (.seq (.block (.seq ?_)))
  obtain ⟨r,hr⟩:∃ r,l[i]?=some r:=⟨_,Y7 (by omega)⟩
  obtain ⟨p,rfl,hx⟩:=hE w hS i r hr
  refine .q 2 rfl (.seq (.t 3 rfl ?_))
  refine WL.val (.indexAddrI (.of rfl) (.of rfl) (by omega) (by omega) X7e X26) rfl ?_
  refine .val (ldsC (.of rfl) hx X97 X26 rfl) rfl (.vcall (cap:=capv) hfn hcal (.of rfl) (X0 (.of rfl) X4) rfl (hf r w hS) ?_)
  clear hS
  rintro _ w ⟨rfl,hS⟩
  refine .nil ?_
  refine WC.cond rfl (fun hb16=>?_) (fun hb16=>?_)
  ·
   have hc16:=hb16; try simp only [Y5] at hc16
   refine .seq (.q 2 rfl (.ret (Xe Tryz.results116 rfl ?_)))
   exact ⟨_,rfl,by rw [X5y hno hr hb16],hS⟩
  have hc16:=hb16; try simp only [Y5] at hc16
  refine .skip (.region (.run 2 rfl ⟨⟨by omega,by omega⟩,trivial⟩ (.nil ?_)))
  refine ⟨i+1,⟨rfl,rfl,rfl,rfl,trivial⟩,⟨by omega,fun j t hj ht=>?_,hS⟩,by omega⟩
  rcases Yv j i with h1 | h1
  ·exact hno j t h1 ht
  ·have e:j=i:=by omega
   subst e
   rw [hr] at ht; cases ht
   exact hb16
 have hc9:=hb9; try simp only [Y5] at hc9
 refine .exit (.seq (.q 1 rfl (.ret (Xe Tryz.results116 rfl ?_))))
 exact ⟨_,rfl,by rw [X4u (fun j t ht=>hno j t (by have:=(Y4.1 ht).1; omega) ht)],hS⟩
theorem Xok (r:Rec) (name:List UInt8) (b:Nat) (B w:World) (I:Im) (As:List X9) (hS:Sat B w I (blk b [S name] 9::As)) :
  Calls Tryz.prog 117 [.agg (X8 r).toArray,ptr b 0].toArray w (Ret fun v w'=>v=.bool (decide (r.name=name))∧Sat B w' I (blk b [S name] 9::As)):=by
 refine calls Tryz.func117 rfl Tryz.ntmps117 rfl (.seq (.region (.boxA (cs:=[_,_,_,_,_,_,_,_,_,_]) hS (.of rfl) rfl ?_)))
 clear hS; intro b2 w hS
 refine .q 1 rfl (.nil (.seq (.region ?_)))
 refine WL.val (.fieldAddr 1 (.of rfl) X20 rfl rfl Qs9 rfl) rfl ?_
 refine WL.val (.ld (.of rfl) hS (k:=0) rfl Qg9 rfl) rfl ?_
 refine WL.val (.ld (.of rfl) hS (k:=1) rfl Qg9 rfl) rfl ?_
 refine .q 2 rfl (.nil (.ret (Xe Tryz.results117 rfl ?_)))
 exact ⟨_,rfl,congrArg Value.bool (by rw [Bool.eq_iff_iff]; simp),hS.drop (k:=0) rfl⟩
theorem X8r (tb:Nat) (room:Int) (a:Option Addr) (c:Nat) (l:List Rec) (hl:l.length≤100000) (name:List UInt8) (B w:World) (I:Im) (As:List X9) (hS:Sat B w I (blk tb [I64 room,.slice a l.length c] 114::Vec 54 10 (.slice a l.length c) l.length (Xd l)::As)) :
  Calls Tryz.prog 54 [ptr tb 0,S name].toArray w (Ret fun v w'=>v=I64 (at0 l name)∧Sat B w' I (blk tb [I64 room,.slice a l.length c] 114::Vec 54 10 (.slice a l.length c) l.length (Xd l)::As)):=by
 refine calls Xn2 rfl Tryz.ntmps54 rfl (.seq (.region (.box1 hS (.of rfl) rfl rfl ?_)))
 clear hS; intro b3 w hS
 refine .q 1 rfl (.nil (.seq (.t 2 rfl ?_)))
 refine WL.val (.fieldAddr 1 (.of rfl) X5e rfl rfl Xf0 rfl) rfl ?_
 refine WL.val (.ld (.of rfl) hS (k:=1) rfl Xjt rfl) rfl ?_
 refine .val (.makeFunc (X0 (.of rfl) X4)) rfl (.call Tryz.func116 rfl (X0 (.of rfl) (X0 (.of rfl) X4)) rfl (X4k a c l hl (fun r=>decide (r.name=name)) 117 _ Tryz.func117 rfl [ptr b3 0] B _ I (blk b3 [S name] 9::(blk tb [I64 room,.slice a l.length c] 114::Vec 54 10 (.slice a l.length c) l.length (Xd l)::As)) (fun w h=>X2c h (k:=2) rfl) (fun r w h=>Xok r name b3 B w I _ h) hS) ?_)
 clear hS
 rintro _ w ⟨rfl,hS⟩
 refine .q 1 rfl (.nil (.ret (Xe Tryz.results54 rfl ?_)))
 exact ⟨_,rfl,by rw [Xe8]; rfl,hS.drop (k:=0) rfl⟩
theorem X3n:Bld Tryz.prog 54 [(0,1),(1,1),(2,1),(3,1),(4,1),(5,1),(6,1),(7,1),(8,1),(9,1)] [.int .i64 0,S [],S [],S [],S [],S [],.int .i64 0,.int .i64 0,.int .i64 0,.bool false]:=X2l X20 Xbl (fun w=>by simp [go_sem])
theorem X60 (tb:Nat) (room:Int) (a:Option Addr) (c:Nat) (l:List Rec) (hl:l.length≤100000) (name:List UInt8) (B w:World) (I:Im) (As:List X9) (hS:Sat B w I (blk tb [I64 room,.slice a l.length c] 114::Vec 54 10 (.slice a l.length c) l.length (Xd l)::As)) :
  Calls Tryz.prog 15 [ptr tb 0,S name].toArray w (Ret fun v w'=>v=.tuple #[.agg (X8 (getD l name)).toArray,.bool (get l name).isSome]∧Sat B w' I (blk tb [I64 room,.slice a l.length c] 114::Vec 54 10 (.slice a l.length c) l.length (Xd l)::As)):=by
 refine calls Xow rfl Tryz.ntmps15 rfl (.seq (.region (.allocA (cs:=[_,_,_,_,_,_,_,_,_,_]) hS Xbl rfl ?_)))
 clear hS; intro b4 w hS
 refine .q 1 rfl (.nil (.seq (.seq (.t 2 rfl (.call Xn2 rfl (X0 (.of rfl) (X0 (.of rfl) X4)) rfl (X8r tb room a c l hl name B _ I _ ((hS.pick 2 rfl).pick 2 rfl)) ?_)))))
 clear hS
 rintro _ w ⟨rfl,hS⟩
 replace hS:=hS.pick 2 rfl
 refine .q 1 rfl (.nil (.seq (.q 2 rfl ?_)))
 refine WC.cond rfl (fun hb11=>?_) (fun hb11=>?_)
 ·
  have hc11:=hb11; try simp only [Y5] at hc11
  refine .seq ?_
  have hq:0≤at0 l name:=by simpa using hb11
  obtain ⟨j,r,hj,hr,hn⟩:∃ (j:Nat) (r:Rec),at0 l name=(j:Int)∧l[j]?=some r∧get l name=some r:=by
   rcases Tr.get_at l name with ⟨h1,_⟩ | ⟨j,r,h1,h2,_,h3⟩
   ·omega
   ·exact ⟨j,r,h1,h2,h3⟩
  have hjl:=(Y4.1 hr).1
  obtain ⟨p,rfl,hx⟩:=X2c hS (k:=2) rfl j r hr
  rw [hj]
  refine .t 2 rfl ?_
  refine WL.val (.fieldAddr 1 (.of rfl) X5e rfl rfl Xf0 rfl) rfl ?_
  refine WL.val (.ld (.of rfl) hS (k:=1) rfl Xjt rfl) rfl ?_
  refine .q 1 rfl ?_
  refine WL.val (.indexAddrI (.of rfl) (.of rfl) (by omega) (by omega) X7e X26) rfl ?_
  refine .val (ldsC (.of rfl) hx X97 X26 rfl) rfl ?_
  refine WL.stA hS (k:=0) rfl (.of rfl) (.of rfl) rfl X26 rfl (by simp) ?_
  clear hS; intro w hS; try dsimp only [List.set] at hS
  try simp only [Ym,Yc,Yg,Y9,Yl,Yo,Yf] at hS
  refine .q 1 rfl (.nil (.ret ?_))
  refine X1j (b:=_) (cs:=[_,_,_,_,_,_,_,_,_,_]) Tryz.results15 hS (k:=0) rfl X97 X26 rfl rfl rfl ?_
  exact ⟨_,rfl,by rw [getD,hn]; rfl,hS.drop (k:=0) rfl⟩
 have hc11:=hb11; try simp only [Y5] at hc11
 refine .skip (.seq (.region (.val (.build (cs:=[_,_,_,_,_,_,_,_,_,_]) X6 X3n rfl) rfl ?_)))
 refine WL.stA hS (k:=0) rfl (.of rfl) (.of rfl) rfl X26 rfl (by simp) ?_
 clear hS; intro w hS; try dsimp only [List.set] at hS
 try simp only [Ym,Yc,Yg,Y9,Yl,Yo,Yf] at hS
 refine .q 1 rfl (.nil (.ret ?_))
 refine X1j (b:=_) (cs:=[_,_,_,_,_,_,_,_,_,_]) Tryz.results15 hS (k:=0) rfl X97 X26 rfl rfl rfl ?_
 refine ⟨_,rfl,?_,hS.drop (k:=0) rfl⟩
 rcases Tr.get_at l name with ⟨h1,h2⟩ | ⟨j,r,h1,_⟩
 ·rw [getD,h2]; rfl
 ·exfalso; rw [h1] at hb11; simp at hb11
theorem Xc3 {l:List Rec} {i:Nat} {r:Rec} (hr:l[i]?=some r) (name:List UInt8):X2j (l.take (i+1)) name=X2j (l.take i) name ++ (if name≠[]∧r.parent=name then [r.name] else []):=by
 unfold X2j Xgm
 rw [Y1a,hr,Y28,Y48,Yy]
 congr 1
 by_cases h1:name=[]
 ·simp [h1]
 ·by_cases h2:r.parent=name
  ·simp [h1,h2]
  ·simp [h1,h2]
theorem Xd6 (l:List Rec) (name:List UInt8):(X2j l name).length≤l.length:=by
 unfold X2j Xgm
 rw [Y13]
 exact List.length_filter_le _ _
theorem Xei (tb:Nat) (room:Int) (a:Option Addr) (c:Nat) (l:List Rec) (hl:l.length≤100000) (name:List UInt8) (B w:World) (I:Im) (As:List X9) (hS:Sat B w I (blk tb [I64 room,.slice a l.length c] 114::Vec 54 10 (.slice a l.length c) l.length (Xd l)::As)) :
  Calls Tryz.prog 124 [ptr tb 0,S name].toArray w (Ret fun v w'=>∃ J ra rc,v=.slice ra (X2j l name).length rc∧Le I J∧(X2j l name).length≤rc∧RS J ra 1 (X2j l name).length ((X2j l name).map S)∧Sat B w' J (blk tb [I64 room,.slice a l.length c] 114::Vec 54 10 (.slice a l.length c) l.length (Xd l)::As)):=by
 refine calls Tryz.func124 rfl Tryz.ntmps124 rfl (.seq (.q 1 rfl (.seq (.q 1 rfl (.seq (.seq ?_))))))
 replace hS:=hS.vecNil 9 1
 refine .t 2 rfl ?_
 refine WL.val (.fieldAddr 1 (.of rfl) X5e rfl rfl Xf0 rfl) rfl ?_
 refine WL.val (.ld (.of rfl) hS (k:=1) rfl Xjt rfl) rfl ?_
 refine .run 2 rfl ⟨⟨_,X7e⟩,trivial⟩ (.nil (.block (.loop (σ:=Value×Nat) (fun ⟨kv,i⟩=>[(0,ptr tb 0),(1,S name),(5,kv),(11,.slice a l.length c),(12,I64 (l.length:Nat)),(13,I64 (i:Nat))]) (fun ⟨kv,i⟩ w=>i≤l.length∧Sat B w I (Vec 9 1 kv (X2j (l.take i) name).length ((X2j (l.take i) name).map S)::blk tb [I64 room,.slice a l.length c] 114::Vec 54 10 (.slice a l.length c) l.length (Xd l)::As)) (fun ⟨kv,i⟩=>l.length - i) (.slice none 0 0,0) ⟨rfl,rfl,rfl,rfl,rfl,rfl,trivial⟩ ⟨Yp _,hS⟩ ?_)))
 rintro ⟨kv,i⟩ w ⟨hi,hS⟩
 change WC _ _ _ _ [(0,ptr tb 0),(1,S name),(5,kv),(11,.slice a l.length c),(12,I64 (l.length:Nat)),(13,I64 (i:Nat))] w
 refine .seq (.q 1 rfl (.seq ?_))
 refine WC.cond rfl (fun hb14=>?_) (fun hb14=>?_)
 ·
  have hc14:=hb14; try simp only [Y5] at hc14
  refine .skip (.seq (.block (.seq ?_)))
  obtain ⟨r,hr⟩:∃ r,l[i]?=some r:=⟨_,Y7 (by omega)⟩
  obtain ⟨p,rfl,hx⟩:=X2c hS (k:=2) rfl i r hr
  have hkl:=Xd6 (l.take i) name
  rw [Yq] at hkl
  refine .region ?_
  refine WL.val (.indexAddrI (.of rfl) (.of rfl) (by omega) (by omega) X7e X26) rfl ?_
  refine .val (ldsC (.of rfl) hx X97 X26 rfl) rfl (.allocA (cs:=[_,_,_,_,_,_,_,_,_,_]) hS Xbl rfl ?_)
  clear hS; intro b7 w hS
  refine WL.stA hS (k:=0) rfl (.of rfl) (.of rfl) rfl X26 rfl (by simp) ?_
  clear hS; intro w hS; try dsimp only [List.set] at hS
  try simp only [Ym,Yc,Yg,Y9,Yl,Yo,Yf] at hS
  refine .nil (.seq (.t 3 rfl ?_))
  refine WL.gval rfl rfl (fun hg1=>(by exact .fieldAddr 2 (.of rfl) X20 rfl rfl Qs9 rfl)) rfl ?_
  refine WL.gval rfl rfl (fun hg1=>(by exact (.ld (.gd hg1 rfl) hS (k:=0) rfl Qg9 rfl))) rfl ?_
  refine .gval rfl rfl (fun hg1=>(.move (.of rfl))) rfl (.gval rfl rfl (fun hg1=>(.eqs (.gd hg1 rfl) (.gd hg1 rfl))) rfl (.val (.pand (.of rfl) (.of rfl) (.of rfl)) rfl (.nil ?_)))
  refine WC.cond rfl (fun hb24=>?_) (fun hb24=>?_)
  ·
   have hc24:=hb24; try simp only [Y5] at hc24
   refine .t 1 rfl ?_
   refine WL.val (.fieldAddr 1 (.of rfl) X20 rfl rfl Qs9 rfl) rfl ?_
   refine WL.val (.ld (.of rfl) hS (k:=0) rfl Qg9 rfl) rfl ?_
   refine .buildSlice (cs:=[_]) hS (X5 (.of rfl) X6) X1f Qs9 Qz9 rfl rfl rfl rfl ?_
   clear hS; intro b28 w hS
   refine WL.append (size:=1) (bytes:=16) hS (.of rfl) (.of rfl) (k:=1) rfl X1f X1h rfl rfl rfl rfl rfl rfl rfl ⟨by omega,by unfold maxLen; omega⟩ rfl ?_
   clear hS; intro v29 w hS; try dsimp only [List.set] at hS
   obtain ⟨a29,c29,rfl,hcap29,_⟩:=hS.vecSlice (k:=1) (v:=v29) rfl
   refine .q 1 rfl (.nil (.region (.run 2 rfl ⟨⟨by omega,by omega⟩,trivial⟩ (.nil ?_))))
   have e:=Xc3 hr name
   rw [if_pos (by simpa using hb24)] at e
   refine ⟨(.slice a29 ((X2j (l.take i) name).length+1) c29,i+1),⟨rfl,rfl,rfl,rfl,rfl,rfl,trivial⟩,⟨by (try dsimp only); omega,?_⟩,by (try dsimp only); omega⟩
   (try dsimp only)
   rw [e,Y0,Yy]
   exact hS.drop (k:=0) rfl
  have hc24:=hb24; try simp only [Y5] at hc24
  refine .skip (.region (.run 2 rfl ⟨⟨by omega,by omega⟩,trivial⟩ (.nil ?_)))
  have e:=Xc3 hr name
  rw [if_neg (by simpa using hb24),Yg] at e
  refine ⟨(kv,i+1),⟨rfl,rfl,rfl,rfl,rfl,rfl,trivial⟩,⟨by (try dsimp only); omega,?_⟩,by (try dsimp only); omega⟩
  (try dsimp only)
  rw [e]
  exact hS.drop (k:=0) rfl
 have hc14:=hb14; try simp only [Y5] at hc14
 refine .exit (.seq (.q 2 rfl (.ret (Xe Tryz.results124 rfl ?_))))
 have hin:i=l.length:=by omega
 subst hin
 rw [Y1b] at hS
 obtain ⟨ka,kc,rfl,hkc,_⟩:=hS.vecSlice (k:=0) rfl
 obtain ⟨J,hJ,hRS,hS⟩:=hS.freezeVec (k:=0) rfl
 exact ⟨_,rfl,J,ka,kc,rfl,hJ,hkc,hRS,hS⟩
theorem Xeo (l:List Rec):∀ (f:Nat) (i:Int),(X53 l f i).length≤f
 | 0,_=>by simp [X53]
 | f+1,i=>by
  rw [X53]
  split
  ·simp
  ·cases l[i.toNat]? with
   | none=>simp
   | some r =>
    have h:=Xeo l f (at0 l r.parent)
    simp only [Y6]; omega
theorem Xh4 {l:List Rec} (h:Wf l) (name:List UInt8):(path l name).length≤l.length:=by
 unfold path Xcv
 rcases X2r l name with ⟨h1,_⟩ | ⟨j,r,h1,h2,_⟩
 ·rw [h1,X37 l _ (by omega)]; simp
 ·have h3:=(Y4.1 h2).1
  have h4:=Xeo l ((at0 l name).toNat+1) (at0 l name)
  rw [h1] at h4 ⊢
  omega
theorem Xln (tb:Nat) (room:Int) (a:Option Addr) (c:Nat) (l:List Rec) (hl:l.length≤100000) (hwf:Wf l) (name:List UInt8) (B w:World) (I:Im) (As:List X9) (hS:Sat B w I (blk tb [I64 room,.slice a l.length c] 114::Vec 54 10 (.slice a l.length c) l.length (Xd l)::As)) :
  Calls Tryz.prog 121 [ptr tb 0,S name].toArray w (Ret fun v w'=>∃ J ra rc,v=.slice ra (path l name).length rc∧Le I J∧(path l name).length≤rc∧RS J ra 1 (path l name).length ((path l name).map fun r=>S r.name)∧Sat B w' J (blk tb [I64 room,.slice a l.length c] 114::Vec 54 10 (.slice a l.length c) l.length (Xd l)::As)):=by
 refine calls Tryz.func121 rfl Tryz.ntmps121 rfl (.seq (.q 1 rfl (.seq (.q 1 rfl (.seq (.seq (.t 2 rfl (.call Xn2 rfl (X0 (.of rfl) (X0 (.of rfl) X4)) rfl (X8r tb room a c l hl name B _ I _ hS) ?_))))))))
 clear hS
 rintro _ w ⟨rfl,hS⟩
 replace hS:=hS.vecNil 9 1
 refine .q 1 rfl (.nil (.block (.loop (σ:=Value×Int×List Rec) (fun ⟨kv,i,D⟩=>[(0,ptr tb 0),(1,S name),(5,kv),(6,I64 i)]) (fun ⟨kv,i,D⟩ w=>path l name=D ++ Xcv l i∧-1≤i∧i<l.length∧Sat B w I (Vec 9 1 kv D.length (D.map fun r=>S r.name)::blk tb [I64 room,.slice a l.length c] 114::Vec 54 10 (.slice a l.length c) l.length (Xd l)::As)) (fun ⟨kv,i,D⟩=>(i+1).toNat) (.slice none 0 0,at0 l name,[]) ⟨rfl,rfl,rfl,rfl,trivial⟩ ⟨rfl,Xom l name,Xfj l name,hS⟩ ?_)))
 rintro ⟨kv,i,D⟩ w ⟨hp2,hi1,hi2,hS⟩
 change WC _ _ _ _ [(0,ptr tb 0),(1,S name),(5,kv),(6,I64 i)] w
 refine .seq (.seq (.q 2 rfl ?_))
 refine WC.cond rfl (fun hb11=>?_) (fun hb11=>?_)
 ·
  have hc11:=hb11; try simp only [Y5] at hc11
  refine .skip (.seq (.block ?_))
  obtain ⟨q,rfl⟩:∃ q:Nat,i=(q:Int):=⟨i.toNat,by simp at hb11; omega⟩
  obtain ⟨r,hr⟩:∃ r,l[q]?=some r:=⟨_,Y7 (by omega)⟩
  obtain ⟨p,rfl,hx⟩:=X2c hS (k:=2) rfl q r hr
  have hql:q<l.length:=by omega
  have hup:=(hwf.up q r hr).2
  have hDl:D.length≤l.length:=by have h1:=Xh4 hwf name; rw [hp2,Y0] at h1; omega
  refine .t 3 rfl ?_
  refine WL.val (.fieldAddr 1 (.of rfl) X5e rfl rfl Xf0 rfl) rfl ?_
  refine WL.val (.ld (.of rfl) hS (k:=1) rfl Xjt rfl) rfl ?_
  refine .q 1 rfl ?_
  refine WL.val (.indexAddrI (.of rfl) (.of rfl) (by omega) (by omega) X7e X26) rfl ?_
  refine WL.val (.fieldAddrI 1 (.of rfl) X20 rfl rfl Qs9 rfl) rfl ?_
  refine .val (ldC (.of rfl) (hx 1 _ rfl) Qg9) rfl (.buildSlice (cs:=[_]) hS (X5 (.of rfl) X6) X1f Qs9 Qz9 rfl rfl rfl rfl ?_)
  clear hS; intro b31 w hS
  refine WL.append (size:=1) (bytes:=16) hS (.of rfl) (.of rfl) (k:=0) rfl X1f X1h rfl rfl rfl rfl rfl rfl rfl ⟨by omega,by unfold maxLen; omega⟩ rfl ?_
  clear hS; intro v32 w hS; try dsimp only [List.set] at hS
  obtain ⟨a32,c32,rfl,hcap32,_⟩:=hS.vecSlice (k:=0) (v:=v32) rfl
  refine .q 1 rfl (.nil ?_)
  obtain ⟨p9,hp9,hx⟩:=X2c hS (k:=2) rfl q r hr
  cases hp9
  refine .t 3 rfl ?_
  refine WL.val (.fieldAddr 1 (.of rfl) X5e rfl rfl Xf0 rfl) rfl ?_
  refine WL.val (.ld (.of rfl) hS (k:=1) rfl Xjt rfl) rfl ?_
  refine .q 1 rfl ?_
  refine WL.val (.indexAddrI (.of rfl) (.of rfl) (by omega) (by omega) X7e X26) rfl ?_
  refine WL.val (.fieldAddrI 2 (.of rfl) X20 rfl rfl Qs9 rfl) rfl ?_
  refine .val (ldC (.of rfl) (hx 2 _ rfl) Qg9) rfl (.call Xn2 rfl (X0 (.of rfl) (X0 (.of rfl) X4)) rfl (X8r tb room (some p) c l hl r.parent B _ I _ ((hS.pick 2 rfl).pick 2 rfl)) ?_)
  clear hS
  rintro _ w ⟨rfl,hS⟩
  refine .q 1 rfl (.nil ?_)
  refine ⟨(.slice a32 (D.length+1) c32,at0 l r.parent,D ++ [r]),⟨rfl,rfl,rfl,rfl,trivial⟩,⟨by (try dsimp only); rw [hp2,Xm7 hwf hr,Y8]; rfl,Xom l _,Xfj l _,?_⟩,by (try dsimp only); omega⟩
  (try dsimp only)
  rw [Y0,Yy]
  exact (hS.pick 2 rfl)
 have hc11:=hb11; try simp only [Y5] at hc11
 refine .exit (.seq (.q 2 rfl (.ret (Xe Tryz.results121 rfl ?_))))
 have hin:i<0:=by simp at hb11; omega
 rw [Xio l hin,Yg] at hp2
 subst hp2
 obtain ⟨ka,kc,rfl,hkc,_⟩:=hS.vecSlice (k:=0) rfl
 obtain ⟨J,hJ,hRS,hS⟩:=hS.freezeVec (k:=0) rfl
 exact ⟨_,rfl,J,ka,kc,rfl,hJ,hkc,hRS,hS⟩
end Go.Proofs.YtfibbpgikjggfaaGreatDoor
