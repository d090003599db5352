/- Part 8 of what the proof stands on: W22e, W22f. -/
import Derived.Test.YtfibbpgikjggfaaGreatDoorM22G
set_option linter.unusedVariables false
set_option linter.unusedSimpArgs false
namespace Go.Proofs.YtfibbpgikjggfaaGreatDoor
open Gk Ul Pc Tk Tr
theorem Xns (p q:Cl) (w:World):(Op.equalIn 10000 48 (.agg (X10 p).toArray) (.agg (X10 q).toArray)).run Tryz.prog w=.ok (decide (p=q)) w:=by
 have hS:Tryz.prog.underlying 48=some (.struct (Tryz.prog.fieldsOf 48)):=by kernel_rfl
 have hp:Tryz.prog.stoodInHeld 48=false:=by kernel_rfl
 have us:=Qu9
 have as9:=Qg9
 rw [show (10000:Nat)=9999+1 from rfl,run_equalIn_agg w 9999 48 _ _ hS hp]
 simp only [Program.fieldsOf,Xc3]
 obtain ⟨a,b,e⟩:=p
 obtain ⟨c,d,f⟩:=q
 unfold X10
 go_simp
 repeat' split
 all_goals simp_all
theorem Ex.eqCl {n:Nat} {L:Env} {w:World} {d:Option Nat} {ty t':TypeId} {pos:String} {af:Array Edge} {g:Option (Nat×Bool)} {x y:Operand} {r s:Cl} (hx:Ev n L x (.agg (X10 r).toArray)) (hy:Ev n L y (.agg (X10 s).toArray)):Ex Tryz.prog n L w ⟨d,.binOp .eql 48 x y t',ty,pos,af,g⟩ (.bool (decide (r=s))) w :=
 X16 hx hy (fun p q=>run_eqGuard_agg w _ _ _ _ _ _ (by kernel_rfl)) (by rw [run_eql_struct,Xns]; rfl)
theorem Xot {l:List Rec} (hw:Wf l) {room:Int} {r:Rec} (h:Xc4 room l r=0):drop (l ++ [r]) r.name=l:=by
 obtain ⟨h1,h2,h3,_⟩:=Xc6 h
 have hn:r.name≠[]:=X50 h1
 have hno:∀ s∈l,s.name≠r.name:=by
  rcases X2n l r.name with ⟨_,e⟩ | ⟨j,t,e,_⟩
  ·exact e
  ·rw [h2] at e; omega
 have hk:X2r (l ++ [r]) r.name=[]:=by
  cases hkk:X2r (l ++ [r]) r.name with
  | nil=>rfl
  | cons x xs =>
   exfalso
   obtain ⟨_,i,s,hs,hp,_⟩:=X56 (l:=l ++ [r]) (name:=r.name) (x:=x) (by rw [hkk]; simp)
   rcases X6f hs with e | ⟨_,e⟩
   ·have:=(hw.up i s e).1
    rw [hp,h2] at this
    rcases this with e2 | e2
    ·exact hn e2
    ·omega
   ·rw [e] at hp
    rcases h3 with e2 | e2
    ·rw [e2] at hp; exact hn hp.symm
    ·rw [hp,h2] at e2; omega
 have ha:at0 (l ++ [r]) r.name=(l.length:Int):=by rw [Xjn,if_pos h2,if_pos rfl]
 have hb:below (l ++ [r]) r.name=[r.name]:=by
  rw [below,if_pos (by rw [ha]; omega),show (l ++ [r]).length=l.length+1 from by rw [Y0]; rfl,Xw,hk]; rfl
 rw [drop,hb,Y3b,Y4i.2 (fun s hs=>by simp [hno s hs]),Y3o,if_neg (by simp),Y5d,Y9]
theorem X78 {lo:List Sv} {ω:Wd} (hω:X39 ω) {t cb:List UInt8} (h:(Xc lo ω t cb).1.2≠0):(Xc lo ω t cb).1.1=c0∧(Xc lo ω t cb).2.l=ω.l:=by
 unfold Xc at h ⊢
 split
 ·exact ⟨rfl,rfl⟩
 ·rename_i h1
  rw [if_neg h1] at h
  split
  ·exact ⟨rfl,rfl⟩
  ·rename_i h2
   rw [if_neg h2] at h
   split
   ·rename_i h3
    exact ⟨rfl,(Xes h3).1⟩
   ·rename_i h3
    rw [if_neg h3] at h
    have hm:=Decidable.not_not.1 h3
    obtain ⟨m1,m2,m3,_⟩:=X1v hm
    split
    ·rename_i h4
     refine ⟨rfl,?_⟩
     show drop (mkW (mkW ω (X2i lo ω t cb)).2 (X9s (mkW ω (X2i lo ω t cb)).1.1)).2.l (mkW ω (X2i lo ω t cb)).1.1=ω.l
     rw [(Xes h4).1,m2,m3]
     exact Xot hω.wf m1
    ·rename_i h4
     rw [if_neg h4] at h
     exact absurd rfl h
theorem Xle {lo:List Sv} {ω:Wd} (hω:X39 ω) {t cb:List UInt8} (h:(Xc lo ω t cb).1.2=0) :
  get ω.l t=some (getD ω.l t)∧noP ω t=false∧noQ lo ω t cb=false∧(Xc lo ω t cb).1.1.url=(Xhe lo ω t cb).1∧get (Xc lo ω t cb).2.l t=some (getD ω.l t) ∧
  get (Xc lo ω t cb).2.l (Xc lo ω t cb).1.1.pgt=some (mkR ω (X2i lo ω t cb))∧get (Xc lo ω t cb).2.l (Xc lo ω t cb).1.1.iou=some (mkR (mkW ω (X2i lo ω t cb)).2 (X9s (Xc lo ω t cb).1.1.pgt))∧(Xc lo ω t cb).2.l.length=ω.l.length+2:=by
 unfold Xc at h ⊢
 split at h
 ·cases h
 ·split at h
  ·cases h
  ·split at h
   ·rename_i h3; exact absurd h h3
   ·split at h
    ·rename_i h4; exact absurd h h4
    ·rename_i h1 h2 h3 h4
     rw [if_neg h1,if_neg h2,if_neg h3,if_neg h4]
     have hm:=Decidable.not_not.1 h3
     have hm2:=Decidable.not_not.1 h4
     have hg:get ω.l t=some (getD ω.l t):=by
      rcases X35 hω.wf t with ⟨_,e⟩ | e
      ·exfalso; apply h1; unfold noP; rw [e]; rfl
      ·exact e.1
     refine ⟨hg,by simpa using h1,by simpa using h2,rfl,Xgl hm2 (Xgl hm hg),Xgl hm2 (Xim hω hm).2,(Xim (X2q hω _) hm2).2,?_⟩
     show (mkW (mkW ω (X2i lo ω t cb)).2 (X9s (mkW ω (X2i lo ω t cb)).1.1)).2.l.length=_
     rw [(X1v hm2).2.1,(X1v hm).2.1]
     simp
theorem Xg2 {lo:List Sv} {id:Int} {s:List UInt8} (h:(X5n lo id s).2=true):(X5n lo id s).1=(Ul.nU s).1∧(Ul.nU s).2=0∧(Ul.nU s).1.length≤100∧Pat.hasPre (Ul.nU s).1 X63=true:=by
 unfold X5n at h ⊢
 split at h
 ·cases h
 ·rename_i u hu
  split at h
  ·cases h
  ·rename_i h2
   rw [if_neg h2]
   simp only [Y1p,bne_iff_ne,ne_eq,decide_eq_true_eq,Y3f,not_or,Decidable.not_not,Bool.not_eq_false] at h2
   exact ⟨rfl,by omega,by omega,h2.1.2⟩
theorem Xj1 {lo:List Sv} {id:Int} {s:List UInt8} (h:(X5n lo id s).2=true):(Ul.pU (X5n lo id s).1).2=0∧(Ul.pU (X5n lo id s).1).1.sch=Ul.https:=by
 obtain ⟨h1,h2,h3,h4⟩:=Xg2 h
 obtain ⟨h5,h6⟩:=nU_ok h2
 have hg:=Ul.pU_good h5
 have hb:=Ul.strU_back hg (by rw [← h6]; omega)
 rw [h1,h6,hb]
 exact ⟨rfl,(Xpv h2).2 h4⟩
set_option maxRecDepth 20000 in
set_option maxHeartbeats 1600000 in
theorem X7v (c:Cf) (a:Option Addr) (cap:Nat) (ua:Option Addr) (ucap:Nat) (la:Option Addr) (lc:Nat) (l:List Rec) (hll:l.length≤9223372036854775807) (draws:List Nat) (hdr:∀ x∈draws,x<18446744073709551616) (da:Option Addr) (dc:Nat) (hdc:draws.length≤dc) (hdm:dc≤maxLen) (ticket callback:List UInt8) (B w:World) (I:Im) (hK:Known I) (hP:PreAt I) (hC:CfAt I c a cap ua ucap) (hR:RS I la 10 l.length (X28 X8 l)) (hd:RS I da 1 draws.length (draws.map fun d=>U64 (d:Nat))) (As:List Xe) (hS:Sat B w I As) :
  Calls Tryz.prog 3 [.agg (Xl c a cap ua ucap).toArray,.slice la l.length lc,S ticket,S callback,.slice da draws.length dc].toArray w (Ret fun v w'=>v=.bool true∧∃ J,Le I J∧Sat B w' J As):=by
 refine calls Tryz.func3 rfl Tryz.ntmps3 rfl (.seq (.region (.boxA (cs:=Xl c a cap ua ucap) hS (.of rfl) rfl ?_)))
 clear hS; intro b5 w hS
 refine .q 1 rfl (.nil (.seq (.region (.call Tryz.func8 rfl X4 rfl (X5p B _ I hK hP _ hS) ?_))))
 clear hS
 rintro _ w ⟨rfl,hS⟩
 refine .q 1 rfl (.nil (.seq (.region ?_)))
 refine WL.val (.lds (vs:=Xl c a cap ua ucap) (.of rfl) hS (k:=0) rfl Xob Xm0 rfl (fun j v hj=>by rw [Yf]; exact hj)) rfl ?_
 refine .q 4 rfl (.val (.build (cs:=[_,_,_,_,_,_]) (X5 (.of rfl) (X5 (.of rfl) (X5 (.of rfl) X6))) Xj4 rfl) rfl (.buildSlice (cs:=[_,_,_,_,_,_]) hS (X5 (.of rfl) X6) Xlz Xnd Qz35 rfl rfl rfl rfl ?_))
 clear hS; intro b35 w hS
 obtain ⟨J1,hJ1,hb35,hS⟩:=hS.freeze (k:=0) rfl
 try dsimp only [List.eraseIdx] at hS
 have hO1:ObsAt J1 (some (ad b35 0)) [(⟨0,0,0,ticket,callback,draws⟩:Ob)]:=Xdt ⟨da,dc,rfl,hdc,hdm,hd.mono hJ1⟩ ⟨rfl,fun _=>⟨_,rfl,X31 hb35⟩⟩
 refine .call Tryz.func9 rfl (X0 (.of rfl) (X0 (.of rfl) (X0 (.of rfl) X4))) rfl (X8i c a cap ua ucap la lc l hll (some (ad b35 0)) 1 [(⟨0,0,0,ticket,callback,draws⟩:Ob)] (show (1:Nat)≤9223372036854775807 by decide) B _ J1 (hC.mono hJ1) (hR.mono hJ1) hO1 _ hS) ?_
 clear hS
 rintro _ w ⟨rfl,hS⟩
 refine .q 1 rfl (.nil (.seq (.seq (.q 2 rfl ?_))))
 refine WC.cond rfl (fun hb38=>?_) (fun hb38=>?_)
 ·
  have hc38:=hb38; try simp only [Y6] at hc38
  refine .seq (.q 2 rfl (.ret (Xk Qr3 rfl ?_)))
  exact ⟨_,rfl,rfl,J1,hJ1,hS.drop (k:=0) rfl⟩
 have hc38:=hb38; try simp only [Y6] at hc38
 refine .skip (.seq ?_)
 have hfw:=X5s (show Xay c l [(⟨0,0,0,ticket,callback,draws⟩:Ob)]=true by simpa using hb38)
 have hfw1:=hfw.1
 have hfw2:=hfw.2.1
 have hoo:=hfw.2.2.2.2 (⟨0,0,0,ticket,callback,draws⟩:Ob) (by simp)
 try dsimp only at hoo
 refine .region ?_
 refine WL.val (.lds (vs:=Xl c a cap ua ucap) (.of rfl) hS (k:=0) rfl Xob Xm0 rfl (fun j v hj=>by rw [Yf]; exact hj)) rfl ?_
 refine .q 1 rfl (.call Qf10 rfl (X0 (.of rfl) (X0 (.of rfl) X4)) rfl (X55 c a cap ua ucap (X4c hC hfw1) la lc l hll hfw2 B _ J1 (hK.mono hJ1) (hP.mono hJ1) (hC.mono hJ1) (hR.mono hJ1) _ hS) ?_)
 clear hS
 rintro _ w ⟨J,pv,hJ,rfl,hcs⟩
 refine .q 1 rfl (.nil (.seq (.seq (.t 1 rfl (.val (.eqp (.of rfl) (.of rfl) Qu37) rfl (.nil ?_))))))
 refine WC.cond rfl (fun hb44=>?_) (fun hb44=>?_)
 ·
  have hc44:=hb44; try simp only [Y6] at hc44
  refine .seq (.q 2 rfl (.ret (Xk Qr3 rfl ?_)))
  rcases hcs with ⟨_,rfl,hS⟩ | ⟨_,p,D,_,_,_,_,h9,_⟩
  ·exact ⟨_,rfl,rfl,J,(hJ1.trans hJ),hS.drop (k:=0) rfl⟩
  ·exfalso; rw [h9] at hb44; cases hb44
 have hc44:=hb44; try simp only [Y6] at hc44
 refine .skip (.seq ?_)
 rcases hcs with ⟨_,h9,_⟩ | ⟨hz,p,D,hD,hlo,hus,hps,hpv,hI,hS⟩
 ·exfalso; rw [h9] at hb44; cases hb44
 subst hpv
 have hω0:=X6a c l
 obtain ⟨⟨a5,c5,ma5,mc5⟩,hS⟩:=Sat.unbox hS
 replace hS:Sat B _ _ (blk p.wb (wdC p (X7 c l)) 44::blk p.tb [I64 (X7 c l).room,.slice a5 (X7 c l).l.length c5] 114::Vec 54 10 (.slice a5 (X7 c l).l.length c5) (X7 c l).l.length (Xh (X7 c l).l)::blk p.mb [.slice ma5 (X7 c l).D.length mc5] 111::X2l 104 (.slice ma5 (X7 c l).D.length mc5) ((X7 c l).D.map fun d=>U64 (d:Nat))::_):=hS
 have hωf:=X67 hω0 hdr
 have hlenf:=hωf.len
 refine .t 2 rfl ?_
 refine WL.val (.fieldAddr 1 (.of rfl) X3b rfl rfl Qs40 rfl) rfl ?_
 refine WL.val (.ld (.of rfl) hS (k:=0) rfl Qg40 rfl) rfl ?_
 refine .q 1 rfl ?_
 refine WL.call Qf11 rfl (X0 (.of rfl) (X0 (.of rfl) X4)) rfl (X7z p.mb ma5 mc5 (X7 c l).D (by rw [Xex]; decide) da dc draws (by omega) B _ J (hd.mono (hJ1.trans hJ)) _ ((hS.pick 4 rfl).pick 4 rfl)) ?_
 clear hS
 rintro _ w ⟨rfl,ma6,mc6,hS⟩
 try dsimp only [List.eraseIdx] at hS
 refine .nil (.seq ?_)
 replace hS:=Sat.box (T:=wdT p (X9 (X7 c l) draws)) (a5,c5,ma6,mc6) (((((hS.pick 1 rfl).pick 1 rfl).pick 4 rfl).pick 4 rfl).pick 4 rfl)
 try dsimp only [List.eraseIdx] at hS
 obtain ⟨⟨a7,c7,ma7,mc7⟩,hS⟩:=Sat.unbox hS
 replace hS:Sat B _ _ (blk p.wb (wdC p (X9 (X7 c l) draws)) 44::blk p.tb [I64 (X9 (X7 c l) draws).room,.slice a7 (X9 (X7 c l) draws).l.length c7] 114::Vec 54 10 (.slice a7 (X9 (X7 c l) draws).l.length c7) (X9 (X7 c l) draws).l.length (Xh (X9 (X7 c l) draws).l)::blk p.mb [.slice ma7 (X9 (X7 c l) draws).D.length mc7] 111::X2l 104 (.slice ma7 (X9 (X7 c l) draws).D.length mc7) ((X9 (X7 c l) draws).D.map fun d=>U64 (d:Nat))::_):=hS
 refine .t 2 rfl ?_
 refine WL.val (.fieldAddr 0 (.of rfl) X3b rfl rfl X6w rfl) rfl ?_
 refine WL.val (.ld (.of rfl) hS (k:=0) rfl X64 rfl) rfl ?_
 refine .call Xoo rfl (X0 (.of rfl) X4) rfl (X1m p.tb (X9 (X7 c l) draws).room a7 c7 (X9 (X7 c l) draws).l (by omega) B _ J _ ((hS.pick 2 rfl).pick 2 rfl)) ?_
 clear hS
 rintro _ w ⟨J2,wa,wc,rfl,hJ2,hwc,hRw,hS⟩
 try dsimp only [List.eraseIdx] at hS
 refine .q 1 rfl (.nil (.seq ?_))
 replace hS:=Sat.box (T:=wdT p (X9 (X7 c l) draws)) (a7,c7,ma7,mc7) (((((hS.pick 4 rfl).pick 4 rfl).pick 3 rfl).pick 3 rfl).pick 4 rfl)
 try dsimp only [List.eraseIdx] at hS
 have hI2:=hI.mono hJ2
 refine .t 3 rfl (.call Qf13 rfl (X0 (.of rfl) (X0 (.of rfl) (X0 (.of rfl) X4))) rfl (X80 ticket callback (by omega) (by omega) p (X9 (X7 c l) draws) hωf B _ J2 hI2 _ hS) ?_)
 clear hS
 rintro _ w ⟨rfl,hS⟩
 try dsimp only [List.eraseIdx] at hS
 refine .q 3 rfl (.allocA (cs:=[_,_,_]) hS Qz48 rfl ?_)
 clear hS; intro b15 w hS
 refine WL.stA hS (k:=0) rfl (.of rfl) (.of rfl) rfl Xec rfl (by simp) ?_
 clear hS; intro w hS; try dsimp only [List.set] at hS
 try simp only [Yj,Ye,Y9,Y7,Yi,Yo,Yf] at hS
 refine .q 1 rfl (.nil (.seq (.seq (.q 2 rfl ?_))))
 refine WC.cond rfl (fun hb65=>?_) (fun hb65=>?_)
 ·
  have hc65:=hb65; try simp only [Y6] at hc65
  refine .seq ?_
  replace hS:=(hS.pick 1 rfl)
  try dsimp only [List.eraseIdx] at hS
  obtain ⟨⟨a8,c8,ma8,mc8⟩,hS⟩:=Sat.unbox hS
  replace hS:Sat B _ _ (blk p.wb (wdC p (Xc p.lo (X9 (X7 c l) draws) ticket callback).2) 44::blk p.tb [I64 (Xc p.lo (X9 (X7 c l) draws) ticket callback).2.room,.slice a8 (Xc p.lo (X9 (X7 c l) draws) ticket callback).2.l.length c8] 114::Vec 54 10 (.slice a8 (Xc p.lo (X9 (X7 c l) draws) ticket callback).2.l.length c8) (Xc p.lo (X9 (X7 c l) draws) ticket callback).2.l.length (Xh (Xc p.lo (X9 (X7 c l) draws) ticket callback).2.l)::blk p.mb [.slice ma8 (Xc p.lo (X9 (X7 c l) draws) ticket callback).2.D.length mc8] 111::X2l 104 (.slice ma8 (Xc p.lo (X9 (X7 c l) draws) ticket callback).2.D.length mc8) ((Xc p.lo (X9 (X7 c l) draws) ticket callback).2.D.map fun d=>U64 (d:Nat))::_):=hS
  have hω2:=X15 (lo:=p.lo) hωf ticket callback
  have hlen2:=hω2.len
  refine .t 2 rfl ?_
  refine WL.gval rfl rfl (fun hg1=>(by exact (.ldsW (cs:=[_,_,_]) (.of rfl) hS (k:=5) rfl Qg48 Xec rfl))) rfl ?_
  refine .gval rfl rfl (fun hg1=>(.build (cs:=[_,_,_]) X6 X4z rfl)) rfl (.gval rfl rfl (fun hg1=>Ex.eqCl (r:=(Xc p.lo (X9 (X7 c l) draws) ticket callback).1.1) (s:=c0) (.gd hg1 rfl) (.gd hg1 rfl)) rfl (.val (.pand (.of rfl) (.of rfl) (.of rfl)) rfl (.q 1 rfl (.gval rfl rfl (fun hg1=>(.move (.of rfl))) rfl (.gval rfl rfl (fun hg1=>(.nilCheck (.gd hg1 rfl))) rfl ?_)))))
  refine WL.gval rfl rfl (fun hg1=>(by exact .fieldAddr 0 (.gd hg1 rfl) X3b rfl rfl X6w rfl)) rfl ?_
  refine WL.gval rfl rfl (fun hg1=>(by exact (.ld (.gd hg1 rfl) hS (k:=0) rfl X64 rfl))) rfl ?_
  refine .ecall (T:=SlG B J2 10 (Xc p.lo (X9 (X7 c l) draws) ticket callback).2.l.length (Xh (Xc p.lo (X9 (X7 c l) draws) ticket callback).2.l) _ _) (v0:=.slice none (Xc p.lo (X9 (X7 c l) draws) ticket callback).2.l.length 0) rfl rfl rfl Xoo rfl (fun hg1=>(X0 (.gd hg1 rfl) X4)) rfl (fun hg1=>(X1m p.tb (Xc p.lo (X9 (X7 c l) draws) ticket callback).2.room a8 c8 (Xc p.lo (X9 (X7 c l) draws) ticket callback).2.l (by omega) B _ J2 _ ((hS.pick 2 rfl).pick 2 rfl)).mono fun e w' ⟨v,he,J9,ra,rc,hv,hJ9,hrc,hR9,hS⟩=>⟨v,he,J9,ra,rc,hv,hJ9,fun _=>⟨hrc,hR9⟩,(((((((hS.pick 6 rfl).pick 6 rfl).pick 6 rfl).pick 6 rfl).pick 5 rfl).pick 5 rfl).pick 6 rfl)⟩) (fun hne=>⟨J2,none,0,rfl,Le.refl _,fun h=>absurd h hne,hS⟩) ?_
  clear hS
  rintro v99 w ⟨J3,na,nc,rfl,hJ3,hG,hS⟩
  refine .gval rfl rfl (fun hg1=>(.move (.of rfl))) rfl (.gcall (T:=fun w=>Sat B w J3 _) rfl rfl rfl Tryz.func14 rfl (fun hg1=>(X0 (.gd hg1 rfl) (X0 (.gd hg1 rfl) X4))) rfl (fun hg1=>X7m na wa nc wc (Xc p.lo (X9 (X7 c l) draws) ticket callback).2.l (X9 (X7 c l) draws).l (by omega) B _ J3 (hG hg1).2 (hRw.mono hJ3) _ hS) hS ?_)
  clear hS; rintro w hS
  refine .val (.pand (.of rfl) (.of rfl) (.of rfl)) rfl (.q 1 rfl (.nil (.ret (Xk Qr3 rfl ?_))))
  obtain ⟨g1,g2⟩:=X78 (lo:=p.lo) hωf (t:=ticket) (cb:=callback) (by simpa using hb65)
  refine ⟨_,rfl,congrArg Value.bool ?_,J3,((hJ1.trans hJ).trans hJ2).trans hJ3,(((((((hS.drop (k:=0) rfl).drop (k:=0) rfl).drop (k:=0) rfl).drop (k:=0) rfl).drop (k:=0) rfl).drop (k:=0) rfl).drop (k:=0) rfl)⟩
  rw [g1,g2]
  simp
 have hc65:=hb65; try simp only [Y6] at hc65
 refine .skip (.seq ?_)
 replace hS:=(hS.pick 1 rfl)
 try dsimp only [List.eraseIdx] at hS
 obtain ⟨⟨a9,c9,ma9,mc9⟩,hS⟩:=Sat.unbox hS
 replace hS:Sat B _ _ (blk p.wb (wdC p (Xc p.lo (X9 (X7 c l) draws) ticket callback).2) 44::blk p.tb [I64 (Xc p.lo (X9 (X7 c l) draws) ticket callback).2.room,.slice a9 (Xc p.lo (X9 (X7 c l) draws) ticket callback).2.l.length c9] 114::Vec 54 10 (.slice a9 (Xc p.lo (X9 (X7 c l) draws) ticket callback).2.l.length c9) (Xc p.lo (X9 (X7 c l) draws) ticket callback).2.l.length (Xh (Xc p.lo (X9 (X7 c l) draws) ticket callback).2.l)::blk p.mb [.slice ma9 (Xc p.lo (X9 (X7 c l) draws) ticket callback).2.D.length mc9] 111::X2l 104 (.slice ma9 (Xc p.lo (X9 (X7 c l) draws) ticket callback).2.D.length mc9) ((Xc p.lo (X9 (X7 c l) draws) ticket callback).2.D.map fun d=>U64 (d:Nat))::_):=hS
 have hω2:=X15 (lo:=p.lo) hωf ticket callback
 have hlen2:=hω2.len
 have hsv:=Xdz hω2.wf ticket
 have hX:XpOk J2 ⟨0,0,c,a,cap,ua,ucap,D⟩ p.lo p.us p.ps:=⟨hC.mono ((hJ1.trans hJ).trans hJ2),X4c hC hfw1,hz,hD,hlo,hus,hps⟩
 obtain ⟨g1,g2,g3,g4,g5,g6,g7,g8⟩:=Xle (lo:=p.lo) hωf (t:=ticket) (cb:=callback) (by simpa using hb65)
 have hN:(Xhe p.lo (X9 (X7 c l) draws) ticket callback).2=true:=by
  unfold noQ at g3
  simp only [Y1d,Y4s] at g3
  exact g3.2
 have hNl:=Xg2 hN
 have hul:(Xc p.lo (X9 (X7 c l) draws) ticket callback).1.1.url.length≤100:=by rw [g4]; show (X5n _ _ _).1.length≤100; rw [hNl.1]; exact hNl.2.2.1
 refine .t 2 rfl ?_
 refine WL.val (.fieldAddr 0 (.of rfl) X3b rfl rfl X6w rfl) rfl ?_
 refine WL.val (.ld (.of rfl) hS (k:=0) rfl X64 rfl) rfl ?_
 refine .q 1 rfl (.call Xe0 rfl (X0 (.of rfl) (X0 (.of rfl) X4)) rfl (X1y p.tb (Xc p.lo (X9 (X7 c l) draws) ticket callback).2.room a9 c9 (Xc p.lo (X9 (X7 c l) draws) ticket callback).2.l (by omega) ticket B _ J2 _ ((hS.pick 2 rfl).pick 2 rfl)) ?_)
 clear hS
 rintro _ w ⟨rfl,hS⟩
 try dsimp only [List.eraseIdx] at hS
 refine .q 3 rfl (.allocA (cs:=[_,_,_,_,_,_,_,_,_,_]) hS X6j rfl ?_)
 clear hS; intro b17 w hS
 refine WL.stA hS (k:=0) rfl (.of rfl) (.of rfl) rfl X1k rfl (by simp) ?_
 clear hS; intro w hS; try dsimp only [List.set] at hS
 try simp only [Yj,Ye,Y9,Y7,Yi,Yo,Yf] at hS
 refine .q 1 rfl (.nil (.seq (.region ?_)))
 refine WL.val (.fieldAddr 0 (.of rfl) Xiq rfl rfl Qs22 rfl) rfl ?_
 refine WL.val (.ld (.of rfl) hS (k:=7) rfl Qg22 rfl) rfl ?_
 refine WL.val (.fieldAddr 4 (.of rfl) X18 rfl rfl Qs9 rfl) rfl ?_
 refine WL.val (.ld (.of rfl) hS (k:=0) rfl Qg9 rfl) rfl ?_
 refine .call Tryz.func16 rfl (X0 (.of rfl) (X0 (.of rfl) X4)) rfl (X7l (getD (Xc p.lo (X9 (X7 c l) draws) ticket callback).2.l ticket).service (by omega) ⟨0,0,c,a,cap,ua,ucap,D⟩ B _ J2 hX _ hS) ?_
 clear hS
 rintro _ w ⟨ra,rc,rfl,hS⟩
 refine .q 4 rfl (.allocA (cs:=[_,_,_,_,_,_,_,_]) hS Xih rfl ?_)
 clear hS; intro b19 w hS
 refine WL.stA hS (k:=0) rfl (.of rfl) (.of rfl) rfl X38 rfl (by simp) ?_
 clear hS; intro w hS; try dsimp only [List.set] at hS
 try simp only [Yj,Ye,Y9,Y7,Yi,Yo,Yf] at hS
 refine .q 2 rfl (.nil (.seq (.region ?_)))
 refine WL.val (.fieldAddr 0 (.of rfl) Xc3 rfl rfl Qs9 rfl) rfl ?_
 refine WL.val (.ld (.of rfl) hS (k:=7) rfl Qg9 rfl) rfl ?_
 refine .call Tryz.func17 rfl (X0 (.of rfl) X4) rfl (X7h (Xc p.lo (X9 (X7 c l) draws) ticket callback).1.1.url (by omega) B _ J2 _ hS) ?_
 clear hS
 rintro _ w ⟨rfl,hS⟩
 refine .q 3 rfl (.allocA (cs:=[_,_,_,_,_,_]) hS Xpb rfl ?_)
 clear hS; intro b22 w hS
 refine WL.stA hS (k:=0) rfl (.of rfl) (.of rfl) rfl X2v rfl (by simp) ?_
 clear hS; intro w hS; try dsimp only [List.set] at hS
 try simp only [Yj,Ye,Y9,Y7,Yi,Yo,Yf] at hS
 refine .q 1 rfl (.nil ?_)
 refine WC.cutS (σ:=Nat) (fun b24=>[(2,S ticket),(5,ptr b5 0),(11,.bool true),(13,ptr p.wb 0),(14,.slice wa (X9 (X7 c l) draws).l.length wc),(15,ptr b15 0),(17,ptr b17 0),(18,.bool (get (Xc p.lo (X9 (X7 c l) draws) ticket callback).2.l ticket).isSome),(19,ptr b19 0),(21,I64 (((X1e p.lo (getD (Xc p.lo (X9 (X7 c l) draws) ticket callback).2.l ticket).service).2.2:Nat):Int)),(22,ptr b22 0),(23,I64 (((Ul.pU (Xc p.lo (X9 (X7 c l) draws) ticket callback).1.1.url).2:Nat):Int)),(24,ptr b24 0),(25,.bool (get (Xc p.lo (X9 (X7 c l) draws) ticket callback).2.l (Xc p.lo (X9 (X7 c l) draws) ticket callback).1.1.pgt).isSome)]) (fun b24 w=>Sat B w J2 (blk b24 (X8 (getD (Xc p.lo (X9 (X7 c l) draws) ticket callback).2.l (Xc p.lo (X9 (X7 c l) draws) ticket callback).1.1.pgt)) 54::blk b22 (Ul.uc (Ul.pU (Xc p.lo (X9 (X7 c l) draws) ticket callback).1.1.url).1) 63::blk b19 (X1d (X1e p.lo (getD (Xc p.lo (X9 (X7 c l) draws) ticket callback).2.l ticket).service).1 ra rc) 59::blk b17 (X8 (getD (Xc p.lo (X9 (X7 c l) draws) ticket callback).2.l ticket)) 54::blk b15 (X10 (Xc p.lo (X9 (X7 c l) draws) ticket callback).1.1) 48::blk p.wb (wdC p (Xc p.lo (X9 (X7 c l) draws) ticket callback).2) 44::blk p.tb [I64 (Xc p.lo (X9 (X7 c l) draws) ticket callback).2.room,.slice a9 (Xc p.lo (X9 (X7 c l) draws) ticket callback).2.l.length c9] 114::Vec 54 10 (.slice a9 (Xc p.lo (X9 (X7 c l) draws) ticket callback).2.l.length c9) (Xc p.lo (X9 (X7 c l) draws) ticket callback).2.l.length (Xh (Xc p.lo (X9 (X7 c l) draws) ticket callback).2.l)::blk p.mb [.slice ma9 (Xc p.lo (X9 (X7 c l) draws) ticket callback).2.D.length mc9] 111::X2l 104 (.slice ma9 (Xc p.lo (X9 (X7 c l) draws) ticket callback).2.D.length mc9) ((Xc p.lo (X9 (X7 c l) draws) ticket callback).2.D.map fun d=>U64 (d:Nat))::blk b5 (Xl c a cap ua ucap) 29::As)) ?_ ?_
 ·
  refine .drawn (fun w=>∃ R,Sat B w J2 (blk b15 (X10 (Xc p.lo (X9 (X7 c l) draws) ticket callback).1.1) 48::blk p.wb (wdC p (Xc p.lo (X9 (X7 c l) draws) ticket callback).2) 44::R)) (fun j=>!([].contains j)) (by kernel_rfl) ?_
  replace hS:=hS.drew; generalize w.drew=w at hS ⊢
  have hH:∃ R,Sat B w J2 (blk b15 (X10 (Xc p.lo (X9 (X7 c l) draws) ticket callback).1.1) 48::blk p.wb (wdC p (Xc p.lo (X9 (X7 c l) draws) ticket callback).2) 44::R):=⟨_,((hS.pick 5 rfl).pick 8 rfl)⟩
  refine .tp (i:=0) rfl (by kernel_rfl) (fun w=>(.move (.of rfl))) rfl (.tp (i:=1) rfl (by kernel_rfl) (fun w=>(.nilCheck (.of rfl))) rfl ?_)
  refine WD.tp (i:=2) rfl (by kernel_rfl) (fun w=>(.fieldAddr 0 (.of rfl) X3b rfl rfl X6w rfl)) rfl ?_
  refine WD.tk (i:=3) rfl (by kernel_rfl) hH (fun w ⟨R,hS⟩=>((.ld (.of rfl) hS (k:=1) rfl X64 rfl))) rfl ?_
  refine WD.tp (i:=4) rfl (by kernel_rfl) (fun w=>(.fieldAddr 1 (.of rfl) Xc3 rfl rfl Qs9 rfl)) rfl ?_
  refine WD.tk (i:=5) rfl (by kernel_rfl) hH (fun w ⟨R,hS⟩=>((.ld (.of rfl) hS (k:=0) rfl Qg9 rfl))) rfl ?_
  refine WD.branch [6,10] (by kernel_rfl) rfl (WO.cons rfl ?_ (WO.cons rfl ?_ (WO.nil)))
  ·
   refine .call Xe0 rfl (X0 (.of rfl) (X0 (.of rfl) X4)) rfl (X1y p.tb (Xc p.lo (X9 (X7 c l) draws) ticket callback).2.room a9 c9 (Xc p.lo (X9 (X7 c l) draws) ticket callback).2.l (by omega) (Xc p.lo (X9 (X7 c l) draws) ticket callback).1.1.pgt B _ J2 _ ((hS.pick 4 rfl).pick 4 rfl)) ?_
   clear hS
   rintro _ w ⟨rfl,hS⟩
   try dsimp only [List.eraseIdx] at hS
   refine .nil ?_
   clear hH
   have hH:∃ R,Sat B w J2 (blk b15 (X10 (Xc p.lo (X9 (X7 c l) draws) ticket callback).1.1) 48::blk p.wb (wdC p (Xc p.lo (X9 (X7 c l) draws) ticket callback).2) 44::R):=⟨_,((hS.pick 5 rfl).pick 8 rfl)⟩
   refine And.intro (by intro _ _; exact hH) ?_
   refine .tp (i:=7) rfl (by kernel_rfl) (fun w=>(.move (.of rfl))) rfl (.tp (i:=8) rfl (by kernel_rfl) (fun w=>(.extract (.of rfl) rfl)) rfl (.tp (i:=9) rfl (by kernel_rfl) (fun w=>(.extract (.of rfl) rfl)) rfl ?_))
   refine WD.branch [10] (by kernel_rfl) rfl (WO.cons rfl ?_ (WO.nil))
   refine .allocA (cs:=[_,_,_,_,_,_,_,_,_,_]) hS X6j rfl ?_
   clear hS; intro b24 w hS
   refine .nil ?_
   clear hH
   have hH:∃ R,Sat B w J2 (blk b15 (X10 (Xc p.lo (X9 (X7 c l) draws) ticket callback).1.1) 48::blk p.wb (wdC p (Xc p.lo (X9 (X7 c l) draws) ticket callback).2) 44::R):=⟨_,((hS.pick 6 rfl).pick 9 rfl)⟩
   refine And.intro (by intro _ _; exact hH) ?_
   refine WD.branch [11] (by kernel_rfl) rfl (WO.cons rfl ?_ (WO.nil))
   refine WL.stA hS (k:=0) rfl (.of rfl) (.of rfl) rfl X1k rfl (by simp) ?_
   clear hS; intro w hS; try dsimp only [List.set] at hS
   try simp only [Yj,Ye,Y9,Y7,Yi,Yo,Yf] at hS
   refine .nil ?_
   clear hH
   have hH:∃ R,Sat B w J2 (blk b15 (X10 (Xc p.lo (X9 (X7 c l) draws) ticket callback).1.1) 48::blk p.wb (wdC p (Xc p.lo (X9 (X7 c l) draws) ticket callback).2) 44::R):=⟨_,((hS.pick 6 rfl).pick 9 rfl)⟩
   refine And.intro (by intro _ _; exact hH) ?_
   refine .tp (i:=12) rfl (by kernel_rfl) (fun w=>(.assign (.of rfl))) rfl (.done (by kernel_rfl) ?_)
   exact ⟨b24,⟨rfl,rfl,rfl,rfl,rfl,rfl,rfl,rfl,rfl,rfl,rfl,rfl,rfl,rfl,trivial⟩,(((((((((((hS.pick 10 rfl).pick 9 rfl).pick 9 rfl).pick 5 rfl).pick 5 rfl).pick 9 rfl).pick 10 rfl).pick 10 rfl).pick 10 rfl).pick 10 rfl).pick 10 rfl)⟩
  ·
   refine .allocA (cs:=[_,_,_,_,_,_,_,_,_,_]) hS X6j rfl ?_
   clear hS; intro b24 w hS
   refine .nil ?_
   clear hH
   have hH:∃ R,Sat B w J2 (blk b15 (X10 (Xc p.lo (X9 (X7 c l) draws) ticket callback).1.1) 48::blk p.wb (wdC p (Xc p.lo (X9 (X7 c l) draws) ticket callback).2) 44::R):=⟨_,((hS.pick 6 rfl).pick 9 rfl)⟩
   refine And.intro (by intro _ _; exact hH) ?_
   refine WD.branch [6] (by kernel_rfl) rfl (WO.cons rfl ?_ (WO.nil))
   refine .call Xe0 rfl (X0 (.of rfl) (X0 (.of rfl) X4)) rfl (X1y p.tb (Xc p.lo (X9 (X7 c l) draws) ticket callback).2.room a9 c9 (Xc p.lo (X9 (X7 c l) draws) ticket callback).2.l (by omega) (Xc p.lo (X9 (X7 c l) draws) ticket callback).1.1.pgt B _ J2 _ ((hS.pick 5 rfl).pick 5 rfl)) ?_
   clear hS
   rintro _ w ⟨rfl,hS⟩
   try dsimp only [List.eraseIdx] at hS
   refine .nil ?_
   clear hH
   have hH:∃ R,Sat B w J2 (blk b15 (X10 (Xc p.lo (X9 (X7 c l) draws) ticket callback).1.1) 48::blk p.wb (wdC p (Xc p.lo (X9 (X7 c l) draws) ticket callback).2) 44::R):=⟨_,((hS.pick 6 rfl).pick 9 rfl)⟩
   refine And.intro (by intro _ _; exact hH) ?_
   refine .tp (i:=7) rfl (by kernel_rfl) (fun w=>(.move (.of rfl))) rfl (.tp (i:=8) rfl (by kernel_rfl) (fun w=>(.extract (.of rfl) rfl)) rfl (.tp (i:=9) rfl (by kernel_rfl) (fun w=>(.extract (.of rfl) rfl)) rfl ?_))
   refine WD.branch [11] (by kernel_rfl) rfl (WO.cons rfl ?_ (WO.nil))
   refine WL.stA hS (k:=2) rfl (.of rfl) (.of rfl) rfl X1k rfl (by simp) ?_
   clear hS; intro w hS; try dsimp only [List.set] at hS
   try simp only [Yj,Ye,Y9,Y7,Yi,Yo,Yf] at hS
   refine .nil ?_
   clear hH
   have hH:∃ R,Sat B w J2 (blk b15 (X10 (Xc p.lo (X9 (X7 c l) draws) ticket callback).1.1) 48::blk p.wb (wdC p (Xc p.lo (X9 (X7 c l) draws) ticket callback).2) 44::R):=⟨_,((hS.pick 6 rfl).pick 9 rfl)⟩
   refine And.intro (by intro _ _; exact hH) ?_
   refine .tp (i:=12) rfl (by kernel_rfl) (fun w=>(.assign (.of rfl))) rfl (.done (by kernel_rfl) ?_)
   exact ⟨b24,⟨rfl,rfl,rfl,rfl,rfl,rfl,rfl,rfl,rfl,rfl,rfl,rfl,rfl,rfl,trivial⟩,(((((((((((hS.pick 10 rfl).pick 9 rfl).pick 9 rfl).pick 4 rfl).pick 4 rfl).pick 9 rfl).pick 10 rfl).pick 10 rfl).pick 10 rfl).pick 10 rfl).pick 10 rfl)⟩
 rintro b24 w hS
 change WC _ _ _ _ [(2,S ticket),(5,ptr b5 0),(11,.bool true),(13,ptr p.wb 0),(14,.slice wa (X9 (X7 c l) draws).l.length wc),(15,ptr b15 0),(17,ptr b17 0),(18,.bool (get (Xc p.lo (X9 (X7 c l) draws) ticket callback).2.l ticket).isSome),(19,ptr b19 0),(21,I64 (((X1e p.lo (getD (Xc p.lo (X9 (X7 c l) draws) ticket callback).2.l ticket).service).2.2:Nat):Int)),(22,ptr b22 0),(23,I64 (((Ul.pU (Xc p.lo (X9 (X7 c l) draws) ticket callback).1.1.url).2:Nat):Int)),(24,ptr b24 0),(25,.bool (get (Xc p.lo (X9 (X7 c l) draws) ticket callback).2.l (Xc p.lo (X9 (X7 c l) draws) ticket callback).1.1.pgt).isSome)] w
 refine WC.cutS (σ:=Nat) (fun b26=>[(2,S ticket),(5,ptr b5 0),(11,.bool true),(13,ptr p.wb 0),(14,.slice wa (X9 (X7 c l) draws).l.length wc),(15,ptr b15 0),(17,ptr b17 0),(18,.bool (get (Xc p.lo (X9 (X7 c l) draws) ticket callback).2.l ticket).isSome),(19,ptr b19 0),(21,I64 (((X1e p.lo (getD (Xc p.lo (X9 (X7 c l) draws) ticket callback).2.l ticket).service).2.2:Nat):Int)),(22,ptr b22 0),(23,I64 (((Ul.pU (Xc p.lo (X9 (X7 c l) draws) ticket callback).1.1.url).2:Nat):Int)),(24,ptr b24 0),(25,.bool (get (Xc p.lo (X9 (X7 c l) draws) ticket callback).2.l (Xc p.lo (X9 (X7 c l) draws) ticket callback).1.1.pgt).isSome),(26,ptr b26 0),(27,.bool (get (Xc p.lo (X9 (X7 c l) draws) ticket callback).2.l (Xc p.lo (X9 (X7 c l) draws) ticket callback).1.1.iou).isSome)]) (fun b26 w=>Sat B w J2 (blk b26 (X8 (getD (Xc p.lo (X9 (X7 c l) draws) ticket callback).2.l (Xc p.lo (X9 (X7 c l) draws) ticket callback).1.1.iou)) 54::blk b24 (X8 (getD (Xc p.lo (X9 (X7 c l) draws) ticket callback).2.l (Xc p.lo (X9 (X7 c l) draws) ticket callback).1.1.pgt)) 54::blk b22 (Ul.uc (Ul.pU (Xc p.lo (X9 (X7 c l) draws) ticket callback).1.1.url).1) 63::blk b19 (X1d (X1e p.lo (getD (Xc p.lo (X9 (X7 c l) draws) ticket callback).2.l ticket).service).1 ra rc) 59::blk b17 (X8 (getD (Xc p.lo (X9 (X7 c l) draws) ticket callback).2.l ticket)) 54::blk b15 (X10 (Xc p.lo (X9 (X7 c l) draws) ticket callback).1.1) 48::blk p.wb (wdC p (Xc p.lo (X9 (X7 c l) draws) ticket callback).2) 44::blk p.tb [I64 (Xc p.lo (X9 (X7 c l) draws) ticket callback).2.room,.slice a9 (Xc p.lo (X9 (X7 c l) draws) ticket callback).2.l.length c9] 114::Vec 54 10 (.slice a9 (Xc p.lo (X9 (X7 c l) draws) ticket callback).2.l.length c9) (Xc p.lo (X9 (X7 c l) draws) ticket callback).2.l.length (Xh (Xc p.lo (X9 (X7 c l) draws) ticket callback).2.l)::blk p.mb [.slice ma9 (Xc p.lo (X9 (X7 c l) draws) ticket callback).2.D.length mc9] 111::X2l 104 (.slice ma9 (Xc p.lo (X9 (X7 c l) draws) ticket callback).2.D.length mc9) ((Xc p.lo (X9 (X7 c l) draws) ticket callback).2.D.map fun d=>U64 (d:Nat))::blk b5 (Xl c a cap ua ucap) 29::As)) ?_ ?_
 ·
  refine .drawn (fun w=>∃ R,Sat B w J2 (blk b15 (X10 (Xc p.lo (X9 (X7 c l) draws) ticket callback).1.1) 48::blk p.wb (wdC p (Xc p.lo (X9 (X7 c l) draws) ticket callback).2) 44::R)) (fun j=>!([].contains j)) (by kernel_rfl) ?_
  replace hS:=hS.drew; generalize w.drew=w at hS ⊢
  have hH:∃ R,Sat B w J2 (blk b15 (X10 (Xc p.lo (X9 (X7 c l) draws) ticket callback).1.1) 48::blk p.wb (wdC p (Xc p.lo (X9 (X7 c l) draws) ticket callback).2) 44::R):=⟨_,((hS.pick 5 rfl).pick 5 rfl)⟩
  refine .tp (i:=0) rfl (by kernel_rfl) (fun w=>(.move (.of rfl))) rfl (.tp (i:=1) rfl (by kernel_rfl) (fun w=>(.nilCheck (.of rfl))) rfl ?_)
  refine WD.tp (i:=2) rfl (by kernel_rfl) (fun w=>(.fieldAddr 0 (.of rfl) X3b rfl rfl X6w rfl)) rfl ?_
  refine WD.tk (i:=3) rfl (by kernel_rfl) hH (fun w ⟨R,hS⟩=>((.ld (.of rfl) hS (k:=1) rfl X64 rfl))) rfl ?_
  refine WD.tp (i:=4) rfl (by kernel_rfl) (fun w=>(.fieldAddr 2 (.of rfl) Xc3 rfl rfl Qs9 rfl)) rfl ?_
  refine WD.tk (i:=5) rfl (by kernel_rfl) hH (fun w ⟨R,hS⟩=>((.ld (.of rfl) hS (k:=0) rfl Qg9 rfl))) rfl ?_
  refine WD.branch [6,10] (by kernel_rfl) rfl (WO.cons rfl ?_ (WO.cons rfl ?_ (WO.nil)))
  ·
   refine .call Xe0 rfl (X0 (.of rfl) (X0 (.of rfl) X4)) rfl (X1y p.tb (Xc p.lo (X9 (X7 c l) draws) ticket callback).2.room a9 c9 (Xc p.lo (X9 (X7 c l) draws) ticket callback).2.l (by omega) (Xc p.lo (X9 (X7 c l) draws) ticket callback).1.1.iou B _ J2 _ ((hS.pick 7 rfl).pick 7 rfl)) ?_
   clear hS
   rintro _ w ⟨rfl,hS⟩
   try dsimp only [List.eraseIdx] at hS
   refine .nil ?_
   clear hH
   have hH:∃ R,Sat B w J2 (blk b15 (X10 (Xc p.lo (X9 (X7 c l) draws) ticket callback).1.1) 48::blk p.wb (wdC p (Xc p.lo (X9 (X7 c l) draws) ticket callback).2) 44::R):=⟨_,((hS.pick 7 rfl).pick 7 rfl)⟩
   refine And.intro (by intro _ _; exact hH) ?_
   refine .tp (i:=7) rfl (by kernel_rfl) (fun w=>(.move (.of rfl))) rfl (.tp (i:=8) rfl (by kernel_rfl) (fun w=>(.extract (.of rfl) rfl)) rfl (.tp (i:=9) rfl (by kernel_rfl) (fun w=>(.extract (.of rfl) rfl)) rfl ?_))
   refine WD.branch [10] (by kernel_rfl) rfl (WO.cons rfl ?_ (WO.nil))
   refine .allocA (cs:=[_,_,_,_,_,_,_,_,_,_]) hS X6j rfl ?_
   clear hS; intro b26 w hS
   refine .nil ?_
   clear hH
   have hH:∃ R,Sat B w J2 (blk b15 (X10 (Xc p.lo (X9 (X7 c l) draws) ticket callback).1.1) 48::blk p.wb (wdC p (Xc p.lo (X9 (X7 c l) draws) ticket callback).2) 44::R):=⟨_,((hS.pick 8 rfl).pick 8 rfl)⟩
   refine And.intro (by intro _ _; exact hH) ?_
   refine WD.branch [11] (by kernel_rfl) rfl (WO.cons rfl ?_ (WO.nil))
   refine WL.stA hS (k:=0) rfl (.of rfl) (.of rfl) rfl X1k rfl (by simp) ?_
   clear hS; intro w hS; try dsimp only [List.set] at hS
   try simp only [Yj,Ye,Y9,Y7,Yi,Yo,Yf] at hS
   refine .nil ?_
   clear hH
   have hH:∃ R,Sat B w J2 (blk b15 (X10 (Xc p.lo (X9 (X7 c l) draws) ticket callback).1.1) 48::blk p.wb (wdC p (Xc p.lo (X9 (X7 c l) draws) ticket callback).2) 44::R):=⟨_,((hS.pick 8 rfl).pick 8 rfl)⟩
   refine And.intro (by intro _ _; exact hH) ?_
   refine .tp (i:=12) rfl (by kernel_rfl) (fun w=>(.assign (.of rfl))) rfl (.done (by kernel_rfl) ?_)
   exact ⟨b26,⟨rfl,rfl,rfl,rfl,rfl,rfl,rfl,rfl,rfl,rfl,rfl,rfl,rfl,rfl,rfl,rfl,trivial⟩,((((((((((((hS.pick 11 rfl).pick 11 rfl).pick 11 rfl).pick 5 rfl).pick 5 rfl).pick 11 rfl).pick 11 rfl).pick 11 rfl).pick 11 rfl).pick 11 rfl).pick 11 rfl).pick 11 rfl)⟩
  ·
   refine .allocA (cs:=[_,_,_,_,_,_,_,_,_,_]) hS X6j rfl ?_
   clear hS; intro b26 w hS
   refine .nil ?_
   clear hH
   have hH:∃ R,Sat B w J2 (blk b15 (X10 (Xc p.lo (X9 (X7 c l) draws) ticket callback).1.1) 48::blk p.wb (wdC p (Xc p.lo (X9 (X7 c l) draws) ticket callback).2) 44::R):=⟨_,((hS.pick 6 rfl).pick 6 rfl)⟩
   refine And.intro (by intro _ _; exact hH) ?_
   refine WD.branch [6] (by kernel_rfl) rfl (WO.cons rfl ?_ (WO.nil))
   refine .call Xe0 rfl (X0 (.of rfl) (X0 (.of rfl) X4)) rfl (X1y p.tb (Xc p.lo (X9 (X7 c l) draws) ticket callback).2.room a9 c9 (Xc p.lo (X9 (X7 c l) draws) ticket callback).2.l (by omega) (Xc p.lo (X9 (X7 c l) draws) ticket callback).1.1.iou B _ J2 _ ((hS.pick 8 rfl).pick 8 rfl)) ?_
   clear hS
   rintro _ w ⟨rfl,hS⟩
   try dsimp only [List.eraseIdx] at hS
   refine .nil ?_
   clear hH
   have hH:∃ R,Sat B w J2 (blk b15 (X10 (Xc p.lo (X9 (X7 c l) draws) ticket callback).1.1) 48::blk p.wb (wdC p (Xc p.lo (X9 (X7 c l) draws) ticket callback).2) 44::R):=⟨_,((hS.pick 8 rfl).pick 8 rfl)⟩
   refine And.intro (by intro _ _; exact hH) ?_
   refine .tp (i:=7) rfl (by kernel_rfl) (fun w=>(.move (.of rfl))) rfl (.tp (i:=8) rfl (by kernel_rfl) (fun w=>(.extract (.of rfl) rfl)) rfl (.tp (i:=9) rfl (by kernel_rfl) (fun w=>(.extract (.of rfl) rfl)) rfl ?_))
   refine WD.branch [11] (by kernel_rfl) rfl (WO.cons rfl ?_ (WO.nil))
   refine WL.stA hS (k:=2) rfl (.of rfl) (.of rfl) rfl X1k rfl (by simp) ?_
   clear hS; intro w hS; try dsimp only [List.set] at hS
   try simp only [Yj,Ye,Y9,Y7,Yi,Yo,Yf] at hS
   refine .nil ?_
   clear hH
   have hH:∃ R,Sat B w J2 (blk b15 (X10 (Xc p.lo (X9 (X7 c l) draws) ticket callback).1.1) 48::blk p.wb (wdC p (Xc p.lo (X9 (X7 c l) draws) ticket callback).2) 44::R):=⟨_,((hS.pick 8 rfl).pick 8 rfl)⟩
   refine And.intro (by intro _ _; exact hH) ?_
   refine .tp (i:=12) rfl (by kernel_rfl) (fun w=>(.assign (.of rfl))) rfl (.done (by kernel_rfl) ?_)
   exact ⟨b26,⟨rfl,rfl,rfl,rfl,rfl,rfl,rfl,rfl,rfl,rfl,rfl,rfl,rfl,rfl,rfl,rfl,trivial⟩,((((((((((((hS.pick 11 rfl).pick 11 rfl).pick 11 rfl).pick 4 rfl).pick 4 rfl).pick 11 rfl).pick 11 rfl).pick 11 rfl).pick 11 rfl).pick 11 rfl).pick 11 rfl).pick 11 rfl)⟩
 rintro b26 w hS
 change WC _ _ _ _ [(2,S ticket),(5,ptr b5 0),(11,.bool true),(13,ptr p.wb 0),(14,.slice wa (X9 (X7 c l) draws).l.length wc),(15,ptr b15 0),(17,ptr b17 0),(18,.bool (get (Xc p.lo (X9 (X7 c l) draws) ticket callback).2.l ticket).isSome),(19,ptr b19 0),(21,I64 (((X1e p.lo (getD (Xc p.lo (X9 (X7 c l) draws) ticket callback).2.l ticket).service).2.2:Nat):Int)),(22,ptr b22 0),(23,I64 (((Ul.pU (Xc p.lo (X9 (X7 c l) draws) ticket callback).1.1.url).2:Nat):Int)),(24,ptr b24 0),(25,.bool (get (Xc p.lo (X9 (X7 c l) draws) ticket callback).2.l (Xc p.lo (X9 (X7 c l) draws) ticket callback).1.1.pgt).isSome),(26,ptr b26 0),(27,.bool (get (Xc p.lo (X9 (X7 c l) draws) ticket callback).2.l (Xc p.lo (X9 (X7 c l) draws) ticket callback).1.1.iou).isSome)] w
 refine .seq (.seq (.t 3 rfl ?_))
 refine WL.gval rfl rfl (fun hg1=>(by exact .fieldAddr 8 (.of rfl) X18 rfl rfl Qs3 rfl)) rfl ?_
 refine WL.gval rfl rfl (fun hg1=>(by exact (.ld (.gd hg1 rfl) hS (k:=4) rfl Qg3 rfl))) rfl ?_
 refine .gval rfl rfl (fun hg1=>(.eql (.gd hg1 rfl) (.of rfl))) rfl (.val (.por (.of rfl) (.of rfl) (.of rfl)) rfl (.q 1 rfl (.gval rfl rfl (fun hg1=>(.move (.of rfl))) rfl (.gval rfl rfl (fun hg1=>(.neq (.gd hg1 rfl) (.of rfl))) rfl (.val (.por (.of rfl) (.of rfl) (.of rfl)) rfl (.q 1 rfl ?_))))))
 refine WL.gval rfl rfl (fun hg1=>(by exact .fieldAddr 4 (.of rfl) X84 rfl rfl Qs4 rfl)) rfl ?_
 refine WL.gval rfl rfl (fun hg1=>(by exact (.ld (.gd hg1 rfl) hS (k:=3) rfl Qg4 rfl))) rfl ?_
 refine .gval rfl rfl (fun hg1=>(.not (.gd hg1 rfl))) rfl (.val (.por (.of rfl) (.of rfl) (.of rfl)) rfl (.q 1 rfl (.gval rfl rfl (fun hg1=>(.move (.of rfl))) rfl (.gval rfl rfl (fun hg1=>(.neq (.gd hg1 rfl) (.of rfl))) rfl (.val (.por (.of rfl) (.of rfl) (.of rfl)) rfl (.q 1 rfl ?_))))))
 refine WL.gval rfl rfl (fun hg1=>(by exact .fieldAddr 0 (.of rfl) X5y rfl rfl Qs9 rfl)) rfl ?_
 refine WL.gval rfl rfl (fun hg1=>(by exact (.ld (.gd hg1 rfl) hS (k:=2) rfl Qg9 rfl))) rfl ?_
 refine .gval rfl rfl (fun hg1=>(.nes (.gd hg1 rfl) (.of rfl))) rfl (.val (.por (.of rfl) (.of rfl) (.of rfl)) rfl (.q 1 rfl (.gval rfl rfl (fun hg1=>(.move (.of rfl))) rfl (.gval rfl rfl (fun hg1=>(.not (.gd hg1 rfl))) rfl (.val (.por (.of rfl) (.of rfl) (.of rfl)) rfl (.q 1 rfl (.gval rfl rfl (fun hg1=>(.move (.of rfl))) rfl (.gval rfl rfl (fun hg1=>(.not (.gd hg1 rfl))) rfl (.val (.por (.of rfl) (.of rfl) (.of rfl)) rfl (.nil ?_))))))))))
 refine WC.cond rfl (fun hb157=>?_) (fun hb157=>?_)
 ·
  have hc157:=hb157; try simp only [Y6] at hc157
  refine .seq (.q 1 rfl (.ret (Xk Qr3 rfl ?_)))
  exfalso
  have hU:=Xj1 hN
  have hu1:(Ul.pU (Xc p.lo (X9 (X7 c l) draws) ticket callback).1.1.url).1.sch=Ul.https:=by rw [g4]; exact hU.2
  have hu2:(Ul.pU (Xc p.lo (X9 (X7 c l) draws) ticket callback).1.1.url).2=0:=by rw [g4]; exact hU.1
  have hp:=g2
  have hq:=g3
  unfold noP at hp
  unfold noQ Xn1 at hq
  rw [X6o g5,hu1,hu2,g5,g6,g7] at hb157
  simp only [Y1d,Y4s] at hp hq
  simp [hp.2,hq.1.1,hq.1.2,Ul.https] at hb157
 have hc157:=hb157; try simp only [Y6] at hc157
 refine .skip (.seq (.t 2 rfl ?_))
 refine WL.gval rfl rfl (fun hg1=>(by exact .fieldAddr 2 (.of rfl) X18 rfl rfl Qs9 rfl)) rfl ?_
 refine WL.gval rfl rfl (fun hg1=>(by exact (.ld (.gd hg1 rfl) hS (k:=1) rfl Qg9 rfl))) rfl ?_
 refine .gval rfl rfl (fun hg1=>(.move (.of rfl))) rfl (.gval rfl rfl (fun hg1=>(.eqs (.gd hg1 rfl) (.gd hg1 rfl))) rfl (.val (.pand (.of rfl) (.of rfl) (.of rfl)) rfl (.q 1 rfl ?_)))
 refine WL.gval rfl rfl (fun hg1=>(by exact .fieldAddr 3 (.of rfl) X18 rfl rfl Qs9 rfl)) rfl ?_
 refine WL.gval rfl rfl (fun hg1=>(by exact (.ld (.gd hg1 rfl) hS (k:=1) rfl Qg9 rfl))) rfl ?_
 refine WL.gval rfl rfl (fun hg1=>(by exact .fieldAddr 3 (.of rfl) X18 rfl rfl Qs9 rfl)) rfl ?_
 refine WL.gval rfl rfl (fun hg1=>(by exact (.ld (.gd hg1 rfl) hS (k:=4) rfl Qg9 rfl))) rfl ?_
 refine .gval rfl rfl (fun hg1=>(.eqs (.gd hg1 rfl) (.gd hg1 rfl))) rfl (.val (.pand (.of rfl) (.of rfl) (.of rfl)) rfl (.q 1 rfl ?_))
 refine WL.gval rfl rfl (fun hg1=>(by exact .fieldAddr 5 (.of rfl) X18 rfl rfl Qs9 rfl)) rfl ?_
 refine WL.gval rfl rfl (fun hg1=>(by exact (.ld (.gd hg1 rfl) hS (k:=1) rfl Qg9 rfl))) rfl ?_
 refine WL.gval rfl rfl (fun hg1=>(by exact .fieldAddr 0 (.of rfl) Xc3 rfl rfl Qs9 rfl)) rfl ?_
 refine WL.gval rfl rfl (fun hg1=>(by exact (.ld (.gd hg1 rfl) hS (k:=5) rfl Qg9 rfl))) rfl ?_
 refine .gval rfl rfl (fun hg1=>(.eqs (.gd hg1 rfl) (.gd hg1 rfl))) rfl (.val (.pand (.of rfl) (.of rfl) (.of rfl)) rfl (.q 1 rfl ?_))
 refine WL.gval rfl rfl (fun hg1=>(by exact .fieldAddr 0 (.of rfl) X18 rfl rfl Qs3 rfl)) rfl ?_
 refine WL.gval rfl rfl (fun hg1=>(by exact (.ld (.gd hg1 rfl) hS (k:=1) rfl Qg3 rfl))) rfl ?_
 refine .gval rfl rfl (fun hg1=>(.eql (.gd hg1 rfl) (.of rfl))) rfl (.val (.pand (.of rfl) (.of rfl) (.of rfl)) rfl (.q 1 rfl ?_))
 refine WL.gval rfl rfl (fun hg1=>(by exact .fieldAddr 0 (.of rfl) X18 rfl rfl Qs3 rfl)) rfl ?_
 refine WL.gval rfl rfl (fun hg1=>(by exact (.ld (.gd hg1 rfl) hS (k:=0) rfl Qg3 rfl))) rfl ?_
 refine .gval rfl rfl (fun hg1=>(.eql (.gd hg1 rfl) (.of rfl))) rfl (.val (.pand (.of rfl) (.of rfl) (.of rfl)) rfl (.q 1 rfl ?_))
 refine WL.gval rfl rfl (fun hg1=>(by exact .fieldAddr 2 (.of rfl) X18 rfl rfl Qs9 rfl)) rfl ?_
 refine WL.gval rfl rfl (fun hg1=>(by exact (.ld (.gd hg1 rfl) hS (k:=0) rfl Qg9 rfl))) rfl ?_
 refine WL.gval rfl rfl (fun hg1=>(by exact .fieldAddr 1 (.of rfl) Xc3 rfl rfl Qs9 rfl)) rfl ?_
 refine WL.gval rfl rfl (fun hg1=>(by exact (.ld (.gd hg1 rfl) hS (k:=5) rfl Qg9 rfl))) rfl ?_
 refine .gval rfl rfl (fun hg1=>(.eqs (.gd hg1 rfl) (.gd hg1 rfl))) rfl (.val (.pand (.of rfl) (.of rfl) (.of rfl)) rfl (.q 1 rfl (.gval rfl rfl (fun hg1=>(.move (.of rfl))) rfl (.gval rfl rfl (fun hg1=>(.nilCheck (.gd hg1 rfl))) rfl ?_))))
 refine WL.gval rfl rfl (fun hg1=>(by exact .fieldAddr 0 (.gd hg1 rfl) X3b rfl rfl X6w rfl)) rfl ?_
 refine WL.gval rfl rfl (fun hg1=>(by exact (.ld (.gd hg1 rfl) hS (k:=6) rfl X64 rfl))) rfl ?_
 refine .ecall (T:=SlG B J2 10 (Xc p.lo (X9 (X7 c l) draws) ticket callback).2.l.length (Xh (Xc p.lo (X9 (X7 c l) draws) ticket callback).2.l) _ _) (v0:=.slice none (Xc p.lo (X9 (X7 c l) draws) ticket callback).2.l.length 0) rfl rfl rfl Xoo rfl (fun hg1=>(X0 (.gd hg1 rfl) X4)) rfl (fun hg1=>(X1m p.tb (Xc p.lo (X9 (X7 c l) draws) ticket callback).2.room a9 c9 (Xc p.lo (X9 (X7 c l) draws) ticket callback).2.l (by omega) B _ J2 _ ((hS.pick 8 rfl).pick 8 rfl)).mono fun e w' ⟨v,he,J9,ra,rc,hv,hJ9,hrc,hR9,hS⟩=>⟨v,he,J9,ra,rc,hv,hJ9,fun _=>⟨hrc,hR9⟩,((((((((((((hS.pick 11 rfl).pick 11 rfl).pick 11 rfl).pick 4 rfl).pick 4 rfl).pick 11 rfl).pick 11 rfl).pick 11 rfl).pick 11 rfl).pick 11 rfl).pick 11 rfl).pick 11 rfl)⟩) (fun hne=>⟨J2,none,0,rfl,Le.refl _,fun h=>absurd h hne,hS⟩) ?_
 clear hS
 rintro v99 w ⟨J3,na,nc,rfl,hJ3,hG,hS⟩
 refine .gval rfl rfl (fun hg1=>(.lenSlice (.gd hg1 rfl) X3q)) rfl (.gval rfl rfl (fun hg1=>(.move (.of rfl))) rfl (.gval rfl rfl (fun hg1=>(.lenSlice (.gd hg1 rfl) X3q)) rfl (.gval rfl rfl (fun hg1=>(.add (.gd hg1 rfl) (.of rfl) ⟨by omega,by omega⟩)) rfl (.gval rfl rfl (fun hg1=>(.eql (.gd hg1 rfl) (.gd hg1 rfl))) rfl (.val (.pand (.of rfl) (.of rfl) (.of rfl)) rfl (.q 1 rfl (.nil (.ret (Xk Qr3 rfl ?_)))))))))
 refine ⟨_,rfl,congrArg Value.bool ?_,J3,((hJ1.trans hJ).trans hJ2).trans hJ3,((((((((((((hS.drop (k:=0) rfl).drop (k:=0) rfl).drop (k:=0) rfl).drop (k:=0) rfl).drop (k:=0) rfl).drop (k:=0) rfl).drop (k:=0) rfl).drop (k:=0) rfl).drop (k:=0) rfl).drop (k:=0) rfl).drop (k:=0) rfl).drop (k:=0) rfl)⟩
 rw [X6o g5,X6o g6,X6o g7,g8,g4]
 simp [mkR,X2i,X9s]
theorem Xaa {l:List Rec}:∀ (n:Nat) (name x:List UInt8),x∈Xw l n name→x=name∨∃ r∈l,r.name=x∧r.parent∈Xw l n name
 | 0,_,_,h=>by simp [Xw] at h
 | n+1,name,x,h=>by
  rw [Xw,Y14] at h
  rcases h with e | h
  ·exact .inl e
  ·obtain ⟨k,hk,hx⟩:=Y2r.1 h
   right
   rcases Xaa n k x hx with e | ⟨r,hr,e1,e2⟩
   ·obtain ⟨_,i,r,hr,hp,hn⟩:=X56 hk
    refine ⟨r,Yn hr,by rw [hn,e],?_⟩
    rw [hp,Xw]; exact Y2h
   ·refine ⟨r,hr,e1,?_⟩
    rw [Xw,Y14]; exact .inr (Y2r.2 ⟨k,hk,e2⟩)
theorem Xjl {l:List Rec} {name x:List UInt8} (h:x∈below l name):x=name∨∃ r∈l,r.name=x∧r.parent∈below l name:=by
 unfold below at h ⊢
 split at h
 ·rename_i h0
  simp only [if_pos h0]
  exact Xaa _ _ _ h
 ·simp at h
theorem Xpz {l:List Rec} (hw:Wf l) {r s:Rec} (hr:r∈l) (hs:s∈l) (h:r.name=s.name):r=s:=by
 obtain ⟨i,hi⟩:=Yx.1 hr
 obtain ⟨j,hj⟩:=Yx.1 hs
 have:=hw.one i j r s hi hj h
 subst this
 rw [hi] at hj; exact Option.some.inj hj
theorem Xpi {l:List Rec} (hw:Wf l) {r:Rec} (hr:r∈l):get l r.name=some r:=by
 obtain ⟨i,hi⟩:=Yx.1 hr
 exact hw.get_ hi
theorem Xko {l:List Rec} (hw:Wf l) {i:Rec} (hi:i∈l) (hk:i.kind=5):i.parent≠[]∧at0 l i.parent<at0 l i.name∧0≤at0 l i.parent∧∃ p∈l,p.name=i.parent∧p.kind=4:=by
 have hr:=hw.right i hi
 unfold X14 at hr
 simp only [Ym] at hr
 obtain ⟨_,hp⟩:=hr
 rw [hk] at hp
 unfold X44 at hp
 by_cases e:i.parent=[]
 ·rw [if_pos e] at hp; exact absurd hp (by decide)
 rw [if_neg e] at hp
 obtain ⟨q,hq⟩:=Yx.1 hi
 obtain ⟨h1,h2⟩:=hw.up q i hq
 have h3:=hw.at_ hq
 have h4:0≤at0 l i.parent:=h1.resolve_left e
 refine ⟨e,by omega,h4,?_⟩
 rcases Tr.get_at l i.parent with ⟨g1,_⟩ | ⟨j,p,g1,g2,g3,g4⟩
 ·omega
 have hpm:=Yn g2
 have hpr:=hw.right p hpm
 unfold X14 at hpr
 simp only [Ym] at hpr
 have hT:=hpr.1.2
 unfold isT at hT
 rw [g3] at hT
 cases hc:X34 i.parent with
 | none=>rw [hc] at hp; cases hp
 | some x =>
  obtain ⟨of,d⟩:=x
  rw [hc] at hp hT
  have h4:(of:Int)=4:=by simpa [X8t] using hp
  refine ⟨p,hpm,g3,?_⟩
  have:=eq_of_beq hT
  omega
def Xgu (l:List Rec) (good:List (List UInt8)):Prop:=∀ r∈l,r.kind=4→r.name∈good∨∃ i∈l,i.kind=5∧i.parent=r.name
theorem Xgb {l:List Rec} (hw:Wf l) {good:List (List UInt8)} (h:Xgu l good) {x:List UInt8} {g2:List (List UInt8)} (hg:∀ n∈good,n∈g2) (hx:∀ i∈l,i.kind=5→i.name=x→i.parent∈g2):Xgu (drop l x) g2:=by
 intro r hr hk
 obtain ⟨h1,h2⟩:=Y2y.1 hr
 have h2':r.name ∉ below l x:=by simpa using h2
 rcases h r h1 hk with e | ⟨i,hi,h3,h4⟩
 ·exact .inl (hg _ e)
 ·by_cases hb:i.name∈below l x
  ·rcases Xjl hb with e | ⟨s,hs,e1,e2⟩
   ·exact .inl (h4 ▸ hx i hi h3 e)
   ·obtain rfl:=Xpz hw hs hi e1
    exact absurd (h4 ▸ e2) h2'
  ·exact .inr ⟨i,Y2y.2 ⟨hi,by simpa using hb⟩,h3,h4⟩
theorem Xks {l:List Rec} (hw:Wf l) {i:Rec} (hi:i∈l) (hk:i.kind=5):Xfl l i.parent=true:=by
 obtain ⟨h1,_⟩:=Xko hw hi hk
 refine Y33.2 ⟨i.name,?_,?_⟩
 ·exact Y1z.2 ⟨i,Y2y.2 ⟨hi,by simp [h1]⟩,rfl⟩
 ·rw [X6o (Xpi hw hi),hk]; rfl
theorem Xdx {lo:List Sv} {ω:Wd} {t cb:List UInt8} (h:(Xc lo ω t cb).1.2=0) :
  (Xc lo ω t cb).2.l=ω.l ++ [mkR ω (X2i lo ω t cb),mkR (mkW ω (X2i lo ω t cb)).2 (X9s (Xc lo ω t cb).1.1.pgt)]∧(Xc lo ω t cb).1.1.pgt=(mkR ω (X2i lo ω t cb)).name:=by
 unfold Xc at h ⊢
 split at h
 ·cases h
 ·split at h
  ·cases h
  ·split at h
   ·rename_i h3; exact absurd h h3
   ·split at h
    ·rename_i h4; exact absurd h h4
    ·rename_i h1 h2 h3 h4
     rw [if_neg h1,if_neg h2,if_neg h3,if_neg h4]
     have hm:=Decidable.not_not.1 h3
     have hm2:=Decidable.not_not.1 h4
     refine ⟨?_,(X1v hm).2.2.1⟩
     show (mkW (mkW ω (X2i lo ω t cb)).2 (X9s (mkW ω (X2i lo ω t cb)).1.1)).2.l=_
     rw [(X1v hm2).2.1,(X1v hm).2.1,Yd]; rfl
theorem Xfw {lo:List Sv} {ω:Wd} (hω:X39 ω) {t cb:List UInt8} {good:List (List UInt8)} (h:Xgu ω.l good):Xgu (Xc lo ω t cb).2.l good:=by
 by_cases he:(Xc lo ω t cb).1.2=0
 ·obtain ⟨e,e2⟩:=Xdx he
  rw [e]
  intro r hr hk
  simp only [Y10,Y14,Y56,or_false] at hr
  rcases hr with hr | rfl | rfl
  ·rcases h r hr hk with e | ⟨i,hi,h3,h4⟩
   ·exact .inl e
   ·exact .inr ⟨i,Y1f _ hi,h3,h4⟩
  ·exact .inr ⟨mkR (mkW ω (X2i lo ω t cb)).2 (X9s (Xc lo ω t cb).1.1.pgt),by simp,rfl,e2⟩
  ·cases hk
 ·rw [(X78 hω he).2]; exact h
theorem early {lo:List Sv} {ps:Nat→Int} {ω:Wd} (hω:X39 ω) {t cb target:List UInt8}:(Xi lo ps (Xc lo ω t cb).2 (Xc lo ω t cb).1.1.pgt target).1.2≠0:=by
 intro h
 have hd:=X4t (X15 (lo:=lo) hω t cb) h
 by_cases he:(Xc lo ω t cb).1.2=0
 ·obtain ⟨e,e2⟩:=Xdx he
  have hi:mkR (mkW ω (X2i lo ω t cb)).2 (X9s (Xc lo ω t cb).1.1.pgt)∈(Xc lo ω t cb).2.l:=by rw [e]; simp
  have:=Xks (X15 (lo:=lo) hω t cb).wf hi rfl
  have h4:=hd.2.2.2.1
  rw [show (mkR (mkW ω (X2i lo ω t cb)).2 (X9s (Xc lo ω t cb).1.1.pgt)).parent=(Xc lo ω t cb).1.1.pgt from rfl,h4] at this
  cases this
 ·have h5:=(X78 hω he).1
  rw [h5] at h
  unfold Xi at h
  rw [if_pos (by rfl)] at h
  cases h
theorem Xr5 {l:List Rec} {good:List (List UInt8)} {s:Rec} {now:Int} (hg:get l s.name=some s) (h:Xgu l good):Xgu (put l (X46 s now)) good:=by
 unfold put
 split
 ·rename_i hp
  obtain ⟨_,j,t,h1,h2,_,_,h5⟩:=Xl3 hp
  have e:t=s:=by
   have:get l s.name=some t:=h5
   rw [hg] at this; exact (Option.some.inj this).symm
  subst e
  rw [h1,Yk]
  have key:∀ i∈l,∃ i'∈l.set j (X46 t now),i'.kind=i.kind∧i'.parent=i.parent:=by
   intro i hi
   obtain ⟨q,hq⟩:=Yx.1 hi
   by_cases e:j=q
   ·subst e
    rw [h2] at hq; cases hq
    exact ⟨X46 t now,Yx.2 ⟨j,by rw [Y59 (Y5.1 h2).1]⟩,rfl,rfl⟩
   ·exact ⟨i,Yx.2 ⟨q,by rw [List.getElem?_set_ne e]; exact hq⟩,rfl,rfl⟩
  intro r hr hk
  have key2:∀ x∈l,x.kind=4→x.name=r.name→r.name∈good∨∃ i∈l.set j (X46 t now),i.kind=5∧i.parent=r.name:=by
   intro x hx hxk hxn
   rcases h x hx hxk with e | ⟨i,hi,h3,h4⟩
   ·exact .inl (hxn ▸ e)
   ·obtain ⟨i',g1,g2,g3⟩:=key i hi
    exact .inr ⟨i',g1,by rw [g2,h3],by rw [g3,h4,hxn]⟩
  rcases Y4v hr with e | e
  ·exact key2 r e hk rfl
  ·exact key2 t (Yn h2) (by rw [e] at hk; exact hk) (by rw [e]; rfl)
 ·exact h
theorem X85 {lo:List Sv} {ps:Nat→Int} {ω:Wd} (hω:X39 ω) {pgt target:List UInt8} {good:List (List UInt8)} (h:Xgu ω.l good):Xgu (Xi lo ps ω pgt target).2.l good:=by
 by_cases he:(Xi lo ps ω pgt target).1.2=0
 ·obtain ⟨g1,g2,g3,_⟩:=X4t hω he
  unfold Xi at he ⊢
  split at he
  ·cases he
  ·split at he
   ·cases he
   ·split at he
    ·cases he
    ·split at he
     ·rename_i h4; exact absurd he h4
     ·rename_i h1 h2 h3 h4
      rw [if_neg h1,if_neg h2,if_neg h3,if_neg h4]
      have hm:=Decidable.not_not.1 h4
      show Xgu (put (mkW ω (X3f lo ps ω pgt target)).2.l (X46 (X17 ps ω pgt 4).1 (mkW ω (X3f lo ps ω pgt target)).2.now)) good
      rw [g1]
      refine Xr5 (Xgl hm ?_) ?_
      ·have:=X35 hω.wf pgt
       rcases this with ⟨e,_⟩ | ⟨_,_,e⟩
       ·rw [g3] at e; cases e
       ·rw [e]; exact g3
      ·rw [(X1v hm).2.1]
       intro r hr hk
       rcases Y10.1 hr with hr | hr
       ·rcases h r hr hk with e | ⟨i,hi,h3,h4⟩
        ·exact .inl e
        ·exact .inr ⟨i,Y1f _ hi,h3,h4⟩
       ·rw [Y4t.1 hr] at hk; cases hk
 ·rw [(X9e he).2]; exact h
theorem Xh0 {lo:List Sv} {ps:Nat→Int} {ω:Wd} (hω:X39 ω) {pgt target:List UInt8} {good:List (List UInt8)} (h:Xgu ω.l good) (he:(Xi lo ps ω pgt target).1.2=0):pgt∈good:=by
 obtain ⟨_,g2,g3,g4,_⟩:=X4t hω he
 have hn:(getD ω.l pgt).name=pgt:=by
  rcases X35 hω.wf pgt with ⟨e,_⟩ | ⟨_,_,e⟩
  ·rw [g3] at e; cases e
  ·exact e
 have hm:getD ω.l pgt∈ω.l:=Y4w g3
 rcases h _ hm g2 with e | ⟨i,hi,h3,h4⟩
 ·rw [hn] at e; exact e
 ·have:=Xks hω.wf hi h3
  rw [h4,hn,g4] at this; cases this
theorem Xcb {ω:Wd} (hω:X39 ω) {iou:List UInt8} (hk:(getD ω.l iou).kind=5):getD ω.l iou∈ω.l∧(getD ω.l iou).name=iou:=by
 rcases X35 hω.wf iou with ⟨_,e⟩ | ⟨e,_,e2⟩
 ·rw [e] at hk; cases hk
 ·exact ⟨Y4w e,e2⟩
theorem Xnt {ω:Wd} (hω:X39 ω) {iou:List UInt8} (hk:(getD ω.l iou).kind=5):(get (drop ω.l iou) (getD ω.l iou).parent).isSome=true:=by
 obtain ⟨hm,hn⟩:=Xcb hω hk
 obtain ⟨h1,h2,h3,p,hp,hpn,_⟩:=Xko hω.wf hm hk
 rw [Xgp,if_neg ?_,← hpn,Xpi hω.wf hp]; rfl
 intro hb
 have hb:(getD ω.l iou).parent∈below ω.l iou:=by simpa using hb
 have hu:Und ω.l iou (getD ω.l iou).parent:=by
  unfold below at hb
  split at hb
  ·exact X4b _ _ _ hb
  ·simp at hb
 rw [hn] at h2
 rcases Xl0 hω.wf hu with e | e
 ·rw [← e] at h2; omega
 ·omega
theorem Xnf {l:List Rec} {x:List UInt8}:(get (drop l x) x).isSome=false:=by
 rw [Xgp]
 by_cases h:0≤at0 l x
 ·have hl:=Xfn l x
  obtain ⟨n,hn⟩:∃ n,l.length=n+1:=⟨l.length - 1,by omega⟩
  have:(below l x).contains x=true:=by
   rw [below,if_pos h,hn,Xw]; simp
  rw [if_pos this]; rfl
 ·split
  ·rfl
  ·rcases Tr.get_at l x with ⟨_,e⟩ | ⟨j,t,e,_⟩
   ·rw [e]; rfl
   ·omega
theorem Xd0 {ω:Wd} (hω:X39 ω) {iou:List UInt8} {n:Int}:((getD ω.l iou).kind=5→((Xg ω iou n).1.2=0 ↔ n=200)∧((get (Xg ω iou n).2.l (getD ω.l iou).parent).isSome=true ↔ (Xg ω iou n).1.2=0))∧((getD ω.l iou).kind≠5→(Xg ω iou n).1.2=30):=by
 constructor
 ·intro hk
  have hk2:¬ ((getD ω.l iou).kind != 5)=true:=by simp [hk]
  unfold Xg
  rw [if_neg hk2]
  by_cases hn:n=200
  ·rw [if_neg (by simp [hn])]
   exact ⟨⟨fun _=>hn,fun _=>rfl⟩,⟨fun _=>rfl,fun _=>Xnt hω hk⟩⟩
  ·rw [if_pos (by simpa using hn)]
   refine ⟨⟨fun h=>(by cases h),fun h=>absurd h hn⟩,⟨fun h=>?_,fun h=>(by cases h)⟩⟩
   rw [show (get (X7t ω (getD ω.l iou).parent).l (getD ω.l iou).parent).isSome=false from Xnf] at h
   cases h
 ·intro hk
  unfold Xg
  rw [if_pos (by simpa using hk)]
theorem Xab {ω:Wd} (hω:X39 ω) {iou:List UInt8} {n:Int} {good:List (List UInt8)} (h:Xgu ω.l good):Xgu (Xg ω iou n).2.l (if (Xg ω iou n).1.2=0 then good ++ [(getD ω.l iou).parent] else good):=by
 unfold Xg
 split
 ·exact h
 ·rename_i h1
  have hk:(getD ω.l iou).kind=5:=by simpa using h1
  obtain ⟨hm,hn⟩:=Xcb hω hk
  split
  ·refine Xgb hω.wf h (fun _ h=>h) fun i hi h5 e=>?_
   exfalso
   obtain ⟨_,_,_,p,hp,hpn,hp4⟩:=Xko hω.wf hm hk
   have:=Xpz hω.wf hi hp (by rw [e,hpn])
   rw [this,hp4] at h5; cases h5
  ·refine Xgb hω.wf h (fun _ h=>Y1f _ h) fun i hi _ e=>?_
   have:=Xpz hω.wf hi hm (by rw [e,hn])
   rw [this]; simp
theorem Xlr {l:List Rec}:Xgu l (l.map Rec.name):=fun r hr _=>.inl (Y49 hr)
theorem Xj3 {lo:List Sv} {ω:Wd} {t cb:List UInt8}:(Xc lo ω t cb).2.D.length≤ω.D.length:=by
 unfold Xc
 repeat' split
 all_goals first | exact Yr _ | exact Xm7 | exact Y2m Xm7 Xm7
theorem Xdy {ω:Wd} {iou:List UInt8} {n:Int}:(Xg ω iou n).2.D=ω.D:=by
 unfold Xg
 repeat' split
 all_goals rfl
theorem Xby {lo:List Sv} {ps:Nat→Int} {ω:Wd} {pgt target:List UInt8}:(Xi lo ps ω pgt target).2.D.length≤ω.D.length:=by
 unfold Xi
 repeat' split
 all_goals first | exact Yr _ | exact Xm7
structure AsOk (i:Nat) (ω:Wd) (good names:List (List UInt8)):Prop where
 ok:X39 ω
 an:Xgu ω.l good
 nm:∀ t∈names,t.length≤60
 nl:names.length≤2*i
 gl:good.length≤64+i
 dl:ω.D.length≤10*i
theorem Xmv {names:List (List UInt8)} (h:∀ t∈names,t.length≤60) {a b:List UInt8} (ha:a.length≤23) (hb:b.length≤23):∀ t∈names ++ [a,b],t.length≤60:=by
 intro t ht
 simp only [Y10,Y14,Y56,or_false] at ht
 rcases ht with ht | rfl | rfl
 ·exact h t ht
 ·omega
 ·omega
set_option maxRecDepth 20000 in
set_option maxHeartbeats 1600000 in
theorem X6n (c:Cf) (a:Option Addr) (cap:Nat) (ua:Option Addr) (ucap:Nat) (la:Option Addr) (lc:Nat) (l:List Rec) (hll:l.length≤9223372036854775807) (oa:Option Addr) (oc:Nat) (ops:List Ob) (hol:ops.length≤9223372036854775807) (hfit:∀ o∈ops,o.fits) (B w:World) (I:Im) (hK:Known I) (hP:PreAt I) (hC:CfAt I c a cap ua ucap) (hR:RS I la 10 l.length (X28 X8 l)) (hO:ObsAt I oa ops) (As:List Xe) (hS:Sat B w I As) :
  Calls Tryz.prog 5 [.agg (Xl c a cap ua ucap).toArray,.slice la l.length lc,.slice oa ops.length oc].toArray w (Ret fun v w'=>v=.bool true∧∃ J,Le I J∧Sat B w' J As):=by
 refine calls Tryz.func5 rfl Tryz.ntmps5 rfl (.seq (.region (.boxA (cs:=Xl c a cap ua ucap) hS (.of rfl) rfl ?_)))
 clear hS; intro b3 w hS
 refine .q 1 rfl (.nil (.seq (.region (.call Tryz.func8 rfl X4 rfl (X5p B _ I hK hP _ hS) ?_))))
 clear hS
 rintro _ w ⟨rfl,hS⟩
 refine .q 1 rfl (.nil (.seq (.region ?_)))
 refine WL.val (.lds (vs:=Xl c a cap ua ucap) (.of rfl) hS (k:=0) rfl Xob Xm0 rfl (fun j v hj=>by rw [Yf]; exact hj)) rfl ?_
 refine .q 2 rfl (.call Tryz.func9 rfl (X0 (.of rfl) (X0 (.of rfl) (X0 (.of rfl) X4))) rfl (X8i c a cap ua ucap la lc l hll oa oc ops hol B _ I hC hR hO _ hS) ?_)
 clear hS
 rintro _ w ⟨rfl,hS⟩
 refine .q 1 rfl (.nil (.seq (.seq (.q 2 rfl ?_))))
 refine WC.cond rfl (fun hb38=>?_) (fun hb38=>?_)
 ·
  have hc38:=hb38; try simp only [Y6] at hc38
  refine .seq (.q 2 rfl (.ret (Xk Qr5 rfl ?_)))
  exact ⟨_,rfl,rfl,I,Le.refl _,hS.drop (k:=0) rfl⟩
 have hc38:=hb38; try simp only [Y6] at hc38
 refine .skip (.seq ?_)
 have hfw:=X5s (show Xay c l ops=true by simpa using hb38)
 have hfw1:=hfw.1
 have hfw2:=hfw.2.1
 refine .region ?_
 refine WL.val (.lds (vs:=Xl c a cap ua ucap) (.of rfl) hS (k:=0) rfl Xob Xm0 rfl (fun j v hj=>by rw [Yf]; exact hj)) rfl ?_
 refine .q 1 rfl (.call Qf10 rfl (X0 (.of rfl) (X0 (.of rfl) X4)) rfl (X55 c a cap ua ucap (X4c hC hfw1) la lc l hll hfw2 B _ I (hK) (hP) (hC) (hR) _ hS) ?_)
 clear hS
 rintro _ w ⟨J,pv,hJ,rfl,hcs⟩
 refine .q 1 rfl (.nil (.seq (.seq (.region ?_))))
 rcases hcs with ⟨h1,rfl,hS⟩ | ⟨hz,p,D,hD,hlo,hus,hps,hpv,hI,hS⟩
 ·
  refine .val (.move (.of rfl)) rfl (.val (.eqp (.of rfl) (.of rfl) Qu37) rfl (.q 1 rfl (.gval rfl rfl (fun hg1=>(.move (.of rfl))) rfl (.gcall (b:=true) (want:=false) (v0:=.slice none 0 0) (T:=fun w=>Sat B w J _) rfl rfl rfl Tryz.func21 rfl (fun hg1=>X0 (.gd hg1 rfl) X4) rfl (fun hg1=>absurd hg1 (by decide)) hS ?_))))
  clear hS; intro w hS
  refine .gval rfl rfl (fun hg1=>(.lenSlice (.gd hg1 rfl) X1s)) rfl (.gval rfl rfl (fun hg1=>(.gtr (.gd hg1 rfl) (.of rfl))) rfl (.val (.por (.of rfl) (.of rfl) (.of rfl)) rfl (.nil (.condT (rfl) (.seq (.q 2 rfl (.ret (Xk Qr5 rfl ?_))))))))
  exact ⟨_,rfl,rfl,J,hJ,hS.drop (k:=0) rfl⟩
 subst hpv
 have hω00:=X6a c l
 refine .val (.move (.of rfl)) rfl (.val (.eqp (.of rfl) (.of rfl) Qu37) rfl (.q 1 rfl (.gval rfl rfl (fun hg1=>(.move (.of rfl))) rfl (.ecall (T:=SlG B J 1 (Xe4 (X7 c l).l).length (((Xe4 (X7 c l).l).map S)) _ _) (v0:=.slice none (Xe4 (X7 c l).l).length 0) rfl rfl rfl Tryz.func21 rfl (fun hg1=>(X0 (.gd hg1 rfl) X4)) rfl (fun hg1=>(Xfp p (X7 c l) hω00 B _ J _ hS).mono fun e w' ⟨v,he,J9,ra,rc,hv,hJ9,hrc,hR9,hS⟩=>⟨v,he,J9,ra,rc,hv,hJ9,fun _=>⟨hrc,hR9⟩,((hS.pick 1 rfl).pick 1 rfl)⟩) (fun hne=>⟨J,none,0,rfl,Le.refl _,fun h=>absurd h hne,hS⟩) ?_))))
 clear hS
 rintro v99 w ⟨J2,ka,kc,rfl,hJ2,hG,hS⟩
 refine .gval rfl rfl (fun hg1=>(.lenSlice (.gd hg1 rfl) X1s)) rfl (.gval rfl rfl (fun hg1=>(.gtr (.gd hg1 rfl) (.of rfl))) rfl (.val (.por (.of rfl) (.of rfl) (.of rfl)) rfl (.nil ?_)))
 refine WC.cond rfl (fun hb50=>?_) (fun hb50=>?_)
 ·
  have hc50:=hb50; try simp only [Y6] at hc50
  refine .seq (.q 2 rfl (.ret (Xk Qr5 rfl ?_)))
  exact ⟨_,rfl,rfl,J2,hJ.trans hJ2,((hS.drop (k:=0) rfl).drop (k:=0) rfl)⟩
 have hc50:=hb50; try simp only [Y6] at hc50
 refine .skip (.seq (.q 1 rfl (.seq ?_)))
 obtain ⟨⟨a5,c5,ma5,mc5⟩,hS⟩:=Sat.unbox hS
 replace hS:Sat B _ _ (blk p.wb (wdC p (X7 c l)) 44::blk p.tb [I64 (X7 c l).room,.slice a5 (X7 c l).l.length c5] 114::Vec 54 10 (.slice a5 (X7 c l).l.length c5) (X7 c l).l.length (Xh (X7 c l).l)::blk p.mb [.slice ma5 (X7 c l).D.length mc5] 111::X2l 104 (.slice ma5 (X7 c l).D.length mc5) ((X7 c l).D.map fun d=>U64 (d:Nat))::_):=hS
 have hω0:=X6a c l
 have hlen0:=hω0.len
 refine .t 2 rfl ?_
 refine WL.val (.fieldAddr 0 (.of rfl) X3b rfl rfl X6w rfl) rfl ?_
 refine WL.val (.ld (.of rfl) hS (k:=0) rfl X64 rfl) rfl ?_
 refine .call Xoo rfl (X0 (.of rfl) X4) rfl (X1m p.tb (X7 c l).room a5 c5 (X7 c l).l (by omega) B _ J2 _ ((hS.pick 2 rfl).pick 2 rfl)) ?_
 clear hS
 rintro _ w ⟨J3,wa,wc,rfl,hJ3,hwc,hRw,hS⟩
 try dsimp only [List.eraseIdx] at hS
 have hIJ:=(hJ.trans hJ2).trans hJ3
 have hI3:=hI.mono (hJ2.trans hJ3)
 refine .q 1 rfl (.nil (.seq (.seq ?_)))
 replace hS:=((((((hS.pick 5 rfl).pick 5 rfl).pick 5 rfl).pick 4 rfl).pick 4 rfl).pick 5 rfl)
 try dsimp only [List.eraseIdx] at hS
 refine .q 1 rfl (.block ?_)
 replace hS:=hS.vecNil 9 1
 refine .loop (σ:=Nat×Value) (fun ⟨i,gv⟩=>[(2,.slice oa ops.length oc),(3,ptr b3 0),(7,.bool true),(9,ptr p.wb 0),(10,gv),(11,.slice wa (X7 c l).l.length wc),(12,I64 (i:Nat))]) (fun ⟨i,gv⟩ w=>i≤(X7 c l).l.length∧Sat B w J3 (Vec 9 1 gv ((((X7 c l).l.take i).map Rec.name)).length (((((X7 c l).l.take i).map Rec.name)).map S)::blk p.wb (wdC p (X7 c l)) 44::blk p.tb [I64 (X7 c l).room,.slice a5 (X7 c l).l.length c5] 114::Vec 54 10 (.slice a5 (X7 c l).l.length c5) (X7 c l).l.length (Xh (X7 c l).l)::blk p.mb [.slice ma5 (X7 c l).D.length mc5] 111::X2l 104 (.slice ma5 (X7 c l).D.length mc5) ((X7 c l).D.map fun d=>U64 (d:Nat))::blk b3 (Xl c a cap ua ucap) 29::As)) (fun ⟨i,gv⟩=>(X7 c l).l.length - i) (0,.slice none 0 0) ⟨rfl,rfl,rfl,rfl,rfl,rfl,rfl,trivial⟩ ⟨Ys _,hS⟩ ?_
 rintro ⟨i,gv⟩ w ⟨hi,hS⟩
 change WC _ _ _ _ [(2,.slice oa ops.length oc),(3,ptr b3 0),(7,.bool true),(9,ptr p.wb 0),(10,gv),(11,.slice wa (X7 c l).l.length wc),(12,I64 (i:Nat))] w
 refine .seq (.seq (.region (.run 4 rfl ⟨⟨_,X3q⟩,trivial⟩ (.nil ?_))))
 refine WC.cond rfl (fun hb60=>?_) (fun hb60=>?_)
 ·
  have hc60:=hb60; try simp only [Y6] at hc60
  refine .skip (.seq (.block ?_))
  obtain ⟨r,hr⟩:∃ r,(X7 c l).l[i]?=some r:=⟨_,Y4 (by omega)⟩
  obtain ⟨wp,hq9,hx⟩:=Xez (cells:=X8) (s:=10) (fun _=>rfl) hRw hr
  subst hq9
  unfold X8 at hx
  have hol9:(((X7 c l).l.take i).map Rec.name).length=i:=by rw [Yy,Yt]; omega
  refine .t 3 rfl ?_
  refine WL.val (.indexAddrI (.of rfl) (.of rfl) (by omega) (by omega) X3q X1k) rfl ?_
  refine WL.val (.fieldAddrI 1 (.of rfl) X18 rfl rfl Qs9 rfl) rfl ?_
  refine WL.val (.ldI (.of rfl) hS (At.add hx _) Qg9 rfl) rfl ?_
  refine .buildSlice (cs:=[_]) hS (X5 (.of rfl) X6) X1s Qs9 Qz9 rfl rfl rfl rfl ?_
  clear hS; intro b69 w hS
  refine WL.append (size:=1) (bytes:=16) hS (.of rfl) (.of rfl) (k:=0) rfl X1s X1w rfl rfl rfl rfl rfl rfl rfl ⟨by omega,by unfold maxLen; omega⟩ rfl ?_
  clear hS; intro v70 w hS; try dsimp only [List.set] at hS
  obtain ⟨a70,c70,rfl,hcap70,_⟩:=hS.vecSlice (k:=0) (v:=v70) rfl
  refine .q 1 rfl (.nil (.region (.run 3 rfl ⟨⟨by omega,by omega⟩,trivial⟩ (.nil ?_))))
  refine ⟨(i+1,.slice a70 (((((X7 c l).l.take i).map Rec.name)).length+1) c70),⟨rfl,rfl,rfl,rfl,rfl,rfl,rfl,trivial⟩,⟨by (try dsimp only); omega,?_⟩,by (try dsimp only); omega⟩
  try dsimp only
  rw [show ((X7 c l).l.take (i+1)).map Rec.name=(((X7 c l).l.take i).map Rec.name) ++ [r.name] by rw [Y17,hr,Y1y,Yv]; rfl,Yv,show ((((X7 c l).l.take i).map Rec.name) ++ [r.name]).length=((((X7 c l).l.take i).map Rec.name)).length+1 from Y0]
  exact (((((((hS.pick 6 rfl).pick 6 rfl).pick 6 rfl).pick 6 rfl).pick 6 rfl).pick 6 rfl).pick 6 rfl)
 have hc60:=hb60; try simp only [Y6] at hc60
 refine .exit (.seq (.q 1 rfl (.seq (.seq (.q 1 rfl (.block ?_))))))
 have hin:i=(X7 c l).l.length:=by omega
 subst hin
 rw [Y1c] at hS
 replace hS:=Sat.box (T:=wdT p (X7 c l)) (a5,c5,ma5,mc5) (((((hS.pick 5 rfl).pick 5 rfl).pick 5 rfl).pick 5 rfl).pick 5 rfl)
 try dsimp only [List.eraseIdx] at hS
 replace hS:=((((hS.pick 2 rfl).pick 1 rfl).pick 2 rfl)).vecNil 9 1
 replace hS:=hS.pick 1 rfl
 try dsimp only [List.eraseIdx] at hS
 refine WC.loop (σ:=(Wd×List (List UInt8)×List (List UInt8))×Nat×Value×Value) (fun ⟨⟨ω,good,names⟩,i,gv,dv⟩=>[(2,.slice oa ops.length oc),(3,ptr b3 0),(7,.bool true),(9,ptr p.wb 0),(10,gv),(13,dv),(14,I64 (i:Nat))]) (fun ⟨⟨ω,good,names⟩,i,gv,dv⟩ w=>i≤ops.length∧AsOk i ω good names∧Sat B w J3 (Vec 9 1 gv good.length (good.map S)::Vec 9 1 dv names.length (names.map S)::wdA p ω::blk b3 (Xl c a cap ua ucap) 29::As)) (fun ⟨⟨ω,good,names⟩,i,gv,dv⟩=>ops.length - i) ((X7 c l,(X7 c l).l.map Rec.name,[]),0,gv,.slice none 0 0) ⟨rfl,rfl,rfl,rfl,rfl,rfl,rfl,trivial⟩ ⟨Ys _,⟨hω0,Xlr,fun t h=>by simp at h,Ys _,by rw [Yy]; omega,by rw [Xex]; exact Ys _⟩,hS⟩ ?_
 rintro ⟨⟨ω,good,names⟩,i,gv,dv⟩ w ⟨hi,has,hS⟩
 change WC _ _ _ _ [(2,.slice oa ops.length oc),(3,ptr b3 0),(7,.bool true),(9,ptr p.wb 0),(10,gv),(13,dv),(14,I64 (i:Nat))] w
 refine .seq (.seq (.region (.run 4 rfl ⟨⟨_,Xlz⟩,trivial⟩ (.nil ?_))))
 refine WC.cond rfl (fun hb74=>?_) (fun hb74=>?_)
 ·
  have hc74:=hb74; try simp only [Y6] at hc74
  refine .skip (.seq (.block (.seq ?_)))
  obtain ⟨o,ho⟩:∃ o,ops[i]?=some o:=⟨_,Y4 (by omega)⟩
  obtain ⟨pp,cs,hp9,hq,da,dc,rfl,hdc,hdm,hd⟩:=(hO.mono hIJ).at i o ho
  subst hp9
  unfold Xbw at hq
  have hoo:=hfw.2.2.2.2 o (Yn ho)
  have hof:=hfit o (Yn ho)
  have hω:=has.ok
  have hlen:=hω.len
  have hnl:=has.nl
  have hgl:=has.gl
  have hdl:=has.dl
  have htn:(Xd o names).length≤60:=Xhw hoo.1 has.nm
  obtain ⟨va,vc,hdv,hvc,_⟩:=hS.vecSlice (k:=1) rfl
  subst hdv
  obtain ⟨ga,gc,hgv,hgc,_⟩:=hS.vecSlice (k:=0) rfl
  subst hgv
  refine .t 2 rfl ?_
  refine WL.val (.indexAddrI (.of rfl) (.of rfl) (by omega) (by omega) Xlz Xnd) rfl ?_
  refine WL.val (.ldsI (.of rfl) hS hq Tryz.isAgg35 Xnd rfl (fun _ _ h=>h)) rfl ?_
  refine .allocA (cs:=[_,_,_,_,_,_]) hS Qz35 rfl ?_
  clear hS; intro b15 w hS
  refine WL.stA hS (k:=0) rfl (.of rfl) (.of rfl) rfl Xnd rfl (by simp) ?_
  clear hS; intro w hS; try dsimp only [List.set] at hS
  try simp only [Yj,Ye,Y9,Y7,Yi,Yo,Yf] at hS
  refine .nil (.seq (.region ?_))
  refine WL.val (.ldsW (cs:=[_,_,_,_,_,_]) (.of rfl) hS (k:=0) rfl Tryz.isAgg35 Xnd rfl) rfl ?_
  refine .q 1 rfl ?_
  refine WL.call Tryz.func22 rfl (X0 (.of rfl) (X0 (.of rfl) X4)) rfl (Xkv o da dc va vc names (by omega) B _ J3 _ (fun w h=>Xgg (cells:=Xde) (s:=1) (fun _=>rfl) h (k:=2) (by rw [rowsT]; rfl)) hS) ?_
  clear hS
  rintro _ w ⟨rfl,hS⟩
  refine .q 1 rfl (.nil (.seq (.region ?_)))
  refine WL.val (.fieldAddr 0 (.of rfl) Xc5 rfl rfl Qs3 rfl) rfl ?_
  refine WL.val (.ld (.of rfl) hS (k:=0) rfl Qg3 rfl) rfl ?_
  refine .nil (.block (.seq (.q 2 rfl ?_)))
  refine WC.cond rfl (fun hb86=>?_) (fun hb86=>?_)
  ·
   have hc86:=hb86; try simp only [Y6] at hc86
   replace hS:=(hS.pick 3 rfl)
   try dsimp only [List.eraseIdx] at hS
   obtain ⟨⟨a5,c5,ma5,mc5⟩,hS⟩:=Sat.unbox hS
   replace hS:Sat B _ _ (blk p.wb (wdC p ω) 44::blk p.tb [I64 ω.room,.slice a5 ω.l.length c5] 114::Vec 54 10 (.slice a5 ω.l.length c5) ω.l.length (Xh ω.l)::blk p.mb [.slice ma5 ω.D.length mc5] 111::X2l 104 (.slice ma5 ω.D.length mc5) (ω.D.map fun d=>U64 (d:Nat))::_):=hS
   refine .drawn (fun w=>∃ R,Sat B w J3 (blk b15 [I64 o.act,I64 o.n,I64 o.k,S o.a,S o.b,.slice da o.d.length dc] 35::blk p.wb (wdC p ω) 44::R)) (fun j=>!([].contains j)) (by kernel_rfl) ?_
   replace hS:=hS.drew; generalize w.drew=w at hS ⊢
   have hH:∃ R,Sat B w J3 (blk b15 [I64 o.act,I64 o.n,I64 o.k,S o.a,S o.b,.slice da o.d.length dc] 35::blk p.wb (wdC p ω) 44::R):=⟨_,((hS.pick 0 rfl).pick 5 rfl)⟩
   refine .tp (i:=0) rfl (by kernel_rfl) (fun w=>(.move (.of rfl))) rfl (.tp (i:=1) rfl (by kernel_rfl) (fun w=>(.nilCheck (.of rfl))) rfl ?_)
   refine WD.tp (i:=2) rfl (by kernel_rfl) (fun w=>(.fieldAddr 1 (.of rfl) X3b rfl rfl Qs40 rfl)) rfl ?_
   refine WD.tk (i:=3) rfl (by kernel_rfl) hH (fun w ⟨R,hS⟩=>((.ld (.of rfl) hS (k:=1) rfl Qg40 rfl))) rfl ?_
   refine WD.tp (i:=4) rfl (by kernel_rfl) (fun w=>(.fieldAddr 5 (.of rfl) Xc5 rfl rfl Xly rfl)) rfl ?_
   refine WD.tk (i:=5) rfl (by kernel_rfl) hH (fun w ⟨R,hS⟩=>((.ld (.of rfl) hS (k:=0) rfl Qg31 rfl))) rfl ?_
   refine WD.branch [6] (by kernel_rfl) rfl (WO.cons rfl ?_ (WO.nil))
   refine .call Qf11 rfl (X0 (.of rfl) (X0 (.of rfl) X4)) rfl (X7z p.mb ma5 mc5 ω.D (by omega) da dc o.d (by omega) B _ J3 hd _ ((hS.pick 4 rfl).pick 4 rfl)) ?_
   clear hS
   rintro _ w ⟨rfl,ma6,mc6,hS⟩
   try dsimp only [List.eraseIdx] at hS
   refine .nil ?_
   clear hH
   have hH:∃ R,Sat B w J3 (blk b15 [I64 o.act,I64 o.n,I64 o.k,S o.a,S o.b,.slice da o.d.length dc] 35::blk p.wb (wdC p ω) 44::R):=⟨_,((hS.pick 2 rfl).pick 5 rfl)⟩
   refine And.intro (by intro _ _; exact hH) ?_
   refine .done (by kernel_rfl) (.region (.run 3 rfl ⟨⟨by omega,by omega⟩,trivial⟩ (.nil ?_)))
   replace hS:=Sat.box (T:=wdT p (X9 ω o.d)) (a5,c5,ma6,mc6) (((((hS.pick 1 rfl).pick 1 rfl).pick 4 rfl).pick 4 rfl).pick 4 rfl)
   try dsimp only [List.eraseIdx] at hS
   refine ⟨(((X9 ω o.d),good,names),i+1,.slice ga good.length gc,.slice va names.length vc),⟨rfl,rfl,rfl,rfl,rfl,rfl,rfl,trivial⟩,⟨by (try dsimp only); omega,⟨X67 hω hof.d,has.an,has.nm,by omega,by omega,by show (ω.D ++ o.d).length≤_; rw [Y0]; omega⟩,?_⟩,by (try dsimp only); omega⟩
   try dsimp only
   exact (((((hS.pick 4 rfl).pick 1 rfl).pick 4 rfl).pick 4 rfl).drop (k:=4) rfl)
  have hc86:=hb86; try simp only [Y6] at hc86
  refine .seq (.q 2 rfl ?_)
  refine WC.cond rfl (fun hb95=>?_) (fun hb95=>?_)
  ·
   have hc95:=hb95; try simp only [Y6] at hc95
   refine .seq (.t 2 rfl ?_)
   refine WL.val (.fieldAddr 4 (.of rfl) Xc5 rfl rfl Qs9 rfl) rfl ?_
   refine WL.val (.ld (.of rfl) hS (k:=0) rfl Qg9 rfl) rfl ?_
   refine .call Qf13 rfl (X0 (.of rfl) (X0 (.of rfl) (X0 (.of rfl) X4))) rfl (X80 (Xd o names) o.b (by omega) (by omega) p ω hω B _ J3 hI3 _ (hS.pick 3 rfl)) ?_
   clear hS
   rintro _ w ⟨rfl,hS⟩
   try dsimp only [List.eraseIdx] at hS
   have hω2:=X15 (lo:=p.lo) hω (Xd o names) o.b
   have hsh:=callW_short (lo:=p.lo) (ω:=ω) (t:=(Xd o names)) (cb:=o.b)
   refine .q 3 rfl (.allocA (cs:=[_,_,_]) hS Qz48 rfl ?_)
   clear hS; intro b17 w hS
   refine WL.stA hS (k:=0) rfl (.of rfl) (.of rfl) rfl Xec rfl (by simp) ?_
   clear hS; intro w hS; try dsimp only [List.set] at hS
   try simp only [Yj,Ye,Y9,Y7,Yi,Yo,Yf] at hS
   refine .q 1 rfl (.nil (.seq (.seq (.q 2 rfl ?_))))
   refine WC.cond rfl (fun hb106=>?_) (fun hb106=>?_)
   ·
    have hc106:=hb106; try simp only [Y6] at hc106
    refine .t 1 rfl ?_
    refine WL.val (.fieldAddr 2 (.of rfl) Xc3 rfl rfl Qs9 rfl) rfl ?_
    refine WL.val (.ld (.of rfl) hS (k:=0) rfl Qg9 rfl) rfl ?_
    refine WL.val (.fieldAddr 1 (.of rfl) Xc3 rfl rfl Qs9 rfl) rfl ?_
    refine WL.val (.ld (.of rfl) hS (k:=0) rfl Qg9 rfl) rfl ?_
    refine .buildSlice (cs:=[_,_]) hS (X5 (.of rfl) (X5 (.of rfl) X6)) X1s Qs9 Qz9 rfl rfl rfl rfl ?_
    clear hS; intro b112 w hS
    refine WL.append (size:=1) (bytes:=16) hS (.of rfl) (.of rfl) (k:=4) rfl X1s X1w rfl rfl rfl rfl rfl rfl rfl ⟨by omega,by unfold maxLen; omega⟩ rfl ?_
    clear hS; intro v113 w hS; try dsimp only [List.set] at hS
    obtain ⟨a113,c113,rfl,hcap113,_⟩:=hS.vecSlice (k:=4) (v:=v113) rfl
    refine .q 1 rfl (.nil (.seq (.t 1 rfl ?_)))
    refine WL.val (.fieldAddr 1 (.of rfl) Xc3 rfl rfl Qs9 rfl) rfl ?_
    refine WL.val (.ld (.of rfl) hS (k:=0) rfl Qg9 rfl) rfl ?_
    refine WL.val (.fieldAddr 4 (.of rfl) Xc5 rfl rfl Qs9 rfl) rfl ?_
    refine WL.val (.ld (.of rfl) hS (k:=2) rfl Qg9 rfl) rfl ?_
    refine .call Xpr rfl (X0 (.of rfl) (X0 (.of rfl) (X0 (.of rfl) X4))) rfl (X2y (Xc p.lo ω (Xd o names) o.b).1.1.pgt o.b (by omega) (by omega) p (Xc p.lo ω (Xd o names) o.b).2 hω2 B _ J3 hI3 _ (hS.pick 1 rfl)) ?_
    clear hS
    rintro _ w ⟨rfl,hS⟩
    try dsimp only [List.eraseIdx] at hS
    refine .q 7 rfl (.nil (.seq (.q 2 rfl ?_)))
    refine WC.cond rfl (fun hb125=>?_) (fun hb125=>?_)
    ·
     have hc125:=hb125; try simp only [Y6] at hc125
     refine .seq (.q 1 rfl (.ret (Xk Qr5 rfl ?_)))
     exact absurd (by simpa using hb125) (early (lo:=p.lo) (ps:=p.ps) hω (t:=(Xd o names)) (cb:=o.b) (target:=o.b))
    have hc125:=hb125; try simp only [Y6] at hc125
    refine .skip (.region (.run 3 rfl ⟨⟨by omega,by omega⟩,trivial⟩ (.nil ?_)))
    refine ⟨(((Xi p.lo p.ps (Xc p.lo ω (Xd o names) o.b).2 (Xc p.lo ω (Xd o names) o.b).1.1.pgt o.b).2,good,(names ++ [(Xc p.lo ω (Xd o names) o.b).1.1.iou,(Xc p.lo ω (Xd o names) o.b).1.1.pgt])),i+1,.slice ga good.length gc,.slice a113 (names.length+2) c113),⟨rfl,rfl,rfl,rfl,rfl,rfl,rfl,trivial⟩,⟨by (try dsimp only); omega,⟨X1c (X15 hω _ _) _ _,X85 (X15 hω _ _) (Xfw hω has.an),Xmv has.nm callW_short.2 callW_short.1,by rw [Y0]; show _+2≤_; omega,by omega,by have h1:=Xby (lo:=p.lo) (ps:=p.ps) (ω:=(Xc p.lo ω (Xd o names) o.b).2) (pgt:=(Xc p.lo ω (Xd o names) o.b).1.1.pgt) (target:=o.b); have h2:=Xj3 (lo:=p.lo) (ω:=ω) (t:=(Xd o names)) (cb:=o.b); omega⟩,?_⟩,by (try dsimp only); omega⟩
    try dsimp only
    rw [Yv,show (names ++ [(Xc p.lo ω (Xd o names) o.b).1.1.iou,(Xc p.lo ω (Xd o names) o.b).1.1.pgt]).length=names.length+2 from Y0]
    exact ((((((hS.pick 5 rfl).pick 1 rfl).pick 5 rfl).pick 5 rfl).drop (k:=4) rfl).drop (k:=4) rfl)
   have hc106:=hb106; try simp only [Y6] at hc106
   refine .skip (.seq (.t 1 rfl ?_))
   refine WL.val (.fieldAddr 1 (.of rfl) Xc3 rfl rfl Qs9 rfl) rfl ?_
   refine WL.val (.ld (.of rfl) hS (k:=0) rfl Qg9 rfl) rfl ?_
   refine WL.val (.fieldAddr 4 (.of rfl) Xc5 rfl rfl Qs9 rfl) rfl ?_
   refine WL.val (.ld (.of rfl) hS (k:=2) rfl Qg9 rfl) rfl ?_
   refine .call Xpr rfl (X0 (.of rfl) (X0 (.of rfl) (X0 (.of rfl) X4))) rfl (X2y (Xc p.lo ω (Xd o names) o.b).1.1.pgt o.b (by omega) (by omega) p (Xc p.lo ω (Xd o names) o.b).2 hω2 B _ J3 hI3 _ (hS.pick 1 rfl)) ?_
   clear hS
   rintro _ w ⟨rfl,hS⟩
   try dsimp only [List.eraseIdx] at hS
   refine .q 7 rfl (.nil (.seq (.q 2 rfl ?_)))
   refine WC.cond rfl (fun hb125=>?_) (fun hb125=>?_)
   ·
    have hc125:=hb125; try simp only [Y6] at hc125
    refine .seq (.q 1 rfl (.ret (Xk Qr5 rfl ?_)))
    exact absurd (by simpa using hb125) (early (lo:=p.lo) (ps:=p.ps) hω (t:=(Xd o names)) (cb:=o.b) (target:=o.b))
   have hc125:=hb125; try simp only [Y6] at hc125
   refine .skip (.region (.run 3 rfl ⟨⟨by omega,by omega⟩,trivial⟩ (.nil ?_)))
   refine ⟨(((Xi p.lo p.ps (Xc p.lo ω (Xd o names) o.b).2 (Xc p.lo ω (Xd o names) o.b).1.1.pgt o.b).2,good,names),i+1,.slice ga good.length gc,.slice va names.length vc),⟨rfl,rfl,rfl,rfl,rfl,rfl,rfl,trivial⟩,⟨by (try dsimp only); omega,⟨X1c (X15 hω _ _) _ _,X85 (X15 hω _ _) (Xfw hω has.an),has.nm,by omega,by omega,by have h1:=Xby (lo:=p.lo) (ps:=p.ps) (ω:=(Xc p.lo ω (Xd o names) o.b).2) (pgt:=(Xc p.lo ω (Xd o names) o.b).1.1.pgt) (target:=o.b); have h2:=Xj3 (lo:=p.lo) (ω:=ω) (t:=(Xd o names)) (cb:=o.b); omega⟩,?_⟩,by (try dsimp only); omega⟩
   try dsimp only
   exact ((((((hS.pick 5 rfl).pick 1 rfl).pick 5 rfl).pick 5 rfl).drop (k:=4) rfl).drop (k:=4) rfl)
  have hc95:=hb95; try simp only [Y6] at hc95
  refine .seq (.q 2 rfl ?_)
  refine WC.cond rfl (fun hb126=>?_) (fun hb126=>?_)
  ·
   have hc126:=hb126; try simp only [Y6] at hc126
   refine .seq ?_
   replace hS:=(hS.pick 3 rfl)
   try dsimp only [List.eraseIdx] at hS
   obtain ⟨⟨a7,c7,ma7,mc7⟩,hS⟩:=Sat.unbox hS
   replace hS:Sat B _ _ (blk p.wb (wdC p ω) 44::blk p.tb [I64 ω.room,.slice a7 ω.l.length c7] 114::Vec 54 10 (.slice a7 ω.l.length c7) ω.l.length (Xh ω.l)::blk p.mb [.slice ma7 ω.D.length mc7] 111::X2l 104 (.slice ma7 ω.D.length mc7) (ω.D.map fun d=>U64 (d:Nat))::_):=hS
   refine .t 2 rfl ?_
   refine WL.val (.fieldAddr 0 (.of rfl) X3b rfl rfl X6w rfl) rfl ?_
   refine WL.val (.ld (.of rfl) hS (k:=0) rfl X64 rfl) rfl ?_
   refine .q 1 rfl (.call Xe0 rfl (X0 (.of rfl) (X0 (.of rfl) X4)) rfl (X1y p.tb ω.room a7 c7 ω.l (by omega) (Xd o names) B _ J3 _ ((hS.pick 2 rfl).pick 2 rfl)) ?_)
   clear hS
   rintro _ w ⟨rfl,hS⟩
   try dsimp only [List.eraseIdx] at hS
   refine .q 3 rfl (.allocA (cs:=[_,_,_,_,_,_,_,_,_,_]) hS X6j rfl ?_)
   clear hS; intro b22 w hS
   refine WL.stA hS (k:=0) rfl (.of rfl) (.of rfl) rfl X1k rfl (by simp) ?_
   clear hS; intro w hS; try dsimp only [List.set] at hS
   try simp only [Yj,Ye,Y9,Y7,Yi,Yo,Yf] at hS
   refine .q 1 rfl (.nil (.seq ?_))
   replace hS:=Sat.box (T:=wdT p ω) (a7,c7,ma7,mc7) (((((hS.pick 5 rfl).pick 5 rfl).pick 4 rfl).pick 4 rfl).pick 5 rfl)
   try dsimp only [List.eraseIdx] at hS
   refine .t 2 rfl ?_
   refine WL.val (.fieldAddr 1 (.of rfl) Xc5 rfl rfl Qs3 rfl) rfl ?_
   refine WL.val (.ld (.of rfl) hS (k:=2) rfl Qg3 rfl) rfl ?_
   refine .call Qf23 rfl (X0 (.of rfl) (X0 (.of rfl) (X0 (.of rfl) X4))) rfl (X70 (Xd o names) o.n p ω hω B _ J3 hI3 _ hS) ?_
   clear hS
   rintro _ w ⟨rfl,hS⟩
   try dsimp only [List.eraseIdx] at hS
   refine .q 5 rfl (.nil ?_)
   have hωa:=X1z hω (Xd o names) o.n
   have hlena:=hωa.len
   have hAF:=Xd0 hω (iou:=(Xd o names)) (n:=o.n)
   refine WC.cutS (σ:=Unit) (fun ⟨⟩=>[(2,.slice (some pp) ops.length oc),(3,ptr b3 0),(7,.bool true),(9,ptr p.wb 0),(10,.slice ga good.length gc),(13,.slice va names.length vc),(14,I64 (i:Nat)),(15,ptr b15 0),(22,ptr b22 0),(25,I64 ((Xg ω (Xd o names) o.n).1.2:Nat)),(27,.bool (get (Xg ω (Xd o names) o.n).2.l (getD ω.l (Xd o names)).parent).isSome)]) (fun ⟨⟩ w=>Sat B w J3 (blk b22 (X8 (getD ω.l (Xd o names))) 54::blk b15 [I64 o.act,I64 o.n,I64 o.k,S o.a,S o.b,.slice da o.d.length dc] 35::Vec 9 1 (.slice ga good.length gc) good.length (good.map S)::Vec 9 1 (.slice va names.length vc) names.length (names.map S)::wdA p (Xg ω (Xd o names) o.n).2::blk b3 (Xl c a cap ua ucap) 29::As)) ?_ ?_
   ·
    obtain ⟨⟨a9,c9,ma9,mc9⟩,hS⟩:=Sat.unbox hS
    replace hS:Sat B _ _ (blk p.wb (wdC p (Xg ω (Xd o names) o.n).2) 44::blk p.tb [I64 (Xg ω (Xd o names) o.n).2.room,.slice a9 (Xg ω (Xd o names) o.n).2.l.length c9] 114::Vec 54 10 (.slice a9 (Xg ω (Xd o names) o.n).2.l.length c9) (Xg ω (Xd o names) o.n).2.l.length (Xh (Xg ω (Xd o names) o.n).2.l)::blk p.mb [.slice ma9 (Xg ω (Xd o names) o.n).2.D.length mc9] 111::X2l 104 (.slice ma9 (Xg ω (Xd o names) o.n).2.D.length mc9) ((Xg ω (Xd o names) o.n).2.D.map fun d=>U64 (d:Nat))::_):=hS
    refine .drawn (fun w=>∃ R,Sat B w J3 (blk b22 (X8 (getD ω.l (Xd o names))) 54::blk p.wb (wdC p (Xg ω (Xd o names) o.n).2) 44::R)) (fun j=>!([].contains j)) (by kernel_rfl) ?_
    replace hS:=hS.drew; generalize w.drew=w at hS ⊢
    have hH:∃ R,Sat B w J3 (blk b22 (X8 (getD ω.l (Xd o names))) 54::blk p.wb (wdC p (Xg ω (Xd o names) o.n).2) 44::R):=⟨_,((hS.pick 0 rfl).pick 5 rfl)⟩
    refine .tp (i:=0) rfl (by kernel_rfl) (fun w=>(.move (.of rfl))) rfl (.tp (i:=1) rfl (by kernel_rfl) (fun w=>(.nilCheck (.of rfl))) rfl ?_)
    refine WD.tp (i:=2) rfl (by kernel_rfl) (fun w=>(.fieldAddr 0 (.of rfl) X3b rfl rfl X6w rfl)) rfl ?_
    refine WD.tk (i:=3) rfl (by kernel_rfl) hH (fun w ⟨R,hS⟩=>((.ld (.of rfl) hS (k:=1) rfl X64 rfl))) rfl ?_
    refine WD.tp (i:=4) rfl (by kernel_rfl) (fun w=>(.fieldAddr 2 (.of rfl) X18 rfl rfl Qs9 rfl)) rfl ?_
    refine WD.tk (i:=5) rfl (by kernel_rfl) hH (fun w ⟨R,hS⟩=>((.ld (.of rfl) hS (k:=0) rfl Qg9 rfl))) rfl ?_
    refine WD.branch [6,10] (by kernel_rfl) rfl (WO.cons rfl ?_ (WO.cons rfl ?_ (WO.nil)))
    ·
     refine .call Xe0 rfl (X0 (.of rfl) (X0 (.of rfl) X4)) rfl (X1y p.tb (Xg ω (Xd o names) o.n).2.room a9 c9 (Xg ω (Xd o names) o.n).2.l (by omega) (getD ω.l (Xd o names)).parent B _ J3 _ ((hS.pick 2 rfl).pick 2 rfl)) ?_
     clear hS
     rintro _ w ⟨rfl,hS⟩
     try dsimp only [List.eraseIdx] at hS
     refine .nil ?_
     clear hH
     have hH:∃ R,Sat B w J3 (blk b22 (X8 (getD ω.l (Xd o names))) 54::blk p.wb (wdC p (Xg ω (Xd o names) o.n).2) 44::R):=⟨_,((hS.pick 2 rfl).pick 5 rfl)⟩
     refine And.intro (by intro _ _; exact hH) ?_
     refine .tp (i:=7) rfl (by kernel_rfl) (fun w=>(.move (.of rfl))) rfl (.tp (i:=8) rfl (by kernel_rfl) (fun w=>(.extract (.of rfl) rfl)) rfl (.tp (i:=9) rfl (by kernel_rfl) (fun w=>(.extract (.of rfl) rfl)) rfl ?_))
     refine WD.branch [10] (by kernel_rfl) rfl (WO.cons rfl ?_ (WO.nil))
     refine .allocA (cs:=[_,_,_,_,_,_,_,_,_,_]) hS X6j rfl ?_
     clear hS; intro b26 w hS
     refine .nil ?_
     clear hH
     have hH:∃ R,Sat B w J3 (blk b22 (X8 (getD ω.l (Xd o names))) 54::blk p.wb (wdC p (Xg ω (Xd o names) o.n).2) 44::R):=⟨_,((hS.pick 3 rfl).pick 6 rfl)⟩
     refine And.intro (by intro _ _; exact hH) ?_
     refine WD.branch [11] (by kernel_rfl) rfl (WO.cons rfl ?_ (WO.nil))
     refine WL.stA hS (k:=0) rfl (.of rfl) (.of rfl) rfl X1k rfl (by simp) ?_
     clear hS; intro w hS; try dsimp only [List.set] at hS
     try simp only [Yj,Ye,Y9,Y7,Yi,Yo,Yf] at hS
     refine .nil ?_
     clear hH
     have hH:∃ R,Sat B w J3 (blk b22 (X8 (getD ω.l (Xd o names))) 54::blk p.wb (wdC p (Xg ω (Xd o names) o.n).2) 44::R):=⟨_,((hS.pick 3 rfl).pick 6 rfl)⟩
     refine And.intro (by intro _ _; exact hH) ?_
     refine .tp (i:=12) rfl (by kernel_rfl) (fun w=>(.assign (.of rfl))) rfl (.done (by kernel_rfl) ?_)
     replace hS:=Sat.box (T:=wdT p (Xg ω (Xd o names) o.n).2) (a9,c9,ma9,mc9) (((((hS.pick 5 rfl).pick 5 rfl).pick 4 rfl).pick 4 rfl).pick 5 rfl)
     try dsimp only [List.eraseIdx] at hS
     exact ⟨(),⟨rfl,rfl,rfl,rfl,rfl,rfl,rfl,rfl,rfl,rfl,rfl,trivial⟩,(((((((hS.pick 6 rfl).pick 1 rfl).pick 6 rfl).pick 6 rfl).pick 6 rfl).pick 6 rfl).drop (k:=6) rfl)⟩
    ·
     refine .allocA (cs:=[_,_,_,_,_,_,_,_,_,_]) hS X6j rfl ?_
     clear hS; intro b26 w hS
     refine .nil ?_
     clear hH
     have hH:∃ R,Sat B w J3 (blk b22 (X8 (getD ω.l (Xd o names))) 54::blk p.wb (wdC p (Xg ω (Xd o names) o.n).2) 44::R):=⟨_,((hS.pick 1 rfl).pick 6 rfl)⟩
     refine And.intro (by intro _ _; exact hH) ?_
     refine WD.branch [6] (by kernel_rfl) rfl (WO.cons rfl ?_ (WO.nil))
     refine .call Xe0 rfl (X0 (.of rfl) (X0 (.of rfl) X4)) rfl (X1y p.tb (Xg ω (Xd o names) o.n).2.room a9 c9 (Xg ω (Xd o names) o.n).2.l (by omega) (getD ω.l (Xd o names)).parent B _ J3 _ ((hS.pick 3 rfl).pick 3 rfl)) ?_
     clear hS
     rintro _ w ⟨rfl,hS⟩
     try dsimp only [List.eraseIdx] at hS
     refine .nil ?_
     clear hH
     have hH:∃ R,Sat B w J3 (blk b22 (X8 (getD ω.l (Xd o names))) 54::blk p.wb (wdC p (Xg ω (Xd o names) o.n).2) 44::R):=⟨_,((hS.pick 3 rfl).pick 6 rfl)⟩
     refine And.intro (by intro _ _; exact hH) ?_
     refine .tp (i:=7) rfl (by kernel_rfl) (fun w=>(.move (.of rfl))) rfl (.tp (i:=8) rfl (by kernel_rfl) (fun w=>(.extract (.of rfl) rfl)) rfl (.tp (i:=9) rfl (by kernel_rfl) (fun w=>(.extract (.of rfl) rfl)) rfl ?_))
     refine WD.branch [11] (by kernel_rfl) rfl (WO.cons rfl ?_ (WO.nil))
     refine WL.stA hS (k:=2) rfl (.of rfl) (.of rfl) rfl X1k rfl (by simp) ?_
     clear hS; intro w hS; try dsimp only [List.set] at hS
     try simp only [Yj,Ye,Y9,Y7,Yi,Yo,Yf] at hS
     refine .nil ?_
     clear hH
     have hH:∃ R,Sat B w J3 (blk b22 (X8 (getD ω.l (Xd o names))) 54::blk p.wb (wdC p (Xg ω (Xd o names) o.n).2) 44::R):=⟨_,((hS.pick 3 rfl).pick 6 rfl)⟩
     refine And.intro (by intro _ _; exact hH) ?_
     refine .tp (i:=12) rfl (by kernel_rfl) (fun w=>(.assign (.of rfl))) rfl (.done (by kernel_rfl) ?_)
     replace hS:=Sat.box (T:=wdT p (Xg ω (Xd o names) o.n).2) (a9,c9,ma9,mc9) (((((hS.pick 5 rfl).pick 5 rfl).pick 3 rfl).pick 3 rfl).pick 5 rfl)
     try dsimp only [List.eraseIdx] at hS
     exact ⟨(),⟨rfl,rfl,rfl,rfl,rfl,rfl,rfl,rfl,rfl,rfl,rfl,trivial⟩,(((((((hS.pick 6 rfl).pick 1 rfl).pick 6 rfl).pick 6 rfl).pick 6 rfl).pick 6 rfl).drop (k:=6) rfl)⟩
   rintro ⟨⟩ w hS
   change WC _ _ _ _ [(2,.slice (some pp) ops.length oc),(3,ptr b3 0),(7,.bool true),(9,ptr p.wb 0),(10,.slice ga good.length gc),(13,.slice va names.length vc),(14,I64 (i:Nat)),(15,ptr b15 0),(22,ptr b22 0),(25,I64 ((Xg ω (Xd o names) o.n).1.2:Nat)),(27,.bool (get (Xg ω (Xd o names) o.n).2.l (getD ω.l (Xd o names)).parent).isSome)] w
   refine .seq (.seq (.region ?_))
   refine WL.val (.fieldAddr 0 (.of rfl) X18 rfl rfl Qs3 rfl) rfl ?_
   refine WL.val (.ld (.of rfl) hS (k:=0) rfl Qg3 rfl) rfl ?_
   refine .q 2 rfl (.gval rfl rfl (fun hg1=>(.move (.of rfl))) rfl (.gval rfl rfl (fun hg1=>(.eql (.gd hg1 rfl) (.of rfl))) rfl ?_))
   refine WL.gval rfl rfl (fun hg1=>(by exact .fieldAddr 1 (.of rfl) Xc5 rfl rfl Qs3 rfl)) rfl ?_
   refine WL.gval rfl rfl (fun hg1=>(by exact (.ld (.gd hg1 rfl) hS (k:=1) rfl Qg3 rfl))) rfl ?_
   refine .gval rfl rfl (fun hg1=>(.eql (.gd hg1 rfl) (.of rfl))) rfl (.gval rfl rfl (fun hg1=>(.neb (.gd hg1 rfl) (.gd hg1 rfl) Qu4)) rfl (.val (.pand (.of rfl) (.of rfl) (.of rfl)) rfl (.q 1 rfl ?_)))
   refine WL.gval rfl rfl (fun hg1=>(by exact .fieldAddr 0 (.of rfl) X18 rfl rfl Qs3 rfl)) rfl ?_
   refine WL.gval rfl rfl (fun hg1=>(by exact (.ld (.gd hg1 rfl) hS (k:=0) rfl Qg3 rfl))) rfl ?_
   refine .gval rfl rfl (fun hg1=>(.neq (.gd hg1 rfl) (.of rfl))) rfl (.gval rfl rfl (fun hg1=>(.move (.gd hg1 rfl))) rfl (.gval2 rfl rfl rfl (fun hg1 hg2=>(.move (.of rfl))) rfl (.gval2 rfl rfl rfl (fun hg1 hg2=>(.neq (.gd2 hg1 hg2 rfl) (.of rfl))) rfl (.gval rfl rfl (fun hg1=>(.pand (.gd hg1 rfl) (.gd hg1 rfl) (.of rfl))) rfl (.val (.por (.of rfl) (.of rfl) (.of rfl)) rfl (.q 1 rfl ?_))))))
   refine WL.gval rfl rfl (fun hg1=>(by exact .fieldAddr 0 (.of rfl) X18 rfl rfl Qs3 rfl)) rfl ?_
   refine WL.gval rfl rfl (fun hg1=>(by exact (.ld (.gd hg1 rfl) hS (k:=0) rfl Qg3 rfl))) rfl ?_
   refine .gval rfl rfl (fun hg1=>(.eql (.gd hg1 rfl) (.of rfl))) rfl (.gval rfl rfl (fun hg1=>(.move (.gd hg1 rfl))) rfl (.gval2 rfl rfl rfl (fun hg1 hg2=>(.move (.of rfl))) rfl (.gval2 rfl rfl rfl (fun hg1 hg2=>(.move (.of rfl))) rfl (.gval2 rfl rfl rfl (fun hg1 hg2=>(.eql (.gd2 hg1 hg2 rfl) (.of rfl))) rfl (.gval2 rfl rfl rfl (fun hg1 hg2=>(.neb (.gd2 hg1 hg2 rfl) (.gd2 hg1 hg2 rfl) Qu4)) rfl (.gval rfl rfl (fun hg1=>(.pand (.gd hg1 rfl) (.gd hg1 rfl) (.of rfl))) rfl (.val (.por (.of rfl) (.of rfl) (.of rfl)) rfl (.nil ?_))))))))
   refine WC.cond rfl (fun hb185=>?_) (fun hb185=>?_)
   ·
    have hc185:=hb185; try simp only [Y6] at hc185
    refine .seq (.q 1 rfl (.ret (Xk Qr5 rfl ?_)))
    exfalso
    clear hc185
    revert hAF hb185
    generalize (Xg ω (Xd o names) o.n).1.2=E
    generalize (get (Xg ω (Xd o names) o.n).2.l (getD ω.l (Xd o names)).parent).isSome=Z
    generalize (getD ω.l (Xd o names)).kind=K
    intro hAF hb185
    by_cases hk:K=5
    ·obtain ⟨⟨e1,e2⟩,e3,e4⟩:=hAF.1 hk
     by_cases hn:o.n=200
     ·have e5:=e2 hn
      have e6:=e4 e5
      simp [hk,hn,e5,e6] at hb185
     ·have e5:¬ E=0:=fun h=>hn (e1 h)
      have e6:¬ Z=true:=fun h=>e5 (e3 h)
      rw [show (o.n == 200)=false by simpa using hn,show (((E:Nat):Int) == 0)=false by simpa using e5] at hb185
      simp [hk,e6] at hb185
    ·have e5:=hAF.2 hk
     simp [hk,e5] at hb185
   have hc185:=hb185; try simp only [Y6] at hc185
   refine .skip (.seq (.q 2 rfl ?_))
   refine WC.cond rfl (fun hb187=>?_) (fun hb187=>?_)
   ·
    have hc187:=hb187; try simp only [Y6] at hc187
    refine .t 1 rfl ?_
    refine WL.val (.fieldAddr 2 (.of rfl) X18 rfl rfl Qs9 rfl) rfl ?_
    refine WL.val (.ld (.of rfl) hS (k:=0) rfl Qg9 rfl) rfl ?_
    refine .buildSlice (cs:=[_]) hS (X5 (.of rfl) X6) X1s Qs9 Qz9 rfl rfl rfl rfl ?_
    clear hS; intro b191 w hS
    refine WL.append (size:=1) (bytes:=16) hS (.of rfl) (.of rfl) (k:=2) rfl X1s X1w rfl rfl rfl rfl rfl rfl rfl ⟨by omega,by unfold maxLen; omega⟩ rfl ?_
    clear hS; intro v192 w hS; try dsimp only [List.set] at hS
    obtain ⟨a192,c192,rfl,hcap192,_⟩:=hS.vecSlice (k:=2) (v:=v192) rfl
    refine .q 1 rfl (.nil (.region (.run 3 rfl ⟨⟨by omega,by omega⟩,trivial⟩ (.nil ?_))))
    refine ⟨(((Xg ω (Xd o names) o.n).2,(good ++ [(getD ω.l (Xd o names)).parent]),names),i+1,.slice a192 (good.length+1) c192,.slice va names.length vc),⟨rfl,rfl,rfl,rfl,rfl,rfl,rfl,trivial⟩,⟨by (try dsimp only); omega,⟨X1z hω _ _,(by have h9:=Xab (iou:=(Xd o names)) (n:=o.n) hω has.an; rw [if_pos (by simpa using hb187)] at h9; exact h9),has.nm,by omega,by rw [Y0]; show _+1≤_; omega,by rw [Xdy]; omega⟩,?_⟩,by (try dsimp only); omega⟩
    try dsimp only
    rw [Yv,show (good ++ [(getD ω.l (Xd o names)).parent]).length=good.length+1 from Y0]
    exact ((((((hS.pick 5 rfl).pick 5 rfl).pick 5 rfl).pick 5 rfl).drop (k:=4) rfl).drop (k:=4) rfl)
   have hc187:=hb187; try simp only [Y6] at hc187
   refine .skip (.region (.run 3 rfl ⟨⟨by omega,by omega⟩,trivial⟩ (.nil ?_)))
   refine ⟨(((Xg ω (Xd o names) o.n).2,good,names),i+1,.slice ga good.length gc,.slice va names.length vc),⟨rfl,rfl,rfl,rfl,rfl,rfl,rfl,trivial⟩,⟨by (try dsimp only); omega,⟨X1z hω _ _,(by have h9:=Xab (iou:=(Xd o names)) (n:=o.n) hω has.an; rw [if_neg (by simpa using hb187)] at h9; exact h9),has.nm,by omega,by omega,by rw [Xdy]; omega⟩,?_⟩,by (try dsimp only); omega⟩
   try dsimp only
   exact ((((((hS.pick 5 rfl).pick 5 rfl).pick 5 rfl).pick 5 rfl).drop (k:=4) rfl).drop (k:=4) rfl)
  have hc126:=hb126; try simp only [Y6] at hc126
  refine .seq (.q 2 rfl ?_)
  refine WC.cond rfl (fun hb193=>?_) (fun hb193=>?_)
  ·
   have hc193:=hb193; try simp only [Y6] at hc193
   refine .seq (.t 2 rfl ?_)
   refine WL.val (.fieldAddr 4 (.of rfl) Xc5 rfl rfl Qs9 rfl) rfl ?_
   refine WL.val (.ld (.of rfl) hS (k:=0) rfl Qg9 rfl) rfl ?_
   refine .call Xpr rfl (X0 (.of rfl) (X0 (.of rfl) (X0 (.of rfl) X4))) rfl (X2y (Xd o names) o.b (by omega) (by omega) p ω hω B _ J3 hI3 _ (hS.pick 3 rfl)) ?_
   clear hS
   rintro _ w ⟨rfl,hS⟩
   try dsimp only [List.eraseIdx] at hS
   refine .q 7 rfl (.nil (.seq (.t 2 rfl ?_)))
   refine WL.call Tryz.func24 rfl (X0 (.of rfl) (X0 (.of rfl) X4)) rfl (In_any ga gc good (by omega) (Xd o names) B _ J3 _ (fun w h=>Xgg (cells:=Xde) (s:=1) (fun _=>rfl) h (k:=2) (by rw [rowsT]; rfl)) hS) ?_
   clear hS
   rintro _ w ⟨rfl,hS⟩
   refine .q 1 rfl (.nil (.seq (.t 3 rfl (.gval rfl rfl (fun hg1=>(.move (.of rfl))) rfl (.gval rfl rfl (fun hg1=>(.not (.gd hg1 rfl))) rfl (.val (.pand (.of rfl) (.of rfl) (.of rfl)) rfl (.nil ?_)))))))
   refine WC.cond rfl (fun hb212=>?_) (fun hb212=>?_)
   ·
    have hc212:=hb212; try simp only [Y6] at hc212
    refine .seq (.q 1 rfl (.ret (Xk Qr5 rfl ?_)))
    exfalso
    have h1:=Xh0 (lo:=p.lo) (ps:=p.ps) (pgt:=(Xd o names)) hω (target:=o.b) has.an (by have:=hc212.1; omega)
    have h2:=hc212.2
    rw [List.contains_eq_any_beq,List.any_eq_false] at h2
    exact h2 _ h1 (by simp)
   have hc212:=hb212; try simp only [Y6] at hc212
   refine .skip (.region (.run 3 rfl ⟨⟨by omega,by omega⟩,trivial⟩ (.nil ?_)))
   refine ⟨(((Xi p.lo p.ps ω (Xd o names) o.b).2,good,names),i+1,.slice ga good.length gc,.slice va names.length vc),⟨rfl,rfl,rfl,rfl,rfl,rfl,rfl,trivial⟩,⟨by (try dsimp only); omega,⟨X1c hω _ _,X85 hω has.an,has.nm,by omega,by omega,by have h1:=Xby (lo:=p.lo) (ps:=p.ps) (ω:=ω) (pgt:=(Xd o names)) (target:=o.b); omega⟩,?_⟩,by (try dsimp only); omega⟩
   try dsimp only
   exact (((((hS.pick 4 rfl).pick 1 rfl).pick 4 rfl).pick 4 rfl).drop (k:=4) rfl)
  have hc193:=hb193; try simp only [Y6] at hc193
  refine .skip (.region (.run 3 rfl ⟨⟨by omega,by omega⟩,trivial⟩ (.nil ?_)))
  refine ⟨((ω,good,names),i+1,.slice ga good.length gc,.slice va names.length vc),⟨rfl,rfl,rfl,rfl,rfl,rfl,rfl,trivial⟩,⟨by (try dsimp only); omega,⟨hω,has.an,has.nm,by omega,by omega,by omega⟩,?_⟩,by (try dsimp only); omega⟩
  try dsimp only
  exact (((((hS.pick 4 rfl).pick 4 rfl).pick 4 rfl).pick 4 rfl).drop (k:=4) rfl)
 have hc74:=hb74; try simp only [Y6] at hc74
 refine .exit (.seq (.q 2 rfl (.ret (Xk Qr5 rfl ?_))))
 exact ⟨_,rfl,rfl,J3,((hJ.trans hJ2).trans hJ3),((((hS.drop (k:=0) rfl).drop (k:=0) rfl).drop (k:=0) rfl).drop (k:=0) rfl)⟩
end Go.Proofs.YtfibbpgikjggfaaGreatDoor
