/- Part 7 of what the proof stands on: W22k, GkK, Kn2, Op22. -/
import Derived.Test.YtfibbpgikjggfaaGreatDoorM2TF
import Derived.Lib.LaidTab
import Derived.Lib.LaidU8
import Derived.Lay
import Derived.Shelf.Vars
import Derived.HandedShaped
import Derived.MakeChecks
import Derived.Test.YtfibbpgikjggfaaGreatDoorRows
import Derived.KernelRfl
import Derived.OpenShut
set_option linter.unusedVariables false
set_option linter.unusedSimpArgs false
namespace Go.Proofs.YtfibbpgikjggfaaGreatDoor
open Gk Ul Pc
theorem Xfc {u:U} (hu:Ul.Good u):(Xav u).length≤80+u.path.length+u.query.length:=by
 have h1:u.sch.length≤5:=by rcases hu.sch with e | e <;> rw [e] <;> decide
 have h2:u.host.length≤64:=by
  have h:=hu.host.1
  unfold X25 at h
  simp at h
  omega
 have h3:=X52 u.port hu.port.1
 unfold Xav X30
 split <;> split <;> simp only [Y0,Y6,Yh] <;> omega
theorem Xcp {url pgt iou:List UInt8} (h:(pU url).2=0) (hu:url.length≤200) (hp:pgt.length≤60) (hi:iou.length≤60):(Xav (X3a (pU url).1 pgt iou)).length≤2000∧pU (Xav (X3a (pU url).1 pgt iou))=(X3a (pU url).1 pgt iou,0):=by
 have hg:Ul.Good (X3a (pU url).1 pgt iou):=Xbu (Xbu (Xo4 h) _ _) _ _
 have h1:=Xfc hg
 have h2:=Xcx url pgt iou
 have h3:=(pU_q url).2
 have h4:(X3a (pU url).1 pgt iou).path=(pU url).1.path:=rfl
 rw [h4] at h1
 have hl:(Xav (X3a (pU url).1 pgt iou)).length≤2000:=by omega
 exact ⟨hl,Xiy hg hl⟩
theorem Xb0 (u:U) (pgt iou:List UInt8):form (X3a u pgt iou).query=if (form u.query).2=0 then (if 31≤(form u.query).1.length then ([],5) else ((form u.query).1 ++ [(PGTID,pgt),(PGTIOU,iou)],0)) else form u.query:=by
 show form (Xck (Xck u.query PGTID pgt) PGTIOU iou)=_
 rw [Xev,Xev]
 by_cases h:(form u.query).2=0
 ·rw [if_pos h,if_pos h]
  by_cases h2:32≤(form u.query).1.length
  ·rw [if_pos h2,if_pos (show 31≤_ by omega),if_neg (by decide)]
  ·rw [if_neg h2,if_pos rfl]
   show (if 32≤((form u.query).1 ++ [(PGTID,pgt)]).length then _ else _)=_
   rw [Y0]
   by_cases h3:31≤(form u.query).1.length
   ·rw [if_pos h3,if_pos (by show 32≤_+1; omega)]
   ·rw [if_neg h3,if_neg (by show ¬ 32≤_+1; omega)]
    simp
 ·rw [if_neg h,if_neg h,if_neg h]
set_option maxRecDepth 20000 in
set_option maxHeartbeats 800000 in
theorem X6x (q:Cl) (hq:q.url.length≤maxLen∧q.pgt.length≤maxLen∧q.iou.length≤maxLen) (B w:World) (I:Im) (hK:Known I) (hP:PreAt I) (As:List X9) (hS:Sat B w I As) :
  Calls Tryz.prog 7 [.agg (Xap q).toArray].toArray w (Ret fun v w'=>v=.bool true∧∃ J,Le I J∧Sat B w' J As):=by
 unfold maxLen at hq
 obtain ⟨hq1,hq2,hq3⟩:=hq
 refine calls Tryz.func7 rfl Tryz.ntmps7 rfl (.seq (.region (.boxA (cs:=[S q.url,S q.pgt,S q.iou]) hS (.of rfl) rfl ?_)))
 clear hS; intro b1 w hS
 refine .q 1 rfl (.nil (.seq (.region (.call Tryz.func8 rfl X4 rfl (Xcw B _ I hK hP _ hS) ?_))))
 clear hS
 rintro _ w ⟨rfl,hS⟩
 refine .q 1 rfl (.nil (.seq (.seq (.region ?_))))
 refine WL.val (.fieldAddr 0 (.of rfl) Xaw rfl rfl Qs9 rfl) rfl ?_
 refine .val (.ld (.of rfl) hS (k:=0) rfl Qg9 rfl) rfl (.run 3 rfl ⟨Qu9,trivial⟩ ?_)
 refine WL.gval rfl rfl (fun hg1=>(by exact .fieldAddr 1 (.of rfl) Xaw rfl rfl Qs9 rfl)) rfl ?_
 refine .gval rfl rfl (fun hg1=>(.ld (.gd hg1 rfl) hS (k:=0) rfl Qg9 rfl)) rfl (.gval rfl rfl (fun hg1=>(.len (.gd hg1 rfl) Qu9)) rfl (.gval rfl rfl (fun hg1=>(.gtr (.gd hg1 rfl) (.of rfl))) rfl (.val (.por (.of rfl) (.of rfl) (.of rfl)) rfl (.q 1 rfl ?_))))
 refine WL.gval rfl rfl (fun hg1=>(by exact .fieldAddr 2 (.of rfl) Xaw rfl rfl Qs9 rfl)) rfl ?_
 refine .gval rfl rfl (fun hg1=>(.ld (.gd hg1 rfl) hS (k:=0) rfl Qg9 rfl)) rfl (.gval rfl rfl (fun hg1=>(.len (.gd hg1 rfl) Qu9)) rfl (.gval rfl rfl (fun hg1=>(.gtr (.gd hg1 rfl) (.of rfl))) rfl (.val (.por (.of rfl) (.of rfl) (.of rfl)) rfl (.nil ?_))))
 refine WC.cond rfl (fun hb30=>?_) (fun hb30=>?_)
 ·
  have hc30:=hb30; try simp only [Y5] at hc30
  refine .seq (.q 2 rfl (.ret (Xe Qr7 rfl ?_)))
  exact ⟨_,rfl,rfl,I,Le.refl _,(hS.drop (k:=0) rfl)⟩
 have hc30:=hb30; try simp only [Y5] at hc30
 refine .skip (.seq ?_)
 have hq9:=hc30
 refine .region ?_
 refine WL.val (.ldsW (cs:=[_,_,_]) (.of rfl) hS (k:=0) rfl Qg48 Xg9 rfl) rfl ?_
 refine .call Tryz.func29 rfl (X0 (.of rfl) X4) rfl (Xgn q.url q.pgt q.iou (by omega) (by omega) (by omega) B _ I hK _ hS) ?_
 clear hS
 rintro _ w ⟨rfl,hS⟩
 refine .q 5 rfl (.nil (.seq (.region ?_)))
 refine WL.val (.fieldAddr 0 (.of rfl) Xaw rfl rfl Qs9 rfl) rfl ?_
 refine .val (.ld (.of rfl) hS (k:=0) rfl Qg9 rfl) rfl (.call Tryz.func17 rfl (X0 (.of rfl) X4) rfl (Xc6 q.url (by omega) B _ I _ hS) ?_)
 clear hS
 rintro _ w ⟨rfl,hS⟩
 refine .q 3 rfl (.allocA (cs:=[_,_,_,_,_,_]) hS Xjx rfl ?_)
 clear hS; intro b6 w hS
 refine WL.stA hS (k:=0) rfl (.of rfl) (.of rfl) rfl X1r rfl (by simp) ?_
 clear hS; intro w hS; try dsimp only [List.set] at hS
 try simp only [Ym,Yc,Yg,Y9,Yl,Yo,Yf] at hS
 refine .q 1 rfl (.nil (.seq (.seq (.q 2 rfl ?_))))
 refine WC.cond rfl (fun hb44=>?_) (fun hb44=>?_)
 ·
  have hc44:=hb44; try simp only [Y5] at hc44
  refine .seq (.t 2 rfl (.gval rfl rfl (fun hg1=>(.move (.of rfl))) rfl (.gval rfl rfl (fun hg1=>(.eqs (.gd hg1 rfl) (.of rfl))) rfl (.val (.pand (.of rfl) (.of rfl) (.of rfl)) rfl (.q 1 rfl (.gval rfl rfl (fun hg1=>(.move (.of rfl))) rfl (.gval rfl rfl (fun hg1=>(.move (.of rfl))) rfl (.gval rfl rfl (fun hg1=>(.eql (.gd hg1 rfl) (.gd hg1 rfl))) rfl (.val (.pand (.of rfl) (.of rfl) (.of rfl)) rfl (.q 1 rfl (.nil (.ret (Xe Qr7 rfl ?_)))))))))))))
  refine ⟨_,rfl,congrArg Value.bool ?_,I,Le.refl _,((hS.drop (k:=0) rfl).drop (k:=0) rfl)⟩
  have hz:¬ (pU q.url).2=0:=by have h9:=hc44; omega
  rw [Xdr,if_neg hz]
  simp
 have hc44:=hb44; try simp only [Y5] at hc44
 refine .skip (.seq ?_)
 have hz:(pU q.url).2=0:=by have h9:=hc44; omega
 obtain ⟨hsl,hback⟩:=Xcp hz (show q.url.length≤200 by omega) (show q.pgt.length≤60 by omega) (show q.iou.length≤60 by omega)
 have hs2:=(X9t hz (show q.pgt.length≤100000 by omega) (show q.iou.length≤100000 by omega)).2
 have hul:=(pU_q q.url).1
 have hu2:=Xcx q.url q.pgt q.iou
 rw [show Xdr q.url q.pgt q.iou=(Xav (X3a (pU q.url).1 q.pgt q.iou),0) by rw [Xdr,if_pos hz]]
 try dsimp only
 refine .t 1 rfl (.call Qf38 rfl (X0 (.of rfl) X4) rfl (X6j (Xav (X3a (pU q.url).1 q.pgt q.iou)) (by omega) B _ I hK _ hS) ?_)
 clear hS
 rintro _ w ⟨rfl,hS⟩
 rw [hback]
 refine .q 3 rfl (.allocA (cs:=[_,_,_,_,_,_]) hS Xjx rfl ?_)
 clear hS; intro b8 w hS
 refine WL.stA hS (k:=0) rfl (.of rfl) (.of rfl) rfl X1r rfl (by simp) ?_
 clear hS; intro w hS; try dsimp only [List.set] at hS
 try simp only [Ym,Yc,Yg,Y9,Yl,Yo,Yf] at hS
 refine .q 1 rfl (.nil (.seq (.seq (.quiet (by kernel_rfl) (by kernel_rfl) hS (.val (fun w hS=>(.move (.of rfl))) rfl (.val (fun w hS=>(.neq (.of rfl) (.of rfl))) rfl (.val (fun w hS=>(.move (.of rfl))) rfl (.gval rfl rfl rfl (fun hg1 w hS=>(.move (.of rfl))) rfl (.gval rfl rfl rfl (fun hg1 w hS=>(.neq (.gd hg1 rfl) (.of rfl))) rfl (.val (fun w hS=>(.por (.of rfl) (.of rfl) (.of rfl))) rfl (.val (fun w hS=>(.move (.of rfl))) rfl ?_)))))))))))
 refine WQ.gval rfl rfl rfl (fun hg1 w hS=>(by exact (.ldsW (cs:=[_,_,_,_,_,_]) (.of rfl) hS (k:=0) rfl X58 X1r rfl))) rfl ?_
 refine .gcall rfl rfl rfl Tryz.func39 rfl (fun hg1=>(X0 (.gd hg1 rfl) X4)) rfl (fun hg1 w hS=>X8h (X3a (pU q.url).1 q.pgt q.iou) hs2 B _ I hK _ hS) ?_
 refine WQ.gval rfl rfl rfl (fun hg1 w hS=>(by exact (.ldsW (cs:=[_,_,_,_,_,_]) (.of rfl) hS (k:=1) rfl X58 X1r rfl))) rfl ?_
 refine .gcall rfl rfl rfl Tryz.func40 rfl (fun hg1=>(X0 (.gd hg1 rfl) X4)) rfl (fun hg1 w hS=>X9v (pU q.url).1 (X7b q.url) B _ I _ hS) (.gval rfl rfl rfl (fun hg1 w hS=>(.nes (.gd hg1 rfl) (.gd hg1 rfl))) rfl (.val (fun w hS=>(.por (.of rfl) (.of rfl) (.of rfl))) rfl (.val (fun w hS=>(.move (.of rfl))) rfl ?_)))
 refine WQ.gval rfl rfl rfl (fun hg1 w hS=>(by exact .fieldAddr 3 (.of rfl) X3r rfl rfl Qs9 rfl)) rfl ?_
 refine WQ.gval rfl rfl rfl (fun hg1 w hS=>(by exact (.ld (.gd hg1 rfl) hS (k:=0) rfl Qg9 rfl))) rfl ?_
 refine WQ.gval rfl rfl rfl (fun hg1 w hS=>(by exact .fieldAddr 3 (.of rfl) X3r rfl rfl Qs9 rfl)) rfl ?_
 refine WQ.gval rfl rfl rfl (fun hg1 w hS=>(by exact (.ld (.gd hg1 rfl) hS (k:=1) rfl Qg9 rfl))) rfl ?_
 refine .gval rfl rfl rfl (fun hg1 w hS=>(.nes (.gd hg1 rfl) (.gd hg1 rfl))) rfl (.val (fun w hS=>(.por (.of rfl) (.of rfl) (.of rfl))) rfl (.nil ?_))
 clear hS; intro w hS
 refine WC.cond rfl (fun hb79=>?_) (fun hb79=>?_)
 ·
  have hc79:=hb79; try simp only [Y5] at hc79
  refine .seq (.q 1 rfl (.ret (Xe Qr7 rfl ?_)))
  exfalso
  have ho:X30 (X3a (pU q.url).1 q.pgt q.iou)=X30 (pU q.url).1:=rfl
  have hp:(X3a (pU q.url).1 q.pgt q.iou).path=(pU q.url).1.path:=rfl
  rw [ho,hp] at hb79
  simp at hb79
 have hc79:=hb79; try simp only [Y5] at hc79
 refine .skip (.seq (.region ?_))
 refine WL.val (.fieldAddr 4 (.of rfl) X3r rfl rfl Qs9 rfl) rfl ?_
 refine WL.val (.ld (.of rfl) hS (k:=1) rfl Qg9 rfl) rfl ?_
 refine .call Tryz.func41 rfl (X0 (.of rfl) X4) rfl (Xj8 (pU q.url).1.query (by omega) B _ I _ hS) ?_
 clear hS
 rintro _ w ⟨J1,fa,fc,rfl,hJ1,hfc,hF1,hS⟩
 refine .q 5 rfl (.nil (.seq (.region ?_)))
 refine WL.val (.ldsW (cs:=[_,_,_,_,_,_]) (.of rfl) hS (k:=0) rfl X58 X1r rfl) rfl ?_
 refine .call Tryz.func42 rfl (X0 (.of rfl) X4) rfl (Xg1 (X3a (pU q.url).1 q.pgt q.iou) (by omega) B _ J1 (hK.mono hJ1) _ hS) ?_
 clear hS
 rintro _ w ⟨J2,ga,gc,rfl,hJ2,hgc,hG2,hS⟩
 refine .q 5 rfl (.nil (.seq (.seq (.t 3 rfl (.gval rfl rfl (fun hg1=>(.move (.of rfl))) rfl (.gval rfl rfl (fun hg1=>(.lenSlice (.gd hg1 rfl) X4o)) rfl (.gval rfl rfl (fun hg1=>(.gtr (.gd hg1 rfl) (.of rfl))) rfl (.val (.por (.of rfl) (.of rfl) (.of rfl)) rfl (.nil ?_)))))))))
 refine WC.cond rfl (fun hb97=>?_) (fun hb97=>?_)
 ·
  have hc97:=hb97; try simp only [Y5] at hc97
  refine .seq (.t 2 rfl (.gval rfl rfl (fun hg1=>(.move (.of rfl))) rfl (.gval rfl rfl (fun hg1=>(.neq (.gd hg1 rfl) (.of rfl))) rfl (.val (.pand (.of rfl) (.of rfl) (.of rfl)) rfl (.q 1 rfl (.nil (.ret (Xe Qr7 rfl ?_))))))))
  refine ⟨_,rfl,congrArg Value.bool ?_,J2,hJ1.trans hJ2,(((hS.drop (k:=0) rfl).drop (k:=0) rfl).drop (k:=0) rfl)⟩
  rw [Xb0]
  by_cases h:(form (pU q.url).1.query).2=0
  ·rw [if_pos h,if_pos (by have h9:=hc97; omega)]; rfl
  ·rw [if_neg h]; simpa using h
 have hc97:=hb97; try simp only [Y5] at hc97
 refine .skip (.seq ?_)
 have hfl:=X8c (amp (pU q.url).1.query) [] (by decide)
 have h97:(form (pU q.url).1.query).2=0∧(form (pU q.url).1.query).1.length≤30:=by
  have h9:=hc97
  constructor <;> omega
 have hF2:form (X3a (pU q.url).1 q.pgt q.iou).query=(((form (pU q.url).1.query).1 ++ [(PGTID,q.pgt),(PGTIOU,q.iou)]),0):=by rw [Xb0,if_pos h97.1,if_neg (by omega)]
 rw [hF2] at hG2 hgc ⊢
 try dsimp only at hG2 hgc
 have h30:=h97.2
 refine .drawn (fun w=>∃ J9 R,Le J2 J9∧Sat B w J9 (blk b1 [S q.url,S q.pgt,S q.iou] 48::R)) (fun j=>!([].contains j)) (by kernel_rfl) ?_
 replace hS:=hS.drew; generalize w.drew=w at hS ⊢
 have hH:∃ J9 R,Le J2 J9∧Sat B w J9 (blk b1 [S q.url,S q.pgt,S q.iou] 48::R):=⟨_,_,Le.refl _,(hS.pick 2 rfl)⟩
 refine .tp (i:=0) rfl (by kernel_rfl) (fun w=>(.move (.of rfl))) rfl (.tp (i:=1) rfl (by kernel_rfl) (fun w=>(.move (.of rfl))) rfl (.tg (i:=2) rfl (by kernel_rfl) hH rfl rfl (fun hg1 w ⟨J9,R,hL9,hS⟩=>(.move (.of rfl))) rfl (.tg (i:=3) rfl (by kernel_rfl) hH rfl rfl (fun hg1 w ⟨J9,R,hL9,hS⟩=>(.eql (.gd hg1 rfl) (.of rfl))) rfl (.tp (i:=4) rfl (by kernel_rfl) (fun w=>(.pand (.of rfl) (.of rfl) (.of rfl))) rfl (.tp (i:=5) rfl (by kernel_rfl) (fun w=>(.move (.of rfl))) rfl (.tg (i:=6) rfl (by kernel_rfl) hH rfl rfl (fun hg1 w ⟨J9,R,hL9,hS⟩=>(.move (.of rfl))) rfl (.tg (i:=8) rfl (by kernel_rfl) hH rfl rfl (fun hg1 w ⟨J9,R,hL9,hS⟩=>(.move (.of rfl))) rfl ?_)))))))
 refine WD.tg (i:=10) rfl (by kernel_rfl) hH rfl rfl (fun hg1 w ⟨J9,R,hL9,hS⟩=>(.fieldAddr 1 (.of rfl) Xaw rfl rfl Qs9 rfl)) rfl ?_
 refine .tg (i:=11) rfl (by kernel_rfl) hH rfl rfl (fun hg1 w ⟨J9,R,hL9,hS⟩=>(.ld (.gd hg1 rfl) hS (k:=0) rfl Qg9 rfl)) rfl (.tg (i:=12) rfl (by kernel_rfl) hH rfl rfl (fun hg1 w ⟨J9,R,hL9,hS⟩=>(.build (cs:=[_,_]) (X5 (.of rfl) (X5 (.gd hg1 rfl) X6)) X2i rfl)) rfl ?_)
 refine WD.tg (i:=13) rfl (by kernel_rfl) hH rfl rfl (fun hg1 w ⟨J9,R,hL9,hS⟩=>(.fieldAddr 2 (.of rfl) Xaw rfl rfl Qs9 rfl)) rfl ?_
 refine .tg (i:=14) rfl (by kernel_rfl) hH rfl rfl (fun hg1 w ⟨J9,R,hL9,hS⟩=>(.ld (.gd hg1 rfl) hS (k:=0) rfl Qg9 rfl)) rfl (.tg (i:=15) rfl (by kernel_rfl) hH rfl rfl (fun hg1 w ⟨J9,R,hL9,hS⟩=>(.build (cs:=[_,_]) (X5 (.of rfl) (X5 (.gd hg1 rfl) X6)) X2i rfl)) rfl ?_)
 refine WD.branch [7,16] (by kernel_rfl) rfl (WO.cons rfl ?_ (WO.cons rfl ?_ (WO.nil)))
 ·
  refine .opn rfl rfl rfl (.buildSlice (cs:=[]) hS X6 X4o X2f X6g rfl rfl rfl rfl ?_)
  clear hS; intro b110 w hS
  refine .nil ?_
  clear hH
  have hH:∃ J9 R,Le J2 J9∧Sat B w J9 (blk b1 [S q.url,S q.pgt,S q.iou] 48::R):=⟨_,_,Le.refl _,(hS.pick 3 rfl)⟩
  refine And.intro (by intro _ _; exact hH) ?_
  refine WD.branch [9,16] (by kernel_rfl) rfl (WO.cons rfl ?_ (WO.cons rfl ?_ (WO.nil)))
  ·
   refine .opn rfl rfl rfl ?_
   replace hS:=hS.vecOf (k:=0) (E:=101) (size:=2) (n:=0) rfl rfl (by decide)
   try dsimp only [List.set] at hS
   refine WL.appendF (size:=2) (bytes:=32) hS (.of rfl) (.of rfl) (hF1.mono hJ2) (k:=0) rfl X4o (i:=Tryz.t101) (by kernel_rfl) rfl rfl rfl rfl (Xf4 _) ⟨by omega,by unfold maxLen; omega⟩ rfl ?_
   clear hS; intro v112 w hS
   try dsimp only [List.set] at hS
   rw [Yf,Yc] at hS
   obtain ⟨a112,c112,rfl,hcap112,_⟩:=hS.vecSlice (k:=0) (v:=v112) rfl
   refine .nil ?_
   clear hH
   have hH:∃ J9 R,Le J2 J9∧Sat B w J9 (blk b1 [S q.url,S q.pgt,S q.iou] 48::R):=⟨_,_,Le.refl _,(hS.pick 3 rfl)⟩
   refine And.intro (by intro _ _; exact hH) ?_
   refine WD.branch [16] (by kernel_rfl) rfl (WO.cons rfl ?_ (WO.nil))
   refine .opn rfl rfl rfl (.buildSlice (cs:=[S PGTID,S q.pgt,S PGTIOU,S q.iou]) hS (X5 (.of rfl) (X5 (.of rfl) X6)) X4o X2f X6g rfl rfl rfl rfl ?_)
   clear hS; intro b119 w hS
   refine .nil ?_
   clear hH
   have hH:∃ J9 R,Le J2 J9∧Sat B w J9 (blk b1 [S q.url,S q.pgt,S q.iou] 48::R):=⟨_,_,Le.refl _,(hS.pick 4 rfl)⟩
   refine And.intro (by intro _ _; exact hH) ?_
   refine WD.branch [17] (by kernel_rfl) rfl (WO.cons rfl ?_ (WO.nil))
   refine .opn rfl rfl rfl ?_
   refine WL.append (size:=2) (bytes:=32) hS (.of rfl) (.of rfl) (k:=0) rfl X4o X2o rfl rfl rfl rfl rfl rfl rfl ⟨by omega,by unfold maxLen; omega⟩ rfl ?_
   clear hS; intro v120 w hS; try dsimp only [List.set] at hS
   obtain ⟨a120,c120,rfl,hcap120,_⟩:=hS.vecSlice (k:=0) (v:=v120) rfl
   have e9:(form (pU q.url).1.query).1.length+2=((form (pU q.url).1.query).1 ++ [(PGTID,q.pgt),(PGTIOU,q.iou)]).length:=by rw [Y0]; rfl
   rw [e9] at hS hcap120 ⊢
   obtain ⟨J4,hJ4,hR4,hT⟩:=hS.freezeVec (k:=0) rfl
   clear hS
   have hS:=hT
   clear hT
   try dsimp only [List.eraseIdx] at hS
   refine .nil ?_
   clear hH
   have hH:∃ J9 R,Le J2 J9∧Sat B w J9 (blk b1 [S q.url,S q.pgt,S q.iou] 48::R):=⟨_,_,hJ4,(hS.pick 2 rfl)⟩
   refine And.intro (by intro _ _; exact hH) ?_
   refine WD.branch [18] (by kernel_rfl) rfl (WO.cons rfl ?_ (WO.nil))
   refine .opn rfl rfl rfl ?_
   refine WL.call Qf43 rfl (X0 (.of rfl) (X0 (.of rfl) X4)) rfl (X6c ga a120 gc c120 ((form (pU q.url).1.query).1 ++ [(PGTID,q.pgt),(PGTIOU,q.iou)]) ((form (pU q.url).1.query).1 ++ [(PGTID,q.pgt),(PGTIOU,q.iou)]) (by rw [Y0]; show _+2≤_; omega) B _ J4 (hG2.mono hJ4) (by rw [X1b,Yy,Y21]; exact hR4) _ hS) ?_
   clear hS
   rintro _ w ⟨rfl,hS⟩
   refine .nil ?_
   clear hH
   have hH:∃ J9 R,Le J2 J9∧Sat B w J9 (blk b1 [S q.url,S q.pgt,S q.iou] 48::R):=⟨_,_,hJ4,(hS.pick 2 rfl)⟩
   refine And.intro (by intro _ _; exact hH) ?_
   refine .tp (i:=19) rfl (by kernel_rfl) (fun w=>(.pand (.of rfl) (.of rfl) (.of rfl))) rfl (.tp (i:=20) rfl (by kernel_rfl) (fun w=>(.assign (.of rfl))) rfl (.done (by kernel_rfl) (.ret (Xe Qr7 rfl ?_))))
   refine ⟨_,rfl,congrArg Value.bool ?_,J4,(hJ1.trans hJ2).trans hJ4,(((hS.drop (k:=0) rfl).drop (k:=0) rfl).drop (k:=0) rfl)⟩
   simp
  ·
   refine .opn rfl rfl rfl (.buildSlice (cs:=[S PGTID,S q.pgt,S PGTIOU,S q.iou]) hS (X5 (.of rfl) (X5 (.of rfl) X6)) X4o X2f X6g rfl rfl rfl rfl ?_)
   clear hS; intro b119 w hS
   refine .nil ?_
   clear hH
   have hH:∃ J9 R,Le J2 J9∧Sat B w J9 (blk b1 [S q.url,S q.pgt,S q.iou] 48::R):=⟨_,_,Le.refl _,(hS.pick 4 rfl)⟩
   refine And.intro (by intro _ _; exact hH) ?_
   refine WD.branch [9] (by kernel_rfl) rfl (WO.cons rfl ?_ (WO.nil))
   refine .opn rfl rfl rfl ?_
   replace hS:=hS.vecOf (k:=1) (E:=101) (size:=2) (n:=0) rfl rfl (by decide)
   try dsimp only [List.set] at hS
   refine WL.appendF (size:=2) (bytes:=32) hS (.of rfl) (.of rfl) (hF1.mono hJ2) (k:=1) rfl X4o (i:=Tryz.t101) (by kernel_rfl) rfl rfl rfl rfl (Xf4 _) ⟨by omega,by unfold maxLen; omega⟩ rfl ?_
   clear hS; intro v112 w hS
   try dsimp only [List.set] at hS
   rw [Yf,Yc] at hS
   obtain ⟨a112,c112,rfl,hcap112,_⟩:=hS.vecSlice (k:=1) (v:=v112) rfl
   refine .nil ?_
   clear hH
   have hH:∃ J9 R,Le J2 J9∧Sat B w J9 (blk b1 [S q.url,S q.pgt,S q.iou] 48::R):=⟨_,_,Le.refl _,(hS.pick 4 rfl)⟩
   refine And.intro (by intro _ _; exact hH) ?_
   refine WD.branch [17] (by kernel_rfl) rfl (WO.cons rfl ?_ (WO.nil))
   refine .opn rfl rfl rfl ?_
   refine WL.append (size:=2) (bytes:=32) hS (.of rfl) (.of rfl) (k:=0) rfl X4o X2o rfl rfl rfl rfl rfl rfl rfl ⟨by omega,by unfold maxLen; omega⟩ rfl ?_
   clear hS; intro v120 w hS; try dsimp only [List.set] at hS
   obtain ⟨a120,c120,rfl,hcap120,_⟩:=hS.vecSlice (k:=0) (v:=v120) rfl
   have e9:(form (pU q.url).1.query).1.length+2=((form (pU q.url).1.query).1 ++ [(PGTID,q.pgt),(PGTIOU,q.iou)]).length:=by rw [Y0]; rfl
   rw [e9] at hS hcap120 ⊢
   obtain ⟨J4,hJ4,hR4,hT⟩:=hS.freezeVec (k:=0) rfl
   clear hS
   have hS:=hT
   clear hT
   try dsimp only [List.eraseIdx] at hS
   refine .nil ?_
   clear hH
   have hH:∃ J9 R,Le J2 J9∧Sat B w J9 (blk b1 [S q.url,S q.pgt,S q.iou] 48::R):=⟨_,_,hJ4,(hS.pick 2 rfl)⟩
   refine And.intro (by intro _ _; exact hH) ?_
   refine WD.branch [18] (by kernel_rfl) rfl (WO.cons rfl ?_ (WO.nil))
   refine .opn rfl rfl rfl ?_
   refine WL.call Qf43 rfl (X0 (.of rfl) (X0 (.of rfl) X4)) rfl (X6c ga a120 gc c120 ((form (pU q.url).1.query).1 ++ [(PGTID,q.pgt),(PGTIOU,q.iou)]) ((form (pU q.url).1.query).1 ++ [(PGTID,q.pgt),(PGTIOU,q.iou)]) (by rw [Y0]; show _+2≤_; omega) B _ J4 (hG2.mono hJ4) (by rw [X1b,Yy,Y21]; exact hR4) _ hS) ?_
   clear hS
   rintro _ w ⟨rfl,hS⟩
   refine .nil ?_
   clear hH
   have hH:∃ J9 R,Le J2 J9∧Sat B w J9 (blk b1 [S q.url,S q.pgt,S q.iou] 48::R):=⟨_,_,hJ4,(hS.pick 2 rfl)⟩
   refine And.intro (by intro _ _; exact hH) ?_
   refine .tp (i:=19) rfl (by kernel_rfl) (fun w=>(.pand (.of rfl) (.of rfl) (.of rfl))) rfl (.tp (i:=20) rfl (by kernel_rfl) (fun w=>(.assign (.of rfl))) rfl (.done (by kernel_rfl) (.ret (Xe Qr7 rfl ?_))))
   refine ⟨_,rfl,congrArg Value.bool ?_,J4,(hJ1.trans hJ2).trans hJ4,(((hS.drop (k:=0) rfl).drop (k:=0) rfl).drop (k:=0) rfl)⟩
   simp
 ·
  refine .opn rfl rfl rfl (.buildSlice (cs:=[S PGTID,S q.pgt,S PGTIOU,S q.iou]) hS (X5 (.of rfl) (X5 (.of rfl) X6)) X4o X2f X6g rfl rfl rfl rfl ?_)
  clear hS; intro b119 w hS
  refine .nil ?_
  clear hH
  have hH:∃ J9 R,Le J2 J9∧Sat B w J9 (blk b1 [S q.url,S q.pgt,S q.iou] 48::R):=⟨_,_,Le.refl _,(hS.pick 3 rfl)⟩
  refine And.intro (by intro _ _; exact hH) ?_
  refine WD.branch [7] (by kernel_rfl) rfl (WO.cons rfl ?_ (WO.nil))
  refine .opn rfl rfl rfl (.buildSlice (cs:=[]) hS X6 X4o X2f X6g rfl rfl rfl rfl ?_)
  clear hS; intro b110 w hS
  refine .nil ?_
  clear hH
  have hH:∃ J9 R,Le J2 J9∧Sat B w J9 (blk b1 [S q.url,S q.pgt,S q.iou] 48::R):=⟨_,_,Le.refl _,(hS.pick 4 rfl)⟩
  refine And.intro (by intro _ _; exact hH) ?_
  refine WD.branch [9] (by kernel_rfl) rfl (WO.cons rfl ?_ (WO.nil))
  refine .opn rfl rfl rfl ?_
  replace hS:=hS.vecOf (k:=0) (E:=101) (size:=2) (n:=0) rfl rfl (by decide)
  try dsimp only [List.set] at hS
  refine WL.appendF (size:=2) (bytes:=32) hS (.of rfl) (.of rfl) (hF1.mono hJ2) (k:=0) rfl X4o (i:=Tryz.t101) (by kernel_rfl) rfl rfl rfl rfl (Xf4 _) ⟨by omega,by unfold maxLen; omega⟩ rfl ?_
  clear hS; intro v112 w hS
  try dsimp only [List.set] at hS
  rw [Yf,Yc] at hS
  obtain ⟨a112,c112,rfl,hcap112,_⟩:=hS.vecSlice (k:=0) (v:=v112) rfl
  refine .nil ?_
  clear hH
  have hH:∃ J9 R,Le J2 J9∧Sat B w J9 (blk b1 [S q.url,S q.pgt,S q.iou] 48::R):=⟨_,_,Le.refl _,(hS.pick 4 rfl)⟩
  refine And.intro (by intro _ _; exact hH) ?_
  refine WD.branch [17] (by kernel_rfl) rfl (WO.cons rfl ?_ (WO.nil))
  refine .opn rfl rfl rfl ?_
  replace hS:=hS.pick 1 rfl; try dsimp only [List.eraseIdx] at hS
  refine WL.append (size:=2) (bytes:=32) hS (.of rfl) (.of rfl) (k:=0) rfl X4o X2o rfl rfl rfl rfl rfl rfl rfl ⟨by omega,by unfold maxLen; omega⟩ rfl ?_
  clear hS; intro v120 w hS; try dsimp only [List.set] at hS
  obtain ⟨a120,c120,rfl,hcap120,_⟩:=hS.vecSlice (k:=0) (v:=v120) rfl
  have e9:(form (pU q.url).1.query).1.length+2=((form (pU q.url).1.query).1 ++ [(PGTID,q.pgt),(PGTIOU,q.iou)]).length:=by rw [Y0]; rfl
  rw [e9] at hS hcap120 ⊢
  obtain ⟨J4,hJ4,hR4,hT⟩:=hS.freezeVec (k:=0) rfl
  clear hS
  have hS:=hT
  clear hT
  try dsimp only [List.eraseIdx] at hS
  refine .nil ?_
  clear hH
  have hH:∃ J9 R,Le J2 J9∧Sat B w J9 (blk b1 [S q.url,S q.pgt,S q.iou] 48::R):=⟨_,_,hJ4,(hS.pick 2 rfl)⟩
  refine And.intro (by intro _ _; exact hH) ?_
  refine WD.branch [18] (by kernel_rfl) rfl (WO.cons rfl ?_ (WO.nil))
  refine .opn rfl rfl rfl ?_
  refine WL.call Qf43 rfl (X0 (.of rfl) (X0 (.of rfl) X4)) rfl (X6c ga a120 gc c120 ((form (pU q.url).1.query).1 ++ [(PGTID,q.pgt),(PGTIOU,q.iou)]) ((form (pU q.url).1.query).1 ++ [(PGTID,q.pgt),(PGTIOU,q.iou)]) (by rw [Y0]; show _+2≤_; omega) B _ J4 (hG2.mono hJ4) (by rw [X1b,Yy,Y21]; exact hR4) _ hS) ?_
  clear hS
  rintro _ w ⟨rfl,hS⟩
  refine .nil ?_
  clear hH
  have hH:∃ J9 R,Le J2 J9∧Sat B w J9 (blk b1 [S q.url,S q.pgt,S q.iou] 48::R):=⟨_,_,hJ4,(hS.pick 2 rfl)⟩
  refine And.intro (by intro _ _; exact hH) ?_
  refine .tp (i:=19) rfl (by kernel_rfl) (fun w=>(.pand (.of rfl) (.of rfl) (.of rfl))) rfl (.tp (i:=20) rfl (by kernel_rfl) (fun w=>(.assign (.of rfl))) rfl (.done (by kernel_rfl) (.ret (Xe Qr7 rfl ?_))))
  refine ⟨_,rfl,congrArg Value.bool ?_,J4,(hJ1.trans hJ2).trans hJ4,(((hS.drop (k:=0) rfl).drop (k:=0) rfl).drop (k:=0) rfl)⟩
  simp
end Go.Proofs.YtfibbpgikjggfaaGreatDoor
namespace Gk
open Go Go.RowKit Go.WideShapes Go.ChangeShapes
section
variable {H:Type} {enc:TypeId×Value→H}
def WitT (enc:TypeId×Value→H) (a:Assume) (C:Checked) (os:Os) (f:FuncId) (fn:Func) (s:ChangeSpec) (conds:List PathCond) (apart:Bool) (X:World→Array Value→Prop):Prop :=
  ∃ (w:World) (tape:Tape) (i:Input),w.os=os∧(w.forCall tape i).Shaped C.prog∧i.vars=[]∧Input.okWide C.prog (w.forCall tape i) .any w.heap.size f i ∧
   ((s.pre enc C.prog fn conds apart (w.forCall tape i).memory i.args∧X (w.forCall tape i).memory i.args)∧sizedMet enc C.prog fn (OpenSpec.ofChange s) apart (w.forCall tape i).memory i.args)∧a.holds C.prog (lone (Frame.enter C.prog f i.args .normal) [] (w.forCall tape i))
theorem X5f {a:Assume} {C:Checked} {os:Os} {f:FuncId} {fn:Func} {s:ChangeSpec} {conds:List PathCond} {apart fresh handsOn again:Bool} {X:World→Array Value→Prop}
  (hX:∀ (w w':World) (args:Array Value),w.heap=w'.heap→X w args→X w' args)
  (own:ownKnob C.prog.godebug=none) (started:os.Started) (noInit:C.prog.inits.idxOf? f=none) (hfn:C.prog.funcs[f]?=some fn)
  (witness:WitT enc a C os f fn s conds apart X)
  (contract:∀ (W:World) (base:Nat) (args:Array Value) (ds gs:List (DataW H)) (before:List MemPlace),
   (∀ (j:Nat) t v,fn.params[j]?=some t→args[j]?=some v→Value.okWide C.prog W .any base t v) →
   DataW.Whole enc C.prog fn.params.toList s.vars apart W args.toList ds gs before→X W args→W.ShapedOpen C.prog →
   Calls C.prog f args W fun e W'=>∃ v,e=.returned v∧s.post enc C.prog fn apart fresh handsOn again W args v W') :
  ReturnsInHanded a C os f .any (fun w args=>(s.pre enc C.prog fn conds apart w args∧X w args)∧sizedMet enc C.prog fn (OpenSpec.ofChange s) apart w args) (s.post enc C.prog fn apart fresh handsOn again):=by
 refine returnsInHanded_of_calls own started noInit witness ?_
 intro w tape i _ hsh _ hok hpre _
 obtain ⟨_,_,_,fn',hfn',_,_,_,_,hval⟩:=hok
 have e:fn'=fn:=Option.some.inj (hfn'.symm.trans hfn)
 subst e
 obtain ⟨⟨⟨ds,gs,before,hw,hc⟩,hx⟩,hz⟩:=hpre
 have hw':=DataW.Whole.of_heap (w':=w.forCall tape i) (by rfl) hw
 refine (contract (w.forCall tape i) w.heap.size i.args ds gs before hval hw' (hX _ _ _ (by rfl) hx) hsh).mono fun e W' ⟨v,he,hp⟩=>?_
 subst he
 exact ChangeSpec.post_blind hp
end
section
variable {P:Program} {W:World}
theorem X4l {name:String} {k:IntKind} {zs:List Int} {g:Nat} {t e:TypeId} {n:Nat}
  (hg:P.globalNamed name=some g) (hty:(P.globals[g]?).map (·.type)=some t) (ht:P.underlying t=some (.array n e)) (he:P.underlying e=some (.int k)) (hce:P.cellsOf e=1) (hct:P.cellsOf t=n)
  (h:Lib.VarReads P W name (Lib.tabData k zs)):Lib.TabIs P W name k zs:=by
 obtain ⟨g',t',cs,fuel,p,hg',ht',hvar,hd⟩:=h
 obtain rfl:=Option.some.inj (hg.symm.trans hg')
 obtain rfl:=Option.some.inj (hty.symm.trans ht')
 unfold Lib.TabIs
 rw [hvar,← Lib.cells_of_tab ht he hce hct hd]
theorem tab_at {name:String} {k:IntKind} {zs:List Int} {g:Nat} (hg:P.globalNamed name=some g) (h:Lib.TabIs P W name k zs) (h0:0<zs.length):At (im0 W) (ad g 0) (zs.map fun z=>.int k z):=by
 refine Xmg (by rw [Y13]; exact h0) fun j v hj=>?_
 rw [Yx] at hj
 cases hz:zs[j]? with
 | none=>rw [hz] at hj; cases hj
 | some z =>
  rw [hz] at hj
  have hjl:=(Y4.1 hz).1
  have hc:=h.cell hg j hjl
  rw [Xt,Yf,hc,Yd,hz,← hj]
  rfl
variable {B w:World} {As:List X9}
theorem Xba {b:Nat} {o:Obj} (h:W.heap[b]?=some o) (hS:Sat B w (im0 W) As):w.heap[b]?=some o:=by
 obtain ⟨_,_,hg⟩:=hS
 exact hg.imm b o h
theorem Xob {name:String} {k:IntKind} {zs:List Int} (h:Lib.TabIs P W name k zs) (hS:Sat B w (im0 W) As):Lib.TabIs P w name k zs:=by
 unfold Lib.TabIs World.var? at h ⊢
 cases hg:P.globalNamed name with
 | none=>rw [hg] at h; cases h
 | some g =>
  rw [hg] at h
  simp only [Y2j] at h ⊢
  cases hb:W.heap[g]? with
  | none=>rw [hb] at h; cases h
  | some o =>
   rw [Xba hb hS]
   rw [hb] at h
   exact h
theorem Xlc {a:Addr} {v:Value} (h:W.cell? a=some v) (hS:Sat B w (im0 W) As):w.cell? a=some v:=by
 unfold World.cell? at h ⊢
 cases hb:W.heap[a.block]? with
 | none=>rw [hb] at h; cases h
 | some o=>rw [Xba hb hS]; rw [hb] at h; exact h
end
end Gk
namespace Go.Proofs.YtfibbpgikjggfaaGreatDoor
open Gk Pc
theorem Xg4:Rows.laid_matricula_pct_digits (H:=Unit)=Lib.tabData .u8 (HIGH.map fun c=>(c.toNat:Int)):=by kernel_rfl
theorem Xp2:Rows.laid_internal_strconv_uint64pow10 (H:=Unit)=Lib.tabData .u64 Lib.pow10Tab:=by kernel_rfl
def Xac {H:Type} (zs:List (List UInt8)):DataW H:=.agg (zs.map fun z=>.lit (.string z))
theorem Xng:Rows.laid_matricula_ticket_prefixes (H:=Unit)=Xac PREV:=by kernel_rfl
theorem X8x {H:Type} {enc:TypeId×Value→H} {P:Program} {w:World} {base:Nat} {sp:Nat→Bool} {held:Bool} {fuel:Nat} {t e:TypeId} {n:Nat} {cs:List Value} {zs:List (List UInt8)} {p:List MemPlace}
  (ht:P.underlying t=some (.array n e)) (he:P.underlying e=some .string) (hce:P.cellsOf e=1) (hct:P.cellsOf t=n)
  (h:DataW.trod enc P w base sp held fuel t cs=some (Xac zs,p)):cs=zs.map S:=by
 cases fuel with
 | zero=>simp [DataW.trod] at h
 | succ fuel =>
  simp only [DataW.trod,ht,hce,hct,Y1i] at h
  split at h
  ·rename_i hl
   obtain ⟨xs,hm,hx⟩:=Y14.1 h
   have hxs:xs.map (·.1)=zs.map fun z=>(DataW.lit (.string z):DataW H):=by
    have:=congrArg Prod.fst hx
    simpa [Xac] using this
   have hxl:xs.length=n:=by simpa using Lib.mapM_length hm
   have hzl:zs.length=n:=by
    have:=congrArg List.length hxs
    simp at this
    omega
   apply Y1u
   intro i
   by_cases hi:i<n
   ·obtain ⟨b,hb,hf⟩:=Lib.mapM_at hm i i (by simp [hi])
    obtain ⟨z,hc,rfl,_⟩:=DataW.trod_string he hf
    have h1:cs[i]?=some (.string z):=by
     have:=congrArg (·[0]?) hc
     simpa [Y1v,Y1d] using this
    have h2:(xs.map (·.1))[i]?=some (DataW.lit (.string z.data.toList):DataW H):=by simp [hb]
    rw [hxs] at h2
    simp only [Yx,Y14,DataW.lit.injEq,Lit.string.injEq] at h2
    obtain ⟨z',hz',e'⟩:=h2
    rw [h1,Yx,hz',e']
    rfl
   ·rw [Y1s (by omega),Y1s (by simp; omega)]
  ·cases h
theorem pre_at {W : World} (h : Lib.VarReads Tryz.prog W "matricula/ticket.prefixes" Rows.laid_matricula_ticket_prefixes) : PreAt (im0 W) := by
 rw [Xng] at h
 obtain ⟨g',t',cs,fuel,p,hg',ht',hvar,hd⟩:=h
 obtain rfl := Option.some.inj ((show Tryz.prog.globalNamed "matricula/ticket.prefixes" = some 0 by kernel_rfl).symm.trans hg')
 obtain rfl:=Option.some.inj ((show (Tryz.prog.globals[0]?).map (·.type)=some 239 by kernel_rfl).symm.trans ht')
 have hcs:=X8x Xkt Qu9 (by kernel_rfl) (by kernel_rfl) hd
 refine Xmg (by decide) fun j v hj=>?_
 have h2:=World.var?_cell hg' hvar j
 rw [Xt,Yf]
 rw [← Array.getElem?_toList,hcs,hj] at h2
 exact h2
theorem Xls {W : World} (h1 : Lib.VarReads Tryz.prog W "matricula/pct.digits" Rows.laid_matricula_pct_digits) (h2 : Lib.VarReads Tryz.prog W "internal/strconv.uint64pow10" Rows.laid_internal_strconv_uint64pow10) (h3 : Lib.VarReads Tryz.prog W "matricula/ticket.prefixes" Rows.laid_matricula_ticket_prefixes) (hsh : W.ShapedOpen Tryz.prog) : Known (im0 W) ∧ PreAt (im0 W) := by
 refine ⟨?_,pre_at h3⟩
 rw [Xg4] at h1
 rw [Xp2] at h2
 have t1:=X4l (g:=2) (by kernel_rfl) (by kernel_rfl) Xk4 Qu5 (by kernel_rfl) (by kernel_rfl) h1
 have t2:=X4l (g:=3) (by kernel_rfl) (by kernel_rfl) Tryz.underlying281 Xop (by kernel_rfl) (by kernel_rfl) h2
 refine ⟨tab_at (g:=2) (by kernel_rfl) t1 (by decide),fun B w As hS=>Xob t2 hS,fun B w As hS=>?_⟩
 obtain ⟨m,hm⟩:=Go.Proofs.cell_of_shapedOpen_int (g:=1) (t:=3) (zero:=#[.int .i64 0]) (k:=.i64) hsh (by decide +kernel) (by kernel_rfl) (by kernel_rfl) (by kernel_rfl) (by kernel_rfl) Qu3
 exact ⟨m,Xlc hm hS⟩
end Go.Proofs.YtfibbpgikjggfaaGreatDoor
namespace Go.Proofs.YtfibbpgikjggfaaGreatDoor
open Gk Ul Pc Tk Tr Go.RowKit Go.WideShapes Go.ChangeShapes
def clFit (k:Cl):Prop:=k.url.length≤maxLen∧k.pgt.length≤maxLen∧k.iou.length≤maxLen
set_option maxRecDepth 20000 in
theorem Xjn {H:Type} {enc:TypeId×Value→H} {W:World} {spare:Nat→Bool} {held:Bool} {fuel:Nat} {cs:List Value} {x:DataW H×List MemPlace} (h:DataW.trod enc Tryz.prog W 0 spare held fuel 48 cs=some x):∃ z:Cl,cs=Xap z∧clFit z:=by
 obtain ⟨xs,n,_,_,hcl,hxl,hf⟩:=DataW.trod_struct Xaw h
 rw [show Tryz.prog.cellsOf 48=3 from by kernel_rfl] at hcl
 obtain ⟨y0,hy0⟩:∃ y,DataW.trod enc Tryz.prog W 0 spare held n 9 ((cs.drop 0).take (Tryz.prog.cellsOf 9))=some y:=⟨_,(hf 0 _ rfl).trans (Y7 (by rw [hxl]; decide))⟩
 rw [show Tryz.prog.cellsOf 9=1 from by kernel_rfl] at hy0
 obtain ⟨y1,hy1⟩:∃ y,DataW.trod enc Tryz.prog W 0 spare held n 9 ((cs.drop 1).take (Tryz.prog.cellsOf 9))=some y:=⟨_,(hf 1 _ rfl).trans (Y7 (by rw [hxl]; decide))⟩
 rw [show Tryz.prog.cellsOf 9=1 from by kernel_rfl] at hy1
 obtain ⟨y2,hy2⟩:∃ y,DataW.trod enc Tryz.prog W 0 spare held n 9 ((cs.drop 2).take (Tryz.prog.cellsOf 9))=some y:=⟨_,(hf 2 _ rfl).trans (Y7 (by rw [hxl]; decide))⟩
 rw [show Tryz.prog.cellsOf 9=1 from by kernel_rfl] at hy2
 obtain ⟨v0,v1,v2,rfl⟩:∃ v0 v1 v2,cs=[v0,v1,v2]:=by
  match cs,hcl with
  | [v0,v1,v2],_=>exact ⟨v0,v1,v2,rfl⟩
 simp only [Y9,Yl,Y2u,Ym] at hy0 hy1 hy2
 obtain ⟨z0,e0,_,w0⟩:=DataW.trod_string Qu9 hy0
 obtain ⟨z1,e1,_,w1⟩:=DataW.trod_string Qu9 hy1
 obtain ⟨z2,e2,_,w2⟩:=DataW.trod_string Qu9 hy2
 simp only [List.cons.injEq,and_true] at e0 e1 e2
 subst e0 e1 e2
 exact ⟨⟨z0.data.toList,z1.data.toList,z2.data.toList⟩,rfl,⟨w0,w1,w2⟩⟩
end Go.Proofs.YtfibbpgikjggfaaGreatDoor
