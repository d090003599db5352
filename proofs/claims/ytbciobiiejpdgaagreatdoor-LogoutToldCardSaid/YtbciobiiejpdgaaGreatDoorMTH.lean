/- Part 8 of what the proof stands on: W23q, GkK, Kn2, Kn3, Kn4, Op4. -/
import Derived.Test.YtbciobiiejpdgaaGreatDoorMTG
import Derived.Lib.LaidTab
import Derived.Lib.LaidU8
import Derived.Lay
import Derived.Shelf.Vars
import Derived.HandedShaped
import Derived.MakeChecks
import Derived.Test.YtbciobiiejpdgaaGreatDoorRows
import Derived.KernelRfl
import Derived.OpenShut
set_option linter.unusedVariables false
set_option linter.unusedSimpArgs false
namespace Go.Proofs.YtbciobiiejpdgaaGreatDoor
open Gk Ul Pc Pat Xm Tr Tk
set_option maxRecDepth 4000
theorem Xw8 {ω:Wd} (h:Xe3 ω) (t:List UInt8):Xe3 (Xd8 ω t):=by
 unfold Xd8;split
 ·exact Xr5 h t
 ·exact h
theorem set_ts (ts:List Nat) (k t:Nat):(ts.map fun t:Nat=>I64 ((t:Nat):Int)).set (0+((k:Nat):Int).toNat*1) (I64 (((t:Nat):Int)+1))=(ts.set k (t+1)).map fun t:Nat=>I64 ((t:Nat):Int):=by
 rw [Ye,Yd,Y1c,Y5s]; rfl
theorem set_ds (ds:List Bool) (k:Nat) (b:Bool):(ds.map Value.bool).set (0+((k:Nat):Int).toNat*1) (.bool b)=(ds.set k b).map Value.bool:=by
 rw [Ye,Yd,Y1c,Y5s]
theorem Ev.to {n:Nat} {L:Env} {x:Operand} {v u:Value} (h:v=u) (hx:Ev n L x v):Ev n L x u:=h ▸ hx
theorem Xhv:∀ (l:List Rec) (ω:Wd),(l.foldl X8r ω).l.length≤ω.l.length+l.length
 | [],_=>by simp
 | r::l,ω=>by
  have h:=Xhv l (X8r ω r);have h2:(X8r ω r).l.length≤ω.l.length+1:=by
   show (add ω.room ω.l r).length≤_
   unfold add;split
   ·simp
   ·omega
  rw [Y33,List.length_cons]; omega
set_option maxRecDepth 20000 in
set_option maxHeartbeats 3200000 in
theorem Xap (c:Cf) (a:Option Addr) (cap:Nat) (ua:Option Addr) (ucap:Nat) (la:Option Addr) (lc:Nat) (l:List Rec) (hll:l.length≤9223372036854775807) (aa:Option Addr) (ac:Nat) (al:List Bool) (hal:al.length≤9223372036854775807) (B w:World) (I:Im) (hK:Known I) (hP:PreAt I) (hKx:Kx I) (hC:CfAt I c a cap ua ucap) (hR:RS I la 10 l.length (X9 Xf l)) (hA:RS I aa 1 al.length (X9 Xhr al)) (As:List X6) (hS:Sat B w I As) :
  Cz 7 [.agg (X17 c a cap ua ucap).toArray,.slice la l.length lc,.slice aa al.length ac] w fun v w'=>v=.bool true∧∃ J,Le I J∧Sat B w' J As:=by
 refine calls Tryz.func7 rfl Tryz.ntmps7 rfl (.seq (.region (.boxA (cs:=X17 c a cap ua ucap) hS (.of rfl) rfl ?_)));intro b3 w hS;refine .q 1 rfl (.nil (.seq (.region (.call Tryz.func8 rfl X0 rfl (Xh4 B _ I hKx hP _ hS) ?_))));rintro _ w ⟨rfl,hS⟩;refine .q 1 rfl (.nil (.seq (.region ?_)));refine .val (.lds (vs:=X17 c a cap ua ucap) (.of rfl) hS (k:=0) rfl Qg29 Qs29 rfl (fun j v hj=>by rw [Yd]; exact hj)) rfl ?_;refine .call Tryz.func31 rfl (ec9 rfl X0) rfl (Xs9 c a cap ua ucap hC.cap.1 hC.cap.2 hC.un hC.ufit B _ I hC.svs hC.us _ hS) ?_;rintro _ w ⟨rfl,hS⟩;refine .q 1 rfl (.nil (.seq (.seq (.t 3 rfl (.gm rfl rfl rfl rfl (.gval rfl rfl (fun hg1=>(.lenSlice (.gd hg1 rfl) X8o)) rfl (.gval rfl rfl (fun hg1=>(.gtr (.gd hg1 rfl) (.of rfl))) rfl (.val (.po rfl rfl rfl) rfl (.q 1 rfl (.gm rfl rfl rfl rfl (.gval rfl rfl (fun hg1=>(.lenSlice (.gd hg1 rfl) X21)) rfl (.gval rfl rfl (fun hg1=>(.gtr (.gd hg1 rfl) (.of rfl))) rfl (.val (.po rfl rfl rfl) rfl (.nil ?_))))))))))))));refine .cond rfl (fun hb52=>?_) fun hb52=>?_
 ·have hc52:=hb52; simp only [Y6] at hc52;refine .seq (.q 2 rfl (.ret (X8 Qr7 rfl ?_)));exact ⟨_,rfl,rfl,I,Le.refl _,(hS.drop (k:=0) rfl)⟩
 have hc52:=hb52; simp only [Y6] at hc52;refine .skip (.seq ?_);have hfw:fewC c=true∧l.length≤30∧al.length≤300:=by
  have h9:=hb52;simp only [Yz,decide_eq_false_iff_not,Y2m] at h9
  exact ⟨h9.1.1,by omega,by omega⟩
 obtain ⟨hfw1,hl30,hal3⟩:=hfw;refine .region ?_;refine .val (.lds (vs:=X17 c a cap ua ucap) (.of rfl) hS (k:=0) rfl Qg29 Qs29 rfl (fun j v hj=>by rw [Yd]; exact hj)) rfl ?_;have hc0:=Xne hC hfw1;refine .call Tryz.func32 rfl (ec9 rfl X0) rfl (Xen c hc0 a cap ua ucap B _ I hK hP hC.svs hC.us _ hS) ?_;rintro v w ⟨J,hJ,hcase⟩;obtain ⟨pv,e9,rfl,hcs⟩:∃ (pv:Option Addr) (e9:Nat),v=.tuple #[.pointer pv,I64 (e9:Nat)]∧((Xff c≠0∧pv=none∧Sat B w J (blk b3 (X17 c a cap ua ucap) 29::As))∨(Xff c=0∧∃ p D,Srt.Ord (kx (ords c.svs)) c.svs.length D∧p.lo=X4r c.svs D∧p.us=c.us∧p.ps=c.ps∧pv=some (ad p.wb 0)∧WpOk J p∧Sat B w J (wdA p (w0 c)::blk b3 (X17 c a cap ua ucap) 29::As))):=by
  rcases hcase with ⟨h1,h2,h3⟩ | ⟨h1,p,D,h2,h3,h4,h5,h6,h7,h8⟩
  ·exact ⟨_,_,h2,.inl ⟨h1,rfl,h3⟩⟩
  ·exact ⟨_,0,h6,.inr ⟨h1,p,D,h2,h3,h4,h5,rfl,h7,h8⟩⟩
 rcases hcs with ⟨hne,rfl,hS⟩ | ⟨hz,p,D,hD,hlo,hus,hps,rfl,hI,hS⟩
 ·refine .vm rfl rfl (.q 4 rfl (.nil (.seq (.region ?_))));refine .val (.lds (vs:=X17 c a cap ua ucap) (.of rfl) hS (k:=0) rfl Qg29 Qs29 rfl (fun j v hj=>by rw [Yd]; exact hj)) rfl ?_;refine .call Qf11 rfl (ec9 rfl X0) rfl (X90 (X17 c a cap ua ucap) c.base c.factor c.most c.tries rfl rfl rfl rfl B _ J _ hS) ?_;rintro _ w ⟨qb,rfl,hS⟩;refine .q 1 rfl (.nil (.seq (.seq (.t 1 rfl (.val (.eqp (.of rfl) (.of rfl) Tryz.underlying67) rfl (.q 1 rfl (.gm rfl rfl rfl rfl (.gval rfl rfl (fun hg1=>(.eqp (.gd hg1 rfl) (.of rfl) Qu34)) rfl (.val (.po rfl rfl rfl) rfl (.nil (.condT (congrArg (fun b=>some (Value.bool b)) (by simp)) (.seq (.t 2 rfl (.gm rfl rfl rfl rfl (.gval rfl rfl (fun hg1=>(.nep (.gd hg1 rfl) (.of rfl) Qu34)) rfl (.val (.pa rfl rfl rfl) rfl (.q 1 rfl (.nil (.ret (X8 Qr7 rfl ?_))))))))))))))))))));exact ⟨_,rfl,by simp,J,hJ,((hS.drop (k:=0) rfl).drop (k:=0) rfl)⟩
 refine .vm rfl rfl (.q 4 rfl (.nil (.seq (.region ?_))));refine .val (.lds (vs:=X17 c a cap ua ucap) (.of rfl) hS (k:=1) rfl Qg29 Qs29 rfl (fun j v hj=>by rw [Yd]; exact hj)) rfl ?_;refine .call Qf11 rfl (ec9 rfl X0) rfl (X90 (X17 c a cap ua ucap) c.base c.factor c.most c.tries rfl rfl rfl rfl B _ J _ hS) ?_;rintro _ w ⟨qb,rfl,hS⟩;refine .q 1 rfl (.nil (.seq (.seq (.t 1 rfl (.val (.eqp (.of rfl) (.of rfl) Tryz.underlying67) rfl (.q 1 rfl (.gm rfl rfl rfl rfl (.gval rfl rfl (fun hg1=>(.eqp (.gd hg1 rfl) (.of rfl) Qu34)) rfl (.val (.po rfl rfl rfl) rfl (.nil (.condF (congrArg (fun b=>some (Value.bool b)) (by simp)) (.skip (.seq (.seq (.q 1 rfl (.block ?_))))))))))))))));replace hS:=hS.pick 1 rfl;try dsimp only [List.eraseIdx] at hS
 refine .loop (σ:=Nat) (fun i=>[(1,.slice la l.length lc),(2,.slice aa al.length ac),(3,ptr b3 0),(7,.bool true),(9,ptr p.wb 0),(11,ptr qb 0),(12,I64 (i:Nat))]) (fun i w=>i≤l.length∧Sat B w J (wdA p ((l.take i).foldl X8r (w0 c))::blk qb [I64 (max 1 (min c.tries 9)),F64 c.base,F64 c.factor,F64 c.most,.slice none 0 0] 113::blk b3 (X17 c a cap ua ucap) 29::As)) (fun i=>l.length - i) 0 ⟨rfl,rfl,rfl,rfl,rfl,rfl,rfl,trivial⟩ ⟨Yq _,hS⟩ ?_;rintro i w ⟨hi,hS⟩;refine .seq (.seq (.region (.run 4 rfl ⟨⟨_,X8o⟩,trivial⟩ (.nil ?_))));refine .cond rfl (fun hb75=>?_) fun hb75=>?_
 ·have hc75:=hb75; simp only [Y6] at hc75;refine .skip (.seq (.block (.seq ?_)));obtain ⟨r,hr⟩:∃ r,l[i]?=some r:=⟨_,Y5 (by omega)⟩
  obtain ⟨pp,hp9,hx⟩:=Xdz (cells:=Xf) (s:=10) (fun _=>rfl) hR hr;subst hp9;refine .t 2 rfl (.val (.ii rfl rfl (by omega) (by omega) X8o X4z) rfl (.val (.ldsI (.of rfl) hS (hx.mono hJ) Xk5 X4z rfl (fun _ _ h=>h)) rfl (.call Tryz.func34 rfl (ec9 rfl X0) rfl (Xjb r B _ J _ hS) ?_)));rintro _ w ⟨rfl,hS⟩;refine .q 1 rfl (.nil (.seq (.seq (.q 2 rfl ?_))));refine .cond rfl (fun hb84=>?_) fun hb84=>?_
  ·have hc84:=hb84; simp only [Y6] at hc84;refine .seq (.q 2 rfl (.ret (X8 Qr7 rfl ?_)));exact ⟨_,rfl,rfl,J,hJ,(((hS.drop (k:=0) rfl).drop (k:=0) rfl).drop (k:=0) rfl)⟩
  have hc84:=hb84; simp only [Y6] at hc84;refine .skip ?_;obtain ⟨⟨a9,c9,ma9,mc9⟩,hS⟩:=Sat.unbox hS;replace hS:Sat B _ _ (blk p.wb (wdC p ((l.take i).foldl X8r (w0 c))) 81::blk p.tb [I64 ((l.take i).foldl X8r (w0 c)).room,.slice a9 ((l.take i).foldl X8r (w0 c)).l.length c9] 155::Vec 75 10 (.slice a9 ((l.take i).foldl X8r (w0 c)).l.length c9) ((l.take i).foldl X8r (w0 c)).l.length (Xq ((l.take i).foldl X8r (w0 c)).l)::blk p.mb [.slice ma9 ((l.take i).foldl X8r (w0 c)).D.length mc9] 203::Xl6 62 (.slice ma9 ((l.take i).foldl X8r (w0 c)).D.length mc9) (((l.take i).foldl X8r (w0 c)).D.map fun d=>U64 (d:Nat))::_):=hS;have hω:=Xck (l.take i) (w0_ok c);have hlen:=hω.len;have hrs:r.name.length≤60∧r.parent.length≤60:=by
   have h9:Xnq r=true:=by simpa using hb84
   unfold Xnq at h9;simp only [Yn,decide_eq_true_eq] at h9
   omega
  refine .drawn (fun w=>∃ R,Sat B w J (blk p.wb (wdC p ((l.take i).foldl X8r (w0 c))) 81::R)) (fun j=>!([].contains j)) (by kernel_rfl) ?_;replace hS:=hS.drew; generalize w.drew=w at hS ⊢;have hH:∃ R,Sat B w J (blk p.wb (wdC p ((l.take i).foldl X8r (w0 c))) 81::R):=⟨_,(hS.pick 0 rfl)⟩
  refine .tp (i:=0) rfl (by kernel_rfl) (fun w=>(.mo rfl)) rfl (.tp (i:=1) rfl (by kernel_rfl) (fun w=>(.no rfl)) rfl ?_);refine .tp (i:=2) rfl (by kernel_rfl) (fun w=>(.fo 0 rfl Xmr rfl rfl Xtm rfl)) rfl (.tk (i:=3) rfl (by kernel_rfl) hH (fun w ⟨R,hS⟩=>(.lo rfl hS (k:=0) rfl Xpo rfl)) rfl (.tp (i:=4) rfl (by kernel_rfl) (fun w=>(.mo rfl)) rfl (.tp (i:=5) rfl (by kernel_rfl) (fun w=>(.mo rfl)) rfl ?_)));refine .tp (i:=6) rfl (by kernel_rfl) (fun w=>(.ii rfl rfl (by omega) (by omega) X8o X4z)) rfl (.tk (i:=7) rfl (by kernel_rfl) hH (fun w ⟨R,hS⟩=>.ldsI (.of rfl) hS (hx.mono hJ) Xk5 X4z rfl (fun _ _ h=>h)) rfl (.b1 8 (by kernel_rfl) rfl (.call Tryz.func35 rfl (ec9 rfl (ec9 rfl X0)) rfl (Xvf p.tb ((l.take i).foldl X8r (w0 c)).room a9 c9 ((l.take i).foldl X8r (w0 c)).l (by omega) r (by omega) (by omega) B _ J hI.known hI.pre _ ((hS.pick 2 rfl).pick 2 rfl)) ?_)));rintro _ w ⟨rfl,a2,c2,hS⟩;try dsimp only [List.eraseIdx] at hS
  refine .nil ?_;clear hH;have hH:∃ R,Sat B w J (blk p.wb (wdC p ((l.take i).foldl X8r (w0 c))) 81::R):=⟨_,(hS.pick 2 rfl)⟩
  refine ⟨fun _ _=>hH,?_⟩;refine .done (by kernel_rfl) (.region (.run 3 rfl ⟨⟨by omega,by omega⟩,trivial⟩ (.nil ?_)));replace hS:=Sat.box (T:=wdT p (X8r ((l.take i).foldl X8r (w0 c)) r)) (a2,c2,ma9,mc9) (((((hS.pick 4 rfl).pick 4 rfl).pick 3 rfl).pick 3 rfl).pick 4 rfl);try dsimp only [List.eraseIdx] at hS
  refine ⟨i+1,⟨rfl,rfl,rfl,rfl,rfl,rfl,rfl,trivial⟩,⟨by (try dsimp only); omega,?_⟩,by (try dsimp only); omega⟩;show Sat B _ J (wdA p ((l.take (i+1)).foldl X8r (w0 c))::_)
  rw [Y12,hr,Y1n,Y31];exact (((hS.pick 2 rfl).pick 2 rfl).pick 2 rfl)
 have hc75:=hb75; simp only [Y6] at hc75;refine .exit (.seq (.region ?_));have hil:i=l.length:=by omega
 rw [hil,Y17] at hS;obtain ⟨ω,hωe⟩:∃ ω,ω=l.foldl X8r (w0 c):=⟨_,rfl⟩
 rw [← hωe] at hS;have hω:Xe3 ω:=by rw [hωe]; exact Xck l (w0_ok c)
 have hl3:ω.l.length≤30:=by
  have h9:=Xhv l (w0 c);rw [← hωe] at h9;have h8:(w0 c).l.length=0:=rfl;omega
 have hX9:XpOk J ⟨0,0,c,a,cap,ua,ucap,D⟩ p.lo p.us p.ps:=⟨hC.mono hJ,hc0,hz,hD,hlo,hus,hps⟩
 have hF:=Xko (lo:=p.lo) hω TN_is;obtain ⟨hF1,hF2,hF3,hF4,hF5,hF6,hF7⟩:=hF;have hbe:=Xp1 hω TN_is;refine .call Qf46 rfl (ec9 rfl (ec9 rfl X0)) rfl (Xph B _ J _ hS) ?_;rintro _ w ⟨rfl,hS⟩;refine .q 1 rfl (.nil (.seq (.q 1 rfl (.seq ?_))));obtain ⟨⟨a9,c9,ma9,mc9⟩,hS⟩:=Sat.unbox hS;replace hS:Sat B _ _ (blk p.wb (wdC p ω) 81::blk p.tb [I64 ω.room,.slice a9 ω.l.length c9] 155::Vec 75 10 (.slice a9 ω.l.length c9) ω.l.length (Xq ω.l)::blk p.mb [.slice ma9 ω.D.length mc9] 203::Xl6 62 (.slice ma9 ω.D.length mc9) (ω.D.map fun d=>U64 (d:Nat))::_):=hS;have hlen:=hω.len;refine .t 2 rfl (.val (.fo 0 rfl Xmr rfl rfl Xtm rfl) rfl (.val (.lo rfl hS (k:=0) rfl Xpo rfl) rfl (.call Tryz.func45 rfl (ec9 rfl X0) rfl (Xhb p.tb ω.room a9 c9 ω.l (by omega) B _ J _ ((hS.pick 2 rfl).pick 2 rfl)) ?_)));rintro _ w ⟨Ja,wa,wc,rfl,hJa,hwc,hRW,hS⟩;try dsimp only [List.eraseIdx] at hS
 refine .q 1 rfl (.nil (.seq (.seq (.q 1 rfl (.block ?_)))));clear hi hil;replace hS:=(((((((hS.pick 6 rfl).pick 6 rfl).pick 6 rfl).pick 6 rfl).pick 5 rfl).pick 5 rfl).pick 6 rfl).vecNil 9 1;refine .loop (σ:=Nat×Value×Im) (fun ⟨i,v,Jp⟩=>[(2,.slice aa al.length ac),(3,ptr b3 0),(7,.bool true),(9,ptr p.wb 0),(11,ptr qb 0),(14,S TN),(15,v),(16,.slice wa ω.l.length wc),(17,I64 (i:Nat))]) (fun ⟨i,v,Jp⟩ w=>i≤ω.l.length∧Le Ja Jp∧Sat B w Jp (Vec 9 1 v (X2p p.lo ω TN (ω.l.take i)).length ((X2p p.lo ω TN (ω.l.take i)).map S)::blk p.wb (wdC p ω) 81::blk p.tb [I64 ω.room,.slice a9 ω.l.length c9] 155::Vec 75 10 (.slice a9 ω.l.length c9) ω.l.length (Xq ω.l)::blk p.mb [.slice ma9 ω.D.length mc9] 203::Xl6 62 (.slice ma9 ω.D.length mc9) (ω.D.map fun d=>U64 (d:Nat))::blk qb [I64 (max 1 (min c.tries 9)),F64 c.base,F64 c.factor,F64 c.most,.slice none 0 0] 113::blk b3 (X17 c a cap ua ucap) 29::As)) (fun ⟨i,v,Jp⟩=>ω.l.length - i) (0,.slice none 0 0,Ja) ⟨rfl,rfl,rfl,rfl,rfl,rfl,rfl,rfl,rfl,trivial⟩ ⟨Yq _,Le.refl _,hS⟩ ?_;rintro ⟨i,v,Jp⟩ w ⟨hi,hJp,hS⟩;refine .seq (.seq (.region (.run 4 rfl ⟨⟨_,X8o⟩,trivial⟩ (.nil ?_))));refine .cond rfl (fun hb104=>?_) fun hb104=>?_
 ·have hc104:=hb104; simp only [Y6] at hc104;refine .skip (.seq (.block (.seq ?_)));obtain ⟨r,hr⟩:∃ r,ω.l[i]?=some r:=⟨_,Y5 (by omega)⟩
  obtain ⟨pp,hp9,hx⟩:=Xdz (cells:=Xf) (s:=10) (fun _=>rfl) (hRW.mono hJp) hr;subst hp9;have hstep:=Xsg (lo:=p.lo) (ω:=ω) (t:=TN) hr;have hdl:=Xtp p.lo ω TN (ω.l.take i);have htk:(ω.l.take i).length≤i:=by rw [Yp]; omega
  obtain ⟨s9,hs1,hs2,hs3⟩:=Xmv hω.wf hr;have hgr:=Xvn hω.wf hr;have hsv:r.service.length≤100:=by have h9:=Xa8 hω.wf r.name; rw [hgr] at h9; exact h9
  have hpl:=Xpd hω.wf r.name;have hlen:=hω.len;refine .t 2 rfl (.val (.ii rfl rfl (by omega) (by omega) X8o X4z) rfl (.val (.ldsI (.of rfl) hS hx Xk5 X4z rfl (fun _ _ h=>h)) rfl (.allocA (cs:=[_,_,_,_,_,_,_,_,_,_]) hS Xpn rfl ?_)));intro b18 w hS;refine .so hS (k:=0) rfl rfl rfl rfl X4z rfl (by simp) ?_;intro w hS;try simp only [Yk,Yf,Y9,Y7,Yh,Ym,Yd] at hS
  refine .nil (.seq (.drawn (fun w=>∃ J9 R,Le Jp J9∧Sat B w J9 (blk b18 (Xf r) 75::blk p.wb (wdC p ω) 81::R)) (fun j=>!([].contains j)) (by kernel_rfl) ?_));replace hS:=hS.drew; generalize w.drew=w at hS ⊢;have hH:∃ J9 R,Le Jp J9∧Sat B w J9 (blk b18 (Xf r) 75::blk p.wb (wdC p ω) 81::R):=⟨_,_,Le.refl _,((hS.pick 2 rfl).pick 1 rfl)⟩
  refine .tp (i:=0) rfl (by kernel_rfl) (fun w=>(.mo rfl)) rfl (.tp (i:=1) rfl (by kernel_rfl) (fun w=>(.no rfl)) rfl ?_);refine .tp (i:=2) rfl (by kernel_rfl) (fun w=>(.fo 0 rfl Xmr rfl rfl Xtm rfl)) rfl (.tk (i:=3) rfl (by kernel_rfl) hH (fun w ⟨J9,R,hL9,hS⟩=>((.lo rfl hS (k:=1) rfl Xpo rfl))) rfl (.tp (i:=4) rfl (by kernel_rfl) (fun w=>(.fo 1 rfl X3r rfl rfl Qs9 rfl)) rfl (.tk (i:=5) rfl (by kernel_rfl) hH (fun w ⟨J9,R,hL9,hS⟩=>((.lo rfl hS (k:=0) rfl Qg9 rfl))) rfl (.b1 6 (by kernel_rfl) rfl (.call Tryz.func47 rfl (ec9 rfl (ec9 rfl X0)) rfl (Xqp p.tb ω.room a9 c9 ω.l (by omega) hω.wf r.name B _ Jp _ ((hS.pick 4 rfl).pick 4 rfl)) ?_)))));rintro _ w ⟨Jq,pa,pc,rfl,hJq,hpc,hRP,hS⟩;try dsimp only [List.eraseIdx] at hS
  refine .nil ?_;clear hH;have hH:∃ J9 R,Le Jp J9∧Sat B w J9 (blk b18 (Xf r) 75::blk p.wb (wdC p ω) 81::R):=⟨_,_,hJq,((hS.pick 4 rfl).pick 3 rfl)⟩
  refine ⟨fun _ _=>hH,?_⟩;refine .tp (i:=7) rfl (by kernel_rfl) (fun w=>(.ao rfl)) rfl (.done (by kernel_rfl) (.seq (.region ?_)));refine .val (.fo 0 rfl Xhi rfl rfl Tryz.sizeOf22 rfl) rfl (.val (.lo rfl hS (k:=8) rfl Tryz.isAgg22 rfl) rfl (.val (.fo 4 rfl X3r rfl rfl Qs9 rfl) rfl (.val (.lo rfl hS (k:=2) rfl Qg9 rfl) rfl (.call Tryz.func48 rfl (ec9 rfl (ec9 rfl X0)) rfl (Xda r.service (by omega) ⟨0,0,c,a,cap,ua,ucap,D⟩ B _ Jq (hX9.mono (hJa.trans (hJp.trans hJq))) _ hS) ?_))));rintro _ w ⟨fa,fc,rfl,hS⟩;refine .q 4 rfl (.allocA (cs:=[_,_,_,_,_,_,_,_]) hS Xcc rfl ?_);intro b20 w hS;refine .so hS (k:=0) rfl rfl rfl rfl X18 rfl (by simp) ?_;intro w hS;try simp only [Yk,Yf,Y9,Y7,Yh,Ym,Yd] at hS
  refine .q 2 rfl (.nil (.seq ?_));obtain ⟨pq,hpq,hs9⟩:=Xdz (cells:=fun (r:Rec)=>[S r.name]) (s:=1) (fun _=>rfl) (by rw [Xqn]; exact hRP) hs2;subst hpq;refine .region (.run 4 rfl ⟨⟨_,X1s⟩,⟨by omega,by omega⟩,trivial⟩ ?_);refine .val (.ii rfl rfl (by omega) (by omega) X1s Qs9) rfl ?_;rw [show ((((path ω.l r.name).length:Nat):Int) - 1).toNat=(path ω.l r.name).length - 1 from by omega];refine .val (.ldI (.of rfl) hS hs9 Qg9 rfl) rfl (.q 3 rfl ?_);refine .gval rfl rfl (fun hg1=>(by exact .fo 0 rfl X3r rfl rfl Qs3 rfl)) rfl ?_;refine .gval rfl rfl (fun hg1=>(by exact (.ld (.gd hg1 rfl) hS (k:=3) rfl Qg3 rfl))) rfl ?_;refine .gval rfl rfl (fun hg1=>(.eql (.gd hg1 rfl) (.of rfl))) rfl (.gval rfl rfl (fun hg1=>(.move (.gd hg1 rfl))) rfl ?_);refine .gval2 rfl rfl rfl (fun hg1 hg2=>(by exact .fo 0 rfl X3r rfl rfl Qs3 rfl)) rfl ?_;refine .gval2 rfl rfl rfl (fun hg1 hg2=>(by exact (.ld (.gd2 hg1 hg2 rfl) hS (k:=3) rfl Qg3 rfl))) rfl ?_;refine .gval2 rfl rfl rfl (fun hg1 hg2=>(.eql (.gd2 hg1 hg2 rfl) (.of rfl))) rfl (.gval rfl rfl (fun hg1=>(.por (.gd hg1 rfl) (.of rfl) (.gd hg1 rfl))) rfl (.val (.pa rfl rfl rfl) rfl (.q 1 rfl ?_)));refine .gval rfl rfl (fun hg1=>(by exact .fo 8 rfl X3r rfl rfl Qs3 rfl)) rfl ?_;refine .gval rfl rfl (fun hg1=>(by exact (.ld (.gd hg1 rfl) hS (k:=3) rfl Qg3 rfl))) rfl ?_;refine .gval rfl rfl (fun hg1=>(.gtr (.gd hg1 rfl) (.of rfl))) rfl (.val (.pa rfl rfl rfl) rfl (.q 1 rfl (.gm rfl rfl rfl rfl (.gval rfl rfl (fun hg1=>(.eql (.gd hg1 rfl) (.of rfl))) rfl (.val (.pa rfl rfl rfl) rfl (.q 1 rfl ?_))))));refine .gval rfl rfl (fun hg1=>(by exact .fo 5 rfl X3e rfl rfl Qs4 rfl)) rfl ?_;refine .gval rfl rfl (fun hg1=>(by exact (.ld (.gd hg1 rfl) hS (k:=0) rfl Qg4 rfl))) rfl ?_;refine .val (.pa rfl rfl rfl) rfl (.nil ?_);refine .cond rfl (fun hb157=>?_) fun hb157=>?_
  ·have hc157:=hb157; simp only [Y6] at hc157;refine .t 1 rfl (.val (.fo 1 rfl X3r rfl rfl Qs9 rfl) rfl (.val (.lo rfl hS (k:=3) rfl Qg9 rfl) rfl (.buildSlice (cs:=[_]) hS (pc9 rfl X4) X1s Qs9 Qz9 rfl rfl rfl rfl ?_)));intro b161 w hS;refine .append (size:=1) (bytes:=16) hS (.of rfl) (.of rfl) (k:=4) rfl X1s X26 rfl rfl rfl rfl rfl rfl rfl ⟨by omega,by unfold maxLen; omega⟩ rfl ?_;intro v162 w hS;obtain ⟨a162,c162,rfl,hcap162,_⟩:=hS.vecSlice (k:=4) (v:=v162) rfl;refine .q 1 rfl (.nil (.region (.run 3 rfl ⟨⟨by omega,by omega⟩,trivial⟩ (.nil ?_))));have hnb:Xvc p.lo ω TN r=true:=(Xit hgr hs1).symm.trans hb157;rw [hnb] at hstep;refine ⟨(i+1,_,Jq),⟨rfl,rfl,rfl,rfl,rfl,rfl,rfl,rfl,rfl,trivial⟩,⟨by (try dsimp only); omega,hJp.trans hJq,?_⟩,by (try dsimp only); omega⟩;try dsimp only
   rw [hstep];rw [if_pos rfl,Y0,Yu];exact ((((((((((hS.pick 9 rfl).pick 9 rfl).pick 9 rfl).pick 9 rfl).pick 6 rfl).pick 6 rfl).pick 9 rfl).pick 9 rfl).drop (k:=8) rfl).drop (k:=8) rfl)
  have hc157:=hb157; simp only [Y6] at hc157;refine .skip (.region (.run 3 rfl ⟨⟨by omega,by omega⟩,trivial⟩ (.nil ?_)));have hnb:Xvc p.lo ω TN r=false:=(Xit hgr hs1).symm.trans hb157;rw [hnb] at hstep;refine ⟨(i+1,_,Jq),⟨rfl,rfl,rfl,rfl,rfl,rfl,rfl,rfl,rfl,trivial⟩,⟨by (try dsimp only); omega,hJp.trans hJq,?_⟩,by (try dsimp only); omega⟩;try dsimp only
  rw [hstep];rw [if_neg (by decide),Y9];exact ((((((((((hS.pick 9 rfl).pick 9 rfl).pick 9 rfl).pick 9 rfl).pick 6 rfl).pick 6 rfl).pick 9 rfl).pick 9 rfl).drop (k:=8) rfl).drop (k:=8) rfl)
 have hc104:=hb104; simp only [Y6] at hc104;refine .exit (.seq ?_);have hil2:i=ω.l.length:=by omega
 rw [hil2,Y17] at hS;obtain ⟨da,dc,hv9,hdc,_⟩:=hS.vecSlice (k:=0) (v:=v) rfl;subst hv9;obtain ⟨Jd,hJd,hRD,hS⟩:=hS.freezeVec (k:=0) rfl;have hle9:=Xtp p.lo ω TN ω.l;replace hS:=Sat.box (T:=wdT p ω) (a9,c9,ma9,mc9) (((((hS.pick 4 rfl).pick 4 rfl).pick 4 rfl).pick 4 rfl).pick 4 rfl);try dsimp only [List.eraseIdx] at hS
 refine .t 2 rfl (.call Tryz.func41 rfl (ec9 rfl (ec9 rfl X0)) rfl (Xuv TN p ω hω B _ Jd (hI.mono (hJa.trans (hJp.trans hJd))) _ hS) ?_);rintro _ w ⟨J7,na,nc,ga,gc,hJ7,rfl,hnc,hRN,hgc,hRG,hS⟩;try dsimp only [List.eraseIdx] at hS
 refine .q 5 rfl (.nil (.seq (.t 2 rfl ?_)));refine .call Tryz.func13 rfl (ec9 rfl (ec9 rfl X0)) rfl (Xle qb _ c.base c.factor c.most none 0 [] (by decide) B _ J7 (RS.nil _ 4) (Yo _) na nc (Xao p.lo ω TN) (by have:=hF2.1; omega) (fun n hn=>(hF4 n hn).2) hRN (hKx.mono (hJ.trans (hJa.trans (hJp.trans (hJd.trans hJ7))))) (hP.mono (hJ.trans (hJa.trans (hJp.trans (hJd.trans hJ7))))) _ (hS.pick 1 rfl)) ?_;rintro _ w ⟨J8,qa,qc,rfl,hJ8,hRQ,hqc,hS⟩;try dsimp only [List.eraseIdx] at hS
 rw [hF1] at hRQ hqc hS ⊢;dsimp only at hRQ hqc hS
 refine .q 1 rfl (.nil (.seq (.seq ?_)));replace hS:=(hS.pick 1 rfl)
 try dsimp only [List.eraseIdx] at hS
 obtain ⟨⟨a7,c7,ma7,mc7⟩,hS⟩:=Sat.unbox hS;replace hS:Sat B _ _ (blk p.wb (wdC p (Xd8 ω TN)) 81::blk p.tb [I64 (Xd8 ω TN).room,.slice a7 (Xd8 ω TN).l.length c7] 155::Vec 75 10 (.slice a7 (Xd8 ω TN).l.length c7) (Xd8 ω TN).l.length (Xq (Xd8 ω TN).l)::blk p.mb [.slice ma7 (Xd8 ω TN).D.length mc7] 203::Xl6 62 (.slice ma7 (Xd8 ω TN).D.length mc7) ((Xd8 ω TN).D.map fun d=>U64 (d:Nat))::_):=hS;have hωe2:=Xw8 hω TN;have hlen:=hωe2.len;refine .t 3 rfl (.gm rfl rfl rfl rfl (.gval rfl rfl (fun hg1=>(.lenSlice (.gd hg1 rfl) X6o)) rfl (.gm rfl rfl rfl rfl (.gval rfl rfl (fun hg1=>(.lenSlice (.gd hg1 rfl) X1s)) rfl (.gval rfl rfl (fun hg1=>(.neq (.gd hg1 rfl) (.gd hg1 rfl))) rfl (.val (.po rfl rfl rfl) rfl (.q 1 rfl (.gm rfl rfl rfl rfl (.gval rfl rfl (fun hg1=>(.nilCheck (.gd hg1 rfl))) rfl ?_)))))))));refine .gval rfl rfl (fun hg1=>(by exact .fieldAddr 0 (.gd hg1 rfl) Xmr rfl rfl Xtm rfl)) rfl ?_;refine .gval rfl rfl (fun hg1=>(by exact (.ld (.gd hg1 rfl) hS (k:=0) rfl Xpo rfl))) rfl ?_;refine .gm rfl rfl rfl rfl (.opn rfl rfl (congrArg (fun b=>some (Value.bool b)) (by simp [hF6])) (.call Qf49 rfl (Xc (.gd (want:=false) (by simp [hF6]) rfl) (Xc (.gd (want:=false) (by simp [hF6]) rfl) X0)) rfl (X9k p.tb (Xd8 ω TN).room a7 c7 (Xd8 ω TN).l (by omega) hωe2.wf TN B _ J8 _ ((hS.pick 2 rfl).pick 2 rfl)) ?_));rintro _ w ⟨J9,ba,bc,rfl,hJ9,_,_,hS⟩;rw [hbe];refine .gval rfl rfl (fun hg1=>(.lenSlice (.of rfl) X1s)) rfl (.gval rfl rfl (fun hg1=>(.gtr (.gd hg1 rfl) (.of rfl))) rfl (.val (.po rfl rfl rfl) rfl (.nil (.condF (congrArg (fun b=>some (Value.bool b)) (by simp [hF6])) (.skip (.seq (.seq (.q 1 rfl (.block ?_)))))))));replace hS:=(((((((hS.pick 6 rfl).pick 6 rfl).drop (k:=2) rfl).drop (k:=2) rfl).drop (k:=2) rfl).drop (k:=2) rfl).drop (k:=2) rfl)
 refine .loop (σ:=Nat) (fun i=>[(2,.slice aa al.length ac),(3,ptr b3 0),(7,.bool true),(11,ptr qb 0),(15,.slice da (X2p p.lo ω TN ω.l).length dc),(23,.slice na (Xao p.lo ω TN).length nc),(26,I64 (i:Nat))]) (fun i w=>i≤(Xao p.lo ω TN).length∧Sat B w J9 (blk qb [I64 (max 1 (min c.tries 9)),F64 c.base,F64 c.factor,F64 c.most,.slice qa (Xao p.lo ω TN).length qc] 113::blk b3 (X17 c a cap ua ucap) 29::As)) (fun i=>(Xao p.lo ω TN).length - i) 0 ⟨rfl,rfl,rfl,rfl,rfl,rfl,rfl,trivial⟩ ⟨Yq _,hS⟩ ?_;rintro i w ⟨hi4,hS⟩;refine .seq (.seq (.region (.run 4 rfl ⟨⟨_,X6o⟩,trivial⟩ (.nil ?_))));refine .cond rfl (fun hb194=>?_) fun hb194=>?_
 ·have hc194:=hb194; simp only [Y6] at hc194;refine .skip (.seq (.block (.seq ?_)));obtain ⟨n,hn⟩:∃ n,(Xao p.lo ω TN)[i]?=some n:=⟨_,Y5 (by omega)⟩
  obtain ⟨pn,hpn,hxn⟩:=Xdz (cells:=X7) (s:=4) (fun _=>rfl) (hRN.mono (hJ8.trans hJ9)) hn;subst hpn;have hcn:(X2p p.lo ω TN ω.l).contains n.ticket=true:=by
   rw [Y2a];exact (hF5 n.ticket).2 (Y1r.2 ⟨n,Yl hn,rfl⟩)
  refine .t 3 rfl (.val (.ii rfl rfl (by omega) (by omega) X6o X4n) rfl (.val (.fi 0 rfl X7h rfl rfl Qs9 rfl) rfl (.val (.ldI (.of rfl) hS hxn Qg9 rfl) rfl ?_)));refine .call Tryz.func50 rfl (ec9 rfl (ec9 rfl X0)) rfl (In_any da dc (X2p p.lo ω TN ω.l) (by omega) n.ticket B _ J9 _ (fun w h=>X68 (cells:=X9h) (s:=1) (fun _=>rfl) h (by rw [Xuq]; exact hRD.mono ((hJ7.trans hJ8).trans hJ9))) hS) ?_;rintro _ w ⟨rfl,hS⟩;refine .q 1 rfl (.nil (.seq (.q 2 rfl ?_)));refine .condF (congrArg (fun b=>some (Value.bool b)) (by rw [hcn]; rfl)) ?_;refine .skip (.region (.run 3 rfl ⟨⟨by omega,by omega⟩,trivial⟩ (.nil ?_)));exact ⟨i+1,⟨rfl,rfl,rfl,rfl,rfl,rfl,rfl,trivial⟩,⟨by (try dsimp only); omega,hS⟩,by (try dsimp only); omega⟩
 have hc194:=hb194; simp only [Y6] at hc194;refine .exit (.seq (.region (.run 2 rfl ⟨⟨_,X1s⟩,trivial⟩ ?_)));refine .make (l:=(X2p p.lo ω TN ω.l).length) hS (.of rfl) (.of rfl) Xg X1g rfl (by simp [Tryz.t3] <;> omega) (by omega) rfl rfl rfl ?_;intro b208 w hS;refine .q 1 rfl (.nil (.seq (.region (.run 2 rfl ⟨⟨_,X1s⟩,trivial⟩ ?_))));refine .make (l:=(X2p p.lo ω TN ω.l).length) hS (.of rfl) (.of rfl) X21 X35 rfl (by simp [Tryz.t4] <;> omega) (by omega) rfl rfl rfl ?_;intro b211 w hS;refine .q 1 rfl (.nil ?_);obtain ⟨m,hmm,hm1,hm9⟩:∃ m:Nat,Xgj ⟨c.base,c.factor,c.most,c.tries⟩=(m:Int)∧1≤m∧m≤9:=⟨(max 1 (min c.tries 9)).toNat,by unfold Xgj; (try dsimp only); omega,by omega,by omega⟩
 replace hS:=((((hS.pick 3 rfl).pick 1 rfl).pick 2 rfl).pick 3 rfl)
 refine .cutS (σ:=List Nat×List Bool×Im×Option Addr×Nat) (fun ⟨ts,ds,M,qa,qc⟩=>[(3,ptr b3 0),(7,.bool true),(11,ptr qb 0),(15,.slice da (X2p p.lo ω TN ω.l).length dc),(28,.slice (some (ad b208 0)) (X2p p.lo ω TN ω.l).length (X2p p.lo ω TN ω.l).length),(29,.slice (some (ad b211 0)) (X2p p.lo ω TN ω.l).length (X2p p.lo ω TN ω.l).length)]) (fun ⟨ts,ds,M,qa,qc⟩ w=>Le J9 M∧Xm.Told m (X2p p.lo ω TN ω.l) [] ts ds∧Sat B w M (blk qb [I64 (max 1 (min c.tries 9)),F64 c.base,F64 c.factor,F64 c.most,.slice qa ([]:List Nt).length qc] 113::blk b208 (ts.map fun t:Nat=>I64 ((t:Nat):Int)) 3::blk b211 (ds.map Value.bool) 4::blk b3 (X17 c a cap ua ucap) 29::As)) ?_ ?_
 ·refine .seq (.q 1 rfl (.block ?_));refine .loop (σ:=Nat×List Nt×List Nat×List Bool×Im×Option Addr×Nat) (fun ⟨i,q,ts,ds,M,qa,qc⟩=>[(2,.slice aa al.length ac),(3,ptr b3 0),(7,.bool true),(11,ptr qb 0),(15,.slice da (X2p p.lo ω TN ω.l).length dc),(28,.slice (some (ad b208 0)) (X2p p.lo ω TN ω.l).length (X2p p.lo ω TN ω.l).length),(29,.slice (some (ad b211 0)) (X2p p.lo ω TN ω.l).length (X2p p.lo ω TN ω.l).length),(30,I64 (i:Nat))]) (fun ⟨i,q,ts,ds,M,qa,qc⟩ w=>i≤400∧Le J9 M∧Xm.Told m (X2p p.lo ω TN ω.l) q ts ds∧ts.sum=i∧RS M qa 4 q.length (X9 X7 q)∧q.length≤qc∧Sat B w M (blk qb [I64 (max 1 (min c.tries 9)),F64 c.base,F64 c.factor,F64 c.most,.slice qa q.length qc] 113::blk b208 (ts.map fun t:Nat=>I64 ((t:Nat):Int)) 3::blk b211 (ds.map Value.bool) 4::blk b3 (X17 c a cap ua ucap) 29::As)) (fun ⟨i,q,ts,ds,M,qa,qc⟩=>400 - i) (0,(Xao p.lo ω TN),List.replicate (X2p p.lo ω TN ω.l).length 0,List.replicate (X2p p.lo ω TN ω.l).length false,J9,qa,qc) ⟨rfl,rfl,rfl,rfl,rfl,rfl,rfl,rfl,trivial⟩ ⟨by (try dsimp only); omega,Le.refl _,Xj8 hm1 hF2 hF3 (fun n hn=>(hF4 n hn).1) hF5,by simp,hRQ.mono hJ9,hqc,by simpa using hS⟩ ?_;rintro ⟨i,q,ts,ds,M,qa,qc⟩ w ⟨hi,hJM,hT,hsum,hRQ,hqc,hS⟩;refine .seq (.seq (.q 2 rfl ?_));refine .cond rfl (fun hb213=>?_) fun hb213=>?_
  ·have hc213:=hb213; simp only [Y6] at hc213;refine .skip (.seq (.block (.seq (.t 1 rfl (.call Qf17 rfl (ec9 rfl (ec9 rfl X0)) rfl (X75 qb _ c.base c.factor c.most qa qc q hT.ok.1 B _ M hRQ hqc hT.ok.2 1099511627776 (by decide) (by decide) _ hS) ?_)))));rintro _ w ⟨rfl,hS⟩;try dsimp only [List.eraseIdx] at hS
   rcases Xox hT.ok with ⟨hq0,hf⟩ | ⟨jn,n,hn,hf⟩
   ·rw [hf];refine .vm rfl rfl (.q 2 rfl (.allocA (cs:=[_,_,_,_]) hS Xfd rfl ?_));intro b31 w hS;refine .so hS (k:=0) rfl rfl rfl rfl X4n rfl (by simp) ?_;intro w hS;try simp only [Yk,Yf,Y9,Y7,Yh,Ym,Yd] at hS
    refine .q 1 rfl (.nil (.seq (.seq (.q 2 rfl (.condT (rfl) (.exit ?_))))));subst hq0;exact ⟨(ts,ds,M,qa,qc),⟨rfl,rfl,rfl,rfl,rfl,rfl,trivial⟩,hJM,hT,(((((hS.pick 4 rfl).pick 4 rfl).pick 4 rfl).pick 4 rfl).drop (k:=4) rfl)⟩
   rw [hf];refine .vm rfl rfl (.q 2 rfl (.allocA (cs:=[_,_,_,_]) hS Xfd rfl ?_));intro b31 w hS;refine .so hS (k:=0) rfl rfl rfl rfl X4n rfl (by simp) ?_;intro w hS;try simp only [Yk,Yf,Y9,Y7,Yh,Ym,Yd] at hS
   refine .q 1 rfl (.nil (.seq (.seq (.q 2 rfl (.condF (rfl) (.skip (.seq ?_)))))));have hab:i<al.length→At M ((aa.getD (ad 0 0)).add (i*1)) [.bool (al.getD i false)]:=fun h=>by
    obtain ⟨p9,hp9,hx9⟩:=Xdz (cells:=Xhr) (s:=1) (fun _=>rfl) (hA.mono (((hJ.trans (hJa.trans (hJp.trans (hJd.trans hJ7)))).trans (hJ8.trans hJ9)).trans hJM)) (Y5 h);subst hp9;rw [Y8,Y5 h];exact hx9
   refine .region (.run 5 rfl ⟨⟨_,X21⟩,trivial⟩ (.gm rfl rfl rfl rfl (.gm rfl rfl rfl rfl ?_)));refine .gval (v:=.pointer (some ((aa.getD (ad 0 0)).add (i*1)))) rfl rfl (fun hg1=>by
    cases aa with
    | none=>exfalso; obtain ⟨p9,h9,_⟩:=hA.2 (by simp at hg1; omega); cases h9
    | some p9=>exact .indexAddrI (.gd hg1 rfl) (.gd hg1 rfl) (Int.natCast_nonneg i) (by simp at hg1; omega) X21 Qs4) rfl ?_
   refine .gval (v:=.bool (al.getD i false)) rfl rfl (fun hg1=>.ldI (.gd hg1 rfl) hS (hab (by simp at hg1; omega)) Qg4 rfl) rfl (.val (.pa rfl rfl rfl) rfl (.q 1 rfl (.nil (.seq ?_))));obtain ⟨k0,t0,hk0,ht0,hd0,hdn,hT2⟩:=Xnj (good:=(decide (((i:Nat):Int)<((al.length:Nat):Int)) && al.getD i false)) hT hF7 hmm hn;have hk0l:=(Y4.1 hk0).1;obtain ⟨pd,hpd,hAD⟩:=hRD.2 (by omega);have hsl:Value.slice da (X2p p.lo ω TN ω.l).length dc=.slice (some pd) (X2p p.lo ω TN ω.l).length dc:=by rw [hpd]
   refine .t 1 rfl (.val (.fo 0 rfl X7h rfl rfl Qs9 rfl) rfl (.val (.lo rfl hS (k:=0) rfl Qg9 rfl) rfl (.q 1 rfl (.call Qf15 rfl (ec9 rfl (ec9 rfl (ec9 rfl (ec9 rfl X0)))) rfl (X8v qb _ c.base c.factor c.most qa qc q hT.ok.1 B _ M hRQ hqc hT.ok.2 c.tries rfl n.ticket (decide (((i:Nat):Int)<((al.length:Nat):Int)) && al.getD i false) 0 (by decide) (by decide) _ (hS.pick 1 rfl)) ?_))));rintro _ w ⟨M2,qa2,qc2,rfl,hM2,hRQ2,hqc2,hS⟩;try dsimp only [List.eraseIdx] at hS
   refine .q 1 rfl (.nil (.seq (.q 1 rfl (.seq (.block ?_)))));replace hS:=(((((hS.pick 4 rfl).pick 4 rfl).pick 4 rfl).pick 4 rfl).pick 4 rfl)
   refine .loop (σ:=Nat) (fun κ=>[(2,.slice aa al.length ac),(3,ptr b3 0),(7,.bool true),(11,ptr qb 0),(15,.slice da (X2p p.lo ω TN ω.l).length dc),(28,.slice (some (ad b208 0)) (X2p p.lo ω TN ω.l).length (X2p p.lo ω TN ω.l).length),(29,.slice (some (ad b211 0)) (X2p p.lo ω TN ω.l).length (X2p p.lo ω TN ω.l).length),(30,I64 (i:Nat)),(31,ptr b31 0),(33,.bool (decide (((i:Nat):Int)<((al.length:Nat):Int)) && al.getD i false)),(34,I64 (((X3d ⟨c.base,c.factor,c.most,c.tries⟩ q n.ticket (decide (((i:Nat):Int)<((al.length:Nat):Int)) && al.getD i false) 0).2:Nat):Int)),(35,I64 (κ:Nat))]) (fun κ w=>κ≤k0∧Sat B w M2 (blk qb [I64 (max 1 (min c.tries 9)),F64 c.base,F64 c.factor,F64 c.most,.slice qa2 (X3d ⟨c.base,c.factor,c.most,c.tries⟩ q n.ticket (decide (((i:Nat):Int)<((al.length:Nat):Int)) && al.getD i false) 0).1.length qc2] 113::blk b31 [S n.ticket,S n.url,I64 n.tries,I64 n.next] 45::blk b208 (ts.map fun t:Nat=>I64 ((t:Nat):Int)) 3::blk b211 (ds.map Value.bool) 4::blk b3 (X17 c a cap ua ucap) 29::As)) (fun κ=>(X2p p.lo ω TN ω.l).length - κ) 0 ⟨rfl,rfl,rfl,rfl,rfl,rfl,rfl,rfl,rfl,rfl,rfl,rfl,trivial⟩ ⟨Yq _,hS⟩ ?_;rintro κ w ⟨hκl,hS⟩;refine .seq (.seq ?_);obtain ⟨xk,hxk⟩:∃ x,(X2p p.lo ω TN ω.l)[κ]?=some x:=⟨_,Y5 (by omega)⟩
   obtain ⟨pd2,hpd2,hxd⟩:=Xdz (cells:=X9h) (s:=1) (fun _=>rfl) (by rw [Xuq]; exact hRD.mono (((hJ7.trans hJ8).trans hJ9).trans (hJM.trans hM2)):RS M2 da 1 (X2p p.lo ω TN ω.l).length (X9 X9h (X2p p.lo ω TN ω.l))) hxk;rw [hpd] at hpd2;cases hpd2
   refine .quiet (by kernel_rfl) (by kernel_rfl) hS (.val (fun w hS=>(.mo rfl)) rfl (.val (fun w hS=>(.mo rfl)) rfl (.val (fun w hS=>(.lenSlice (.of rfl) X1s)) rfl (.val (fun w hS=>(.lss (.of rfl) (.of rfl))) rfl (.val (fun w hS=>(.mo rfl)) rfl (.gval rfl rfl rfl (fun hg1 w hS=>(.mo rfl)) rfl (.gval rfl rfl rfl (fun hg1 w hS=>(.mo rfl)) rfl (.gval (v:=.pointer (some (pd.add (κ*1)))) rfl rfl rfl (fun hg1 w hS=>.indexAddrI (Ev.to hsl (.gd hg1 rfl)) (.gd hg1 rfl) (Int.natCast_nonneg κ) (by omega) X1s Qs9) rfl (.gval rfl rfl rfl (fun hg1 w hS=>.ldI (.gd hg1 rfl) hS hxd Qg9 rfl) rfl ?_)))))))));refine .gval rfl rfl rfl (fun hg1 w hS=>(by exact .fo 0 rfl X7h rfl rfl Qs9 rfl)) rfl ?_;refine .gval rfl rfl rfl (fun hg1 w hS=>(by exact (.ld (.gd hg1 rfl) hS (k:=1) rfl Qg9 rfl))) rfl ?_;refine .gval rfl rfl rfl (fun hg1 w hS=>(.nes (.gd hg1 rfl) (.gd hg1 rfl))) rfl (.val (fun w hS=>(.pa rfl rfl rfl)) rfl (.nil ?_));intro w hS;refine .cond rfl (fun hb250=>?_) fun hb250=>?_
   ·have hc250:=hb250; simp only [Y6] at hc250;refine .skip (.block (.region (.run 3 rfl ⟨⟨by omega,by omega⟩,trivial⟩ (.nil ?_))));refine ⟨κ+1,⟨rfl,rfl,rfl,rfl,rfl,rfl,rfl,rfl,rfl,rfl,rfl,rfl,trivial⟩,⟨?_,hS⟩,by (try dsimp only); omega⟩;show κ+1≤k0
    have h9:κ≠k0:=fun e=>by
     rw [e,hk0] at hxk;cases hxk
     simp at hb250
    omega
   have hc250:=hb250; simp only [Y6] at hc250;refine .exit (.seq (.seq ?_));have hκ:κ=k0:=by
    have h9:=hb250;rw [decide_eq_true (by omega:((κ:Nat):Int)<(((X2p p.lo ω TN ω.l).length:Nat):Int)),Y2i] at h9;have h8:xk=n.ticket:=by simpa using h9
    subst h8;exact hF7 κ k0 _ hxk hk0
   rw [← hκ] at ht0 hd0 hT2;have htκ:(ts.map fun t:Nat=>I64 ((t:Nat):Int))[0+κ*1]?=some (I64 ((t0:Nat):Int)):=by rw [Yd,Y1c,Yt,ht0]; rfl
   have hdκ:(ds.map Value.bool)[0+κ*1]?=some (.bool false):=by rw [Yd,Y1c,Yt,hd0]; rfl
   have ht9:=hT.top t0 (Yl ht0);refine .region (.run 5 rfl ⟨⟨_,X1s⟩,trivial⟩ (.gm rfl rfl rfl rfl (.gm rfl rfl rfl rfl ?_)));refine .gval rfl rfl (fun hg1=>(by exact .indexAddr (.gd hg1 rfl) (.gd hg1 rfl) (by (try simp only [Y6] at hg1); omega) (by (try simp only [Y6] at hg1); omega) X21 Qs4)) rfl ?_;refine .gval rfl rfl (fun hg1=>.ld (v:=.bool false) (.gd hg1 rfl) hS (k:=3) rfl Qg4 hdκ) rfl (.val (.po rfl rfl rfl) rfl (.q 1 rfl (.gm rfl rfl rfl rfl (.gval rfl rfl (fun hg1=>(.neq (.gd hg1 rfl) (.of rfl))) rfl (.val (.po rfl rfl rfl) rfl (.nil ?_))))));refine .condF (congrArg (fun b=>some (Value.bool b)) (by rw [hdn]; simp; omega)) ?_;refine .skip (.seq (.t 2 rfl ?_));refine .val (.io rfl rfl (by omega) (by omega) Xg Qs3) rfl (.val (.ld (v:=I64 ((t0:Nat):Int)) (.of rfl) hS (k:=2) rfl Qg3 htκ) rfl (.run 1 rfl ⟨⟨by omega,by omega⟩,trivial⟩ ?_));refine .val (.io rfl rfl (by omega) (by omega) Xg Qs3) rfl (.s1 hS (k:=2) rfl rfl rfl rfl Qs3 (by simp [hT.tl,hT.dl]; omega) ?_);intro w hS;rw [set_ts] at hS;refine .nil (.t 3 rfl ?_);refine .val (.io rfl rfl (by omega) (by omega) X21 Qs4) rfl (.s1 hS (k:=3) rfl rfl rfl rfl Qs4 (by simp [hT.tl,hT.dl]; omega) ?_);intro w hS;rw [set_ds] at hS;refine .nil (.region (.run 3 rfl ⟨⟨by omega,by omega⟩,trivial⟩ (.nil ?_)));have hsm:=Xmd ts κ t0 ht0;exact ⟨(i+1,_,ts.set κ (t0+1),ds.set κ (decide (((i:Nat):Int)<((al.length:Nat):Int)) && al.getD i false),M2,qa2,qc2),⟨rfl,rfl,rfl,rfl,rfl,rfl,rfl,rfl,trivial⟩,⟨by (try dsimp only); omega,hJM.trans hM2,hT2,by (try dsimp only); omega,hRQ2,hqc2,(((((hS.pick 4 rfl).pick 4 rfl).pick 4 rfl).pick 3 rfl).drop (k:=4) rfl)⟩,by (try dsimp only); omega⟩
  have hc213:=hb213; simp only [Y6] at hc213;refine .exit ?_;exfalso
  have h1:=Xtl m ts hT.top;rw [hT.tl,hsum] at h1;have h2:m*(X2p p.lo ω TN ω.l).length≤9*30:=Y4o hm9 (by omega);omega
 rintro ⟨ts,ds,M,qa,qc⟩ w ⟨hJM,hT,hS⟩;refine .seq ?_;have hmost:max (1:Int) (min 9 c.tries)=(m:Int):=by rw [← hmm]; unfold Xgj; (try dsimp only); rw [Int.min_comm]
 refine .region (.val (.fo 27 rfl Xhi rfl rfl Qs3 rfl) rfl (.val (.lo rfl hS (k:=3) rfl Qg3 rfl) rfl (.val (.min2 (.of rfl) (.of rfl)) rfl (.val (.max2 (.of rfl) (.of rfl)) rfl (.q 1 rfl (.nil (.seq (.seq (.q 1 rfl (.block ?_))))))))));rw [hmost];refine .loop (σ:=Nat) (fun k=>[(7,.bool true),(11,ptr qb 0),(15,.slice da (X2p p.lo ω TN ω.l).length dc),(28,.slice (some (ad b208 0)) (X2p p.lo ω TN ω.l).length (X2p p.lo ω TN ω.l).length),(29,.slice (some (ad b211 0)) (X2p p.lo ω TN ω.l).length (X2p p.lo ω TN ω.l).length),(36,I64 (m:Nat)),(37,I64 (k:Nat))]) (fun k w=>k≤(X2p p.lo ω TN ω.l).length∧Sat B w M (blk qb [I64 (max 1 (min c.tries 9)),F64 c.base,F64 c.factor,F64 c.most,.slice qa ([]:List Nt).length qc] 113::blk b208 (ts.map fun t:Nat=>I64 ((t:Nat):Int)) 3::blk b211 (ds.map Value.bool) 4::blk b3 (X17 c a cap ua ucap) 29::As)) (fun k=>(X2p p.lo ω TN ω.l).length - k) 0 ⟨rfl,rfl,rfl,rfl,rfl,rfl,rfl,trivial⟩ ⟨Yq _,hS⟩ ?_;rintro k w ⟨hk,hS⟩;refine .seq (.seq (.region (.run 4 rfl ⟨⟨_,X1s⟩,trivial⟩ (.nil ?_))));refine .cond rfl (fun hb284=>?_) fun hb284=>?_
 ·have hc284:=hb284; simp only [Y6] at hc284;refine .skip (.seq (.block (.seq ?_)));obtain ⟨t,htt⟩:∃ t,ts[k]?=some t:=⟨_,Y5 (by have:=hT.tl; omega)⟩
  obtain ⟨b,hbb⟩:∃ b,ds[k]?=some b:=⟨_,Y5 (by have:=hT.dl; omega)⟩
  have hte:=Xpr hm1 hT htt hbb;have htκ:(ts.map fun t:Nat=>I64 ((t:Nat):Int))[0+k*1]?=some (I64 ((t:Nat):Int)):=by rw [Yd,Y1c,Yt,htt]; rfl
  have hdκ:(ds.map Value.bool)[0+k*1]?=some (.bool b):=by rw [Yd,Y1c,Yt,hbb]; rfl
  refine .t 2 rfl (.val (.io rfl rfl (by omega) (by omega) Xg Qs3) rfl (.val (.ld (v:=I64 ((t:Nat):Int)) (.of rfl) hS (k:=1) rfl Qg3 htκ) rfl (.q 2 rfl (.gm rfl rfl rfl rfl (.gm rfl rfl rfl rfl ?_)))));refine .gval rfl rfl (fun hg1=>(by exact .indexAddr (.gd hg1 rfl) (.gd hg1 rfl) (by (try simp only [Y6] at hg1); omega) (by (try simp only [Y6] at hg1); omega) Xg Qs3)) rfl ?_;refine .gval rfl rfl (fun hg1=>.ld (v:=I64 ((t:Nat):Int)) (.gd hg1 rfl) hS (k:=1) rfl Qg3 htκ) rfl (.gm rfl rfl rfl rfl (.gval rfl rfl (fun hg1=>(.gtr (.gd hg1 rfl) (.gd hg1 rfl))) rfl (.val (.po rfl rfl rfl) rfl (.q 1 rfl (.gm rfl rfl rfl rfl (.gm rfl rfl rfl rfl ?_))))));refine .gval rfl rfl (fun hg1=>(by exact .indexAddr (.gd hg1 rfl) (.gd hg1 rfl) (by (try simp only [Y6] at hg1); omega) (by (try simp only [Y6] at hg1); omega) X21 Qs4)) rfl ?_;refine .gval rfl rfl (fun hg1=>.ld (v:=.bool b) (.gd hg1 rfl) hS (k:=2) rfl Qg4 hdκ) rfl (.gval rfl rfl (fun hg1=>(.not (.gd hg1 rfl))) rfl (.gval rfl rfl (fun hg1=>(.move (.gd hg1 rfl))) rfl (.gval2 rfl rfl rfl (fun hg1 hg2=>(.mo rfl)) rfl (.gval2 rfl rfl rfl (fun hg1 hg2=>(.mo rfl)) rfl ?_))));refine .gval2 rfl rfl rfl (fun hg1 hg2=>(by exact .indexAddr (.gd2 hg1 hg2 rfl) (.gd2 hg1 hg2 rfl) (by (try simp only [Y6] at hg1 hg2); omega) (by (try simp only [Y6] at hg1 hg2); omega) Xg Qs3)) rfl ?_;refine .gval2 rfl rfl rfl (fun hg1 hg2=>.ld (v:=I64 ((t:Nat):Int)) (.gd2 hg1 hg2 rfl) hS (k:=1) rfl Qg3 htκ) rfl (.gval2 rfl rfl rfl (fun hg1 hg2=>(.mo rfl)) rfl (.gval2 rfl rfl rfl (fun hg1 hg2=>(.neq (.gd2 hg1 hg2 rfl) (.gd2 hg1 hg2 rfl))) rfl (.gval rfl rfl (fun hg1=>(.pand (.gd hg1 rfl) (.gd hg1 rfl) (.of rfl))) rfl (.val (.po rfl rfl rfl) rfl (.nil ?_)))));refine .condF (congrArg (fun b=>some (Value.bool b)) (by cases b with | false=>(have h4:=hte.2.2 rfl; simp; omega) | true=>(simp; omega))) ?_;refine .skip (.region (.run 3 rfl ⟨⟨by omega,by omega⟩,trivial⟩ (.nil ?_)));exact ⟨k+1,⟨rfl,rfl,rfl,rfl,rfl,rfl,rfl,trivial⟩,⟨by (try dsimp only); omega,hS⟩,by (try dsimp only); omega⟩
 have hc284:=hb284; simp only [Y6] at hc284;refine .exit (.seq (.t 2 rfl (.gm rfl rfl rfl rfl (.opn rfl rfl rfl (.call Tryz.func20 rfl (Xc (.gd (b:=true) (want:=true) rfl rfl) X0) rfl (Xfa qb _ c.base c.factor c.most qa qc [] (by decide) B _ M ⟨rfl,fun h=>absurd h (by decide)⟩ (Yq _) _ hS) ?_)))));rintro _ w ⟨J5,_,_,rfl,hJ5,_,_,hS⟩;refine .gval rfl rfl (fun hg1=>(.lenSlice (.of rfl) X6o)) rfl (.gval rfl rfl (fun hg1=>(.eql (.gd hg1 rfl) (.of rfl))) rfl (.val (.pa rfl rfl rfl) rfl (.q 1 rfl (.nil (.ret (X8 Qr7 rfl ?_))))));exact ⟨_,rfl,rfl,J5,((hJ.trans (hJa.trans (hJp.trans (hJd.trans hJ7)))).trans (hJ8.trans hJ9)).trans (hJM.trans hJ5),((((hS.drop (k:=0) rfl).drop (k:=0) rfl).drop (k:=0) rfl).drop (k:=0) rfl)⟩
end Go.Proofs.YtbciobiiejpdgaaGreatDoor
namespace Gk
open Go Go.RowKit Go.WideShapes Go.ChangeShapes
section
variable {H:Type} {enc:TypeId×Value→H}
def WitT (enc:TypeId×Value→H) (a:Assume) (C:Checked) (os:Os) (f:FuncId) (fn:Func) (s:ChangeSpec) (conds:List PathCond) (apart:Bool) (X:World→Array Value→Prop):Prop :=
  ∃ (w:World) (tape:Tape) (i:Input),w.os=os∧(w.forCall tape i).Shaped C.prog∧i.vars=[]∧Input.okWide C.prog (w.forCall tape i) .any w.heap.size f i ∧
   ((s.pre enc C.prog fn conds apart (w.forCall tape i).memory i.args∧X (w.forCall tape i).memory i.args)∧sizedMet enc C.prog fn (OpenSpec.ofChange s) apart (w.forCall tape i).memory i.args)∧a.holds C.prog (lone (Frame.enter C.prog f i.args .normal) [] (w.forCall tape i))
theorem X7e {a:Assume} {C:Checked} {os:Os} {f:FuncId} {fn:Func} {s:ChangeSpec} {conds:List PathCond} {apart fresh handsOn again:Bool} {X:World→Array Value→Prop}
  (hX:∀ (w w':World) (args:Array Value),w.heap=w'.heap→X w args→X w' args)
  (own:ownKnob C.prog.godebug=none) (started:os.Started) (noInit:C.prog.inits.idxOf? f=none) (hfn:C.prog.funcs[f]?=some fn)
  (witness:WitT enc a C os f fn s conds apart X)
  (contract:∀ (W:World) (base:Nat) (args:Array Value) (ds gs:List (DataW H)) (before:List MemPlace),
   (∀ (j:Nat) t v,fn.params[j]?=some t→args[j]?=some v→Value.okWide C.prog W .any base t v) →
   DataW.Whole enc C.prog fn.params.toList s.vars apart W args.toList ds gs before→X W args→W.ShapedOpen C.prog →
   Calls C.prog f args W fun e W'=>∃ v,e=.returned v∧s.post enc C.prog fn apart fresh handsOn again W args v W') :
  ReturnsInHanded a C os f .any (fun w args=>(s.pre enc C.prog fn conds apart w args∧X w args)∧sizedMet enc C.prog fn (OpenSpec.ofChange s) apart w args) (s.post enc C.prog fn apart fresh handsOn again):=by
 refine returnsInHanded_of_calls own started noInit witness ?_;intro w tape i _ hsh _ hok hpre _;obtain ⟨_,_,_,fn',hfn',_,_,_,_,hval⟩:=hok;have e:fn'=fn:=Option.some.inj (hfn'.symm.trans hfn);subst e;obtain ⟨⟨⟨ds,gs,before,hw,hc⟩,hx⟩,hz⟩:=hpre;have hw':=DataW.Whole.of_heap (w':=w.forCall tape i) (by rfl) hw;refine (contract (w.forCall tape i) w.heap.size i.args ds gs before hval hw' (hX _ _ _ (by rfl) hx) hsh).mono fun e W' ⟨v,he,hp⟩=>?_
 subst he;exact ChangeSpec.post_blind hp
end
section
variable {P:Program} {W:World}
theorem X3l {name:String} {k:IntKind} {zs:List Int} {g:Nat} {t e:TypeId} {n:Nat}
  (hg:P.globalNamed name=some g) (hty:(P.globals[g]?).map (·.type)=some t) (ht:P.underlying t=some (.array n e)) (he:P.underlying e=some (.int k)) (hce:P.cellsOf e=1) (hct:P.cellsOf t=n)
  (h:Lib.VarReads P W name (Lib.tabData k zs)):Lib.TabIs P W name k zs:=by
 obtain ⟨g',t',cs,fuel,p,hg',ht',hvar,hd⟩:=h;obtain rfl:=Option.some.inj (hg.symm.trans hg');obtain rfl:=Option.some.inj (hty.symm.trans ht');unfold Lib.TabIs;rw [hvar,← Lib.cells_of_tab ht he hce hct hd]
theorem tab_at {name:String} {k:IntKind} {zs:List Int} {g:Nat} (hg:P.globalNamed name=some g) (h:Lib.TabIs P W name k zs) (h0:0<zs.length):At (im0 W) (ad g 0) (zs.map fun z=>.int k z):=by
 refine Xii (by rw [Y10]; exact h0) fun j v hj=>?_
 rw [Yt] at hj;cases hz:zs[j]? with
 | none=>rw [hz] at hj; cases hj
 | some z =>
  rw [hz] at hj;have hjl:=(Y4.1 hz).1;have hc:=h.cell hg j hjl;rw [X12,Yd,hc,Y8,hz,← hj];rfl
variable {B w:World} {As:List X6}
theorem Xdj {b:Nat} {o:Obj} (h:W.heap[b]?=some o) (hS:Sat B w (im0 W) As):w.heap[b]?=some o:=by
 obtain ⟨_,_,hg⟩:=hS;exact hg.imm b o h
theorem Xmi {name:String} {k:IntKind} {zs:List Int} (h:Lib.TabIs P W name k zs) (hS:Sat B w (im0 W) As):Lib.TabIs P w name k zs:=by
 unfold Lib.TabIs World.var? at h ⊢;cases hg:P.globalNamed name with
 | none=>rw [hg] at h; cases h
 | some g =>
  rw [hg] at h;simp only [Y34] at h ⊢
  cases hb:W.heap[g]? with
  | none=>rw [hb] at h; cases h
  | some o =>
   rw [Xdj hb hS];rw [hb] at h;exact h
theorem X8w {a:Addr} {v:Value} (h:W.cell? a=some v) (hS:Sat B w (im0 W) As):w.cell? a=some v:=by
 unfold World.cell? at h ⊢;cases hb:W.heap[a.block]? with
 | none=>rw [hb] at h; cases h
 | some o=>rw [Xdj hb hS]; rw [hb] at h; exact h
end
end Gk
namespace Go.Proofs.YtbciobiiejpdgaaGreatDoor
open Gk Pc
theorem Xk8:Rows.laid_matricula_pct_digits (H:=Unit)=Lib.tabData .u8 (HIGH.map fun c=>(c.toNat:Int)):=by kernel_rfl
theorem Xoq:Rows.laid_internal_strconv_uint64pow10 (H:=Unit)=Lib.tabData .u64 Lib.pow10Tab:=by kernel_rfl
def Xch {H:Type} (zs:List (List UInt8)):DataW H:=.agg (zs.map fun z=>.lit (.string z))
theorem Xwu:Rows.laid_matricula_ticket_prefixes (H:=Unit)=Xch PREV:=by kernel_rfl
theorem Xav {H:Type} {enc:TypeId×Value→H} {P:Program} {w:World} {base:Nat} {sp:Nat→Bool} {held:Bool} {fuel:Nat} {t e:TypeId} {n:Nat} {cs:List Value} {zs:List (List UInt8)} {p:List MemPlace}
  (ht:P.underlying t=some (.array n e)) (he:P.underlying e=some .string) (hce:P.cellsOf e=1) (hct:P.cellsOf t=n)
  (h:DataW.trod enc P w base sp held fuel t cs=some (Xch zs,p)):cs=zs.map S:=by
 cases fuel with
 | zero=>simp [DataW.trod] at h
 | succ fuel =>
  simp only [DataW.trod,ht,hce,hct,Y1c] at h
  split at h
  ·rename_i hl
   obtain ⟨xs,hm,hx⟩:=Y1e.1 h;have hxs:xs.map (·.1)=zs.map fun z=>(DataW.lit (.string z):DataW H):=by
    have:=congrArg Prod.fst hx
    simpa [Xch] using this
   have hxl:xs.length=n:=by simpa using Lib.mapM_length hm
   have hzl:zs.length=n:=by
    have:=congrArg List.length hxs
    simp at this
    omega
   apply Y2e
   intro i
   by_cases hi:i<n
   ·obtain ⟨b,hb,hf⟩:=Lib.mapM_at hm i i (by simp [hi]);obtain ⟨z,hc,rfl,_⟩:=DataW.trod_string he hf;have h1:cs[i]?=some (.string z):=by
     have:=congrArg (·[0]?) hc
     simpa [Y26,Y1f] using this
    have h2:(xs.map (·.1))[i]?=some (DataW.lit (.string z.data.toList):DataW H):=by simp [hb]
    rw [hxs] at h2;simp only [Yt,Y1e,DataW.lit.injEq,Lit.string.injEq] at h2
    obtain ⟨z',hz',e'⟩:=h2;rw [h1,Yt,hz',e'];rfl
   ·rw [Y2b (by omega),Y2b (by simp; omega)]
  ·cases h
theorem Xtv {W : World} (h : Lib.VarReads Tryz.prog W "matricula/ticket.prefixes" Rows.laid_matricula_ticket_prefixes) : PreAt (im0 W) := by
 rw [Xwu] at h;obtain ⟨g',t',cs,fuel,p,hg',ht',hvar,hd⟩:=h;obtain rfl := Option.some.inj ((show Tryz.prog.globalNamed "matricula/ticket.prefixes" = some 1 by kernel_rfl).symm.trans hg');obtain rfl:=Option.some.inj ((show (Tryz.prog.globals[1]?).map (·.type)=some 254 by kernel_rfl).symm.trans ht');have hcs:=Xav Xmy Qu9 (by kernel_rfl) (by kernel_rfl) hd;refine Xii (by decide) fun j v hj=>?_
 have h2:=World.var?_cell hg' hvar j;rw [X12,Yd];rw [← Y4u,hcs,hj] at h2;exact h2
theorem Xr1 {W : World} (h1 : Lib.VarReads Tryz.prog W "matricula/pct.digits" Rows.laid_matricula_pct_digits) (h2 : Lib.VarReads Tryz.prog W "internal/strconv.uint64pow10" Rows.laid_internal_strconv_uint64pow10) (h3 : Lib.VarReads Tryz.prog W "matricula/ticket.prefixes" Rows.laid_matricula_ticket_prefixes) (hsh : W.ShapedOpen Tryz.prog) : Known (im0 W) ∧ PreAt (im0 W) := by
 refine ⟨?_,Xtv h3⟩;rw [Xk8] at h1;rw [Xoq] at h2;have t1:=X3l (g:=9) (by kernel_rfl) (by kernel_rfl) Xqc Qu5 (by kernel_rfl) (by kernel_rfl) h1;have t2:=X3l (g:=5) (by kernel_rfl) (by kernel_rfl) Xrh Xq3 (by kernel_rfl) (by kernel_rfl) h2;refine ⟨tab_at (g:=9) (by kernel_rfl) t1 (by decide),fun B w As hS=>Xmi t2 hS,fun B w As hS=>?_⟩;obtain ⟨m,hm⟩:=Go.Proofs.cell_of_shapedOpen_int (g:=6) (t:=3) (zero:=#[.int .i64 0]) (k:=.i64) hsh (by decide +kernel) (by kernel_rfl) (by kernel_rfl) (by kernel_rfl) (by kernel_rfl) Qu3;exact ⟨m,X8w hm hS⟩
end Go.Proofs.YtbciobiiejpdgaaGreatDoor
namespace Go.Proofs.YtbciobiiejpdgaaGreatDoor
open Gk Pc Xm Pat Tk Go.ChangeMaps Go.ChangeShapes Go.RowKit
theorem Xks {H:Type} {enc:TypeId×Value→H} {P:Program} {w:World} {base:Nat} {sp:Nat→Bool} {held:Bool} {fuel:Nat} {t:TypeId} {cs:List Value} {nm:String} {d:DataW H} {p:List MemPlace} {ms:Array (String×TypeId)} (ht:P.underlying t=some (.interface ms)) (h:DataW.trod enc P w base sp held fuel t cs=some (.iface nm d,p)):∃ u v,cs=[.iface u v]:=by
 cases fuel with
 | zero=>simp [DataW.trod] at h
 | succ fuel =>
  unfold DataW.trod at h;rw [ht] at h;split at h <;> simp_all
theorem X3y {W:World} {sp:Nat→Bool} {held:Bool} {fuel:Nat} {cs:List Value} {y:DataW Unit×List MemPlace} {a b:List UInt8} (h:DataW.trod (fun _=>()) Tryz.prog W 0 sp held fuel 136 cs=some y) (hy:y.1=.agg [.lit (.string a),.lit (.string b)]):cs=[S a,S b]:=by
 obtain ⟨xs,n,_,hx,hcl,hxl,hf⟩:=DataW.trod_struct X4f h;rw [show Tryz.prog.cellsOf 136=2 from by kernel_rfl] at hcl;have h0:DataW.trod (fun _=>()) Tryz.prog W 0 sp held n 9 ((cs.drop 0).take (Tryz.prog.cellsOf 9))=xs[0]?:=hf 0 _ rfl;have h1:DataW.trod (fun _=>()) Tryz.prog W 0 sp held n 9 ((cs.drop 1).take (Tryz.prog.cellsOf 9))=xs[1]?:=hf 1 _ rfl;rw [show Tryz.prog.cellsOf 9=1 from by kernel_rfl] at h0 h1;have hxl2:xs.length=2:=hxl;clear hf hxl h;obtain ⟨u,v,rfl⟩:∃ u v,cs=[u,v]:=by
  match cs,hcl with
  | [u,v],_=>exact ⟨u,v,rfl⟩
 obtain ⟨x0,x1,rfl⟩:∃ u v,xs=[u,v]:=by
  match xs,hxl2 with
  | [u,v],_=>exact ⟨u,v,rfl⟩
 simp only [Y7,Yh,Y1k,Yk] at h0 h1
 obtain ⟨s0,e0,ex0,_⟩:=DataW.trod_string Qu9 (h0.trans rfl);obtain ⟨s1,e1,ex1,_⟩:=DataW.trod_string Qu9 (h1.trans rfl);subst hx;simp only [Y1a,Y38,DataW.agg.injEq,List.cons.injEq,and_true] at hy
 rw [ex0,ex1] at hy;simp only [DataW.lit.injEq,Lit.string.injEq] at hy
 obtain ⟨rfl,rfl⟩:=hy;injection e0 with e0; injection e1 with e1
 rw [e0,e1]
theorem Xfk {W:World} {sp:Nat→Bool} {held:Bool} {fuel:Nat} {cs:List Value} {p:List MemPlace} (h:DataW.trod (fun _=>()) Tryz.prog W 0 sp held fuel 258 cs=some (Rows.laid_matricula_xml_marks,p)):cs=MKC:=by
 obtain ⟨xs,n,_,hx,hcl,hxl,hf⟩:=DataW.trod_array Xo1 h;rw [show Tryz.prog.cellsOf 258=10 from by kernel_rfl] at hcl;rw [show Tryz.prog.cellsOf 136=2 from by kernel_rfl] at hf;have hm:=congrArg Prod.fst hx;unfold Rows.laid_matricula_xml_marks at hm
 match cs,hcl,xs,hxl with
 | [v0,v1,v2,v3,v4,v5,v6,v7,v8,v9],_,[x0,x1,x2,x3,x4],_ =>
  simp only [Y1a,Y38,DataW.agg.injEq,List.cons.injEq,and_true] at hm
  obtain ⟨m0,m1,m2,m3,m4⟩:=hm;have f0:=X3y ((hf 0 (by decide)).trans rfl) m0.symm;have f1:=X3y ((hf 1 (by decide)).trans rfl) m1.symm;have f2:=X3y ((hf 2 (by decide)).trans rfl) m2.symm;have f3:=X3y ((hf 3 (by decide)).trans rfl) m3.symm;have f4:=X3y ((hf 4 (by decide)).trans rfl) m4.symm;simp at f0 f1 f2 f3 f4
  obtain ⟨rfl,rfl⟩:=f0;obtain ⟨rfl,rfl⟩:=f1;obtain ⟨rfl,rfl⟩:=f2;obtain ⟨rfl,rfl⟩:=f3;obtain ⟨rfl,rfl⟩:=f4;rfl
theorem Xru {W : World} (h : Lib.VarReads Tryz.prog W "matricula/xml.marks" Rows.laid_matricula_xml_marks) : At (im0 W) (ad 2 0) MKC := by
 obtain ⟨g',t',cs,fuel,p,hg',ht',hvar,hd⟩:=h;obtain rfl := Option.some.inj ((show Tryz.prog.globalNamed "matricula/xml.marks" = some 2 by kernel_rfl).symm.trans hg');obtain rfl:=Option.some.inj ((show (Tryz.prog.globals[2]?).map (·.type)=some 258 by kernel_rfl).symm.trans ht');have hcs:=Xfk hd;refine Xii (by decide) fun j v hj=>?_
 have h2:=World.var?_cell hg' hvar j;rw [X12,Yd];rw [← Y4u,hcs,hj] at h2;exact h2
theorem Xho {W:World} {nm:String} {gi:Nat} {ty:String} {d:DataW Unit} (hg:Tryz.prog.globalNamed nm=some gi) (ht:(Tryz.prog.globals[gi]?).map (·.type)=some 132) (h:Lib.VarReads Tryz.prog W nm (.iface ty d)):∃ te pe,W.cell? ⟨gi,0,none⟩=some (.iface te pe):=by
 obtain ⟨g',t',cs,fuel,p,hg',ht',hvar,hd⟩:=h;obtain rfl:=Option.some.inj (hg.symm.trans hg');obtain rfl:=Option.some.inj (ht.symm.trans ht');obtain ⟨u,v,hcs⟩:=Xks Xv0 hd;have h2:=World.var?_cell hg' hvar 0;rw [← Y4u,hcs] at h2;exact ⟨u,v,h2⟩
theorem Xk9 {W : World} (h2 : Lib.VarReads Tryz.prog W "internal/strconv.uint64pow10" Rows.laid_internal_strconv_uint64pow10) (h3 : Lib.VarReads Tryz.prog W "matricula/ticket.prefixes" Rows.laid_matricula_ticket_prefixes) (h4 : Lib.VarReads Tryz.prog W "matricula/xml.marks" Rows.laid_matricula_xml_marks) (h5 : Lib.VarReads Tryz.prog W "strconv.ErrSyntax" Rows.laid_strconv_ErrSyntax) (h6 : Lib.VarReads Tryz.prog W "strconv.ErrRange" Rows.laid_strconv_ErrRange) (hsh : W.ShapedOpen Tryz.prog) : Kx (im0 W) ∧ PreAt (im0 W) := by
 refine ⟨?_,Xtv h3⟩;rw [Xoq] at h2;have t2:=X3l (g:=5) (by kernel_rfl) (by kernel_rfl) Xrh Xq3 (by kernel_rfl) (by kernel_rfl) h2;refine ⟨Xru h4,fun B w As hS=>Xmi t2 hS,fun B w As hS=>?_,fun B w As hS=>?_,fun B w As hS=>?_⟩
 ·obtain ⟨m,hm⟩:=Go.Proofs.cell_of_shapedOpen_int (g:=6) (t:=3) (zero:=#[.int .i64 0]) (k:=.i64) hsh (by decide +kernel) (by kernel_rfl) (by kernel_rfl) (by kernel_rfl) (by kernel_rfl) Qu3;exact ⟨m,X8w hm hS⟩
 ·obtain ⟨te,pe,h⟩:=Xho (gi:=3) (by kernel_rfl) (by kernel_rfl) h5;exact ⟨te,pe,X8w h hS⟩
 ·obtain ⟨te,pe,h⟩:=Xho (gi:=4) (by kernel_rfl) (by kernel_rfl) h6;exact ⟨te,pe,X8w h hS⟩
end Go.Proofs.YtbciobiiejpdgaaGreatDoor
namespace Go.Proofs.YtbciobiiejpdgaaGreatDoor
open Gk Pc Xm Tk
theorem Xmw {W : World} (h1 : Lib.VarReads Tryz.prog W "matricula/pct.digits" Rows.laid_matricula_pct_digits) (h2 : Lib.VarReads Tryz.prog W "internal/strconv.uint64pow10" Rows.laid_internal_strconv_uint64pow10) (h3 : Lib.VarReads Tryz.prog W "matricula/ticket.prefixes" Rows.laid_matricula_ticket_prefixes) (h4 : Lib.VarReads Tryz.prog W "matricula/xml.marks" Rows.laid_matricula_xml_marks) (h5 : Lib.VarReads Tryz.prog W "strconv.ErrSyntax" Rows.laid_strconv_ErrSyntax) (h6 : Lib.VarReads Tryz.prog W "strconv.ErrRange" Rows.laid_strconv_ErrRange) (hsh : W.ShapedOpen Tryz.prog) : (Known (im0 W) ∧ PreAt (im0 W)) ∧ Kx (im0 W) := ⟨Xr1 h1 h2 h3 hsh, (Xk9 h2 h3 h4 h5 h6 hsh).1⟩
end Go.Proofs.YtbciobiiejpdgaaGreatDoor
namespace Go.Proofs.YtbciobiiejpdgaaGreatDoor
open Gk Ul Pc Pat Xm Tr Tk Go.ChangeMaps Go.ChangeShapes Go.RowKit Go.WideShapes
set_option maxRecDepth 100000
theorem Xjs {H:Type} {enc:TypeId×Value→H} {W:World} {spare:Nat→Bool} {held:Bool} {fuel:Nat} {cs:List Value} {x:DataW H×List MemPlace} (h:DataW.trod enc Tryz.prog W 0 spare held fuel 4 cs=some x):∃ b:Bool,cs=Xhr b∧True:=by
 obtain ⟨b,e,_⟩:=DataW.trod_bool Qu4 h;exact ⟨b,e,trivial⟩
end Go.Proofs.YtbciobiiejpdgaaGreatDoor
