/- Part 8 of what the proof stands on: W20m, GkK, Kn2, Op20. -/
import Derived.Test.YtadhiihnnkcagaaGreatDoorM2GG
import Derived.Lib.LaidTab
import Derived.Lib.LaidU8
import Derived.Lay
import Derived.Shelf.Vars
import Derived.HandedShaped
import Derived.MakeChecks
import Derived.Test.YtadhiihnnkcagaaGreatDoorRows
import Derived.KernelRfl
import Derived.OpenShut
set_option linter.unusedVariables false
set_option linter.unusedSimpArgs false
namespace Go.Proofs.YtadhiihnnkcagaaGreatDoor
open Gk Ul Pc Tk Tr
theorem Xhd (p:Wp) (x:Xp) (ω:Wd) (hω:X46 ω) (la:Option Addr) (lc:Nat) (da:Option Addr) (dc:Nat) (B w:World) (I:Im) (hM:RwM I la da dc ω) (As:List X8) (hS:Sat B w I (wdA p ω::blk x.xb (XC x da ω.D.length dc ω.now) 83::blk x.tb [I64 ω.room,.slice la ω.l.length lc] 79::As)) :
  Calls Tryz.prog 52 [ptr p.wb 0,ptr x.xb 0].toArray w (Ret fun v w'=>v=.bool true∧Sat B w' I (wdA p ω::blk x.xb (XC x da ω.D.length dc ω.now) 83::blk x.tb [I64 ω.room,.slice la ω.l.length lc] 79::As)):=by
 refine calls Tryz.func52 rfl Tryz.ntmps52 rfl (.seq (.q 1 rfl (.seq ?_)))
 obtain ⟨⟨a5,c5,ma5,mc5⟩,hS⟩:=Sat.unbox hS
 replace hS:Sat B _ _ (blk p.wb (wdC p ω) 52::blk p.tb [I64 ω.room,.slice a5 ω.l.length c5] 127::Vec 45 10 (.slice a5 ω.l.length c5) ω.l.length (Xf ω.l)::blk p.mb [.slice ma5 ω.D.length mc5] 168::X4a 118 (.slice ma5 ω.D.length mc5) (ω.D.map fun d=>U64 (d:Nat))::_):=hS
 have hlen:=hω.len
 refine .drawn (fun w=>∃ J9 R,Le I J9∧Sat B w J9 (blk p.wb (wdC p ω) 52::blk x.xb (XC x da ω.D.length dc ω.now) 83::blk x.tb [I64 ω.room,.slice la ω.l.length lc] 79::R)) (fun j=>!([].contains j)) (by kernel_rfl) ?_
 replace hS:=hS.drew; generalize w.drew=w at hS ⊢
 have hH:∃ J9 R,Le I J9∧Sat B w J9 (blk p.wb (wdC p ω) 52::blk x.xb (XC x da ω.D.length dc ω.now) 83::blk x.tb [I64 ω.room,.slice la ω.l.length lc] 79::R):=⟨_,_,Le.refl _,(((hS.pick 6 rfl).pick 6 rfl).pick 2 rfl)⟩
 refine .tp (i:=0) rfl (by kernel_rfl) (fun w=>(.move (.of rfl))) rfl (.tp (i:=1) rfl (by kernel_rfl) (fun w=>(.nilCheck (.of rfl))) rfl ?_)
 refine WD.tp (i:=2) rfl (by kernel_rfl) (fun w=>(.fieldAddr 0 (.of rfl) X72 rfl rfl Xly rfl)) rfl (WD.tk (i:=3) rfl (by kernel_rfl) hH (fun w ⟨J9,R,hL9,hS⟩=>((.ld (.of rfl) hS (k:=0) rfl Xip rfl))) rfl (.tp (i:=5) rfl (by kernel_rfl) (fun w=>(.move (.of rfl))) rfl (.tp (i:=6) rfl (by kernel_rfl) (fun w=>(.nilCheck (.of rfl))) rfl ?_)))
 refine WD.tp (i:=7) rfl (by kernel_rfl) (fun w=>(.fieldAddr 28 (.of rfl) X7f rfl rfl Xph rfl)) rfl (WD.tk (i:=8) rfl (by kernel_rfl) hH (fun w ⟨J9,R,hL9,hS⟩=>((.ld (.of rfl) hS (k:=1) rfl Xpv rfl))) rfl (.tp (i:=9) rfl (by kernel_rfl) (fun w=>(.nilCheck (.of rfl))) rfl (WD.tp (i:=10) rfl (by kernel_rfl) (fun w=>(.fieldAddr 1 (.of rfl) X9t rfl rfl X3i rfl)) rfl (WD.tk (i:=11) rfl (by kernel_rfl) hH (fun w ⟨J9,R,hL9,hS⟩=>((.ld (.of rfl) hS (k:=2) rfl X7l rfl))) rfl (WD.branch [4] (by kernel_rfl) rfl (WO.cons rfl ?_ (WO.nil)))))))
 refine .call Tryz.func29 rfl (X0 (.of rfl) X4) rfl (Xf0 p.tb ω.room a5 c5 ω.l (by omega) B _ I _ ((hS.pick 2 rfl).pick 2 rfl)) ?_
 clear hS
 rintro _ w ⟨J1,wa,wc,rfl,hJ1,hwc,hRw,hS⟩
 try dsimp only [List.eraseIdx] at hS
 refine .nil ?_
 clear hH
 have hH:∃ J9 R,Le I J9∧Sat B w J9 (blk p.wb (wdC p ω) 52::blk x.xb (XC x da ω.D.length dc ω.now) 83::blk x.tb [I64 ω.room,.slice la ω.l.length lc] 79::R):=⟨_,_,hJ1,(((hS.pick 6 rfl).pick 6 rfl).pick 4 rfl)⟩
 refine And.intro (by intro _ _; exact hH) ?_
 refine WD.branch [12] (by kernel_rfl) rfl (WO.cons rfl ?_ (WO.nil))
 refine .call Tryz.func28 rfl (X0 (.of rfl) (X0 (.of rfl) X4)) rfl (Xcs wa la wc lc ω.l ω.l (by omega) B _ J1 hRw (hM.1.mono hJ1) _ hS) ?_
 clear hS
 rintro _ w ⟨rfl,hS⟩
 refine .nil ?_
 clear hH
 have hH:∃ J9 R,Le I J9∧Sat B w J9 (blk p.wb (wdC p ω) 52::blk x.xb (XC x da ω.D.length dc ω.now) 83::blk x.tb [I64 ω.room,.slice la ω.l.length lc] 79::R):=⟨_,_,hJ1,(((hS.pick 6 rfl).pick 6 rfl).pick 4 rfl)⟩
 refine And.intro (by intro _ _; exact hH) ?_
 refine .tp (i:=13) rfl (by kernel_rfl) (fun w=>(.move (.of rfl))) rfl (.tg (i:=14) rfl (by kernel_rfl) hH rfl rfl (fun hg1 w ⟨J9,R,hL9,hS⟩=>(.move (.of rfl))) rfl (.tg (i:=15) rfl (by kernel_rfl) hH rfl rfl (fun hg1 w ⟨J9,R,hL9,hS⟩=>(.nilCheck (.gd hg1 rfl))) rfl ?_))
 refine WD.tg (i:=16) rfl (by kernel_rfl) hH rfl rfl (fun hg1 w ⟨J9,R,hL9,hS⟩=>(.fieldAddr 1 (.gd hg1 rfl) X72 rfl rfl Qs48 rfl)) rfl (WD.tg (i:=17) rfl (by kernel_rfl) hH rfl rfl (fun hg1 w ⟨J9,R,hL9,hS⟩=>((.ld (.gd hg1 rfl) hS (k:=0) rfl Qg48 rfl))) rfl (.tg (i:=19) rfl (by kernel_rfl) hH rfl rfl (fun hg1 w ⟨J9,R,hL9,hS⟩=>(.move (.of rfl))) rfl (.tg (i:=20) rfl (by kernel_rfl) hH rfl rfl (fun hg1 w ⟨J9,R,hL9,hS⟩=>(.nilCheck (.gd hg1 rfl))) rfl ?_)))
 refine WD.tg (i:=21) rfl (by kernel_rfl) hH rfl rfl (fun hg1 w ⟨J9,R,hL9,hS⟩=>(.fieldAddr 29 (.gd hg1 rfl) X7f rfl rfl X9z rfl)) rfl (WD.tg (i:=22) rfl (by kernel_rfl) hH rfl rfl (fun hg1 w ⟨J9,R,hL9,hS⟩=>((.ld (.gd hg1 rfl) hS (k:=1) rfl Xhz rfl))) rfl (.tg (i:=23) rfl (by kernel_rfl) hH rfl rfl (fun hg1 w ⟨J9,R,hL9,hS⟩=>(.lenSlice (.gd hg1 rfl) Xeb)) rfl (WD.branch [18] (by kernel_rfl) rfl (WO.cons rfl ?_ (WO.nil)))))
 have hS0:=hS
 replace hS:=((hS.pick 4 rfl).pick 4 rfl)
 try dsimp only [List.eraseIdx] at hS
 refine .gcall (T:=fun w=>Sat B w J1 _) rfl rfl rfl Tryz.func55 rfl (fun hg1=>(X0 (.gd hg1 rfl) X4)) rfl (fun hg1=>Xmx p.mb ma5 mc5 ω.D B _ J1 _ hS) hS ?_
 clear hS; rintro w hS
 refine .nil ?_
 clear hH
 have hH:∃ J9 R,Le I J9∧Sat B w J9 (blk p.wb (wdC p ω) 52::blk x.xb (XC x da ω.D.length dc ω.now) 83::blk x.tb [I64 ω.room,.slice la ω.l.length lc] 79::R):=⟨_,_,hJ1,(((hS.pick 6 rfl).pick 6 rfl).pick 6 rfl)⟩
 refine And.intro (by intro _ _; exact hH) ?_
 refine .tg (i:=24) rfl (by kernel_rfl) hH rfl rfl (fun hg1 w ⟨J9,R,hL9,hS⟩=>(.eql (.gd hg1 rfl) (.gd hg1 rfl))) rfl (.tp (i:=25) rfl (by kernel_rfl) (fun w=>(.pand (.of rfl) (.of rfl) (.of rfl))) rfl (.tp (i:=26) rfl (by kernel_rfl) (fun w=>(.move (.of rfl))) rfl (.tg (i:=27) rfl (by kernel_rfl) hH rfl rfl (fun hg1 w ⟨J9,R,hL9,hS⟩=>(.move (.of rfl))) rfl (.tg (i:=28) rfl (by kernel_rfl) hH rfl rfl (fun hg1 w ⟨J9,R,hL9,hS⟩=>(.nilCheck (.gd hg1 rfl))) rfl ?_))))
 refine WD.tg (i:=29) rfl (by kernel_rfl) hH rfl rfl (fun hg1 w ⟨J9,R,hL9,hS⟩=>(.fieldAddr 25 (.gd hg1 rfl) X72 rfl rfl Qs3 rfl)) rfl (WD.tg (i:=30) rfl (by kernel_rfl) hH rfl rfl (fun hg1 w ⟨J9,R,hL9,hS⟩=>((.ld (.gd hg1 rfl) hS (k:=0) rfl Qg3 rfl))) rfl (.tg (i:=31) rfl (by kernel_rfl) hH rfl rfl (fun hg1 w ⟨J9,R,hL9,hS⟩=>(.move (.of rfl))) rfl (.tg (i:=32) rfl (by kernel_rfl) hH rfl rfl (fun hg1 w ⟨J9,R,hL9,hS⟩=>(.nilCheck (.gd hg1 rfl))) rfl ?_)))
 refine WD.tg (i:=33) rfl (by kernel_rfl) hH rfl rfl (fun hg1 w ⟨J9,R,hL9,hS⟩=>(.fieldAddr 30 (.gd hg1 rfl) X7f rfl rfl Qs3 rfl)) rfl (WD.tg (i:=34) rfl (by kernel_rfl) hH rfl rfl (fun hg1 w ⟨J9,R,hL9,hS⟩=>((.ld (.gd hg1 rfl) hS (k:=1) rfl Qg3 rfl))) rfl (.tg (i:=35) rfl (by kernel_rfl) hH rfl rfl (fun hg1 w ⟨J9,R,hL9,hS⟩=>(.eql (.gd hg1 rfl) (.gd hg1 rfl))) rfl (.tp (i:=36) rfl (by kernel_rfl) (fun w=>(.pand (.of rfl) (.of rfl) (.of rfl))) rfl (.tp (i:=37) rfl (by kernel_rfl) (fun w=>(.assign (.of rfl))) rfl (.done (by kernel_rfl) (.ret (X9 Tryz.results52 rfl ?_)))))))
 replace hS:=Sat.box (T:=wdT p ω) (a5,c5,ma5,mc5) (((((hS.pick 1 rfl).pick 1 rfl).pick 3 rfl).pick 3 rfl).pick 4 rfl)
 try dsimp only [List.eraseIdx] at hS
 replace hS:=hS.weaken hJ1
 exact ⟨_,rfl,by simp,(((hS.pick 2 rfl).pick 2 rfl).pick 2 rfl)⟩
def X26 (lo:List Sv) (us:List Us) (ps:Nat→Int) (ω:Wd) (names:List (List UInt8)) (o:Op):((List UInt8×List UInt8)×Nat)×Wd :=
 if o.act=1 then ((([],[]),0),X2j ω o.d)
 else if o.act=2 then ((([],[]),0),Xp9 ω o.n)
 else if o.act=3 then ((((mkW ω LTr).1.1,[]),(mkW ω LTr).1.2),(mkW ω LTr).2)
 else if o.act=4 then ((((Xq us ps ω (X1b names o.a) o.b o.c).1.1,[]),(Xq us ps ω (X1b names o.a) o.b o.c).1.2),(Xq us ps ω (X1b names o.a) o.b o.c).2)
 else if o.act=5 then Xu lo ps ω (X1b names o.a) o.b o.f
 else if o.act=6 then ((((mkW ω { o.r with parent:=X1b names o.a }).1.1,[]),(mkW ω { o.r with parent:=X1b names o.a }).1.2),(mkW ω { o.r with parent:=X1b names o.a }).2)
 else if o.act=7 then ((([],[]),0),X84 ω (X1b names o.a))
 else ((([],[]),0),ω)
theorem Xjh {lo:List Sv} {us:List Us} {ps:Nat→Int} {ω:Wd} {ns:List (List UInt8)} {o:Op}:(X26 lo us ps ω ns o).1.1.1.length≤60:=by
 unfold X26
 split
 ·exact Yp _
 ·split
  ·exact Yp _
  ·split
   ·exact X8d
   ·split
    ·exact X9h
    ·split
     ·exact Xei
     ·split
      ·exact X8d
      ·split <;> exact Yp _
theorem Xkf {lo:List Sv} {us:List Us} {ps:Nat→Int} {ω:Wd} {ns:List (List UInt8)} {o:Op} (h:X46 ω) (hd:∀ x∈o.d,x<18446744073709551616):X46 (X26 lo us ps ω ns o).2:=by
 unfold X26
 split
 ·exact X6k h hd
 ·split
  ·exact Xq5 h _
  ·split
   ·exact X3b h _
   ·split
    ·exact X9k h _ _ _
    ·split
     ·exact Xd7 h _ _ _
     ·split
      ·exact X3b h _
      ·split
       ·exact Xcg h _
       ·exact h
theorem actG_D {lo:List Sv} {us:List Us} {ps:Nat→Int} {ω:Wd} {ns:List (List UInt8)} {o:Op} (hb:o.d.length≤10):(X26 lo us ps ω ns o).2.D.length≤ω.D.length+10:=by
 unfold X26
 split
 ·show (ω.D ++ o.d).length≤_
  rw [Y0]; omega
 ·split
  ·exact Y2p _ _
  ·split
   ·exact Y27 Xie (Y2p _ _)
   ·split
    ·exact Y27 Xmy (Y2p _ _)
    ·split
     ·exact Y27 Xn5 (Y2p _ _)
     ·split
      ·exact Y27 Xie (Y2p _ _)
      ·split <;> exact Y2p _ _
def Xrd (lo:List Sv) (us:List Us) (ps:Nat→Int) (s:Wd×List (List UInt8)) (o:Op):Wd×List (List UInt8):=((X26 lo us ps s.1 s.2 o).2,Xit s.2 (X26 lo us ps s.1 s.2 o).1.1.1)
theorem Xgc {lo:List Sv} {us:List Us} {ps:Nat→Int} {i:Nat} {s:Wd×List (List UInt8)} {o:Op} (h:WkOk i s) (hd:∀ x∈o.d,x<18446744073709551616) (hb:o.d.length≤10):WkOk (i+1) (Xrd lo us ps s o):=by
 refine ⟨Xkf h.ok hd,fun t ht=>?_,?_,?_⟩
 ·change t∈Xit _ _ at ht
  unfold Xit at ht
  split at ht
  ·rcases Y12.1 ht with h1 | h1
   ·exact h.nm t h1
   ·rw [Y4p.1 h1]; exact Xjh
  ·exact h.nm t ht
 ·show (Xit _ _).length≤_
  have:=h.nl
  unfold Xit
  split
  ·rw [Y0,Y8,Yk]; omega
  ·omega
 ·have:=actG_D (lo:=lo) (us:=us) (ps:=ps) (ω:=s.1) (ns:=s.2) hb
  have:=h.dl
  show (X26 lo us ps s.1 s.2 o).2.D.length≤_
  omega
theorem Xa8 (q:Ak) (hqs:q.service.length≤1000000) (x:Xp) {lo:List Sv} {us:List Us} {ps:Nat→Int} (ω:Wd) (hω:X46 ω) (la:Option Addr) (lc:Nat) (da:Option Addr) (dc:Nat) (B w:World) (I:Im) (hX:XpOk I x lo us ps) (hM:RwM I la da dc ω) (A0:X8) (As:List X8) (hS:Sat B w I (A0::blk x.xb (XC x da ω.D.length dc ω.now) 83::blk x.tb [I64 ω.room,.slice la ω.l.length lc] 79::As)) :
  Calls Tryz.prog 53 [ptr x.xb 0,.agg (X9n q).toArray].toArray w (Ret fun v w'=>v=I64 ((Xn lo ps ω q:Nat):Int)∧Sat B w' I (A0::blk x.xb (XC x da ω.D.length dc ω.now) 83::blk x.tb [I64 ω.room,.slice la ω.l.length lc] 79::As)) :=
 (Xc8 q hqs x ω hω la lc da dc B w I hX hM _ (((hS.pick 1 rfl).pick 2 rfl).pick 1 rfl)).mono fun e w' ⟨v,he,hv,hS⟩=>⟨v,he,hv,hS.pick 2 rfl⟩
set_option maxRecDepth 20000 in
theorem Xac (c:Cf) (a:Option Addr) (cap:Nat) (ua:Option Addr) (ucap:Nat) (oa:Option Addr) (oc:Nat) (l:List Op) (hol:l.length≤9223372036854775807) (hfit:∀ o∈l,o.fits) (B w:World) (I:Im) (hK:Known I) (hP:PreAt I) (hC:CfAt I c a cap ua ucap) (hO:OpsAt I oa l) (As:List X8) (hS:Sat B w I As) :
  Calls Tryz.prog 11 [.agg (X12 c a cap ua ucap).toArray,.slice oa l.length oc].toArray w (Ret fun v w'=>v=.bool true∧∃ J,Le I J∧Sat B w' J As):=by
 refine calls Tryz.func11 rfl Tryz.ntmps11 rfl (.seq (.region (.boxA (cs:=X12 c a cap ua ucap) hS (.of rfl) rfl ?_)))
 clear hS; intro b2 w hS
 refine .q 1 rfl (.nil (.seq (.region (.call Tryz.func34 rfl X4 rfl (Xf8 B _ I hK hP _ hS) ?_))))
 clear hS
 rintro _ w ⟨rfl,hS⟩
 refine .q 1 rfl (.nil (.seq (.region ?_)))
 refine WL.val (.lds (vs:=X12 c a cap ua ucap) (.of rfl) hS (k:=0) rfl Xqa Xij rfl (fun j v hj=>by rw [Yd]; exact hj)) rfl ?_
 refine .q 1 rfl (.call Tryz.func35 rfl (X0 (.of rfl) (X0 (.of rfl) X4)) rfl (Xiv c a cap ua ucap oa oc l hol B _ I hC hO _ hS) ?_)
 clear hS
 rintro _ w ⟨rfl,hS⟩
 refine .q 1 rfl (.nil (.seq (.seq (.q 2 rfl ?_))))
 refine WC.cond rfl (fun hb32=>?_) (fun hb32=>?_)
 ·
  refine .seq (.q 2 rfl (.ret (X9 Tryz.results11 rfl ?_)))
  exact ⟨_,rfl,rfl,I,Le.refl _,hS.drop (k:=0) rfl⟩
 have hc32:=hb32; try simp only [Y6] at hc32
 refine .skip (.seq ?_)
 have hf:Xht c l=true:=by simpa using hb32
 refine .region ?_
 refine WL.val (.lds (vs:=X12 c a cap ua ucap) (.of rfl) hS (k:=0) rfl Xqa Xij rfl (fun j v hj=>by rw [Yd]; exact hj)) rfl ?_
 have hc:=Xk6 hC (X9u hf).1
 refine .call Tryz.func41 rfl (X0 (.of rfl) X4) rfl (X7x c hc a cap ua ucap B _ I hK hP hC.svs hC.us _ hS) ?_
 clear hS
 rintro v w ⟨J,hJ,hcase⟩
 obtain ⟨pv,rfl,hcs⟩:∃ (pv:Option Addr),v=.tuple #[.pointer pv,I64 (X5p c:Nat)]∧((X5p c≠0∧pv=none∧Sat B w J (blk b2 (X12 c a cap ua ucap) 34::As))∨(X5p c=0∧∃ p D,Srt.Ord (kx (ords c.svs)) c.svs.length D∧p.lo=X48 c.svs D∧p.us=c.us∧p.ps=c.ps∧pv=some (ad p.wb 0)∧WpOk J p∧Sat B w J (wdA p (w0 c)::blk b2 (X12 c a cap ua ucap) 34::As))):=by
  rcases hcase with ⟨h1,h2,h3⟩ | ⟨h1,p,D,h2,h3,h4,h5,h6,h7,h8⟩
  ·exact ⟨_,h2,.inl ⟨h1,rfl,h3⟩⟩
  ·exact ⟨_,by rw [h6,h1]; rfl,.inr ⟨h1,p,D,h2,h3,h4,h5,rfl,h7,h8⟩⟩
 refine .q 4 rfl ?_
 rcases hcs with ⟨hne,rfl,hS⟩ | ⟨hz,p,D,hD,hlo,hus,hps,rfl,hI,hS⟩
 ·
  refine .val (.assign (.of rfl)) rfl (.nil (.seq (.region ?_)))
  refine WL.val (.lds (vs:=X12 c a cap ua ucap) (.of rfl) hS (k:=0) rfl Xqa Xij rfl (fun j v hj=>by rw [Yd]; exact hj)) rfl ?_
  refine .call Tryz.func24 rfl (X0 (.of rfl) X4) rfl (X9s c hc a cap ua ucap B _ J (hC.mono hJ) _ hS) ?_
  clear hS
  rintro v w hn
  obtain ⟨_,rfl,hS⟩:=hn.resolve_right (fun h=>hne h.1)
  refine .q 5 rfl (.nil (.seq (.seq (.t 4 rfl (.gval rfl rfl (fun hg1=>(.move (.of rfl))) rfl (.gval rfl rfl (fun hg1=>(.eqp (.gd hg1 rfl) (.of rfl) Qu39)) rfl (.gval rfl rfl (fun hg1=>(.move (.of rfl))) rfl (.gval rfl rfl (fun hg1=>(.eqp (.gd hg1 rfl) (.of rfl) Tryz.underlying71)) rfl (.gval rfl rfl (fun hg1=>(.neb (.gd hg1 rfl) (.gd hg1 rfl) Qu4)) rfl (.val (.por (.of rfl) (.of rfl) (.of rfl)) rfl (.nil (.condF (congrArg (fun b=>some (Value.bool b)) (by simp)) (.skip (.seq (.seq (.t 1 rfl (.val (.eqp (.of rfl) (.of rfl) Qu39) rfl (.nil (.condT (congrArg (fun b=>some (Value.bool b)) (by simp)) (.seq (.q 2 rfl (.ret (X9 Tryz.results11 rfl ?_)))))))))))))))))))))))
  exact ⟨_,rfl,rfl,J,hJ,hS.drop (k:=0) rfl⟩
 refine .val (.assign (.of rfl)) rfl (.nil (.seq (.region ?_)))
 refine WL.val (.lds (vs:=X12 c a cap ua ucap) (.of rfl) hS (k:=1) rfl Xqa Xij rfl (fun j v hj=>by rw [Yd]; exact hj)) rfl ?_
 refine .call Tryz.func24 rfl (X0 (.of rfl) X4) rfl (X9s c hc a cap ua ucap B _ J (hC.mono hJ) _ hS) ?_
 clear hS
 rintro v w hn
 obtain ⟨_,xb,tb,rfl,hS⟩:=hn.resolve_left (fun h=>h.1 hz)
 obtain ⟨x,hx9⟩:∃ x:Xp,x=⟨xb,tb,c,a,cap,ua,ucap,D⟩:=⟨_,rfl⟩
 have hX:XpOk J x p.lo p.us p.ps:=by rw [hx9]; exact ⟨hC.mono hJ,hc,hz,hD,hlo,hus,hps⟩
 rw [show ptr xb 0=ptr x.xb 0 by rw [hx9]]
 replace hS:Sat B w J (blk x.xb (XC x none (w0 c).D.length 0 (w0 c).now) 83::blk x.tb [I64 (w0 c).room,.slice none (w0 c).l.length 0] 79::wdA p (w0 c)::blk b2 (X12 c a cap ua ucap) 34::As):=by rw [hx9]; exact hS
 rw [hz]
 have hfw:=X9u hf
 refine .q 5 rfl (.nil (.seq (.seq (.t 4 rfl (.gval rfl rfl (fun hg1=>(.move (.of rfl))) rfl (.gval rfl rfl (fun hg1=>(.eqp (.gd hg1 rfl) (.of rfl) Qu39)) rfl (.gval rfl rfl (fun hg1=>(.move (.of rfl))) rfl (.gval rfl rfl (fun hg1=>(.eqp (.gd hg1 rfl) (.of rfl) Tryz.underlying71)) rfl (.gval rfl rfl (fun hg1=>(.neb (.gd hg1 rfl) (.gd hg1 rfl) Qu4)) rfl (.val (.por (.of rfl) (.of rfl) (.of rfl)) rfl (.nil (.condF (congrArg (fun b=>some (Value.bool b)) (by simp)) (.skip (.seq (.seq (.t 1 rfl (.val (.eqp (.of rfl) (.of rfl) Qu39) rfl (.nil (.condF (congrArg (fun b=>some (Value.bool b)) (by simp)) (.skip (.seq (.q 1 rfl (.seq (.seq (.q 1 rfl (.block ?_))))))))))))))))))))))))))
 replace hS:=(((hS.vecNil 9 1).pick 3 rfl).pick 1 rfl)
 try dsimp only [List.eraseIdx] at hS
 refine .loop (σ:=(Wd×List (List UInt8))×Nat×Value×Option Addr×Nat×Option Addr×Nat×Im) (fun ⟨s,i,dv,la,lc,da,dc,J2⟩=>[(1,.slice oa l.length oc),(2,ptr b2 0),(5,.bool true),(7,ptr p.wb 0),(9,ptr x.xb 0),(11,dv),(12,I64 (i:Nat))]) (fun ⟨s,i,dv,la,lc,da,dc,J2⟩ w=>i≤l.length∧Le J J2∧WkOk i s∧RwM J2 la da dc s.1∧Sat B w J2 (Vec 9 1 dv s.2.length (s.2.map S)::wdA p s.1::blk x.xb (XC x da s.1.D.length dc s.1.now) 83::blk x.tb [I64 s.1.room,.slice la s.1.l.length lc] 79::blk b2 (X12 c a cap ua ucap) 34::As)) (fun ⟨s,i,dv,la,lc,da,dc,J2⟩=>l.length - i) ((w0 c,[]),0,.slice none 0 0,none,0,none,0,J) ⟨rfl,rfl,rfl,rfl,rfl,rfl,rfl,trivial⟩ ⟨Yp _,Le.refl _,w0_wk c,⟨RS.nil _ _,RS.nil _ _,Yt _⟩,hS⟩ ?_
 rintro ⟨s,i,dv,la,lc,da,dc,J2⟩ w ⟨hi,hJ2,hwk,hM,hS⟩
 refine .seq (.seq (.region (.run 4 rfl ⟨⟨_,Xhm⟩,trivial⟩ (.nil ?_))))
 refine WC.cond rfl (fun hb60=>?_) (fun hb60=>?_)
 ·
  have hc60:=hb60; try simp only [Y6] at hc60
  refine .skip (.seq (.block (.seq ?_)))
  obtain ⟨o,ho⟩:∃ o,l[i]?=some o:=⟨_,Y4 (by omega)⟩
  obtain ⟨pp,cs,hp9,hx,da9,dc9,rfl,hdc,hdm,hd⟩:=(hO.mono (hJ.trans hJ2)).at i o ho
  subst hp9
  unfold Xg1 at hx
  have hof:=hfit o (Ym ho)
  have hob:=hfw.2.2 o (Ym ho)
  have hb9:=hof.b
  have hc9:=hof.c
  unfold maxLen at hb9 hc9
  have hω:=hwk.ok
  have hlen:=hω.len
  have hnl:=hwk.nl
  have hdl:=hwk.dl
  have htn:=Xk9 hwk.nm o.a
  have hI2:=hI.mono hJ2
  have hX2:=hX.mono hJ2
  obtain ⟨va,vc,hdv,hvc,_⟩:=hS.vecSlice (k:=0) rfl
  subst hdv
  refine .t 2 rfl (WL.val (.indexAddrI (.of rfl) (.of rfl) (by omega) (by omega) Xhm Xjz) rfl (WL.val (.ldsI (.of rfl) hS hx Tryz.isAgg97 Xjz rfl (fun _ _ h=>h)) rfl (.allocA (cs:=[_,_,_,_,_,_,_,_,_,_,_,_,_,_,_,_,_,_,_,_,_,_,_]) hS Tryz.zeroValue97 rfl ?_)))
  clear hS; intro b13 w hS
  refine WL.stA hS (k:=0) rfl (.of rfl) (.of rfl) rfl Xjz rfl (by simp) ?_
  clear hS; intro w hS
  try simp only [Yl,Yf,Yc,Y9,Yj,Yo,Yd] at hS
  refine .nil (.seq (.t 1 rfl ?_))
  refine WL.val (.fieldAddr 3 (.of rfl) X7n rfl rfl Qs3 rfl) rfl (WL.val (.ld (.of rfl) hS (k:=0) rfl Qg3 rfl) rfl ?_)
  refine WL.call Tryz.func38 rfl (X0 (.of rfl) (X0 (.of rfl) X4)) rfl (Xjr va vc s.2 (by omega) o.a B _ J2 _ (fun w h=>Xnd (cells:=Xdj) (s:=1) (fun _=>rfl) h (k:=1) (by rw [rowsT]; rfl)) hS) ?_
  clear hS
  rintro _ w ⟨rfl,hS⟩
  refine .q 1 rfl (.nil (.seq (.q 3 rfl (.seq (.q 3 rfl ?_)))))
  refine WC.cutS (σ:=Im×Option Addr×Nat×Option Addr×Nat×List UInt8) (fun ⟨J3,la2,lc2,da2,dc2,pr⟩=>[(1,.slice (some pp) l.length oc),(2,ptr b2 0),(5,.bool true),(7,ptr p.wb 0),(9,ptr x.xb 0),(11,.slice va s.2.length vc),(12,I64 (i:Nat)),(13,ptr b13 0),(14,S (X1b s.2 o.a)),(15,S (X26 p.lo p.us p.ps s.1 s.2 o).1.1.1),(16,S (X26 p.lo p.us p.ps s.1 s.2 o).1.1.2),(17,I64 (((X26 p.lo p.us p.ps s.1 s.2 o).1.2:Nat):Int)),(18,S (X26 p.lo p.us p.ps s.1 s.2 o).1.1.1),(19,S (X26 p.lo p.us p.ps s.1 s.2 o).1.1.2),(20,I64 (((X26 p.lo p.us p.ps s.1 s.2 o).1.2:Nat):Int))]) (fun ⟨J3,la2,lc2,da2,dc2,pr⟩ w=>Le J2 J3∧RwM J3 la2 da2 dc2 (X26 p.lo p.us p.ps s.1 s.2 o).2∧Sat B w J3 (wdA p (X26 p.lo p.us p.ps s.1 s.2 o).2::blk x.xb (XC x da2 (X26 p.lo p.us p.ps s.1 s.2 o).2.D.length dc2 (X26 p.lo p.us p.ps s.1 s.2 o).2.now) 83::blk x.tb [I64 (X26 p.lo p.us p.ps s.1 s.2 o).2.room,.slice la2 (X26 p.lo p.us p.ps s.1 s.2 o).2.l.length lc2] 79::blk b13 [I64 o.act,I64 o.n,.slice da9 o.d.length dc9,I64 o.a,S o.b,S o.c,.bool o.f,I64 o.r.kind,S o.r.name,S pr,S o.r.user,S o.r.service,S o.r.url,I64 o.r.made,I64 o.r.used,I64 o.r.uses,.bool o.r.fresh,S o.q.service,S o.q.cookie,.bool o.q.has,.bool o.q.renew,.bool o.q.gateway,.bool o.q.warn] 97::Vec 9 1 (.slice va s.2.length vc) s.2.length (s.2.map S)::blk b2 (X12 c a cap ua ucap) 34::As)) ?_ ?_
  ·
   refine .seq (.region ?_)
   refine WL.val (.fieldAddr 0 (.of rfl) X7n rfl rfl Qs3 rfl) rfl (WL.val (.ld (.of rfl) hS (k:=0) rfl Qg3 rfl) rfl (.nil (.block (.seq (.q 2 rfl ?_)))))
   refine WC.cond rfl (fun hb73=>?_) (fun hb73=>?_)
   ·
    refine .seq ?_
    replace hS:=(hS.pick 2 rfl)
    obtain ⟨⟨a5,c5,ma5,mc5⟩,hS⟩:=Sat.unbox hS
    replace hS:Sat B _ _ (blk p.wb (wdC p s.1) 52::blk p.tb [I64 s.1.room,.slice a5 s.1.l.length c5] 127::Vec 45 10 (.slice a5 s.1.l.length c5) s.1.l.length (Xf s.1.l)::blk p.mb [.slice ma5 s.1.D.length mc5] 168::X4a 118 (.slice ma5 s.1.D.length mc5) (s.1.D.map fun d=>U64 (d:Nat))::_):=hS
    refine .drawn (fun w=>∃ R,Sat B w J2 (blk b13 [I64 o.act,I64 o.n,.slice da9 o.d.length dc9,I64 o.a,S o.b,S o.c,.bool o.f,I64 o.r.kind,S o.r.name,S o.r.parent,S o.r.user,S o.r.service,S o.r.url,I64 o.r.made,I64 o.r.used,I64 o.r.uses,.bool o.r.fresh,S o.q.service,S o.q.cookie,.bool o.q.has,.bool o.q.renew,.bool o.q.gateway,.bool o.q.warn] 97::blk p.wb (wdC p s.1) 52::R)) (fun j=>!([].contains j)) (by kernel_rfl) ?_
    replace hS:=hS.drew; generalize w.drew=w at hS ⊢
    have hH:=((hS.pick 0 rfl).pick 5 rfl)
    refine .tp (i:=0) rfl (by kernel_rfl) (fun w=>(.move (.of rfl))) rfl (.tp (i:=1) rfl (by kernel_rfl) (fun w=>(.nilCheck (.of rfl))) rfl ?_)
    refine WD.tp (i:=2) rfl (by kernel_rfl) (fun w=>(.fieldAddr 1 (.of rfl) X72 rfl rfl Qs48 rfl)) rfl (WD.tk (i:=3) rfl (by kernel_rfl) ⟨_,hH⟩ (fun w ⟨R,hS⟩=>((.ld (.of rfl) hS (k:=1) rfl Qg48 rfl))) rfl (WD.tp (i:=4) rfl (by kernel_rfl) (fun w=>(.fieldAddr 2 (.of rfl) X7n rfl rfl X9z rfl)) rfl (WD.tk (i:=5) rfl (by kernel_rfl) ⟨_,hH⟩ (fun w ⟨R,hS⟩=>((.ld (.of rfl) hS (k:=0) rfl Xhz rfl))) rfl (WD.branch [6] (by kernel_rfl) rfl (WO.cons rfl ?_ (WO.nil))))))
    refine .call Tryz.func42 rfl (X0 (.of rfl) (X0 (.of rfl) X4)) rfl (Xgy p.mb ma5 mc5 s.1.D (by omega) da9 dc9 o.d (by omega) B _ J2 hd _ ((hS.pick 4 rfl).pick 4 rfl)) ?_
    clear hS
    rintro _ w ⟨rfl,ma6,mc6,hS⟩
    refine .nil ?_
    clear hH
    have hH:=((hS.pick 2 rfl).pick 5 rfl)
    refine And.intro (by intro _ _; exact ⟨_,hH⟩) ?_
    refine .done (by kernel_rfl) ?_
    replace hS:=Sat.box (T:=wdT p (X2j s.1 o.d)) (a5,c5,ma6,mc6) (((((hS.pick 1 rfl).pick 1 rfl).pick 4 rfl).pick 4 rfl).pick 4 rfl)
    refine .drawn (fun w=>∃ R,Sat B w J2 (blk b13 [I64 o.act,I64 o.n,.slice da9 o.d.length dc9,I64 o.a,S o.b,S o.c,.bool o.f,I64 o.r.kind,S o.r.name,S o.r.parent,S o.r.user,S o.r.service,S o.r.url,I64 o.r.made,I64 o.r.used,I64 o.r.uses,.bool o.r.fresh,S o.q.service,S o.q.cookie,.bool o.q.has,.bool o.q.renew,.bool o.q.gateway,.bool o.q.warn] 97::blk x.xb (XC x da s.1.D.length dc s.1.now) 83::R)) (fun j=>!([12].contains j)) (by kernel_rfl) ?_
    replace hS:=hS.drew; generalize w.drew=w at hS ⊢
    have hH:=((hS.pick 3 rfl).pick 2 rfl)
    refine .tp (i:=0) rfl (by kernel_rfl) (fun w=>(.move (.of rfl))) rfl (.tp (i:=2) rfl (by kernel_rfl) (fun w=>(.move (.of rfl))) rfl (.tp (i:=3) rfl (by kernel_rfl) (fun w=>(.nilCheck (.of rfl))) rfl ?_))
    refine WD.tp (i:=4) rfl (by kernel_rfl) (fun w=>(.fieldAddr 29 (.of rfl) X7f rfl rfl X9z rfl)) rfl (WD.tk (i:=5) rfl (by kernel_rfl) ⟨_,hH⟩ (fun w ⟨R,hS⟩=>((.ld (.of rfl) hS (k:=1) rfl Xhz rfl))) rfl (WD.tp (i:=7) rfl (by kernel_rfl) (fun w=>(.fieldAddr 2 (.of rfl) X7n rfl rfl X9z rfl)) rfl (WD.tk (i:=8) rfl (by kernel_rfl) ⟨_,hH⟩ (fun w ⟨R,hS⟩=>((.ld (.of rfl) hS (k:=0) rfl Xhz rfl))) rfl (WD.branch [1] (by kernel_rfl) rfl (WO.cons rfl ?_ (WO.nil))))))
    refine .buildSlice (cs:=[]) hS X6 Xeb Xfy Xsk rfl rfl rfl rfl ?_
    clear hS; intro b83 w hS
    refine .nil ?_
    clear hH
    have hH:=((hS.pick 4 rfl).pick 3 rfl)
    refine And.intro (by intro _ _; exact ⟨_,hH⟩) ?_
    refine WD.branch [6] (by kernel_rfl) rfl (WO.cons rfl ?_ (WO.nil))
    replace hS:=hS.vecOf (k:=0) (E:=118) (size:=1) (n:=0) rfl rfl (by decide)
    refine WL.appendF (size:=1) (bytes:=8) hS (.of rfl) (.of rfl) hM.2.1 (k:=0) rfl Xeb (i:=Tryz.t118) (by kernel_rfl) rfl rfl rfl rfl (Xfp _) ⟨by omega,by unfold maxLen; omega⟩ rfl ?_
    clear hS; intro v88 w hS
    rw [Yd,Yf] at hS
    refine .nil ?_
    clear hH
    have hH:=((hS.pick 4 rfl).pick 3 rfl)
    refine And.intro (by intro _ _; exact ⟨_,hH⟩) ?_
    refine WD.branch [9] (by kernel_rfl) rfl (WO.cons rfl ?_ (WO.nil))
    refine WL.appendF (size:=1) (bytes:=8) hS (.of rfl) (.of rfl) hd (k:=0) rfl Xeb (i:=Tryz.t118) (by kernel_rfl) rfl rfl rfl rfl (Xfp _) ⟨by omega,by unfold maxLen; omega⟩ rfl ?_
    clear hS; intro v91 w hS
    obtain ⟨a91,c91,hv91,hcap91,_⟩:=hS.vecSlice (k:=0) rfl
    subst hv91
    refine .nil ?_
    clear hH
    have hH:=((hS.pick 4 rfl).pick 3 rfl)
    refine And.intro (by intro _ _; exact ⟨_,hH⟩) ?_
    refine .tp (i:=10) rfl (by kernel_rfl) (fun w=>(.nilCheck (.of rfl))) rfl (WD.tp (i:=11) rfl (by kernel_rfl) (fun w=>(.fieldAddr 29 (.of rfl) X7f rfl rfl X9z rfl)) rfl (WD.branch [12] (by kernel_rfl) rfl (WO.cons rfl ?_ (WO.nil))))
    refine WL.st1 hS (k:=4) rfl (.of rfl) (.of rfl) rfl X9z (by simp) ?_
    clear hS; intro w hS
    refine .nil ?_
    refine And.intro (by intro h; cases h) ?_
    refine .done (by kernel_rfl) ?_
    obtain ⟨J4,hJ4,hR4,hS⟩:=hS.freezeVec (k:=0) rfl
    have hA9:X26 p.lo p.us p.ps s.1 s.2 o=((([],[]),0),X2j s.1 o.d):=by
     unfold X26
     rw [if_pos (by simpa using hb73)]
    refine ⟨(J4,la,lc,a91,c91,o.r.parent),?_⟩
    rw [hA9]
    exact ⟨⟨rfl,rfl,rfl,rfl,rfl,rfl,rfl,rfl,rfl,rfl,rfl,rfl,rfl,rfl,rfl,trivial⟩,hJ4,⟨hM.1.mono hJ4,by show RS J4 a91 1 (s.1.D ++ o.d).length ((s.1.D ++ o.d).map fun d=>U64 (d:Nat)); rw [Y0,Yw]; exact hR4,by show (s.1.D ++ o.d).length≤c91; rw [Y0]; exact hcap91⟩,(by show Sat B w J4 (wdA p (X2j s.1 o.d)::blk x.xb (XC x a91 (s.1.D ++ o.d).length c91 (X2j s.1 o.d).now) 83::blk x.tb [I64 (X2j s.1 o.d).room,.slice la (X2j s.1 o.d).l.length lc] 79::_); rw [Y0]; exact ((((((hS.pick 5 rfl).pick 3 rfl).pick 3 rfl).pick 5 rfl).pick 5 rfl).pick 5 rfl))⟩
   refine .seq (.q 2 rfl ?_)
   refine WC.cond rfl (fun hb94=>?_) (fun hb94=>?_)
   ·
    refine .seq (.t 1 rfl ?_)
    refine WL.val (.fieldAddr 1 (.of rfl) X7n rfl rfl Qs3 rfl) rfl (WL.val (.ld (.of rfl) hS (k:=0) rfl Qg3 rfl) rfl (.call Tryz.func20 rfl (X0 (.of rfl) (X0 (.of rfl) X4)) rfl (Xmz p s.1 o.n hω B _ J2 _ (hS.pick 2 rfl)) ?_))
    clear hS
    rintro _ w ⟨rfl,hS⟩
    refine .nil (.t 1 rfl ?_)
    refine WL.val (.fieldAddr 1 (.of rfl) X7n rfl rfl Qs3 rfl) rfl (WL.val (.ld (.of rfl) hS (k:=1) rfl Qg3 rfl) rfl (.call Tryz.func26 rfl (X0 (.of rfl) (X0 (.of rfl) X4)) rfl (Xff o.n x s.1 hω la lc da dc B _ J2 hX2 hM _ ((hS.pick 4 rfl).pick 4 rfl)) ?_))
    clear hS
    rintro _ w ⟨rfl,hS⟩
    refine .nil ?_
    have hA9:X26 p.lo p.us p.ps s.1 s.2 o=((([],[]),0),Xp9 s.1 o.n):=by
     unfold X26
     rw [if_neg (by simpa using hb73),if_pos (by simpa using hb94)]
    refine ⟨(J2,la,lc,da,dc,o.r.parent),?_⟩
    rw [hA9]
    exact ⟨⟨rfl,rfl,rfl,rfl,rfl,rfl,rfl,rfl,rfl,rfl,rfl,rfl,rfl,rfl,rfl,trivial⟩,Le.refl _,hM,((((((hS.pick 5 rfl).pick 5 rfl).pick 5 rfl).pick 4 rfl).pick 4 rfl).pick 5 rfl)⟩
   refine .seq (.q 2 rfl ?_)
   refine WC.cond rfl (fun hb104=>?_) (fun hb104=>?_)
   ·
    refine .seq (.t 1 rfl (.call Tryz.func43 rfl (X0 (.of rfl) X4) rfl (X4j p s.1 hω B _ J2 hI2 _ (hS.pick 2 rfl)) ?_))
    clear hS
    rintro _ w ⟨rfl,hS⟩
    refine .q 5 rfl (.nil (.t 1 rfl (.val (.build (cs:=[_,_,_,_,_,_,_,_,_,_]) (X5 (.of rfl) X6) X2e rfl) rfl (.call Qf46 rfl (X0 (.of rfl) (X0 (.of rfl) X4)) rfl (X3s LTr (by decide) x s.1 hω la lc da dc B _ J2 hX2 hM _ ((hS.pick 4 rfl).pick 4 rfl)) ?_))))
    clear hS
    rintro _ w ⟨rfl,J3,la2,lc2,da2,dc2,hJ3,hM3,hS⟩
    refine .q 5 rfl (.nil ?_)
    have hA9:X26 p.lo p.us p.ps s.1 s.2 o=((((mkW s.1 LTr).1.1,[]),(mkW s.1 LTr).1.2),(mkW s.1 LTr).2):=by
     unfold X26
     rw [if_neg (by simpa using hb73),if_neg (by simpa using hb94),if_pos (by simpa using hb104)]
    refine ⟨(J3,la2,lc2,da2,dc2,o.r.parent),?_⟩
    rw [hA9]
    exact ⟨⟨rfl,rfl,rfl,rfl,rfl,rfl,rfl,rfl,rfl,rfl,rfl,rfl,rfl,rfl,rfl,trivial⟩,hJ3,hM3,((((((hS.pick 5 rfl).pick 5 rfl).pick 5 rfl).pick 4 rfl).pick 4 rfl).pick 5 rfl)⟩
   refine .seq (.q 2 rfl ?_)
   refine WC.cond rfl (fun hb117=>?_) (fun hb117=>?_)
   ·
    refine .seq (.t 2 rfl ?_)
    refine WL.val (.fieldAddr 4 (.of rfl) X7n rfl rfl Qs9 rfl) rfl (WL.val (.ld (.of rfl) hS (k:=0) rfl Qg9 rfl) rfl (WL.val (.fieldAddr 5 (.of rfl) X7n rfl rfl Qs9 rfl) rfl (WL.val (.ld (.of rfl) hS (k:=0) rfl Qg9 rfl) rfl (.call Tryz.func37 rfl (X0 (.of rfl) (X0 (.of rfl) (X0 (.of rfl) (X0 (.of rfl) X4)))) rfl (Xcz (X1b s.2 o.a) o.b o.c (by omega) p s.1 hω B _ J2 hI2 _ (hS.pick 2 rfl)) ?_))))
    clear hS
    rintro _ w ⟨rfl,hS⟩
    refine .q 5 rfl (.nil (.t 2 rfl ?_))
    refine WL.val (.fieldAddr 4 (.of rfl) X7n rfl rfl Qs9 rfl) rfl (WL.val (.ld (.of rfl) hS (k:=1) rfl Qg9 rfl) rfl (WL.val (.fieldAddr 5 (.of rfl) X7n rfl rfl Qs9 rfl) rfl (WL.val (.ld (.of rfl) hS (k:=1) rfl Qg9 rfl) rfl (.call Tryz.func47 rfl (X0 (.of rfl) (X0 (.of rfl) (X0 (.of rfl) (X0 (.of rfl) X4)))) rfl (Xdn (X1b s.2 o.a) o.b o.c x s.1 hω la lc da dc B _ J2 hX2 hM _ ((hS.pick 4 rfl).pick 4 rfl)) ?_))))
    clear hS
    rintro _ w ⟨rfl,J3,la2,lc2,da2,dc2,hJ3,hM3,hS⟩
    refine .q 5 rfl (.nil ?_)
    have hA9:X26 p.lo p.us p.ps s.1 s.2 o=((((Xq p.us p.ps s.1 (X1b s.2 o.a) o.b o.c).1.1,[]),(Xq p.us p.ps s.1 (X1b s.2 o.a) o.b o.c).1.2),(Xq p.us p.ps s.1 (X1b s.2 o.a) o.b o.c).2):=by
     unfold X26
     rw [if_neg (by simpa using hb73),if_neg (by simpa using hb94),if_neg (by simpa using hb104),if_pos (by simpa using hb117)]
    refine ⟨(J3,la2,lc2,da2,dc2,o.r.parent),?_⟩
    rw [hA9]
    exact ⟨⟨rfl,rfl,rfl,rfl,rfl,rfl,rfl,rfl,rfl,rfl,rfl,rfl,rfl,rfl,rfl,trivial⟩,hJ3,hM3,((((((hS.pick 5 rfl).pick 5 rfl).pick 5 rfl).pick 4 rfl).pick 4 rfl).pick 5 rfl)⟩
   refine .seq (.q 2 rfl ?_)
   refine WC.cond rfl (fun hb139=>?_) (fun hb139=>?_)
   ·
    refine .seq (.t 2 rfl ?_)
    refine WL.val (.fieldAddr 4 (.of rfl) X7n rfl rfl Qs9 rfl) rfl (WL.val (.ld (.of rfl) hS (k:=0) rfl Qg9 rfl) rfl (WL.val (.fieldAddr 6 (.of rfl) X7n rfl rfl Qs4 rfl) rfl (WL.val (.ld (.of rfl) hS (k:=0) rfl Qg4 rfl) rfl (.call Tryz.func45 rfl (X0 (.of rfl) (X0 (.of rfl) (X0 (.of rfl) (X0 (.of rfl) X4)))) rfl (Xcy (X1b s.2 o.a) o.b o.f (by omega) (by omega) p s.1 hω B _ J2 hI2 _ (hS.pick 2 rfl)) ?_))))
    clear hS
    rintro _ w ⟨rfl,hS⟩
    refine .q 7 rfl (.nil (.t 2 rfl ?_))
    refine WL.val (.fieldAddr 4 (.of rfl) X7n rfl rfl Qs9 rfl) rfl (WL.val (.ld (.of rfl) hS (k:=1) rfl Qg9 rfl) rfl (WL.val (.fieldAddr 6 (.of rfl) X7n rfl rfl Qs4 rfl) rfl (WL.val (.ld (.of rfl) hS (k:=1) rfl Qg4 rfl) rfl (.call Tryz.func48 rfl (X0 (.of rfl) (X0 (.of rfl) (X0 (.of rfl) (X0 (.of rfl) X4)))) rfl (Xdd (X1b s.2 o.a) o.b o.f (by omega) (by omega) x s.1 hω la lc da dc B _ J2 hX2 hM _ ((hS.pick 4 rfl).pick 4 rfl)) ?_))))
    clear hS
    rintro _ w ⟨rfl,J3,la2,lc2,da2,dc2,hJ3,hM3,hS⟩
    refine .q 7 rfl (.nil ?_)
    have hA9:X26 p.lo p.us p.ps s.1 s.2 o=Xu p.lo p.ps s.1 (X1b s.2 o.a) o.b o.f:=by
     unfold X26
     rw [if_neg (by simpa using hb73),if_neg (by simpa using hb94),if_neg (by simpa using hb104),if_neg (by simpa using hb117),if_pos (by simpa using hb139)]
    refine ⟨(J3,la2,lc2,da2,dc2,o.r.parent),?_⟩
    rw [hA9]
    exact ⟨⟨rfl,rfl,rfl,rfl,rfl,rfl,rfl,rfl,rfl,rfl,rfl,rfl,rfl,rfl,rfl,trivial⟩,hJ3,hM3,((((((hS.pick 5 rfl).pick 5 rfl).pick 5 rfl).pick 4 rfl).pick 4 rfl).pick 5 rfl)⟩
   refine .seq (.q 2 rfl ?_)
   refine WC.cond rfl (fun hb163=>?_) (fun hb163=>?_)
   ·
    refine .seq (.t 1 rfl ?_)
    refine WL.val (.fieldAddr 7 (.of rfl) X7n rfl rfl Xw rfl) rfl (WL.val (.fieldAddr 2 (.of rfl) X15 rfl rfl Qs9 rfl) rfl (WL.st1 hS (k:=0) rfl (.of rfl) (.of rfl) rfl Qs9 (by simp) ?_))
    clear hS; intro w hS
    refine .nil (.seq (.t 1 rfl ?_))
    refine WL.val (.fieldAddr 7 (.of rfl) X7n rfl rfl Xw rfl) rfl (WL.val (.lds (vs:=[I64 o.r.kind,S o.r.name,S (X1b s.2 o.a),S o.r.user,S o.r.service,S o.r.url,I64 o.r.made,I64 o.r.used,I64 o.r.uses,.bool o.r.fresh]) (.of rfl) hS (k:=0) rfl X36 Xw rfl (fun j v hj=>by match j,hj with | 0,hj=>exact hj | 1,hj=>exact hj | 2,hj=>exact hj | 3,hj=>exact hj | 4,hj=>exact hj | 5,hj=>exact hj | 6,hj=>exact hj | 7,hj=>exact hj | 8,hj=>exact hj | 9,hj=>exact hj | j+10,hj=>cases hj)) rfl (WL.call Qf49 rfl (X0 (.of rfl) (X0 (.of rfl) X4)) rfl (X8c ({ o.r with parent:=(X1b s.2 o.a) }:Rec) (by show (X1b s.2 o.a).length≤_; omega) p s.1 hω B _ J2 hI2 _ (hS.pick 2 rfl)) ?_))
    clear hS
    rintro _ w ⟨rfl,hS⟩
    refine .q 5 rfl (.nil (.t 1 rfl ?_))
    refine WL.val (.fieldAddr 7 (.of rfl) X7n rfl rfl Xw rfl) rfl (WL.val (.lds (vs:=[I64 o.r.kind,S o.r.name,S (X1b s.2 o.a),S o.r.user,S o.r.service,S o.r.url,I64 o.r.made,I64 o.r.used,I64 o.r.uses,.bool o.r.fresh]) (.of rfl) hS (k:=1) rfl X36 Xw rfl (fun j v hj=>by match j,hj with | 0,hj=>exact hj | 1,hj=>exact hj | 2,hj=>exact hj | 3,hj=>exact hj | 4,hj=>exact hj | 5,hj=>exact hj | 6,hj=>exact hj | 7,hj=>exact hj | 8,hj=>exact hj | 9,hj=>exact hj | j+10,hj=>cases hj)) rfl (WL.call Qf46 rfl (X0 (.of rfl) (X0 (.of rfl) X4)) rfl (X3s ({ o.r with parent:=(X1b s.2 o.a) }:Rec) (by show (X1b s.2 o.a).length≤_; omega) x s.1 hω la lc da dc B _ J2 hX2 hM _ ((hS.pick 4 rfl).pick 4 rfl)) ?_))
    clear hS
    rintro _ w ⟨rfl,J3,la2,lc2,da2,dc2,hJ3,hM3,hS⟩
    refine .q 5 rfl (.nil ?_)
    have hA9:X26 p.lo p.us p.ps s.1 s.2 o=((((mkW s.1 ({ o.r with parent:=(X1b s.2 o.a) }:Rec)).1.1,[]),(mkW s.1 ({ o.r with parent:=(X1b s.2 o.a) }:Rec)).1.2),(mkW s.1 ({ o.r with parent:=(X1b s.2 o.a) }:Rec)).2):=by
     unfold X26
     rw [if_neg (by simpa using hb73),if_neg (by simpa using hb94),if_neg (by simpa using hb104),if_neg (by simpa using hb117),if_neg (by simpa using hb139),if_pos (by simpa using hb163)]
    refine ⟨(J3,la2,lc2,da2,dc2,(X1b s.2 o.a)),?_⟩
    rw [hA9]
    exact ⟨⟨rfl,rfl,rfl,rfl,rfl,rfl,rfl,rfl,rfl,rfl,rfl,rfl,rfl,rfl,rfl,trivial⟩,hJ3,hM3,((((((hS.pick 5 rfl).pick 5 rfl).pick 5 rfl).pick 4 rfl).pick 4 rfl).pick 5 rfl)⟩
   refine .seq (.q 2 rfl ?_)
   refine WC.cond rfl (fun hb182=>?_) (fun hb182=>?_)
   ·
    refine .seq ?_
    replace hS:=(hS.pick 2 rfl)
    obtain ⟨⟨a5,c5,ma5,mc5⟩,hS⟩:=Sat.unbox hS
    replace hS:Sat B _ _ (blk p.wb (wdC p s.1) 52::blk p.tb [I64 s.1.room,.slice a5 s.1.l.length c5] 127::Vec 45 10 (.slice a5 s.1.l.length c5) s.1.l.length (Xf s.1.l)::blk p.mb [.slice ma5 s.1.D.length mc5] 168::X4a 118 (.slice ma5 s.1.D.length mc5) (s.1.D.map fun d=>U64 (d:Nat))::_):=hS
    refine .t 2 rfl (WL.val (.fieldAddr 0 (.of rfl) X72 rfl rfl Xly rfl) rfl (WL.val (.ld (.of rfl) hS (k:=0) rfl Xip rfl) rfl (.q 1 rfl (.call Qf50 rfl (X0 (.of rfl) (X0 (.of rfl) X4)) rfl (Xbf p.tb s.1.room a5 c5 s.1.l (by omega) hω.wf (X1b s.2 o.a) B _ J2 _ ((hS.pick 2 rfl).pick 2 rfl)) ?_))))
    clear hS
    rintro _ w ⟨J3,ga,gc,rfl,hJ3,hgc,hRS,a9,c9,hS⟩
    replace hS:=hS.weaken hJ3
    clear hRS hJ3 J3
    refine .nil ?_
    replace hS:=Sat.box (T:=wdT p (X84 s.1 (X1b s.2 o.a))) (a9,c9,ma5,mc5) (((((hS.pick 4 rfl).pick 4 rfl).pick 3 rfl).pick 3 rfl).pick 4 rfl)
    refine .t 2 rfl (WL.val (.fieldAddr 28 (.of rfl) X7f rfl rfl Xph rfl) rfl (WL.val (.ld (.of rfl) hS (k:=3) rfl Xpv rfl) rfl (.q 1 rfl (.call Qf51 rfl (X0 (.of rfl) (X0 (.of rfl) X4)) rfl (X5x x.tb s.1.room la lc s.1.l (by omega) hω.wf (X1b s.2 o.a) B _ J2 hM.1 _ (hS.pick 4 rfl)) ?_))))
    clear hS
    rintro v9 w ⟨J3,la2,lc2,hJ3,hR3,hS⟩
    refine .nil ?_
    have hA9:X26 p.lo p.us p.ps s.1 s.2 o=((([],[]),0),X84 s.1 (X1b s.2 o.a)):=by
     unfold X26
     rw [if_neg (by simpa using hb73),if_neg (by simpa using hb94),if_neg (by simpa using hb104),if_neg (by simpa using hb117),if_neg (by simpa using hb139),if_neg (by simpa using hb163),if_pos (by simpa using hb182)]
    refine ⟨(J3,la2,lc2,da,dc,o.r.parent),?_⟩
    rw [hA9]
    exact ⟨⟨rfl,rfl,rfl,rfl,rfl,rfl,rfl,rfl,rfl,rfl,rfl,rfl,rfl,rfl,rfl,trivial⟩,hJ3,⟨hR3,hM.2.1.mono hJ3,hM.2.2⟩,((((((hS.pick 5 rfl).pick 4 rfl).pick 4 rfl).pick 3 rfl).pick 5 rfl).pick 5 rfl)⟩
   refine .skip ?_
   have hA9:X26 p.lo p.us p.ps s.1 s.2 o=((([],[]),0),s.1):=by
    unfold X26
    rw [if_neg (by simpa using hb73),if_neg (by simpa using hb94),if_neg (by simpa using hb104),if_neg (by simpa using hb117),if_neg (by simpa using hb139),if_neg (by simpa using hb163),if_neg (by simpa using hb182)]
   refine ⟨(J2,la,lc,da,dc,o.r.parent),?_⟩
   rw [hA9]
   exact ⟨⟨rfl,rfl,rfl,rfl,rfl,rfl,rfl,rfl,rfl,rfl,rfl,rfl,rfl,rfl,rfl,trivial⟩,Le.refl _,hM,((((((hS.pick 5 rfl).pick 2 rfl).pick 2 rfl).pick 5 rfl).pick 5 rfl).pick 5 rfl)⟩
  rintro ⟨J3,la2,lc2,da2,dc2,pr⟩ w ⟨hJ3,hM3,hS⟩
  refine .seq ?_
  have hω2:=Xkf (lo:=p.lo) (us:=p.us) (ps:=p.ps) (ns:=s.2) (o:=o) hω hof.d
  have hI3:=hI2.mono hJ3
  have hX3:=hX2.mono hJ3
  refine .region (WL.val (.fieldAddr 17 (.of rfl) X7n rfl rfl Qs95 rfl) rfl (WL.val (.lds (vs:=[S o.q.service,S o.q.cookie,.bool o.q.has,.bool o.q.renew,.bool o.q.gateway,.bool o.q.warn]) (.of rfl) hS (k:=3) rfl Tryz.isAgg95 Qs95 rfl (fun j v hj=>by match j,hj with | 0,hj=>exact hj | 1,hj=>exact hj | 2,hj=>exact hj | 3,hj=>exact hj | 4,hj=>exact hj | 5,hj=>exact hj | j+6,hj=>cases hj)) rfl (.allocA (cs:=[_,_,_,_,_,_]) hS Tryz.zeroValue95 rfl ?_)))
  clear hS; intro b21 w hS
  refine WL.stA hS (k:=0) rfl (.of rfl) (.of rfl) rfl Qs95 rfl (by simp) ?_
  clear hS; intro w hS
  try simp only [Yl,Yf,Yc,Y9,Yj,Yo,Yd] at hS
  refine .nil (.seq (.t 1 rfl ?_))
  refine WL.val (.fieldAddr 1 (.of rfl) Xb9 rfl rfl Qs9 rfl) rfl (WL.st1 hS (k:=0) rfl (.of rfl) (.of rfl) rfl Qs9 (by simp) ?_)
  clear hS; intro w hS
  refine .nil (.seq (.seq ?_))
  replace hS:=(((hS.pick 3 rfl).pick 3 rfl).pick 3 rfl)
  try dsimp only [List.eraseIdx] at hS
  refine .quiet (by kernel_rfl) (by kernel_rfl) hS (.val (fun w hS=>(.move (.of rfl))) rfl (.val (fun w hS=>(.move (.of rfl))) rfl (.val (fun w hS=>(.nes (.of rfl) (.of rfl))) rfl (.val (fun w hS=>(.move (.of rfl))) rfl (.gval rfl rfl rfl (fun hg1 w hS=>(.move (.of rfl))) rfl (.gval rfl rfl rfl (fun hg1 w hS=>(.move (.of rfl))) rfl (.gval rfl rfl rfl (fun hg1 w hS=>(.nes (.gd hg1 rfl) (.gd hg1 rfl))) rfl (.val (fun w hS=>(.por (.of rfl) (.of rfl) (.of rfl))) rfl (.val (fun w hS=>(.move (.of rfl))) rfl (.gval rfl rfl rfl (fun hg1 w hS=>(.move (.of rfl))) rfl (.gval rfl rfl rfl (fun hg1 w hS=>(.move (.of rfl))) rfl (.gval rfl rfl rfl (fun hg1 w hS=>(.neq (.gd hg1 rfl) (.gd hg1 rfl))) rfl (.val (fun w hS=>(.por (.of rfl) (.of rfl) (.of rfl))) rfl (.val (fun w hS=>(.move (.of rfl))) rfl (.gval rfl rfl rfl (fun hg1 w hS=>(.move (.of rfl))) rfl (.gval rfl rfl rfl (fun hg1 w hS=>(.move (.of rfl))) rfl (.gcall rfl rfl rfl Tryz.func52 rfl (fun hg1=>(X0 (.gd hg1 rfl) (X0 (.gd hg1 rfl) X4))) rfl (fun hg1 w hS=>Xhd p x (X26 p.lo p.us p.ps s.1 s.2 o).2 hω2 la2 lc2 da2 dc2 B _ J3 hM3 _ hS) (.gval rfl rfl rfl (fun hg1 w hS=>(.not (.gd hg1 rfl))) rfl (.val (fun w hS=>(.por (.of rfl) (.of rfl) (.of rfl))) rfl (.val (fun w hS=>(.move (.of rfl))) rfl (.gval rfl rfl rfl (fun hg1 w hS=>(.move (.of rfl))) rfl ?_)))))))))))))))))))))
  refine WQ.gval rfl rfl rfl (fun hg1 w hS=>(by exact (.ldsW (cs:=[_,_,_,_,_,_]) (.of rfl) hS (k:=3) rfl Tryz.isAgg95 Qs95 rfl))) rfl ?_
  refine WQ.gcall rfl rfl rfl Tryz.func39 rfl (fun hg1=>(X0 (.gd hg1 rfl) (X0 (.gd hg1 rfl) X4))) rfl (fun hg1 w hS=>Xan (⟨o.q.service,(X1b s.2 o.a),o.q.has,o.q.renew,o.q.gateway,o.q.warn⟩:Ak) (by show o.q.service.length≤_; omega) p (X26 p.lo p.us p.ps s.1 s.2 o).2 hω2 B _ J3 hI3 _ hS) ?_
  refine .gval rfl rfl rfl (fun hg1 w hS=>(.move (.of rfl))) rfl (WQ.gval rfl rfl rfl (fun hg1 w hS=>(by exact (.ldsW (cs:=[_,_,_,_,_,_]) (.of rfl) hS (k:=3) rfl Tryz.isAgg95 Qs95 rfl))) rfl ?_)
  refine WQ.gcall rfl rfl rfl Tryz.func53 rfl (fun hg1=>(X0 (.gd hg1 rfl) (X0 (.gd hg1 rfl) X4))) rfl (fun hg1 w hS=>Xa8 (⟨o.q.service,(X1b s.2 o.a),o.q.has,o.q.renew,o.q.gateway,o.q.warn⟩:Ak) (by show o.q.service.length≤_; omega) x (X26 p.lo p.us p.ps s.1 s.2 o).2 hω2 la2 lc2 da2 dc2 B _ J3 hX3 hM3 _ _ hS) ?_
  refine .gval rfl rfl rfl (fun hg1 w hS=>(.neq (.gd hg1 rfl) (.gd hg1 rfl))) rfl (.val (fun w hS=>(.por (.of rfl) (.of rfl) (.of rfl))) rfl (.nil ?_))
  clear hS; intro w hS
  refine .condF (congrArg (fun b=>some (Value.bool b)) (by simp)) (.skip (.seq (.seq (.q 1 rfl (.block (.loop (σ:=Nat) (fun k=>[(1,.slice (some pp) l.length oc),(2,ptr b2 0),(5,.bool true),(7,ptr p.wb 0),(9,ptr x.xb 0),(11,.slice va s.2.length vc),(12,I64 (i:Nat)),(14,S (X1b s.2 o.a)),(15,S (X26 p.lo p.us p.ps s.1 s.2 o).1.1.1),(22,I64 (k:Nat))]) (fun k w=>1≤k∧k≤7∧Sat B w J3 (wdA p (X26 p.lo p.us p.ps s.1 s.2 o).2::blk x.xb (XC x da2 (X26 p.lo p.us p.ps s.1 s.2 o).2.D.length dc2 (X26 p.lo p.us p.ps s.1 s.2 o).2.now) 83::blk x.tb [I64 (X26 p.lo p.us p.ps s.1 s.2 o).2.room,.slice la2 (X26 p.lo p.us p.ps s.1 s.2 o).2.l.length lc2] 79::Vec 9 1 (.slice va s.2.length vc) s.2.length (s.2.map S)::blk b2 (X12 c a cap ua ucap) 34::As)) (fun k=>7 - k) 1 ⟨rfl,rfl,rfl,rfl,rfl,rfl,rfl,rfl,rfl,rfl,trivial⟩ ⟨Yt _,by decide,(((((((hS.pick 6 rfl).pick 6 rfl).pick 4 rfl).pick 4 rfl).pick 4 rfl).drop (k:=5) rfl).drop (k:=5) rfl)⟩ ?_))))))
  rintro k w ⟨hk1,hk7,hS⟩
  refine .seq (.seq (.q 2 rfl ?_))
  refine WC.cond rfl (fun hb229=>?_) (fun hb229=>?_)
  ·
   have hc229:=hb229; try simp only [Y6] at hc229
   refine .skip (.seq (.block (.seq (.t 3 rfl (.call Qf21 rfl (X0 (.of rfl) (X0 (.of rfl) (X0 (.of rfl) X4))) rfl (X6y (X1b s.2 o.a) (k:Int) p (X26 p.lo p.us p.ps s.1 s.2 o).2 hω2 B _ J3 _ hS) ?_)))))
   clear hS
   rintro _ w ⟨rfl,hS⟩
   refine .q 3 rfl (.allocA (cs:=[_,_,_,_,_,_,_,_,_,_]) hS X5q rfl ?_)
   clear hS; intro b23 w hS
   refine WL.stA hS (k:=0) rfl (.of rfl) (.of rfl) rfl Xw rfl (by simp) ?_
   clear hS; intro w hS
   try simp only [Yl,Yf,Yc,Y9,Yj,Yo,Yd] at hS
   refine .q 1 rfl (.nil (.seq (.t 3 rfl (.call Qf54 rfl (X0 (.of rfl) (X0 (.of rfl) (X0 (.of rfl) X4))) rfl (X2t (X1b s.2 o.a) (k:Int) x (X26 p.lo p.us p.ps s.1 s.2 o).2 hω2 la2 lc2 da2 dc2 B _ J3 hX3 hM3 _ ((hS.pick 3 rfl).pick 3 rfl)) ?_))))
   clear hS
   rintro _ w ⟨rfl,hS⟩
   try dsimp only [List.eraseIdx] at hS
   refine .q 3 rfl (.allocA (cs:=[_,_,_,_,_,_,_,_,_,_]) hS X5q rfl ?_)
   clear hS; intro b25 w hS
   refine WL.stA hS (k:=0) rfl (.of rfl) (.of rfl) rfl Xw rfl (by simp) ?_
   clear hS; intro w hS
   try simp only [Yl,Yf,Yc,Y9,Yj,Yo,Yd] at hS
   refine .q 1 rfl (.nil (.seq (.region ?_)))
   refine WL.val (.ldsW (cs:=[_,_,_,_,_,_,_,_,_,_]) (.of rfl) hS (k:=3) rfl X36 Xw rfl) rfl (WL.val (.ldsW (cs:=[_,_,_,_,_,_,_,_,_,_]) (.of rfl) hS (k:=0) rfl X36 Xw rfl) rfl (.val (Ex.neRec (r:=(Xh p.ps (X26 p.lo p.us p.ps s.1 s.2 o).2 (X1b s.2 o.a) (k:Int)).1) (s:=(Xh p.ps (X26 p.lo p.us p.ps s.1 s.2 o).2 (X1b s.2 o.a) (k:Int)).1) (.of rfl) (.of rfl)) rfl (.q 1 rfl (.gval rfl rfl (fun hg1=>(.move (.of rfl))) rfl (.gval rfl rfl (fun hg1=>(.move (.of rfl))) rfl (.gval rfl rfl (fun hg1=>(.neb (.gd hg1 rfl) (.gd hg1 rfl) Qu4)) rfl (.val (.por (.of rfl) (.of rfl) (.of rfl)) rfl (.nil (.condF (congrArg (fun b=>some (Value.bool b)) (by simp)) (.skip (.region (.run 3 rfl ⟨⟨by omega,by omega⟩,trivial⟩ (.nil ?_)))))))))))))
   refine ⟨k+1,⟨rfl,rfl,rfl,rfl,rfl,rfl,rfl,rfl,rfl,rfl,trivial⟩,⟨by (try dsimp only); omega,by (try dsimp only); omega,(((((((hS.pick 6 rfl).pick 6 rfl).pick 4 rfl).pick 4 rfl).pick 6 rfl).drop (k:=5) rfl).drop (k:=5) rfl)⟩,by (try dsimp only); omega⟩
  have hc229:=hb229; try simp only [Y6] at hc229
  refine .exit (.seq (.q 2 rfl ?_))
  refine WC.cond rfl (fun hb255=>?_) (fun hb255=>?_)
  ·
   have hc255:=hb255; try simp only [Y6] at hc255
   refine .t 2 rfl (.buildSlice (cs:=[_]) hS (X5 (.of rfl) X6) X1p Qs9 Qz9 rfl rfl rfl rfl ?_)
   clear hS; intro b258 w hS
   refine WL.append (size:=1) (bytes:=16) hS (.of rfl) (.of rfl) (k:=3) rfl X1p X1o rfl rfl rfl rfl rfl rfl rfl ⟨by omega,by unfold maxLen; omega⟩ rfl ?_
   clear hS; intro v259 w hS
   obtain ⟨a259,c259,rfl,hcap259,_⟩:=hS.vecSlice (k:=3) (v:=v259) rfl
   refine .q 1 rfl (.nil (.region (.run 3 rfl ⟨⟨by omega,by omega⟩,trivial⟩ (.nil ?_))))
   refine ⟨(Xrd p.lo p.us p.ps s o,i+1,.slice a259 (s.2.length+1) c259,la2,lc2,da2,dc2,J3),⟨rfl,rfl,rfl,rfl,rfl,rfl,rfl,trivial⟩,⟨by (try dsimp only); omega,hJ2.trans hJ3,Xgc hwk hof.d (by omega),hM3,?_⟩,by (try dsimp only); omega⟩
   show Sat B _ J3 (Vec 9 1 _ (Xit s.2 (X26 p.lo p.us p.ps s.1 s.2 o).1.1.1).length ((Xit s.2 (X26 p.lo p.us p.ps s.1 s.2 o).1.1.1).map S)::wdA p (X26 p.lo p.us p.ps s.1 s.2 o).2::_)
   rw [Xit,if_pos (by simpa using hb255),Y0,Y8,Yk,Yw]
   exact (((((hS.pick 4 rfl).pick 3 rfl).pick 3 rfl).pick 3 rfl).pick 4 rfl)
  have hc255:=hb255; try simp only [Y6] at hc255
  refine .skip (.region (.run 3 rfl ⟨⟨by omega,by omega⟩,trivial⟩ (.nil ?_)))
  refine ⟨(Xrd p.lo p.us p.ps s o,i+1,.slice va s.2.length vc,la2,lc2,da2,dc2,J3),⟨rfl,rfl,rfl,rfl,rfl,rfl,rfl,trivial⟩,⟨by (try dsimp only); omega,hJ2.trans hJ3,Xgc hwk hof.d (by omega),hM3,?_⟩,by (try dsimp only); omega⟩
  show Sat B _ J3 (Vec 9 1 _ (Xit s.2 (X26 p.lo p.us p.ps s.1 s.2 o).1.1.1).length ((Xit s.2 (X26 p.lo p.us p.ps s.1 s.2 o).1.1.1).map S)::wdA p (X26 p.lo p.us p.ps s.1 s.2 o).2::_)
  rw [Xit,if_neg (by simpa using hb255)]
  exact (((((hS.pick 4 rfl).pick 3 rfl).pick 3 rfl).pick 3 rfl).pick 4 rfl)
 refine .exit (.seq (.q 2 rfl (.ret (X9 Tryz.results11 rfl ?_))))
 exact ⟨_,rfl,rfl,J2,hJ.trans hJ2,((((hS.drop (k:=0) rfl).drop (k:=0) rfl).drop (k:=0) rfl).drop (k:=0) rfl).drop (k:=0) rfl⟩
end Go.Proofs.YtadhiihnnkcagaaGreatDoor
namespace Gk
open Go Go.RowKit Go.WideShapes Go.ChangeShapes
section
variable {H:Type} {enc:TypeId×Value→H}
def WitT (enc:TypeId×Value→H) (a:Assume) (C:Checked) (os:Os) (f:FuncId) (fn:Func) (s:ChangeSpec) (conds:List PathCond) (apart:Bool) (X:World→Array Value→Prop):Prop :=
  ∃ (w:World) (tape:Tape) (i:Input),w.os=os∧(w.forCall tape i).Shaped C.prog∧i.vars=[]∧Input.okWide C.prog (w.forCall tape i) .any w.heap.size f i ∧
   ((s.pre enc C.prog fn conds apart (w.forCall tape i).memory i.args∧X (w.forCall tape i).memory i.args)∧sizedMet enc C.prog fn (OpenSpec.ofChange s) apart (w.forCall tape i).memory i.args)∧a.holds C.prog (lone (Frame.enter C.prog f i.args .normal) [] (w.forCall tape i))
theorem X6u {a:Assume} {C:Checked} {os:Os} {f:FuncId} {fn:Func} {s:ChangeSpec} {conds:List PathCond} {apart fresh handsOn again:Bool} {X:World→Array Value→Prop}
  (hX:∀ (w w':World) (args:Array Value),w.heap=w'.heap→X w args→X w' args)
  (own:ownKnob C.prog.godebug=none) (started:os.Started) (noInit:C.prog.inits.idxOf? f=none) (hfn:C.prog.funcs[f]?=some fn)
  (witness:WitT enc a C os f fn s conds apart X)
  (contract:∀ (W:World) (base:Nat) (args:Array Value) (ds gs:List (DataW H)) (before:List MemPlace),
   (∀ (j:Nat) t v,fn.params[j]?=some t→args[j]?=some v→Value.okWide C.prog W .any base t v) →
   DataW.Whole enc C.prog fn.params.toList s.vars apart W args.toList ds gs before→X W args→W.ShapedOpen C.prog →
   Calls C.prog f args W fun e W'=>∃ v,e=.returned v∧s.post enc C.prog fn apart fresh handsOn again W args v W') :
  ReturnsInHanded a C os f .any (fun w args=>(s.pre enc C.prog fn conds apart w args∧X w args)∧sizedMet enc C.prog fn (OpenSpec.ofChange s) apart w args) (s.post enc C.prog fn apart fresh handsOn again):=by
 refine returnsInHanded_of_calls own started noInit witness ?_
 intro w tape i _ hsh _ hok hpre _
 obtain ⟨_,_,_,fn',hfn',_,_,_,_,hval⟩:=hok
 have e:fn'=fn:=Option.some.inj (hfn'.symm.trans hfn)
 subst e
 obtain ⟨⟨⟨ds,gs,before,hw,hc⟩,hx⟩,hz⟩:=hpre
 have hw':=DataW.Whole.of_heap (w':=w.forCall tape i) (by rfl) hw
 refine (contract (w.forCall tape i) w.heap.size i.args ds gs before hval hw' (hX _ _ _ (by rfl) hx) hsh).mono fun e W' ⟨v,he,hp⟩=>?_
 subst he
 exact ChangeSpec.post_blind hp
end
section
variable {P:Program} {W:World}
theorem X5l {name:String} {k:IntKind} {zs:List Int} {g:Nat} {t e:TypeId} {n:Nat}
  (hg:P.globalNamed name=some g) (hty:(P.globals[g]?).map (·.type)=some t) (ht:P.underlying t=some (.array n e)) (he:P.underlying e=some (.int k)) (hce:P.cellsOf e=1) (hct:P.cellsOf t=n)
  (h:Lib.VarReads P W name (Lib.tabData k zs)):Lib.TabIs P W name k zs:=by
 obtain ⟨g',t',cs,fuel,p,hg',ht',hvar,hd⟩:=h
 obtain rfl:=Option.some.inj (hg.symm.trans hg')
 obtain rfl:=Option.some.inj (hty.symm.trans ht')
 unfold Lib.TabIs
 rw [hvar,← Lib.cells_of_tab ht he hce hct hd]
theorem tab_at {name:String} {k:IntKind} {zs:List Int} {g:Nat} (hg:P.globalNamed name=some g) (h:Lib.TabIs P W name k zs) (h0:0<zs.length):At (im0 W) (ad g 0) (zs.map fun z=>.int k z):=by
 refine Xir (by rw [Yz]; exact h0) fun j v hj=>?_
 rw [Yy] at hj
 cases hz:zs[j]? with
 | none=>rw [hz] at hj; cases hj
 | some z =>
  rw [hz] at hj
  have hjl:=(Y5.1 hz).1
  have hc:=h.cell hg j hjl
  rw [X19,Yd,hc,Y7,hz,← hj]
  rfl
variable {B w:World} {As:List X8}
theorem Xcw {b:Nat} {o:Obj} (h:W.heap[b]?=some o) (hS:Sat B w (im0 W) As):w.heap[b]?=some o:=by
 obtain ⟨_,_,hg⟩:=hS
 exact hg.imm b o h
theorem Xqh {name:String} {k:IntKind} {zs:List Int} (h:Lib.TabIs P W name k zs) (hS:Sat B w (im0 W) As):Lib.TabIs P w name k zs:=by
 unfold Lib.TabIs World.var? at h ⊢
 cases hg:P.globalNamed name with
 | none=>rw [hg] at h; cases h
 | some g =>
  rw [hg] at h
  simp only [Y33] at h ⊢
  cases hb:W.heap[g]? with
  | none=>rw [hb] at h; cases h
  | some o =>
   rw [Xcw hb hS]
   rw [hb] at h
   exact h
theorem Xne {a:Addr} {v:Value} (h:W.cell? a=some v) (hS:Sat B w (im0 W) As):w.cell? a=some v:=by
 unfold World.cell? at h ⊢
 cases hb:W.heap[a.block]? with
 | none=>rw [hb] at h; cases h
 | some o=>rw [Xcw hb hS]; rw [hb] at h; exact h
end
end Gk
namespace Go.Proofs.YtadhiihnnkcagaaGreatDoor
open Gk Pc
theorem Xh8:Rows.laid_matricula_pct_digits (H:=Unit)=Lib.tabData .u8 (HIGH.map fun c=>(c.toNat:Int)):=by kernel_rfl
theorem Xse:Rows.laid_internal_strconv_uint64pow10 (H:=Unit)=Lib.tabData .u64 Lib.pow10Tab:=by kernel_rfl
def Xbb {H:Type} (zs:List (List UInt8)):DataW H:=.agg (zs.map fun z=>.lit (.string z))
theorem Xrc:Rows.laid_matricula_ticket_prefixes (H:=Unit)=Xbb PREV:=by kernel_rfl
theorem Xa1 {H:Type} {enc:TypeId×Value→H} {P:Program} {w:World} {base:Nat} {sp:Nat→Bool} {held:Bool} {fuel:Nat} {t e:TypeId} {n:Nat} {cs:List Value} {zs:List (List UInt8)} {p:List MemPlace}
  (ht:P.underlying t=some (.array n e)) (he:P.underlying e=some .string) (hce:P.cellsOf e=1) (hct:P.cellsOf t=n)
  (h:DataW.trod enc P w base sp held fuel t cs=some (Xbb zs,p)):cs=zs.map S:=by
 cases fuel with
 | zero=>simp [DataW.trod] at h
 | succ fuel =>
  simp only [DataW.trod,ht,hce,hct,Y1k] at h
  split at h
  ·rename_i hl
   obtain ⟨xs,hm,hx⟩:=Y1t.1 h
   have hxs:xs.map (·.1)=zs.map fun z=>(DataW.lit (.string z):DataW H):=by
    have:=congrArg Prod.fst hx
    simpa [Xbb] using this
   have hxl:xs.length=n:=by simpa using Lib.mapM_length hm
   have hzl:zs.length=n:=by
    have:=congrArg List.length hxs
    simp at this
    omega
   apply Y25
   intro i
   by_cases hi:i<n
   ·obtain ⟨b,hb,hf⟩:=Lib.mapM_at hm i i (by simp [hi])
    obtain ⟨z,hc,rfl,_⟩:=DataW.trod_string he hf
    have h1:cs[i]?=some (.string z):=by
     have:=congrArg (·[0]?) hc
     simpa [Y1w,Y1g] using this
    have h2:(xs.map (·.1))[i]?=some (DataW.lit (.string z.data.toList):DataW H):=by simp [hb]
    rw [hxs] at h2
    simp only [Yy,Y1t,DataW.lit.injEq,Lit.string.injEq] at h2
    obtain ⟨z',hz',e'⟩:=h2
    rw [h1,Yy,hz',e']
    rfl
   ·rw [Y1x (by omega),Y1x (by simp; omega)]
  ·cases h
theorem pre_at {W : World} (h : Lib.VarReads Tryz.prog W "matricula/ticket.prefixes" Rows.laid_matricula_ticket_prefixes) : PreAt (im0 W) := by
 rw [Xrc] at h
 obtain ⟨g',t',cs,fuel,p,hg',ht',hvar,hd⟩:=h
 obtain rfl := Option.some.inj ((show Tryz.prog.globalNamed "matricula/ticket.prefixes" = some 0 by kernel_rfl).symm.trans hg')
 obtain rfl:=Option.some.inj ((show (Tryz.prog.globals[0]?).map (·.type)=some 208 by kernel_rfl).symm.trans ht')
 have hcs:=Xa1 Xnu Qu9 (by kernel_rfl) (by kernel_rfl) hd
 refine Xir (by decide) fun j v hj=>?_
 have h2:=World.var?_cell hg' hvar j
 rw [X19,Yd]
 rw [← Array.getElem?_toList,hcs,hj] at h2
 exact h2
theorem Xmq {W : World} (h1 : Lib.VarReads Tryz.prog W "matricula/pct.digits" Rows.laid_matricula_pct_digits) (h2 : Lib.VarReads Tryz.prog W "internal/strconv.uint64pow10" Rows.laid_internal_strconv_uint64pow10) (h3 : Lib.VarReads Tryz.prog W "matricula/ticket.prefixes" Rows.laid_matricula_ticket_prefixes) (hsh : W.ShapedOpen Tryz.prog) : Known (im0 W) ∧ PreAt (im0 W) := by
 refine ⟨?_,pre_at h3⟩
 rw [Xh8] at h1
 rw [Xse] at h2
 have t1:=X5l (g:=3) (by kernel_rfl) (by kernel_rfl) Xo9 Qu5 (by kernel_rfl) (by kernel_rfl) h1
 have t2:=X5l (g:=4) (by kernel_rfl) (by kernel_rfl) Tryz.underlying296 Xad (by kernel_rfl) (by kernel_rfl) h2
 refine ⟨tab_at (g:=3) (by kernel_rfl) t1 (by decide),fun B w As hS=>Xqh t2 hS,fun B w As hS=>?_⟩
 obtain ⟨m,hm⟩:=Go.Proofs.cell_of_shapedOpen_int (g:=2) (t:=3) (zero:=#[.int .i64 0]) (k:=.i64) hsh (by decide +kernel) (by kernel_rfl) (by kernel_rfl) (by kernel_rfl) (by kernel_rfl) Qu3
 exact ⟨m,Xne hm hS⟩
end Go.Proofs.YtadhiihnnkcagaaGreatDoor
namespace Go.Proofs.YtadhiihnnkcagaaGreatDoor
open Gk Ul Pc Tk Tr Go.RowKit Go.WideShapes Go.ChangeShapes
def akFit (q:Ak):Prop:=q.service.length≤maxLen∧q.cookie.length≤maxLen
set_option maxRecDepth 20000 in
theorem Xo7 {H:Type} {enc:TypeId×Value→H} {W:World} {spare:Nat→Bool} {held:Bool} {fuel:Nat} {cs:List Value} {x:DataW H×List MemPlace} (h:DataW.trod enc Tryz.prog W 0 spare held fuel 95 cs=some x):∃ z:Ak,cs=X9n z∧akFit z:=by
 obtain ⟨xs,n,_,_,hcl,hxl,hf⟩:=DataW.trod_struct Xb9 h
 rw [show Tryz.prog.cellsOf 95=6 from by kernel_rfl] at hcl
 obtain ⟨y0,hy0⟩:∃ y,DataW.trod enc Tryz.prog W 0 spare held n 9 ((cs.drop 0).take (Tryz.prog.cellsOf 9))=some y:=⟨_,(hf 0 _ rfl).trans (Y4 (by rw [hxl]; decide))⟩
 rw [show Tryz.prog.cellsOf 9=1 from by kernel_rfl] at hy0
 obtain ⟨y1,hy1⟩:∃ y,DataW.trod enc Tryz.prog W 0 spare held n 9 ((cs.drop 1).take (Tryz.prog.cellsOf 9))=some y:=⟨_,(hf 1 _ rfl).trans (Y4 (by rw [hxl]; decide))⟩
 rw [show Tryz.prog.cellsOf 9=1 from by kernel_rfl] at hy1
 obtain ⟨y2,hy2⟩:∃ y,DataW.trod enc Tryz.prog W 0 spare held n 4 ((cs.drop 2).take (Tryz.prog.cellsOf 4))=some y:=⟨_,(hf 2 _ rfl).trans (Y4 (by rw [hxl]; decide))⟩
 rw [show Tryz.prog.cellsOf 4=1 from by kernel_rfl] at hy2
 obtain ⟨y3,hy3⟩:∃ y,DataW.trod enc Tryz.prog W 0 spare held n 4 ((cs.drop 3).take (Tryz.prog.cellsOf 4))=some y:=⟨_,(hf 3 _ rfl).trans (Y4 (by rw [hxl]; decide))⟩
 rw [show Tryz.prog.cellsOf 4=1 from by kernel_rfl] at hy3
 obtain ⟨y4,hy4⟩:∃ y,DataW.trod enc Tryz.prog W 0 spare held n 4 ((cs.drop 4).take (Tryz.prog.cellsOf 4))=some y:=⟨_,(hf 4 _ rfl).trans (Y4 (by rw [hxl]; decide))⟩
 rw [show Tryz.prog.cellsOf 4=1 from by kernel_rfl] at hy4
 obtain ⟨y5,hy5⟩:∃ y,DataW.trod enc Tryz.prog W 0 spare held n 4 ((cs.drop 5).take (Tryz.prog.cellsOf 4))=some y:=⟨_,(hf 5 _ rfl).trans (Y4 (by rw [hxl]; decide))⟩
 rw [show Tryz.prog.cellsOf 4=1 from by kernel_rfl] at hy5
 obtain ⟨v0,v1,v2,v3,v4,v5,rfl⟩:∃ v0 v1 v2 v3 v4 v5,cs=[v0,v1,v2,v3,v4,v5]:=by
  match cs,hcl with
  | [v0,v1,v2,v3,v4,v5],_=>exact ⟨v0,v1,v2,v3,v4,v5,rfl⟩
 simp only [Y9,Yj,Y1o,Yl] at hy0 hy1 hy2 hy3 hy4 hy5
 obtain ⟨z0,e0,_,w0⟩:=DataW.trod_string Qu9 hy0
 obtain ⟨z1,e1,_,w1⟩:=DataW.trod_string Qu9 hy1
 obtain ⟨z2,e2,_⟩:=DataW.trod_bool Qu4 hy2
 obtain ⟨z3,e3,_⟩:=DataW.trod_bool Qu4 hy3
 obtain ⟨z4,e4,_⟩:=DataW.trod_bool Qu4 hy4
 obtain ⟨z5,e5,_⟩:=DataW.trod_bool Qu4 hy5
 simp only [List.cons.injEq,and_true] at e0 e1 e2 e3 e4 e5
 subst e0 e1 e2 e3 e4 e5
 exact ⟨⟨z0.data.toList,z1.data.toList,z2,z3,z4,z5⟩,rfl,⟨w0,w1⟩⟩
def Xgd (d:Nat):List Value:=[U64 (d:Nat)]
theorem Xre (l:List Nat):X1c Xgd l=l.map fun d=>U64 (d:Nat):=by
 unfold X1c
 induction l with
 | nil=>rfl
 | cons x l ih=>rw [Y1e,Y1s,ih]; rfl
theorem Xlk {H:Type} {enc:TypeId×Value→H} {W:World} {spare:Nat→Bool} {held:Bool} {fuel:Nat} {cs:List Value} {x:DataW H×List MemPlace} (h:DataW.trod enc Tryz.prog W 0 spare held fuel 118 cs=some x):∃ z:Nat,cs=Xgd z∧z<18446744073709551616:=by
 obtain ⟨z,e,_,w⟩:=DataW.trod_int Xad h
 have w2:=w
 simp only [Lit.wf,Yq,decide_eq_true_eq] at w2
 have h0:(0:Int)≤z:=w2.1
 have h9:z≤18446744073709551615:=w2.2
 refine ⟨z.toNat,?_,by omega⟩
 rw [e,Xgd,Y4a h0]
set_option maxRecDepth 20000 in
theorem Xsd {H:Type} {enc:TypeId×Value→H} {W:World} {spare:Nat→Bool} {held:Bool} {fuel:Nat} {cs:List Value} {x:DataW H×List MemPlace} (h:DataW.trod enc Tryz.prog W 0 spare held fuel 97 cs=some x):∃ o:Op,OpAt (im0 W) o cs∧o.fits:=by
 obtain ⟨xs,n,_,_,hcl,hxl,hf⟩:=DataW.trod_struct X7n h
 rw [show Tryz.prog.cellsOf 97=23 from by kernel_rfl] at hcl
 obtain ⟨y0,hy0⟩:∃ y,DataW.trod enc Tryz.prog W 0 spare held n 3 ((cs.drop 0).take (Tryz.prog.cellsOf 3))=some y:=⟨_,(hf 0 _ rfl).trans (Y4 (by rw [hxl]; decide))⟩
 rw [show Tryz.prog.cellsOf 3=1 from by kernel_rfl] at hy0
 obtain ⟨y1,hy1⟩:∃ y,DataW.trod enc Tryz.prog W 0 spare held n 3 ((cs.drop 1).take (Tryz.prog.cellsOf 3))=some y:=⟨_,(hf 1 _ rfl).trans (Y4 (by rw [hxl]; decide))⟩
 rw [show Tryz.prog.cellsOf 3=1 from by kernel_rfl] at hy1
 obtain ⟨y2,hy2⟩:∃ y,DataW.trod enc Tryz.prog W 0 spare held n 81 ((cs.drop 2).take (Tryz.prog.cellsOf 81))=some y:=⟨_,(hf 2 _ rfl).trans (Y4 (by rw [hxl]; decide))⟩
 rw [show Tryz.prog.cellsOf 81=1 from by kernel_rfl] at hy2
 obtain ⟨y3,hy3⟩:∃ y,DataW.trod enc Tryz.prog W 0 spare held n 3 ((cs.drop 3).take (Tryz.prog.cellsOf 3))=some y:=⟨_,(hf 3 _ rfl).trans (Y4 (by rw [hxl]; decide))⟩
 rw [show Tryz.prog.cellsOf 3=1 from by kernel_rfl] at hy3
 obtain ⟨y4,hy4⟩:∃ y,DataW.trod enc Tryz.prog W 0 spare held n 9 ((cs.drop 4).take (Tryz.prog.cellsOf 9))=some y:=⟨_,(hf 4 _ rfl).trans (Y4 (by rw [hxl]; decide))⟩
 rw [show Tryz.prog.cellsOf 9=1 from by kernel_rfl] at hy4
 obtain ⟨y5,hy5⟩:∃ y,DataW.trod enc Tryz.prog W 0 spare held n 9 ((cs.drop 5).take (Tryz.prog.cellsOf 9))=some y:=⟨_,(hf 5 _ rfl).trans (Y4 (by rw [hxl]; decide))⟩
 rw [show Tryz.prog.cellsOf 9=1 from by kernel_rfl] at hy5
 obtain ⟨y6,hy6⟩:∃ y,DataW.trod enc Tryz.prog W 0 spare held n 4 ((cs.drop 6).take (Tryz.prog.cellsOf 4))=some y:=⟨_,(hf 6 _ rfl).trans (Y4 (by rw [hxl]; decide))⟩
 rw [show Tryz.prog.cellsOf 4=1 from by kernel_rfl] at hy6
 obtain ⟨y7,hy7⟩:∃ y,DataW.trod enc Tryz.prog W 0 spare held n 45 ((cs.drop 7).take (Tryz.prog.cellsOf 45))=some y:=⟨_,(hf 7 _ rfl).trans (Y4 (by rw [hxl]; decide))⟩
 rw [show Tryz.prog.cellsOf 45=10 from by kernel_rfl] at hy7
 obtain ⟨y8,hy8⟩:∃ y,DataW.trod enc Tryz.prog W 0 spare held n 95 ((cs.drop 17).take (Tryz.prog.cellsOf 95))=some y:=⟨_,(hf 8 _ rfl).trans (Y4 (by rw [hxl]; decide))⟩
 rw [show Tryz.prog.cellsOf 95=6 from by kernel_rfl] at hy8
 obtain ⟨v0,v1,v2,v3,v4,v5,v6,v7,v8,v9,v10,v11,v12,v13,v14,v15,v16,v17,v18,v19,v20,v21,v22,rfl⟩:∃ v0 v1 v2 v3 v4 v5 v6 v7 v8 v9 v10 v11 v12 v13 v14 v15 v16 v17 v18 v19 v20 v21 v22,cs=[v0,v1,v2,v3,v4,v5,v6,v7,v8,v9,v10,v11,v12,v13,v14,v15,v16,v17,v18,v19,v20,v21,v22]:=by
  match cs,hcl with
  | [v0,v1,v2,v3,v4,v5,v6,v7,v8,v9,v10,v11,v12,v13,v14,v15,v16,v17,v18,v19,v20,v21,v22],_=>exact ⟨v0,v1,v2,v3,v4,v5,v6,v7,v8,v9,v10,v11,v12,v13,v14,v15,v16,v17,v18,v19,v20,v21,v22,rfl⟩
 simp only [Y9,Yj,Y1o,Yl] at hy0 hy1 hy2 hy3 hy4 hy5 hy6 hy7 hy8
 obtain ⟨z0,e0,_,_⟩:=DataW.trod_int Qu3 hy0
 obtain ⟨z1,e1,_,_⟩:=DataW.trod_int Qu3 hy1
 obtain ⟨a,c,l,e2,h1,h2,h3,h4⟩:=Xdw (cells:=Xgd) (c:=1) (fit:=fun z=>z<18446744073709551616) Xeb (by kernel_rfl) (by decide) (fun n cs y h=>Xlk h) hy2
 obtain ⟨z3,e3,_,_⟩:=DataW.trod_int Qu3 hy3
 obtain ⟨z4,e4,_,w4⟩:=DataW.trod_string Qu9 hy4
 obtain ⟨z5,e5,_,w5⟩:=DataW.trod_string Qu9 hy5
 obtain ⟨z6,e6,_⟩:=DataW.trod_bool Qu4 hy6
 obtain ⟨r,e7,_⟩:=Xnl hy7
 obtain ⟨q,e8,_⟩:=Xo7 hy8
 unfold X7 at e7
 unfold X9n at e8
 simp only [List.cons.injEq,and_true] at e0 e1 e2 e3 e4 e5 e6 e7 e8
 subst e0 e1 e2 e3 e4 e5 e6
 obtain ⟨rfl,rfl,rfl,rfl,rfl,rfl,rfl,rfl,rfl,rfl⟩:=e7
 obtain ⟨rfl,rfl,rfl,rfl,rfl,rfl⟩:=e8
 exact ⟨⟨z0,z1,l,z3,z4.data.toList,z5.data.toList,z6,r,q⟩,⟨a,c,rfl,h1,h2,by rw [← Xre]; exact h3⟩,⟨h4,w4,w5⟩⟩
set_option maxRecDepth 20000 in
theorem Xo2 {H:Type} {enc:TypeId×Value→H} {W:World} {spare:Nat→Bool} {held:Bool} {fuel:Nat} {cs:List Value} {x:DataW H×List MemPlace} (h:DataW.trod enc Tryz.prog W 0 spare held fuel 88 cs=some x):∃ (a:Option Addr) (cap:Nat) (l:List Op),cs=[.slice a l.length cap]∧l.length≤cap∧cap≤maxLen∧OpsAt (im0 W) a l∧∀ o∈l,o.fits:=by
 obtain ⟨a,cap,L,n,rfl,h1,h2,h3,h4,h5⟩:=X4k (c:=23) Xhm (by kernel_rfl) (by decide) h
 have key:∀ L:List (List Value),(∀ l∈L,∃ y,DataW.trod enc Tryz.prog W 0 spare held n 97 l=some y)→∃ l:List Op,L.length=l.length∧∀ (i:Nat) (u:Op),l[i]?=some u→u.fits∧∃ c,L[i]?=some c∧OpAt (im0 W) u c:=by
  intro L
  induction L with
  | nil=>intro _; exact ⟨[],rfl,fun i s h=>by simp at h⟩
  | cons c L ih =>
   intro h
   obtain ⟨y,hy⟩:=h c (by simp)
   obtain ⟨s,hs,hf⟩:=Xsd hy
   obtain ⟨l,e1,e2⟩:=ih (fun c hc=>h c (by simp [hc]))
   refine ⟨s::l,by simp [e1],fun i u hu=>?_⟩
   cases i with
   | zero=>simp at hu; subst hu; exact ⟨hf,c,rfl,hs⟩
   | succ i=>simpa using e2 i u (by simpa using hu)
 obtain ⟨l,e1,e2⟩:=key L h5
 refine ⟨a,cap,l,by rw [e1],by rw [← e1]; exact h1,h2,⟨L,e1,h3,by rw [← e1]; exact h4,fun i u hu=>(e2 i u hu).2⟩,fun u hu=>?_⟩
 obtain ⟨i,hi⟩:=Y11.1 hu
 exact (e2 i u hi).1
end Go.Proofs.YtadhiihnnkcagaaGreatDoor
