/- Part 4 of what the proof stands on: W23h, Co, W23j, W23k, GkK, Kn3, Op23, W18h, W23l, W23m. -/
import Derived.Test.YtbciobiiejpdgaaGreatDoorMBC
import Derived.Lib.LaidTab
import Derived.Lib.LaidU8
import Derived.Lay
import Derived.Shelf.Vars
import Derived.HandedShaped
import Derived.MakeChecks
import Derived.OpenShut
import Derived.Test.YtbciobiiejpdgaaGreatDoorRows
import Derived.KernelRfl
set_option linter.unusedVariables false
set_option linter.unusedSimpArgs false
namespace Go.Proofs.YtbciobiiejpdgaaGreatDoor
open Gk Ul Pc Pat Xm Tr Tk
set_option maxRecDepth 4000
theorem Xb6:Bld Tryz.prog 29 [(0,1),(1,1),(2,21),(23,1),(24,1),(25,1),(26,1),(27,1)] [.slice none 0 0,.slice none 0 0,.int .i64 0,.int .i64 0,.int .i64 0,.int .i64 0,.int .i64 0,.int .i64 0,.int .i64 0,.int .i64 0,.int .i64 0,.int .i64 0,.int .i64 0,.int .i64 0,.int .i64 0,.int .i64 0,.int .i64 0,.int .i64 0,.int .i64 0,.int .i64 0,.int .i64 0,.int .i64 0,.int .i64 0,.int .i64 0,.float .f64 0,.float .f64 0,.float .f64 0,.int .i64 0]:=X5s Xdn Tryz.zeroValue29 (fun w=>by simp [go_sem])
structure Op3 where
 act:Int
 l:List Nt
 a:List UInt8
 f:Bool
 n:Int
def OpAt3 (I:Im) (o:Op3) (cs:List Value):Prop:=∃ la lc,cs=[I64 o.act,.slice la o.l.length lc,S o.a,.bool o.f,I64 o.n]∧o.l.length≤lc∧RS I la 4 o.l.length (X8 X5 o.l)
def OpsAt3 (I:Im) (a:Option Addr) (l:List Op3):Prop:=∃ L:List (List Value),L.length=l.length∧(∀ c∈L,c.length=5)∧RS I a 5 l.length L.flatten∧∀ (i:Nat) o,l[i]?=some o→∃ cs,L[i]?=some cs∧OpAt3 I o cs
theorem OpsAt3.at {I:Im} {a:Option Addr} {l:List Op3} (h:OpsAt3 I a l) {i:Nat} {u:Op3} (hu:l[i]?=some u):∃ p la lc,a=some p∧At I (p.add (i*5)) [I64 u.act,.slice la u.l.length lc,S u.a,.bool u.f,I64 u.n]∧u.l.length≤lc∧RS I la 4 u.l.length (X8 X5 u.l):=by
 obtain ⟨L,h1,h2,h3,h4⟩:=h
 obtain ⟨cs,h5,la,lc,rfl,h7,h8⟩:=h4 i u hu
 obtain ⟨q,rfl,hq⟩:=h3.2 (by have:=(Y1.1 hu).1; omega)
 have h9:=X33 (hq.add (i*5)) 5
 rw [X2l L h2 i _ h5] at h9
 exact ⟨q,la,lc,rfl,h9,h7,h8⟩
def CFG:List Value:=[.slice none 0 0,.slice none 0 0,I64 0,I64 0,I64 0,I64 0,I64 0,I64 0,I64 0,I64 0,I64 0,I64 0,I64 0,I64 0,I64 0,I64 0,I64 0,I64 0,I64 0,I64 0,I64 0,I64 0,I64 0,I64 0,F64 4607182418800017408,F64 4611686018427387904,F64 4621819117588971520,I64 3]
def NM:List UInt8:=pre 2 ++ 45::X9d 16 1
def EX0:Nt:=⟨NM,[104,116,116,112,58,47,47,97,47],0,5⟩
def EX1:Nt:=⟨NM,[104,116,116,112,58,47,47,97,47],1,6⟩
def EX2:Nt:=⟨NM,[104,116,116,112,58,47,47,97,47],2,8⟩
def QC0:Qc:=⟨4607182418800017408,4611686018427387904,4621819117588971520,3⟩
theorem ex_put:X98 [] [EX0]=([EX0],0):=by decide +kernel
theorem Xd5:X35 QC0 [EX0] NM false 5=([EX1],0):=by decide +kernel
theorem Xd3:X35 QC0 [EX1] NM false 6=([EX2],0):=by decide +kernel
theorem Xct:X35 QC0 [EX2] NM false 8=([],0):=by decide +kernel
theorem Xby:X54 [EX1] 6=(EX1,true):=by decide +kernel
theorem Xbd:X54 [EX2] 7=(nt0,false):=by decide +kernel
theorem Xar:X54 [EX2] 8=(EX2,true):=by decide +kernel
theorem Xbw:(max 1 (min (3:Int) 9))=limQ QC0:=by decide +kernel
theorem ex_right:Xd EX0=true∧Xd EX1=true∧Xd EX2=true:=by decide +kernel
theorem Xek:X14 (MSG NM 6)=some NM:=X4l (by decide +kernel) (by decide)
theorem X1w {n:Nt} (h:Xd n=true):∀ m∈[n],Xd m=true:=fun m hm=>by rw [Y20.1 hm]; exact h
theorem X89 (B w:World) (I:Im) (As:List Xf) (hS:Sat B w I As) :
  Calls Tryz.prog 51 [].toArray w (Ret fun v w'=>v=.agg CFG.toArray∧Sat B w' I As):=by
 refine calls Tryz.func51 rfl Tryz.ntmps51 rfl (.seq (.region (.allocA (cs:=[_,_,_,_,_,_,_,_,_,_,_,_,_,_,_,_,_,_,_,_,_,_,_,_,_,_,_,_]) hS Tryz.zeroValue29 rfl ?_)))
 clear hS; intro b0 w hS
 refine .nil (.seq (.region (.val (.build (cs:=[_,_,_,_,_,_,_,_,_,_,_,_,_,_,_,_,_,_,_,_,_,_,_,_,_,_,_,_]) (X2 (.of rfl) (X2 (.of rfl) (X2 (.of rfl) (X2 (.of rfl) X3)))) Xb6 rfl) rfl (.stA hS (k:=0) rfl (.of rfl) (.of rfl) rfl Tryz.sizeOf29 rfl (by simp) ?_))))
 clear hS; intro w hS; try dsimp only [List.set] at hS
 try simp only [Yb,Y6,Y8,Y2,Y5,Yc,Y7] at hS
 refine .nil (.ret (ret1c (b:=_) (cs:=[_,_,_,_,_,_,_,_,_,_,_,_,_,_,_,_,_,_,_,_,_,_,_,_,_,_,_,_]) Tryz.results51 hS (k:=0) rfl Tryz.isAgg29 Tryz.sizeOf29 rfl rfl ?_))
 exact ⟨_,rfl,rfl,(hS.drop (k:=0) rfl)⟩
theorem Xbh (B w:World) (I:Im) (As:List Xf) (hS:Sat B w I As) :
  Calls Tryz.prog 46 [I64 2,U64 ((1:Nat):Int)].toArray w (Ret fun v w'=>v=S NM∧Sat B w' I As):=by
 refine calls Tryz.func46 rfl Tryz.ntmps46 rfl (.seq (.q 1 rfl (.seq (.t 2 rfl (.call Tryz.func92 rfl (X0 (.of rfl) (X0 (.of rfl) X1)) rfl (X8f 2 1 (by decide) B _ I _ hS) ?_)))))
 clear hS
 rintro _ w ⟨rfl,hS⟩
 rw [if_neg (show ¬ X77 2=[] by decide +kernel)]
 refine .q 5 rfl (.nil (.seq (.q 2 rfl (.ret (Xl Tryz.results46 rfl ?_)))))
 exact ⟨_,rfl,rfl,hS⟩
set_option maxHeartbeats 400000 in
theorem X4w (B w:World) (I:Im) (hK:Kx I) (hP:PreAt I) (As:List Xf) (hS:Sat B w I As) :
  Calls Tryz.prog 8 [].toArray w (Ret fun v w'=>v=.bool true∧Sat B w' I As):=by
 refine calls Tryz.func8 rfl Tryz.ntmps8 rfl (.seq (.q 1 rfl (.seq (.region (.call Tryz.func51 rfl X1 rfl (X89 B _ I _ hS) ?_)))))
 clear hS
 rintro _ w ⟨rfl,hS⟩
 refine .call Tryz.func11 rfl (X0 (.of rfl) X1) rfl (Xeq CFG 4607182418800017408 4611686018427387904 4621819117588971520 3 rfl rfl rfl rfl B _ I _ hS) ?_
 clear hS
 rintro _ w ⟨qb,rfl,hS⟩
 refine .q 1 rfl (.nil (.seq (.seq (.t 1 rfl (.val (.eqp (.of rfl) (.of rfl) Tryz.underlying34) rfl (.nil (.condF (rfl) (.skip (.seq (.region (.call Tryz.func46 rfl (X0 (.of rfl) (X0 (.of rfl) X1)) rfl (Xbh B _ I _ hS) ?_)))))))))))
 clear hS
 rintro _ w ⟨rfl,hS⟩
 refine .q 1 rfl (.nil (.seq (.t 2 rfl (.val (.build (cs:=[_,_,_,_]) (X2 (.of rfl) (X2 (.of rfl) (X2 (.of rfl) X3))) Xp rfl) rfl (.buildSlice (cs:=[_,_,_,_]) hS (X2 (.of rfl) X3) X2z X6 X4a rfl rfl rfl rfl ?_)))))
 clear hS; intro b23 w hS
 replace hS:=((hS.pick 1 rfl).pick 1 rfl); try dsimp only [List.eraseIdx] at hS
 obtain ⟨J0,hJ0,hj23,hS⟩:=hS.freeze (k:=0) rfl
 try dsimp only [List.eraseIdx] at hS
 have hRl:RS J0 (some (ad b23 0)) 4 [EX0].length (X8 X5 [EX0]):=⟨rfl,fun _=>⟨_,rfl,X67 hj23⟩⟩
 refine WL.call Tryz.func13 rfl (X0 (.of rfl) (X0 (.of rfl) X1)) rfl (Xfm qb _ _ _ _ none 0 [] (by decide) B _ J0 (RS.nil _ 4) (Yh _) (some (ad b23 0)) 1 [EX0] (by decide) (fun n hn=>by rw [Y20.1 hn]; exact (by decide +kernel:EX0.ticket.length≤60∧EX0.url.length≤120)) hRl (hK.mono hJ0) (hP.mono hJ0) _ hS) ?_
 clear hS
 rintro _ w ⟨J1,a1,c1,rfl,hJ1,hR1,hc1,hS⟩
 rw [ex_put] at hS hR1 hc1 ⊢
 dsimp only at hS hR1 hc1
 refine .q 1 rfl (.nil (.seq (.t 2 rfl (.call Qf15 rfl (X0 (.of rfl) (X0 (.of rfl) (X0 (.of rfl) (X0 (.of rfl) X1)))) rfl (X63 qb _ _ _ _ a1 c1 [EX0] (by decide) B _ J1 hR1 hc1 (X1w ex_right.1) 3 Xbw NM false 5 (by decide) (by decide) _ hS) ?_))))
 clear hS
 rintro _ w ⟨J2,a2,c2,rfl,hJ2,hR2,hc2,hS⟩
 try dsimp only [List.eraseIdx] at hS
 replace hS:=hS
 rw [show (⟨4607182418800017408,4611686018427387904,4621819117588971520,3⟩:Qc)=QC0 from rfl,Xd5] at hS hR2 hc2 ⊢
 dsimp only at hS hR2 hc2
 refine .q 1 rfl (.nil (.seq (.t 1 rfl (.call Qf17 rfl (X0 (.of rfl) (X0 (.of rfl) X1)) rfl (X4h qb _ _ _ _ a2 c2 [EX1] (by decide) B _ J2 hR2 hc2 (X1w ex_right.2.1) 6 (by decide) (by decide) _ hS) ?_))))
 clear hS
 rintro _ w ⟨rfl,hS⟩
 try dsimp only [List.eraseIdx] at hS
 rw [Xby]
 refine .q 3 rfl (.allocA (cs:=[_,_,_,_]) hS X4a rfl ?_)
 clear hS; intro b5 w hS
 first | refine WL.stA hS (k:=0) rfl (.of rfl) (.of rfl) rfl X6 rfl (by simp) ?_ | refine WL.stA hS (k:=1) rfl (.of rfl) (.of rfl) rfl X6 rfl (by simp) ?_
 clear hS; intro w hS; try dsimp only [List.set] at hS
 try simp only [Yb,Y6,Y8,Y2,Y5,Yc,Y7] at hS
 refine .q 1 rfl (.nil (.seq (.t 2 rfl (.call Qf15 rfl (X0 (.of rfl) (X0 (.of rfl) (X0 (.of rfl) (X0 (.of rfl) X1)))) rfl (X63 qb _ _ _ _ a2 c2 [EX1] (by decide) B _ J2 hR2 hc2 (X1w ex_right.2.1) 3 Xbw NM false 6 (by decide) (by decide) _ (hS.pick 1 rfl)) ?_))))
 clear hS
 rintro _ w ⟨J3,a3,c3,rfl,hJ3,hR3,hc3,hS⟩
 try dsimp only [List.eraseIdx] at hS
 replace hS:=hS
 rw [show (⟨4607182418800017408,4611686018427387904,4621819117588971520,3⟩:Qc)=QC0 from rfl,Xd3] at hS hR3 hc3 ⊢
 dsimp only at hS hR3 hc3
 refine .q 1 rfl (.nil (.seq (.t 1 rfl (.call Qf17 rfl (X0 (.of rfl) (X0 (.of rfl) X1)) rfl (X4h qb _ _ _ _ a3 c3 [EX2] (by decide) B _ J3 hR3 hc3 (X1w ex_right.2.2) 7 (by decide) (by decide) _ hS) ?_))))
 clear hS
 rintro _ w ⟨rfl,hS⟩
 try dsimp only [List.eraseIdx] at hS
 rw [Xbd]
 refine .q 3 rfl (.allocA (cs:=[_,_,_,_]) hS X4a rfl ?_)
 clear hS; intro b8 w hS
 first | refine WL.stA hS (k:=0) rfl (.of rfl) (.of rfl) rfl X6 rfl (by simp) ?_ | refine WL.stA hS (k:=1) rfl (.of rfl) (.of rfl) rfl X6 rfl (by simp) ?_ | refine WL.stA hS (k:=2) rfl (.of rfl) (.of rfl) rfl X6 rfl (by simp) ?_
 clear hS; intro w hS; try dsimp only [List.set] at hS
 try simp only [Yb,Y6,Y8,Y2,Y5,Yc,Y7] at hS
 refine .q 1 rfl (.nil (.seq (.t 1 rfl (.call Qf17 rfl (X0 (.of rfl) (X0 (.of rfl) X1)) rfl (X4h qb _ _ _ _ a3 c3 [EX2] (by decide) B _ J3 hR3 hc3 (X1w ex_right.2.2) 8 (by decide) (by decide) _ (hS.pick 1 rfl)) ?_))))
 clear hS
 rintro _ w ⟨rfl,hS⟩
 try dsimp only [List.eraseIdx] at hS
 rw [Xar]
 refine .q 3 rfl (.allocA (cs:=[_,_,_,_]) hS X4a rfl ?_)
 clear hS; intro b10 w hS
 first | refine WL.stA hS (k:=0) rfl (.of rfl) (.of rfl) rfl X6 rfl (by simp) ?_ | refine WL.stA hS (k:=1) rfl (.of rfl) (.of rfl) rfl X6 rfl (by simp) ?_ | refine WL.stA hS (k:=2) rfl (.of rfl) (.of rfl) rfl X6 rfl (by simp) ?_ | refine WL.stA hS (k:=3) rfl (.of rfl) (.of rfl) rfl X6 rfl (by simp) ?_
 clear hS; intro w hS; try dsimp only [List.set] at hS
 try simp only [Yb,Y6,Y8,Y2,Y5,Yc,Y7] at hS
 refine .q 1 rfl (.nil (.seq (.t 2 rfl (.call Qf15 rfl (X0 (.of rfl) (X0 (.of rfl) (X0 (.of rfl) (X0 (.of rfl) X1)))) rfl (X63 qb _ _ _ _ a3 c3 [EX2] (by decide) B _ J3 hR3 hc3 (X1w ex_right.2.2) 3 Xbw NM false 8 (by decide) (by decide) _ (hS.pick 1 rfl)) ?_))))
 clear hS
 rintro _ w ⟨J4,a4,c4,rfl,hJ4,hR4,hc4,hS⟩
 try dsimp only [List.eraseIdx] at hS
 replace hS:=hS
 rw [show (⟨4607182418800017408,4611686018427387904,4621819117588971520,3⟩:Qc)=QC0 from rfl,Xct] at hS hR4 hc4 ⊢
 dsimp only at hS hR4 hc4
 refine .q 1 rfl (.nil (.seq (.region ?_)))
 first | refine WL.val (.ldsW (cs:=[_,_,_,_]) (.of rfl) hS (k:=0) rfl Xb X6 rfl) rfl ?_ | refine WL.val (.lds (vs:=[_,_,_,_]) (.of rfl) hS (k:=0) rfl Xb X6 rfl (fun _ _ h=>h)) rfl ?_ | refine WL.val (.ldsW (cs:=[_,_,_,_]) (.of rfl) hS (k:=1) rfl Xb X6 rfl) rfl ?_ | refine WL.val (.lds (vs:=[_,_,_,_]) (.of rfl) hS (k:=1) rfl Xb X6 rfl (fun _ _ h=>h)) rfl ?_ | refine WL.val (.ldsW (cs:=[_,_,_,_]) (.of rfl) hS (k:=2) rfl Xb X6 rfl) rfl ?_ | refine WL.val (.lds (vs:=[_,_,_,_]) (.of rfl) hS (k:=2) rfl Xb X6 rfl (fun _ _ h=>h)) rfl ?_ | refine WL.val (.ldsW (cs:=[_,_,_,_]) (.of rfl) hS (k:=3) rfl Xb X6 rfl) rfl ?_ | refine WL.val (.lds (vs:=[_,_,_,_]) (.of rfl) hS (k:=3) rfl Xb X6 rfl (fun _ _ h=>h)) rfl ?_
 refine .call Qf28 rfl (X0 (.of rfl) X1) rfl (X3a EX1 ex_right.2.1 B _ J4 (hK.mono (hJ0.trans (hJ1.trans (hJ2.trans (hJ3.trans hJ4))))) _ hS) ?_
 clear hS
 rintro _ w ⟨rfl,hS⟩
 refine .call Qf25 rfl (X0 (.of rfl) X1) rfl (X47 (MSG NM 6) (by decide +kernel) B _ J4 (hK.mono (hJ0.trans (hJ1.trans (hJ2.trans (hJ3.trans hJ4))))) (hP.mono (hJ0.trans (hJ1.trans (hJ2.trans (hJ3.trans hJ4))))) _ hS) ?_
 clear hS
 rintro _ w ⟨rfl,hS⟩
 rw [Xek]
 refine .q 5 rfl (.nil (.seq (.t 3 rfl (.gval rfl rfl (fun hg1=>(.move (.of rfl))) rfl (.gval rfl rfl (fun hg1=>(.eql (.gd hg1 rfl) (.of rfl))) rfl (.val (.pand (.of rfl) (.of rfl) (.of rfl)) rfl (.q 1 rfl (.gval rfl rfl (fun hg1=>(.move (.of rfl))) rfl (.gval rfl rfl (fun hg1=>(.eql (.gd hg1 rfl) (.of rfl))) rfl (.val (.pand (.of rfl) (.of rfl) (.of rfl)) rfl (.q 1 rfl (.gval rfl rfl (fun hg1=>(.move (.of rfl))) rfl (.gval rfl rfl (fun hg1=>(.eql (.gd hg1 rfl) (.of rfl))) rfl (.val (.pand (.of rfl) (.of rfl) (.of rfl)) rfl (.q 1 rfl (.gval rfl rfl (fun hg1=>(.move (.of rfl))) rfl (.val (.pand (.of rfl) (.of rfl) (.of rfl)) rfl (.q 1 rfl ?_))))))))))))))))))
 refine WL.gval rfl rfl (fun hg1=>(by first | exact .fieldAddr 3 (.of rfl) Xg rfl rfl Qs3 rfl | exact .fieldAddrI 3 (.of rfl) Xg rfl rfl Qs3 rfl)) rfl ?_
 refine WL.gval rfl rfl (fun hg1=>(by first | exact (.ld (.gd hg1 rfl) hS (k:=0) rfl Qg3 rfl) | exact (.ld (.gd hg1 rfl) hS (k:=1) rfl Qg3 rfl) | exact (.ld (.gd hg1 rfl) hS (k:=2) rfl Qg3 rfl) | exact (.ld (.gd hg1 rfl) hS (k:=3) rfl Qg3 rfl))) rfl ?_
 refine .gval rfl rfl (fun hg1=>(.eql (.gd hg1 rfl) (.of rfl))) rfl (.val (.pand (.of rfl) (.of rfl) (.of rfl)) rfl (.q 1 rfl ?_))
 refine WL.gval rfl rfl (fun hg1=>(by first | exact .fieldAddr 2 (.of rfl) Xg rfl rfl Qs3 rfl | exact .fieldAddrI 2 (.of rfl) Xg rfl rfl Qs3 rfl)) rfl ?_
 refine WL.gval rfl rfl (fun hg1=>(by first | exact (.ld (.gd hg1 rfl) hS (k:=0) rfl Qg3 rfl) | exact (.ld (.gd hg1 rfl) hS (k:=1) rfl Qg3 rfl) | exact (.ld (.gd hg1 rfl) hS (k:=2) rfl Qg3 rfl) | exact (.ld (.gd hg1 rfl) hS (k:=3) rfl Qg3 rfl))) rfl ?_
 refine .gval rfl rfl (fun hg1=>(.eql (.gd hg1 rfl) (.of rfl))) rfl (.val (.pand (.of rfl) (.of rfl) (.of rfl)) rfl (.q 1 rfl (.gval rfl rfl (fun hg1=>(.move (.of rfl))) rfl (.gval rfl rfl (fun hg1=>(.not (.gd hg1 rfl))) rfl (.val (.pand (.of rfl) (.of rfl) (.of rfl)) rfl (.q 1 rfl (.gval rfl rfl (fun hg1=>(.move (.of rfl))) rfl (.val (.pand (.of rfl) (.of rfl) (.of rfl)) rfl (.q 1 rfl ?_)))))))))
 refine WL.gval rfl rfl (fun hg1=>(by first | exact .fieldAddr 3 (.of rfl) Xg rfl rfl Qs3 rfl | exact .fieldAddrI 3 (.of rfl) Xg rfl rfl Qs3 rfl)) rfl ?_
 refine WL.gval rfl rfl (fun hg1=>(by first | exact (.ld (.gd hg1 rfl) hS (k:=0) rfl Qg3 rfl) | exact (.ld (.gd hg1 rfl) hS (k:=1) rfl Qg3 rfl) | exact (.ld (.gd hg1 rfl) hS (k:=2) rfl Qg3 rfl) | exact (.ld (.gd hg1 rfl) hS (k:=3) rfl Qg3 rfl))) rfl ?_
 refine .gval rfl rfl (fun hg1=>(.eql (.gd hg1 rfl) (.of rfl))) rfl (.val (.pand (.of rfl) (.of rfl) (.of rfl)) rfl (.q 1 rfl (.opn rfl rfl rfl (.val (.move (.of rfl)) rfl (.opn rfl rfl rfl (.call Tryz.func20 rfl (X0 (.of rfl) X1) rfl (Xf9 qb _ _ _ _ a4 c4 [] (by decide) B _ J4 hR4 hc4 _ hS) ?_))))))
 clear hS
 rintro _ w ⟨J5,a5,c5,rfl,hJ5,_,_,hS⟩
 refine .opn rfl rfl rfl (.val (.lenSlice (.of rfl) X2z) rfl (.opn rfl rfl rfl (.val (.eql (.of rfl) (.of rfl)) rfl (.val (.pand (.of rfl) (.of rfl) (.of rfl)) rfl (.q 1 rfl (.gval rfl rfl (fun hg1=>(.move (.of rfl))) rfl (.gval rfl rfl (fun hg1=>(.move (.of rfl))) rfl (.gval rfl rfl (fun hg1=>(.eqs (.gd hg1 rfl) (.gd hg1 rfl))) rfl (.val (.pand (.of rfl) (.of rfl) (.of rfl)) rfl (.q 1 rfl (.gval rfl rfl (fun hg1=>(.move (.of rfl))) rfl (.val (.pand (.of rfl) (.of rfl) (.of rfl)) rfl (.q 1 rfl (.nil (.ret (Xl Tryz.results8 rfl ?_))))))))))))))))
 refine ⟨_,rfl,?_,X2c ((hJ0.trans (hJ1.trans (hJ2.trans (hJ3.trans hJ4)))).trans hJ5) ((((hS.drop (k:=0) rfl).drop (k:=0) rfl).drop (k:=0) rfl).drop (k:=0) rfl)⟩
 exact congrArg Value.bool (by decide +kernel)
end Go.Proofs.YtbciobiiejpdgaaGreatDoor
namespace Xm
open Ul Pc Gk Pat Tk Tr
def X41:Nat→Nat→List UInt8
 | 0,_=>[]
 | i+1,x=>UInt8.ofNat (x / 256 ^ i)::X41 i x
theorem X23:∀ (i x:Nat),(X41 i x).length=i
 | 0,_=>rfl
 | i+1,x=>by rw [X41,List.length_cons,X23 i x]
def Xh (a:Nat) (s:List UInt8):Nat:=s.foldl (fun a c=>256*a+c.toNat) a
theorem X39 (a:Nat) (s t:List UInt8):Xh a (s ++ t)=Xh (Xh a s) t:=Y2r ..
theorem X78:∀ (i x a:Nat),Xh a (X41 i x)=a*256 ^ i+x % 256 ^ i
 | 0,x,a=>by simp [X41,Xh,Nat.mod_one]
 | i+1,x,a=>by
  show Xh (256*a+(UInt8.ofNat (x / 256 ^ i)).toNat) (X41 i x)=_
  rw [X78 i x,show (UInt8.ofNat (x / 256 ^ i)).toNat=x / 256 ^ i % 256 from by simp,Y17,Nat.mod_mul,Y1g]
  have:x / 256 ^ i % 256*256 ^ i=256 ^ i*(x / 256 ^ i % 256):=Ys ..
  have:256*a*256 ^ i=a*(256 ^ i*256):=by rw [Ys 256 a,Yt,Ys 256]
  omega
theorem X5t:∀ (s:List UInt8) (a:Nat),Xh a s<(a+1)*256 ^ s.length
 | [],a=>by simp [Xh]
 | c::s,a=>by
  have h:=X5t s (256*a+c.toNat)
  have hc:=c.toNat_lt
  show Xh (256*a+c.toNat) s<_
  rw [List.length_cons,Y17]
  have h2:(256*a+c.toNat+1)*256 ^ s.length≤(256*(a+1))*256 ^ s.length:=Y1i _ (by omega)
  have h3:(256*(a+1))*256 ^ s.length=(a+1)*(256 ^ s.length*256):=by rw [Ys 256,Yt,Ys 256]
  omega
theorem X7v:∀ (s:List UInt8) (a:Nat),X41 s.length (Xh a s)=s
 | [],_=>rfl
 | c::s,a=>by
  show X41 (s.length+1) (Xh (256*a+c.toNat) s)=c::s
  rw [X41,X7v s]
  congr 1
  have h1:Xh (256*a+c.toNat) s / 256 ^ s.length=256*a+c.toNat:=by
   have key:∀ (s:List UInt8) (b:Nat),∃ r,r<256 ^ s.length∧Xh b s=b*256 ^ s.length+r:=by
    intro s
    induction s with
    | nil=>intro b; exact ⟨0,by simp,by simp [Xh]⟩
    | cons d s ih =>
     intro b
     obtain ⟨r,h1,h2⟩:=ih (256*b+d.toNat)
     have hd:=d.toNat_lt
     refine ⟨d.toNat*256 ^ s.length+r,?_,?_⟩
     ·rw [List.length_cons,Y17]
      have:d.toNat*256 ^ s.length≤255*256 ^ s.length:=Y1i _ (by omega)
      omega
     ·show Xh (256*b+d.toNat) s=_
      rw [h2,List.length_cons,Y17,Y1g]
      have:256*b*256 ^ s.length=b*(256 ^ s.length*256):=by rw [Ys 256 b,Yt,Ys 256]
      omega
   obtain ⟨r,h1,h2⟩:=key s (256*a+c.toNat)
   rw [h2,Y22,Nat.add_mul_div_right _ _ (Nat.pow_pos (by decide)),Y1x h1,Y7]
  rw [h1]
  apply Y1u.1
  have hc:=c.toNat_lt
  rw [show (UInt8.ofNat (256*a+c.toNat)).toNat=(256*a+c.toNat) % 256 from by simp]
  omega
def X6j (n:Nt):List UInt8×Nat:=if Xd n=true then (UInt8.ofNat n.tries.toNat::(X41 8 n.next.toNat ++ n.url),0) else ([],1)
def X7y (t s:List UInt8):Nt:=⟨t,s.drop 9,((s.headD 0).toNat:Int),(Xh 0 ((s.drop 1).take 8):Int)⟩
def X3c (t s:List UInt8):Nt×Nat:=if s.length<9 then (nt0,8) else if Xd (X7y t s)=true then (X7y t s,0) else (nt0,8)
theorem X8m {n:Nt} (h:(X6j n).2=0):X3c n.ticket (X6j n).1=(n,0)∧(X6j n).1.length=9+n.url.length:=by
 unfold X6j at h ⊢
 split at h
 ·rename_i hr
  rw [if_pos hr]
  obtain ⟨t,u,tr,nx⟩:=n
  have hp:0≤nx∧nx≤1099511627776∧0≤tr∧tr≤9:=by
   unfold Xd at hr
   simp only [Yd,decide_eq_true_eq] at hr
   obtain ⟨⟨⟨⟨⟨_,_⟩,h3⟩,h4⟩,h5⟩,h6⟩:=hr
   exact ⟨h5,h6,h3,h4⟩
  have hl:=X23 8 nx.toNat
  have h1:X7y t (UInt8.ofNat tr.toNat::(X41 8 nx.toNat ++ u))=⟨t,u,tr,nx⟩:=by
   unfold X7y
   simp only [Y2,Y5,List.headD_cons]
   rw [show List.take 8 (X41 8 nx.toNat ++ u)=X41 8 nx.toNat from Y3r hl,
    show List.drop 8 (X41 8 nx.toNat ++ u)=u from List.drop_left' hl,X78]
   congr 1
   ·rw [show (UInt8.ofNat tr.toNat).toNat=tr.toNat % 256 from by simp]; omega
   ·omega
  unfold X3c
  dsimp only
  rw [if_neg (by rw [List.length_cons,Y0,hl]; omega),h1,if_pos hr]
  exact ⟨rfl,by rw [List.length_cons,Y0,hl]; omega⟩
 ·cases h
theorem Xet {t s:List UInt8} (h:(X3c t s).2=0):X6j (X3c t s).1=(s,0)∧(X3c t s).1.ticket=t:=by
 unfold X3c at h ⊢
 split at h
 ·cases h
 ·rename_i hl
  rw [if_neg hl]
  split at h
  ·rename_i hr
   rw [if_pos hr]
   refine ⟨?_,rfl⟩
   unfold X6j
   rw [if_pos hr]
   cases s with
   | nil=>simp at hl
   | cons c s =>
    rw [List.length_cons] at hl
    have h8:(s.take 8).length=8:=by rw [Yw]; omega
    unfold X7y
    simp only [List.headD_cons,Y2,Y5,Y9]
    have h1:=X7v (s.take 8) 0
    rw [h8] at h1
    rw [h1,Y1a]
    congr 2
    apply Y1u.1
    have hc:=c.toNat_lt
    rw [show (UInt8.ofNat c.toNat).toNat=c.toNat % 256 from by simp]
    omega
  ·cases h
theorem X9g:∀ (s:List UInt8) (a:Nat),a*256 ^ s.length≤Xh a s
 | [],a=>by simp [Xh]
 | c::s,a=>by
  have h:=X9g s (256*a+c.toNat)
  show _≤Xh (256*a+c.toNat) s
  refine Y2t ?_ h
  rw [List.length_cons,Y17,Ys (256 ^ _) 256,← Yt,Ys a 256]
  exact Y1i _ (by omega)
theorem X5p (t u:List UInt8) (x:Int) (m:Nat) (hm:m<18446744073709551616):Xd ⟨t,u,x,Go.IntKind.i64.wrap (m:Int)⟩=Xd ⟨t,u,x,(m:Int)⟩∧(Xd ⟨t,u,x,(m:Int)⟩=true→Go.IntKind.i64.wrap (m:Int)=m):=by
 rw [Go.IntKind.wrap_i64]
 by_cases h:(m:Int)≤1099511627776
 ·rw [show ((m:Int)+9223372036854775808) % 18446744073709551616 - 9223372036854775808=m by omega]
  exact ⟨rfl,fun _=>rfl⟩
 ·have h2:Xd ⟨t,u,x,(m:Int)⟩=false:=by
   unfold Xd
   dsimp only
   rw [decide_eq_false h,Y1z]
  rw [h2]
  refine ⟨?_,fun h=>by cases h⟩
  unfold Xd
  dsimp only
  by_cases h0:0≤((m:Int)+9223372036854775808) % 18446744073709551616 - 9223372036854775808
  ·rw [decide_eq_false (by omega:¬ ((m:Int)+9223372036854775808) % 18446744073709551616 - 9223372036854775808≤1099511627776),Y1z]
  ·rw [decide_eq_false h0,Y1z,Bool.false_and]
theorem X90 (s:List UInt8):Xh 0 ((s.drop 1).take 8)<18446744073709551616:=by
 have h:=X5t ((s.drop 1).take 8) 0
 have hl:((s.drop 1).take 8).length≤8:=by rw [Yw]; omega
 have:=Yy (n:=256) (by decide) hl
 have e:(256:Nat) ^ 8=18446744073709551616:=by decide
 omega
theorem Xes (t:List UInt8) {s:List UInt8} (hl:9≤s.length) (h:0<(at_ s 1).toNat∨0<(at_ s 2).toNat):Xd (X7y t s)=false:=by
 match s,hl,h with
 | a::b::c::r,hl,h =>
  have hr:(r.take 6).length=6:=by rw [Yw]; simp only [List.length_cons] at hl; omega
  have h1:=X9g (r.take 6) (256*(256*0+b.toNat)+c.toNat)
  rw [hr] at h1
  have h2:0<b.toNat∨0<c.toNat:=h
  have e:(256:Nat) ^ 6=281474976710656:=by decide
  rw [e] at h1
  have h3:¬ ((Xh 0 (((a::b::c::r).drop 1).take 8):Nat):Int)≤1099511627776:=by
   show ¬ ((Xh (256*(256*0+b.toNat)+c.toNat) (r.take 6):Nat):Int)≤_
   omega
  unfold Xd X7y
  dsimp only
  rw [decide_eq_false h3,Y1z]
theorem X7u {s:List UInt8} (hl:9≤s.length) (h1:(at_ s 1).toNat=0) (h2:(at_ s 2).toNat=0) (k:Nat) (hk:k≤8):Xh 0 ((s.drop 1).take k)<281474976710656:=by
 match s,hl,h1,h2 with
 | a::b::c::r,hl,h1,h2 =>
  have h1:b.toNat=0:=h1
  have h2:c.toNat=0:=h2
  match k,hk with
  | 0,_=>show (0:Nat)<281474976710656; decide
  | 1,_=>show 256*0+b.toNat<_; omega
  | k+2,hk =>
   show Xh (256*(256*0+b.toNat)+c.toNat) (r.take k)<_
   rw [h1,h2]
   have h:=X5t (r.take k) 0
   have hl:(r.take k).length≤6:=by rw [Yw]; omega
   have:=Yy (n:=256) (by decide) hl
   have e:(256:Nat) ^ 6=281474976710656:=by decide
   show Xh 0 (r.take k)<_
   omega
theorem Xam {p:UInt8→Bool}:∀ (D:List UInt8) (j:Nat),(D.take j).all p=true→(D.takeWhile p).take j=D.take j
 | [],j,_=>by simp
 | c::D,0,_=>by simp
 | c::D,j+1,h=>by
  simp only [Y13,Y2h,Yd] at h
  rw [Y12,h.1,if_pos rfl,Y13,Y13,Xam D j h.2]
theorem Xay {p:UInt8→Bool}:∀ (D:List UInt8) (j:Nat),(D.take j).all p=true→(∀ c,D[j]?=some c→p c=false)→D.takeWhile p=D.take j
 | [],j,_,_=>by simp
 | c::D,0,_,h=>by rw [Y12,h c rfl]; rfl
 | c::D,j+1,h,h2=>by
  simp only [Y13,Y2h,Yd] at h
  rw [Y12,h.1,if_pos rfl,Y13,Xay D j h.2 (fun c hc=>h2 c (by simpa using hc))]
theorem X7s {s:List UInt8} (h:X14 s≠none):∃ t r,s=M1 ++ (t ++ (M2 ++ r))∧Xx s=t:=by
 cases hr:X14 s with
 | none=>exact absurd hr h
 | some t =>
  obtain ⟨h1,n,h2,h3⟩:=X2j hr
  refine ⟨t,Go.Lib.decDigits n ++ (M3 ++ (t ++ M4)),?_,?_⟩
  ·rw [h3]; unfold MSG; simp only [Ye]
  ·rw [h3]; exact X6k (Xv h1).1 n
theorem Xej {s:List UInt8} {k:Nat} (hk:M1.length+k≤s.length) (h1:∀ c∈(s.drop M1.length).take k,c≠34) (h2:∀ c,(s.drop M1.length)[k]?=some c→c=34):Xx s=(s.drop M1.length).take k:=by
 unfold Xx
 have h:=X1b (ats:=[34]) (a:=(s.drop M1.length).take k) (b:=(s.drop M1.length).drop k) (fun c hc=>by have:=h1 c hc; simp [this]) (fun c hc=>by
  rw [List.head?_drop] at hc
  rw [h2 c hc]; rfl)
 rw [Y1a] at h
 exact h.1
section
open Go
theorem mul_or (m b:Nat) (hb:b<256):m*256 ||| b=m*256+b:=by
 have:=Y35 (i:=8) (b:=b) (by omega) m
 rw [Ys m 256,show (256:Nat)=2 ^ 8 from rfl]
 exact this.symm
theorem Xbn (a b:Nat) (hb:b<256):bits .or .i64 (IntKind.i64.wrap ((IntKind.i64.wrap (a:Int))*2 ^ 8)) (b:Int)=IntKind.i64.wrap ((256*a+b:Nat):Int):=by
 have e1:(BitVec.ofInt 64 (IntKind.i64.wrap ((IntKind.i64.wrap (a:Int))*2 ^ 8))).toNat=(a*256) % 18446744073709551616:=by
  rw [BitVec.toNat_ofInt,IntKind.wrap_i64,IntKind.wrap_i64]; omega
 have e2:(BitVec.ofInt 64 (b:Int)).toNat=b:=by rw [BitVec.toNat_ofInt]; omega
 have e3:(a*256) % 18446744073709551616=(a % 72057594037927936)*256:=by omega
 show IntKind.i64.wrap (((BitVec.ofInt 64 _ ||| BitVec.ofInt 64 _).toNat:Nat):Int)=_
 rw [BitVec.toNat_or,e1,e2,e3,mul_or _ _ hb,IntKind.wrap_i64,IntKind.wrap_i64]
 omega
end
end Xm
namespace Go.Proofs.YtbciobiiejpdgaaGreatDoor
open Gk Ul Pc Pat Xm Tr Tk
set_option maxRecDepth 4000
theorem X9o:∀ (i x k:Nat),k<i→(X41 i x)[k]?=some (UInt8.ofNat (x / 256 ^ (i - 1 - k)))
 | 0,_,_,h=>absurd h (by omega)
 | i+1,x,0,_=>by rw [X41]; simp
 | i+1,x,k+1,h=>by rw [X41,List.getElem?_cons_succ,X9o i x k (by omega),show i+1 - 1 - (k+1)=i - 1 - k by omega]
theorem X3n (n:Nt) (hn:n.ticket.length≤1000000) (hu:n.url.length≤1000000) (B w:World) (I:Im) (hK:Kx I) (hP:PreAt I) (As:List Xf) (hS:Sat B w I As) :
  Calls Tryz.prog 21 [.agg (X5 n).toArray].toArray w (Ret fun v w'=>v=.tuple #[S (X6j n).1,I64 ((X6j n).2:Nat)]∧Sat B w' I As):=by
 refine calls Qf21 rfl Tryz.ntmps21 rfl (.seq (.region (.boxA (cs:=[_,_,_,_]) hS (.of rfl) rfl ?_)))
 clear hS; intro b1 w hS
 refine .q 2 rfl (.nil (.seq (.seq (.region ?_))))
 first | refine WL.val (.ldsW (cs:=[_,_,_,_]) (.of rfl) hS (k:=0) rfl Xb X6 rfl) rfl ?_ | refine WL.val (.lds (vs:=[_,_,_,_]) (.of rfl) hS (k:=0) rfl Xb X6 rfl (fun _ _ h=>h)) rfl ?_
 refine .call Qf54 rfl (X0 (.of rfl) X1) rfl (X2f n (by omega) (by omega) B _ I hK hP _ hS) ?_
 clear hS
 rintro _ w ⟨rfl,hS⟩
 refine .q 1 rfl (.nil ?_)
 refine WC.cond rfl (fun hb8=>?_) (fun hb8=>?_)
 ·
  have hc8:=hb8; try simp only [Y4] at hc8
  refine .seq (.q 2 rfl (.ret (X3u Tryz.results21 rfl rfl ?_)))
  exact ⟨_,rfl,by unfold X6j; rw [if_neg (by simpa using hb8)]; rfl,(hS.drop (k:=0) rfl)⟩
 have hc8:=hb8; try simp only [Y4] at hc8
 refine .skip (.seq ?_)
 have hr:Xd n=true:=by simpa using hb8
 obtain ⟨_,hx0,hx1,hur,ht0,ht1⟩:=Xo hr
 have hb0:Value.int .u8 n.tries=U8 ((UInt8.ofNat n.tries.toNat).toNat:Int):=by
  congr 1
  rw [show (UInt8.ofNat n.tries.toNat).toNat=n.tries.toNat % 256 from by simp]; omega
 refine .region ?_
 first | refine WL.val (.fieldAddr 2 (.of rfl) Xg rfl rfl Qs3 rfl) rfl ?_ | refine WL.val (.fieldAddrI 2 (.of rfl) Xg rfl rfl Qs3 rfl) rfl ?_
 refine .val (.ld (.of rfl) hS (k:=0) rfl Qg3 rfl) rfl ?_
 refine WL.val (.cvi (.of rfl) Qu3 Qu5 (by rw [IntKind.wrap_u8]; omega)) rfl ?_
 refine .buildSlice (cs:=[_]) hS (X2 (.of rfl) X3) X20 Qs5 Qz5 rfl rfl rfl rfl ?_
 clear hS; intro b12 w hS
 rw [hb0] at hS
 replace hS:=hS.vecOf (k:=0) (E:=5) (size:=1) (n:=1) rfl rfl (by decide)
 try dsimp only [List.set] at hS
 refine .q 1 rfl (.nil (.seq (.seq (.q 1 rfl (.block (.loop (σ:=Nat×Value) (fun ⟨k,v⟩=>[(1,ptr b1 0),(4,v),(5,I64 (7 - (k:Int)))]) (fun ⟨k,v⟩ w=>k≤8∧Sat B w I (Vec 5 1 v (k+1) (bcs (UInt8.ofNat n.tries.toNat::(X41 8 n.next.toNat).take k))::blk b1 [S n.ticket,S n.url,I64 n.tries,I64 n.next] 45::As)) (fun ⟨k,v⟩=>8 - k) (0,.slice (some (ad b12 0)) 1 1) ⟨rfl,rfl,rfl,trivial⟩ ⟨Yk _,hS⟩ ?_))))))
 rintro ⟨k,v⟩ w ⟨hk,hS⟩
 change WC _ _ _ _ [(1,ptr b1 0),(4,v),(5,I64 (7 - (k:Int)))] w
 refine .seq (.seq (.q 2 rfl ?_))
 refine WC.cond rfl (fun hb14=>?_) (fun hb14=>?_)
 ·
  have hc14:=hb14; try simp only [Y4] at hc14
  refine .skip (.seq (.block ?_))
  have hk8:(X41 8 n.next.toNat)[k]?=some (UInt8.ofNat (n.next.toNat / 256 ^ (7 - k))):=X9o 8 _ k (by have h9:=hc14; omega)
  have hcw:IntKind.u8.wrap (n.next / 2 ^ (8*(7 - (k:Int))).toNat)=((UInt8.ofNat (n.next.toNat / 256 ^ (7 - k))).toNat:Int):=by
   rw [IntKind.wrap_u8,show (8*(7 - (k:Int))).toNat=8*(7 - k) by have h9:=hc14; omega,Int.pow_mul]
   rw [show (UInt8.ofNat (n.next.toNat / 256 ^ (7 - k))).toNat=n.next.toNat / 256 ^ (7 - k) % 256 from by simp]
   rw [Int.natCast_emod,Int.natCast_ediv,Int.natCast_pow,Y36 hx0]; rfl
  have htk:(X41 8 n.next.toNat).take (k+1)=(X41 8 n.next.toNat).take k ++ [UInt8.ofNat (n.next.toNat / 256 ^ (7 - k))]:=by rw [Yn,hk8]; rfl
  refine .t 1 rfl ?_
  first | refine WL.val (.fieldAddr 3 (.of rfl) Xg rfl rfl Qs3 rfl) rfl ?_ | refine WL.val (.fieldAddrI 3 (.of rfl) Xg rfl rfl Qs3 rfl) rfl ?_
  first | refine WL.val (.ld (.of rfl) hS (k:=0) rfl Qg3 rfl) rfl ?_ | refine WL.val (.ld (.of rfl) hS (k:=1) rfl Qg3 rfl) rfl ?_
  refine .run 2 rfl ⟨⟨by omega,by omega⟩,trivial⟩ ?_
  refine WL.val (Ex.shr (.of rfl) (.of rfl) (by have h9:=hc14; omega) (by show _≤(64:Int); omega)) rfl ?_
  refine .val (Ex.cvw (.of rfl) Qu3 Qu5) rfl (.buildSlice (cs:=[_]) hS (X2 (.of rfl) X3) X20 Qs5 Qz5 rfl rfl rfl rfl ?_)
  clear hS; intro b24 w hS
  rw [hcw] at hS
  first | refine WL.append (size:=1) (bytes:=1) hS (.of rfl) (.of rfl) (k:=0) rfl X20 X4m rfl rfl rfl rfl rfl rfl rfl ⟨by omega,by unfold maxLen; omega⟩ rfl ?_ | refine WL.append (size:=1) (bytes:=1) hS (.of rfl) (.of rfl) (k:=1) rfl X20 X4m rfl rfl rfl rfl rfl rfl rfl ⟨by omega,by unfold maxLen; omega⟩ rfl ?_
  clear hS; intro v25 w hS; try dsimp only [List.set] at hS
  first | obtain ⟨a25,c25,rfl,hcap25,_⟩:=hS.vecSlice (k:=0) (v:=v25) rfl | obtain ⟨a25,c25,rfl,hcap25,_⟩:=hS.vecSlice (k:=1) (v:=v25) rfl
  refine .q 1 rfl (.nil (.region (.run 3 rfl ⟨⟨by omega,by omega⟩,trivial⟩ (.nil ?_))))
  replace hS:=((hS.pick 1 rfl).pick 1 rfl)
  refine ⟨(k+1,_),⟨rfl,rfl,by (try dsimp only); rw [show (7 - ((k+1:Nat):Int))=7 - (k:Int) - 1 by omega]; rfl,trivial⟩,⟨by (try dsimp only); have h9:=hc14; omega,?_⟩,by (try dsimp only); have h9:=hc14; omega⟩
  rw [htk]
  simpa using hS
 have hc14:=hb14; try simp only [Y4] at hc14
 refine .exit (.seq ?_)
 have hk9:k=8:=by have h9:=hc14; omega
 subst hk9
 rw [Yx (by rw [X23]; exact Yh _)] at hS
 obtain ⟨gb,cap,r,rfl,hc1,hc2,hl1,hl2,hS⟩:=hS.vecOpen (k:=0) rfl (by omega)
 try dsimp only [List.set] at hS
 have hl9:(UInt8.ofNat n.tries.toNat::X41 8 n.next.toNat).length=8+1:=by rw [List.length_cons,X23]
 have hll:=X23 8 n.next.toNat
 rw [← hl9]
 refine .t 1 rfl ?_
 refine WL.val (Ex.bytesStr (l:=UInt8.ofNat n.tries.toNat::X41 8 n.next.toNat) (o:=0) (.of rfl) hS (k:=0) rfl X20 Qu5 Qu9 (fun j hj=>by
  rw [Y7,Yl (by rw [Y25]; exact hj),Y1e,Y3 hj]; rfl)) rfl ?_
 first | refine WL.val (.fieldAddr 1 (.of rfl) Xg rfl rfl Qs9 rfl) rfl ?_ | refine WL.val (.fieldAddrI 1 (.of rfl) Xg rfl rfl Qs9 rfl) rfl ?_
 first | refine WL.val (.ld (.of rfl) hS (k:=0) rfl Qg9 rfl) rfl ?_ | refine WL.val (.ld (.of rfl) hS (k:=1) rfl Qg9 rfl) rfl ?_
 refine WL.run 3 rfl ⟨by (try simp only [Y0,List.length_cons,List.length_nil]); omega,trivial⟩ ?_
 refine .nil (.ret (X3u Tryz.results21 rfl rfl ?_))
 exact ⟨_,rfl,by unfold X6j; rw [if_pos hr]; rfl,((hS.drop (k:=0) rfl).drop (k:=0) rfl)⟩
theorem X3r (t s:List UInt8) (ht:t.length≤1000000) (hsl:s.length≤1000000) (B w:World) (I:Im) (hK:Kx I) (hP:PreAt I) (As:List Xf) (hS:Sat B w I As) :
  Calls Tryz.prog 23 [S t,S s].toArray w (Ret fun v w'=>v=.tuple #[.agg (X5 (X3c t s).1).toArray,I64 ((X3c t s).2:Nat)]∧Sat B w' I As):=by
 refine calls Qf23 rfl Tryz.ntmps23 rfl (.seq (.region (.allocA (cs:=[_,_,_,_]) hS X4a rfl ?_)))
 clear hS; intro b4 w hS
 refine .q 1 rfl (.nil (.seq (.seq (.region (.run 3 rfl ⟨Qu9,trivial⟩ (.nil ?_))))))
 refine WC.cond rfl (fun hb10=>?_) (fun hb10=>?_)
 ·
  have hc10:=hb10; try simp only [Y4] at hc10
  refine .seq (.region (.val (.build (cs:=[_,_,_,_]) X3 Xp rfl) rfl (.stA hS (k:=0) rfl (.of rfl) (.of rfl) rfl X6 rfl (by simp) ?_)))
  clear hS; intro w hS; try dsimp only [List.set] at hS
  try simp only [Yb,Y6,Y8,Y2,Y5,Yc,Y7] at hS
  refine .q 1 rfl (.nil (.ret (Xj (b:=_) (cs:=[_,_,_,_]) Xd1 hS (k:=0) rfl Xb X6 rfl rfl rfl ?_)))
  exact ⟨_,rfl,by unfold X3c; rw [if_pos (by have h9:=hc10; omega)]; rfl,(hS.drop (k:=0) rfl)⟩
 have hc10:=hb10; try simp only [Y4] at hc10
 refine .skip (.seq ?_)
 have hat0:=(at_ s 0).toNat_lt
 have hl9:9≤s.length:=by have h9:=hc10; omega
 have hs0:((at_ s 0).toNat:Int)=((s.headD 0).toNat:Int):=by
  cases s with
  | nil=>simp at hl9
  | cons a b=>rfl
 refine .drawn (fun _=>True) (fun j=>!([].contains j)) (by kernel_rfl) ?_
 replace hS:=hS.drew; generalize w.drew=w at hS ⊢
 refine .tp (i:=0) rfl (by kernel_rfl) (fun w=>(.move (.of rfl))) rfl (.tp (i:=1) rfl (by kernel_rfl) (fun w=>(.move (.of rfl))) rfl (.tp (i:=2) rfl (by kernel_rfl) (fun w=>(.subFrom (.of rfl) (.of rfl) (by omega) (by omega) Qu9)) rfl (.tp (i:=3) rfl (by kernel_rfl) (fun w=>(.move (.of rfl))) rfl (.tp (i:=4) rfl (by kernel_rfl) (fun w=>(.index (.of rfl) (.of rfl) (by omega) (by omega) Qu9)) rfl ?_))))
 refine WD.branch [5,7] (by kernel_rfl) rfl (WO.cons rfl ?_ (WO.cons rfl ?_ (WO.nil)))
 ·
  refine WL.val (.cvi (.of rfl) Qu5 Qu3 (by rw [IntKind.wrap_i64]; omega)) rfl ?_
  refine .nil ?_
  refine And.intro (by intro _ _; trivial) ?_
  refine .tp (i:=6) rfl (by kernel_rfl) (fun w=>(.build (cs:=[_,_,_,_]) (X2 (.of rfl) (X2 (.of rfl) (X2 (.of rfl) X3))) Xp rfl)) rfl ?_
  refine WD.branch [7] (by kernel_rfl) rfl (WO.cons rfl ?_ (WO.nil))
  refine .allocA (cs:=[_,_,_,_]) hS X4a rfl ?_
  clear hS; intro b6 w hS
  refine .nil ?_
  refine And.intro (by intro _ _; trivial) ?_
  refine WD.branch [8] (by kernel_rfl) rfl (WO.cons rfl ?_ (WO.nil))
  first | refine WL.stA hS (k:=0) rfl (.of rfl) (.of rfl) rfl X6 rfl (by simp) ?_ | refine WL.stA hS (k:=1) rfl (.of rfl) (.of rfl) rfl X6 rfl (by simp) ?_
  clear hS; intro w hS; try dsimp only [List.set] at hS
  try simp only [Yb,Y6,Y8,Y2,Y5,Yc,Y7] at hS
  rw [hs0] at hS
  refine .nil ?_
  refine And.intro (by intro _ _; trivial) ?_
  refine .done (by kernel_rfl) (.seq (.seq (.q 1 rfl (.block (.loop (σ:=Nat) (fun k=>[(0,S t),(1,S s),(4,ptr b4 0),(6,ptr b6 0),(7,I64 ((k:Int)+1))]) (fun k w=>k≤8∧Sat B w I (blk b6 [S t,S (s.drop 9),I64 ((s.headD 0).toNat:Int),I64 (IntKind.i64.wrap ((Xh 0 ((s.drop 1).take k):Nat):Int))] 45::blk b4 [S [],S [],I64 0,I64 0] 45::As)) (fun k=>8 - k) 0 ⟨rfl,rfl,rfl,rfl,rfl,trivial⟩ ⟨Yk _,hS⟩ ?_)))))
  rintro k w ⟨hk,hS⟩
  change WC _ _ _ _ [(0,S t),(1,S s),(4,ptr b4 0),(6,ptr b6 0),(7,I64 ((k:Int)+1))] w
  refine .seq (.seq (.q 2 rfl ?_))
  refine WC.cond rfl (fun hb20=>?_) (fun hb20=>?_)
  ·
   have hc20:=hb20; try simp only [Y4] at hc20
   refine .skip (.seq (.block ?_))
   have hkl:k<8:=by have h9:=hc20; omega
   have hbt:=(at_ s ((k:Int)+1)).toNat_lt
   have htk:(s.drop 1).take (k+1)=(s.drop 1).take k ++ [at_ s ((k:Int)+1)]:=by
    rw [Yn,Yq,Y22 1 k]
    have:=Xy (s:=s) (i:=k+1) (by omega)
    rw [this]; rfl
   have hfs:Xh 0 ((s.drop 1).take (k+1))=256*Xh 0 ((s.drop 1).take k)+(at_ s ((k:Int)+1)).toNat:=by rw [htk,X39]; rfl
   have hstep:bits .or .i64 (IntKind.i64.wrap (IntKind.i64.wrap ((Xh 0 ((s.drop 1).take k):Nat):Int)*2 ^ (8:Int).toNat)) ((at_ s ((k:Int)+1)).toNat:Int)=IntKind.i64.wrap ((Xh 0 ((s.drop 1).take (k+1)):Nat):Int):=by rw [hfs]; exact Xbn (Xh 0 ((s.drop 1).take k)) (at_ s ((k:Int)+1)).toNat hbt
   refine .drawn (fun w=>∃ R,Sat B w I (blk b6 [S t,S (s.drop 9),I64 ((s.headD 0).toNat:Int),I64 (IntKind.i64.wrap ((Xh 0 ((s.drop 1).take k):Nat):Int))] 45::R)) (fun j=>!([9].contains j)) (by kernel_rfl) ?_
   replace hS:=hS.drew; generalize w.drew=w at hS ⊢
   have hH:∃ R,Sat B w I (blk b6 [S t,S (s.drop 9),I64 ((s.headD 0).toNat:Int),I64 (IntKind.i64.wrap ((Xh 0 ((s.drop 1).take k):Nat):Int))] 45::R):=⟨_,(hS.pick 0 rfl)⟩
   refine WD.tp (i:=0) rfl (by kernel_rfl) (fun w=>(by first | exact .fieldAddr 3 (.of rfl) Xg rfl rfl Qs3 rfl | exact .fieldAddrI 3 (.of rfl) Xg rfl rfl Qs3 rfl)) rfl ?_
   refine .tk (i:=1) rfl (by kernel_rfl) hH (fun w ⟨R,hS⟩=>(.ld (.of rfl) hS (k:=0) rfl Qg3 rfl)) rfl ?_
   refine WD.tp (i:=2) rfl (by kernel_rfl) (fun w=>(Ex.shl (.of rfl) (.of rfl) (by omega) (by show (8:Int)≤64; omega))) rfl ?_
   refine .tp (i:=3) rfl (by kernel_rfl) (fun w=>(.move (.of rfl))) rfl (.tp (i:=4) rfl (by kernel_rfl) (fun w=>(.move (.of rfl))) rfl (.tp (i:=5) rfl (by kernel_rfl) (fun w=>(.index (.of rfl) (.of rfl) (by omega) (by omega) Qu9)) rfl ?_))
   refine WD.branch [6] (by kernel_rfl) rfl (WO.cons rfl ?_ (WO.nil))
   refine WL.val (.cvi (.of rfl) Qu5 Qu3 (by rw [IntKind.wrap_i64]; omega)) rfl ?_
   refine .nil ?_
   clear hH
   have hH:∃ R,Sat B w I (blk b6 [S t,S (s.drop 9),I64 ((s.headD 0).toNat:Int),I64 (IntKind.i64.wrap ((Xh 0 ((s.drop 1).take k):Nat):Int))] 45::R):=⟨_,(hS.pick 0 rfl)⟩
   refine And.intro (by intro _ _; exact hH) ?_
   refine .tp (i:=7) rfl (by kernel_rfl) (fun w=>(Ex.ibits (.inr (.inl rfl)) (.of rfl) (.of rfl))) rfl ?_
   rw [hstep]
   refine WD.tp (i:=8) rfl (by kernel_rfl) (fun w=>(by first | exact .fieldAddr 3 (.of rfl) Xg rfl rfl Qs3 rfl | exact .fieldAddrI 3 (.of rfl) Xg rfl rfl Qs3 rfl)) rfl ?_
   refine WD.branch [9] (by kernel_rfl) rfl (WO.cons rfl ?_ (WO.nil))
   first | refine WL.st1 hS (k:=0) rfl (.of rfl) (.of rfl) rfl Qs3 (by simp) ?_ | refine WL.st1 hS (k:=1) rfl (.of rfl) (.of rfl) rfl Qs3 (by simp) ?_
   clear hS; intro w hS; try dsimp only [List.set] at hS
   refine .nil ?_
   refine And.intro (by intro h; cases h) ?_
   refine .done (by kernel_rfl) (.region (.run 3 rfl ⟨⟨by omega,by omega⟩,trivial⟩ (.nil ?_)))
   replace hS:=((hS.pick 1 rfl).pick 1 rfl)
   exact ⟨k+1,⟨rfl,rfl,rfl,rfl,by (try dsimp only); rw [show (((k+1:Nat):Int)+1)=(k:Int)+1+1 by omega]; rfl,trivial⟩,⟨by (try dsimp only); omega,hS⟩,by (try dsimp only); omega⟩
  have hc20:=hb20; try simp only [Y4] at hc20
  refine .exit (.seq (.seq ?_))
  have hk8:k=8:=by have h9:=hc20; omega
  subst hk8
  have hw:=X5p t (s.drop 9) ((s.headD 0).toNat:Int) _ (X90 s)
  refine .region ?_
  first | refine WL.val (.ldsW (cs:=[_,_,_,_]) (.of rfl) hS (k:=0) rfl Xb X6 rfl) rfl ?_ | refine WL.val (.lds (vs:=[_,_,_,_]) (.of rfl) hS (k:=0) rfl Xb X6 rfl (fun _ _ h=>h)) rfl ?_ | refine WL.val (.ldsW (cs:=[_,_,_,_]) (.of rfl) hS (k:=1) rfl Xb X6 rfl) rfl ?_ | refine WL.val (.lds (vs:=[_,_,_,_]) (.of rfl) hS (k:=1) rfl Xb X6 rfl (fun _ _ h=>h)) rfl ?_
  refine WL.call Qf54 rfl (X0 (.of rfl) X1) rfl (X2f ⟨t,s.drop 9,((s.headD 0).toNat:Int),IntKind.i64.wrap ((Xh 0 ((s.drop 1).take 8):Nat):Int)⟩ (by (try dsimp only); omega) (by (try dsimp only); rw [Ya]; omega) B _ I hK hP _ hS) ?_
  clear hS
  rintro _ w ⟨rfl,hS⟩
  refine .q 1 rfl (.nil ?_)
  refine WC.cond rfl (fun hb34=>?_) (fun hb34=>?_)
  ·
   have hc34:=hb34; try simp only [Y4] at hc34
   refine .seq (.region (.val (.build (cs:=[_,_,_,_]) X3 Xp rfl) rfl ?_))
   first | refine WL.stA hS (k:=0) rfl (.of rfl) (.of rfl) rfl X6 rfl (by simp) ?_ | refine WL.stA hS (k:=1) rfl (.of rfl) (.of rfl) rfl X6 rfl (by simp) ?_
   clear hS; intro w hS; try dsimp only [List.set] at hS
   try simp only [Yb,Y6,Y8,Y2,Y5,Yc,Y7] at hS
   refine .q 1 rfl (.nil (.ret ?_))
   first | refine Xj (b:=_) (cs:=[_,_,_,_]) Xd1 hS (k:=0) rfl Xb X6 rfl rfl rfl ?_ | refine Xj (b:=_) (cs:=[_,_,_,_]) Xd1 hS (k:=1) rfl Xb X6 rfl rfl rfl ?_
   have hr:Xd (X7y t s)=false:=hw.1.symm.trans (by simpa using hb34)
   exact ⟨_,rfl,by unfold X3c; rw [if_neg (by omega),if_neg (by rw [hr]; decide)]; rfl,((hS.drop (k:=0) rfl).drop (k:=0) rfl)⟩
  have hc34:=hb34; try simp only [Y4] at hc34
  refine .skip (.seq (.region ?_))
  first | refine WL.val (.ldsW (cs:=[_,_,_,_]) (.of rfl) hS (k:=0) rfl Xb X6 rfl) rfl ?_ | refine WL.val (.lds (vs:=[_,_,_,_]) (.of rfl) hS (k:=0) rfl Xb X6 rfl (fun _ _ h=>h)) rfl ?_ | refine WL.val (.ldsW (cs:=[_,_,_,_]) (.of rfl) hS (k:=1) rfl Xb X6 rfl) rfl ?_ | refine WL.val (.lds (vs:=[_,_,_,_]) (.of rfl) hS (k:=1) rfl Xb X6 rfl (fun _ _ h=>h)) rfl ?_
  first | refine WL.stA hS (k:=0) rfl (.of rfl) (.of rfl) rfl X6 rfl (by simp) ?_ | refine WL.stA hS (k:=1) rfl (.of rfl) (.of rfl) rfl X6 rfl (by simp) ?_
  clear hS; intro w hS; try dsimp only [List.set] at hS
  try simp only [Yb,Y6,Y8,Y2,Y5,Yc,Y7] at hS
  refine .q 1 rfl (.nil (.ret ?_))
  first | refine Xj (b:=_) (cs:=[_,_,_,_]) Xd1 hS (k:=0) rfl Xb X6 rfl rfl rfl ?_ | refine Xj (b:=_) (cs:=[_,_,_,_]) Xd1 hS (k:=1) rfl Xb X6 rfl rfl rfl ?_
  have hr:Xd (X7y t s)=true:=hw.1.symm.trans (by simpa using hb34)
  have hw2:=hw.2 hr
  refine ⟨_,rfl,?_,((hS.drop (k:=0) rfl).drop (k:=0) rfl)⟩
  rw [hw2]
  unfold X3c
  rw [if_neg (by omega),if_pos hr]; rfl
 ·
  refine .allocA (cs:=[_,_,_,_]) hS X4a rfl ?_
  clear hS; intro b6 w hS
  refine .nil ?_
  refine And.intro (by intro _ _; trivial) ?_
  refine WD.branch [5] (by kernel_rfl) rfl (WO.cons rfl ?_ (WO.nil))
  refine WL.val (.cvi (.of rfl) Qu5 Qu3 (by rw [IntKind.wrap_i64]; omega)) rfl ?_
  refine .nil ?_
  refine And.intro (by intro _ _; trivial) ?_
  refine .tp (i:=6) rfl (by kernel_rfl) (fun w=>(.build (cs:=[_,_,_,_]) (X2 (.of rfl) (X2 (.of rfl) (X2 (.of rfl) X3))) Xp rfl)) rfl ?_
  refine WD.branch [8] (by kernel_rfl) rfl (WO.cons rfl ?_ (WO.nil))
  first | refine WL.stA hS (k:=0) rfl (.of rfl) (.of rfl) rfl X6 rfl (by simp) ?_ | refine WL.stA hS (k:=1) rfl (.of rfl) (.of rfl) rfl X6 rfl (by simp) ?_
  clear hS; intro w hS; try dsimp only [List.set] at hS
  try simp only [Yb,Y6,Y8,Y2,Y5,Yc,Y7] at hS
  rw [hs0] at hS
  refine .nil ?_
  refine And.intro (by intro _ _; trivial) ?_
  refine .done (by kernel_rfl) (.seq (.seq (.q 1 rfl (.block (.loop (σ:=Nat) (fun k=>[(0,S t),(1,S s),(4,ptr b4 0),(6,ptr b6 0),(7,I64 ((k:Int)+1))]) (fun k w=>k≤8∧Sat B w I (blk b6 [S t,S (s.drop 9),I64 ((s.headD 0).toNat:Int),I64 (IntKind.i64.wrap ((Xh 0 ((s.drop 1).take k):Nat):Int))] 45::blk b4 [S [],S [],I64 0,I64 0] 45::As)) (fun k=>8 - k) 0 ⟨rfl,rfl,rfl,rfl,rfl,trivial⟩ ⟨Yk _,hS⟩ ?_)))))
  rintro k w ⟨hk,hS⟩
  change WC _ _ _ _ [(0,S t),(1,S s),(4,ptr b4 0),(6,ptr b6 0),(7,I64 ((k:Int)+1))] w
  refine .seq (.seq (.q 2 rfl ?_))
  refine WC.cond rfl (fun hb20=>?_) (fun hb20=>?_)
  ·
   have hc20:=hb20; try simp only [Y4] at hc20
   refine .skip (.seq (.block ?_))
   have hkl:k<8:=by have h9:=hc20; omega
   have hbt:=(at_ s ((k:Int)+1)).toNat_lt
   have htk:(s.drop 1).take (k+1)=(s.drop 1).take k ++ [at_ s ((k:Int)+1)]:=by
    rw [Yn,Yq,Y22 1 k]
    have:=Xy (s:=s) (i:=k+1) (by omega)
    rw [this]; rfl
   have hfs:Xh 0 ((s.drop 1).take (k+1))=256*Xh 0 ((s.drop 1).take k)+(at_ s ((k:Int)+1)).toNat:=by rw [htk,X39]; rfl
   have hstep:bits .or .i64 (IntKind.i64.wrap (IntKind.i64.wrap ((Xh 0 ((s.drop 1).take k):Nat):Int)*2 ^ (8:Int).toNat)) ((at_ s ((k:Int)+1)).toNat:Int)=IntKind.i64.wrap ((Xh 0 ((s.drop 1).take (k+1)):Nat):Int):=by rw [hfs]; exact Xbn (Xh 0 ((s.drop 1).take k)) (at_ s ((k:Int)+1)).toNat hbt
   refine .drawn (fun w=>∃ R,Sat B w I (blk b6 [S t,S (s.drop 9),I64 ((s.headD 0).toNat:Int),I64 (IntKind.i64.wrap ((Xh 0 ((s.drop 1).take k):Nat):Int))] 45::R)) (fun j=>!([9].contains j)) (by kernel_rfl) ?_
   replace hS:=hS.drew; generalize w.drew=w at hS ⊢
   have hH:∃ R,Sat B w I (blk b6 [S t,S (s.drop 9),I64 ((s.headD 0).toNat:Int),I64 (IntKind.i64.wrap ((Xh 0 ((s.drop 1).take k):Nat):Int))] 45::R):=⟨_,(hS.pick 0 rfl)⟩
   refine WD.tp (i:=0) rfl (by kernel_rfl) (fun w=>(by first | exact .fieldAddr 3 (.of rfl) Xg rfl rfl Qs3 rfl | exact .fieldAddrI 3 (.of rfl) Xg rfl rfl Qs3 rfl)) rfl ?_
   refine .tk (i:=1) rfl (by kernel_rfl) hH (fun w ⟨R,hS⟩=>(.ld (.of rfl) hS (k:=0) rfl Qg3 rfl)) rfl ?_
   refine WD.tp (i:=2) rfl (by kernel_rfl) (fun w=>(Ex.shl (.of rfl) (.of rfl) (by omega) (by show (8:Int)≤64; omega))) rfl ?_
   refine .tp (i:=3) rfl (by kernel_rfl) (fun w=>(.move (.of rfl))) rfl (.tp (i:=4) rfl (by kernel_rfl) (fun w=>(.move (.of rfl))) rfl (.tp (i:=5) rfl (by kernel_rfl) (fun w=>(.index (.of rfl) (.of rfl) (by omega) (by omega) Qu9)) rfl ?_))
   refine WD.branch [6] (by kernel_rfl) rfl (WO.cons rfl ?_ (WO.nil))
   refine WL.val (.cvi (.of rfl) Qu5 Qu3 (by rw [IntKind.wrap_i64]; omega)) rfl ?_
   refine .nil ?_
   clear hH
   have hH:∃ R,Sat B w I (blk b6 [S t,S (s.drop 9),I64 ((s.headD 0).toNat:Int),I64 (IntKind.i64.wrap ((Xh 0 ((s.drop 1).take k):Nat):Int))] 45::R):=⟨_,(hS.pick 0 rfl)⟩
   refine And.intro (by intro _ _; exact hH) ?_
   refine .tp (i:=7) rfl (by kernel_rfl) (fun w=>(Ex.ibits (.inr (.inl rfl)) (.of rfl) (.of rfl))) rfl ?_
   rw [hstep]
   refine WD.tp (i:=8) rfl (by kernel_rfl) (fun w=>(by first | exact .fieldAddr 3 (.of rfl) Xg rfl rfl Qs3 rfl | exact .fieldAddrI 3 (.of rfl) Xg rfl rfl Qs3 rfl)) rfl ?_
   refine WD.branch [9] (by kernel_rfl) rfl (WO.cons rfl ?_ (WO.nil))
   first | refine WL.st1 hS (k:=0) rfl (.of rfl) (.of rfl) rfl Qs3 (by simp) ?_ | refine WL.st1 hS (k:=1) rfl (.of rfl) (.of rfl) rfl Qs3 (by simp) ?_
   clear hS; intro w hS; try dsimp only [List.set] at hS
   refine .nil ?_
   refine And.intro (by intro h; cases h) ?_
   refine .done (by kernel_rfl) (.region (.run 3 rfl ⟨⟨by omega,by omega⟩,trivial⟩ (.nil ?_)))
   replace hS:=((hS.pick 1 rfl).pick 1 rfl)
   exact ⟨k+1,⟨rfl,rfl,rfl,rfl,by (try dsimp only); rw [show (((k+1:Nat):Int)+1)=(k:Int)+1+1 by omega]; rfl,trivial⟩,⟨by (try dsimp only); omega,hS⟩,by (try dsimp only); omega⟩
  have hc20:=hb20; try simp only [Y4] at hc20
  refine .exit (.seq (.seq ?_))
  have hk8:k=8:=by have h9:=hc20; omega
  subst hk8
  have hw:=X5p t (s.drop 9) ((s.headD 0).toNat:Int) _ (X90 s)
  refine .region ?_
  first | refine WL.val (.ldsW (cs:=[_,_,_,_]) (.of rfl) hS (k:=0) rfl Xb X6 rfl) rfl ?_ | refine WL.val (.lds (vs:=[_,_,_,_]) (.of rfl) hS (k:=0) rfl Xb X6 rfl (fun _ _ h=>h)) rfl ?_ | refine WL.val (.ldsW (cs:=[_,_,_,_]) (.of rfl) hS (k:=1) rfl Xb X6 rfl) rfl ?_ | refine WL.val (.lds (vs:=[_,_,_,_]) (.of rfl) hS (k:=1) rfl Xb X6 rfl (fun _ _ h=>h)) rfl ?_
  refine WL.call Qf54 rfl (X0 (.of rfl) X1) rfl (X2f ⟨t,s.drop 9,((s.headD 0).toNat:Int),IntKind.i64.wrap ((Xh 0 ((s.drop 1).take 8):Nat):Int)⟩ (by (try dsimp only); omega) (by (try dsimp only); rw [Ya]; omega) B _ I hK hP _ hS) ?_
  clear hS
  rintro _ w ⟨rfl,hS⟩
  refine .q 1 rfl (.nil ?_)
  refine WC.cond rfl (fun hb34=>?_) (fun hb34=>?_)
  ·
   have hc34:=hb34; try simp only [Y4] at hc34
   refine .seq (.region (.val (.build (cs:=[_,_,_,_]) X3 Xp rfl) rfl ?_))
   first | refine WL.stA hS (k:=0) rfl (.of rfl) (.of rfl) rfl X6 rfl (by simp) ?_ | refine WL.stA hS (k:=1) rfl (.of rfl) (.of rfl) rfl X6 rfl (by simp) ?_
   clear hS; intro w hS; try dsimp only [List.set] at hS
   try simp only [Yb,Y6,Y8,Y2,Y5,Yc,Y7] at hS
   refine .q 1 rfl (.nil (.ret ?_))
   first | refine Xj (b:=_) (cs:=[_,_,_,_]) Xd1 hS (k:=0) rfl Xb X6 rfl rfl rfl ?_ | refine Xj (b:=_) (cs:=[_,_,_,_]) Xd1 hS (k:=1) rfl Xb X6 rfl rfl rfl ?_
   have hr:Xd (X7y t s)=false:=hw.1.symm.trans (by simpa using hb34)
   exact ⟨_,rfl,by unfold X3c; rw [if_neg (by omega),if_neg (by rw [hr]; decide)]; rfl,((hS.drop (k:=0) rfl).drop (k:=0) rfl)⟩
  have hc34:=hb34; try simp only [Y4] at hc34
  refine .skip (.seq (.region ?_))
  first | refine WL.val (.ldsW (cs:=[_,_,_,_]) (.of rfl) hS (k:=0) rfl Xb X6 rfl) rfl ?_ | refine WL.val (.lds (vs:=[_,_,_,_]) (.of rfl) hS (k:=0) rfl Xb X6 rfl (fun _ _ h=>h)) rfl ?_ | refine WL.val (.ldsW (cs:=[_,_,_,_]) (.of rfl) hS (k:=1) rfl Xb X6 rfl) rfl ?_ | refine WL.val (.lds (vs:=[_,_,_,_]) (.of rfl) hS (k:=1) rfl Xb X6 rfl (fun _ _ h=>h)) rfl ?_
  first | refine WL.stA hS (k:=0) rfl (.of rfl) (.of rfl) rfl X6 rfl (by simp) ?_ | refine WL.stA hS (k:=1) rfl (.of rfl) (.of rfl) rfl X6 rfl (by simp) ?_
  clear hS; intro w hS; try dsimp only [List.set] at hS
  try simp only [Yb,Y6,Y8,Y2,Y5,Yc,Y7] at hS
  refine .q 1 rfl (.nil (.ret ?_))
  first | refine Xj (b:=_) (cs:=[_,_,_,_]) Xd1 hS (k:=0) rfl Xb X6 rfl rfl rfl ?_ | refine Xj (b:=_) (cs:=[_,_,_,_]) Xd1 hS (k:=1) rfl Xb X6 rfl rfl rfl ?_
  have hr:Xd (X7y t s)=true:=hw.1.symm.trans (by simpa using hb34)
  have hw2:=hw.2 hr
  refine ⟨_,rfl,?_,((hS.drop (k:=0) rfl).drop (k:=0) rfl)⟩
  rw [hw2]
  unfold X3c
  rw [if_neg (by omega),if_pos hr]; rfl
theorem Xan {n:Nt} (h:(X6j n).2=0):Xd n=true:=by
 unfold X6j at h
 split at h
 ·assumption
 ·cases h
theorem Xfi {t:List UInt8} {n:Nat} (ht:X1g t=true) (hn:n≤1099511627776):(MSG t n).length≤400:=by
 have h1:=(Xv ht).2
 have h2:=X26 hn
 unfold MSG M1 M2 M3 M4
 simp only [Y0,List.length_cons,List.length_nil]
 omega
theorem Xcp {t s:List UInt8} (ht:t.length≤60) (hs:s.length≤400):(X3c t s).1.ticket.length≤1000000∧(X3c t s).1.url.length≤1000000:=by
 unfold X3c
 split
 ·exact ⟨Yk _,Yk _⟩
 ·split
  ·unfold X7y
   dsimp only
   rw [Ya]
   omega
  ·exact ⟨Yk _,Yk _⟩
theorem Xdl (s:List UInt8):((X14 s).getD []).length≤23:=by
 cases h:X14 s with
 | none=>exact Yk _
 | some t=>exact (Xv (X2j h).1).2
theorem X7m {s t:List UInt8} (h:X14 s=some t):∃ k d,Xt t=some (k,d)∧(k=2∨k=3):=by
 have ht:=(X2j h).1
 unfold X1g isT at ht
 cases hp:Xt t with
 | none=>rw [hp] at ht; simp at ht
 | some x =>
  obtain ⟨k,d⟩:=x
  rw [hp] at ht
  refine ⟨k,d,rfl,?_⟩
  simp only [Y1o,beq_iff_eq] at ht
  omega
theorem X5a (n:Nt) (t s:List UInt8) (B w:World) (I:Im) (hK:Kx I) (hP:PreAt I) (As:List Xf) (hS:Sat B w I As) :
  Calls Tryz.prog 5 [.agg (X5 n).toArray,S t,S s].toArray w (Ret fun v w'=>v=.bool true∧∃ J,Le I J∧Sat B w' J As):=by
 refine calls Tryz.func5 rfl Tryz.ntmps5 rfl (.seq (.region (.boxA (cs:=[_,_,_,_]) hS (.of rfl) rfl ?_)))
 clear hS; intro b3 w hS
 refine .q 1 rfl (.nil (.seq (.region (.call Tryz.func8 rfl X1 rfl (X4w B _ I hK hP _ hS) ?_))))
 clear hS
 rintro _ w ⟨rfl,hS⟩
 refine .q 1 rfl (.nil (.seq (.seq (.region ?_))))
 first | refine WL.val (.fieldAddr 0 (.of rfl) Xg rfl rfl Qs9 rfl) rfl ?_ | refine WL.val (.fieldAddrI 0 (.of rfl) Xg rfl rfl Qs9 rfl) rfl ?_
 refine .val (.ld (.of rfl) hS (k:=0) rfl Qg9 rfl) rfl (.run 3 rfl ⟨Qu9,trivial⟩ ?_)
 refine WL.gval rfl rfl (fun hg1=>(by first | exact .fieldAddr 1 (.of rfl) Xg rfl rfl Qs9 rfl | exact .fieldAddrI 1 (.of rfl) Xg rfl rfl Qs9 rfl)) rfl ?_
 refine .gval rfl rfl (fun hg1=>(.ld (.gd hg1 rfl) hS (k:=0) rfl Qg9 rfl)) rfl (.gval rfl rfl (fun hg1=>(.len (.gd hg1 rfl) Qu9)) rfl (.gval rfl rfl (fun hg1=>(.gtr (.gd hg1 rfl) (.of rfl))) rfl (.val (.por (.of rfl) (.of rfl) (.of rfl)) rfl (.q 1 rfl (.gval rfl rfl (fun hg1=>(.move (.of rfl))) rfl (.gval rfl rfl (fun hg1=>(.len (.gd hg1 rfl) Qu9)) rfl (.gval rfl rfl (fun hg1=>(.gtr (.gd hg1 rfl) (.of rfl))) rfl (.val (.por (.of rfl) (.of rfl) (.of rfl)) rfl (.q 1 rfl (.gval rfl rfl (fun hg1=>(.move (.of rfl))) rfl (.gval rfl rfl (fun hg1=>(.len (.gd hg1 rfl) Qu9)) rfl (.gval rfl rfl (fun hg1=>(.gtr (.gd hg1 rfl) (.of rfl))) rfl (.val (.por (.of rfl) (.of rfl) (.of rfl)) rfl (.nil ?_))))))))))))))
 refine WC.cond rfl (fun hb43=>?_) (fun hb43=>?_)
 ·
  have hc43:=hb43; try simp only [Y4] at hc43
  refine .seq (.q 2 rfl (.ret (Xl Tryz.results5 rfl ?_)))
  exact ⟨_,rfl,rfl,I,Le.refl _,(hS.drop (k:=0) rfl)⟩
 have hc43:=hb43; try simp only [Y4] at hc43
 refine .skip (.seq ?_)
 have hl4:n.ticket.length≤60∧n.url.length≤120∧t.length≤60∧s.length≤400:=by
  simp only [Yi,decide_eq_false_iff_not] at hb43
  omega
 obtain ⟨hnt,hnu,htl,hsl⟩:=hl4
 refine .region ?_
 first | refine WL.val (.ldsW (cs:=[_,_,_,_]) (.of rfl) hS (k:=0) rfl Xb X6 rfl) rfl ?_ | refine WL.val (.lds (vs:=[_,_,_,_]) (.of rfl) hS (k:=0) rfl Xb X6 rfl (fun _ _ h=>h)) rfl ?_
 refine .call Qf21 rfl (X0 (.of rfl) X1) rfl (X3n n (by omega) (by omega) B _ I hK hP _ hS) ?_
 clear hS
 rintro _ w ⟨rfl,hS⟩
 refine .q 5 rfl (.nil ?_)
 refine WC.cutS (σ:=Unit) (fun _u=>[(1,S t),(2,S s),(7,.bool true)]) (fun _u w=>Sat B w I As) ?_ ?_
 ·
  refine .seq (.q 2 rfl ?_)
  refine WC.cond rfl (fun hb51=>?_) (fun hb51=>?_)
  ·
   have hc51:=hb51; try simp only [Y4] at hc51
   refine .seq ?_
   have hz:(X6j n).2=0:=by simpa using hb51
   have hr:=Xan hz
   have hn4:n.next.toNat≤1099511627776:=by have:=Xo hr; omega
   have hde:=X8m hz
   have hel:(X6j n).1.length≤1000000:=by omega
   refine .region ?_
   first | refine WL.val (.fieldAddr 0 (.of rfl) Xg rfl rfl Qs9 rfl) rfl ?_ | refine WL.val (.fieldAddrI 0 (.of rfl) Xg rfl rfl Qs9 rfl) rfl ?_
   refine .val (.ld (.of rfl) hS (k:=0) rfl Qg9 rfl) rfl (.q 1 rfl (.call Qf23 rfl (X0 (.of rfl) (X0 (.of rfl) X1)) rfl (X3r n.ticket (X6j n).1 (by omega) hel B _ I hK hP _ hS) ?_))
   clear hS
   rintro _ w ⟨rfl,hS⟩
   rw [hde.1]
   refine .q 3 rfl (.allocA (cs:=[_,_,_,_]) hS X4a rfl ?_)
   clear hS; intro b10 w hS
   first | refine WL.stA hS (k:=0) rfl (.of rfl) (.of rfl) rfl X6 rfl (by simp) ?_ | refine WL.stA hS (k:=1) rfl (.of rfl) (.of rfl) rfl X6 rfl (by simp) ?_
   clear hS; intro w hS; try dsimp only [List.set] at hS
   try simp only [Yb,Y6,Y8,Y2,Y5,Yc,Y7] at hS
   refine .q 1 rfl (.nil (.seq (.region ?_)))
   first | refine WL.val (.ldsW (cs:=[_,_,_,_]) (.of rfl) hS (k:=0) rfl Xb X6 rfl) rfl ?_ | refine WL.val (.lds (vs:=[_,_,_,_]) (.of rfl) hS (k:=0) rfl Xb X6 rfl (fun _ _ h=>h)) rfl ?_ | refine WL.val (.ldsW (cs:=[_,_,_,_]) (.of rfl) hS (k:=1) rfl Xb X6 rfl) rfl ?_ | refine WL.val (.lds (vs:=[_,_,_,_]) (.of rfl) hS (k:=1) rfl Xb X6 rfl (fun _ _ h=>h)) rfl ?_
   refine .call Qf28 rfl (X0 (.of rfl) X1) rfl (X3a n hr B _ I hK _ hS) ?_
   clear hS
   rintro _ w ⟨rfl,hS⟩
   refine .call Qf25 rfl (X0 (.of rfl) X1) rfl (X47 (MSG n.ticket n.next.toNat) (Xfi (Xo hr).1 hn4) B _ I hK hP _ hS) ?_
   clear hS
   rintro _ w ⟨rfl,hS⟩
   rw [X4l (Xo hr).1 hn4]
   refine .q 5 rfl (.nil (.seq (.t 3 rfl ?_)))
   refine WL.gval rfl rfl (fun hg1=>(by first | exact (.ldsW (cs:=[_,_,_,_]) (.of rfl) hS (k:=0) rfl Xb X6 rfl) | exact (.lds (vs:=[_,_,_,_]) (.of rfl) hS (k:=0) rfl Xb X6 rfl (fun _ _ h=>h)) | exact (.ldsW (cs:=[_,_,_,_]) (.of rfl) hS (k:=1) rfl Xb X6 rfl) | exact (.lds (vs:=[_,_,_,_]) (.of rfl) hS (k:=1) rfl Xb X6 rfl (fun _ _ h=>h)))) rfl ?_
   refine WL.gval rfl rfl (fun hg1=>(by first | exact (.ldsW (cs:=[_,_,_,_]) (.of rfl) hS (k:=0) rfl Xb X6 rfl) | exact (.lds (vs:=[_,_,_,_]) (.of rfl) hS (k:=0) rfl Xb X6 rfl (fun _ _ h=>h)) | exact (.ldsW (cs:=[_,_,_,_]) (.of rfl) hS (k:=1) rfl Xb X6 rfl) | exact (.lds (vs:=[_,_,_,_]) (.of rfl) hS (k:=1) rfl Xb X6 rfl (fun _ _ h=>h)))) rfl ?_
   refine .gval rfl rfl (fun hg1=>Ex.neNt (r:=n) (s:=n) (.gd hg1 rfl) (.gd hg1 rfl)) rfl (.val (.por (.of rfl) (.of rfl) (.of rfl)) rfl (.q 1 rfl (.gval rfl rfl (fun hg1=>(.move (.of rfl))) rfl ?_)))
   refine WL.gval rfl rfl (fun hg1=>(by first | exact .fieldAddr 0 (.of rfl) Xg rfl rfl Qs9 rfl | exact .fieldAddrI 0 (.of rfl) Xg rfl rfl Qs9 rfl)) rfl ?_
   refine WL.gval rfl rfl (fun hg1=>(by first | exact (.ld (.gd hg1 rfl) hS (k:=0) rfl Qg9 rfl) | exact (.ld (.gd hg1 rfl) hS (k:=1) rfl Qg9 rfl))) rfl ?_
   refine .gval rfl rfl (fun hg1=>(.nes (.gd hg1 rfl) (.gd hg1 rfl))) rfl (.val (.por (.of rfl) (.of rfl) (.of rfl)) rfl (.q 1 rfl (.gval rfl rfl (fun hg1=>(.move (.of rfl))) rfl (.gval rfl rfl (fun hg1=>(.not (.gd hg1 rfl))) rfl (.val (.por (.of rfl) (.of rfl) (.of rfl)) rfl (.q 1 rfl (.gval rfl rfl (fun hg1=>(.move (.of rfl))) rfl (.gval rfl rfl (fun hg1=>(.len (.gd hg1 rfl) Qu9)) rfl ?_))))))))
   refine WL.gval rfl rfl (fun hg1=>(by first | exact .fieldAddr 1 (.of rfl) Xg rfl rfl Qs9 rfl | exact .fieldAddrI 1 (.of rfl) Xg rfl rfl Qs9 rfl)) rfl ?_
   refine WL.gval rfl rfl (fun hg1=>(by first | exact (.ld (.gd hg1 rfl) hS (k:=0) rfl Qg9 rfl) | exact (.ld (.gd hg1 rfl) hS (k:=1) rfl Qg9 rfl))) rfl ?_
   refine .gval rfl rfl (fun hg1=>(.len (.gd hg1 rfl) Qu9)) rfl (.gval rfl rfl (fun hg1=>(.add (.of rfl) (.gd hg1 rfl) ⟨by omega,by omega⟩)) rfl (.gval rfl rfl (fun hg1=>(.neq (.gd hg1 rfl) (.gd hg1 rfl))) rfl (.val (.por (.of rfl) (.of rfl) (.of rfl)) rfl (.nil ?_))))
   refine WC.condF (congrArg (fun b=>some (Value.bool b)) (by rw [hde.2]; simp)) ?_
   refine .skip ?_
   exact ⟨(),⟨rfl,rfl,rfl,trivial⟩,((hS.drop (k:=0) rfl).drop (k:=0) rfl)⟩
  have hc51:=hb51; try simp only [Y4] at hc51
  refine .skip ?_
  exact ⟨(),⟨rfl,rfl,rfl,trivial⟩,(hS.drop (k:=0) rfl)⟩
 rintro _u w hS
 change WC _ _ _ _ [(1,S t),(2,S s),(7,.bool true)] w
 refine .seq (.t 2 rfl (.call Qf23 rfl (X0 (.of rfl) (X0 (.of rfl) X1)) rfl (X3r t s (by omega) (by omega) B _ I hK hP _ hS) ?_))
 clear hS
 rintro _ w ⟨rfl,hS⟩
 refine .q 3 rfl (.allocA (cs:=[_,_,_,_]) hS X4a rfl ?_)
 clear hS; intro b14 w hS
 refine .stA hS (k:=0) rfl (.of rfl) (.of rfl) rfl X6 rfl (by simp) ?_
 clear hS; intro w hS; try dsimp only [List.set] at hS
 try simp only [Yb,Y6,Y8,Y2,Y5,Yc,Y7] at hS
 refine .q 1 rfl (.nil ?_)
 refine WC.cutS (σ:=Unit) (fun _u=>[(2,S s),(7,.bool true)]) (fun _u w=>Sat B w I As) ?_ ?_
 ·
  refine .seq (.q 2 rfl ?_)
  refine WC.cond rfl (fun hb98=>?_) (fun hb98=>?_)
  ·
   have hc98:=hb98; try simp only [Y4] at hc98
   refine .seq ?_
   have hz:(X3c t s).2=0:=by simpa using hb98
   have hed:=Xet hz
   have hdl:=Xcp htl hsl
   refine .region ?_
   first | refine WL.val (.ldsW (cs:=[_,_,_,_]) (.of rfl) hS (k:=0) rfl Xb X6 rfl) rfl ?_ | refine WL.val (.lds (vs:=[_,_,_,_]) (.of rfl) hS (k:=0) rfl Xb X6 rfl (fun _ _ h=>h)) rfl ?_
   refine .call Qf21 rfl (X0 (.of rfl) X1) rfl (X3n (X3c t s).1 hdl.1 hdl.2 B _ I hK hP _ hS) ?_
   clear hS
   rintro _ w ⟨rfl,hS⟩
   rw [hed.1]
   refine .q 5 rfl (.nil (.seq (.t 3 rfl (.gval rfl rfl (fun hg1=>(.move (.of rfl))) rfl (.gval rfl rfl (fun hg1=>(.move (.of rfl))) rfl (.gval rfl rfl (fun hg1=>(.nes (.gd hg1 rfl) (.gd hg1 rfl))) rfl (.val (.por (.of rfl) (.of rfl) (.of rfl)) rfl (.q 1 rfl ?_))))))))
   refine WL.gval rfl rfl (fun hg1=>(by first | exact .fieldAddr 0 (.of rfl) Xg rfl rfl Qs9 rfl | exact .fieldAddrI 0 (.of rfl) Xg rfl rfl Qs9 rfl)) rfl ?_
   refine .gval rfl rfl (fun hg1=>(.ld (.gd hg1 rfl) hS (k:=0) rfl Qg9 rfl)) rfl (.gval rfl rfl (fun hg1=>(.move (.of rfl))) rfl (.gval rfl rfl (fun hg1=>(.nes (.gd hg1 rfl) (.gd hg1 rfl))) rfl (.val (.por (.of rfl) (.of rfl) (.of rfl)) rfl (.nil ?_))))
   refine WC.condF (congrArg (fun b=>some (Value.bool b)) (by rw [hed.2]; simp)) ?_
   refine .skip ?_
   exact ⟨(),⟨rfl,rfl,trivial⟩,(hS.drop (k:=0) rfl)⟩
  have hc98:=hb98; try simp only [Y4] at hc98
  refine .skip ?_
  exact ⟨(),⟨rfl,rfl,trivial⟩,(hS.drop (k:=0) rfl)⟩
 rintro _u w hS
 change WC _ _ _ _ [(2,S s),(7,.bool true)] w
 refine .seq (.t 1 rfl (.call Qf25 rfl (X0 (.of rfl) X1) rfl (X47 s hsl B _ I hK hP _ hS) ?_))
 clear hS
 rintro _ w ⟨rfl,hS⟩
 refine .q 5 rfl (.nil (.seq (.t 1 rfl ?_)))
 refine WL.call Tryz.func30 rfl (X0 (.of rfl) X1) rfl (X38 _ (by have:=Xdl s; omega) B _ I _ hS) ?_
 clear hS
 rintro _ w ⟨rfl,hS⟩
 generalize hps:Xt ((X14 s).getD [])=pt
 rcases pt with _ | ⟨k,d⟩
 ·
  refine .val (.move (.of rfl)) rfl (.q 6 rfl (.nil (.seq (.t 2 rfl (.gval rfl rfl (fun hg1=>(.move (.of rfl))) rfl (.gval rfl rfl (fun hg1=>(.move (.gd hg1 rfl))) rfl (.gval2 rfl rfl rfl (fun hg1 hg2=>(.move (.of rfl))) rfl (.gval rfl rfl (fun hg1=>(.pand (.gd hg1 rfl) (.gd hg1 rfl) (.of rfl))) rfl (.gval rfl rfl (fun hg1=>(.move (.gd hg1 rfl))) rfl (.gval2 rfl rfl rfl (fun hg1 hg2=>(.move (.of rfl))) rfl (.gval2 rfl rfl rfl (fun hg1 hg2=>(.eql (.gd2 hg1 hg2 rfl) (.of rfl))) rfl (.gval2 rfl rfl rfl (fun hg1 hg2=>(.move (.gd2 hg1 hg2 rfl))) rfl (.gval3 rfl rfl rfl (fun hg1 hg2 hg3=>(.move (.of rfl))) rfl (.gval3 rfl rfl rfl (fun hg1 hg2 hg3=>(.eql (.gd3 hg1 hg2 hg3 rfl) (.of rfl))) rfl (.gval2 rfl rfl rfl (fun hg1 hg2=>(.por (.gd2 hg1 hg2 rfl) (.of rfl) (.gd2 hg1 hg2 rfl))) rfl (.gval rfl rfl (fun hg1=>(.pand (.gd hg1 rfl) (.gd hg1 rfl) (.of rfl))) rfl (.gval rfl rfl (fun hg1=>(.move (.gd hg1 rfl))) rfl (.gval2 rfl rfl rfl (fun hg1 hg2=>(.move (.of rfl))) rfl (.gval2 rfl rfl rfl (fun hg1 hg2=>(.not (.gd2 hg1 hg2 rfl))) rfl (.gval2 rfl rfl rfl (fun hg1 hg2=>(.move (.gd2 hg1 hg2 rfl))) rfl (.gval3 rfl rfl rfl (fun hg1 hg2 hg3=>(.move (.of rfl))) rfl (.gval3 rfl rfl rfl (fun hg1 hg2 hg3=>(.eqs (.gd3 hg1 hg2 hg3 rfl) (.of rfl))) rfl (.gval2 rfl rfl rfl (fun hg1 hg2=>(.pand (.gd2 hg1 hg2 rfl) (.gd2 hg1 hg2 rfl) (.of rfl))) rfl (.gval rfl rfl (fun hg1=>(.por (.gd hg1 rfl) (.of rfl) (.gd hg1 rfl))) rfl (.val (.pand (.of rfl) (.of rfl) (.of rfl)) rfl (.q 1 rfl (.nil (.ret (Xl Tryz.results5 rfl ?_)))))))))))))))))))))))))))))
  refine ⟨_,rfl,?_,I,Le.refl _,hS⟩
  cases hrd:X14 s with
  | none=>simp
  | some t9 =>
   obtain ⟨k,d,hp,hk⟩:=X7m hrd
   rw [hrd,Y1q,hp] at hps
   cases hps
 refine .val (.move (.of rfl)) rfl (.q 6 rfl (.nil (.seq (.t 2 rfl (.gval rfl rfl (fun hg1=>(.move (.of rfl))) rfl (.gval rfl rfl (fun hg1=>(.move (.gd hg1 rfl))) rfl (.gval2 rfl rfl rfl (fun hg1 hg2=>(.move (.of rfl))) rfl (.gval rfl rfl (fun hg1=>(.pand (.gd hg1 rfl) (.gd hg1 rfl) (.of rfl))) rfl (.gval rfl rfl (fun hg1=>(.move (.gd hg1 rfl))) rfl (.gval2 rfl rfl rfl (fun hg1 hg2=>(.move (.of rfl))) rfl (.gval2 rfl rfl rfl (fun hg1 hg2=>(.eql (.gd2 hg1 hg2 rfl) (.of rfl))) rfl (.gval2 rfl rfl rfl (fun hg1 hg2=>(.move (.gd2 hg1 hg2 rfl))) rfl (.gval3 rfl rfl rfl (fun hg1 hg2 hg3=>(.move (.of rfl))) rfl (.gval3 rfl rfl rfl (fun hg1 hg2 hg3=>(.eql (.gd3 hg1 hg2 hg3 rfl) (.of rfl))) rfl (.gval2 rfl rfl rfl (fun hg1 hg2=>(.por (.gd2 hg1 hg2 rfl) (.of rfl) (.gd2 hg1 hg2 rfl))) rfl (.gval rfl rfl (fun hg1=>(.pand (.gd hg1 rfl) (.gd hg1 rfl) (.of rfl))) rfl (.gval rfl rfl (fun hg1=>(.move (.gd hg1 rfl))) rfl (.gval2 rfl rfl rfl (fun hg1 hg2=>(.move (.of rfl))) rfl (.gval2 rfl rfl rfl (fun hg1 hg2=>(.not (.gd2 hg1 hg2 rfl))) rfl (.gval2 rfl rfl rfl (fun hg1 hg2=>(.move (.gd2 hg1 hg2 rfl))) rfl (.gval3 rfl rfl rfl (fun hg1 hg2 hg3=>(.move (.of rfl))) rfl (.gval3 rfl rfl rfl (fun hg1 hg2 hg3=>(.eqs (.gd3 hg1 hg2 hg3 rfl) (.of rfl))) rfl (.gval2 rfl rfl rfl (fun hg1 hg2=>(.pand (.gd2 hg1 hg2 rfl) (.gd2 hg1 hg2 rfl) (.of rfl))) rfl (.gval rfl rfl (fun hg1=>(.por (.gd hg1 rfl) (.of rfl) (.gd hg1 rfl))) rfl (.val (.pand (.of rfl) (.of rfl) (.of rfl)) rfl (.q 1 rfl (.nil (.ret (Xl Tryz.results5 rfl ?_)))))))))))))))))))))))))))))
 refine ⟨_,rfl,?_,I,Le.refl _,hS⟩
 cases hrd:X14 s with
 | none=>simp
 | some t9 =>
  obtain ⟨k,d,hp,hk⟩:=X7m hrd
  rw [hrd,Y1q,hp] at hps
  cases hps
  rcases hk with rfl | rfl <;> simp
end Go.Proofs.YtbciobiiejpdgaaGreatDoor
namespace Gk
open Go Go.RowKit Go.WideShapes Go.ChangeShapes
section
variable {H:Type} {enc:TypeId×Value→H}
def WitT (enc:TypeId×Value→H) (a:Assume) (C:Checked) (os:Os) (f:FuncId) (fn:Func) (s:ChangeSpec) (conds:List PathCond) (apart:Bool) (X:World→Array Value→Prop):Prop :=
  ∃ (w:World) (tape:Tape) (i:Input),w.os=os∧(w.forCall tape i).Shaped C.prog∧i.vars=[]∧Input.okWide C.prog (w.forCall tape i) .any w.heap.size f i ∧
   ((s.pre enc C.prog fn conds apart (w.forCall tape i).memory i.args∧X (w.forCall tape i).memory i.args)∧sizedMet enc C.prog fn (OpenSpec.ofChange s) apart (w.forCall tape i).memory i.args)∧a.holds C.prog (lone (Frame.enter C.prog f i.args .normal) [] (w.forCall tape i))
theorem X1r {a:Assume} {C:Checked} {os:Os} {f:FuncId} {fn:Func} {s:ChangeSpec} {conds:List PathCond} {apart fresh handsOn again:Bool} {X:World→Array Value→Prop}
  (hX:∀ (w w':World) (args:Array Value),w.heap=w'.heap→X w args→X w' args)
  (own:ownKnob C.prog.godebug=none) (started:os.Started) (noInit:C.prog.inits.idxOf? f=none) (hfn:C.prog.funcs[f]?=some fn)
  (witness:WitT enc a C os f fn s conds apart X)
  (contract:∀ (W:World) (base:Nat) (args:Array Value) (ds gs:List (DataW H)) (before:List MemPlace),
   (∀ (j:Nat) t v,fn.params[j]?=some t→args[j]?=some v→Value.okWide C.prog W .any base t v) →
   DataW.Whole enc C.prog fn.params.toList s.vars apart W args.toList ds gs before→X W args→W.ShapedOpen C.prog →
   Calls C.prog f args W fun e W'=>∃ v,e=.returned v∧s.post enc C.prog fn apart fresh handsOn again W args v W') :
  ReturnsInHanded a C os f .any (fun w args=>(s.pre enc C.prog fn conds apart w args∧X w args)∧sizedMet enc C.prog fn (OpenSpec.ofChange s) apart w args) (s.post enc C.prog fn apart fresh handsOn again):=by
 refine returnsInHanded_of_calls own started noInit witness ?_
 intro w tape i _ hsh _ hok hpre _
 obtain ⟨_,_,_,fn',hfn',_,_,_,_,hval⟩:=hok
 have e:fn'=fn:=Option.some.inj (hfn'.symm.trans hfn)
 subst e
 obtain ⟨⟨⟨ds,gs,before,hw,hc⟩,hx⟩,hz⟩:=hpre
 have hw':=DataW.Whole.of_heap (w':=w.forCall tape i) (by rfl) hw
 refine (contract (w.forCall tape i) w.heap.size i.args ds gs before hval hw' (hX _ _ _ (by rfl) hx) hsh).mono fun e W' ⟨v,he,hp⟩=>?_
 subst he
 exact ChangeSpec.post_blind hp
end
section
variable {P:Program} {W:World}
theorem X5e {name:String} {k:IntKind} {zs:List Int} {g:Nat} {t e:TypeId} {n:Nat}
  (hg:P.globalNamed name=some g) (hty:(P.globals[g]?).map (·.type)=some t) (ht:P.underlying t=some (.array n e)) (he:P.underlying e=some (.int k)) (hce:P.cellsOf e=1) (hct:P.cellsOf t=n)
  (h:Lib.VarReads P W name (Lib.tabData k zs)):Lib.TabIs P W name k zs:=by
 obtain ⟨g',t',cs,fuel,p,hg',ht',hvar,hd⟩:=h
 obtain rfl:=Option.some.inj (hg.symm.trans hg')
 obtain rfl:=Option.some.inj (hty.symm.trans ht')
 unfold Lib.TabIs
 rw [hvar,← Lib.cells_of_tab ht he hce hct hd]
variable {B w:World} {As:List Xf}
theorem X7r {b:Nat} {o:Obj} (h:W.heap[b]?=some o) (hS:Sat B w (im0 W) As):w.heap[b]?=some o:=by
 obtain ⟨_,_,hg⟩:=hS
 exact hg.imm b o h
theorem Xfl {name:String} {k:IntKind} {zs:List Int} (h:Lib.TabIs P W name k zs) (hS:Sat B w (im0 W) As):Lib.TabIs P w name k zs:=by
 unfold Lib.TabIs World.var? at h ⊢
 cases hg:P.globalNamed name with
 | none=>rw [hg] at h; cases h
 | some g =>
  rw [hg] at h
  simp only [Y1v] at h ⊢
  cases hb:W.heap[g]? with
  | none=>rw [hb] at h; cases h
  | some o =>
   rw [X7r hb hS]
   rw [hb] at h
   exact h
theorem X64 {a:Addr} {v:Value} (h:W.cell? a=some v) (hS:Sat B w (im0 W) As):w.cell? a=some v:=by
 unfold World.cell? at h ⊢
 cases hb:W.heap[a.block]? with
 | none=>rw [hb] at h; cases h
 | some o=>rw [X7r hb hS]; rw [hb] at h; exact h
end
end Gk
namespace Go.Proofs.YtbciobiiejpdgaaGreatDoor
open Gk Pc Xm Pat Tk Go.ChangeMaps Go.ChangeShapes Go.RowKit
theorem Xf4:Rows.laid_internal_strconv_uint64pow10 (H:=Unit)=Lib.tabData .u64 Lib.pow10Tab:=by kernel_rfl
def X60 {H:Type} (zs:List (List UInt8)):DataW H:=.agg (zs.map fun z=>.lit (.string z))
theorem Xf6:Rows.laid_matricula_ticket_prefixes (H:=Unit)=X60 PREV:=by kernel_rfl
theorem X5c {H:Type} {enc:TypeId×Value→H} {P:Program} {w:World} {base:Nat} {sp:Nat→Bool} {held:Bool} {fuel:Nat} {t e:TypeId} {n:Nat} {cs:List Value} {zs:List (List UInt8)} {p:List MemPlace}
  (ht:P.underlying t=some (.array n e)) (he:P.underlying e=some .string) (hce:P.cellsOf e=1) (hct:P.cellsOf t=n)
  (h:DataW.trod enc P w base sp held fuel t cs=some (X60 zs,p)):cs=zs.map S:=by
 cases fuel with
 | zero=>simp [DataW.trod] at h
 | succ fuel =>
  simp only [DataW.trod,ht,hce,hct,Y2q] at h
  split at h
  ·rename_i hl
   obtain ⟨xs,hm,hx⟩:=Y18.1 h
   have hxs:xs.map (·.1)=zs.map fun z=>(DataW.lit (.string z):DataW H):=by
    have:=congrArg Prod.fst hx
    simpa [X60] using this
   have hxl:xs.length=n:=by simpa using Lib.mapM_length hm
   have hzl:zs.length=n:=by
    have:=congrArg List.length hxs
    simp at this
    omega
   apply Y2o
   intro i
   by_cases hi:i<n
   ·obtain ⟨b,hb,hf⟩:=Lib.mapM_at hm i i (by simp [hi])
    obtain ⟨z,hc,rfl,_⟩:=DataW.trod_string he hf
    have h1:cs[i]?=some (.string z):=by
     have:=congrArg (·[0]?) hc
     simpa [Y2i,Yq] using this
    have h2:(xs.map (·.1))[i]?=some (DataW.lit (.string z.data.toList):DataW H):=by simp [hb]
    rw [hxs] at h2
    simp only [Y1e,Y18,DataW.lit.injEq,Lit.string.injEq] at h2
    obtain ⟨z',hz',e'⟩:=h2
    rw [h1,Y1e,hz',e']
    rfl
   ·rw [Y26 (by omega),Y26 (by simp; omega)]
  ·cases h
theorem pre_at {W : World} (h : Lib.VarReads Tryz.prog W "matricula/ticket.prefixes" Rows.laid_matricula_ticket_prefixes) : PreAt (im0 W) := by
 rw [Xf6] at h
 obtain ⟨g',t',cs,fuel,p,hg',ht',hvar,hd⟩:=h
 obtain rfl := Option.some.inj ((show Tryz.prog.globalNamed "matricula/ticket.prefixes" = some 1 by kernel_rfl).symm.trans hg')
 obtain rfl:=Option.some.inj ((show (Tryz.prog.globals[1]?).map (·.type)=some 254 by kernel_rfl).symm.trans ht')
 have hcs:=X5c Xf0 Qu9 (by kernel_rfl) (by kernel_rfl) hd
 refine Xe0 (by decide) fun j v hj=>?_
 have h2:=World.var?_cell hg' hvar j
 rw [X1d,Y7]
 rw [← Y2w,hcs,hj] at h2
 exact h2
theorem Xa8 {H:Type} {enc:TypeId×Value→H} {P:Program} {w:World} {base:Nat} {sp:Nat→Bool} {held:Bool} {fuel:Nat} {t:TypeId} {cs:List Value} {nm:String} {d:DataW H} {p:List MemPlace} {ms:Array (String×TypeId)} (ht:P.underlying t=some (.interface ms)) (h:DataW.trod enc P w base sp held fuel t cs=some (.iface nm d,p)):∃ u v,cs=[.iface u v]:=by
 cases fuel with
 | zero=>simp [DataW.trod] at h
 | succ fuel =>
  unfold DataW.trod at h
  rw [ht] at h
  split at h <;> simp_all
theorem X1u {W:World} {sp:Nat→Bool} {held:Bool} {fuel:Nat} {cs:List Value} {y:DataW Unit×List MemPlace} {a b:List UInt8} (h:DataW.trod (fun _=>()) Tryz.prog W 0 sp held fuel 136 cs=some y) (hy:y.1=.agg [.lit (.string a),.lit (.string b)]):cs=[S a,S b]:=by
 obtain ⟨xs,n,_,hx,hcl,hxl,hf⟩:=DataW.trod_struct X1c h
 rw [show Tryz.prog.cellsOf 136=2 from by kernel_rfl] at hcl
 have h0:DataW.trod (fun _=>()) Tryz.prog W 0 sp held n 9 ((cs.drop 0).take (Tryz.prog.cellsOf 9))=xs[0]?:=hf 0 _ rfl
 have h1:DataW.trod (fun _=>()) Tryz.prog W 0 sp held n 9 ((cs.drop 1).take (Tryz.prog.cellsOf 9))=xs[1]?:=hf 1 _ rfl
 rw [show Tryz.prog.cellsOf 9=1 from by kernel_rfl] at h0 h1
 have hxl2:xs.length=2:=hxl
 clear hf hxl h
 obtain ⟨u,v,rfl⟩:∃ u v,cs=[u,v]:=by
  match cs,hcl with
  | [u,v],_=>exact ⟨u,v,rfl⟩
 obtain ⟨x0,x1,rfl⟩:∃ u v,xs=[u,v]:=by
  match xs,hxl2 with
  | [u,v],_=>exact ⟨u,v,rfl⟩
 simp only [Y2,Y5,Y13,Yb] at h0 h1
 obtain ⟨s0,e0,ex0,_⟩:=DataW.trod_string Qu9 (h0.trans rfl)
 obtain ⟨s1,e1,ex1,_⟩:=DataW.trod_string Qu9 (h1.trans rfl)
 subst hx
 simp only [Y1l,List.map_nil,DataW.agg.injEq,List.cons.injEq,and_true] at hy
 rw [ex0,ex1] at hy
 simp only [DataW.lit.injEq,Lit.string.injEq] at hy
 obtain ⟨rfl,rfl⟩:=hy
 injection e0 with e0; injection e1 with e1
 rw [e0,e1]
theorem X8c {W:World} {sp:Nat→Bool} {held:Bool} {fuel:Nat} {cs:List Value} {p:List MemPlace} (h:DataW.trod (fun _=>()) Tryz.prog W 0 sp held fuel 258 cs=some (Rows.laid_matricula_xml_marks,p)):cs=MKC:=by
 obtain ⟨xs,n,_,hx,hcl,hxl,hf⟩:=DataW.trod_array Xbm h
 rw [show Tryz.prog.cellsOf 258=10 from by kernel_rfl] at hcl
 rw [show Tryz.prog.cellsOf 136=2 from by kernel_rfl] at hf
 have hm:=congrArg Prod.fst hx
 unfold Rows.laid_matricula_xml_marks at hm
 match cs,hcl,xs,hxl with
 | [v0,v1,v2,v3,v4,v5,v6,v7,v8,v9],_,[x0,x1,x2,x3,x4],_ =>
  simp only [Y1l,List.map_nil,DataW.agg.injEq,List.cons.injEq,and_true] at hm
  obtain ⟨m0,m1,m2,m3,m4⟩:=hm
  have f0:=X1u ((hf 0 (by decide)).trans rfl) m0.symm
  have f1:=X1u ((hf 1 (by decide)).trans rfl) m1.symm
  have f2:=X1u ((hf 2 (by decide)).trans rfl) m2.symm
  have f3:=X1u ((hf 3 (by decide)).trans rfl) m3.symm
  have f4:=X1u ((hf 4 (by decide)).trans rfl) m4.symm
  simp at f0 f1 f2 f3 f4
  obtain ⟨rfl,rfl⟩:=f0
  obtain ⟨rfl,rfl⟩:=f1
  obtain ⟨rfl,rfl⟩:=f2
  obtain ⟨rfl,rfl⟩:=f3
  obtain ⟨rfl,rfl⟩:=f4
  rfl
theorem Xcv {W : World} (h : Lib.VarReads Tryz.prog W "matricula/xml.marks" Rows.laid_matricula_xml_marks) : At (im0 W) (ad 2 0) MKC := by
 obtain ⟨g',t',cs,fuel,p,hg',ht',hvar,hd⟩:=h
 obtain rfl := Option.some.inj ((show Tryz.prog.globalNamed "matricula/xml.marks" = some 2 by kernel_rfl).symm.trans hg')
 obtain rfl:=Option.some.inj ((show (Tryz.prog.globals[2]?).map (·.type)=some 258 by kernel_rfl).symm.trans ht')
 have hcs:=X8c hd
 refine Xe0 (by decide) fun j v hj=>?_
 have h2:=World.var?_cell hg' hvar j
 rw [X1d,Y7]
 rw [← Y2w,hcs,hj] at h2
 exact h2
theorem X97 {W:World} {nm:String} {gi:Nat} {ty:String} {d:DataW Unit} (hg:Tryz.prog.globalNamed nm=some gi) (ht:(Tryz.prog.globals[gi]?).map (·.type)=some 132) (h:Lib.VarReads Tryz.prog W nm (.iface ty d)):∃ te pe,W.cell? ⟨gi,0,none⟩=some (.iface te pe):=by
 obtain ⟨g',t',cs,fuel,p,hg',ht',hvar,hd⟩:=h
 obtain rfl:=Option.some.inj (hg.symm.trans hg')
 obtain rfl:=Option.some.inj (ht.symm.trans ht')
 obtain ⟨u,v,hcs⟩:=Xa8 Xer hd
 have h2:=World.var?_cell hg' hvar 0
 rw [← Y2w,hcs] at h2
 exact ⟨u,v,h2⟩
theorem X9j {W : World} (h2 : Lib.VarReads Tryz.prog W "internal/strconv.uint64pow10" Rows.laid_internal_strconv_uint64pow10) (h3 : Lib.VarReads Tryz.prog W "matricula/ticket.prefixes" Rows.laid_matricula_ticket_prefixes) (h4 : Lib.VarReads Tryz.prog W "matricula/xml.marks" Rows.laid_matricula_xml_marks) (h5 : Lib.VarReads Tryz.prog W "strconv.ErrSyntax" Rows.laid_strconv_ErrSyntax) (h6 : Lib.VarReads Tryz.prog W "strconv.ErrRange" Rows.laid_strconv_ErrRange) (hsh : W.ShapedOpen Tryz.prog) : Kx (im0 W) ∧ PreAt (im0 W) := by
 refine ⟨?_,pre_at h3⟩
 rw [Xf4] at h2
 have t2:=X5e (g:=5) (by kernel_rfl) (by kernel_rfl) Xf8 Qu62 (by kernel_rfl) (by kernel_rfl) h2
 refine ⟨Xcv h4,fun B w As hS=>Xfl t2 hS,fun B w As hS=>?_,fun B w As hS=>?_,fun B w As hS=>?_⟩
 ·obtain ⟨m,hm⟩:=Go.Proofs.cell_of_shapedOpen_int (g:=6) (t:=3) (zero:=#[.int .i64 0]) (k:=.i64) hsh (by decide +kernel) (by kernel_rfl) (by kernel_rfl) (by kernel_rfl) (by kernel_rfl) Qu3
  exact ⟨m,X64 hm hS⟩
 ·obtain ⟨te,pe,h⟩:=X97 (gi:=3) (by kernel_rfl) (by kernel_rfl) h5
  exact ⟨te,pe,X64 h hS⟩
 ·obtain ⟨te,pe,h⟩:=X97 (gi:=4) (by kernel_rfl) (by kernel_rfl) h6
  exact ⟨te,pe,X64 h hS⟩
end Go.Proofs.YtbciobiiejpdgaaGreatDoor
namespace Go.Proofs.YtbciobiiejpdgaaGreatDoor
open Gk Ul Pc Pat Xm Tr Tk Go.ChangeMaps Go.ChangeShapes Go.RowKit Go.WideShapes
set_option maxRecDepth 100000
def ntFit (n:Nt):Prop:=n.ticket.length≤maxLen∧n.url.length≤maxLen
theorem X7g {H:Type} {enc:TypeId×Value→H} {W:World} {spare:Nat→Bool} {held:Bool} {fuel:Nat} {cs:List Value} {x:DataW H×List MemPlace} (h:DataW.trod enc Tryz.prog W 0 spare held fuel 45 cs=some x):∃ z:Nt,cs=X5 z∧ntFit z:=by
 obtain ⟨xs,n,_,_,hcl,hxl,hf⟩:=DataW.trod_struct Xg h
 rw [show Tryz.prog.cellsOf 45=4 from by kernel_rfl] at hcl
 obtain ⟨y0,hy0⟩:∃ y,DataW.trod enc Tryz.prog W 0 spare held n 9 ((cs.drop 0).take (Tryz.prog.cellsOf 9))=some y:=⟨_,(hf 0 _ rfl).trans (Y3 (by rw [hxl]; decide))⟩
 rw [show Tryz.prog.cellsOf 9=1 from by kernel_rfl] at hy0
 obtain ⟨y1,hy1⟩:∃ y,DataW.trod enc Tryz.prog W 0 spare held n 9 ((cs.drop 1).take (Tryz.prog.cellsOf 9))=some y:=⟨_,(hf 1 _ rfl).trans (Y3 (by rw [hxl]; decide))⟩
 rw [show Tryz.prog.cellsOf 9=1 from by kernel_rfl] at hy1
 obtain ⟨y2,hy2⟩:∃ y,DataW.trod enc Tryz.prog W 0 spare held n 3 ((cs.drop 2).take (Tryz.prog.cellsOf 3))=some y:=⟨_,(hf 2 _ rfl).trans (Y3 (by rw [hxl]; decide))⟩
 rw [show Tryz.prog.cellsOf 3=1 from by kernel_rfl] at hy2
 obtain ⟨y3,hy3⟩:∃ y,DataW.trod enc Tryz.prog W 0 spare held n 3 ((cs.drop 3).take (Tryz.prog.cellsOf 3))=some y:=⟨_,(hf 3 _ rfl).trans (Y3 (by rw [hxl]; decide))⟩
 rw [show Tryz.prog.cellsOf 3=1 from by kernel_rfl] at hy3
 obtain ⟨v0,v1,v2,v3,rfl⟩:∃ v0 v1 v2 v3,cs=[v0,v1,v2,v3]:=by
  match cs,hcl with
  | [v0,v1,v2,v3],_=>exact ⟨v0,v1,v2,v3,rfl⟩
 simp only [Y2,Y5,Y13,Yb] at hy0 hy1 hy2 hy3
 obtain ⟨z0,e0,_,w0⟩:=DataW.trod_string Qu9 hy0
 obtain ⟨z1,e1,_,w1⟩:=DataW.trod_string Qu9 hy1
 obtain ⟨z2,e2,_,w2⟩:=DataW.trod_int Qu3 hy2
 obtain ⟨z3,e3,_,w3⟩:=DataW.trod_int Qu3 hy3
 simp only [List.cons.injEq,and_true] at e0 e1 e2 e3
 subst e0 e1 e2 e3
 exact ⟨⟨z0.data.toList,z1.data.toList,z2,z3⟩,rfl,⟨w0,w1⟩⟩
end Go.Proofs.YtbciobiiejpdgaaGreatDoor
namespace Go.Proofs.YtbciobiiejpdgaaGreatDoor
open Gk Pc Ul Pat
theorem Xe8 {n:Nat} (h:¬ n<10):Go.Lib.decDigits n=Go.Lib.decDigits (n / 10) ++ [UInt8.ofNat (48+n % 10)]:=by
 rw [Go.Lib.decDigits,dif_neg h]
end Go.Proofs.YtbciobiiejpdgaaGreatDoor
namespace Go.Proofs.YtbciobiiejpdgaaGreatDoor
open Gk Ul Pc Pat Xm Tr Tk
set_option maxRecDepth 4000
theorem X8n (c:UInt8) (hc:Xcy c=true) (B w:World) (I:Im) (As:List Xf) (hS:Sat B w I As) :
  Calls Tryz.prog 113 [U8 c.toNat].toArray w (Ret fun v w'=>v=S []∧Sat B w' I As):=by
 have hp:=X1j c hc
 refine calls Tryz.func113 rfl Tryz.ntmps113 rfl (.seq (.q 1 rfl (.seq (.seq (.q 1 rfl (.block (.seq (.q 2 rfl ?_))))))))
 refine WC.cond rfl (fun hb4=>?_) (fun hb4=>?_)
 ·
  have hc4:=hb4; try simp only [Y4] at hc4
  refine .seq (.q 1 rfl (.ret (Xl Xa3 rfl ?_)))
  exfalso; have h9:=hb4; simp at h9; exact hp.1.1 (Y1u.1 (by show c.toNat=38; omega))
 have hc4:=hb4; try simp only [Y4] at hc4
 refine .seq (.q 2 rfl ?_)
 refine WC.cond rfl (fun hb6=>?_) (fun hb6=>?_)
 ·
  have hc6:=hb6; try simp only [Y4] at hc6
  refine .seq (.q 1 rfl (.ret (Xl Xa3 rfl ?_)))
  exfalso; have h9:=hb6; simp at h9; exact hp.1.2.1 (Y1u.1 (by show c.toNat=60; omega))
 have hc6:=hb6; try simp only [Y4] at hc6
 refine .seq (.q 2 rfl ?_)
 refine WC.cond rfl (fun hb8=>?_) (fun hb8=>?_)
 ·
  have hc8:=hb8; try simp only [Y4] at hc8
  refine .seq (.q 1 rfl (.ret (Xl Xa3 rfl ?_)))
  exfalso; have h9:=hb8; simp at h9; exact hp.1.2.2.1 (Y1u.1 (by show c.toNat=62; omega))
 have hc8:=hb8; try simp only [Y4] at hc8
 refine .seq (.q 2 rfl ?_)
 refine WC.cond rfl (fun hb10=>?_) (fun hb10=>?_)
 ·
  have hc10:=hb10; try simp only [Y4] at hc10
  refine .seq (.q 1 rfl (.ret (Xl Xa3 rfl ?_)))
  exfalso; have h9:=hb10; simp at h9; exact hp.1.2.2.2.1 (Y1u.1 (by show c.toNat=34; omega))
 have hc10:=hb10; try simp only [Y4] at hc10
 refine .seq (.q 2 rfl ?_)
 refine WC.cond rfl (fun hb12=>?_) (fun hb12=>?_)
 ·
  have hc12:=hb12; try simp only [Y4] at hc12
  refine .seq (.q 1 rfl (.ret (Xl Xa3 rfl ?_)))
  exfalso; have h9:=hb12; simp at h9; exact hp.1.2.2.2.2 (Y1u.1 (by show c.toNat=39; omega))
 have hc12:=hb12; try simp only [Y4] at hc12
 refine .skip (.seq (.q 1 rfl (.ret (Xl Xa3 rfl ?_))))
 exact ⟨_,rfl,rfl,hS⟩
theorem X69 (s:List UInt8) (ht:Tok s) (hsl:s.length≤1000000) (B w:World) (I:Im) (As:List Xf) (hS:Sat B w I As) :
  Calls Tryz.prog 68 [S s].toArray w (Ret fun v w'=>v=S s∧Sat B w' I As):=by
 refine calls Tryz.func68 rfl Tryz.ntmps68 rfl (.seq (.q 1 rfl (.seq (.q 1 rfl (.seq (.seq (.q 1 rfl (.block (.loop (σ:=Nat) (fun i=>[(0,S s),(3,S (s.take i)),(4,I64 (i:Nat))]) (fun i w=>i≤s.length∧Sat B w I As) (fun i=>s.length - i) 0 ⟨rfl,rfl,rfl,trivial⟩ ⟨Yk _,hS⟩ ?_)))))))))
 rintro i w ⟨hi,hS⟩
 change WC _ _ _ _ [(0,S s),(3,S (s.take i)),(4,I64 (i:Nat))] w
 refine .seq (.seq (.region (.run 4 rfl ⟨Qu9,trivial⟩ (.nil ?_))))
 refine WC.cond rfl (fun hb9=>?_) (fun hb9=>?_)
 ·
  have hc9:=hb9; try simp only [Y4] at hc9
  refine .skip (.seq (.block (.seq ?_)))
  have htc:=ht (at_ s (i:Int)) (Yj (Xy (i:=i) (by omega)))
  have htl:(s.take i).length≤s.length:=by rw [Yw]; omega
  refine .region (.run 3 rfl ⟨⟨⟨by omega,by omega⟩,Qu9⟩,trivial⟩ (.call Tryz.func113 rfl (X0 (.of rfl) X1) rfl (X8n (at_ s (i:Int)) htc B _ I _ hS) ?_))
  clear hS
  rintro _ w ⟨rfl,hS⟩
  refine .q 1 rfl (.nil (.seq (.seq (.q 2 rfl (.condT (rfl) (.region (.run 4 rfl ⟨⟨by omega,by omega⟩,trivial⟩ (.val (.sub3 (.of rfl) (.of rfl) (.of rfl) (by omega) (by omega) (by omega) Qu9) rfl (.q 1 rfl (.nil (.t 2 rfl ?_)))))))))))
  have hs1:(s.drop ((i:Nat):Int).toNat).take ((((i:Nat):Int)+1).toNat - ((i:Nat):Int).toNat)=[at_ s (i:Int)]:=by
   rw [Y9,show (((i:Nat):Int)+1).toNat - i=1 by omega,Yu (by omega),Y13,Yb]
   have h9:=Xy (s:=s) (i:=i) (by omega)
   rw [Y3 (by omega)] at h9
   injection h9 with h9; rw [h9]
  rw [hs1]
  refine WL.val (.cat (.of rfl) (.of rfl) (by (try simp only [Y0,List.length_cons,List.length_nil]); omega)) rfl ?_
  refine .q 1 rfl (.nil (.region (.run 3 rfl ⟨⟨by omega,by omega⟩,trivial⟩ (.nil ?_))))
  exact ⟨i+1,⟨rfl,by (try dsimp only); rw [Yn,Xy (by omega)]; rfl,rfl,trivial⟩,⟨by (try dsimp only); omega,hS⟩,by (try dsimp only); omega⟩
 have hc9:=hb9; try simp only [Y4] at hc9
 refine .exit (.seq (.q 2 rfl (.ret (Xl Tryz.results68 rfl ?_))))
 refine ⟨_,rfl,?_,hS⟩
 rw [show i=s.length by omega,Y2b]
theorem X6m (m:Nat) (hm:m≤1099511627776) (B w:World) (I:Im) (As:List Xf) (hS:Sat B w I As) :
  Calls Tryz.prog 69 [I64 (m:Nat)].toArray w (Ret fun v w'=>v=S (Go.Lib.decDigits m)∧Sat B w' I As):=by
 refine calls Tryz.func69 rfl Tryz.ntmps69 rfl (.seq (.q 1 rfl (.seq (.q 1 rfl (.seq (.block (.loop (σ:=Nat×List UInt8) (fun ⟨n,out⟩=>[(0,I64 (n:Nat)),(3,S out)]) (fun ⟨n,out⟩ w=>n≤m∧Go.Lib.decDigits m=Go.Lib.decDigits n ++ out∧Sat B w I As) (fun ⟨n,out⟩=>n) (m,[]) ⟨rfl,rfl,trivial⟩ ⟨Yh _,by simp,hS⟩ ?_)))))))
 rintro ⟨n,out⟩ w ⟨hn,hd,hS⟩
 change WC _ _ _ _ [(0,I64 (n:Nat)),(3,S out)] w
 refine .seq (.seq (.q 2 rfl ?_))
 refine WC.cond rfl (fun hb5=>?_) (fun hb5=>?_)
 ·
  have hc5:=hb5; try simp only [Y4] at hc5
  refine .skip (.block (.seq ?_))
  have hbg:=Xe8 (n:=n) (by omega)
  have hlo2:=congrArg List.length hd
  rw [Y0,hbg,Y0] at hlo2
  have h5:=X26 hm
  refine .t 1 rfl (.val (.rem (.of rfl) (.of rfl) (by omega) (by omega)) rfl (.run 1 rfl ⟨⟨by omega,by omega⟩,trivial⟩ ?_))
  refine WL.val (.cvi (.of rfl) Qu3 Qu5 (by rw [IntKind.wrap_u8]; omega)) rfl ?_
  refine .buildSlice (cs:=[_]) hS (X2 (.of rfl) X3) X20 Qs5 Qz5 rfl rfl rfl rfl ?_
  clear hS; intro b10 w hS
  refine WL.val (.str1 (b:=b10) (cap:=1) (c:=UInt8.ofNat (48+n % 10)) (i:=(48+(n:Int) % 10)) (.of rfl) hS (k:=0) rfl (by rw [Y2k]; omega) X20 Qu5 Qu9) rfl ?_
  refine WL.run 3 rfl ⟨by (try simp only [Y0,List.length_cons,List.length_nil]); omega,trivial⟩ ?_
  refine .nil (.t 1 rfl ?_)
  refine WL.val (.quo (.of rfl) (.of rfl) (by omega) (by omega) (by rw [IntKind.wrap_i64]; omega)) rfl ?_
  refine .q 1 rfl (.nil ?_)
  refine ⟨(n / 10,_),⟨rfl,rfl,trivial⟩,⟨by (try dsimp only); omega,?_,(hS.drop (k:=0) rfl)⟩,by (try dsimp only); omega⟩
  rw [hd,hbg,Ye]
 have hc5:=hb5; try simp only [Y4] at hc5
 refine .exit (.seq ?_)
 have hsm:=Go.Lib.decDigits_one (i:=n) (by omega)
 have hlo2:=congrArg List.length hd
 rw [Y0] at hlo2
 have h5:=X26 hm
 refine .region (.run 2 rfl ⟨⟨by omega,by omega⟩,trivial⟩ ?_)
 refine WL.val (.cvi (.of rfl) Qu3 Qu5 (by rw [IntKind.wrap_u8]; omega)) rfl ?_
 refine .buildSlice (cs:=[_]) hS (X2 (.of rfl) X3) X20 Qs5 Qz5 rfl rfl rfl rfl ?_
 clear hS; intro b19 w hS
 refine WL.val (.str1 (b:=b19) (cap:=1) (c:=UInt8.ofNat (48+n)) (i:=(48+(n:Int))) (.of rfl) hS (k:=0) rfl (by rw [Y2k]; omega) X20 Qu5 Qu9) rfl ?_
 refine WL.run 3 rfl ⟨by (try simp only [Y0,List.length_cons,List.length_nil]); omega,trivial⟩ ?_
 refine .nil (.ret (Xl Tryz.results69 rfl ?_))
 refine ⟨_,rfl,?_,(hS.drop (k:=0) rfl)⟩
 rw [hd,hsm]
theorem X4x (t u:List UInt8) (tr:Int) (nn:Nat) (hk:X1g t=true) (hn:nn≤1099511627776) (B w:World) (I:Im) (As:List Xf) (hS:Sat B w I As) :
  Calls Tryz.prog 29 [.agg ([S t,S u,I64 tr,I64 (nn:Nat)]:List Value).toArray].toArray w (Ret fun v w'=>v=S (MSG t nn)∧Sat B w' I As):=by
 have hkl:=(Xv hk).2
 have hdl:=X26 hn
 refine calls Tryz.func29 rfl Tryz.ntmps29 rfl (.seq (.region (.boxA (cs:=[_,_,_,_]) hS (.of rfl) rfl ?_)))
 clear hS; intro b1 w hS
 refine .q 1 rfl (.nil (.seq (.region ?_)))
 first | refine WL.val (.fieldAddr 0 (.of rfl) Xg rfl rfl Qs9 rfl) rfl ?_ | refine WL.val (.fieldAddrI 0 (.of rfl) Xg rfl rfl Qs9 rfl) rfl ?_
 refine .val (.ld (.of rfl) hS (k:=0) rfl Qg9 rfl) rfl (.call Tryz.func68 rfl (X0 (.of rfl) X1) rfl (X69 t (Xv hk).1 (by omega) B _ I _ hS) ?_)
 clear hS
 rintro _ w ⟨rfl,hS⟩
 refine .q 1 rfl (.nil (.seq (.region ?_)))
 refine WL.run 3 rfl ⟨by (try simp only [Y0,List.length_cons,List.length_nil]); omega,by (try simp only [Y0,List.length_cons,List.length_nil]); omega,trivial⟩ ?_
 first | refine WL.val (.fieldAddr 3 (.of rfl) Xg rfl rfl Qs3 rfl) rfl ?_ | refine WL.val (.fieldAddrI 3 (.of rfl) Xg rfl rfl Qs3 rfl) rfl ?_
 refine .val (.ld (.of rfl) hS (k:=0) rfl Qg3 rfl) rfl (.call Tryz.func69 rfl (X0 (.of rfl) X1) rfl (X6m nn hn B _ I _ hS) ?_)
 clear hS
 rintro _ w ⟨rfl,hS⟩
 refine WL.run 6 rfl ⟨by (try simp only [Y0,List.length_cons,List.length_nil]); omega,by (try simp only [Y0,List.length_cons,List.length_nil]); omega,by (try simp only [Y0,List.length_cons,List.length_nil]); omega,by (try simp only [Y0,List.length_cons,List.length_nil]); omega,trivial⟩ ?_
 refine .nil (.ret (Xl Tryz.results29 rfl ?_))
 exact ⟨_,rfl,rfl,(hS.drop (k:=0) rfl)⟩
theorem X2o (n:Nt) (h:Xd n=true) (B w:World) (I:Im) (As:List Xf) (hS:Sat B w I As):Calls Tryz.prog 29 [.agg (X5 n).toArray].toArray w (Ret fun v w'=>v=S (MSG n.ticket n.next.toNat)∧Sat B w' I As):=by
 obtain ⟨h1,h2,h3,_⟩:=Xo h
 have:=X4x n.ticket n.url n.tries n.next.toNat h1 (by omega) B w I As hS
 rw [Y36 h2] at this
 exact this
def shN (x i:Nat):Nat:=x / 256 ^ i
theorem Xc9 (x:Nat):shN x 0=x:=by unfold shN; rw [Y3l,Nat.div_one]
theorem Xcq (x i:Nat):shN x (i+1)=shN x i / 256:=by unfold shN; rw [Y17,← Y2m]
theorem shN_le (x i:Nat):shN x i≤x:=Nat.div_le_self _ _
theorem X6f (n:Nt) (hn:n.ticket.length≤1000000) (hu:n.url.length≤1000000) (B w:World) (I:Im) (As:List Xf) (hS:Sat B w I As) :
  Calls Tryz.prog 22 [.agg (X5 n).toArray].toArray w (Ret fun v w'=>v=.tuple #[S (X6j n).1,I64 ((X6j n).2:Nat)]∧Sat B w' I As):=by
 refine calls Tryz.func22 rfl Tryz.ntmps22 rfl (.seq (.region (.boxA (cs:=[_,_,_,_]) hS (.of rfl) rfl ?_)))
 clear hS; intro b1 w hS
 refine .q 2 rfl (.nil (.seq (.region ?_)))
 first | refine WL.val (.ldsW (cs:=[_,_,_,_]) (.of rfl) hS (k:=0) rfl Xb X6 rfl) rfl ?_ | refine WL.val (.lds (vs:=[_,_,_,_]) (.of rfl) hS (k:=0) rfl Xb X6 rfl (fun _ _ h=>h)) rfl ?_
 refine .call Qf27 rfl (X0 (.of rfl) X1) rfl (X1a n (by omega) (by omega) B _ I _ hS) ?_
 clear hS
 rintro _ w ⟨rfl,hS⟩
 refine .q 1 rfl (.nil (.seq (.seq (.q 2 rfl ?_))))
 refine WC.cond rfl (fun hb11=>?_) (fun hb11=>?_)
 ·
  have hc11:=hb11; try simp only [Y4] at hc11
  refine .seq (.q 2 rfl (.ret (X3u Tryz.results22 rfl rfl ?_)))
  exact ⟨_,rfl,by unfold X6j; rw [if_neg (by simpa using hb11)]; rfl,(hS.drop (k:=0) rfl)⟩
 have hc11:=hb11; try simp only [Y4] at hc11
 refine .skip (.seq ?_)
 have hr:Xd n=true:=by simpa using hb11
 obtain ⟨_,hx0,hx1,hur,ht0,ht1⟩:=Xo hr
 refine .q 1 rfl (.seq (.region ?_))
 first | refine WL.val (.fieldAddr 3 (.of rfl) Xg rfl rfl Qs3 rfl) rfl ?_ | refine WL.val (.fieldAddrI 3 (.of rfl) Xg rfl rfl Qs3 rfl) rfl ?_
 refine .val (.ld (.of rfl) hS (k:=0) rfl Qg3 rfl) rfl (.q 1 rfl (.nil (.seq (.seq (.q 1 rfl (.block ?_))))))
 have hs6:n.next=((shN n.next.toNat 0:Nat):Int):=by rw [Xc9]; omega
 refine .loop (σ:=Nat) (fun i=>[(1,ptr b1 0),(5,S (X41 i n.next.toNat)),(6,I64 ((shN n.next.toNat i:Nat):Int)),(7,I64 (i:Nat))]) (fun i w=>i≤8∧Sat B w I (blk b1 [S n.ticket,S n.url,I64 n.tries,I64 n.next] 45::As)) (fun i=>8 - i) 0 ⟨rfl,rfl,congrArg (fun z=>some (I64 z)) hs6,rfl,trivial⟩ ⟨Yk _,hS⟩ ?_
 rintro i w ⟨hi,hS⟩
 change WC _ _ _ _ [(1,ptr b1 0),(5,S (X41 i n.next.toNat)),(6,I64 ((shN n.next.toNat i:Nat):Int)),(7,I64 (i:Nat))] w
 refine .seq (.seq (.q 2 rfl ?_))
 refine WC.cond rfl (fun hb15=>?_) (fun hb15=>?_)
 ·
  have hc15:=hb15; try simp only [Y4] at hc15
  refine .skip (.seq (.block (.seq ?_)))
  have hll:=X23 i n.next.toNat
  have hxx:shN n.next.toNat i≤1099511627776:=Y2t (shN_le _ _) (by omega)
  refine .t 1 rfl (.val (.rem (.of rfl) (.of rfl) (by omega) (by omega)) rfl ?_)
  refine WL.val (.cvi (.of rfl) Qu3 Qu5 (by rw [IntKind.wrap_u8]; omega)) rfl ?_
  refine .buildSlice (cs:=[_]) hS (X2 (.of rfl) X3) X20 Qs5 Qz5 rfl rfl rfl rfl ?_
  clear hS; intro b21 w hS
  refine WL.val (.str1 (b:=b21) (cap:=1) (c:=UInt8.ofNat (shN n.next.toNat i)) (i:=((shN n.next.toNat i:Nat):Int) % 256) (.of rfl) hS (k:=0) rfl (by rw [Y2k]; omega) X20 Qu5 Qu9) rfl ?_
  refine WL.run 3 rfl ⟨by (try simp only [Y0,List.length_cons,List.length_nil]); omega,trivial⟩ ?_
  refine .nil (.t 1 rfl ?_)
  refine WL.val (.quo (.of rfl) (.of rfl) (by omega) (by omega) (by rw [IntKind.wrap_i64]; omega)) rfl ?_
  refine .q 1 rfl (.nil (.region (.run 3 rfl ⟨⟨by omega,by omega⟩,trivial⟩ (.nil ?_))))
  refine ⟨i+1,⟨rfl,rfl,?_,rfl,trivial⟩,⟨by (try dsimp only); omega,((hS.pick 1 rfl).drop (k:=1) rfl)⟩,by (try dsimp only); omega⟩
  rw [Xcq,Int.natCast_ediv]; rfl
 have hc15:=hb15; try simp only [Y4] at hc15
 refine .exit (.seq ?_)
 have hi8:i=8:=by omega
 subst hi8
 have hll:=X23 8 n.next.toNat
 refine .region ?_
 first | refine WL.val (.fieldAddr 2 (.of rfl) Xg rfl rfl Qs3 rfl) rfl ?_ | refine WL.val (.fieldAddrI 2 (.of rfl) Xg rfl rfl Qs3 rfl) rfl ?_
 refine .val (.ld (.of rfl) hS (k:=0) rfl Qg3 rfl) rfl ?_
 refine WL.val (.cvi (.of rfl) Qu3 Qu5 (by rw [IntKind.wrap_u8]; omega)) rfl ?_
 refine .buildSlice (cs:=[_]) hS (X2 (.of rfl) X3) X20 Qs5 Qz5 rfl rfl rfl rfl ?_
 clear hS; intro b30 w hS
 refine WL.val (.str1 (b:=b30) (cap:=1) (c:=UInt8.ofNat n.tries.toNat) (i:=n.tries) (.of rfl) hS (k:=0) rfl (by rw [Y2k]; omega) X20 Qu5 Qu9) rfl ?_
 refine WL.run 2 rfl ⟨by (try simp only [Y0,List.length_cons,List.length_nil]); omega,trivial⟩ ?_
 first | refine WL.val (.fieldAddr 1 (.of rfl) Xg rfl rfl Qs9 rfl) rfl ?_ | refine WL.val (.fieldAddrI 1 (.of rfl) Xg rfl rfl Qs9 rfl) rfl ?_
 first | refine WL.val (.ld (.of rfl) hS (k:=0) rfl Qg9 rfl) rfl ?_ | refine WL.val (.ld (.of rfl) hS (k:=1) rfl Qg9 rfl) rfl ?_
 refine WL.run 3 rfl ⟨by (try simp only [Y0,List.length_cons,List.length_nil]); omega,trivial⟩ ?_
 refine .nil (.ret (X3u Tryz.results22 rfl rfl ?_))
 exact ⟨_,rfl,by unfold X6j; rw [if_pos hr]; rfl,((hS.drop (k:=0) rfl).drop (k:=0) rfl)⟩
theorem X5y (t s:List UInt8) (ht:t.length≤1000000) (hsl:s.length≤1000000) (B w:World) (I:Im) (As:List Xf) (hS:Sat B w I As) :
  Calls Tryz.prog 24 [S t,S s].toArray w (Ret fun v w'=>v=.tuple #[.agg (X5 (X3c t s).1).toArray,I64 ((X3c t s).2:Nat)]∧Sat B w' I As):=by
 refine calls Tryz.func24 rfl Tryz.ntmps24 rfl (.seq (.region (.allocA (cs:=[_,_,_,_]) hS X4a rfl ?_)))
 clear hS; intro b4 w hS
 refine .q 1 rfl (.nil (.seq (.seq (.region (.run 4 rfl ⟨Qu9,trivial⟩ (.gval rfl rfl (fun hg1=>(.move (.of rfl))) rfl ?_))))))
 refine WL.gval rfl rfl (fun hg1=>(.index (.gd hg1 rfl) (.of rfl) (by (try simp only [Y4] at hg1); omega) (by (try simp only [Y4] at hg1); omega) Qu9)) rfl ?_
 refine .gval rfl rfl (fun hg1=>(.gtr (.gd hg1 rfl) (.of rfl))) rfl (.val (.por (.of rfl) (.of rfl) (.of rfl)) rfl (.q 1 rfl (.gval rfl rfl (fun hg1=>(.move (.of rfl))) rfl ?_)))
 refine WL.gval rfl rfl (fun hg1=>(.index (.gd hg1 rfl) (.of rfl) (by (try simp only [Y4] at hg1); omega) (by (try simp only [Y4] at hg1); omega) Qu9)) rfl ?_
 refine .gval rfl rfl (fun hg1=>(.gtr (.gd hg1 rfl) (.of rfl))) rfl (.val (.por (.of rfl) (.of rfl) (.of rfl)) rfl (.nil ?_))
 refine WC.cond rfl (fun hb21=>?_) (fun hb21=>?_)
 ·
  have hc21:=hb21; try simp only [Y4] at hc21
  refine .seq (.region (.val (.build (cs:=[_,_,_,_]) X3 Xp rfl) rfl (.stA hS (k:=0) rfl (.of rfl) (.of rfl) rfl X6 rfl (by simp) ?_)))
  clear hS; intro w hS; try dsimp only [List.set] at hS
  try simp only [Yb,Y6,Y8,Y2,Y5,Yc,Y7] at hS
  refine .q 1 rfl (.nil (.ret (Xj (b:=_) (cs:=[_,_,_,_]) Xcu hS (k:=0) rfl Xb X6 rfl rfl rfl ?_)))
  refine ⟨_,rfl,?_,(hS.drop (k:=0) rfl)⟩
  have hd:X3c t s=(nt0,8):=by
   unfold X3c
   by_cases h9:s.length<9
   ·rw [if_pos h9]
   ·have hb9:=hb21
    simp only [Y1o,decide_eq_true_eq] at hb9
    rw [if_neg h9,Xes t (by omega) (by omega)]; rfl
  rw [hd]; rfl
 have hc21:=hb21; try simp only [Y4] at hc21
 refine .skip (.seq ?_)
 have hat0:=(at_ s 0).toNat_lt
 have hl9:9≤s.length∧(at_ s 1).toNat=0∧(at_ s 2).toNat=0:=by
  have h9:=hb21
  simp only [Yi,decide_eq_false_iff_not] at h9
  omega
 obtain ⟨hl9,hz1,hz2⟩:=hl9
 have hs0:((at_ s 0).toNat:Int)=((s.headD 0).toNat:Int):=by
  cases s with
  | nil=>simp at hl9
  | cons a b=>rfl
 refine .drawn (fun _=>True) (fun j=>!([].contains j)) (by kernel_rfl) ?_
 replace hS:=hS.drew; generalize w.drew=w at hS ⊢
 refine .tp (i:=0) rfl (by kernel_rfl) (fun w=>(.move (.of rfl))) rfl (.tp (i:=1) rfl (by kernel_rfl) (fun w=>(.move (.of rfl))) rfl (.tp (i:=2) rfl (by kernel_rfl) (fun w=>(.subFrom (.of rfl) (.of rfl) (by omega) (by omega) Qu9)) rfl (.tp (i:=3) rfl (by kernel_rfl) (fun w=>(.move (.of rfl))) rfl (.tp (i:=4) rfl (by kernel_rfl) (fun w=>(.index (.of rfl) (.of rfl) (by omega) (by omega) Qu9)) rfl ?_))))
 refine WD.branch [5,7] (by kernel_rfl) rfl (WO.cons rfl ?_ (WO.cons rfl ?_ (WO.nil)))
 ·
  refine WL.val (.cvi (.of rfl) Qu5 Qu3 (by rw [IntKind.wrap_i64]; omega)) rfl ?_
  refine .nil ?_
  refine And.intro (by intro _ _; trivial) ?_
  refine .tp (i:=6) rfl (by kernel_rfl) (fun w=>(.build (cs:=[_,_,_,_]) (X2 (.of rfl) (X2 (.of rfl) (X2 (.of rfl) X3))) Xp rfl)) rfl ?_
  refine WD.branch [7] (by kernel_rfl) rfl (WO.cons rfl ?_ (WO.nil))
  refine .allocA (cs:=[_,_,_,_]) hS X4a rfl ?_
  clear hS; intro b6 w hS
  refine .nil ?_
  refine And.intro (by intro _ _; trivial) ?_
  refine WD.branch [8] (by kernel_rfl) rfl (WO.cons rfl ?_ (WO.nil))
  first | refine WL.stA hS (k:=0) rfl (.of rfl) (.of rfl) rfl X6 rfl (by simp) ?_ | refine WL.stA hS (k:=1) rfl (.of rfl) (.of rfl) rfl X6 rfl (by simp) ?_
  clear hS; intro w hS; try dsimp only [List.set] at hS
  try simp only [Yb,Y6,Y8,Y2,Y5,Yc,Y7] at hS
  rw [hs0] at hS
  refine .nil ?_
  refine And.intro (by intro _ _; trivial) ?_
  refine .done (by kernel_rfl) (.seq (.seq (.q 1 rfl (.block (.loop (σ:=Nat) (fun k=>[(0,S t),(1,S s),(4,ptr b4 0),(6,ptr b6 0),(7,I64 ((k:Int)+1))]) (fun k w=>k≤8∧Sat B w I (blk b6 [S t,S (s.drop 9),I64 ((s.headD 0).toNat:Int),I64 (((Xh 0 ((s.drop 1).take k):Nat):Int))] 45::blk b4 [S [],S [],I64 0,I64 0] 45::As)) (fun k=>8 - k) 0 ⟨rfl,rfl,rfl,rfl,rfl,trivial⟩ ⟨Yk _,hS⟩ ?_)))))
  rintro k w ⟨hk,hS⟩
  change WC _ _ _ _ [(0,S t),(1,S s),(4,ptr b4 0),(6,ptr b6 0),(7,I64 ((k:Int)+1))] w
  refine .seq (.seq (.q 2 rfl ?_))
  refine WC.cond rfl (fun hb31=>?_) (fun hb31=>?_)
  ·
   have hc31:=hb31; try simp only [Y4] at hc31
   refine .skip (.seq (.block ?_))
   have hkl:k<8:=by have h9:=hc31; omega
   have hbt:=(at_ s ((k:Int)+1)).toNat_lt
   have htk:(s.drop 1).take (k+1)=(s.drop 1).take k ++ [at_ s ((k:Int)+1)]:=by
    rw [Yn,Yq,Y22 1 k]
    have:=Xy (s:=s) (i:=k+1) (by omega)
    rw [this]; rfl
   have hfs:Xh 0 ((s.drop 1).take (k+1))=256*Xh 0 ((s.drop 1).take k)+(at_ s ((k:Int)+1)).toNat:=by rw [htk,X39]; rfl
   have hsm:=X7u hl9 hz1 hz2 k (by omega)
   refine .drawn (fun w=>∃ R,Sat B w I (blk b6 [S t,S (s.drop 9),I64 ((s.headD 0).toNat:Int),I64 (((Xh 0 ((s.drop 1).take k):Nat):Int))] 45::R)) (fun j=>!([9].contains j)) (by kernel_rfl) ?_
   replace hS:=hS.drew; generalize w.drew=w at hS ⊢
   have hH:∃ R,Sat B w I (blk b6 [S t,S (s.drop 9),I64 ((s.headD 0).toNat:Int),I64 (((Xh 0 ((s.drop 1).take k):Nat):Int))] 45::R):=⟨_,(hS.pick 0 rfl)⟩
   refine WD.tp (i:=0) rfl (by kernel_rfl) (fun w=>(by first | exact .fieldAddr 3 (.of rfl) Xg rfl rfl Qs3 rfl | exact .fieldAddrI 3 (.of rfl) Xg rfl rfl Qs3 rfl)) rfl ?_
   refine .tk (i:=1) rfl (by kernel_rfl) hH (fun w ⟨R,hS⟩=>(.ld (.of rfl) hS (k:=0) rfl Qg3 rfl)) rfl (.tp (i:=2) rfl (by kernel_rfl) (fun w=>(.mul (.of rfl) (.of rfl) ⟨by omega,by omega⟩)) rfl (.tp (i:=3) rfl (by kernel_rfl) (fun w=>(.move (.of rfl))) rfl (.tp (i:=4) rfl (by kernel_rfl) (fun w=>(.move (.of rfl))) rfl (.tp (i:=5) rfl (by kernel_rfl) (fun w=>(.index (.of rfl) (.of rfl) (by omega) (by omega) Qu9)) rfl ?_))))
   refine WD.branch [6] (by kernel_rfl) rfl (WO.cons rfl ?_ (WO.nil))
   refine WL.val (.cvi (.of rfl) Qu5 Qu3 (by rw [IntKind.wrap_i64]; omega)) rfl ?_
   refine .nil ?_
   clear hH
   have hH:∃ R,Sat B w I (blk b6 [S t,S (s.drop 9),I64 ((s.headD 0).toNat:Int),I64 (((Xh 0 ((s.drop 1).take k):Nat):Int))] 45::R):=⟨_,(hS.pick 0 rfl)⟩
   refine And.intro (by intro _ _; exact hH) ?_
   refine .tp (i:=7) rfl (by kernel_rfl) (fun w=>(.add (.of rfl) (.of rfl) ⟨by omega,by omega⟩)) rfl ?_
   refine WD.tp (i:=8) rfl (by kernel_rfl) (fun w=>(by first | exact .fieldAddr 3 (.of rfl) Xg rfl rfl Qs3 rfl | exact .fieldAddrI 3 (.of rfl) Xg rfl rfl Qs3 rfl)) rfl ?_
   refine WD.branch [9] (by kernel_rfl) rfl (WO.cons rfl ?_ (WO.nil))
   first | refine WL.st1 hS (k:=0) rfl (.of rfl) (.of rfl) rfl Qs3 (by simp) ?_ | refine WL.st1 hS (k:=1) rfl (.of rfl) (.of rfl) rfl Qs3 (by simp) ?_
   clear hS; intro w hS; try dsimp only [List.set] at hS
   refine .nil ?_
   refine And.intro (by intro h; cases h) ?_
   refine .done (by kernel_rfl) (.region (.run 3 rfl ⟨⟨by omega,by omega⟩,trivial⟩ (.nil ?_)))
   replace hS:=((hS.pick 1 rfl).pick 1 rfl)
   refine ⟨k+1,⟨rfl,rfl,rfl,rfl,by (try dsimp only); rw [show (((k+1:Nat):Int)+1)=(k:Int)+1+1 by omega]; rfl,trivial⟩,⟨by (try dsimp only); omega,?_⟩,by (try dsimp only); omega⟩
   rw [hfs,Y3o,Y24]; exact hS
  have hc31:=hb31; try simp only [Y4] at hc31
  refine .exit (.seq ?_)
  have hk8:k=8:=by have h9:=hc31; omega
  subst hk8
  refine .region ?_
  first | refine WL.val (.ldsW (cs:=[_,_,_,_]) (.of rfl) hS (k:=0) rfl Xb X6 rfl) rfl ?_ | refine WL.val (.lds (vs:=[_,_,_,_]) (.of rfl) hS (k:=0) rfl Xb X6 rfl (fun _ _ h=>h)) rfl ?_ | refine WL.val (.ldsW (cs:=[_,_,_,_]) (.of rfl) hS (k:=1) rfl Xb X6 rfl) rfl ?_ | refine WL.val (.lds (vs:=[_,_,_,_]) (.of rfl) hS (k:=1) rfl Xb X6 rfl (fun _ _ h=>h)) rfl ?_
  refine WL.call Qf27 rfl (X0 (.of rfl) X1) rfl (X1a ⟨t,s.drop 9,((s.headD 0).toNat:Int),((Xh 0 ((s.drop 1).take 8):Nat):Int)⟩ (by (try dsimp only); omega) (by (try dsimp only); rw [Ya]; omega) B _ I _ hS) ?_
  clear hS
  rintro _ w ⟨rfl,hS⟩
  refine .q 1 rfl (.nil (.seq (.seq (.q 2 rfl ?_))))
  refine WC.cond rfl (fun hb46=>?_) (fun hb46=>?_)
  ·
   have hc46:=hb46; try simp only [Y4] at hc46
   refine .seq (.region (.val (.build (cs:=[_,_,_,_]) X3 Xp rfl) rfl ?_))
   first | refine WL.stA hS (k:=0) rfl (.of rfl) (.of rfl) rfl X6 rfl (by simp) ?_ | refine WL.stA hS (k:=1) rfl (.of rfl) (.of rfl) rfl X6 rfl (by simp) ?_
   clear hS; intro w hS; try dsimp only [List.set] at hS
   try simp only [Yb,Y6,Y8,Y2,Y5,Yc,Y7] at hS
   refine .q 1 rfl (.nil (.ret ?_))
   first | refine Xj (b:=_) (cs:=[_,_,_,_]) Xcu hS (k:=0) rfl Xb X6 rfl rfl rfl ?_ | refine Xj (b:=_) (cs:=[_,_,_,_]) Xcu hS (k:=1) rfl Xb X6 rfl rfl rfl ?_
   have hr:Xd (X7y t s)=false:=by have h9:=hb46; simp only [Y28] at h9; exact h9
   exact ⟨_,rfl,by unfold X3c; rw [if_neg (by omega),if_neg (by rw [hr]; decide)]; rfl,((hS.drop (k:=0) rfl).drop (k:=0) rfl)⟩
  have hc46:=hb46; try simp only [Y4] at hc46
  refine .skip (.seq (.region ?_))
  first | refine WL.val (.ldsW (cs:=[_,_,_,_]) (.of rfl) hS (k:=0) rfl Xb X6 rfl) rfl ?_ | refine WL.val (.lds (vs:=[_,_,_,_]) (.of rfl) hS (k:=0) rfl Xb X6 rfl (fun _ _ h=>h)) rfl ?_ | refine WL.val (.ldsW (cs:=[_,_,_,_]) (.of rfl) hS (k:=1) rfl Xb X6 rfl) rfl ?_ | refine WL.val (.lds (vs:=[_,_,_,_]) (.of rfl) hS (k:=1) rfl Xb X6 rfl (fun _ _ h=>h)) rfl ?_
  first | refine WL.stA hS (k:=0) rfl (.of rfl) (.of rfl) rfl X6 rfl (by simp) ?_ | refine WL.stA hS (k:=1) rfl (.of rfl) (.of rfl) rfl X6 rfl (by simp) ?_
  clear hS; intro w hS; try dsimp only [List.set] at hS
  try simp only [Yb,Y6,Y8,Y2,Y5,Yc,Y7] at hS
  refine .q 1 rfl (.nil (.ret ?_))
  first | refine Xj (b:=_) (cs:=[_,_,_,_]) Xcu hS (k:=0) rfl Xb X6 rfl rfl rfl ?_ | refine Xj (b:=_) (cs:=[_,_,_,_]) Xcu hS (k:=1) rfl Xb X6 rfl rfl rfl ?_
  have hr:Xd (X7y t s)=true:=by have h9:=hb46; simp only [Y11] at h9; exact h9
  refine ⟨_,rfl,?_,((hS.drop (k:=0) rfl).drop (k:=0) rfl)⟩
  unfold X3c
  rw [if_neg (by omega),if_pos hr]; rfl
 ·
  refine .allocA (cs:=[_,_,_,_]) hS X4a rfl ?_
  clear hS; intro b6 w hS
  refine .nil ?_
  refine And.intro (by intro _ _; trivial) ?_
  refine WD.branch [5] (by kernel_rfl) rfl (WO.cons rfl ?_ (WO.nil))
  refine WL.val (.cvi (.of rfl) Qu5 Qu3 (by rw [IntKind.wrap_i64]; omega)) rfl ?_
  refine .nil ?_
  refine And.intro (by intro _ _; trivial) ?_
  refine .tp (i:=6) rfl (by kernel_rfl) (fun w=>(.build (cs:=[_,_,_,_]) (X2 (.of rfl) (X2 (.of rfl) (X2 (.of rfl) X3))) Xp rfl)) rfl ?_
  refine WD.branch [8] (by kernel_rfl) rfl (WO.cons rfl ?_ (WO.nil))
  first | refine WL.stA hS (k:=0) rfl (.of rfl) (.of rfl) rfl X6 rfl (by simp) ?_ | refine WL.stA hS (k:=1) rfl (.of rfl) (.of rfl) rfl X6 rfl (by simp) ?_
  clear hS; intro w hS; try dsimp only [List.set] at hS
  try simp only [Yb,Y6,Y8,Y2,Y5,Yc,Y7] at hS
  rw [hs0] at hS
  refine .nil ?_
  refine And.intro (by intro _ _; trivial) ?_
  refine .done (by kernel_rfl) (.seq (.seq (.q 1 rfl (.block (.loop (σ:=Nat) (fun k=>[(0,S t),(1,S s),(4,ptr b4 0),(6,ptr b6 0),(7,I64 ((k:Int)+1))]) (fun k w=>k≤8∧Sat B w I (blk b6 [S t,S (s.drop 9),I64 ((s.headD 0).toNat:Int),I64 (((Xh 0 ((s.drop 1).take k):Nat):Int))] 45::blk b4 [S [],S [],I64 0,I64 0] 45::As)) (fun k=>8 - k) 0 ⟨rfl,rfl,rfl,rfl,rfl,trivial⟩ ⟨Yk _,hS⟩ ?_)))))
  rintro k w ⟨hk,hS⟩
  change WC _ _ _ _ [(0,S t),(1,S s),(4,ptr b4 0),(6,ptr b6 0),(7,I64 ((k:Int)+1))] w
  refine .seq (.seq (.q 2 rfl ?_))
  refine WC.cond rfl (fun hb31=>?_) (fun hb31=>?_)
  ·
   have hc31:=hb31; try simp only [Y4] at hc31
   refine .skip (.seq (.block ?_))
   have hkl:k<8:=by have h9:=hc31; omega
   have hbt:=(at_ s ((k:Int)+1)).toNat_lt
   have htk:(s.drop 1).take (k+1)=(s.drop 1).take k ++ [at_ s ((k:Int)+1)]:=by
    rw [Yn,Yq,Y22 1 k]
    have:=Xy (s:=s) (i:=k+1) (by omega)
    rw [this]; rfl
   have hfs:Xh 0 ((s.drop 1).take (k+1))=256*Xh 0 ((s.drop 1).take k)+(at_ s ((k:Int)+1)).toNat:=by rw [htk,X39]; rfl
   have hsm:=X7u hl9 hz1 hz2 k (by omega)
   refine .drawn (fun w=>∃ R,Sat B w I (blk b6 [S t,S (s.drop 9),I64 ((s.headD 0).toNat:Int),I64 (((Xh 0 ((s.drop 1).take k):Nat):Int))] 45::R)) (fun j=>!([9].contains j)) (by kernel_rfl) ?_
   replace hS:=hS.drew; generalize w.drew=w at hS ⊢
   have hH:∃ R,Sat B w I (blk b6 [S t,S (s.drop 9),I64 ((s.headD 0).toNat:Int),I64 (((Xh 0 ((s.drop 1).take k):Nat):Int))] 45::R):=⟨_,(hS.pick 0 rfl)⟩
   refine WD.tp (i:=0) rfl (by kernel_rfl) (fun w=>(by first | exact .fieldAddr 3 (.of rfl) Xg rfl rfl Qs3 rfl | exact .fieldAddrI 3 (.of rfl) Xg rfl rfl Qs3 rfl)) rfl ?_
   refine .tk (i:=1) rfl (by kernel_rfl) hH (fun w ⟨R,hS⟩=>(.ld (.of rfl) hS (k:=0) rfl Qg3 rfl)) rfl (.tp (i:=2) rfl (by kernel_rfl) (fun w=>(.mul (.of rfl) (.of rfl) ⟨by omega,by omega⟩)) rfl (.tp (i:=3) rfl (by kernel_rfl) (fun w=>(.move (.of rfl))) rfl (.tp (i:=4) rfl (by kernel_rfl) (fun w=>(.move (.of rfl))) rfl (.tp (i:=5) rfl (by kernel_rfl) (fun w=>(.index (.of rfl) (.of rfl) (by omega) (by omega) Qu9)) rfl ?_))))
   refine WD.branch [6] (by kernel_rfl) rfl (WO.cons rfl ?_ (WO.nil))
   refine WL.val (.cvi (.of rfl) Qu5 Qu3 (by rw [IntKind.wrap_i64]; omega)) rfl ?_
   refine .nil ?_
   clear hH
   have hH:∃ R,Sat B w I (blk b6 [S t,S (s.drop 9),I64 ((s.headD 0).toNat:Int),I64 (((Xh 0 ((s.drop 1).take k):Nat):Int))] 45::R):=⟨_,(hS.pick 0 rfl)⟩
   refine And.intro (by intro _ _; exact hH) ?_
   refine .tp (i:=7) rfl (by kernel_rfl) (fun w=>(.add (.of rfl) (.of rfl) ⟨by omega,by omega⟩)) rfl ?_
   refine WD.tp (i:=8) rfl (by kernel_rfl) (fun w=>(by first | exact .fieldAddr 3 (.of rfl) Xg rfl rfl Qs3 rfl | exact .fieldAddrI 3 (.of rfl) Xg rfl rfl Qs3 rfl)) rfl ?_
   refine WD.branch [9] (by kernel_rfl) rfl (WO.cons rfl ?_ (WO.nil))
   first | refine WL.st1 hS (k:=0) rfl (.of rfl) (.of rfl) rfl Qs3 (by simp) ?_ | refine WL.st1 hS (k:=1) rfl (.of rfl) (.of rfl) rfl Qs3 (by simp) ?_
   clear hS; intro w hS; try dsimp only [List.set] at hS
   refine .nil ?_
   refine And.intro (by intro h; cases h) ?_
   refine .done (by kernel_rfl) (.region (.run 3 rfl ⟨⟨by omega,by omega⟩,trivial⟩ (.nil ?_)))
   replace hS:=((hS.pick 1 rfl).pick 1 rfl)
   refine ⟨k+1,⟨rfl,rfl,rfl,rfl,by (try dsimp only); rw [show (((k+1:Nat):Int)+1)=(k:Int)+1+1 by omega]; rfl,trivial⟩,⟨by (try dsimp only); omega,?_⟩,by (try dsimp only); omega⟩
   rw [hfs,Y3o,Y24]; exact hS
  have hc31:=hb31; try simp only [Y4] at hc31
  refine .exit (.seq ?_)
  have hk8:k=8:=by have h9:=hc31; omega
  subst hk8
  refine .region ?_
  first | refine WL.val (.ldsW (cs:=[_,_,_,_]) (.of rfl) hS (k:=0) rfl Xb X6 rfl) rfl ?_ | refine WL.val (.lds (vs:=[_,_,_,_]) (.of rfl) hS (k:=0) rfl Xb X6 rfl (fun _ _ h=>h)) rfl ?_ | refine WL.val (.ldsW (cs:=[_,_,_,_]) (.of rfl) hS (k:=1) rfl Xb X6 rfl) rfl ?_ | refine WL.val (.lds (vs:=[_,_,_,_]) (.of rfl) hS (k:=1) rfl Xb X6 rfl (fun _ _ h=>h)) rfl ?_
  refine WL.call Qf27 rfl (X0 (.of rfl) X1) rfl (X1a ⟨t,s.drop 9,((s.headD 0).toNat:Int),((Xh 0 ((s.drop 1).take 8):Nat):Int)⟩ (by (try dsimp only); omega) (by (try dsimp only); rw [Ya]; omega) B _ I _ hS) ?_
  clear hS
  rintro _ w ⟨rfl,hS⟩
  refine .q 1 rfl (.nil (.seq (.seq (.q 2 rfl ?_))))
  refine WC.cond rfl (fun hb46=>?_) (fun hb46=>?_)
  ·
   have hc46:=hb46; try simp only [Y4] at hc46
   refine .seq (.region (.val (.build (cs:=[_,_,_,_]) X3 Xp rfl) rfl ?_))
   first | refine WL.stA hS (k:=0) rfl (.of rfl) (.of rfl) rfl X6 rfl (by simp) ?_ | refine WL.stA hS (k:=1) rfl (.of rfl) (.of rfl) rfl X6 rfl (by simp) ?_
   clear hS; intro w hS; try dsimp only [List.set] at hS
   try simp only [Yb,Y6,Y8,Y2,Y5,Yc,Y7] at hS
   refine .q 1 rfl (.nil (.ret ?_))
   first | refine Xj (b:=_) (cs:=[_,_,_,_]) Xcu hS (k:=0) rfl Xb X6 rfl rfl rfl ?_ | refine Xj (b:=_) (cs:=[_,_,_,_]) Xcu hS (k:=1) rfl Xb X6 rfl rfl rfl ?_
   have hr:Xd (X7y t s)=false:=by have h9:=hb46; simp only [Y28] at h9; exact h9
   exact ⟨_,rfl,by unfold X3c; rw [if_neg (by omega),if_neg (by rw [hr]; decide)]; rfl,((hS.drop (k:=0) rfl).drop (k:=0) rfl)⟩
  have hc46:=hb46; try simp only [Y4] at hc46
  refine .skip (.seq (.region ?_))
  first | refine WL.val (.ldsW (cs:=[_,_,_,_]) (.of rfl) hS (k:=0) rfl Xb X6 rfl) rfl ?_ | refine WL.val (.lds (vs:=[_,_,_,_]) (.of rfl) hS (k:=0) rfl Xb X6 rfl (fun _ _ h=>h)) rfl ?_ | refine WL.val (.ldsW (cs:=[_,_,_,_]) (.of rfl) hS (k:=1) rfl Xb X6 rfl) rfl ?_ | refine WL.val (.lds (vs:=[_,_,_,_]) (.of rfl) hS (k:=1) rfl Xb X6 rfl (fun _ _ h=>h)) rfl ?_
  first | refine WL.stA hS (k:=0) rfl (.of rfl) (.of rfl) rfl X6 rfl (by simp) ?_ | refine WL.stA hS (k:=1) rfl (.of rfl) (.of rfl) rfl X6 rfl (by simp) ?_
  clear hS; intro w hS; try dsimp only [List.set] at hS
  try simp only [Yb,Y6,Y8,Y2,Y5,Yc,Y7] at hS
  refine .q 1 rfl (.nil (.ret ?_))
  first | refine Xj (b:=_) (cs:=[_,_,_,_]) Xcu hS (k:=0) rfl Xb X6 rfl rfl rfl ?_ | refine Xj (b:=_) (cs:=[_,_,_,_]) Xcu hS (k:=1) rfl Xb X6 rfl rfl rfl ?_
  have hr:Xd (X7y t s)=true:=by have h9:=hb46; simp only [Y11] at h9; exact h9
  refine ⟨_,rfl,?_,((hS.drop (k:=0) rfl).drop (k:=0) rfl)⟩
  unfold X3c
  rw [if_neg (by omega),if_pos hr]; rfl
theorem X4q:M1.length=28:=rfl
theorem X9i:M2.length=30:=rfl
theorem Xcf (s:List UInt8) (j:Nat) (hall:((s.drop (58+(Xx s).length)).take j).all X58=true) (hv:1099511627776<val ((s.drop (58+(Xx s).length)).take j)):X14 s=none:=by
 have e:X7b s=(s.drop (58+(Xx s).length)).takeWhile X58:=by
  unfold X7b
  rw [X4q,X9i,show 28+(Xx s).length+30=58+(Xx s).length by omega]
 unfold X14
 rw [if_neg]
 rintro ⟨_,h,_⟩
 rw [e] at h
 have h1:=Xam _ _ hall
 rw [← h1] at hv
 have h2:=Xc5 ((s.drop (58+(Xx s).length)).takeWhile X58) j (j+((s.drop (58+(Xx s).length)).takeWhile X58).length) (by omega)
 rw [Yx (l:=(s.drop (58+(Xx s).length)).takeWhile X58) (i:=j+_) (by omega)] at h2
 omega
theorem X96 (s:List UInt8) (j:Nat) (hall:((s.drop (58+(Xx s).length)).take j).all X58=true) (hst:∀ c,(s.drop (58+(Xx s).length))[j]?=some c→X58 c=false):X7b s=(s.drop (58+(Xx s).length)).take j:=by
 unfold X7b
 rw [X4q,X9i,show 28+(Xx s).length+30=58+(Xx s).length by omega]
 exact Xay _ _ hall hst
theorem X88 (s:List UInt8) (hl:s.length≤400) (B w:World) (I:Im) (As:List Xf) (hS:Sat B w I As) :
  Calls Tryz.prog 26 [S s].toArray w (Ret fun v w'=>v=.tuple #[S ((X14 s).getD []),.bool (X14 s).isSome]∧Sat B w' I As):=by
 refine calls Tryz.func26 rfl Tryz.ntmps26 rfl (.seq (.q 2 rfl (.seq (.q 1 rfl (.seq (.q 1 rfl ?_))))))
 refine WC.cutS (σ:=Unit) (fun _u=>[(0,S s),(4,S M1),(5,S M2),(6,I64 28)]) (fun _u w=>Sat B w I As) ?_ ?_
 ·
  refine .region (.run 3 rfl ⟨Qu9,trivial⟩ (.nil ?_))
  exact ⟨(),⟨rfl,rfl,rfl,rfl,trivial⟩,hS⟩
 rintro _u w hS
 change WC _ _ _ _ [(0,S s),(4,S M1),(5,S M2),(6,I64 28)] w
 have hM1:=X4q
 have hM2:=X9i
 refine .seq (.seq (.region (.run 5 rfl ⟨Qu9,trivial⟩ (.gval rfl rfl (fun hg1=>(.move (.of rfl))) rfl (.gval rfl rfl (fun hg1=>(.move (.of rfl))) rfl ?_)))))
 refine WL.gval rfl rfl (fun hg1=>(.subTo (.gd hg1 rfl) (.gd hg1 rfl) (by (try simp only [Y4] at hg1); omega) (by (try simp only [Y4] at hg1); omega) Qu9)) rfl ?_
 refine .gval rfl rfl (fun hg1=>(.move (.of rfl))) rfl (.gval rfl rfl (fun hg1=>(.nes (.gd hg1 rfl) (.gd hg1 rfl))) rfl (.val (.por (.of rfl) (.of rfl) (.of rfl)) rfl (.nil ?_)))
 refine WC.cond rfl (fun hb23=>?_) (fun hb23=>?_)
 ·
  have hc23:=hb23; try simp only [Y4] at hc23
  refine .seq (.q 2 rfl (.ret (X3u Qr26 rfl rfl ?_)))
  have hno:X14 s=none:=by
   refine Classical.byContradiction fun hne=>?_
   obtain ⟨t,r,hs,hi⟩:=X7s hne
   have h9:=hb23
   simp only [Y1o,decide_eq_true_eq,bne_iff_ne,Y28,beq_eq_false_iff_ne,ne_eq] at h9
   rcases h9 with h9 | h9
   ·rw [hs,Y0] at h9; omega
   ·exact h9 (by rw [hs]; exact Y3r rfl)
  rw [hno]
  exact ⟨_,rfl,rfl,hS⟩
 have hc23:=hb23; try simp only [Y4] at hc23
 refine .skip (.seq ?_)
 have hp1:28≤s.length∧s.take 28=M1:=by
  have h9:=hb23
  simp only [Yi,decide_eq_false_iff_not,bne_eq_false_iff_eq,Y11,beq_iff_eq] at h9
  exact ⟨by have:=h9.1; have:=X4q; omega,h9.2⟩
 obtain ⟨hp1,hp2⟩:=hp1
 refine .q 2 rfl (.seq (.block ?_))
 refine WC.loop (σ:=Nat) (fun k=>[(0,S s),(5,S M2),(6,I64 28),(7,I64 ((28+k:Nat):Int))]) (fun k w=>28+k≤s.length∧(∀ c∈(s.drop 28).take k,c≠34)∧Sat B w I As) (fun k=>s.length - k) 0 ⟨rfl,rfl,rfl,rfl,trivial⟩ ⟨by (try dsimp only); omega,fun c hc=>by simp at hc,hS⟩ ?_
 rintro k w ⟨hk,hno,hS⟩
 change WC _ _ _ _ [(0,S s),(5,S M2),(6,I64 28),(7,I64 ((28+k:Nat):Int))] w
 refine .seq (.seq (.region (.run 5 rfl ⟨Qu9,trivial⟩ (.gval rfl rfl (fun hg1=>(.move (.of rfl))) rfl (.gval rfl rfl (fun hg1=>(.move (.of rfl))) rfl ?_)))))
 refine WL.gval rfl rfl (fun hg1=>(.index (.gd hg1 rfl) (.gd hg1 rfl) (by (try simp only [Y4] at hg1); omega) (by (try simp only [Y4] at hg1); omega) Qu9)) rfl ?_
 refine .gval rfl rfl (fun hg1=>(.neq (.gd hg1 rfl) (.of rfl))) rfl (.val (.pand (.of rfl) (.of rfl) (.of rfl)) rfl (.nil ?_))
 refine WC.cond rfl (fun hb34=>?_) (fun hb34=>?_)
 ·
  have hc34:=hb34; try simp only [Y4] at hc34
  refine .skip (.block ?_)
  have hat:at_ s ((28+k:Nat):Int)≠34:=fun e=>by
   have h9:=hb34
   rw [e] at h9
   simp at h9
  have hkl:28+k<s.length:=by have h9:=hc34; omega
  refine .region (.run 3 rfl ⟨⟨by omega,by omega⟩,trivial⟩ (.nil ?_))
  refine ⟨k+1,⟨rfl,rfl,rfl,by (try dsimp only); rw [show ((28+(k+1):Nat):Int)=((28+k:Nat):Int)+1 by omega]; rfl,trivial⟩,⟨by (try dsimp only); omega,fun c hc=>?_,hS⟩,by (try dsimp only); omega⟩
  rw [Yn,Yq,Xy hkl,Y1p] at hc
  rcases Y1b.1 hc with hc | hc
  ·exact hno c hc
  ·rw [Y20.1 hc]; exact hat
 have hc34:=hb34; try simp only [Y4] at hc34
 refine .exit (.seq ?_)
 have hid:Xx s=(s.drop 28).take k:=by
  refine Xej (by rw [X4q]; omega) (by rw [X4q]; exact hno) (fun c hc=>?_)
  rw [X4q,Yq] at hc
  have hkl:=(Y1.1 hc).1
  rw [Xy hkl] at hc
  injection hc with hc
  have h9:=hb34
  simp only [Y27,decide_eq_false_iff_not,bne_eq_false_iff_eq,Y11,beq_iff_eq] at h9
  rcases h9 with h9 | h9
  ·omega
  ·rw [← hc]; exact Y1u.1 (by show (at_ s _).toNat=34; omega)
 have hidl:(Xx s).length=k:=by rw [hid,Yw,Ya]; omega
 obtain rfl:k=(Xx s).length:=hidl.symm
 refine .t 3 rfl (.val (.sub3 (.of rfl) (.of rfl) (.of rfl) (by omega) (by omega) (by omega) Qu9) rfl ?_)
 rw [show (s.drop (28:Int).toNat).take (((28+(Xx s).length:Nat):Int).toNat - (28:Int).toNat)=Xx s from by rw [Y9,show 28+(Xx s).length - (28:Int).toNat=(Xx s).length from by show 28+_ - 28=_; omega]; exact hid.symm]
 refine .q 1 rfl (.nil (.seq (.seq (.region (.run 8 rfl ⟨Qu9,Qu9,⟨by omega,by omega⟩,trivial⟩ (.gval rfl rfl (fun hg1=>(.move (.of rfl))) rfl (.gval rfl rfl (fun hg1=>(.move (.of rfl))) rfl (.gval rfl rfl (fun hg1=>(.move (.of rfl))) rfl (.gval rfl rfl (fun hg1=>(.move (.of rfl))) rfl (.gval rfl rfl (fun hg1=>(.len (.gd hg1 rfl) Qu9)) rfl (.gval rfl rfl (fun hg1=>(.add (.gd hg1 rfl) (.gd hg1 rfl) ⟨by omega,by omega⟩)) rfl ?_)))))))))))
 refine WL.gval rfl rfl (fun hg1=>(.sub3 (.gd hg1 rfl) (.gd hg1 rfl) (.gd hg1 rfl) (by (try simp only [Y4] at hg1); omega) (by (try simp only [Y4] at hg1); omega) (by (try simp only [Y4] at hg1); omega) Qu9)) rfl ?_
 refine .gval rfl rfl (fun hg1=>(.move (.of rfl))) rfl (.gval rfl rfl (fun hg1=>(.nes (.gd hg1 rfl) (.gd hg1 rfl))) rfl (.val (.por (.of rfl) (.of rfl) (.of rfl)) rfl (.nil ?_)))
 refine WC.cond rfl (fun hb58=>?_) (fun hb58=>?_)
 ·
  have hc58:=hb58; try simp only [Y4] at hc58
  refine .seq (.q 2 rfl (.ret (X3u Qr26 rfl rfl ?_)))
  have hno:X14 s=none:=by
   refine Classical.byContradiction fun hne=>?_
   obtain ⟨t,r,hs,hi⟩:=X7s hne
   have h9:=hb58
   simp only [Y1o,decide_eq_true_eq,bne_iff_ne,Y28,beq_eq_false_iff_ne,ne_eq] at h9
   rcases h9 with h9 | h9
   ·have hl:=congrArg List.length hs
    simp only [Y0] at hl
    rw [hi] at h9; omega
   ·refine h9 ?_
    rw [hi,hM2,Y9,show (((28+t.length:Nat):Int)+((30:Nat):Int)).toNat - (28+t.length)=30 by omega,hs,show 28+t.length=(M1 ++ t).length by rw [Y0,hM1],← Ye,List.drop_left' rfl]
    exact Y3r rfl
  rw [hno]
  exact ⟨_,rfl,rfl,hS⟩
 have hc58:=hb58; try simp only [Y4] at hc58
 refine .skip (.seq ?_)
 have hp3:58+(Xx s).length≤s.length∧(s.drop (28+(Xx s).length)).take 30=M2:=by
  have h9:=hb58
  simp only [Yi,decide_eq_false_iff_not,bne_eq_false_iff_eq,Y11,beq_iff_eq] at h9
  have hm:=X9i
  refine ⟨by have:=h9.1; omega,?_⟩
  have h8:=h9.2
  rw [hm,Y9,show (((28+(Xx s).length:Nat):Int)+((30:Nat):Int)).toNat - (28+(Xx s).length)=30 by omega] at h8
  exact h8
 obtain ⟨hp3,hp4⟩:=hp3
 refine .t 1 rfl (.val (.build (cs:=[_,_,_,_]) (X2 (.of rfl) X3) Xp rfl) rfl (.allocA (cs:=[_,_,_,_]) hS X4a rfl ?_))
 clear hS; intro b9 w hS
 refine .stA hS (k:=0) rfl (.of rfl) (.of rfl) rfl X6 rfl (by simp) ?_
 clear hS; intro w hS; try dsimp only [List.set] at hS
 try simp only [Yb,Y6,Y8,Y2,Y5,Yc,Y7] at hS
 refine .nil (.seq (.region (.run 5 rfl ⟨Qu9,⟨by omega,by omega⟩,trivial⟩ (.nil (.seq (.block ?_))))))
 have h6:((28+(Xx s).length:Nat):Int)+(M2.length:Int)=((58+(Xx s).length+0:Nat):Int):=by omega
 refine WC.loop (σ:=Nat) (fun j=>[(0,S s),(8,S (Xx s)),(9,ptr b9 0),(6,I64 ((58+(Xx s).length+j:Nat):Int))]) (fun j w=>58+(Xx s).length+j≤s.length∧((s.drop (58+(Xx s).length)).take j).all X58=true∧Sat B w I (blk b9 [S (Xx s),S [],I64 0,I64 ((val ((s.drop (58+(Xx s).length)).take j):Nat):Int)] 45::As)) (fun j=>s.length - j) 0 ⟨rfl,rfl,rfl,congrArg (fun z=>some (I64 z)) h6,trivial⟩ ⟨by (try dsimp only); omega,rfl,hS⟩ ?_
 rintro j w ⟨hj,hall,hS⟩
 change WC _ _ _ _ [(0,S s),(8,S (Xx s)),(9,ptr b9 0),(6,I64 ((58+(Xx s).length+j:Nat):Int))] w
 refine .seq (.seq (.region (.run 5 rfl ⟨Qu9,trivial⟩ (.gval rfl rfl (fun hg1=>(.move (.of rfl))) rfl (.gval rfl rfl (fun hg1=>(.move (.of rfl))) rfl ?_)))))
 refine WL.gval rfl rfl (fun hg1=>(.index (.gd hg1 rfl) (.gd hg1 rfl) (by (try simp only [Y4] at hg1); omega) (by (try simp only [Y4] at hg1); omega) Qu9)) rfl ?_
 refine .gval rfl rfl (fun hg1=>(.geq (.gd hg1 rfl) (.of rfl))) rfl (.val (.pand (.of rfl) (.of rfl) (.of rfl)) rfl (.q 1 rfl (.gval rfl rfl (fun hg1=>(.move (.of rfl))) rfl (.gval rfl rfl (fun hg1=>(.move (.of rfl))) rfl ?_))))
 refine WL.gval rfl rfl (fun hg1=>(.index (.gd hg1 rfl) (.gd hg1 rfl) (by (try simp only [Y4] at hg1); omega) (by (try simp only [Y4] at hg1); omega) Qu9)) rfl ?_
 refine .gval rfl rfl (fun hg1=>(.leq (.gd hg1 rfl) (.of rfl))) rfl (.val (.pand (.of rfl) (.of rfl) (.of rfl)) rfl (.q 1 rfl ?_))
 refine WL.gval rfl rfl (fun hg1=>(by first | exact .fieldAddr 3 (.of rfl) Xg rfl rfl Qs3 rfl | exact .fieldAddrI 3 (.of rfl) Xg rfl rfl Qs3 rfl)) rfl ?_
 refine .gval rfl rfl (fun hg1=>(.ld (.gd hg1 rfl) hS (k:=0) rfl Qg3 rfl)) rfl (.gval rfl rfl (fun hg1=>(.leq (.gd hg1 rfl) (.of rfl))) rfl (.val (.pand (.of rfl) (.of rfl) (.of rfl)) rfl (.nil ?_)))
 refine WC.cond rfl (fun hb85=>?_) (fun hb85=>?_)
 ·
  have hc85:=hb85; try simp only [Y4] at hc85
  refine .skip (.block (.seq ?_))
  have hdg:X58 (at_ s ((58+(Xx s).length+j:Nat):Int))=true∧val ((s.drop (58+(Xx s).length)).take j)≤1099511627776∧58+(Xx s).length+j<s.length∧48≤(at_ s ((58+(Xx s).length+j:Nat):Int)).toNat:=by
   have h9:=hb85
   simp only [Yd,decide_eq_true_eq] at h9
   obtain ⟨⟨⟨h1,h2⟩,h3⟩,h4⟩:=h9
   refine ⟨?_,by omega,by omega,by omega⟩
   unfold X58
   simp only [Yd,decide_eq_true_eq]
   exact ⟨Yv.2 (by show 48≤_; omega),Yv.2 (by show _≤57; omega)⟩
  obtain ⟨hdg,hvl,hjl,h48⟩:=hdg
  have hat:=(at_ s ((58+(Xx s).length+j:Nat):Int)).toNat_lt
  have hu8:IntKind.u8.wrap (((at_ s ((58+(Xx s).length+j:Nat):Int)).toNat:Int) - 48)=((at_ s ((58+(Xx s).length+j:Nat):Int)).toNat:Int) - 48:=by rw [IntKind.wrap_u8]; omega
  have hD:(s.drop (58+(Xx s).length))[j]?=some (at_ s ((58+(Xx s).length+j:Nat):Int)):=by rw [Yq]; exact Xy hjl
  have htk:(s.drop (58+(Xx s).length)).take (j+1)=(s.drop (58+(Xx s).length)).take j ++ [at_ s ((58+(Xx s).length+j:Nat):Int)]:=by rw [Yn,hD]; rfl
  refine .drawn (fun w=>∃ R,Sat B w I (blk b9 [S (Xx s),S [],I64 0,I64 ((val ((s.drop (58+(Xx s).length)).take j):Nat):Int)] 45::R)) (fun j=>!([10].contains j)) (by kernel_rfl) ?_
  replace hS:=hS.drew; generalize w.drew=w at hS ⊢
  have hH:∃ R,Sat B w I (blk b9 [S (Xx s),S [],I64 0,I64 ((val ((s.drop (58+(Xx s).length)).take j):Nat):Int)] 45::R):=⟨_,(hS.pick 0 rfl)⟩
  refine WD.tp (i:=0) rfl (by kernel_rfl) (fun w=>(by first | exact .fieldAddr 3 (.of rfl) Xg rfl rfl Qs3 rfl | exact .fieldAddrI 3 (.of rfl) Xg rfl rfl Qs3 rfl)) rfl ?_
  refine .tk (i:=1) rfl (by kernel_rfl) hH (fun w ⟨R,hS⟩=>(.ld (.of rfl) hS (k:=0) rfl Qg3 rfl)) rfl (.tp (i:=2) rfl (by kernel_rfl) (fun w=>(.mul (.of rfl) (.of rfl) ⟨by omega,by omega⟩)) rfl (.tp (i:=3) rfl (by kernel_rfl) (fun w=>(.move (.of rfl))) rfl (.tp (i:=4) rfl (by kernel_rfl) (fun w=>(.move (.of rfl))) rfl (.tp (i:=5) rfl (by kernel_rfl) (fun w=>(.index (.of rfl) (.of rfl) (by omega) (by omega) Qu9)) rfl (.tp (i:=6) rfl (by kernel_rfl) (fun w=>.subw (.of rfl) (.of rfl)) rfl ?_)))))
  rw [hu8]
  refine WD.branch [7] (by kernel_rfl) rfl (WO.cons rfl ?_ (WO.nil))
  refine WL.val (.cvi (.of rfl) Qu5 Qu3 (by rw [IntKind.wrap_i64]; omega)) rfl ?_
  refine .nil ?_
  clear hH
  have hH:∃ R,Sat B w I (blk b9 [S (Xx s),S [],I64 0,I64 ((val ((s.drop (58+(Xx s).length)).take j):Nat):Int)] 45::R):=⟨_,(hS.pick 0 rfl)⟩
  refine And.intro (by intro _ _; exact hH) ?_
  refine .tp (i:=8) rfl (by kernel_rfl) (fun w=>(.add (.of rfl) (.of rfl) ⟨by omega,by omega⟩)) rfl ?_
  refine WD.tp (i:=9) rfl (by kernel_rfl) (fun w=>(by first | exact .fieldAddr 3 (.of rfl) Xg rfl rfl Qs3 rfl | exact .fieldAddrI 3 (.of rfl) Xg rfl rfl Qs3 rfl)) rfl ?_
  refine WD.branch [10] (by kernel_rfl) rfl (WO.cons rfl ?_ (WO.nil))
  refine .st1 hS (k:=0) rfl (.of rfl) (.of rfl) rfl Qs3 (by simp) ?_
  clear hS; intro w hS; try dsimp only [List.set] at hS
  refine .nil ?_
  refine And.intro (by intro h; cases h) ?_
  refine .done (by kernel_rfl) (.region (.run 3 rfl ⟨⟨by omega,by omega⟩,trivial⟩ (.nil ?_)))
  replace hS:=hS
  refine ⟨j+1,⟨rfl,rfl,rfl,by (try dsimp only); rw [show ((58+(Xx s).length+(j+1):Nat):Int)=((58+(Xx s).length+j:Nat):Int)+1 by omega]; rfl,trivial⟩,⟨by (try dsimp only); omega,by rw [htk,Y3p,hall,Y3g,Y2h,List.all_nil,hdg]; rfl,?_⟩,by (try dsimp only); omega⟩
  rw [htk,X8d]
  rw [show ((10*val ((s.drop (58+(Xx s).length)).take j)+((at_ s ((58+(Xx s).length+j:Nat):Int)).toNat - 48):Nat):Int)=10*((val ((s.drop (58+(Xx s).length)).take j):Nat):Int)+(((at_ s ((58+(Xx s).length+j:Nat):Int)).toNat:Int) - 48) by omega]
  exact hS
 have hc85:=hb85; try simp only [Y4] at hc85
 refine .exit (.seq (.region ?_))
 first | refine WL.val (.ldsW (cs:=[_,_,_,_]) (.of rfl) hS (k:=0) rfl Xb X6 rfl) rfl ?_ | refine WL.val (.lds (vs:=[_,_,_,_]) (.of rfl) hS (k:=0) rfl Xb X6 rfl (fun _ _ h=>h)) rfl ?_
 refine WL.call Qf27 rfl (X0 (.of rfl) X1) rfl (X1a ⟨Xx s,[],0,((val ((s.drop (58+(Xx s).length)).take j):Nat):Int)⟩ (by (try dsimp only); omega) (by (try dsimp only [List.length_nil]); decide) B _ I _ hS) ?_
 clear hS
 rintro _ w ⟨rfl,hS⟩
 refine .q 1 rfl (.nil (.seq (.seq (.t 3 rfl ?_))))
 refine WL.gval rfl rfl (fun hg1=>(by first | exact (.ldsW (cs:=[_,_,_,_]) (.of rfl) hS (k:=0) rfl Xb X6 rfl) | exact (.lds (vs:=[_,_,_,_]) (.of rfl) hS (k:=0) rfl Xb X6 rfl (fun _ _ h=>h)))) rfl ?_
 refine .gcall (T:=fun w=>Sat B w I _) rfl rfl rfl Tryz.func29 rfl (fun hg1=>(X0 (.gd hg1 rfl) X1)) rfl (fun hg1=>X2o ⟨Xx s,[],0,((val ((s.drop (58+(Xx s).length)).take j):Nat):Int)⟩ (by simpa using hg1) B _ I _ hS) hS ?_
 clear hS; rintro w hS
 refine .gval rfl rfl (fun hg1=>(.move (.of rfl))) rfl (.gval rfl rfl (fun hg1=>(.nes (.gd hg1 rfl) (.gd hg1 rfl))) rfl (.val (.por (.of rfl) (.of rfl) (.of rfl)) rfl (.nil ?_)))
 refine WC.cond rfl (fun hb107=>?_) (fun hb107=>?_)
 ·
  have hc107:=hb107; try simp only [Y4] at hc107
  refine .seq (.q 2 rfl (.ret (X3u Qr26 rfl rfl ?_)))
  refine ⟨_,rfl,?_,(hS.drop (k:=0) rfl)⟩
  have hno:X14 s=none:=by
   by_cases hv:1099511627776<val ((s.drop (58+(Xx s).length)).take j)
   ·exact Xcf s j hall hv
   ·have hns:=X96 s j hall (fun c hc=>by
     rw [Yq] at hc
     have hjl:=(Y1.1 hc).1
     rw [Xy hjl] at hc
     injection hc with hc
     subst hc
     refine Y2n.2 fun hd=>?_
     unfold X58 at hd
     simp only [Yd,decide_eq_true_eq] at hd
     have h1:=Yv.1 hd.1
     have h2:=Yv.1 hd.2
     have h1:48≤(at_ s ((58+(Xx s).length+j:Nat):Int)).toNat:=h1
     have h2:(at_ s ((58+(Xx s).length+j:Nat):Int)).toNat≤57:=h2
     have h9:=hb85
     simp only [Y27,decide_eq_false_iff_not] at h9
     omega)
    unfold X14
    rw [hns,if_neg]
    rintro ⟨h1,h2,h3⟩
    have hr:Xd ⟨Xx s,[],0,((val ((s.drop (58+(Xx s).length)).take j):Nat):Int)⟩=true:=by
     unfold Xd
     simp only [h1,List.length_nil]
     simp
     omega
    rw [hr,Y9,← h3] at hb107
    simp at hb107
  rw [hno]; rfl
 have hc107:=hb107; try simp only [Y4] at hc107
 refine .skip (.seq (.q 3 rfl (.ret (X3u Qr26 rfl rfl ?_))))
 refine ⟨_,rfl,?_,(hS.drop (k:=0) rfl)⟩
 have hb8:=hb107
 simp only [Yi,bne_eq_false_iff_eq,Y11,beq_iff_eq] at hb8
 obtain ⟨hr1,hr2⟩:=hb8
 obtain ⟨hr3,hr4,hr5,_⟩:=Xo hr1
 replace hr5:((val ((s.drop (58+(Xx s).length)).take j):Nat):Int)≤1099511627776:=hr5
 have hns:=X96 s j hall (fun c hc=>by
    rw [Yq] at hc
    have hjl:=(Y1.1 hc).1
    rw [Xy hjl] at hc
    injection hc with hc
    subst hc
    refine Y2n.2 fun hd=>?_
    unfold X58 at hd
    simp only [Yd,decide_eq_true_eq] at hd
    have h1:=Yv.1 hd.1
    have h2:=Yv.1 hd.2
    have h1:48≤(at_ s ((58+(Xx s).length+j:Nat):Int)).toNat:=h1
    have h2:(at_ s ((58+(Xx s).length+j:Nat):Int)).toNat≤57:=h2
    have h9:=hb85
    simp only [Y27,decide_eq_false_iff_not] at h9
    omega)
 have hre:X14 s=some (Xx s):=by
  unfold X14
  rw [hns,if_pos]
  exact ⟨hr3,by omega,by rw [Y9] at hr2; exact hr2.symm⟩
 rw [hre]; rfl
theorem Ex.eqNt {n:Nat} {L:Env} {w:World} {d:Option Nat} {ty t':TypeId} {pos:String} {af:Array Edge} {g:Option (Nat×Bool)} {x y:Operand} {r s:Nt} (hx:Ev n L x (.agg (X5 r).toArray)) (hy:Ev n L y (.agg (X5 s).toArray)):Ex Tryz.prog n L w ⟨d,.binOp .eql 45 x y t',ty,pos,af,g⟩ (.bool (decide (r=s))) w :=
 Xn hx hy (fun p q=>run_eqGuard_agg w _ _ _ _ _ _ (by kernel_rfl)) (by rw [run_eql_struct,X5n]; rfl)
theorem X4c (n:Nt) (t s:List UInt8) (B w:World) (I:Im) (hK:Kx I) (hP:PreAt I) (As:List Xf) (hS:Sat B w I As) :
  Calls Tryz.prog 4 [.agg (X5 n).toArray,S t,S s].toArray w (Ret fun v w'=>v=.bool true∧∃ J,Le I J∧Sat B w' J As):=by
 refine calls Tryz.func4 rfl Tryz.ntmps4 rfl (.seq (.region (.boxA (cs:=[_,_,_,_]) hS (.of rfl) rfl ?_)))
 clear hS; intro b3 w hS
 refine .q 1 rfl (.nil (.seq (.region (.call Tryz.func8 rfl X1 rfl (X4w B _ I hK hP _ hS) ?_))))
 clear hS
 rintro _ w ⟨rfl,hS⟩
 refine .q 1 rfl (.nil (.seq (.seq (.region ?_))))
 first | refine WL.val (.fieldAddr 0 (.of rfl) Xg rfl rfl Qs9 rfl) rfl ?_ | refine WL.val (.fieldAddrI 0 (.of rfl) Xg rfl rfl Qs9 rfl) rfl ?_
 refine .val (.ld (.of rfl) hS (k:=0) rfl Qg9 rfl) rfl (.run 3 rfl ⟨Qu9,trivial⟩ ?_)
 refine WL.gval rfl rfl (fun hg1=>(by first | exact .fieldAddr 1 (.of rfl) Xg rfl rfl Qs9 rfl | exact .fieldAddrI 1 (.of rfl) Xg rfl rfl Qs9 rfl)) rfl ?_
 refine .gval rfl rfl (fun hg1=>(.ld (.gd hg1 rfl) hS (k:=0) rfl Qg9 rfl)) rfl (.gval rfl rfl (fun hg1=>(.len (.gd hg1 rfl) Qu9)) rfl (.gval rfl rfl (fun hg1=>(.gtr (.gd hg1 rfl) (.of rfl))) rfl (.val (.por (.of rfl) (.of rfl) (.of rfl)) rfl (.q 1 rfl (.gval rfl rfl (fun hg1=>(.move (.of rfl))) rfl (.gval rfl rfl (fun hg1=>(.len (.gd hg1 rfl) Qu9)) rfl (.gval rfl rfl (fun hg1=>(.gtr (.gd hg1 rfl) (.of rfl))) rfl (.val (.por (.of rfl) (.of rfl) (.of rfl)) rfl (.q 1 rfl (.gval rfl rfl (fun hg1=>(.move (.of rfl))) rfl (.gval rfl rfl (fun hg1=>(.len (.gd hg1 rfl) Qu9)) rfl (.gval rfl rfl (fun hg1=>(.gtr (.gd hg1 rfl) (.of rfl))) rfl (.val (.por (.of rfl) (.of rfl) (.of rfl)) rfl (.nil ?_))))))))))))))
 refine WC.cond rfl (fun hb40=>?_) (fun hb40=>?_)
 ·
  have hc40:=hb40; try simp only [Y4] at hc40
  refine .seq (.q 2 rfl (.ret (Xl Tryz.results4 rfl ?_)))
  exact ⟨_,rfl,rfl,I,Le.refl _,(hS.drop (k:=0) rfl)⟩
 have hc40:=hb40; try simp only [Y4] at hc40
 refine .skip (.seq ?_)
 have hl4:n.ticket.length≤60∧n.url.length≤120∧t.length≤60∧s.length≤400:=by
  simp only [Yi,decide_eq_false_iff_not] at hb40
  omega
 obtain ⟨hnt,hnu,htl,hsl⟩:=hl4
 refine .region ?_
 first | refine WL.val (.ldsW (cs:=[_,_,_,_]) (.of rfl) hS (k:=0) rfl Xb X6 rfl) rfl ?_ | refine WL.val (.lds (vs:=[_,_,_,_]) (.of rfl) hS (k:=0) rfl Xb X6 rfl (fun _ _ h=>h)) rfl ?_
 refine .call Qf21 rfl (X0 (.of rfl) X1) rfl (X3n n (by omega) (by omega) B _ I hK hP _ hS) ?_
 clear hS
 rintro _ w ⟨rfl,hS⟩
 refine .q 5 rfl (.nil (.seq (.region ?_)))
 first | refine WL.val (.ldsW (cs:=[_,_,_,_]) (.of rfl) hS (k:=0) rfl Xb X6 rfl) rfl ?_ | refine WL.val (.lds (vs:=[_,_,_,_]) (.of rfl) hS (k:=0) rfl Xb X6 rfl (fun _ _ h=>h)) rfl ?_
 refine .call Tryz.func22 rfl (X0 (.of rfl) X1) rfl (X6f n (by omega) (by omega) B _ I _ hS) ?_
 clear hS
 rintro _ w ⟨rfl,hS⟩
 refine .q 5 rfl (.nil (.seq (.t 2 rfl (.call Qf23 rfl (X0 (.of rfl) (X0 (.of rfl) X1)) rfl (X3r t s (by omega) (by omega) B _ I hK hP _ hS) ?_))))
 clear hS
 rintro _ w ⟨rfl,hS⟩
 refine .q 3 rfl (.allocA (cs:=[_,_,_,_]) hS X4a rfl ?_)
 clear hS; intro b12 w hS
 first | refine WL.stA hS (k:=0) rfl (.of rfl) (.of rfl) rfl X6 rfl (by simp) ?_ | refine WL.stA hS (k:=1) rfl (.of rfl) (.of rfl) rfl X6 rfl (by simp) ?_
 clear hS; intro w hS; try dsimp only [List.set] at hS
 try simp only [Yb,Y6,Y8,Y2,Y5,Yc,Y7] at hS
 refine .q 1 rfl (.nil (.seq (.t 2 rfl (.call Tryz.func24 rfl (X0 (.of rfl) (X0 (.of rfl) X1)) rfl (X5y t s (by omega) (by omega) B _ I _ hS) ?_))))
 clear hS
 rintro _ w ⟨rfl,hS⟩
 refine .q 3 rfl (.allocA (cs:=[_,_,_,_]) hS X4a rfl ?_)
 clear hS; intro b14 w hS
 first | refine WL.stA hS (k:=0) rfl (.of rfl) (.of rfl) rfl X6 rfl (by simp) ?_ | refine WL.stA hS (k:=1) rfl (.of rfl) (.of rfl) rfl X6 rfl (by simp) ?_ | refine WL.stA hS (k:=2) rfl (.of rfl) (.of rfl) rfl X6 rfl (by simp) ?_
 clear hS; intro w hS; try dsimp only [List.set] at hS
 try simp only [Yb,Y6,Y8,Y2,Y5,Yc,Y7] at hS
 refine .q 1 rfl (.nil (.seq (.t 1 rfl (.call Qf25 rfl (X0 (.of rfl) X1) rfl (X47 s hsl B _ I hK hP _ hS) ?_))))
 clear hS
 rintro _ w ⟨rfl,hS⟩
 refine .q 5 rfl (.nil (.seq (.t 1 rfl (.call Tryz.func26 rfl (X0 (.of rfl) X1) rfl (X88 s hsl B _ I _ hS) ?_))))
 clear hS
 rintro _ w ⟨rfl,hS⟩
 refine .q 5 rfl (.nil (.seq (.seq (.drawn (fun w=>∃ R,Sat B w I (blk b3 [S n.ticket,S n.url,I64 n.tries,I64 n.next] 45::R)) (fun j=>!([].contains j)) (by kernel_rfl) ?_))))
 replace hS:=hS.drew; generalize w.drew=w at hS ⊢
 have hH:∃ R,Sat B w I (blk b3 [S n.ticket,S n.url,I64 n.tries,I64 n.next] 45::R):=⟨_,(hS.pick 2 rfl)⟩
 refine WD.tk (i:=0) rfl (by kernel_rfl) hH (fun w ⟨R,hS⟩=>(by first | exact (.ldsW (cs:=[_,_,_,_]) (.of rfl) hS (k:=0) rfl Xb X6 rfl) | exact (.lds (vs:=[_,_,_,_]) (.of rfl) hS (k:=0) rfl Xb X6 rfl (fun _ _ h=>h)))) rfl ?_
 refine WD.branch [1] (by kernel_rfl) rfl (WO.cons rfl ?_ (WO.nil))
 refine .call Qf27 rfl (X0 (.of rfl) X1) rfl (X1a n (by omega) (by omega) B _ I _ hS) ?_
 clear hS
 rintro _ w ⟨rfl,hS⟩
 refine .nil ?_
 clear hH
 have hH:∃ R,Sat B w I (blk b3 [S n.ticket,S n.url,I64 n.tries,I64 n.next] 45::R):=⟨_,(hS.pick 2 rfl)⟩
 refine And.intro (by intro _ _; exact hH) ?_
 refine .tp (i:=2) rfl (by kernel_rfl) (fun w=>(.move (.of rfl))) rfl ?_
 refine WD.tg (i:=3) rfl (by kernel_rfl) hH rfl rfl (fun hg1 w ⟨R,hS⟩=>(by first | exact (.ldsW (cs:=[_,_,_,_]) (.of rfl) hS (k:=0) rfl Xb X6 rfl) | exact (.lds (vs:=[_,_,_,_]) (.of rfl) hS (k:=0) rfl Xb X6 rfl (fun _ _ h=>h)))) rfl ?_
 refine WD.tg (i:=5) rfl (by kernel_rfl) hH rfl rfl (fun hg1 w ⟨R,hS⟩=>(by first | exact (.ldsW (cs:=[_,_,_,_]) (.of rfl) hS (k:=0) rfl Xb X6 rfl) | exact (.lds (vs:=[_,_,_,_]) (.of rfl) hS (k:=0) rfl Xb X6 rfl (fun _ _ h=>h)))) rfl ?_
 refine WD.branch [4] (by kernel_rfl) rfl (WO.cons rfl ?_ (WO.nil))
 refine .gcall (T:=fun w=>Sat B w I _) rfl rfl rfl Qf28 rfl (fun hg1=>(X0 (.gd hg1 rfl) X1)) rfl (fun hg1=>X3a n (by simpa using hg1) B _ I hK _ hS) hS ?_
 clear hS; rintro w hS
 refine .nil ?_
 clear hH
 have hH:∃ R,Sat B w I (blk b3 [S n.ticket,S n.url,I64 n.tries,I64 n.next] 45::R):=⟨_,(hS.pick 2 rfl)⟩
 refine And.intro (by intro _ _; exact hH) ?_
 refine WD.branch [6] (by kernel_rfl) rfl (WO.cons rfl ?_ (WO.nil))
 refine .gcall (T:=fun w=>Sat B w I _) rfl rfl rfl Tryz.func29 rfl (fun hg1=>(X0 (.gd hg1 rfl) X1)) rfl (fun hg1=>X2o n (by simpa using hg1) B _ I _ hS) hS ?_
 clear hS; rintro w hS
 refine .nil ?_
 clear hH
 have hH:∃ R,Sat B w I (blk b3 [S n.ticket,S n.url,I64 n.tries,I64 n.next] 45::R):=⟨_,(hS.pick 2 rfl)⟩
 refine And.intro (by intro _ _; exact hH) ?_
 refine .tg (i:=7) rfl (by kernel_rfl) hH rfl rfl (fun hg1 w ⟨R,hS⟩=>(.nes (.gd hg1 rfl) (.gd hg1 rfl))) rfl (.tp (i:=8) rfl (by kernel_rfl) (fun w=>(.pand (.of rfl) (.of rfl) (.of rfl))) rfl (.done (by kernel_rfl) (.condF (congrArg (fun b=>some (Value.bool b)) (by simp)) (.skip (.seq (.t 2 rfl (.gval rfl rfl (fun hg1=>(.move (.of rfl))) rfl (.gval rfl rfl (fun hg1=>(.move (.of rfl))) rfl (.gval rfl rfl (fun hg1=>(.eqs (.gd hg1 rfl) (.gd hg1 rfl))) rfl (.val (.pand (.of rfl) (.of rfl) (.of rfl)) rfl (.q 1 rfl (.gval rfl rfl (fun hg1=>(.move (.of rfl))) rfl (.gval rfl rfl (fun hg1=>(.move (.of rfl))) rfl (.gval rfl rfl (fun hg1=>(.eql (.gd hg1 rfl) (.gd hg1 rfl))) rfl (.val (.pand (.of rfl) (.of rfl) (.of rfl)) rfl (.q 1 rfl ?_))))))))))))))))
 refine WL.gval rfl rfl (fun hg1=>(by first | exact (.ldsW (cs:=[_,_,_,_]) (.of rfl) hS (k:=0) rfl Xb X6 rfl) | exact (.lds (vs:=[_,_,_,_]) (.of rfl) hS (k:=0) rfl Xb X6 rfl (fun _ _ h=>h)) | exact (.ldsW (cs:=[_,_,_,_]) (.of rfl) hS (k:=1) rfl Xb X6 rfl) | exact (.lds (vs:=[_,_,_,_]) (.of rfl) hS (k:=1) rfl Xb X6 rfl (fun _ _ h=>h)) | exact (.ldsW (cs:=[_,_,_,_]) (.of rfl) hS (k:=2) rfl Xb X6 rfl) | exact (.lds (vs:=[_,_,_,_]) (.of rfl) hS (k:=2) rfl Xb X6 rfl (fun _ _ h=>h)))) rfl ?_
 refine WL.gval rfl rfl (fun hg1=>(by first | exact (.ldsW (cs:=[_,_,_,_]) (.of rfl) hS (k:=0) rfl Xb X6 rfl) | exact (.lds (vs:=[_,_,_,_]) (.of rfl) hS (k:=0) rfl Xb X6 rfl (fun _ _ h=>h)) | exact (.ldsW (cs:=[_,_,_,_]) (.of rfl) hS (k:=1) rfl Xb X6 rfl) | exact (.lds (vs:=[_,_,_,_]) (.of rfl) hS (k:=1) rfl Xb X6 rfl (fun _ _ h=>h)) | exact (.ldsW (cs:=[_,_,_,_]) (.of rfl) hS (k:=2) rfl Xb X6 rfl) | exact (.lds (vs:=[_,_,_,_]) (.of rfl) hS (k:=2) rfl Xb X6 rfl (fun _ _ h=>h)))) rfl ?_
 refine .gval rfl rfl (fun hg1=>Ex.eqNt (r:=(X3c t s).1) (s:=(X3c t s).1) (.gd hg1 rfl) (.gd hg1 rfl)) rfl (.val (.pand (.of rfl) (.of rfl) (.of rfl)) rfl (.q 1 rfl (.gval rfl rfl (fun hg1=>(.move (.of rfl))) rfl (.gval rfl rfl (fun hg1=>(.move (.of rfl))) rfl (.gval rfl rfl (fun hg1=>(.eql (.gd hg1 rfl) (.gd hg1 rfl))) rfl (.val (.pand (.of rfl) (.of rfl) (.of rfl)) rfl (.q 1 rfl (.gval rfl rfl (fun hg1=>(.move (.of rfl))) rfl (.gval rfl rfl (fun hg1=>(.move (.of rfl))) rfl (.gval rfl rfl (fun hg1=>(.eqs (.gd hg1 rfl) (.gd hg1 rfl))) rfl (.val (.pand (.of rfl) (.of rfl) (.of rfl)) rfl (.q 1 rfl (.gval rfl rfl (fun hg1=>(.move (.of rfl))) rfl (.gval rfl rfl (fun hg1=>(.move (.of rfl))) rfl (.gval rfl rfl (fun hg1=>(.eqb (.gd hg1 rfl) (.gd hg1 rfl) Qu4)) rfl (.val (.pand (.of rfl) (.of rfl) (.of rfl)) rfl (.q 1 rfl (.nil (.ret (Xl Tryz.results4 rfl ?_))))))))))))))))))))
 exact ⟨_,rfl,by simp,I,Le.refl _,(((hS.drop (k:=0) rfl).drop (k:=0) rfl).drop (k:=0) rfl)⟩
end Go.Proofs.YtbciobiiejpdgaaGreatDoor
