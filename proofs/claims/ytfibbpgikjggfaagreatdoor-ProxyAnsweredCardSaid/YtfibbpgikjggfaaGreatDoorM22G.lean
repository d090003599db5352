/- Part 7 of what the proof stands on: GkX, W22a, W22b, W22c, W20e, W20i, W20d, W20g, W20l, GkQ, W22d, GkK, Kn2, Op20, Op22, Uid. -/
import Derived.Test.YtfibbpgikjggfaaGreatDoorM22F
import Derived.Defers
import Derived.KernelRfl
import Derived.Lib.LaidTab
import Derived.Lib.LaidU8
import Derived.Lay
import Derived.Shelf.Vars
import Derived.HandedShaped
import Derived.MakeChecks
import Derived.Test.YtfibbpgikjggfaaGreatDoorRows
import Derived.OpenShut
set_option linter.unusedVariables false
set_option linter.unusedSimpArgs false
namespace Gk
open Go
section
variable {P:Program} {n:Nat} {K:X3m} {L:Env} {w:World} {ops:Array Oper} {rest:List Oper}
theorem WL.later {x:Operand} {f:Fn} {cap:List Value} {ty:TypeId} {pos:String} {af:Array Edge} (hx:Ev n L x (.func f #[] cap.toArray)) (h0:dl L=[]) (h:WL P n ops K rest ((DK,.func f #[] cap.toArray)::L) w):WL P n ops K (⟨none,.defer ⟨.value x,#[],#[]⟩,ty,pos,af,none⟩::rest) L w:=by
 intro a ha
 refine wpList_plain rfl fun K' hK=>?_
 unfold Oper.wp
 have he:(execOp a.eval (⟨none,.defer ⟨.value x,#[],#[]⟩,ty,pos,af,none⟩:Oper)).run P w=.ok (.defer { target:=.fn f cap.toArray,args:=#[] }) w:=by
  simp [execOp,resolve,hx a ha,Deferred.ofValue]
 rw [he]
 refine hK _ _ (h _ ⟨ha.size,ha.small,?_,fun t v hv=>?_⟩)
 ·have:=ha.defers
  rw [h0] at this
  simp [Act.put,this,dl,look0]
 ·obtain ⟨h1,h2⟩:=X98 hv
  rw [look0,Xrf (Ne.symm h1)] at h2
  exact ha.get t v (Xl9 h1 h2)
theorem callsD {f:FuncId} {fn:Func} {c:Code} {args:List Value} {u:FrameMode} {R:Ending→World→Prop} (hf:P.funcs[f]?=some fn) (hb:fn.body=some c) (hn:fn.ntmps=n) (hle:(Nat.ble args.length n && Nat.ble n DK)=true)
  (h:WC P n c (X4s P n fn R) (Xcn 0 args) w):CallsD P f args.toArray u w fun e u' w'=>u'=u∧R e w':=by
 refine callsD_of_wp hf hb (wp_mono (h _ (X5i hn hle)) ?_)
 rintro e a' w' ⟨L',h1,h2⟩
 cases e with
 | normal=>exact ⟨h1.defers.trans h2.1,h2.2 a' h1⟩
 | ret=>exact ⟨h1.defers.trans h2.1,h2.2 a' h1⟩
 | _=>exact h2.elim
def Xb5 (P:Program) (n:Nat) (fn:Func) (R:Ending→World→Prop):X3m
 | .normal,L,w | .ret,L,w=>∀ a,Holds n L a→Leaves P fn a.tmps R a.defers .returning w
 | _,_,_=>False
theorem callsF {f:FuncId} {fn:Func} {c:Code} {args:List Value} {R:Ending→World→Prop} (hf:P.funcs[f]?=some fn) (hb:fn.body=some c) (hn:fn.ntmps=n) (hle:(Nat.ble args.length n && Nat.ble n DK)=true)
  (h:WC P n c (Xb5 P n fn R) (Xcn 0 args) w):Calls P f args.toArray w R:=by
 refine calls_of_wp_defers hf hb (wp_mono (h _ (X5i hn hle)) ?_)
 rintro e a' w' ⟨L',h1,h2⟩
 cases e with
 | normal=>exact h2 a' h1
 | ret=>exact h2 a' h1
 | _=>exact h2.elim
theorem retF {fn:Func} {R:Ending→World→Prop} (h:X4s P n fn R .ret L w):Xb5 P n fn R .ret L w:=fun a ha=>by
 rw [ha.defers,h.1]
 exact h.2 a ha
theorem retD {fn gn:Func} {R:Ending→World→Prop} {g:FuncId} {cap:List Value} {Q:World→Prop} (hg:P.funcs[g]?=some gn) (hc:Xo gn=true) (hd:dl L=[{ target:=.fn (.func g) cap.toArray,args:=#[] }])
  (hcall:∀ u,CallsD P g cap.toArray u w fun e u' w'=>u'=u∧∃ v,e=.returned v∧Q w') (h:∀ w',Q w'→∀ a,Holds n L a→∃ v,(results fn a.tmps).run P w'=.ok v w'∧R (.returned v) w'):Xb5 P n fn R .ret L w:=fun a ha=>by
 rw [ha.defers,hd]
 unfold Xo at hc
 simp only [Ym] at hc
 obtain ⟨h1,h2⟩:=hc
 have h1' : ¬ gn.name = "runtime.NumGoroutine" := by simpa using h1
 have h2':¬ gn.body=none:=by intro e; rw [e] at h2; cases h2
 refine leaves_cons (by simp) (f:=g) (args:=cap.toArray) (by simp [invoke,callFunc,program,Sem.run,hg,h1',h2']) ((hcall .returning).mono ?_)
 rintro e u' w' ⟨rfl,v,rfl,hQ⟩
 exact h w' hQ a ha
theorem Xd9 {fn:Func} {B:World} {I:Im} {As:List Xe} {t u b c s k j:Nat} {ty ty2 E E2:TypeId} {cs:List Value} {x:Value} (h:fn.results=#[.cell t ty,.cell u ty2]) (hS:Sat B w I As) (hk:As[k]?=some (blk b cs E)) (hj:As[j]?=some (blk c [x] E2)) (ht:∀ w,(isAgg ty).run P w=.ok true w) (hs:∀ w,(Go.sizeOf ty).run P w=.ok s w) (ht2:∀ w,(isAgg ty2).run P w=.ok false w)
  (hl:cs.length=s) (hv:look L t=some (ptr b 0)) (hx:look L u=some (ptr c 0)):∀ a,Holds n L a→(results fn a.tmps).run P w=.ok (.tuple #[.agg cs.toArray,x]) w:=fun a ha=>by
 have hb:=hS.block hk
 have hc:=hS.block hj
 have hld:=run_loadCells_list (P:=P) w (ad b 0) cs (fun j v hj=>by rw [X13]; exact Xy hb (by simpa using hj))
 have hl2:w.cell? (ad c 0)=some x:=Xy hc (by simp)
 rw [hl] at hld
 have h1:=ha.get t _ hv
 have h2:=ha.get u _ hx
 simp only [Y13] at h1 h2
 simp [results,h,h1,h2,loadVar,ht,hs,ht2,asAddr,hld,load,Sem.run,hl2]
theorem Xr0 {fn:Func} {R:Ending→World→Prop} {v:Value} (hd:dl L=[]) (h:∀ a,Holds n L a→(results fn a.tmps).run P w=.ok v w) (hR:R (.returned v) w):Xb5 P n fn R .ret L w :=
 retF ⟨hd,fun a ha=>⟨v,h a ha,hR⟩⟩
end
end Gk
namespace Go.Proofs.YtfibbpgikjggfaaGreatDoor
open Gk Ul Pc Tk Tr
theorem X4z:Bld Tryz.prog 48 [(0,1),(1,1),(2,1)] [S [],S [],S []]:=X30 Xc3 Qz48 (fun w=>by simp [go_sem])
structure Cl where
 url:List UInt8
 pgt:List UInt8
 iou:List UInt8
deriving DecidableEq
def X10 (k:Cl):List Value:=[S k.url,S k.pgt,S k.iou]
def c0:Cl:=⟨[],[],[]⟩
def Xn1 (lo:List Sv) (ω:Wd) (t:List UInt8):Sv×List UInt8×Nat:=X1e lo (getD ω.l t).service
def Xhe (lo:List Sv) (ω:Wd) (t cb:List UInt8):List UInt8×Bool:=X5n lo (Xn1 lo ω t).1.id cb
def noP (ω:Wd) (t:List UInt8):Bool:=((getD ω.l t).kind != 2 && (getD ω.l t).kind != 3) || (getD ω.l t).uses == 0
def noQ (lo:List Sv) (ω:Wd) (t cb:List UInt8):Bool:=((((Xn1 lo ω t).2.2:Nat):Int) != 0 || !(Xn1 lo ω t).1.proxy) || !(Xhe lo ω t cb).2
def X2i (lo:List Sv) (ω:Wd) (t cb:List UInt8):Rec:=⟨4,[],t,(getD ω.l t).user,(getD ω.l t).service,(Xhe lo ω t cb).1,0,0,0,false⟩
def X9s (pgt:List UInt8):Rec:=⟨5,[],pgt,[],[],[],0,0,0,false⟩
def Xc (lo:List Sv) (ω:Wd) (t cb:List UInt8):(Cl×Nat)×Wd :=
 if noP ω t=true then ((c0,30),ω)
 else if noQ lo ω t cb=true then ((c0,34),ω)
 else if (mkW ω (X2i lo ω t cb)).1.2≠0 then ((c0,(mkW ω (X2i lo ω t cb)).1.2),(mkW ω (X2i lo ω t cb)).2)
 else if (mkW (mkW ω (X2i lo ω t cb)).2 (X9s (mkW ω (X2i lo ω t cb)).1.1)).1.2≠0 then ((c0,(mkW (mkW ω (X2i lo ω t cb)).2 (X9s (mkW ω (X2i lo ω t cb)).1.1)).1.2),X7t (mkW (mkW ω (X2i lo ω t cb)).2 (X9s (mkW ω (X2i lo ω t cb)).1.1)).2 (mkW ω (X2i lo ω t cb)).1.1)
 else ((⟨(Xhe lo ω t cb).1,(mkW ω (X2i lo ω t cb)).1.1,(mkW (mkW ω (X2i lo ω t cb)).2 (X9s (mkW ω (X2i lo ω t cb)).1.1)).1.1⟩,0),(mkW (mkW ω (X2i lo ω t cb)).2 (X9s (mkW ω (X2i lo ω t cb)).1.1)).2)
theorem X15 {lo:List Sv} {ω:Wd} (h:X39 ω) (t cb:List UInt8):X39 (Xc lo ω t cb).2:=by
 unfold Xc
 split
 ·exact h
 ·split
  ·exact h
  ·split
   ·exact X2q h _
   ·split
    ·exact Xfu (X2q (X2q h _) _) _
    ·exact X2q (X2q h _) _
def Xg (ω:Wd) (iou:List UInt8) (n:Int):(List UInt8×Nat)×Wd :=
 if ((getD ω.l iou).kind != 5)=true then (([],30),ω)
 else if (n != 200)=true then (([],34),X7t ω (getD ω.l iou).parent)
 else ((iou,0),X7t ω iou)
theorem X1z {ω:Wd} (h:X39 ω) (iou:List UInt8) (n:Int):X39 (Xg ω iou n).2:=by
 unfold Xg
 split
 ·exact h
 ·split <;> exact Xfu h _
def X6h (r:Rec):Bool:=r.kind == 5
def Xe4 (l:List Rec):List (List UInt8):=(l.filter X6h).map Rec.name
def Xfl (l:List Rec) (pgt:List UInt8):Bool:=(X2r l pgt).any fun k=>(getD l k).kind == 5
def X3f (lo:List Sv) (ps:Nat→Int) (ω:Wd) (pgt target:List UInt8):Rec:=⟨3,[],pgt,(X17 ps ω pgt 4).1.user,(X1e lo target).2.1,[],0,0,0,false⟩
def Xi (lo:List Sv) (ps:Nat→Int) (ω:Wd) (pgt target:List UInt8):((List UInt8×List UInt8)×Nat)×Wd :=
 if (pgt == [] || target == [])=true then ((([],[]),33),ω)
 else if (!(X17 ps ω pgt 4).2 || Xfl ω.l pgt)=true then ((([],[]),30),ω)
 else if ((((X1e lo target).2.2:Nat):Int) != 0)=true then ((([],[]),36),ω)
 else if (mkW ω (X3f lo ps ω pgt target)).1.2≠0 then ((([],[]),(mkW ω (X3f lo ps ω pgt target)).1.2),(mkW ω (X3f lo ps ω pgt target)).2)
 else ((((mkW ω (X3f lo ps ω pgt target)).1.1,(X1e lo target).2.1),0),putW (mkW ω (X3f lo ps ω pgt target)).2 (X46 (X17 ps ω pgt 4).1 (mkW ω (X3f lo ps ω pgt target)).2.now))
theorem X1c {lo:List Sv} {ps:Nat→Int} {ω:Wd} (h:X39 ω) (pgt target:List UInt8):X39 (Xi lo ps ω pgt target).2:=by
 unfold Xi
 split
 ·exact h
 ·split
  ·exact h
  ·split
   ·exact h
   ·split
    ·exact X2q h _
    ·exact Xlt (X2q h _) _
theorem X8x {ω:Wd} {r:Rec}:(mkW ω r).1.1.length≤23:=by
 unfold mkW
 have h:=Xd6 (pr:=fun s=>(get ω.l s).isSome) (kind:=r.kind) (D:=ω.D)
 split
 ·exact Ys _
 ·(try dsimp only)
  split
  ·exact Ys _
  ·exact h
theorem Xdz {l:List Rec} (hw:Wf l) (name:List UInt8):(getD l name).service.length≤100:=by
 rcases X35 hw name with ⟨_,e⟩ | ⟨_,h2,_⟩
 ·rw [e]; decide
 ·unfold X14 at h2
  simp only [Ym,decide_eq_true_eq] at h2
  show (getD l name).service.length≤100
  omega
theorem Xr6 (id:Int) (s:List UInt8) (hs:s.length≤1000000) (p:Wp) (B w:World) (I:Im) (hI:WpOk I p) (As:List Xe) (hS:Sat B w I As) :
  Calls Tryz.prog 51 [.pointer (some p.pr),I64 id,S s].toArray w (Ret fun v w'=>v=.tuple #[S (X5n p.lo id s).1,.bool (X5n p.lo id s).2]∧Sat B w' I As):=by
 obtain ⟨a,c,E,h1,h2,h3⟩:=hI.reg
 exact Xdv p.pr p.lo hI.lo hI.rel id s hs a c E B w I hI.known h1 h3 As hS
theorem X70 (iou:List UInt8) (n:Int) (p:Wp) (ω:Wd) (hω:X39 ω) (B w:World) (I:Im) (hI:WpOk I p) (As:List Xe) (hS:Sat B w I (wdA p ω::As)) :
  Calls Tryz.prog 23 [ptr p.wb 0,S iou,I64 n].toArray w (Ret fun v w'=>v=.tuple #[S (Xg ω iou n).1.1,I64 ((Xg ω iou n).1.2:Nat)]∧Sat B w' I (wdA p (Xg ω iou n).2::As)):=by
 refine calls Qf23 rfl Tryz.ntmps23 rfl (.seq (.q 2 rfl (.seq ?_)))
 obtain ⟨⟨a,c,ma,mc⟩,hS⟩:=Sat.unbox hS
 replace hS:Sat B _ _ (blk p.wb (wdC p ω) 44::blk p.tb [I64 ω.room,.slice a ω.l.length c] 114::Vec 54 10 (.slice a ω.l.length c) ω.l.length (Xh ω.l)::blk p.mb [.slice ma ω.D.length mc] 111::X2l 104 (.slice ma ω.D.length mc) (ω.D.map fun d=>U64 (d:Nat))::_):=hS
 have hlen:=hω.len
 have hwf:=hω.wf
 refine .t 2 rfl ?_
 refine WL.val (.fieldAddr 0 (.of rfl) X3b rfl rfl X6w rfl) rfl ?_
 refine WL.val (.ld (.of rfl) hS (k:=0) rfl X64 rfl) rfl ?_
 refine .q 1 rfl (.call Xe0 rfl (X0 (.of rfl) (X0 (.of rfl) X4)) rfl (X1y p.tb ω.room a c ω.l (by omega) iou B _ I _ ((hS.pick 2 rfl).pick 2 rfl)) ?_)
 clear hS
 rintro _ w ⟨rfl,hS⟩
 try dsimp only [List.eraseIdx] at hS
 refine .q 3 rfl (.allocA (cs:=[_,_,_,_,_,_,_,_,_,_]) hS X6j rfl ?_)
 clear hS; intro b8 w hS
 refine WL.stA hS (k:=0) rfl (.of rfl) (.of rfl) rfl X1k rfl (by simp) ?_
 clear hS; intro w hS; try dsimp only [List.set] at hS
 try simp only [Yj,Ye,Y9,Y7,Yi,Yo,Yf] at hS
 refine .q 1 rfl (.nil (.seq (.block (.seq (.region ?_)))))
 refine WL.val (.fieldAddr 0 (.of rfl) X18 rfl rfl Qs3 rfl) rfl ?_
 refine WL.val (.ld (.of rfl) hS (k:=0) rfl Qg3 rfl) rfl ?_
 refine .q 2 rfl (.nil ?_)
 refine WC.cond rfl (fun hb19=>?_) (fun hb19=>?_)
 ·
  have hc19:=hb19; try simp only [Y6] at hc19
  refine .seq (.q 2 rfl (.ret (X2u Tryz.results23 rfl rfl ?_)))
  have hE:Xg ω iou n=(([],30),ω):=by rw [Xg,if_pos hb19]
  rw [hE]
  exact ⟨_,rfl,rfl,Sat.box (T:=wdT p ω) (a,c,ma,mc) ((((((hS.drop (k:=0) rfl).pick 4 rfl).pick 4 rfl).pick 3 rfl).pick 3 rfl).pick 4 rfl)⟩
 have hc19:=hb19; try simp only [Y6] at hc19
 refine .seq (.q 3 rfl ?_)
 refine WC.cond rfl (fun hb23=>?_) (fun hb23=>?_)
 ·
  have hc23:=hb23; try simp only [Y6] at hc23
  refine .seq (.drawn (fun w=>∃ R,Sat B w I (blk b8 (X8 (getD ω.l iou)) 54::blk p.wb (wdC p ω) 44::R)) (fun j=>!([].contains j)) (by kernel_rfl) ?_)
  replace hS:=hS.drew; generalize w.drew=w at hS ⊢
  have hH:∃ R,Sat B w I (blk b8 (X8 (getD ω.l iou)) 54::blk p.wb (wdC p ω) 44::R):=⟨_,((hS.pick 3 rfl).pick 1 rfl)⟩
  refine .tp (i:=0) rfl (by kernel_rfl) (fun w=>(.move (.of rfl))) rfl (.tp (i:=1) rfl (by kernel_rfl) (fun w=>(.nilCheck (.of rfl))) rfl ?_)
  refine WD.tp (i:=2) rfl (by kernel_rfl) (fun w=>(.fieldAddr 0 (.of rfl) X3b rfl rfl X6w rfl)) rfl ?_
  refine WD.tk (i:=3) rfl (by kernel_rfl) hH (fun w ⟨R,hS⟩=>((.ld (.of rfl) hS (k:=1) rfl X64 rfl))) rfl ?_
  refine WD.tp (i:=4) rfl (by kernel_rfl) (fun w=>(.fieldAddr 2 (.of rfl) X18 rfl rfl Qs9 rfl)) rfl ?_
  refine WD.tk (i:=5) rfl (by kernel_rfl) hH (fun w ⟨R,hS⟩=>((.ld (.of rfl) hS (k:=0) rfl Qg9 rfl))) rfl ?_
  refine WD.branch [6] (by kernel_rfl) rfl (WO.cons rfl ?_ (WO.nil))
  refine WL.call Qf33 rfl (X0 (.of rfl) (X0 (.of rfl) X4)) rfl (Xbc p.tb ω.room a c ω.l (by have:=hlen; omega) hwf (getD ω.l iou).parent B _ I _ ((hS.pick 2 rfl).pick 2 rfl)) ?_
  clear hS
  rintro _ w ⟨J,ga,gc,rfl,hJ,hgc,hRS,a9,c9,hS⟩
  try dsimp only [List.eraseIdx] at hS
  replace hS:=hS.weaken hJ
  refine .nil ?_
  clear hH
  have hH:∃ R,Sat B w I (blk b8 (X8 (getD ω.l iou)) 54::blk p.wb (wdC p ω) 44::R):=⟨_,((hS.pick 3 rfl).pick 3 rfl)⟩
  refine And.intro (by intro _ _; exact hH) ?_
  refine .done (by kernel_rfl) (.seq (.q 2 rfl (.ret (X2u Tryz.results23 rfl rfl ?_))))
  have hE:Xg ω iou n=(([],34),X7t ω (getD ω.l iou).parent):=by rw [Xg,if_neg (by rw [hb19]; decide),if_pos hb23]
  rw [hE]
  exact ⟨_,rfl,rfl,Sat.box (T:=wdT p (X7t ω (getD ω.l iou).parent)) (a9,c9,ma,mc) ((((((hS.drop (k:=2) rfl).pick 4 rfl).pick 4 rfl).pick 3 rfl).pick 3 rfl).pick 4 rfl)⟩
 have hc23:=hb23; try simp only [Y6] at hc23
 refine .skip (.seq (.t 2 rfl ?_))
 refine WL.val (.fieldAddr 0 (.of rfl) X3b rfl rfl X6w rfl) rfl ?_
 refine WL.val (.ld (.of rfl) hS (k:=3) rfl X64 rfl) rfl ?_
 refine .q 1 rfl ?_
 refine WL.call Qf33 rfl (X0 (.of rfl) (X0 (.of rfl) X4)) rfl (Xbc p.tb ω.room a c ω.l (by have:=hlen; omega) hwf iou B _ I _ ((hS.pick 2 rfl).pick 2 rfl)) ?_
 clear hS
 rintro _ w ⟨J,ga,gc,rfl,hJ,hgc,hRS,a9,c9,hS⟩
 try dsimp only [List.eraseIdx] at hS
 replace hS:=hS.weaken hJ
 refine .nil (.seq (.q 3 rfl (.ret (X2u Tryz.results23 rfl rfl ?_))))
 have hE:Xg ω iou n=((iou,0),X7t ω iou):=by rw [Xg,if_neg (by rw [hb19]; decide),if_neg (by rw [hb23]; decide)]
 rw [hE]
 exact ⟨_,rfl,rfl,Sat.box (T:=wdT p (X7t ω iou)) (a9,c9,ma,mc) ((((((hS.drop (k:=2) rfl).pick 4 rfl).pick 4 rfl).pick 3 rfl).pick 3 rfl).pick 4 rfl)⟩
theorem Xah (bad:Int) (pgt:List UInt8) (b7 b3 b15:Nat) (u:FrameMode) (p:Wp) (ω:Wd) (hω:X39 ω) (B w:World) (I:Im) (As:List Xe) (hS:Sat B w I (blk b7 [I64 bad] 49::blk b3 [ptr p.wb 0] 37::blk b15 [S pgt] 9::wdA p ω::As)) :
  CallsD Tryz.prog 53 [ptr b7 0,ptr b3 0,ptr b15 0].toArray u w (fun e u' w'=>u'=u∧Ret (fun v w'=>Sat B w' I (blk b7 [I64 bad] 49::blk b3 [ptr p.wb 0] 37::blk b15 [S pgt] 9::wdA p (if bad=0 then ω else X7t ω pgt)::As)) e w'):=by
 refine callsD Tryz.func53 rfl Tryz.ntmps53 rfl (.seq (.region ?_))
 refine WL.val (.ld (.of rfl) hS (k:=0) rfl Qg49 rfl) rfl ?_
 refine .q 1 rfl (.nil ?_)
 refine WC.cond rfl (fun hb4=>?_) (fun hb4=>?_)
 ·
  have hc4:=hb4; try simp only [Y6] at hc4
  replace hS:=(hS.pick 3 rfl)
  try dsimp only [List.eraseIdx] at hS
  obtain ⟨⟨a,c,ma,mc⟩,hS⟩:=Sat.unbox hS
  replace hS:Sat B _ _ (blk p.wb (wdC p ω) 44::blk p.tb [I64 ω.room,.slice a ω.l.length c] 114::Vec 54 10 (.slice a ω.l.length c) ω.l.length (Xh ω.l)::blk p.mb [.slice ma ω.D.length mc] 111::X2l 104 (.slice ma ω.D.length mc) (ω.D.map fun d=>U64 (d:Nat))::_):=hS
  have hlen:=hω.len
  have hwf:=hω.wf
  refine .drawn (fun w=>∃ R,Sat B w I (blk b3 [ptr p.wb 0] 37::blk b15 [S pgt] 9::blk p.wb (wdC p ω) 44::R)) (fun j=>!([].contains j)) (by kernel_rfl) ?_
  replace hS:=hS.drew; generalize w.drew=w at hS ⊢
  have hH:∃ R,Sat B w I (blk b3 [ptr p.wb 0] 37::blk b15 [S pgt] 9::blk p.wb (wdC p ω) 44::R):=⟨_,(((hS.pick 0 rfl).pick 7 rfl).pick 7 rfl)⟩
  refine WD.tk (i:=0) rfl (by kernel_rfl) hH (fun w ⟨R,hS⟩=>((.ld (.of rfl) hS (k:=0) rfl Xjg rfl))) rfl ?_
  refine .tp (i:=1) rfl (by kernel_rfl) (fun w=>(.nilCheck (.of rfl))) rfl ?_
  refine WD.tp (i:=2) rfl (by kernel_rfl) (fun w=>(.fieldAddr 0 (.of rfl) X3b rfl rfl X6w rfl)) rfl ?_
  refine WD.tk (i:=3) rfl (by kernel_rfl) hH (fun w ⟨R,hS⟩=>((.ld (.of rfl) hS (k:=2) rfl X64 rfl))) rfl ?_
  refine WD.tk (i:=4) rfl (by kernel_rfl) hH (fun w ⟨R,hS⟩=>((.ld (.of rfl) hS (k:=1) rfl Qg9 rfl))) rfl ?_
  refine WD.branch [5] (by kernel_rfl) rfl (WO.cons rfl ?_ (WO.nil))
  refine WL.call Qf33 rfl (X0 (.of rfl) (X0 (.of rfl) X4)) rfl (Xbc p.tb ω.room a c ω.l (by have:=hlen; omega) hwf pgt B _ I _ ((hS.pick 2 rfl).pick 2 rfl)) ?_
  clear hS
  rintro _ w ⟨J,ga,gc,rfl,hJ,hgc,hRS,a9,c9,hS⟩
  try dsimp only [List.eraseIdx] at hS
  replace hS:=hS.weaken hJ
  refine .nil ?_
  clear hH
  have hH:∃ R,Sat B w I (blk b3 [ptr p.wb 0] 37::blk b15 [S pgt] 9::blk p.wb (wdC p ω) 44::R):=⟨_,(((hS.pick 2 rfl).pick 7 rfl).pick 7 rfl)⟩
  refine And.intro (by intro _ _; exact hH) ?_
  refine .done (by kernel_rfl) (X7x Tryz.results53 ?_)
  replace hS:=Sat.box (T:=wdT p (X7t ω pgt)) (a9,c9,ma,mc) (((((hS.pick 4 rfl).pick 4 rfl).pick 3 rfl).pick 3 rfl).pick 4 rfl)
  try dsimp only [List.eraseIdx] at hS
  refine ⟨_,rfl,?_⟩
  rw [if_neg (by simpa using hb4)]
  exact (((hS.pick 3 rfl).pick 3 rfl).pick 3 rfl)
 have hc4:=hb4; try simp only [Y6] at hc4
 refine .skip (X7x Tryz.results53 ?_)
 refine ⟨_,rfl,?_⟩
 rw [if_pos (by simpa using hb4)]
 exact hS
theorem Xcj (pgt:List UInt8) (p:Wp) (ω:Wd) (hω:X39 ω) (B w:World) (I:Im) (As:List Xe) (hS:Sat B w I (wdA p ω::As)) :
  Calls Tryz.prog 63 [ptr p.wb 0,S pgt].toArray w (Ret fun v w'=>v=.bool (Xfl ω.l pgt)∧Sat B w' I (wdA p ω::As)):=by
 refine calls Tryz.func63 rfl Tryz.ntmps63 rfl (.seq (.q 1 rfl (.seq (.seq ?_))))
 obtain ⟨⟨a,c,ma,mc⟩,hS⟩:=Sat.unbox hS
 replace hS:Sat B _ _ (blk p.wb (wdC p ω) 44::blk p.tb [I64 ω.room,.slice a ω.l.length c] 114::Vec 54 10 (.slice a ω.l.length c) ω.l.length (Xh ω.l)::blk p.mb [.slice ma ω.D.length mc] 111::X2l 104 (.slice ma ω.D.length mc) (ω.D.map fun d=>U64 (d:Nat))::_):=hS
 have hlen:=hω.len
 have hwf:=hω.wf
 refine .t 2 rfl ?_
 refine WL.val (.fieldAddr 0 (.of rfl) X3b rfl rfl X6w rfl) rfl ?_
 refine WL.val (.ld (.of rfl) hS (k:=0) rfl X64 rfl) rfl ?_
 refine .q 1 rfl (.call Tryz.func124 rfl (X0 (.of rfl) (X0 (.of rfl) X4)) rfl (Xg9 p.tb ω.room a c ω.l (by omega) pgt B _ I _ ((hS.pick 2 rfl).pick 2 rfl)) ?_)
 clear hS
 rintro _ w ⟨J,ka,kc,rfl,hJ,hkc,hRS,hS⟩
 try dsimp only [List.eraseIdx] at hS
 have hkl:=Xe3 ω.l pgt
 refine .run 2 rfl ⟨⟨_,X1s⟩,trivial⟩ (.nil (.block ?_))
 replace hS:=(((((hS.pick 4 rfl).pick 4 rfl).pick 3 rfl).pick 3 rfl).pick 4 rfl)
 refine .loop (σ:=Nat) (fun i=>[(0,ptr p.wb 0),(1,S pgt),(4,.bool false),(14,.slice ka (X2r ω.l pgt).length kc),(15,I64 ((X2r ω.l pgt).length:Nat)),(16,I64 (i:Nat))]) (fun i w=>i≤(X2r ω.l pgt).length∧((X2r ω.l pgt).take i).any (fun k=>(getD ω.l k).kind == 5)=false∧Sat B w J (blk p.wb (wdC p ω) 44::blk p.tb [I64 ω.room,.slice a ω.l.length c] 114::Vec 54 10 (.slice a ω.l.length c) ω.l.length (Xh ω.l)::blk p.mb [.slice ma ω.D.length mc] 111::X2l 104 (.slice ma ω.D.length mc) (ω.D.map fun d=>U64 (d:Nat))::As)) (fun i=>(X2r ω.l pgt).length - i) 0 ⟨rfl,rfl,rfl,rfl,rfl,rfl,trivial⟩ ⟨Ys _,rfl,hS⟩ ?_
 rintro i w ⟨hi,hno,hS⟩
 change WC _ _ _ _ [(0,ptr p.wb 0),(1,S pgt),(4,.bool false),(14,.slice ka (X2r ω.l pgt).length kc),(15,I64 ((X2r ω.l pgt).length:Nat)),(16,I64 (i:Nat))] w
 refine .seq (.q 1 rfl (.seq ?_))
 refine WC.cond rfl (fun hb17=>?_) (fun hb17=>?_)
 ·
  have hc17:=hb17; try simp only [Y6] at hc17
  refine .skip (.seq (.block (.seq ?_)))
  obtain ⟨k,hkk⟩:∃ k,(X2r ω.l pgt)[i]?=some k:=⟨_,Y4 (by omega)⟩
  obtain ⟨pp,rfl,hA⟩:=hRS.2 (by omega)
  have hnm:((X2r ω.l pgt).map S)[i]?=some (S k):=by rw [Yz,hkk]; rfl
  refine .region ?_
  refine WL.val (.indexAddrI (.of rfl) (.of rfl) (by omega) (by omega) X1s Qs9) rfl ?_
  refine WL.val (.ld1 (.of rfl) (by have h9:=X2z hS hA hnm; simpa using h9) Qg9) rfl ?_
  refine .q 1 rfl (.nil (.seq (.t 2 rfl ?_)))
  refine WL.val (.fieldAddr 0 (.of rfl) X3b rfl rfl X6w rfl) rfl ?_
  refine WL.val (.ld (.of rfl) hS (k:=0) rfl X64 rfl) rfl ?_
  refine .q 1 rfl (.call Xe0 rfl (X0 (.of rfl) (X0 (.of rfl) X4)) rfl (X1y p.tb ω.room a c ω.l (by omega) k B _ J _ ((hS.pick 2 rfl).pick 2 rfl)) ?_)
  clear hS
  rintro _ w ⟨rfl,hS⟩
  try dsimp only [List.eraseIdx] at hS
  refine .q 3 rfl (.allocA (cs:=[_,_,_,_,_,_,_,_,_,_]) hS X6j rfl ?_)
  clear hS; intro b7 w hS
  refine WL.stA hS (k:=0) rfl (.of rfl) (.of rfl) rfl X1k rfl (by simp) ?_
  clear hS; intro w hS; try dsimp only [List.set] at hS
  try simp only [Yj,Ye,Y9,Y7,Yi,Yo,Yf] at hS
  refine .q 1 rfl (.nil (.seq (.region ?_)))
  refine WL.val (.fieldAddr 0 (.of rfl) X18 rfl rfl Qs3 rfl) rfl ?_
  refine WL.val (.ld (.of rfl) hS (k:=0) rfl Qg3 rfl) rfl ?_
  refine .q 1 rfl (.nil ?_)
  refine WC.cond rfl (fun hb31=>?_) (fun hb31=>?_)
  ·
   have hc31:=hb31; try simp only [Y6] at hc31
   refine .seq (.q 1 rfl (.ret (Xk Tryz.results63 rfl ?_)))
   have hE:Xfl ω.l pgt=true:=Y33.2 ⟨k,Yn hkk,hb31⟩
   rw [hE]
   exact ⟨_,rfl,rfl,Sat.box (T:=wdT p ω) (a,c,ma,mc) (Sat.weaken ((((((hS.pick 5 rfl).pick 5 rfl).pick 4 rfl).pick 4 rfl).pick 5 rfl).drop (k:=5) rfl) hJ)⟩
  have hc31:=hb31; try simp only [Y6] at hc31
  refine .skip (.region (.run 2 rfl ⟨⟨by omega,by omega⟩,trivial⟩ (.nil ?_)))
  refine ⟨i+1,⟨rfl,rfl,rfl,rfl,rfl,rfl,trivial⟩,⟨by (try dsimp only); omega,?_,((((((hS.pick 5 rfl).pick 5 rfl).pick 4 rfl).pick 4 rfl).pick 5 rfl).drop (k:=5) rfl)⟩,by (try dsimp only); omega⟩
  rw [Y17,hkk,Y1y,List.any_append,hno,Y5h,List.any_nil,show ((getD ω.l k).kind == 5)=false from hb31]; rfl
 have hc17:=hb17; try simp only [Y6] at hc17
 refine .exit (.seq (.q 1 rfl (.ret (Xk Tryz.results63 rfl ?_))))
 have hin:i=(X2r ω.l pgt).length:=by omega
 rw [hin,Y1c] at hno
 rw [show Xfl ω.l pgt=false from hno]
 exact ⟨_,rfl,rfl,Sat.box (T:=wdT p ω) (a,c,ma,mc) (hS.weaken hJ)⟩
theorem Xfp (p:Wp) (ω:Wd) (hω:X39 ω) (B w:World) (I:Im) (As:List Xe) (hS:Sat B w I (wdA p ω::As)) :
  Calls Tryz.prog 21 [ptr p.wb 0].toArray w (Ret fun v w'=>∃ J ka kc,v=.slice ka (Xe4 ω.l).length kc∧Le I J∧(Xe4 ω.l).length≤kc∧RS J ka 1 (Xe4 ω.l).length ((Xe4 ω.l).map S)∧Sat B w' J (wdA p ω::As)):=by
 refine calls Tryz.func21 rfl Tryz.ntmps21 rfl (.seq (.q 1 rfl (.seq (.q 1 rfl (.seq (.seq ?_))))))
 obtain ⟨⟨a,c,ma,mc⟩,hS⟩:=Sat.unbox hS
 replace hS:Sat B _ _ (blk p.wb (wdC p ω) 44::blk p.tb [I64 ω.room,.slice a ω.l.length c] 114::Vec 54 10 (.slice a ω.l.length c) ω.l.length (Xh ω.l)::blk p.mb [.slice ma ω.D.length mc] 111::X2l 104 (.slice ma ω.D.length mc) (ω.D.map fun d=>U64 (d:Nat))::_):=hS
 have hlen:=hω.len
 refine .t 2 rfl ?_
 refine WL.val (.fieldAddr 0 (.of rfl) X3b rfl rfl X6w rfl) rfl ?_
 refine WL.val (.ld (.of rfl) hS (k:=0) rfl X64 rfl) rfl ?_
 refine .call Xoo rfl (X0 (.of rfl) X4) rfl (X1m p.tb ω.room a c ω.l (by omega) B _ I _ ((hS.pick 2 rfl).pick 2 rfl)) ?_
 clear hS
 rintro _ w ⟨J,wa,wc,rfl,hJ,hwc,hRw,hS⟩
 try dsimp only [List.eraseIdx] at hS
 refine .run 2 rfl ⟨⟨_,X3q⟩,trivial⟩ (.nil (.block ?_))
 replace hS:=(((((hS.pick 4 rfl).pick 4 rfl).pick 3 rfl).pick 3 rfl).pick 4 rfl).vecNil 9 1
 refine .loop (σ:=Nat×Value) (fun ⟨i,kv⟩=>[(0,ptr p.wb 0),(3,kv),(10,.slice wa ω.l.length wc),(11,I64 (ω.l.length:Nat)),(12,I64 (i:Nat))]) (fun ⟨i,kv⟩ w=>i≤ω.l.length∧Sat B w J (Vec 9 1 kv (((ω.l.take i).filter X6h).map Rec.name).length ((((ω.l.take i).filter X6h).map Rec.name).map S)::blk p.wb (wdC p ω) 44::blk p.tb [I64 ω.room,.slice a ω.l.length c] 114::Vec 54 10 (.slice a ω.l.length c) ω.l.length (Xh ω.l)::blk p.mb [.slice ma ω.D.length mc] 111::X2l 104 (.slice ma ω.D.length mc) (ω.D.map fun d=>U64 (d:Nat))::As)) (fun ⟨i,kv⟩=>ω.l.length - i) (0,.slice none 0 0) ⟨rfl,rfl,rfl,rfl,rfl,trivial⟩ ⟨Ys _,hS⟩ ?_
 rintro ⟨i,kv⟩ w ⟨hi,hS⟩
 change WC _ _ _ _ [(0,ptr p.wb 0),(3,kv),(10,.slice wa ω.l.length wc),(11,I64 (ω.l.length:Nat)),(12,I64 (i:Nat))] w
 refine .seq (.q 1 rfl (.seq ?_))
 refine WC.cond rfl (fun hb13=>?_) (fun hb13=>?_)
 ·
  have hc13:=hb13; try simp only [Y6] at hc13
  refine .skip (.seq (.block (.seq ?_)))
  obtain ⟨r,hr⟩:∃ r,ω.l[i]?=some r:=⟨_,Y4 (by omega)⟩
  obtain ⟨wp,hq9,hx⟩:=Xez (cells:=X8) (s:=10) (fun _=>rfl) hRw hr
  subst hq9
  unfold X8 at hx
  have hfl:=List.length_filter_le X6h (ω.l.take i)
  rw [Yt] at hfl
  have hol:(((ω.l.take i).filter X6h).map Rec.name).length=((ω.l.take i).filter X6h).length:=Yy _
  have hsn:((ω.l.take (i+1)).filter X6h).map Rec.name=((ω.l.take i).filter X6h).map Rec.name ++ ([r].filter X6h).map Rec.name:=by rw [Y17,hr,Y1y,Y3b,Yv]
  refine .region ?_
  refine WL.val (.indexAddrI (.of rfl) (.of rfl) (by omega) (by omega) X3q X1k) rfl ?_
  refine WL.val (.ldsI (.of rfl) hS hx X7u X1k rfl (fun _ _ h=>h)) rfl ?_
  refine .allocA (cs:=[_,_,_,_,_,_,_,_,_,_]) hS X6j rfl ?_
  clear hS; intro b5 w hS
  refine WL.stA hS (k:=0) rfl (.of rfl) (.of rfl) rfl X1k rfl (by simp) ?_
  clear hS; intro w hS; try dsimp only [List.set] at hS
  try simp only [Yj,Ye,Y9,Y7,Yi,Yo,Yf] at hS
  refine .nil (.seq (.region ?_))
  refine WL.val (.fieldAddr 0 (.of rfl) X18 rfl rfl Qs3 rfl) rfl ?_
  refine WL.val (.ld (.of rfl) hS (k:=0) rfl Qg3 rfl) rfl ?_
  refine .q 1 rfl (.nil ?_)
  refine WC.cond rfl (fun hb18=>?_) (fun hb18=>?_)
  ·
   have hc18:=hb18; try simp only [Y6] at hc18
   refine .t 1 rfl ?_
   refine WL.val (.fieldAddr 1 (.of rfl) X18 rfl rfl Qs9 rfl) rfl ?_
   refine WL.val (.ld (.of rfl) hS (k:=0) rfl Qg9 rfl) rfl ?_
   refine .buildSlice (cs:=[_]) hS (X5 (.of rfl) X6) X1s Qs9 Qz9 rfl rfl rfl rfl ?_
   clear hS; intro b22 w hS
   refine WL.append (size:=1) (bytes:=16) hS (.of rfl) (.of rfl) (k:=1) rfl X1s X1w rfl rfl rfl rfl rfl rfl rfl ⟨by omega,by unfold maxLen; omega⟩ rfl ?_
   clear hS; intro v23 w hS; try dsimp only [List.set] at hS
   obtain ⟨a23,c23,rfl,hcap23,_⟩:=hS.vecSlice (k:=1) (v:=v23) rfl
   refine .q 1 rfl (.nil (.region (.run 2 rfl ⟨⟨by omega,by omega⟩,trivial⟩ (.nil ?_))))
   refine ⟨(i+1,.slice a23 ((((ω.l.take i).filter X6h).map Rec.name).length+1) c23),⟨rfl,rfl,rfl,rfl,rfl,trivial⟩,⟨by (try dsimp only); omega,?_⟩,by (try dsimp only); omega⟩
   try dsimp only
   rw [hsn,Y3o,if_pos (by simpa [X6h] using hb18),Y5d,Y1e,Y30,Yv,show (((ω.l.take i).filter X6h).map Rec.name ++ [r.name]).length=(((ω.l.take i).filter X6h).map Rec.name).length+1 from Y0]
   exact (((((((hS.pick 6 rfl).pick 6 rfl).pick 6 rfl).pick 6 rfl).pick 6 rfl).pick 6 rfl).drop (k:=6) rfl)
  have hc18:=hb18; try simp only [Y6] at hc18
  refine .skip (.region (.run 2 rfl ⟨⟨by omega,by omega⟩,trivial⟩ (.nil ?_)))
  refine ⟨(i+1,kv),⟨rfl,rfl,rfl,rfl,rfl,trivial⟩,⟨by (try dsimp only); omega,?_⟩,by (try dsimp only); omega⟩
  try dsimp only
  rw [hsn,Y3o,if_neg (by simpa [X6h] using hb18),Y5d,Y30,Y9]
  exact (((((((hS.pick 6 rfl).pick 6 rfl).pick 6 rfl).pick 6 rfl).pick 6 rfl).pick 6 rfl).drop (k:=6) rfl)
 have hc13:=hb13; try simp only [Y6] at hc13
 refine .exit (.seq (.q 2 rfl (.ret (Xk Tryz.results21 rfl ?_))))
 have hin:i=ω.l.length:=by omega
 subst hin
 rw [Y1c] at hS
 obtain ⟨ka,kc,rfl,hkc,_⟩:=hS.vecSlice (k:=0) rfl
 obtain ⟨J2,hJ2,hR2,hS⟩:=hS.freezeVec (k:=0) rfl
 exact ⟨_,rfl,J2,ka,kc,rfl,hJ.trans hJ2,hkc,hR2,Sat.box (T:=wdT p ω) (a,c,ma,mc) hS⟩
theorem X2y (pgt target:List UInt8) (htg:pgt.length≤1000000) (hqs:target.length≤1000000) (p:Wp) (ω:Wd) (hω:X39 ω) (B w:World) (I:Im) (hI:WpOk I p) (As:List Xe) (hS:Sat B w I (wdA p ω::As)) :
  Calls Tryz.prog 20 [ptr p.wb 0,S pgt,S target].toArray w (Ret fun v w'=>v=.tuple #[S (Xi p.lo p.ps ω pgt target).1.1.1,S (Xi p.lo p.ps ω pgt target).1.1.2,I64 ((Xi p.lo p.ps ω pgt target).1.2:Nat)]∧Sat B w' I (wdA p (Xi p.lo p.ps ω pgt target).2::As)):=by
 refine calls Xpr rfl Tryz.ntmps20 rfl (.seq (.q 3 rfl (.seq (.seq (.t 3 rfl (.gval rfl rfl (fun hg1=>(.move (.of rfl))) rfl (.gval rfl rfl (fun hg1=>(.eqs (.gd hg1 rfl) (.of rfl))) rfl (.val (.por (.of rfl) (.of rfl) (.of rfl)) rfl (.nil ?_)))))))))
 refine WC.cond rfl (fun hb20=>?_) (fun hb20=>?_)
 ·
  have hc20:=hb20; try simp only [Y6] at hc20
  refine .seq (.q 3 rfl (.ret (X9t Qr20 rfl rfl rfl ?_)))
  have hE:Xi p.lo p.ps ω pgt target=((([],[]),33),ω):=by rw [Xi,if_pos hb20]
  rw [hE]
  exact ⟨_,rfl,rfl,hS⟩
 have hc20:=hb20; try simp only [Y6] at hc20
 refine .skip (.seq (.t 2 rfl (.call Tryz.func19 rfl (X0 (.of rfl) (X0 (.of rfl) (X0 (.of rfl) X4))) rfl (Xdf pgt 4 p ω hω B _ I _ hS) ?_)))
 clear hS
 rintro _ w ⟨rfl,hS⟩
 try dsimp only [List.eraseIdx] at hS
 refine .q 3 rfl (.allocA (cs:=[_,_,_,_,_,_,_,_,_,_]) hS X6j rfl ?_)
 clear hS; intro b9 w hS
 refine WL.stA hS (k:=0) rfl (.of rfl) (.of rfl) rfl X1k rfl (by simp) ?_
 clear hS; intro w hS; try dsimp only [List.set] at hS
 try simp only [Yj,Ye,Y9,Y7,Yi,Yo,Yf] at hS
 refine .q 1 rfl (.nil (.seq (.seq ?_)))
 replace hS:=hS.pick 1 rfl
 try dsimp only [List.eraseIdx] at hS
 refine .t 3 rfl (.gval rfl rfl (fun hg1=>(.move (.of rfl))) rfl (.gval rfl rfl (fun hg1=>(.move (.of rfl))) rfl (.gcall (T:=fun w=>Sat B w I _) rfl rfl rfl Tryz.func63 rfl (fun hg1=>(X0 (.gd hg1 rfl) (X0 (.gd hg1 rfl) X4))) rfl (fun hg1=>Xcj pgt p ω hω B _ I _ hS) hS ?_)))
 clear hS; rintro w hS
 refine .val (.por (.of rfl) (.of rfl) (.of rfl)) rfl (.nil ?_)
 refine WC.cond rfl (fun hb33=>?_) (fun hb33=>?_)
 ·
  have hc33:=hb33; try simp only [Y6] at hc33
  refine .seq (.q 3 rfl (.ret (X9t Qr20 rfl rfl rfl ?_)))
  have hE:Xi p.lo p.ps ω pgt target=((([],[]),30),ω):=by rw [Xi,if_neg (by rw [hb20]; decide),if_pos hb33]
  rw [hE]
  exact ⟨_,rfl,rfl,(hS.drop (k:=1) rfl)⟩
 have hc33:=hb33; try simp only [Y6] at hc33
 refine .skip (.seq ?_)
 obtain ⟨⟨a,c,ma,mc⟩,hS⟩:=Sat.unbox hS
 replace hS:Sat B _ _ (blk p.wb (wdC p ω) 44::blk p.tb [I64 ω.room,.slice a ω.l.length c] 114::Vec 54 10 (.slice a ω.l.length c) ω.l.length (Xh ω.l)::blk p.mb [.slice ma ω.D.length mc] 111::X2l 104 (.slice ma ω.D.length mc) (ω.D.map fun d=>U64 (d:Nat))::_):=hS
 refine .t 2 rfl ?_
 refine WL.val (.fieldAddr 2 (.of rfl) X3b rfl rfl Tryz.sizeOf41 rfl) rfl ?_
 refine WL.val (.ld (.of rfl) hS (k:=0) rfl Tryz.isAgg41 rfl) rfl ?_
 refine .q 1 rfl (.call Qf50 rfl (X0 (.of rfl) (X0 (.of rfl) X4)) rfl (Xbf target hqs p B _ I hI _ hS) ?_)
 clear hS
 rintro _ w ⟨ra,rc,rfl,hS⟩
 refine .q 4 rfl (.allocA (cs:=[_,_,_,_,_,_,_,_]) hS Xih rfl ?_)
 clear hS; intro b11 w hS
 refine WL.stA hS (k:=0) rfl (.of rfl) (.of rfl) rfl X38 rfl (by simp) ?_
 clear hS; intro w hS; try dsimp only [List.set] at hS
 try simp only [Yj,Ye,Y9,Y7,Yi,Yo,Yf] at hS
 refine .q 2 rfl (.nil (.seq (.seq ?_)))
 replace hS:=Sat.box (T:=wdT p _) (a,c,ma,mc) (((((hS.pick 5 rfl).pick 5 rfl).pick 5 rfl).pick 5 rfl).pick 5 rfl)
 try dsimp only [List.eraseIdx] at hS
 refine .q 2 rfl ?_
 refine WC.cond rfl (fun hb45=>?_) (fun hb45=>?_)
 ·
  have hc45:=hb45; try simp only [Y6] at hc45
  refine .seq (.q 3 rfl (.ret (X9t Qr20 rfl rfl rfl ?_)))
  have hE:Xi p.lo p.ps ω pgt target=((([],[]),36),ω):=by rw [Xi,if_neg (by rw [hb20]; decide),if_neg (by rw [hb33]; decide),if_pos hb45]
  rw [hE]
  exact ⟨_,rfl,rfl,((hS.drop (k:=1) rfl).drop (k:=1) rfl)⟩
 have hc45:=hb45; try simp only [Y6] at hc45
 refine .skip (.seq (.t 2 rfl ?_))
 refine WL.val (.fieldAddr 3 (.of rfl) X18 rfl rfl Qs9 rfl) rfl ?_
 refine WL.val (.ld (.of rfl) hS (k:=2) rfl Qg9 rfl) rfl ?_
 refine .q 1 rfl (.val (.build (cs:=[_,_,_,_,_,_,_,_,_,_]) (X5 (.of rfl) (X5 (.of rfl) (X5 (.of rfl) (X5 (.of rfl) X6)))) X3u rfl) rfl (.call Qf52 rfl (X0 (.of rfl) (X0 (.of rfl) X4)) rfl (Xbm (X3f p.lo p.ps ω pgt target) htg p ω hω B _ I hI _ hS) ?_))
 clear hS
 rintro _ w ⟨rfl,hS⟩
 try dsimp only [List.eraseIdx] at hS
 refine .q 5 rfl (.nil (.seq (.seq (.q 2 rfl ?_))))
 refine WC.cond rfl (fun hb57=>?_) (fun hb57=>?_)
 ·
  have hc57:=hb57; try simp only [Y6] at hc57
  refine .seq (.q 4 rfl (.ret (X9t Qr20 rfl rfl rfl ?_)))
  have hE:Xi p.lo p.ps ω pgt target=((([],[]),(mkW ω (X3f p.lo p.ps ω pgt target)).1.2),(mkW ω (X3f p.lo p.ps ω pgt target)).2):=by rw [Xi,if_neg (by rw [hb20]; decide),if_neg (by rw [hb33]; decide),if_neg (by rw [hb45]; decide),if_pos (by simpa using hb57)]
  rw [hE]
  exact ⟨_,rfl,rfl,((hS.drop (k:=1) rfl).drop (k:=1) rfl)⟩
 have hc57:=hb57; try simp only [Y6] at hc57
 refine .skip (.seq ?_)
 obtain ⟨⟨a2,c2,ma2,mc2⟩,hS⟩:=Sat.unbox hS
 replace hS:Sat B _ _ (blk p.wb (wdC p (mkW ω (X3f p.lo p.ps ω pgt target)).2) 44::blk p.tb [I64 (mkW ω (X3f p.lo p.ps ω pgt target)).2.room,.slice a2 (mkW ω (X3f p.lo p.ps ω pgt target)).2.l.length c2] 114::Vec 54 10 (.slice a2 (mkW ω (X3f p.lo p.ps ω pgt target)).2.l.length c2) (mkW ω (X3f p.lo p.ps ω pgt target)).2.l.length (Xh (mkW ω (X3f p.lo p.ps ω pgt target)).2.l)::blk p.mb [.slice ma2 (mkW ω (X3f p.lo p.ps ω pgt target)).2.D.length mc2] 111::X2l 104 (.slice ma2 (mkW ω (X3f p.lo p.ps ω pgt target)).2.D.length mc2) ((mkW ω (X3f p.lo p.ps ω pgt target)).2.D.map fun d=>U64 (d:Nat))::_):=hS
 have hω2:=X2q hω (X3f p.lo p.ps ω pgt target)
 have hlen2:=hω2.len
 have hsh:=Xd4 (ps:=p.ps) hω pgt 4
 refine .drawn (fun w=>∃ R,Sat B w I (blk b9 (X8 (X17 p.ps ω pgt 4).1) 54::blk p.wb (wdC p (mkW ω (X3f p.lo p.ps ω pgt target)).2) 44::R)) (fun j=>!([].contains j)) (by kernel_rfl) ?_
 replace hS:=hS.drew; generalize w.drew=w at hS ⊢
 have hH:∃ R,Sat B w I (blk b9 (X8 (X17 p.ps ω pgt 4).1) 54::blk p.wb (wdC p (mkW ω (X3f p.lo p.ps ω pgt target)).2) 44::R):=⟨_,((hS.pick 0 rfl).pick 6 rfl)⟩
 refine .tp (i:=0) rfl (by kernel_rfl) (fun w=>(.move (.of rfl))) rfl (.tp (i:=1) rfl (by kernel_rfl) (fun w=>(.nilCheck (.of rfl))) rfl ?_)
 refine WD.tp (i:=2) rfl (by kernel_rfl) (fun w=>(.fieldAddr 0 (.of rfl) X3b rfl rfl X6w rfl)) rfl ?_
 refine WD.tk (i:=3) rfl (by kernel_rfl) hH (fun w ⟨R,hS⟩=>((.ld (.of rfl) hS (k:=1) rfl X64 rfl))) rfl ?_
 refine WD.tk (i:=4) rfl (by kernel_rfl) hH (fun w ⟨R,hS⟩=>((.ldsW (cs:=[_,_,_,_,_,_,_,_,_,_]) (.of rfl) hS (k:=0) rfl X7u X1k rfl))) rfl ?_
 refine .tp (i:=5) rfl (by kernel_rfl) (fun w=>(.move (.of rfl))) rfl (.tp (i:=6) rfl (by kernel_rfl) (fun w=>(.nilCheck (.of rfl))) rfl ?_)
 refine WD.tp (i:=7) rfl (by kernel_rfl) (fun w=>(.fieldAddr 25 (.of rfl) X3b rfl rfl Qs3 rfl)) rfl ?_
 refine WD.tk (i:=8) rfl (by kernel_rfl) hH (fun w ⟨R,hS⟩=>((.ld (.of rfl) hS (k:=1) rfl Qg3 rfl))) rfl ?_
 refine WD.branch [9] (by kernel_rfl) rfl (WO.cons rfl ?_ (WO.nil))
 refine .call Tryz.func65 rfl (X0 (.of rfl) (X0 (.of rfl) X4)) rfl (Xkd (X17 p.ps ω pgt 4).1 (mkW ω (X3f p.lo p.ps ω pgt target)).2.now hsh.2.2.1 hsh.2.2.2 B _ I _ hS) ?_
 clear hS
 rintro _ w ⟨rfl,hS⟩
 refine .nil ?_
 clear hH
 have hH:∃ R,Sat B w I (blk b9 (X8 (X17 p.ps ω pgt 4).1) 54::blk p.wb (wdC p (mkW ω (X3f p.lo p.ps ω pgt target)).2) 44::R):=⟨_,((hS.pick 0 rfl).pick 6 rfl)⟩
 refine And.intro (by intro _ _; exact hH) ?_
 refine WD.branch [10] (by kernel_rfl) rfl (WO.cons rfl ?_ (WO.nil))
 refine .call Tryz.func64 rfl (X0 (.of rfl) (X0 (.of rfl) X4)) rfl (Xqg p.tb (mkW ω (X3f p.lo p.ps ω pgt target)).2.room a2 c2 (mkW ω (X3f p.lo p.ps ω pgt target)).2.l (by omega) (X46 (X17 p.ps ω pgt 4).1 (mkW ω (X3f p.lo p.ps ω pgt target)).2.now) (Y2m hsh.1 (by decide)) (Y2m hsh.2.1 (by decide)) B _ I hI.known hI.pre _ ((hS.pick 2 rfl).pick 2 rfl)) ?_
 clear hS
 rintro _ w ⟨rfl,hS⟩
 try dsimp only [List.eraseIdx] at hS
 refine .nil ?_
 clear hH
 have hH:∃ R,Sat B w I (blk b9 (X8 (X17 p.ps ω pgt 4).1) 54::blk p.wb (wdC p (mkW ω (X3f p.lo p.ps ω pgt target)).2) 44::R):=⟨_,((hS.pick 2 rfl).pick 6 rfl)⟩
 refine And.intro (by intro _ _; exact hH) ?_
 refine .done (by kernel_rfl) (.seq (.q 5 rfl (.ret (X9t Qr20 rfl rfl rfl ?_))))
 replace hS:=Sat.box (T:=wdT p (putW (mkW ω (X3f p.lo p.ps ω pgt target)).2 (X46 (X17 p.ps ω pgt 4).1 (mkW ω (X3f p.lo p.ps ω pgt target)).2.now))) (a2,c2,ma2,mc2) (((((hS.pick 4 rfl).pick 4 rfl).pick 3 rfl).pick 3 rfl).pick 4 rfl)
 try dsimp only [List.eraseIdx] at hS
 have hE:Xi p.lo p.ps ω pgt target=((((mkW ω (X3f p.lo p.ps ω pgt target)).1.1,(X1e p.lo target).2.1),0),putW (mkW ω (X3f p.lo p.ps ω pgt target)).2 (X46 (X17 p.ps ω pgt 4).1 (mkW ω (X3f p.lo p.ps ω pgt target)).2.now)):=by rw [Xi,if_neg (by rw [hb20]; decide),if_neg (by rw [hb33]; decide),if_neg (by rw [hb45]; decide),if_neg (by simpa using hb57)]
 rw [hE]
 exact ⟨_,rfl,rfl,((hS.drop (k:=1) rfl).drop (k:=1) rfl)⟩
theorem X80 (t cb:List UInt8) (ht:t.length≤1000000) (hcb:cb.length≤1000000) (p:Wp) (ω:Wd) (hω:X39 ω) (B w:World) (I:Im) (hI:WpOk I p) (As:List Xe) (hS:Sat B w I (wdA p ω::As)) :
  Calls Tryz.prog 13 [ptr p.wb 0,S t,S cb].toArray w (Ret fun v w'=>v=.tuple #[.agg (X10 (Xc p.lo ω t cb).1.1).toArray,I64 ((Xc p.lo ω t cb).1.2:Nat)]∧Sat B w' I (wdA p (Xc p.lo ω t cb).2::As)):=by
 refine callsF Qf13 rfl Tryz.ntmps13 rfl (.seq (.region (.box1 hS (.of rfl) rfl rfl ?_)))
 clear hS; intro b3 w hS
 refine .allocA (cs:=[_,_,_]) hS Qz48 rfl ?_
 clear hS; intro b6 w hS
 refine .alloc1 hS Tryz.zeroValue49 rfl rfl ?_
 clear hS; intro b7 w hS
 refine .nil (.seq ?_)
 replace hS:=(hS.pick 3 rfl)
 try dsimp only [List.eraseIdx] at hS
 obtain ⟨⟨a,c,ma,mc⟩,hS⟩:=Sat.unbox hS
 replace hS:Sat B _ _ (blk p.wb (wdC p ω) 44::blk p.tb [I64 ω.room,.slice a ω.l.length c] 114::Vec 54 10 (.slice a ω.l.length c) ω.l.length (Xh ω.l)::blk p.mb [.slice ma ω.D.length mc] 111::X2l 104 (.slice ma ω.D.length mc) (ω.D.map fun d=>U64 (d:Nat))::_):=hS
 have hlen:=hω.len
 have hwf:=hω.wf
 have hsv:=Xdz hω.wf t
 refine .region ?_
 refine WL.val (.ld (.of rfl) hS (k:=7) rfl Xjg rfl) rfl ?_
 refine .q 1 rfl ?_
 refine WL.val (.fieldAddr 0 (.of rfl) X3b rfl rfl X6w rfl) rfl ?_
 refine WL.val (.ld (.of rfl) hS (k:=0) rfl X64 rfl) rfl ?_
 refine .q 1 rfl (.call Xe0 rfl (X0 (.of rfl) (X0 (.of rfl) X4)) rfl (X1y p.tb ω.room a c ω.l (by omega) t B _ I _ ((hS.pick 2 rfl).pick 2 rfl)) ?_)
 clear hS
 rintro _ w ⟨rfl,hS⟩
 try dsimp only [List.eraseIdx] at hS
 refine .q 3 rfl (.allocA (cs:=[_,_,_,_,_,_,_,_,_,_]) hS X6j rfl ?_)
 clear hS; intro b8 w hS
 refine WL.stA hS (k:=0) rfl (.of rfl) (.of rfl) rfl X1k rfl (by simp) ?_
 clear hS; intro w hS; try dsimp only [List.set] at hS
 try simp only [Yj,Ye,Y9,Y7,Yi,Yo,Yf] at hS
 refine .q 1 rfl (.nil (.seq (.seq (.region ?_))))
 refine WL.val (.fieldAddr 0 (.of rfl) X18 rfl rfl Qs3 rfl) rfl ?_
 refine WL.val (.ld (.of rfl) hS (k:=0) rfl Qg3 rfl) rfl ?_
 refine .q 2 rfl ?_
 refine WL.gval rfl rfl (fun hg1=>(by exact .fieldAddr 0 (.of rfl) X18 rfl rfl Qs3 rfl)) rfl ?_
 refine WL.gval rfl rfl (fun hg1=>(by exact (.ld (.gd hg1 rfl) hS (k:=0) rfl Qg3 rfl))) rfl ?_
 refine .gval rfl rfl (fun hg1=>(.neq (.gd hg1 rfl) (.of rfl))) rfl (.val (.pand (.of rfl) (.of rfl) (.of rfl)) rfl (.q 1 rfl ?_))
 refine WL.gval rfl rfl (fun hg1=>(by exact .fieldAddr 8 (.of rfl) X18 rfl rfl Qs3 rfl)) rfl ?_
 refine WL.gval rfl rfl (fun hg1=>(by exact (.ld (.gd hg1 rfl) hS (k:=0) rfl Qg3 rfl))) rfl ?_
 refine .gval rfl rfl (fun hg1=>(.eql (.gd hg1 rfl) (.of rfl))) rfl (.val (.por (.of rfl) (.of rfl) (.of rfl)) rfl (.nil ?_))
 refine WC.cond rfl (fun hb38=>?_) (fun hb38=>?_)
 ·
  have hc38:=hb38; try simp only [Y6] at hc38
  refine .seq (.region (.val (.build (cs:=[_,_,_]) X6 X4z rfl) rfl ?_))
  refine WL.stA hS (k:=7) rfl (.of rfl) (.of rfl) rfl Xec rfl (by simp) ?_
  clear hS; intro w hS; try dsimp only [List.set] at hS
  try simp only [Yj,Ye,Y9,Y7,Yi,Yo,Yf] at hS
  refine WL.st1 hS (k:=6) rfl (.of rfl) (.of rfl) rfl Qs49 (by simp) ?_
  clear hS; intro w hS; try dsimp only [List.set] at hS
  refine .nil (.ret ?_)
  replace hS:=Sat.box (T:=wdT p ω) (a,c,ma,mc) (((((hS.pick 5 rfl).pick 5 rfl).pick 4 rfl).pick 4 rfl).pick 5 rfl)
  try dsimp only [List.eraseIdx] at hS
  have hE:Xc p.lo ω t cb=((c0,30),ω):=by rw [Xc,if_pos (show noP ω t=true from hb38)]
  refine Xr0 rfl (Xd9 Qr13 hS (k:=3) (j:=2) rfl rfl Qg48 Xec Qg49 rfl rfl rfl) ?_
  rw [hE]
  exact ⟨_,rfl,rfl,((((hS.drop (k:=1) rfl).drop (k:=1) rfl).drop (k:=1) rfl).drop (k:=1) rfl)⟩
 have hc38:=hb38; try simp only [Y6] at hc38
 refine .skip ?_
 refine WC.cutS (σ:=Nat×Option Addr×Nat) (fun ⟨b10,ra,rc⟩=>[(1,S t),(2,S cb),(3,ptr b3 0),(6,ptr b6 0),(7,ptr b7 0),(8,ptr b8 0),(10,ptr b10 0),(12,I64 (((X1e p.lo (getD ω.l t).service).2.2:Nat):Int))]) (fun ⟨b10,ra,rc⟩ w=>Sat B w I (blk b10 (X1d (X1e p.lo (getD ω.l t).service).1 ra rc) 59::blk b8 (X8 (getD ω.l t)) 54::blk b7 [I64 0] 49::blk b6 [S [],S [],S []] 48::blk b3 [ptr p.wb 0] 37::wdA p ω::As)) ?_ ?_
 ·
  refine .drawn (fun w=>∃ R,Sat B w I (blk b8 (X8 (getD ω.l t)) 54::blk b3 [ptr p.wb 0] 37::blk p.wb (wdC p ω) 44::R)) (fun j=>!([].contains j)) (by kernel_rfl) ?_
  replace hS:=hS.drew; generalize w.drew=w at hS ⊢
  have hH:∃ R,Sat B w I (blk b8 (X8 (getD ω.l t)) 54::blk b3 [ptr p.wb 0] 37::blk p.wb (wdC p ω) 44::R):=⟨_,(((hS.pick 3 rfl).pick 8 rfl).pick 2 rfl)⟩
  refine WD.tk (i:=0) rfl (by kernel_rfl) hH (fun w ⟨R,hS⟩=>((.ld (.of rfl) hS (k:=1) rfl Xjg rfl))) rfl ?_
  refine .tp (i:=1) rfl (by kernel_rfl) (fun w=>(.nilCheck (.of rfl))) rfl ?_
  refine WD.tp (i:=2) rfl (by kernel_rfl) (fun w=>(.fieldAddr 2 (.of rfl) X3b rfl rfl Tryz.sizeOf41 rfl)) rfl ?_
  refine WD.tk (i:=3) rfl (by kernel_rfl) hH (fun w ⟨R,hS⟩=>((.ld (.of rfl) hS (k:=2) rfl Tryz.isAgg41 rfl))) rfl ?_
  refine WD.tp (i:=4) rfl (by kernel_rfl) (fun w=>(.fieldAddr 4 (.of rfl) X18 rfl rfl Qs9 rfl)) rfl ?_
  refine WD.tk (i:=5) rfl (by kernel_rfl) hH (fun w ⟨R,hS⟩=>((.ld (.of rfl) hS (k:=0) rfl Qg9 rfl))) rfl ?_
  refine WD.branch [6,11] (by kernel_rfl) rfl (WO.cons rfl ?_ (WO.cons rfl ?_ (WO.nil)))
  ·
   refine .call Qf50 rfl (X0 (.of rfl) (X0 (.of rfl) X4)) rfl (Xbf (getD ω.l t).service (by omega) p B _ I hI _ hS) ?_
   clear hS
   rintro _ w ⟨ra,rc,rfl,hS⟩
   refine .nil ?_
   clear hH
   have hH:∃ R,Sat B w I (blk b8 (X8 (getD ω.l t)) 54::blk b3 [ptr p.wb 0] 37::blk p.wb (wdC p ω) 44::R):=⟨_,(((hS.pick 3 rfl).pick 8 rfl).pick 2 rfl)⟩
   refine And.intro (by intro _ _; exact hH) ?_
   refine .tp (i:=7) rfl (by kernel_rfl) (fun w=>(.move (.of rfl))) rfl (.tp (i:=8) rfl (by kernel_rfl) (fun w=>(.extract (.of rfl) rfl)) rfl (.tp (i:=9) rfl (by kernel_rfl) (fun w=>(.extract (.of rfl) rfl)) rfl (.tp (i:=10) rfl (by kernel_rfl) (fun w=>(.extract (.of rfl) rfl)) rfl ?_)))
   refine WD.branch [11] (by kernel_rfl) rfl (WO.cons rfl ?_ (WO.nil))
   refine .allocA (cs:=[_,_,_,_,_,_,_,_]) hS Xih rfl ?_
   clear hS; intro b10 w hS
   refine .nil ?_
   clear hH
   have hH:∃ R,Sat B w I (blk b8 (X8 (getD ω.l t)) 54::blk b3 [ptr p.wb 0] 37::blk p.wb (wdC p ω) 44::R):=⟨_,(((hS.pick 4 rfl).pick 9 rfl).pick 3 rfl)⟩
   refine And.intro (by intro _ _; exact hH) ?_
   refine WD.branch [12] (by kernel_rfl) rfl (WO.cons rfl ?_ (WO.nil))
   refine WL.stA hS (k:=0) rfl (.of rfl) (.of rfl) rfl X38 rfl (by simp) ?_
   clear hS; intro w hS; try dsimp only [List.set] at hS
   try simp only [Yj,Ye,Y9,Y7,Yi,Yo,Yf] at hS
   refine .nil ?_
   clear hH
   have hH:∃ R,Sat B w I (blk b8 (X8 (getD ω.l t)) 54::blk b3 [ptr p.wb 0] 37::blk p.wb (wdC p ω) 44::R):=⟨_,(((hS.pick 4 rfl).pick 9 rfl).pick 3 rfl)⟩
   refine And.intro (by intro _ _; exact hH) ?_
   refine .tp (i:=13) rfl (by kernel_rfl) (fun w=>(.assign (.of rfl))) rfl (.tp (i:=14) rfl (by kernel_rfl) (fun w=>(.assign (.of rfl))) rfl (.done (by kernel_rfl) ?_))
   replace hS:=Sat.box (T:=wdT p ω) (a,c,ma,mc) (((((hS.pick 6 rfl).pick 6 rfl).pick 5 rfl).pick 5 rfl).pick 6 rfl)
   try dsimp only [List.eraseIdx] at hS
   exact ⟨(b10,ra,rc),⟨rfl,rfl,rfl,rfl,rfl,rfl,rfl,rfl,trivial⟩,(((((hS.pick 5 rfl).pick 5 rfl).pick 5 rfl).pick 5 rfl).pick 5 rfl)⟩
  ·
   refine .allocA (cs:=[_,_,_,_,_,_,_,_]) hS Xih rfl ?_
   clear hS; intro b10 w hS
   refine .nil ?_
   clear hH
   have hH:∃ R,Sat B w I (blk b8 (X8 (getD ω.l t)) 54::blk b3 [ptr p.wb 0] 37::blk p.wb (wdC p ω) 44::R):=⟨_,(((hS.pick 4 rfl).pick 9 rfl).pick 3 rfl)⟩
   refine And.intro (by intro _ _; exact hH) ?_
   refine WD.branch [6] (by kernel_rfl) rfl (WO.cons rfl ?_ (WO.nil))
   refine .call Qf50 rfl (X0 (.of rfl) (X0 (.of rfl) X4)) rfl (Xbf (getD ω.l t).service (by omega) p B _ I hI _ hS) ?_
   clear hS
   rintro _ w ⟨ra,rc,rfl,hS⟩
   refine .nil ?_
   clear hH
   have hH:∃ R,Sat B w I (blk b8 (X8 (getD ω.l t)) 54::blk b3 [ptr p.wb 0] 37::blk p.wb (wdC p ω) 44::R):=⟨_,(((hS.pick 4 rfl).pick 9 rfl).pick 3 rfl)⟩
   refine And.intro (by intro _ _; exact hH) ?_
   refine .tp (i:=7) rfl (by kernel_rfl) (fun w=>(.move (.of rfl))) rfl (.tp (i:=8) rfl (by kernel_rfl) (fun w=>(.extract (.of rfl) rfl)) rfl (.tp (i:=9) rfl (by kernel_rfl) (fun w=>(.extract (.of rfl) rfl)) rfl (.tp (i:=10) rfl (by kernel_rfl) (fun w=>(.extract (.of rfl) rfl)) rfl ?_)))
   refine WD.branch [12] (by kernel_rfl) rfl (WO.cons rfl ?_ (WO.nil))
   refine WL.stA hS (k:=0) rfl (.of rfl) (.of rfl) rfl X38 rfl (by simp) ?_
   clear hS; intro w hS; try dsimp only [List.set] at hS
   try simp only [Yj,Ye,Y9,Y7,Yi,Yo,Yf] at hS
   refine .nil ?_
   clear hH
   have hH:∃ R,Sat B w I (blk b8 (X8 (getD ω.l t)) 54::blk b3 [ptr p.wb 0] 37::blk p.wb (wdC p ω) 44::R):=⟨_,(((hS.pick 4 rfl).pick 9 rfl).pick 3 rfl)⟩
   refine And.intro (by intro _ _; exact hH) ?_
   refine .tp (i:=13) rfl (by kernel_rfl) (fun w=>(.assign (.of rfl))) rfl (.tp (i:=14) rfl (by kernel_rfl) (fun w=>(.assign (.of rfl))) rfl (.done (by kernel_rfl) ?_))
   replace hS:=Sat.box (T:=wdT p ω) (a,c,ma,mc) (((((hS.pick 6 rfl).pick 6 rfl).pick 5 rfl).pick 5 rfl).pick 6 rfl)
   try dsimp only [List.eraseIdx] at hS
   exact ⟨(b10,ra,rc),⟨rfl,rfl,rfl,rfl,rfl,rfl,rfl,rfl,trivial⟩,(((((hS.pick 5 rfl).pick 5 rfl).pick 5 rfl).pick 5 rfl).pick 5 rfl)⟩
 rintro ⟨b10,ra,rc⟩ w hS
 change WC _ _ _ _ [(1,S t),(2,S cb),(3,ptr b3 0),(6,ptr b6 0),(7,ptr b7 0),(8,ptr b8 0),(10,ptr b10 0),(12,I64 (((X1e p.lo (getD ω.l t).service).2.2:Nat):Int))] w
 refine .seq ?_
 replace hS:=(hS.pick 5 rfl)
 try dsimp only [List.eraseIdx] at hS
 obtain ⟨⟨a,c,ma,mc⟩,hS⟩:=Sat.unbox hS
 replace hS:Sat B _ _ (blk p.wb (wdC p ω) 44::blk p.tb [I64 ω.room,.slice a ω.l.length c] 114::Vec 54 10 (.slice a ω.l.length c) ω.l.length (Xh ω.l)::blk p.mb [.slice ma ω.D.length mc] 111::X2l 104 (.slice ma ω.D.length mc) (ω.D.map fun d=>U64 (d:Nat))::_):=hS
 refine .drawn (fun w=>∃ R,Sat B w I (blk b10 (X1d (X1e p.lo (getD ω.l t).service).1 ra rc) 59::blk b3 [ptr p.wb 0] 37::blk p.wb (wdC p ω) 44::R)) (fun j=>!([].contains j)) (by kernel_rfl) ?_
 replace hS:=hS.drew; generalize w.drew=w at hS ⊢
 have hH:∃ R,Sat B w I (blk b10 (X1d (X1e p.lo (getD ω.l t).service).1 ra rc) 59::blk b3 [ptr p.wb 0] 37::blk p.wb (wdC p ω) 44::R):=⟨_,(((hS.pick 0 rfl).pick 9 rfl).pick 6 rfl)⟩
 refine WD.tk (i:=0) rfl (by kernel_rfl) hH (fun w ⟨R,hS⟩=>((.ld (.of rfl) hS (k:=1) rfl Xjg rfl))) rfl ?_
 refine .tp (i:=1) rfl (by kernel_rfl) (fun w=>(.nilCheck (.of rfl))) rfl ?_
 refine WD.tp (i:=2) rfl (by kernel_rfl) (fun w=>(.fieldAddr 2 (.of rfl) X3b rfl rfl Tryz.sizeOf41 rfl)) rfl ?_
 refine WD.tk (i:=3) rfl (by kernel_rfl) hH (fun w ⟨R,hS⟩=>((.ld (.of rfl) hS (k:=2) rfl Tryz.isAgg41 rfl))) rfl ?_
 refine WD.tp (i:=4) rfl (by kernel_rfl) (fun w=>(.fieldAddr 0 (.of rfl) X84 rfl rfl Qs3 rfl)) rfl ?_
 refine WD.tk (i:=5) rfl (by kernel_rfl) hH (fun w ⟨R,hS⟩=>((.ld (.of rfl) hS (k:=0) rfl Qg3 rfl))) rfl ?_
 refine .tp (i:=6) rfl (by kernel_rfl) (fun w=>(.move (.of rfl))) rfl ?_
 refine WD.branch [7] (by kernel_rfl) rfl (WO.cons rfl ?_ (WO.nil))
 refine .call Tryz.func51 rfl (X0 (.of rfl) (X0 (.of rfl) (X0 (.of rfl) X4))) rfl (Xr6 (X1e p.lo (getD ω.l t).service).1.id cb hcb p B _ I hI _ hS) ?_
 clear hS
 rintro _ w ⟨rfl,hS⟩
 refine .nil ?_
 clear hH
 have hH:∃ R,Sat B w I (blk b10 (X1d (X1e p.lo (getD ω.l t).service).1 ra rc) 59::blk b3 [ptr p.wb 0] 37::blk p.wb (wdC p ω) 44::R):=⟨_,(((hS.pick 0 rfl).pick 9 rfl).pick 6 rfl)⟩
 refine And.intro (by intro _ _; exact hH) ?_
 refine .tp (i:=8) rfl (by kernel_rfl) (fun w=>(.move (.of rfl))) rfl (.tp (i:=9) rfl (by kernel_rfl) (fun w=>(.extract (.of rfl) rfl)) rfl (.tp (i:=10) rfl (by kernel_rfl) (fun w=>(.extract (.of rfl) rfl)) rfl (.tp (i:=11) rfl (by kernel_rfl) (fun w=>(.assign (.of rfl))) rfl (.tp (i:=12) rfl (by kernel_rfl) (fun w=>(.assign (.of rfl))) rfl (.done (by kernel_rfl) (.seq (.seq (.t 3 rfl ?_))))))))
 refine WL.gval rfl rfl (fun hg1=>(by exact .fieldAddr 4 (.of rfl) X84 rfl rfl Qs4 rfl)) rfl ?_
 refine WL.gval rfl rfl (fun hg1=>(by exact (.ld (.gd hg1 rfl) hS (k:=5) rfl Qg4 rfl))) rfl ?_
 refine .gval rfl rfl (fun hg1=>(.not (.gd hg1 rfl))) rfl (.val (.por (.of rfl) (.of rfl) (.of rfl)) rfl (.q 1 rfl (.gval rfl rfl (fun hg1=>(.move (.of rfl))) rfl (.gval rfl rfl (fun hg1=>(.not (.gd hg1 rfl))) rfl (.val (.por (.of rfl) (.of rfl) (.of rfl)) rfl (.nil ?_))))))
 refine WC.cond rfl (fun hb72=>?_) (fun hb72=>?_)
 ·
  have hc72:=hb72; try simp only [Y6] at hc72
  refine .seq (.region (.val (.build (cs:=[_,_,_]) X6 X4z rfl) rfl ?_))
  refine WL.stA hS (k:=8) rfl (.of rfl) (.of rfl) rfl Xec rfl (by simp) ?_
  clear hS; intro w hS; try dsimp only [List.set] at hS
  try simp only [Yj,Ye,Y9,Y7,Yi,Yo,Yf] at hS
  refine WL.st1 hS (k:=7) rfl (.of rfl) (.of rfl) rfl Qs49 (by simp) ?_
  clear hS; intro w hS; try dsimp only [List.set] at hS
  refine .nil (.ret ?_)
  replace hS:=Sat.box (T:=wdT p ω) (a,c,ma,mc) (((((hS.pick 4 rfl).pick 4 rfl).pick 4 rfl).pick 4 rfl).pick 4 rfl)
  try dsimp only [List.eraseIdx] at hS
  have hE:Xc p.lo ω t cb=((c0,34),ω):=by rw [Xc,if_neg (by rw [show noP ω t=false from hb38]; decide),if_pos (show noQ p.lo ω t cb=true from hb72)]
  refine Xr0 rfl (Xd9 Qr13 hS (k:=4) (j:=3) rfl rfl Qg48 Xec Qg49 rfl rfl rfl) ?_
  rw [hE]
  exact ⟨_,rfl,rfl,(((((hS.drop (k:=1) rfl).drop (k:=1) rfl).drop (k:=1) rfl).drop (k:=1) rfl).drop (k:=1) rfl)⟩
 have hc72:=hb72; try simp only [Y6] at hc72
 refine .skip (.seq ?_)
 replace hS:=Sat.box (T:=wdT p _) (a,c,ma,mc) (((((hS.pick 4 rfl).pick 4 rfl).pick 4 rfl).pick 4 rfl).pick 4 rfl)
 try dsimp only [List.eraseIdx] at hS
 refine .region ?_
 refine WL.val (.ld (.of rfl) hS (k:=5) rfl Xjg rfl) rfl ?_
 refine .q 1 rfl ?_
 refine WL.val (.fieldAddr 3 (.of rfl) X18 rfl rfl Qs9 rfl) rfl ?_
 refine WL.val (.ld (.of rfl) hS (k:=2) rfl Qg9 rfl) rfl ?_
 refine WL.val (.fieldAddr 4 (.of rfl) X18 rfl rfl Qs9 rfl) rfl ?_
 refine WL.val (.ld (.of rfl) hS (k:=2) rfl Qg9 rfl) rfl ?_
 refine .q 1 rfl (.val (.build (cs:=[_,_,_,_,_,_,_,_,_,_]) (X5 (.of rfl) (X5 (.of rfl) (X5 (.of rfl) (X5 (.of rfl) (X5 (.of rfl) X6))))) X3u rfl) rfl (.call Qf52 rfl (X0 (.of rfl) (X0 (.of rfl) X4)) rfl (Xbm (X2i p.lo ω t cb) ht p ω hω B _ I hI _ hS) ?_))
 clear hS
 rintro _ w ⟨rfl,hS⟩
 try dsimp only [List.eraseIdx] at hS
 refine .q 3 rfl (.alloc1 hS Qz9 rfl rfl ?_)
 clear hS; intro b15 w hS
 refine WL.st1 hS (k:=0) rfl (.of rfl) (.of rfl) rfl Qs9 (by simp) ?_
 clear hS; intro w hS; try dsimp only [List.set] at hS
 refine .q 1 rfl (.nil (.seq (.seq (.q 2 rfl ?_))))
 refine WC.cond rfl (fun hb87=>?_) (fun hb87=>?_)
 ·
  have hc87:=hb87; try simp only [Y6] at hc87
  refine .seq (.region (.val (.build (cs:=[_,_,_]) X6 X4z rfl) rfl (.q 1 rfl ?_)))
  refine WL.stA hS (k:=5) rfl (.of rfl) (.of rfl) rfl Xec rfl (by simp) ?_
  clear hS; intro w hS; try dsimp only [List.set] at hS
  try simp only [Yj,Ye,Y9,Y7,Yi,Yo,Yf] at hS
  refine WL.st1 hS (k:=4) rfl (.of rfl) (.of rfl) rfl Qs49 (by simp) ?_
  clear hS; intro w hS; try dsimp only [List.set] at hS
  refine .nil (.ret ?_)
  have hE:Xc p.lo ω t cb=((c0,(mkW ω (X2i p.lo ω t cb)).1.2),(mkW ω (X2i p.lo ω t cb)).2):=by rw [Xc,if_neg (by rw [show noP ω t=false from hb38]; decide),if_neg (by rw [show noQ p.lo ω t cb=false from hb72]; decide),if_pos (by simpa using hb87)]
  refine Xr0 rfl (Xd9 Qr13 hS (k:=5) (j:=4) rfl rfl Qg48 Xec Qg49 rfl rfl rfl) ?_
  rw [hE]
  exact ⟨_,rfl,rfl,(((((((hS.pick 1 rfl).drop (k:=1) rfl).drop (k:=1) rfl).drop (k:=1) rfl).drop (k:=1) rfl).drop (k:=1) rfl).drop (k:=1) rfl)⟩
 have hc87:=hb87; try simp only [Y6] at hc87
 refine .skip (.seq (.region (.val (.makeFunc (X0 (.of rfl) (X0 (.of rfl) (X0 (.of rfl) X4)))) rfl (.later (.of rfl) rfl (.nil (.seq (.region ?_)))))))
 refine WL.val (.ld (.of rfl) hS (k:=6) rfl Xjg rfl) rfl ?_
 refine WL.val (.ld (.of rfl) hS (k:=0) rfl Qg9 rfl) rfl ?_
 refine .val (.build (cs:=[_,_,_,_,_,_,_,_,_,_]) (X5 (.of rfl) (X5 (.of rfl) X6)) X3u rfl) rfl (.call Qf52 rfl (X0 (.of rfl) (X0 (.of rfl) X4)) rfl (Xbm (X9s (mkW ω (X2i p.lo ω t cb)).1.1) (Y2m X8x (by decide)) p (mkW ω (X2i p.lo ω t cb)).2 (X2q hω _) B _ I hI _ (hS.pick 1 rfl)) ?_)
 clear hS
 rintro _ w ⟨rfl,hS⟩
 try dsimp only [List.eraseIdx] at hS
 refine .q 5 rfl (.nil (.seq (.seq (.q 2 rfl ?_))))
 refine WC.cond rfl (fun hb99=>?_) (fun hb99=>?_)
 ·
  have hc99:=hb99; try simp only [Y6] at hc99
  refine .seq (.region (.val (.build (cs:=[_,_,_]) X6 X4z rfl) rfl (.q 1 rfl ?_)))
  refine WL.stA hS (k:=5) rfl (.of rfl) (.of rfl) rfl Xec rfl (by simp) ?_
  clear hS; intro w hS; try dsimp only [List.set] at hS
  try simp only [Yj,Ye,Y9,Y7,Yi,Yo,Yf] at hS
  refine WL.st1 hS (k:=4) rfl (.of rfl) (.of rfl) rfl Qs49 (by simp) ?_
  clear hS; intro w hS; try dsimp only [List.set] at hS
  refine .nil (.ret ?_)
  have hE:Xc p.lo ω t cb=((c0,(mkW (mkW ω (X2i p.lo ω t cb)).2 (X9s (mkW ω (X2i p.lo ω t cb)).1.1)).1.2),X7t (mkW (mkW ω (X2i p.lo ω t cb)).2 (X9s (mkW ω (X2i p.lo ω t cb)).1.1)).2 (mkW ω (X2i p.lo ω t cb)).1.1):=by rw [Xc,if_neg (by rw [show noP ω t=false from hb38]; decide),if_neg (by rw [show noQ p.lo ω t cb=false from hb72]; decide),if_neg (by simpa using hb87),if_pos (by simpa using hb99)]
  refine retD Tryz.func53 rfl rfl (fun u=>Xah (((mkW (mkW ω (X2i p.lo ω t cb)).2 (X9s (mkW ω (X2i p.lo ω t cb)).1.1)).1.2:Nat):Int) (mkW ω (X2i p.lo ω t cb)).1.1 b7 b3 b15 u p (mkW (mkW ω (X2i p.lo ω t cb)).2 (X9s (mkW ω (X2i p.lo ω t cb)).1.1)).2 (X2q (X2q hω _) _) B _ I _ (((hS.pick 1 rfl).pick 6 rfl).pick 5 rfl)) ?_
  clear hS; intro w hS
  rw [if_neg (by simpa using hb99)] at hS
  refine fun a ha=>⟨_,Xd9 Qr13 hS (k:=6) (j:=0) rfl rfl Qg48 Xec Qg49 rfl rfl rfl a ha,?_⟩
  rw [hE]
  exact ⟨_,rfl,rfl,(((((((hS.pick 3 rfl).drop (k:=1) rfl).drop (k:=1) rfl).drop (k:=1) rfl).drop (k:=1) rfl).drop (k:=1) rfl).drop (k:=1) rfl)⟩
 have hc99:=hb99; try simp only [Y6] at hc99
 refine .skip (.seq (.t 1 rfl ?_))
 refine WL.val (.ld (.of rfl) hS (k:=1) rfl Qg9 rfl) rfl ?_
 refine .q 1 rfl (.val (.build (cs:=[_,_,_]) (X5 (.of rfl) (X5 (.of rfl) (X5 (.of rfl) X6))) X4z rfl) rfl ?_)
 refine WL.stA hS (k:=5) rfl (.of rfl) (.of rfl) rfl Xec rfl (by simp) ?_
 clear hS; intro w hS; try dsimp only [List.set] at hS
 try simp only [Yj,Ye,Y9,Y7,Yi,Yo,Yf] at hS
 refine WL.st1 hS (k:=4) rfl (.of rfl) (.of rfl) rfl Qs49 (by simp) ?_
 clear hS; intro w hS; try dsimp only [List.set] at hS
 refine .nil (.ret ?_)
 have hE:Xc p.lo ω t cb=((⟨(Xhe p.lo ω t cb).1,(mkW ω (X2i p.lo ω t cb)).1.1,(mkW (mkW ω (X2i p.lo ω t cb)).2 (X9s (mkW ω (X2i p.lo ω t cb)).1.1)).1.1⟩,0),(mkW (mkW ω (X2i p.lo ω t cb)).2 (X9s (mkW ω (X2i p.lo ω t cb)).1.1)).2):=by rw [Xc,if_neg (by rw [show noP ω t=false from hb38]; decide),if_neg (by rw [show noQ p.lo ω t cb=false from hb72]; decide),if_neg (by simpa using hb87),if_neg (by simpa using hb99)]
 refine retD Tryz.func53 rfl rfl (fun u=>Xah 0 (mkW ω (X2i p.lo ω t cb)).1.1 b7 b3 b15 u p (mkW (mkW ω (X2i p.lo ω t cb)).2 (X9s (mkW ω (X2i p.lo ω t cb)).1.1)).2 (X2q (X2q hω _) _) B _ I _ (((hS.pick 1 rfl).pick 6 rfl).pick 5 rfl)) ?_
 clear hS; intro w hS
 rw [if_pos rfl] at hS
 refine fun a ha=>⟨_,Xd9 Qr13 hS (k:=6) (j:=0) rfl rfl Qg48 Xec Qg49 rfl rfl rfl a ha,?_⟩
 rw [hE]
 exact ⟨_,rfl,rfl,(((((((hS.pick 3 rfl).drop (k:=1) rfl).drop (k:=1) rfl).drop (k:=1) rfl).drop (k:=1) rfl).drop (k:=1) rfl).drop (k:=1) rfl)⟩
structure Ob where
 act:Int
 n:Int
 k:Int
 a:List UInt8
 b:List UInt8
 d:List Nat
def Xbw (o:Ob) (da:Option Addr) (dc:Nat):List Value:=[I64 o.act,I64 o.n,I64 o.k,S o.a,S o.b,.slice da o.d.length dc]
def ObAt (I:Im) (o:Ob) (cs:List Value):Prop:=∃ da dc,cs=Xbw o da dc∧o.d.length≤dc∧dc≤maxLen∧RS I da 1 o.d.length (o.d.map fun d=>U64 (d:Nat))
def ObsAt (I:Im) (a:Option Addr) (l:List Ob):Prop:=∃ L:List (List Value),L.length=l.length∧(∀ c∈L,c.length=6)∧RS I a 6 l.length L.flatten∧∀ (i:Nat) (o:Ob),l[i]?=some o→∃ cs,L[i]?=some cs∧ObAt I o cs
theorem ObAt.mono {I J:Im} {o:Ob} {cs:List Value} (h:ObAt I o cs) (hl:Le I J):ObAt J o cs:=by
 obtain ⟨da,dc,e,h1,h2,h3⟩:=h
 exact ⟨da,dc,e,h1,h2,h3.mono hl⟩
theorem ObsAt.mono {I J:Im} {a:Option Addr} {l:List Ob} (h:ObsAt I a l) (hl:Le I J):ObsAt J a l:=by
 obtain ⟨L,h1,h2,h3,h4⟩:=h
 exact ⟨L,h1,h2,h3.mono hl,fun i o ho=>by
  obtain ⟨cs,h5,h6⟩:=h4 i o ho
  exact ⟨cs,h5,h6.mono hl⟩⟩
theorem ObsAt.at {I:Im} {a:Option Addr} {l:List Ob} (h:ObsAt I a l) (i:Nat) (u:Ob) (hu:l[i]?=some u):∃ p cs,a=some p∧At I (p.add (i*6)) cs∧ObAt I u cs:=by
 obtain ⟨L,h1,h2,h3,h4⟩:=h
 obtain ⟨cs,h5,h6⟩:=h4 i u hu
 obtain ⟨p,rfl,hp⟩:=h3.2 (by have:=(Y5.1 hu).1; omega)
 refine ⟨p,cs,rfl,?_,h6⟩
 have h8:=X3e (hp.add (i*6)) 6
 rw [X1q L h2 i _ h5] at h8
 exact h8
theorem Xow {I:Im} {o:Ob} {cs:List Value} (h:ObAt I o cs):cs.length=6∧cs.all Value.oneCell'=true:=by
 obtain ⟨da,dc,rfl,_⟩:=h
 exact ⟨rfl,rfl⟩
theorem Xdt {I:Im} {a:Option Addr} {o:Ob} {cs:List Value} (ho:ObAt I o cs) (hR:RS I a 6 1 cs):ObsAt I a [o]:=by
 refine ⟨[cs],rfl,fun c hc=>?_,by simpa using hR,fun i u hu=>?_⟩
 ·rw [Y4t.1 hc]; exact (Xow ho).1
 ·cases i with
  | zero=>simp at hu; subst hu; exact ⟨cs,rfl,ho⟩
  | succ i=>simp at hu
structure Ob.fits (o:Ob):Prop where
 d:∀ x∈o.d,x<18446744073709551616
 a:o.a.length≤maxLen
 b:o.b.length≤maxLen
def bigB (o:Ob):Bool:=(decide ((60:Int)<(o.a.length:Int)) || decide ((200:Int)<(o.b.length:Int))) || decide ((10:Int)<(o.d.length:Int))
def Xay (c:Cf) (l:List Rec) (ops:List Ob):Bool:=(l.all Xat && ops.all fun o=>!bigB o) && ((fewC c && decide ((l.length:Int)≤30)) && decide ((ops.length:Int)≤30))
def Xd (o:Ob) (names:List (List UInt8)):List UInt8:=if (decide (0<o.k) && decide (o.k≤(names.length:Int)))=true then (names[names.length - o.k.toNat]?).getD [] else o.a
theorem Xhw {o:Ob} {ns:List (List UInt8)} (ha:o.a.length≤60) (h:∀ t∈ns,t.length≤60):(Xd o ns).length≤60:=by
 unfold Xd
 split
 ·cases e:ns[ns.length - o.k.toNat]? with
  | none=>decide
  | some t=>exact h t (Yn e)
 ·exact ha
def X7 (c:Cf) (l:List Rec):Wd:=l.foldl X9n (w0 c)
theorem X6a (c:Cf) (l:List Rec):X39 (X7 c l):=Xbb l (w0_ok c)
theorem X5s {c:Cf} {l:List Rec} {ops:List Ob} (h:Xay c l ops=true):fewC c=true∧(∀ r∈l,r.name.length≤60∧r.parent.length≤60)∧l.length≤30∧ops.length≤30∧∀ o∈ops,o.a.length≤60∧o.b.length≤200∧o.d.length≤10:=by
 unfold Xay at h
 simp only [Ym,decide_eq_true_eq] at h
 refine ⟨h.2.1.1,fun r hr=>?_,by omega,by omega,fun o ho=>?_⟩
 ·have:=Y15.1 h.1.1 r hr
  unfold Xat at this
  simp only [Ym,decide_eq_true_eq] at this
  omega
 ·have:=Y15.1 h.1.2 o ho
  simp [bigB] at this
  omega
theorem X8i (c:Cf) (a:Option Addr) (cap:Nat) (ua:Option Addr) (ucap:Nat) (la:Option Addr) (lc:Nat) (l:List Rec) (hll:l.length≤9223372036854775807) (oa:Option Addr) (oc:Nat) (ops:List Ob) (hol:ops.length≤9223372036854775807) (B w:World) (I:Im) (hC:CfAt I c a cap ua ucap) (hR:RS I la 10 l.length (X28 X8 l)) (hO:ObsAt I oa ops) (As:List Xe) (hS:Sat B w I As) :
  Calls Tryz.prog 9 [.agg (Xl c a cap ua ucap).toArray,.slice la l.length lc,.slice oa ops.length oc].toArray w (Ret fun v w'=>v=.bool (Xay c l ops)∧Sat B w' I As):=by
 refine calls Tryz.func9 rfl Tryz.ntmps9 rfl (.seq (.region (.boxA (cs:=Xl c a cap ua ucap) hS (.of rfl) rfl ?_)))
 clear hS; intro b3 w hS
 refine .q 1 rfl (.nil (.seq (.seq (.q 1 rfl (.block (.loop (σ:=Nat) (fun i=>[(1,.slice la l.length lc),(2,.slice oa ops.length oc),(3,ptr b3 0),(7,I64 (i:Nat))]) (fun i w=>i≤l.length∧(∀ (j:Nat) r,j<i→l[j]?=some r→Xat r=true)∧Sat B w I (blk b3 (Xl c a cap ua ucap) 29::As)) (fun i=>l.length - i) 0 ⟨rfl,rfl,rfl,rfl,trivial⟩ ⟨Ys _,fun _ _ h=>absurd h (by omega),hS⟩ ?_))))))
 rintro i w ⟨hi,hno,hS⟩
 change WC _ _ _ _ [(1,.slice la l.length lc),(2,.slice oa ops.length oc),(3,ptr b3 0),(7,I64 (i:Nat))] w
 refine .seq (.seq (.region (.run 4 rfl ⟨⟨_,X3q⟩,trivial⟩ (.nil ?_))))
 refine WC.cond rfl (fun hb14=>?_) (fun hb14=>?_)
 ·
  have hc14:=hb14; try simp only [Y6] at hc14
  refine .skip (.seq (.block (.seq ?_)))
  obtain ⟨r,hr⟩:∃ r,l[i]?=some r:=⟨_,Y4 (by omega)⟩
  obtain ⟨p,hp9,hx⟩:=Xez (cells:=X8) (s:=10) (fun _=>rfl) hR hr
  subst hp9
  refine .t 2 rfl ?_
  refine WL.val (.indexAddrI (.of rfl) (.of rfl) (by omega) (by omega) X3q X1k) rfl ?_
  refine .val (.ldsI (.of rfl) hS hx X7u X1k rfl (fun _ _ h=>h)) rfl (.call Tryz.func45 rfl (X0 (.of rfl) X4) rfl (Xh3 r B _ I _ hS) ?_)
  clear hS
  rintro _ w ⟨rfl,hS⟩
  refine .q 1 rfl (.nil (.seq (.q 2 rfl ?_)))
  refine WC.cond rfl (fun hb23=>?_) (fun hb23=>?_)
  ·
   have hc23:=hb23; try simp only [Y6] at hc23
   refine .seq (.q 1 rfl (.ret (Xk Tryz.results9 rfl ?_)))
   refine ⟨_,rfl,congrArg Value.bool ?_,hS.drop (k:=0) rfl⟩
   have:l.all Xat=false:=Y2f.2 ⟨r,Yn hr,by simpa using hb23⟩
   rw [Xay,this]; rfl
  have hc23:=hb23; try simp only [Y6] at hc23
  refine .skip (.region (.run 3 rfl ⟨⟨by omega,by omega⟩,trivial⟩ (.nil ?_)))
  refine ⟨i+1,⟨rfl,rfl,rfl,rfl,trivial⟩,⟨by (try dsimp only); omega,fun j t hj ht=>?_,hS⟩,by (try dsimp only); omega⟩
  rcases Yw j i with h1 | h1
  ·exact hno j t h1 ht
  ·have e:j=i:=by omega
   subst e
   rw [hr] at ht; cases ht
   simpa using hb23
 have hc14:=hb14; try simp only [Y6] at hc14
 refine .exit (.seq (.seq ?_))
 have hil:i=l.length:=by omega
 subst hil
 have hallr:l.all Xat=true:=by
  rw [Y15]
  intro r hr
  obtain ⟨j,hj⟩:=Yx.1 hr
  have:=(Y5.1 hj).1
  exact hno j r (by omega) hj
 refine .q 1 rfl (.block (.loop (σ:=Nat) (fun i=>[(1,.slice la l.length lc),(2,.slice oa ops.length oc),(3,ptr b3 0),(9,I64 (i:Nat))]) (fun i w=>i≤ops.length∧(∀ (j:Nat) o,j<i→ops[j]?=some o→bigB o=false)∧Sat B w I (blk b3 (Xl c a cap ua ucap) 29::As)) (fun i=>ops.length - i) 0 ⟨rfl,rfl,rfl,rfl,trivial⟩ ⟨Ys _,fun _ _ h=>absurd h (by omega),hS⟩ ?_))
 rintro i w ⟨hi,hnq,hS⟩
 change WC _ _ _ _ [(1,.slice la l.length lc),(2,.slice oa ops.length oc),(3,ptr b3 0),(9,I64 (i:Nat))] w
 refine .seq (.seq (.region (.run 4 rfl ⟨⟨_,Xlz⟩,trivial⟩ (.nil ?_))))
 refine WC.cond rfl (fun hb27=>?_) (fun hb27=>?_)
 ·
  have hc27:=hb27; try simp only [Y6] at hc27
  refine .skip (.seq (.block (.seq ?_)))
  obtain ⟨o,ho⟩:∃ o,ops[i]?=some o:=⟨_,Y4 (by omega)⟩
  obtain ⟨p,cs,hp9,hq,da,dc,rfl,hdc,hdm,hd⟩:=hO.at i o ho
  subst hp9
  unfold Xbw at hq
  refine .t 2 rfl ?_
  refine WL.val (.indexAddrI (.of rfl) (.of rfl) (by omega) (by omega) Xlz Xnd) rfl ?_
  refine WL.val (.fieldAddrI 3 (.of rfl) Xc5 rfl rfl Qs9 rfl) rfl ?_
  refine WL.val (.ldI (.of rfl) hS (At.add hq _) Qg9 rfl) rfl ?_
  refine .run 3 rfl ⟨Qu9,trivial⟩ (.gval rfl rfl (fun hg1=>(.move (.of rfl))) rfl (.gval rfl rfl (fun hg1=>(.move (.of rfl))) rfl ?_))
  refine WL.gval rfl rfl (fun hg1=>(by exact .indexAddrI (.gd hg1 rfl) (.gd hg1 rfl) (by (try simp only [Y6] at hg1); omega) (by (try simp only [Y6] at hg1); omega) Xlz Xnd)) rfl ?_
  refine WL.gval rfl rfl (fun hg1=>(by exact .fieldAddrI 4 (.gd hg1 rfl) Xc5 rfl rfl Qs9 rfl)) rfl ?_
  refine WL.gval rfl rfl (fun hg1=>(by exact (.ldI (.gd hg1 rfl) hS (At.add hq _) Qg9 rfl))) rfl ?_
  refine .gval rfl rfl (fun hg1=>(.len (.gd hg1 rfl) Qu9)) rfl (.gval rfl rfl (fun hg1=>(.gtr (.gd hg1 rfl) (.of rfl))) rfl (.val (.por (.of rfl) (.of rfl) (.of rfl)) rfl (.q 1 rfl (.gval rfl rfl (fun hg1=>(.move (.of rfl))) rfl (.gval rfl rfl (fun hg1=>(.move (.of rfl))) rfl ?_)))))
  refine WL.gval rfl rfl (fun hg1=>(by exact .indexAddrI (.gd hg1 rfl) (.gd hg1 rfl) (by (try simp only [Y6] at hg1); omega) (by (try simp only [Y6] at hg1); omega) Xlz Xnd)) rfl ?_
  refine WL.gval rfl rfl (fun hg1=>(by exact .fieldAddrI 5 (.gd hg1 rfl) Xc5 rfl rfl Xly rfl)) rfl ?_
  refine WL.gval rfl rfl (fun hg1=>(by exact (.ldI (.gd hg1 rfl) hS (At.add hq _) Qg31 rfl))) rfl ?_
  refine .gval rfl rfl (fun hg1=>(.lenSlice (.gd hg1 rfl) Xpq)) rfl (.gval rfl rfl (fun hg1=>(.gtr (.gd hg1 rfl) (.of rfl))) rfl (.val (.por (.of rfl) (.of rfl) (.of rfl)) rfl (.nil ?_)))
  refine WC.cond rfl (fun hb54=>?_) (fun hb54=>?_)
  ·
   have hc54:=hb54; try simp only [Y6] at hc54
   refine .seq (.q 1 rfl (.ret (Xk Tryz.results9 rfl ?_)))
   refine ⟨_,rfl,congrArg Value.bool ?_,hS.drop (k:=0) rfl⟩
   have:(ops.all fun o=>!bigB o)=false:=Y2f.2 ⟨o,Yn ho,by rw [show bigB o=true from hb54]; decide⟩
   rw [Xay,this,Y3z]; rfl
  have hc54:=hb54; try simp only [Y6] at hc54
  refine .skip (.region (.run 3 rfl ⟨⟨by omega,by omega⟩,trivial⟩ (.nil ?_)))
  refine ⟨i+1,⟨rfl,rfl,rfl,rfl,trivial⟩,⟨by (try dsimp only); omega,fun j t hj ht=>?_,hS⟩,by (try dsimp only); omega⟩
  rcases Yw j i with h1 | h1
  ·exact hnq j t h1 ht
  ·have e:j=i:=by omega
   subst e
   rw [ho] at ht; cases ht
   exact hb54
 have hc27:=hb27; try simp only [Y6] at hc27
 refine .exit (.seq (.region ?_))
 refine WL.val (.lds (vs:=Xl c a cap ua ucap) (.of rfl) hS (k:=0) rfl Xob Xm0 rfl (fun j v hj=>by rw [Yf]; exact hj)) rfl ?_
 refine .call Tryz.func46 rfl (X0 (.of rfl) X4) rfl (Xmj c a cap ua ucap hC.cap.1 hC.cap.2 hC.un hC.ufit B _ I hC.svs hC.us _ hS) ?_
 clear hS
 rintro _ w ⟨rfl,hS⟩
 refine .q 1 rfl (.nil (.seq (.t 2 rfl (.gval rfl rfl (fun hg1=>(.move (.of rfl))) rfl (.gval rfl rfl (fun hg1=>(.lenSlice (.gd hg1 rfl) X3q)) rfl (.gval rfl rfl (fun hg1=>(.leq (.gd hg1 rfl) (.of rfl))) rfl (.val (.pand (.of rfl) (.of rfl) (.of rfl)) rfl (.q 1 rfl (.gval rfl rfl (fun hg1=>(.move (.of rfl))) rfl (.gval rfl rfl (fun hg1=>(.lenSlice (.gd hg1 rfl) Xlz)) rfl (.gval rfl rfl (fun hg1=>(.leq (.gd hg1 rfl) (.of rfl))) rfl (.val (.pand (.of rfl) (.of rfl) (.of rfl)) rfl (.q 1 rfl (.nil (.ret (Xk Tryz.results9 rfl ?_))))))))))))))))
 refine ⟨_,rfl,congrArg Value.bool ?_,hS.drop (k:=0) rfl⟩
 have:(ops.all fun o=>!bigB o)=true:=by
  rw [Y15]
  intro q hq
  obtain ⟨j,hj⟩:=Yx.1 hq
  have:=(Y5.1 hj).1
  rw [hnq j q (by omega) hj]; rfl
 rw [Xay,hallr,this]; rfl
theorem Xkv (o:Ob) (da:Option Addr) (dc:Nat) (a:Option Addr) (c:Nat) (names:List (List UInt8)) (hl:names.length≤9223372036854775807) (B w:World) (I:Im) (As:List Xe) (hE:∀ w,Sat B w I As→Xbd w Xde 1 a names) (hS:Sat B w I As) :
  Calls Tryz.prog 22 [.agg (Xbw o da dc).toArray,.slice a names.length c].toArray w (Ret fun v w'=>v=S (Xd o names)∧Sat B w' I As):=by
 refine calls Tryz.func22 rfl Tryz.ntmps22 rfl (.seq (.region (.boxA (cs:=[I64 o.act,I64 o.n,I64 o.k,S o.a,S o.b,.slice da o.d.length dc]) hS (.of rfl) rfl ?_)))
 clear hS; intro b2 w hS
 refine .q 1 rfl (.nil (.seq (.seq (.region ?_))))
 refine WL.val (.fieldAddr 2 (.of rfl) Xc5 rfl rfl Qs3 rfl) rfl ?_
 refine .val (.ld (.of rfl) hS (k:=0) rfl Qg3 rfl) rfl (.q 2 rfl ?_)
 refine WL.gval rfl rfl (fun hg1=>(by exact .fieldAddr 2 (.of rfl) Xc5 rfl rfl Qs3 rfl)) rfl ?_
 refine .gval rfl rfl (fun hg1=>(.ld (.gd hg1 rfl) hS (k:=0) rfl Qg3 rfl)) rfl (.gval rfl rfl (fun hg1=>(.move (.of rfl))) rfl (.gval rfl rfl (fun hg1=>(.lenSlice (.gd hg1 rfl) X1s)) rfl (.gval rfl rfl (fun hg1=>(.leq (.gd hg1 rfl) (.gd hg1 rfl))) rfl (.val (.pand (.of rfl) (.of rfl) (.of rfl)) rfl (.nil ?_)))))
 refine WC.cond rfl (fun hb14=>?_) (fun hb14=>?_)
 ·
  have hc14:=hb14; try simp only [Y6] at hc14
  refine .seq ?_
  have hk9:=hb14
  simp only [Ym,decide_eq_true_eq] at hk9
  obtain ⟨k,hk⟩:∃ k,k=names.length - o.k.toNat:=⟨_,rfl⟩
  obtain ⟨x,hx⟩:∃ x,names[k]?=some x:=⟨_,Y4 (by omega)⟩
  obtain ⟨p,rfl,hA⟩:=hE w (hS.drop (k:=0) rfl) k x hx
  have hc0:=hA 0 _ rfl
  refine .region (.run 3 rfl ⟨⟨_,X1s⟩,trivial⟩ ?_)
  refine WL.val (.fieldAddr 2 (.of rfl) Xc5 rfl rfl Qs3 rfl) rfl ?_
  refine .val (.ld (.of rfl) hS (k:=0) rfl Qg3 rfl) rfl (.val (.sub (.of rfl) (.of rfl) ⟨by omega,by omega⟩) rfl ?_)
  rw [show ((names.length:Nat):Int) - o.k=((k:Nat):Int) by omega]
  refine WL.val (.indexAddrI (.of rfl) (.of rfl) (by omega) (by omega) X1s Qs9) rfl ?_
  refine .val (v:=S x) (.ld1 (.of rfl) (by simpa [Addr.add_add] using hc0) Qg9) rfl (.q 1 rfl (.nil (.ret (Xk Tryz.results22 rfl ?_))))
  exact ⟨_,rfl,congrArg S (by rw [Xd,if_pos hb14,← hk,hx]; rfl),hS.drop (k:=0) rfl⟩
 have hc14:=hb14; try simp only [Y6] at hc14
 refine .skip (.seq (.region ?_))
 refine WL.val (.fieldAddr 3 (.of rfl) Xc5 rfl rfl Qs9 rfl) rfl ?_
 refine .val (.ld (.of rfl) hS (k:=0) rfl Qg9 rfl) rfl (.q 1 rfl (.nil (.ret (Xk Tryz.results22 rfl ?_))))
 exact ⟨_,rfl,congrArg S (by rw [Xd,if_neg (by rw [hb14]; decide)]),hS.drop (k:=0) rfl⟩
theorem X55 (c:Cf) (a:Option Addr) (cap:Nat) (ua:Option Addr) (ucap:Nat) (hc:c.fits) (la:Option Addr) (lc:Nat) (l:List Rec) (hll:l.length≤9223372036854775807) (hsr:∀ r∈l,r.name.length≤60∧r.parent.length≤60) (B w:World) (I:Im) (hK:Known I) (hP:PreAt I) (hC:CfAt I c a cap ua ucap) (hR:RS I la 10 l.length (X28 X8 l)) (As:List Xe) (hS:Sat B w I As) :
  Calls Tryz.prog 10 [.agg (Xl c a cap ua ucap).toArray,.slice la l.length lc].toArray w (Ret fun v w'=>∃ J pv,Le I J∧v=.pointer pv∧MadeT c (X7 c l) J pv B w' As):=by
 refine calls Qf10 rfl Tryz.ntmps10 rfl (.seq (.region (.boxA (cs:=Xl c a cap ua ucap) hS (.of rfl) rfl ?_)))
 clear hS; intro b2 w hS
 refine .q 1 rfl (.nil (.seq (.region ?_)))
 refine WL.val (.lds (vs:=Xl c a cap ua ucap) (.of rfl) hS (k:=0) rfl Xob Xm0 rfl (fun j v hj=>by rw [Yf]; exact hj)) rfl ?_
 refine .call Tryz.func47 rfl (X0 (.of rfl) X4) rfl (Xda c hc a cap ua ucap B _ I hK hP hC.svs hC.us _ hS) ?_
 clear hS
 rintro v w ⟨J,hJ,hcase⟩
 obtain ⟨pv,e9,rfl,hcs⟩:∃ (pv:Option Addr) (e9:Nat),v=.tuple #[.pointer pv,I64 (e9:Nat)]∧((Xb1 c≠0∧pv=none∧Sat B w J (blk b2 (Xl c a cap ua ucap) 29::As))∨(Xb1 c=0∧∃ p D,Srt.Ord (kx (ords c.svs)) c.svs.length D∧p.lo=X4a c.svs D∧p.us=c.us∧p.ps=c.ps∧pv=some (ad p.wb 0)∧WpOk J p∧Sat B w J (wdA p (w0 c)::blk b2 (Xl c a cap ua ucap) 29::As))):=by
  rcases hcase with ⟨h1,h2,h3⟩ | ⟨h1,p,D,h2,h3,h4,h5,h6,h7,h8⟩
  ·exact ⟨_,_,h2,.inl ⟨h1,rfl,h3⟩⟩
  ·exact ⟨_,0,h6,.inr ⟨h1,p,D,h2,h3,h4,h5,rfl,h7,h8⟩⟩
 refine .q 5 rfl (.nil (.seq (.seq (.t 1 rfl (.val (.eqp (.of rfl) (.of rfl) Qu37) rfl (.nil ?_))))))
 refine WC.cond rfl (fun hb14=>?_) (fun hb14=>?_)
 ·
  have hc14:=hb14; try simp only [Y6] at hc14
  refine .seq (.q 1 rfl (.ret (Xk Tryz.results10 rfl ?_)))
  rcases hcs with ⟨h1,rfl,hS⟩ | ⟨_,p,D,_,_,_,_,h9,_⟩
  ·exact ⟨_,rfl,J,none,hJ,rfl,.inl ⟨h1,rfl,hS.drop (k:=0) rfl⟩⟩
  ·exfalso; rw [h9] at hb14; cases hb14
 have hc14:=hb14; try simp only [Y6] at hc14
 refine .skip (.seq (.seq (.q 1 rfl (.block ?_))))
 rcases hcs with ⟨_,h9,_⟩ | ⟨hz,p,D,hD,hlo,hus,hps,hpv,hI,hS⟩
 ·exfalso; rw [h9] at hb14; cases hb14
 subst hpv
 refine .loop (σ:=Nat) (fun i=>[(1,.slice la l.length lc),(5,ptr p.wb 0),(7,I64 (i:Nat))]) (fun i w=>i≤l.length∧Sat B w J (wdA p ((l.take i).foldl X9n (w0 c))::blk b2 (Xl c a cap ua ucap) 29::As)) (fun i=>l.length - i) 0 ⟨rfl,rfl,rfl,trivial⟩ ⟨Ys _,hS⟩ ?_
 rintro i w ⟨hi,hS⟩
 change WC _ _ _ _ [(1,.slice la l.length lc),(5,ptr p.wb 0),(7,I64 (i:Nat))] w
 refine .seq (.seq (.region (.run 4 rfl ⟨⟨_,X3q⟩,trivial⟩ (.nil ?_))))
 refine WC.cond rfl (fun hb18=>?_) (fun hb18=>?_)
 ·
  have hc18:=hb18; try simp only [Y6] at hc18
  refine .skip (.seq (.block ?_))
  obtain ⟨⟨a9,c9,ma9,mc9⟩,hS⟩:=Sat.unbox hS
  replace hS:Sat B _ _ (blk p.wb (wdC p ((l.take i).foldl X9n (w0 c))) 44::blk p.tb [I64 ((l.take i).foldl X9n (w0 c)).room,.slice a9 ((l.take i).foldl X9n (w0 c)).l.length c9] 114::Vec 54 10 (.slice a9 ((l.take i).foldl X9n (w0 c)).l.length c9) ((l.take i).foldl X9n (w0 c)).l.length (Xh ((l.take i).foldl X9n (w0 c)).l)::blk p.mb [.slice ma9 ((l.take i).foldl X9n (w0 c)).D.length mc9] 111::X2l 104 (.slice ma9 ((l.take i).foldl X9n (w0 c)).D.length mc9) (((l.take i).foldl X9n (w0 c)).D.map fun d=>U64 (d:Nat))::_):=hS
  obtain ⟨r,hr⟩:∃ r,l[i]?=some r:=⟨_,Y4 (by omega)⟩
  obtain ⟨pp,hp9,hx⟩:=Xez (cells:=X8) (s:=10) (fun _=>rfl) hR hr
  subst hp9
  have hω:=Xbb (l.take i) (w0_ok c)
  have hlen:=hω.len
  refine .drawn (fun w=>∃ R,Sat B w J (blk p.wb (wdC p ((l.take i).foldl X9n (w0 c))) 44::R)) (fun j=>!([].contains j)) (by kernel_rfl) ?_
  replace hS:=hS.drew; generalize w.drew=w at hS ⊢
  have hH:∃ R,Sat B w J (blk p.wb (wdC p ((l.take i).foldl X9n (w0 c))) 44::R):=⟨_,(hS.pick 0 rfl)⟩
  refine .tp (i:=0) rfl (by kernel_rfl) (fun w=>(.move (.of rfl))) rfl (.tp (i:=1) rfl (by kernel_rfl) (fun w=>(.nilCheck (.of rfl))) rfl ?_)
  refine WD.tp (i:=2) rfl (by kernel_rfl) (fun w=>(.fieldAddr 0 (.of rfl) X3b rfl rfl X6w rfl)) rfl ?_
  refine .tk (i:=3) rfl (by kernel_rfl) hH (fun w ⟨R,hS⟩=>(.ld (.of rfl) hS (k:=0) rfl X64 rfl)) rfl (.tp (i:=4) rfl (by kernel_rfl) (fun w=>(.move (.of rfl))) rfl (.tp (i:=5) rfl (by kernel_rfl) (fun w=>(.move (.of rfl))) rfl ?_))
  refine WD.tp (i:=6) rfl (by kernel_rfl) (fun w=>(.indexAddrI (.of rfl) (.of rfl) (by omega) (by omega) X3q X1k)) rfl ?_
  refine .tk (i:=7) rfl (by kernel_rfl) hH (fun w ⟨R,hS⟩=>.ldsI (.of rfl) hS (hx.mono hJ) X7u X1k rfl (fun _ _ h=>h)) rfl ?_
  refine WD.branch [8] (by kernel_rfl) rfl (WO.cons rfl ?_ (WO.nil))
  refine WL.call Tryz.func48 rfl (X0 (.of rfl) (X0 (.of rfl) X4)) rfl (Xlu p.tb ((l.take i).foldl X9n (w0 c)).room a9 c9 ((l.take i).foldl X9n (w0 c)).l (by omega) r (by have:=hsr r (Yn hr); omega) (by have:=hsr r (Yn hr); omega) B _ J hI.known hI.pre _ ((hS.pick 2 rfl).pick 2 rfl)) ?_
  clear hS
  rintro _ w ⟨rfl,a2,c2,hS⟩
  try dsimp only [List.eraseIdx] at hS
  refine .nil ?_
  clear hH
  have hH:∃ R,Sat B w J (blk p.wb (wdC p ((l.take i).foldl X9n (w0 c))) 44::R):=⟨_,(hS.pick 2 rfl)⟩
  refine And.intro (by intro _ _; exact hH) ?_
  refine .done (by kernel_rfl) (.region (.run 3 rfl ⟨⟨by omega,by omega⟩,trivial⟩ (.nil ?_)))
  replace hS:=Sat.box (T:=wdT p (X9n ((l.take i).foldl X9n (w0 c)) r)) (a2,c2,ma9,mc9) (((((hS.pick 4 rfl).pick 4 rfl).pick 3 rfl).pick 3 rfl).pick 4 rfl)
  try dsimp only [List.eraseIdx] at hS
  refine ⟨i+1,⟨rfl,rfl,rfl,trivial⟩,⟨by (try dsimp only); omega,?_⟩,by (try dsimp only); omega⟩
  show Sat B _ J (wdA p ((l.take (i+1)).foldl X9n (w0 c))::_)
  rw [Y17,hr,Y1y,Y3g]
  exact hS
 have hc18:=hb18; try simp only [Y6] at hc18
 refine .exit (.seq ?_)
 have hil:i=l.length:=by omega
 subst hil
 rw [Y1c] at hS
 refine .q 2 rfl (.ret (Xk Tryz.results10 rfl ?_))
 exact ⟨_,rfl,J,_,hJ,rfl,.inr ⟨hz,p,D,hD,hlo,hus,hps,rfl,hI,hS.drop (k:=1) rfl⟩⟩
theorem X2w (kind:Int) (d:Nat) (hk:¬ X7c kind=[]) (hd:d<18446744073709551616) (B w:World) (I:Im) (As:List Xe) (hS:Sat B w I As) :
  Calls Tryz.prog 44 [I64 kind,U64 (d:Nat)].toArray w (Ret fun v w'=>v=S (X7c kind ++ 45::X7r 16 d)∧Sat B w' I As):=by
 refine calls Xs6 rfl Tryz.ntmps44 rfl (.seq (.q 1 rfl (.seq (.t 2 rfl (.call Tryz.func99 rfl (X0 (.of rfl) (X0 (.of rfl) X4)) rfl (Xed kind d hd B _ I _ hS) ?_)))))
 clear hS
 rintro v w ⟨hv9,hS⟩
 rw [if_neg hk] at hv9
 subst hv9
 refine .q 5 rfl (.nil (.seq (.q 2 rfl (.ret (Xk Tryz.results44 rfl ?_)))))
 exact ⟨_,rfl,rfl,hS⟩
theorem Xqm:Bld Tryz.prog 29 [(0,1),(1,1),(2,21),(23,1),(24,1),(25,1),(26,1),(27,1)] [.slice none 0 0,.slice none 0 0,.int .i64 0,.int .i64 0,.int .i64 0,.int .i64 0,.int .i64 0,.int .i64 0,.int .i64 0,.int .i64 0,.int .i64 0,.int .i64 0,.int .i64 0,.int .i64 0,.int .i64 0,.int .i64 0,.int .i64 0,.int .i64 0,.int .i64 0,.int .i64 0,.int .i64 0,.int .i64 0,.int .i64 0,.int .i64 0,.float .f64 0,.float .f64 0,.float .f64 0,.int .i64 0]:=X30 Xiq Tryz.zeroValue29 (fun w=>by simp [go_sem])
def AS1:Sv:=⟨1,0,[104,116,116,112,58,47,47,97,47,42,42],false,true,false,[104,116,116,112,115,58,47,47,97,47,42,42],[]⟩
def AS2:Sv:=⟨2,0,[104,116,116,112,115,58,47,47,98,47,42,42],false,false,false,[],[]⟩
def AXC:Cf:=⟨[AS1,AS2],[],fun _=>0,9,0,0,0,0⟩
def AX1:Rec:=⟨1,X7c 1 ++ 45::X7r 16 1,[],[117],[],[],0,0,0,false⟩
def AX2:Rec:=⟨2,X7c 2 ++ 45::X7r 16 2,X7c 1 ++ 45::X7r 16 1,[117],[104,116,116,112,58,47,47,97,47,120],[],0,0,1,false⟩
def AXN:List UInt8:=X7c 2 ++ 45::X7r 16 2
def AXB:List UInt8:=[104,116,116,112,115,58,47,47,97,47,99,98]
def AXT:List UInt8:=[104,116,116,112,115,58,47,47,98,47]
def AXW:Wd:=X9 (X7 AXC [AX1,AX2]) [3,4,5,6,7]
def xk1 (lo:List Sv):=Xc lo AXW AXN AXB
def xi1 (lo:List Sv) (ps:Nat→Int):=Xi lo ps (xk1 lo).2 (xk1 lo).1.1.pgt AXT
def xa1 (lo:List Sv) (ps:Nat→Int):=Xg (xi1 lo ps).2 (xk1 lo).1.1.iou 200
def xi2 (lo:List Sv) (ps:Nat→Int):=Xi lo ps (xa1 lo ps).2 (xk1 lo).1.1.pgt AXT
def xk2 (lo:List Sv) (ps:Nat→Int):=Xc lo (xi2 lo ps).2 AXN AXB
def xa2 (lo:List Sv) (ps:Nat→Int):=Xg (xk2 lo ps).2 (xk2 lo ps).1.1.iou 404
theorem Xq1:Xb1 AXC=0:=by kernel_rfl
theorem Xrl:Srt.Ord (kx (ords [AS1,AS2])) 2 [0,1]:=⟨by decide +kernel,by decide +kernel⟩
theorem Xn4:AXC.fits:=⟨by decide,by decide +kernel,by decide +kernel,by decide,fun u hu=>by simp [AXC] at hu⟩
theorem X9k:X39 AXW:=X67 (X6a AXC [AX1,AX2]) (by decide)
theorem callW_short {lo:List Sv} {ω:Wd} {t cb:List UInt8}:(Xc lo ω t cb).1.1.pgt.length≤23∧(Xc lo ω t cb).1.1.iou.length≤23:=by
 unfold Xc
 repeat' split
 all_goals first | exact ⟨Ys _,Ys _⟩ | exact ⟨X8x,X8x⟩
theorem Xoc {J:Im} {s:Nat} {E:TypeId} (h1:J s=some (Xr [I64 1,F64 0,S AS1.urls,.bool false,.bool true,.bool false,S AS1.calls,.slice none 0 0,I64 2,F64 0,S AS2.urls,.bool false,.bool false,.bool false,S [],.slice none 0 0] E)):CfAt J AXC (some (ad s 0)) 2 none 0:=by
 refine ⟨fun i t ht=>?_,fun i t ht=>by simp [AXC] at ht,by decide,by decide,fun t ht=>?_,fun u hu=>by simp [AXC] at hu⟩
 ·match i,ht with
  | 0,ht=>cases ht; exact ⟨_,none,0,rfl,X3e (X31 h1) 8,Yr _,RS.nil _ _⟩
  | 1,ht=>cases ht; exact ⟨_,none,0,rfl,(X31 h1).add 8,Yr _,RS.nil _ _⟩
  | i+2,ht=>simp [AXC] at ht
 ·simp only [AXC,Y14,Y56,or_false] at ht
  rcases ht with rfl | rfl <;> (constructor <;> decide +kernel)
set_option maxRecDepth 20000 in
theorem X5p (B w:World) (I:Im) (hK:Known I) (hP:PreAt I) (As:List Xe) (hS:Sat B w I As) :
  Calls Tryz.prog 8 [].toArray w (Ret fun v w'=>v=.bool true∧Sat B w' I As):=by
 refine calls Tryz.func8 rfl Tryz.ntmps8 rfl (.seq (.q 1 rfl (.seq (.region (.val (.build (cs:=[_,_,_,_,_,_,_,_]) (X5 (.of rfl) (X5 (.of rfl) (X5 (.of rfl) (X5 (.of rfl) X6)))) X3c rfl) rfl (.val (.build (cs:=[_,_,_,_,_,_,_,_]) (X5 (.of rfl) (X5 (.of rfl) X6)) X3c rfl) rfl (.buildSlice (cs:=[_,_,_,_,_,_,_,_,_,_,_,_,_,_,_,_]) hS (X5 (.of rfl) (X5 (.of rfl) X6)) Xb4 X38 Xih rfl rfl rfl rfl ?_)))))))
 clear hS; intro b22 w hS
 refine .val (.build (cs:=[_,_,_,_,_,_,_,_,_,_,_,_,_,_,_,_,_,_,_,_,_,_,_,_,_,_,_,_]) (X5 (.of rfl) (X5 (.of rfl) X6)) Xqm rfl) rfl (.allocA (cs:=[_,_,_,_,_,_,_,_,_,_,_,_,_,_,_,_,_,_,_,_,_,_,_,_,_,_,_,_]) hS Tryz.zeroValue29 rfl ?_)
 clear hS; intro b1 w hS
 refine WL.stA hS (k:=0) rfl (.of rfl) (.of rfl) rfl Xm0 rfl (by simp) ?_
 clear hS; intro w hS; try dsimp only [List.set] at hS
 try simp only [Yj,Ye,Y9,Y7,Yi,Yo,Yf] at hS
 refine .nil (.seq (.drawn (fun w=>∃ J9 R,Le I J9∧Sat B w J9 (blk b1 (Xl AXC (some (ad b22 0)) 2 none 0) 29::R)) (fun j=>!([].contains j)) (by kernel_rfl) ?_))
 replace hS:=hS.drew; generalize w.drew=w at hS ⊢
 have hH:∃ J9 R,Le I J9∧Sat B w J9 (blk b1 (Xl AXC (some (ad b22 0)) 2 none 0) 29::R):=⟨_,_,Le.refl _,(hS.pick 0 rfl)⟩
 refine WD.tk (i:=0) rfl (by kernel_rfl) hH (fun w ⟨J9,R,hL9,hS⟩=>((.ldsW (cs:=[_,_,_,_,_,_,_,_,_,_,_,_,_,_,_,_,_,_,_,_,_,_,_,_,_,_,_,_]) (.of rfl) hS (k:=0) rfl Xob Xm0 rfl))) rfl ?_
 refine WD.branch [1] (by kernel_rfl) rfl (WO.cons rfl ?_ (WO.nil))
 refine .call Xs6 rfl (X0 (.of rfl) (X0 (.of rfl) X4)) rfl (X2w 1 1 (by decide) (by decide) B _ I _ hS) ?_
 clear hS
 rintro _ w ⟨rfl,hS⟩
 refine .nil ?_
 clear hH
 have hH:∃ J9 R,Le I J9∧Sat B w J9 (blk b1 (Xl AXC (some (ad b22 0)) 2 none 0) 29::R):=⟨_,_,Le.refl _,(hS.pick 0 rfl)⟩
 refine And.intro (by intro _ _; exact hH) ?_
 refine .tp (i:=2) rfl (by kernel_rfl) (fun w=>(.build (cs:=[_,_,_,_,_,_,_,_,_,_]) (X5 (.of rfl) (X5 (.of rfl) (X5 (.of rfl) X6))) X3u rfl)) rfl ?_
 refine WD.branch [3] (by kernel_rfl) rfl (WO.cons rfl ?_ (WO.nil))
 refine .call Xs6 rfl (X0 (.of rfl) (X0 (.of rfl) X4)) rfl (X2w 2 2 (by decide) (by decide) B _ I _ hS) ?_
 clear hS
 rintro _ w ⟨rfl,hS⟩
 refine .nil ?_
 clear hH
 have hH:∃ J9 R,Le I J9∧Sat B w J9 (blk b1 (Xl AXC (some (ad b22 0)) 2 none 0) 29::R):=⟨_,_,Le.refl _,(hS.pick 0 rfl)⟩
 refine And.intro (by intro _ _; exact hH) ?_
 refine WD.branch [4] (by kernel_rfl) rfl (WO.cons rfl ?_ (WO.nil))
 refine .call Xs6 rfl (X0 (.of rfl) (X0 (.of rfl) X4)) rfl (X2w 1 1 (by decide) (by decide) B _ I _ hS) ?_
 clear hS
 rintro _ w ⟨rfl,hS⟩
 refine .nil ?_
 clear hH
 have hH:∃ J9 R,Le I J9∧Sat B w J9 (blk b1 (Xl AXC (some (ad b22 0)) 2 none 0) 29::R):=⟨_,_,Le.refl _,(hS.pick 0 rfl)⟩
 refine And.intro (by intro _ _; exact hH) ?_
 refine .tp (i:=5) rfl (by kernel_rfl) (fun w=>(.build (cs:=[_,_,_,_,_,_,_,_,_,_]) (X5 (.of rfl) (X5 (.of rfl) (X5 (.of rfl) (X5 (.of rfl) (X5 (.of rfl) (X5 (.of rfl) X6)))))) X3u rfl)) rfl ?_
 refine WD.branch [6] (by kernel_rfl) rfl (WO.cons rfl ?_ (WO.nil))
 refine .buildSlice (cs:=[_,_,_,_,_,_,_,_,_,_,_,_,_,_,_,_,_,_,_,_]) hS (X5 (.of rfl) (X5 (.of rfl) X6)) X3q X1k X6j rfl rfl rfl rfl ?_
 clear hS; intro b30 w hS
 refine .nil ?_
 clear hH
 have hH:∃ J9 R,Le I J9∧Sat B w J9 (blk b1 (Xl AXC (some (ad b22 0)) 2 none 0) 29::R):=⟨_,_,Le.refl _,(hS.pick 1 rfl)⟩
 refine And.intro (by intro _ _; exact hH) ?_
 refine WD.branch [7] (by kernel_rfl) rfl (WO.cons rfl ?_ (WO.nil))
 obtain ⟨J1,hJ1,hb30,hS⟩:=hS.freeze (k:=0) rfl
 try dsimp only [List.eraseIdx] at hS
 obtain ⟨J2,hJ2,hb22,hS⟩:=hS.freeze (k:=1) rfl
 try dsimp only [List.eraseIdx] at hS
 have hRr:RS J2 (some (ad b30 0)) 10 2 (X28 X8 [AX1,AX2]):=⟨rfl,fun _=>⟨_,rfl,(X31 hb30).mono hJ2⟩⟩
 have hI9:=hJ1.trans hJ2
 refine .call Qf10 rfl (X0 (.of rfl) (X0 (.of rfl) X4)) rfl (X55 AXC (some (ad b22 0)) 2 none 0 Xn4 (some (ad b30 0)) 2 [AX1,AX2] (by decide) (by decide) B _ J2 (hK.mono hI9) (hP.mono hI9) (Xoc hb22) hRr _ hS) ?_
 clear hS
 rintro _ w ⟨J,pv,hJ,rfl,hcs⟩
 obtain ⟨_,p,D,hD,hlo,hus,hps,rfl,hI,hS⟩:=hcs.resolve_left (fun h=>h.1 Xq1)
 obtain rfl:D=[0,1]:=hD.unique Xrl
 have hlo:p.lo=[AS1,AS2]:=hlo
 have hps:p.ps=fun _=>0:=hps
 have hIJ:=hI9.trans hJ
 refine .nil ?_
 clear hH
 have hH:∃ J9 R,Le I J9∧Sat B w J9 (blk b1 (Xl AXC (some (ad b22 0)) 2 none 0) 29::R):=⟨_,_,hIJ,(hS.pick 1 rfl)⟩
 refine And.intro (by intro _ _; exact hH) ?_
 refine .tp (i:=8) rfl (by kernel_rfl) (fun w=>(.assign (.of rfl))) rfl (.done (by kernel_rfl) (.seq (.seq ?_)))
 obtain ⟨⟨a,c,ma,mc⟩,hS⟩:=Sat.unbox hS
 replace hS:Sat B _ _ (blk p.wb (wdC p (X7 AXC [AX1,AX2])) 44::blk p.tb [I64 (X7 AXC [AX1,AX2]).room,.slice a (X7 AXC [AX1,AX2]).l.length c] 114::Vec 54 10 (.slice a (X7 AXC [AX1,AX2]).l.length c) (X7 AXC [AX1,AX2]).l.length (Xh (X7 AXC [AX1,AX2]).l)::blk p.mb [.slice ma (X7 AXC [AX1,AX2]).D.length mc] 111::X2l 104 (.slice ma (X7 AXC [AX1,AX2]).D.length mc) ((X7 AXC [AX1,AX2]).D.map fun d=>U64 (d:Nat))::_):=hS
 refine .t 1 rfl (.val (.eqp (.of rfl) (.of rfl) Qu37) rfl (.q 1 rfl (.gval rfl rfl (fun hg1=>(.move (.of rfl))) rfl (.gval rfl rfl (fun hg1=>(.nilCheck (.gd hg1 rfl))) rfl ?_))))
 refine WL.gval rfl rfl (fun hg1=>(by exact .fieldAddr 1 (.gd hg1 rfl) X3b rfl rfl Qs40 rfl)) rfl ?_
 refine WL.gval rfl rfl (fun hg1=>(by exact (.ld (.gd hg1 rfl) hS (k:=0) rfl Qg40 rfl))) rfl ?_
 refine .gval rfl rfl (fun hg1=>(.eqp (.gd hg1 rfl) (.of rfl) Tryz.underlying40)) rfl (.val (.por (.of rfl) (.of rfl) (.of rfl)) rfl (.nil (.condF (rfl) (.skip (.seq (.t 2 rfl ?_))))))
 refine WL.val (.fieldAddr 1 (.of rfl) X3b rfl rfl Qs40 rfl) rfl ?_
 refine WL.val (.ld (.of rfl) hS (k:=0) rfl Qg40 rfl) rfl ?_
 refine .buildSlice (cs:=[_,_,_,_,_]) hS (X5 (.of rfl) (X5 (.of rfl) (X5 (.of rfl) (X5 (.of rfl) (X5 (.of rfl) X6))))) Xpq Xoz Tryz.zeroValue104 rfl rfl rfl rfl ?_
 clear hS; intro b45 w hS
 obtain ⟨J5,hJ5,hb45,hS⟩:=hS.freeze (k:=0) rfl
 try dsimp only [List.eraseIdx] at hS
 have hRd:RS J5 (some (ad b45 0)) 1 5 (([3,4,5,6,7]:List Nat).map fun d=>U64 (d:Nat)):=⟨rfl,fun _=>⟨_,rfl,X31 hb45⟩⟩
 have hI5:=hI.mono hJ5
 refine .call Qf11 rfl (X0 (.of rfl) (X0 (.of rfl) X4)) rfl (X7z p.mb ma mc (X7 AXC [AX1,AX2]).D (by decide) (some (ad b45 0)) 5 [3,4,5,6,7] (by decide) B _ J5 hRd _ ((hS.pick 4 rfl).pick 4 rfl)) ?_
 clear hS
 rintro _ w ⟨rfl,ma6,mc6,hS⟩
 try dsimp only [List.eraseIdx] at hS
 refine .nil (.seq ?_)
 replace hS:=Sat.box (T:=wdT p AXW) (a,c,ma6,mc6) (((((hS.pick 1 rfl).pick 1 rfl).pick 4 rfl).pick 4 rfl).pick 4 rfl)
 try dsimp only [List.eraseIdx] at hS
 refine .t 1 rfl (.call Xs6 rfl (X0 (.of rfl) (X0 (.of rfl) X4)) rfl (X2w 2 2 (by decide) (by decide) B _ J5 _ hS) ?_)
 clear hS
 rintro _ w ⟨rfl,hS⟩
 refine .call Qf13 rfl (X0 (.of rfl) (X0 (.of rfl) (X0 (.of rfl) X4))) rfl (X80 AXN AXB (by decide) (by decide) p AXW (X9k) B _ J5 hI5 _ hS) ?_
 clear hS
 rintro _ w ⟨rfl,hS⟩
 try dsimp only [List.eraseIdx] at hS
 refine .q 3 rfl (.allocA (cs:=[_,_,_]) hS Qz48 rfl ?_)
 clear hS; intro b3 w hS
 refine WL.stA hS (k:=0) rfl (.of rfl) (.of rfl) rfl Xec rfl (by simp) ?_
 clear hS; intro w hS; try dsimp only [List.set] at hS
 try simp only [Yj,Ye,Y9,Y7,Yi,Yo,Yf] at hS
 refine .q 1 rfl (.nil (.seq (.t 1 rfl ?_)))
 refine WL.val (.fieldAddr 1 (.of rfl) Xc3 rfl rfl Qs9 rfl) rfl ?_
 refine WL.val (.ld (.of rfl) hS (k:=0) rfl Qg9 rfl) rfl ?_
 refine .call Xpr rfl (X0 (.of rfl) (X0 (.of rfl) (X0 (.of rfl) X4))) rfl (X2y (xk1 p.lo).1.1.pgt AXT (Y2m (callW_short (lo:=p.lo)).1 (by decide)) (by decide) p (xk1 p.lo).2 (X15 X9k _ _) B _ J5 hI5 _ (hS.pick 1 rfl)) ?_
 clear hS
 rintro _ w ⟨rfl,hS⟩
 try dsimp only [List.eraseIdx] at hS
 refine .q 7 rfl (.nil (.seq (.t 1 rfl ?_)))
 refine WL.val (.fieldAddr 2 (.of rfl) Xc3 rfl rfl Qs9 rfl) rfl ?_
 refine WL.val (.ld (.of rfl) hS (k:=1) rfl Qg9 rfl) rfl ?_
 refine .call Qf23 rfl (X0 (.of rfl) (X0 (.of rfl) (X0 (.of rfl) X4))) rfl (X70 (xk1 p.lo).1.1.iou 200 p (xi1 p.lo p.ps).2 (X1c (X15 X9k _ _) _ _) B _ J5 hI5 _ hS) ?_
 clear hS
 rintro _ w ⟨rfl,hS⟩
 try dsimp only [List.eraseIdx] at hS
 refine .q 5 rfl (.nil (.seq (.t 1 rfl ?_)))
 refine WL.val (.fieldAddr 1 (.of rfl) Xc3 rfl rfl Qs9 rfl) rfl ?_
 refine WL.val (.ld (.of rfl) hS (k:=1) rfl Qg9 rfl) rfl ?_
 refine .call Xpr rfl (X0 (.of rfl) (X0 (.of rfl) (X0 (.of rfl) X4))) rfl (X2y (xk1 p.lo).1.1.pgt AXT (Y2m (callW_short (lo:=p.lo)).1 (by decide)) (by decide) p (xa1 p.lo p.ps).2 (X1z (X1c (X15 X9k _ _) _ _) _ _) B _ J5 hI5 _ hS) ?_
 clear hS
 rintro _ w ⟨rfl,hS⟩
 try dsimp only [List.eraseIdx] at hS
 refine .q 7 rfl (.nil (.seq (.t 1 rfl (.call Xs6 rfl (X0 (.of rfl) (X0 (.of rfl) X4)) rfl (X2w 2 2 (by decide) (by decide) B _ J5 _ hS) ?_))))
 clear hS
 rintro _ w ⟨rfl,hS⟩
 refine .call Qf13 rfl (X0 (.of rfl) (X0 (.of rfl) (X0 (.of rfl) X4))) rfl (X80 AXN AXB (by decide) (by decide) p (xi2 p.lo p.ps).2 (X1c (X1z (X1c (X15 X9k _ _) _ _) _ _) _ _) B _ J5 hI5 _ hS) ?_
 clear hS
 rintro _ w ⟨rfl,hS⟩
 try dsimp only [List.eraseIdx] at hS
 refine .q 3 rfl (.allocA (cs:=[_,_,_]) hS Qz48 rfl ?_)
 clear hS; intro b13 w hS
 refine WL.stA hS (k:=0) rfl (.of rfl) (.of rfl) rfl Xec rfl (by simp) ?_
 clear hS; intro w hS; try dsimp only [List.set] at hS
 try simp only [Yj,Ye,Y9,Y7,Yi,Yo,Yf] at hS
 refine .q 1 rfl (.nil (.seq (.t 1 rfl ?_)))
 refine WL.val (.fieldAddr 2 (.of rfl) Xc3 rfl rfl Qs9 rfl) rfl ?_
 refine WL.val (.ld (.of rfl) hS (k:=0) rfl Qg9 rfl) rfl ?_
 refine .call Qf23 rfl (X0 (.of rfl) (X0 (.of rfl) (X0 (.of rfl) X4))) rfl (X70 (xk2 p.lo p.ps).1.1.iou 404 p (xk2 p.lo p.ps).2 (X15 (X1c (X1z (X1c (X15 X9k _ _) _ _) _ _) _ _) _ _) B _ J5 hI5 _ (hS.pick 1 rfl)) ?_
 clear hS
 rintro _ w ⟨rfl,hS⟩
 try dsimp only [List.eraseIdx] at hS
 refine .q 5 rfl (.nil (.seq (.t 1 rfl ?_)))
 refine WL.val (.fieldAddr 1 (.of rfl) Xc3 rfl rfl Qs9 rfl) rfl ?_
 refine WL.val (.ld (.of rfl) hS (k:=1) rfl Qg9 rfl) rfl ?_
 refine .call Xpr rfl (X0 (.of rfl) (X0 (.of rfl) (X0 (.of rfl) X4))) rfl (X2y (xk2 p.lo p.ps).1.1.pgt AXT (Y2m (callW_short (lo:=p.lo)).1 (by decide)) (by decide) p (xa2 p.lo p.ps).2 (X1z (X15 (X1c (X1z (X1c (X15 X9k _ _) _ _) _ _) _ _) _ _) _ _) B _ J5 hI5 _ hS) ?_
 clear hS
 rintro _ w ⟨rfl,hS⟩
 try dsimp only [List.eraseIdx] at hS
 refine .q 7 rfl (.nil (.seq (.t 3 rfl ?_)))
 refine WL.gval rfl rfl (fun hg1=>(by exact .fieldAddr 0 (.of rfl) Xc3 rfl rfl Qs9 rfl)) rfl ?_
 refine WL.gval rfl rfl (fun hg1=>(by exact (.ld (.gd hg1 rfl) hS (k:=2) rfl Qg9 rfl))) rfl ?_
 refine .gval rfl rfl (fun hg1=>(.eqs (.gd hg1 rfl) (.of rfl))) rfl (.val (.pand (.of rfl) (.of rfl) (.of rfl)) rfl (.q 1 rfl (.gval rfl rfl (fun hg1=>(.move (.of rfl))) rfl (.gval rfl rfl (fun hg1=>(.eqs (.gd hg1 rfl) (.of rfl))) rfl (.val (.pand (.of rfl) (.of rfl) (.of rfl)) rfl (.q 1 rfl (.gval rfl rfl (fun hg1=>(.move (.of rfl))) rfl (.gval rfl rfl (fun hg1=>(.eql (.gd hg1 rfl) (.of rfl))) rfl (.val (.pand (.of rfl) (.of rfl) (.of rfl)) rfl (.q 1 rfl (.gval rfl rfl (fun hg1=>(.move (.of rfl))) rfl ?_)))))))))))
 refine WL.gval rfl rfl (fun hg1=>(by exact .fieldAddr 2 (.of rfl) Xc3 rfl rfl Qs9 rfl)) rfl ?_
 refine WL.gval rfl rfl (fun hg1=>(by exact (.ld (.gd hg1 rfl) hS (k:=2) rfl Qg9 rfl))) rfl ?_
 refine .gval rfl rfl (fun hg1=>(.eqs (.gd hg1 rfl) (.gd hg1 rfl))) rfl (.val (.pand (.of rfl) (.of rfl) (.of rfl)) rfl (.q 1 rfl (.gval rfl rfl (fun hg1=>(.move (.of rfl))) rfl (.gval rfl rfl (fun hg1=>(.eql (.gd hg1 rfl) (.of rfl))) rfl (.val (.pand (.of rfl) (.of rfl) (.of rfl)) rfl (.q 1 rfl (.gval rfl rfl (fun hg1=>(.move (.of rfl))) rfl (.gcall (T:=fun w=>Sat B w J5 _) rfl rfl rfl Xs6 rfl (fun hg1=>(X0 (.of rfl) (X0 (.of rfl) X4))) rfl (fun hg1=>X2w 3 5 (by decide) (by decide) B _ J5 _ hS) hS ?_))))))))
 clear hS; rintro w hS
 refine .gval rfl rfl (fun hg1=>(.eqs (.gd hg1 rfl) (.gd hg1 rfl))) rfl (.val (.pand (.of rfl) (.of rfl) (.of rfl)) rfl (.q 1 rfl (.gval rfl rfl (fun hg1=>(.move (.of rfl))) rfl (.gval rfl rfl (fun hg1=>(.eqs (.gd hg1 rfl) (.of rfl))) rfl (.val (.pand (.of rfl) (.of rfl) (.of rfl)) rfl (.q 1 rfl (.gval rfl rfl (fun hg1=>(.move (.of rfl))) rfl (.gval rfl rfl (fun hg1=>(.eql (.gd hg1 rfl) (.of rfl))) rfl (.val (.pand (.of rfl) (.of rfl) (.of rfl)) rfl (.q 1 rfl (.gval rfl rfl (fun hg1=>(.move (.of rfl))) rfl (.gval rfl rfl (fun hg1=>(.eql (.gd hg1 rfl) (.of rfl))) rfl (.val (.pand (.of rfl) (.of rfl) (.of rfl)) rfl (.q 1 rfl (.gval rfl rfl (fun hg1=>(.move (.of rfl))) rfl (.gval rfl rfl (fun hg1=>(.eql (.gd hg1 rfl) (.of rfl))) rfl (.val (.pand (.of rfl) (.of rfl) (.of rfl)) rfl (.q 1 rfl (.nil (.ret (Xk Tryz.results8 rfl ?_)))))))))))))))))))))
 refine ⟨_,rfl,?_,((((hS.drop (k:=0) rfl).drop (k:=0) rfl).drop (k:=0) rfl).drop (k:=0) rfl).weaken (hIJ.trans hJ5)⟩
 refine congrArg Value.bool ?_
 rw [hlo,hps]
 kernel_rfl
theorem X7m (a b:Option Addr) (ca cb:Nat) (la lb:List Rec) (hla:la.length≤9223372036854775807) (B w:World) (I:Im) (hA:RS I a 10 la.length (X28 X8 la)) (hB:RS I b 10 lb.length (X28 X8 lb)) (As:List Xe) (hS:Sat B w I As) :
  Calls Tryz.prog 14 [.slice a la.length ca,.slice b lb.length cb].toArray w (Ret fun v w'=>v=.bool (decide (la=lb))∧Sat B w' I As):=by
 refine calls Tryz.func14 rfl Tryz.ntmps14 rfl (.seq (.q 1 rfl (.seq (.seq (.region (.run 5 rfl ⟨⟨_,X3q⟩,⟨_,X3q⟩,trivial⟩ (.nil ?_)))))))
 refine WC.cond rfl (fun hb10=>?_) (fun hb10=>?_)
 ·
  have hc10:=hb10; try simp only [Y6] at hc10
  refine .seq (.q 1 rfl (.ret (Xk Tryz.results14 rfl ?_)))
  refine ⟨_,rfl,congrArg Value.bool (decide_eq_false fun e=>?_).symm,hS⟩
  subst e
  simp at hb10
 have hc10:=hb10; try simp only [Y6] at hc10
 refine .skip (.seq (.seq (.q 1 rfl (.block (.loop (σ:=Nat) (fun i=>[(0,.slice a la.length ca),(1,.slice b lb.length cb),(5,I64 (i:Nat))]) (fun i w=>i≤la.length∧(∀ (j:Nat),j<i→la[j]?=lb[j]?)∧Sat B w I As) (fun i=>la.length - i) 0 ⟨rfl,rfl,rfl,trivial⟩ ⟨Ys _,fun _ h=>absurd h (by omega),hS⟩ ?_)))))
 rintro i w ⟨hi,hsm,hS⟩
 change WC _ _ _ _ [(0,.slice a la.length ca),(1,.slice b lb.length cb),(5,I64 (i:Nat))] w
 refine .seq (.seq (.region (.run 4 rfl ⟨⟨_,X3q⟩,trivial⟩ (.nil ?_))))
 refine WC.cond rfl (fun hb14=>?_) (fun hb14=>?_)
 ·
  have hc14:=hb14; try simp only [Y6] at hc14
  refine .skip (.seq (.block (.seq ?_)))
  obtain ⟨x,hx0⟩:∃ x,la[i]?=some x:=⟨_,Y4 (by omega)⟩
  obtain ⟨y,hy0⟩:∃ y,lb[i]?=some y:=⟨_,Y4 (by omega)⟩
  obtain ⟨p,hp9,hx⟩:=Xez (cells:=X8) (s:=10) (fun _=>rfl) hA hx0
  obtain ⟨p2,hp8,hy⟩:=Xez (cells:=X8) (s:=10) (fun _=>rfl) hB hy0
  subst hp9
  subst hp8
  refine .quiet (by kernel_rfl) (by kernel_rfl) hS (.val (fun w hS=>(.move (.of rfl))) rfl (.val (fun w hS=>(.move (.of rfl))) rfl ?_))
  refine WQ.val (fun w hS=>(by exact .indexAddrI (.of rfl) (.of rfl) (by omega) (by omega) X3q X1k)) rfl ?_
  refine .val (fun w hS=>.ldsI (.of rfl) hS hx X7u X1k rfl (fun _ _ h=>h)) rfl (.val (fun w hS=>(.move (.of rfl))) rfl (.val (fun w hS=>(.move (.of rfl))) rfl ?_))
  refine WQ.val (fun w hS=>(by exact .indexAddrI (.of rfl) (.of rfl) (by omega) (by omega) X3q X1k)) rfl ?_
  refine .val (fun w hS=>.ldsI (.of rfl) hS hy X7u X1k rfl (fun _ _ h=>h)) rfl (.val (fun w hS=>Ex.neRec (r:=x) (s:=y) (.of rfl) (.of rfl)) rfl (.nil ?_))
  clear hS; intro w hS
  refine WC.cond rfl (fun hb25=>?_) (fun hb25=>?_)
  ·
   have hc25:=hb25; try simp only [Y6] at hc25
   refine .seq (.q 1 rfl (.ret (Xk Tryz.results14 rfl ?_)))
   refine ⟨_,rfl,congrArg Value.bool (decide_eq_false fun e=>?_).symm,hS⟩
   subst e
   rw [hx0] at hy0
   cases hy0
   simp at hb25
  have hc25:=hb25; try simp only [Y6] at hc25
  refine .skip (.region (.run 3 rfl ⟨⟨by omega,by omega⟩,trivial⟩ (.nil ?_)))
  refine ⟨i+1,⟨rfl,rfl,rfl,trivial⟩,⟨by (try dsimp only); omega,fun j hj=>?_,hS⟩,by (try dsimp only); omega⟩
  rcases Yw j i with h1 | h1
  ·exact hsm j h1
  ·have e:j=i:=by omega
   subst e
   rw [hx0,hy0,show x=y by simpa using hb25]
 have hc14:=hb14; try simp only [Y6] at hc14
 refine .exit (.seq (.q 1 rfl (.ret (Xk Tryz.results14 rfl ?_))))
 refine ⟨_,rfl,congrArg Value.bool (decide_eq_true ?_).symm,hS⟩
 refine Y22 fun j=>?_
 rcases Yw j i with h1 | h1
 ·exact hsm j h1
 ·rw [Y1w (by omega),Y1w (by omega)]
theorem X22 (cs s:List UInt8):upto cs s ++ Xf cs s=s:=Y3y
theorem Xes {ω:Wd} {r:Rec} (h:(mkW ω r).1.2≠0):(mkW ω r).2.l=ω.l∧(mkW ω r).2.now=ω.now∧(mkW ω r).1.2=39∧(mkW ω r).1.1=[]:=by
 unfold mkW at h ⊢
 split
 ·exact ⟨rfl,rfl,rfl,rfl⟩
 ·rename_i h1
  rw [if_neg h1] at h
  dsimp only at h ⊢
  split
  ·rename_i h2
   exact ⟨by rw [add,if_neg h2],rfl,rfl,rfl⟩
  ·rename_i h2
   rw [if_neg h2] at h
   exact absurd rfl h
theorem X1v {ω:Wd} {r:Rec} (h:(mkW ω r).1.2=0):Xc4 ω.room ω.l (mkR ω r)=0∧(mkW ω r).2.l=ω.l ++ [mkR ω r]∧(mkW ω r).1.1=(mkR ω r).name∧(mkW ω r).2.D.length+1=ω.D.length:=by
 unfold mkW at h ⊢
 split
 ·rename_i h1
  rw [if_pos h1] at h; cases h
 ·rename_i h1
  rw [if_neg h1] at h
  dsimp only at h ⊢
  split
  ·rename_i h2
   rw [if_pos h2] at h; cases h
  ·rename_i h2
   have h3:Xc4 ω.room ω.l (mkR ω r)=0:=Decidable.not_not.1 h2
   refine ⟨h3,by rw [add,if_pos h3],rfl,?_⟩
   show (mkN ω r).2.length+1=_
   have h4:(mkN ω r).1.2=0:=Decidable.not_not.1 h1
   unfold mkN X3n at h4 ⊢
   split
   ·rename_i h5; rw [if_pos h5] at h4; cases h4
   ·rename_i h5; rw [if_neg h5] at h4
    cases hD:ω.D with
    | nil=>rw [hD] at h4; cases h4
    | cons d D=>dsimp only; split <;> simp
theorem Xi8 (ps:Nat→Int) (ω:Wd) (t:List UInt8) (k:Int):X17 ps ω t k=(r0,false)∨(X17 ps ω t k=(getD ω.l t,true)∧(getD ω.l t).kind=k):=by
 unfold X17
 split
 ·exact .inl rfl
 ·rename_i h
  simp only [Y1p,not_or,bne_iff_ne,ne_eq,Decidable.not_not] at h
  exact .inr ⟨rfl,h.1⟩
structure Xp where
 xb:Nat
 tb:Nat
 c:Cf
 a:Option Addr
 cap:Nat
 ua:Option Addr
 ucap:Nat
 D:List Int
structure XpOk (I:Im) (x:Xp) (lo:List Sv) (us:List Us) (ps:Nat→Int):Prop where
 cf:CfAt I x.c x.a x.cap x.ua x.ucap
 fits:x.c.fits
 ok:Xb1 x.c=0
 D:Srt.Ord (kx (ords x.c.svs)) x.c.svs.length x.D
 lo:lo=X4a x.c.svs x.D
 us:us=x.c.us
 ps:ps=x.c.ps
theorem XpOk.mono {I J:Im} {x:Xp} {lo:List Sv} {us:List Us} {ps:Nat→Int} (h:XpOk I x lo us ps) (hl:Le I J):XpOk J x lo us ps:=⟨h.cf.mono hl,h.fits,h.ok,h.D,h.lo,h.us,h.ps⟩
def RwM (J:Im) (la da:Option Addr) (dc:Nat) (ω:Wd):Prop:=RS J la 10 ω.l.length (X28 X8 ω.l)∧RS J da 1 ω.D.length (ω.D.map fun d=>U64 (d:Nat))∧ω.D.length≤dc
theorem RwM.mono {I J:Im} {la da:Option Addr} {dc:Nat} {ω:Wd} (h:RwM I la da dc ω) (hl:Le I J):RwM J la da dc ω:=⟨h.1.mono hl,h.2.1.mono hl,h.2.2⟩
theorem Xme {c:Cf} (h:Xb1 c=0):(X4e c.svs).1=0:=by
 unfold Xb1 at h
 split at h
 ·exact h
 ·rename_i h1; exact Decidable.not_not.1 h1
theorem Xol {I:Im} {a:Option Addr} {l:List Sv} (h:SvsAt I a l):∃ L,SvsIn I a L l:=by
 have key:∀ i:Nat,∃ c,∀ s,l[i]?=some s→∃ p,a=some p∧At I (p.add (i*8)) c∧SvAt I s c:=fun i=>by
  cases e:l[i]? with
  | none=>exact ⟨[],fun s h=>by cases h⟩
  | some s =>
   obtain ⟨p,ra,rc,h1,h2,h3,h4⟩:=h i s e
   exact ⟨X1d s ra rc,fun t ht=>by cases ht; exact ⟨p,h1,h2,ra,rc,rfl,h3,h4⟩⟩
 refine ⟨(List.range l.length).map fun i=>Classical.choose (key i),by simp,fun i s hs=>?_⟩
 have hi:=(Y5.1 hs).1
 obtain ⟨p,h1,h2,h3⟩:=Classical.choose_spec (key i) s hs
 refine ⟨p,_,h1,?_,h2,h3⟩
 rw [Yz,Y4d hi]; rfl
theorem X7l (s:List UInt8) (hs:s.length≤1000000) (x:Xp) {lo:List Sv} {us:List Us} {ps:Nat→Int} (B w:World) (I:Im) (hX:XpOk I x lo us ps) (As:List Xe) (hS:Sat B w I As) :
  Calls Tryz.prog 16 [.slice x.a x.c.svs.length x.cap,S s].toArray w (Ret fun v w'=>∃ ra rc,v=.tuple #[.agg (X1d (X1e lo s).1 ra rc).toArray,S (X1e lo s).2.1,I64 (((X1e lo s).2.2:Nat):Int)]∧Sat B w' I As):=by
 obtain rfl:=hX.lo
 obtain ⟨L,hL⟩:=Xol hX.cf.svs
 refine (Xe6 x.a x.cap L x.c.svs hX.fits.svs hX.fits.ords (Xp0 (Xme hX.ok)) s hs B w I hL As hS).mono fun e w' ⟨v,he,J,u,cs,n,e2,hJ,hv,⟨ra,rc,hcs,_,_⟩,hf,hS⟩=>⟨v,he,ra,rc,?_,hS.weaken hJ⟩
 have h:=hf x.D hX.D
 rw [Xqb] at h
 rw [hv,h,hcs]
end Go.Proofs.YtfibbpgikjggfaaGreatDoor
namespace Gk
open Go
section
variable {P:Program} {n:Nat} {K:X3m} {L:Env} {w:World} {ops:Array Oper} {rest:List Oper}
theorem WL.ecalls {d j t:Nat} {c:List (Bool×Bool)} {b want:Bool} {ty:TypeId} {pos:String} {af:Array Edge} (T:Value→World→Prop) {v0:Value} {f:FuncId} {fn:Func} {xs:List Operand} {ts:Array TypeId} {vs:List Value}
  (hj:(ops[j]?).bind (·.dst)=some t) (ht:Nat.blt t n=true) (hb:look L t=some (gds c (.bool b))) (hf:P.funcs[f]?=some fn) (hc:Xo fn=true)
  (hx:(∀ p∈c ++ [(b,want)],p.1=p.2)→∀ a,Holds n L a→xs.map a.eval=vs) (hd:Nat.blt d n=true)
  (hcall:(∀ p∈c ++ [(b,want)],p.1=p.2)→Calls P f vs.toArray w (Ret T)) (h0:(¬ ∀ p∈c ++ [(b,want)],p.1=p.2)→T v0 w)
  (h:∀ v w',T v w'→WL P n ops K rest ((d,gds (c ++ [(b,want)]) v)::L) w'):WL P n ops K (⟨some d,.call ⟨.value (.func f),xs.toArray,ts⟩,ty,pos,af,some (j,want)⟩::rest) L w:=by
 intro a ha
 refine wpList_step fun K' hK=>?_
 have hlt:t<a.tmps.size:=by have:=Y1v ht; rw [ha.size]; omega
 have hv:=ha.get t _ hb
 have hy:yielded ops a.tmps j=match gds c (.bool b) with | .bool b=>some b | _=>none:=by
  obtain ⟨o,ho,hdd⟩:=Y21.1 hj
  rw [Y13,Y19 hlt] at hv
  simp only [Y2i] at hv
  have h2:a.tmps[t]?=some (gds c (.bool b)):=by rw [Y19 hlt,hv]
  simp only [yielded,ho,hdd,Y2p,h2]
  generalize gds c (.bool b)=g
  cases g <;> rfl
 by_cases e:∀ p∈c ++ [(b,want)],p.1=p.2
 ·have ec:∀ p∈c,p.1=p.2:=fun p hp=>e p (by simp [hp])
  have eb:b=want:=e (b,want) (by simp)
  rw [X1t ec] at hy
  rw [if_pos (by simp [Region.wanted,hy,eb])]
  have he:(execOp a.eval (⟨some d,.call ⟨.value (.func f),xs.toArray,ts⟩,ty,pos,af,some (j,want)⟩:Oper)).run P w=.ok (.enter f vs.toArray) w:=by
   unfold Xo at hc
   simp only [Ym] at hc
   obtain ⟨h1,h2⟩:=hc
   have h1' : ¬ fn.name = "runtime.NumGoroutine" := by simpa using h1
   have h2':¬ fn.body=none:=by intro e; rw [e] at h2; cases h2
   have hv:=hx e a ha
   simp [execOp,resolve,Act.eval,Deferred.ofValue,invoke,callFunc,program,Sem.run,hf,h1',h2',← hv]
  unfold Oper.wp
  rw [he]
  refine (hcall e).mono fun e' w'' hq=>?_
  obtain ⟨v,rfl,hT⟩:=hq
  have hput:=h v w'' hT _ (ha.put hd (gds (c ++ [(b,want)]) v))
  rw [X1t e] at hput
  exact hK _ _ hput
 ·have hw:Region.wanted (⟨some d,.call ⟨.value (.func f),xs.toArray,ts⟩,ty,pos,af,some (j,want)⟩:Oper) (yielded ops a.tmps)=false:=by
   by_cases ec:∀ p∈c,p.1=p.2
   ·rw [X1t ec] at hy
    have eb:¬ b=want:=fun eb=>e fun p hp=>by
     rcases Y10.1 hp with hp | hp
     ·exact ec p hp
     ·simp at hp; subst hp; exact eb
    simp [Region.wanted,hy,eb]
   ·rw [X37 ec] at hy
    simp [Region.wanted,hy,undef]
  rw [if_neg (by simp [hw])]
  have hput:=h v0 w (h0 e) _ (ha.put hd (gds (c ++ [(b,want)]) v0))
  rw [X37 e] at hput
  exact hK _ _ hput
theorem WL.ecall {d j t:Nat} {b want:Bool} {ty:TypeId} {pos:String} {af:Array Edge} (T:Value→World→Prop) {v0:Value} {f:FuncId} {fn:Func} {xs:List Operand} {ts:Array TypeId} {vs:List Value}
  (hj:(ops[j]?).bind (·.dst)=some t) (ht:Nat.blt t n=true) (hb:look L t=some (.bool b)) (hf:P.funcs[f]?=some fn) (hc:Xo fn=true)
  (hx:b=want→∀ a,Holds n L a→xs.map a.eval=vs) (hd:Nat.blt d n=true)
  (hcall:b=want→Calls P f vs.toArray w (Ret T)) (h0:¬ b=want→T v0 w)
  (h:∀ v w',T v w'→WL P n ops K rest ((d,gd b want v)::L) w'):WL P n ops K (⟨some d,.call ⟨.value (.func f),xs.toArray,ts⟩,ty,pos,af,some (j,want)⟩::rest) L w :=
 WL.ecalls (c:=[]) T hj ht hb hf hc (fun e=>hx (e (b,want) (by simp))) hd (fun e=>hcall (e (b,want) (by simp))) (fun hn=>h0 fun eb=>hn fun p hp=>by simp at hp; subst hp; exact eb) h
end
end Gk
namespace Go.Proofs.YtfibbpgikjggfaaGreatDoor
open Gk Ul Pc Tk Tr
theorem Xj4:Bld Tryz.prog 35 [(0,1),(1,1),(2,1),(3,1),(4,1),(5,1)] [.int .i64 0,.int .i64 0,.int .i64 0,S [],S [],.slice none 0 0]:=X30 Xc5 Qz35 (fun w=>by simp [go_sem])
def SlG (B:World) (I:Im) (size n:Nat) (xs:List Value) (G:Prop) (As:List Xe) (v:Value) (w:World):Prop:=∃ J ra rc,v=.slice ra n rc∧Le I J∧(G→n≤rc∧RS J ra size n xs)∧Sat B w J As
theorem Xj8:∀ (l:List Rec) (ω:Wd),(l.foldl X9n ω).D=ω.D
 | [],_=>rfl
 | r::l,ω=>Xj8 l (X9n ω r)
theorem Xex (c:Cf) (l:List Rec):(X7 c l).D=[]:=Xj8 l (w0 c)
theorem Xnc {l:List Rec} {r x:Rec} {i:Nat} (hx:l[i]?=some x) (hn:x.name≠r.name):(put l r)[i]?=some x:=by
 unfold put
 split
 ·rename_i hp
  obtain ⟨_,j,t,h1,h2,h3,_,_⟩:=Xl3 hp
  rw [h1,Yk,List.getElem?_set_ne (fun e=>by subst e; rw [h2] at hx; cases hx; exact hn h3)]
  exact hx
 ·exact hx
theorem Xim {ω:Wd} (hω:X39 ω) {r:Rec} (h:(mkW ω r).1.2=0):(mkW ω r).2.l[ω.l.length]?=some (mkR ω r)∧get (mkW ω r).2.l (mkW ω r).1.1=some (mkR ω r):=by
 obtain ⟨_,h2,h3,_⟩:=X1v h
 have hi:(mkW ω r).2.l[ω.l.length]?=some (mkR ω r):=by rw [h2,Yu (Yr _),Y41]; rfl
 refine ⟨hi,?_⟩
 have:=(X2q hω r).wf.get_ hi
 rw [h3]; exact this
theorem mk_new {ω:Wd} {r:Rec} (h:(mkW ω r).1.2=0):at0 ω.l (mkW ω r).1.1=-1∧get ω.l (mkW ω r).1.1=none:=by
 obtain ⟨h1,_,h3,_⟩:=X1v h
 have h4:=(Xc6 h1).2.1
 rw [h3]
 refine ⟨h4,?_⟩
 rcases Tr.get_at ω.l (mkR ω r).name with ⟨_,e⟩ | ⟨j,t,e,_⟩
 ·exact e
 ·rw [h4] at e; omega
theorem Xgl {ω:Wd} {r t:Rec} {n:List UInt8} (h:(mkW ω r).1.2=0) (hg:get ω.l n=some t):get (mkW ω r).2.l n=some t:=by
 rw [(X1v h).2.1]
 unfold Tr.get at hg ⊢
 rw [List.find?_append,hg]; rfl
theorem X6o {l:List Rec} {n:List UInt8} {r:Rec} (h:get l n=some r):getD l n=r:=by rw [getD,h]; rfl
theorem X9e {lo:List Sv} {ps:Nat→Int} {ω:Wd} {pgt target:List UInt8} (h:(Xi lo ps ω pgt target).1.2≠0):(Xi lo ps ω pgt target).1.1=([],[])∧(Xi lo ps ω pgt target).2.l=ω.l:=by
 unfold Xi at h ⊢
 split
 ·exact ⟨rfl,rfl⟩
 ·rename_i h1
  rw [if_neg h1] at h
  split
  ·exact ⟨rfl,rfl⟩
  ·rename_i h2
   rw [if_neg h2] at h
   split
   ·exact ⟨rfl,rfl⟩
   ·rename_i h3
    rw [if_neg h3] at h
    split
    ·rename_i h4
     exact ⟨rfl,(Xes h4).1⟩
    ·rename_i h4
     rw [if_neg h4] at h
     exact absurd rfl h
theorem X4t {lo:List Sv} {ps:Nat→Int} {ω:Wd} (hω:X39 ω) {pgt target:List UInt8} (h:(Xi lo ps ω pgt target).1.2=0) :
  X17 ps ω pgt 4=(getD ω.l pgt,true)∧(getD ω.l pgt).kind=4∧get ω.l pgt=some (getD ω.l pgt)∧Xfl ω.l pgt=false∧(X1e lo target).2.2=0∧(Xi lo ps ω pgt target).1.1.2=(X1e lo target).2.1 ∧
  get (Xi lo ps ω pgt target).2.l (Xi lo ps ω pgt target).1.1.1=some (mkR ω (X3f lo ps ω pgt target))∧(Xi lo ps ω pgt target).2.l.length=ω.l.length+1:=by
 unfold Xi at h ⊢
 split at h
 ·cases h
 ·split at h
  ·cases h
  ·split at h
   ·cases h
   ·split at h
    ·rename_i h4; exact absurd h h4
    ·rename_i h1 h2 h3 h4
     rw [if_neg h1,if_neg h2,if_neg h3,if_neg h4]
     have hm:=Decidable.not_not.1 h4
     have h5:(X17 ps ω pgt 4).2=true∧Xfl ω.l pgt=false:=by simpa using h2
     have h6:(X1e lo target).2.2=0:=by simpa using h3
     have hal:=Xi8 ps ω pgt 4
     rcases hal with e | ⟨e,hk⟩
     ·rw [e] at h5; exact absurd h5.1 (by decide)
     obtain ⟨g1,g2,g3⟩:get ω.l pgt=some (getD ω.l pgt)∧X14 (getD ω.l pgt)=true∧(getD ω.l pgt).name=pgt:=by
      rcases X35 hω.wf pgt with ⟨_,e⟩ | e
      ·rw [e] at hk
       have:(r0.kind:Int)=0:=rfl
       omega
      ·exact e
     have hi:=(Xim hω hm).1
     have hn3:=(X1v hm).2.2.1
     have hne:(mkR ω (X3f lo ps ω pgt target)).name≠(X46 (X17 ps ω pgt 4).1 (mkW ω (X3f lo ps ω pgt target)).2.now).name:=by
      rw [e]
      show (mkR ω (X3f lo ps ω pgt target)).name≠(getD ω.l pgt).name
      rw [g3]
      intro e2
      have h7:=(mk_new hm).2
      rw [hn3,e2,g1] at h7
      cases h7
     have hk2:=Xnc hi hne
     refine ⟨e,hk,g1,h5.2,h6,rfl,?_,?_⟩
     ·have h8:=(Xlt (X2q hω (X3f lo ps ω pgt target)) (X46 (X17 ps ω pgt 4).1 (mkW ω (X3f lo ps ω pgt target)).2.now)).wf.get_ (i:=ω.l.length) hk2
      show get _ (mkW ω (X3f lo ps ω pgt target)).1.1=_
      rw [hn3]; exact h8
     ·show (put (mkW ω (X3f lo ps ω pgt target)).2.l _).length=_
      rw [X6p,(X1v hm).2.1,Y0]; rfl
set_option maxRecDepth 20000 in
theorem X89 (c:Cf) (a:Option Addr) (cap:Nat) (ua:Option Addr) (ucap:Nat) (la:Option Addr) (lc:Nat) (l:List Rec) (hll:l.length≤9223372036854775807) (draws:List Nat) (hdr:∀ x∈draws,x<18446744073709551616) (da:Option Addr) (dc:Nat) (hdc:draws.length≤dc) (hdm:dc≤maxLen) (pgt target:List UInt8) (now:Int) (B w:World) (I:Im) (hK:Known I) (hP:PreAt I) (hC:CfAt I c a cap ua ucap) (hR:RS I la 10 l.length (X28 X8 l)) (hd:RS I da 1 draws.length (draws.map fun d=>U64 (d:Nat))) (As:List Xe) (hS:Sat B w I As) :
  Calls Tryz.prog 4 [.agg (Xl c a cap ua ucap).toArray,.slice la l.length lc,S pgt,S target,.slice da draws.length dc,I64 now].toArray w (Ret fun v w'=>v=.bool true∧∃ J,Le I J∧Sat B w' J As):=by
 refine calls Tryz.func4 rfl Tryz.ntmps4 rfl (.seq (.region (.boxA (cs:=Xl c a cap ua ucap) hS (.of rfl) rfl ?_)))
 clear hS; intro b6 w hS
 refine .q 1 rfl (.nil (.seq (.region (.call Tryz.func8 rfl X4 rfl (X5p B _ I hK hP _ hS) ?_))))
 clear hS
 rintro _ w ⟨rfl,hS⟩
 refine .q 1 rfl (.nil (.seq (.region ?_)))
 refine WL.val (.lds (vs:=Xl c a cap ua ucap) (.of rfl) hS (k:=0) rfl Xob Xm0 rfl (fun j v hj=>by rw [Yf]; exact hj)) rfl ?_
 refine .q 4 rfl (.val (.build (cs:=[_,_,_,_,_,_]) (X5 (.of rfl) (X5 (.of rfl) (X5 (.of rfl) X6))) Xj4 rfl) rfl (.buildSlice (cs:=[_,_,_,_,_,_]) hS (X5 (.of rfl) X6) Xlz Xnd Qz35 rfl rfl rfl rfl ?_))
 clear hS; intro b34 w hS
 obtain ⟨J1,hJ1,hb34,hS⟩:=hS.freeze (k:=0) rfl
 try dsimp only [List.eraseIdx] at hS
 have hO1:ObsAt J1 (some (ad b34 0)) [(⟨0,0,0,pgt,target,draws⟩:Ob)]:=Xdt ⟨da,dc,rfl,hdc,hdm,hd.mono hJ1⟩ ⟨rfl,fun _=>⟨_,rfl,X31 hb34⟩⟩
 refine .call Tryz.func9 rfl (X0 (.of rfl) (X0 (.of rfl) (X0 (.of rfl) X4))) rfl (X8i c a cap ua ucap la lc l hll (some (ad b34 0)) 1 [(⟨0,0,0,pgt,target,draws⟩:Ob)] (show (1:Nat)≤9223372036854775807 by decide) B _ J1 (hC.mono hJ1) (hR.mono hJ1) hO1 _ hS) ?_
 clear hS
 rintro _ w ⟨rfl,hS⟩
 refine .q 1 rfl (.nil (.seq (.seq (.q 2 rfl ?_))))
 refine WC.cond rfl (fun hb37=>?_) (fun hb37=>?_)
 ·
  have hc37:=hb37; try simp only [Y6] at hc37
  refine .seq (.q 2 rfl (.ret (Xk Qr4 rfl ?_)))
  exact ⟨_,rfl,rfl,J1,hJ1,hS.drop (k:=0) rfl⟩
 have hc37:=hb37; try simp only [Y6] at hc37
 refine .skip (.seq ?_)
 have hfw:=X5s (show Xay c l [(⟨0,0,0,pgt,target,draws⟩:Ob)]=true by simpa using hb37)
 have hfw1:=hfw.1
 have hfw2:=hfw.2.1
 have hoo:=hfw.2.2.2.2 (⟨0,0,0,pgt,target,draws⟩:Ob) (by simp)
 try dsimp only at hoo
 refine .region ?_
 refine WL.val (.lds (vs:=Xl c a cap ua ucap) (.of rfl) hS (k:=0) rfl Xob Xm0 rfl (fun j v hj=>by rw [Yf]; exact hj)) rfl ?_
 refine .q 1 rfl (.call Qf10 rfl (X0 (.of rfl) (X0 (.of rfl) X4)) rfl (X55 c a cap ua ucap (X4c hC hfw1) la lc l hll hfw2 B _ J1 (hK.mono hJ1) (hP.mono hJ1) (hC.mono hJ1) (hR.mono hJ1) _ hS) ?_)
 clear hS
 rintro _ w ⟨J,pv,hJ,rfl,hcs⟩
 refine .q 1 rfl (.nil (.seq (.seq (.t 1 rfl (.val (.eqp (.of rfl) (.of rfl) Qu37) rfl (.nil ?_))))))
 refine WC.cond rfl (fun hb43=>?_) (fun hb43=>?_)
 ·
  have hc43:=hb43; try simp only [Y6] at hc43
  refine .seq (.q 2 rfl (.ret (Xk Qr4 rfl ?_)))
  rcases hcs with ⟨_,rfl,hS⟩ | ⟨_,p,D,_,_,_,_,h9,_⟩
  ·exact ⟨_,rfl,rfl,J,(hJ1.trans hJ),hS.drop (k:=0) rfl⟩
  ·exfalso; rw [h9] at hb43; cases hb43
 have hc43:=hb43; try simp only [Y6] at hc43
 refine .skip (.seq ?_)
 rcases hcs with ⟨_,h9,_⟩ | ⟨hz,p,D,hD,hlo,hus,hps,hpv,hI,hS⟩
 ·exfalso; rw [h9] at hb43; cases hb43
 subst hpv
 have hω0:=X6a c l
 obtain ⟨⟨a5,c5,ma5,mc5⟩,hS⟩:=Sat.unbox hS
 replace hS:Sat B _ _ (blk p.wb (wdC p (X7 c l)) 44::blk p.tb [I64 (X7 c l).room,.slice a5 (X7 c l).l.length c5] 114::Vec 54 10 (.slice a5 (X7 c l).l.length c5) (X7 c l).l.length (Xh (X7 c l).l)::blk p.mb [.slice ma5 (X7 c l).D.length mc5] 111::X2l 104 (.slice ma5 (X7 c l).D.length mc5) ((X7 c l).D.map fun d=>U64 (d:Nat))::_):=hS
 refine .t 2 rfl ?_
 refine WL.val (.fieldAddr 1 (.of rfl) X3b rfl rfl Qs40 rfl) rfl ?_
 refine WL.val (.ld (.of rfl) hS (k:=0) rfl Qg40 rfl) rfl ?_
 refine .q 1 rfl ?_
 refine WL.call Qf11 rfl (X0 (.of rfl) (X0 (.of rfl) X4)) rfl (X7z p.mb ma5 mc5 (X7 c l).D (by rw [Xex]; decide) da dc draws (by omega) B _ J (hd.mono (hJ1.trans hJ)) _ ((hS.pick 4 rfl).pick 4 rfl)) ?_
 clear hS
 rintro _ w ⟨rfl,ma6,mc6,hS⟩
 try dsimp only [List.eraseIdx] at hS
 refine .nil (.seq ?_)
 replace hS:=Sat.box (T:=wdT p (X9 (X7 c l) draws)) (a5,c5,ma6,mc6) (((((hS.pick 1 rfl).pick 1 rfl).pick 4 rfl).pick 4 rfl).pick 4 rfl)
 try dsimp only [List.eraseIdx] at hS
 refine .t 2 rfl (.call Tryz.func18 rfl (X0 (.of rfl) (X0 (.of rfl) X4)) rfl (Xna p (X9 (X7 c l) draws) now (X67 hω0 hdr) B _ J _ hS) ?_)
 clear hS
 rintro _ w ⟨rfl,hS⟩
 try dsimp only [List.eraseIdx] at hS
 refine .nil (.seq ?_)
 obtain ⟨⟨a7,c7,ma7,mc7⟩,hS⟩:=Sat.unbox hS
 replace hS:Sat B _ _ (blk p.wb (wdC p (X2o (X9 (X7 c l) draws) now)) 44::blk p.tb [I64 (X2o (X9 (X7 c l) draws) now).room,.slice a7 (X2o (X9 (X7 c l) draws) now).l.length c7] 114::Vec 54 10 (.slice a7 (X2o (X9 (X7 c l) draws) now).l.length c7) (X2o (X9 (X7 c l) draws) now).l.length (Xh (X2o (X9 (X7 c l) draws) now).l)::blk p.mb [.slice ma7 (X2o (X9 (X7 c l) draws) now).D.length mc7] 111::X2l 104 (.slice ma7 (X2o (X9 (X7 c l) draws) now).D.length mc7) ((X2o (X9 (X7 c l) draws) now).D.map fun d=>U64 (d:Nat))::_):=hS
 have hωf:=X67 hω0 hdr
 have hω1:=Xs0 hωf now
 have hlen1:=hω1.len
 refine .t 2 rfl ?_
 refine WL.val (.fieldAddr 0 (.of rfl) X3b rfl rfl X6w rfl) rfl ?_
 refine WL.val (.ld (.of rfl) hS (k:=0) rfl X64 rfl) rfl ?_
 refine .call Xoo rfl (X0 (.of rfl) X4) rfl (X1m p.tb (X2o (X9 (X7 c l) draws) now).room a7 c7 (X2o (X9 (X7 c l) draws) now).l (by omega) B _ J _ ((hS.pick 2 rfl).pick 2 rfl)) ?_
 clear hS
 rintro _ w ⟨J2,wa,wc,rfl,hJ2,hwc,hRw,hS⟩
 try dsimp only [List.eraseIdx] at hS
 refine .q 1 rfl (.nil (.seq ?_))
 replace hS:=Sat.box (T:=wdT p (X2o (X9 (X7 c l) draws) now)) (a7,c7,ma7,mc7) (((((hS.pick 4 rfl).pick 4 rfl).pick 3 rfl).pick 3 rfl).pick 4 rfl)
 try dsimp only [List.eraseIdx] at hS
 refine .t 2 rfl (.call Tryz.func19 rfl (X0 (.of rfl) (X0 (.of rfl) (X0 (.of rfl) X4))) rfl (Xdf pgt 4 p (X2o (X9 (X7 c l) draws) now) hω1 B _ J2 _ hS) ?_)
 clear hS
 rintro _ w ⟨rfl,hS⟩
 try dsimp only [List.eraseIdx] at hS
 refine .q 3 rfl (.allocA (cs:=[_,_,_,_,_,_,_,_,_,_]) hS X6j rfl ?_)
 clear hS; intro b17 w hS
 refine WL.stA hS (k:=0) rfl (.of rfl) (.of rfl) rfl X1k rfl (by simp) ?_
 clear hS; intro w hS; try dsimp only [List.set] at hS
 try simp only [Yj,Ye,Y9,Y7,Yi,Yo,Yf] at hS
 refine .q 1 rfl (.nil (.seq ?_))
 have hI2:=hI.mono hJ2
 refine .t 3 rfl (.call Xpr rfl (X0 (.of rfl) (X0 (.of rfl) (X0 (.of rfl) X4))) rfl (X2y pgt target (by omega) (by omega) p (X2o (X9 (X7 c l) draws) now) hω1 B _ J2 hI2 _ (hS.pick 1 rfl)) ?_)
 clear hS
 rintro _ w ⟨rfl,hS⟩
 try dsimp only [List.eraseIdx] at hS
 refine .q 7 rfl (.nil (.seq (.seq (.q 2 rfl ?_))))
 refine WC.cond rfl (fun hb74=>?_) (fun hb74=>?_)
 ·
  have hc74:=hb74; try simp only [Y6] at hc74
  refine .seq ?_
  obtain ⟨⟨a8,c8,ma8,mc8⟩,hS⟩:=Sat.unbox hS
  replace hS:Sat B _ _ (blk p.wb (wdC p (Xi p.lo p.ps (X2o (X9 (X7 c l) draws) now) pgt target).2) 44::blk p.tb [I64 (Xi p.lo p.ps (X2o (X9 (X7 c l) draws) now) pgt target).2.room,.slice a8 (Xi p.lo p.ps (X2o (X9 (X7 c l) draws) now) pgt target).2.l.length c8] 114::Vec 54 10 (.slice a8 (Xi p.lo p.ps (X2o (X9 (X7 c l) draws) now) pgt target).2.l.length c8) (Xi p.lo p.ps (X2o (X9 (X7 c l) draws) now) pgt target).2.l.length (Xh (Xi p.lo p.ps (X2o (X9 (X7 c l) draws) now) pgt target).2.l)::blk p.mb [.slice ma8 (Xi p.lo p.ps (X2o (X9 (X7 c l) draws) now) pgt target).2.D.length mc8] 111::X2l 104 (.slice ma8 (Xi p.lo p.ps (X2o (X9 (X7 c l) draws) now) pgt target).2.D.length mc8) ((Xi p.lo p.ps (X2o (X9 (X7 c l) draws) now) pgt target).2.D.map fun d=>U64 (d:Nat))::_):=hS
  have hω2:=X1c (lo:=p.lo) (ps:=p.ps) hω1 pgt target
  have hlen2:=hω2.len
  refine .t 2 rfl (.gval rfl rfl (fun hg1=>(.move (.of rfl))) rfl (.gval rfl rfl (fun hg1=>(.eqs (.gd hg1 rfl) (.of rfl))) rfl (.val (.pand (.of rfl) (.of rfl) (.of rfl)) rfl (.q 1 rfl (.gval rfl rfl (fun hg1=>(.move (.of rfl))) rfl (.gval rfl rfl (fun hg1=>(.eqs (.gd hg1 rfl) (.of rfl))) rfl (.val (.pand (.of rfl) (.of rfl) (.of rfl)) rfl (.q 1 rfl (.gval rfl rfl (fun hg1=>(.move (.of rfl))) rfl (.gval rfl rfl (fun hg1=>(.nilCheck (.gd hg1 rfl))) rfl ?_))))))))))
  refine WL.gval rfl rfl (fun hg1=>(by exact .fieldAddr 0 (.gd hg1 rfl) X3b rfl rfl X6w rfl)) rfl ?_
  refine WL.gval rfl rfl (fun hg1=>(by exact (.ld (.gd hg1 rfl) hS (k:=0) rfl X64 rfl))) rfl ?_
  refine .ecall (T:=SlG B J2 10 (Xi p.lo p.ps (X2o (X9 (X7 c l) draws) now) pgt target).2.l.length (Xh (Xi p.lo p.ps (X2o (X9 (X7 c l) draws) now) pgt target).2.l) _ _) (v0:=.slice none (Xi p.lo p.ps (X2o (X9 (X7 c l) draws) now) pgt target).2.l.length 0) rfl rfl rfl Xoo rfl (fun hg1=>(X0 (.gd hg1 rfl) X4)) rfl (fun hg1=>(X1m p.tb (Xi p.lo p.ps (X2o (X9 (X7 c l) draws) now) pgt target).2.room a8 c8 (Xi p.lo p.ps (X2o (X9 (X7 c l) draws) now) pgt target).2.l (by omega) B _ J2 _ ((hS.pick 2 rfl).pick 2 rfl)).mono fun e w' ⟨v,he,J9,ra,rc,hv,hJ9,hrc,hR9,hS⟩=>⟨v,he,J9,ra,rc,hv,hJ9,fun _=>⟨hrc,hR9⟩,(((((((hS.pick 6 rfl).pick 6 rfl).pick 6 rfl).pick 6 rfl).pick 5 rfl).pick 5 rfl).pick 6 rfl)⟩) (fun hne=>⟨J2,none,0,rfl,Le.refl _,fun h=>absurd h hne,hS⟩) ?_
  clear hS
  rintro v99 w ⟨J3,na,nc,rfl,hJ3,hG,hS⟩
  refine .gval rfl rfl (fun hg1=>(.move (.of rfl))) rfl (.gcall (T:=fun w=>Sat B w J3 _) rfl rfl rfl Tryz.func14 rfl (fun hg1=>(X0 (.gd hg1 rfl) (X0 (.gd hg1 rfl) X4))) rfl (fun hg1=>X7m na wa nc wc (Xi p.lo p.ps (X2o (X9 (X7 c l) draws) now) pgt target).2.l (X2o (X9 (X7 c l) draws) now).l (by omega) B _ J3 (hG hg1).2 (hRw.mono hJ3) _ hS) hS ?_)
  clear hS; rintro w hS
  refine .val (.pand (.of rfl) (.of rfl) (.of rfl)) rfl (.q 1 rfl (.nil (.ret (Xk Qr4 rfl ?_))))
  obtain ⟨g1,g2⟩:=X9e (lo:=p.lo) (ps:=p.ps) (ω:=(X2o (X9 (X7 c l) draws) now)) (pgt:=pgt) (target:=target) (by simpa using hb74)
  refine ⟨_,rfl,congrArg Value.bool ?_,J3,((hJ1.trans hJ).trans hJ2).trans hJ3,(((((((hS.drop (k:=0) rfl).drop (k:=0) rfl).drop (k:=0) rfl).drop (k:=0) rfl).drop (k:=0) rfl).drop (k:=0) rfl).drop (k:=0) rfl)⟩
  rw [g1,g2]
  simp
 have hc74:=hb74; try simp only [Y6] at hc74
 refine .skip (.seq ?_)
 obtain ⟨⟨a9,c9,ma9,mc9⟩,hS⟩:=Sat.unbox hS
 replace hS:Sat B _ _ (blk p.wb (wdC p (Xi p.lo p.ps (X2o (X9 (X7 c l) draws) now) pgt target).2) 44::blk p.tb [I64 (Xi p.lo p.ps (X2o (X9 (X7 c l) draws) now) pgt target).2.room,.slice a9 (Xi p.lo p.ps (X2o (X9 (X7 c l) draws) now) pgt target).2.l.length c9] 114::Vec 54 10 (.slice a9 (Xi p.lo p.ps (X2o (X9 (X7 c l) draws) now) pgt target).2.l.length c9) (Xi p.lo p.ps (X2o (X9 (X7 c l) draws) now) pgt target).2.l.length (Xh (Xi p.lo p.ps (X2o (X9 (X7 c l) draws) now) pgt target).2.l)::blk p.mb [.slice ma9 (Xi p.lo p.ps (X2o (X9 (X7 c l) draws) now) pgt target).2.D.length mc9] 111::X2l 104 (.slice ma9 (Xi p.lo p.ps (X2o (X9 (X7 c l) draws) now) pgt target).2.D.length mc9) ((Xi p.lo p.ps (X2o (X9 (X7 c l) draws) now) pgt target).2.D.map fun d=>U64 (d:Nat))::_):=hS
 have hω2:=X1c (lo:=p.lo) (ps:=p.ps) hω1 pgt target
 have hlen2:=hω2.len
 have hX:XpOk J2 ⟨0,0,c,a,cap,ua,ucap,D⟩ p.lo p.us p.ps:=⟨hC.mono ((hJ1.trans hJ).trans hJ2),X4c hC hfw1,hz,hD,hlo,hus,hps⟩
 refine .t 2 rfl ?_
 refine WL.val (.fieldAddr 0 (.of rfl) X3b rfl rfl X6w rfl) rfl ?_
 refine WL.val (.ld (.of rfl) hS (k:=0) rfl X64 rfl) rfl ?_
 refine .q 1 rfl (.call Xe0 rfl (X0 (.of rfl) (X0 (.of rfl) X4)) rfl (X1y p.tb (Xi p.lo p.ps (X2o (X9 (X7 c l) draws) now) pgt target).2.room a9 c9 (Xi p.lo p.ps (X2o (X9 (X7 c l) draws) now) pgt target).2.l (by omega) (Xi p.lo p.ps (X2o (X9 (X7 c l) draws) now) pgt target).1.1.1 B _ J2 _ ((hS.pick 2 rfl).pick 2 rfl)) ?_)
 clear hS
 rintro _ w ⟨rfl,hS⟩
 try dsimp only [List.eraseIdx] at hS
 refine .q 3 rfl (.allocA (cs:=[_,_,_,_,_,_,_,_,_,_]) hS X6j rfl ?_)
 clear hS; intro b22 w hS
 refine WL.stA hS (k:=0) rfl (.of rfl) (.of rfl) rfl X1k rfl (by simp) ?_
 clear hS; intro w hS; try dsimp only [List.set] at hS
 try simp only [Yj,Ye,Y9,Y7,Yi,Yo,Yf] at hS
 refine .q 1 rfl (.nil (.seq (.region ?_)))
 refine WL.val (.fieldAddr 0 (.of rfl) Xiq rfl rfl Qs22 rfl) rfl ?_
 refine WL.val (.ld (.of rfl) hS (k:=7) rfl Qg22 rfl) rfl ?_
 refine .q 1 rfl (.call Tryz.func16 rfl (X0 (.of rfl) (X0 (.of rfl) X4)) rfl (X7l target (by omega) ⟨0,0,c,a,cap,ua,ucap,D⟩ B _ J2 hX _ hS) ?_)
 clear hS
 rintro _ w ⟨ra,rc,rfl,hS⟩
 refine .q 4 rfl (.allocA (cs:=[_,_,_,_,_,_,_,_]) hS Xih rfl ?_)
 clear hS; intro b24 w hS
 refine WL.stA hS (k:=0) rfl (.of rfl) (.of rfl) rfl X38 rfl (by simp) ?_
 clear hS; intro w hS; try dsimp only [List.set] at hS
 try simp only [Yj,Ye,Y9,Y7,Yi,Yo,Yf] at hS
 refine .q 2 rfl (.nil (.seq (.t 2 rfl (.gval rfl rfl (fun hg1=>(.move (.of rfl))) rfl (.val (.pand (.of rfl) (.of rfl) (.of rfl)) rfl (.q 1 rfl (.gval rfl rfl (fun hg1=>(.move (.of rfl))) rfl (.val (.pand (.of rfl) (.of rfl) (.of rfl)) rfl (.q 1 rfl ?_)))))))))
 refine WL.gval rfl rfl (fun hg1=>(by exact .fieldAddr 0 (.of rfl) X18 rfl rfl Qs3 rfl)) rfl ?_
 refine WL.gval rfl rfl (fun hg1=>(by exact (.ld (.gd hg1 rfl) hS (k:=1) rfl Qg3 rfl))) rfl ?_
 refine .gval rfl rfl (fun hg1=>(.eql (.gd hg1 rfl) (.of rfl))) rfl (.val (.pand (.of rfl) (.of rfl) (.of rfl)) rfl (.q 1 rfl ?_))
 refine WL.gval rfl rfl (fun hg1=>(by exact .fieldAddr 2 (.of rfl) X18 rfl rfl Qs9 rfl)) rfl ?_
 refine WL.gval rfl rfl (fun hg1=>(by exact (.ld (.gd hg1 rfl) hS (k:=1) rfl Qg9 rfl))) rfl ?_
 refine .gval rfl rfl (fun hg1=>(.move (.of rfl))) rfl (.gval rfl rfl (fun hg1=>(.eqs (.gd hg1 rfl) (.gd hg1 rfl))) rfl (.val (.pand (.of rfl) (.of rfl) (.of rfl)) rfl (.q 1 rfl ?_)))
 refine WL.gval rfl rfl (fun hg1=>(by exact .fieldAddr 3 (.of rfl) X18 rfl rfl Qs9 rfl)) rfl ?_
 refine WL.gval rfl rfl (fun hg1=>(by exact (.ld (.gd hg1 rfl) hS (k:=1) rfl Qg9 rfl))) rfl ?_
 refine WL.gval rfl rfl (fun hg1=>(by exact .fieldAddr 3 (.of rfl) X18 rfl rfl Qs9 rfl)) rfl ?_
 refine WL.gval rfl rfl (fun hg1=>(by exact (.ld (.gd hg1 rfl) hS (k:=7) rfl Qg9 rfl))) rfl ?_
 refine .gval rfl rfl (fun hg1=>(.eqs (.gd hg1 rfl) (.gd hg1 rfl))) rfl (.val (.pand (.of rfl) (.of rfl) (.of rfl)) rfl (.q 1 rfl ?_))
 refine WL.gval rfl rfl (fun hg1=>(by exact .fieldAddr 4 (.of rfl) X18 rfl rfl Qs9 rfl)) rfl ?_
 refine WL.gval rfl rfl (fun hg1=>(by exact (.ld (.gd hg1 rfl) hS (k:=1) rfl Qg9 rfl))) rfl ?_
 refine .gval rfl rfl (fun hg1=>(.move (.of rfl))) rfl (.gval rfl rfl (fun hg1=>(.eqs (.gd hg1 rfl) (.gd hg1 rfl))) rfl (.val (.pand (.of rfl) (.of rfl) (.of rfl)) rfl (.q 1 rfl (.gval rfl rfl (fun hg1=>(.move (.of rfl))) rfl (.gval rfl rfl (fun hg1=>(.move (.of rfl))) rfl (.gval rfl rfl (fun hg1=>(.eqs (.gd hg1 rfl) (.gd hg1 rfl))) rfl (.val (.pand (.of rfl) (.of rfl) (.of rfl)) rfl (.q 1 rfl (.gval rfl rfl (fun hg1=>(.move (.of rfl))) rfl (.gval rfl rfl (fun hg1=>(.eql (.gd hg1 rfl) (.of rfl))) rfl (.val (.pand (.of rfl) (.of rfl) (.of rfl)) rfl (.q 1 rfl ?_))))))))))))
 refine WL.gval rfl rfl (fun hg1=>(by exact .fieldAddr 9 (.of rfl) X18 rfl rfl Qs4 rfl)) rfl ?_
 refine WL.gval rfl rfl (fun hg1=>(by exact (.ld (.gd hg1 rfl) hS (k:=1) rfl Qg4 rfl))) rfl ?_
 refine .gval rfl rfl (fun hg1=>(.not (.gd hg1 rfl))) rfl (.val (.pand (.of rfl) (.of rfl) (.of rfl)) rfl (.q 1 rfl ?_))
 refine WL.gval rfl rfl (fun hg1=>(by exact .fieldAddr 8 (.of rfl) X18 rfl rfl Qs3 rfl)) rfl ?_
 refine WL.gval rfl rfl (fun hg1=>(by exact (.ld (.gd hg1 rfl) hS (k:=1) rfl Qg3 rfl))) rfl ?_
 refine .gval rfl rfl (fun hg1=>(.eql (.gd hg1 rfl) (.of rfl))) rfl (.val (.pand (.of rfl) (.of rfl) (.of rfl)) rfl (.q 1 rfl (.gval rfl rfl (fun hg1=>(.move (.of rfl))) rfl (.gval rfl rfl (fun hg1=>(.nilCheck (.gd hg1 rfl))) rfl ?_))))
 refine WL.gval rfl rfl (fun hg1=>(by exact .fieldAddr 0 (.gd hg1 rfl) X3b rfl rfl X6w rfl)) rfl ?_
 refine WL.gval rfl rfl (fun hg1=>(by exact (.ld (.gd hg1 rfl) hS (k:=4) rfl X64 rfl))) rfl ?_
 refine .ecall (T:=SlG B J2 10 (Xi p.lo p.ps (X2o (X9 (X7 c l) draws) now) pgt target).2.l.length (Xh (Xi p.lo p.ps (X2o (X9 (X7 c l) draws) now) pgt target).2.l) _ _) (v0:=.slice none (Xi p.lo p.ps (X2o (X9 (X7 c l) draws) now) pgt target).2.l.length 0) rfl rfl rfl Xoo rfl (fun hg1=>(X0 (.gd hg1 rfl) X4)) rfl (fun hg1=>(X1m p.tb (Xi p.lo p.ps (X2o (X9 (X7 c l) draws) now) pgt target).2.room a9 c9 (Xi p.lo p.ps (X2o (X9 (X7 c l) draws) now) pgt target).2.l (by omega) B _ J2 _ ((hS.pick 3 rfl).pick 3 rfl)).mono fun e w' ⟨v,he,J9,ra,rc,hv,hJ9,hrc,hR9,hS⟩=>⟨v,he,J9,ra,rc,hv,hJ9,fun _=>⟨hrc,hR9⟩,(((((((((hS.pick 8 rfl).pick 8 rfl).pick 8 rfl).pick 8 rfl).pick 8 rfl).pick 6 rfl).pick 6 rfl).pick 8 rfl).pick 8 rfl)⟩) (fun hne=>⟨J2,none,0,rfl,Le.refl _,fun h=>absurd h hne,hS⟩) ?_
 clear hS
 rintro v99 w ⟨J3,na,nc,rfl,hJ3,hG,hS⟩
 refine .gval rfl rfl (fun hg1=>(.lenSlice (.gd hg1 rfl) X3q)) rfl (.gval rfl rfl (fun hg1=>(.move (.of rfl))) rfl (.gval rfl rfl (fun hg1=>(.lenSlice (.gd hg1 rfl) X3q)) rfl (.gval rfl rfl (fun hg1=>(.add (.gd hg1 rfl) (.of rfl) ⟨by omega,by omega⟩)) rfl (.gval rfl rfl (fun hg1=>(.eql (.gd hg1 rfl) (.gd hg1 rfl))) rfl (.val (.pand (.of rfl) (.of rfl) (.of rfl)) rfl (.q 1 rfl (.nil (.ret (Xk Qr4 rfl ?_)))))))))
 obtain ⟨g1,g2,g3,g4,g5,g6,g7,g8⟩:=X4t (lo:=p.lo) (ps:=p.ps) hω1 (pgt:=pgt) (target:=target) (by simpa using hb74)
 refine ⟨_,rfl,congrArg Value.bool ?_,J3,((hJ1.trans hJ).trans hJ2).trans hJ3,(((((((((hS.drop (k:=0) rfl).drop (k:=0) rfl).drop (k:=0) rfl).drop (k:=0) rfl).drop (k:=0) rfl).drop (k:=0) rfl).drop (k:=0) rfl).drop (k:=0) rfl).drop (k:=0) rfl)⟩
 rw [X6o g7,g1,g5,g6,g7,g8]
 simp [mkR,X3f,g1]
end Go.Proofs.YtfibbpgikjggfaaGreatDoor
namespace Gk
open Go Go.RowKit Go.WideShapes Go.ChangeShapes
section
variable {H:Type} {enc:TypeId×Value→H}
def WitT (enc:TypeId×Value→H) (a:Assume) (C:Checked) (os:Os) (f:FuncId) (fn:Func) (s:ChangeSpec) (conds:List PathCond) (apart:Bool) (X:World→Array Value→Prop):Prop :=
  ∃ (w:World) (tape:Tape) (i:Input),w.os=os∧(w.forCall tape i).Shaped C.prog∧i.vars=[]∧Input.okWide C.prog (w.forCall tape i) .any w.heap.size f i ∧
   ((s.pre enc C.prog fn conds apart (w.forCall tape i).memory i.args∧X (w.forCall tape i).memory i.args)∧sizedMet enc C.prog fn (OpenSpec.ofChange s) apart (w.forCall tape i).memory i.args)∧a.holds C.prog (lone (Frame.enter C.prog f i.args .normal) [] (w.forCall tape i))
theorem X27 {a:Assume} {C:Checked} {os:Os} {f:FuncId} {fn:Func} {s:ChangeSpec} {conds:List PathCond} {apart fresh handsOn again:Bool} {X:World→Array Value→Prop}
  (hX:∀ (w w':World) (args:Array Value),w.heap=w'.heap→X w args→X w' args)
  (own:ownKnob C.prog.godebug=none) (started:os.Started) (noInit:C.prog.inits.idxOf? f=none) (hfn:C.prog.funcs[f]?=some fn)
  (witness:WitT enc a C os f fn s conds apart X)
  (contract:∀ (W:World) (base:Nat) (args:Array Value) (ds gs:List (DataW H)) (before:List MemPlace),
   (∀ (j:Nat) t v,fn.params[j]?=some t→args[j]?=some v→Value.okWide C.prog W .any base t v) →
   DataW.Whole enc C.prog fn.params.toList s.vars apart W args.toList ds gs before→X W args→W.ShapedOpen C.prog →
   Calls C.prog f args W fun e W'=>∃ v,e=.returned v∧s.post enc C.prog fn apart fresh handsOn again W args v W') :
  ReturnsInHanded a C os f .any (fun w args=>(s.pre enc C.prog fn conds apart w args∧X w args)∧sizedMet enc C.prog fn (OpenSpec.ofChange s) apart w args) (s.post enc C.prog fn apart fresh handsOn again):=by
 refine returnsInHanded_of_calls own started noInit witness ?_
 intro w tape i _ hsh _ hok hpre _
 obtain ⟨_,_,_,fn',hfn',_,_,_,_,hval⟩:=hok
 have e:fn'=fn:=Option.some.inj (hfn'.symm.trans hfn)
 subst e
 obtain ⟨⟨⟨ds,gs,before,hw,hc⟩,hx⟩,hz⟩:=hpre
 have hw':=DataW.Whole.of_heap (w':=w.forCall tape i) (by rfl) hw
 refine (contract (w.forCall tape i) w.heap.size i.args ds gs before hval hw' (hX _ _ _ (by rfl) hx) hsh).mono fun e W' ⟨v,he,hp⟩=>?_
 subst he
 exact ChangeSpec.post_blind hp
end
section
variable {P:Program} {W:World}
theorem X5g {name:String} {k:IntKind} {zs:List Int} {g:Nat} {t e:TypeId} {n:Nat}
  (hg:P.globalNamed name=some g) (hty:(P.globals[g]?).map (·.type)=some t) (ht:P.underlying t=some (.array n e)) (he:P.underlying e=some (.int k)) (hce:P.cellsOf e=1) (hct:P.cellsOf t=n)
  (h:Lib.VarReads P W name (Lib.tabData k zs)):Lib.TabIs P W name k zs:=by
 obtain ⟨g',t',cs,fuel,p,hg',ht',hvar,hd⟩:=h
 obtain rfl:=Option.some.inj (hg.symm.trans hg')
 obtain rfl:=Option.some.inj (hty.symm.trans ht')
 unfold Lib.TabIs
 rw [hvar,← Lib.cells_of_tab ht he hce hct hd]
theorem tab_at {name:String} {k:IntKind} {zs:List Int} {g:Nat} (hg:P.globalNamed name=some g) (h:Lib.TabIs P W name k zs) (h0:0<zs.length):At (im0 W) (ad g 0) (zs.map fun z=>.int k z):=by
 refine Xka (by rw [Yy]; exact h0) fun j v hj=>?_
 rw [Yz] at hj
 cases hz:zs[j]? with
 | none=>rw [hz] at hj; cases hj
 | some z =>
  rw [hz] at hj
  have hjl:=(Y5.1 hz).1
  have hc:=h.cell hg j hjl
  rw [X13,Yf,hc,Y8,hz,← hj]
  rfl
variable {B w:World} {As:List Xe}
theorem Xco {b:Nat} {o:Obj} (h:W.heap[b]?=some o) (hS:Sat B w (im0 W) As):w.heap[b]?=some o:=by
 obtain ⟨_,_,hg⟩:=hS
 exact hg.imm b o h
theorem Xqh {name:String} {k:IntKind} {zs:List Int} (h:Lib.TabIs P W name k zs) (hS:Sat B w (im0 W) As):Lib.TabIs P w name k zs:=by
 unfold Lib.TabIs World.var? at h ⊢
 cases hg:P.globalNamed name with
 | none=>rw [hg] at h; cases h
 | some g =>
  rw [hg] at h
  simp only [Y2p] at h ⊢
  cases hb:W.heap[g]? with
  | none=>rw [hb] at h; cases h
  | some o =>
   rw [Xco hb hS]
   rw [hb] at h
   exact h
theorem Xmc {a:Addr} {v:Value} (h:W.cell? a=some v) (hS:Sat B w (im0 W) As):w.cell? a=some v:=by
 unfold World.cell? at h ⊢
 cases hb:W.heap[a.block]? with
 | none=>rw [hb] at h; cases h
 | some o=>rw [Xco hb hS]; rw [hb] at h; exact h
end
end Gk
namespace Go.Proofs.YtfibbpgikjggfaaGreatDoor
open Gk Pc
theorem Xhu:Rows.laid_matricula_pct_digits (H:=Unit)=Lib.tabData .u8 (HIGH.map fun c=>(c.toNat:Int)):=by kernel_rfl
theorem Xpy:Rows.laid_internal_strconv_uint64pow10 (H:=Unit)=Lib.tabData .u64 Lib.pow10Tab:=by kernel_rfl
def Xbh {H:Type} (zs:List (List UInt8)):DataW H:=.agg (zs.map fun z=>.lit (.string z))
theorem Xqc:Rows.laid_matricula_ticket_prefixes (H:=Unit)=Xbh PREV:=by kernel_rfl
theorem Xa5 {H:Type} {enc:TypeId×Value→H} {P:Program} {w:World} {base:Nat} {sp:Nat→Bool} {held:Bool} {fuel:Nat} {t e:TypeId} {n:Nat} {cs:List Value} {zs:List (List UInt8)} {p:List MemPlace}
  (ht:P.underlying t=some (.array n e)) (he:P.underlying e=some .string) (hce:P.cellsOf e=1) (hct:P.cellsOf t=n)
  (h:DataW.trod enc P w base sp held fuel t cs=some (Xbh zs,p)):cs=zs.map S:=by
 cases fuel with
 | zero=>simp [DataW.trod] at h
 | succ fuel =>
  simp only [DataW.trod,ht,hce,hct,Y1k] at h
  split at h
  ·rename_i hl
   obtain ⟨xs,hm,hx⟩:=Y16.1 h
   have hxs:xs.map (·.1)=zs.map fun z=>(DataW.lit (.string z):DataW H):=by
    have:=congrArg Prod.fst hx
    simpa [Xbh] using this
   have hxl:xs.length=n:=by simpa using Lib.mapM_length hm
   have hzl:zs.length=n:=by
    have:=congrArg List.length hxs
    simp at this
    omega
   apply Y22
   intro i
   by_cases hi:i<n
   ·obtain ⟨b,hb,hf⟩:=Lib.mapM_at hm i i (by simp [hi])
    obtain ⟨z,hc,rfl,_⟩:=DataW.trod_string he hf
    have h1:cs[i]?=some (.string z):=by
     have:=congrArg (·[0]?) hc
     simpa [Y2g,Y1j] using this
    have h2:(xs.map (·.1))[i]?=some (DataW.lit (.string z.data.toList):DataW H):=by simp [hb]
    rw [hxs] at h2
    simp only [Yz,Y16,DataW.lit.injEq,Lit.string.injEq] at h2
    obtain ⟨z',hz',e'⟩:=h2
    rw [h1,Yz,hz',e']
    rfl
   ·rw [Y1w (by omega),Y1w (by simp; omega)]
  ·cases h
theorem pre_at {W : World} (h : Lib.VarReads Tryz.prog W "matricula/ticket.prefixes" Rows.laid_matricula_ticket_prefixes) : PreAt (im0 W) := by
 rw [Xqc] at h
 obtain ⟨g',t',cs,fuel,p,hg',ht',hvar,hd⟩:=h
 obtain rfl := Option.some.inj ((show Tryz.prog.globalNamed "matricula/ticket.prefixes" = some 0 by kernel_rfl).symm.trans hg')
 obtain rfl:=Option.some.inj ((show (Tryz.prog.globals[0]?).map (·.type)=some 239 by kernel_rfl).symm.trans ht')
 have hcs:=Xa5 Xmp Qu9 (by kernel_rfl) (by kernel_rfl) hd
 refine Xka (by decide) fun j v hj=>?_
 have h2:=World.var?_cell hg' hvar j
 rw [X13,Yf]
 rw [← Array.getElem?_toList,hcs,hj] at h2
 exact h2
theorem Xbz {W : World} (h1 : Lib.VarReads Tryz.prog W "matricula/pct.digits" Rows.laid_matricula_pct_digits) (h2 : Lib.VarReads Tryz.prog W "internal/strconv.uint64pow10" Rows.laid_internal_strconv_uint64pow10) (h3 : Lib.VarReads Tryz.prog W "matricula/ticket.prefixes" Rows.laid_matricula_ticket_prefixes) (hsh : W.ShapedOpen Tryz.prog) : Known (im0 W) ∧ PreAt (im0 W) := by
 refine ⟨?_,pre_at h3⟩
 rw [Xhu] at h1
 rw [Xpy] at h2
 have t1:=X5g (g:=2) (by kernel_rfl) (by kernel_rfl) Xo6 Qu5 (by kernel_rfl) (by kernel_rfl) h1
 have t2:=X5g (g:=3) (by kernel_rfl) (by kernel_rfl) Tryz.underlying281 Xc7 (by kernel_rfl) (by kernel_rfl) h2
 refine ⟨tab_at (g:=2) (by kernel_rfl) t1 (by decide),fun B w As hS=>Xqh t2 hS,fun B w As hS=>?_⟩
 obtain ⟨m,hm⟩:=Go.Proofs.cell_of_shapedOpen_int (g:=1) (t:=3) (zero:=#[.int .i64 0]) (k:=.i64) hsh (by decide +kernel) (by kernel_rfl) (by kernel_rfl) (by kernel_rfl) (by kernel_rfl) Qu3
 exact ⟨m,Xmc hm hS⟩
end Go.Proofs.YtfibbpgikjggfaaGreatDoor
namespace Go.Proofs.YtfibbpgikjggfaaGreatDoor
open Gk Ul Pc Tk Tr Go.RowKit Go.WideShapes Go.ChangeShapes
def Xac (d:Nat):List Value:=[U64 (d:Nat)]
theorem Xej (l:List Nat):X28 Xac l=l.map fun d=>U64 (d:Nat):=by
 unfold X28
 induction l with
 | nil=>rfl
 | cons x l ih=>rw [Y1e,Y1n,ih]; rfl
theorem X96 {H:Type} {enc:TypeId×Value→H} {W:World} {spare:Nat→Bool} {held:Bool} {fuel:Nat} {cs:List Value} {x:DataW H×List MemPlace} (h:DataW.trod enc Tryz.prog W 0 spare held fuel 104 cs=some x):∃ z:Nat,cs=Xac z∧z<18446744073709551616:=by
 obtain ⟨z,e,_,w⟩:=DataW.trod_int Xc7 h
 have w2:=w
 simp only [Lit.wf,Ym,decide_eq_true_eq] at w2
 have h0:(0:Int)≤z:=w2.1
 have h9:z≤18446744073709551615:=w2.2
 refine ⟨z.toNat,?_,by omega⟩
 rw [e,Xac,Y4b h0]
end Go.Proofs.YtfibbpgikjggfaaGreatDoor
namespace Go.Proofs.YtfibbpgikjggfaaGreatDoor
open Gk Ul Pc Tk Tr Go.RowKit Go.WideShapes Go.ChangeShapes
set_option maxRecDepth 20000 in
theorem Xqj {H:Type} {enc:TypeId×Value→H} {W:World} {spare:Nat→Bool} {held:Bool} {fuel:Nat} {cs:List Value} {x:DataW H×List MemPlace} (h:DataW.trod enc Tryz.prog W 0 spare held fuel 35 cs=some x):∃ o:Ob,ObAt (im0 W) o cs∧o.fits:=by
 obtain ⟨xs,n,_,_,hcl,hxl,hf⟩:=DataW.trod_struct Xc5 h
 rw [show Tryz.prog.cellsOf 35=6 from by kernel_rfl] at hcl
 obtain ⟨y0,hy0⟩:∃ y,DataW.trod enc Tryz.prog W 0 spare held n 3 ((cs.drop 0).take (Tryz.prog.cellsOf 3))=some y:=⟨_,(hf 0 _ rfl).trans (Y4 (by rw [hxl]; decide))⟩
 rw [show Tryz.prog.cellsOf 3=1 from by kernel_rfl] at hy0
 obtain ⟨y1,hy1⟩:∃ y,DataW.trod enc Tryz.prog W 0 spare held n 3 ((cs.drop 1).take (Tryz.prog.cellsOf 3))=some y:=⟨_,(hf 1 _ rfl).trans (Y4 (by rw [hxl]; decide))⟩
 rw [show Tryz.prog.cellsOf 3=1 from by kernel_rfl] at hy1
 obtain ⟨y2,hy2⟩:∃ y,DataW.trod enc Tryz.prog W 0 spare held n 3 ((cs.drop 2).take (Tryz.prog.cellsOf 3))=some y:=⟨_,(hf 2 _ rfl).trans (Y4 (by rw [hxl]; decide))⟩
 rw [show Tryz.prog.cellsOf 3=1 from by kernel_rfl] at hy2
 obtain ⟨y3,hy3⟩:∃ y,DataW.trod enc Tryz.prog W 0 spare held n 9 ((cs.drop 3).take (Tryz.prog.cellsOf 9))=some y:=⟨_,(hf 3 _ rfl).trans (Y4 (by rw [hxl]; decide))⟩
 rw [show Tryz.prog.cellsOf 9=1 from by kernel_rfl] at hy3
 obtain ⟨y4,hy4⟩:∃ y,DataW.trod enc Tryz.prog W 0 spare held n 9 ((cs.drop 4).take (Tryz.prog.cellsOf 9))=some y:=⟨_,(hf 4 _ rfl).trans (Y4 (by rw [hxl]; decide))⟩
 rw [show Tryz.prog.cellsOf 9=1 from by kernel_rfl] at hy4
 obtain ⟨y5,hy5⟩:∃ y,DataW.trod enc Tryz.prog W 0 spare held n 31 ((cs.drop 5).take (Tryz.prog.cellsOf 31))=some y:=⟨_,(hf 5 _ rfl).trans (Y4 (by rw [hxl]; decide))⟩
 rw [show Tryz.prog.cellsOf 31=1 from by kernel_rfl] at hy5
 obtain ⟨v0,v1,v2,v3,v4,v5,rfl⟩:∃ v0 v1 v2 v3 v4 v5,cs=[v0,v1,v2,v3,v4,v5]:=by
  match cs,hcl with
  | [v0,v1,v2,v3,v4,v5],_=>exact ⟨v0,v1,v2,v3,v4,v5,rfl⟩
 simp only [Y7,Yi,Y1r,Yj] at hy0 hy1 hy2 hy3 hy4 hy5
 obtain ⟨z0,e0,_,_⟩:=DataW.trod_int Qu3 hy0
 obtain ⟨z1,e1,_,_⟩:=DataW.trod_int Qu3 hy1
 obtain ⟨z2,e2,_,_⟩:=DataW.trod_int Qu3 hy2
 obtain ⟨z3,e3,_,w3⟩:=DataW.trod_string Qu9 hy3
 obtain ⟨z4,e4,_,w4⟩:=DataW.trod_string Qu9 hy4
 obtain ⟨a,c,l,e5,h1,h2,h3,h4⟩:=X36 (cells:=Xac) (c:=1) (fit:=fun z=>z<18446744073709551616) Xpq (by kernel_rfl) (by decide) (fun n cs y h=>X96 h) hy5
 simp only [List.cons.injEq,and_true] at e0 e1 e2 e3 e4 e5
 subst e0 e1 e2 e3 e4 e5
 exact ⟨⟨z0,z1,z2,z3.data.toList,z4.data.toList,l⟩,⟨a,c,rfl,h1,h2,by rw [← Xej]; exact h3⟩,⟨h4,w3,w4⟩⟩
set_option maxRecDepth 20000 in
theorem Xnb {H:Type} {enc:TypeId×Value→H} {W:World} {spare:Nat→Bool} {held:Bool} {fuel:Nat} {cs:List Value} {x:DataW H×List MemPlace} (h:DataW.trod enc Tryz.prog W 0 spare held fuel 36 cs=some x):∃ (a:Option Addr) (cap:Nat) (l:List Ob),cs=[.slice a l.length cap]∧l.length≤cap∧cap≤maxLen∧ObsAt (im0 W) a l∧∀ o∈l,o.fits:=by
 obtain ⟨a,cap,L,n,rfl,h1,h2,h3,h4,h5⟩:=X4o (c:=6) Xlz (by kernel_rfl) (by decide) h
 have key:∀ L:List (List Value),(∀ l∈L,∃ y,DataW.trod enc Tryz.prog W 0 spare held n 35 l=some y)→∃ l:List Ob,L.length=l.length∧∀ (i:Nat) (u:Ob),l[i]?=some u→u.fits∧∃ c,L[i]?=some c∧ObAt (im0 W) u c:=by
  intro L
  induction L with
  | nil=>intro _; exact ⟨[],rfl,fun i s h=>by simp at h⟩
  | cons c L ih =>
   intro h
   obtain ⟨y,hy⟩:=h c (by simp)
   obtain ⟨s,hs,hf⟩:=Xqj hy
   obtain ⟨l,e1,e2⟩:=ih (fun c hc=>h c (by simp [hc]))
   refine ⟨s::l,by simp [e1],fun i u hu=>?_⟩
   cases i with
   | zero=>simp at hu; subst hu; exact ⟨hf,c,rfl,hs⟩
   | succ i=>simpa using e2 i u (by simpa using hu)
 obtain ⟨l,e1,e2⟩:=key L h5
 refine ⟨a,cap,l,by rw [e1],by rw [← e1]; exact h1,h2,⟨L,e1,h3,by rw [← e1]; exact h4,fun i u hu=>(e2 i u hu).2⟩,fun u hu=>?_⟩
 obtain ⟨i,hi⟩:=Yx.1 hu
 exact (e2 i u hi).1
end Go.Proofs.YtfibbpgikjggfaaGreatDoor
namespace Ul
open Pc Gk
theorem Xn0 {r t:List UInt8} {v:UInt8} (h:told r=some v):told (r ++ t)=some v:=by
 match r,h with
 | a::b::_,h=>exact h
 | [_],h=>simp [told] at h
 | [],h=>simp [told] at h
theorem Xma:∀ (n:Nat) (a b a':List UInt8),a.length≤n→X3d a=some a'→X3d (a ++ b)=(X3d b).map (a' ++ ·):=by
 intro n
 induction n with
 | zero =>
  intro a b a' hn h
  have:=Yg (Y53.1 hn)
  subst this
  rw [X1p] at h; injection h with h; subst h
  rw [Ye]
  cases hb:X3d b <;> simp
 | succ n ih =>
  intro a b a' hn h
  cases a with
  | nil =>
   rw [X1p] at h; injection h with h; subst h
   cases hb:X3d b <;> simp [hb]
  | cons c r =>
   simp only [Yc] at hn
   rw [Xx] at h
   rw [Yq,Xx]
   by_cases hc:c=37
   ·rw [if_pos hc] at h ⊢
    cases ht:told r with
    | none=>rw [ht] at h; cases h
    | some v =>
     rw [ht] at h
     rw [Xn0 ht]
     simp only at h ⊢
     have hl:=X4w ht
     obtain ⟨u,hu,rfl⟩:=Y16.1 h
     rw [Y25 hl,ih (r.drop 2) b u (by rw [Yp]; omega) hu,Y5f]
     congr 1
     funext x
     simp
   ·rw [if_neg hc] at h ⊢
    obtain ⟨u,hu,rfl⟩:=Y16.1 h
    rw [ih r b u (by omega) hu,Y5f]
    rfl
def Fix (s:List UInt8):Prop:=X3d s=some s
theorem Fix.nil:Fix []:=X1p
theorem Fix.app {a b:List UInt8} (h:Fix a) (k:Fix b):Fix (a ++ b):=by
 unfold Fix at *
 rw [Xma a.length a b a (Yr _) h,k]; rfl
theorem Fix.cons {c:UInt8} {b:List UInt8} (h:c≠37) (k:Fix b):Fix (c::b):=by
 unfold Fix at *
 rw [Xx,if_neg h,k]; rfl
theorem Xo7 (v:UInt8) (u:List UInt8):told (Xe2 (v.toNat / 16)::Xe2 (v.toNat % 16)::u)=some v:=by
 have:=Xv (p:=fun v=>decide (0≤X2p (Xe2 (v.toNat / 16))) && decide (0≤X2p (Xe2 (v.toNat % 16))) && (byteOf (Xe2 (v.toNat / 16)) (Xe2 (v.toNat % 16)) == v)) (by decide +kernel) v
 simp only [Ym,decide_eq_true_eq,beq_iff_eq] at this
 show (if X2p (Xe2 (v.toNat / 16))<0∨X2p (Xe2 (v.toNat % 16))<0 then none else some (byteOf (Xe2 (v.toNat / 16)) (Xe2 (v.toNat % 16))))=some v
 rw [if_neg (by omega),this.2]
theorem X9i {v:UInt8} (h:plain v=true):v≠37:=fun e=>by subst e; revert h; decide
theorem Xja (v:UInt8):Fix (one v):=by
 unfold one
 by_cases h:plain v=true
 ·rw [if_pos h]; exact Fix.cons (X9i h) Fix.nil
 ·rw [if_neg h]
  unfold Fix Xd3
  rw [Xx,if_pos rfl,Xo7]
  simp only [Y7,Yi,X1p,Y3c,Y9]
  unfold one
  rw [if_neg h]; rfl
theorem Xfy:∀ (n:Nat) (s t:List UInt8),s.length≤n→X3d s=some t→Fix t:=by
 intro n
 induction n with
 | zero =>
  intro s t hn h
  have:=Yg (Y53.1 hn)
  subst this
  rw [X1p] at h; injection h with h; subst h; exact Fix.nil
 | succ n ih =>
  intro s t hn h
  cases s with
  | nil=>rw [X1p] at h; injection h with h; subst h; exact Fix.nil
  | cons c r =>
   simp only [Yc] at hn
   rw [Xx] at h
   by_cases hc:c=37
   ·rw [if_pos hc] at h
    cases ht:told r with
    | none=>rw [ht] at h; cases h
    | some v =>
     rw [ht] at h
     simp only at h
     obtain ⟨u,hu,rfl⟩:=Y16.1 h
     exact (Xja v).app (ih _ u (by rw [Yp]; omega) hu)
   ·rw [if_neg hc] at h
    obtain ⟨u,hu,rfl⟩:=Y16.1 h
    exact Fix.cons hc (ih r u (by omega) hu)
theorem Xdi:∀ (n:Nat) (a b:List UInt8),a.length≤n→Fix (a ++ 47::b)→Fix a∧Fix b:=by
 intro n
 induction n with
 | zero =>
  intro a b hn h
  have:=Yg (Y53.1 hn)
  subst this
  refine ⟨Fix.nil,?_⟩
  unfold Fix at h ⊢
  rw [Ye,Xx,if_neg (by decide)] at h
  obtain ⟨u,hu,e⟩:=Y16.1 h
  injection e with _ e
  rw [hu,e]
 | succ n ih =>
  intro a b hn h
  cases a with
  | nil=>exact ih [] b (by simp) h
  | cons c r =>
   simp only [Yc] at hn
   unfold Fix at h
   rw [Yq,Xx] at h
   by_cases hc:c=37
   ·subst hc
    rw [if_pos rfl] at h
    match r,hn,h with
    | [],_,h =>
     exfalso
     cases b with
     | nil=>simp [told] at h
     | cons x b=>simp [told,show X2p 47=-1 from by decide] at h
    | [x],_,h =>
     exfalso
     simp [told,show X2p 47=-1 from by decide] at h
    | x::y::r,hn,h =>
     cases ht:told ((x::y::r) ++ 47::b) with
     | none=>rw [ht] at h; cases h
     | some v =>
      rw [ht] at h
      simp only [Yq,Y7,Yi] at h
      obtain ⟨u,hu,e⟩:=Y16.1 h
      by_cases hp:plain v=true
      ·exfalso
       unfold one at e
       rw [if_pos hp] at e
       injection e with e _
       exact X9i hp e
      ·unfold one at e
       rw [if_neg hp] at e
       simp only [Xd3,Yq,Ye,List.cons.injEq,true_and] at e
       obtain ⟨e1,e2,e3⟩:=e
       subst e3
       obtain ⟨h1,h2⟩:=ih r b (by simp only [Yc] at hn; omega) hu
       refine ⟨?_,h2⟩
       have:=(Xja v).app h1
       unfold one at this
       rw [if_neg hp] at this
       simp only [Xd3,e1,e2,Yq,Ye] at this
       exact this
   ·rw [if_neg hc] at h
    obtain ⟨u,hu,e⟩:=Y16.1 h
    injection e with _ e
    subst e
    obtain ⟨h1,h2⟩:=ih r b (by omega) hu
    exact ⟨Fix.cons hc h1,h2⟩
theorem Xn6 (s:List UInt8):(∀ x∈s,x≠47)∧spl s=[s]∨∃ a b,s=a ++ 47::b∧(∀ x∈a,x≠47)∧spl s=a::spl b:=by
 induction s with
 | nil=>exact .inl ⟨fun x h=>by simp at h,rfl⟩
 | cons c r ih =>
  by_cases hc:c=47
  ·subst hc
   exact .inr ⟨[],r,rfl,fun x h=>by simp at h,by rw [spl,if_pos rfl]⟩
  ·rcases ih with ⟨h1,h2⟩ | ⟨a,b,rfl,h1,h2⟩
   ·have h3:∀ x∈c::r,x≠47:=fun x hx=>by
     rcases Y14.1 hx with e | e
     ·subst e; exact hc
     ·exact h1 x e
    exact .inl ⟨h3,X53 _ h3⟩
   ·have h3:∀ x∈c::a,x≠47:=fun x hx=>by
     rcases Y14.1 hx with e | e
     ·subst e; exact hc
     ·exact h1 x e
    exact .inr ⟨c::a,b,rfl,h3,Xc2 (c::a) b h3⟩
structure Piece (p:UInt8→Bool) (x:List UInt8):Prop where
 fix:Fix x
 no:∀ c∈x,c≠47
 all:x.all p=true
theorem Xkq {p:UInt8→Bool}:∀ (n:Nat) (s:List UInt8),s.length≤n→Fix s→s.all p=true→∀ x∈spl s,Piece p x:=by
 intro n
 induction n with
 | zero =>
  intro s hn h hp x hx
  have:=Yg (Y53.1 hn)
  subst this
  simp [spl] at hx
  subst hx
  exact ⟨Fix.nil,fun c h=>by simp at h,rfl⟩
 | succ n ih =>
  intro s hn h hp x hx
  rcases Xn6 s with ⟨h1,h2⟩ | ⟨a,b,rfl,h1,h2⟩
  ·rw [h2] at hx
   simp at hx
   subst hx
   exact ⟨h,h1,hp⟩
  ·rw [h2] at hx
   obtain ⟨f1,f2⟩:=Xdi a.length a b (Yr _) h
   rw [Y2x,Ym,Y2b,Ym] at hp
   rcases Y14.1 hx with e | e
   ·subst e; exact ⟨f1,h1,hp.1⟩
   ·refine ih b ?_ f2 hp.2.2 x e
    simp only [Y0,Yc] at hn; omega
theorem Xga {Q:List UInt8→Prop}:∀ (l k:List (List UInt8)),(∀ x∈l,Q x)→(∀ x∈k,Q x∧X2c x=false)→∀ x∈l.foldl keep k,Q x∧X2c x=false
 | [],k,_,hk,x,hx=>hk x hx
 | a::l,k,hl,hk,x,hx=>by
  rw [Y3s] at hx
  refine Xga l (keep k a) (fun x hx=>hl x (by simp [hx])) (fun y hy=>?_) x hx
  unfold keep at hy
  split at hy
  ·exact hk y hy
  ·rename_i h1
   split at hy
   ·exact hk y (List.dropLast_subset _ hy)
   ·rename_i h2
    rcases Y10.1 hy with e | e
    ·exact hk y e
    ·simp at e
     subst e
     refine ⟨hl _ (by simp),?_⟩
     unfold X2c
     simp [h1,h2]
theorem Xgf:∀ (l k:List (List UInt8)),(∀ x∈l,X2c x=false)→l.foldl keep k=k ++ l
 | [],k,_=>by simp
 | a::l,k,h=>by
  have ha:=h a (by simp)
  unfold X2c at ha
  simp only [Y1d,beq_eq_false_iff_ne] at ha
  rw [Y3s,Xgf l _ (fun x hx=>h x (by simp [hx])),keep,if_neg ha.1,if_neg ha.2,Yd]
  rfl
theorem X9q:∀ (k:List (List UInt8)) (e:List UInt8),(∀ x∈k,∀ c∈x,c≠47)→(∀ c∈e,c≠47)→Xm k ++ 47::e=47::((k.map (· ++ [47])).flatten ++ e)∧spl ((k.map (· ++ [47])).flatten ++ e)=k ++ [e]
 | [],e,_,he=>⟨by simp [Xm],by simpa using X53 e he⟩
 | a::k,e,hk,he=>by
  obtain ⟨h1,h2⟩:=X9q k e (fun x hx=>hk x (by simp [hx])) he
  refine ⟨?_,?_⟩
  ·have:Xm (a::k)=47::a ++ Xm k:=by simp [Xm]
   rw [this,Yd,h1]
   simp
  ·rw [Y1e,Y1n,Yd,Yd,Yq,Ye,Xc2 a _ (hk a (by simp)),h2]
   rfl
theorem X7e (k:List (List UInt8)) (e:List UInt8) (hk:∀ x∈k,∀ c∈x,c≠47) (he:∀ c∈e,c≠47) (hkd:∀ x∈k,X2c x=false) (hed:X2c e=false):X3i (Xm k ++ 47::e)=Xm k ++ 47::e:=by
 obtain ⟨h1,h2⟩:=X9q k e hk he
 have h3:∀ x∈k ++ [e],X2c x=false:=fun x hx=>by
  rcases Y10.1 hx with h | h
  ·exact hkd x h
  ·simp at h; subst h; exact hed
 rw [h1,X3i,if_pos rfl,h2,Xgf _ _ h3,Ye,← h1,X3z]
 have:((k ++ [e]).getLastD [])=e:=by simp [Y2u]
 rw [this,hed]
 simp
theorem X8u {p:UInt8→Bool} (h47:p 47=true):∀ (k:List (List UInt8)),(∀ x∈k,x.all p=true)→(Xm k).all p=true
 | [],_=>rfl
 | a::k,h=>by
  have:Xm (a::k)=47::a ++ Xm k:=by simp [Xm]
  rw [this,Y2x,Y2b,h47,h a (by simp),X8u h47 k (fun x hx=>h x (by simp [hx]))]
  rfl
theorem X8c:∀ (k:List (List UInt8)),(∀ x∈k,Fix x)→Fix (Xm k)
 | [],_=>Fix.nil
 | a::k,h=>by
  have:Xm (a::k)=47::a ++ Xm k:=by simp [Xm]
  rw [this]
  exact (Fix.cons (by decide) (h a (by simp))).app (X8c k (fun x hx=>h x (by simp [hx])))
theorem Xk5 {p:UInt8→Bool} (h47:p 47=true) {s:List UInt8} (hf:Fix s) (hp:s.all p=true) (h0:s.head?=some 47):X3i (X3i s)=X3i s∧Fix (X3i s)∧(X3i s).all p=true∧(X3i s).head?=some 47:=by
 cases s with
 | nil=>cases h0
 | cons c r =>
  simp at h0
  subst h0
  have hfr:Fix r:=(Xdi 0 [] r (Yr _) hf).2
  rw [Y2b,Ym] at hp
  have hpc:=Xkq r.length r (Yr _) hfr hp.2
  have hk:=Xga (Q:=Piece p) (spl r) [] hpc (fun x h=>by simp at h)
  rw [show X3i (47::r)=Xm ((spl r).foldl keep []) ++ (if X2c ((spl r).getLastD []) || ((spl r).foldl keep []).length == 0 then [47] else []) from by rw [X3i,if_pos rfl]]
  generalize (spl r).foldl keep []=k at hk ⊢
  have noe:∀ c∈([]:List UInt8),c≠47:=fun c h=>by simp at h
  have hsf:=X8c k (fun x hx=>(hk x hx).1.fix)
  have hsa:=X8u h47 k (fun x hx=>(hk x hx).1.all)
  split
  ·refine ⟨X7e k [] (fun x hx=>(hk x hx).1.no) noe (fun x hx=>(hk x hx).2) rfl,hsf.app (Fix.cons (by decide) Fix.nil),?_,?_⟩
   ·rw [Y2x,hsa,Y2b,h47]; rfl
   ·cases k with
    | nil=>rfl
    | cons a k=>rfl
  ·rename_i hc
   simp only [Y1p,not_or,beq_iff_eq] at hc
   rw [Y9]
   obtain ⟨k',e,rfl⟩:∃ k' e,k=k' ++ [e]:=⟨k.dropLast,k.getLast (fun h=>hc.2 (by rw [h]; rfl)),(Y3a _).symm⟩
   have he:=hk e (by simp)
   refine ⟨?_,hsf,hsa,?_⟩
   ·rw [X3z]
    exact X7e k' e (fun x hx=>(hk x (by simp [hx])).1.no) he.1.no (fun x hx=>(hk x (by simp [hx])).2) he.2
   ·cases k' with
    | nil=>rfl
    | cons a k'=>rfl
theorem Xru {p:UInt8→Bool} (hp:∀ v,plain v=true→p v=true) (h37:p 37=true) (v:UInt8):(one v).all p=true:=by
 unfold one
 by_cases h:plain v=true
 ·rw [if_pos h,Y2b,hp v h]; rfl
 ·have hx:=Xv (p:=fun v=>plain (Xe2 (v.toNat / 16)) && plain (Xe2 (v.toNat % 16))) (by decide +kernel) v
  rw [Ym] at hx
  rw [if_neg h,Xd3,Y2b,h37,Y2b,hp _ hx.1,Y2b,hp _ hx.2]
  rfl
theorem Xg0 {p:UInt8→Bool} (hp:∀ v,plain v=true→p v=true) (h37:p 37=true):∀ (n:Nat) (s t:List UInt8),s.length≤n→s.all p=true→X3d s=some t→t.all p=true:=by
 intro n
 induction n with
 | zero =>
  intro s t hn hs h
  have:=Yg (Y53.1 hn)
  subst this
  rw [X1p] at h; injection h with h; subst h; rfl
 | succ n ih =>
  intro s t hn hs h
  cases s with
  | nil=>rw [X1p] at h; injection h with h; subst h; rfl
  | cons c r =>
   simp only [Yc] at hn
   rw [Y2b,Ym] at hs
   rw [Xx] at h
   by_cases hc:c=37
   ·rw [if_pos hc] at h
    cases ht:told r with
    | none=>rw [ht] at h; cases h
    | some v =>
     rw [ht] at h
     simp only at h
     obtain ⟨u,hu,rfl⟩:=Y16.1 h
     rw [Y2x,Xru hp h37 v,ih _ u (by rw [Yp]; omega) (Y15.2 fun x hx=>Y15.1 hs.2 x (List.mem_of_mem_drop hx)) hu]
     rfl
   ·rw [if_neg hc] at h
    obtain ⟨u,hu,rfl⟩:=Y16.1 h
    rw [Y2b,hs.1,ih r u (by omega) hs.2 hu]; rfl
def X45 (c:UInt8):Bool:=X24 c && c != 63
theorem X97 (v:UInt8) (h:plain v=true):X45 v=true:=by
 have:=Xv (p:=fun v=>!plain v || X45 v) (by decide +kernel) v
 simp only [h,Bool.not_true,Y3h] at this
 exact this
theorem Xcc {s:List UInt8} (h:s.all X45=true):s.all X24=true:=by
 rw [Y15] at h ⊢
 intro x hx
 have:=h x hx
 unfold X45 at this
 rw [Ym] at this
 exact this.1
theorem X8r {ats a b:List UInt8} (ha:∀ c∈a,ats.contains c=false) (hb:∀ c,b.head?=some c→ats.contains c=true):upto ats (a ++ b)=a∧Xf ats (a ++ b)=b:=by
 induction a with
 | nil =>
  cases b with
  | nil=>exact ⟨rfl,rfl⟩
  | cons c b =>
   have:=hb c rfl
   unfold upto Xf
   rw [Ye,Y32,Y3p,this]
   exact ⟨rfl,rfl⟩
 | cons c a ih =>
  have h1:=ha c (by simp)
  obtain ⟨h2,h3⟩:=ih (fun x hx=>ha x (by simp [hx]))
  simp only [upto,Xf] at h2 h3 ⊢
  rw [Yq,Y32,Y3p,h1]
  exact ⟨congrArg (c::·) h2,h3⟩
theorem Xpc {p:UInt8→Bool}:∀ {l:List UInt8} {x:UInt8},x∈l.takeWhile p→p x=true
 | [],_,h=>by simp at h
 | a::l,x,h=>by
  rw [Y32] at h
  split at h
  ·rename_i ha
   rcases Y14.1 h with e | e
   ·subst e; exact ha
   ·exact Xpc e
  ·simp at h
theorem lo_lo (c:UInt8):lo (lo c)=lo c:=eq_of_beq (Xv (p:=fun c=>lo (lo c) == lo c) (by decide +kernel) c)
theorem Xqy (s:List UInt8):low (low s)=low s:=by
 unfold low
 rw [List.map_map]
 exact List.map_congr_left fun c _=>lo_lo c
theorem Xha:∀ (n:Nat),val (Go.Lib.decDigits n)=n∧(Go.Lib.decDigits n).all X9u=true∧(0<n→(Go.Lib.decDigits n).head?≠some 48)∧Go.Lib.decDigits n≠[]:=by
 have dig:∀ d,d<10→(UInt8.ofNat (48+d)).toNat=48+d∧X9u (UInt8.ofNat (48+d))=true:=fun d hd=>by
  have h:=(by decide:∀ d:Fin 10,(UInt8.ofNat (48+d.val)).toNat=48+d.val∧X9u (UInt8.ofNat (48+d.val))=true) ⟨d,hd⟩
  exact h
 intro n
 induction n using Nat.strongRecOn with
 | _ n ih =>
  rw [Go.Lib.decDigits]
  by_cases h:n<10
  ·rw [dif_pos h]
   obtain ⟨h1,h2⟩:=dig n h
   refine ⟨?_,?_,fun h0=>?_,by simp⟩
   ·simp only [val,Y3s,List.foldl_nil,h1]; omega
   ·rw [Y2b,h2]; rfl
   ·simp only [Y5b,Option.some.injEq,ne_eq]
    intro e
    rw [e] at h1
    have:(48:UInt8).toNat=48:=rfl
    omega
  ·rw [dif_neg h]
   obtain ⟨h1,h2⟩:=dig (n % 10) (by omega)
   obtain ⟨i1,i2,i3,i4⟩:=ih (n / 10) (by omega)
   refine ⟨?_,?_,fun _=>?_,by simp⟩
   ·rw [Xjp,i1,h1]; omega
   ·rw [Y2x,i2,Y2b,h2]; rfl
   ·rw [List.head?_append]
    cases hd:(Go.Lib.decDigits (n / 10)).head? with
    | none=>exact absurd (List.head?_eq_none_iff.1 hd) i4
    | some x =>
     have:=i3 (by omega)
     rw [hd] at this
     exact this
structure Good (u:U):Prop where
 sch:u.sch=http∨u.sch=https
 host:hostOk u.host=true∧low u.host=u.host
 port:u.port≤65535∧u.port≠Xlx u.sch
 path:X3i u.path=u.path∧Fix u.path∧u.path.all X45=true∧u.path.head?=some 47
 query:Fix u.query∧u.query.all X24=true∧(u.ask=false→u.query=[])
theorem Xdg {sch host:List UInt8} {port:Nat} {r:List UInt8} (h1:sch=http∨sch=https) (h2:hostOk host=true∧low host=host) (h3:port≤65535∧port≠Xlx sch) (hr:∀ c,r.head?=some c→c=47∨c=63∨c=35) (h:(tailU sch host port r).2=0):Good (tailU sch host port r).1:=by
 unfold tailU at h ⊢
 cases hp:X1f (upto [63] r) with
 | none=>rw [hp] at h; cases h
 | some p =>
  rw [hp] at h
  cases hq:X1f ((Xf [63] r).drop 1) with
  | none=>rw [hq] at h; cases h
  | some q =>
   simp only
   have hps:(upto [63] r).all X24=true∧X3d (upto [63] r)=some p:=by
    unfold X1f at hp
    split at hp
    ·rename_i e; exact ⟨e,hp⟩
    ·cases hp
   have hqs:((Xf [63] r).drop 1).all X24=true∧X3d ((Xf [63] r).drop 1)=some q:=by
    unfold X1f at hq
    split at hq
    ·rename_i e; exact ⟨e,hq⟩
    ·cases hq
   have hus:(upto [63] r).all X45=true:=by
    rw [Y15]
    intro x hx
    unfold X45
    rw [Y15.1 hps.1 x hx,Y2k,bne_iff_ne]
    intro e
    subst e
    unfold upto at hx
    have:=Xpc hx
    simp at this
   have hpf:Fix p:=Xfy _ _ _ (Yr _) hps.2
   have hpa:p.all X45=true:=Xg0 X97 (by decide) _ _ _ (Yr _) hus hps.2
   have hqf:Fix q:=Xfy _ _ _ (Yr _) hqs.2
   have hqa:q.all X24=true:=Xg0 (fun v hv=>by have:=X97 v hv; unfold X45 at this; rw [Ym] at this; exact this.1) (by decide) _ _ _ (Yr _) hqs.1 hqs.2
   refine ⟨h1,h2,h3,?_,hqf,hqa,fun ha=>?_⟩
   ·show X3i (if p=[] then [47] else X3i p)=_∧Fix (if p=[] then [47] else X3i p)∧(if p=[] then [47] else X3i p).all X45=true∧(if p=[] then [47] else X3i p).head?=some 47
    by_cases e:p=[]
    ·rw [if_pos e]
     exact ⟨(by decide:X3i [47]=[47]),Fix.cons (by decide) Fix.nil,(by decide:([47]:List UInt8).all X45=true),rfl⟩
    ·rw [if_neg e]
     refine Xk5 (by decide) hpf hpa ?_
     -- the path's first byte
     cases hu:upto [63] r with
     | nil =>
      rw [hu,X1p] at hps
      exact absurd (Option.some.inj hps.2).symm e
     | cons c s =>
      rw [hu] at hps
      have hc:r.head?=some c:=by
       have:=X22 [63] r
       rw [hu] at this
       rw [← this]; rfl
      have hc2:=Y15.1 hus c (by rw [hu]; simp)
      rcases hr c hc with e1 | e1 | e1
      ·subst e1
       have h4:=hps.2
       rw [Xx,if_neg (by decide)] at h4
       obtain ⟨u,_,rfl⟩:=Y16.1 h4
       rfl
      ·subst e1; exact absurd hc2 (by decide)
      ·subst e1; exact absurd hc2 (by decide)
   ·have hf:Xf [63] r=[]:=by simpa using ha
    rw [hf,Yo,X1p] at hqs
    exact (Option.some.inj hqs.2).symm
theorem Xdw {ats s:List UInt8} {c:UInt8} (h:(Xf ats s).head?=some c):ats.contains c=true:=by
 unfold Xf at h
 have:=List.head?_dropWhile_not (fun c=>!ats.contains c) s
 rw [h] at this
 simpa using this
theorem pU_good {s:List UInt8} (h:(pU s).2=0):Good (pU s).1:=by
 unfold pU at h ⊢
 by_cases h1:2000<s.length
 ·rw [if_pos h1] at h; cases h
 ·rw [if_neg h1] at h ⊢
  cases hs:schemeOf s with
  | none=>rw [hs] at h; cases h
  | some x =>
   obtain ⟨sch,r⟩:=x
   rw [hs] at h
   have hsch:sch=http∨sch=https:=by
    unfold schemeOf at hs
    split at hs
    ·injection hs with hs; injection hs with e1 _; exact .inl e1.symm
    ·split at hs
     ·injection hs with hs; injection hs with e1 _; exact .inr e1.symm
     ·cases hs
   simp only at h ⊢
   by_cases hh:hostOk (hostOf r)=true
   ·rw [if_pos hh] at h ⊢
    have hho:hostOk (hostOf r)=true∧low (hostOf r)=hostOf r:=⟨hh,Xqy _⟩
    have own0:Xlx sch≠0:=by unfold Xlx; split <;> decide
    unfold behind at h ⊢
    by_cases ht:(Xf [47,63,35,58] r).take 1=[58]
    ·rw [if_pos ht] at h ⊢
     by_cases hp:X12 (upto [47,63,35] ((Xf [47,63,35,58] r).drop 1))=true
     ·rw [if_pos hp] at h ⊢
      refine Xdg hsch hho ⟨Xkb hp,?_⟩ (fun c hc=>?_) h
      ·unfold X48
       split
       ·exact fun e=>own0 e.symm
       ·rename_i e; exact e
      ·have:=Xdw hc
       simpa using this
     ·rw [if_neg hp] at h; cases h
    ·rw [if_neg ht] at h ⊢
     refine Xdg hsch hho ⟨by decide,fun e=>own0 e.symm⟩ (fun c hc=>?_) h
     have:=Xdw hc
     have h58:c≠58:=fun e=>by
      subst e
      cases hx:Xf [47,63,35,58] r with
      | nil=>rw [hx] at hc; cases hc
      | cons a b=>rw [hx] at hc ht; simp at hc; subst hc; exact ht rfl
     simp only [Y4q,List.contains_nil,Y1p,beq_iff_eq,Bool.or_false] at this
     rcases this with e | e | e | e
     ·exact .inl e
     ·exact .inr (.inl e)
     ·exact .inr (.inr e)
     ·exact absurd e h58
   ·rw [if_neg hh] at h; cases h
theorem Xdp {u:U} (hu:Good u):tailU u.sch u.host u.port (u.path ++ (if u.ask then 63::u.query else []))=(u,0):=by
 obtain ⟨h1,h2,h3,⟨p1,p2,p3,p4⟩,q1,q2,q3⟩:=hu
 have hn:∀ c∈u.path,([63]:List UInt8).contains c=false:=fun c hc=>by
  have:=Y15.1 p3 c hc
  unfold X45 at this
  simp only [Ym,bne_iff_ne] at this
  simp [this.2]
 have hst:=X8r (ats:=[63]) (a:=u.path) (b:=if u.ask then 63::u.query else []) hn (fun c hc=>by
  cases ha:u.ask with
  | true=>rw [ha] at hc; simp at hc; subst hc; rfl
  | false=>rw [ha] at hc; simp at hc)
 have hp:X1f u.path=some u.path:=by unfold X1f; rw [if_pos (Xcc p3)]; exact p2
 have hne:u.path≠[]:=fun e=>by rw [e] at p4; cases p4
 unfold tailU
 rw [hst.1,hst.2,hp]
 simp only
 have hq:X1f ((if u.ask=true then 63::u.query else []).drop 1)=some u.query:=by
  cases ha:u.ask with
  | true =>
   rw [if_pos rfl,Y7,Yi]
   unfold X1f; rw [if_pos q2]; exact q1
  | false =>
   rw [if_neg (by decide),q3 ha]; rfl
 rw [hq]
 simp only
 rw [if_neg hne,p1]
 have:(!(if u.ask=true then 63::u.query else []).isEmpty)=u.ask:=by cases u.ask <;> rfl
 rw [this]
theorem strU_back {u:U} (hu:Good u) (hl:(strU u).length≤2000):pU (strU u)=(u,0):=by
 have hu':=hu
 obtain ⟨h1,⟨ho,hlow⟩,h3,⟨p1,p2,p3,p4⟩,q1,q2,q3⟩:=hu'
 have hhost:∀ c∈u.host,X7w c=true:=by
  unfold hostOk at ho
  rw [Ym] at ho
  exact fun c hc=>Y15.1 ho.2 c hc
 have hb:∀ c,X7w c=true→([47,63,35,58]:List UInt8).contains c=false:=fun c hc=>by
  have:=Xv (p:=fun c=>!X7w c || !([47,63,35,58]:List UInt8).contains c) (by decide +kernel) c
  rw [hc] at this
  simpa using this
 have hlen:¬ 2000<(strU u).length:=by omega
 have hse:schemeOf (strU u)=some (u.sch,u.host ++ ((if u.port=0 then [] else 58::Go.Lib.decDigits u.port) ++ (u.path ++ (if u.ask then 63::u.query else [])))):=by
  have e:strU u=u.sch ++ ([58,47,47] ++ (u.host ++ ((if u.port=0 then [] else 58::Go.Lib.decDigits u.port) ++ (u.path ++ (if u.ask then 63::u.query else []))))):=by
   unfold strU origin
   simp only [Yd]
  rw [e]
  generalize u.host ++ ((if u.port=0 then [] else 58::Go.Lib.decDigits u.port) ++ (u.path ++ (if u.ask then 63::u.query else [])))=R
  unfold schemeOf
  rcases h1 with h1 | h1
  ·rw [h1]
   have h7:low (List.take 7 (http ++ ([58,47,47] ++ R)))=[104,116,116,112,58,47,47]:=rfl
   simp only [h7,if_true]
   rfl
  ·rw [h1]
   have h7:low (List.take 7 (https ++ ([58,47,47] ++ R)))=[104,116,116,112,115,58,47]:=rfl
   have h8:low (List.take 8 (https ++ ([58,47,47] ++ R)))=[104,116,116,112,115,58,47,47]:=rfl
   have hne:¬ ([104,116,116,112,115,58,47]:List UInt8)=[104,116,116,112,58,47,47]:=by decide
   simp only [h7,h8,hne,if_true,if_false]
   rfl
 obtain ⟨ps,hps⟩:∃ ps,u.path=47::ps:=by
  cases hp:u.path with
  | nil=>rw [hp] at p4; cases p4
  | cons c ps=>rw [hp] at p4; simp at p4; subst p4; exact ⟨ps,rfl⟩
 have hst:=X8r (ats:=[47,63,35,58]) (a:=u.host) (b:=(if u.port=0 then [] else 58::Go.Lib.decDigits u.port) ++ (u.path ++ (if u.ask then 63::u.query else []))) (fun c hc=>hb c (hhost c hc)) (fun c hc=>by
  by_cases h0:u.port=0
  ·rw [if_pos h0,hps] at hc; simp at hc; subst hc; rfl
  ·rw [if_neg h0] at hc; simp at hc; subst hc; rfl)
 have hho:hostOf (u.host ++ ((if u.port=0 then [] else 58::Go.Lib.decDigits u.port) ++ (u.path ++ (if u.ask then 63::u.query else []))))=u.host:=by
  unfold hostOf
  rw [hst.1,hlow]
 unfold pU
 rw [if_neg hlen,hse]
 simp only
 rw [hho,if_pos ho,hst.2]
 unfold behind
 by_cases h0:u.port=0
 ·rw [if_pos h0,Ye,if_neg (by rw [hps]; simp)]
  have:=Xdp hu
  rw [h0] at this
  exact this
 ·rw [if_neg h0]
  obtain ⟨v1,v2,v3,v4⟩:=Xha u.port
  have hd:∀ c∈Go.Lib.decDigits u.port,([47,63,35]:List UInt8).contains c=false:=fun c hc=>by
   have h5:=Y15.1 v2 c hc
   have:=Xv (p:=fun c=>!X9u c || !([47,63,35]:List UInt8).contains c) (by decide +kernel) c
   rw [h5] at this
   simpa using this
  have hst2:=X8r (ats:=[47,63,35]) (a:=Go.Lib.decDigits u.port) (b:=u.path ++ (if u.ask then 63::u.query else [])) hd (fun c hc=>by rw [hps] at hc; simp at hc; subst hc; rfl)
  rw [if_pos (by simp),Yq,Y7,Yi,hst2.1,hst2.2]
  have hpk:X12 (Go.Lib.decDigits u.port)=true:=by
   unfold X12
   rw [v1,v2]
   have:((Go.Lib.decDigits u.port).headD 0 == 48)=false:=by
    have h6:=v3 (by omega)
    cases hx:Go.Lib.decDigits u.port with
    | nil=>exact absurd hx v4
    | cons a b=>rw [hx] at h6; simpa using h6
   rw [this]
   simp only [Y3k,Y5i,Y2k,Ym,decide_eq_true_eq]
   exact ⟨by omega,h3.1⟩
  rw [if_pos hpk]
  have hpv:X48 (Go.Lib.decDigits u.port) u.sch=u.port:=by
   unfold X48
   rw [v1,if_neg h3.2]
  rw [hpv]
  exact Xdp hu
end Ul
