/- Part 6 of what the proof stands on: W21g, W21o, W21p, W21q, W21s, W21t, W21u, W21w, W21z, W22h, GkY, W22i, W20a, GkX, W22a, W22b, W22c. -/
import Derived.Test.YtfibbpgikjggfaaGreatDoorM2TE
import Derived.Laws.StructEq
import Derived.Defers
import Derived.KernelRfl
set_option linter.unusedVariables false
set_option linter.unusedSimpArgs false
namespace Go.Proofs.YtfibbpgikjggfaaGreatDoor
open Gk Ul Pc Tk Tr
theorem Xig:Bld Tryz.prog 111 [(0,1)] [.slice none 0 0]:=X2l Xdy Tryz.zeroValue111 (fun w=>by simp [go_sem])
theorem Xni (l:List Nat):(l.map fun d=>U64 (d:Nat)).all Value.oneCell'=true:=by
 rw [List.all_map]
 exact Y18.2 fun _ _=>rfl
theorem Xk5 (mb:Nat) (ma:Option Addr) (mc:Nat) (D:List Nat) (hD:D.length≤1000000) (a:Option Addr) (c:Nat) (l:List Nat) (hl:l.length≤1000000) (B w:World) (I:Im) (hr:RS I a 1 l.length (l.map fun d=>U64 (d:Nat))) (As:List X9) (hS:Sat B w I (blk mb [.slice ma D.length mc] 111::X4c 104 (.slice ma D.length mc) (D.map fun d=>U64 (d:Nat))::As)) :
  Calls Tryz.prog 11 [ptr mb 0,.slice a l.length c].toArray w (Ret fun v w'=>v=.tuple #[]∧∃ a c,Sat B w' I (blk mb [.slice a (D ++ l).length c] 111::X4c 104 (.slice a (D ++ l).length c) ((D ++ l).map fun d=>U64 (d:Nat))::As)):=by
 refine calls Tryz.func11 rfl Tryz.ntmps11 rfl (.t 3 rfl ?_)
 refine WL.val (.fieldAddr 0 (.of rfl) Xdy rfl rfl Xmm rfl) rfl ?_
 refine WL.val (.ld (.of rfl) hS (k:=0) rfl Qg31 rfl) rfl ?_
 refine .q 1 rfl ?_
 refine WL.appendO (bytes:=8) hS (.of rfl) (.of rfl) hr (k:=1) rfl Qu31 (i:=Tryz.t104) (by kernel_rfl) rfl rfl rfl rfl (Xni l) ⟨by rw [Y13]; omega,by rw [Y13]; unfold maxLen; omega⟩ rfl ?_
 clear hS; intro v10 w hS; try dsimp only [List.set] at hS
 obtain ⟨a10,c10,rfl,hc10,_⟩:=hS.vecoSlice (k:=1) rfl
 refine .q 1 rfl ?_
 refine WL.val (.fieldAddr 0 (.of rfl) Xdy rfl rfl Xmm rfl) rfl ?_
 refine WL.st1 hS (k:=0) rfl (.of rfl) (.of rfl) rfl Xmm (by simp) ?_
 clear hS; intro w hS; try dsimp only [List.set] at hS
 refine .nil (X7d Tryz.results11 ?_)
 refine ⟨_,rfl,rfl,a10,c10,?_⟩
 rw [← Yy,Y13] at hS
 exact hS
theorem Xgf (B w:World) (I:Im) (As:List X9) (hS:Sat B w I As) :
  Calls Tryz.prog 153 [.slice none 0 0].toArray w (Ret fun v w'=>v=.slice none 0 0∧Sat B w' I As):=by
 refine calls Tryz.func153 rfl Tryz.ntmps153 rfl (.seq (.q 1 rfl (.seq (.seq (.t 1 rfl (.val (Ex.slNil (.of rfl) (.of rfl) Qu31) rfl (.nil (.condT (rfl) (.seq (.q 1 rfl (.ret (Xe Tryz.results153 rfl ?_))))))))))))
 exact ⟨_,rfl,rfl,hS⟩
theorem Xcl (B w:World) (I:Im) (As:List X9) (hS:Sat B w I As) :
  Calls Tryz.prog 106 [.slice none 0 0].toArray w (Ret fun v w'=>∃ mb,v=ptr mb 0∧Sat B w' I (blk mb [.slice none (([]:List Nat)).length 0] 111::X4c 104 (.slice none (([]:List Nat)).length 0) ((([]:List Nat)).map fun d=>U64 (d:Nat))::As)):=by
 refine calls Tryz.func106 rfl Tryz.ntmps106 rfl (.seq (.q 1 rfl (.seq (.t 1 rfl (.call Tryz.func153 rfl (X0 (.of rfl) X4) rfl (Xgf B _ I _ hS) ?_)))))
 clear hS
 rintro _ w ⟨rfl,hS⟩
 refine .val (.build (cs:=[_]) (X5 (.of rfl) X6) Xig rfl) rfl (.boxA (cs:=[_]) hS (.of rfl) rfl ?_)
 clear hS; intro b6 w hS
 refine .q 1 rfl (.nil (.ret (Xe Tryz.results106 rfl ?_)))
 exact ⟨_,rfl,_,rfl,(hS.vecoNil 104).pick 1 rfl⟩
def X3s (pr:List UInt8→Bool) (kind:Int) (D:List Nat):(List UInt8×Nat)×List Nat :=
 if X6t kind=[] then (([],8),D) else match D with
 | []=>(([],6),[])
 | d::D=>if pr (X6t kind ++ 45::X6y 16 d) then (([],7),D) else ((X6t kind ++ 45::X6y 16 d,0),D)
theorem Xm2 (mb:Nat) (ma:Option Addr) (mc:Nat) (D:List Nat) (hD:∀ d∈D,d<18446744073709551616) (kind:Int) (pr:List UInt8→Bool) (fid:FuncId) (fn:Func) (hfn:Tryz.prog.funcs[fid]?=some fn) (hcal:Xk fn=true) (capv:List Value) (B w:World) (I:Im) (hP:PreAt I) (As:List X9) (hf:∀ (M:List X9) (s:List UInt8) w,Sat B w I (M ++ As)→Calls Tryz.prog fid ([S s] ++ capv).toArray w (Ret fun v w'=>v=.bool (pr s)∧Sat B w' I (M ++ As))) (hS:Sat B w I (blk mb [.slice ma D.length mc] 111::X4c 104 (.slice ma D.length mc) (D.map fun d=>U64 (d:Nat))::As)) :
  Calls Tryz.prog 114 [ptr mb 0,I64 kind,.func (.func fid) #[] capv.toArray].toArray w (Ret fun v w'=>v=.tuple #[S (X3s pr kind D).1.1,I64 ((X3s pr kind D).1.2:Nat)]∧∃ a c,Sat B w' I (blk mb [.slice a ((X3s pr kind D).2).length c] 111::X4c 104 (.slice a ((X3s pr kind D).2).length c) (((X3s pr kind D).2).map fun d=>U64 (d:Nat))::As)):=by
 refine calls Tryz.func114 rfl Tryz.ntmps114 rfl (.seq (.q 2 rfl (.seq (.block (.seq (.t 1 rfl (.call Tryz.func158 rfl (X0 (.of rfl) X4) rfl (X9c kind B _ I hP _ hS) ?_)))))))
 clear hS
 rintro _ w ⟨rfl,hS⟩
 refine .q 2 rfl (.nil ?_)
 refine WC.cond rfl (fun hb10=>?_) (fun hb10=>?_)
 ·
  have hc10:=hb10; try simp only [Y5] at hc10
  refine .seq (.q 2 rfl (.ret (X1g Xl1 rfl rfl ?_)))
  have e:X3s pr kind D=(([],8),D):=by unfold X3s; rw [if_pos (by simpa using hb10)]
  rw [e]
  exact ⟨_,rfl,rfl,ma,mc,hS⟩
 have hc10:=hb10; try simp only [Y5] at hc10
 refine .seq (.t 2 rfl ?_)
 refine WL.val (.fieldAddr 0 (.of rfl) Xdy rfl rfl Xmm rfl) rfl ?_
 refine WL.val (.ld (.of rfl) hS (k:=0) rfl Qg31 rfl) rfl ?_
 refine .run 3 rfl ⟨⟨_,Qu31⟩,trivial⟩ (.nil ?_)
 refine WC.cond rfl (fun hb14=>?_) (fun hb14=>?_)
 ·
  have hc14:=hb14; try simp only [Y5] at hc14
  refine .seq (.q 2 rfl (.ret (X1g Xl1 rfl rfl ?_)))
  obtain rfl:D=[]:=by
   cases D with
   | nil=>rfl
   | cons d D=>exfalso; simp at hb14; omega
  have e:X3s pr kind []=(([],6),[]):=by unfold X3s; rw [if_neg (by simpa using hb10)]
  rw [e]
  exact ⟨_,rfl,rfl,ma,mc,hS⟩
 have hc14:=hb14; try simp only [Y5] at hc14
 refine .skip (.seq ?_)
 have hk0:¬ X6t kind=[]:=by simpa using hb10
 obtain ⟨d,D,rfl⟩:∃ d D',D=d::D':=by
  cases D with
  | nil=>simp at hb14
  | cons d D'=>exact ⟨d,D',rfl⟩
 obtain ⟨mg,mo,mc2,hv,hmc⟩:=hS.vecoCons (k:=1) rfl
 injection hv with hv1 hv2 hv3
 subst hv1; subst hv3
 have hx:=hS.vecoAt (k:=1) rfl (j:=0) (u:=U64 (d:Nat)) rfl
 simp only [Y13] at hmc
 refine .t 3 rfl ?_
 refine WL.val (.fieldAddr 0 (.of rfl) Xdy rfl rfl Xmm rfl) rfl ?_
 refine WL.val (.ld (.of rfl) hS (k:=0) rfl Qg31 rfl) rfl ?_
 refine WL.val (.indexAddr (.of rfl) (.of rfl) (by omega) (by omega) Qu31 Xjy) rfl ?_
 refine .val (ldC (.of rfl) hx Tryz.isAgg104) rfl (.call Tryz.func159 rfl (X0 (.of rfl) (X0 (.of rfl) X4)) rfl (Xm3 kind d (hD d (by simp)) B _ I hP _ hS) ?_)
 clear hS
 rintro _ w ⟨rfl,hS⟩
 rw [if_neg hk0]
 refine .q 5 rfl (.nil (.seq (.t 3 rfl ?_)))
 refine WL.val (.fieldAddr 0 (.of rfl) Xdy rfl rfl Xmm rfl) rfl ?_
 refine WL.val (.ld (.of rfl) hS (k:=0) rfl Qg31 rfl) rfl ?_
 refine WL.val (.slcFrom (s:=1) (.of rfl) (.of rfl) (by omega) (by simp only [Y6]; omega) Qu31 Xjy) rfl ?_
 replace hS:=hS.vecoCut (k:=1) rfl
 try dsimp only [List.set] at hS
 refine .q 1 rfl ?_
 refine WL.val (.fieldAddr 0 (.of rfl) Xdy rfl rfl Xmm rfl) rfl ?_
 refine WL.st1 hS (k:=0) rfl (.of rfl) (.of rfl) rfl Xmm (by simp) ?_
 clear hS; intro w hS; try dsimp only [List.set] at hS
 refine .nil (.seq (.seq (.t 2 rfl (.vcall (cap:=capv) hfn hcal (.of rfl) (X0 (.of rfl) X4) rfl (hf [_,_] _ w hS) ?_))))
 clear hS
 rintro _ w ⟨rfl,hS⟩
 refine .nil ?_
 refine WC.cond rfl (fun hb42=>?_) (fun hb42=>?_)
 ·
  have hc42:=hb42; try simp only [Y5] at hc42
  refine .seq (.q 2 rfl (.ret (X1g Xl1 rfl rfl ?_)))
  have e:X3s pr kind (d::D)=(([],7),D):=by unfold X3s; rw [if_neg hk0]; exact if_pos hb42
  rw [e]
  exact ⟨_,rfl,rfl,_,_,hS⟩
 have hc42:=hb42; try simp only [Y5] at hc42
 refine .skip (.seq (.q 3 rfl (.ret (X1g Xl1 rfl rfl ?_))))
 have e:X3s pr kind (d::D)=((X6t kind ++ 45::X6y 16 d,0),D):=by unfold X3s; rw [if_neg hk0]; exact if_neg (by rw [hb42]; decide)
 rw [e]
 exact ⟨_,rfl,rfl,_,_,hS⟩
def psL (p:Nat→Int):List Int:=[p 0,p 1,p 2,p 3,p 4,p 5,p 6,p 7,p 8,p 9,p 10,p 11,p 12,p 13,p 14,p 15,p 16,p 17,p 18,p 19,p 20]
structure Wp where
 wb:Nat
 tb:Nat
 mb:Nat
 ub:Nat
 pr:Addr
 lo:List Sv
 us:List Us
 ps:Nat→Int
structure Wd where
 room:Int
 l:List Rec
 D:List Nat
 now:Int
def wdC (p:Wp) (ω:Wd):List Value:=ptr p.tb 0::ptr p.mb 0::.pointer (some p.pr)::ptr p.ub 0::((psL p.ps).map I64 ++ [I64 ω.now])
def wdT (p:Wp) (ω:Wd):Option Addr×Nat×Option Addr×Nat→List X9:=fun ⟨a,c,ma,mc⟩=>[blk p.wb (wdC p ω) 44,blk p.tb [I64 ω.room,.slice a ω.l.length c] 114,Vec 54 10 (.slice a ω.l.length c) ω.l.length (Xd ω.l),blk p.mb [.slice ma ω.D.length mc] 111,X4c 104 (.slice ma ω.D.length mc) (ω.D.map fun d=>U64 (d:Nat))]
def wdA (p:Wp) (ω:Wd):X9:=Box (wdT p ω)
structure WpOk (I:Im) (p:Wp):Prop where
 reg:RegAt I p.pr p.lo
 tab:TabAt I p.ub p.us
 lo:p.lo.length≤100000
 rel:∀ s∈p.lo,s.rel.length≤1000000
 fit:∀ u∈p.us,u.fits
 att:∀ u∈p.us,u.attrs.length≤8
 known:Known I
 pre:PreAt I
theorem RegAt.mono {I J:Im} {pr:Addr} {lo:List Sv} (h:RegAt I pr lo) (hl:Le I J):RegAt J pr lo:=by
 obtain ⟨a,c,E,h1,h2,h3⟩:=h
 exact ⟨a,c,E,h1.mono hl,h2,h3.mono hl⟩
theorem WpOk.mono {I J:Im} {p:Wp} (h:WpOk I p) (hl:Le I J):WpOk J p:=⟨h.reg.mono hl,h.tab.mono hl,h.lo,h.rel,h.fit,h.att,h.known.mono hl,h.pre.mono hl⟩
structure X5c (ω:Wd):Prop where
 len:ω.l.length≤64
 wf:Wf ω.l
 D:∀ d∈ω.D,d<18446744073709551616
 now:0≤ω.now∧ω.now≤1099511627776
 room:ω.room≤64
theorem Sat.swap {B w:World} {I:Im} {M As:List X9} (hS:Sat B w I (M ++ As)):Sat B w I (As ++ M):=by
 obtain ⟨h,hs,hg⟩:=hS
 obtain ⟨h1,h2,rfl,h3,h4⟩:=SepAll.app.1 hs
 exact ⟨h2 ++ h1,SepAll.app.2 ⟨h2,h1,rfl,h4,h3⟩,hg.perm Y1f⟩
def Xog (n:Int):Bool:=decide (n<0) || decide (1099511627776<n)
def iC (n:Int):List Value:=[I64 n]
def Xmh (p:Nat→Int):Bool:=(!((psL p).take 7).any Xog && !(((psL p).drop 7).take 7).any Xog) && !((psL p).drop 14).any Xog
theorem Xa3 {B w:World} {I:Im} {As:List X9} {k b E:Nat} {cs:List Value} {o:Nat} {l:List Int} (hS:Sat B w I As) (hk:As[k]?=some (blk b cs E)) (h:∀ (i:Nat) n,l[i]?=some n→cs[o+i]?=some (I64 n)):Xbx w iC 1 (some (ad b o)) l:=fun i n hn=>by
 refine ⟨_,rfl,fun j v hj=>?_⟩
 have hb:=hS.block (b:=b) (o:=Xh cs E) hk
 match j,hj with
 | 0,hj =>
  cases hj
  rw [Xt,Xt]
  refine Xp hb ?_
  rw [Y1i]
  exact h i n hn
 | j+1,hj=>simp [iC] at hj
theorem X8z (a:Option Addr) (cap:Nat) (l:List (Int)) (hln:l.length≤9223372036854775807) (pr:Int→Bool) (fid:FuncId) (fn:Func) (hfn:Tryz.prog.funcs[fid]?=some fn) (hcal:Xk fn=true) (capv:List Value) (B w:World) (I:Im) (As:List X9) (hE:∀ w,Sat B w I As→Xbx w iC 1 a l) (hf:∀ (r:Int) (hr:r∈l) w,Sat B w I As→Calls Tryz.prog fid ([I64 r] ++ capv).toArray w (Ret fun v w'=>v=.bool (pr r)∧Sat B w' I As)) (hS:Sat B w I As) :
  Calls Tryz.prog 198 [.slice a l.length cap,.func (.func fid) #[] capv.toArray].toArray w (Ret fun v w'=>v=I64 (X1l pr l 0)∧Sat B w' I As):=by
 refine calls Tryz.func198 rfl Tryz.ntmps198 rfl (.seq (.q 1 rfl (.seq (.seq (.region (.run 3 rfl ⟨⟨_,Xm⟩,trivial⟩ (.nil (.block (.loop (σ:=Nat) (fun i=>[(0,.slice a l.length cap),(1,.func (.func fid) #[] capv.toArray),(7,I64 (l.length:Nat)),(8,I64 (i:Nat))]) (fun i w=>i≤l.length∧(∀ (j:Nat) t,j<i→l[j]?=some t→pr t=false)∧Sat B w I As) (fun i=>l.length - i) 0 ⟨rfl,rfl,rfl,rfl,trivial⟩ ⟨Yp _,fun _ _ h=>absurd h (by omega),hS⟩ ?_)))))))))
 rintro i w ⟨hi,hno,hS⟩
 change WC _ _ _ _ [(0,.slice a l.length cap),(1,.func (.func fid) #[] capv.toArray),(7,I64 (l.length:Nat)),(8,I64 (i:Nat))] w
 refine .seq (.q 1 rfl (.seq ?_))
 refine WC.cond rfl (fun hb9=>?_) (fun hb9=>?_)
 ·
  have hc9:=hb9; try simp only [Y5] at hc9
  refine .skip (.seq (.block (.seq ?_)))
  obtain ⟨r,hr⟩:∃ r,l[i]?=some r:=⟨_,Y7 (by omega)⟩
  obtain ⟨p,rfl,hx⟩:=hE w hS i r hr
  refine .q 2 rfl (.seq (.t 3 rfl ?_))
  refine WL.val (.indexAddrI (.of rfl) (.of rfl) (by omega) (by omega) Xm Qs3) rfl ?_
  refine WL.val (.ld1 (.of rfl) (by have h9:=hx 0 _ rfl; simpa [Addr.add_add] using h9) Qg3) rfl ?_
  refine .vcall (cap:=capv) hfn hcal (.of rfl) (X0 (.of rfl) X4) rfl (hf r (Yr hr) w hS) ?_
  clear hS
  rintro _ w ⟨rfl,hS⟩
  refine .nil ?_
  refine WC.cond rfl (fun hb16=>?_) (fun hb16=>?_)
  ·
   have hc16:=hb16; try simp only [Y5] at hc16
   refine .seq (.q 2 rfl (.ret (Xe Tryz.results198 rfl ?_)))
   exact ⟨_,rfl,by rw [X5y hno hr hb16],hS⟩
  have hc16:=hb16; try simp only [Y5] at hc16
  refine .skip (.region (.run 2 rfl ⟨⟨by omega,by omega⟩,trivial⟩ (.nil ?_)))
  refine ⟨i+1,⟨rfl,rfl,rfl,rfl,trivial⟩,⟨by (try dsimp only); omega,fun j t hj ht=>?_,hS⟩,by (try dsimp only); omega⟩
  rcases Yv j i with h1 | h1
  ·exact hno j t h1 ht
  ·have e:j=i:=by omega
   subst e
   rw [hr] at ht; cases ht
   exact hb16
 have hc9:=hb9; try simp only [Y5] at hc9
 refine .exit (.seq (.q 1 rfl (.ret (Xe Tryz.results198 rfl ?_))))
 exact ⟨_,rfl,by rw [X4u (fun j t ht=>hno j t (by have:=(Y4.1 ht).1; omega) ht)],hS⟩
theorem X1t (a:Option Addr) (cap:Nat) (l:List (Int)) (hln:l.length≤9223372036854775807) (pr:Int→Bool) (fid:FuncId) (fn:Func) (hfn:Tryz.prog.funcs[fid]?=some fn) (hcal:Xk fn=true) (capv:List Value) (B w:World) (I:Im) (As:List X9) (hE:∀ w,Sat B w I As→Xbx w iC 1 a l) (hf:∀ (r:Int) (hr:r∈l) w,Sat B w I As→Calls Tryz.prog fid ([I64 r] ++ capv).toArray w (Ret fun v w'=>v=.bool (pr r)∧Sat B w' I As)) (hS:Sat B w I As) :
  Calls Tryz.prog 152 [.slice a l.length cap,.func (.func fid) #[] capv.toArray].toArray w (Ret fun v w'=>v=.bool (l.any pr)∧Sat B w' I As):=by
 refine calls Xk9 rfl Tryz.ntmps152 rfl (.seq (.q 1 rfl (.seq (.t 2 rfl (.call Tryz.func198 rfl (X0 (.of rfl) (X0 (.of rfl) X4)) rfl (X8z a cap l hln pr fid fn hfn hcal capv B _ I As hE hf hS) ?_)))))
 clear hS
 rintro _ w ⟨rfl,hS⟩
 refine .q 2 rfl (.nil (.ret (Xe Tryz.results152 rfl ?_)))
 exact ⟨_,rfl,by rw [← X5t pr l 0],hS⟩
theorem Xai (n:Int) (B w:World) (I:Im) (As:List X9) (hS:Sat B w I As) :
  Calls Tryz.prog 151 [I64 n].toArray w (Ret fun v w'=>v=.bool (Xog n)∧Sat B w' I As):=by
 refine calls Xlw rfl Tryz.ntmps151 rfl (.seq (.q 1 rfl (.seq (.t 3 rfl (.gval rfl rfl (fun hg1=>(.move (.of rfl))) rfl (.gval rfl rfl (fun hg1=>(.gtr (.gd hg1 rfl) (.of rfl))) rfl (.val (.por (.of rfl) (.of rfl) (.of rfl)) rfl (.q 1 rfl (.nil (.ret (Xe Tryz.results151 rfl ?_)))))))))))
 exact ⟨_,rfl,rfl,hS⟩
theorem Xfm (p:Nat→Int) (B w:World) (I:Im) (As:List X9) (hS:Sat B w I As) :
  Calls Tryz.prog 104 [.agg ((psL p).map I64).toArray].toArray w (Ret fun v w'=>v=.bool (Xmh p)∧Sat B w' I As):=by
 refine calls Tryz.func104 rfl Tryz.ntmps104 rfl (.seq (.region (.boxA (cs:=(psL p).map I64) hS (.of rfl) rfl ?_)))
 clear hS; intro b1 w hS
 refine .q 1 rfl (.nil (.seq (.q 1 rfl (.seq (.region ?_)))))
 refine WL.val (.fieldAddr 0 (.of rfl) Qu26 rfl rfl Qs24 rfl) rfl ?_
 refine .val (Ex.slcArr (.of rfl) Qu24 Qs3) rfl (.q 1 rfl (.call Xk9 rfl (X0 (.of rfl) (X0 (.of rfl) X4)) rfl (X1t (some (ad b1 0)) 7 ((psL p).take 7) (show (7:Nat)≤9223372036854775807 by decide) Xog 151 _ Xlw rfl [] B _ I _ (fun w h=>Xa3 h (k:=0) rfl (fun i n hn=>by match i,hn with | 0,hn=>exact congrArg (Option.map I64) hn | 1,hn=>exact congrArg (Option.map I64) hn | 2,hn=>exact congrArg (Option.map I64) hn | 3,hn=>exact congrArg (Option.map I64) hn | 4,hn=>exact congrArg (Option.map I64) hn | 5,hn=>exact congrArg (Option.map I64) hn | 6,hn=>exact congrArg (Option.map I64) hn | i+7,hn=>cases hn)) (fun n hn w h=>Xai n B w I _ h) hS) ?_))
 clear hS
 rintro _ w ⟨rfl,hS⟩
 refine .q 2 rfl ?_
 refine WL.gval rfl rfl (fun hg1=>(by exact .fieldAddr 7 (.of rfl) Qu26 rfl rfl Qs24 rfl)) rfl ?_
 refine .gval rfl rfl (fun hg1=>(Ex.slcArr (.gd hg1 rfl) Qu24 Qs3)) rfl (.gval rfl rfl (fun hg1=>(.move (.of rfl))) rfl (.gcall (T:=fun w=>Sat B w I (blk b1 ((psL p).map I64) 26::As)) rfl rfl rfl Xk9 rfl (fun hg1=>(X0 (.gd hg1 rfl) (X0 (.gd hg1 rfl) X4))) rfl (fun hg1=>X1t (some (ad b1 7)) 7 (((psL p).drop 7).take 7) (show (7:Nat)≤9223372036854775807 by decide) Xog 151 _ Xlw rfl [] B _ I _ (fun w h=>Xa3 h (k:=0) rfl (fun i n hn=>by match i,hn with | 0,hn=>exact congrArg (Option.map I64) hn | 1,hn=>exact congrArg (Option.map I64) hn | 2,hn=>exact congrArg (Option.map I64) hn | 3,hn=>exact congrArg (Option.map I64) hn | 4,hn=>exact congrArg (Option.map I64) hn | 5,hn=>exact congrArg (Option.map I64) hn | 6,hn=>exact congrArg (Option.map I64) hn | i+7,hn=>cases hn)) (fun n hn w h=>Xai n B w I _ h) hS) hS ?_))
 clear hS; rintro w hS
 refine .gval rfl rfl (fun hg1=>(.not (.gd hg1 rfl))) rfl (.val (.pand (.of rfl) (.of rfl) (.of rfl)) rfl (.q 1 rfl ?_))
 refine WL.gval rfl rfl (fun hg1=>(by exact .fieldAddr 14 (.of rfl) Qu26 rfl rfl Qs24 rfl)) rfl ?_
 refine .gval rfl rfl (fun hg1=>(Ex.slcArr (.gd hg1 rfl) Qu24 Qs3)) rfl (.gval rfl rfl (fun hg1=>(.move (.of rfl))) rfl (.gcall (T:=fun w=>Sat B w I (blk b1 ((psL p).map I64) 26::As)) rfl rfl rfl Xk9 rfl (fun hg1=>(X0 (.gd hg1 rfl) (X0 (.gd hg1 rfl) X4))) rfl (fun hg1=>X1t (some (ad b1 14)) 7 ((psL p).drop 14) (show (7:Nat)≤9223372036854775807 by decide) Xog 151 _ Xlw rfl [] B _ I _ (fun w h=>Xa3 h (k:=0) rfl (fun i n hn=>by match i,hn with | 0,hn=>exact congrArg (Option.map I64) hn | 1,hn=>exact congrArg (Option.map I64) hn | 2,hn=>exact congrArg (Option.map I64) hn | 3,hn=>exact congrArg (Option.map I64) hn | 4,hn=>exact congrArg (Option.map I64) hn | 5,hn=>exact congrArg (Option.map I64) hn | 6,hn=>exact congrArg (Option.map I64) hn | i+7,hn=>cases hn)) (fun n hn w h=>Xai n B w I _ h) hS) hS ?_))
 clear hS; rintro w hS
 refine .gval rfl rfl (fun hg1=>(.not (.gd hg1 rfl))) rfl (.val (.pand (.of rfl) (.of rfl) (.of rfl)) rfl (.q 1 rfl (.nil (.ret (Xe Tryz.results104 rfl ?_)))))
 exact ⟨_,rfl,rfl,hS.drop (k:=0) rfl⟩
theorem Xd7 (tb:Nat) (room:Int) (a:Option Addr) (c:Nat) (l:List Rec) (hl:l.length≤100000) (hwf:Wf l) (ps:List Int) (hps:ps.length=21) (name:List UInt8) (now:Int) (hn:0≤now∧now≤1099511627776) (B w:World) (I:Im) (As:List X9) (hS:Sat B w I (blk tb [I64 room,.slice a l.length c] 114::Vec 54 10 (.slice a l.length c) l.length (Xd l)::As)) :
  Calls Tryz.prog 62 [ptr tb 0,.agg (ps.map I64).toArray,S name,I64 now].toArray w (Ret fun v w'=>v=.bool (Xbi ps l name now)∧Sat B w' I (blk tb [I64 room,.slice a l.length c] 114::Vec 54 10 (.slice a l.length c) l.length (Xd l)::As)) :=
 (Xgc tb room a c l hl hwf ps hps name now hn B w I As hS).mono fun e w' ⟨v,he,J,hJ,hv,hS⟩=>⟨v,he,hv,hS.weaken hJ⟩
theorem wd_pol {p:Wp} {ω:Wd} {j:Nat} {v:Value} (h:((psL p.ps).map I64)[j]?=some v):(wdC p ω)[0+4+j]?=some v:=by
 have h1:=(Y4.1 h).1
 have e:wdC p ω=[ptr p.tb 0,ptr p.mb 0,.pointer (some p.pr),ptr p.ub 0] ++ ((psL p.ps).map I64 ++ [I64 ω.now]):=rfl
 rw [e,Yt (by simp),Y6,Y6,Y6,Y6,Yh,show 0+4+j - (0+1+1+1+1)=j by omega,Yi h1]
 exact h
def X1d (ps:Nat→Int) (ω:Wd) (name:List UInt8) (kind:Int):Rec×Bool:=if ((((getD ω.l name).kind) != kind) || !Xbi (psL ps) ω.l name ω.now)=true then (r0,false) else (getD ω.l name,true)
theorem Xhe (name:List UInt8) (kind:Int) (p:Wp) (ω:Wd) (hω:X5c ω) (B w:World) (I:Im) (As:List X9) (hS:Sat B w I (wdA p ω::As)) :
  Calls Tryz.prog 19 [ptr p.wb 0,S name,I64 kind].toArray w (Ret fun v w'=>v=.tuple #[.agg (X8 (X1d p.ps ω name kind).1).toArray,.bool (X1d p.ps ω name kind).2]∧Sat B w' I (wdA p ω::As)):=by
 refine calls Tryz.func19 rfl Tryz.ntmps19 rfl (.seq ?_)
 obtain ⟨⟨a,c,ma,mc⟩,hS⟩:=Sat.unbox hS
 replace hS:Sat B _ _ (blk p.wb (wdC p ω) 44::blk p.tb [I64 ω.room,.slice a ω.l.length c] 114::Vec 54 10 (.slice a ω.l.length c) ω.l.length (Xd ω.l)::blk p.mb [.slice ma ω.D.length mc] 111::X4c 104 (.slice ma ω.D.length mc) (ω.D.map fun d=>U64 (d:Nat))::As):=hS
 have hlen:=hω.len
 refine .region (.allocA (cs:=[_,_,_,_,_,_,_,_,_,_]) hS Xbl rfl ?_)
 clear hS; intro b6 w hS
 refine .q 1 rfl (.nil (.seq (.t 2 rfl ?_)))
 refine WL.val (.fieldAddr 0 (.of rfl) X70 rfl rfl Xfl rfl) rfl ?_
 refine WL.val (.ld (.of rfl) hS (k:=1) rfl Xd9 rfl) rfl ?_
 refine .q 1 rfl (.call Xow rfl (X0 (.of rfl) (X0 (.of rfl) X4)) rfl (X60 p.tb ω.room a c ω.l (by omega) name B _ I _ ((hS.pick 3 rfl).pick 3 rfl)) ?_)
 clear hS
 rintro _ w ⟨rfl,hS⟩
 try dsimp only [List.eraseIdx] at hS
 refine .q 3 rfl (.allocA (cs:=[_,_,_,_,_,_,_,_,_,_]) hS Xbl rfl ?_)
 clear hS; intro b8 w hS
 refine WL.stA hS (k:=0) rfl (.of rfl) (.of rfl) rfl X26 rfl (by simp) ?_
 clear hS; intro w hS; try dsimp only [List.set] at hS
 try simp only [Ym,Yc,Yg,Y9,Yl,Yo,Yf] at hS
 refine .q 1 rfl (.nil (.seq (.seq ?_)))
 replace hS:=(hS.pick 2 rfl).pick 2 rfl
 try dsimp only [List.eraseIdx] at hS
 refine .quiet (by kernel_rfl) (by kernel_rfl) hS ?_
 refine WQ.val (fun w hS=>(by exact .fieldAddr 0 (.of rfl) X20 rfl rfl Qs3 rfl)) rfl ?_
 refine WQ.val (fun w hS=>(by exact (.ld (.of rfl) hS (k:=2) rfl Qg3 rfl))) rfl ?_
 refine .val (fun w hS=>(.move (.of rfl))) rfl (.val (fun w hS=>(.neq (.of rfl) (.of rfl))) rfl (.val (fun w hS=>(.move (.of rfl))) rfl (.gval rfl rfl rfl (fun hg1 w hS=>(.move (.of rfl))) rfl (.gval rfl rfl rfl (fun hg1 w hS=>(.nilCheck (.gd hg1 rfl))) rfl ?_))))
 refine WQ.gval rfl rfl rfl (fun hg1 w hS=>(by exact .fieldAddr 0 (.gd hg1 rfl) X70 rfl rfl Xfl rfl)) rfl ?_
 refine WQ.gval rfl rfl rfl (fun hg1 w hS=>(by exact (.ld (.gd hg1 rfl) hS (k:=4) rfl Xd9 rfl))) rfl ?_
 refine .gval rfl rfl rfl (fun hg1 w hS=>(.move (.of rfl))) rfl (.gval rfl rfl rfl (fun hg1 w hS=>(.nilCheck (.gd hg1 rfl))) rfl ?_)
 refine WQ.gval rfl rfl rfl (fun hg1 w hS=>(by exact .fieldAddr 4 (.gd hg1 rfl) X70 rfl rfl Xn5 rfl)) rfl ?_
 refine .gval rfl rfl rfl (fun hg1 w hS=>(.lds (vs:=(psL p.ps).map I64) (.gd hg1 rfl) hS (k:=4) rfl Qg26 Xn5 rfl (fun j v hj=>wd_pol hj))) rfl (.gval rfl rfl rfl (fun hg1 w hS=>(.move (.of rfl))) rfl (.gval rfl rfl rfl (fun hg1 w hS=>(.move (.of rfl))) rfl (.gval rfl rfl rfl (fun hg1 w hS=>(.nilCheck (.gd hg1 rfl))) rfl ?_)))
 refine WQ.gval rfl rfl rfl (fun hg1 w hS=>(by exact .fieldAddr 25 (.gd hg1 rfl) X70 rfl rfl Qs3 rfl)) rfl ?_
 refine WQ.gval rfl rfl rfl (fun hg1 w hS=>(by exact (.ld (.gd hg1 rfl) hS (k:=4) rfl Qg3 rfl))) rfl ?_
 refine .gcall rfl rfl rfl Tryz.func62 rfl (fun hg1=>(X0 (.gd hg1 rfl) (X0 (.gd hg1 rfl) (X0 (.gd hg1 rfl) (X0 (.gd hg1 rfl) X4))))) rfl (fun hg1 w hS=>Xd7 p.tb ω.room a c ω.l (by omega) hω.wf (psL p.ps) rfl name ω.now hω.now B _ I _ hS) (.gval rfl rfl rfl (fun hg1 w hS=>(.not (.gd hg1 rfl))) rfl (.val (fun w hS=>(.por (.of rfl) (.of rfl) (.of rfl))) rfl (.nil ?_)))
 clear hS; intro w hS
 refine WC.cond rfl (fun hb39=>?_) (fun hb39=>?_)
 ·
  have hc39:=hb39; try simp only [Y5] at hc39
  refine .seq (.region (.val (.build (cs:=[_,_,_,_,_,_,_,_,_,_]) X6 X3n rfl) rfl ?_))
  refine WL.stA hS (k:=3) rfl (.of rfl) (.of rfl) rfl X26 rfl (by simp) ?_
  clear hS; intro w hS; try dsimp only [List.set] at hS
  try simp only [Ym,Yc,Yg,Y9,Yl,Yo,Yf] at hS
  refine .q 1 rfl (.nil (.ret ?_))
  refine X1j (b:=_) (cs:=[_,_,_,_,_,_,_,_,_,_]) Tryz.results19 hS (k:=3) rfl X97 X26 rfl rfl rfl ?_
  refine ⟨_,rfl,?_,Sat.box (T:=wdT p _) (a,c,ma,mc) ?_⟩
  ·rw [X1d,if_pos hb39]; rfl
  replace hS:=((hS.drop (k:=2) rfl).drop (k:=2) rfl).pick 2 rfl
  try dsimp only [List.eraseIdx] at hS
  exact hS
 have hc39:=hb39; try simp only [Y5] at hc39
 refine .skip (.seq (.region ?_))
 refine WL.val (.ldsW (cs:=[_,_,_,_,_,_,_,_,_,_]) (.of rfl) hS (k:=2) rfl X97 X26 rfl) rfl ?_
 refine WL.stA hS (k:=3) rfl (.of rfl) (.of rfl) rfl X26 rfl (by simp) ?_
 clear hS; intro w hS; try dsimp only [List.set] at hS
 try simp only [Ym,Yc,Yg,Y9,Yl,Yo,Yf] at hS
 refine .q 1 rfl (.nil (.ret ?_))
 refine X1j (b:=_) (cs:=[_,_,_,_,_,_,_,_,_,_]) Tryz.results19 hS (k:=3) rfl X97 X26 rfl rfl rfl ?_
 refine ⟨_,rfl,?_,Sat.box (T:=wdT p _) (a,c,ma,mc) ?_⟩
 ·rw [X1d,if_neg (by rw [hb39]; decide)]; rfl
 replace hS:=((hS.drop (k:=2) rfl).drop (k:=2) rfl).pick 2 rfl
 try dsimp only [List.eraseIdx] at hS
 exact hS
theorem Xn4 (p:Wp) (ω:Wd) (a:Option Addr) (c:Nat) (hlen:ω.l.length≤64) (xb:Nat) (name:List UInt8) (B w:World) (I:Im) (As:List X9) (hS:Sat B w I (blk xb [ptr p.wb 0] 37::blk p.wb (wdC p ω) 44::blk p.tb [I64 ω.room,.slice a ω.l.length c] 114::Vec 54 10 (.slice a ω.l.length c) ω.l.length (Xd ω.l)::As)) :
  Calls Tryz.prog 115 [S name,ptr xb 0].toArray w (Ret fun v w'=>v=.bool (get ω.l name).isSome∧Sat B w' I (blk xb [ptr p.wb 0] 37::blk p.wb (wdC p ω) 44::blk p.tb [I64 ω.room,.slice a ω.l.length c] 114::Vec 54 10 (.slice a ω.l.length c) ω.l.length (Xd ω.l)::As)):=by
 refine calls Tryz.func115 rfl Tryz.ntmps115 rfl (.seq (.q 1 rfl (.seq (.region ?_))))
 refine WL.val (.ld (.of rfl) hS (k:=0) rfl Xi4 rfl) rfl ?_
 refine .q 1 rfl ?_
 refine WL.val (.fieldAddr 0 (.of rfl) X70 rfl rfl Xfl rfl) rfl ?_
 refine WL.val (.ld (.of rfl) hS (k:=1) rfl Xd9 rfl) rfl ?_
 refine .q 1 rfl (.call Xow rfl (X0 (.of rfl) (X0 (.of rfl) X4)) rfl (X60 p.tb ω.room a c ω.l (by omega) name B _ I _ ((hS.pick 3 rfl).pick 3 rfl)) ?_)
 clear hS
 rintro _ w ⟨rfl,hS⟩
 replace hS:=((hS.pick 3 rfl).pick 3 rfl)
 try dsimp only [List.eraseIdx] at hS
 refine .q 3 rfl (.allocA (cs:=[_,_,_,_,_,_,_,_,_,_]) hS Xbl rfl ?_)
 clear hS; intro b4 w hS
 refine WL.stA hS (k:=0) rfl (.of rfl) (.of rfl) rfl X26 rfl (by simp) ?_
 clear hS; intro w hS; try dsimp only [List.set] at hS
 try simp only [Ym,Yc,Yg,Y9,Yl,Yo,Yf] at hS
 refine .q 1 rfl (.nil (.seq (.q 2 rfl (.ret (Xe Tryz.results115 rfl ?_)))))
 exact ⟨_,rfl,rfl,hS.drop (k:=0) rfl⟩
def mkN (ω:Wd) (r:Rec):(List UInt8×Nat)×List Nat:=X3s (fun s=>(get ω.l s).isSome) r.kind ω.D
def mkR (ω:Wd) (r:Rec):Rec:={ r with name:=(mkN ω r).1.1,made:=ω.now,used:=ω.now }
def mkW (ω:Wd) (r:Rec):(List UInt8×Nat)×Wd :=
 if (mkN ω r).1.2≠0 then (([],39),{ ω with D:=(mkN ω r).2 })
 else (if Xds ω.room ω.l (mkR ω r)≠0 then ([],39) else ((mkN ω r).1.1,0),{ ω with D:=(mkN ω r).2,l:=add ω.room ω.l (mkR ω r) })
theorem Xoa {pr:List UInt8→Bool} {kind:Int} {D:List Nat}:∀ d∈(X3s pr kind D).2,d∈D:=by
 intro d hd
 unfold X3s at hd
 split at hd
 ·exact hd
 ·split at hd
  ·simp at hd
  ·rename_i x D
   split at hd <;> exact Y2a _ hd
theorem Xc9 {pr:List UInt8→Bool} {kind:Int} {D:List Nat}:(X3s pr kind D).1.1.length≤23:=by
 unfold X3s
 split
 ·simp
 ·split
  ·simp
  ·split
   ·simp
   ·have:=Xdn kind
    simp only [Y0,Y6,X48]; omega
theorem X38 {ω:Wd} (h:X5c ω) (r:Rec):X5c (mkW ω r).2:=by
 unfold mkW
 have hD:∀ d∈(mkN ω r).2,d<18446744073709551616:=fun d hd=>h.D d (Xoa d hd)
 split
 ·exact ⟨h.len,h.wf,hD,h.now,h.room⟩
 ·refine ⟨?_,h.wf.add,hD,h.now,h.room⟩
  show (add ω.room ω.l (mkR ω r)).length≤64
  unfold add
  split
  ·rename_i e
   have:=(Xim e).2.2.2
   have:=h.room
   rw [Y0,Y6,Yh]; omega
  ·exact h.len
theorem Xad (r:Rec) (hrp:r.parent.length≤1000000) (p:Wp) (ω:Wd) (hω:X5c ω) (B w:World) (I:Im) (hI:WpOk I p) (As:List X9) (hS:Sat B w I (wdA p ω::As)) :
  Calls Tryz.prog 52 [ptr p.wb 0,.agg (X8 r).toArray].toArray w (Ret fun v w'=>v=.tuple #[S (mkW ω r).1.1,I64 ((mkW ω r).1.2:Nat)]∧Sat B w' I (wdA p (mkW ω r).2::As)):=by
 refine calls Qf52 rfl Tryz.ntmps52 rfl (.seq ?_)
 obtain ⟨⟨a,c,ma,mc⟩,hS⟩:=Sat.unbox hS
 replace hS:Sat B _ _ (blk p.wb (wdC p ω) 44::blk p.tb [I64 ω.room,.slice a ω.l.length c] 114::Vec 54 10 (.slice a ω.l.length c) ω.l.length (Xd ω.l)::blk p.mb [.slice ma ω.D.length mc] 111::X4c 104 (.slice ma ω.D.length mc) (ω.D.map fun d=>U64 (d:Nat))::As):=hS
 have hlen:=hω.len
 refine .region (.box1 hS (.of rfl) rfl rfl ?_)
 clear hS; intro b2 w hS
 refine .boxA (cs:=[_,_,_,_,_,_,_,_,_,_]) hS (.of rfl) rfl ?_
 clear hS; intro b3 w hS
 refine .q 2 rfl (.nil (.seq (.drawn (fun w=>∃ R,Sat B w I (blk b2 [ptr p.wb 0] 37::blk b3 [I64 r.kind,S r.name,S r.parent,S r.user,S r.service,S r.url,I64 r.made,I64 r.used,I64 r.uses,.bool r.fresh] 54::blk p.wb (wdC p ω) 44::R)) (fun j=>!([].contains j)) (by kernel_rfl) ?_)))
 replace hS:=hS.drew; generalize w.drew=w at hS ⊢
 have hH:∃ R,Sat B w I (blk b2 [ptr p.wb 0] 37::blk b3 [I64 r.kind,S r.name,S r.parent,S r.user,S r.service,S r.url,I64 r.made,I64 r.used,I64 r.uses,.bool r.fresh] 54::blk p.wb (wdC p ω) 44::R):=⟨_,(((hS.pick 2 rfl).pick 1 rfl).pick 2 rfl)⟩
 refine WD.tk (i:=0) rfl (by kernel_rfl) hH (fun w ⟨R,hS⟩=>((.ld (.of rfl) hS (k:=0) rfl Xi4 rfl))) rfl ?_
 refine .tp (i:=1) rfl (by kernel_rfl) (fun w=>(.nilCheck (.of rfl))) rfl ?_
 refine WD.tp (i:=2) rfl (by kernel_rfl) (fun w=>(.fieldAddr 1 (.of rfl) X70 rfl rfl Tryz.sizeOf40 rfl)) rfl ?_
 refine WD.tk (i:=3) rfl (by kernel_rfl) hH (fun w ⟨R,hS⟩=>((.ld (.of rfl) hS (k:=2) rfl Tryz.isAgg40 rfl))) rfl ?_
 refine WD.tp (i:=4) rfl (by kernel_rfl) (fun w=>(.fieldAddr 0 (.of rfl) X20 rfl rfl Qs3 rfl)) rfl ?_
 refine WD.tk (i:=5) rfl (by kernel_rfl) hH (fun w ⟨R,hS⟩=>((.ld (.of rfl) hS (k:=1) rfl Qg3 rfl))) rfl ?_
 refine .tp (i:=6) rfl (by kernel_rfl) (fun w=>(.makeFunc (X0 (.of rfl) X4))) rfl ?_
 refine WD.branch [7] (by kernel_rfl) rfl (WO.cons rfl ?_ (WO.nil))
 refine .call Tryz.func114 rfl (X0 (.of rfl) (X0 (.of rfl) (X0 (.of rfl) X4))) rfl (Xm2 p.mb ma mc ω.D hω.D r.kind (fun s=>(get ω.l s).isSome) 115 _ Tryz.func115 rfl [ptr b2 0] B _ I hI.pre (blk b2 [ptr p.wb 0] 37::blk p.wb (wdC p ω) 44::blk p.tb [I64 ω.room,.slice a ω.l.length c] 114::Vec 54 10 (.slice a ω.l.length c) ω.l.length (Xd ω.l)::blk b3 [I64 r.kind,S r.name,S r.parent,S r.user,S r.service,S r.url,I64 r.made,I64 r.used,I64 r.uses,.bool r.fresh] 54::As) (fun M s w h=>(Xn4 p ω a c hlen b2 s B w I (blk b3 [I64 r.kind,S r.name,S r.parent,S r.user,S r.service,S r.url,I64 r.made,I64 r.used,I64 r.uses,.bool r.fresh] 54::As ++ M) (Sat.swap (M:=M) (As:=blk b2 [ptr p.wb 0] 37::blk p.wb (wdC p ω) 44::blk p.tb [I64 ω.room,.slice a ω.l.length c] 114::Vec 54 10 (.slice a ω.l.length c) ω.l.length (Xd ω.l)::blk b3 [I64 r.kind,S r.name,S r.parent,S r.user,S r.service,S r.url,I64 r.made,I64 r.used,I64 r.uses,.bool r.fresh] 54::As) h)).mono fun e w9 ⟨v9,he,hv,hS9⟩=>⟨v9,he,hv,Sat.swap (M:=blk b2 [ptr p.wb 0] 37::blk p.wb (wdC p ω) 44::blk p.tb [I64 ω.room,.slice a ω.l.length c] 114::Vec 54 10 (.slice a ω.l.length c) ω.l.length (Xd ω.l)::blk b3 [I64 r.kind,S r.name,S r.parent,S r.user,S r.service,S r.url,I64 r.made,I64 r.used,I64 r.uses,.bool r.fresh] 54::As) (As:=M) hS9⟩) ((((((hS.pick 4 rfl).pick 4 rfl).pick 4 rfl).pick 4 rfl).pick 6 rfl).pick 6 rfl)) ?_
 clear hS
 rintro _ w ⟨rfl,ma2,mc2,hS⟩
 try dsimp only [List.eraseIdx] at hS
 replace hS:Sat B w I (blk p.mb [.slice ma2 (mkN ω r).2.length mc2] 111::X4c 104 (.slice ma2 (mkN ω r).2.length mc2) ((mkN ω r).2.map fun d=>U64 (d:Nat))::blk b2 [ptr p.wb 0] 37::blk p.wb (wdC p ω) 44::blk p.tb [I64 ω.room,.slice a ω.l.length c] 114::Vec 54 10 (.slice a ω.l.length c) ω.l.length (Xd ω.l)::blk b3 [I64 r.kind,S r.name,S r.parent,S r.user,S r.service,S r.url,I64 r.made,I64 r.used,I64 r.uses,.bool r.fresh] 54::As):=hS
 refine .nil ?_
 clear hH
 have hH:∃ R,Sat B w I (blk b2 [ptr p.wb 0] 37::blk b3 [I64 r.kind,S r.name,S r.parent,S r.user,S r.service,S r.url,I64 r.made,I64 r.used,I64 r.uses,.bool r.fresh] 54::blk p.wb (wdC p ω) 44::R):=⟨_,(((hS.pick 3 rfl).pick 6 rfl).pick 4 rfl)⟩
 refine And.intro (by intro _ _; exact hH) ?_
 refine .tp (i:=8) rfl (by kernel_rfl) (fun w=>(.move (.of rfl))) rfl (.tp (i:=9) rfl (by kernel_rfl) (fun w=>(.extract (.of rfl) rfl)) rfl (.tp (i:=10) rfl (by kernel_rfl) (fun w=>(.extract (.of rfl) rfl)) rfl (.tp (i:=11) rfl (by kernel_rfl) (fun w=>(.assign (.of rfl))) rfl (.tp (i:=12) rfl (by kernel_rfl) (fun w=>(.assign (.of rfl))) rfl (.done (by kernel_rfl) (.seq (.seq (.q 2 rfl ?_))))))))
 refine WC.cond rfl (fun hb20=>?_) (fun hb20=>?_)
 ·
  have hc20:=hb20; try simp only [Y5] at hc20
  refine .seq (.q 2 rfl (.ret (X1g Tryz.results52 rfl rfl ?_)))
  have hE:mkW ω r=(([],39),{ ω with D:=(mkN ω r).2 }):=if_pos (by simpa [mkN] using hb20)
  rw [hE]
  replace hS:=(hS.drop (k:=2) rfl).drop (k:=5) rfl
  try dsimp only [List.eraseIdx] at hS
  exact ⟨_,rfl,rfl,Sat.box (T:=wdT p _) (a,c,ma2,mc2) (((hS.pick 4 rfl).pick 4 rfl).pick 4 rfl)⟩
 have hc20:=hb20; try simp only [Y5] at hc20
 refine .skip ?_
 refine WC.cutS (σ:=Unit) (fun _=>[(2,ptr b2 0),(3,ptr b3 0),(6,S (mkN ω r).1.1)]) (fun _ w=>Sat B w I (blk p.mb [.slice ma2 (mkN ω r).2.length mc2] 111::X4c 104 (.slice ma2 (mkN ω r).2.length mc2) ((mkN ω r).2.map fun d=>U64 (d:Nat))::blk b2 [ptr p.wb 0] 37::blk p.wb (wdC p ω) 44::blk p.tb [I64 ω.room,.slice a ω.l.length c] 114::Vec 54 10 (.slice a ω.l.length c) ω.l.length (Xd ω.l)::blk b3 [I64 r.kind,S (mkN ω r).1.1,S r.parent,S r.user,S r.service,S r.url,I64 ω.now,I64 ω.now,I64 r.uses,.bool r.fresh] 54::As)) ?_ ?_
 ·
  refine .drawn (fun w=>∃ R,Sat B w I (blk b2 [ptr p.wb 0] 37::blk p.wb (wdC p ω) 44::R)) (fun j=>!([].contains j)) (by kernel_rfl) ?_
  replace hS:=hS.drew; generalize w.drew=w at hS ⊢
  have hH:∃ R,Sat B w I (blk b2 [ptr p.wb 0] 37::blk p.wb (wdC p ω) 44::R):=⟨_,((hS.pick 3 rfl).pick 3 rfl)⟩
  refine .tp (i:=0) rfl (by kernel_rfl) (fun w=>(.move (.of rfl))) rfl ?_
  refine WD.tk (i:=1) rfl (by kernel_rfl) hH (fun w ⟨R,hS⟩=>((.ld (.of rfl) hS (k:=0) rfl Xi4 rfl))) rfl ?_
  refine .tp (i:=2) rfl (by kernel_rfl) (fun w=>(.nilCheck (.of rfl))) rfl ?_
  refine WD.tp (i:=3) rfl (by kernel_rfl) (fun w=>(.fieldAddr 25 (.of rfl) X70 rfl rfl Qs3 rfl)) rfl ?_
  refine WD.tk (i:=4) rfl (by kernel_rfl) hH (fun w ⟨R,hS⟩=>((.ld (.of rfl) hS (k:=1) rfl Qg3 rfl))) rfl ?_
  refine WD.tk (i:=5) rfl (by kernel_rfl) hH (fun w ⟨R,hS⟩=>((.ld (.of rfl) hS (k:=0) rfl Xi4 rfl))) rfl ?_
  refine .tp (i:=6) rfl (by kernel_rfl) (fun w=>(.nilCheck (.of rfl))) rfl ?_
  refine WD.tp (i:=7) rfl (by kernel_rfl) (fun w=>(.fieldAddr 25 (.of rfl) X70 rfl rfl Qs3 rfl)) rfl ?_
  refine WD.tk (i:=8) rfl (by kernel_rfl) hH (fun w ⟨R,hS⟩=>((.ld (.of rfl) hS (k:=1) rfl Qg3 rfl))) rfl ?_
  refine WD.tp (i:=9) rfl (by kernel_rfl) (fun w=>(.fieldAddr 1 (.of rfl) X20 rfl rfl Qs9 rfl)) rfl ?_
  refine WD.branch [10] (by kernel_rfl) rfl (WO.cons rfl ?_ (WO.nil))
  refine WL.st1 hS (k:=6) rfl (.of rfl) (.of rfl) rfl Qs9 (by simp) ?_
  clear hS; intro w hS; try dsimp only [List.set] at hS
  refine .nil ?_
  clear hH
  have hH:∃ R,Sat B w I (blk b2 [ptr p.wb 0] 37::blk p.wb (wdC p ω) 44::R):=⟨_,((hS.pick 3 rfl).pick 3 rfl)⟩
  refine And.intro (by intro _ _; exact hH) ?_
  refine WD.tp (i:=11) rfl (by kernel_rfl) (fun w=>(.fieldAddr 6 (.of rfl) X20 rfl rfl Qs3 rfl)) rfl ?_
  refine WD.branch [12] (by kernel_rfl) rfl (WO.cons rfl ?_ (WO.nil))
  refine WL.st1 hS (k:=6) rfl (.of rfl) (.of rfl) rfl Qs3 (by simp) ?_
  clear hS; intro w hS; try dsimp only [List.set] at hS
  refine .nil ?_
  clear hH
  have hH:∃ R,Sat B w I (blk b2 [ptr p.wb 0] 37::blk p.wb (wdC p ω) 44::R):=⟨_,((hS.pick 3 rfl).pick 3 rfl)⟩
  refine And.intro (by intro _ _; exact hH) ?_
  refine WD.tp (i:=13) rfl (by kernel_rfl) (fun w=>(.fieldAddr 7 (.of rfl) X20 rfl rfl Qs3 rfl)) rfl ?_
  refine WD.branch [14] (by kernel_rfl) rfl (WO.cons rfl ?_ (WO.nil))
  refine WL.st1 hS (k:=6) rfl (.of rfl) (.of rfl) rfl Qs3 (by simp) ?_
  clear hS; intro w hS; try dsimp only [List.set] at hS
  refine .nil ?_
  clear hH
  have hH:∃ R,Sat B w I (blk b2 [ptr p.wb 0] 37::blk p.wb (wdC p ω) 44::R):=⟨_,((hS.pick 3 rfl).pick 3 rfl)⟩
  refine And.intro (by intro _ _; exact hH) ?_
  refine .done (by kernel_rfl) ?_
  exact ⟨(),⟨rfl,rfl,rfl,trivial⟩,hS⟩
 rintro _ w hS
 change WC _ _ _ _ [(2,ptr b2 0),(3,ptr b3 0),(6,S (mkN ω r).1.1)] w
 refine .seq (.seq (.drawn (fun w=>∃ R,Sat B w I (blk b2 [ptr p.wb 0] 37::blk b3 [I64 r.kind,S (mkN ω r).1.1,S r.parent,S r.user,S r.service,S r.url,I64 ω.now,I64 ω.now,I64 r.uses,.bool r.fresh] 54::blk p.wb (wdC p ω) 44::R)) (fun j=>!([].contains j)) (by kernel_rfl) ?_))
 replace hS:=hS.drew; generalize w.drew=w at hS ⊢
 have hH:∃ R,Sat B w I (blk b2 [ptr p.wb 0] 37::blk b3 [I64 r.kind,S (mkN ω r).1.1,S r.parent,S r.user,S r.service,S r.url,I64 ω.now,I64 ω.now,I64 r.uses,.bool r.fresh] 54::blk p.wb (wdC p ω) 44::R):=⟨_,(((hS.pick 3 rfl).pick 6 rfl).pick 4 rfl)⟩
 refine WD.tk (i:=0) rfl (by kernel_rfl) hH (fun w ⟨R,hS⟩=>((.ld (.of rfl) hS (k:=0) rfl Xi4 rfl))) rfl ?_
 refine .tp (i:=1) rfl (by kernel_rfl) (fun w=>(.nilCheck (.of rfl))) rfl ?_
 refine WD.tp (i:=2) rfl (by kernel_rfl) (fun w=>(.fieldAddr 0 (.of rfl) X70 rfl rfl Xfl rfl)) rfl ?_
 refine WD.tk (i:=3) rfl (by kernel_rfl) hH (fun w ⟨R,hS⟩=>((.ld (.of rfl) hS (k:=2) rfl Xd9 rfl))) rfl ?_
 refine WD.tk (i:=4) rfl (by kernel_rfl) hH (fun w ⟨R,hS⟩=>((.ldsW (cs:=[_,_,_,_,_,_,_,_,_,_]) (.of rfl) hS (k:=1) rfl X97 X26 rfl))) rfl ?_
 refine WD.branch [5] (by kernel_rfl) rfl (WO.cons rfl ?_ (WO.nil))
 refine WL.call Tryz.func48 rfl (X0 (.of rfl) (X0 (.of rfl) X4)) rfl (Xj0 p.tb ω.room a c ω.l (by omega) (mkR ω r) (by have:=Xc9 (pr:=fun s=>(get ω.l s).isSome) (kind:=r.kind) (D:=ω.D); exact Y32 this (by decide)) hrp B _ I hI.known hI.pre _ ((hS.pick 5 rfl).pick 5 rfl)) ?_
 clear hS
 rintro _ w ⟨rfl,a2,c2,hS⟩
 try dsimp only [List.eraseIdx] at hS
 refine .nil ?_
 clear hH
 have hH:∃ R,Sat B w I (blk b2 [ptr p.wb 0] 37::blk b3 [I64 r.kind,S (mkN ω r).1.1,S r.parent,S r.user,S r.service,S r.url,I64 ω.now,I64 ω.now,I64 r.uses,.bool r.fresh] 54::blk p.wb (wdC p ω) 44::R):=⟨_,(((hS.pick 5 rfl).pick 6 rfl).pick 6 rfl)⟩
 refine And.intro (by intro _ _; exact hH) ?_
 refine .tp (i:=6) rfl (by kernel_rfl) (fun w=>(.neq (.of rfl) (.of rfl))) rfl (.done (by kernel_rfl) ?_)
 refine WC.cond rfl (fun hb39=>?_) (fun hb39=>?_)
 ·
  have hc39:=hb39; try simp only [Y5] at hc39
  refine .seq (.q 2 rfl (.ret (X1g Tryz.results52 rfl rfl ?_)))
  have hE:mkW ω r=(([],39),{ ω with D:=(mkN ω r).2,l:=add ω.room ω.l (mkR ω r) }):=by
   rw [mkW,if_neg (by simpa [mkN] using hb20),if_pos (by simpa using hb39)]
  rw [hE]
  replace hS:=((hS.pick 5 rfl).drop (k:=5) rfl).drop (k:=5) rfl
  try dsimp only [List.eraseIdx] at hS
  exact ⟨_,rfl,rfl,Sat.box (T:=wdT p _) (a2,c2,ma2,mc2) hS⟩
 have hc39:=hb39; try simp only [Y5] at hc39
 refine .skip (.seq (.q 3 rfl (.ret (X1g Tryz.results52 rfl rfl ?_))))
 have hE:mkW ω r=(((mkN ω r).1.1,0),{ ω with D:=(mkN ω r).2,l:=add ω.room ω.l (mkR ω r) }):=by
  rw [mkW,if_neg (by simpa [mkN] using hb20),if_neg (by simpa using hb39)]
 rw [hE]
 replace hS:=((hS.pick 5 rfl).drop (k:=5) rfl).drop (k:=5) rfl
 try dsimp only [List.eraseIdx] at hS
 exact ⟨_,rfl,rfl,Sat.box (T:=wdT p _) (a2,c2,ma2,mc2) hS⟩
theorem Xjf {r:Rec} (h:Xx r=true):r.name.length≤23∧r.parent.length≤23:=by
 unfold Xx at h
 simp only [Yn] at h
 obtain ⟨⟨_,h1⟩,h2⟩:=h
 constructor
 ·unfold isT at h1
  cases hp:X2t r.name with
  | none=>rw [hp] at h1; cases h1
  | some x=>exact (X5v (k:=x.1) (d:=x.2) hp).2.2.2.1
 ·unfold X4d at h2
  split at h2
  ·rename_i e; rw [e]; simp
  ·cases hp:X2t r.parent with
   | none=>rw [hp] at h2; cases h2
   | some x=>exact (X5v (k:=x.1) (d:=x.2) hp).2.2.2.1
theorem Xb4 {l:List Rec} (hw:Wf l) (name:List UInt8):(get l name=none∧getD l name=r0)∨(get l name=some (getD l name)∧Xx (getD l name)=true∧(getD l name).name=name):=by
 rcases Tr.get_at l name with ⟨_,h⟩ | ⟨j,r,_,h2,h3,h4⟩
 ·exact .inl ⟨h,by rw [getD,h]; rfl⟩
 ·have e:getD l name=r:=by rw [getD,h4]; rfl
  exact .inr ⟨by rw [e]; exact h4,by rw [e]; exact hw.right r (Yr h2),by rw [e]; exact h3⟩
theorem Xg2 {l:List Rec} (hw:Wf l) (name:List UInt8):(getD l name).name.length≤23∧(getD l name).parent.length≤23∧0≤(getD l name).uses∧(getD l name).uses≤255:=by
 rcases Xb4 hw name with ⟨_,e⟩ | ⟨_,h,_⟩
 ·rw [e]; decide
 ·have h1:=Xjf h
  have h2:=X7w h
  exact ⟨h1.1,h1.2,h2.2.2⟩
def X7l (ω:Wd) (name:List UInt8):Wd:={ ω with l:=drop ω.l name }
theorem Xf8 {ω:Wd} (h:X5c ω) (name:List UInt8):X5c (X7l ω name):=⟨Y32 (Xkm ω.l name).length_le h.len,h.wf.drop name,h.D,h.now,h.room⟩
structure Ak where
 service:List UInt8
 cookie:List UInt8
 has:Bool
 renew:Bool
 gateway:Bool
 warn:Bool
theorem Xha (s:List UInt8) (hs:s.length≤1000000) (p:Wp) (B w:World) (I:Im) (hI:WpOk I p) (As:List X9) (hS:Sat B w I As) :
  Calls Tryz.prog 50 [.pointer (some p.pr),S s].toArray w (Ret fun v w'=>∃ J ra rc,Le I J∧v=.tuple #[.agg (X2v (X24 p.lo s).1 ra rc).toArray,S (X24 p.lo s).2.1,I64 (((X24 p.lo s).2.2:Nat):Int)]∧(X24 p.lo s).1.rel.length≤rc∧RS J ra 1 (X24 p.lo s).1.rel.length ((X24 p.lo s).1.rel.map S)∧Sat B w' J As):=by
 obtain ⟨a,c,E,h1,h2,h3⟩:=hI.reg
 refine (Xe0 p.pr p.lo hI.lo hI.rel s hs a c E B w I hI.known h1 h3 As hS).mono fun e w' ⟨v,he,J,u,cs,n,e2,hJ,hv,⟨ra,rc,hcs,h4,h5⟩,hf,hS⟩=>⟨v,he,J,ra,rc,hJ,?_⟩
 rw [hf]; subst hcs
 exact ⟨hv,h4,h5,hS⟩
theorem Xab (s:List UInt8) (hs:s.length≤1000000) (p:Wp) (B w:World) (I:Im) (hI:WpOk I p) (As:List X9) (hS:Sat B w I As) :
  Calls Tryz.prog 50 [.pointer (some p.pr),S s].toArray w (Ret fun v w'=>∃ ra rc,v=.tuple #[.agg (X2v (X24 p.lo s).1 ra rc).toArray,S (X24 p.lo s).2.1,I64 (((X24 p.lo s).2.2:Nat):Int)]∧Sat B w' I As) :=
 (Xha s hs p B w I hI As hS).mono fun e w' ⟨v,he,J,ra,rc,hJ,hv,_,_,hS⟩=>⟨v,he,ra,rc,hv,hS.weaken hJ⟩
def putW (ω:Wd) (r:Rec):Wd:={ ω with l:=put ω.l r }
theorem Xnk {ω:Wd} (h:X5c ω) (r:Rec):X5c (putW ω r):=⟨by show (put ω.l r).length≤64; rw [X99]; exact h.len,h.wf.put,h.D,h.now,h.room⟩
theorem Xbt {ps:Nat→Int} {ω:Wd} (h:X5c ω) (name:List UInt8) (kind:Int):(X1d ps ω name kind).1.name.length≤23∧(X1d ps ω name kind).1.parent.length≤23∧0≤(X1d ps ω name kind).1.uses∧(X1d ps ω name kind).1.uses≤255:=by
 unfold X1d
 split
 ·decide
 ·exact Xg2 h.wf name
theorem Xkb:Bld Tryz.prog 44 [(0,1),(1,1),(2,1),(3,1),(4,21),(25,1)] [.pointer none,.pointer none,.pointer none,.pointer none,.int .i64 0,.int .i64 0,.int .i64 0,.int .i64 0,.int .i64 0,.int .i64 0,.int .i64 0,.int .i64 0,.int .i64 0,.int .i64 0,.int .i64 0,.int .i64 0,.int .i64 0,.int .i64 0,.int .i64 0,.int .i64 0,.int .i64 0,.int .i64 0,.int .i64 0,.int .i64 0,.int .i64 0,.int .i64 0]:=X2l X70 Tryz.zeroValue44 (fun w=>by simp [go_sem])
structure Cf where
 svs:List Sv
 us:List Us
 ps:Nat→Int
 room:Int
 base:Nat
 factor:Nat
 most:Nat
 tries:Int
def X1i (c:Cf) (a:Option Addr) (cap:Nat) (ua:Option Addr) (ucap:Nat):List Value:=.slice a c.svs.length cap::.slice ua c.us.length ucap::((psL c.ps).map I64 ++ [I64 c.room,F64 c.base,F64 c.factor,F64 c.most,I64 c.tries])
structure Cf.fits (c:Cf):Prop where
 svs:c.svs.length≤100000
 ords:∀ v∈ords c.svs,v<18446744073709551616
 sfit:∀ s∈c.svs,s.urls.length≤9223372036854775807∧s.calls.length≤9223372036854775807∧s.rel.length≤1000000
 us:c.us.length≤9223372036854775807
 ufit:∀ u∈c.us,u.fits
def Xci (c:Cf):Nat:=if (X5i c.svs).1≠0 then (X5i c.svs).1 else if (X8w c.us 0 []).1≠0 then (X8w c.us 0 []).1 else if Xmh c.ps=false then 1 else 0
theorem Xjj:∀ (l:List Us) (i:Nat) (acc:List Us),(X8w l i acc).1=0→∀ u∈l,Xay u=true
 | [],_,_,_,u,h=>by simp at h
 | t::l,i,acc,h,u,hu=>by
  rw [X8w] at h
  split at h
  ·cases h
  ·split at h
   ·cases h
   ·rename_i h1
    split at h
    ·cases h
    ·rcases Y17.1 hu with e | hu
     ·subst e; simpa using h1
     ·exact Xjj l (i+1) _ h u hu
theorem Xi7 {l:List Sv} {D:List Int} (hO:Srt.Ord (kx (ords l)) l.length D):∀ s∈X4t l D,s∈l:=by
 intro s hs
 unfold X4t at hs
 obtain ⟨d,hd,rfl⟩:=Y2c.1 hs
 obtain ⟨h1,h2⟩:=Srt.upto_mem.1 (hO.2.mem_iff.1 hd)
 rw [Yd,Y7 (by omega)]
 exact Y2k _
theorem Xh0 {A vs C:List Value} {j:Nat} {v:Value} (h:vs[j]?=some v):(A ++ (vs ++ C))[A.length+j]?=some v:=by
 rw [Yt (by omega),Y29,Yi (Y4.1 h).1]
 exact h
def w0 (c:Cf):Wd:=⟨Xoo c.room,[],[],0⟩
theorem w0_ok (c:Cf):X5c (w0 c):=⟨by simp [w0],Wf.nil,fun d h=>by simp [w0] at h,by simp [w0],by unfold w0 Xoo; (try dsimp only); omega⟩
set_option maxRecDepth 20000 in
theorem Xb9 (c:Cf) (hc:c.fits) (a:Option Addr) (cap:Nat) (ua:Option Addr) (ucap:Nat) (B w:World) (I:Im) (hK:Known I) (hP:PreAt I) (hl:SvsAt I a c.svs) (hU:UsrsAt I ua c.us) (As:List X9) (hS:Sat B w I As) :
  Calls Tryz.prog 47 [.agg (X1i c a cap ua ucap).toArray].toArray w (Ret fun v w'=>∃ J,Le I J∧((Xci c≠0∧v=.tuple #[.pointer none,I64 (Xci c:Nat)]∧Sat B w' J As)∨(Xci c=0∧∃ p D,Srt.Ord (kx (ords c.svs)) c.svs.length D∧p.lo=X4t c.svs D∧p.us=c.us∧p.ps=c.ps∧v=.tuple #[ptr p.wb 0,I64 0]∧WpOk J p∧Sat B w' J (wdA p (w0 c)::As)))):=by
 refine calls Tryz.func47 rfl Tryz.ntmps47 rfl (.seq (.region (.boxA (cs:=[_,_,_,_,_,_,_,_,_,_,_,_,_,_,_,_,_,_,_,_,_,_,_,_,_,_,_,_]) hS (.of rfl) rfl ?_)))
 clear hS; intro b1 w hS
 refine .q 2 rfl (.nil (.seq (.region ?_)))
 refine WL.val (.fieldAddr 0 (.of rfl) Qu29 rfl rfl Tryz.sizeOf22 rfl) rfl ?_
 refine .val (.ld (.of rfl) hS (k:=0) rfl Tryz.isAgg22 rfl) rfl (.call Tryz.func102 rfl (X0 (.of rfl) X4) rfl (Xoq a cap c.svs hc.svs hc.ords hc.sfit B _ I hl _ hS) ?_)
 clear hS
 rintro v w ⟨J,hJ,hS,hor⟩
 obtain ⟨pv,e9,i9,rfl,he9,hz9⟩:∃ (pv:Value) (e9 i9:Nat),v=.tuple #[pv,I64 (e9:Nat),I64 (i9:Nat)]∧e9=(X5i c.svs).1∧(e9=0→∃ pr D,pv=.pointer (some pr)∧Srt.Ord (kx (ords c.svs)) c.svs.length D∧RegAt J pr (X4t c.svs D)):=by
  rcases hor with ⟨h1,h2⟩ | ⟨h1,pr,D,h2,h3,h4⟩
  ·exact ⟨_,_,_,h2,rfl,fun h=>absurd h h1⟩
  ·exact ⟨_,0,0,h2,h1.symm,fun _=>⟨pr,D,rfl,h3,h4⟩⟩
 refine .q 7 rfl (.nil (.seq (.seq (.q 2 rfl ?_))))
 refine WC.cond rfl (fun hb17=>?_) (fun hb17=>?_)
 ·
  have hc17:=hb17; try simp only [Y5] at hc17
  refine .seq (.q 3 rfl (.ret (X1g Qr47 rfl rfl ?_)))
  have hne:(X5i c.svs).1≠0:=by rw [← he9]; simpa using hb17
  have hE:Xci c=e9:=by rw [Xci,if_pos hne,he9]
  exact ⟨_,rfl,J,hJ,.inl ⟨by rw [hE,he9]; exact hne,by rw [hE]; rfl,hS.drop (k:=0) rfl⟩⟩
 have hc17:=hb17; try simp only [Y5] at hc17
 refine .skip (.seq (.region ?_))
 refine WL.val (.fieldAddr 1 (.of rfl) Qu29 rfl rfl Tryz.sizeOf23 rfl) rfl ?_
 refine .val (.ld (.of rfl) hS (k:=0) rfl Tryz.isAgg23 rfl) rfl (.call Tryz.func103 rfl (X0 (.of rfl) X4) rfl (Xcc ua ucap c.us hc.us hc.ufit B _ J (hU.mono hJ) _ hS) ?_)
 clear hS
 rintro v w ⟨J2,hJ2,hor2,hS⟩
 have hw0:(X5i c.svs).1=0:=by rw [← he9]; simpa using hb17
 obtain ⟨pr,D,rfl,hOrd,hreg⟩:=hz9 (by omega)
 obtain ⟨uv,f9,j9,rfl,hf9,hy9⟩:∃ (uv:Value) (f9 j9:Nat),v=.tuple #[uv,I64 (f9:Nat),I64 (j9:Nat)]∧f9=(X8w c.us 0 []).1∧(f9=0→∃ ub,uv=ptr ub 0∧TabAt J2 ub c.us):=by
  rcases hor2 with ⟨h1,ub,h2,h3⟩ | ⟨h1,h2⟩
  ·exact ⟨_,0,0,h2,h1.symm,fun _=>⟨ub,rfl,h3⟩⟩
  ·exact ⟨_,_,_,h2,rfl,fun h=>absurd h h1⟩
 refine .q 7 rfl (.nil (.seq (.seq (.q 2 rfl ?_))))
 refine WC.cond rfl (fun hb27=>?_) (fun hb27=>?_)
 ·
  have hc27:=hb27; try simp only [Y5] at hc27
  refine .seq (.q 3 rfl (.ret (X1g Qr47 rfl rfl ?_)))
  have hne:(X8w c.us 0 []).1≠0:=by rw [← hf9]; simpa using hb27
  have hE:Xci c=f9:=by rw [Xci,if_neg (by rw [hw0]; decide),if_pos hne,hf9]
  exact ⟨_,rfl,J2,hJ.trans hJ2,.inl ⟨by rw [hE,hf9]; exact hne,by rw [hE]; rfl,hS.drop (k:=0) rfl⟩⟩
 have hc27:=hb27; try simp only [Y5] at hc27
 refine .skip (.seq (.seq (.region ?_)))
 refine WL.val (.fieldAddr 2 (.of rfl) Qu29 rfl rfl Xn5 rfl) rfl ?_
 refine .val (.lds (vs:=[I64 (c.ps 0),I64 (c.ps 1),I64 (c.ps 2),I64 (c.ps 3),I64 (c.ps 4),I64 (c.ps 5),I64 (c.ps 6),I64 (c.ps 7),I64 (c.ps 8),I64 (c.ps 9),I64 (c.ps 10),I64 (c.ps 11),I64 (c.ps 12),I64 (c.ps 13),I64 (c.ps 14),I64 (c.ps 15),I64 (c.ps 16),I64 (c.ps 17),I64 (c.ps 18),I64 (c.ps 19),I64 (c.ps 20)]) (.of rfl) hS (k:=0) rfl Qg26 Xn5 rfl (fun j v hj=>Xh0 (A:=[.slice a c.svs.length cap,.slice ua c.us.length ucap]) (C:=[I64 c.room,F64 c.base,F64 c.factor,F64 c.most,I64 c.tries]) hj)) rfl (.call Tryz.func104 rfl (X0 (.of rfl) X4) rfl (Xfm c.ps B _ J2 _ hS) ?_)
 clear hS
 rintro _ w ⟨rfl,hS⟩
 have hu0:(X8w c.us 0 []).1=0:=by rw [← hf9]; simpa using hb27
 obtain ⟨ub,rfl,hTab⟩:=hy9 (by omega)
 refine .q 1 rfl (.nil ?_)
 refine WC.cond rfl (fun hb32=>?_) (fun hb32=>?_)
 ·
  have hc32:=hb32; try simp only [Y5] at hc32
  refine .seq (.q 2 rfl (.ret (X1g Qr47 rfl rfl ?_)))
  have hE:Xci c=1:=by rw [Xci,if_neg (by rw [hw0]; decide),if_neg (by rw [hu0]; decide),if_pos (by simpa using hb32)]
  exact ⟨_,rfl,J2,hJ.trans hJ2,.inl ⟨by rw [hE]; decide,by rw [hE]; rfl,hS.drop (k:=0) rfl⟩⟩
 have hc32:=hb32; try simp only [Y5] at hc32
 refine .skip (.seq (.drawn (fun w=>∃ R,Sat B w J2 (blk b1 [.slice a c.svs.length cap,.slice ua c.us.length ucap,I64 (c.ps 0),I64 (c.ps 1),I64 (c.ps 2),I64 (c.ps 3),I64 (c.ps 4),I64 (c.ps 5),I64 (c.ps 6),I64 (c.ps 7),I64 (c.ps 8),I64 (c.ps 9),I64 (c.ps 10),I64 (c.ps 11),I64 (c.ps 12),I64 (c.ps 13),I64 (c.ps 14),I64 (c.ps 15),I64 (c.ps 16),I64 (c.ps 17),I64 (c.ps 18),I64 (c.ps 19),I64 (c.ps 20),I64 c.room,F64 c.base,F64 c.factor,F64 c.most,I64 c.tries] 29::R)) (fun j=>!([].contains j)) (by kernel_rfl) ?_))
 replace hS:=hS.drew; generalize w.drew=w at hS ⊢
 have hH:∃ R,Sat B w J2 (blk b1 [.slice a c.svs.length cap,.slice ua c.us.length ucap,I64 (c.ps 0),I64 (c.ps 1),I64 (c.ps 2),I64 (c.ps 3),I64 (c.ps 4),I64 (c.ps 5),I64 (c.ps 6),I64 (c.ps 7),I64 (c.ps 8),I64 (c.ps 9),I64 (c.ps 10),I64 (c.ps 11),I64 (c.ps 12),I64 (c.ps 13),I64 (c.ps 14),I64 (c.ps 15),I64 (c.ps 16),I64 (c.ps 17),I64 (c.ps 18),I64 (c.ps 19),I64 (c.ps 20),I64 c.room,F64 c.base,F64 c.factor,F64 c.most,I64 c.tries] 29::R):=⟨_,(hS.pick 0 rfl)⟩
 refine WD.tp (i:=0) rfl (by kernel_rfl) (fun w=>(.fieldAddr 23 (.of rfl) Qu29 rfl rfl Qs3 rfl)) rfl ?_
 refine .tk (i:=1) rfl (by kernel_rfl) hH (fun w ⟨R,hS⟩=>(.ld (.of rfl) hS (k:=0) rfl Qg3 rfl)) rfl (.tp (i:=4) rfl (by kernel_rfl) (fun w=>(.move (.of rfl))) rfl (.tp (i:=5) rfl (by kernel_rfl) (fun w=>(.move (.of rfl))) rfl ?_))
 refine WD.tp (i:=6) rfl (by kernel_rfl) (fun w=>(.fieldAddr 2 (.of rfl) Qu29 rfl rfl Xn5 rfl)) rfl ?_
 refine .tk (i:=7) rfl (by kernel_rfl) hH (fun w ⟨R,hS⟩=>.lds (vs:=[I64 (c.ps 0),I64 (c.ps 1),I64 (c.ps 2),I64 (c.ps 3),I64 (c.ps 4),I64 (c.ps 5),I64 (c.ps 6),I64 (c.ps 7),I64 (c.ps 8),I64 (c.ps 9),I64 (c.ps 10),I64 (c.ps 11),I64 (c.ps 12),I64 (c.ps 13),I64 (c.ps 14),I64 (c.ps 15),I64 (c.ps 16),I64 (c.ps 17),I64 (c.ps 18),I64 (c.ps 19),I64 (c.ps 20)]) (.of rfl) hS (k:=0) rfl Qg26 Xn5 rfl (fun j v hj=>Xh0 (A:=[.slice a c.svs.length cap,.slice ua c.us.length ucap]) (C:=[I64 c.room,F64 c.base,F64 c.factor,F64 c.most,I64 c.tries]) hj)) rfl ?_
 refine WD.branch [2] (by kernel_rfl) rfl (WO.cons rfl ?_ (WO.nil))
 refine .call Tryz.func105 rfl (X0 (.of rfl) X4) rfl (Xdc c.room B _ J2 _ hS) ?_
 clear hS
 rintro _ w ⟨tb,rfl,hS⟩
 refine .nil ?_
 clear hH
 have hH:∃ R,Sat B w J2 (blk b1 [.slice a c.svs.length cap,.slice ua c.us.length ucap,I64 (c.ps 0),I64 (c.ps 1),I64 (c.ps 2),I64 (c.ps 3),I64 (c.ps 4),I64 (c.ps 5),I64 (c.ps 6),I64 (c.ps 7),I64 (c.ps 8),I64 (c.ps 9),I64 (c.ps 10),I64 (c.ps 11),I64 (c.ps 12),I64 (c.ps 13),I64 (c.ps 14),I64 (c.ps 15),I64 (c.ps 16),I64 (c.ps 17),I64 (c.ps 18),I64 (c.ps 19),I64 (c.ps 20),I64 c.room,F64 c.base,F64 c.factor,F64 c.most,I64 c.tries] 29::R):=⟨_,(hS.pick 2 rfl)⟩
 refine And.intro (by intro _ _; exact hH) ?_
 refine WD.branch [3] (by kernel_rfl) rfl (WO.cons rfl ?_ (WO.nil))
 refine .call Tryz.func106 rfl (X0 (.of rfl) X4) rfl (Xcl B _ J2 _ hS) ?_
 clear hS
 rintro _ w ⟨mb,rfl,hS⟩
 refine .nil ?_
 clear hH
 have hH:∃ R,Sat B w J2 (blk b1 [.slice a c.svs.length cap,.slice ua c.us.length ucap,I64 (c.ps 0),I64 (c.ps 1),I64 (c.ps 2),I64 (c.ps 3),I64 (c.ps 4),I64 (c.ps 5),I64 (c.ps 6),I64 (c.ps 7),I64 (c.ps 8),I64 (c.ps 9),I64 (c.ps 10),I64 (c.ps 11),I64 (c.ps 12),I64 (c.ps 13),I64 (c.ps 14),I64 (c.ps 15),I64 (c.ps 16),I64 (c.ps 17),I64 (c.ps 18),I64 (c.ps 19),I64 (c.ps 20),I64 c.room,F64 c.base,F64 c.factor,F64 c.most,I64 c.tries] 29::R):=⟨_,(hS.pick 4 rfl)⟩
 refine And.intro (by intro _ _; exact hH) ?_
 refine .tp (i:=8) rfl (by kernel_rfl) (fun w=>(.build (cs:=[_,_,_,_,_,_,_,_,_,_,_,_,_,_,_,_,_,_,_,_,_,_,_,_,_,_]) (X5 (.of rfl) (X5 (.of rfl) (X5 (.of rfl) (X5 (.of rfl) (X5 (.of rfl) X6))))) Xkb rfl)) rfl ?_
 refine WD.branch [9] (by kernel_rfl) rfl (WO.cons rfl ?_ (WO.nil))
 refine .boxA (cs:=[_,_,_,_,_,_,_,_,_,_,_,_,_,_,_,_,_,_,_,_,_,_,_,_,_,_]) hS (.of rfl) rfl ?_
 clear hS; intro b42 w hS
 refine .nil ?_
 clear hH
 have hH:∃ R,Sat B w J2 (blk b1 [.slice a c.svs.length cap,.slice ua c.us.length ucap,I64 (c.ps 0),I64 (c.ps 1),I64 (c.ps 2),I64 (c.ps 3),I64 (c.ps 4),I64 (c.ps 5),I64 (c.ps 6),I64 (c.ps 7),I64 (c.ps 8),I64 (c.ps 9),I64 (c.ps 10),I64 (c.ps 11),I64 (c.ps 12),I64 (c.ps 13),I64 (c.ps 14),I64 (c.ps 15),I64 (c.ps 16),I64 (c.ps 17),I64 (c.ps 18),I64 (c.ps 19),I64 (c.ps 20),I64 c.room,F64 c.base,F64 c.factor,F64 c.most,I64 c.tries] 29::R):=⟨_,(hS.pick 5 rfl)⟩
 refine And.intro (by intro _ _; exact hH) ?_
 refine .tp (i:=10) rfl (by kernel_rfl) (fun w=>(.assign (.of rfl))) rfl (.tp (i:=11) rfl (by kernel_rfl) (fun w=>(.assign (.of rfl))) rfl (.done (by kernel_rfl) (.ret (X1g Qr47 rfl rfl ?_))))
 have hE:Xci c=0:=by rw [Xci,if_neg (by rw [hw0]; decide),if_neg (by rw [hu0]; decide),if_neg (by simpa using hb32)]
 have hp:=Xi7 hOrd
 refine ⟨_,rfl,J2,hJ.trans hJ2,.inr ⟨hE,⟨b42,tb,mb,ub,pr,X4t c.svs D,c.us,c.ps⟩,D,hOrd,rfl,rfl,rfl,rfl,⟨hreg.mono hJ2,hTab,?_,fun s hs=>(hc.sfit s (hp s hs)).2.2,hc.ufit,fun u hu=>X8a (Xjj c.us 0 [] hu0 u hu),(hK.mono hJ).mono hJ2,(hP.mono hJ).mono hJ2⟩,?_⟩⟩
 ·show (X4t c.svs D).length≤100000
  rw [X4t,Y13,hOrd.len]; exact hc.svs
 ·exact Sat.box (T:=wdT ⟨b42,tb,mb,ub,pr,X4t c.svs D,c.us,c.ps⟩ (w0 c)) (none,0,none,0) ((((((hS.pick 2 rfl).pick 2 rfl).pick 4 rfl).pick 4 rfl).pick 4 rfl).drop (k:=5) rfl)
structure Sx where
 user:List UInt8
 attrs:List Pr
 proxies:List (List UInt8)
 iou:List UInt8
def SxAt (J:Im) (x:Sx) (cs:List Value):Prop:=∃ ka kc pa pc,cs=[S x.user,.slice ka x.attrs.length kc,.slice pa x.proxies.length pc,S x.iou]∧x.attrs.length≤kc∧RS J ka 2 x.attrs.length (X1b Xl x.attrs)∧x.proxies.length≤pc∧RS J pa 1 x.proxies.length (x.proxies.map S)
theorem SxAt.mono {I J:Im} {x:Sx} {cs:List Value} (h:SxAt I x cs) (hl:Le I J):SxAt J x cs:=by
 obtain ⟨ka,kc,pa,pc,e,h1,h2,h3,h4⟩:=h
 exact ⟨ka,kc,pa,pc,e,h1,h2.mono hl,h3,h4.mono hl⟩
theorem Ex.sub3U {P:Program} {n:Nat} {L:Env} {w:World} {d:Option Nat} {ty t:TypeId} {pos:String} {af:Array Edge} {g:Option (Nat×Bool)} {x y z:Operand} {l:List UInt8} {i j:Int} (hx:Ev n L x (S l)) (hy:Ev n L y (U64 i)) (hz:Ev n L z (U64 j)) (h0:0≤i) (h1:i≤j) (h2:j≤(l.length:Int)) (hT:P.underlying t=some .string) :
  Ex P n L w ⟨d,.slice t x (some y) (some z) none,ty,pos,af,g⟩ (S ((l.drop i.toNat).take (j.toNat - i.toNat))) w:=fun a ha=>by
 have h:=run_slice_string (P:=P) w t ⟨l.toArray⟩ .u64 .u64 i j hT h0 h1 h2
 rw [X8k] at h
 simp [execOp,hx a ha,hy a ha,hz a ha,run_sliceAt_string w t _ _ _ _ hT,h]
theorem Xnb {α:Type} {cells:α→List Value} {s:Nat} (hc:∀ x,(cells x).length=s) {I:Im} {a:Option Addr} {l:List α} (hR:RS I a s l.length (X1b cells l)) {i:Nat} {x:α} (hx:l[i]?=some x):∃ q,a=some q∧At I (q.add (i*s)) (cells x):=by
 obtain ⟨q,rfl,hq⟩:=hR.2 (by have:=(Y4.1 hx).1; omega)
 refine ⟨q,rfl,?_⟩
 have h3:=X4q (hq.add (i*s)) s
 rw [X1b,X2h (l.map cells) (fun c h=>by obtain ⟨y,_,rfl⟩:=Y2c.1 h; exact hc y) i (cells x) (by rw [Yx,hx]; rfl)] at h3
 exact h3
theorem Xao (k:Int) (B w:World) (I:Im) (As:List X9) (hS:Sat B w I As) :
  Calls Tryz.prog 129 [I64 k].toArray w (Ret fun v w'=>v=S (X6t k)∧Sat B w' I As):=by
 refine calls Tryz.func129 rfl Tryz.ntmps129 rfl (.seq (.q 1 rfl (.seq (.seq (.q 1 rfl (.block (.seq (.q 2 rfl ?_))))))))
 refine WC.cond rfl (fun hb4=>?_) (fun hb4=>?_)
 ·
  have hc4:=hb4; try simp only [Y5] at hc4
  refine .seq (.q 1 rfl (.ret (Xe Xcs rfl ?_)))
  refine ⟨_,rfl,congrArg S ?_,hS⟩
  simp only [beq_iff_eq,beq_eq_false_iff_ne] at *
  subst_vars; rfl
 have hc4:=hb4; try simp only [Y5] at hc4
 refine .seq (.q 2 rfl ?_)
 refine WC.cond rfl (fun hb6=>?_) (fun hb6=>?_)
 ·
  have hc6:=hb6; try simp only [Y5] at hc6
  refine .seq (.q 1 rfl (.ret (Xe Xcs rfl ?_)))
  refine ⟨_,rfl,congrArg S ?_,hS⟩
  simp only [beq_iff_eq,beq_eq_false_iff_ne] at *
  subst_vars; rfl
 have hc6:=hb6; try simp only [Y5] at hc6
 refine .seq (.q 2 rfl ?_)
 refine WC.cond rfl (fun hb8=>?_) (fun hb8=>?_)
 ·
  have hc8:=hb8; try simp only [Y5] at hc8
  refine .seq (.q 1 rfl (.ret (Xe Xcs rfl ?_)))
  refine ⟨_,rfl,congrArg S ?_,hS⟩
  simp only [beq_iff_eq,beq_eq_false_iff_ne] at *
  subst_vars; rfl
 have hc8:=hb8; try simp only [Y5] at hc8
 refine .seq (.q 2 rfl ?_)
 refine WC.cond rfl (fun hb10=>?_) (fun hb10=>?_)
 ·
  have hc10:=hb10; try simp only [Y5] at hc10
  refine .seq (.q 1 rfl (.ret (Xe Xcs rfl ?_)))
  refine ⟨_,rfl,congrArg S ?_,hS⟩
  simp only [beq_iff_eq,beq_eq_false_iff_ne] at *
  subst_vars; rfl
 have hc10:=hb10; try simp only [Y5] at hc10
 refine .seq (.q 2 rfl ?_)
 refine WC.cond rfl (fun hb12=>?_) (fun hb12=>?_)
 ·
  have hc12:=hb12; try simp only [Y5] at hc12
  refine .seq (.q 1 rfl (.ret (Xe Xcs rfl ?_)))
  refine ⟨_,rfl,congrArg S ?_,hS⟩
  simp only [beq_iff_eq,beq_eq_false_iff_ne] at *
  subst_vars; rfl
 have hc12:=hb12; try simp only [Y5] at hc12
 refine .seq (.q 2 rfl ?_)
 refine WC.cond rfl (fun hb14=>?_) (fun hb14=>?_)
 ·
  have hc14:=hb14; try simp only [Y5] at hc14
  refine .seq (.q 1 rfl (.ret (Xe Xcs rfl ?_)))
  refine ⟨_,rfl,congrArg S ?_,hS⟩
  simp only [beq_iff_eq,beq_eq_false_iff_ne] at *
  subst_vars; rfl
 have hc14:=hb14; try simp only [Y5] at hc14
 refine .skip (.seq (.q 1 rfl (.ret (Xe Xcs rfl ?_))))
 refine ⟨_,rfl,congrArg S ?_,hS⟩
 simp only [beq_iff_eq,beq_eq_false_iff_ne] at *
 (rw [X6t,if_pos (by omega)])
theorem Xko {n:Nat} (h:n<16):(HEXD.drop n).take 1=[dg n]:=(by decide:∀ n:Fin 16,(HEXD.drop n.val).take 1=[dg n.val]) ⟨n,h⟩
theorem Xdf (kind:Int) (d:Nat) (hd:d<18446744073709551616) (B w:World) (I:Im) (As:List X9) (hS:Sat B w I As) :
  Calls Tryz.prog 99 [I64 kind,U64 (d:Nat)].toArray w (Ret fun v w'=>v=(if X6t kind=[] then .tuple #[S [],I64 8] else .tuple #[S (X6t kind ++ 45::X6y 16 d),I64 0])∧Sat B w' I As):=by
 refine calls Tryz.func99 rfl Tryz.ntmps99 rfl (.seq (.q 2 rfl (.seq (.t 1 rfl (.call Tryz.func129 rfl (X0 (.of rfl) X4) rfl (Xao kind B _ I _ hS) ?_)))))
 clear hS
 rintro _ w ⟨rfl,hS⟩
 refine .q 1 rfl (.nil (.seq (.seq (.q 2 rfl ?_))))
 refine WC.cond rfl (fun hb13=>?_) (fun hb13=>?_)
 ·
  have hc13:=hb13; try simp only [Y5] at hc13
  refine .seq (.q 2 rfl (.ret (X1g Tryz.results99 rfl rfl ?_)))
  exact ⟨_,rfl,by rw [if_pos (by simpa using hb13)],hS⟩
 have hc13:=hb13; try simp only [Y5] at hc13
 refine .skip (.seq (.q 1 rfl (.seq (.q 1 rfl (.seq (.seq (.q 1 rfl (.block (.loop (σ:=Nat×Nat) (fun ⟨i,e⟩=>[(1,U64 (e:Nat)),(6,S (X6t kind)),(7,S HEXD),(8,S (X6y i d)),(9,I64 (i:Nat))]) (fun ⟨i,e⟩ w=>i≤16∧e=d / 16 ^ i∧Sat B w I As) (fun ⟨i,e⟩=>16 - i) (0,d) ⟨rfl,rfl,rfl,rfl,rfl,trivial⟩ ⟨Yp _,by simp,hS⟩ ?_)))))))))
 rintro ⟨i,e⟩ w ⟨hi,he,hS⟩
 change WC _ _ _ _ [(1,U64 (e:Nat)),(6,S (X6t kind)),(7,S HEXD),(8,S (X6y i d)),(9,I64 (i:Nat))] w
 refine .seq (.seq (.q 2 rfl ?_))
 refine WC.cond rfl (fun hb15=>?_) (fun hb15=>?_)
 ·
  have hc15:=hb15; try simp only [Y5] at hc15
  refine .skip (.seq (.block (.seq ?_)))
  have hed:e<18446744073709551616:=by rw [he]; exact Y44 (Nat.div_le_self _ _) hd
  have hdl:=X48 i d
  have hm16:=Nat.mod_lt e (show 0<16 by decide)
  have hcast:((e:Nat):Int) % 16=((e % 16:Nat):Int):=by omega
  have htk:=Xko hm16
  have hsl:(HEXD.drop ((e:Int) % 16).toNat).take (((e:Int) % 16+1).toNat - ((e:Int) % 16).toNat)=[dg (e % 16)]:=by
   rw [hcast,Yk,show (((e % 16:Nat):Int)+1).toNat - e % 16=1 by omega]; exact htk
  have hcons:[dg (e % 16)] ++ X6y i d=X6y (i+1) d:=by rw [X7f,he]; rfl
  have hquo:((e:Nat):Int) / 16=((e / 16:Nat):Int):=by omega
  have hee:e / 16=d / 16 ^ (i+1):=by rw [he,Y4g,Y3n]
  refine .t 2 rfl (.val (.rem (.of rfl) (.of rfl) (by omega) (by omega)) rfl (.q 1 rfl (.val (.rem (.of rfl) (.of rfl) (by omega) (by omega)) rfl ?_)))
  refine WL.val (.addx (.of rfl) (.of rfl) (by rw [IntKind.wrap_u64]; omega)) rfl ?_
  refine WL.val (Ex.sub3U (.of rfl) (.of rfl) (.of rfl) (by omega) (by omega) (by show _≤(16:Int); omega) Qu9) rfl ?_
  rw [hsl]
  refine .q 1 rfl ?_
  refine WL.val (.cat (.of rfl) (.of rfl) (by (try simp only [Y0,Y6,Yh]); omega)) rfl ?_
  rw [hcons]
  refine .q 1 rfl (.nil (.t 1 rfl ?_))
  refine WL.val (.quo (.of rfl) (.of rfl) (by omega) (by omega) (by rw [IntKind.wrap_u64]; omega)) rfl ?_
  rw [hquo]
  refine .q 1 rfl (.nil (.region (.run 3 rfl ⟨⟨by omega,by omega⟩,trivial⟩ (.nil ?_))))
  refine ⟨(i+1,e / 16),⟨rfl,rfl,rfl,rfl,rfl,trivial⟩,⟨by (try dsimp only); omega,hee,hS⟩,by (try dsimp only); omega⟩
 have hc15:=hb15; try simp only [Y5] at hc15
 refine .exit (.seq ?_)
 have hpl:=Xdn kind
 have hdl:=X48 i d
 refine .region ?_
 refine WL.run 6 rfl ⟨by (try simp only [Y0,Y6,Yh]); omega,by (try simp only [Y0,Y6,Yh]); omega,trivial⟩ ?_
 refine .nil (.ret (X1g Tryz.results99 rfl rfl ?_))
 have e16:i=16:=by omega
 subst e16
 refine ⟨_,rfl,by rw [if_neg (by simpa using hb13),Y8]; rfl,hS⟩
def X94 (ω:Wd) (r:Rec):Wd:={ ω with l:=add ω.room ω.l r }
theorem Xnz {ω:Wd} (h:X5c ω) (r:Rec):X5c (X94 ω r):=by
 refine ⟨?_,h.wf.add,h.D,h.now,h.room⟩
 show (add ω.room ω.l r).length≤64
 unfold add
 split
 ·rename_i e
  have:=(Xim e).2.2.2
  have:=h.room
  rw [Y0,Y6,Yh]; omega
 ·exact h.len
theorem Xa2:∀ (l:List Rec) {ω:Wd},X5c ω→X5c (l.foldl X94 ω)
 | [],_,h=>h
 | r::l,_,h=>Xa2 l (Xnz h r)
def MadeT (c:Cf) (ω:Wd) (J:Im) (pv:Option Addr) (B w:World) (As:List X9):Prop:=(Xci c≠0∧pv=none∧Sat B w J As)∨(Xci c=0∧∃ p D,Srt.Ord (kx (ords c.svs)) c.svs.length D∧p.lo=X4t c.svs D∧p.us=c.us∧p.ps=c.ps∧pv=some (ad p.wb 0)∧WpOk J p∧Sat B w J (wdA p ω::As))
structure CfAt (I:Im) (c:Cf) (a:Option Addr) (cap:Nat) (ua:Option Addr) (ucap:Nat):Prop where
 svs:SvsAt I a c.svs
 us:UsrsAt I ua c.us
 cap:c.svs.length≤cap∧cap≤maxLen
 un:c.us.length≤9223372036854775807
 sfit:∀ s∈c.svs,s.fits
 ufit:∀ u∈c.us,u.fits
theorem CfAt.mono {I J:Im} {c:Cf} {a ua:Option Addr} {cap ucap:Nat} (h:CfAt I c a cap ua ucap) (hl:Le I J):CfAt J c a cap ua ucap:=⟨h.svs.mono hl,h.us.mono hl,h.cap,h.un,h.sfit,h.ufit⟩
def Xmx (s:List UInt8):List Value:=[S s]
theorem Xgd (p q:Pr) (w:World):(Op.equalIn 10000 101 (.agg (Xl p).toArray) (.agg (Xl q).toArray)).run Tryz.prog w=.ok (decide (p=q)) w:=by
 have hS:Tryz.prog.underlying 101=some (.struct (Tryz.prog.fieldsOf 101)):=by kernel_rfl
 have hp:Tryz.prog.stoodInHeld 101=false:=by kernel_rfl
 have us:=Qu9
 have as9:=Qg9
 rw [show (10000:Nat)=9999+1 from rfl,run_equalIn_agg w 9999 101 _ _ hS hp]
 simp only [Program.fieldsOf,Xg5]
 obtain ⟨a,b⟩:=p
 obtain ⟨c,d⟩:=q
 unfold Xl
 go_simp
 repeat' split
 all_goals simp_all
theorem Ex.nePr {n:Nat} {L:Env} {w:World} {d:Option Nat} {ty t':TypeId} {pos:String} {af:Array Edge} {g:Option (Nat×Bool)} {x y:Operand} {r s:Pr} (hx:Ev n L x (.agg (Xl r).toArray)) (hy:Ev n L y (.agg (Xl s).toArray)):Ex Tryz.prog n L w ⟨d,.binOp .neq 101 x y t',ty,pos,af,g⟩ (.bool (!decide (r=s))) w :=
 Xz hx hy (fun p q=>run_eqGuard_agg w _ _ _ _ _ _ (by kernel_rfl)) (by rw [run_neq_struct,Xgd]; rfl)
theorem X6c (a b:Option Addr) (ca cb:Nat) (la lb:List Pr) (hla:la.length≤9223372036854775807) (B w:World) (I:Im) (hA:RS I a 2 la.length (X1b Xl la)) (hB:RS I b 2 lb.length (X1b Xl lb)) (As:List X9) (hS:Sat B w I As) :
  Calls Tryz.prog 43 [.slice a la.length ca,.slice b lb.length cb].toArray w (Ret fun v w'=>v=.bool (decide (la=lb))∧Sat B w' I As):=by
 refine calls Qf43 rfl Tryz.ntmps43 rfl (.seq (.q 1 rfl (.seq (.seq (.region (.run 5 rfl ⟨⟨_,X4o⟩,⟨_,X4o⟩,trivial⟩ (.nil ?_)))))))
 refine WC.cond rfl (fun hb10=>?_) (fun hb10=>?_)
 ·
  have hc10:=hb10; try simp only [Y5] at hc10
  refine .seq (.q 1 rfl (.ret (Xe Tryz.results43 rfl ?_)))
  refine ⟨_,rfl,congrArg Value.bool (decide_eq_false fun e=>?_).symm,hS⟩
  subst e
  simp at hb10
 have hc10:=hb10; try simp only [Y5] at hc10
 refine .skip (.seq (.seq (.q 1 rfl (.block (.loop (σ:=Nat) (fun i=>[(0,.slice a la.length ca),(1,.slice b lb.length cb),(5,I64 (i:Nat))]) (fun i w=>i≤la.length∧(∀ (j:Nat),j<i→la[j]?=lb[j]?)∧Sat B w I As) (fun i=>la.length - i) 0 ⟨rfl,rfl,rfl,trivial⟩ ⟨Yp _,fun _ h=>absurd h (by omega),hS⟩ ?_)))))
 rintro i w ⟨hi,hsm,hS⟩
 change WC _ _ _ _ [(0,.slice a la.length ca),(1,.slice b lb.length cb),(5,I64 (i:Nat))] w
 refine .seq (.seq (.region (.run 4 rfl ⟨⟨_,X4o⟩,trivial⟩ (.nil ?_))))
 refine WC.cond rfl (fun hb14=>?_) (fun hb14=>?_)
 ·
  have hc14:=hb14; try simp only [Y5] at hc14
  refine .skip (.seq (.block (.seq ?_)))
  obtain ⟨x,hx0⟩:∃ x,la[i]?=some x:=⟨_,Y7 (by omega)⟩
  obtain ⟨y,hy0⟩:∃ y,lb[i]?=some y:=⟨_,Y7 (by omega)⟩
  obtain ⟨p,hp9,hx⟩:=Xnb (cells:=Xl) (s:=2) (fun _=>rfl) hA hx0
  obtain ⟨p2,hp8,hy⟩:=Xnb (cells:=Xl) (s:=2) (fun _=>rfl) hB hy0
  subst hp9
  subst hp8
  refine .quiet (by kernel_rfl) (by kernel_rfl) hS (.val (fun w hS=>(.move (.of rfl))) rfl (.val (fun w hS=>(.move (.of rfl))) rfl ?_))
  refine WQ.val (fun w hS=>(by exact .indexAddrI (.of rfl) (.of rfl) (by omega) (by omega) X4o X2f)) rfl ?_
  refine .val (fun w hS=>.ldsI (.of rfl) hS hx Xdi X2f rfl (fun _ _ h=>h)) rfl (.val (fun w hS=>(.move (.of rfl))) rfl (.val (fun w hS=>(.move (.of rfl))) rfl ?_))
  refine WQ.val (fun w hS=>(by exact .indexAddrI (.of rfl) (.of rfl) (by omega) (by omega) X4o X2f)) rfl ?_
  refine .val (fun w hS=>.ldsI (.of rfl) hS hy Xdi X2f rfl (fun _ _ h=>h)) rfl (.val (fun w hS=>Ex.nePr (r:=x) (s:=y) (.of rfl) (.of rfl)) rfl (.nil ?_))
  clear hS; intro w hS
  refine WC.cond rfl (fun hb25=>?_) (fun hb25=>?_)
  ·
   have hc25:=hb25; try simp only [Y5] at hc25
   refine .seq (.q 1 rfl (.ret (Xe Tryz.results43 rfl ?_)))
   refine ⟨_,rfl,congrArg Value.bool (decide_eq_false fun e=>?_).symm,hS⟩
   subst e
   rw [hx0] at hy0
   cases hy0
   simp at hb25
  have hc25:=hb25; try simp only [Y5] at hc25
  refine .skip (.region (.run 3 rfl ⟨⟨by omega,by omega⟩,trivial⟩ (.nil ?_)))
  refine ⟨i+1,⟨rfl,rfl,rfl,trivial⟩,⟨by (try dsimp only); omega,fun j hj=>?_,hS⟩,by (try dsimp only); omega⟩
  rcases Yv j i with h1 | h1
  ·exact hsm j h1
  ·have e:j=i:=by omega
   subst e
   rw [hx0,hy0,show x=y by simpa using hb25]
 have hc14:=hb14; try simp only [Y5] at hc14
 refine .exit (.seq (.q 1 rfl (.ret (Xe Tryz.results43 rfl ?_))))
 refine ⟨_,rfl,congrArg Value.bool (decide_eq_true ?_).symm,hS⟩
 refine Y1u fun j=>?_
 rcases Yv j i with h1 | h1
 ·exact hsm j h1
 ·rw [Y1s (by omega),Y1s (by omega)]
end Go.Proofs.YtfibbpgikjggfaaGreatDoor
namespace Go.Proofs.YtfibbpgikjggfaaGreatDoor
open Gk Ul Pc
theorem X2o:Tryz.prog.info? 101=some Tryz.t101:=by kernel_rfl
theorem X2i:Bld Tryz.prog 101 [(0,1),(1,1)] [S [],S []]:=X2l Xg5 X6g (fun w=>by simp [go_sem])
theorem Xgt (s:List UInt8) (hs:s.length≤1000000) (B w:World) (I:Im) (hK:Known I) (As:List X9) (hS:Sat B w I As):Calls Tryz.prog 143 [S s,S [38]].toArray w (Ret fun v w'=>∃ b,v=.slice (some (ad b 0)) (amp s).length (amp s).length∧Sat B w' I (blk b ((amp s).map S) 9::As)):=by
 obtain ⟨m,hm⟩:=hK.max B w As hS
 refine (Tryz.strings_Split ⟨s.toArray⟩ ⟨[38].toArray⟩ m w (by show s.length<_; omega) hm (by decide)).mono fun e w' he=>?_
 obtain ⟨rfl,rfl⟩:=he
 have e1:(amp s).length=Go.Lib.countB ⟨s.toArray⟩ ⟨[38].toArray⟩+1:=Xnh _ s (Ys _)
 have e2:(Go.Lib.splitB ⟨[38].toArray⟩ 0 (Go.Lib.countB ⟨s.toArray⟩ ⟨[38].toArray⟩) ⟨s.toArray⟩).map Value.string=(amp s).map S:=by
  rw [Xia,Go.Lib.splitB_data]
  show List.map S (Go.Lib.splitK [38] 0 (Go.Lib.count s [38]) s)=_
  rw [Xgu _ s (Ys _)]
 refine ⟨_,rfl,w.heap.size,by rw [e1],?_⟩
 rw [e2]
 exact hS.alloc _
theorem Xct (s:List UInt8) (hl:s.length≤1000000) (B w:World) (I:Im) (As:List X9) (hS:Sat B w I As) :
  Calls Tryz.prog 96 [S s,U8 38].toArray w (Ret fun v w'=>Sat B w' I (Vec 9 1 v (amp s).length ((amp s).map S)::As)):=by
 refine calls Qf96 rfl Tryz.ntmps96 rfl (.seq (.q 1 rfl (.seq (.q 1 rfl (.seq (.q 1 rfl (.seq (.seq (.q 1 rfl (.block ?_))))))))))
 replace hS:=hS.vecNil 9 1
 refine WC.loop (σ:=Value×List (List UInt8)×Nat×Nat) (fun ⟨kv,out,fr,i⟩=>[(0,S s),(1,U8 38),(5,kv),(6,I64 (fr:Nat)),(7,I64 (i:Nat))]) (fun ⟨kv,out,fr,i⟩ w=>i≤s.length∧fr≤i∧amp s=out ++ amp (s.drop fr)∧(∀ j,fr≤j→j<i→at_ s (j:Int)≠38)∧Sat B w I (Vec 9 1 kv out.length (out.map S)::As)) (fun ⟨kv,out,fr,i⟩=>s.length - i) (.slice none 0 0,[],0,0) ⟨rfl,rfl,rfl,rfl,rfl,trivial⟩ ⟨Yp _,Yp _,rfl,fun _ h1 h2=>by (try dsimp only at h1 h2); omega,hS⟩ ?_
 rintro ⟨kv,out,fr,i⟩ w ⟨hi,hfi,hsp,hno,hS⟩
 change WC _ _ _ _ [(0,S s),(1,U8 38),(5,kv),(6,I64 (fr:Nat)),(7,I64 (i:Nat))] w
 refine .seq (.seq (.region (.run 4 rfl ⟨Qu9,trivial⟩ (.nil ?_))))
 refine WC.cond rfl (fun hb11=>?_) (fun hb11=>?_)
 ·
  have hc11:=hb11; try simp only [Y5] at hc11
  refine .skip (.seq (.block (.seq (.region (.run 5 rfl ⟨⟨⟨by omega,by omega⟩,Qu9⟩,trivial⟩ (.nil ?_))))))
  refine WC.cond rfl (fun hb18=>?_) (fun hb18=>?_)
  ·
   have hc18:=hb18; try simp only [Y5] at hc18
   refine .seq ?_
   have hto:=congrArg List.length hsp
   rw [Y0] at hto
   have hlt:=X27 (amp s)
   rw [X65] at hlt
   have hsn:1≤(amp (s.drop fr)).length:=Y1q.2 (Xec _)
   obtain ⟨ka,kc,rfl,hkc,_⟩:=hS.vecSlice (k:=0) (v:=kv) rfl
   refine .t 4 rfl (.val (.sub3 (.of rfl) (.of rfl) (.of rfl) (by omega) (by omega) (by omega) Qu9) rfl ?_)
   simp only [Yk]
   refine .buildSlice (cs:=[_]) hS (X5 (.of rfl) X6) X1f Qs9 Qz9 rfl rfl rfl rfl ?_
   clear hS; intro b24 w hS
   refine WL.append (size:=1) (bytes:=16) hS (.of rfl) (.of rfl) (k:=0) rfl X1f X1h rfl rfl rfl rfl rfl rfl rfl ⟨by omega,by unfold maxLen; omega⟩ rfl ?_
   clear hS; intro v25 w hS; try dsimp only [List.set] at hS
   obtain ⟨a25,c25,rfl,hcap25,_⟩:=hS.vecSlice (k:=0) (v:=v25) rfl
   refine .q 1 rfl (.nil (.region (.run 3 rfl ⟨⟨by omega,by omega⟩,trivial⟩ (.nil (.region (.run 3 rfl ⟨⟨by omega,by omega⟩,trivial⟩ (.nil ?_)))))))
   refine ⟨(_,out ++ [(s.drop fr).take (i - fr)],i+1,i+1),⟨rfl,rfl,rfl,rfl,rfl,trivial⟩,⟨by (try dsimp only); omega,by (try dsimp only); omega,?_,fun j h1 h2=>by (try dsimp only at h1 h2); omega,?_⟩,by (try dsimp only); omega⟩
   ·rw [hsp,Xj5 (s:=s.drop fr) (i:=i - fr) (by rw [Y1d,show fr+(i - fr)=i by omega,Xq (by omega)]; congr 1; exact Yz.1 (by show (at_ s (i:Int)).toNat=38; simp only [beq_iff_eq] at hb18; omega)) (fun q hq e=>by
     rw [Y1d,Xq (by omega)] at e
     injection e with e
     exact hno (fr+q) (by omega) (by omega) e),Y1l,show fr+(i - fr+1)=i+1 by omega,Y8]
    rfl
   ·rw [Yy,Y0]; exact hS
  have hc18:=hb18; try simp only [Y5] at hc18
  refine .skip (.region (.run 3 rfl ⟨⟨by omega,by omega⟩,trivial⟩ (.nil ?_)))
  refine ⟨(_,out,fr,i+1),⟨rfl,rfl,rfl,rfl,rfl,trivial⟩,⟨by (try dsimp only); omega,by (try dsimp only); omega,hsp,fun j h1 h2=>?_,hS⟩,by (try dsimp only); omega⟩
  rcases Yv j i with h3 | h3
  ·exact hno j h1 h3
  ·have e:j=i:=by (try dsimp only at h2); omega
   subst e
   simp only [beq_eq_false_iff_ne] at hb18
   exact fun e=>hb18 (by rw [e]; rfl)
 have hc11:=hb11; try simp only [Y5] at hc11
 refine .exit (.seq ?_)
 have hto:=congrArg List.length hsp
 rw [Y0] at hto
 have hlt:=X27 (amp s)
 rw [X65] at hlt
 have hsn:1≤(amp (s.drop fr)).length:=Y1q.2 (Xec _)
 obtain ⟨ka,kc,rfl,hkc,_⟩:=hS.vecSlice (k:=0) (v:=kv) rfl
 refine .t 3 rfl (.val (.subFrom (.of rfl) (.of rfl) (by omega) (by omega) Qu9) rfl ?_)
 simp only [Yk]
 refine .buildSlice (cs:=[_]) hS (X5 (.of rfl) X6) X1f Qs9 Qz9 rfl rfl rfl rfl ?_
 clear hS; intro b32 w hS
 refine WL.append (size:=1) (bytes:=16) hS (.of rfl) (.of rfl) (k:=0) rfl X1f X1h rfl rfl rfl rfl rfl rfl rfl ⟨by omega,by unfold maxLen; omega⟩ rfl ?_
 clear hS; intro v33 w hS; try dsimp only [List.set] at hS
 obtain ⟨a33,c33,rfl,hcap33,_⟩:=hS.vecSlice (k:=0) (v:=v33) rfl
 refine .q 1 rfl (.nil (.ret (Xe Tryz.results96 rfl ?_)))
 have hend:amp s=out ++ [s.drop fr]:=by
  rw [hsp,X5a (s.drop fr) fun x hx ex=>?_]
  obtain ⟨q,hq⟩:=Y1j.1 hx
  rw [Y1d] at hq
  have hql:=(Y4.1 hq).1
  rw [Xq hql] at hq
  injection hq with hq
  exact hno (fr+q) (by omega) (by omega) (hq.trans ex)
 refine ⟨_,rfl,?_⟩
 rw [hend,Yy,Y0]
 exact hS
theorem Xlv (x:List UInt8) (hl:x.length≤1000000) (B w:World) (I:Im) (hK:Known I) (As:List X9) (hS:Sat B w I As) :
  Calls Tryz.prog 146 [S x].toArray w (Ret fun v w'=>∃ n1 v1 e1,v=.tuple #[.agg [S n1,S v1].toArray,I64 (e1:Nat)]∧(match X4h x with | none=>e1=11 | some p=>n1=p.1∧v1=p.2∧e1=0)∧Sat B w' I As):=by
 refine calls Tryz.func146 rfl Tryz.ntmps146 rfl (.seq (.region (.allocA (cs:=[_,_]) hS X6g rfl ?_)))
 clear hS; intro b2 w hS
 refine .q 1 rfl (.nil (.seq (.t 1 rfl (.call Qf86 rfl (X0 (.of rfl) (X0 (.of rfl) X4)) rfl (X61 x 61 hl B _ I hK _ hS) ?_))))
 clear hS
 rintro _ w ⟨rfl,hS⟩
 refine .q 7 rfl (.nil (.seq (.t 1 rfl ?_)))
 refine WL.call Tryz.func186 rfl (X0 (.of rfl) (X0 (.of rfl) X4)) rfl (X9j (upto [61] x) (by have:=X42 [61] x; omega) true B _ I hK.dig _ hS) ?_
 clear hS
 rintro _ w ⟨n1,e1,rfl,hn1,hS⟩
 refine .q 5 rfl (.nil (.seq (.seq (.q 2 rfl ?_))))
 refine WC.cond rfl (fun hb22=>?_) (fun hb22=>?_)
 ·
  have hc22:=hb22; try simp only [Y5] at hc22
  refine .seq (.region (.val (.build (cs:=[_,_]) X6 X2i rfl) rfl (.q 1 rfl (.stA hS (k:=0) rfl (.of rfl) (.of rfl) rfl X2f rfl (by simp) ?_))))
  clear hS; intro w hS; try dsimp only [List.set] at hS
  try simp only [Ym,Yc,Yg,Y9,Yl,Yo,Yf] at hS
  refine .q 1 rfl (.nil (.ret (X1j (b:=_) (cs:=[_,_]) Tryz.results146 hS (k:=0) rfl Xdi X2f rfl rfl rfl ?_)))
  refine ⟨_,rfl,[],[],e1,rfl,?_,hS.drop (k:=0) rfl⟩
  unfold X4h
  cases hd:dec true (upto [61] x) with
  | none=>rw [hd] at hn1; exact hn1.2
  | some t=>rw [hd] at hn1; rw [hn1.2] at hb22; cases hb22
 have hc22:=hb22; try simp only [Y5] at hc22
 refine .skip (.seq (.t 1 rfl ?_))
 refine WL.call Tryz.func186 rfl (X0 (.of rfl) (X0 (.of rfl) X4)) rfl (X9j ((X7 [61] x).drop 1) (by have:=X3f [61] x; rw [Yj]; omega) true B _ I hK.dig _ hS) ?_
 clear hS
 rintro _ w ⟨n2,e2,rfl,hn2,hS⟩
 refine .q 5 rfl (.nil (.seq (.t 2 rfl (.val (.build (cs:=[_,_]) (X5 (.of rfl) (X5 (.of rfl) X6)) X2i rfl) rfl (.q 1 rfl (.stA hS (k:=0) rfl (.of rfl) (.of rfl) rfl X2f rfl (by simp) ?_))))))
 clear hS; intro w hS; try dsimp only [List.set] at hS
 try simp only [Ym,Yc,Yg,Y9,Yl,Yo,Yf] at hS
 refine .q 1 rfl (.nil (.ret (X1j (b:=_) (cs:=[_,_]) Tryz.results146 hS (k:=0) rfl Xdi X2f rfl rfl rfl ?_)))
 refine ⟨_,rfl,n1,n2,e2,rfl,?_,hS.drop (k:=0) rfl⟩
 unfold X4h
 cases hd:dec true (upto [61] x) with
 | none=>rw [hd] at hn1; rw [hn1.2] at hb22; cases hb22
 | some t =>
  rw [hd] at hn1
  cases he:dec true ((X7 [61] x).drop 1) with
  | none=>rw [he] at hn2; exact hn2.2
  | some u=>rw [he] at hn2; exact ⟨hn1.1,hn2.1,hn2.2⟩
def Xhf (I:Im) (F:List Pr×Nat) (B:World) (As:List X9) (v:Value) (w:World):Prop:=∃ J ra rc,v=.tuple #[.slice ra F.1.length rc,I64 (F.2:Nat)]∧Le I J∧F.1.length≤rc∧RS J ra 2 F.1.length (X1b Xl F.1)∧Sat B w J As
theorem X5j {I J:Im} {F:List Pr×Nat} {B:World} {As:List X9} {w:World} {e:Nat} (h:F=([],e)) (hJ:Le I J) (hS:Sat B w J As):Xhf I F B As (.tuple #[.slice none 0 0,I64 (e:Nat)]) w:=by
 subst h
 exact ⟨J,none,0,rfl,hJ,Ys _,⟨rfl,fun h=>absurd h (by simp)⟩,hS⟩
theorem Xf1 {I J:Im} {F:List Pr×Nat} {B:World} {As:List X9} {w:World} {E:TypeId} {kv:Value} {out:List Pr} (h:F=(out,0)) (hJ:Le I J) (hS:Sat B w J (Vec E 2 kv out.length (X1b Xl out)::As)):Xhf I F B As (.tuple #[kv,I64 0]) w:=by
 subst h
 obtain ⟨ka,kc,rfl,hkc,_⟩:=hS.vecSlice (k:=0) rfl
 obtain ⟨J2,hJ2,hR2,hS⟩:=hS.freezeVec (k:=0) rfl
 exact ⟨J2,ka,kc,rfl,hJ.trans hJ2,hkc,hR2,hS⟩
theorem X9o {s x:List UInt8} {i:Nat} (h:(amp s)[i]?=some x) (hl:s.length≤1000000):x.length≤1000000:=by
 have h1:=X65 s
 have h2:∀ (l:List (List UInt8)) (i:Nat),l[i]?=some x→x.length+1≤tot l:=by
  intro l
  induction l with
  | nil=>intro i h; simp at h
  | cons a l ih =>
   intro i h
   rw [show tot (a::l)=(a.length+1)+tot l from by simp [tot]]
   cases i with
   | zero=>simp at h; subst h; omega
   | succ i=>have:=ih i (by simpa using h); omega
 have:=h2 _ _ h
 omega
theorem Xf3 {s x:List UInt8} {i:Nat} (h:(amp s)[i]?=some x):(amp s).drop i=x::(amp s).drop (i+1):=by
 rw [Y1e (Y4.1 h).1,(Y4.1 h).2]
set_option maxRecDepth 4000 in
theorem Xl9 (s:List UInt8) (hl:s.length≤1000000) (B w:World) (I:Im) (hK:Known I) (As:List X9) (hS:Sat B w I As) :
  Calls Tryz.prog 98 [S s].toArray w (Ret fun v w'=>Xhf I (form s) B As v w'):=by
 refine calls Tryz.func98 rfl Tryz.ntmps98 rfl (.seq (.q 2 rfl (.scope (.seq (.q 1 rfl (.seq (.q 1 rfl (.seq (.label (.seq (.seq (.t 1 rfl (.call Tryz.func143 rfl (X0 (.of rfl) (X0 (.of rfl) X4)) rfl (Xgt s hl B _ I hK _ hS) ?_)))))))))))))
 clear hS
 rintro _ w ⟨b11,rfl,hS⟩
 refine .run 2 rfl ⟨⟨_,X1f⟩,trivial⟩ (.nil (.block ?_))
 have hal:=X27 (amp s)
 rw [X65] at hal
 replace hS:=hS.vecNil 101 2
 refine .loop (σ:=List Pr×Value×Nat) (fun ⟨out,kv,i⟩=>[(4,kv),(5,I64 0),(11,.slice (some (ad b11 0)) (amp s).length (amp s).length),(12,I64 ((amp s).length:Nat)),(13,I64 (i:Nat))]) (fun ⟨out,kv,i⟩ w=>i≤(amp s).length∧form s=X2a ((amp s).drop i) out∧out.length≤32∧Sat B w I (Vec 101 2 kv out.length (X1b Xl out)::blk b11 ((amp s).map S) 9::As)) (fun ⟨out,kv,i⟩=>(amp s).length - i) ([],.slice none 0 0,0) ⟨rfl,rfl,rfl,rfl,rfl,trivial⟩ ⟨Yp _,rfl,Yp _,hS⟩ ?_
 rintro ⟨out,kv,i⟩ w ⟨hi,hfm,hol,hS⟩
 change WC _ _ _ _ [(4,kv),(5,I64 0),(11,.slice (some (ad b11 0)) (amp s).length (amp s).length),(12,I64 ((amp s).length:Nat)),(13,I64 (i:Nat))] w
 refine .seq (.q 1 rfl (.seq ?_))
 refine WC.cond rfl (fun hb14=>?_) (fun hb14=>?_)
 ·
  have hc14:=hb14; try simp only [Y5] at hc14
  refine .skip (.seq (.block (.seq ?_)))
  obtain ⟨x,hx⟩:∃ x,(amp s)[i]?=some x:=⟨_,Y7 (by omega)⟩
  have hxl:=X9o hx hl
  have hdr:=Xf3 hx
  rw [hdr] at hfm
  have hnm:((amp s).map S)[i]?=some (S x):=by rw [Yx,hx]; rfl
  refine .region ?_
  refine WL.val (.indexAddr (.of rfl) (.of rfl) (by omega) (by omega) X1f Qs9) rfl ?_
  refine WL.val (.ld (v:=S x) (.of rfl) hS (k:=1) rfl Qg9 (by rw [Yf,Yk,Y1i,Yx,hx]; rfl)) rfl ?_
  refine .q 1 rfl (.nil (.seq (.seq (.q 2 rfl ?_))))
  refine WC.cond rfl (fun hb18=>?_) (fun hb18=>?_)
  ·
   have hc18:=hb18; try simp only [Y5] at hc18
   refine .exit (.region (.run 2 rfl ⟨⟨by omega,by omega⟩,trivial⟩ (.nil ?_)))
   refine ⟨(out,kv,i+1),⟨rfl,rfl,rfl,rfl,rfl,trivial⟩,⟨by (try dsimp only); omega,?_,hol,hS⟩,by (try dsimp only); omega⟩
   rw [hfm,X2a,if_pos (by simpa using hb18)]
  have hc18:=hb18; try simp only [Y5] at hc18
  refine .skip (.seq (.t 1 rfl (.call Tryz.func146 rfl (X0 (.of rfl) X4) rfl (Xlv x hxl B _ I hK _ hS) ?_)))
  clear hS
  rintro _ w ⟨n1,v1,e1,rfl,hpx,hS⟩
  obtain ⟨ka,kc,rfl,hkc,_⟩:=hS.vecSlice (k:=0) (v:=kv) rfl
  refine .q 3 rfl (.allocA (cs:=[_,_]) hS X6g rfl ?_)
  clear hS; intro b8 w hS
  refine WL.stA hS (k:=0) rfl (.of rfl) (.of rfl) rfl X2f rfl (by simp) ?_
  clear hS; intro w hS; try dsimp only [List.set] at hS
  try simp only [Ym,Yc,Yg,Y9,Yl,Yo,Yf] at hS
  refine .q 1 rfl (.nil (.seq (.block (.seq (.region (.run 4 rfl ⟨⟨_,X4o⟩,trivial⟩ (.nil ?_)))))))
  refine WC.cond rfl (fun hb24=>?_) (fun hb24=>?_)
  ·
   have hc24:=hb24; try simp only [Y5] at hc24
   refine .seq (.q 1 rfl (.exit (.seq (.seq (.q 2 rfl ?_)))))
   refine WC.cond rfl (fun hb38=>?_) (fun hb38=>by exfalso; simp only [Y5] at hb38; omega)
   have hc38:=hb38; try simp only [Y5] at hc38
   refine .seq (.q 3 rfl (.ret (X1g Tryz.results98 rfl rfl ?_)))
   exact ⟨_,rfl,X5j (e:=5) (by rw [hfm,X2a,if_neg (by simpa using hb18),if_pos (by omega)]) (Le.refl _) (((hS.drop (k:=0) rfl).drop (k:=0) rfl).drop (k:=0) rfl)⟩
  have hc24:=hb24; try simp only [Y5] at hc24
  refine .seq (.q 3 rfl ?_)
  refine WC.cond rfl (fun hb28=>?_) (fun hb28=>?_)
  ·
   have hc28:=hb28; try simp only [Y5] at hc28
   refine .seq ?_
   have hpn:X4h x=none:=by
    cases hq:X4h x with
    | none=>rfl
    | some p=>rw [hq] at hpx; rw [hpx.2.2] at hb28; cases hb28
   rw [hpn] at hpx
   subst hpx
   refine .q 2 rfl (.exit (.seq (.seq (.q 2 rfl ?_))))
   refine WC.cond rfl (fun hb38=>?_) (fun hb38=>by exfalso; simp only [Y5] at hb38; omega)
   have hc38:=hb38; try simp only [Y5] at hc38
   refine .seq (.q 3 rfl (.ret (X1g Tryz.results98 rfl rfl ?_)))
   exact ⟨_,rfl,X5j (e:=11) (by rw [hfm,X2a,if_neg (by simpa using hb18),if_neg (by omega),hpn]) (Le.refl _) (((hS.drop (k:=0) rfl).drop (k:=0) rfl).drop (k:=0) rfl)⟩
  have hc28:=hb28; try simp only [Y5] at hc28
  refine .skip ?_
  obtain ⟨p,hpp⟩:∃ p,X4h x=some p:=by
   cases hq:X4h x with
   | some p=>exact ⟨p,rfl⟩
   | none=>rw [hq] at hpx; rw [hpx] at hb28; cases hb28
  rw [hpp] at hpx
  obtain ⟨rfl,rfl,rfl⟩:=hpx
  refine .t 1 rfl ?_
  refine WL.val (.ldsW (cs:=[_,_]) (.of rfl) hS (k:=0) rfl Xdi X2f rfl) rfl ?_
  refine .buildSlice (cs:=[_,_]) hS (X5 (.of rfl) X6) X4o X2f X6g rfl rfl rfl rfl ?_
  clear hS; intro b34 w hS
  refine WL.append (size:=2) (bytes:=32) hS (.of rfl) (.of rfl) (k:=1) rfl X4o X2o rfl rfl rfl rfl rfl rfl rfl ⟨by omega,by unfold maxLen; omega⟩ rfl ?_
  clear hS; intro v35 w hS; try dsimp only [List.set] at hS
  obtain ⟨a35,c35,rfl,hcap35,_⟩:=hS.vecSlice (k:=1) (v:=v35) rfl
  refine .q 1 rfl (.nil (.region (.run 2 rfl ⟨⟨by omega,by omega⟩,trivial⟩ (.nil ?_))))
  refine ⟨(out ++ [p],_,i+1),⟨rfl,rfl,rfl,rfl,rfl,trivial⟩,⟨by (try dsimp only); omega,?_,by (try dsimp only); rw [Y0]; show _+1≤32; omega,?_⟩,by (try dsimp only); omega⟩
  ·try dsimp only
   rw [hfm,X2a,if_neg (by simpa using hb18),if_neg (by omega),hpp]
  ·try dsimp only
   rw [X9p,show (out ++ [p]).length=out.length+1 from Y0]
   exact (((hS.pick 2 rfl).pick 2 rfl).drop (k:=2) rfl)
 have hc14:=hb14; try simp only [Y5] at hc14
 refine .exit (.seq (.seq (.q 2 rfl (.condF (rfl) (.skip (.seq (.q 3 rfl (.ret (X1g Tryz.results98 rfl rfl ?_)))))))))
 exact ⟨_,rfl,Xf1 (by rw [hfm,Y15 (by omega)]; rfl) (Le.refl _) (hS.drop (k:=1) rfl)⟩
theorem upto_k {x:List UInt8} {k:Nat} (hk:k≤x.length) (hno:∀ j,j<k→at_ x (j:Int)≠61) (he:k<x.length→at_ x (k:Int)=61):upto [61] x=x.take k∧X7 [61] x=x.drop k:=by
 have h:=X3x (ats:=[61]) (a:=x.take k) (b:=x.drop k) (fun c hc=>by
  obtain ⟨j,hj⟩:=Y1j.1 hc
  rw [Y1v] at hj
  split at hj
  ·rename_i hjk
   rw [Xq (by omega)] at hj
   injection hj with hj
   have:=hno j hjk
   rw [hj] at this
   simpa using this
  ·cases hj) (fun c hc=>by
  rcases Yv k x.length with h1 | h1
  ·rw [Xc x h1] at hc
   simp at hc
   rw [← hc,he h1]; rfl
  ·rw [Y15 h1] at hc; cases hc)
 rw [Yw] at h
 exact h
set_option maxRecDepth 4000 in
theorem Xcn (s:List UInt8) (hl:s.length≤1000000) (B w:World) (I:Im) (As:List X9) (hS:Sat B w I As) :
  Calls Tryz.prog 41 [S s].toArray w (Ret fun v w'=>Xhf I (form s) B As v w'):=by
 refine calls Tryz.func41 rfl Tryz.ntmps41 rfl (.seq (.q 2 rfl (.seq (.q 1 rfl (.seq (.t 1 rfl (.call Qf96 rfl (X0 (.of rfl) (X0 (.of rfl) X4)) rfl (Xct s hl B _ I _ hS) ?_)))))))
 clear hS
 rintro pv w hS
 obtain ⟨pc5,cc5,rfl,hcc5,_⟩:=hS.vecSlice (k:=0) rfl
 obtain ⟨J,hJ,hRS,hT⟩:=hS.freezeVec (k:=0) rfl
 clear hS
 have hS:=hT
 clear hT
 try dsimp only [List.eraseIdx] at hS
 have hal:=X27 (amp s)
 rw [X65] at hal
 refine .q 1 rfl (.nil (.seq (.seq (.q 1 rfl (.block ?_)))))
 replace hS:=hS.vecNil 101 2
 refine .loop (σ:=List Pr×Value×Nat) (fun ⟨out,kv,i⟩=>[(0,S s),(4,kv),(5,.slice pc5 (amp s).length cc5),(6,I64 (i:Nat))]) (fun ⟨out,kv,i⟩ w=>i≤(amp s).length∧form s=X2a ((amp s).drop i) out∧out.length≤32∧Sat B w J (Vec 101 2 kv out.length (X1b Xl out)::As)) (fun ⟨out,kv,i⟩=>(amp s).length - i) ([],.slice none 0 0,0) ⟨rfl,rfl,rfl,rfl,trivial⟩ ⟨Yp _,rfl,Yp _,hS⟩ ?_
 rintro ⟨out,kv,i⟩ w ⟨hi,hfm,hol,hS⟩
 change WC _ _ _ _ [(0,S s),(4,kv),(5,.slice pc5 (amp s).length cc5),(6,I64 (i:Nat))] w
 refine .seq (.seq (.region (.run 4 rfl ⟨⟨_,X1f⟩,trivial⟩ (.nil ?_))))
 refine WC.cond rfl (fun hb18=>?_) (fun hb18=>?_)
 ·
  have hc18:=hb18; try simp only [Y5] at hc18
  refine .skip (.seq (.block (.seq ?_)))
  obtain ⟨x,hx⟩:∃ x,(amp s)[i]?=some x:=⟨_,Y7 (by omega)⟩
  have hxl:=X9o hx hl
  have hdr:=Xf3 hx
  rw [hdr] at hfm
  obtain ⟨pp,rfl,hA⟩:=hRS.2 (by omega)
  have hnm:((amp s).map S)[i]?=some (S x):=by rw [Yx,hx]; rfl
  refine .t 2 rfl ?_
  refine WL.val (.indexAddrI (.of rfl) (.of rfl) (by omega) (by omega) X1f Qs9) rfl ?_
  refine WL.val (v:=S x) (.ld1 (.of rfl) (by have h9:=X28 hS hA hnm; simpa using h9) Qg9) rfl ?_
  refine .q 1 rfl (.nil (.seq (.seq (.q 2 rfl ?_))))
  refine WC.cond rfl (fun hb26=>?_) (fun hb26=>?_)
  ·
   have hc26:=hb26; try simp only [Y5] at hc26
   refine .exit (.region (.run 3 rfl ⟨⟨by omega,by omega⟩,trivial⟩ (.nil ?_)))
   refine ⟨(out,kv,i+1),⟨rfl,rfl,rfl,rfl,trivial⟩,⟨by (try dsimp only); omega,?_,hol,hS⟩,by (try dsimp only); omega⟩
   rw [hfm,X2a,if_pos (by simpa using hb26)]
  have hc26:=hb26; try simp only [Y5] at hc26
  refine .skip (.seq (.seq ?_))
  obtain ⟨ka,kc,rfl,hkc,_⟩:=hS.vecSlice (k:=0) (v:=kv) rfl
  refine .region (.run 3 rfl ⟨⟨_,X4o⟩,trivial⟩ (.nil ?_))
  refine WC.cond rfl (fun hb29=>?_) (fun hb29=>?_)
  ·
   have hc29:=hb29; try simp only [Y5] at hc29
   refine .seq (.q 2 rfl (.ret (X1g Tryz.results41 rfl rfl ?_)))
   exact ⟨_,rfl,X5j (e:=5) (by rw [hfm,X2a,if_neg (by simpa using hb26),if_pos (by omega)]) hJ (hS.drop (k:=0) rfl)⟩
  have hc29:=hb29; try simp only [Y5] at hc29
  refine .skip (.seq (.q 1 rfl (.seq (.block (.loop (σ:=Nat) (fun k=>[(0,S s),(4,(.slice ka out.length kc)),(5,.slice (some pp) (amp s).length cc5),(6,I64 (i:Nat)),(7,S x),(8,I64 (k:Nat))]) (fun k w=>k≤x.length∧(∀ j,j<k→at_ x (j:Int)≠61)∧Sat B w J (Vec 101 2 (.slice ka out.length kc) out.length (X1b Xl out)::As)) (fun k=>x.length - k) 0 ⟨rfl,rfl,rfl,rfl,rfl,rfl,trivial⟩ ⟨Yp _,fun _ h=>absurd h (by omega),hS⟩ ?_)))))
  rintro k w ⟨hk,hnk,hS⟩
  change WC _ _ _ _ [(0,S s),(4,(.slice ka out.length kc)),(5,.slice (some pp) (amp s).length cc5),(6,I64 (i:Nat)),(7,S x),(8,I64 (k:Nat))] w
  refine .seq (.seq (.region (.run 5 rfl ⟨Qu9,trivial⟩ (.gval rfl rfl (fun hg1=>(.move (.of rfl))) rfl (.gval rfl rfl (fun hg1=>(.move (.of rfl))) rfl ?_)))))
  refine WL.gval rfl rfl (fun hg1=>(.index (.gd hg1 rfl) (.gd hg1 rfl) (by (try simp only [Y5] at hg1); omega) (by (try simp only [Y5] at hg1); omega) Qu9)) rfl ?_
  refine .gval rfl rfl (fun hg1=>(.neq (.gd hg1 rfl) (.of rfl))) rfl (.val (.pand (.of rfl) (.of rfl) (.of rfl)) rfl (.nil ?_))
  refine WC.cond rfl (fun hb39=>?_) (fun hb39=>?_)
  ·
   have hc39:=hb39; try simp only [Y5] at hc39
   refine .skip (.block ?_)
   have hk1:k<x.length:=by
    have hh:=hb39
    simp only [Yn,decide_eq_true_eq] at hh
    omega
   have hk2:at_ x (k:Int)≠61:=fun e=>by
    rw [e] at hb39
    simp at hb39
   refine .region (.run 3 rfl ⟨⟨by omega,by omega⟩,trivial⟩ (.nil ?_))
   refine ⟨k+1,⟨rfl,rfl,rfl,rfl,rfl,rfl,trivial⟩,⟨by omega,fun j hj=>?_,hS⟩,by omega⟩
   rcases Yv j k with h1 | h1
   ·exact hnk j h1
   ·have e:j=k:=by omega
    subst e
    exact hk2
  have hc39:=hb39; try simp only [Y5] at hc39
  refine .exit (.seq ?_)
  have hup:upto [61] x=x.take k∧X7 [61] x=x.drop k:=upto_k hk hnk fun h1=>by
   have hh:=hb39
   simp only [decide_eq_true (show (k:Int)<(x.length:Int) by omega),Y3h,bne_eq_false_iff_eq] at hh
   exact Yz.1 (by show (at_ x (k:Int)).toNat=61; omega)
  refine .t 2 rfl (.val (.subTo (.of rfl) (.of rfl) (by omega) (by omega) Qu9) rfl ?_)
  rw [Yk,← hup.1]
  refine WL.call Tryz.func97 rfl (X0 (.of rfl) (X0 (.of rfl) X4)) rfl (X5h (upto [61] x) (by have:=X42 [61] x; omega) true B _ J _ hS) ?_
  clear hS
  rintro _ w ⟨n1,e1,rfl,hn1,hS⟩
  refine .q 5 rfl (.nil (.seq (.q 1 rfl (.seq (.q 1 rfl ?_)))))
  refine WC.cutS (σ:=List UInt8×Nat) (fun ⟨n2,f1⟩=>[(0,S s),(4,(.slice ka out.length kc)),(5,.slice (some pp) (amp s).length cc5),(6,I64 (i:Nat)),(7,S x),(8,I64 (k:Nat)),(9,S n1),(10,I64 (e1:Nat)),(11,S n2),(12,I64 (f1:Nat))]) (fun ⟨n2,f1⟩ w=>(match dec true ((X7 [61] x).drop 1) with | none=>n2=[]∧f1=11 | some t=>n2=t∧f1=0)∧Sat B w J (Vec 101 2 (.slice ka out.length kc) out.length (X1b Xl out)::As)) ?_ ?_
  ·
   refine .seq (.region (.run 4 rfl ⟨Qu9,trivial⟩ (.nil ?_)))
   refine WC.cond rfl (fun hb52=>?_) (fun hb52=>?_)
   ·
    have hc52:=hb52; try simp only [Y5] at hc52
    refine .region (.run 3 rfl ⟨⟨by omega,by omega⟩,trivial⟩ (.val (.subFrom (.of rfl) (.of rfl) (by omega) (by omega) Qu9) rfl ?_))
    rw [show ((k:Int)+1).toNat=k+1 by omega,show x.drop (k+1)=(X7 [61] x).drop 1 by rw [hup.2,Y1l]]
    refine WL.call Tryz.func97 rfl (X0 (.of rfl) (X0 (.of rfl) X4)) rfl (X5h ((X7 [61] x).drop 1) (by have:=X3f [61] x; rw [Yj]; omega) true B _ J _ hS) ?_
    clear hS
    rintro _ w ⟨n2,f1,rfl,hn2,hS⟩
    refine .q 5 rfl (.nil ?_)
    exact ⟨(n2,f1),⟨rfl,rfl,rfl,rfl,rfl,rfl,rfl,rfl,rfl,rfl,trivial⟩,hn2,hS⟩
   have hc52:=hb52; try simp only [Y5] at hc52
   refine .skip ?_
   refine ⟨([],0),⟨rfl,rfl,rfl,rfl,rfl,rfl,rfl,rfl,rfl,rfl,trivial⟩,?_,hS⟩
   rw [hup.2,Y15 (show x.length≤k by omega)]
   exact ⟨rfl,rfl⟩
  rintro ⟨n2,f1⟩ w ⟨hn2,hS⟩
  change WC _ _ _ _ [(0,S s),(4,(.slice ka out.length kc)),(5,.slice (some pp) (amp s).length cc5),(6,I64 (i:Nat)),(7,S x),(8,I64 (k:Nat)),(9,S n1),(10,I64 (e1:Nat)),(11,S n2),(12,I64 (f1:Nat))] w
  refine .seq (.seq (.t 3 rfl (.gval rfl rfl (fun hg1=>(.move (.of rfl))) rfl (.gval rfl rfl (fun hg1=>(.neq (.gd hg1 rfl) (.of rfl))) rfl (.val (.por (.of rfl) (.of rfl) (.of rfl)) rfl (.nil ?_))))))
  refine WC.cond rfl (fun hb66=>?_) (fun hb66=>?_)
  ·
   have hc66:=hb66; try simp only [Y5] at hc66
   refine .seq (.q 2 rfl (.ret (X1g Tryz.results41 rfl rfl ?_)))
   have hpn:X4h x=none:=by
    unfold X4h
    cases hd:dec true (upto [61] x) with
    | none=>rfl
    | some t =>
     rw [hd] at hn1
     cases he:dec true ((X7 [61] x).drop 1) with
     | none=>rfl
     | some u=>rw [he] at hn2; rw [hn1.2,hn2.2] at hb66; exact absurd hb66 (by decide)
   exact ⟨_,rfl,X5j (e:=11) (by rw [hfm,X2a,if_neg (by simpa using hb26),if_neg (by omega),hpn]) hJ (hS.drop (k:=0) rfl)⟩
  have hc66:=hb66; try simp only [Y5] at hc66
  refine .skip ?_
  have hpp:X4h x=some (n1,n2):=by
   unfold X4h
   have hb:=hb66
   simp only [Y1g,bne_eq_false_iff_eq] at hb
   cases hd:dec true (upto [61] x) with
   | none=>rw [hd] at hn1; rw [hn1.2] at hb; have:=hb.1; omega
   | some t =>
    rw [hd] at hn1
    cases he:dec true ((X7 [61] x).drop 1) with
    | none=>rw [he] at hn2; rw [hn2.2] at hb; have:=hb.2; omega
    | some u=>rw [he] at hn2; rw [hn1.1,hn2.1]
  refine .t 3 rfl (.val (.build (cs:=[_,_]) (X5 (.of rfl) (X5 (.of rfl) X6)) X2i rfl) rfl (.buildSlice (cs:=[_,_]) hS (X5 (.of rfl) X6) X4o X2f X6g rfl rfl rfl rfl ?_))
  clear hS; intro b71 w hS
  refine WL.append (size:=2) (bytes:=32) hS (.of rfl) (.of rfl) (k:=0) rfl X4o X2o rfl rfl rfl rfl rfl rfl rfl ⟨by omega,by unfold maxLen; omega⟩ rfl ?_
  clear hS; intro v72 w hS; try dsimp only [List.set] at hS
  obtain ⟨a72,c72,rfl,hcap72,_⟩:=hS.vecSlice (k:=0) (v:=v72) rfl
  refine .q 1 rfl (.nil (.region (.run 3 rfl ⟨⟨by omega,by omega⟩,trivial⟩ (.nil ?_))))
  refine ⟨(out ++ [(n1,n2)],_,i+1),⟨rfl,rfl,rfl,rfl,trivial⟩,⟨by (try dsimp only); omega,?_,by (try dsimp only); rw [Y0]; show _+1≤32; omega,?_⟩,by (try dsimp only); omega⟩
  ·try dsimp only
   rw [hfm,X2a,if_neg (by simpa using hb26),if_neg (by omega),hpp]
  ·try dsimp only
   rw [X9p,show (out ++ [(n1,n2)]).length=out.length+1 from Y0]
   exact hS
 have hc18:=hb18; try simp only [Y5] at hc18
 refine .exit (.seq (.q 3 rfl (.ret (X1g Tryz.results41 rfl rfl ?_))))
 exact ⟨_,rfl,Xf1 (by rw [hfm,Y15 (by omega)]; rfl) hJ hS⟩
end Go.Proofs.YtfibbpgikjggfaaGreatDoor
namespace Gk
open Go
section
variable {P:Program} {n:Nat} {K:X2y} {L:Env} {w:World} {ops:Array Oper} {rest:List Oper}
theorem WL.opn {d:Option Nat} {op:Op} {ty:TypeId} {pos:String} {af:Array Edge} {j t:Nat} {want:Bool} (hj:(ops[j]?).bind (·.dst)=some t) (ht:Nat.blt t n=true) (hb:look L t=some (.bool want))
  (h:WL P n ops K (⟨d,op,ty,pos,af,none⟩::rest) L w):WL P n ops K (⟨d,op,ty,pos,af,some (j,want)⟩::rest) L w:=by
 intro a ha
 have h1:=h a ha
 have hlt:t<a.tmps.size:=by have:=Y1r ht; rw [ha.size]; omega
 have hv:=ha.get t _ hb
 have hy:yielded ops a.tmps j=some want:=by
  obtain ⟨o,ho,hdd⟩:=Y26.1 hj
  rw [Y10,Y16 hlt] at hv
  simp only [Y2i] at hv
  have h2:a.tmps[t]?=some (.bool want):=by rw [Y16 hlt,hv]
  simp only [yielded,ho,hdd,Y2j,h2]
 unfold wpList at h1 ⊢
 rw [if_pos (by simp [Region.wanted])] at h1
 rw [if_pos (by simp [Region.wanted,hy])]
 exact h1
end
end Gk
namespace Go.Proofs.YtfibbpgikjggfaaGreatDoor
open Gk Ul Pc
def PGTID:List UInt8:=[112,103,116,73,100]
def PGTIOU:List UInt8:=[112,103,116,73,111,117]
theorem Xmo (sch host:List UInt8) (port:Nat) (r:List UInt8):(X2k sch host port r).1.query.length≤r.length∧(X2k sch host port r).1.path.length≤r.length+1:=by
 unfold X2k
 split
 ·exact ⟨Yp _,Yp _⟩
 ·rename_i p hp
  split
  ·exact ⟨Yp _,Yp _⟩
  ·rename_i q hq
   have a1:=Xa8 hp
   have a2:=Xa8 hq
   have a3:=X42 [63] r
   have a4:=X3f [63] r
   have a5:=Xer p
   rw [Yj] at a2
   refine ⟨by show q.length≤_; omega,?_⟩
   show (if p=[] then [47] else X2z p).length≤_
   split
   ·simp
   ·omega
theorem pU_q (s:List UInt8):(pU s).1.query.length≤s.length∧(pU s).1.path.length≤s.length+1:=by
 unfold pU
 split
 ·exact ⟨Yp _,Yp _⟩
 ·split
  ·exact ⟨Yp _,Yp _⟩
  ·rename_i sch r hs
   split
   ·have hr:r.length≤s.length:=by
     unfold Xv at hs
     split at hs
     ·injection hs with hs; injection hs with e1 e2; subst e2; rw [Yj]; omega
     ·split at hs
      ·injection hs with hs; injection hs with e1 e2; subst e2; rw [Yj]; omega
      ·cases hs
    have a3:=X3f [47,63,35,58] r
    unfold behind
    split
    ·split
     ·have a4:=X3f [47,63,35] ((X7 [47,63,35,58] r).drop 1)
      rw [Yj] at a4
      have:=Xmo sch (X16 r) (X3k (upto [47,63,35] ((X7 [47,63,35,58] r).drop 1)) sch) (X7 [47,63,35] ((X7 [47,63,35,58] r).drop 1))
      omega
     ·exact ⟨Yp _,Yp _⟩
    ·have:=Xmo sch (X16 r) 0 (X7 [47,63,35,58] r)
     omega
   ·exact ⟨Yp _,Yp _⟩
theorem Xo7 {s:List UInt8} (h:(pU s).2=0):s.length≤2000:=by
 unfold pU at h
 split at h
 ·cases h
 ·omega
theorem Xbj {u:U} {n v:List UInt8} (hu:X39 u) (h:(Xjr u n v).query.length≤10000000):X39 (Xjr u n v):=⟨hu.1,hu.2.1,hu.2.2.1,hu.2.2.2.1,h⟩
def X3a (u:U) (pgt iou:List UInt8):U:=Xjr (Xjr u PGTID pgt) PGTIOU iou
def Xdr (url pgt iou:List UInt8):List UInt8×Nat:=if (pU url).2=0 then (Xav (X3a (pU url).1 pgt iou),0) else ([],(pU url).2)
theorem Xcx (s pgt iou:List UInt8):(X3a (pU s).1 pgt iou).query.length≤s.length+37+3*pgt.length+3*iou.length:=by
 have h1:=(pU_q s).1
 have h2:=Xa7 (pU s).1.query PGTID pgt
 have h3:=Xa7 (Xck (pU s).1.query PGTID pgt) PGTIOU iou
 have e1:PGTID.length=5:=rfl
 have e2:PGTIOU.length=6:=rfl
 show (Xck (Xck (pU s).1.query PGTID pgt) PGTIOU iou).length≤_
 omega
theorem X9t {s pgt iou:List UInt8} (h:(pU s).2=0) (hp:pgt.length≤100000) (hi:iou.length≤100000):X39 (Xjr (pU s).1 PGTID pgt)∧X39 (X3a (pU s).1 pgt iou):=by
 have h0:=Xo7 h
 have h1:=(pU_q s).1
 have h2:=Xa7 (pU s).1.query PGTID pgt
 have h3:=Xcx s pgt iou
 have e1:PGTID.length=5:=rfl
 have hs:X39 (Xjr (pU s).1 PGTID pgt):=Xbj (X7b s) (by show (Xck (pU s).1.query PGTID pgt).length≤_; omega)
 exact ⟨hs,Xbj hs (by show (X3a (pU s).1 pgt iou).query.length≤_; omega)⟩
theorem Xjc (a:Option Addr) (c:Nat) (x sep:List UInt8) (B w:World) (I:Im) (As:List X9) (hE:∀ w,Sat B w I As→Xbx w Xmx 1 a [x]) (hS:Sat B w I As) :
  Calls Tryz.prog 171 [.slice a 1 c,S sep].toArray w (Ret fun v w'=>v=S x∧Sat B w' I As):=by
 refine calls Tryz.func171 rfl Tryz.ntmps171 rfl (.seq (.q 1 rfl (.seq (.seq ?_))))
 obtain ⟨p,rfl,hA⟩:=hE w hS 0 x rfl
 have hc0:=hA 0 _ rfl
 refine .region (.run 2 rfl ⟨⟨_,X1f⟩,trivial⟩ (.nil (.block (.seq (.q 2 rfl (.condF (rfl) (.seq (.q 2 rfl (.condT (rfl) (.seq (.t 1 rfl ?_)))))))))))
 refine WL.val (.indexAddrI (.of rfl) (.of rfl) (by omega) (by omega) X1f Qs9) rfl ?_
 refine .val (v:=S x) (.ld1 (.of rfl) (by simpa [Addr.add_add] using hc0) Qg9) rfl (.q 1 rfl (.nil (.ret (Xe Tryz.results171 rfl ?_))))
 exact ⟨_,rfl,rfl,hS⟩
theorem Xfq (b:Nat) (n v9:List UInt8) (hn:n.length≤1000000) (hv9:v9.length≤1000000) (B w:World) (I:Im) (hd:DigAt I) (As:List X9) (hS:Sat B w I (blk b [S n,S v9] 101::As)) :
  Calls Tryz.prog 130 [.slice (some (ad b 0)) 1 1].toArray w (Ret fun v w'=>v=S (enc n ++ 61::enc v9)∧Sat B w' I (blk b [S n,S v9] 101::As)):=by
 refine calls Tryz.func130 rfl Tryz.ntmps130 rfl (.seq (.q 1 rfl (.seq (.q 1 rfl (.seq (.seq (.region (.run 3 rfl ⟨⟨_,X4o⟩,trivial⟩ (.nil (.block ?_))))))))))
 replace hS:=hS.vecNil 9 1
 refine .loop (σ:=Nat×Value) (fun ⟨i,kv⟩=>[(3,kv),(6,.slice (some (ad b 0)) 1 1),(7,I64 1),(8,I64 (i:Nat))]) (fun ⟨i,kv⟩ w=>i≤1∧Sat B w I (Vec 9 1 kv i (([S (enc n ++ 61::enc v9)]:List Value).take i)::blk b [S n,S v9] 101::As)) (fun ⟨i,kv⟩=>1 - i) (0,.slice none 0 0) ⟨rfl,rfl,rfl,rfl,trivial⟩ ⟨Yp _,hS⟩ ?_
 rintro ⟨i,kv⟩ w ⟨hi,hS⟩
 change WC _ _ _ _ [(3,kv),(6,.slice (some (ad b 0)) 1 1),(7,I64 1),(8,I64 (i:Nat))] w
 refine .seq (.q 1 rfl (.seq ?_))
 refine WC.cond rfl (fun hb9=>?_) (fun hb9=>?_)
 ·
  have hc9:=hb9; try simp only [Y5] at hc9
  refine .skip (.seq (.block (.seq ?_)))
  obtain rfl:i=0:=by omega
  have hen:=X1a n
  have hev:=X1a v9
  obtain ⟨ka,kc,rfl,hkc,_⟩:=hS.vecSlice (k:=0) (v:=kv) rfl
  refine .region ?_
  refine WL.val (.indexAddr (.of rfl) (.of rfl) (by omega) (by omega) X4o X2f) rfl ?_
  refine WL.val (.ldsW (cs:=[_,_]) (.of rfl) hS (k:=1) rfl Xdi X2f rfl) rfl ?_
  refine .allocA (cs:=[_,_]) hS X6g rfl ?_
  clear hS; intro b5 w hS
  refine WL.stA hS (k:=0) rfl (.of rfl) (.of rfl) rfl X2f rfl (by simp) ?_
  clear hS; intro w hS; try dsimp only [List.set] at hS
  try simp only [Ym,Yc,Yg,Y9,Yl,Yo,Yf] at hS
  refine .nil (.drawn (fun w=>∃ R,Sat B w I (blk b5 [S n,S v9] 101::R)) (fun j=>!([].contains j)) (by kernel_rfl) ?_)
  replace hS:=hS.drew; generalize w.drew=w at hS ⊢
  have hH:∃ R,Sat B w I (blk b5 [S n,S v9] 101::R):=⟨_,(hS.pick 0 rfl)⟩
  refine .tp (i:=0) rfl (by kernel_rfl) (fun w=>(.move (.of rfl))) rfl ?_
  refine WD.tp (i:=1) rfl (by kernel_rfl) (fun w=>(.fieldAddr 0 (.of rfl) Xg5 rfl rfl Qs9 rfl)) rfl ?_
  refine .tk (i:=2) rfl (by kernel_rfl) hH (fun w ⟨R,hS⟩=>(.ld (.of rfl) hS (k:=0) rfl Qg9 rfl)) rfl ?_
  refine WD.tp (i:=5) rfl (by kernel_rfl) (fun w=>(.fieldAddr 1 (.of rfl) Xg5 rfl rfl Qs9 rfl)) rfl ?_
  refine .tk (i:=6) rfl (by kernel_rfl) hH (fun w ⟨R,hS⟩=>(.ld (.of rfl) hS (k:=0) rfl Qg9 rfl)) rfl ?_
  refine WD.branch [3] (by kernel_rfl) rfl (WO.cons rfl ?_ (WO.nil))
  refine .call Tryz.func170 rfl (X0 (.of rfl) X4) rfl (X9k n (by omega) B _ I hd _ hS) ?_
  clear hS
  rintro _ w ⟨rfl,hS⟩
  refine .nil ?_
  clear hH
  have hH:∃ R,Sat B w I (blk b5 [S n,S v9] 101::R):=⟨_,(hS.pick 0 rfl)⟩
  refine And.intro (by intro _ _; exact hH) ?_
  refine WD.tp (i:=4) rfl (by kernel_rfl) (fun w=>(.cat (.of rfl) (.of rfl) (by (try simp only [Y0,Y6,Yh]); omega))) rfl ?_
  refine WD.branch [7] (by kernel_rfl) rfl (WO.cons rfl ?_ (WO.nil))
  refine .call Tryz.func170 rfl (X0 (.of rfl) X4) rfl (X9k v9 (by omega) B _ I hd _ hS) ?_
  clear hS
  rintro _ w ⟨rfl,hS⟩
  refine .nil ?_
  clear hH
  have hH:∃ R,Sat B w I (blk b5 [S n,S v9] 101::R):=⟨_,(hS.pick 0 rfl)⟩
  refine And.intro (by intro _ _; exact hH) ?_
  refine WD.tp (i:=8) rfl (by kernel_rfl) (fun w=>(.cat (.of rfl) (.of rfl) (by (try simp only [Y0,Y6,Yh]); omega))) rfl ?_
  refine WD.branch [9] (by kernel_rfl) rfl (WO.cons rfl ?_ (WO.nil))
  refine .buildSlice (cs:=[_]) hS (X5 (.of rfl) X6) X1f Qs9 Qz9 rfl rfl rfl rfl ?_
  clear hS; intro b21 w hS
  refine .nil ?_
  clear hH
  have hH:∃ R,Sat B w I (blk b5 [S n,S v9] 101::R):=⟨_,(hS.pick 1 rfl)⟩
  refine And.intro (by intro _ _; exact hH) ?_
  refine WD.branch [10] (by kernel_rfl) rfl (WO.cons rfl ?_ (WO.nil))
  refine WL.append (size:=1) (bytes:=16) hS (.of rfl) (.of rfl) (k:=1) rfl X1f X1h rfl rfl rfl rfl rfl rfl rfl ⟨by omega,by unfold maxLen; omega⟩ rfl ?_
  clear hS; intro v22 w hS; try dsimp only [List.set] at hS
  obtain ⟨a22,c22,rfl,hcap22,_⟩:=hS.vecSlice (k:=1) (v:=v22) rfl
  refine .nil ?_
  clear hH
  have hH:∃ R,Sat B w I (blk b5 [S n,S v9] 101::R):=⟨_,(hS.pick 0 rfl)⟩
  refine And.intro (by intro _ _; exact hH) ?_
  refine .tp (i:=11) rfl (by kernel_rfl) (fun w=>(.assign (.of rfl))) rfl (.done (by kernel_rfl) (.region (.run 2 rfl ⟨⟨by omega,by omega⟩,trivial⟩ (.nil ?_))))
  refine ⟨(1,_),⟨rfl,rfl,rfl,rfl,trivial⟩,⟨Ys _,?_⟩,by (try dsimp only); omega⟩
  rw [show (enc n ++ [61]) ++ enc v9=(enc n ++ 61::enc v9) by simp] at hS
  exact (((hS.pick 2 rfl).pick 2 rfl).drop (k:=2) rfl)
 have hc9:=hb9; try simp only [Y5] at hc9
 refine .exit (.seq ?_)
 obtain rfl:i=1:=by omega
 obtain ⟨ka,kc,rfl,hkc,_⟩:=hS.vecSlice (k:=0) (v:=kv) rfl
 refine .t 1 rfl (.call Tryz.func171 rfl (X0 (.of rfl) (X0 (.of rfl) X4)) rfl (Xjc ka kc (enc n ++ 61::enc v9) _ B _ I _ (fun w h=>Xm9 (cells:=Xmx) (s:=1) (fun _=>rfl) h (k:=0) rfl) hS) ?_)
 clear hS
 rintro _ w ⟨rfl,hS⟩
 refine .q 1 rfl (.nil (.ret (Xe Tryz.results130 rfl ?_)))
 exact ⟨_,rfl,rfl,hS.drop (k:=0) rfl⟩
theorem Xeb (u:U) (hu:X39 u) (n v9:List UInt8) (hn:n.length≤1000000) (hv:v9.length≤1000000) (B w:World) (I:Im) (hd:DigAt I) (As:List X9) (hS:Sat B w I As) :
  Calls Tryz.prog 75 [.agg (uc u).toArray,S n,S v9].toArray w (Ret fun v w'=>v=.agg (uc (Xjr u n v9)).toArray∧Sat B w' I As):=by
 refine calls Tryz.func75 rfl Tryz.ntmps75 rfl (.seq (.region (.boxA (cs:=[S u.sch,S u.host,I64 (u.port:Nat),S u.path,S u.query,.bool u.ask]) hS (.of rfl) rfl ?_)))
 clear hS; intro b3 w hS
 refine .allocA (cs:=[_,_,_,_,_,_]) hS Xjx rfl ?_
 clear hS; intro b6 w hS
 refine .nil ?_
 refine WC.cutS (σ:=List UInt8) (fun q9=>[(1,S n),(2,S v9),(3,ptr b3 0),(6,ptr b6 0)]) (fun q9 w=>(q9=if u.query=[] then [] else u.query ++ [38])∧q9.length≤10000001∧Sat B w I (blk b6 [S [],S [],I64 0,S [],S [],.bool false] 63::blk b3 [S u.sch,S u.host,I64 (u.port:Nat),S u.path,S q9,.bool u.ask] 63::As)) ?_ ?_
 ·
  refine .seq ?_
  have huq:=hu.2.2.2.2
  refine .region ?_
  refine WL.val (.fieldAddr 4 (.of rfl) X3r rfl rfl Qs9 rfl) rfl ?_
  refine WL.val (.ld (.of rfl) hS (k:=1) rfl Qg9 rfl) rfl ?_
  refine .q 1 rfl (.nil ?_)
  refine WC.cond rfl (fun hb9=>?_) (fun hb9=>?_)
  ·
   have hc9:=hb9; try simp only [Y5] at hc9
   refine .region ?_
   refine WL.val (.fieldAddr 4 (.of rfl) X3r rfl rfl Qs9 rfl) rfl ?_
   refine WL.val (.ld (.of rfl) hS (k:=1) rfl Qg9 rfl) rfl ?_
   refine WL.run 1 rfl ⟨by (try simp only [Y0,Y6,Yh]); omega,trivial⟩ ?_
   refine WL.val (.fieldAddr 4 (.of rfl) X3r rfl rfl Qs9 rfl) rfl ?_
   refine WL.st1 hS (k:=1) rfl (.of rfl) (.of rfl) rfl Qs9 (by simp) ?_
   clear hS; intro w hS; try dsimp only [List.set] at hS
   refine .nil ?_
   refine ⟨u.query ++ [38],⟨rfl,rfl,rfl,rfl,trivial⟩,?_,?_,((hS.pick 1 rfl).pick 1 rfl)⟩
   ·rw [if_neg (by simpa using hb9)]
   ·rw [Y0]; show _+1≤_; omega
  have hc9:=hb9; try simp only [Y5] at hc9
  refine .skip ?_
  refine ⟨u.query,⟨rfl,rfl,rfl,rfl,trivial⟩,?_,by omega,((hS.pick 1 rfl).pick 1 rfl)⟩
  rw [if_pos (by simpa using hb9)]
  simpa using hb9
 rintro q9 w ⟨hq9,hql,hS⟩
 change WC _ _ _ _ [(1,S n),(2,S v9),(3,ptr b3 0),(6,ptr b6 0)] w
 refine .seq ?_
 have hen:=X1a n
 have hev:=X1a v9
 refine .drawn (fun w=>∃ R,Sat B w I (blk b3 [S u.sch,S u.host,I64 (u.port:Nat),S u.path,S q9,.bool u.ask] 63::R)) (fun j=>!([9].contains j)) (by kernel_rfl) ?_
 replace hS:=hS.drew; generalize w.drew=w at hS ⊢
 have hH:∃ R,Sat B w I (blk b3 [S u.sch,S u.host,I64 (u.port:Nat),S u.path,S q9,.bool u.ask] 63::R):=⟨_,(hS.pick 1 rfl)⟩
 refine WD.tp (i:=0) rfl (by kernel_rfl) (fun w=>(.fieldAddr 4 (.of rfl) X3r rfl rfl Qs9 rfl)) rfl ?_
 refine .tk (i:=1) rfl (by kernel_rfl) hH (fun w ⟨R,hS⟩=>(.ld (.of rfl) hS (k:=0) rfl Qg9 rfl)) rfl (.tp (i:=2) rfl (by kernel_rfl) (fun w=>(.move (.of rfl))) rfl (.tp (i:=3) rfl (by kernel_rfl) (fun w=>(.move (.of rfl))) rfl (.tp (i:=4) rfl (by kernel_rfl) (fun w=>(.build (cs:=[_,_]) (X5 (.of rfl) (X5 (.of rfl) X6)) X2i rfl)) rfl ?_)))
 refine WD.branch [5] (by kernel_rfl) rfl (WO.cons rfl ?_ (WO.nil))
 refine .buildSlice (cs:=[_,_]) hS (X5 (.of rfl) X6) X4o X2f X6g rfl rfl rfl rfl ?_
 clear hS; intro b19 w hS
 refine .nil ?_
 clear hH
 have hH:∃ R,Sat B w I (blk b3 [S u.sch,S u.host,I64 (u.port:Nat),S u.path,S q9,.bool u.ask] 63::R):=⟨_,(hS.pick 2 rfl)⟩
 refine And.intro (by intro _ _; exact hH) ?_
 refine WD.branch [6] (by kernel_rfl) rfl (WO.cons rfl ?_ (WO.nil))
 refine .call Tryz.func130 rfl (X0 (.of rfl) X4) rfl (Xfq b19 n v9 hn hv B _ I hd _ hS) ?_
 clear hS
 rintro _ w ⟨rfl,hS⟩
 try dsimp only [List.eraseIdx] at hS
 refine .nil ?_
 clear hH
 have hH:∃ R,Sat B w I (blk b3 [S u.sch,S u.host,I64 (u.port:Nat),S u.path,S q9,.bool u.ask] 63::R):=⟨_,(hS.pick 2 rfl)⟩
 refine And.intro (by intro _ _; exact hH) ?_
 refine WD.tp (i:=7) rfl (by kernel_rfl) (fun w=>(.cat (.of rfl) (.of rfl) (by (try simp only [Y0,Y6,Yh]); omega))) rfl ?_
 refine WD.tp (i:=8) rfl (by kernel_rfl) (fun w=>(.fieldAddr 4 (.of rfl) X3r rfl rfl Qs9 rfl)) rfl ?_
 refine WD.branch [9] (by kernel_rfl) rfl (WO.cons rfl ?_ (WO.nil))
 refine WL.st1 hS (k:=2) rfl (.of rfl) (.of rfl) rfl Qs9 (by simp) ?_
 clear hS; intro w hS; try dsimp only [List.set] at hS
 refine .nil ?_
 refine And.intro (by intro h; cases h) ?_
 refine .done (by kernel_rfl) (.seq (.region ?_))
 refine WL.val (.fieldAddr 5 (.of rfl) X3r rfl rfl Qs4 rfl) rfl ?_
 refine WL.st1 hS (k:=2) rfl (.of rfl) (.of rfl) rfl Qs4 (by simp) ?_
 clear hS; intro w hS; try dsimp only [List.set] at hS
 refine .nil (.seq (.region ?_))
 refine WL.val (.ldsW (cs:=[_,_,_,_,_,_]) (.of rfl) hS (k:=2) rfl X58 X1r rfl) rfl ?_
 refine WL.stA hS (k:=1) rfl (.of rfl) (.of rfl) rfl X1r rfl (by simp) ?_
 clear hS; intro w hS; try dsimp only [List.set] at hS
 try simp only [Ym,Yc,Yg,Y9,Yl,Yo,Yf] at hS
 refine .nil (.ret ?_)
 refine Xo6 (b:=_) (cs:=[_,_,_,_,_,_]) Tryz.results75 hS (k:=1) rfl X58 X1r rfl rfl ?_
 refine ⟨_,rfl,?_,(((hS.drop (k:=0) rfl).drop (k:=0) rfl).drop (k:=0) rfl)⟩
 rw [Xjr,Xck,← hq9]
 rfl
theorem Xgn (url pgt iou:List UInt8) (hul:url.length≤1000000) (hp:pgt.length≤100000) (hi:iou.length≤100000) (B w:World) (I:Im) (hK:Known I) (As:List X9) (hS:Sat B w I As) :
  Calls Tryz.prog 29 [.agg (List.toArray [S url,S pgt,S iou])].toArray w (Ret fun v w'=>v=.tuple #[S (Xdr url pgt iou).1,I64 ((Xdr url pgt iou).2:Nat)]∧Sat B w' I As):=by
 refine calls Tryz.func29 rfl Tryz.ntmps29 rfl (.seq (.region (.boxA (cs:=[S url,S pgt,S iou]) hS (.of rfl) rfl ?_)))
 clear hS; intro b1 w hS
 refine .q 2 rfl (.nil (.seq (.region ?_)))
 refine WL.val (.fieldAddr 0 (.of rfl) Xaw rfl rfl Qs9 rfl) rfl ?_
 refine .val (.ld (.of rfl) hS (k:=0) rfl Qg9 rfl) rfl (.call Qf38 rfl (X0 (.of rfl) X4) rfl (X6j url hul B _ I hK _ hS) ?_)
 clear hS
 rintro _ w ⟨rfl,hS⟩
 refine .q 3 rfl (.allocA (cs:=[_,_,_,_,_,_]) hS Xjx rfl ?_)
 clear hS; intro b4 w hS
 refine WL.stA hS (k:=0) rfl (.of rfl) (.of rfl) rfl X1r rfl (by simp) ?_
 clear hS; intro w hS; try dsimp only [List.set] at hS
 try simp only [Ym,Yc,Yg,Y9,Yl,Yo,Yf] at hS
 refine .q 1 rfl (.nil (.seq (.seq (.q 2 rfl ?_))))
 refine WC.cond rfl (fun hb13=>?_) (fun hb13=>?_)
 ·
  have hc13:=hb13; try simp only [Y5] at hc13
  refine .seq (.q 3 rfl (.ret (X1g Tryz.results29 rfl rfl ?_)))
  refine ⟨_,rfl,?_,((hS.drop (k:=0) rfl).drop (k:=0) rfl)⟩
  have h9:=hc13
  rw [Xdr,if_neg (by omega)]
  rfl
 have hc13:=hb13; try simp only [Y5] at hc13
 refine .skip (.seq ?_)
 have hz:(pU url).2=0:=by have h9:=hc13; omega
 obtain ⟨hs1,hs2⟩:=X9t hz hp hi
 refine .drawn (fun w=>∃ R,Sat B w I (blk b1 [S url,S pgt,S iou] 48::blk b4 (uc (pU url).1) 63::R)) (fun j=>!([].contains j)) (by kernel_rfl) ?_
 replace hS:=hS.drew; generalize w.drew=w at hS ⊢
 have hH:∃ R,Sat B w I (blk b1 [S url,S pgt,S iou] 48::blk b4 (uc (pU url).1) 63::R):=⟨_,((hS.pick 0 rfl).pick 1 rfl)⟩
 refine WD.tk (i:=0) rfl (by kernel_rfl) hH (fun w ⟨R,hS⟩=>((.ldsW (cs:=[_,_,_,_,_,_]) (.of rfl) hS (k:=1) rfl X58 X1r rfl))) rfl ?_
 refine WD.tp (i:=1) rfl (by kernel_rfl) (fun w=>(.fieldAddr 1 (.of rfl) Xaw rfl rfl Qs9 rfl)) rfl ?_
 refine WD.tk (i:=2) rfl (by kernel_rfl) hH (fun w ⟨R,hS⟩=>((.ld (.of rfl) hS (k:=0) rfl Qg9 rfl))) rfl ?_
 refine WD.tp (i:=4) rfl (by kernel_rfl) (fun w=>(.fieldAddr 2 (.of rfl) Xaw rfl rfl Qs9 rfl)) rfl ?_
 refine WD.tk (i:=5) rfl (by kernel_rfl) hH (fun w ⟨R,hS⟩=>((.ld (.of rfl) hS (k:=0) rfl Qg9 rfl))) rfl ?_
 refine WD.branch [3] (by kernel_rfl) rfl (WO.cons rfl ?_ (WO.nil))
 refine .call Tryz.func75 rfl (X0 (.of rfl) (X0 (.of rfl) (X0 (.of rfl) X4))) rfl (Xeb (pU url).1 (X7b url) PGTID pgt (by decide) (by omega) B _ I hK.dig _ hS) ?_
 clear hS
 rintro _ w ⟨rfl,hS⟩
 refine .nil ?_
 clear hH
 have hH:∃ R,Sat B w I (blk b1 [S url,S pgt,S iou] 48::blk b4 (uc (pU url).1) 63::R):=⟨_,((hS.pick 0 rfl).pick 1 rfl)⟩
 refine And.intro (by intro _ _; exact hH) ?_
 refine WD.branch [6] (by kernel_rfl) rfl (WO.cons rfl ?_ (WO.nil))
 refine .call Tryz.func75 rfl (X0 (.of rfl) (X0 (.of rfl) (X0 (.of rfl) X4))) rfl (Xeb (Xjr (pU url).1 PGTID pgt) hs1 PGTIOU iou (by decide) (by omega) B _ I hK.dig _ hS) ?_
 clear hS
 rintro _ w ⟨rfl,hS⟩
 refine .nil ?_
 clear hH
 have hH:∃ R,Sat B w I (blk b1 [S url,S pgt,S iou] 48::blk b4 (uc (pU url).1) 63::R):=⟨_,((hS.pick 0 rfl).pick 1 rfl)⟩
 refine And.intro (by intro _ _; exact hH) ?_
 refine WD.branch [7] (by kernel_rfl) rfl (WO.cons rfl ?_ (WO.nil))
 refine .call Tryz.func74 rfl (X0 (.of rfl) X4) rfl (X7j (X3a (pU url).1 pgt iou) hs2 B _ I hK _ hS) ?_
 clear hS
 rintro _ w ⟨rfl,hS⟩
 refine .nil ?_
 clear hH
 have hH:∃ R,Sat B w I (blk b1 [S url,S pgt,S iou] 48::blk b4 (uc (pU url).1) 63::R):=⟨_,((hS.pick 0 rfl).pick 1 rfl)⟩
 refine And.intro (by intro _ _; exact hH) ?_
 refine .tp (i:=8) rfl (by kernel_rfl) (fun w=>(.assign (.of rfl))) rfl (.tp (i:=9) rfl (by kernel_rfl) (fun w=>(.assign (.of rfl))) rfl (.done (by kernel_rfl) (.ret (X1g Tryz.results29 rfl rfl ?_))))
 refine ⟨_,rfl,?_,((hS.drop (k:=0) rfl).drop (k:=0) rfl)⟩
 rw [Xdr,if_pos hz]; rfl
theorem Form_e (s:List UInt8) (hl:s.length≤1000000) (B w:World) (I:Im) (hK:Known I) (As:List X9) (hS:Sat B w I As):Calls Tryz.prog 98 [S s].toArray w (Ret fun v w'=>∃ J ra rc,v=.tuple #[.slice ra (form s).1.length rc,I64 ((form s).2:Nat)]∧Le I J∧(form s).1.length≤rc∧RS J ra 2 (form s).1.length (X1b Xl (form s).1)∧Sat B w' J As):=Xl9 s hl B w I hK As hS
theorem Xj8 (s:List UInt8) (hl:s.length≤1000000) (B w:World) (I:Im) (As:List X9) (hS:Sat B w I As):Calls Tryz.prog 41 [S s].toArray w (Ret fun v w'=>∃ J ra rc,v=.tuple #[.slice ra (form s).1.length rc,I64 ((form s).2:Nat)]∧Le I J∧(form s).1.length≤rc∧RS J ra 2 (form s).1.length (X1b Xl (form s).1)∧Sat B w' J As):=Xcn s hl B w I As hS
theorem Xg1 (u:U) (hq:u.query.length≤1000000) (B w:World) (I:Im) (hK:Known I) (As:List X9) (hS:Sat B w I As) :
  Calls Tryz.prog 42 [.agg (uc u).toArray].toArray w (Ret fun v w'=>Xhf I (form u.query) B As v w'):=by
 refine calls Tryz.func42 rfl Tryz.ntmps42 rfl (.seq (.region (.boxA (cs:=[S u.sch,S u.host,I64 (u.port:Nat),S u.path,S u.query,.bool u.ask]) hS (.of rfl) rfl ?_)))
 clear hS; intro b1 w hS
 refine .q 2 rfl (.nil (.seq (.region ?_)))
 refine WL.val (.fieldAddr 4 (.of rfl) X3r rfl rfl Qs9 rfl) rfl ?_
 refine .val (.ld (.of rfl) hS (k:=0) rfl Qg9 rfl) rfl (.call Tryz.func98 rfl (X0 (.of rfl) X4) rfl (Form_e u.query hq B _ I hK _ hS) ?_)
 clear hS
 rintro _ w ⟨J,ra,rc,rfl,hJ,hrc,hR,hS⟩
 refine .q 4 rfl (.nil (.ret (X1g Tryz.results42 rfl rfl ?_)))
 exact ⟨_,rfl,J,ra,rc,rfl,hJ,hrc,hR,hS.drop (k:=0) rfl⟩
end Go.Proofs.YtfibbpgikjggfaaGreatDoor
namespace Go.Proofs.YtfibbpgikjggfaaGreatDoor
open Gk Ul Pc Tk Tr
structure Op where
 act:Int
 n:Int
 d:List Nat
 a:Int
 b:List UInt8
 c:List UInt8
 f:Bool
 r:Rec
 q:Ak
def Xor (o:Op) (da:Option Addr) (dc:Nat):List Value:=[I64 o.act,I64 o.n,.slice da o.d.length dc,I64 o.a,S o.b,S o.c,.bool o.f,I64 o.r.kind,S o.r.name,S o.r.parent,S o.r.user,S o.r.service,S o.r.url,I64 o.r.made,I64 o.r.used,I64 o.r.uses,.bool o.r.fresh,S o.q.service,S o.q.cookie,.bool o.q.has,.bool o.q.renew,.bool o.q.gateway,.bool o.q.warn]
def OpAt (I:Im) (o:Op) (cs:List Value):Prop:=∃ da dc,cs=Xor o da dc∧o.d.length≤dc∧dc≤maxLen∧RS I da 1 o.d.length (o.d.map fun d=>U64 (d:Nat))
def OpsAt (I:Im) (a:Option Addr) (l:List Op):Prop:=∃ L:List (List Value),L.length=l.length∧(∀ c∈L,c.length=23)∧RS I a 23 l.length L.flatten∧∀ (i:Nat) (o:Op),l[i]?=some o→∃ cs,L[i]?=some cs∧OpAt I o cs
theorem OpAt.mono {I J:Im} {o:Op} {cs:List Value} (h:OpAt I o cs) (hl:Le I J):OpAt J o cs:=by
 obtain ⟨da,dc,e,h1,h2,h3⟩:=h
 exact ⟨da,dc,e,h1,h2,h3.mono hl⟩
theorem OpsAt.mono {I J:Im} {a:Option Addr} {l:List Op} (h:OpsAt I a l) (hl:Le I J):OpsAt J a l:=by
 obtain ⟨L,h1,h2,h3,h4⟩:=h
 exact ⟨L,h1,h2,h3.mono hl,fun i o ho=>by
  obtain ⟨cs,h5,h6⟩:=h4 i o ho
  exact ⟨cs,h5,h6.mono hl⟩⟩
theorem OpsAt.at {I:Im} {a:Option Addr} {l:List Op} (h:OpsAt I a l) (i:Nat) (u:Op) (hu:l[i]?=some u):∃ p cs,a=some p∧At I (p.add (i*23)) cs∧OpAt I u cs:=by
 obtain ⟨L,h1,h2,h3,h4⟩:=h
 obtain ⟨cs,h5,h6⟩:=h4 i u hu
 obtain ⟨p,rfl,hp⟩:=h3.2 (by have:=(Y4.1 hu).1; omega)
 refine ⟨p,cs,rfl,?_,h6⟩
 have h8:=X4q (hp.add (i*23)) 23
 rw [X2h L h2 i _ h5] at h8
 exact h8
structure Op.fits (o:Op):Prop where
 d:∀ x∈o.d,x<18446744073709551616
 b:o.b.length≤maxLen
 c:o.c.length≤maxLen
def feedW (ω:Wd) (d:List Nat):Wd:={ ω with D:=ω.D ++ d }
theorem Xku {ω:Wd} (h:X5c ω) {d:List Nat} (hd:∀ x∈d,x<18446744073709551616):X5c (feedW ω d):=⟨h.len,h.wf,fun x hx=>by
 rcases Y12.1 hx with h1 | h1
 ·exact h.D x h1
 ·exact hd x h1,h.now,h.room⟩
end Go.Proofs.YtfibbpgikjggfaaGreatDoor
namespace Gk
open Go
section
variable {P:Program} {n:Nat} {K:X2y} {L:Env} {w:World} {ops:Array Oper} {rest:List Oper}
theorem WL.later {x:Operand} {f:Fn} {cap:List Value} {ty:TypeId} {pos:String} {af:Array Edge} (hx:Ev n L x (.func f #[] cap.toArray)) (h0:dl L=[]) (h:WL P n ops K rest ((DK,.func f #[] cap.toArray)::L) w):WL P n ops K (⟨none,.defer ⟨.value x,#[],#[]⟩,ty,pos,af,none⟩::rest) L w:=by
 intro a ha
 refine wpList_plain rfl fun K' hK=>?_
 unfold Oper.wp
 have he:(execOp a.eval (⟨none,.defer ⟨.value x,#[],#[]⟩,ty,pos,af,none⟩:Oper)).run P w=.ok (.defer { target:=.fn f cap.toArray,args:=#[] }) w:=by
  simp [execOp,resolve,hx a ha,Deferred.ofValue]
 rw [he]
 refine hK _ _ (h _ ⟨ha.size,ha.small,?_,fun t v hv=>?_⟩)
 ·have:=ha.defers
  rw [h0] at this
  simp [Act.put,this,dl,look0]
 ·obtain ⟨h1,h2⟩:=X8b hv
  rw [look0,Xn6 (Ne.symm h1)] at h2
  exact ha.get t v (Xil h1 h2)
theorem callsD {f:FuncId} {fn:Func} {c:Code} {args:List Value} {u:FrameMode} {R:Ending→World→Prop} (hf:P.funcs[f]?=some fn) (hb:fn.body=some c) (hn:fn.ntmps=n) (hle:(Nat.ble args.length n && Nat.ble n DK)=true)
  (h:WC P n c (X3y P n fn R) (Xbg 0 args) w):CallsD P f args.toArray u w fun e u' w'=>u'=u∧R e w':=by
 refine callsD_of_wp hf hb (wp_mono (h _ (X55 hn hle)) ?_)
 rintro e a' w' ⟨L',h1,h2⟩
 cases e with
 | normal=>exact ⟨h1.defers.trans h2.1,h2.2 a' h1⟩
 | ret=>exact ⟨h1.defers.trans h2.1,h2.2 a' h1⟩
 | _=>exact h2.elim
def X9y (P:Program) (n:Nat) (fn:Func) (R:Ending→World→Prop):X2y
 | .normal,L,w | .ret,L,w=>∀ a,Holds n L a→Leaves P fn a.tmps R a.defers .returning w
 | _,_,_=>False
theorem callsF {f:FuncId} {fn:Func} {c:Code} {args:List Value} {R:Ending→World→Prop} (hf:P.funcs[f]?=some fn) (hb:fn.body=some c) (hn:fn.ntmps=n) (hle:(Nat.ble args.length n && Nat.ble n DK)=true)
  (h:WC P n c (X9y P n fn R) (Xbg 0 args) w):Calls P f args.toArray w R:=by
 refine calls_of_wp_defers hf hb (wp_mono (h _ (X55 hn hle)) ?_)
 rintro e a' w' ⟨L',h1,h2⟩
 cases e with
 | normal=>exact h2 a' h1
 | ret=>exact h2 a' h1
 | _=>exact h2.elim
theorem retF {fn:Func} {R:Ending→World→Prop} (h:X3y P n fn R .ret L w):X9y P n fn R .ret L w:=fun a ha=>by
 rw [ha.defers,h.1]
 exact h.2 a ha
theorem retD {fn gn:Func} {R:Ending→World→Prop} {g:FuncId} {cap:List Value} {Q:World→Prop} (hg:P.funcs[g]?=some gn) (hc:Xk gn=true) (hd:dl L=[{ target:=.fn (.func g) cap.toArray,args:=#[] }])
  (hcall:∀ u,CallsD P g cap.toArray u w fun e u' w'=>u'=u∧∃ v,e=.returned v∧Q w') (h:∀ w',Q w'→∀ a,Holds n L a→∃ v,(results fn a.tmps).run P w'=.ok v w'∧R (.returned v) w'):X9y P n fn R .ret L w:=fun a ha=>by
 rw [ha.defers,hd]
 unfold Xk at hc
 simp only [Yn] at hc
 obtain ⟨h1,h2⟩:=hc
 have h1' : ¬ gn.name = "runtime.NumGoroutine" := by simpa using h1
 have h2':¬ gn.body=none:=by intro e; rw [e] at h2; cases h2
 refine leaves_cons (by simp) (f:=g) (args:=cap.toArray) (by simp [invoke,callFunc,program,Sem.run,hg,h1',h2']) ((hcall .returning).mono ?_)
 rintro e u' w' ⟨rfl,v,rfl,hQ⟩
 exact h w' hQ a ha
theorem Xbm {fn:Func} {B:World} {I:Im} {As:List X9} {t u b c s k j:Nat} {ty ty2 E E2:TypeId} {cs:List Value} {x:Value} (h:fn.results=#[.cell t ty,.cell u ty2]) (hS:Sat B w I As) (hk:As[k]?=some (blk b cs E)) (hj:As[j]?=some (blk c [x] E2)) (ht:∀ w,(isAgg ty).run P w=.ok true w) (hs:∀ w,(Go.sizeOf ty).run P w=.ok s w) (ht2:∀ w,(isAgg ty2).run P w=.ok false w)
  (hl:cs.length=s) (hv:look L t=some (ptr b 0)) (hx:look L u=some (ptr c 0)):∀ a,Holds n L a→(results fn a.tmps).run P w=.ok (.tuple #[.agg cs.toArray,x]) w:=fun a ha=>by
 have hb:=hS.block hk
 have hc:=hS.block hj
 have hld:=run_loadCells_list (P:=P) w (ad b 0) cs (fun j v hj=>by rw [Xt]; exact Xp hb (by simpa using hj))
 have hl2:w.cell? (ad c 0)=some x:=Xp hc (by simp)
 rw [hl] at hld
 have h1:=ha.get t _ hv
 have h2:=ha.get u _ hx
 simp only [Y10] at h1 h2
 simp [results,h,h1,h2,loadVar,ht,hs,ht2,asAddr,hld,load,Sem.run,hl2]
theorem Xoi {fn:Func} {R:Ending→World→Prop} {v:Value} (hd:dl L=[]) (h:∀ a,Holds n L a→(results fn a.tmps).run P w=.ok v w) (hR:R (.returned v) w):X9y P n fn R .ret L w :=
 retF ⟨hd,fun a ha=>⟨v,h a ha,hR⟩⟩
end
end Gk
namespace Go.Proofs.YtfibbpgikjggfaaGreatDoor
open Gk Ul Pc Tk Tr
theorem X5r:Bld Tryz.prog 48 [(0,1),(1,1),(2,1)] [S [],S [],S []]:=X2l Xaw Qz48 (fun w=>by simp [go_sem])
structure Cl where
 url:List UInt8
 pgt:List UInt8
 iou:List UInt8
deriving DecidableEq
def Xap (k:Cl):List Value:=[S k.url,S k.pgt,S k.iou]
def c0:Cl:=⟨[],[],[]⟩
def Xnu (lo:List Sv) (ω:Wd) (t:List UInt8):Sv×List UInt8×Nat:=X24 lo (getD ω.l t).service
def Xlg (lo:List Sv) (ω:Wd) (t cb:List UInt8):List UInt8×Bool:=Xc8 lo (Xnu lo ω t).1.id cb
def noP (ω:Wd) (t:List UInt8):Bool:=((getD ω.l t).kind != 2 && (getD ω.l t).kind != 3) || (getD ω.l t).uses == 0
def noQ (lo:List Sv) (ω:Wd) (t cb:List UInt8):Bool:=((((Xnu lo ω t).2.2:Nat):Int) != 0 || !(Xnu lo ω t).1.proxy) || !(Xlg lo ω t cb).2
def X3q (lo:List Sv) (ω:Wd) (t cb:List UInt8):Rec:=⟨4,[],t,(getD ω.l t).user,(getD ω.l t).service,(Xlg lo ω t cb).1,0,0,0,false⟩
def Xg8 (pgt:List UInt8):Rec:=⟨5,[],pgt,[],[],[],0,0,0,false⟩
def X33 (lo:List Sv) (ω:Wd) (t cb:List UInt8):(Cl×Nat)×Wd :=
 if noP ω t=true then ((c0,30),ω)
 else if noQ lo ω t cb=true then ((c0,34),ω)
 else if (mkW ω (X3q lo ω t cb)).1.2≠0 then ((c0,(mkW ω (X3q lo ω t cb)).1.2),(mkW ω (X3q lo ω t cb)).2)
 else if (mkW (mkW ω (X3q lo ω t cb)).2 (Xg8 (mkW ω (X3q lo ω t cb)).1.1)).1.2≠0 then ((c0,(mkW (mkW ω (X3q lo ω t cb)).2 (Xg8 (mkW ω (X3q lo ω t cb)).1.1)).1.2),X7l (mkW (mkW ω (X3q lo ω t cb)).2 (Xg8 (mkW ω (X3q lo ω t cb)).1.1)).2 (mkW ω (X3q lo ω t cb)).1.1)
 else ((⟨(Xlg lo ω t cb).1,(mkW ω (X3q lo ω t cb)).1.1,(mkW (mkW ω (X3q lo ω t cb)).2 (Xg8 (mkW ω (X3q lo ω t cb)).1.1)).1.1⟩,0),(mkW (mkW ω (X3q lo ω t cb)).2 (Xg8 (mkW ω (X3q lo ω t cb)).1.1)).2)
theorem X2u {lo:List Sv} {ω:Wd} (h:X5c ω) (t cb:List UInt8):X5c (X33 lo ω t cb).2:=by
 unfold X33
 split
 ·exact h
 ·split
  ·exact h
  ·split
   ·exact X38 h _
   ·split
    ·exact Xf8 (X38 (X38 h _) _) _
    ·exact X38 (X38 h _) _
def X1u (ω:Wd) (iou:List UInt8) (n:Int):(List UInt8×Nat)×Wd :=
 if ((getD ω.l iou).kind != 5)=true then (([],30),ω)
 else if (n != 200)=true then (([],34),X7l ω (getD ω.l iou).parent)
 else ((iou,0),X7l ω iou)
theorem X34 {ω:Wd} (h:X5c ω) (iou:List UInt8) (n:Int):X5c (X1u ω iou n).2:=by
 unfold X1u
 split
 ·exact h
 ·split <;> exact Xf8 h _
def Xkk (l:List Rec) (pgt:List UInt8):Bool:=(X2j l pgt).any fun k=>(getD l k).kind == 5
def X4p (lo:List Sv) (ps:Nat→Int) (ω:Wd) (pgt target:List UInt8):Rec:=⟨3,[],pgt,(X1d ps ω pgt 4).1.user,(X24 lo target).2.1,[],0,0,0,false⟩
def X1p (lo:List Sv) (ps:Nat→Int) (ω:Wd) (pgt target:List UInt8):((List UInt8×List UInt8)×Nat)×Wd :=
 if (pgt == [] || target == [])=true then ((([],[]),33),ω)
 else if (!(X1d ps ω pgt 4).2 || Xkk ω.l pgt)=true then ((([],[]),30),ω)
 else if ((((X24 lo target).2.2:Nat):Int) != 0)=true then ((([],[]),36),ω)
 else if (mkW ω (X4p lo ps ω pgt target)).1.2≠0 then ((([],[]),(mkW ω (X4p lo ps ω pgt target)).1.2),(mkW ω (X4p lo ps ω pgt target)).2)
 else ((((mkW ω (X4p lo ps ω pgt target)).1.1,(X24 lo target).2.1),0),putW (mkW ω (X4p lo ps ω pgt target)).2 (Xb2 (X1d ps ω pgt 4).1 (mkW ω (X4p lo ps ω pgt target)).2.now))
theorem X23 {lo:List Sv} {ps:Nat→Int} {ω:Wd} (h:X5c ω) (pgt target:List UInt8):X5c (X1p lo ps ω pgt target).2:=by
 unfold X1p
 split
 ·exact h
 ·split
  ·exact h
  ·split
   ·exact h
   ·split
    ·exact X38 h _
    ·exact Xnk (X38 h _) _
theorem X7p {ω:Wd} {r:Rec}:(mkW ω r).1.1.length≤23:=by
 unfold mkW
 have h:=Xc9 (pr:=fun s=>(get ω.l s).isSome) (kind:=r.kind) (D:=ω.D)
 split
 ·exact Yp _
 ·(try dsimp only)
  split
  ·exact Yp _
  ·exact h
theorem Xjb {l:List Rec} (hw:Wf l) (name:List UInt8):(getD l name).service.length≤100:=by
 rcases Xb4 hw name with ⟨_,e⟩ | ⟨_,h2,_⟩
 ·rw [e]; decide
 ·unfold Xx at h2
  simp only [Yn,decide_eq_true_eq] at h2
  show (getD l name).service.length≤100
  omega
theorem Xnm (id:Int) (s:List UInt8) (hs:s.length≤1000000) (p:Wp) (B w:World) (I:Im) (hI:WpOk I p) (As:List X9) (hS:Sat B w I As) :
  Calls Tryz.prog 51 [.pointer (some p.pr),I64 id,S s].toArray w (Ret fun v w'=>v=.tuple #[S (Xc8 p.lo id s).1,.bool (Xc8 p.lo id s).2]∧Sat B w' I As):=by
 obtain ⟨a,c,E,h1,h2,h3⟩:=hI.reg
 exact Xbs p.pr p.lo hI.lo hI.rel id s hs a c E B w I hI.known h1 h3 As hS
theorem X9d (iou:List UInt8) (n:Int) (p:Wp) (ω:Wd) (hω:X5c ω) (B w:World) (I:Im) (hI:WpOk I p) (As:List X9) (hS:Sat B w I (wdA p ω::As)) :
  Calls Tryz.prog 23 [ptr p.wb 0,S iou,I64 n].toArray w (Ret fun v w'=>v=.tuple #[S (X1u ω iou n).1.1,I64 ((X1u ω iou n).1.2:Nat)]∧Sat B w' I (wdA p (X1u ω iou n).2::As)):=by
 refine calls Tryz.func23 rfl Tryz.ntmps23 rfl (.seq (.q 2 rfl (.seq ?_)))
 obtain ⟨⟨a,c,ma,mc⟩,hS⟩:=Sat.unbox hS
 replace hS:Sat B _ _ (blk p.wb (wdC p ω) 44::blk p.tb [I64 ω.room,.slice a ω.l.length c] 114::Vec 54 10 (.slice a ω.l.length c) ω.l.length (Xd ω.l)::blk p.mb [.slice ma ω.D.length mc] 111::X4c 104 (.slice ma ω.D.length mc) (ω.D.map fun d=>U64 (d:Nat))::_):=hS
 have hlen:=hω.len
 have hwf:=hω.wf
 refine .t 2 rfl ?_
 refine WL.val (.fieldAddr 0 (.of rfl) X70 rfl rfl Xfl rfl) rfl ?_
 refine WL.val (.ld (.of rfl) hS (k:=0) rfl Xd9 rfl) rfl ?_
 refine .q 1 rfl (.call Xow rfl (X0 (.of rfl) (X0 (.of rfl) X4)) rfl (X60 p.tb ω.room a c ω.l (by omega) iou B _ I _ ((hS.pick 2 rfl).pick 2 rfl)) ?_)
 clear hS
 rintro _ w ⟨rfl,hS⟩
 try dsimp only [List.eraseIdx] at hS
 refine .q 3 rfl (.allocA (cs:=[_,_,_,_,_,_,_,_,_,_]) hS Xbl rfl ?_)
 clear hS; intro b8 w hS
 refine WL.stA hS (k:=0) rfl (.of rfl) (.of rfl) rfl X26 rfl (by simp) ?_
 clear hS; intro w hS; try dsimp only [List.set] at hS
 try simp only [Ym,Yc,Yg,Y9,Yl,Yo,Yf] at hS
 refine .q 1 rfl (.nil (.seq (.block (.seq (.region ?_)))))
 refine WL.val (.fieldAddr 0 (.of rfl) X20 rfl rfl Qs3 rfl) rfl ?_
 refine WL.val (.ld (.of rfl) hS (k:=0) rfl Qg3 rfl) rfl ?_
 refine .q 2 rfl (.nil ?_)
 refine WC.cond rfl (fun hb19=>?_) (fun hb19=>?_)
 ·
  have hc19:=hb19; try simp only [Y5] at hc19
  refine .seq (.q 2 rfl (.ret (X1g Tryz.results23 rfl rfl ?_)))
  have hE:X1u ω iou n=(([],30),ω):=by rw [X1u,if_pos hb19]
  rw [hE]
  exact ⟨_,rfl,rfl,Sat.box (T:=wdT p ω) (a,c,ma,mc) ((((((hS.drop (k:=0) rfl).pick 4 rfl).pick 4 rfl).pick 3 rfl).pick 3 rfl).pick 4 rfl)⟩
 have hc19:=hb19; try simp only [Y5] at hc19
 refine .seq (.q 3 rfl ?_)
 refine WC.cond rfl (fun hb23=>?_) (fun hb23=>?_)
 ·
  have hc23:=hb23; try simp only [Y5] at hc23
  refine .seq (.drawn (fun w=>∃ R,Sat B w I (blk b8 (X8 (getD ω.l iou)) 54::blk p.wb (wdC p ω) 44::R)) (fun j=>!([].contains j)) (by kernel_rfl) ?_)
  replace hS:=hS.drew; generalize w.drew=w at hS ⊢
  have hH:∃ R,Sat B w I (blk b8 (X8 (getD ω.l iou)) 54::blk p.wb (wdC p ω) 44::R):=⟨_,((hS.pick 3 rfl).pick 1 rfl)⟩
  refine .tp (i:=0) rfl (by kernel_rfl) (fun w=>(.move (.of rfl))) rfl (.tp (i:=1) rfl (by kernel_rfl) (fun w=>(.nilCheck (.of rfl))) rfl ?_)
  refine WD.tp (i:=2) rfl (by kernel_rfl) (fun w=>(.fieldAddr 0 (.of rfl) X70 rfl rfl Xfl rfl)) rfl ?_
  refine WD.tk (i:=3) rfl (by kernel_rfl) hH (fun w ⟨R,hS⟩=>((.ld (.of rfl) hS (k:=1) rfl Xd9 rfl))) rfl ?_
  refine WD.tp (i:=4) rfl (by kernel_rfl) (fun w=>(.fieldAddr 2 (.of rfl) X20 rfl rfl Qs9 rfl)) rfl ?_
  refine WD.tk (i:=5) rfl (by kernel_rfl) hH (fun w ⟨R,hS⟩=>((.ld (.of rfl) hS (k:=0) rfl Qg9 rfl))) rfl ?_
  refine WD.branch [6] (by kernel_rfl) rfl (WO.cons rfl ?_ (WO.nil))
  refine WL.call Qf33 rfl (X0 (.of rfl) (X0 (.of rfl) X4)) rfl (Xal p.tb ω.room a c ω.l (by have:=hlen; omega) hwf (getD ω.l iou).parent B _ I _ ((hS.pick 2 rfl).pick 2 rfl)) ?_
  clear hS
  rintro _ w ⟨J,ga,gc,rfl,hJ,hgc,hRS,a9,c9,hS⟩
  try dsimp only [List.eraseIdx] at hS
  replace hS:=hS.weaken hJ
  refine .nil ?_
  clear hH
  have hH:∃ R,Sat B w I (blk b8 (X8 (getD ω.l iou)) 54::blk p.wb (wdC p ω) 44::R):=⟨_,((hS.pick 3 rfl).pick 3 rfl)⟩
  refine And.intro (by intro _ _; exact hH) ?_
  refine .done (by kernel_rfl) (.seq (.q 2 rfl (.ret (X1g Tryz.results23 rfl rfl ?_))))
  have hE:X1u ω iou n=(([],34),X7l ω (getD ω.l iou).parent):=by rw [X1u,if_neg (by rw [hb19]; decide),if_pos hb23]
  rw [hE]
  exact ⟨_,rfl,rfl,Sat.box (T:=wdT p (X7l ω (getD ω.l iou).parent)) (a9,c9,ma,mc) ((((((hS.drop (k:=2) rfl).pick 4 rfl).pick 4 rfl).pick 3 rfl).pick 3 rfl).pick 4 rfl)⟩
 have hc23:=hb23; try simp only [Y5] at hc23
 refine .skip (.seq (.t 2 rfl ?_))
 refine WL.val (.fieldAddr 0 (.of rfl) X70 rfl rfl Xfl rfl) rfl ?_
 refine WL.val (.ld (.of rfl) hS (k:=3) rfl Xd9 rfl) rfl ?_
 refine .q 1 rfl ?_
 refine WL.call Qf33 rfl (X0 (.of rfl) (X0 (.of rfl) X4)) rfl (Xal p.tb ω.room a c ω.l (by have:=hlen; omega) hwf iou B _ I _ ((hS.pick 2 rfl).pick 2 rfl)) ?_
 clear hS
 rintro _ w ⟨J,ga,gc,rfl,hJ,hgc,hRS,a9,c9,hS⟩
 try dsimp only [List.eraseIdx] at hS
 replace hS:=hS.weaken hJ
 refine .nil (.seq (.q 3 rfl (.ret (X1g Tryz.results23 rfl rfl ?_))))
 have hE:X1u ω iou n=((iou,0),X7l ω iou):=by rw [X1u,if_neg (by rw [hb19]; decide),if_neg (by rw [hb23]; decide)]
 rw [hE]
 exact ⟨_,rfl,rfl,Sat.box (T:=wdT p (X7l ω iou)) (a9,c9,ma,mc) ((((((hS.drop (k:=2) rfl).pick 4 rfl).pick 4 rfl).pick 3 rfl).pick 3 rfl).pick 4 rfl)⟩
theorem X9q (bad:Int) (pgt:List UInt8) (b7 b3 b15:Nat) (u:FrameMode) (p:Wp) (ω:Wd) (hω:X5c ω) (B w:World) (I:Im) (As:List X9) (hS:Sat B w I (blk b7 [I64 bad] 49::blk b3 [ptr p.wb 0] 37::blk b15 [S pgt] 9::wdA p ω::As)) :
  CallsD Tryz.prog 53 [ptr b7 0,ptr b3 0,ptr b15 0].toArray u w (fun e u' w'=>u'=u∧Ret (fun v w'=>Sat B w' I (blk b7 [I64 bad] 49::blk b3 [ptr p.wb 0] 37::blk b15 [S pgt] 9::wdA p (if bad=0 then ω else X7l ω pgt)::As)) e w'):=by
 refine callsD Tryz.func53 rfl Tryz.ntmps53 rfl (.seq (.region ?_))
 refine WL.val (.ld (.of rfl) hS (k:=0) rfl Qg49 rfl) rfl ?_
 refine .q 1 rfl (.nil ?_)
 refine WC.cond rfl (fun hb4=>?_) (fun hb4=>?_)
 ·
  have hc4:=hb4; try simp only [Y5] at hc4
  replace hS:=(hS.pick 3 rfl)
  try dsimp only [List.eraseIdx] at hS
  obtain ⟨⟨a,c,ma,mc⟩,hS⟩:=Sat.unbox hS
  replace hS:Sat B _ _ (blk p.wb (wdC p ω) 44::blk p.tb [I64 ω.room,.slice a ω.l.length c] 114::Vec 54 10 (.slice a ω.l.length c) ω.l.length (Xd ω.l)::blk p.mb [.slice ma ω.D.length mc] 111::X4c 104 (.slice ma ω.D.length mc) (ω.D.map fun d=>U64 (d:Nat))::_):=hS
  have hlen:=hω.len
  have hwf:=hω.wf
  refine .drawn (fun w=>∃ R,Sat B w I (blk b3 [ptr p.wb 0] 37::blk b15 [S pgt] 9::blk p.wb (wdC p ω) 44::R)) (fun j=>!([].contains j)) (by kernel_rfl) ?_
  replace hS:=hS.drew; generalize w.drew=w at hS ⊢
  have hH:∃ R,Sat B w I (blk b3 [ptr p.wb 0] 37::blk b15 [S pgt] 9::blk p.wb (wdC p ω) 44::R):=⟨_,(((hS.pick 0 rfl).pick 7 rfl).pick 7 rfl)⟩
  refine WD.tk (i:=0) rfl (by kernel_rfl) hH (fun w ⟨R,hS⟩=>((.ld (.of rfl) hS (k:=0) rfl Xi4 rfl))) rfl ?_
  refine .tp (i:=1) rfl (by kernel_rfl) (fun w=>(.nilCheck (.of rfl))) rfl ?_
  refine WD.tp (i:=2) rfl (by kernel_rfl) (fun w=>(.fieldAddr 0 (.of rfl) X70 rfl rfl Xfl rfl)) rfl ?_
  refine WD.tk (i:=3) rfl (by kernel_rfl) hH (fun w ⟨R,hS⟩=>((.ld (.of rfl) hS (k:=2) rfl Xd9 rfl))) rfl ?_
  refine WD.tk (i:=4) rfl (by kernel_rfl) hH (fun w ⟨R,hS⟩=>((.ld (.of rfl) hS (k:=1) rfl Qg9 rfl))) rfl ?_
  refine WD.branch [5] (by kernel_rfl) rfl (WO.cons rfl ?_ (WO.nil))
  refine WL.call Qf33 rfl (X0 (.of rfl) (X0 (.of rfl) X4)) rfl (Xal p.tb ω.room a c ω.l (by have:=hlen; omega) hwf pgt B _ I _ ((hS.pick 2 rfl).pick 2 rfl)) ?_
  clear hS
  rintro _ w ⟨J,ga,gc,rfl,hJ,hgc,hRS,a9,c9,hS⟩
  try dsimp only [List.eraseIdx] at hS
  replace hS:=hS.weaken hJ
  refine .nil ?_
  clear hH
  have hH:∃ R,Sat B w I (blk b3 [ptr p.wb 0] 37::blk b15 [S pgt] 9::blk p.wb (wdC p ω) 44::R):=⟨_,(((hS.pick 2 rfl).pick 7 rfl).pick 7 rfl)⟩
  refine And.intro (by intro _ _; exact hH) ?_
  refine .done (by kernel_rfl) (X7d Tryz.results53 ?_)
  replace hS:=Sat.box (T:=wdT p (X7l ω pgt)) (a9,c9,ma,mc) (((((hS.pick 4 rfl).pick 4 rfl).pick 3 rfl).pick 3 rfl).pick 4 rfl)
  try dsimp only [List.eraseIdx] at hS
  refine ⟨_,rfl,?_⟩
  rw [if_neg (by simpa using hb4)]
  exact (((hS.pick 3 rfl).pick 3 rfl).pick 3 rfl)
 have hc4:=hb4; try simp only [Y5] at hc4
 refine .skip (X7d Tryz.results53 ?_)
 refine ⟨_,rfl,?_⟩
 rw [if_pos (by simpa using hb4)]
 exact hS
theorem Xc4 (pgt:List UInt8) (p:Wp) (ω:Wd) (hω:X5c ω) (B w:World) (I:Im) (As:List X9) (hS:Sat B w I (wdA p ω::As)) :
  Calls Tryz.prog 63 [ptr p.wb 0,S pgt].toArray w (Ret fun v w'=>v=.bool (Xkk ω.l pgt)∧Sat B w' I (wdA p ω::As)):=by
 refine calls Tryz.func63 rfl Tryz.ntmps63 rfl (.seq (.q 1 rfl (.seq (.seq ?_))))
 obtain ⟨⟨a,c,ma,mc⟩,hS⟩:=Sat.unbox hS
 replace hS:Sat B _ _ (blk p.wb (wdC p ω) 44::blk p.tb [I64 ω.room,.slice a ω.l.length c] 114::Vec 54 10 (.slice a ω.l.length c) ω.l.length (Xd ω.l)::blk p.mb [.slice ma ω.D.length mc] 111::X4c 104 (.slice ma ω.D.length mc) (ω.D.map fun d=>U64 (d:Nat))::_):=hS
 have hlen:=hω.len
 have hwf:=hω.wf
 refine .t 2 rfl ?_
 refine WL.val (.fieldAddr 0 (.of rfl) X70 rfl rfl Xfl rfl) rfl ?_
 refine WL.val (.ld (.of rfl) hS (k:=0) rfl Xd9 rfl) rfl ?_
 refine .q 1 rfl (.call Tryz.func124 rfl (X0 (.of rfl) (X0 (.of rfl) X4)) rfl (Xei p.tb ω.room a c ω.l (by omega) pgt B _ I _ ((hS.pick 2 rfl).pick 2 rfl)) ?_)
 clear hS
 rintro _ w ⟨J,ka,kc,rfl,hJ,hkc,hRS,hS⟩
 try dsimp only [List.eraseIdx] at hS
 have hkl:=Xd6 ω.l pgt
 refine .run 2 rfl ⟨⟨_,X1f⟩,trivial⟩ (.nil (.block ?_))
 replace hS:=(((((hS.pick 4 rfl).pick 4 rfl).pick 3 rfl).pick 3 rfl).pick 4 rfl)
 refine .loop (σ:=Nat) (fun i=>[(0,ptr p.wb 0),(1,S pgt),(4,.bool false),(14,.slice ka (X2j ω.l pgt).length kc),(15,I64 ((X2j ω.l pgt).length:Nat)),(16,I64 (i:Nat))]) (fun i w=>i≤(X2j ω.l pgt).length∧((X2j ω.l pgt).take i).any (fun k=>(getD ω.l k).kind == 5)=false∧Sat B w J (blk p.wb (wdC p ω) 44::blk p.tb [I64 ω.room,.slice a ω.l.length c] 114::Vec 54 10 (.slice a ω.l.length c) ω.l.length (Xd ω.l)::blk p.mb [.slice ma ω.D.length mc] 111::X4c 104 (.slice ma ω.D.length mc) (ω.D.map fun d=>U64 (d:Nat))::As)) (fun i=>(X2j ω.l pgt).length - i) 0 ⟨rfl,rfl,rfl,rfl,rfl,rfl,trivial⟩ ⟨Yp _,rfl,hS⟩ ?_
 rintro i w ⟨hi,hno,hS⟩
 change WC _ _ _ _ [(0,ptr p.wb 0),(1,S pgt),(4,.bool false),(14,.slice ka (X2j ω.l pgt).length kc),(15,I64 ((X2j ω.l pgt).length:Nat)),(16,I64 (i:Nat))] w
 refine .seq (.q 1 rfl (.seq ?_))
 refine WC.cond rfl (fun hb17=>?_) (fun hb17=>?_)
 ·
  have hc17:=hb17; try simp only [Y5] at hc17
  refine .skip (.seq (.block (.seq ?_)))
  obtain ⟨k,hkk⟩:∃ k,(X2j ω.l pgt)[i]?=some k:=⟨_,Y7 (by omega)⟩
  obtain ⟨pp,rfl,hA⟩:=hRS.2 (by omega)
  have hnm:((X2j ω.l pgt).map S)[i]?=some (S k):=by rw [Yx,hkk]; rfl
  refine .region ?_
  refine WL.val (.indexAddrI (.of rfl) (.of rfl) (by omega) (by omega) X1f Qs9) rfl ?_
  refine WL.val (.ld1 (.of rfl) (by have h9:=X28 hS hA hnm; simpa using h9) Qg9) rfl ?_
  refine .q 1 rfl (.nil (.seq (.t 2 rfl ?_)))
  refine WL.val (.fieldAddr 0 (.of rfl) X70 rfl rfl Xfl rfl) rfl ?_
  refine WL.val (.ld (.of rfl) hS (k:=0) rfl Xd9 rfl) rfl ?_
  refine .q 1 rfl (.call Xow rfl (X0 (.of rfl) (X0 (.of rfl) X4)) rfl (X60 p.tb ω.room a c ω.l (by omega) k B _ J _ ((hS.pick 2 rfl).pick 2 rfl)) ?_)
  clear hS
  rintro _ w ⟨rfl,hS⟩
  try dsimp only [List.eraseIdx] at hS
  refine .q 3 rfl (.allocA (cs:=[_,_,_,_,_,_,_,_,_,_]) hS Xbl rfl ?_)
  clear hS; intro b7 w hS
  refine WL.stA hS (k:=0) rfl (.of rfl) (.of rfl) rfl X26 rfl (by simp) ?_
  clear hS; intro w hS; try dsimp only [List.set] at hS
  try simp only [Ym,Yc,Yg,Y9,Yl,Yo,Yf] at hS
  refine .q 1 rfl (.nil (.seq (.region ?_)))
  refine WL.val (.fieldAddr 0 (.of rfl) X20 rfl rfl Qs3 rfl) rfl ?_
  refine WL.val (.ld (.of rfl) hS (k:=0) rfl Qg3 rfl) rfl ?_
  refine .q 1 rfl (.nil ?_)
  refine WC.cond rfl (fun hb31=>?_) (fun hb31=>?_)
  ·
   have hc31:=hb31; try simp only [Y5] at hc31
   refine .seq (.q 1 rfl (.ret (Xe Tryz.results63 rfl ?_)))
   have hE:Xkk ω.l pgt=true:=Y38.2 ⟨k,Yr hkk,hb31⟩
   rw [hE]
   exact ⟨_,rfl,rfl,Sat.box (T:=wdT p ω) (a,c,ma,mc) (Sat.weaken ((((((hS.pick 5 rfl).pick 5 rfl).pick 4 rfl).pick 4 rfl).pick 5 rfl).drop (k:=5) rfl) hJ)⟩
  have hc31:=hb31; try simp only [Y5] at hc31
  refine .skip (.region (.run 2 rfl ⟨⟨by omega,by omega⟩,trivial⟩ (.nil ?_)))
  refine ⟨i+1,⟨rfl,rfl,rfl,rfl,rfl,rfl,trivial⟩,⟨by (try dsimp only); omega,?_,((((((hS.pick 5 rfl).pick 5 rfl).pick 4 rfl).pick 4 rfl).pick 5 rfl).drop (k:=5) rfl)⟩,by (try dsimp only); omega⟩
  rw [Y1a,hkk,Y28,List.any_append,hno,Y4m,List.any_nil,show ((getD ω.l k).kind == 5)=false from hb31]; rfl
 have hc17:=hb17; try simp only [Y5] at hc17
 refine .exit (.seq (.q 1 rfl (.ret (Xe Tryz.results63 rfl ?_))))
 have hin:i=(X2j ω.l pgt).length:=by omega
 rw [hin,Y1b] at hno
 rw [show Xkk ω.l pgt=false from hno]
 exact ⟨_,rfl,rfl,Sat.box (T:=wdT p ω) (a,c,ma,mc) (hS.weaken hJ)⟩
theorem X8j (pgt target:List UInt8) (htg:pgt.length≤1000000) (hqs:target.length≤1000000) (p:Wp) (ω:Wd) (hω:X5c ω) (B w:World) (I:Im) (hI:WpOk I p) (As:List X9) (hS:Sat B w I (wdA p ω::As)) :
  Calls Tryz.prog 20 [ptr p.wb 0,S pgt,S target].toArray w (Ret fun v w'=>v=.tuple #[S (X1p p.lo p.ps ω pgt target).1.1.1,S (X1p p.lo p.ps ω pgt target).1.1.2,I64 ((X1p p.lo p.ps ω pgt target).1.2:Nat)]∧Sat B w' I (wdA p (X1p p.lo p.ps ω pgt target).2::As)):=by
 refine calls Qf20 rfl Tryz.ntmps20 rfl (.seq (.q 3 rfl (.seq (.seq (.t 3 rfl (.gval rfl rfl (fun hg1=>(.move (.of rfl))) rfl (.gval rfl rfl (fun hg1=>(.eqs (.gd hg1 rfl) (.of rfl))) rfl (.val (.por (.of rfl) (.of rfl) (.of rfl)) rfl (.nil ?_)))))))))
 refine WC.cond rfl (fun hb20=>?_) (fun hb20=>?_)
 ·
  have hc20:=hb20; try simp only [Y5] at hc20
  refine .seq (.q 3 rfl (.ret (X8v Qr20 rfl rfl rfl ?_)))
  have hE:X1p p.lo p.ps ω pgt target=((([],[]),33),ω):=by rw [X1p,if_pos hb20]
  rw [hE]
  exact ⟨_,rfl,rfl,hS⟩
 have hc20:=hb20; try simp only [Y5] at hc20
 refine .skip (.seq (.t 2 rfl (.call Tryz.func19 rfl (X0 (.of rfl) (X0 (.of rfl) (X0 (.of rfl) X4))) rfl (Xhe pgt 4 p ω hω B _ I _ hS) ?_)))
 clear hS
 rintro _ w ⟨rfl,hS⟩
 try dsimp only [List.eraseIdx] at hS
 refine .q 3 rfl (.allocA (cs:=[_,_,_,_,_,_,_,_,_,_]) hS Xbl rfl ?_)
 clear hS; intro b9 w hS
 refine WL.stA hS (k:=0) rfl (.of rfl) (.of rfl) rfl X26 rfl (by simp) ?_
 clear hS; intro w hS; try dsimp only [List.set] at hS
 try simp only [Ym,Yc,Yg,Y9,Yl,Yo,Yf] at hS
 refine .q 1 rfl (.nil (.seq (.seq ?_)))
 replace hS:=hS.pick 1 rfl
 try dsimp only [List.eraseIdx] at hS
 refine .t 3 rfl (.gval rfl rfl (fun hg1=>(.move (.of rfl))) rfl (.gval rfl rfl (fun hg1=>(.move (.of rfl))) rfl (.gcall (T:=fun w=>Sat B w I _) rfl rfl rfl Tryz.func63 rfl (fun hg1=>(X0 (.gd hg1 rfl) (X0 (.gd hg1 rfl) X4))) rfl (fun hg1=>Xc4 pgt p ω hω B _ I _ hS) hS ?_)))
 clear hS; rintro w hS
 refine .val (.por (.of rfl) (.of rfl) (.of rfl)) rfl (.nil ?_)
 refine WC.cond rfl (fun hb33=>?_) (fun hb33=>?_)
 ·
  have hc33:=hb33; try simp only [Y5] at hc33
  refine .seq (.q 3 rfl (.ret (X8v Qr20 rfl rfl rfl ?_)))
  have hE:X1p p.lo p.ps ω pgt target=((([],[]),30),ω):=by rw [X1p,if_neg (by rw [hb20]; decide),if_pos hb33]
  rw [hE]
  exact ⟨_,rfl,rfl,(hS.drop (k:=1) rfl)⟩
 have hc33:=hb33; try simp only [Y5] at hc33
 refine .skip (.seq ?_)
 obtain ⟨⟨a,c,ma,mc⟩,hS⟩:=Sat.unbox hS
 replace hS:Sat B _ _ (blk p.wb (wdC p ω) 44::blk p.tb [I64 ω.room,.slice a ω.l.length c] 114::Vec 54 10 (.slice a ω.l.length c) ω.l.length (Xd ω.l)::blk p.mb [.slice ma ω.D.length mc] 111::X4c 104 (.slice ma ω.D.length mc) (ω.D.map fun d=>U64 (d:Nat))::_):=hS
 refine .t 2 rfl ?_
 refine WL.val (.fieldAddr 2 (.of rfl) X70 rfl rfl Tryz.sizeOf41 rfl) rfl ?_
 refine WL.val (.ld (.of rfl) hS (k:=0) rfl Tryz.isAgg41 rfl) rfl ?_
 refine .q 1 rfl (.call Qf50 rfl (X0 (.of rfl) (X0 (.of rfl) X4)) rfl (Xab target hqs p B _ I hI _ hS) ?_)
 clear hS
 rintro _ w ⟨ra,rc,rfl,hS⟩
 refine .q 4 rfl (.allocA (cs:=[_,_,_,_,_,_,_,_]) hS Xmt rfl ?_)
 clear hS; intro b11 w hS
 refine WL.stA hS (k:=0) rfl (.of rfl) (.of rfl) rfl X74 rfl (by simp) ?_
 clear hS; intro w hS; try dsimp only [List.set] at hS
 try simp only [Ym,Yc,Yg,Y9,Yl,Yo,Yf] at hS
 refine .q 2 rfl (.nil (.seq (.seq ?_)))
 replace hS:=Sat.box (T:=wdT p _) (a,c,ma,mc) (((((hS.pick 5 rfl).pick 5 rfl).pick 5 rfl).pick 5 rfl).pick 5 rfl)
 try dsimp only [List.eraseIdx] at hS
 refine .q 2 rfl ?_
 refine WC.cond rfl (fun hb45=>?_) (fun hb45=>?_)
 ·
  have hc45:=hb45; try simp only [Y5] at hc45
  refine .seq (.q 3 rfl (.ret (X8v Qr20 rfl rfl rfl ?_)))
  have hE:X1p p.lo p.ps ω pgt target=((([],[]),36),ω):=by rw [X1p,if_neg (by rw [hb20]; decide),if_neg (by rw [hb33]; decide),if_pos hb45]
  rw [hE]
  exact ⟨_,rfl,rfl,((hS.drop (k:=1) rfl).drop (k:=1) rfl)⟩
 have hc45:=hb45; try simp only [Y5] at hc45
 refine .skip (.seq (.t 2 rfl ?_))
 refine WL.val (.fieldAddr 3 (.of rfl) X20 rfl rfl Qs9 rfl) rfl ?_
 refine WL.val (.ld (.of rfl) hS (k:=2) rfl Qg9 rfl) rfl ?_
 refine .q 1 rfl (.val (.build (cs:=[_,_,_,_,_,_,_,_,_,_]) (X5 (.of rfl) (X5 (.of rfl) (X5 (.of rfl) (X5 (.of rfl) X6)))) X3n rfl) rfl (.call Qf52 rfl (X0 (.of rfl) (X0 (.of rfl) X4)) rfl (Xad (X4p p.lo p.ps ω pgt target) htg p ω hω B _ I hI _ hS) ?_))
 clear hS
 rintro _ w ⟨rfl,hS⟩
 try dsimp only [List.eraseIdx] at hS
 refine .q 5 rfl (.nil (.seq (.seq (.q 2 rfl ?_))))
 refine WC.cond rfl (fun hb57=>?_) (fun hb57=>?_)
 ·
  have hc57:=hb57; try simp only [Y5] at hc57
  refine .seq (.q 4 rfl (.ret (X8v Qr20 rfl rfl rfl ?_)))
  have hE:X1p p.lo p.ps ω pgt target=((([],[]),(mkW ω (X4p p.lo p.ps ω pgt target)).1.2),(mkW ω (X4p p.lo p.ps ω pgt target)).2):=by rw [X1p,if_neg (by rw [hb20]; decide),if_neg (by rw [hb33]; decide),if_neg (by rw [hb45]; decide),if_pos (by simpa using hb57)]
  rw [hE]
  exact ⟨_,rfl,rfl,((hS.drop (k:=1) rfl).drop (k:=1) rfl)⟩
 have hc57:=hb57; try simp only [Y5] at hc57
 refine .skip (.seq ?_)
 obtain ⟨⟨a2,c2,ma2,mc2⟩,hS⟩:=Sat.unbox hS
 replace hS:Sat B _ _ (blk p.wb (wdC p (mkW ω (X4p p.lo p.ps ω pgt target)).2) 44::blk p.tb [I64 (mkW ω (X4p p.lo p.ps ω pgt target)).2.room,.slice a2 (mkW ω (X4p p.lo p.ps ω pgt target)).2.l.length c2] 114::Vec 54 10 (.slice a2 (mkW ω (X4p p.lo p.ps ω pgt target)).2.l.length c2) (mkW ω (X4p p.lo p.ps ω pgt target)).2.l.length (Xd (mkW ω (X4p p.lo p.ps ω pgt target)).2.l)::blk p.mb [.slice ma2 (mkW ω (X4p p.lo p.ps ω pgt target)).2.D.length mc2] 111::X4c 104 (.slice ma2 (mkW ω (X4p p.lo p.ps ω pgt target)).2.D.length mc2) ((mkW ω (X4p p.lo p.ps ω pgt target)).2.D.map fun d=>U64 (d:Nat))::_):=hS
 have hω2:=X38 hω (X4p p.lo p.ps ω pgt target)
 have hlen2:=hω2.len
 have hsh:=Xbt (ps:=p.ps) hω pgt 4
 refine .drawn (fun w=>∃ R,Sat B w I (blk b9 (X8 (X1d p.ps ω pgt 4).1) 54::blk p.wb (wdC p (mkW ω (X4p p.lo p.ps ω pgt target)).2) 44::R)) (fun j=>!([].contains j)) (by kernel_rfl) ?_
 replace hS:=hS.drew; generalize w.drew=w at hS ⊢
 have hH:∃ R,Sat B w I (blk b9 (X8 (X1d p.ps ω pgt 4).1) 54::blk p.wb (wdC p (mkW ω (X4p p.lo p.ps ω pgt target)).2) 44::R):=⟨_,((hS.pick 0 rfl).pick 6 rfl)⟩
 refine .tp (i:=0) rfl (by kernel_rfl) (fun w=>(.move (.of rfl))) rfl (.tp (i:=1) rfl (by kernel_rfl) (fun w=>(.nilCheck (.of rfl))) rfl ?_)
 refine WD.tp (i:=2) rfl (by kernel_rfl) (fun w=>(.fieldAddr 0 (.of rfl) X70 rfl rfl Xfl rfl)) rfl ?_
 refine WD.tk (i:=3) rfl (by kernel_rfl) hH (fun w ⟨R,hS⟩=>((.ld (.of rfl) hS (k:=1) rfl Xd9 rfl))) rfl ?_
 refine WD.tk (i:=4) rfl (by kernel_rfl) hH (fun w ⟨R,hS⟩=>((.ldsW (cs:=[_,_,_,_,_,_,_,_,_,_]) (.of rfl) hS (k:=0) rfl X97 X26 rfl))) rfl ?_
 refine .tp (i:=5) rfl (by kernel_rfl) (fun w=>(.move (.of rfl))) rfl (.tp (i:=6) rfl (by kernel_rfl) (fun w=>(.nilCheck (.of rfl))) rfl ?_)
 refine WD.tp (i:=7) rfl (by kernel_rfl) (fun w=>(.fieldAddr 25 (.of rfl) X70 rfl rfl Qs3 rfl)) rfl ?_
 refine WD.tk (i:=8) rfl (by kernel_rfl) hH (fun w ⟨R,hS⟩=>((.ld (.of rfl) hS (k:=1) rfl Qg3 rfl))) rfl ?_
 refine WD.branch [9] (by kernel_rfl) rfl (WO.cons rfl ?_ (WO.nil))
 refine .call Tryz.func65 rfl (X0 (.of rfl) (X0 (.of rfl) X4)) rfl (Xi8 (X1d p.ps ω pgt 4).1 (mkW ω (X4p p.lo p.ps ω pgt target)).2.now hsh.2.2.1 hsh.2.2.2 B _ I _ hS) ?_
 clear hS
 rintro _ w ⟨rfl,hS⟩
 refine .nil ?_
 clear hH
 have hH:∃ R,Sat B w I (blk b9 (X8 (X1d p.ps ω pgt 4).1) 54::blk p.wb (wdC p (mkW ω (X4p p.lo p.ps ω pgt target)).2) 44::R):=⟨_,((hS.pick 0 rfl).pick 6 rfl)⟩
 refine And.intro (by intro _ _; exact hH) ?_
 refine WD.branch [10] (by kernel_rfl) rfl (WO.cons rfl ?_ (WO.nil))
 refine .call Tryz.func64 rfl (X0 (.of rfl) (X0 (.of rfl) X4)) rfl (Xnq p.tb (mkW ω (X4p p.lo p.ps ω pgt target)).2.room a2 c2 (mkW ω (X4p p.lo p.ps ω pgt target)).2.l (by omega) (Xb2 (X1d p.ps ω pgt 4).1 (mkW ω (X4p p.lo p.ps ω pgt target)).2.now) (Y32 hsh.1 (by decide)) (Y32 hsh.2.1 (by decide)) B _ I hI.known hI.pre _ ((hS.pick 2 rfl).pick 2 rfl)) ?_
 clear hS
 rintro _ w ⟨rfl,hS⟩
 try dsimp only [List.eraseIdx] at hS
 refine .nil ?_
 clear hH
 have hH:∃ R,Sat B w I (blk b9 (X8 (X1d p.ps ω pgt 4).1) 54::blk p.wb (wdC p (mkW ω (X4p p.lo p.ps ω pgt target)).2) 44::R):=⟨_,((hS.pick 2 rfl).pick 6 rfl)⟩
 refine And.intro (by intro _ _; exact hH) ?_
 refine .done (by kernel_rfl) (.seq (.q 5 rfl (.ret (X8v Qr20 rfl rfl rfl ?_))))
 replace hS:=Sat.box (T:=wdT p (putW (mkW ω (X4p p.lo p.ps ω pgt target)).2 (Xb2 (X1d p.ps ω pgt 4).1 (mkW ω (X4p p.lo p.ps ω pgt target)).2.now))) (a2,c2,ma2,mc2) (((((hS.pick 4 rfl).pick 4 rfl).pick 3 rfl).pick 3 rfl).pick 4 rfl)
 try dsimp only [List.eraseIdx] at hS
 have hE:X1p p.lo p.ps ω pgt target=((((mkW ω (X4p p.lo p.ps ω pgt target)).1.1,(X24 p.lo target).2.1),0),putW (mkW ω (X4p p.lo p.ps ω pgt target)).2 (Xb2 (X1d p.ps ω pgt 4).1 (mkW ω (X4p p.lo p.ps ω pgt target)).2.now)):=by rw [X1p,if_neg (by rw [hb20]; decide),if_neg (by rw [hb33]; decide),if_neg (by rw [hb45]; decide),if_neg (by simpa using hb57)]
 rw [hE]
 exact ⟨_,rfl,rfl,((hS.drop (k:=1) rfl).drop (k:=1) rfl)⟩
theorem Xep (t cb:List UInt8) (ht:t.length≤1000000) (hcb:cb.length≤1000000) (p:Wp) (ω:Wd) (hω:X5c ω) (B w:World) (I:Im) (hI:WpOk I p) (As:List X9) (hS:Sat B w I (wdA p ω::As)) :
  Calls Tryz.prog 13 [ptr p.wb 0,S t,S cb].toArray w (Ret fun v w'=>v=.tuple #[.agg (Xap (X33 p.lo ω t cb).1.1).toArray,I64 ((X33 p.lo ω t cb).1.2:Nat)]∧Sat B w' I (wdA p (X33 p.lo ω t cb).2::As)):=by
 refine callsF Tryz.func13 rfl Tryz.ntmps13 rfl (.seq (.region (.box1 hS (.of rfl) rfl rfl ?_)))
 clear hS; intro b3 w hS
 refine .allocA (cs:=[_,_,_]) hS Qz48 rfl ?_
 clear hS; intro b6 w hS
 refine .alloc1 hS Tryz.zeroValue49 rfl rfl ?_
 clear hS; intro b7 w hS
 refine .nil (.seq ?_)
 replace hS:=(hS.pick 3 rfl)
 try dsimp only [List.eraseIdx] at hS
 obtain ⟨⟨a,c,ma,mc⟩,hS⟩:=Sat.unbox hS
 replace hS:Sat B _ _ (blk p.wb (wdC p ω) 44::blk p.tb [I64 ω.room,.slice a ω.l.length c] 114::Vec 54 10 (.slice a ω.l.length c) ω.l.length (Xd ω.l)::blk p.mb [.slice ma ω.D.length mc] 111::X4c 104 (.slice ma ω.D.length mc) (ω.D.map fun d=>U64 (d:Nat))::_):=hS
 have hlen:=hω.len
 have hwf:=hω.wf
 have hsv:=Xjb hω.wf t
 refine .region ?_
 refine WL.val (.ld (.of rfl) hS (k:=7) rfl Xi4 rfl) rfl ?_
 refine .q 1 rfl ?_
 refine WL.val (.fieldAddr 0 (.of rfl) X70 rfl rfl Xfl rfl) rfl ?_
 refine WL.val (.ld (.of rfl) hS (k:=0) rfl Xd9 rfl) rfl ?_
 refine .q 1 rfl (.call Xow rfl (X0 (.of rfl) (X0 (.of rfl) X4)) rfl (X60 p.tb ω.room a c ω.l (by omega) t B _ I _ ((hS.pick 2 rfl).pick 2 rfl)) ?_)
 clear hS
 rintro _ w ⟨rfl,hS⟩
 try dsimp only [List.eraseIdx] at hS
 refine .q 3 rfl (.allocA (cs:=[_,_,_,_,_,_,_,_,_,_]) hS Xbl rfl ?_)
 clear hS; intro b8 w hS
 refine WL.stA hS (k:=0) rfl (.of rfl) (.of rfl) rfl X26 rfl (by simp) ?_
 clear hS; intro w hS; try dsimp only [List.set] at hS
 try simp only [Ym,Yc,Yg,Y9,Yl,Yo,Yf] at hS
 refine .q 1 rfl (.nil (.seq (.seq (.region ?_))))
 refine WL.val (.fieldAddr 0 (.of rfl) X20 rfl rfl Qs3 rfl) rfl ?_
 refine WL.val (.ld (.of rfl) hS (k:=0) rfl Qg3 rfl) rfl ?_
 refine .q 2 rfl ?_
 refine WL.gval rfl rfl (fun hg1=>(by exact .fieldAddr 0 (.of rfl) X20 rfl rfl Qs3 rfl)) rfl ?_
 refine WL.gval rfl rfl (fun hg1=>(by exact (.ld (.gd hg1 rfl) hS (k:=0) rfl Qg3 rfl))) rfl ?_
 refine .gval rfl rfl (fun hg1=>(.neq (.gd hg1 rfl) (.of rfl))) rfl (.val (.pand (.of rfl) (.of rfl) (.of rfl)) rfl (.q 1 rfl ?_))
 refine WL.gval rfl rfl (fun hg1=>(by exact .fieldAddr 8 (.of rfl) X20 rfl rfl Qs3 rfl)) rfl ?_
 refine WL.gval rfl rfl (fun hg1=>(by exact (.ld (.gd hg1 rfl) hS (k:=0) rfl Qg3 rfl))) rfl ?_
 refine .gval rfl rfl (fun hg1=>(.eql (.gd hg1 rfl) (.of rfl))) rfl (.val (.por (.of rfl) (.of rfl) (.of rfl)) rfl (.nil ?_))
 refine WC.cond rfl (fun hb38=>?_) (fun hb38=>?_)
 ·
  have hc38:=hb38; try simp only [Y5] at hc38
  refine .seq (.region (.val (.build (cs:=[_,_,_]) X6 X5r rfl) rfl ?_))
  refine WL.stA hS (k:=7) rfl (.of rfl) (.of rfl) rfl Xg9 rfl (by simp) ?_
  clear hS; intro w hS; try dsimp only [List.set] at hS
  try simp only [Ym,Yc,Yg,Y9,Yl,Yo,Yf] at hS
  refine WL.st1 hS (k:=6) rfl (.of rfl) (.of rfl) rfl Qs49 (by simp) ?_
  clear hS; intro w hS; try dsimp only [List.set] at hS
  refine .nil (.ret ?_)
  replace hS:=Sat.box (T:=wdT p ω) (a,c,ma,mc) (((((hS.pick 5 rfl).pick 5 rfl).pick 4 rfl).pick 4 rfl).pick 5 rfl)
  try dsimp only [List.eraseIdx] at hS
  have hE:X33 p.lo ω t cb=((c0,30),ω):=by rw [X33,if_pos (show noP ω t=true from hb38)]
  refine Xoi rfl (Xbm Qr13 hS (k:=3) (j:=2) rfl rfl Qg48 Xg9 Qg49 rfl rfl rfl) ?_
  rw [hE]
  exact ⟨_,rfl,rfl,((((hS.drop (k:=1) rfl).drop (k:=1) rfl).drop (k:=1) rfl).drop (k:=1) rfl)⟩
 have hc38:=hb38; try simp only [Y5] at hc38
 refine .skip ?_
 refine WC.cutS (σ:=Nat×Option Addr×Nat) (fun ⟨b10,ra,rc⟩=>[(1,S t),(2,S cb),(3,ptr b3 0),(6,ptr b6 0),(7,ptr b7 0),(8,ptr b8 0),(10,ptr b10 0),(12,I64 (((X24 p.lo (getD ω.l t).service).2.2:Nat):Int))]) (fun ⟨b10,ra,rc⟩ w=>Sat B w I (blk b10 (X2v (X24 p.lo (getD ω.l t).service).1 ra rc) 59::blk b8 (X8 (getD ω.l t)) 54::blk b7 [I64 0] 49::blk b6 [S [],S [],S []] 48::blk b3 [ptr p.wb 0] 37::wdA p ω::As)) ?_ ?_
 ·
  refine .drawn (fun w=>∃ R,Sat B w I (blk b8 (X8 (getD ω.l t)) 54::blk b3 [ptr p.wb 0] 37::blk p.wb (wdC p ω) 44::R)) (fun j=>!([].contains j)) (by kernel_rfl) ?_
  replace hS:=hS.drew; generalize w.drew=w at hS ⊢
  have hH:∃ R,Sat B w I (blk b8 (X8 (getD ω.l t)) 54::blk b3 [ptr p.wb 0] 37::blk p.wb (wdC p ω) 44::R):=⟨_,(((hS.pick 3 rfl).pick 8 rfl).pick 2 rfl)⟩
  refine WD.tk (i:=0) rfl (by kernel_rfl) hH (fun w ⟨R,hS⟩=>((.ld (.of rfl) hS (k:=1) rfl Xi4 rfl))) rfl ?_
  refine .tp (i:=1) rfl (by kernel_rfl) (fun w=>(.nilCheck (.of rfl))) rfl ?_
  refine WD.tp (i:=2) rfl (by kernel_rfl) (fun w=>(.fieldAddr 2 (.of rfl) X70 rfl rfl Tryz.sizeOf41 rfl)) rfl ?_
  refine WD.tk (i:=3) rfl (by kernel_rfl) hH (fun w ⟨R,hS⟩=>((.ld (.of rfl) hS (k:=2) rfl Tryz.isAgg41 rfl))) rfl ?_
  refine WD.tp (i:=4) rfl (by kernel_rfl) (fun w=>(.fieldAddr 4 (.of rfl) X20 rfl rfl Qs9 rfl)) rfl ?_
  refine WD.tk (i:=5) rfl (by kernel_rfl) hH (fun w ⟨R,hS⟩=>((.ld (.of rfl) hS (k:=0) rfl Qg9 rfl))) rfl ?_
  refine WD.branch [6,11] (by kernel_rfl) rfl (WO.cons rfl ?_ (WO.cons rfl ?_ (WO.nil)))
  ·
   refine .call Qf50 rfl (X0 (.of rfl) (X0 (.of rfl) X4)) rfl (Xab (getD ω.l t).service (by omega) p B _ I hI _ hS) ?_
   clear hS
   rintro _ w ⟨ra,rc,rfl,hS⟩
   refine .nil ?_
   clear hH
   have hH:∃ R,Sat B w I (blk b8 (X8 (getD ω.l t)) 54::blk b3 [ptr p.wb 0] 37::blk p.wb (wdC p ω) 44::R):=⟨_,(((hS.pick 3 rfl).pick 8 rfl).pick 2 rfl)⟩
   refine And.intro (by intro _ _; exact hH) ?_
   refine .tp (i:=7) rfl (by kernel_rfl) (fun w=>(.move (.of rfl))) rfl (.tp (i:=8) rfl (by kernel_rfl) (fun w=>(.extract (.of rfl) rfl)) rfl (.tp (i:=9) rfl (by kernel_rfl) (fun w=>(.extract (.of rfl) rfl)) rfl (.tp (i:=10) rfl (by kernel_rfl) (fun w=>(.extract (.of rfl) rfl)) rfl ?_)))
   refine WD.branch [11] (by kernel_rfl) rfl (WO.cons rfl ?_ (WO.nil))
   refine .allocA (cs:=[_,_,_,_,_,_,_,_]) hS Xmt rfl ?_
   clear hS; intro b10 w hS
   refine .nil ?_
   clear hH
   have hH:∃ R,Sat B w I (blk b8 (X8 (getD ω.l t)) 54::blk b3 [ptr p.wb 0] 37::blk p.wb (wdC p ω) 44::R):=⟨_,(((hS.pick 4 rfl).pick 9 rfl).pick 3 rfl)⟩
   refine And.intro (by intro _ _; exact hH) ?_
   refine WD.branch [12] (by kernel_rfl) rfl (WO.cons rfl ?_ (WO.nil))
   refine WL.stA hS (k:=0) rfl (.of rfl) (.of rfl) rfl X74 rfl (by simp) ?_
   clear hS; intro w hS; try dsimp only [List.set] at hS
   try simp only [Ym,Yc,Yg,Y9,Yl,Yo,Yf] at hS
   refine .nil ?_
   clear hH
   have hH:∃ R,Sat B w I (blk b8 (X8 (getD ω.l t)) 54::blk b3 [ptr p.wb 0] 37::blk p.wb (wdC p ω) 44::R):=⟨_,(((hS.pick 4 rfl).pick 9 rfl).pick 3 rfl)⟩
   refine And.intro (by intro _ _; exact hH) ?_
   refine .tp (i:=13) rfl (by kernel_rfl) (fun w=>(.assign (.of rfl))) rfl (.tp (i:=14) rfl (by kernel_rfl) (fun w=>(.assign (.of rfl))) rfl (.done (by kernel_rfl) ?_))
   replace hS:=Sat.box (T:=wdT p ω) (a,c,ma,mc) (((((hS.pick 6 rfl).pick 6 rfl).pick 5 rfl).pick 5 rfl).pick 6 rfl)
   try dsimp only [List.eraseIdx] at hS
   exact ⟨(b10,ra,rc),⟨rfl,rfl,rfl,rfl,rfl,rfl,rfl,rfl,trivial⟩,(((((hS.pick 5 rfl).pick 5 rfl).pick 5 rfl).pick 5 rfl).pick 5 rfl)⟩
  ·
   refine .allocA (cs:=[_,_,_,_,_,_,_,_]) hS Xmt rfl ?_
   clear hS; intro b10 w hS
   refine .nil ?_
   clear hH
   have hH:∃ R,Sat B w I (blk b8 (X8 (getD ω.l t)) 54::blk b3 [ptr p.wb 0] 37::blk p.wb (wdC p ω) 44::R):=⟨_,(((hS.pick 4 rfl).pick 9 rfl).pick 3 rfl)⟩
   refine And.intro (by intro _ _; exact hH) ?_
   refine WD.branch [6] (by kernel_rfl) rfl (WO.cons rfl ?_ (WO.nil))
   refine .call Qf50 rfl (X0 (.of rfl) (X0 (.of rfl) X4)) rfl (Xab (getD ω.l t).service (by omega) p B _ I hI _ hS) ?_
   clear hS
   rintro _ w ⟨ra,rc,rfl,hS⟩
   refine .nil ?_
   clear hH
   have hH:∃ R,Sat B w I (blk b8 (X8 (getD ω.l t)) 54::blk b3 [ptr p.wb 0] 37::blk p.wb (wdC p ω) 44::R):=⟨_,(((hS.pick 4 rfl).pick 9 rfl).pick 3 rfl)⟩
   refine And.intro (by intro _ _; exact hH) ?_
   refine .tp (i:=7) rfl (by kernel_rfl) (fun w=>(.move (.of rfl))) rfl (.tp (i:=8) rfl (by kernel_rfl) (fun w=>(.extract (.of rfl) rfl)) rfl (.tp (i:=9) rfl (by kernel_rfl) (fun w=>(.extract (.of rfl) rfl)) rfl (.tp (i:=10) rfl (by kernel_rfl) (fun w=>(.extract (.of rfl) rfl)) rfl ?_)))
   refine WD.branch [12] (by kernel_rfl) rfl (WO.cons rfl ?_ (WO.nil))
   refine WL.stA hS (k:=0) rfl (.of rfl) (.of rfl) rfl X74 rfl (by simp) ?_
   clear hS; intro w hS; try dsimp only [List.set] at hS
   try simp only [Ym,Yc,Yg,Y9,Yl,Yo,Yf] at hS
   refine .nil ?_
   clear hH
   have hH:∃ R,Sat B w I (blk b8 (X8 (getD ω.l t)) 54::blk b3 [ptr p.wb 0] 37::blk p.wb (wdC p ω) 44::R):=⟨_,(((hS.pick 4 rfl).pick 9 rfl).pick 3 rfl)⟩
   refine And.intro (by intro _ _; exact hH) ?_
   refine .tp (i:=13) rfl (by kernel_rfl) (fun w=>(.assign (.of rfl))) rfl (.tp (i:=14) rfl (by kernel_rfl) (fun w=>(.assign (.of rfl))) rfl (.done (by kernel_rfl) ?_))
   replace hS:=Sat.box (T:=wdT p ω) (a,c,ma,mc) (((((hS.pick 6 rfl).pick 6 rfl).pick 5 rfl).pick 5 rfl).pick 6 rfl)
   try dsimp only [List.eraseIdx] at hS
   exact ⟨(b10,ra,rc),⟨rfl,rfl,rfl,rfl,rfl,rfl,rfl,rfl,trivial⟩,(((((hS.pick 5 rfl).pick 5 rfl).pick 5 rfl).pick 5 rfl).pick 5 rfl)⟩
 rintro ⟨b10,ra,rc⟩ w hS
 change WC _ _ _ _ [(1,S t),(2,S cb),(3,ptr b3 0),(6,ptr b6 0),(7,ptr b7 0),(8,ptr b8 0),(10,ptr b10 0),(12,I64 (((X24 p.lo (getD ω.l t).service).2.2:Nat):Int))] w
 refine .seq ?_
 replace hS:=(hS.pick 5 rfl)
 try dsimp only [List.eraseIdx] at hS
 obtain ⟨⟨a,c,ma,mc⟩,hS⟩:=Sat.unbox hS
 replace hS:Sat B _ _ (blk p.wb (wdC p ω) 44::blk p.tb [I64 ω.room,.slice a ω.l.length c] 114::Vec 54 10 (.slice a ω.l.length c) ω.l.length (Xd ω.l)::blk p.mb [.slice ma ω.D.length mc] 111::X4c 104 (.slice ma ω.D.length mc) (ω.D.map fun d=>U64 (d:Nat))::_):=hS
 refine .drawn (fun w=>∃ R,Sat B w I (blk b10 (X2v (X24 p.lo (getD ω.l t).service).1 ra rc) 59::blk b3 [ptr p.wb 0] 37::blk p.wb (wdC p ω) 44::R)) (fun j=>!([].contains j)) (by kernel_rfl) ?_
 replace hS:=hS.drew; generalize w.drew=w at hS ⊢
 have hH:∃ R,Sat B w I (blk b10 (X2v (X24 p.lo (getD ω.l t).service).1 ra rc) 59::blk b3 [ptr p.wb 0] 37::blk p.wb (wdC p ω) 44::R):=⟨_,(((hS.pick 0 rfl).pick 9 rfl).pick 6 rfl)⟩
 refine WD.tk (i:=0) rfl (by kernel_rfl) hH (fun w ⟨R,hS⟩=>((.ld (.of rfl) hS (k:=1) rfl Xi4 rfl))) rfl ?_
 refine .tp (i:=1) rfl (by kernel_rfl) (fun w=>(.nilCheck (.of rfl))) rfl ?_
 refine WD.tp (i:=2) rfl (by kernel_rfl) (fun w=>(.fieldAddr 2 (.of rfl) X70 rfl rfl Tryz.sizeOf41 rfl)) rfl ?_
 refine WD.tk (i:=3) rfl (by kernel_rfl) hH (fun w ⟨R,hS⟩=>((.ld (.of rfl) hS (k:=2) rfl Tryz.isAgg41 rfl))) rfl ?_
 refine WD.tp (i:=4) rfl (by kernel_rfl) (fun w=>(.fieldAddr 0 (.of rfl) Xdt rfl rfl Qs3 rfl)) rfl ?_
 refine WD.tk (i:=5) rfl (by kernel_rfl) hH (fun w ⟨R,hS⟩=>((.ld (.of rfl) hS (k:=0) rfl Qg3 rfl))) rfl ?_
 refine .tp (i:=6) rfl (by kernel_rfl) (fun w=>(.move (.of rfl))) rfl ?_
 refine WD.branch [7] (by kernel_rfl) rfl (WO.cons rfl ?_ (WO.nil))
 refine .call Tryz.func51 rfl (X0 (.of rfl) (X0 (.of rfl) (X0 (.of rfl) X4))) rfl (Xnm (X24 p.lo (getD ω.l t).service).1.id cb hcb p B _ I hI _ hS) ?_
 clear hS
 rintro _ w ⟨rfl,hS⟩
 refine .nil ?_
 clear hH
 have hH:∃ R,Sat B w I (blk b10 (X2v (X24 p.lo (getD ω.l t).service).1 ra rc) 59::blk b3 [ptr p.wb 0] 37::blk p.wb (wdC p ω) 44::R):=⟨_,(((hS.pick 0 rfl).pick 9 rfl).pick 6 rfl)⟩
 refine And.intro (by intro _ _; exact hH) ?_
 refine .tp (i:=8) rfl (by kernel_rfl) (fun w=>(.move (.of rfl))) rfl (.tp (i:=9) rfl (by kernel_rfl) (fun w=>(.extract (.of rfl) rfl)) rfl (.tp (i:=10) rfl (by kernel_rfl) (fun w=>(.extract (.of rfl) rfl)) rfl (.tp (i:=11) rfl (by kernel_rfl) (fun w=>(.assign (.of rfl))) rfl (.tp (i:=12) rfl (by kernel_rfl) (fun w=>(.assign (.of rfl))) rfl (.done (by kernel_rfl) (.seq (.seq (.t 3 rfl ?_))))))))
 refine WL.gval rfl rfl (fun hg1=>(by exact .fieldAddr 4 (.of rfl) Xdt rfl rfl Qs4 rfl)) rfl ?_
 refine WL.gval rfl rfl (fun hg1=>(by exact (.ld (.gd hg1 rfl) hS (k:=5) rfl Qg4 rfl))) rfl ?_
 refine .gval rfl rfl (fun hg1=>(.not (.gd hg1 rfl))) rfl (.val (.por (.of rfl) (.of rfl) (.of rfl)) rfl (.q 1 rfl (.gval rfl rfl (fun hg1=>(.move (.of rfl))) rfl (.gval rfl rfl (fun hg1=>(.not (.gd hg1 rfl))) rfl (.val (.por (.of rfl) (.of rfl) (.of rfl)) rfl (.nil ?_))))))
 refine WC.cond rfl (fun hb72=>?_) (fun hb72=>?_)
 ·
  have hc72:=hb72; try simp only [Y5] at hc72
  refine .seq (.region (.val (.build (cs:=[_,_,_]) X6 X5r rfl) rfl ?_))
  refine WL.stA hS (k:=8) rfl (.of rfl) (.of rfl) rfl Xg9 rfl (by simp) ?_
  clear hS; intro w hS; try dsimp only [List.set] at hS
  try simp only [Ym,Yc,Yg,Y9,Yl,Yo,Yf] at hS
  refine WL.st1 hS (k:=7) rfl (.of rfl) (.of rfl) rfl Qs49 (by simp) ?_
  clear hS; intro w hS; try dsimp only [List.set] at hS
  refine .nil (.ret ?_)
  replace hS:=Sat.box (T:=wdT p ω) (a,c,ma,mc) (((((hS.pick 4 rfl).pick 4 rfl).pick 4 rfl).pick 4 rfl).pick 4 rfl)
  try dsimp only [List.eraseIdx] at hS
  have hE:X33 p.lo ω t cb=((c0,34),ω):=by rw [X33,if_neg (by rw [show noP ω t=false from hb38]; decide),if_pos (show noQ p.lo ω t cb=true from hb72)]
  refine Xoi rfl (Xbm Qr13 hS (k:=4) (j:=3) rfl rfl Qg48 Xg9 Qg49 rfl rfl rfl) ?_
  rw [hE]
  exact ⟨_,rfl,rfl,(((((hS.drop (k:=1) rfl).drop (k:=1) rfl).drop (k:=1) rfl).drop (k:=1) rfl).drop (k:=1) rfl)⟩
 have hc72:=hb72; try simp only [Y5] at hc72
 refine .skip (.seq ?_)
 replace hS:=Sat.box (T:=wdT p _) (a,c,ma,mc) (((((hS.pick 4 rfl).pick 4 rfl).pick 4 rfl).pick 4 rfl).pick 4 rfl)
 try dsimp only [List.eraseIdx] at hS
 refine .region ?_
 refine WL.val (.ld (.of rfl) hS (k:=5) rfl Xi4 rfl) rfl ?_
 refine .q 1 rfl ?_
 refine WL.val (.fieldAddr 3 (.of rfl) X20 rfl rfl Qs9 rfl) rfl ?_
 refine WL.val (.ld (.of rfl) hS (k:=2) rfl Qg9 rfl) rfl ?_
 refine WL.val (.fieldAddr 4 (.of rfl) X20 rfl rfl Qs9 rfl) rfl ?_
 refine WL.val (.ld (.of rfl) hS (k:=2) rfl Qg9 rfl) rfl ?_
 refine .q 1 rfl (.val (.build (cs:=[_,_,_,_,_,_,_,_,_,_]) (X5 (.of rfl) (X5 (.of rfl) (X5 (.of rfl) (X5 (.of rfl) (X5 (.of rfl) X6))))) X3n rfl) rfl (.call Qf52 rfl (X0 (.of rfl) (X0 (.of rfl) X4)) rfl (Xad (X3q p.lo ω t cb) ht p ω hω B _ I hI _ hS) ?_))
 clear hS
 rintro _ w ⟨rfl,hS⟩
 try dsimp only [List.eraseIdx] at hS
 refine .q 3 rfl (.alloc1 hS Qz9 rfl rfl ?_)
 clear hS; intro b15 w hS
 refine WL.st1 hS (k:=0) rfl (.of rfl) (.of rfl) rfl Qs9 (by simp) ?_
 clear hS; intro w hS; try dsimp only [List.set] at hS
 refine .q 1 rfl (.nil (.seq (.seq (.q 2 rfl ?_))))
 refine WC.cond rfl (fun hb87=>?_) (fun hb87=>?_)
 ·
  have hc87:=hb87; try simp only [Y5] at hc87
  refine .seq (.region (.val (.build (cs:=[_,_,_]) X6 X5r rfl) rfl (.q 1 rfl ?_)))
  refine WL.stA hS (k:=5) rfl (.of rfl) (.of rfl) rfl Xg9 rfl (by simp) ?_
  clear hS; intro w hS; try dsimp only [List.set] at hS
  try simp only [Ym,Yc,Yg,Y9,Yl,Yo,Yf] at hS
  refine WL.st1 hS (k:=4) rfl (.of rfl) (.of rfl) rfl Qs49 (by simp) ?_
  clear hS; intro w hS; try dsimp only [List.set] at hS
  refine .nil (.ret ?_)
  have hE:X33 p.lo ω t cb=((c0,(mkW ω (X3q p.lo ω t cb)).1.2),(mkW ω (X3q p.lo ω t cb)).2):=by rw [X33,if_neg (by rw [show noP ω t=false from hb38]; decide),if_neg (by rw [show noQ p.lo ω t cb=false from hb72]; decide),if_pos (by simpa using hb87)]
  refine Xoi rfl (Xbm Qr13 hS (k:=5) (j:=4) rfl rfl Qg48 Xg9 Qg49 rfl rfl rfl) ?_
  rw [hE]
  exact ⟨_,rfl,rfl,(((((((hS.pick 1 rfl).drop (k:=1) rfl).drop (k:=1) rfl).drop (k:=1) rfl).drop (k:=1) rfl).drop (k:=1) rfl).drop (k:=1) rfl)⟩
 have hc87:=hb87; try simp only [Y5] at hc87
 refine .skip (.seq (.region (.val (.makeFunc (X0 (.of rfl) (X0 (.of rfl) (X0 (.of rfl) X4)))) rfl (.later (.of rfl) rfl (.nil (.seq (.region ?_)))))))
 refine WL.val (.ld (.of rfl) hS (k:=6) rfl Xi4 rfl) rfl ?_
 refine WL.val (.ld (.of rfl) hS (k:=0) rfl Qg9 rfl) rfl ?_
 refine .val (.build (cs:=[_,_,_,_,_,_,_,_,_,_]) (X5 (.of rfl) (X5 (.of rfl) X6)) X3n rfl) rfl (.call Qf52 rfl (X0 (.of rfl) (X0 (.of rfl) X4)) rfl (Xad (Xg8 (mkW ω (X3q p.lo ω t cb)).1.1) (Y32 X7p (by decide)) p (mkW ω (X3q p.lo ω t cb)).2 (X38 hω _) B _ I hI _ (hS.pick 1 rfl)) ?_)
 clear hS
 rintro _ w ⟨rfl,hS⟩
 try dsimp only [List.eraseIdx] at hS
 refine .q 5 rfl (.nil (.seq (.seq (.q 2 rfl ?_))))
 refine WC.cond rfl (fun hb99=>?_) (fun hb99=>?_)
 ·
  have hc99:=hb99; try simp only [Y5] at hc99
  refine .seq (.region (.val (.build (cs:=[_,_,_]) X6 X5r rfl) rfl (.q 1 rfl ?_)))
  refine WL.stA hS (k:=5) rfl (.of rfl) (.of rfl) rfl Xg9 rfl (by simp) ?_
  clear hS; intro w hS; try dsimp only [List.set] at hS
  try simp only [Ym,Yc,Yg,Y9,Yl,Yo,Yf] at hS
  refine WL.st1 hS (k:=4) rfl (.of rfl) (.of rfl) rfl Qs49 (by simp) ?_
  clear hS; intro w hS; try dsimp only [List.set] at hS
  refine .nil (.ret ?_)
  have hE:X33 p.lo ω t cb=((c0,(mkW (mkW ω (X3q p.lo ω t cb)).2 (Xg8 (mkW ω (X3q p.lo ω t cb)).1.1)).1.2),X7l (mkW (mkW ω (X3q p.lo ω t cb)).2 (Xg8 (mkW ω (X3q p.lo ω t cb)).1.1)).2 (mkW ω (X3q p.lo ω t cb)).1.1):=by rw [X33,if_neg (by rw [show noP ω t=false from hb38]; decide),if_neg (by rw [show noQ p.lo ω t cb=false from hb72]; decide),if_neg (by simpa using hb87),if_pos (by simpa using hb99)]
  refine retD Tryz.func53 rfl rfl (fun u=>X9q (((mkW (mkW ω (X3q p.lo ω t cb)).2 (Xg8 (mkW ω (X3q p.lo ω t cb)).1.1)).1.2:Nat):Int) (mkW ω (X3q p.lo ω t cb)).1.1 b7 b3 b15 u p (mkW (mkW ω (X3q p.lo ω t cb)).2 (Xg8 (mkW ω (X3q p.lo ω t cb)).1.1)).2 (X38 (X38 hω _) _) B _ I _ (((hS.pick 1 rfl).pick 6 rfl).pick 5 rfl)) ?_
  clear hS; intro w hS
  rw [if_neg (by simpa using hb99)] at hS
  refine fun a ha=>⟨_,Xbm Qr13 hS (k:=6) (j:=0) rfl rfl Qg48 Xg9 Qg49 rfl rfl rfl a ha,?_⟩
  rw [hE]
  exact ⟨_,rfl,rfl,(((((((hS.pick 3 rfl).drop (k:=1) rfl).drop (k:=1) rfl).drop (k:=1) rfl).drop (k:=1) rfl).drop (k:=1) rfl).drop (k:=1) rfl)⟩
 have hc99:=hb99; try simp only [Y5] at hc99
 refine .skip (.seq (.t 1 rfl ?_))
 refine WL.val (.ld (.of rfl) hS (k:=1) rfl Qg9 rfl) rfl ?_
 refine .q 1 rfl (.val (.build (cs:=[_,_,_]) (X5 (.of rfl) (X5 (.of rfl) (X5 (.of rfl) X6))) X5r rfl) rfl ?_)
 refine WL.stA hS (k:=5) rfl (.of rfl) (.of rfl) rfl Xg9 rfl (by simp) ?_
 clear hS; intro w hS; try dsimp only [List.set] at hS
 try simp only [Ym,Yc,Yg,Y9,Yl,Yo,Yf] at hS
 refine WL.st1 hS (k:=4) rfl (.of rfl) (.of rfl) rfl Qs49 (by simp) ?_
 clear hS; intro w hS; try dsimp only [List.set] at hS
 refine .nil (.ret ?_)
 have hE:X33 p.lo ω t cb=((⟨(Xlg p.lo ω t cb).1,(mkW ω (X3q p.lo ω t cb)).1.1,(mkW (mkW ω (X3q p.lo ω t cb)).2 (Xg8 (mkW ω (X3q p.lo ω t cb)).1.1)).1.1⟩,0),(mkW (mkW ω (X3q p.lo ω t cb)).2 (Xg8 (mkW ω (X3q p.lo ω t cb)).1.1)).2):=by rw [X33,if_neg (by rw [show noP ω t=false from hb38]; decide),if_neg (by rw [show noQ p.lo ω t cb=false from hb72]; decide),if_neg (by simpa using hb87),if_neg (by simpa using hb99)]
 refine retD Tryz.func53 rfl rfl (fun u=>X9q 0 (mkW ω (X3q p.lo ω t cb)).1.1 b7 b3 b15 u p (mkW (mkW ω (X3q p.lo ω t cb)).2 (Xg8 (mkW ω (X3q p.lo ω t cb)).1.1)).2 (X38 (X38 hω _) _) B _ I _ (((hS.pick 1 rfl).pick 6 rfl).pick 5 rfl)) ?_
 clear hS; intro w hS
 rw [if_pos rfl] at hS
 refine fun a ha=>⟨_,Xbm Qr13 hS (k:=6) (j:=0) rfl rfl Qg48 Xg9 Qg49 rfl rfl rfl a ha,?_⟩
 rw [hE]
 exact ⟨_,rfl,rfl,(((((((hS.pick 3 rfl).drop (k:=1) rfl).drop (k:=1) rfl).drop (k:=1) rfl).drop (k:=1) rfl).drop (k:=1) rfl).drop (k:=1) rfl)⟩
structure Ob where
 act:Int
 n:Int
 k:Int
 a:List UInt8
 b:List UInt8
 d:List Nat
def Xn8 (o:Ob) (da:Option Addr) (dc:Nat):List Value:=[I64 o.act,I64 o.n,I64 o.k,S o.a,S o.b,.slice da o.d.length dc]
def ObAt (I:Im) (o:Ob) (cs:List Value):Prop:=∃ da dc,cs=Xn8 o da dc∧o.d.length≤dc∧dc≤maxLen∧RS I da 1 o.d.length (o.d.map fun d=>U64 (d:Nat))
def ObsAt (I:Im) (a:Option Addr) (l:List Ob):Prop:=∃ L:List (List Value),L.length=l.length∧(∀ c∈L,c.length=6)∧RS I a 6 l.length L.flatten∧∀ (i:Nat) (o:Ob),l[i]?=some o→∃ cs,L[i]?=some cs∧ObAt I o cs
theorem ObAt.mono {I J:Im} {o:Ob} {cs:List Value} (h:ObAt I o cs) (hl:Le I J):ObAt J o cs:=by
 obtain ⟨da,dc,e,h1,h2,h3⟩:=h
 exact ⟨da,dc,e,h1,h2,h3.mono hl⟩
theorem ObsAt.mono {I J:Im} {a:Option Addr} {l:List Ob} (h:ObsAt I a l) (hl:Le I J):ObsAt J a l:=by
 obtain ⟨L,h1,h2,h3,h4⟩:=h
 exact ⟨L,h1,h2,h3.mono hl,fun i o ho=>by
  obtain ⟨cs,h5,h6⟩:=h4 i o ho
  exact ⟨cs,h5,h6.mono hl⟩⟩
theorem ObsAt.at {I:Im} {a:Option Addr} {l:List Ob} (h:ObsAt I a l) (i:Nat) (u:Ob) (hu:l[i]?=some u):∃ p cs,a=some p∧At I (p.add (i*6)) cs∧ObAt I u cs:=by
 obtain ⟨L,h1,h2,h3,h4⟩:=h
 obtain ⟨cs,h5,h6⟩:=h4 i u hu
 obtain ⟨p,rfl,hp⟩:=h3.2 (by have:=(Y4.1 hu).1; omega)
 refine ⟨p,cs,rfl,?_,h6⟩
 have h8:=X4q (hp.add (i*6)) 6
 rw [X2h L h2 i _ h5] at h8
 exact h8
structure Ob.fits (o:Ob):Prop where
 d:∀ x∈o.d,x<18446744073709551616
 a:o.a.length≤maxLen
 b:o.b.length≤maxLen
def X6i (c:Cf) (l:List Rec):Wd:=l.foldl X94 (w0 c)
theorem Xmb (c:Cf) (l:List Rec):X5c (X6i c l):=Xa2 l (w0_ok c)
theorem Xge (c:Cf) (a:Option Addr) (cap:Nat) (ua:Option Addr) (ucap:Nat) (hc:c.fits) (la:Option Addr) (lc:Nat) (l:List Rec) (hll:l.length≤9223372036854775807) (hsr:∀ r∈l,r.name.length≤60∧r.parent.length≤60) (B w:World) (I:Im) (hK:Known I) (hP:PreAt I) (hC:CfAt I c a cap ua ucap) (hR:RS I la 10 l.length (X1b X8 l)) (As:List X9) (hS:Sat B w I As) :
  Calls Tryz.prog 10 [.agg (X1i c a cap ua ucap).toArray,.slice la l.length lc].toArray w (Ret fun v w'=>∃ J pv,Le I J∧v=.pointer pv∧MadeT c (X6i c l) J pv B w' As):=by
 refine calls Tryz.func10 rfl Tryz.ntmps10 rfl (.seq (.region (.boxA (cs:=X1i c a cap ua ucap) hS (.of rfl) rfl ?_)))
 clear hS; intro b2 w hS
 refine .q 1 rfl (.nil (.seq (.region ?_)))
 refine WL.val (.lds (vs:=X1i c a cap ua ucap) (.of rfl) hS (k:=0) rfl Tryz.isAgg29 Tryz.sizeOf29 rfl (fun j v hj=>by rw [Yf]; exact hj)) rfl ?_
 refine .call Tryz.func47 rfl (X0 (.of rfl) X4) rfl (Xb9 c hc a cap ua ucap B _ I hK hP hC.svs hC.us _ hS) ?_
 clear hS
 rintro v w ⟨J,hJ,hcase⟩
 obtain ⟨pv,e9,rfl,hcs⟩:∃ (pv:Option Addr) (e9:Nat),v=.tuple #[.pointer pv,I64 (e9:Nat)]∧((Xci c≠0∧pv=none∧Sat B w J (blk b2 (X1i c a cap ua ucap) 29::As))∨(Xci c=0∧∃ p D,Srt.Ord (kx (ords c.svs)) c.svs.length D∧p.lo=X4t c.svs D∧p.us=c.us∧p.ps=c.ps∧pv=some (ad p.wb 0)∧WpOk J p∧Sat B w J (wdA p (w0 c)::blk b2 (X1i c a cap ua ucap) 29::As))):=by
  rcases hcase with ⟨h1,h2,h3⟩ | ⟨h1,p,D,h2,h3,h4,h5,h6,h7,h8⟩
  ·exact ⟨_,_,h2,.inl ⟨h1,rfl,h3⟩⟩
  ·exact ⟨_,0,h6,.inr ⟨h1,p,D,h2,h3,h4,h5,rfl,h7,h8⟩⟩
 refine .q 5 rfl (.nil (.seq (.seq (.t 1 rfl (.val (.eqp (.of rfl) (.of rfl) Tryz.underlying37) rfl (.nil ?_))))))
 refine WC.cond rfl (fun hb14=>?_) (fun hb14=>?_)
 ·
  have hc14:=hb14; try simp only [Y5] at hc14
  refine .seq (.q 1 rfl (.ret (Xe Tryz.results10 rfl ?_)))
  rcases hcs with ⟨h1,rfl,hS⟩ | ⟨_,p,D,_,_,_,_,h9,_⟩
  ·exact ⟨_,rfl,J,none,hJ,rfl,.inl ⟨h1,rfl,hS.drop (k:=0) rfl⟩⟩
  ·exfalso; rw [h9] at hb14; cases hb14
 have hc14:=hb14; try simp only [Y5] at hc14
 refine .skip (.seq (.seq (.q 1 rfl (.block ?_))))
 rcases hcs with ⟨_,h9,_⟩ | ⟨hz,p,D,hD,hlo,hus,hps,hpv,hI,hS⟩
 ·exfalso; rw [h9] at hb14; cases hb14
 subst hpv
 refine .loop (σ:=Nat) (fun i=>[(1,.slice la l.length lc),(5,ptr p.wb 0),(7,I64 (i:Nat))]) (fun i w=>i≤l.length∧Sat B w J (wdA p ((l.take i).foldl X94 (w0 c))::blk b2 (X1i c a cap ua ucap) 29::As)) (fun i=>l.length - i) 0 ⟨rfl,rfl,rfl,trivial⟩ ⟨Yp _,hS⟩ ?_
 rintro i w ⟨hi,hS⟩
 change WC _ _ _ _ [(1,.slice la l.length lc),(5,ptr p.wb 0),(7,I64 (i:Nat))] w
 refine .seq (.seq (.region (.run 4 rfl ⟨⟨_,X7e⟩,trivial⟩ (.nil ?_))))
 refine WC.cond rfl (fun hb18=>?_) (fun hb18=>?_)
 ·
  have hc18:=hb18; try simp only [Y5] at hc18
  refine .skip (.seq (.block ?_))
  obtain ⟨⟨a9,c9,ma9,mc9⟩,hS⟩:=Sat.unbox hS
  replace hS:Sat B _ _ (blk p.wb (wdC p ((l.take i).foldl X94 (w0 c))) 44::blk p.tb [I64 ((l.take i).foldl X94 (w0 c)).room,.slice a9 ((l.take i).foldl X94 (w0 c)).l.length c9] 114::Vec 54 10 (.slice a9 ((l.take i).foldl X94 (w0 c)).l.length c9) ((l.take i).foldl X94 (w0 c)).l.length (Xd ((l.take i).foldl X94 (w0 c)).l)::blk p.mb [.slice ma9 ((l.take i).foldl X94 (w0 c)).D.length mc9] 111::X4c 104 (.slice ma9 ((l.take i).foldl X94 (w0 c)).D.length mc9) (((l.take i).foldl X94 (w0 c)).D.map fun d=>U64 (d:Nat))::_):=hS
  obtain ⟨r,hr⟩:∃ r,l[i]?=some r:=⟨_,Y7 (by omega)⟩
  obtain ⟨pp,hp9,hx⟩:=Xnb (cells:=X8) (s:=10) (fun _=>rfl) hR hr
  subst hp9
  have hω:=Xa2 (l.take i) (w0_ok c)
  have hlen:=hω.len
  refine .drawn (fun w=>∃ R,Sat B w J (blk p.wb (wdC p ((l.take i).foldl X94 (w0 c))) 44::R)) (fun j=>!([].contains j)) (by kernel_rfl) ?_
  replace hS:=hS.drew; generalize w.drew=w at hS ⊢
  have hH:∃ R,Sat B w J (blk p.wb (wdC p ((l.take i).foldl X94 (w0 c))) 44::R):=⟨_,(hS.pick 0 rfl)⟩
  refine .tp (i:=0) rfl (by kernel_rfl) (fun w=>(.move (.of rfl))) rfl (.tp (i:=1) rfl (by kernel_rfl) (fun w=>(.nilCheck (.of rfl))) rfl ?_)
  refine WD.tp (i:=2) rfl (by kernel_rfl) (fun w=>(.fieldAddr 0 (.of rfl) X70 rfl rfl Xfl rfl)) rfl ?_
  refine .tk (i:=3) rfl (by kernel_rfl) hH (fun w ⟨R,hS⟩=>(.ld (.of rfl) hS (k:=0) rfl Xd9 rfl)) rfl (.tp (i:=4) rfl (by kernel_rfl) (fun w=>(.move (.of rfl))) rfl (.tp (i:=5) rfl (by kernel_rfl) (fun w=>(.move (.of rfl))) rfl ?_))
  refine WD.tp (i:=6) rfl (by kernel_rfl) (fun w=>(.indexAddrI (.of rfl) (.of rfl) (by omega) (by omega) X7e X26)) rfl ?_
  refine .tk (i:=7) rfl (by kernel_rfl) hH (fun w ⟨R,hS⟩=>.ldsI (.of rfl) hS (hx.mono hJ) X97 X26 rfl (fun _ _ h=>h)) rfl ?_
  refine WD.branch [8] (by kernel_rfl) rfl (WO.cons rfl ?_ (WO.nil))
  refine WL.call Tryz.func48 rfl (X0 (.of rfl) (X0 (.of rfl) X4)) rfl (Xj0 p.tb ((l.take i).foldl X94 (w0 c)).room a9 c9 ((l.take i).foldl X94 (w0 c)).l (by omega) r (by have:=hsr r (Yr hr); omega) (by have:=hsr r (Yr hr); omega) B _ J hI.known hI.pre _ ((hS.pick 2 rfl).pick 2 rfl)) ?_
  clear hS
  rintro _ w ⟨rfl,a2,c2,hS⟩
  try dsimp only [List.eraseIdx] at hS
  refine .nil ?_
  clear hH
  have hH:∃ R,Sat B w J (blk p.wb (wdC p ((l.take i).foldl X94 (w0 c))) 44::R):=⟨_,(hS.pick 2 rfl)⟩
  refine And.intro (by intro _ _; exact hH) ?_
  refine .done (by kernel_rfl) (.region (.run 3 rfl ⟨⟨by omega,by omega⟩,trivial⟩ (.nil ?_)))
  replace hS:=Sat.box (T:=wdT p (X94 ((l.take i).foldl X94 (w0 c)) r)) (a2,c2,ma9,mc9) (((((hS.pick 4 rfl).pick 4 rfl).pick 3 rfl).pick 3 rfl).pick 4 rfl)
  try dsimp only [List.eraseIdx] at hS
  refine ⟨i+1,⟨rfl,rfl,rfl,trivial⟩,⟨by (try dsimp only); omega,?_⟩,by (try dsimp only); omega⟩
  show Sat B _ J (wdA p ((l.take (i+1)).foldl X94 (w0 c))::_)
  rw [Y1a,hr,Y28,Y33]
  exact hS
 have hc18:=hb18; try simp only [Y5] at hc18
 refine .exit (.seq ?_)
 have hil:i=l.length:=by omega
 subst hil
 rw [Y1b] at hS
 refine .q 2 rfl (.ret (Xe Tryz.results10 rfl ?_))
 exact ⟨_,rfl,J,_,hJ,rfl,.inr ⟨hz,p,D,hD,hlo,hus,hps,rfl,hI,hS.drop (k:=1) rfl⟩⟩
theorem X2g (kind:Int) (d:Nat) (hk:¬ X6t kind=[]) (hd:d<18446744073709551616) (B w:World) (I:Im) (As:List X9) (hS:Sat B w I As) :
  Calls Tryz.prog 44 [I64 kind,U64 (d:Nat)].toArray w (Ret fun v w'=>v=S (X6t kind ++ 45::X6y 16 d)∧Sat B w' I As):=by
 refine calls Xn9 rfl Tryz.ntmps44 rfl (.seq (.q 1 rfl (.seq (.t 2 rfl (.call Tryz.func99 rfl (X0 (.of rfl) (X0 (.of rfl) X4)) rfl (Xdf kind d hd B _ I _ hS) ?_)))))
 clear hS
 rintro v w ⟨hv9,hS⟩
 rw [if_neg hk] at hv9
 subst hv9
 refine .q 5 rfl (.nil (.seq (.q 2 rfl (.ret (Xe Tryz.results44 rfl ?_)))))
 exact ⟨_,rfl,rfl,hS⟩
theorem Xo8:Bld Tryz.prog 29 [(0,1),(1,1),(2,21),(23,1),(24,1),(25,1),(26,1),(27,1)] [.slice none 0 0,.slice none 0 0,.int .i64 0,.int .i64 0,.int .i64 0,.int .i64 0,.int .i64 0,.int .i64 0,.int .i64 0,.int .i64 0,.int .i64 0,.int .i64 0,.int .i64 0,.int .i64 0,.int .i64 0,.int .i64 0,.int .i64 0,.int .i64 0,.int .i64 0,.int .i64 0,.int .i64 0,.int .i64 0,.int .i64 0,.int .i64 0,.float .f64 0,.float .f64 0,.float .f64 0,.int .i64 0]:=X2l Qu29 Tryz.zeroValue29 (fun w=>by simp [go_sem])
def AS1:Sv:=⟨1,0,[104,116,116,112,58,47,47,97,47,42,42],false,true,false,[104,116,116,112,115,58,47,47,97,47,42,42],[]⟩
def AS2:Sv:=⟨2,0,[104,116,116,112,115,58,47,47,98,47,42,42],false,false,false,[],[]⟩
def AXC:Cf:=⟨[AS1,AS2],[],fun _=>0,9,0,0,0,0⟩
def AX1:Rec:=⟨1,X6t 1 ++ 45::X6y 16 1,[],[117],[],[],0,0,0,false⟩
def AX2:Rec:=⟨2,X6t 2 ++ 45::X6y 16 2,X6t 1 ++ 45::X6y 16 1,[117],[104,116,116,112,58,47,47,97,47,120],[],0,0,1,false⟩
def AXN:List UInt8:=X6t 2 ++ 45::X6y 16 2
def AXB:List UInt8:=[104,116,116,112,115,58,47,47,97,47,99,98]
def AXT:List UInt8:=[104,116,116,112,115,58,47,47,98,47]
def AXW:Wd:=feedW (X6i AXC [AX1,AX2]) [3,4,5,6,7]
def xk1 (lo:List Sv):=X33 lo AXW AXN AXB
def xi1 (lo:List Sv) (ps:Nat→Int):=X1p lo ps (xk1 lo).2 (xk1 lo).1.1.pgt AXT
def xa1 (lo:List Sv) (ps:Nat→Int):=X1u (xi1 lo ps).2 (xk1 lo).1.1.iou 200
def xi2 (lo:List Sv) (ps:Nat→Int):=X1p lo ps (xa1 lo ps).2 (xk1 lo).1.1.pgt AXT
def xk2 (lo:List Sv) (ps:Nat→Int):=X33 lo (xi2 lo ps).2 AXN AXB
def xa2 (lo:List Sv) (ps:Nat→Int):=X1u (xk2 lo ps).2 (xk2 lo ps).1.1.iou 404
theorem Xnv:Xci AXC=0:=by kernel_rfl
theorem Xov:Srt.Ord (kx (ords [AS1,AS2])) 2 [0,1]:=⟨by decide +kernel,by decide +kernel⟩
theorem Xkq:AXC.fits:=⟨by decide,by decide +kernel,by decide +kernel,by decide,fun u hu=>by simp [AXC] at hu⟩
theorem X83:X5c AXW:=Xku (Xmb AXC [AX1,AX2]) (by decide)
theorem X4s {lo:List Sv} {ω:Wd} {t cb:List UInt8}:(X33 lo ω t cb).1.1.pgt.length≤23∧(X33 lo ω t cb).1.1.iou.length≤23:=by
 unfold X33
 repeat' split
 all_goals first | exact ⟨Yp _,Yp _⟩ | exact ⟨X7p,X7p⟩
theorem Xki {J:Im} {s:Nat} {E:TypeId} (h1:J s=some (Xh [I64 1,F64 0,S AS1.urls,.bool false,.bool true,.bool false,S AS1.calls,.slice none 0 0,I64 2,F64 0,S AS2.urls,.bool false,.bool false,.bool false,S [],.slice none 0 0] E)):CfAt J AXC (some (ad s 0)) 2 none 0:=by
 refine ⟨fun i t ht=>?_,fun i t ht=>by simp [AXC] at ht,by decide,by decide,fun t ht=>?_,fun u hu=>by simp [AXC] at hu⟩
 ·match i,ht with
  | 0,ht=>cases ht; exact ⟨_,none,0,rfl,X4q (X46 h1) 8,Ys _,RS.nil _ _⟩
  | 1,ht=>cases ht; exact ⟨_,none,0,rfl,(X46 h1).add 8,Ys _,RS.nil _ _⟩
  | i+2,ht=>simp [AXC] at ht
 ·simp only [AXC,Y17,List.not_mem_nil,or_false] at ht
  rcases ht with rfl | rfl <;> (constructor <;> decide +kernel)
set_option maxRecDepth 20000 in
theorem Xcw (B w:World) (I:Im) (hK:Known I) (hP:PreAt I) (As:List X9) (hS:Sat B w I As) :
  Calls Tryz.prog 8 [].toArray w (Ret fun v w'=>v=.bool true∧Sat B w' I As):=by
 refine calls Tryz.func8 rfl Tryz.ntmps8 rfl (.seq (.q 1 rfl (.seq (.region (.val (.build (cs:=[_,_,_,_,_,_,_,_]) (X5 (.of rfl) (X5 (.of rfl) (X5 (.of rfl) (X5 (.of rfl) X6)))) X5q rfl) rfl (.val (.build (cs:=[_,_,_,_,_,_,_,_]) (X5 (.of rfl) (X5 (.of rfl) X6)) X5q rfl) rfl (.buildSlice (cs:=[_,_,_,_,_,_,_,_,_,_,_,_,_,_,_,_]) hS (X5 (.of rfl) (X5 (.of rfl) X6)) Qu22 X74 Xmt rfl rfl rfl rfl ?_)))))))
 clear hS; intro b22 w hS
 refine .val (.build (cs:=[_,_,_,_,_,_,_,_,_,_,_,_,_,_,_,_,_,_,_,_,_,_,_,_,_,_,_,_]) (X5 (.of rfl) (X5 (.of rfl) X6)) Xo8 rfl) rfl (.allocA (cs:=[_,_,_,_,_,_,_,_,_,_,_,_,_,_,_,_,_,_,_,_,_,_,_,_,_,_,_,_]) hS Tryz.zeroValue29 rfl ?_)
 clear hS; intro b1 w hS
 refine WL.stA hS (k:=0) rfl (.of rfl) (.of rfl) rfl Tryz.sizeOf29 rfl (by simp) ?_
 clear hS; intro w hS; try dsimp only [List.set] at hS
 try simp only [Ym,Yc,Yg,Y9,Yl,Yo,Yf] at hS
 refine .nil (.seq (.drawn (fun w=>∃ J9 R,Le I J9∧Sat B w J9 (blk b1 (X1i AXC (some (ad b22 0)) 2 none 0) 29::R)) (fun j=>!([].contains j)) (by kernel_rfl) ?_))
 replace hS:=hS.drew; generalize w.drew=w at hS ⊢
 have hH:∃ J9 R,Le I J9∧Sat B w J9 (blk b1 (X1i AXC (some (ad b22 0)) 2 none 0) 29::R):=⟨_,_,Le.refl _,(hS.pick 0 rfl)⟩
 refine WD.tk (i:=0) rfl (by kernel_rfl) hH (fun w ⟨J9,R,hL9,hS⟩=>((.ldsW (cs:=[_,_,_,_,_,_,_,_,_,_,_,_,_,_,_,_,_,_,_,_,_,_,_,_,_,_,_,_]) (.of rfl) hS (k:=0) rfl Tryz.isAgg29 Tryz.sizeOf29 rfl))) rfl ?_
 refine WD.branch [1] (by kernel_rfl) rfl (WO.cons rfl ?_ (WO.nil))
 refine .call Xn9 rfl (X0 (.of rfl) (X0 (.of rfl) X4)) rfl (X2g 1 1 (by decide) (by decide) B _ I _ hS) ?_
 clear hS
 rintro _ w ⟨rfl,hS⟩
 refine .nil ?_
 clear hH
 have hH:∃ J9 R,Le I J9∧Sat B w J9 (blk b1 (X1i AXC (some (ad b22 0)) 2 none 0) 29::R):=⟨_,_,Le.refl _,(hS.pick 0 rfl)⟩
 refine And.intro (by intro _ _; exact hH) ?_
 refine .tp (i:=2) rfl (by kernel_rfl) (fun w=>(.build (cs:=[_,_,_,_,_,_,_,_,_,_]) (X5 (.of rfl) (X5 (.of rfl) (X5 (.of rfl) X6))) X3n rfl)) rfl ?_
 refine WD.branch [3] (by kernel_rfl) rfl (WO.cons rfl ?_ (WO.nil))
 refine .call Xn9 rfl (X0 (.of rfl) (X0 (.of rfl) X4)) rfl (X2g 2 2 (by decide) (by decide) B _ I _ hS) ?_
 clear hS
 rintro _ w ⟨rfl,hS⟩
 refine .nil ?_
 clear hH
 have hH:∃ J9 R,Le I J9∧Sat B w J9 (blk b1 (X1i AXC (some (ad b22 0)) 2 none 0) 29::R):=⟨_,_,Le.refl _,(hS.pick 0 rfl)⟩
 refine And.intro (by intro _ _; exact hH) ?_
 refine WD.branch [4] (by kernel_rfl) rfl (WO.cons rfl ?_ (WO.nil))
 refine .call Xn9 rfl (X0 (.of rfl) (X0 (.of rfl) X4)) rfl (X2g 1 1 (by decide) (by decide) B _ I _ hS) ?_
 clear hS
 rintro _ w ⟨rfl,hS⟩
 refine .nil ?_
 clear hH
 have hH:∃ J9 R,Le I J9∧Sat B w J9 (blk b1 (X1i AXC (some (ad b22 0)) 2 none 0) 29::R):=⟨_,_,Le.refl _,(hS.pick 0 rfl)⟩
 refine And.intro (by intro _ _; exact hH) ?_
 refine .tp (i:=5) rfl (by kernel_rfl) (fun w=>(.build (cs:=[_,_,_,_,_,_,_,_,_,_]) (X5 (.of rfl) (X5 (.of rfl) (X5 (.of rfl) (X5 (.of rfl) (X5 (.of rfl) (X5 (.of rfl) X6)))))) X3n rfl)) rfl ?_
 refine WD.branch [6] (by kernel_rfl) rfl (WO.cons rfl ?_ (WO.nil))
 refine .buildSlice (cs:=[_,_,_,_,_,_,_,_,_,_,_,_,_,_,_,_,_,_,_,_]) hS (X5 (.of rfl) (X5 (.of rfl) X6)) X7e X26 Xbl rfl rfl rfl rfl ?_
 clear hS; intro b30 w hS
 refine .nil ?_
 clear hH
 have hH:∃ J9 R,Le I J9∧Sat B w J9 (blk b1 (X1i AXC (some (ad b22 0)) 2 none 0) 29::R):=⟨_,_,Le.refl _,(hS.pick 1 rfl)⟩
 refine And.intro (by intro _ _; exact hH) ?_
 refine WD.branch [7] (by kernel_rfl) rfl (WO.cons rfl ?_ (WO.nil))
 obtain ⟨J1,hJ1,hb30,hS⟩:=hS.freeze (k:=0) rfl
 try dsimp only [List.eraseIdx] at hS
 obtain ⟨J2,hJ2,hb22,hS⟩:=hS.freeze (k:=1) rfl
 try dsimp only [List.eraseIdx] at hS
 have hRr:RS J2 (some (ad b30 0)) 10 2 (X1b X8 [AX1,AX2]):=⟨rfl,fun _=>⟨_,rfl,(X46 hb30).mono hJ2⟩⟩
 have hI9:=hJ1.trans hJ2
 refine .call Tryz.func10 rfl (X0 (.of rfl) (X0 (.of rfl) X4)) rfl (Xge AXC (some (ad b22 0)) 2 none 0 Xkq (some (ad b30 0)) 2 [AX1,AX2] (by decide) (by decide) B _ J2 (hK.mono hI9) (hP.mono hI9) (Xki hb22) hRr _ hS) ?_
 clear hS
 rintro _ w ⟨J,pv,hJ,rfl,hcs⟩
 obtain ⟨_,p,D,hD,hlo,hus,hps,rfl,hI,hS⟩:=hcs.resolve_left (fun h=>h.1 Xnv)
 obtain rfl:D=[0,1]:=hD.unique Xov
 have hlo:p.lo=[AS1,AS2]:=hlo
 have hps:p.ps=fun _=>0:=hps
 have hIJ:=hI9.trans hJ
 refine .nil ?_
 clear hH
 have hH:∃ J9 R,Le I J9∧Sat B w J9 (blk b1 (X1i AXC (some (ad b22 0)) 2 none 0) 29::R):=⟨_,_,hIJ,(hS.pick 1 rfl)⟩
 refine And.intro (by intro _ _; exact hH) ?_
 refine .tp (i:=8) rfl (by kernel_rfl) (fun w=>(.assign (.of rfl))) rfl (.done (by kernel_rfl) (.seq (.seq ?_)))
 obtain ⟨⟨a,c,ma,mc⟩,hS⟩:=Sat.unbox hS
 replace hS:Sat B _ _ (blk p.wb (wdC p (X6i AXC [AX1,AX2])) 44::blk p.tb [I64 (X6i AXC [AX1,AX2]).room,.slice a (X6i AXC [AX1,AX2]).l.length c] 114::Vec 54 10 (.slice a (X6i AXC [AX1,AX2]).l.length c) (X6i AXC [AX1,AX2]).l.length (Xd (X6i AXC [AX1,AX2]).l)::blk p.mb [.slice ma (X6i AXC [AX1,AX2]).D.length mc] 111::X4c 104 (.slice ma (X6i AXC [AX1,AX2]).D.length mc) ((X6i AXC [AX1,AX2]).D.map fun d=>U64 (d:Nat))::_):=hS
 refine .t 1 rfl (.val (.eqp (.of rfl) (.of rfl) Tryz.underlying37) rfl (.q 1 rfl (.gval rfl rfl (fun hg1=>(.move (.of rfl))) rfl (.gval rfl rfl (fun hg1=>(.nilCheck (.gd hg1 rfl))) rfl ?_))))
 refine WL.gval rfl rfl (fun hg1=>(by exact .fieldAddr 1 (.gd hg1 rfl) X70 rfl rfl Tryz.sizeOf40 rfl)) rfl ?_
 refine WL.gval rfl rfl (fun hg1=>(by exact (.ld (.gd hg1 rfl) hS (k:=0) rfl Tryz.isAgg40 rfl))) rfl ?_
 refine .gval rfl rfl (fun hg1=>(.eqp (.gd hg1 rfl) (.of rfl) Tryz.underlying40)) rfl (.val (.por (.of rfl) (.of rfl) (.of rfl)) rfl (.nil (.condF (rfl) (.skip (.seq (.t 2 rfl ?_))))))
 refine WL.val (.fieldAddr 1 (.of rfl) X70 rfl rfl Tryz.sizeOf40 rfl) rfl ?_
 refine WL.val (.ld (.of rfl) hS (k:=0) rfl Tryz.isAgg40 rfl) rfl ?_
 refine .buildSlice (cs:=[_,_,_,_,_]) hS (X5 (.of rfl) (X5 (.of rfl) (X5 (.of rfl) (X5 (.of rfl) (X5 (.of rfl) X6))))) Qu31 Xjy Tryz.zeroValue104 rfl rfl rfl rfl ?_
 clear hS; intro b45 w hS
 obtain ⟨J5,hJ5,hb45,hS⟩:=hS.freeze (k:=0) rfl
 try dsimp only [List.eraseIdx] at hS
 have hRd:RS J5 (some (ad b45 0)) 1 5 (([3,4,5,6,7]:List Nat).map fun d=>U64 (d:Nat)):=⟨rfl,fun _=>⟨_,rfl,X46 hb45⟩⟩
 have hI5:=hI.mono hJ5
 refine .call Tryz.func11 rfl (X0 (.of rfl) (X0 (.of rfl) X4)) rfl (Xk5 p.mb ma mc (X6i AXC [AX1,AX2]).D (by decide) (some (ad b45 0)) 5 [3,4,5,6,7] (by decide) B _ J5 hRd _ ((hS.pick 4 rfl).pick 4 rfl)) ?_
 clear hS
 rintro _ w ⟨rfl,ma6,mc6,hS⟩
 try dsimp only [List.eraseIdx] at hS
 refine .nil (.seq ?_)
 replace hS:=Sat.box (T:=wdT p AXW) (a,c,ma6,mc6) (((((hS.pick 1 rfl).pick 1 rfl).pick 4 rfl).pick 4 rfl).pick 4 rfl)
 try dsimp only [List.eraseIdx] at hS
 refine .t 1 rfl (.call Xn9 rfl (X0 (.of rfl) (X0 (.of rfl) X4)) rfl (X2g 2 2 (by decide) (by decide) B _ J5 _ hS) ?_)
 clear hS
 rintro _ w ⟨rfl,hS⟩
 refine .call Tryz.func13 rfl (X0 (.of rfl) (X0 (.of rfl) (X0 (.of rfl) X4))) rfl (Xep AXN AXB (by decide) (by decide) p AXW (X83) B _ J5 hI5 _ hS) ?_
 clear hS
 rintro _ w ⟨rfl,hS⟩
 try dsimp only [List.eraseIdx] at hS
 refine .q 3 rfl (.allocA (cs:=[_,_,_]) hS Qz48 rfl ?_)
 clear hS; intro b3 w hS
 refine WL.stA hS (k:=0) rfl (.of rfl) (.of rfl) rfl Xg9 rfl (by simp) ?_
 clear hS; intro w hS; try dsimp only [List.set] at hS
 try simp only [Ym,Yc,Yg,Y9,Yl,Yo,Yf] at hS
 refine .q 1 rfl (.nil (.seq (.t 1 rfl ?_)))
 refine WL.val (.fieldAddr 1 (.of rfl) Xaw rfl rfl Qs9 rfl) rfl ?_
 refine WL.val (.ld (.of rfl) hS (k:=0) rfl Qg9 rfl) rfl ?_
 refine .call Qf20 rfl (X0 (.of rfl) (X0 (.of rfl) (X0 (.of rfl) X4))) rfl (X8j (xk1 p.lo).1.1.pgt AXT (Y32 (X4s (lo:=p.lo)).1 (by decide)) (by decide) p (xk1 p.lo).2 (X2u X83 _ _) B _ J5 hI5 _ (hS.pick 1 rfl)) ?_
 clear hS
 rintro _ w ⟨rfl,hS⟩
 try dsimp only [List.eraseIdx] at hS
 refine .q 7 rfl (.nil (.seq (.t 1 rfl ?_)))
 refine WL.val (.fieldAddr 2 (.of rfl) Xaw rfl rfl Qs9 rfl) rfl ?_
 refine WL.val (.ld (.of rfl) hS (k:=1) rfl Qg9 rfl) rfl ?_
 refine .call Tryz.func23 rfl (X0 (.of rfl) (X0 (.of rfl) (X0 (.of rfl) X4))) rfl (X9d (xk1 p.lo).1.1.iou 200 p (xi1 p.lo p.ps).2 (X23 (X2u X83 _ _) _ _) B _ J5 hI5 _ hS) ?_
 clear hS
 rintro _ w ⟨rfl,hS⟩
 try dsimp only [List.eraseIdx] at hS
 refine .q 5 rfl (.nil (.seq (.t 1 rfl ?_)))
 refine WL.val (.fieldAddr 1 (.of rfl) Xaw rfl rfl Qs9 rfl) rfl ?_
 refine WL.val (.ld (.of rfl) hS (k:=1) rfl Qg9 rfl) rfl ?_
 refine .call Qf20 rfl (X0 (.of rfl) (X0 (.of rfl) (X0 (.of rfl) X4))) rfl (X8j (xk1 p.lo).1.1.pgt AXT (Y32 (X4s (lo:=p.lo)).1 (by decide)) (by decide) p (xa1 p.lo p.ps).2 (X34 (X23 (X2u X83 _ _) _ _) _ _) B _ J5 hI5 _ hS) ?_
 clear hS
 rintro _ w ⟨rfl,hS⟩
 try dsimp only [List.eraseIdx] at hS
 refine .q 7 rfl (.nil (.seq (.t 1 rfl (.call Xn9 rfl (X0 (.of rfl) (X0 (.of rfl) X4)) rfl (X2g 2 2 (by decide) (by decide) B _ J5 _ hS) ?_))))
 clear hS
 rintro _ w ⟨rfl,hS⟩
 refine .call Tryz.func13 rfl (X0 (.of rfl) (X0 (.of rfl) (X0 (.of rfl) X4))) rfl (Xep AXN AXB (by decide) (by decide) p (xi2 p.lo p.ps).2 (X23 (X34 (X23 (X2u X83 _ _) _ _) _ _) _ _) B _ J5 hI5 _ hS) ?_
 clear hS
 rintro _ w ⟨rfl,hS⟩
 try dsimp only [List.eraseIdx] at hS
 refine .q 3 rfl (.allocA (cs:=[_,_,_]) hS Qz48 rfl ?_)
 clear hS; intro b13 w hS
 refine WL.stA hS (k:=0) rfl (.of rfl) (.of rfl) rfl Xg9 rfl (by simp) ?_
 clear hS; intro w hS; try dsimp only [List.set] at hS
 try simp only [Ym,Yc,Yg,Y9,Yl,Yo,Yf] at hS
 refine .q 1 rfl (.nil (.seq (.t 1 rfl ?_)))
 refine WL.val (.fieldAddr 2 (.of rfl) Xaw rfl rfl Qs9 rfl) rfl ?_
 refine WL.val (.ld (.of rfl) hS (k:=0) rfl Qg9 rfl) rfl ?_
 refine .call Tryz.func23 rfl (X0 (.of rfl) (X0 (.of rfl) (X0 (.of rfl) X4))) rfl (X9d (xk2 p.lo p.ps).1.1.iou 404 p (xk2 p.lo p.ps).2 (X2u (X23 (X34 (X23 (X2u X83 _ _) _ _) _ _) _ _) _ _) B _ J5 hI5 _ (hS.pick 1 rfl)) ?_
 clear hS
 rintro _ w ⟨rfl,hS⟩
 try dsimp only [List.eraseIdx] at hS
 refine .q 5 rfl (.nil (.seq (.t 1 rfl ?_)))
 refine WL.val (.fieldAddr 1 (.of rfl) Xaw rfl rfl Qs9 rfl) rfl ?_
 refine WL.val (.ld (.of rfl) hS (k:=1) rfl Qg9 rfl) rfl ?_
 refine .call Qf20 rfl (X0 (.of rfl) (X0 (.of rfl) (X0 (.of rfl) X4))) rfl (X8j (xk2 p.lo p.ps).1.1.pgt AXT (Y32 (X4s (lo:=p.lo)).1 (by decide)) (by decide) p (xa2 p.lo p.ps).2 (X34 (X2u (X23 (X34 (X23 (X2u X83 _ _) _ _) _ _) _ _) _ _) _ _) B _ J5 hI5 _ hS) ?_
 clear hS
 rintro _ w ⟨rfl,hS⟩
 try dsimp only [List.eraseIdx] at hS
 refine .q 7 rfl (.nil (.seq (.t 3 rfl ?_)))
 refine WL.gval rfl rfl (fun hg1=>(by exact .fieldAddr 0 (.of rfl) Xaw rfl rfl Qs9 rfl)) rfl ?_
 refine WL.gval rfl rfl (fun hg1=>(by exact (.ld (.gd hg1 rfl) hS (k:=2) rfl Qg9 rfl))) rfl ?_
 refine .gval rfl rfl (fun hg1=>(.eqs (.gd hg1 rfl) (.of rfl))) rfl (.val (.pand (.of rfl) (.of rfl) (.of rfl)) rfl (.q 1 rfl (.gval rfl rfl (fun hg1=>(.move (.of rfl))) rfl (.gval rfl rfl (fun hg1=>(.eqs (.gd hg1 rfl) (.of rfl))) rfl (.val (.pand (.of rfl) (.of rfl) (.of rfl)) rfl (.q 1 rfl (.gval rfl rfl (fun hg1=>(.move (.of rfl))) rfl (.gval rfl rfl (fun hg1=>(.eql (.gd hg1 rfl) (.of rfl))) rfl (.val (.pand (.of rfl) (.of rfl) (.of rfl)) rfl (.q 1 rfl (.gval rfl rfl (fun hg1=>(.move (.of rfl))) rfl ?_)))))))))))
 refine WL.gval rfl rfl (fun hg1=>(by exact .fieldAddr 2 (.of rfl) Xaw rfl rfl Qs9 rfl)) rfl ?_
 refine WL.gval rfl rfl (fun hg1=>(by exact (.ld (.gd hg1 rfl) hS (k:=2) rfl Qg9 rfl))) rfl ?_
 refine .gval rfl rfl (fun hg1=>(.eqs (.gd hg1 rfl) (.gd hg1 rfl))) rfl (.val (.pand (.of rfl) (.of rfl) (.of rfl)) rfl (.q 1 rfl (.gval rfl rfl (fun hg1=>(.move (.of rfl))) rfl (.gval rfl rfl (fun hg1=>(.eql (.gd hg1 rfl) (.of rfl))) rfl (.val (.pand (.of rfl) (.of rfl) (.of rfl)) rfl (.q 1 rfl (.gval rfl rfl (fun hg1=>(.move (.of rfl))) rfl (.gcall (T:=fun w=>Sat B w J5 _) rfl rfl rfl Xn9 rfl (fun hg1=>(X0 (.of rfl) (X0 (.of rfl) X4))) rfl (fun hg1=>X2g 3 5 (by decide) (by decide) B _ J5 _ hS) hS ?_))))))))
 clear hS; rintro w hS
 refine .gval rfl rfl (fun hg1=>(.eqs (.gd hg1 rfl) (.gd hg1 rfl))) rfl (.val (.pand (.of rfl) (.of rfl) (.of rfl)) rfl (.q 1 rfl (.gval rfl rfl (fun hg1=>(.move (.of rfl))) rfl (.gval rfl rfl (fun hg1=>(.eqs (.gd hg1 rfl) (.of rfl))) rfl (.val (.pand (.of rfl) (.of rfl) (.of rfl)) rfl (.q 1 rfl (.gval rfl rfl (fun hg1=>(.move (.of rfl))) rfl (.gval rfl rfl (fun hg1=>(.eql (.gd hg1 rfl) (.of rfl))) rfl (.val (.pand (.of rfl) (.of rfl) (.of rfl)) rfl (.q 1 rfl (.gval rfl rfl (fun hg1=>(.move (.of rfl))) rfl (.gval rfl rfl (fun hg1=>(.eql (.gd hg1 rfl) (.of rfl))) rfl (.val (.pand (.of rfl) (.of rfl) (.of rfl)) rfl (.q 1 rfl (.gval rfl rfl (fun hg1=>(.move (.of rfl))) rfl (.gval rfl rfl (fun hg1=>(.eql (.gd hg1 rfl) (.of rfl))) rfl (.val (.pand (.of rfl) (.of rfl) (.of rfl)) rfl (.q 1 rfl (.nil (.ret (Xe Tryz.results8 rfl ?_)))))))))))))))))))))
 refine ⟨_,rfl,?_,((((hS.drop (k:=0) rfl).drop (k:=0) rfl).drop (k:=0) rfl).drop (k:=0) rfl).weaken (hIJ.trans hJ5)⟩
 refine congrArg Value.bool ?_
 rw [hlo,hps]
 kernel_rfl
end Go.Proofs.YtfibbpgikjggfaaGreatDoor
