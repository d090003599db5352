/- Part 6 of what the proof stands on: W18u, W18v, W18w, W21f, Tmo, W21g, W21o, W21p, W21q, W21s, W21t, W18x, W21u, W21v, W21w, Op21, W20a, W20b, W20c. -/
import Derived.Test.YtadhiihnnkcagaaGreatDoorM2GE
import Derived.KernelRfl
import Derived.Laws.StructEq
import Derived.OpenShut
set_option linter.unusedVariables false
set_option linter.unusedSimpArgs false
namespace Go.Proofs.YtadhiihnnkcagaaGreatDoor
open Gk Pat
def RegAt (I:Im) (pr:Addr) (lo:List Sv):Prop:=∃ a c E,At I pr [.slice a lo.length c]∧lo.length≤c∧EntsIn I a E lo
theorem EntsIn.mono {I J:Im} {a:Option Addr} {E:List (List Value)} {l:List Sv} (h:EntsIn I a E l) (hl:Le I J):EntsIn J a E l:=⟨h.1,fun i s hs=>by
 obtain ⟨p,c,e,h0,h1,ra,rc,pp,qq,Q,T,e2,h2,h3,h4,h5,h6,h7⟩:=h.2 i s hs
 exact ⟨p,c,e,h0,h1.mono hl,ra,rc,pp,qq,Q,T,e2,h2,h3.mono hl,h4,h5.mono hl,h6,h7.mono hl⟩⟩
def RowsOf (J:Im) (C:List (List Value)) (l:List Sv):Prop:=C.length=l.length∧∀ (i:Nat) (s:Sv),l[i]?=some s→∃ c,C[i]?=some c∧SvAt J s c
theorem RowsOf.mono {J K:Im} {C:List (List Value)} {l:List Sv} (h:RowsOf J C l) (hl:Le J K):RowsOf K C l:=⟨h.1,fun i s hs=>by
 obtain ⟨c,h1,h2⟩:=h.2 i s hs
 exact ⟨c,h1,h2.mono hl⟩⟩
theorem RowsOf.snoc {J:Im} {C:List (List Value)} {l:List Sv} {s:Sv} {c:List Value} (h:RowsOf J C l) (hs:SvAt J s c):RowsOf J (C ++ [c]) (l ++ [s]):=⟨by simp [h.1],fun i t ht=>by
 rcases Yr i l.length with hi | hi
 ·rw [Yg hi] at ht
  obtain ⟨d,h1,h2⟩:=h.2 i t ht
  exact ⟨d,by rw [Yg (by rw [h.1]; exact hi)]; exact h1,h2⟩
 ·rw [Yv hi] at ht
  have hi0:i - l.length=0:=by have:=(Y5.1 ht).1; simp at this; omega
  rw [hi0] at ht
  cases ht
  exact ⟨c,by rw [Yv (by rw [h.1]; exact hi),h.1,hi0]; rfl,hs⟩⟩
theorem X56:Tryz.prog.info? 155=some Tryz.t155:=by kernel_rfl
theorem Xjd:Bld Tryz.prog 157 [(0,1)] [.slice none 0 0]:=X2l Xj4 Tryz.zeroValue157 (fun w=>by simp [go_sem])
theorem bad_le {l:List Sv} {i:Nat} (h:∀ (j:Nat) t,j<i→l[j]?=some t→bad l j t=0) (hi:i≤l.length):i≤16:=by
 rcases Yr 16 i with h1 | h1
 ·have:=h 16 _ h1 (Y4 (by omega))
  unfold bad at this
  rw [if_pos rfl] at this
  cases this
 ·exact h1
theorem Xgx {l:List Sv} {i:Nat} {s:Sv} (hi:i≤16) (hl:i≤l.length):Xmp (l.take i) s=bad l i s:=by
 unfold Xmp bad
 rw [Yu,Y3b hl]
 by_cases h:i=16
 ·rw [if_pos (by omega),if_pos h]
 ·rw [if_neg (by omega),if_neg h]
theorem made_n (s:Sv) (sa:Option Addr) (sc:Nat) (hsc:s.rel.length≤sc) (hrl:s.rel.length≤1000000) (hu:s.urls.length≤9223372036854775807) (hcl:s.calls.length≤9223372036854775807) (a:Option Addr) (cap:Nat) (lo:List Sv) (n:Nat) (hn:lo.length=n) (hlo:n≤100000) (B w:World) (I:Im) (hr:RS I sa 1 s.rel.length (s.rel.map S)) (As:List X8) (hE:∀ w,Sat B w I As→Xfh w I a lo) (hS:Sat B w I As) :
  Calls Tryz.prog 130 [.agg [I64 s.id,F64 s.ord,S s.urls,.bool s.login,.bool s.proxy,.bool s.back,S s.calls,.slice sa s.rel.length sc].toArray,.slice a n cap].toArray w (Ret fun v w'=>∃ J cs code,Le I J∧v=.tuple #[.agg (List.toArray cs),I64 ((code:Nat):Int)]∧code=Xmp lo s∧cs.length=10∧cs.all Value.oneCell'=true∧(code=0→EntAt J s cs)∧Sat B w' J As):=by
 subst hn
 exact Xn8 s sa sc hsc hrl hu hcl a cap lo hlo B w I hr As hE hS
theorem ents_n {B w:World} {I:Im} {As:List X8} {k T cap n:Nat} {a:Option Addr} {E:List (List Value)} {l:List Sv} (hS:Sat B w I As) (hn:l.length=n) (hk:As[k]?=some (Vec T 10 (.slice a n cap) n E.flatten)) (h10:∀ c∈E,c.length=10)
  (hE:∀ (i:Nat) (s:Sv),l[i]?=some s→∃ c,E[i]?=some c∧EntAt I s c):Xfh w I a l:=by
 subst hn
 exact Xo3 hS hk h10 hE
theorem EntAt.mono {I J:Im} {s:Sv} {l:List Value} (h:EntAt I s l) (hl:Le I J):EntAt J s l:=by
 obtain ⟨ra,rc,pp,qq,Q,T,e2,h2,h3,h4,h5,h6,h7⟩:=h
 exact ⟨ra,rc,pp,qq,Q,T,e2,h2,h3.mono hl,h4,h5.mono hl,h6,h7.mono hl⟩
theorem EntAt.len {I:Im} {s:Sv} {l:List Value} (h:EntAt I s l):l.length=10:=by
 obtain ⟨ra,rc,pp,qq,Q,T,rfl,_⟩:=h
 rfl
def X48 (l:List Sv) (D:List Int):List Sv:=D.map fun d=>l.getD d.toNat z0
theorem Xrn (a:Option Addr) (cap:Nat) (l:List Sv) (hln:l.length≤100000) (hom:∀ v∈ords l,v<18446744073709551616) (hfit:∀ s∈l,s.urls.length≤9223372036854775807∧s.calls.length≤9223372036854775807∧s.rel.length≤1000000) (B w:World) (I:Im) (hl:SvsAt I a l) (As:List X8) (hS:Sat B w I As) :
  Calls Tryz.prog 89 [.slice a l.length cap].toArray w (Ret fun v w'=>∃ J,Le I J∧Sat B w' J As∧(((X3l l).1≠0∧v=.tuple #[.pointer none,I64 ((X3l l).1:Nat),I64 ((X3l l).2:Nat)])∨((X3l l).1=0∧∃ pr D,v=.tuple #[.pointer (some pr),I64 0,I64 0]∧Srt.Ord (kx (ords l)) l.length D∧RegAt J pr (X48 l D)))):=by
 refine calls Tryz.func89 rfl Tryz.ntmps89 rfl (.seq (.q 3 rfl (.seq (.q 1 rfl (.seq (.q 1 rfl (.seq (.seq (.region (.run 3 rfl ⟨⟨_,X7t⟩,trivial⟩ (.nil (.block ?_))))))))))))
 replace hS:=hS.vecNil 32 1
 replace hS:=hS.vecNil 155 10
 refine .loop (σ:=Nat×Im×Value×Value×List (List Value)) (fun ⟨i,J,ev,ov,E⟩=>[(5,ev),(6,ov),(14,.slice a l.length cap),(15,I64 (l.length:Nat)),(16,I64 (i:Nat))]) (fun ⟨i,J,ev,ov,E⟩ w=>i≤l.length∧Le I J∧E.length=i∧(∀ c∈E,c.length=10)∧(∀ (j:Nat) (s:Sv),(l.take i)[j]?=some s→∃ c,E[j]?=some c∧EntAt J s c)∧(∀ (j:Nat) (t:Sv),j<i→l[j]?=some t→bad l j t=0)∧Sat B w J (Vec 155 10 ev i E.flatten::Vec 32 1 ov i (((ords l).take i).map F64)::As)) (fun ⟨i,J,ev,ov,E⟩=>l.length - i) (0,I,.slice none 0 0,.slice none 0 0,[]) ⟨rfl,rfl,rfl,rfl,rfl,trivial⟩ ⟨Yp _,Le.refl _,rfl,fun _ h=>(by simp at h),fun _ _ h=>(by simp at h),fun _ _ h=>absurd h (by omega),hS⟩ ?_
 rintro ⟨i,J,ev,ov,E⟩ w ⟨hi,hJ,hEl,h10,hEE,hok,hS⟩
 refine .seq (.q 1 rfl (.seq ?_))
 refine WC.cond rfl (fun hb17=>?_) (fun hb17=>?_)
 ·
  have hc17:=hb17; try simp only [Y6] at hc17
  refine .skip (.seq (.block (.seq ?_)))
  obtain ⟨s,hs⟩:∃ s,l[i]?=some s:=⟨_,Y4 (by omega)⟩
  obtain ⟨p,ra,rc,rfl,hx,hrc,hr⟩:=(hl.mono hJ) i s hs
  unfold X1q at hx
  have hi16:=bad_le hok hi
  have hsm:=hfit s (Ym hs)
  have hln:(l.take i).length=i:=by rw [Yu]; omega
  have hnx:((ords l).take (i+1)).map F64=((ords l).take i).map F64 ++ [F64 s.ord]:=by
   rw [Y15,ords,Yy,hs,Yw]; rfl
  have htn:l.take (i+1)=l.take i ++ [s]:=by rw [Y15,hs]; rfl
  obtain ⟨ea,ec,rfl,hec,_⟩:=hS.vecSlice (k:=0) rfl
  obtain ⟨oa,oc,rfl,hoc,_⟩:=hS.vecSlice (k:=1) rfl
  refine .t 1 rfl (.val (.indexAddrI (.of rfl) (.of rfl) (by omega) (by omega) X7t Xy) rfl (.val (.ldsI (.of rfl) hS hx X5g Xy rfl (fun _ _ h=>h)) rfl (.allocA (cs:=[_,_,_,_,_,_,_,_]) hS X7d rfl ?_)))
  clear hS; intro b8 w hS
  refine .q 1 rfl (.stA hS (k:=0) rfl (.of rfl) (.of rfl) rfl Xy rfl (by simp) ?_)
  clear hS; intro w hS
  try simp only [Yl,Yf,Yc,Y9,Yj,Yo,Yd] at hS
  refine .nil (.seq (.region (.val (.ldsW (cs:=[_,_,_,_,_,_,_,_]) (.of rfl) hS (k:=0) rfl X5g Xy rfl) rfl (.q 1 rfl (.call Tryz.func130 rfl (X0 (.of rfl) (X0 (.of rfl) X4)) rfl (made_n s ra rc hrc hsm.2.2 hsm.1 hsm.2.1 ea ec (l.take i) i hln (by omega) B _ J hr _ (fun w h=>ents_n h hln (k:=1) rfl h10 hEE) hS) ?_)))))
  clear hS
  rintro _ w ⟨J2,cs,code,hJ2,rfl,hcode,hcs10,hall,hent,hS⟩
  refine .q 3 rfl (.allocA (cs:=[_,_,_,_,_,_,_,_,_,_]) hS Xii rfl ?_)
  clear hS; intro b9 w hS
  refine .stA hS (k:=0) rfl (.of rfl) (.of rfl) hall X3e hcs10 (by simp) ?_
  clear hS; intro w hS
  try simp only [Yl,Yf,Yc,Y9,Yj,Yo,Yd] at hS
  refine .q 1 rfl (.nil (.seq (.seq (.q 2 rfl ?_))))
  refine WC.cond rfl (fun hb28=>?_) (fun hb28=>?_)
  ·
   have hc28:=hb28; try simp only [Y6] at hc28
   refine .seq (.q 5 rfl (.ret (X6r Tryz.results89 rfl rfl rfl ?_)))
   have hb2:=Xgx (l:=l) (i:=i) (s:=s) hi16 (by omega)
   have hbn:bad l i s≠0:=by rw [← hb2,← hcode]; omega
   have hw:=X4w hok hs hbn
   refine ⟨_,rfl,J2,Le.trans hJ hJ2,(((hS.drop (k:=0) rfl).drop (k:=0) rfl).drop (k:=0) rfl).drop (k:=0) rfl,.inl ⟨by rw [hw]; exact hbn,?_⟩⟩
   rw [hw,hcode,hb2]
   rfl
  have hc28:=hb28; try simp only [Y6] at hc28
  refine .skip ?_
  have hcode0:code=0:=by omega
  obtain ⟨sa,sc,pp,qq,Q,T,rfl,hsc,hent⟩:=hent hcode0
  have hent2:EntAt J2 s (X1l s sa sc pp qq):=⟨sa,sc,pp,qq,Q,T,rfl,hsc,hent⟩
  have hbad0:bad l i s=0:=by rw [← Xgx (l:=l) (i:=i) hi16 (by omega),← hcode,hcode0]
  unfold X1l at hS
  refine .drawn (fun w=>∃ R,Sat B w J2 (blk b9 [I64 s.id,F64 s.ord,S s.urls,.bool s.login,.bool s.proxy,.bool s.back,S s.calls,.slice sa s.rel.length sc,.pointer (some pp),.pointer (some qq)] 155::blk b8 [I64 s.id,F64 s.ord,S s.urls,.bool s.login,.bool s.proxy,.bool s.back,S s.calls,.slice ra s.rel.length rc] 101::R)) (fun j=>!([].contains j)) (by kernel_rfl) ?_
  replace hS:=hS.drew; generalize w.drew=w at hS ⊢
  have hH:=((hS.pick 1 rfl).pick 1 rfl)
  refine .tp (i:=0) rfl (by kernel_rfl) (fun w=>(.move (.of rfl))) rfl (.tk (i:=1) rfl (by kernel_rfl) ⟨_,hH⟩ (fun w ⟨R,hS⟩=>(.ldsW (cs:=[_,_,_,_,_,_,_,_,_,_]) (.of rfl) hS (k:=0) rfl Xdv X3e rfl)) rfl (.tp (i:=4) rfl (by kernel_rfl) (fun w=>(.move (.of rfl))) rfl (.tp (i:=5) rfl (by kernel_rfl) (fun w=>(.fieldAddr 1 (.of rfl) X1t rfl rfl Xlz rfl)) rfl (.tk (i:=6) rfl (by kernel_rfl) ⟨_,hH⟩ (fun w ⟨R,hS⟩=>(.ld (.of rfl) hS (k:=1) rfl Qg32 rfl)) rfl ?_))))
  refine WD.branch [2,7] (by kernel_rfl) rfl (WO.cons rfl ?_ (WO.cons rfl ?_ (WO.nil)))
  ·
   refine .buildSlice (cs:=[_,_,_,_,_,_,_,_,_,_]) hS (X5 (.of rfl) X6) X85 X3e Xii rfl rfl rfl rfl ?_
   clear hS; intro b33 w hS
   refine .nil ?_
   clear hH
   have hH:=((hS.pick 2 rfl).pick 2 rfl)
   refine And.intro (by intro _ _; exact ⟨_,hH⟩) ?_
   refine WD.branch [3,7] (by kernel_rfl) rfl (WO.cons rfl ?_ (WO.cons rfl ?_ (WO.nil)))
   ·
    refine WL.append (size:=10) (bytes:=96) hS (.of rfl) (.of rfl) (k:=2) rfl X85 X56 rfl rfl rfl rfl rfl rfl rfl ⟨by omega,by unfold maxLen; omega⟩ rfl ?_
    clear hS; intro v34 w hS
    obtain ⟨a34,c34,rfl,hcap34,_⟩:=hS.vecSlice (k:=2) (v:=v34) rfl
    refine .nil ?_
    clear hH
    have hH:=((hS.pick 1 rfl).pick 1 rfl)
    refine And.intro (by intro _ _; exact ⟨_,hH⟩) ?_
    refine WD.branch [7] (by kernel_rfl) rfl (WO.cons rfl ?_ (WO.nil))
    refine .buildSlice (cs:=[_]) hS (X5 (.of rfl) X6) X5j Xlz Qz32 rfl rfl rfl rfl ?_
    clear hS; intro b38 w hS
    refine .nil ?_
    clear hH
    have hH:=((hS.pick 2 rfl).pick 2 rfl)
    refine And.intro (by intro _ _; exact ⟨_,hH⟩) ?_
    refine WD.branch [8] (by kernel_rfl) rfl (WO.cons rfl ?_ (WO.nil))
    refine WL.append (size:=1) (bytes:=8) hS (.of rfl) (.of rfl) (k:=3) rfl X5j X59 rfl rfl rfl rfl rfl rfl rfl ⟨by omega,by unfold maxLen; omega⟩ rfl ?_
    clear hS; intro v39 w hS
    obtain ⟨a39,c39,rfl,hcap39,_⟩:=hS.vecSlice (k:=3) (v:=v39) rfl
    refine .nil ?_
    clear hH
    have hH:=((hS.pick 1 rfl).pick 1 rfl)
    refine And.intro (by intro _ _; exact ⟨_,hH⟩) ?_
    refine .tp (i:=9) rfl (by kernel_rfl) (fun w=>(.assign (.of rfl))) rfl (.tp (i:=10) rfl (by kernel_rfl) (fun w=>(.assign (.of rfl))) rfl (.done (by kernel_rfl) (.region (.run 2 rfl ⟨⟨by omega,by omega⟩,trivial⟩ (.nil ?_)))))
    have hfin:=((hS.drop (k:=0) rfl).drop (k:=0) rfl)
    refine ⟨(i+1,J2,.slice a34 (i+1) c34,.slice a39 (i+1) c39,E ++ [X1l s sa sc pp qq]),⟨rfl,rfl,rfl,rfl,rfl,trivial⟩,⟨by (try dsimp only); omega,Le.trans hJ hJ2,by (try dsimp only); rw [Y0,hEl]; rfl,fun c hc=>?_,fun j u hu=>?_,fun j u hj hu=>?_,?_⟩,by (try dsimp only); omega⟩
    ·rcases Y12.1 hc with h | h
     ·exact h10 c h
     ·simp at h; subst h; rfl
    ·(try dsimp only at hu)
     rw [htn] at hu
     rcases Yr j i with h1 | h1
     ·rw [Yg (by omega)] at hu
      obtain ⟨c,e1,e2⟩:=hEE j u hu
      exact ⟨c,by rw [Yg (by omega)]; exact e1,e2.mono hJ2⟩
     ·rw [Yv (by omega),hln] at hu
      have hj0:j - i=0:=by have:=(Y5.1 hu).1; simp at this; omega
      rw [hj0] at hu
      cases hu
      exact ⟨_,by rw [Yv (by omega),hEl,hj0]; rfl,hent2⟩
    ·rcases Yr j i with h1 | h1
     ·exact hok j u h1 hu
     ·have e:j=i:=by (try dsimp only at hj); omega
      subst e
      rw [hs] at hu; cases hu
      exact hbad0
    ·(try dsimp only)
     rw [hnx,Y2m]
     simpa [X1l] using hfin
   ·
    refine .buildSlice (cs:=[_]) hS (X5 (.of rfl) X6) X5j Xlz Qz32 rfl rfl rfl rfl ?_
    clear hS; intro b38 w hS
    refine .nil ?_
    clear hH
    have hH:=((hS.pick 3 rfl).pick 3 rfl)
    refine And.intro (by intro _ _; exact ⟨_,hH⟩) ?_
    refine WD.branch [3] (by kernel_rfl) rfl (WO.cons rfl ?_ (WO.nil))
    replace hS:=hS.pick 1 rfl
    refine WL.append (size:=10) (bytes:=96) hS (.of rfl) (.of rfl) (k:=3) rfl X85 X56 rfl rfl rfl rfl rfl rfl rfl ⟨by omega,by unfold maxLen; omega⟩ rfl ?_
    clear hS; intro v34 w hS
    obtain ⟨a34,c34,rfl,hcap34,_⟩:=hS.vecSlice (k:=3) (v:=v34) rfl
    refine .nil ?_
    clear hH
    have hH:=((hS.pick 2 rfl).pick 2 rfl)
    refine And.intro (by intro _ _; exact ⟨_,hH⟩) ?_
    refine WD.branch [8] (by kernel_rfl) rfl (WO.cons rfl ?_ (WO.nil))
    refine WL.append (size:=1) (bytes:=8) hS (.of rfl) (.of rfl) (k:=3) rfl X5j X59 rfl rfl rfl rfl rfl rfl rfl ⟨by omega,by unfold maxLen; omega⟩ rfl ?_
    clear hS; intro v39 w hS
    obtain ⟨a39,c39,rfl,hcap39,_⟩:=hS.vecSlice (k:=3) (v:=v39) rfl
    refine .nil ?_
    clear hH
    have hH:=((hS.pick 1 rfl).pick 1 rfl)
    refine And.intro (by intro _ _; exact ⟨_,hH⟩) ?_
    refine .tp (i:=9) rfl (by kernel_rfl) (fun w=>(.assign (.of rfl))) rfl (.tp (i:=10) rfl (by kernel_rfl) (fun w=>(.assign (.of rfl))) rfl (.done (by kernel_rfl) (.region (.run 2 rfl ⟨⟨by omega,by omega⟩,trivial⟩ (.nil ?_)))))
    have hfin:=((hS.drop (k:=0) rfl).drop (k:=0) rfl)
    refine ⟨(i+1,J2,.slice a34 (i+1) c34,.slice a39 (i+1) c39,E ++ [X1l s sa sc pp qq]),⟨rfl,rfl,rfl,rfl,rfl,trivial⟩,⟨by (try dsimp only); omega,Le.trans hJ hJ2,by (try dsimp only); rw [Y0,hEl]; rfl,fun c hc=>?_,fun j u hu=>?_,fun j u hj hu=>?_,?_⟩,by (try dsimp only); omega⟩
    ·rcases Y12.1 hc with h | h
     ·exact h10 c h
     ·simp at h; subst h; rfl
    ·(try dsimp only at hu)
     rw [htn] at hu
     rcases Yr j i with h1 | h1
     ·rw [Yg (by omega)] at hu
      obtain ⟨c,e1,e2⟩:=hEE j u hu
      exact ⟨c,by rw [Yg (by omega)]; exact e1,e2.mono hJ2⟩
     ·rw [Yv (by omega),hln] at hu
      have hj0:j - i=0:=by have:=(Y5.1 hu).1; simp at this; omega
      rw [hj0] at hu
      cases hu
      exact ⟨_,by rw [Yv (by omega),hEl,hj0]; rfl,hent2⟩
    ·rcases Yr j i with h1 | h1
     ·exact hok j u h1 hu
     ·have e:j=i:=by (try dsimp only at hj); omega
      subst e
      rw [hs] at hu; cases hu
      exact hbad0
    ·(try dsimp only)
     rw [hnx,Y2m]
     simpa [X1l] using hfin
  ·
   refine .buildSlice (cs:=[_]) hS (X5 (.of rfl) X6) X5j Xlz Qz32 rfl rfl rfl rfl ?_
   clear hS; intro b38 w hS
   refine .nil ?_
   clear hH
   have hH:=((hS.pick 2 rfl).pick 2 rfl)
   refine And.intro (by intro _ _; exact ⟨_,hH⟩) ?_
   refine WD.branch [2] (by kernel_rfl) rfl (WO.cons rfl ?_ (WO.nil))
   refine .buildSlice (cs:=[_,_,_,_,_,_,_,_,_,_]) hS (X5 (.of rfl) X6) X85 X3e Xii rfl rfl rfl rfl ?_
   clear hS; intro b33 w hS
   refine .nil ?_
   clear hH
   have hH:=((hS.pick 3 rfl).pick 3 rfl)
   refine And.intro (by intro _ _; exact ⟨_,hH⟩) ?_
   refine WD.branch [3] (by kernel_rfl) rfl (WO.cons rfl ?_ (WO.nil))
   refine WL.append (size:=10) (bytes:=96) hS (.of rfl) (.of rfl) (k:=3) rfl X85 X56 rfl rfl rfl rfl rfl rfl rfl ⟨by omega,by unfold maxLen; omega⟩ rfl ?_
   clear hS; intro v34 w hS
   obtain ⟨a34,c34,rfl,hcap34,_⟩:=hS.vecSlice (k:=3) (v:=v34) rfl
   refine .nil ?_
   clear hH
   have hH:=((hS.pick 2 rfl).pick 2 rfl)
   refine And.intro (by intro _ _; exact ⟨_,hH⟩) ?_
   refine WD.branch [8] (by kernel_rfl) rfl (WO.cons rfl ?_ (WO.nil))
   refine WL.append (size:=1) (bytes:=8) hS (.of rfl) (.of rfl) (k:=3) rfl X5j X59 rfl rfl rfl rfl rfl rfl rfl ⟨by omega,by unfold maxLen; omega⟩ rfl ?_
   clear hS; intro v39 w hS
   obtain ⟨a39,c39,rfl,hcap39,_⟩:=hS.vecSlice (k:=3) (v:=v39) rfl
   refine .nil ?_
   clear hH
   have hH:=((hS.pick 1 rfl).pick 1 rfl)
   refine And.intro (by intro _ _; exact ⟨_,hH⟩) ?_
   refine .tp (i:=9) rfl (by kernel_rfl) (fun w=>(.assign (.of rfl))) rfl (.tp (i:=10) rfl (by kernel_rfl) (fun w=>(.assign (.of rfl))) rfl (.done (by kernel_rfl) (.region (.run 2 rfl ⟨⟨by omega,by omega⟩,trivial⟩ (.nil ?_)))))
   have hfin:=((hS.drop (k:=0) rfl).drop (k:=0) rfl)
   refine ⟨(i+1,J2,.slice a34 (i+1) c34,.slice a39 (i+1) c39,E ++ [X1l s sa sc pp qq]),⟨rfl,rfl,rfl,rfl,rfl,trivial⟩,⟨by (try dsimp only); omega,Le.trans hJ hJ2,by (try dsimp only); rw [Y0,hEl]; rfl,fun c hc=>?_,fun j u hu=>?_,fun j u hj hu=>?_,?_⟩,by (try dsimp only); omega⟩
   ·rcases Y12.1 hc with h | h
    ·exact h10 c h
    ·simp at h; subst h; rfl
   ·(try dsimp only at hu)
    rw [htn] at hu
    rcases Yr j i with h1 | h1
    ·rw [Yg (by omega)] at hu
     obtain ⟨c,e1,e2⟩:=hEE j u hu
     exact ⟨c,by rw [Yg (by omega)]; exact e1,e2.mono hJ2⟩
    ·rw [Yv (by omega),hln] at hu
     have hj0:j - i=0:=by have:=(Y5.1 hu).1; simp at this; omega
     rw [hj0] at hu
     cases hu
     exact ⟨_,by rw [Yv (by omega),hEl,hj0]; rfl,hent2⟩
   ·rcases Yr j i with h1 | h1
    ·exact hok j u h1 hu
    ·have e:j=i:=by (try dsimp only at hj); omega
     subst e
     rw [hs] at hu; cases hu
     exact hbad0
   ·(try dsimp only)
    rw [hnx,Y2m]
    simpa [X1l] using hfin
 have hc17:=hb17; try simp only [Y6] at hc17
 refine .exit (.seq ?_)
 have hin:i=l.length:=by omega
 subst hin
 have hol:(ords l).length=l.length:=Yz ..
 rw [Yx (Yt _)] at hEE
 rw [Yx (by omega)] at hS
 obtain ⟨oa,oc,rfl,hoc,_⟩:=hS.vecSlice (k:=1) rfl
 obtain ⟨ea,ec,rfl,hec,_⟩:=hS.vecSlice (k:=0) rfl
 obtain ⟨J1,hJ1,hOR,hS1⟩:=hS.freezeVec (k:=1) rfl
 try dsimp only [List.eraseIdx] at hS1
 obtain ⟨J2,hJ2,hER,hS2⟩:=hS1.freezeVec (k:=0) rfl
 clear hS hS1
 have hS:=hS2
 clear hS2
 try dsimp only [List.eraseIdx] at hS
 replace hJ:=Le.trans hJ (Le.trans hJ1 hJ2)
 replace hOR:=hOR.mono hJ2
 replace hEE:=fun j s h=>let ⟨c,h1,h2⟩:=hEE j s h; (⟨c,h1,EntAt.mono h2 (Le.trans hJ1 hJ2)⟩:∃ c,E[j]?=some c∧EntAt J2 s c)
 refine .region (.val (.build (cs:=[_]) X6 Xjd rfl) rfl (.boxA (cs:=[_]) hS (.of rfl) rfl ?_))
 clear hS; intro b42 w hS
 refine .q 1 rfl (.nil (.seq (.seq ?_)))
 rw [← hol] at hOR ⊢
 refine .t 1 rfl (.call Tryz.func131 rfl (X0 (.of rfl) X4) rfl (Xlg (ords l) hom (by omega) oa oc B _ J2 hOR _ hS) ?_)
 clear hS
 rintro _ w ⟨D,va,vc,rfl,hD,hS⟩
 obtain ⟨J3,hJ3,hDR,hS2⟩:=hS.freezeVec (k:=0) rfl
 clear hS
 have hS:=hS2
 clear hS2
 try dsimp only [List.eraseIdx] at hS
 replace hJ:=Le.trans hJ hJ3
 rw [hol] at hD hDR ⊢
 have hDl:=hD.len
 refine .run 2 rfl ⟨⟨_,Xd⟩,trivial⟩ (.nil (.block ?_))
 replace hS:=(hS.vecNil 155 10).pick 1 rfl
 try dsimp only [List.eraseIdx] at hS
 refine .loop (σ:=Value×Nat) (fun ⟨kv,j⟩=>[(5,.slice ea l.length ec),(11,ptr b42 0),(44,.slice va l.length vc),(45,I64 (l.length:Nat)),(46,I64 (j:Nat))]) (fun ⟨kv,j⟩ w=>j≤l.length∧Sat B w J3 (blk b42 [kv] 157::Vec 155 10 kv j (X47 E (D.take j)).flatten::As)) (fun ⟨kv,j⟩=>l.length - j) (.slice none 0 0,0) ⟨rfl,rfl,rfl,rfl,rfl,trivial⟩ ⟨Yp _,hS⟩ ?_
 rintro ⟨kv,j⟩ w ⟨hj,hS⟩
 refine .seq (.q 1 rfl (.seq ?_))
 refine WC.cond rfl (fun hb47=>?_) (fun hb47=>?_)
 ·
  have hc47:=hb47; try simp only [Y6] at hc47
  refine .skip (.seq (.block (.seq ?_)))
  obtain ⟨d,hd⟩:∃ d,D[j]?=some d:=⟨_,Y4 (by omega)⟩
  have hdm:d∈Srt.upto l.length:=hD.2.mem_iff.1 (Ym hd)
  have hdr:=Srt.upto_mem.1 hdm
  obtain ⟨s,hs⟩:∃ s,l[d.toNat]?=some s:=⟨_,Y4 (by omega)⟩
  obtain ⟨c,hc,ra,rc,pp,qq,Q,T,rfl,hent⟩:=hEE d.toNat s hs
  obtain ⟨pe,rfl,hpe⟩:=(hER.mono hJ3).2 (by omega)
  have hx:=X4f (hpe.add (d.toNat*10)) 10
  rw [X1x E h10 d.toNat _ hc] at hx
  have hnr:(X47 E (D.take (j+1))).flatten=(X47 E (D.take j)).flatten ++ X1l s ra rc pp qq:=by
   unfold X47
   rw [Y15,hd,Yw,Y2m]
   simp [Y7,hc]
  unfold X1l at hx hnr
  obtain ⟨dp,rfl,hdp⟩:=hDR.2 (by omega)
  obtain ⟨ka,kc,rfl,hkc,_⟩:=hS.vecSlice (k:=1) rfl
  have hdx:((D.map I64).drop ((j:Int).toNat*1))[0]?=some (I64 d):=by rw [Y1g,Yi,Y1k,Y2h,Yy,hd]; rfl
  refine .region (.val (.indexAddrI (.of rfl) (.of rfl) (by omega) (by omega) Xd Qs3) rfl (.val (.ldI (v:=I64 d) (.of rfl) hS (hdp.add _) Qg3 hdx) rfl (.q 1 rfl (.nil (.drawn (fun w=>∃ R,Sat B w J3 (blk b42 [.slice ka j kc] 157::R)) (fun j=>!([13].contains j)) (by kernel_rfl) ?_)))))
  replace hS:=hS.drew; generalize w.drew=w at hS ⊢
  have hH:=(hS.pick 0 rfl)
  refine .tp (i:=0) rfl (by kernel_rfl) (fun w=>(.move (.of rfl))) rfl (.tp (i:=1) rfl (by kernel_rfl) (fun w=>(.move (.of rfl))) rfl (.tp (i:=2) rfl (by kernel_rfl) (fun w=>(.nilCheck (.of rfl))) rfl (.tp (i:=3) rfl (by kernel_rfl) (fun w=>(.fieldAddr 0 (.of rfl) Xj4 rfl rfl Xjc rfl)) rfl (.tk (i:=4) rfl (by kernel_rfl) ⟨_,hH⟩ (fun w ⟨R,hS⟩=>(.ld (.of rfl) hS (k:=0) rfl Tryz.isAgg152 rfl)) rfl (.tp (i:=5) rfl (by kernel_rfl) (fun w=>(.move (.of rfl))) rfl (.tp (i:=6) rfl (by kernel_rfl) (fun w=>(.move (.of rfl))) rfl (.tp (i:=7) rfl (by kernel_rfl) (fun w=>(.indexAddrI (.of rfl) (.of rfl) (by omega) (by omega) X85 X3e)) rfl (.tk (i:=8) rfl (by kernel_rfl) ⟨_,hH⟩ (fun w ⟨R,hS⟩=>(.ldsI (.of rfl) hS hx Xdv X3e rfl (fun _ _ h=>h))) rfl ?_))))))))
  refine WD.branch [9] (by kernel_rfl) rfl (WO.cons rfl ?_ (WO.nil))
  refine .buildSlice (cs:=[_,_,_,_,_,_,_,_,_,_]) hS (X5 (.of rfl) X6) X85 X3e Xii rfl rfl rfl rfl ?_
  clear hS; intro b59 w hS
  refine .nil ?_
  clear hH
  have hH:=(hS.pick 1 rfl)
  refine And.intro (by intro _ _; exact ⟨_,hH⟩) ?_
  refine WD.branch [10] (by kernel_rfl) rfl (WO.cons rfl ?_ (WO.nil))
  refine WL.append (size:=10) (bytes:=96) hS (.of rfl) (.of rfl) (k:=1) rfl X85 X56 rfl rfl rfl rfl rfl rfl rfl ⟨by omega,by unfold maxLen; omega⟩ rfl ?_
  clear hS; intro v60 w hS
  obtain ⟨a60,c60,rfl,hcap60,_⟩:=hS.vecSlice (k:=1) (v:=v60) rfl
  refine .nil ?_
  clear hH
  have hH:=(hS.pick 0 rfl)
  refine And.intro (by intro _ _; exact ⟨_,hH⟩) ?_
  refine .tp (i:=11) rfl (by kernel_rfl) (fun w=>(.nilCheck (.of rfl))) rfl (.tp (i:=12) rfl (by kernel_rfl) (fun w=>(.fieldAddr 0 (.of rfl) Xj4 rfl rfl Xjc rfl)) rfl ?_)
  refine WD.branch [13] (by kernel_rfl) rfl (WO.cons rfl ?_ (WO.nil))
  refine .st1 hS (k:=0) rfl (.of rfl) (.of rfl) rfl Xjc (by simp) ?_
  clear hS; intro w hS
  refine .nil ?_
  refine And.intro (by intro h; cases h) ?_
  refine .done (by kernel_rfl) (.region (.run 2 rfl ⟨⟨by omega,by omega⟩,trivial⟩ (.nil ?_)))
  refine ⟨(.slice a60 (j+1) c60,j+1),⟨rfl,rfl,rfl,rfl,rfl,trivial⟩,⟨by (try dsimp only); omega,?_⟩,by (try dsimp only); omega⟩
  rw [hnr]; exact hS
 have hc47:=hb47; try simp only [Y6] at hc47
 refine .exit (.seq (.q 4 rfl (.ret (X6r Tryz.results89 rfl rfl rfl ?_))))
 have hjn:j=l.length:=by omega
 subst hjn
 rw [Yx (by omega)] at hS
 obtain ⟨ka,kc,rfl,hkc,_⟩:=hS.vecSlice (k:=1) rfl
 obtain ⟨J4,hJ4,hKR,hS1⟩:=hS.freezeVec (k:=1) rfl
 try dsimp only [List.eraseIdx] at hS1
 obtain ⟨J5,hJ5,hb5,hS2⟩:=hS1.freeze (k:=0) rfl
 have hw:X3l l=(0,0):=Xar (fun q t ht=>hok q t (by have:=(Y5.1 ht).1; omega) ht)
 have hpl:(X48 l D).length=l.length:=by unfold X48; rw [Yz,hDl]
 refine ⟨_,rfl,J5,Le.trans hJ (Le.trans hJ4 hJ5),hS2,.inr ⟨by rw [hw],_,D,rfl,hD,ka,kc,X47 E D,?_,by rw [hpl]; exact hkc,by unfold X47 X48; rw [Yz,Yz],fun q s hq=>?_⟩⟩
 ·rw [hpl]
  exact ⟨rfl,_,_,_,hb5,fun q v hq=>by simpa using hq⟩
 ·unfold X48 at hq
  rw [Yy] at hq
  cases hdq:D[q]? with
  | none=>rw [hdq] at hq; cases hq
  | some d =>
   rw [hdq] at hq
   have hdr:=Srt.upto_mem.1 (hD.2.mem_iff.1 (Ym hdq))
   obtain ⟨u,hu⟩:∃ u,l[d.toNat]?=some u:=⟨_,Y4 (by omega)⟩
   have hus:u=s:=by
    have h2:=hq
    rw [Y3p,Y7,hu] at h2
    exact Option.some.inj h2
   subst hus
   obtain ⟨c,hc,hent⟩:=hEE d.toNat u hu
   have hql:=(Y5.1 hdq).1
   obtain ⟨kp,rfl,hkp⟩:=(hKR.mono hJ5).2 (by omega)
   have hpk:(X47 E D)[q]?=some c:=by unfold X47; rw [Yy,hdq]; simp [Y7,hc]
   have h10':∀ c∈X47 E D,c.length=10:=fun c hc=>by
    unfold X47 at hc
    obtain ⟨d',hd',rfl⟩:=Y26.1 hc
    have hdr':=Srt.upto_mem.1 (hD.2.mem_iff.1 hd')
    rw [Y7,Y4 (by omega)]
    exact h10 _ (Y2o _)
   have hx:=X4f (hkp.add (q*10)) 10
   rw [X1x _ h10' q _ hpk] at hx
   exact ⟨kp,c,rfl,hpk,hx,hent.mono (Le.trans hJ3 (Le.trans hJ4 hJ5))⟩
theorem X9q (pr:Sv→Bool):∀ (l:List Sv) (i:Nat),(X2k pr l i=-1∧l.find? pr=none)∨(∃ j s,X2k pr l i=((i+j:Nat):Int)∧l[j]?=some s∧pr s=true∧l.find? pr=some s)
 | [],_=>.inl ⟨rfl,rfl⟩
 | a::l,i=>by
  rw [X2k,Y2x]
  cases ha:pr a with
  | true=>exact .inr ⟨0,a,rfl,rfl,ha,rfl⟩
  | false =>
   rw [if_neg (by decide)]
   rcases X9q pr l (i+1) with ⟨h1,h2⟩ | ⟨j,s,h1,h2,h3,h4⟩
   ·exact .inl ⟨h1,h2⟩
   ·exact .inr ⟨j+1,s,by rw [h1]; congr 1; omega,h2,h3,h4⟩
theorem X94 (pr:Sv→Bool) (l:List Sv):(X2k pr l 0=-1∧l.find? pr=none)∨(∃ (j:Nat) (s:Sv),X2k pr l 0=(j:Int)∧l[j]?=some s∧pr s=true∧l.find? pr=some s):=by
 rcases X9q pr l 0 with h | ⟨j,s,h1,h2⟩
 ·exact .inl h
 ·exact .inr ⟨j,s,by rw [h1,Yd],h2⟩
theorem Xmj {l:List UInt8} {Q:List Pl} (h:cmp l=.ok Q) (s:List UInt8):(X9y l s).1=mat Q s:=by unfold X9y; rw [h]
def Xt (lo:List Sv) (s:List UInt8):Sv×List UInt8×Nat :=
 if (Ul.nU s).2≠0 then (z0,[],(Ul.nU s).2) else if 100<(Ul.nU s).1.length then (z0,[],2)
 else match lo.find? (fun t=>(X9y t.urls (Ul.nU s).1).1) with
  | none=>(z0,[],31)
  | some t=>(t,(Ul.nU s).1,0)
theorem Xfr (pr:Addr) (lo:List Sv) (hlo:lo.length≤100000) (hrl:∀ s∈lo,s.rel.length≤1000000) (s:List UInt8) (hs:s.length≤1000000) (a:Option Addr) (cc:Nat) (E:List (List Value)) (B w:World) (I:Im) (hK:Known I) (hreg:At I pr [.slice a lo.length cc]) (hE:EntsIn I a E lo) (As:List X8) (hS:Sat B w I As) :
  Calls Tryz.prog 40 [.pointer (some pr),S s].toArray w (Ret fun v w'=>∃ J u c n e,Le I J∧v=.tuple #[.agg (List.toArray c),S n,I64 ((e:Nat):Int)]∧SvAt J u c∧Xt lo s=(u,n,e)∧Sat B w' J As):=by
 refine calls Qf40 rfl Tryz.ntmps40 rfl (.seq (.region (.allocA (cs:=[_,_,_,_,_,_,_,_]) hS X7d rfl ?_)))
 clear hS; intro b4 w hS
 refine .q 2 rfl (.nil (.seq (.t 1 rfl (.call Tryz.func63 rfl (X0 (.of rfl) X4) rfl (Xfg s hs B _ I hK _ hS) ?_))))
 clear hS
 rintro _ w ⟨rfl,hS⟩
 refine .q 3 rfl (.alloc1 hS Qz9 rfl rfl ?_)
 clear hS; intro b7 w hS
 refine .st1 hS (k:=0) rfl (.of rfl) (.of rfl) rfl Qs9 (by simp) ?_
 clear hS; intro w hS
 refine .q 1 rfl (.nil (.seq (.seq (.t 3 rfl (.gval rfl rfl (fun hg1=>(.ld (.of rfl) hS (k:=0) rfl Qg9 rfl)) rfl (.gval rfl rfl (fun hg1=>(.len (.gd hg1 rfl) Qu9)) rfl (.gval rfl rfl (fun hg1=>(.gtr (.gd hg1 rfl) (.of rfl))) rfl (.val (.pand (.of rfl) (.of rfl) (.of rfl)) rfl (.nil ?_)))))))))
 refine WC.cond rfl (fun hb21=>?_) (fun hb21=>?_)
 ·
  have hc21:=hb21; try simp only [Y6] at hc21
  refine .q 1 rfl (.seq (.seq (.q 2 rfl ?_)))
  refine WC.cond rfl (fun hb23=>?_) (fun hb23=>by exfalso; simp only [Y6] at hb23; omega)
  have hc23:=hb23; try simp only [Y6] at hc23
  refine .seq (.region (.val (.build (cs:=[_,_,_,_,_,_,_,_]) X6 X2z rfl) rfl (.q 1 rfl (.stA hS (k:=1) rfl (.of rfl) (.of rfl) rfl Xy rfl (by simp) ?_))))
  clear hS; intro w hS
  try simp only [Yl,Yf,Yc,Y9,Yj,Yo,Yd] at hS
  refine .q 2 rfl (.nil (.ret (Xdy (b:=_) (cs:=[_,_,_,_,_,_,_,_]) Qr40 hS (k:=1) rfl X5g Xy rfl rfl rfl rfl ?_)))
  exact ⟨_,rfl,I,z0,_,[],2,Le.refl _,rfl,⟨none,0,rfl,Yt _,RS.nil _ _⟩,(by unfold Xt; rw [if_neg (by simp at hb21; omega),if_pos (by simp at hb21; omega)]),((hS.drop (k:=0) rfl).drop (k:=0) rfl)⟩
 have hc21:=hb21; try simp only [Y6] at hc21
 refine .skip (.seq (.seq (.q 2 rfl ?_)))
 refine WC.cond rfl (fun hb23=>?_) (fun hb23=>?_)
 ·
  have hc23:=hb23; try simp only [Y6] at hc23
  refine .seq (.region (.val (.build (cs:=[_,_,_,_,_,_,_,_]) X6 X2z rfl) rfl (.q 1 rfl (.stA hS (k:=1) rfl (.of rfl) (.of rfl) rfl Xy rfl (by simp) ?_))))
  clear hS; intro w hS
  try simp only [Yl,Yf,Yc,Y9,Yj,Yo,Yd] at hS
  refine .q 2 rfl (.nil (.ret (Xdy (b:=_) (cs:=[_,_,_,_,_,_,_,_]) Qr40 hS (k:=1) rfl X5g Xy rfl rfl rfl rfl ?_)))
  exact ⟨_,rfl,I,z0,_,[],_,Le.refl _,rfl,⟨none,0,rfl,Yt _,RS.nil _ _⟩,(by unfold Xt; rw [if_pos (by omega)]),((hS.drop (k:=0) rfl).drop (k:=0) rfl)⟩
 have hc23:=hb23; try simp only [Y6] at hc23
 refine .skip (.seq ?_)
 have hz:(Ul.nU s).2=0:=by omega
 have hn100:(Ul.nU s).1.length≤100:=by
  rw [hz] at hb21
  simp at hb21
  omega
 refine .t 2 rfl (.val (.fieldAddrI 0 (.of rfl) Xj4 rfl rfl Xjc rfl) rfl (.val (.ldI (.of rfl) hS (At.add hreg _) Tryz.isAgg152 rfl) rfl (.val (.makeFunc (X0 (.of rfl) X4)) rfl ?_)))
 refine WL.call Tryz.func85 rfl (X0 (.of rfl) (X0 (.of rfl) X4)) rfl (X6w a cc lo hlo (fun t=>(X9y t.urls (Ul.nU s).1).1) 86 _ Tryz.func86 rfl [ptr b7 0] B _ I (blk b7 [S (Ul.nU s).1] 9::blk b4 [I64 0,F64 0,S [],.bool false,.bool false,.bool false,S [],.slice none 0 0] 101::As) (fun w h=>hE.now h) (fun t c ht w h=>by
  obtain ⟨ta,tc,tp,tq,Q,_,rfl,_,_,hQ,hpat,_⟩:=ht
  refine (Xl1 hQ ta tc tp tq (Ul.nU s).1 (by omega) b7 B w I hpat _ h).mono fun e w' ⟨v,e1,e2,e3⟩=>⟨v,e1,?_,e3⟩
  rw [e2,Xmj hQ]) hS) ?_
 clear hS
 rintro _ w ⟨rfl,hS⟩
 refine .q 1 rfl (.nil (.seq (.seq (.q 2 rfl ?_))))
 refine WC.cond rfl (fun hb33=>?_) (fun hb33=>?_)
 ·
  have hc33:=hb33; try simp only [Y6] at hc33
  refine .seq (.region (.val (.build (cs:=[_,_,_,_,_,_,_,_]) X6 X2z rfl) rfl (.stA hS (k:=1) rfl (.of rfl) (.of rfl) rfl Xy rfl (by simp) ?_)))
  clear hS; intro w hS
  try simp only [Yl,Yf,Yc,Y9,Yj,Yo,Yd] at hS
  refine .q 2 rfl (.nil (.ret (Xdy (b:=_) (cs:=[_,_,_,_,_,_,_,_]) Qr40 hS (k:=1) rfl X5g Xy rfl rfl rfl rfl ?_)))
  exact ⟨_,rfl,I,z0,_,[],31,Le.refl _,rfl,⟨none,0,rfl,Yt _,RS.nil _ _⟩,(by
   have hno:lo.find? (fun t=>(X9y t.urls (Ul.nU s).1).1)=none:=by
    rcases X94 (fun t=>(X9y t.urls (Ul.nU s).1).1) lo with ⟨_,h⟩ | ⟨j,u,hj,_⟩
    ·exact h
    ·exfalso; rw [hj] at hc33; omega
   unfold Xt
   rw [if_neg (by omega),if_neg (by omega),hno]),((hS.drop (k:=0) rfl).drop (k:=0) rfl)⟩
 have hc33:=hb33; try simp only [Y6] at hc33
 refine .skip (.seq ?_)
 rcases X94 (fun t=>(X9y t.urls (Ul.nU s).1).1) lo with ⟨hneg,_⟩ | ⟨j,u,hj,hu,hpu,hfind⟩
 ·exfalso; rw [hneg] at hc33; omega
 rw [hj]
 obtain ⟨p,c,rfl,hc,hx0,ra,rc,pp,qq,Q,T,rfl,hrc,hrr,hQ,hpQ,hT,hpT⟩:=hE.2 j u hu
 have hjl:=(Y5.1 hu).1
 have hsm:=hrl u (Ym hu)
 have hx:=X4f hx0 8
 simp only [X1l,Y1o,Yl] at hx
 refine .drawn (fun w=>∃ J9 R,Le I J9∧Sat B w J9 (blk b7 [S (Ul.nU s).1] 9::R)) (fun j=>!([].contains j)) (by kernel_rfl) ?_
 replace hS:=hS.drew; generalize w.drew=w at hS ⊢
 have hH:∃ J9 R,Le I J9∧Sat B w J9 (blk b7 [S (Ul.nU s).1] 9::R):=⟨_,_,Le.refl _,(hS.pick 0 rfl)⟩
 refine .tp (i:=0) rfl (by kernel_rfl) (fun w=>(.move (.of rfl))) rfl (.tp (i:=1) rfl (by kernel_rfl) (fun w=>(.nilCheck (.of rfl))) rfl (.tp (i:=2) rfl (by kernel_rfl) (fun w=>(.fieldAddrI 0 (.of rfl) Xj4 rfl rfl Xjc rfl)) rfl (.tk (i:=3) rfl (by kernel_rfl) hH (fun w ⟨J9,R,hL9,hS⟩=>(.ldI (.of rfl) hS (At.add (hreg.mono hL9) _) Tryz.isAgg152 rfl)) rfl (.tp (i:=4) rfl (by kernel_rfl) (fun w=>(.move (.of rfl))) rfl (.tp (i:=5) rfl (by kernel_rfl) (fun w=>(.indexAddrI (.of rfl) (.of rfl) (by omega) (by omega) X85 X3e)) rfl (.tp (i:=6) rfl (by kernel_rfl) (fun w=>(.fieldAddrI 0 (.of rfl) Xnn rfl rfl Xy rfl)) rfl (.tk (i:=7) rfl (by kernel_rfl) hH (fun w ⟨J9,R,hL9,hS⟩=>(.ldsI (.of rfl) hS (hx.mono hL9) X5g Xy rfl (fun _ _ h=>h))) rfl (.tk (i:=9) rfl (by kernel_rfl) hH (fun w ⟨J9,R,hL9,hS⟩=>(.ld (.of rfl) hS (k:=0) rfl Qg9 rfl)) rfl ?_))))))))
 refine WD.branch [8] (by kernel_rfl) rfl (WO.cons rfl ?_ (WO.nil))
 refine .call Tryz.func88 rfl (X0 (.of rfl) X4) rfl (Xqg u ra rc hsm B _ I hrr _ hS) ?_
 clear hS
 rintro _ w ⟨J2,cs,hJ2,rfl,hsv,hS⟩
 obtain ⟨sa,sc,rfl,hq1,hq2⟩:=hsv
 have hsv:SvAt J2 u (X1q u sa sc):=⟨sa,sc,rfl,hq1,hq2⟩
 refine .nil ?_
 clear hH
 have hH:∃ J9 R,Le I J9∧Sat B w J9 (blk b7 [S (Ul.nU s).1] 9::R):=⟨_,_,hJ2,(hS.pick 0 rfl)⟩
 refine And.intro (by intro _ _; exact hH) ?_
 refine WD.branch [10] (by kernel_rfl) rfl (WO.cons rfl ?_ (WO.nil))
 refine .stA hS (k:=1) rfl (.of rfl) (.of rfl) rfl Xy rfl (by simp) ?_
 clear hS; intro w hS
 try simp only [Yl,Yf,Yc,Y9,Yj,Yo,Yd] at hS
 refine .nil ?_
 clear hH
 have hH:∃ J9 R,Le I J9∧Sat B w J9 (blk b7 [S (Ul.nU s).1] 9::R):=⟨_,_,hJ2,(hS.pick 0 rfl)⟩
 refine And.intro (by intro _ _; exact hH) ?_
 refine .tp (i:=11) rfl (by kernel_rfl) (fun w=>(.assign (.of rfl))) rfl (.tp (i:=12) rfl (by kernel_rfl) (fun w=>(.assign (.of rfl))) rfl (.done (by kernel_rfl) (.ret (Xdy (b:=_) (cs:=[_,_,_,_,_,_,_,_]) Qr40 hS (k:=1) rfl X5g Xy rfl rfl rfl rfl ?_))))
 exact ⟨_,rfl,J2,u,_,(Ul.nU s).1,0,hJ2,rfl,hsv,(by unfold Xt; rw [if_neg (by omega),if_neg (by omega),hfind]),((hS.drop (k:=0) rfl).drop (k:=0) rfl)⟩
end Go.Proofs.YtadhiihnnkcagaaGreatDoor
namespace Go.Proofs.YtadhiihnnkcagaaGreatDoor
open Gk Ul Pc Tk Tr
theorem Ex.indexU {P:Program} {n:Nat} {L:Env} {w:World} {d:Option Nat} {ty t:TypeId} {pos:String} {af:Array Edge} {g:Option (Nat×Bool)} {x y:Operand} {l:List UInt8} {i:Nat} {c:UInt8} (hx:Ev n L x (S l)) (hy:Ev n L y (U64 i)) (hc:l[i]?=some c) (hT:P.underlying t=some .string):Ex P n L w ⟨d,.index t x y,ty,pos,af,g⟩ (U8 c.toNat) w :=
 fun a ha=>by
  have h1:i<l.length:=(Y5.1 hc).1
  have h2:=(Y5.1 hc).2
  have h3:0≤(i:Int)∧(i:Int)<((ByteArray.size ⟨l.toArray⟩:Nat):Int):=⟨by omega,by show (i:Int)<(l.length:Int); omega⟩
  have h:=run_index_string (P:=P) w t ⟨l.toArray⟩ .u64 i hT
  rw [dif_pos h3] at h
  have h4:(⟨l.toArray⟩:ByteArray)[((i:Nat):Int).toNat]'(by show ((i:Nat):Int).toNat<l.length; omega)=c:=h2
  rw [h4] at h
  simp [execOp,hx a ha,hy a ha,h]
theorem Ex.bytesStr {P:Program} {n:Nat} {L:Env} {B w:World} {I:Im} {As:List X8} {k:Nat} {ty:TypeId} {pos:String} {af:Array Edge} {g:Option (Nat×Bool)} {x:Operand} {d:Option Nat} {src dst E:TypeId} {b o cap m:Nat} {l:List UInt8} {cs:List Value} (hx:Ev n L x (.slice (some (ad b o)) m cap)) (hm:l.length=m) (hS:Sat B w I As) (hk:As[k]?=some (blk b cs E)) (hs:P.underlying src=some (.slice E)) (he:P.underlying E=some (.int .u8)) (hd:P.underlying dst=some .string)
  (hc:∀ j (hj:j<l.length),cs[o+j]?=some (U8 (l[j].toNat:Int))):Ex P n L w ⟨d,.convert src dst x,ty,pos,af,g⟩ (S l) w:=fun a ha=>by
 subst hm
 have hb:=hS.block hk
 have h:=run_convert_bytes_back (P:=P) w src dst E (ad b o) cap l hs he hd (fun j hj=>by rw [X19]; exact X16 hb (hc j hj))
 simp [execOp,hx a ha,h]
theorem Xqe (d i:Nat):((d:Nat):Int) / 2 ^ (4*(i:Int)).toNat=((d / 16 ^ i:Nat):Int):=by
 rw [show (4*(i:Int)).toNat=4*i by omega,show (16:Nat) ^ i=2 ^ (4*i) by rw [Nat.pow_mul],Int.natCast_ediv,Int.natCast_pow]
 rfl
theorem X8n (k:Int):(X42 k).length≤6:=by
 unfold X42
 split
 ·simp
 ·rename_i h
  have:k=1∨k=2∨k=3∨k=4∨k=5∨k=6:=by omega
  rcases this with e | e | e | e | e | e <;> (subst e; decide)
def dg (n:Nat):UInt8:=if n<10 then UInt8.ofNat (48+n) else UInt8.ofNat (87+n)
theorem hex_dg {n:Nat} (h:n<16):HEXD[n]?=some (dg n):=(by decide:∀ n:Fin 16,HEXD[n.val]?=some (dg n.val)) ⟨n,h⟩
theorem X9o:∀ (k n:Nat),X5d (k+1) n=dg (n / 16 ^ k % 16)::X5d k n
 | 0,n=>by simp [X5d,dg]
 | k+1,n=>by
  rw [X5d,X9o k (n / 16),Y37,← Nat.pow_succ',Ys,X5d]
theorem Xju {α:Type} (z v:α) (X:List α):∀ n:Nat,(List.replicate (n+1) z ++ X).set n v=List.replicate n z ++ v::X
 | 0=>rfl
 | n+1=>by
  rw [List.replicate_succ,Ys,Y39,Xju z v X n]
  rfl
def lay (i d:Nat):List Value:=List.replicate (16 - i) (U8 0) ++ bcs (X5d i d)
theorem Xs0 {i d:Nat} (h:i≤16):(lay i d).length=16:=by
 unfold lay
 rw [Y0,Y1u,Yz,X41]; omega
theorem Xs1 {i d:Nat} (h:i<16):(lay i d).set (15 - i) (U8 (dg (d / 16 ^ i % 16)).toNat)=lay (i+1) d:=by
 unfold lay
 rw [show 16 - i=(15 - i)+1 by omega,Xju,show 16 - (i+1)=15 - i by omega,X9o]
 rfl
theorem Xsg {d j:Nat} {D:List UInt8} (h:X5d 16 d=D) (hj:j<D.length):(lay 16 d)[0+j]?=some (U8 (D[j].toNat:Int)):=by
 have e:lay 16 d=bcs D:=by unfold lay; rw [h]; rfl
 rw [e,Yd,Yy,Y4 hj]
 rfl
theorem Xml (kind:Int) (d:Nat) (hd:d<18446744073709551616) (B w:World) (I:Im) (hP:PreAt I) (As:List X8) (hS:Sat B w I As) :
  Calls Tryz.prog 138 [I64 kind,U64 (d:Nat)].toArray w (Ret fun v w'=>v=(if X42 kind=[] then .tuple #[S [],I64 8] else .tuple #[S (X42 kind ++ 45::X5d 16 d),I64 0])∧Sat B w' I As):=by
 refine calls Tryz.func138 rfl Tryz.ntmps138 rfl (.seq (.q 2 rfl (.seq (.t 1 rfl (.call Tryz.func137 rfl (X0 (.of rfl) X4) rfl (Xam kind B _ I hP _ hS) ?_)))))
 clear hS
 rintro _ w ⟨rfl,hS⟩
 refine .q 1 rfl (.nil (.seq (.seq (.q 2 rfl ?_))))
 refine WC.cond rfl (fun hb12=>?_) (fun hb12=>?_)
 ·
  refine .seq (.q 2 rfl (.ret (X1m Tryz.results138 rfl rfl ?_)))
  exact ⟨_,rfl,by rw [if_pos (by simpa using hb12)],hS⟩
 have hc12:=hb12; try simp only [Y6] at hc12
 refine .skip (.seq (.region ?_))
 refine WL.make (l:=16) hS (.of rfl) (.of rfl) X27 Xdq rfl (by simp [Tryz.t5] <;> omega) (by omega) rfl rfl rfl ?_
 clear hS; intro b13 w hS
 refine .q 1 rfl (.nil (.seq (.seq ?_)))
 replace hS:Sat B w I (blk b13 (lay 0 d) 5::As):=hS
 refine .region (.run 3 rfl ⟨⟨_,X27⟩,trivial⟩ (.nil (.block (.loop (σ:=Nat) (fun i=>[(1,U64 (d:Nat)),(6,S (X42 kind)),(7,.slice (some (ad b13 0)) 16 16),(15,I64 16),(16,I64 (i:Nat))]) (fun i w=>i≤16∧Sat B w I (blk b13 (lay i d) 5::As)) (fun i=>16 - i) 0 ⟨rfl,rfl,rfl,rfl,rfl,trivial⟩ ⟨Yp _,hS⟩ ?_))))
 rintro i w ⟨hi,hS⟩
 refine .seq (.q 1 rfl (.seq ?_))
 refine WC.cond rfl (fun hb17=>?_) (fun hb17=>?_)
 ·
  have hc17:=hb17; try simp only [Y6] at hc17
  refine .skip (.seq (.block (.seq (.q 2 rfl (.region (.run 6 rfl ⟨⟨by omega,by omega⟩,⟨by omega,by omega⟩,trivial⟩ ?_))))))
  refine WL.val (.shr (.of rfl) (.of rfl) (by omega) (by show (4*(i:Int))≤64; omega)) rfl ?_
  rw [Xqe d i]
  refine .val (.and64 (a:=d / 16 ^ i) (b:=15) (Y3q (Y54 _ _) hd) (by omega) (.of rfl) (.of rfl)) rfl ?_
  rw [show (d / 16 ^ i) &&& 15=d / 16 ^ i % 16 from Nat.and_two_pow_sub_one_eq_mod _ 4]
  refine .val (Ex.indexU (l:=HEXD) (.of rfl) (.of rfl) (hex_dg (Y36 _ (by decide))) Qu9) rfl ?_
  refine WL.val (.indexAddr (.of rfl) (.of rfl) (by omega) (by omega) X27 Qs5) rfl (WL.st1 hS (k:=0) rfl (.of rfl) (.of rfl) rfl Qs5 (by rw [Xs0 hi]; omega) ?_)
  clear hS; intro w hS
  rw [show 0+(15 - (i:Int)).toNat*1=15 - i by omega,Xs1 (show i<16 by omega)] at hS
  refine .nil (.region (.run 2 rfl ⟨⟨by omega,by omega⟩,trivial⟩ (.nil ?_)))
  refine ⟨i+1,⟨rfl,rfl,rfl,rfl,rfl,trivial⟩,⟨by (try dsimp only); omega,hS⟩,by (try dsimp only); omega⟩
 have hc17:=hb17; try simp only [Y6] at hc17
 refine .exit (.seq ?_)
 have h16:i=16:=by omega
 subst h16
 have hpl:=X8n kind
 have hdl:=X41 16 d
 generalize hdg:X5d 16 d=D at *
 refine .region (WL.run 3 rfl ⟨by (try simp only [Y0,Y8,Yk]); omega,trivial⟩ (.val (Ex.bytesStr (l:=D) (o:=0) (.of rfl) hdl hS (k:=0) rfl X27 Qu5 Qu9 (fun j hj=>Xsg hdg hj)) rfl (WL.run 3 rfl ⟨by (try simp only [Y0,Y8,Yk]); omega,trivial⟩ (.nil (.ret (X1m Tryz.results138 rfl rfl ?_))))))
 exact ⟨_,rfl,by rw [if_neg (by simpa using hb12),Ye]; rfl,hS.drop (k:=0) rfl⟩
end Go.Proofs.YtadhiihnnkcagaaGreatDoor
namespace Gk
open Go
def X4a (E:TypeId) (v:Value) (xs:List Value):X8:=fun h =>
 (v=.slice none 0 0∧xs=[]∧h=[]) ∨
  (∃ g cs p,v=.slice (some p) 0 0∧xs=[]∧h=[(g,Xj cs E)])∨∃ g cap ys rest,v=.slice (some ⟨g,List.length ys,none⟩) xs.length cap∧h=[(g,Xj (ys ++ xs ++ rest) E)]∧xs.length≤cap∧cap≤maxLen∧xs.length+rest.length=cap
section
variable {P:Program} {B w w':World} {I:Im} {As:List X8} {k:Nat} {E:TypeId} {v:Value} {xs:List Value}
theorem Sat.vecoNil (hS:Sat B w I As) (E:Nat):Sat B w I (X4a E (.slice none 0 0) []::As):=by
 obtain ⟨h,hs,hg⟩:=hS
 exact ⟨h,⟨[],h,rfl,.inl ⟨rfl,rfl,rfl⟩,hs⟩,hg⟩
theorem Sat.vecoSlice (hS:Sat B w I As) (hk:As[k]?=some (X4a E v xs)):∃ a c,v=.slice a xs.length c∧xs.length≤c∧(xs≠[]→∃ p,a=some p) :=
 hS.pure_ hk fun _ hh=>by
  rcases hh with ⟨rfl,rfl,_⟩ | ⟨_,_,p,rfl,rfl,_⟩ | ⟨g,cap,ys,rest,rfl,_,h3,_⟩
  ·exact ⟨none,0,rfl,Yt _,fun h=>absurd rfl h⟩
  ·exact ⟨some p,0,rfl,Yt _,fun h=>absurd rfl h⟩
  ·exact ⟨_,_,rfl,h3,fun _=>⟨_,rfl⟩⟩
theorem Sat.vecoCons {x:Value} (hS:Sat B w I As) (hk:As[k]?=some (X4a E v (x::xs))):∃ g off c,v=.slice (some ⟨g,off,none⟩) (xs.length+1) c∧xs.length+1≤c :=
 hS.pure_ hk fun _ hh=>by
  rcases hh with ⟨_,h,_⟩ | ⟨_,_,_,_,h,_⟩ | ⟨g,cap,ys,rest,rfl,_,h3,_⟩
  ·cases h
  ·cases h
  ·exact ⟨_,_,_,rfl,h3⟩
theorem Sat.vecoAt {p:Addr} {m c:Nat} (hS:Sat B w I As) (hk:As[k]?=some (X4a E (.slice (some p) m c) xs)) {j:Nat} {u:Value} (hu:xs[j]?=some u):w.cell? (p.add j)=some u:=by
 obtain ⟨g,hs,hg⟩:=hS
 obtain ⟨h1,h2,hp,ha,hset,_⟩:=hs.at_ hk
 rcases ha with ⟨hv,_⟩ | ⟨_,_,_,_,h,_⟩ | ⟨b,cap,ys,rest,hv,rfl,h3,h4,h5⟩
 ·cases hv
 ·subst h; simp at hu
 ·injection hv with hv1 hv2 hv3
  injection hv1 with hv1
  subst hv1
  have hb:w.heap[b]?=some (Xj (ys ++ xs ++ rest) E):=(hg.perm hp).own b _ (by simp)
  rw [show (⟨b,ys.length,none⟩:Addr).add j=ad b (ys.length+j) from X19 b ys.length j]
  refine X16 hb ?_
  have hj:=(Y5.1 hu).1
  rw [Ye,Yv (by omega),Y2e,Yg hj]
  exact hu
theorem Sat.vecoCut {g off n c:Nat} {x:Value} (hS:Sat B w I As) (hk:As[k]?=some (X4a E (.slice (some ⟨g,off,none⟩) n c) (x::xs))):Sat B w I (As.set k (X4a E (sliced (some ⟨g,off,none⟩) 1 n c 1) xs)) :=
 hS.say hk fun _ hh=>by
  rcases hh with ⟨hv,_⟩ | ⟨_,_,_,_,h,_⟩ | ⟨b,cap,ys,rest,hv,rfl,h3,h4,h5⟩
  ·cases hv
  ·cases h
  ·injection hv with hv1 hv2 hv3
   injection hv1 with hv1
   injection hv1 with hv1 hv4
   subst hv1; subst hv3; subst hv4
   simp only [Y8] at h3 h5 hv2
   by_cases h0:c=1
   ·have e:xs=[]:=Yh (by omega)
    subst e
    refine .inr <| .inl ⟨g,_,⟨g,ys.length,none⟩,?_,rfl,rfl⟩
    unfold sliced
    rw [if_pos h0,hv2,h0]
    rfl
   ·refine .inr <| .inr ⟨g,c - 1,ys ++ [x],rest,?_,by simp,by omega,by omega,by omega⟩
    unfold sliced
    rw [if_neg h0,hv2,Y0]
    rfl
theorem X87 (w:World) (t ty e:TypeId) (i:TypeInfo) (ht:P.underlying t=some (.slice e)) (hi:P.info? e=some i)
  (g off sLen sCap:Nat) (cur:Array Value) (hg:w.heap[g]?=some (.cells cur e (0,0)))
  (a:Addr) (m c:Nat) (news:List Value) (hl:news.length=m*i.size) (hnews:∀ j u,news[j]?=some u→w.cell? (a.add j)=some u) (h1:∀ u∈news,u.oneCell'=true)
  (hroom:sLen+m≤sCap) (hfit:off+sLen*i.size+news.length≤cur.size) :
  (Builtin.append_ #[t,t] ty #[.slice (some ⟨g,off,none⟩) sLen sCap,.slice (some a) m c]).run P w =
   .ok (.slice (some ⟨g,off,none⟩) (sLen+m) sCap) (w.setRow g (cur.toList.take (off+sLen*i.size) ++ news ++ cur.toList.drop (off+sLen*i.size+news.length)).toArray):=by
 have hf:=run_firstCells_some (P:=P) w i.size m a m c news hl hnews
 have hst:=run_storeCells_at P g (off+sLen*i.size) e news 0 cur w hg (by simpa using hfit) h1
 simp only [Y2h] at hst
 simp [Builtin.append_,run_underlying ht,Go.sizeOf,typeInfo,hi,Builtin.lenOf,hroom,hf,Addr.add_lit,hst]
theorem zc_len (z:Array Value) (hz:z.size=1) (n:Nat):(Builtin.zeroCells z n).toList.length=n:=by rw [Y30,size_zeroCells,hz,Y1k]
theorem X91 (hS:Sat B w I As) {t ty:TypeId} {i:TypeInfo} {z:Value} {bytes:Nat} (ht:P.underlying t=some (.slice E)) (hi:P.info? E=some i) (hz:i.zero=some z)
  (hsize:i.size=1) (hby:i.bytes=bytes) (hzs:z.cells.size=1) (hk:As[k]?=some (X4a E v xs)) {p:Addr} {m c:Nat} {news:List Value} (hl:news.length=m) (hm:0<m)
  (hnews:∀ j u,news[j]?=some u→w.cell? (p.add j)=some u) (h1:∀ u∈news,u.oneCell'=true) (h63:xs.length+m≤maxLen) (hbytes:(xs.length+m)*bytes≤140737488355328) :
  ∃ v' w',(Builtin.append_ #[t,t] ty #[v,.slice (some p) m c]).run P w=.ok v' w'∧Sat B w' I (As.set k (X4a E v' (xs ++ news))):=by
 subst hby
 have hlk:k<As.length:=(Y5.1 hk).1
 have hsmall:xs.length+m≤9223372036854775807:=by simp only [maxLen] at h63; omega
 have fresh:∀ (xs:List Value) (old:Nat),xs.length+m≤maxLen→∀ (As':List X8),Sat B w I As'→k<As'.length→Sat B (w.drew.alloc (.cells (xs.toArray ++ news.toArray ++ Builtin.zeroCells z.cells (grownCap w (xs.length+m) old E - (xs.length+m))) E)) I
   (As'.set k (X4a E (.slice (some ⟨w.heap.size,0,none⟩) (xs.length+m) (grownCap w (xs.length+m) old E)) (xs ++ news))):=by
  intro xs old h63 As' hS hlk
  obtain ⟨A0,hk⟩:∃ A0,As'[k]?=some A0:=⟨_,Y4 hlk⟩
  have hge:=grownCap_ge w (xs.length+m) old E
  have hcm:grownCap w (xs.length+m) old E≤maxLen:=grownCap_le_maxLen w (xs.length+m) old E h63
  have hS2:=hS.drew.alloc (.cells (xs.toArray ++ news.toArray ++ Builtin.zeroCells z.cells (grownCap w (xs.length+m) old E - (xs.length+m))) E)
  have e1:(own w.drew.heap.size (.cells (xs.toArray ++ news.toArray ++ Builtin.zeroCells z.cells (grownCap w (xs.length+m) old E - (xs.length+m))) E))=blk w.heap.size ((xs ++ news) ++ (Builtin.zeroCells z.cells (grownCap w (xs.length+m) old E - (xs.length+m))).toList) E:=by
   unfold blk Xj
   congr 2
   apply Array.ext'
   simp
  rw [e1] at hS2
  have hS3:=hS2.say (k:=0) (A':=X4a E (.slice (some ⟨w.heap.size,0,none⟩) (xs.length+m) (grownCap w (xs.length+m) old E)) (xs ++ news)) rfl (fun _ hh=>.inr <| .inr ⟨w.heap.size,_,[],_,by rw [Y0,hl]; rfl,by rw [Yf]; exact hh,by rw [Y0,hl]; exact hge,hcm,by
   rw [Y0,hl,zc_len _ hzs]; omega⟩)
  obtain ⟨h,hs,hg⟩:=hS3
  obtain ⟨q1,q2,rfl,hq1,hq2⟩:=hs
  obtain ⟨h1',h2',hp,_,hset,_⟩:=SepAll.at_ hk hq2
  obtain ⟨h',hs',hp'⟩:=hset _ q1 hq1
  have g:=hg.perm (hp.append_left q1)
  have:(q1 ++ (h1' ++ h2')).Perm ((q1 ++ h2') ++ h1'):=by
   rw [Ye]
   exact (Y1h).append_left q1
  exact ⟨h',hs',(g.perm this).left.perm hp'.symm⟩
 obtain ⟨g,hs,hg⟩:=hS
 obtain ⟨h1',h2',hp,ha,hset,_⟩:=hs.at_ hk
 rcases ha with ⟨rfl,rfl,_⟩ | ⟨_,_,q,rfl,rfl,_⟩ | ⟨b,cap,ys,rest,rfl,rfl,h3,h4,h5⟩
 ·have hr:=run_append_nil (P:=P) w t ty E i z ht hi hz p m c news (by rw [hsize,hl,Y1k]) hnews hm (by simp only [Yk,Yd] at hsmall; omega) (by have hb:=hbytes; simp only [Yk,Yd] at hb; omega)
  have hgr:=fresh [] 0 (by simpa using h63) As ⟨g,hs,hg⟩ hlk
  simp only [Yk,Yd,Yf,Y4k] at hgr ⊢
  exact ⟨_,_,hr,hgr⟩
 ·have hr:=run_append_grow (P:=P) w t ty E i z ht hi hz q 0 0 [] (by simp) (fun j u hu=>by simp at hu) p m c news (by rw [hsize,hl,Y1k]) hnews (by omega) (by simp only [Yk,Yd] at hsmall; omega) (growslice_fits (by omega) (by simpa using hbytes))
  have hgr:=fresh [] 0 (by simpa using h63) As ⟨g,hs,hg⟩ hlk
  simp only [Yk,Yd,Yf,Y4k] at hgr hr ⊢
  exact ⟨_,_,hr,hgr⟩
 ·obtain ⟨h',hs',hp'⟩:=hset (blk b (ys ++ xs ++ rest) E) _ rfl
  have hSo:Sat B w I (As.set k (blk b (ys ++ xs ++ rest) E)):=⟨h',hs',hg.perm (hp.trans hp'.symm)⟩
  have hko:(As.set k (blk b (ys ++ xs ++ rest) E))[k]?=some (blk b (ys ++ xs ++ rest) E):=by simp [hlk]
  have hblk:=hSo.block hko
  by_cases hroom:xs.length+m≤cap
  ·have hr:=X87 (P:=P) w t ty E i ht hi b ys.length xs.length cap (ys ++ xs ++ rest).toArray hblk p m c news (by rw [hsize,hl,Y1k]) hnews h1 hroom (by
    simp only [Y3t,Y0,hsize]; omega)
   have e2:((ys ++ xs ++ rest).take (ys.length+xs.length*i.size) ++ news ++ (ys ++ xs ++ rest).drop (ys.length+xs.length*i.size+news.length)).toArray=(ys ++ (xs ++ news) ++ rest.drop news.length).toArray:=by
    rw [hsize,Y1k,← Y0,Y2u,Y4z,Y13 (by omega:(ys ++ xs).length≤(ys ++ xs).length+news.length)]
    simp
   rw [e2] at hr
   refine ⟨_,_,hr,?_⟩
   have hw:=hSo.write (w':=w.setRow b (ys ++ (xs ++ news) ++ rest.drop news.length).toArray) (o':=Xj (ys ++ (xs ++ news) ++ rest.drop news.length) E) hko rfl rfl rfl (setRow_heap w b _ _ E _ hblk) (fun x hx=>setRow_other w b x _ hx)
   have hsh:=hw.say (k:=k) (A:=own b (Xj (ys ++ (xs ++ news) ++ rest.drop news.length) E)) (A':=X4a E (.slice (some ⟨b,ys.length,none⟩) (xs.length+m) cap) (xs ++ news)) (by simp [hlk]) (fun _ hh=>.inr <| .inr ⟨b,cap,ys,rest.drop news.length,by rw [Y0,hl],hh,by rw [Y0,hl]; exact hroom,h4,by
    rw [Y0,Yn]; omega⟩)
   simpa using hsh
  ·have holds:∀ j u,xs[j]?=some u→w.cell? ((⟨b,ys.length,none⟩:Addr).add j)=some u:=fun j u hu=>by
    rw [show (⟨b,ys.length,none⟩:Addr).add j=ad b (ys.length+j) from X19 b ys.length j]
    refine X16 hblk ?_
    have hj:=(Y5.1 hu).1
    rw [Ye,Yv (by omega),Y2e,Yg hj]
    exact hu
   have hr:=run_append_grow (P:=P) w t ty E i z ht hi hz ⟨b,ys.length,none⟩ xs.length cap xs (by rw [hsize,Y1k]) holds p m c news (by rw [hsize,hl,Y1k]) hnews (by omega) (by omega) (growslice_fits (by omega) hbytes)
   exact ⟨_,_,hr,fresh xs cap h63 As ⟨g,hs,hg⟩ hlk⟩
theorem WL.appendO {n d:Nat} {K:X3r} {L:Env} {ops:Array Oper} {rest:List Oper} {ty:TypeId} {pos:String} {af:Array Edge} {t:TypeId} {x y:Operand} {m c:Nat} {a:Option Addr} {news:List Value} {i:TypeInfo} {z:Value} {bytes:Nat} (hS:Sat B w I As) (hx:Ev n L x v) (hy:Ev n L y (.slice a m c)) (hr:RS I a 1 m news)
  (hk:As[k]?=some (X4a E v xs)) (ht:P.underlying t=some (.slice E)) (hi:P.info? E=some i) (hz:i.zero=some z) (hsize:i.size=1) (hby:i.bytes=bytes) (hzs:z.cells.size=1)
  (h1:news.all Value.oneCell'=true) (h63:(xs.length+m)*bytes≤140737488355328∧xs.length+m≤maxLen) (hd:Nat.blt d n=true)
  (h:∀ v' w',Sat B w' I (As.set k (X4a E v' (xs ++ news)))→WL P n ops K rest ((d,v')::L) w') :
  WL P n ops K (⟨some d,.call ⟨.builtin .append,#[x,y],#[t,t]⟩,ty,pos,af,none⟩::rest) L w:=by
 rcases Y1n m with h0 | h0
 ·subst h0
  have hy0:news=[]:=Yh (by simpa using hr.1)
  subst hy0
  obtain ⟨a0,c0,rfl,hc0,_⟩:=hS.vecoSlice hk
  have hr:(Builtin.append_ #[t,t] ty #[.slice a0 xs.length c0,.slice a 0 c]).run P w=.ok (.slice a0 xs.length c0) w:=by
   cases a0 <;> cases a <;> simp [Builtin.append_,run_underlying ht,Go.sizeOf,typeInfo,hi,Builtin.lenOf,Builtin.firstCells,loadCells,loadCellsFrom,storeCells,hc0]
  have hlk:k<As.length:=(Y5.1 hk).1
  have h2:=h (.slice a0 xs.length c0) w (by
   have:As.set k (X4a E (.slice a0 xs.length c0) (xs ++ []))=As:=by
    rw [Yc]
    have:=(Y5.1 hk).2
    rw [← this,Y3y]
   rw [this]; exact hS)
  refine WL.val (v:=.slice a0 xs.length c0) (w':=w) (fun a ha=>?_) hd h2
  simp [execOp,resolve,invoke,builtin,hx a ha,hy a ha,hr]
 ·obtain ⟨p,rfl,hA⟩:=hr.2 h0
  obtain ⟨v',w',hr',hS'⟩:=X91 (P:=P) (ty:=ty) hS ht hi hz hsize hby hzs hk (p:=p) (m:=m) (c:=c) (by have:=hr.1; omega) h0 (fun j u hu=>X2o hS hA hu) (Y1a.1 h1) h63.2 h63.1
  refine WL.val (v:=v') (w':=w') (fun a ha=>?_) hd (h _ _ hS')
  simp [execOp,resolve,invoke,builtin,hx a ha,hy a ha,hr']
end
end Gk
namespace Go.Proofs.YtadhiihnnkcagaaGreatDoor
open Gk Ul Pc Tk Tr
theorem Xks:Bld Tryz.prog 168 [(0,1)] [.slice none 0 0]:=X2l Xdl Tryz.zeroValue168 (fun w=>by simp [go_sem])
theorem Xmx (mb:Nat) (ma:Option Addr) (mc:Nat) (D:List Nat) (B w:World) (I:Im) (As:List X8) (hS:Sat B w I (blk mb [.slice ma D.length mc] 168::X4a 118 (.slice ma D.length mc) (D.map fun d=>U64 (d:Nat))::As)) :
  Calls Tryz.prog 55 [ptr mb 0].toArray w (Ret fun v w'=>v=I64 (D.length:Nat)∧Sat B w' I (blk mb [.slice ma D.length mc] 168::X4a 118 (.slice ma D.length mc) (D.map fun d=>U64 (d:Nat))::As)):=by
 refine calls Tryz.func55 rfl Tryz.ntmps55 rfl (.seq (.q 1 rfl (.seq (.t 2 rfl ?_))))
 refine WL.val (.fieldAddr 0 (.of rfl) Xdl rfl rfl X9z rfl) rfl (WL.val (.ld (.of rfl) hS (k:=0) rfl Xhz rfl) rfl (.run 2 rfl ⟨⟨_,Xeb⟩,trivial⟩ (.nil (.ret (X9 Tryz.results55 rfl ?_)))))
 exact ⟨_,rfl,rfl,hS⟩
theorem Xfp (l:List Nat):(l.map fun d=>U64 (d:Nat)).all Value.oneCell'=true:=by
 rw [List.all_map]
 exact Y1a.2 fun _ _=>rfl
theorem Xgy (mb:Nat) (ma:Option Addr) (mc:Nat) (D:List Nat) (hD:D.length≤1000000) (a:Option Addr) (c:Nat) (l:List Nat) (hl:l.length≤1000000) (B w:World) (I:Im) (hr:RS I a 1 l.length (l.map fun d=>U64 (d:Nat))) (As:List X8) (hS:Sat B w I (blk mb [.slice ma D.length mc] 168::X4a 118 (.slice ma D.length mc) (D.map fun d=>U64 (d:Nat))::As)) :
  Calls Tryz.prog 42 [ptr mb 0,.slice a l.length c].toArray w (Ret fun v w'=>v=.tuple #[]∧∃ a c,Sat B w' I (blk mb [.slice a (D ++ l).length c] 168::X4a 118 (.slice a (D ++ l).length c) ((D ++ l).map fun d=>U64 (d:Nat))::As)):=by
 refine calls Tryz.func42 rfl Tryz.ntmps42 rfl (.t 3 rfl ?_)
 refine WL.val (.fieldAddr 0 (.of rfl) Xdl rfl rfl X9z rfl) rfl (WL.val (.ld (.of rfl) hS (k:=0) rfl Xhz rfl) rfl (.q 1 rfl ?_))
 refine WL.appendO (bytes:=8) hS (.of rfl) (.of rfl) hr (k:=1) rfl Xeb (i:=Tryz.t118) (by kernel_rfl) rfl rfl rfl rfl (Xfp l) ⟨by rw [Yz]; omega,by rw [Yz]; unfold maxLen; omega⟩ rfl ?_
 clear hS; intro v10 w hS
 obtain ⟨a10,c10,rfl,hc10,_⟩:=hS.vecoSlice (k:=1) rfl
 refine .q 1 rfl (WL.val (.fieldAddr 0 (.of rfl) Xdl rfl rfl X9z rfl) rfl (WL.st1 hS (k:=0) rfl (.of rfl) (.of rfl) rfl X9z (by simp) ?_))
 clear hS; intro w hS
 refine .nil (X8g Tryz.results42 ?_)
 refine ⟨_,rfl,rfl,a10,c10,?_⟩
 rw [← Yw,Yz] at hS
 exact hS
theorem Xhb (B w:World) (I:Im) (As:List X8) (hS:Sat B w I As) :
  Calls Tryz.prog 136 [.slice none 0 0].toArray w (Ret fun v w'=>v=.slice none 0 0∧Sat B w' I As):=by
 refine calls Tryz.func136 rfl Tryz.ntmps136 rfl (.seq (.q 1 rfl (.seq (.seq (.t 1 rfl (.val (Ex.slNil (.of rfl) (.of rfl) Xeb) rfl (.nil (.condT (rfl) (.seq (.q 1 rfl (.ret (X9 Tryz.results136 rfl ?_))))))))))))
 exact ⟨_,rfl,rfl,hS⟩
theorem Xg0 (B w:World) (I:Im) (As:List X8) (hS:Sat B w I As) :
  Calls Tryz.prog 93 [.slice none 0 0].toArray w (Ret fun v w'=>∃ mb,v=ptr mb 0∧Sat B w' I (blk mb [.slice none (([]:List Nat)).length 0] 168::X4a 118 (.slice none (([]:List Nat)).length 0) ((([]:List Nat)).map fun d=>U64 (d:Nat))::As)):=by
 refine calls Tryz.func93 rfl Tryz.ntmps93 rfl (.seq (.q 1 rfl (.seq (.t 1 rfl (.call Tryz.func136 rfl (X0 (.of rfl) X4) rfl (Xhb B _ I _ hS) ?_)))))
 clear hS
 rintro _ w ⟨rfl,hS⟩
 refine .val (.build (cs:=[_]) (X5 (.of rfl) X6) Xks rfl) rfl (.boxA (cs:=[_]) hS (.of rfl) rfl ?_)
 clear hS; intro b6 w hS
 refine .q 1 rfl (.nil (.ret (X9 Tryz.results93 rfl ?_)))
 exact ⟨_,rfl,_,rfl,(hS.vecoNil 118).pick 1 rfl⟩
def X32 (pr:List UInt8→Bool) (kind:Int) (D:List Nat):(List UInt8×Nat)×List Nat :=
 if X42 kind=[] then (([],8),D) else match D with
 | []=>(([],6),[])
 | d::D=>if pr (X42 kind ++ 45::X5d 16 d) then (([],7),D) else ((X42 kind ++ 45::X5d 16 d,0),D)
theorem Xmr (mb:Nat) (ma:Option Addr) (mc:Nat) (D:List Nat) (hD:∀ d∈D,d<18446744073709551616) (kind:Int) (pr:List UInt8→Bool) (fid:FuncId) (fn:Func) (hfn:Tryz.prog.funcs[fid]?=some fn) (hcal:Xo fn=true) (capv:List Value) (B w:World) (I:Im) (hP:PreAt I) (As:List X8) (hf:∀ (M:List X8) (s:List UInt8) w,Sat B w I (M ++ As)→Calls Tryz.prog fid ([S s] ++ capv).toArray w (Ret fun v w'=>v=.bool (pr s)∧Sat B w' I (M ++ As))) (hS:Sat B w I (blk mb [.slice ma D.length mc] 168::X4a 118 (.slice ma D.length mc) (D.map fun d=>U64 (d:Nat))::As)) :
  Calls Tryz.prog 98 [ptr mb 0,I64 kind,.func (.func fid) #[] capv.toArray].toArray w (Ret fun v w'=>v=.tuple #[S (X32 pr kind D).1.1,I64 ((X32 pr kind D).1.2:Nat)]∧∃ a c,Sat B w' I (blk mb [.slice a ((X32 pr kind D).2).length c] 168::X4a 118 (.slice a ((X32 pr kind D).2).length c) (((X32 pr kind D).2).map fun d=>U64 (d:Nat))::As)):=by
 refine calls Tryz.func98 rfl Tryz.ntmps98 rfl (.seq (.q 2 rfl (.seq (.block (.seq (.t 1 rfl (.call Tryz.func137 rfl (X0 (.of rfl) X4) rfl (Xam kind B _ I hP _ hS) ?_)))))))
 clear hS
 rintro _ w ⟨rfl,hS⟩
 refine .q 2 rfl (.nil ?_)
 refine WC.cond rfl (fun hb10=>?_) (fun hb10=>?_)
 ·
  refine .seq (.q 2 rfl (.ret (X1m Qr98 rfl rfl ?_)))
  have e:X32 pr kind D=(([],8),D):=by unfold X32; rw [if_pos (by simpa using hb10)]
  rw [e]
  exact ⟨_,rfl,rfl,ma,mc,hS⟩
 refine .seq (.t 2 rfl ?_)
 refine WL.val (.fieldAddr 0 (.of rfl) Xdl rfl rfl X9z rfl) rfl (WL.val (.ld (.of rfl) hS (k:=0) rfl Xhz rfl) rfl (.run 3 rfl ⟨⟨_,Xeb⟩,trivial⟩ (.nil ?_)))
 refine WC.cond rfl (fun hb14=>?_) (fun hb14=>?_)
 ·
  refine .seq (.q 2 rfl (.ret (X1m Qr98 rfl rfl ?_)))
  obtain rfl:D=[]:=by
   cases D with
   | nil=>rfl
   | cons d D=>exfalso; simp at hb14; omega
  have e:X32 pr kind []=(([],6),[]):=by unfold X32; rw [if_neg (by simpa using hb10)]
  rw [e]
  exact ⟨_,rfl,rfl,ma,mc,hS⟩
 refine .skip (.seq ?_)
 have hk0:¬ X42 kind=[]:=by simpa using hb10
 obtain ⟨d,D,rfl⟩:∃ d D',D=d::D':=by
  cases D with
  | nil=>simp at hb14
  | cons d D'=>exact ⟨d,D',rfl⟩
 obtain ⟨mg,mo,mc2,hv,hmc⟩:=hS.vecoCons (k:=1) rfl
 injection hv with hv1 hv2 hv3
 subst hv1; subst hv3
 have hx:=hS.vecoAt (k:=1) rfl (j:=0) (u:=U64 (d:Nat)) rfl
 simp only [Yz] at hmc
 refine .t 3 rfl (WL.val (.fieldAddr 0 (.of rfl) Xdl rfl rfl X9z rfl) rfl (WL.val (.ld (.of rfl) hS (k:=0) rfl Xhz rfl) rfl (WL.val (.indexAddr (.of rfl) (.of rfl) (by omega) (by omega) Xeb Xfy) rfl (.val (ldC (.of rfl) hx Tryz.isAgg118) rfl (.call Tryz.func138 rfl (X0 (.of rfl) (X0 (.of rfl) X4)) rfl (Xml kind d (hD d (by simp)) B _ I hP _ hS) ?_)))))
 clear hS
 rintro _ w ⟨rfl,hS⟩
 rw [if_neg hk0]
 refine .q 5 rfl (.nil (.seq (.t 3 rfl ?_)))
 refine WL.val (.fieldAddr 0 (.of rfl) Xdl rfl rfl X9z rfl) rfl (WL.val (.ld (.of rfl) hS (k:=0) rfl Xhz rfl) rfl (WL.val (.slcFrom (s:=1) (.of rfl) (.of rfl) (by omega) (by simp only [Y8]; omega) Xeb Xfy) rfl ?_))
 replace hS:=hS.vecoCut (k:=1) rfl
 refine .q 1 rfl (WL.val (.fieldAddr 0 (.of rfl) Xdl rfl rfl X9z rfl) rfl (WL.st1 hS (k:=0) rfl (.of rfl) (.of rfl) rfl X9z (by simp) ?_))
 clear hS; intro w hS
 refine .nil (.seq (.seq (.t 2 rfl (.vcall (cap:=capv) hfn hcal (.of rfl) (X0 (.of rfl) X4) rfl (hf [_,_] _ w hS) ?_))))
 clear hS
 rintro _ w ⟨rfl,hS⟩
 refine .nil (WC.cond rfl (fun hb42=>?_) (fun hb42=>?_))
 ·
  refine .seq (.q 2 rfl (.ret (X1m Qr98 rfl rfl ?_)))
  have e:X32 pr kind (d::D)=(([],7),D):=by unfold X32; rw [if_neg hk0]; exact if_pos hb42
  rw [e]
  exact ⟨_,rfl,rfl,_,_,hS⟩
 refine .skip (.seq (.q 3 rfl (.ret (X1m Qr98 rfl rfl ?_))))
 have e:X32 pr kind (d::D)=((X42 kind ++ 45::X5d 16 d,0),D):=by unfold X32; rw [if_neg hk0]; exact if_neg (by rw [hb42]; decide)
 rw [e]
 exact ⟨_,rfl,rfl,_,_,hS⟩
def psL (p:Nat→Int):List Int:=[p 0,p 1,p 2,p 3,p 4,p 5,p 6,p 7,p 8,p 9,p 10,p 11,p 12,p 13,p 14,p 15,p 16,p 17,p 18,p 19,p 20]
structure Wp where
 wb:Nat
 tb:Nat
 mb:Nat
 ub:Nat
 pr:Addr
 lo:List Sv
 us:List Us
 ps:Nat→Int
structure Wd where
 room:Int
 l:List Rec
 D:List Nat
 now:Int
def wdC (p:Wp) (ω:Wd):List Value:=ptr p.tb 0::ptr p.mb 0::.pointer (some p.pr)::ptr p.ub 0::((psL p.ps).map I64 ++ [I64 ω.now])
def wdT (p:Wp) (ω:Wd):Option Addr×Nat×Option Addr×Nat→List X8:=fun ⟨a,c,ma,mc⟩=>[blk p.wb (wdC p ω) 52,blk p.tb [I64 ω.room,.slice a ω.l.length c] 127,Vec 45 10 (.slice a ω.l.length c) ω.l.length (Xf ω.l),blk p.mb [.slice ma ω.D.length mc] 168,X4a 118 (.slice ma ω.D.length mc) (ω.D.map fun d=>U64 (d:Nat))]
def wdA (p:Wp) (ω:Wd):X8:=Box (wdT p ω)
structure WpOk (I:Im) (p:Wp):Prop where
 reg:RegAt I p.pr p.lo
 tab:TabAt I p.ub p.us
 lo:p.lo.length≤100000
 rel:∀ s∈p.lo,s.rel.length≤1000000
 fit:∀ u∈p.us,u.fits
 att:∀ u∈p.us,u.attrs.length≤8
 known:Known I
 pre:PreAt I
theorem RegAt.mono {I J:Im} {pr:Addr} {lo:List Sv} (h:RegAt I pr lo) (hl:Le I J):RegAt J pr lo:=by
 obtain ⟨a,c,E,h1,h2,h3⟩:=h
 exact ⟨a,c,E,h1.mono hl,h2,h3.mono hl⟩
theorem WpOk.mono {I J:Im} {p:Wp} (h:WpOk I p) (hl:Le I J):WpOk J p:=⟨h.reg.mono hl,h.tab.mono hl,h.lo,h.rel,h.fit,h.att,h.known.mono hl,h.pre.mono hl⟩
structure X46 (ω:Wd):Prop where
 len:ω.l.length≤64
 wf:Wf ω.l
 D:∀ d∈ω.D,d<18446744073709551616
 now:0≤ω.now∧ω.now≤1099511627776
 room:ω.room≤64
theorem Sat.swap {B w:World} {I:Im} {M As:List X8} (hS:Sat B w I (M ++ As)):Sat B w I (As ++ M):=by
 obtain ⟨h,hs,hg⟩:=hS
 obtain ⟨h1,h2,rfl,h3,h4⟩:=SepAll.app.1 hs
 exact ⟨h2 ++ h1,SepAll.app.2 ⟨h2,h1,rfl,h4,h3⟩,hg.perm Y1h⟩
def X9x (n:Int):Bool:=decide (n<0) || decide (1099511627776<n)
def iC (n:Int):List Value:=[I64 n]
def X69 (p:Nat→Int):Bool:=(!((psL p).take 7).any X9x && !(((psL p).drop 7).take 7).any X9x) && !((psL p).drop 14).any X9x
theorem Xbn {B w:World} {I:Im} {As:List X8} {k b E:Nat} {cs:List Value} {o:Nat} {l:List Int} (hS:Sat B w I As) (hk:As[k]?=some (blk b cs E)) (h:∀ (i:Nat) n,l[i]?=some n→cs[o+i]?=some (I64 n)):Xbv w iC 1 (some (ad b o)) l:=fun i n hn=>by
 refine ⟨_,rfl,fun j v hj=>?_⟩
 have hb:=hS.block (b:=b) (o:=Xj cs E) hk
 match j,hj with
 | 0,hj =>
  cases hj
  rw [X19,X19]
  refine X16 hb ?_
  rw [Y1k]
  exact h i n hn
 | j+1,hj=>simp [iC] at hj
theorem Xag (a:Option Addr) (cap:Nat) (l:List (Int)) (hln:l.length≤9223372036854775807) (pr:Int→Bool) (fid:FuncId) (fn:Func) (hfn:Tryz.prog.funcs[fid]?=some fn) (hcal:Xo fn=true) (capv:List Value) (B w:World) (I:Im) (As:List X8) (hE:∀ w,Sat B w I As→Xbv w iC 1 a l) (hf:∀ (r:Int) (hr:r∈l) w,Sat B w I As→Calls Tryz.prog fid ([I64 r] ++ capv).toArray w (Ret fun v w'=>v=.bool (pr r)∧Sat B w' I As)) (hS:Sat B w I As) :
  Calls Tryz.prog 178 [.slice a l.length cap,.func (.func fid) #[] capv.toArray].toArray w (Ret fun v w'=>v=I64 (X24 pr l 0)∧Sat B w' I As):=by
 refine calls Tryz.func178 rfl Tryz.ntmps178 rfl (.seq (.q 1 rfl (.seq (.seq (.region (.run 3 rfl ⟨⟨_,Xd⟩,trivial⟩ (.nil (.block (.loop (σ:=Nat) (fun i=>[(0,.slice a l.length cap),(1,.func (.func fid) #[] capv.toArray),(7,I64 (l.length:Nat)),(8,I64 (i:Nat))]) (fun i w=>i≤l.length∧(∀ (j:Nat) t,j<i→l[j]?=some t→pr t=false)∧Sat B w I As) (fun i=>l.length - i) 0 ⟨rfl,rfl,rfl,rfl,trivial⟩ ⟨Yp _,fun _ _ h=>absurd h (by omega),hS⟩ ?_)))))))))
 rintro i w ⟨hi,hno,hS⟩
 refine .seq (.q 1 rfl (.seq ?_))
 refine WC.cond rfl (fun hb9=>?_) (fun hb9=>?_)
 ·
  have hc9:=hb9; try simp only [Y6] at hc9
  refine .skip (.seq (.block (.seq ?_)))
  obtain ⟨r,hr⟩:∃ r,l[i]?=some r:=⟨_,Y4 (by omega)⟩
  obtain ⟨p,rfl,hx⟩:=hE w hS i r hr
  refine .q 2 rfl (.seq (.t 3 rfl ?_))
  refine WL.val (.indexAddrI (.of rfl) (.of rfl) (by omega) (by omega) Xd Qs3) rfl ?_
  refine WL.val (.ld1 (.of rfl) (by have h9:=hx 0 _ rfl; simpa [Addr.add_add] using h9) Qg3) rfl ?_
  refine .vcall (cap:=capv) hfn hcal (.of rfl) (X0 (.of rfl) X4) rfl (hf r (Ym hr) w hS) ?_
  clear hS
  rintro _ w ⟨rfl,hS⟩
  refine .nil (WC.cond rfl (fun hb16=>?_) (fun hb16=>?_))
  ·
   refine .seq (.q 2 rfl (.ret (X9 Tryz.results178 rfl ?_)))
   exact ⟨_,rfl,by rw [X54 hno hr hb16],hS⟩
  have hc16:=hb16; try simp only [Y6] at hc16
  refine .skip (.region (.run 2 rfl ⟨⟨by omega,by omega⟩,trivial⟩ (.nil ?_)))
  refine ⟨i+1,⟨rfl,rfl,rfl,rfl,trivial⟩,⟨by (try dsimp only); omega,fun j t hj ht=>?_,hS⟩,by (try dsimp only); omega⟩
  rcases Yr j i with h1 | h1
  ·exact hno j t h1 ht
  ·have e:j=i:=by omega
   subst e
   rw [hr] at ht; cases ht
   exact hb16
 have hc9:=hb9; try simp only [Y6] at hc9
 refine .exit (.seq (.q 1 rfl (.ret (X9 Tryz.results178 rfl ?_))))
 exact ⟨_,rfl,by rw [X3o (fun j t ht=>hno j t (by have:=(Y5.1 ht).1; omega) ht)],hS⟩
theorem X28 (a:Option Addr) (cap:Nat) (l:List (Int)) (hln:l.length≤9223372036854775807) (pr:Int→Bool) (fid:FuncId) (fn:Func) (hfn:Tryz.prog.funcs[fid]?=some fn) (hcal:Xo fn=true) (capv:List Value) (B w:World) (I:Im) (As:List X8) (hE:∀ w,Sat B w I As→Xbv w iC 1 a l) (hf:∀ (r:Int) (hr:r∈l) w,Sat B w I As→Calls Tryz.prog fid ([I64 r] ++ capv).toArray w (Ret fun v w'=>v=.bool (pr r)∧Sat B w' I As)) (hS:Sat B w I As) :
  Calls Tryz.prog 135 [.slice a l.length cap,.func (.func fid) #[] capv.toArray].toArray w (Ret fun v w'=>v=.bool (l.any pr)∧Sat B w' I As):=by
 refine calls Xmn rfl Tryz.ntmps135 rfl (.seq (.q 1 rfl (.seq (.t 2 rfl (.call Tryz.func178 rfl (X0 (.of rfl) (X0 (.of rfl) X4)) rfl (Xag a cap l hln pr fid fn hfn hcal capv B _ I As hE hf hS) ?_)))))
 clear hS
 rintro _ w ⟨rfl,hS⟩
 refine .q 2 rfl (.nil (.ret (X9 Tryz.results135 rfl ?_)))
 exact ⟨_,rfl,by rw [← X71 pr l 0],hS⟩
theorem Xbx (n:Int) (B w:World) (I:Im) (As:List X8) (hS:Sat B w I As) :
  Calls Tryz.prog 134 [I64 n].toArray w (Ret fun v w'=>v=.bool (X9x n)∧Sat B w' I As):=by
 refine calls Xmu rfl Tryz.ntmps134 rfl (.seq (.q 1 rfl (.seq (.t 3 rfl (.gval rfl rfl (fun hg1=>(.move (.of rfl))) rfl (.gval rfl rfl (fun hg1=>(.gtr (.gd hg1 rfl) (.of rfl))) rfl (.val (.por (.of rfl) (.of rfl) (.of rfl)) rfl (.q 1 rfl (.nil (.ret (X9 Tryz.results134 rfl ?_)))))))))))
 exact ⟨_,rfl,rfl,hS⟩
theorem Xhn (p:Nat→Int) (B w:World) (I:Im) (As:List X8) (hS:Sat B w I As) :
  Calls Tryz.prog 91 [.agg ((psL p).map I64).toArray].toArray w (Ret fun v w'=>v=.bool (X69 p)∧Sat B w' I As):=by
 refine calls Tryz.func91 rfl Tryz.ntmps91 rfl (.seq (.region (.boxA (cs:=(psL p).map I64) hS (.of rfl) rfl ?_)))
 clear hS; intro b1 w hS
 refine .q 1 rfl (.nil (.seq (.q 1 rfl (.seq (.region ?_)))))
 refine WL.val (.fieldAddr 0 (.of rfl) Xcf rfl rfl Xco rfl) rfl (.val (Ex.slcArr (.of rfl) Xcb Qs3) rfl (.q 1 rfl (.call Xmn rfl (X0 (.of rfl) (X0 (.of rfl) X4)) rfl (X28 (some (ad b1 0)) 7 ((psL p).take 7) (show (7:Nat)≤9223372036854775807 by decide) X9x 134 _ Xmu rfl [] B _ I _ (fun w h=>Xbn h (k:=0) rfl (fun i n hn=>by match i,hn with | 0,hn=>exact congrArg (Option.map I64) hn | 1,hn=>exact congrArg (Option.map I64) hn | 2,hn=>exact congrArg (Option.map I64) hn | 3,hn=>exact congrArg (Option.map I64) hn | 4,hn=>exact congrArg (Option.map I64) hn | 5,hn=>exact congrArg (Option.map I64) hn | 6,hn=>exact congrArg (Option.map I64) hn | i+7,hn=>cases hn)) (fun n hn w h=>Xbx n B w I _ h) hS) ?_)))
 clear hS
 rintro _ w ⟨rfl,hS⟩
 refine .q 2 rfl (WL.gval rfl rfl (fun hg1=>(by exact .fieldAddr 7 (.of rfl) Xcf rfl rfl Xco rfl)) rfl ?_)
 refine .gval rfl rfl (fun hg1=>(Ex.slcArr (.gd hg1 rfl) Xcb Qs3)) rfl (.gval rfl rfl (fun hg1=>(.move (.of rfl))) rfl (.gcall (T:=fun w=>Sat B w I (blk b1 ((psL p).map I64) 31::As)) rfl rfl rfl Xmn rfl (fun hg1=>(X0 (.gd hg1 rfl) (X0 (.gd hg1 rfl) X4))) rfl (fun hg1=>X28 (some (ad b1 7)) 7 (((psL p).drop 7).take 7) (show (7:Nat)≤9223372036854775807 by decide) X9x 134 _ Xmu rfl [] B _ I _ (fun w h=>Xbn h (k:=0) rfl (fun i n hn=>by match i,hn with | 0,hn=>exact congrArg (Option.map I64) hn | 1,hn=>exact congrArg (Option.map I64) hn | 2,hn=>exact congrArg (Option.map I64) hn | 3,hn=>exact congrArg (Option.map I64) hn | 4,hn=>exact congrArg (Option.map I64) hn | 5,hn=>exact congrArg (Option.map I64) hn | 6,hn=>exact congrArg (Option.map I64) hn | i+7,hn=>cases hn)) (fun n hn w h=>Xbx n B w I _ h) hS) hS ?_))
 clear hS; rintro w hS
 refine .gval rfl rfl (fun hg1=>(.not (.gd hg1 rfl))) rfl (.val (.pand (.of rfl) (.of rfl) (.of rfl)) rfl (.q 1 rfl ?_))
 refine WL.gval rfl rfl (fun hg1=>(by exact .fieldAddr 14 (.of rfl) Xcf rfl rfl Xco rfl)) rfl ?_
 refine .gval rfl rfl (fun hg1=>(Ex.slcArr (.gd hg1 rfl) Xcb Qs3)) rfl (.gval rfl rfl (fun hg1=>(.move (.of rfl))) rfl (.gcall (T:=fun w=>Sat B w I (blk b1 ((psL p).map I64) 31::As)) rfl rfl rfl Xmn rfl (fun hg1=>(X0 (.gd hg1 rfl) (X0 (.gd hg1 rfl) X4))) rfl (fun hg1=>X28 (some (ad b1 14)) 7 ((psL p).drop 14) (show (7:Nat)≤9223372036854775807 by decide) X9x 134 _ Xmu rfl [] B _ I _ (fun w h=>Xbn h (k:=0) rfl (fun i n hn=>by match i,hn with | 0,hn=>exact congrArg (Option.map I64) hn | 1,hn=>exact congrArg (Option.map I64) hn | 2,hn=>exact congrArg (Option.map I64) hn | 3,hn=>exact congrArg (Option.map I64) hn | 4,hn=>exact congrArg (Option.map I64) hn | 5,hn=>exact congrArg (Option.map I64) hn | 6,hn=>exact congrArg (Option.map I64) hn | i+7,hn=>cases hn)) (fun n hn w h=>Xbx n B w I _ h) hS) hS ?_))
 clear hS; rintro w hS
 refine .gval rfl rfl (fun hg1=>(.not (.gd hg1 rfl))) rfl (.val (.pand (.of rfl) (.of rfl) (.of rfl)) rfl (.q 1 rfl (.nil (.ret (X9 Tryz.results91 rfl ?_)))))
 exact ⟨_,rfl,rfl,hS.drop (k:=0) rfl⟩
def Xp9 (ω:Wd) (n:Int):Wd:={ ω with now:=min (ω.now+max 0 (min n 1099511627776)) 1099511627776 }
theorem Xq5 {ω:Wd} (h:X46 ω) (n:Int):X46 (Xp9 ω n):=⟨h.len,h.wf,h.D,by have:=h.now; unfold Xp9; (try dsimp only); omega,h.room⟩
theorem Xmz (p:Wp) (ω:Wd) (n:Int) (hω:X46 ω) (B w:World) (I:Im) (As:List X8) (hS:Sat B w I (wdA p ω::As)) :
  Calls Tryz.prog 20 [ptr p.wb 0,I64 n].toArray w (Ret fun v w'=>v=.tuple #[]∧Sat B w' I (wdA p (Xp9 ω n)::As)):=by
 refine calls Tryz.func20 rfl Tryz.ntmps20 rfl ?_
 obtain ⟨⟨a,c,ma,mc⟩,hS⟩:=Sat.unbox hS
 replace hS:Sat B _ _ (blk p.wb (wdC p ω) 52::blk p.tb [I64 ω.room,.slice a ω.l.length c] 127::Vec 45 10 (.slice a ω.l.length c) ω.l.length (Xf ω.l)::blk p.mb [.slice ma ω.D.length mc] 168::X4a 118 (.slice ma ω.D.length mc) (ω.D.map fun d=>U64 (d:Nat))::As):=hS
 have hnow:=hω.now
 refine .t 3 rfl (WL.val (.fieldAddr 25 (.of rfl) X72 rfl rfl Qs3 rfl) rfl (WL.val (.ld (.of rfl) hS (k:=0) rfl Qg3 rfl) rfl (.q 1 rfl (.val (.min2 (.of rfl) (.of rfl)) rfl (.val (.max2 (.of rfl) (.of rfl)) rfl (.run 1 rfl ⟨⟨by omega,by omega⟩,trivial⟩ (.val (.min2 (.of rfl) (.of rfl)) rfl (.q 1 rfl ?_))))))))
 refine WL.val (.fieldAddr 25 (.of rfl) X72 rfl rfl Qs3 rfl) rfl (.st1 hS (k:=0) rfl (.of rfl) (.of rfl) rfl Qs3 (show 25<26 by decide) ?_)
 clear hS; intro w hS
 refine .nil (X8g Tryz.results20 ?_)
 exact ⟨_,rfl,rfl,Sat.box (T:=wdT p _) (a,c,ma,mc) hS⟩
theorem Xf5 (tb:Nat) (room:Int) (a:Option Addr) (c:Nat) (l:List Rec) (hl:l.length≤100000) (hwf:Wf l) (ps:List Int) (hps:ps.length=21) (name:List UInt8) (now:Int) (hn:0≤now∧now≤1099511627776) (B w:World) (I:Im) (As:List X8) (hS:Sat B w I (blk tb [I64 room,.slice a l.length c] 127::Vec 45 10 (.slice a l.length c) l.length (Xf l)::As)) :
  Calls Tryz.prog 65 [ptr tb 0,.agg (ps.map I64).toArray,S name,I64 now].toArray w (Ret fun v w'=>v=.bool (X44 ps l name now)∧Sat B w' I (blk tb [I64 room,.slice a l.length c] 127::Vec 45 10 (.slice a l.length c) l.length (Xf l)::As)) :=
 (Xi6 tb room a c l hl hwf ps hps name now hn B w I As hS).mono fun e w' ⟨v,he,J,hJ,hv,hS⟩=>⟨v,he,hv,hS.weaken hJ⟩
theorem wd_pol {p:Wp} {ω:Wd} {j:Nat} {v:Value} (h:((psL p.ps).map I64)[j]?=some v):(wdC p ω)[0+4+j]?=some v:=by
 have h1:=(Y5.1 h).1
 have e:wdC p ω=[ptr p.tb 0,ptr p.mb 0,.pointer (some p.pr),ptr p.ub 0] ++ ((psL p.ps).map I64 ++ [I64 ω.now]):=rfl
 rw [e,Yv (by simp),Y8,Y8,Y8,Y8,Yk,show 0+4+j - (0+1+1+1+1)=j by omega,Yg h1]
 exact h
def Xh (ps:Nat→Int) (ω:Wd) (name:List UInt8) (kind:Int):Rec×Bool:=if ((((getD ω.l name).kind) != kind) || !X44 (psL ps) ω.l name ω.now)=true then (r0,false) else (getD ω.l name,true)
theorem X6y (name:List UInt8) (kind:Int) (p:Wp) (ω:Wd) (hω:X46 ω) (B w:World) (I:Im) (As:List X8) (hS:Sat B w I (wdA p ω::As)) :
  Calls Tryz.prog 21 [ptr p.wb 0,S name,I64 kind].toArray w (Ret fun v w'=>v=.tuple #[.agg (X7 (Xh p.ps ω name kind).1).toArray,.bool (Xh p.ps ω name kind).2]∧Sat B w' I (wdA p ω::As)):=by
 refine calls Qf21 rfl Tryz.ntmps21 rfl (.seq ?_)
 obtain ⟨⟨a,c,ma,mc⟩,hS⟩:=Sat.unbox hS
 replace hS:Sat B _ _ (blk p.wb (wdC p ω) 52::blk p.tb [I64 ω.room,.slice a ω.l.length c] 127::Vec 45 10 (.slice a ω.l.length c) ω.l.length (Xf ω.l)::blk p.mb [.slice ma ω.D.length mc] 168::X4a 118 (.slice ma ω.D.length mc) (ω.D.map fun d=>U64 (d:Nat))::As):=hS
 have hlen:=hω.len
 refine .region (.allocA (cs:=[_,_,_,_,_,_,_,_,_,_]) hS X5q rfl ?_)
 clear hS; intro b6 w hS
 refine .q 1 rfl (.nil (.seq (.t 2 rfl ?_)))
 refine WL.val (.fieldAddr 0 (.of rfl) X72 rfl rfl Xly rfl) rfl (WL.val (.ld (.of rfl) hS (k:=1) rfl Xip rfl) rfl (.q 1 rfl (.call Qf17 rfl (X0 (.of rfl) (X0 (.of rfl) X4)) rfl (Xfi p.tb ω.room a c ω.l (by omega) name B _ I _ ((hS.pick 3 rfl).pick 3 rfl)) ?_)))
 clear hS
 rintro _ w ⟨rfl,hS⟩
 refine .q 3 rfl (.allocA (cs:=[_,_,_,_,_,_,_,_,_,_]) hS X5q rfl ?_)
 clear hS; intro b8 w hS
 refine WL.stA hS (k:=0) rfl (.of rfl) (.of rfl) rfl Xw rfl (by simp) ?_
 clear hS; intro w hS
 try simp only [Yl,Yf,Yc,Y9,Yj,Yo,Yd] at hS
 refine .q 1 rfl (.nil (.seq (.seq ?_)))
 replace hS:=(hS.pick 2 rfl).pick 2 rfl
 refine .quiet (by kernel_rfl) (by kernel_rfl) hS (WQ.val (fun w hS=>(by exact .fieldAddr 0 (.of rfl) X15 rfl rfl Qs3 rfl)) rfl ?_)
 refine WQ.val (fun w hS=>(by exact (.ld (.of rfl) hS (k:=2) rfl Qg3 rfl))) rfl ?_
 refine .val (fun w hS=>(.move (.of rfl))) rfl (.val (fun w hS=>(.neq (.of rfl) (.of rfl))) rfl (.val (fun w hS=>(.move (.of rfl))) rfl (.gval rfl rfl rfl (fun hg1 w hS=>(.move (.of rfl))) rfl (.gval rfl rfl rfl (fun hg1 w hS=>(.nilCheck (.gd hg1 rfl))) rfl ?_))))
 refine WQ.gval rfl rfl rfl (fun hg1 w hS=>(by exact .fieldAddr 0 (.gd hg1 rfl) X72 rfl rfl Xly rfl)) rfl ?_
 refine WQ.gval rfl rfl rfl (fun hg1 w hS=>(by exact (.ld (.gd hg1 rfl) hS (k:=4) rfl Xip rfl))) rfl ?_
 refine .gval rfl rfl rfl (fun hg1 w hS=>(.move (.of rfl))) rfl (.gval rfl rfl rfl (fun hg1 w hS=>(.nilCheck (.gd hg1 rfl))) rfl ?_)
 refine WQ.gval rfl rfl rfl (fun hg1 w hS=>(by exact .fieldAddr 4 (.gd hg1 rfl) X72 rfl rfl Xim rfl)) rfl ?_
 refine .gval rfl rfl rfl (fun hg1 w hS=>(.lds (vs:=(psL p.ps).map I64) (.gd hg1 rfl) hS (k:=4) rfl Xqn Xim rfl (fun j v hj=>wd_pol hj))) rfl (.gval rfl rfl rfl (fun hg1 w hS=>(.move (.of rfl))) rfl (.gval rfl rfl rfl (fun hg1 w hS=>(.move (.of rfl))) rfl (.gval rfl rfl rfl (fun hg1 w hS=>(.nilCheck (.gd hg1 rfl))) rfl ?_)))
 refine WQ.gval rfl rfl rfl (fun hg1 w hS=>(by exact .fieldAddr 25 (.gd hg1 rfl) X72 rfl rfl Qs3 rfl)) rfl ?_
 refine WQ.gval rfl rfl rfl (fun hg1 w hS=>(by exact (.ld (.gd hg1 rfl) hS (k:=4) rfl Qg3 rfl))) rfl ?_
 refine .gcall rfl rfl rfl Tryz.func65 rfl (fun hg1=>(X0 (.gd hg1 rfl) (X0 (.gd hg1 rfl) (X0 (.gd hg1 rfl) (X0 (.gd hg1 rfl) X4))))) rfl (fun hg1 w hS=>Xf5 p.tb ω.room a c ω.l (by omega) hω.wf (psL p.ps) rfl name ω.now hω.now B _ I _ hS) (.gval rfl rfl rfl (fun hg1 w hS=>(.not (.gd hg1 rfl))) rfl (.val (fun w hS=>(.por (.of rfl) (.of rfl) (.of rfl))) rfl (.nil ?_)))
 clear hS; intro w hS
 refine WC.cond rfl (fun hb39=>?_) (fun hb39=>?_)
 ·
  refine .seq (.region (.val (.build (cs:=[_,_,_,_,_,_,_,_,_,_]) X6 X2e rfl) rfl ?_))
  refine WL.stA hS (k:=3) rfl (.of rfl) (.of rfl) rfl Xw rfl (by simp) ?_
  clear hS; intro w hS
  try simp only [Yl,Yf,Yc,Y9,Yj,Yo,Yd] at hS
  refine .q 1 rfl (.nil (.ret ?_))
  refine X1v (b:=_) (cs:=[_,_,_,_,_,_,_,_,_,_]) Tryz.results21 hS (k:=3) rfl X36 Xw rfl rfl rfl (⟨_,rfl,?_,Sat.box (T:=wdT p _) (a,c,ma,mc) ?_⟩)
  ·rw [Xh,if_pos hb39]; rfl
  replace hS:=((hS.drop (k:=2) rfl).drop (k:=2) rfl).pick 2 rfl
  exact hS
 refine .skip (.seq (.region ?_))
 refine WL.val (.ldsW (cs:=[_,_,_,_,_,_,_,_,_,_]) (.of rfl) hS (k:=2) rfl X36 Xw rfl) rfl (WL.stA hS (k:=3) rfl (.of rfl) (.of rfl) rfl Xw rfl (by simp) ?_)
 clear hS; intro w hS
 try simp only [Yl,Yf,Yc,Y9,Yj,Yo,Yd] at hS
 refine .q 1 rfl (.nil (.ret ?_))
 refine X1v (b:=_) (cs:=[_,_,_,_,_,_,_,_,_,_]) Tryz.results21 hS (k:=3) rfl X36 Xw rfl rfl rfl (⟨_,rfl,?_,Sat.box (T:=wdT p _) (a,c,ma,mc) ?_⟩)
 ·rw [Xh,if_neg (by rw [hb39]; decide)]; rfl
 replace hS:=((hS.drop (k:=2) rfl).drop (k:=2) rfl).pick 2 rfl
 exact hS
theorem Xr8 (p:Wp) (ω:Wd) (a:Option Addr) (c:Nat) (hlen:ω.l.length≤64) (xb:Nat) (name:List UInt8) (B w:World) (I:Im) (As:List X8) (hS:Sat B w I (blk xb [ptr p.wb 0] 39::blk p.wb (wdC p ω) 52::blk p.tb [I64 ω.room,.slice a ω.l.length c] 127::Vec 45 10 (.slice a ω.l.length c) ω.l.length (Xf ω.l)::As)) :
  Calls Tryz.prog 99 [S name,ptr xb 0].toArray w (Ret fun v w'=>v=.bool (get ω.l name).isSome∧Sat B w' I (blk xb [ptr p.wb 0] 39::blk p.wb (wdC p ω) 52::blk p.tb [I64 ω.room,.slice a ω.l.length c] 127::Vec 45 10 (.slice a ω.l.length c) ω.l.length (Xf ω.l)::As)):=by
 refine calls Tryz.func99 rfl Tryz.ntmps99 rfl (.seq (.q 1 rfl (.seq (.region ?_))))
 refine WL.val (.ld (.of rfl) hS (k:=0) rfl Qg39 rfl) rfl (.q 1 rfl (WL.val (.fieldAddr 0 (.of rfl) X72 rfl rfl Xly rfl) rfl (WL.val (.ld (.of rfl) hS (k:=1) rfl Xip rfl) rfl (.q 1 rfl (.call Qf17 rfl (X0 (.of rfl) (X0 (.of rfl) X4)) rfl (Xfi p.tb ω.room a c ω.l (by omega) name B _ I _ ((hS.pick 3 rfl).pick 3 rfl)) ?_)))))
 clear hS
 rintro _ w ⟨rfl,hS⟩
 replace hS:=((hS.pick 3 rfl).pick 3 rfl)
 refine .q 3 rfl (.allocA (cs:=[_,_,_,_,_,_,_,_,_,_]) hS X5q rfl ?_)
 clear hS; intro b4 w hS
 refine WL.stA hS (k:=0) rfl (.of rfl) (.of rfl) rfl Xw rfl (by simp) ?_
 clear hS; intro w hS
 try simp only [Yl,Yf,Yc,Y9,Yj,Yo,Yd] at hS
 refine .q 1 rfl (.nil (.seq (.q 2 rfl (.ret (X9 Tryz.results99 rfl ?_)))))
 exact ⟨_,rfl,rfl,hS.drop (k:=0) rfl⟩
def mkN (ω:Wd) (r:Rec):(List UInt8×Nat)×List Nat:=X32 (fun s=>(get ω.l s).isSome) r.kind ω.D
def mkR (ω:Wd) (r:Rec):Rec:={ r with name:=(mkN ω r).1.1,made:=ω.now,used:=ω.now }
def mkW (ω:Wd) (r:Rec):(List UInt8×Nat)×Wd :=
 if (mkN ω r).1.2≠0 then (([],39),{ ω with D:=(mkN ω r).2 })
 else (if X5e ω.room ω.l (mkR ω r)≠0 then ([],39) else ((mkN ω r).1.1,0),{ ω with D:=(mkN ω r).2,l:=add ω.room ω.l (mkR ω r) })
theorem Xqi {pr:List UInt8→Bool} {kind:Int} {D:List Nat}:∀ d∈(X32 pr kind D).2,d∈D:=by
 intro d hd
 unfold X32 at hd
 split at hd
 ·exact hd
 ·split at hd
  ·simp at hd
  ·rename_i x D
   split at hd <;> exact Y2f _ hd
theorem Xd2 {pr:List UInt8→Bool} {kind:Int} {D:List Nat}:(X32 pr kind D).1.1.length≤23:=by
 unfold X32
 split
 ·simp
 ·split
  ·simp
  ·split
   ·simp
   ·have:=X8n kind
    simp only [Y0,Y8,X41]; omega
theorem X3b {ω:Wd} (h:X46 ω) (r:Rec):X46 (mkW ω r).2:=by
 unfold mkW
 have hD:∀ d∈(mkN ω r).2,d<18446744073709551616:=fun d hd=>h.D d (Xqi d hd)
 split
 ·exact ⟨h.len,h.wf,hD,h.now,h.room⟩
 ·refine ⟨?_,h.wf.add,hD,h.now,h.room⟩
  show (add ω.room ω.l (mkR ω r)).length≤64
  unfold add
  split
  ·rename_i e
   have:=(Xl9 e).2.2.2
   have:=h.room
   rw [Y0,Y8,Yk]; omega
  ·exact h.len
theorem X8c (r:Rec) (hrp:r.parent.length≤1000000) (p:Wp) (ω:Wd) (hω:X46 ω) (B w:World) (I:Im) (hI:WpOk I p) (As:List X8) (hS:Sat B w I (wdA p ω::As)) :
  Calls Tryz.prog 49 [ptr p.wb 0,.agg (X7 r).toArray].toArray w (Ret fun v w'=>v=.tuple #[S (mkW ω r).1.1,I64 ((mkW ω r).1.2:Nat)]∧Sat B w' I (wdA p (mkW ω r).2::As)):=by
 refine calls Qf49 rfl Tryz.ntmps49 rfl (.seq ?_)
 obtain ⟨⟨a,c,ma,mc⟩,hS⟩:=Sat.unbox hS
 replace hS:Sat B _ _ (blk p.wb (wdC p ω) 52::blk p.tb [I64 ω.room,.slice a ω.l.length c] 127::Vec 45 10 (.slice a ω.l.length c) ω.l.length (Xf ω.l)::blk p.mb [.slice ma ω.D.length mc] 168::X4a 118 (.slice ma ω.D.length mc) (ω.D.map fun d=>U64 (d:Nat))::As):=hS
 have hlen:=hω.len
 refine .region (.box1 hS (.of rfl) rfl rfl ?_)
 clear hS; intro b2 w hS
 refine .boxA (cs:=[_,_,_,_,_,_,_,_,_,_]) hS (.of rfl) rfl ?_
 clear hS; intro b3 w hS
 refine .q 2 rfl (.nil (.seq (.drawn (fun w=>∃ R,Sat B w I (blk b2 [ptr p.wb 0] 39::blk b3 [I64 r.kind,S r.name,S r.parent,S r.user,S r.service,S r.url,I64 r.made,I64 r.used,I64 r.uses,.bool r.fresh] 45::blk p.wb (wdC p ω) 52::R)) (fun j=>!([].contains j)) (by kernel_rfl) ?_)))
 replace hS:=hS.drew; generalize w.drew=w at hS ⊢
 have hH:=(((hS.pick 2 rfl).pick 1 rfl).pick 2 rfl)
 refine WD.tk (i:=0) rfl (by kernel_rfl) ⟨_,hH⟩ (fun w ⟨R,hS⟩=>((.ld (.of rfl) hS (k:=0) rfl Qg39 rfl))) rfl (.tp (i:=1) rfl (by kernel_rfl) (fun w=>(.nilCheck (.of rfl))) rfl (WD.tp (i:=2) rfl (by kernel_rfl) (fun w=>(.fieldAddr 1 (.of rfl) X72 rfl rfl Qs48 rfl)) rfl (WD.tk (i:=3) rfl (by kernel_rfl) ⟨_,hH⟩ (fun w ⟨R,hS⟩=>((.ld (.of rfl) hS (k:=2) rfl Qg48 rfl))) rfl (WD.tp (i:=4) rfl (by kernel_rfl) (fun w=>(.fieldAddr 0 (.of rfl) X15 rfl rfl Qs3 rfl)) rfl (WD.tk (i:=5) rfl (by kernel_rfl) ⟨_,hH⟩ (fun w ⟨R,hS⟩=>((.ld (.of rfl) hS (k:=1) rfl Qg3 rfl))) rfl (.tp (i:=6) rfl (by kernel_rfl) (fun w=>(.makeFunc (X0 (.of rfl) X4))) rfl (WD.branch [7] (by kernel_rfl) rfl (WO.cons rfl ?_ (WO.nil)))))))))
 refine .call Tryz.func98 rfl (X0 (.of rfl) (X0 (.of rfl) (X0 (.of rfl) X4))) rfl (Xmr p.mb ma mc ω.D hω.D r.kind (fun s=>(get ω.l s).isSome) 99 _ Tryz.func99 rfl [ptr b2 0] B _ I hI.pre (blk b2 [ptr p.wb 0] 39::blk p.wb (wdC p ω) 52::blk p.tb [I64 ω.room,.slice a ω.l.length c] 127::Vec 45 10 (.slice a ω.l.length c) ω.l.length (Xf ω.l)::blk b3 [I64 r.kind,S r.name,S r.parent,S r.user,S r.service,S r.url,I64 r.made,I64 r.used,I64 r.uses,.bool r.fresh] 45::As) (fun M s w h=>(Xr8 p ω a c hlen b2 s B w I (blk b3 [I64 r.kind,S r.name,S r.parent,S r.user,S r.service,S r.url,I64 r.made,I64 r.used,I64 r.uses,.bool r.fresh] 45::As ++ M) (Sat.swap (M:=M) (As:=blk b2 [ptr p.wb 0] 39::blk p.wb (wdC p ω) 52::blk p.tb [I64 ω.room,.slice a ω.l.length c] 127::Vec 45 10 (.slice a ω.l.length c) ω.l.length (Xf ω.l)::blk b3 [I64 r.kind,S r.name,S r.parent,S r.user,S r.service,S r.url,I64 r.made,I64 r.used,I64 r.uses,.bool r.fresh] 45::As) h)).mono fun e w9 ⟨v9,he,hv,hS9⟩=>⟨v9,he,hv,Sat.swap (M:=blk b2 [ptr p.wb 0] 39::blk p.wb (wdC p ω) 52::blk p.tb [I64 ω.room,.slice a ω.l.length c] 127::Vec 45 10 (.slice a ω.l.length c) ω.l.length (Xf ω.l)::blk b3 [I64 r.kind,S r.name,S r.parent,S r.user,S r.service,S r.url,I64 r.made,I64 r.used,I64 r.uses,.bool r.fresh] 45::As) (As:=M) hS9⟩) ((((((hS.pick 4 rfl).pick 4 rfl).pick 4 rfl).pick 4 rfl).pick 6 rfl).pick 6 rfl)) ?_
 clear hS
 rintro _ w ⟨rfl,ma2,mc2,hS⟩
 replace hS:Sat B w I (blk p.mb [.slice ma2 (mkN ω r).2.length mc2] 168::X4a 118 (.slice ma2 (mkN ω r).2.length mc2) ((mkN ω r).2.map fun d=>U64 (d:Nat))::blk b2 [ptr p.wb 0] 39::blk p.wb (wdC p ω) 52::blk p.tb [I64 ω.room,.slice a ω.l.length c] 127::Vec 45 10 (.slice a ω.l.length c) ω.l.length (Xf ω.l)::blk b3 [I64 r.kind,S r.name,S r.parent,S r.user,S r.service,S r.url,I64 r.made,I64 r.used,I64 r.uses,.bool r.fresh] 45::As):=hS
 refine .nil ?_
 clear hH
 have hH:=(((hS.pick 3 rfl).pick 6 rfl).pick 4 rfl)
 refine And.intro (by intro _ _; exact ⟨_,hH⟩) ?_
 refine .tp (i:=8) rfl (by kernel_rfl) (fun w=>(.move (.of rfl))) rfl (.tp (i:=9) rfl (by kernel_rfl) (fun w=>(.extract (.of rfl) rfl)) rfl (.tp (i:=10) rfl (by kernel_rfl) (fun w=>(.extract (.of rfl) rfl)) rfl (.tp (i:=11) rfl (by kernel_rfl) (fun w=>(.assign (.of rfl))) rfl (.tp (i:=12) rfl (by kernel_rfl) (fun w=>(.assign (.of rfl))) rfl (.done (by kernel_rfl) (.seq (.seq (.q 2 rfl ?_))))))))
 refine WC.cond rfl (fun hb20=>?_) (fun hb20=>?_)
 ·
  refine .seq (.q 2 rfl (.ret (X1m Tryz.results49 rfl rfl ?_)))
  have hE:mkW ω r=(([],39),{ ω with D:=(mkN ω r).2 }):=if_pos (by simpa [mkN] using hb20)
  rw [hE]
  replace hS:=(hS.drop (k:=2) rfl).drop (k:=5) rfl
  exact ⟨_,rfl,rfl,Sat.box (T:=wdT p _) (a,c,ma2,mc2) (((hS.pick 4 rfl).pick 4 rfl).pick 4 rfl)⟩
 refine .skip (WC.cutS (σ:=Unit) (fun _=>[(2,ptr b2 0),(3,ptr b3 0),(6,S (mkN ω r).1.1)]) (fun _ w=>Sat B w I (blk p.mb [.slice ma2 (mkN ω r).2.length mc2] 168::X4a 118 (.slice ma2 (mkN ω r).2.length mc2) ((mkN ω r).2.map fun d=>U64 (d:Nat))::blk b2 [ptr p.wb 0] 39::blk p.wb (wdC p ω) 52::blk p.tb [I64 ω.room,.slice a ω.l.length c] 127::Vec 45 10 (.slice a ω.l.length c) ω.l.length (Xf ω.l)::blk b3 [I64 r.kind,S (mkN ω r).1.1,S r.parent,S r.user,S r.service,S r.url,I64 ω.now,I64 ω.now,I64 r.uses,.bool r.fresh] 45::As)) ?_ ?_)
 ·
  refine .drawn (fun w=>∃ R,Sat B w I (blk b2 [ptr p.wb 0] 39::blk p.wb (wdC p ω) 52::R)) (fun j=>!([].contains j)) (by kernel_rfl) ?_
  replace hS:=hS.drew; generalize w.drew=w at hS ⊢
  have hH:=((hS.pick 3 rfl).pick 3 rfl)
  refine .tp (i:=0) rfl (by kernel_rfl) (fun w=>(.move (.of rfl))) rfl (WD.tk (i:=1) rfl (by kernel_rfl) ⟨_,hH⟩ (fun w ⟨R,hS⟩=>((.ld (.of rfl) hS (k:=0) rfl Qg39 rfl))) rfl (.tp (i:=2) rfl (by kernel_rfl) (fun w=>(.nilCheck (.of rfl))) rfl (WD.tp (i:=3) rfl (by kernel_rfl) (fun w=>(.fieldAddr 25 (.of rfl) X72 rfl rfl Qs3 rfl)) rfl (WD.tk (i:=4) rfl (by kernel_rfl) ⟨_,hH⟩ (fun w ⟨R,hS⟩=>((.ld (.of rfl) hS (k:=1) rfl Qg3 rfl))) rfl (WD.tk (i:=5) rfl (by kernel_rfl) ⟨_,hH⟩ (fun w ⟨R,hS⟩=>((.ld (.of rfl) hS (k:=0) rfl Qg39 rfl))) rfl (.tp (i:=6) rfl (by kernel_rfl) (fun w=>(.nilCheck (.of rfl))) rfl (WD.tp (i:=7) rfl (by kernel_rfl) (fun w=>(.fieldAddr 25 (.of rfl) X72 rfl rfl Qs3 rfl)) rfl (WD.tk (i:=8) rfl (by kernel_rfl) ⟨_,hH⟩ (fun w ⟨R,hS⟩=>((.ld (.of rfl) hS (k:=1) rfl Qg3 rfl))) rfl (WD.tp (i:=9) rfl (by kernel_rfl) (fun w=>(.fieldAddr 1 (.of rfl) X15 rfl rfl Qs9 rfl)) rfl (WD.branch [10] (by kernel_rfl) rfl (WO.cons rfl ?_ (WO.nil))))))))))))
  refine WL.st1 hS (k:=6) rfl (.of rfl) (.of rfl) rfl Qs9 (by simp) ?_
  clear hS; intro w hS
  refine .nil ?_
  clear hH
  have hH:=((hS.pick 3 rfl).pick 3 rfl)
  refine And.intro (by intro _ _; exact ⟨_,hH⟩) ?_
  refine WD.tp (i:=11) rfl (by kernel_rfl) (fun w=>(.fieldAddr 6 (.of rfl) X15 rfl rfl Qs3 rfl)) rfl (WD.branch [12] (by kernel_rfl) rfl (WO.cons rfl ?_ (WO.nil)))
  refine WL.st1 hS (k:=6) rfl (.of rfl) (.of rfl) rfl Qs3 (by simp) ?_
  clear hS; intro w hS
  refine .nil ?_
  clear hH
  have hH:=((hS.pick 3 rfl).pick 3 rfl)
  refine And.intro (by intro _ _; exact ⟨_,hH⟩) ?_
  refine WD.tp (i:=13) rfl (by kernel_rfl) (fun w=>(.fieldAddr 7 (.of rfl) X15 rfl rfl Qs3 rfl)) rfl (WD.branch [14] (by kernel_rfl) rfl (WO.cons rfl ?_ (WO.nil)))
  refine WL.st1 hS (k:=6) rfl (.of rfl) (.of rfl) rfl Qs3 (by simp) ?_
  clear hS; intro w hS
  refine .nil ?_
  clear hH
  have hH:=((hS.pick 3 rfl).pick 3 rfl)
  refine And.intro (by intro _ _; exact ⟨_,hH⟩) ?_
  refine .done (by kernel_rfl) ?_
  exact ⟨(),⟨rfl,rfl,rfl,trivial⟩,hS⟩
 rintro _ w hS
 refine .seq (.seq (.drawn (fun w=>∃ R,Sat B w I (blk b2 [ptr p.wb 0] 39::blk b3 [I64 r.kind,S (mkN ω r).1.1,S r.parent,S r.user,S r.service,S r.url,I64 ω.now,I64 ω.now,I64 r.uses,.bool r.fresh] 45::blk p.wb (wdC p ω) 52::R)) (fun j=>!([].contains j)) (by kernel_rfl) ?_))
 replace hS:=hS.drew; generalize w.drew=w at hS ⊢
 have hH:=(((hS.pick 3 rfl).pick 6 rfl).pick 4 rfl)
 refine WD.tk (i:=0) rfl (by kernel_rfl) ⟨_,hH⟩ (fun w ⟨R,hS⟩=>((.ld (.of rfl) hS (k:=0) rfl Qg39 rfl))) rfl (.tp (i:=1) rfl (by kernel_rfl) (fun w=>(.nilCheck (.of rfl))) rfl (WD.tp (i:=2) rfl (by kernel_rfl) (fun w=>(.fieldAddr 0 (.of rfl) X72 rfl rfl Xly rfl)) rfl (WD.tk (i:=3) rfl (by kernel_rfl) ⟨_,hH⟩ (fun w ⟨R,hS⟩=>((.ld (.of rfl) hS (k:=2) rfl Xip rfl))) rfl (WD.tk (i:=4) rfl (by kernel_rfl) ⟨_,hH⟩ (fun w ⟨R,hS⟩=>((.ldsW (cs:=[_,_,_,_,_,_,_,_,_,_]) (.of rfl) hS (k:=1) rfl X36 Xw rfl))) rfl (WD.branch [5] (by kernel_rfl) rfl (WO.cons rfl ?_ (WO.nil)))))))
 refine WL.call Tryz.func57 rfl (X0 (.of rfl) (X0 (.of rfl) X4)) rfl (Xrh p.tb ω.room a c ω.l (by omega) (mkR ω r) (by have:=Xd2 (pr:=fun s=>(get ω.l s).isSome) (kind:=r.kind) (D:=ω.D); exact Y27 this (by decide)) hrp B _ I hI.known hI.pre _ ((hS.pick 5 rfl).pick 5 rfl)) ?_
 clear hS
 rintro _ w ⟨rfl,a2,c2,hS⟩
 refine .nil ?_
 clear hH
 have hH:=(((hS.pick 5 rfl).pick 6 rfl).pick 6 rfl)
 refine And.intro (by intro _ _; exact ⟨_,hH⟩) ?_
 refine .tp (i:=6) rfl (by kernel_rfl) (fun w=>(.neq (.of rfl) (.of rfl))) rfl (.done (by kernel_rfl) ?_)
 refine WC.cond rfl (fun hb39=>?_) (fun hb39=>?_)
 ·
  refine .seq (.q 2 rfl (.ret (X1m Tryz.results49 rfl rfl ?_)))
  have hE:mkW ω r=(([],39),{ ω with D:=(mkN ω r).2,l:=add ω.room ω.l (mkR ω r) }):=by
   rw [mkW,if_neg (by simpa [mkN] using hb20),if_pos (by simpa using hb39)]
  rw [hE]
  replace hS:=((hS.pick 5 rfl).drop (k:=5) rfl).drop (k:=5) rfl
  exact ⟨_,rfl,rfl,Sat.box (T:=wdT p _) (a2,c2,ma2,mc2) hS⟩
 refine .skip (.seq (.q 3 rfl (.ret (X1m Tryz.results49 rfl rfl ?_))))
 have hE:mkW ω r=(((mkN ω r).1.1,0),{ ω with D:=(mkN ω r).2,l:=add ω.room ω.l (mkR ω r) }):=by
  rw [mkW,if_neg (by simpa [mkN] using hb20),if_neg (by simpa using hb39)]
 rw [hE]
 replace hS:=((hS.pick 5 rfl).drop (k:=5) rfl).drop (k:=5) rfl
 exact ⟨_,rfl,rfl,Sat.box (T:=wdT p _) (a2,c2,ma2,mc2) hS⟩
theorem Xl7 {r:Rec} (h:Xr r=true):r.name.length≤23∧r.parent.length≤23:=by
 unfold Xr at h
 simp only [Yq] at h
 obtain ⟨⟨_,h1⟩,h2⟩:=h
 constructor
 ·unfold isT at h1
  cases hp:X10 r.name with
  | none=>rw [hp] at h1; cases h1
  | some x=>exact (X3k (k:=x.1) (d:=x.2) hp).2.2.2.1
 ·unfold X34 at h2
  split at h2
  ·rename_i e; rw [e]; simp
  ·cases hp:X10 r.parent with
   | none=>rw [hp] at h2; cases h2
   | some x=>exact (X3k (k:=x.1) (d:=x.2) hp).2.2.2.1
theorem Xjf {l:List Rec} (hw:Wf l) (name:List UInt8):(get l name=none∧getD l name=r0)∨(get l name=some (getD l name)∧Xr (getD l name)=true∧(getD l name).name=name):=by
 rcases Tr.get_at l name with ⟨_,h⟩ | ⟨j,r,_,h2,h3,h4⟩
 ·exact .inl ⟨h,by rw [getD,h]; rfl⟩
 ·have e:getD l name=r:=by rw [getD,h4]; rfl
  exact .inr ⟨by rw [e]; exact h4,by rw [e]; exact hw.right r (Ym h2),by rw [e]; exact h3⟩
theorem Xid {l:List Rec} (hw:Wf l) (name:List UInt8):(getD l name).name.length≤23∧(getD l name).parent.length≤23∧0≤(getD l name).uses∧(getD l name).uses≤255:=by
 rcases Xjf hw name with ⟨_,e⟩ | ⟨_,h,_⟩
 ·rw [e]; decide
 ·have h1:=Xl7 h
  have h2:=X5w h
  exact ⟨h1.1,h1.2,h2.2.2⟩
theorem X4j (p:Wp) (ω:Wd) (hω:X46 ω) (B w:World) (I:Im) (hI:WpOk I p) (As:List X8) (hS:Sat B w I (wdA p ω::As)) :
  Calls Tryz.prog 43 [ptr p.wb 0].toArray w (Ret fun v w'=>v=.tuple #[S (mkW ω ⟨6,[],[],[],[],[],0,0,0,false⟩).1.1,I64 ((mkW ω ⟨6,[],[],[],[],[],0,0,0,false⟩).1.2:Nat)]∧Sat B w' I (wdA p (mkW ω ⟨6,[],[],[],[],[],0,0,0,false⟩).2::As)):=by
 refine calls Tryz.func43 rfl Tryz.ntmps43 rfl (.seq (.q 2 rfl (.seq (.t 1 rfl (.val (.build (cs:=[_,_,_,_,_,_,_,_,_,_]) (X5 (.of rfl) X6) X2e rfl) rfl (.call Qf49 rfl (X0 (.of rfl) (X0 (.of rfl) X4)) rfl (X8c (⟨6,[],[],[],[],[],0,0,0,false⟩) (by simp) p ω hω B _ I hI _ hS) ?_))))))
 clear hS
 rintro _ w ⟨rfl,hS⟩
 refine .q 4 rfl (.nil (.ret (X1m Tryz.results43 rfl rfl ?_)))
 exact ⟨_,rfl,rfl,hS⟩
def X84 (ω:Wd) (name:List UInt8):Wd:={ ω with l:=drop ω.l name }
theorem Xcg {ω:Wd} (h:X46 ω) (name:List UInt8):X46 (X84 ω name):=⟨Y27 (Xo6 ω.l name).length_le h.len,h.wf.drop name,h.D,h.now,h.room⟩
def Xq (us:List Us) (ps:Nat→Int) (ω:Wd) (lt user pw:List UInt8):(List UInt8×Nat)×Wd :=
 if (Xh ps ω lt 6).2=false then (([],38),ω)
 else if X7w us user pw=false then (([],37),X84 ω lt)
 else ((mkW ω ⟨1,[],[],user,[],[],0,0,0,true⟩).1,if (mkW ω ⟨1,[],[],user,[],[],0,0,0,true⟩).1.2=0 then X84 (mkW ω ⟨1,[],[],user,[],[],0,0,0,true⟩).2 lt else (mkW ω ⟨1,[],[],user,[],[],0,0,0,true⟩).2)
theorem X9k {us:List Us} {ps:Nat→Int} {ω:Wd} (h:X46 ω) (lt user pw:List UInt8):X46 (Xq us ps ω lt user pw).2:=by
 unfold Xq
 split
 ·exact h
 ·split
  ·exact Xcg h lt
  ·try dsimp only
   split
   ·exact Xcg (X3b h _) lt
   ·exact X3b h _
theorem Xcz (lt user pw:List UInt8) (hpw:pw.length≤9223372036854775807) (p:Wp) (ω:Wd) (hω:X46 ω) (B w:World) (I:Im) (hI:WpOk I p) (As:List X8) (hS:Sat B w I (wdA p ω::As)) :
  Calls Tryz.prog 37 [ptr p.wb 0,S lt,S user,S pw].toArray w (Ret fun v w'=>v=.tuple #[S (Xq p.us p.ps ω lt user pw).1.1,I64 ((Xq p.us p.ps ω lt user pw).1.2:Nat)]∧Sat B w' I (wdA p (Xq p.us p.ps ω lt user pw).2::As)):=by
 refine calls Tryz.func37 rfl Tryz.ntmps37 rfl (.seq (.q 2 rfl (.seq (.seq (.t 2 rfl (.call Qf21 rfl (X0 (.of rfl) (X0 (.of rfl) (X0 (.of rfl) X4))) rfl (X6y lt 6 p ω hω B _ I _ hS) ?_))))))
 clear hS
 rintro _ w ⟨rfl,hS⟩
 refine .q 3 rfl (.allocA (cs:=[_,_,_,_,_,_,_,_,_,_]) hS X5q rfl ?_)
 clear hS; intro b10 w hS
 refine WL.stA hS (k:=0) rfl (.of rfl) (.of rfl) rfl Xw rfl (by simp) ?_
 clear hS; intro w hS
 try simp only [Yl,Yf,Yc,Y9,Yj,Yo,Yd] at hS
 refine .q 1 rfl (.nil (.seq (.q 2 rfl ?_)))
 refine WC.cond rfl (fun hb21=>?_) (fun hb21=>?_)
 ·
  refine .seq (.q 2 rfl (.ret (X1m Qr37 rfl rfl ?_)))
  have hE:Xq p.us p.ps ω lt user pw=(([],38),ω):=by rw [Xq,if_pos (by simpa using hb21)]
  rw [hE]
  exact ⟨_,rfl,rfl,hS.drop (k:=0) rfl⟩
 refine .skip (.seq (.seq ?_))
 replace hS:=(hS.pick 1 rfl)
 obtain ⟨⟨a,c,ma,mc⟩,hS⟩:=Sat.unbox hS
 replace hS:Sat B _ _ (blk p.wb (wdC p ω) 52::blk p.tb [I64 ω.room,.slice a ω.l.length c] 127::Vec 45 10 (.slice a ω.l.length c) ω.l.length (Xf ω.l)::blk p.mb [.slice ma ω.D.length mc] 168::X4a 118 (.slice ma ω.D.length mc) (ω.D.map fun d=>U64 (d:Nat))::_):=hS
 have hlen:=hω.len
 have hwf:=hω.wf
 refine .t 2 rfl (WL.val (.fieldAddr 3 (.of rfl) X72 rfl rfl Tryz.sizeOf50 rfl) rfl (WL.val (.ld (.of rfl) hS (k:=0) rfl Tryz.isAgg50 rfl) rfl (.q 2 rfl (.call Tryz.func84 rfl (X0 (.of rfl) (X0 (.of rfl) (X0 (.of rfl) X4))) rfl (Xhc p.ub p.us hI.fit user pw hpw B _ I hI.tab _ hS) ?_))))
 clear hS
 rintro _ w ⟨rfl,hS⟩
 refine .q 1 rfl (.nil ?_)
 refine WC.cond rfl (fun hb29=>?_) (fun hb29=>?_)
 ·
  refine .seq (.t 2 rfl ?_)
  refine WL.val (.fieldAddr 0 (.of rfl) X72 rfl rfl Xly rfl) rfl (WL.val (.ld (.of rfl) hS (k:=0) rfl Xip rfl) rfl (.q 1 rfl (WL.call Qf50 rfl (X0 (.of rfl) (X0 (.of rfl) X4)) rfl (Xbf p.tb ω.room a c ω.l (by have:=hlen; omega) hwf lt B _ I _ ((hS.pick 2 rfl).pick 2 rfl)) ?_)))
  clear hS
  rintro _ w ⟨J,ga,gc,rfl,hJ,hgc,hRS,a9,c9,hS⟩
  replace hS:=hS.weaken hJ
  refine .nil (.seq (.q 2 rfl (.ret (X1m Qr37 rfl rfl ?_))))
  have hE:Xq p.us p.ps ω lt user pw=(([],37),X84 ω lt):=by rw [Xq,if_neg (by rw [show (Xh p.ps ω lt 6).2=true from by simpa using hb21]; decide),if_pos (by simpa using hb29)]
  rw [hE]
  exact ⟨_,rfl,rfl,Sat.box (T:=wdT p (X84 ω lt)) (a9,c9,ma,mc) ((((((hS.drop (k:=5) rfl).pick 4 rfl).pick 4 rfl).pick 3 rfl).pick 3 rfl).pick 4 rfl)⟩
 refine .skip (.seq ?_)
 replace hS:=Sat.box (T:=wdT p _) (a,c,ma,mc) (((((hS.pick 4 rfl).pick 4 rfl).pick 4 rfl).pick 4 rfl).pick 4 rfl)
 refine .t 2 rfl (.val (.build (cs:=[_,_,_,_,_,_,_,_,_,_]) (X5 (.of rfl) (X5 (.of rfl) (X5 (.of rfl) X6))) X2e rfl) rfl (.call Qf49 rfl (X0 (.of rfl) (X0 (.of rfl) X4)) rfl (X8c (⟨1,[],[],user,[],[],0,0,0,true⟩) (by simp) p ω hω B _ I hI _ hS) ?_))
 clear hS
 rintro _ w ⟨rfl,hS⟩
 refine .q 5 rfl (.nil (.seq (.seq (.q 2 rfl ?_))))
 refine WC.cond rfl (fun hb44=>?_) (fun hb44=>?_)
 ·
  obtain ⟨⟨a2,c2,ma2,mc2⟩,hS⟩:=Sat.unbox hS
  replace hS:Sat B _ _ (blk p.wb (wdC p (mkW ω ⟨1,[],[],user,[],[],0,0,0,true⟩).2) 52::blk p.tb [I64 (mkW ω ⟨1,[],[],user,[],[],0,0,0,true⟩).2.room,.slice a2 (mkW ω ⟨1,[],[],user,[],[],0,0,0,true⟩).2.l.length c2] 127::Vec 45 10 (.slice a2 (mkW ω ⟨1,[],[],user,[],[],0,0,0,true⟩).2.l.length c2) (mkW ω ⟨1,[],[],user,[],[],0,0,0,true⟩).2.l.length (Xf (mkW ω ⟨1,[],[],user,[],[],0,0,0,true⟩).2.l)::blk p.mb [.slice ma2 (mkW ω ⟨1,[],[],user,[],[],0,0,0,true⟩).2.D.length mc2] 168::X4a 118 (.slice ma2 (mkW ω ⟨1,[],[],user,[],[],0,0,0,true⟩).2.D.length mc2) ((mkW ω ⟨1,[],[],user,[],[],0,0,0,true⟩).2.D.map fun d=>U64 (d:Nat))::_):=hS
  have hω2:=X3b hω ⟨1,[],[],user,[],[],0,0,0,true⟩
  have hlen2:=hω2.len
  have hwf2:=hω2.wf
  refine .t 2 rfl (WL.val (.fieldAddr 0 (.of rfl) X72 rfl rfl Xly rfl) rfl (WL.val (.ld (.of rfl) hS (k:=0) rfl Xip rfl) rfl (.q 1 rfl (WL.call Qf50 rfl (X0 (.of rfl) (X0 (.of rfl) X4)) rfl (Xbf p.tb (mkW ω ⟨1,[],[],user,[],[],0,0,0,true⟩).2.room a2 c2 (mkW ω ⟨1,[],[],user,[],[],0,0,0,true⟩).2.l (by have:=hlen2; omega) hwf2 lt B _ I _ ((hS.pick 2 rfl).pick 2 rfl)) ?_))))
  clear hS
  rintro _ w ⟨J,ga,gc,rfl,hJ,hgc,hRS,a9,c9,hS⟩
  replace hS:=hS.weaken hJ
  refine .nil (.seq (.q 4 rfl (.ret (X1m Qr37 rfl rfl ?_))))
  have hE:Xq p.us p.ps ω lt user pw=((mkW ω ⟨1,[],[],user,[],[],0,0,0,true⟩).1,X84 (mkW ω ⟨1,[],[],user,[],[],0,0,0,true⟩).2 lt):=by rw [Xq,if_neg (by rw [show (Xh p.ps ω lt 6).2=true from by simpa using hb21]; decide),if_neg (by simpa using hb29),if_pos (by simpa using hb44)]
  rw [hE]
  exact ⟨_,rfl,rfl,Sat.box (T:=wdT p (X84 (mkW ω ⟨1,[],[],user,[],[],0,0,0,true⟩).2 lt)) (a9,c9,ma2,mc2) ((((((hS.drop (k:=5) rfl).pick 4 rfl).pick 4 rfl).pick 3 rfl).pick 3 rfl).pick 4 rfl)⟩
 refine .skip (.seq (.q 4 rfl (.ret (X1m Qr37 rfl rfl ?_))))
 have hE:Xq p.us p.ps ω lt user pw=((mkW ω ⟨1,[],[],user,[],[],0,0,0,true⟩).1,(mkW ω ⟨1,[],[],user,[],[],0,0,0,true⟩).2):=by rw [Xq,if_neg (by rw [show (Xh p.ps ω lt 6).2=true from by simpa using hb21]; decide),if_neg (by simpa using hb29),if_neg (by simpa using hb44)]
 rw [hE]
 exact ⟨_,rfl,rfl,(hS.drop (k:=1) rfl)⟩
structure Ak where
 service:List UInt8
 cookie:List UInt8
 has:Bool
 renew:Bool
 gateway:Bool
 warn:Bool
def X9n (q:Ak):List Value:=[S q.service,S q.cookie,.bool q.has,.bool q.renew,.bool q.gateway,.bool q.warn]
def Xn (lo:List Sv) (ps:Nat→Int) (ω:Wd) (q:Ak):Nat :=
 if (q.has && (((Xt lo q.service).2.2:Nat):Int) != 0)=true then 6
 else if (!q.has && (Xh ps ω q.cookie 1).2)=true then 5
 else if (!q.has || q.renew)=true then 1
 else if (((Xh ps ω q.cookie 1).2 && (Xt lo q.service).1.login) && q.warn)=true then 4
 else if ((Xh ps ω q.cookie 1).2 && (Xt lo q.service).1.login)=true then 2
 else if q.gateway=true then 3 else 1
theorem Xlu (s:List UInt8) (hs:s.length≤1000000) (p:Wp) (B w:World) (I:Im) (hI:WpOk I p) (As:List X8) (hS:Sat B w I As) :
  Calls Tryz.prog 40 [.pointer (some p.pr),S s].toArray w (Ret fun v w'=>∃ J ra rc,Le I J∧v=.tuple #[.agg (X1q (Xt p.lo s).1 ra rc).toArray,S (Xt p.lo s).2.1,I64 (((Xt p.lo s).2.2:Nat):Int)]∧(Xt p.lo s).1.rel.length≤rc∧RS J ra 1 (Xt p.lo s).1.rel.length ((Xt p.lo s).1.rel.map S)∧Sat B w' J As):=by
 obtain ⟨a,c,E,h1,h2,h3⟩:=hI.reg
 refine (Xfr p.pr p.lo hI.lo hI.rel s hs a c E B w I hI.known h1 h3 As hS).mono fun e w' ⟨v,he,J,u,cs,n,e2,hJ,hv,⟨ra,rc,hcs,h4,h5⟩,hf,hS⟩=>⟨v,he,J,ra,rc,hJ,?_⟩
 rw [hf]; subst hcs
 exact ⟨hv,h4,h5,hS⟩
theorem Xbj (s:List UInt8) (hs:s.length≤1000000) (p:Wp) (B w:World) (I:Im) (hI:WpOk I p) (As:List X8) (hS:Sat B w I As) :
  Calls Tryz.prog 40 [.pointer (some p.pr),S s].toArray w (Ret fun v w'=>∃ ra rc,v=.tuple #[.agg (X1q (Xt p.lo s).1 ra rc).toArray,S (Xt p.lo s).2.1,I64 (((Xt p.lo s).2.2:Nat):Int)]∧Sat B w' I As) :=
 (Xlu s hs p B w I hI As hS).mono fun e w' ⟨v,he,J,ra,rc,hJ,hv,_,_,hS⟩=>⟨v,he,ra,rc,hv,hS.weaken hJ⟩
theorem Xan (q:Ak) (hqs:q.service.length≤1000000) (p:Wp) (ω:Wd) (hω:X46 ω) (B w:World) (I:Im) (hI:WpOk I p) (As:List X8) (hS:Sat B w I (wdA p ω::As)) :
  Calls Tryz.prog 39 [ptr p.wb 0,.agg (X9n q).toArray].toArray w (Ret fun v w'=>v=I64 ((Xn p.lo p.ps ω q:Nat):Int)∧Sat B w' I (wdA p ω::As)):=by
 refine calls Tryz.func39 rfl Tryz.ntmps39 rfl (.seq (.region (.boxA (cs:=[_,_,_,_,_,_]) hS (.of rfl) rfl ?_)))
 clear hS; intro b3 w hS
 refine .q 1 rfl (.nil (.seq (.t 1 rfl ?_)))
 refine WL.val (.fieldAddr 1 (.of rfl) Xb9 rfl rfl Qs9 rfl) rfl (WL.val (.ld (.of rfl) hS (k:=0) rfl Qg9 rfl) rfl (.call Qf21 rfl (X0 (.of rfl) (X0 (.of rfl) (X0 (.of rfl) X4))) rfl (X6y q.cookie 1 p ω hω B _ I _ (hS.pick 1 rfl)) ?_))
 clear hS
 rintro _ w ⟨rfl,hS⟩
 refine .q 3 rfl (.allocA (cs:=[_,_,_,_,_,_,_,_,_,_]) hS X5q rfl ?_)
 clear hS; intro b5 w hS
 refine WL.stA hS (k:=0) rfl (.of rfl) (.of rfl) rfl Xw rfl (by simp) ?_
 clear hS; intro w hS
 try simp only [Yl,Yf,Yc,Y9,Yj,Yo,Yd] at hS
 refine .q 1 rfl (.nil ?_)
 refine WC.cutS (σ:=Nat×Option Addr×Nat) (fun ⟨b7,ra,rc⟩=>[(0,ptr p.wb 0),(3,ptr b3 0),(6,.bool (Xh p.ps ω q.cookie 1).2),(7,ptr b7 0),(8,S (Xt p.lo q.service).2.1),(9,I64 (((Xt p.lo q.service).2.2:Nat):Int))]) (fun ⟨b7,ra,rc⟩ w=>Sat B w I (blk b7 [I64 (Xt p.lo q.service).1.id,F64 (Xt p.lo q.service).1.ord,S (Xt p.lo q.service).1.urls,.bool (Xt p.lo q.service).1.login,.bool (Xt p.lo q.service).1.proxy,.bool (Xt p.lo q.service).1.back,S (Xt p.lo q.service).1.calls,.slice ra (Xt p.lo q.service).1.rel.length rc] 101::blk b3 [S q.service,S q.cookie,.bool q.has,.bool q.renew,.bool q.gateway,.bool q.warn] 95::wdA p ω::As)) ?_ ?_
 ·
  replace hS:=(hS.pick 1 rfl)
  obtain ⟨⟨a,c,ma,mc⟩,hS⟩:=Sat.unbox hS
  replace hS:Sat B _ _ (blk p.wb (wdC p ω) 52::blk p.tb [I64 ω.room,.slice a ω.l.length c] 127::Vec 45 10 (.slice a ω.l.length c) ω.l.length (Xf ω.l)::blk p.mb [.slice ma ω.D.length mc] 168::X4a 118 (.slice ma ω.D.length mc) (ω.D.map fun d=>U64 (d:Nat))::_):=hS
  refine .drawn (fun w=>∃ R,Sat B w I (blk b3 [S q.service,S q.cookie,.bool q.has,.bool q.renew,.bool q.gateway,.bool q.warn] 95::blk p.wb (wdC p ω) 52::R)) (fun j=>!([].contains j)) (by kernel_rfl) ?_
  replace hS:=hS.drew; generalize w.drew=w at hS ⊢
  have hH:=((hS.pick 0 rfl).pick 6 rfl)
  refine .tp (i:=0) rfl (by kernel_rfl) (fun w=>(.move (.of rfl))) rfl (.tp (i:=1) rfl (by kernel_rfl) (fun w=>(.nilCheck (.of rfl))) rfl ?_)
  refine WD.tp (i:=2) rfl (by kernel_rfl) (fun w=>(.fieldAddr 2 (.of rfl) X72 rfl rfl Tryz.sizeOf49 rfl)) rfl (WD.tk (i:=3) rfl (by kernel_rfl) ⟨_,hH⟩ (fun w ⟨R,hS⟩=>((.ld (.of rfl) hS (k:=1) rfl Tryz.isAgg49 rfl))) rfl (WD.tp (i:=4) rfl (by kernel_rfl) (fun w=>(.fieldAddr 0 (.of rfl) Xb9 rfl rfl Qs9 rfl)) rfl (WD.tk (i:=5) rfl (by kernel_rfl) ⟨_,hH⟩ (fun w ⟨R,hS⟩=>((.ld (.of rfl) hS (k:=0) rfl Qg9 rfl))) rfl (WD.branch [6,11] (by kernel_rfl) rfl (WO.cons rfl ?_ (WO.cons rfl ?_ (WO.nil)))))))
  ·
   refine .call Qf40 rfl (X0 (.of rfl) (X0 (.of rfl) X4)) rfl (Xbj q.service hqs p B _ I hI _ hS) ?_
   clear hS
   rintro _ w ⟨ra,rc,rfl,hS⟩
   refine .nil ?_
   clear hH
   have hH:=((hS.pick 0 rfl).pick 6 rfl)
   refine And.intro (by intro _ _; exact ⟨_,hH⟩) ?_
   refine .tp (i:=7) rfl (by kernel_rfl) (fun w=>(.move (.of rfl))) rfl (.tp (i:=8) rfl (by kernel_rfl) (fun w=>(.extract (.of rfl) rfl)) rfl (.tp (i:=9) rfl (by kernel_rfl) (fun w=>(.extract (.of rfl) rfl)) rfl (.tp (i:=10) rfl (by kernel_rfl) (fun w=>(.extract (.of rfl) rfl)) rfl ?_)))
   refine WD.branch [11] (by kernel_rfl) rfl (WO.cons rfl ?_ (WO.nil))
   refine .allocA (cs:=[_,_,_,_,_,_,_,_]) hS X7d rfl ?_
   clear hS; intro b7 w hS
   refine .nil ?_
   clear hH
   have hH:=((hS.pick 1 rfl).pick 7 rfl)
   refine And.intro (by intro _ _; exact ⟨_,hH⟩) ?_
   refine WD.branch [12] (by kernel_rfl) rfl (WO.cons rfl ?_ (WO.nil))
   refine WL.stA hS (k:=0) rfl (.of rfl) (.of rfl) rfl Xy rfl (by simp) ?_
   clear hS; intro w hS
   try simp only [Yl,Yf,Yc,Y9,Yj,Yo,Yd] at hS
   refine .nil ?_
   clear hH
   have hH:=((hS.pick 1 rfl).pick 7 rfl)
   refine And.intro (by intro _ _; exact ⟨_,hH⟩) ?_
   refine .tp (i:=13) rfl (by kernel_rfl) (fun w=>(.assign (.of rfl))) rfl (.tp (i:=14) rfl (by kernel_rfl) (fun w=>(.assign (.of rfl))) rfl (.done (by kernel_rfl) ?_))
   replace hS:=Sat.box (T:=wdT p _) (a,c,ma,mc) (((((hS.pick 5 rfl).pick 5 rfl).pick 5 rfl).pick 5 rfl).pick 5 rfl)
   replace hS:=(hS.drop (k:=2) rfl)
   exact ⟨(b7,ra,rc),⟨rfl,rfl,rfl,rfl,rfl,rfl,trivial⟩,((hS.pick 2 rfl).pick 2 rfl)⟩
  ·
   refine .allocA (cs:=[_,_,_,_,_,_,_,_]) hS X7d rfl ?_
   clear hS; intro b7 w hS
   refine .nil ?_
   clear hH
   have hH:=((hS.pick 1 rfl).pick 7 rfl)
   refine And.intro (by intro _ _; exact ⟨_,hH⟩) ?_
   refine WD.branch [6] (by kernel_rfl) rfl (WO.cons rfl ?_ (WO.nil))
   refine .call Qf40 rfl (X0 (.of rfl) (X0 (.of rfl) X4)) rfl (Xbj q.service hqs p B _ I hI _ hS) ?_
   clear hS
   rintro _ w ⟨ra,rc,rfl,hS⟩
   refine .nil ?_
   clear hH
   have hH:=((hS.pick 1 rfl).pick 7 rfl)
   refine And.intro (by intro _ _; exact ⟨_,hH⟩) ?_
   refine .tp (i:=7) rfl (by kernel_rfl) (fun w=>(.move (.of rfl))) rfl (.tp (i:=8) rfl (by kernel_rfl) (fun w=>(.extract (.of rfl) rfl)) rfl (.tp (i:=9) rfl (by kernel_rfl) (fun w=>(.extract (.of rfl) rfl)) rfl (.tp (i:=10) rfl (by kernel_rfl) (fun w=>(.extract (.of rfl) rfl)) rfl ?_)))
   refine WD.branch [12] (by kernel_rfl) rfl (WO.cons rfl ?_ (WO.nil))
   refine WL.stA hS (k:=0) rfl (.of rfl) (.of rfl) rfl Xy rfl (by simp) ?_
   clear hS; intro w hS
   try simp only [Yl,Yf,Yc,Y9,Yj,Yo,Yd] at hS
   refine .nil ?_
   clear hH
   have hH:=((hS.pick 1 rfl).pick 7 rfl)
   refine And.intro (by intro _ _; exact ⟨_,hH⟩) ?_
   refine .tp (i:=13) rfl (by kernel_rfl) (fun w=>(.assign (.of rfl))) rfl (.tp (i:=14) rfl (by kernel_rfl) (fun w=>(.assign (.of rfl))) rfl (.done (by kernel_rfl) ?_))
   replace hS:=Sat.box (T:=wdT p _) (a,c,ma,mc) (((((hS.pick 5 rfl).pick 5 rfl).pick 5 rfl).pick 5 rfl).pick 5 rfl)
   replace hS:=(hS.drop (k:=2) rfl)
   exact ⟨(b7,ra,rc),⟨rfl,rfl,rfl,rfl,rfl,rfl,trivial⟩,((hS.pick 2 rfl).pick 2 rfl)⟩
 rintro ⟨b7,ra,rc⟩ w hS
 refine .seq (.block (.seq (.region ?_)))
 refine WL.val (.fieldAddr 2 (.of rfl) Xb9 rfl rfl Qs4 rfl) rfl (WL.val (.ld (.of rfl) hS (k:=1) rfl Qg4 rfl) rfl (.q 1 rfl (.gval rfl rfl (fun hg1=>(.move (.of rfl))) rfl (.gval rfl rfl (fun hg1=>(.neq (.gd hg1 rfl) (.of rfl))) rfl (.val (.pand (.of rfl) (.of rfl) (.of rfl)) rfl (.q 1 rfl (.nil ?_)))))))
 refine WC.cond rfl (fun hb28=>?_) (fun hb28=>?_)
 ·
  refine .seq (.q 1 rfl (.ret (X9 Xs4 rfl ?_)))
  have hE:Xn p.lo p.ps ω q=6:=by rw [Xn,if_pos hb28]
  rw [hE]
  exact ⟨_,rfl,rfl,(hS.drop (k:=0) rfl).drop (k:=0) rfl⟩
 refine .seq (.region ?_)
 refine WL.val (.fieldAddr 2 (.of rfl) Xb9 rfl rfl Qs4 rfl) rfl (WL.val (.ld (.of rfl) hS (k:=1) rfl Qg4 rfl) rfl (.q 2 rfl (.gval rfl rfl (fun hg1=>(.move (.of rfl))) rfl (.val (.pand (.of rfl) (.of rfl) (.of rfl)) rfl (.q 1 rfl (.nil ?_))))))
 refine WC.cond rfl (fun hb35=>?_) (fun hb35=>?_)
 ·
  refine .seq (.q 1 rfl (.ret (X9 Xs4 rfl ?_)))
  have hE:Xn p.lo p.ps ω q=5:=by rw [Xn,if_neg (by rw [hb28]; decide),if_pos hb35]
  rw [hE]
  exact ⟨_,rfl,rfl,(hS.drop (k:=0) rfl).drop (k:=0) rfl⟩
 refine .seq (.region ?_)
 refine WL.val (.fieldAddr 2 (.of rfl) Xb9 rfl rfl Qs4 rfl) rfl (WL.val (.ld (.of rfl) hS (k:=1) rfl Qg4 rfl) rfl (.q 2 rfl (WL.gval rfl rfl (fun hg1=>(by exact .fieldAddr 3 (.of rfl) Xb9 rfl rfl Qs4 rfl)) rfl ?_)))
 refine WL.gval rfl rfl (fun hg1=>(by exact (.ld (.gd hg1 rfl) hS (k:=1) rfl Qg4 rfl))) rfl ?_
 refine .val (.por (.of rfl) (.of rfl) (.of rfl)) rfl (.q 1 rfl (.nil ?_))
 refine WC.cond rfl (fun hb42=>?_) (fun hb42=>?_)
 ·
  refine .seq (.q 1 rfl (.ret (X9 Xs4 rfl ?_)))
  have hE:Xn p.lo p.ps ω q=1:=by rw [Xn,if_neg (by rw [hb28]; decide),if_neg (by rw [hb35]; decide),if_pos hb42]
  rw [hE]
  exact ⟨_,rfl,rfl,(hS.drop (k:=0) rfl).drop (k:=0) rfl⟩
 refine .seq (.t 2 rfl ?_)
 refine WL.gval rfl rfl (fun hg1=>(by exact .fieldAddr 3 (.of rfl) X1t rfl rfl Qs4 rfl)) rfl ?_
 refine WL.gval rfl rfl (fun hg1=>(by exact (.ld (.gd hg1 rfl) hS (k:=0) rfl Qg4 rfl))) rfl ?_
 refine .val (.pand (.of rfl) (.of rfl) (.of rfl)) rfl (.q 1 rfl ?_)
 refine WL.gval rfl rfl (fun hg1=>(by exact .fieldAddr 5 (.of rfl) Xb9 rfl rfl Qs4 rfl)) rfl ?_
 refine WL.gval rfl rfl (fun hg1=>(by exact (.ld (.gd hg1 rfl) hS (k:=1) rfl Qg4 rfl))) rfl ?_
 refine .val (.pand (.of rfl) (.of rfl) (.of rfl)) rfl (.q 1 rfl (.nil ?_))
 refine WC.cond rfl (fun hb50=>?_) (fun hb50=>?_)
 ·
  refine .seq (.q 1 rfl (.ret (X9 Xs4 rfl ?_)))
  have hE:Xn p.lo p.ps ω q=4:=by rw [Xn,if_neg (by rw [hb28]; decide),if_neg (by rw [hb35]; decide),if_neg (by rw [hb42]; decide),if_pos hb50]
  rw [hE]
  exact ⟨_,rfl,rfl,(hS.drop (k:=0) rfl).drop (k:=0) rfl⟩
 refine .seq (.t 2 rfl ?_)
 refine WL.gval rfl rfl (fun hg1=>(by exact .fieldAddr 3 (.of rfl) X1t rfl rfl Qs4 rfl)) rfl ?_
 refine WL.gval rfl rfl (fun hg1=>(by exact (.ld (.gd hg1 rfl) hS (k:=0) rfl Qg4 rfl))) rfl ?_
 refine .val (.pand (.of rfl) (.of rfl) (.of rfl)) rfl (.q 1 rfl (.nil ?_))
 refine WC.cond rfl (fun hb60=>?_) (fun hb60=>?_)
 ·
  refine .seq (.q 1 rfl (.ret (X9 Xs4 rfl ?_)))
  have hE:Xn p.lo p.ps ω q=2:=by rw [Xn,if_neg (by rw [hb28]; decide),if_neg (by rw [hb35]; decide),if_neg (by rw [hb42]; decide),if_neg (by rw [hb50]; decide),if_pos hb60]
  rw [hE]
  exact ⟨_,rfl,rfl,(hS.drop (k:=0) rfl).drop (k:=0) rfl⟩
 refine .seq (.region ?_)
 refine WL.val (.fieldAddr 4 (.of rfl) Xb9 rfl rfl Qs4 rfl) rfl (WL.val (.ld (.of rfl) hS (k:=1) rfl Qg4 rfl) rfl (.q 1 rfl (.nil ?_)))
 refine WC.cond rfl (fun hb66=>?_) (fun hb66=>?_)
 ·
  refine .seq (.q 1 rfl (.ret (X9 Xs4 rfl ?_)))
  have hE:Xn p.lo p.ps ω q=3:=by rw [Xn,if_neg (by rw [hb28]; decide),if_neg (by rw [hb35]; decide),if_neg (by rw [hb42]; decide),if_neg (by rw [hb50]; decide),if_neg (by rw [hb60]; decide),if_pos hb66]
  rw [hE]
  exact ⟨_,rfl,rfl,(hS.drop (k:=0) rfl).drop (k:=0) rfl⟩
 refine .skip (.seq (.q 1 rfl (.ret (X9 Xs4 rfl ?_))))
 have hE:Xn p.lo p.ps ω q=1:=by rw [Xn,if_neg (by rw [hb28]; decide),if_neg (by rw [hb35]; decide),if_neg (by rw [hb42]; decide),if_neg (by rw [hb50]; decide),if_neg (by rw [hb60]; decide),if_neg (by rw [hb66]; decide)]
 rw [hE]
 exact ⟨_,rfl,rfl,(hS.drop (k:=0) rfl).drop (k:=0) rfl⟩
def Xm (lo:List Sv) (ps:Nat→Int) (ω:Wd) (tgt service:List UInt8) (fresh:Bool):Rec:=⟨2,[],tgt,(Xh ps ω tgt 1).1.user,(Xt lo service).2.1,[],0,0,0,fresh⟩
def putW (ω:Wd) (r:Rec):Wd:={ ω with l:=put ω.l r }
theorem Xqm {ω:Wd} (h:X46 ω) (r:Rec):X46 (putW ω r):=⟨by show (put ω.l r).length≤64; rw [Xb2]; exact h.len,h.wf.put,h.D,h.now,h.room⟩
def Xu (lo:List Sv) (ps:Nat→Int) (ω:Wd) (tgt service:List UInt8) (fresh:Bool):((List UInt8×List UInt8)×Nat)×Wd :=
 if (Xh ps ω tgt 1).2=false then ((([],[]),30),ω)
 else if (Xt lo service).2.2≠0 then ((([],[]),31),ω)
 else if (!fresh && !(Xt lo service).1.login)=true then ((([],[]),36),ω)
 else if (mkW ω (Xm lo ps ω tgt service fresh)).1.2≠0 then ((([],[]),(mkW ω (Xm lo ps ω tgt service fresh)).1.2),(mkW ω (Xm lo ps ω tgt service fresh)).2)
 else ((((mkW ω (Xm lo ps ω tgt service fresh)).1.1,(Xt lo service).2.1),0),putW (mkW ω (Xm lo ps ω tgt service fresh)).2 (X45 (Xh ps ω tgt 1).1 (mkW ω (Xm lo ps ω tgt service fresh)).2.now))
theorem Xd7 {lo:List Sv} {ps:Nat→Int} {ω:Wd} (h:X46 ω) (tgt service:List UInt8) (fresh:Bool):X46 (Xu lo ps ω tgt service fresh).2:=by
 unfold Xu
 split
 ·exact h
 ·split
  ·exact h
  ·split
   ·exact h
   ·split
    ·exact X3b h _
    ·exact Xqm (X3b h _) _
theorem X80 {ps:Nat→Int} {ω:Wd} (h:X46 ω) (name:List UInt8) (kind:Int):(Xh ps ω name kind).1.name.length≤23∧(Xh ps ω name kind).1.parent.length≤23∧0≤(Xh ps ω name kind).1.uses∧(Xh ps ω name kind).1.uses≤255:=by
 unfold Xh
 split
 ·decide
 ·exact Xid h.wf name
theorem Xcy (tgt service:List UInt8) (fresh:Bool) (htg:tgt.length≤1000000) (hqs:service.length≤1000000) (p:Wp) (ω:Wd) (hω:X46 ω) (B w:World) (I:Im) (hI:WpOk I p) (As:List X8) (hS:Sat B w I (wdA p ω::As)) :
  Calls Tryz.prog 45 [ptr p.wb 0,S tgt,S service,.bool fresh].toArray w (Ret fun v w'=>v=.tuple #[S (Xu p.lo p.ps ω tgt service fresh).1.1.1,S (Xu p.lo p.ps ω tgt service fresh).1.1.2,I64 ((Xu p.lo p.ps ω tgt service fresh).1.2:Nat)]∧Sat B w' I (wdA p (Xu p.lo p.ps ω tgt service fresh).2::As)):=by
 refine calls Tryz.func45 rfl Tryz.ntmps45 rfl (.seq (.q 3 rfl (.seq (.t 2 rfl (.call Qf21 rfl (X0 (.of rfl) (X0 (.of rfl) (X0 (.of rfl) X4))) rfl (X6y tgt 1 p ω hω B _ I _ hS) ?_)))))
 clear hS
 rintro _ w ⟨rfl,hS⟩
 refine .q 3 rfl (.allocA (cs:=[_,_,_,_,_,_,_,_,_,_]) hS X5q rfl ?_)
 clear hS; intro b11 w hS
 refine WL.stA hS (k:=0) rfl (.of rfl) (.of rfl) rfl Xw rfl (by simp) ?_
 clear hS; intro w hS
 try simp only [Yl,Yf,Yc,Y9,Yj,Yo,Yd] at hS
 refine .q 1 rfl (.nil (.seq (.seq (.q 2 rfl ?_))))
 refine WC.cond rfl (fun hb24=>?_) (fun hb24=>?_)
 ·
  refine .seq (.q 3 rfl (.ret (X6r Qr45 rfl rfl rfl ?_)))
  have hE:Xu p.lo p.ps ω tgt service fresh=((([],[]),30),ω):=by rw [Xu,if_pos (by simpa using hb24)]
  rw [hE]
  exact ⟨_,rfl,rfl,(hS.drop (k:=0) rfl)⟩
 refine .skip (.seq ?_)
 replace hS:=(hS.pick 1 rfl)
 obtain ⟨⟨a,c,ma,mc⟩,hS⟩:=Sat.unbox hS
 replace hS:Sat B _ _ (blk p.wb (wdC p ω) 52::blk p.tb [I64 ω.room,.slice a ω.l.length c] 127::Vec 45 10 (.slice a ω.l.length c) ω.l.length (Xf ω.l)::blk p.mb [.slice ma ω.D.length mc] 168::X4a 118 (.slice ma ω.D.length mc) (ω.D.map fun d=>U64 (d:Nat))::_):=hS
 refine .t 2 rfl (WL.val (.fieldAddr 2 (.of rfl) X72 rfl rfl Tryz.sizeOf49 rfl) rfl (WL.val (.ld (.of rfl) hS (k:=0) rfl Tryz.isAgg49 rfl) rfl (.q 1 rfl (.call Qf40 rfl (X0 (.of rfl) (X0 (.of rfl) X4)) rfl (Xbj service hqs p B _ I hI _ hS) ?_))))
 clear hS
 rintro _ w ⟨ra,rc,rfl,hS⟩
 refine .q 4 rfl (.allocA (cs:=[_,_,_,_,_,_,_,_]) hS X7d rfl ?_)
 clear hS; intro b13 w hS
 refine WL.stA hS (k:=0) rfl (.of rfl) (.of rfl) rfl Xy rfl (by simp) ?_
 clear hS; intro w hS
 try simp only [Yl,Yf,Yc,Y9,Yj,Yo,Yd] at hS
 refine .q 2 rfl (.nil (.seq (.block (.seq (.q 3 rfl ?_)))))
 refine WC.cond rfl (fun hb35=>?_) (fun hb35=>?_)
 ·
  refine .seq (.q 3 rfl (.ret (X6r Qr45 rfl rfl rfl ?_)))
  replace hS:=Sat.box (T:=wdT p _) (a,c,ma,mc) (((((hS.pick 5 rfl).pick 5 rfl).pick 5 rfl).pick 5 rfl).pick 5 rfl)
  have hE:Xu p.lo p.ps ω tgt service fresh=((([],[]),31),ω):=by rw [Xu,if_neg (by rw [show (Xh p.ps ω tgt 1).2=true from by simpa using hb24]; decide),if_pos (by simpa using hb35)]
  rw [hE]
  exact ⟨_,rfl,rfl,((hS.drop (k:=1) rfl).drop (k:=1) rfl)⟩
 refine .seq (.t 3 rfl ?_)
 refine WL.gval rfl rfl (fun hg1=>(by exact .fieldAddr 3 (.of rfl) X1t rfl rfl Qs4 rfl)) rfl ?_
 refine WL.gval rfl rfl (fun hg1=>(by exact (.ld (.gd hg1 rfl) hS (k:=0) rfl Qg4 rfl))) rfl ?_
 refine .gval rfl rfl (fun hg1=>(.not (.gd hg1 rfl))) rfl (.val (.pand (.of rfl) (.of rfl) (.of rfl)) rfl (.q 1 rfl (.nil ?_)))
 refine WC.cond rfl (fun hb38=>?_) (fun hb38=>?_)
 ·
  refine .seq (.q 3 rfl (.ret (X6r Qr45 rfl rfl rfl ?_)))
  replace hS:=Sat.box (T:=wdT p _) (a,c,ma,mc) (((((hS.pick 5 rfl).pick 5 rfl).pick 5 rfl).pick 5 rfl).pick 5 rfl)
  have hE:Xu p.lo p.ps ω tgt service fresh=((([],[]),36),ω):=by rw [Xu,if_neg (by rw [show (Xh p.ps ω tgt 1).2=true from by simpa using hb24]; decide),if_neg (by simpa using hb35),if_pos hb38]
  rw [hE]
  exact ⟨_,rfl,rfl,((hS.drop (k:=1) rfl).drop (k:=1) rfl)⟩
 refine .skip (.seq ?_)
 replace hS:=Sat.box (T:=wdT p _) (a,c,ma,mc) (((((hS.pick 5 rfl).pick 5 rfl).pick 5 rfl).pick 5 rfl).pick 5 rfl)
 refine .t 2 rfl (WL.val (.fieldAddr 3 (.of rfl) X15 rfl rfl Qs9 rfl) rfl (WL.val (.ld (.of rfl) hS (k:=2) rfl Qg9 rfl) rfl (.q 2 rfl (.val (.build (cs:=[_,_,_,_,_,_,_,_,_,_]) (X5 (.of rfl) (X5 (.of rfl) (X5 (.of rfl) (X5 (.of rfl) (X5 (.of rfl) X6))))) X2e rfl) rfl (.call Qf49 rfl (X0 (.of rfl) (X0 (.of rfl) X4)) rfl (X8c (Xm p.lo p.ps ω tgt service fresh) htg p ω hω B _ I hI _ hS) ?_)))))
 clear hS
 rintro _ w ⟨rfl,hS⟩
 refine .q 5 rfl (.nil (.seq (.seq (.q 2 rfl ?_))))
 refine WC.cond rfl (fun hb58=>?_) (fun hb58=>?_)
 ·
  refine .seq (.q 4 rfl (.ret (X6r Qr45 rfl rfl rfl ?_)))
  have hE:Xu p.lo p.ps ω tgt service fresh=((([],[]),(mkW ω (Xm p.lo p.ps ω tgt service fresh)).1.2),(mkW ω (Xm p.lo p.ps ω tgt service fresh)).2):=by rw [Xu,if_neg (by rw [show (Xh p.ps ω tgt 1).2=true from by simpa using hb24]; decide),if_neg (by simpa using hb35),if_neg (by rw [hb38]; decide),if_pos (by simpa using hb58)]
  rw [hE]
  exact ⟨_,rfl,rfl,((hS.drop (k:=1) rfl).drop (k:=1) rfl)⟩
 refine .skip (.seq ?_)
 obtain ⟨⟨a2,c2,ma2,mc2⟩,hS⟩:=Sat.unbox hS
 replace hS:Sat B _ _ (blk p.wb (wdC p (mkW ω (Xm p.lo p.ps ω tgt service fresh)).2) 52::blk p.tb [I64 (mkW ω (Xm p.lo p.ps ω tgt service fresh)).2.room,.slice a2 (mkW ω (Xm p.lo p.ps ω tgt service fresh)).2.l.length c2] 127::Vec 45 10 (.slice a2 (mkW ω (Xm p.lo p.ps ω tgt service fresh)).2.l.length c2) (mkW ω (Xm p.lo p.ps ω tgt service fresh)).2.l.length (Xf (mkW ω (Xm p.lo p.ps ω tgt service fresh)).2.l)::blk p.mb [.slice ma2 (mkW ω (Xm p.lo p.ps ω tgt service fresh)).2.D.length mc2] 168::X4a 118 (.slice ma2 (mkW ω (Xm p.lo p.ps ω tgt service fresh)).2.D.length mc2) ((mkW ω (Xm p.lo p.ps ω tgt service fresh)).2.D.map fun d=>U64 (d:Nat))::_):=hS
 have hω2:=X3b hω (Xm p.lo p.ps ω tgt service fresh)
 have hlen2:=hω2.len
 have hsh:=X80 (ps:=p.ps) hω tgt 1
 refine .drawn (fun w=>∃ R,Sat B w I (blk b11 (X7 (Xh p.ps ω tgt 1).1) 45::blk p.wb (wdC p (mkW ω (Xm p.lo p.ps ω tgt service fresh)).2) 52::R)) (fun j=>!([].contains j)) (by kernel_rfl) ?_
 replace hS:=hS.drew; generalize w.drew=w at hS ⊢
 have hH:=((hS.pick 0 rfl).pick 6 rfl)
 refine .tp (i:=0) rfl (by kernel_rfl) (fun w=>(.move (.of rfl))) rfl (.tp (i:=1) rfl (by kernel_rfl) (fun w=>(.nilCheck (.of rfl))) rfl ?_)
 refine WD.tp (i:=2) rfl (by kernel_rfl) (fun w=>(.fieldAddr 0 (.of rfl) X72 rfl rfl Xly rfl)) rfl (WD.tk (i:=3) rfl (by kernel_rfl) ⟨_,hH⟩ (fun w ⟨R,hS⟩=>((.ld (.of rfl) hS (k:=1) rfl Xip rfl))) rfl (WD.tk (i:=4) rfl (by kernel_rfl) ⟨_,hH⟩ (fun w ⟨R,hS⟩=>((.ldsW (cs:=[_,_,_,_,_,_,_,_,_,_]) (.of rfl) hS (k:=0) rfl X36 Xw rfl))) rfl (.tp (i:=5) rfl (by kernel_rfl) (fun w=>(.move (.of rfl))) rfl (.tp (i:=6) rfl (by kernel_rfl) (fun w=>(.nilCheck (.of rfl))) rfl ?_))))
 refine WD.tp (i:=7) rfl (by kernel_rfl) (fun w=>(.fieldAddr 25 (.of rfl) X72 rfl rfl Qs3 rfl)) rfl (WD.tk (i:=8) rfl (by kernel_rfl) ⟨_,hH⟩ (fun w ⟨R,hS⟩=>((.ld (.of rfl) hS (k:=1) rfl Qg3 rfl))) rfl (WD.branch [9] (by kernel_rfl) rfl (WO.cons rfl ?_ (WO.nil))))
 refine .call Tryz.func96 rfl (X0 (.of rfl) (X0 (.of rfl) X4)) rfl (Xjt (Xh p.ps ω tgt 1).1 (mkW ω (Xm p.lo p.ps ω tgt service fresh)).2.now hsh.2.2.1 hsh.2.2.2 B _ I _ hS) ?_
 clear hS
 rintro _ w ⟨rfl,hS⟩
 refine .nil ?_
 clear hH
 have hH:=((hS.pick 0 rfl).pick 6 rfl)
 refine And.intro (by intro _ _; exact ⟨_,hH⟩) ?_
 refine WD.branch [10] (by kernel_rfl) rfl (WO.cons rfl ?_ (WO.nil))
 refine .call Tryz.func95 rfl (X0 (.of rfl) (X0 (.of rfl) X4)) rfl (Xsi p.tb (mkW ω (Xm p.lo p.ps ω tgt service fresh)).2.room a2 c2 (mkW ω (Xm p.lo p.ps ω tgt service fresh)).2.l (by omega) (X45 (Xh p.ps ω tgt 1).1 (mkW ω (Xm p.lo p.ps ω tgt service fresh)).2.now) (Y27 hsh.1 (by decide)) (Y27 hsh.2.1 (by decide)) B _ I hI.known hI.pre _ ((hS.pick 2 rfl).pick 2 rfl)) ?_
 clear hS
 rintro _ w ⟨rfl,hS⟩
 refine .nil ?_
 clear hH
 have hH:=((hS.pick 2 rfl).pick 6 rfl)
 refine And.intro (by intro _ _; exact ⟨_,hH⟩) ?_
 refine .done (by kernel_rfl) (.seq (.q 5 rfl (.ret (X6r Qr45 rfl rfl rfl ?_))))
 replace hS:=Sat.box (T:=wdT p (putW (mkW ω (Xm p.lo p.ps ω tgt service fresh)).2 (X45 (Xh p.ps ω tgt 1).1 (mkW ω (Xm p.lo p.ps ω tgt service fresh)).2.now))) (a2,c2,ma2,mc2) (((((hS.pick 4 rfl).pick 4 rfl).pick 3 rfl).pick 3 rfl).pick 4 rfl)
 have hE:Xu p.lo p.ps ω tgt service fresh=((((mkW ω (Xm p.lo p.ps ω tgt service fresh)).1.1,(Xt p.lo service).2.1),0),putW (mkW ω (Xm p.lo p.ps ω tgt service fresh)).2 (X45 (Xh p.ps ω tgt 1).1 (mkW ω (Xm p.lo p.ps ω tgt service fresh)).2.now)):=by rw [Xu,if_neg (by rw [show (Xh p.ps ω tgt 1).2=true from by simpa using hb24]; decide),if_neg (by simpa using hb35),if_neg (by rw [hb38]; decide),if_neg (by simpa using hb58)]
 rw [hE]
 exact ⟨_,rfl,rfl,((hS.drop (k:=1) rfl).drop (k:=1) rfl)⟩
theorem Xpc:Bld Tryz.prog 52 [(0,1),(1,1),(2,1),(3,1),(4,21),(25,1)] [.pointer none,.pointer none,.pointer none,.pointer none,.int .i64 0,.int .i64 0,.int .i64 0,.int .i64 0,.int .i64 0,.int .i64 0,.int .i64 0,.int .i64 0,.int .i64 0,.int .i64 0,.int .i64 0,.int .i64 0,.int .i64 0,.int .i64 0,.int .i64 0,.int .i64 0,.int .i64 0,.int .i64 0,.int .i64 0,.int .i64 0,.int .i64 0,.int .i64 0]:=X2l X72 Tryz.zeroValue52 (fun w=>by simp [go_sem])
structure Cf where
 svs:List Sv
 us:List Us
 ps:Nat→Int
 room:Int
 base:Nat
 factor:Nat
 most:Nat
 tries:Int
def X12 (c:Cf) (a:Option Addr) (cap:Nat) (ua:Option Addr) (ucap:Nat):List Value:=.slice a c.svs.length cap::.slice ua c.us.length ucap::((psL c.ps).map I64 ++ [I64 c.room,F64 c.base,F64 c.factor,F64 c.most,I64 c.tries])
structure Cf.fits (c:Cf):Prop where
 svs:c.svs.length≤100000
 ords:∀ v∈ords c.svs,v<18446744073709551616
 sfit:∀ s∈c.svs,s.urls.length≤9223372036854775807∧s.calls.length≤9223372036854775807∧s.rel.length≤1000000
 us:c.us.length≤9223372036854775807
 ufit:∀ u∈c.us,u.fits
def X5p (c:Cf):Nat:=if (X3l c.svs).1≠0 then (X3l c.svs).1 else if (X4i c.us 0 []).1≠0 then (X4i c.us 0 []).1 else if X69 c.ps=false then 1 else 0
theorem Xka:∀ (l:List Us) (i:Nat) (acc:List Us),(X4i l i acc).1=0→∀ u∈l,X6s u=true
 | [],_,_,_,u,h=>by simp at h
 | t::l,i,acc,h,u,hu=>by
  rw [X4i] at h
  split at h
  ·cases h
  ·split at h
   ·cases h
   ·rename_i h1
    split at h
    ·cases h
    ·rcases Y17.1 hu with e | hu
     ·subst e; simpa using h1
     ·exact Xka l (i+1) _ h u hu
theorem Xkb {l:List Sv} {D:List Int} (hO:Srt.Ord (kx (ords l)) l.length D):∀ s∈X48 l D,s∈l:=by
 intro s hs
 unfold X48 at hs
 obtain ⟨d,hd,rfl⟩:=Y26.1 hs
 obtain ⟨h1,h2⟩:=Srt.upto_mem.1 (hO.2.mem_iff.1 hd)
 rw [Y7,Y4 (by omega)]
 exact Y2o _
theorem Xkj {A vs C:List Value} {j:Nat} {v:Value} (h:vs[j]?=some v):(A ++ (vs ++ C))[A.length+j]?=some v:=by
 rw [Yv (by omega),Y2e,Yg (Y5.1 h).1]
 exact h
def w0 (c:Cf):Wd:=⟨Xl0 c.room,[],[],0⟩
theorem Xje (c:Cf):X46 (w0 c):=⟨by simp [w0],Wf.nil,fun d h=>by simp [w0] at h,by simp [w0],by unfold w0 Xl0; (try dsimp only); omega⟩
set_option maxRecDepth 20000 in
theorem X7x (c:Cf) (hc:c.fits) (a:Option Addr) (cap:Nat) (ua:Option Addr) (ucap:Nat) (B w:World) (I:Im) (hK:Known I) (hP:PreAt I) (hl:SvsAt I a c.svs) (hU:UsrsAt I ua c.us) (As:List X8) (hS:Sat B w I As) :
  Calls Tryz.prog 41 [.agg (X12 c a cap ua ucap).toArray].toArray w (Ret fun v w'=>∃ J,Le I J∧((X5p c≠0∧v=.tuple #[.pointer none,I64 (X5p c:Nat)]∧Sat B w' J As)∨(X5p c=0∧∃ p D,Srt.Ord (kx (ords c.svs)) c.svs.length D∧p.lo=X48 c.svs D∧p.us=c.us∧p.ps=c.ps∧v=.tuple #[ptr p.wb 0,I64 0]∧WpOk J p∧Sat B w' J (wdA p (w0 c)::As)))):=by
 refine calls Tryz.func41 rfl Tryz.ntmps41 rfl (.seq (.region (.boxA (cs:=[_,_,_,_,_,_,_,_,_,_,_,_,_,_,_,_,_,_,_,_,_,_,_,_,_,_,_,_]) hS (.of rfl) rfl ?_)))
 clear hS; intro b1 w hS
 refine .q 2 rfl (.nil (.seq (.region ?_)))
 refine WL.val (.fieldAddr 0 (.of rfl) Xdk rfl rfl Qs27 rfl) rfl (.val (.ld (.of rfl) hS (k:=0) rfl Qg27 rfl) rfl (.call Tryz.func89 rfl (X0 (.of rfl) X4) rfl (Xrn a cap c.svs hc.svs hc.ords hc.sfit B _ I hl _ hS) ?_))
 clear hS
 rintro v w ⟨J,hJ,hS,hor⟩
 obtain ⟨pv,e9,i9,rfl,he9,hz9⟩:∃ (pv:Value) (e9 i9:Nat),v=.tuple #[pv,I64 (e9:Nat),I64 (i9:Nat)]∧e9=(X3l c.svs).1∧(e9=0→∃ pr D,pv=.pointer (some pr)∧Srt.Ord (kx (ords c.svs)) c.svs.length D∧RegAt J pr (X48 c.svs D)):=by
  rcases hor with ⟨h1,h2⟩ | ⟨h1,pr,D,h2,h3,h4⟩
  ·exact ⟨_,_,_,h2,rfl,fun h=>absurd h h1⟩
  ·exact ⟨_,0,0,h2,h1.symm,fun _=>⟨pr,D,rfl,h3,h4⟩⟩
 refine .q 7 rfl (.nil (.seq (.seq (.q 2 rfl ?_))))
 refine WC.cond rfl (fun hb17=>?_) (fun hb17=>?_)
 ·
  refine .seq (.q 3 rfl (.ret (X1m Qr41 rfl rfl ?_)))
  have hne:(X3l c.svs).1≠0:=by rw [← he9]; simpa using hb17
  have hE:X5p c=e9:=by rw [X5p,if_pos hne,he9]
  exact ⟨_,rfl,J,hJ,.inl ⟨by rw [hE,he9]; exact hne,by rw [hE]; rfl,hS.drop (k:=0) rfl⟩⟩
 refine .skip (.seq (.region ?_))
 refine WL.val (.fieldAddr 1 (.of rfl) Xdk rfl rfl Qs28 rfl) rfl (.val (.ld (.of rfl) hS (k:=0) rfl Qg28 rfl) rfl (.call Tryz.func90 rfl (X0 (.of rfl) X4) rfl (Xe4 ua ucap c.us hc.us hc.ufit B _ J (hU.mono hJ) _ hS) ?_))
 clear hS
 rintro v w ⟨J2,hJ2,hor2,hS⟩
 have hw0:(X3l c.svs).1=0:=by rw [← he9]; simpa using hb17
 obtain ⟨pr,D,rfl,hOrd,hreg⟩:=hz9 (by omega)
 obtain ⟨uv,f9,j9,rfl,hf9,hy9⟩:∃ (uv:Value) (f9 j9:Nat),v=.tuple #[uv,I64 (f9:Nat),I64 (j9:Nat)]∧f9=(X4i c.us 0 []).1∧(f9=0→∃ ub,uv=ptr ub 0∧TabAt J2 ub c.us):=by
  rcases hor2 with ⟨h1,ub,h2,h3⟩ | ⟨h1,h2⟩
  ·exact ⟨_,0,0,h2,h1.symm,fun _=>⟨ub,rfl,h3⟩⟩
  ·exact ⟨_,_,_,h2,rfl,fun h=>absurd h h1⟩
 refine .q 7 rfl (.nil (.seq (.seq (.q 2 rfl ?_))))
 refine WC.cond rfl (fun hb27=>?_) (fun hb27=>?_)
 ·
  refine .seq (.q 3 rfl (.ret (X1m Qr41 rfl rfl ?_)))
  have hne:(X4i c.us 0 []).1≠0:=by rw [← hf9]; simpa using hb27
  have hE:X5p c=f9:=by rw [X5p,if_neg (by rw [hw0]; decide),if_pos hne,hf9]
  exact ⟨_,rfl,J2,hJ.trans hJ2,.inl ⟨by rw [hE,hf9]; exact hne,by rw [hE]; rfl,hS.drop (k:=0) rfl⟩⟩
 refine .skip (.seq (.seq (.region ?_)))
 refine WL.val (.fieldAddr 2 (.of rfl) Xdk rfl rfl Xim rfl) rfl (.val (.lds (vs:=[I64 (c.ps 0),I64 (c.ps 1),I64 (c.ps 2),I64 (c.ps 3),I64 (c.ps 4),I64 (c.ps 5),I64 (c.ps 6),I64 (c.ps 7),I64 (c.ps 8),I64 (c.ps 9),I64 (c.ps 10),I64 (c.ps 11),I64 (c.ps 12),I64 (c.ps 13),I64 (c.ps 14),I64 (c.ps 15),I64 (c.ps 16),I64 (c.ps 17),I64 (c.ps 18),I64 (c.ps 19),I64 (c.ps 20)]) (.of rfl) hS (k:=0) rfl Xqn Xim rfl (fun j v hj=>Xkj (A:=[.slice a c.svs.length cap,.slice ua c.us.length ucap]) (C:=[I64 c.room,F64 c.base,F64 c.factor,F64 c.most,I64 c.tries]) hj)) rfl (.call Tryz.func91 rfl (X0 (.of rfl) X4) rfl (Xhn c.ps B _ J2 _ hS) ?_))
 clear hS
 rintro _ w ⟨rfl,hS⟩
 have hu0:(X4i c.us 0 []).1=0:=by rw [← hf9]; simpa using hb27
 obtain ⟨ub,rfl,hTab⟩:=hy9 (by omega)
 refine .q 1 rfl (.nil ?_)
 refine WC.cond rfl (fun hb32=>?_) (fun hb32=>?_)
 ·
  refine .seq (.q 2 rfl (.ret (X1m Qr41 rfl rfl ?_)))
  have hE:X5p c=1:=by rw [X5p,if_neg (by rw [hw0]; decide),if_neg (by rw [hu0]; decide),if_pos (by simpa using hb32)]
  exact ⟨_,rfl,J2,hJ.trans hJ2,.inl ⟨by rw [hE]; decide,by rw [hE]; rfl,hS.drop (k:=0) rfl⟩⟩
 refine .skip (.seq (.drawn (fun w=>∃ R,Sat B w J2 (blk b1 [.slice a c.svs.length cap,.slice ua c.us.length ucap,I64 (c.ps 0),I64 (c.ps 1),I64 (c.ps 2),I64 (c.ps 3),I64 (c.ps 4),I64 (c.ps 5),I64 (c.ps 6),I64 (c.ps 7),I64 (c.ps 8),I64 (c.ps 9),I64 (c.ps 10),I64 (c.ps 11),I64 (c.ps 12),I64 (c.ps 13),I64 (c.ps 14),I64 (c.ps 15),I64 (c.ps 16),I64 (c.ps 17),I64 (c.ps 18),I64 (c.ps 19),I64 (c.ps 20),I64 c.room,F64 c.base,F64 c.factor,F64 c.most,I64 c.tries] 34::R)) (fun j=>!([].contains j)) (by kernel_rfl) ?_))
 replace hS:=hS.drew; generalize w.drew=w at hS ⊢
 have hH:=(hS.pick 0 rfl)
 refine WD.tp (i:=0) rfl (by kernel_rfl) (fun w=>(.fieldAddr 23 (.of rfl) Xdk rfl rfl Qs3 rfl)) rfl (.tk (i:=1) rfl (by kernel_rfl) ⟨_,hH⟩ (fun w ⟨R,hS⟩=>(.ld (.of rfl) hS (k:=0) rfl Qg3 rfl)) rfl (.tp (i:=4) rfl (by kernel_rfl) (fun w=>(.move (.of rfl))) rfl (.tp (i:=5) rfl (by kernel_rfl) (fun w=>(.move (.of rfl))) rfl ?_)))
 refine WD.tp (i:=6) rfl (by kernel_rfl) (fun w=>(.fieldAddr 2 (.of rfl) Xdk rfl rfl Xim rfl)) rfl (.tk (i:=7) rfl (by kernel_rfl) ⟨_,hH⟩ (fun w ⟨R,hS⟩=>.lds (vs:=[I64 (c.ps 0),I64 (c.ps 1),I64 (c.ps 2),I64 (c.ps 3),I64 (c.ps 4),I64 (c.ps 5),I64 (c.ps 6),I64 (c.ps 7),I64 (c.ps 8),I64 (c.ps 9),I64 (c.ps 10),I64 (c.ps 11),I64 (c.ps 12),I64 (c.ps 13),I64 (c.ps 14),I64 (c.ps 15),I64 (c.ps 16),I64 (c.ps 17),I64 (c.ps 18),I64 (c.ps 19),I64 (c.ps 20)]) (.of rfl) hS (k:=0) rfl Xqn Xim rfl (fun j v hj=>Xkj (A:=[.slice a c.svs.length cap,.slice ua c.us.length ucap]) (C:=[I64 c.room,F64 c.base,F64 c.factor,F64 c.most,I64 c.tries]) hj)) rfl (WD.branch [2] (by kernel_rfl) rfl (WO.cons rfl ?_ (WO.nil))))
 refine .call Tryz.func92 rfl (X0 (.of rfl) X4) rfl (Xfq c.room B _ J2 _ hS) ?_
 clear hS
 rintro _ w ⟨tb,rfl,hS⟩
 refine .nil ?_
 clear hH
 have hH:=(hS.pick 2 rfl)
 refine And.intro (by intro _ _; exact ⟨_,hH⟩) ?_
 refine WD.branch [3] (by kernel_rfl) rfl (WO.cons rfl ?_ (WO.nil))
 refine .call Tryz.func93 rfl (X0 (.of rfl) X4) rfl (Xg0 B _ J2 _ hS) ?_
 clear hS
 rintro _ w ⟨mb,rfl,hS⟩
 refine .nil ?_
 clear hH
 have hH:=(hS.pick 4 rfl)
 refine And.intro (by intro _ _; exact ⟨_,hH⟩) ?_
 refine .tp (i:=8) rfl (by kernel_rfl) (fun w=>(.build (cs:=[_,_,_,_,_,_,_,_,_,_,_,_,_,_,_,_,_,_,_,_,_,_,_,_,_,_]) (X5 (.of rfl) (X5 (.of rfl) (X5 (.of rfl) (X5 (.of rfl) (X5 (.of rfl) X6))))) Xpc rfl)) rfl (WD.branch [9] (by kernel_rfl) rfl (WO.cons rfl ?_ (WO.nil)))
 refine .boxA (cs:=[_,_,_,_,_,_,_,_,_,_,_,_,_,_,_,_,_,_,_,_,_,_,_,_,_,_]) hS (.of rfl) rfl ?_
 clear hS; intro b42 w hS
 refine .nil ?_
 clear hH
 have hH:=(hS.pick 5 rfl)
 refine And.intro (by intro _ _; exact ⟨_,hH⟩) ?_
 refine .tp (i:=10) rfl (by kernel_rfl) (fun w=>(.assign (.of rfl))) rfl (.tp (i:=11) rfl (by kernel_rfl) (fun w=>(.assign (.of rfl))) rfl (.done (by kernel_rfl) (.ret (X1m Qr41 rfl rfl ?_))))
 have hE:X5p c=0:=by rw [X5p,if_neg (by rw [hw0]; decide),if_neg (by rw [hu0]; decide),if_neg (by simpa using hb32)]
 have hp:=Xkb hOrd
 refine ⟨_,rfl,J2,hJ.trans hJ2,.inr ⟨hE,⟨b42,tb,mb,ub,pr,X48 c.svs D,c.us,c.ps⟩,D,hOrd,rfl,rfl,rfl,rfl,⟨hreg.mono hJ2,hTab,?_,fun s hs=>(hc.sfit s (hp s hs)).2.2,hc.ufit,fun u hu=>X9c (Xka c.us 0 [] hu0 u hu),(hK.mono hJ).mono hJ2,(hP.mono hJ).mono hJ2⟩,?_⟩⟩
 ·show (X48 c.svs D).length≤100000
  rw [X48,Yz,hOrd.len]; exact hc.svs
 ·exact Sat.box (T:=wdT ⟨b42,tb,mb,ub,pr,X48 c.svs D,c.us,c.ps⟩ (w0 c)) (none,0,none,0) ((((((hS.pick 2 rfl).pick 2 rfl).pick 4 rfl).pick 4 rfl).pick 4 rfl).drop (k:=5) rfl)
structure Sx where
 user:List UInt8
 attrs:List Pr
 proxies:List (List UInt8)
 iou:List UInt8
def SxAt (J:Im) (x:Sx) (cs:List Value):Prop:=∃ ka kc pa pc,cs=[S x.user,.slice ka x.attrs.length kc,.slice pa x.proxies.length pc,S x.iou]∧x.attrs.length≤kc∧RS J ka 2 x.attrs.length (X1c X1h x.attrs)∧x.proxies.length≤pc∧RS J pa 1 x.proxies.length (x.proxies.map S)
theorem SxAt.mono {I J:Im} {x:Sx} {cs:List Value} (h:SxAt I x cs) (hl:Le I J):SxAt J x cs:=by
 obtain ⟨ka,kc,pa,pc,e,h1,h2,h3,h4⟩:=h
 exact ⟨ka,kc,pa,pc,e,h1,h2.mono hl,h3,h4.mono hl⟩
theorem Ex.sub3U {P:Program} {n:Nat} {L:Env} {w:World} {d:Option Nat} {ty t:TypeId} {pos:String} {af:Array Edge} {g:Option (Nat×Bool)} {x y z:Operand} {l:List UInt8} {i j:Int} (hx:Ev n L x (S l)) (hy:Ev n L y (U64 i)) (hz:Ev n L z (U64 j)) (h0:0≤i) (h1:i≤j) (h2:j≤(l.length:Int)) (hT:P.underlying t=some .string) :
  Ex P n L w ⟨d,.slice t x (some y) (some z) none,ty,pos,af,g⟩ (S ((l.drop i.toNat).take (j.toNat - i.toNat))) w:=fun a ha=>by
 have h:=run_slice_string (P:=P) w t ⟨l.toArray⟩ .u64 .u64 i j hT h0 h1 h2
 rw [X9v] at h
 simp [execOp,hx a ha,hy a ha,hz a ha,run_sliceAt_string w t _ _ _ _ hT,h]
def bigP (y:Pr):Bool:=decide ((80:Int)<(y.1.length:Int)) || decide ((80:Int)<(y.2.length:Int))
def bigU (u:Us):Bool:=(decide ((20:Int)<(u.attrs.length:Int)) || decide ((80:Int)<(u.name.length:Int))) || decide ((80:Int)<(u.pw.length:Int))
def Xdz (u:Us):Bool:=!bigU u && u.attrs.all fun y=>!bigP y
def fewU (l:List Us):Bool:=l.all Xdz && decide ((l.length:Int)≤20)
def fewC (c:Cf):Bool:=few c.svs && fewU c.us
theorem Xab {α:Type} {cells:α→List Value} {s:Nat} (hc:∀ x,(cells x).length=s) {I:Im} {a:Option Addr} {l:List α} (hR:RS I a s l.length (X1c cells l)) {i:Nat} {x:α} (hx:l[i]?=some x):∃ q,a=some q∧At I (q.add (i*s)) (cells x):=by
 obtain ⟨q,rfl,hq⟩:=hR.2 (by have:=(Y5.1 hx).1; omega)
 refine ⟨q,rfl,?_⟩
 have h3:=X4f (hq.add (i*s)) s
 rw [X1c,X1x (l.map cells) (fun c h=>by obtain ⟨y,_,rfl⟩:=Y26.1 h; exact hc y) i (cells x) (by rw [Yy,hx]; rfl)] at h3
 exact h3
theorem Xp4 (a:Option Addr) (cap:Nat) (l:List Us) (hln:l.length≤9223372036854775807) (hfit:∀ u∈l,u.fits) (B w:World) (I:Im) (hU:UsrsAt I a l) (As:List X8) (hS:Sat B w I As) :
  Calls Tryz.prog 108 [.slice a l.length cap].toArray w (Ret fun v w'=>v=.bool (fewU l)∧Sat B w' I As):=by
 refine calls Tryz.func108 rfl Tryz.ntmps108 rfl (.seq (.q 1 rfl (.seq (.seq (.q 1 rfl (.block (.loop (σ:=Nat) (fun i=>[(0,.slice a l.length cap),(3,I64 (i:Nat))]) (fun i w=>i≤l.length∧(∀ (j:Nat) u,j<i→l[j]?=some u→Xdz u=true)∧Sat B w I As) (fun i=>l.length - i) 0 ⟨rfl,rfl,trivial⟩ ⟨Yp _,fun _ _ h=>absurd h (by omega),hS⟩ ?_)))))))
 rintro i w ⟨hi,hno,hS⟩
 refine .seq (.seq (.region (.run 4 rfl ⟨⟨_,Xbs⟩,trivial⟩ (.nil ?_))))
 refine WC.cond rfl (fun hb8=>?_) (fun hb8=>?_)
 ·
  have hc8:=hb8; try simp only [Y6] at hc8
  refine .skip (.seq (.block (.seq (.seq ?_))))
  obtain ⟨u,hu⟩:∃ u,l[i]?=some u:=⟨_,Y4 (by omega)⟩
  obtain ⟨p,ra,rc,hap,hx,hrc,hRR⟩:=hU i u hu
  have hfu:=(hfit u (Ym hu)).attrs.1
  subst hap
  unfold X2p at hx
  refine .t 2 rfl (WL.val (.indexAddrI (.of rfl) (.of rfl) (by omega) (by omega) Xbs Xb4) rfl (WL.val (.fieldAddrI 2 (.of rfl) X66 rfl rfl Xin rfl) rfl (WL.val (.ldI (.of rfl) hS (At.add hx _) Xlx rfl) rfl (.run 3 rfl ⟨⟨_,Xgh⟩,trivial⟩ (.gval rfl rfl (fun hg1=>(.move (.of rfl))) rfl (.gval rfl rfl (fun hg1=>(.move (.of rfl))) rfl ?_))))))
  refine WL.gval rfl rfl (fun hg1=>(by exact .indexAddrI (.gd hg1 rfl) (.gd hg1 rfl) (by (try simp only [Y6] at hg1); omega) (by (try simp only [Y6] at hg1); omega) Xbs Xb4)) rfl ?_
  refine WL.gval rfl rfl (fun hg1=>(by exact .fieldAddrI 0 (.gd hg1 rfl) X66 rfl rfl Qs9 rfl)) rfl ?_
  refine WL.gval rfl rfl (fun hg1=>(by exact (.ldI (.gd hg1 rfl) hS (At.add hx _) Qg9 rfl))) rfl ?_
  refine .gval rfl rfl (fun hg1=>(.len (.gd hg1 rfl) Qu9)) rfl (.gval rfl rfl (fun hg1=>(.gtr (.gd hg1 rfl) (.of rfl))) rfl (.val (.por (.of rfl) (.of rfl) (.of rfl)) rfl (.q 1 rfl (.gval rfl rfl (fun hg1=>(.move (.of rfl))) rfl (.gval rfl rfl (fun hg1=>(.move (.of rfl))) rfl ?_)))))
  refine WL.gval rfl rfl (fun hg1=>(by exact .indexAddrI (.gd hg1 rfl) (.gd hg1 rfl) (by (try simp only [Y6] at hg1); omega) (by (try simp only [Y6] at hg1); omega) Xbs Xb4)) rfl ?_
  refine WL.gval rfl rfl (fun hg1=>(by exact .fieldAddrI 1 (.gd hg1 rfl) X66 rfl rfl Qs9 rfl)) rfl ?_
  refine WL.gval rfl rfl (fun hg1=>(by exact (.ldI (.gd hg1 rfl) hS (At.add hx _) Qg9 rfl))) rfl ?_
  refine .gval rfl rfl (fun hg1=>(.len (.gd hg1 rfl) Qu9)) rfl (.gval rfl rfl (fun hg1=>(.gtr (.gd hg1 rfl) (.of rfl))) rfl (.val (.por (.of rfl) (.of rfl) (.of rfl)) rfl (.nil ?_)))
  refine WC.cond rfl (fun hb35=>?_) (fun hb35=>?_)
  ·
   refine .seq (.q 1 rfl (.ret (X9 Xs8 rfl ?_)))
   refine ⟨_,rfl,congrArg Value.bool ?_,hS⟩
   have:l.all Xdz=false:=Y2j.2 ⟨u,Ym hu,by
    rw [Xdz,show bigU u=true from hb35,Bool.not_true,Y56]; decide⟩
   rw [fewU,this]; rfl
  have hc35:=hb35; try simp only [Y6] at hc35
  refine .skip (.seq (.q 1 rfl (.block (.loop (σ:=Nat) (fun k=>[(0,.slice (some p) l.length cap),(3,I64 (i:Nat)),(4,I64 (k:Nat))]) (fun k w=>k≤u.attrs.length∧(∀ (j:Nat) y,j<k→u.attrs[j]?=some y→bigP y=false)∧Sat B w I As) (fun k=>u.attrs.length - k) 0 ⟨rfl,rfl,rfl,trivial⟩ ⟨Yp _,fun _ _ h=>absurd h (by omega),hS⟩ ?_))))
  rintro k w ⟨hk,hny,hS⟩
  refine .seq (.seq (.t 3 rfl ?_))
  refine WL.val (.indexAddrI (.of rfl) (.of rfl) (by omega) (by omega) Xbs Xb4) rfl (WL.val (.fieldAddrI 2 (.of rfl) X66 rfl rfl Xin rfl) rfl (WL.val (.ldI (.of rfl) hS (At.add hx _) Xlx rfl) rfl (.run 2 rfl ⟨⟨_,Xgh⟩,trivial⟩ (.nil ?_))))
  refine WC.cond rfl (fun hb43=>?_) (fun hb43=>?_)
  ·
   have hc43:=hb43; try simp only [Y6] at hc43
   refine .skip (.seq (.block (.seq ?_)))
   obtain ⟨y,hy0⟩:∃ y,u.attrs[k]?=some y:=⟨_,Y4 (by omega)⟩
   obtain ⟨q,hq9,hy⟩:=Xab (cells:=X1h) (s:=2) (fun _=>rfl) hRR hy0
   subst hq9
   unfold X1h at hy
   refine .t 2 rfl (WL.val (.indexAddrI (.of rfl) (.of rfl) (by omega) (by omega) Xbs Xb4) rfl (WL.val (.fieldAddrI 2 (.of rfl) X66 rfl rfl Xin rfl) rfl (WL.val (.ldI (.of rfl) hS (At.add hx _) Xlx rfl) rfl (.q 1 rfl (WL.val (.indexAddrI (.of rfl) (.of rfl) (by omega) (by omega) Xgh Xps) rfl (WL.val (.fieldAddrI 0 (.of rfl) Xpi rfl rfl Qs9 rfl) rfl (WL.val (.ldI (.of rfl) hS (At.add hy _) Qg9 rfl) rfl (.run 3 rfl ⟨Qu9,trivial⟩ (.gval rfl rfl (fun hg1=>(.move (.of rfl))) rfl (.gval rfl rfl (fun hg1=>(.move (.of rfl))) rfl ?_))))))))))
   refine WL.gval rfl rfl (fun hg1=>(by exact .indexAddrI (.gd hg1 rfl) (.gd hg1 rfl) (by (try simp only [Y6] at hg1); omega) (by (try simp only [Y6] at hg1); omega) Xbs Xb4)) rfl ?_
   refine WL.gval rfl rfl (fun hg1=>(by exact .fieldAddrI 2 (.gd hg1 rfl) X66 rfl rfl Xin rfl)) rfl ?_
   refine WL.gval rfl rfl (fun hg1=>(by exact (.ldI (.gd hg1 rfl) hS (At.add hx _) Xlx rfl))) rfl ?_
   refine .gval rfl rfl (fun hg1=>(.move (.of rfl))) rfl (WL.gval rfl rfl (fun hg1=>(by exact .indexAddrI (.gd hg1 rfl) (.gd hg1 rfl) (by (try simp only [Y6] at hg1); omega) (by (try simp only [Y6] at hg1); omega) Xgh Xps)) rfl ?_)
   refine WL.gval rfl rfl (fun hg1=>(by exact .fieldAddrI 1 (.gd hg1 rfl) Xpi rfl rfl Qs9 rfl)) rfl ?_
   refine WL.gval rfl rfl (fun hg1=>(by exact (.ldI (.gd hg1 rfl) hS (At.add hy _) Qg9 rfl))) rfl ?_
   refine .gval rfl rfl (fun hg1=>(.len (.gd hg1 rfl) Qu9)) rfl (.gval rfl rfl (fun hg1=>(.gtr (.gd hg1 rfl) (.of rfl))) rfl (.val (.por (.of rfl) (.of rfl) (.of rfl)) rfl (.nil ?_)))
   refine WC.cond rfl (fun hb69=>?_) (fun hb69=>?_)
   ·
    refine .seq (.q 1 rfl (.ret (X9 Xs8 rfl ?_)))
    refine ⟨_,rfl,congrArg Value.bool ?_,hS⟩
    have:l.all Xdz=false:=Y2j.2 ⟨u,Ym hu,by
     have:u.attrs.all (fun y=>!bigP y)=false:=Y2j.2 ⟨y,Ym hy0,by
      rw [show bigP y=true from hb69]; decide⟩
     rw [Xdz,this,Y4q]; decide⟩
    rw [fewU,this]; rfl
   have hc69:=hb69; try simp only [Y6] at hc69
   refine .skip (.region (.run 3 rfl ⟨⟨by omega,by omega⟩,trivial⟩ (.nil ?_)))
   refine ⟨k+1,⟨rfl,rfl,rfl,trivial⟩,⟨by (try dsimp only); omega,fun j t hj ht=>?_,hS⟩,by (try dsimp only); omega⟩
   rcases Yr j k with h1 | h1
   ·exact hny j t h1 ht
   ·have e:j=k:=by omega
    subst e
    rw [hy0] at ht; cases ht
    exact hb69
  have hc43:=hb43; try simp only [Y6] at hc43
  refine .exit (.region (.run 3 rfl ⟨⟨by omega,by omega⟩,trivial⟩ (.nil ?_)))
  refine ⟨i+1,⟨rfl,rfl,trivial⟩,⟨by (try dsimp only); omega,fun j t hj ht=>?_,hS⟩,by (try dsimp only); omega⟩
  rcases Yr j i with h1 | h1
  ·exact hno j t h1 ht
  ·have e:j=i:=by omega
   subst e
   rw [hu] at ht; cases ht
   have e1:bigU u=false:=hb35
   rw [Xdz,e1,Y3w,Y31,Y1a]
   intro y hy
   obtain ⟨q,hq⟩:=Y11.1 hy
   have:=(Y5.1 hq).1
   rw [hny q y (by omega) hq]; rfl
 have hc8:=hb8; try simp only [Y6] at hc8
 refine .exit (.seq (.region (.run 4 rfl ⟨⟨_,Xbs⟩,trivial⟩ (.nil (.ret (X9 Xs8 rfl ?_))))))
 refine ⟨_,rfl,congrArg Value.bool ?_,hS⟩
 have:l.all Xdz=true:=by
  rw [Y1a]
  intro u hu
  obtain ⟨q,hq⟩:=Y11.1 hu
  have:=(Y5.1 hq).1
  exact hno q u (by omega) hq
 rw [fewU,this,Y31]
set_option maxRecDepth 20000 in
theorem Xp5 (c:Cf) (a:Option Addr) (cap:Nat) (ua:Option Addr) (ucap:Nat) (hcap:c.svs.length≤cap) (hcm:cap≤maxLen) (hun:c.us.length≤9223372036854775807) (hfit:∀ u∈c.us,u.fits) (B w:World) (I:Im) (hl:SvsAt I a c.svs) (hU:UsrsAt I ua c.us) (As:List X8) (hS:Sat B w I As) :
  Calls Tryz.prog 60 [.agg (X12 c a cap ua ucap).toArray].toArray w (Ret fun v w'=>v=.bool (fewC c)∧Sat B w' I As):=by
 refine calls Tryz.func60 rfl Tryz.ntmps60 rfl (.seq (.region (.boxA (cs:=[_,_,_,_,_,_,_,_,_,_,_,_,_,_,_,_,_,_,_,_,_,_,_,_,_,_,_,_]) hS (.of rfl) rfl ?_)))
 clear hS; intro b1 w hS
 refine .q 1 rfl (.nil (.seq (.region ?_)))
 refine WL.val (.fieldAddr 0 (.of rfl) Xdk rfl rfl Qs27 rfl) rfl (WL.val (.ld (.of rfl) hS (k:=0) rfl Qg27 rfl) rfl (.call Tryz.func107 rfl (X0 (.of rfl) X4) rfl (Xra a cap c.svs hcap hcm B _ I hl _ hS) ?_))
 clear hS
 rintro _ w ⟨rfl,hS⟩
 refine .q 1 rfl (.nil (.seq (.region ?_)))
 refine WL.val (.fieldAddr 1 (.of rfl) Xdk rfl rfl Qs28 rfl) rfl (WL.val (.ld (.of rfl) hS (k:=0) rfl Qg28 rfl) rfl (.call Tryz.func108 rfl (X0 (.of rfl) X4) rfl (Xp4 ua ucap c.us hun hfit B _ I hU _ hS) ?_))
 clear hS
 rintro _ w ⟨rfl,hS⟩
 refine .q 1 rfl (.nil (.seq (.t 2 rfl (.gval rfl rfl (fun hg1=>(.move (.of rfl))) rfl (.val (.pand (.of rfl) (.of rfl) (.of rfl)) rfl (.q 1 rfl (.nil (.ret (X9 Tryz.results60 rfl ?_)))))))))
 exact ⟨_,rfl,rfl,hS.drop (k:=0) rfl⟩
theorem X43 (k:Int) (B w:World) (I:Im) (As:List X8) (hS:Sat B w I As) :
  Calls Tryz.prog 97 [I64 k].toArray w (Ret fun v w'=>v=S (X42 k)∧Sat B w' I As):=by
 refine calls Qf97 rfl Tryz.ntmps97 rfl (.seq (.q 1 rfl (.seq (.seq (.q 1 rfl (.block (.seq (.q 2 rfl ?_))))))))
 refine WC.cond rfl (fun hb4=>?_) (fun hb4=>?_)
 ·
  refine .seq (.q 1 rfl (.ret (X9 Xqz rfl ?_)))
  refine ⟨_,rfl,congrArg S ?_,hS⟩
  simp only [beq_iff_eq,beq_eq_false_iff_ne] at *
  subst_vars; rfl
 refine .seq (.q 2 rfl ?_)
 refine WC.cond rfl (fun hb6=>?_) (fun hb6=>?_)
 ·
  refine .seq (.q 1 rfl (.ret (X9 Xqz rfl ?_)))
  refine ⟨_,rfl,congrArg S ?_,hS⟩
  simp only [beq_iff_eq,beq_eq_false_iff_ne] at *
  subst_vars; rfl
 refine .seq (.q 2 rfl ?_)
 refine WC.cond rfl (fun hb8=>?_) (fun hb8=>?_)
 ·
  refine .seq (.q 1 rfl (.ret (X9 Xqz rfl ?_)))
  refine ⟨_,rfl,congrArg S ?_,hS⟩
  simp only [beq_iff_eq,beq_eq_false_iff_ne] at *
  subst_vars; rfl
 refine .seq (.q 2 rfl ?_)
 refine WC.cond rfl (fun hb10=>?_) (fun hb10=>?_)
 ·
  refine .seq (.q 1 rfl (.ret (X9 Xqz rfl ?_)))
  refine ⟨_,rfl,congrArg S ?_,hS⟩
  simp only [beq_iff_eq,beq_eq_false_iff_ne] at *
  subst_vars; rfl
 refine .seq (.q 2 rfl ?_)
 refine WC.cond rfl (fun hb12=>?_) (fun hb12=>?_)
 ·
  refine .seq (.q 1 rfl (.ret (X9 Xqz rfl ?_)))
  refine ⟨_,rfl,congrArg S ?_,hS⟩
  simp only [beq_iff_eq,beq_eq_false_iff_ne] at *
  subst_vars; rfl
 refine .seq (.q 2 rfl ?_)
 refine WC.cond rfl (fun hb14=>?_) (fun hb14=>?_)
 ·
  refine .seq (.q 1 rfl (.ret (X9 Xqz rfl ?_)))
  refine ⟨_,rfl,congrArg S ?_,hS⟩
  simp only [beq_iff_eq,beq_eq_false_iff_ne] at *
  subst_vars; rfl
 refine .skip (.seq (.q 1 rfl (.ret (X9 Xqz rfl ?_))))
 refine ⟨_,rfl,congrArg S ?_,hS⟩
 simp only [beq_iff_eq,beq_eq_false_iff_ne] at *
 (rw [X42,if_pos (by omega)])
theorem Xmv {n:Nat} (h:n<16):(HEXD.drop n).take 1=[dg n]:=(by decide:∀ n:Fin 16,(HEXD.drop n.val).take 1=[dg n.val]) ⟨n,h⟩
theorem X9l (kind:Int) (d:Nat) (hd:d<18446744073709551616) (B w:World) (I:Im) (As:List X8) (hS:Sat B w I As) :
  Calls Tryz.prog 56 [I64 kind,U64 (d:Nat)].toArray w (Ret fun v w'=>v=(if X42 kind=[] then .tuple #[S [],I64 8] else .tuple #[S (X42 kind ++ 45::X5d 16 d),I64 0])∧Sat B w' I As):=by
 refine calls Tryz.func56 rfl Tryz.ntmps56 rfl (.seq (.q 2 rfl (.seq (.t 1 rfl (.call Qf97 rfl (X0 (.of rfl) X4) rfl (X43 kind B _ I _ hS) ?_)))))
 clear hS
 rintro _ w ⟨rfl,hS⟩
 refine .q 1 rfl (.nil (.seq (.seq (.q 2 rfl ?_))))
 refine WC.cond rfl (fun hb13=>?_) (fun hb13=>?_)
 ·
  refine .seq (.q 2 rfl (.ret (X1m Tryz.results56 rfl rfl ?_)))
  exact ⟨_,rfl,by rw [if_pos (by simpa using hb13)],hS⟩
 have hc13:=hb13; try simp only [Y6] at hc13
 refine .skip (.seq (.q 1 rfl (.seq (.q 1 rfl (.seq (.seq (.q 1 rfl (.block (.loop (σ:=Nat×Nat) (fun ⟨i,e⟩=>[(1,U64 (e:Nat)),(6,S (X42 kind)),(7,S HEXD),(8,S (X5d i d)),(9,I64 (i:Nat))]) (fun ⟨i,e⟩ w=>i≤16∧e=d / 16 ^ i∧Sat B w I As) (fun ⟨i,e⟩=>16 - i) (0,d) ⟨rfl,rfl,rfl,rfl,rfl,trivial⟩ ⟨Yp _,by simp,hS⟩ ?_)))))))))
 rintro ⟨i,e⟩ w ⟨hi,he,hS⟩
 refine .seq (.seq (.q 2 rfl ?_))
 refine WC.cond rfl (fun hb15=>?_) (fun hb15=>?_)
 ·
  have hc15:=hb15; try simp only [Y6] at hc15
  refine .skip (.seq (.block (.seq ?_)))
  have hed:e<18446744073709551616:=by rw [he]; exact Y3q (Y54 _ _) hd
  have hdl:=X41 i d
  have hm16:=Y36 e (show 0<16 by decide)
  have hcast:((e:Nat):Int) % 16=((e % 16:Nat):Int):=by omega
  have htk:=Xmv hm16
  have hsl:(HEXD.drop ((e:Int) % 16).toNat).take (((e:Int) % 16+1).toNat - ((e:Int) % 16).toNat)=[dg (e % 16)]:=by
   rw [hcast,Yi,show (((e % 16:Nat):Int)+1).toNat - e % 16=1 by omega]; exact htk
  have hcons:[dg (e % 16)] ++ X5d i d=X5d (i+1) d:=by rw [X9o,he]; rfl
  have hquo:((e:Nat):Int) / 16=((e / 16:Nat):Int):=by omega
  have hee:e / 16=d / 16 ^ (i+1):=by rw [he,Y37,Y2b]
  refine .t 2 rfl (.val (.rem (.of rfl) (.of rfl) (by omega) (by omega)) rfl (.q 1 rfl (.val (.rem (.of rfl) (.of rfl) (by omega) (by omega)) rfl ?_)))
  refine WL.val (.addx (.of rfl) (.of rfl) (by rw [IntKind.wrap_u64]; omega)) rfl (WL.val (Ex.sub3U (.of rfl) (.of rfl) (.of rfl) (by omega) (by omega) (by show _≤(16:Int); omega) Qu9) rfl ?_)
  rw [hsl]
  refine .q 1 rfl (WL.val (.cat (.of rfl) (.of rfl) (by (try simp only [Y0,Y8,Yk]); omega)) rfl ?_)
  rw [hcons]
  refine .q 1 rfl (.nil (.t 1 rfl ?_))
  refine WL.val (.quo (.of rfl) (.of rfl) (by omega) (by omega) (by rw [IntKind.wrap_u64]; omega)) rfl ?_
  rw [hquo]
  refine .q 1 rfl (.nil (.region (.run 3 rfl ⟨⟨by omega,by omega⟩,trivial⟩ (.nil ?_))))
  refine ⟨(i+1,e / 16),⟨rfl,rfl,rfl,rfl,rfl,trivial⟩,⟨by (try dsimp only); omega,hee,hS⟩,by (try dsimp only); omega⟩
 have hc15:=hb15; try simp only [Y6] at hc15
 refine .exit (.seq ?_)
 have hpl:=X8n kind
 have hdl:=X41 i d
 refine .region (WL.run 6 rfl ⟨by (try simp only [Y0,Y8,Yk]); omega,by (try simp only [Y0,Y8,Yk]); omega,trivial⟩ (.nil (.ret (X1m Tryz.results56 rfl rfl ?_))))
 have e16:i=16:=by omega
 subst e16
 refine ⟨_,rfl,by rw [if_neg (by simpa using hb13),Ye]; rfl,hS⟩
end Go.Proofs.YtadhiihnnkcagaaGreatDoor
namespace Go.Proofs.YtadhiihnnkcagaaGreatDoor
open Gk Pat
theorem Xj2 {l:List Sv} (h:few l=true):l.length≤20∧∀ s∈l,s.rel.length≤20:=by
 unfold few at h
 simp only [Yq,decide_eq_true_eq] at h
 refine ⟨by omega,fun s hs=>?_⟩
 have:=Y1a.1 h.1 s hs
 unfold Xr5 at this
 simp only [Y3d,Y1c,decide_eq_false_iff_not] at this
 omega
theorem Xn7 {l:List Sv} (h:∀ s∈l,s.fits):∀ v∈ords l,v<18446744073709551616:=fun v hv=>by
 obtain ⟨s,hs,rfl⟩:=Y26.1 hv
 exact (h s hs).ord
theorem Xms {l:List Sv} (h:∀ s∈l,s.fits) (hr:∀ s∈l,s.rel.length≤20):∀ s∈l,s.urls.length≤9223372036854775807∧s.calls.length≤9223372036854775807∧s.rel.length≤1000000:=fun s hs=>by
 have h1:=(h s hs).urls
 have h2:=(h s hs).calls
 have h3:=hr s hs
 unfold maxLen at h1 h2
 exact ⟨by omega,by omega,by omega⟩
theorem X81 (l:List Sv):∀ (r:List Sv) (i:Nat),(X3p l i r).1=0→∀ (j:Nat) t,r[j]?=some t→bad l (i+j) t=0
 | [],_,_,j,t,h=>by simp at h
 | s::r,i,h,j,t,ht=>by
  rw [X3p] at h
  split at h
  ·rename_i hb; exact absurd h hb
  ·rename_i hb
   cases j with
   | zero=>simp at ht; subst ht; simpa using hb
   | succ j =>
    have:=X81 l r (i+1) h j t (by simpa using ht)
    rw [show i+(j+1)=i+1+j by omega]; exact this
theorem Xhk {l:List Sv} (h:(X3l l).1=0) (j:Nat) (t:Sv) (ht:l[j]?=some t):bad l j t=0:=by
 have:=X81 l l 0 h j t ht
 rw [Yd] at this; exact this
theorem Xpa {l:List Sv} {i:Nat} {s:Sv} (h:bad l i s=0):i≠16∧(l.take i).any (fun t=>t.id == s.id)=false∧(chk s.urls).1=0∧(chk s.calls).1=0:=by
 unfold bad at h
 split at h
 ·cases h
 ·rename_i h16
  split at h
  ·cases h
  ·split at h
   ·cases h
   ·rename_i h7
    split at h
    ·cases h
    ·rename_i h8
     simp only [Y1j,not_or,bne_iff_ne,ne_eq,Decidable.not_not] at h8
     exact ⟨h16,by simpa using h7,h8.1,h8.2⟩
theorem Xn2 {l:List Sv} (h:(X3l l).1=0):right l:=fun s hs=>by
 obtain ⟨j,hj⟩:=Y11.1 hs
 obtain ⟨_,_,h1,h2⟩:=Xpa (Xhk h j s hj)
 exact ⟨Xap h1,Xap h2⟩
theorem Xqx {l:List Sv} {D:List Int} (s:List UInt8):Xf7 l D s=Xt (X48 l D) s:=by
 unfold Xf7 Xt X48
 rw [List.find?_map]
 split
 ·rfl
 ·split
  ·rfl
  ·show (match D.find? (fun d=>(X9y (l.getD d.toNat z0).urls (Ul.nU s).1).1) with
    | none=>(z0,[],31)
    | some d=>(l.getD d.toNat z0,(Ul.nU s).1,0))=(match (D.find? ((fun t=>(X9y t.urls (Ul.nU s).1).1) ∘ fun d=>l.getD d.toNat z0)).map (fun d=>l.getD d.toNat z0) with
    | none=>(z0,[],31)
    | some t=>(t,(Ul.nU s).1,0))
   rw [show ((fun t=>(X9y t.urls (Ul.nU s).1).1) ∘ fun d=>l.getD d.toNat z0)=(fun d:Int=>(X9y (l.getD d.toNat z0).urls (Ul.nU s).1).1) from rfl]
   cases D.find? (fun d=>(X9y (l.getD d.toNat z0).urls (Ul.nU s).1).1) <;> rfl
end Go.Proofs.YtadhiihnnkcagaaGreatDoor
namespace Go.Proofs.YtadhiihnnkcagaaGreatDoor
open Gk Ul Pc Tk Tr
structure CfAt (I:Im) (c:Cf) (a:Option Addr) (cap:Nat) (ua:Option Addr) (ucap:Nat):Prop where
 svs:SvsAt I a c.svs
 us:UsrsAt I ua c.us
 cap:c.svs.length≤cap∧cap≤maxLen
 un:c.us.length≤9223372036854775807
 sfit:∀ s∈c.svs,s.fits
 ufit:∀ u∈c.us,u.fits
theorem CfAt.mono {I J:Im} {c:Cf} {a ua:Option Addr} {cap ucap:Nat} (h:CfAt I c a cap ua ucap) (hl:Le I J):CfAt J c a cap ua ucap:=⟨h.svs.mono hl,h.us.mono hl,h.cap,h.un,h.sfit,h.ufit⟩
theorem Xk6 {I:Im} {c:Cf} {a ua:Option Addr} {cap ucap:Nat} (h:CfAt I c a cap ua ucap) (hf:fewC c=true):c.fits:=by
 unfold fewC at hf
 simp only [Yq] at hf
 have h1:=Xj2 hf.1
 refine ⟨by omega,Xn7 h.sfit,Xms h.sfit h1.2,h.un,h.ufit⟩
def AWS:Sv:=⟨0,0,[104,116,116,112,58,47,47,97,47,42,42],true,false,false,[],[]⟩
def AWUs:Us:=⟨[117],[112],[]⟩
def AWC:Cf:=⟨[AWS],[AWUs],fun _=>0,9,0,0,0,0⟩
theorem Xqq:X5p AWC=0:=by kernel_rfl
theorem Xqf:Srt.Ord (kx (ords [AWS])) 1 [0]:=⟨by decide +kernel,by decide +kernel⟩
theorem Xor:AWC.fits:=⟨by decide,by decide +kernel,by decide +kernel,by decide,fun u hu=>by
 rw [show AWC.us=[AWUs] from rfl,Y4p] at hu; subst hu
 exact ⟨by decide,by decide,by decide,fun p hp=>by simp [AWUs] at hp⟩⟩
theorem Xny {J:Im} {s u:Nat} {E F:TypeId} (h1:J s=some (Xj [I64 0,F64 0,S AWS.urls,.bool true,.bool false,.bool false,S [],.slice none 0 0] E)) (h2:J u=some (Xj [S AWUs.name,S AWUs.pw,.slice none 0 0] F)):SvsAt J (some (ad s 0)) [AWS]∧UsrsAt J (some (ad u 0)) [AWUs]:=by
 constructor
 ·intro i t ht
  match i,ht with
  | 0,ht=>cases ht; exact ⟨_,none,0,rfl,X6x h1,Yt _,RS.nil _ _⟩
  | i+1,ht=>simp at ht
 ·intro i t ht
  match i,ht with
  | 0,ht=>cases ht; exact ⟨_,none,0,rfl,X6x h2,Yt _,RS.nil _ _⟩
  | i+1,ht=>simp at ht
theorem Xke (r s:Rec) (w:World):(Op.equalIn 10000 45 (.agg (X7 r).toArray) (.agg (X7 s).toArray)).run Tryz.prog w=.ok (decide (r=s)) w:=by
 have hS:Tryz.prog.underlying 45=some (.struct (Tryz.prog.fieldsOf 45)):=by kernel_rfl
 have hp:Tryz.prog.stoodInHeld 45=false:=by kernel_rfl
 have ui:=Qu3
 have ai:=Qg3
 have us:=Qu9
 have as9:=Qg9
 have ub:=Qu4
 have ab:=Qg4
 rw [show (10000:Nat)=9999+1 from rfl,run_equalIn_agg w 9999 45 _ _ hS hp]
 simp only [Program.fieldsOf,X15]
 obtain ⟨k,n,pa,u,sv,ur,m,us',uc,f⟩:=r
 obtain ⟨k',n',pa',u',sv',ur',m',us'',uc',f'⟩:=s
 unfold X7
 go_simp
 repeat' split
 all_goals simp_all
theorem Ex.neRec {n:Nat} {L:Env} {w:World} {d:Option Nat} {ty t':TypeId} {pos:String} {af:Array Edge} {g:Option (Nat×Bool)} {x y:Operand} {r s:Rec} (hx:Ev n L x (.agg (X7 r).toArray)) (hy:Ev n L y (.agg (X7 s).toArray)):Ex Tryz.prog n L w ⟨d,.binOp .neq 45 x y t',ty,pos,af,g⟩ (.bool (!decide (r=s))) w :=
 X17 hx hy (fun p q=>run_eqGuard_agg w _ _ _ _ _ _ (by kernel_rfl)) (by rw [run_neq_struct,Xke]; rfl)
theorem rec_in {α:Type} [BEq α] [LawfulBEq α] {l:List α} {s:α}:l.contains s=true ↔ s∈l:=by simp
def Xdj (s:List UInt8):List Value:=[S s]
theorem rowsT (l:List (List UInt8)):X1c Xdj l=l.map S:=by
 unfold X1c
 induction l with
 | nil=>rfl
 | cons x l ih=>rw [Y1e,Y1s,ih]; rfl
theorem In_any (a:Option Addr) (c:Nat) (l:List (List UInt8)) (hl:l.length≤9223372036854775807) (s:List UInt8) (B w:World) (I:Im) (As:List X8) (hE:∀ w,Sat B w I As→Xbv w Xdj 1 a l) (hS:Sat B w I As) :
  Calls Tryz.prog 19 [.slice a l.length c,S s].toArray w (Ret fun v w'=>v=.bool (l.contains s)∧Sat B w' I As):=by
 refine calls Tryz.func19 rfl Tryz.ntmps19 rfl (.seq (.q 1 rfl (.seq (.seq (.q 1 rfl (.block (.loop (σ:=Nat) (fun i=>[(0,.slice a l.length c),(1,S s),(5,I64 (i:Nat))]) (fun i w=>i≤l.length∧(∀ (j:Nat) x,j<i→l[j]?=some x→x≠s)∧Sat B w I As) (fun i=>l.length - i) 0 ⟨rfl,rfl,rfl,trivial⟩ ⟨Yp _,fun _ _ h=>absurd h (by omega),hS⟩ ?_)))))))
 rintro i w ⟨hi,hno,hS⟩
 refine .seq (.seq (.region (.run 4 rfl ⟨⟨_,X1p⟩,trivial⟩ (.nil ?_))))
 refine WC.cond rfl (fun hb9=>?_) (fun hb9=>?_)
 ·
  have hc9:=hb9; try simp only [Y6] at hc9
  refine .skip (.seq (.block (.seq ?_)))
  obtain ⟨x,hx⟩:∃ x,l[i]?=some x:=⟨_,Y4 (by omega)⟩
  obtain ⟨p,rfl,hA⟩:=hE w hS i x hx
  have hc0:=hA 0 _ rfl
  refine .t 2 rfl (WL.val (.indexAddrI (.of rfl) (.of rfl) (by omega) (by omega) X1p Qs9) rfl (.val (v:=S x) (.ld1 (.of rfl) (by simpa [Addr.add_add] using hc0) Qg9) rfl (.q 2 rfl (.nil ?_))))
  refine WC.cond rfl (fun hb17=>?_) (fun hb17=>?_)
  ·
   refine .seq (.q 1 rfl (.ret (X9 Tryz.results19 rfl ?_)))
   refine ⟨_,rfl,congrArg Value.bool (rec_in.2 ?_).symm,hS⟩
   have e:x=s:=by simpa using hb17
   subst e
   exact Ym hx
  have hc17:=hb17; try simp only [Y6] at hc17
  refine .skip (.region (.run 3 rfl ⟨⟨by omega,by omega⟩,trivial⟩ (.nil ?_)))
  refine ⟨i+1,⟨rfl,rfl,rfl,trivial⟩,⟨by (try dsimp only); omega,fun j y hj hy=>?_,hS⟩,by (try dsimp only); omega⟩
  rcases Yr j i with h1 | h1
  ·exact hno j y h1 hy
  ·have e:j=i:=by omega
   subst e
   rw [hx] at hy; cases hy
   simpa using hb17
 have hc9:=hb9; try simp only [Y6] at hc9
 refine .exit (.seq (.q 1 rfl (.ret (X9 Tryz.results19 rfl ?_))))
 refine ⟨_,rfl,congrArg Value.bool (Y4s.2 fun h=>?_).symm,hS⟩
 obtain ⟨j,hj⟩:=Y11.1 (rec_in.1 h)
 have:=(Y5.1 hj).1
 exact hno j s (by omega) hj rfl
end Go.Proofs.YtadhiihnnkcagaaGreatDoor
namespace Go.Proofs.YtadhiihnnkcagaaGreatDoor
open Gk Ul Pc Tk Tr Go.RowKit Go.WideShapes Go.ChangeShapes
set_option maxRecDepth 100000
theorem Xkq {H:Type} {enc:TypeId×Value→H} {W:World} {spare:Nat→Bool} {held:Bool} {fuel:Nat} {cs:List Value} {x:DataW H×List MemPlace} (h:DataW.trod enc Tryz.prog W 0 spare held fuel 69 cs=some x):∃ z:Pr,cs=X1h z∧X1k z:=by
 obtain ⟨xs,n,_,_,hcl,hxl,hf⟩:=DataW.trod_struct Xpi h
 rw [show Tryz.prog.cellsOf 69=2 from by kernel_rfl] at hcl
 obtain ⟨y0,hy0⟩:∃ y,DataW.trod enc Tryz.prog W 0 spare held n 9 ((cs.drop 0).take (Tryz.prog.cellsOf 9))=some y:=⟨_,(hf 0 _ rfl).trans (Y4 (by rw [hxl]; decide))⟩
 rw [show Tryz.prog.cellsOf 9=1 from by kernel_rfl] at hy0
 obtain ⟨y1,hy1⟩:∃ y,DataW.trod enc Tryz.prog W 0 spare held n 9 ((cs.drop 1).take (Tryz.prog.cellsOf 9))=some y:=⟨_,(hf 1 _ rfl).trans (Y4 (by rw [hxl]; decide))⟩
 rw [show Tryz.prog.cellsOf 9=1 from by kernel_rfl] at hy1
 obtain ⟨v0,v1,rfl⟩:∃ v0 v1,cs=[v0,v1]:=by
  match cs,hcl with
  | [v0,v1],_=>exact ⟨v0,v1,rfl⟩
 simp only [Y9,Yj,Y1o,Yl] at hy0 hy1
 obtain ⟨z0,e0,_,w0⟩:=DataW.trod_string Qu9 hy0
 obtain ⟨z1,e1,_,w1⟩:=DataW.trod_string Qu9 hy1
 simp only [List.cons.injEq,and_true] at e0 e1
 subst e0 e1
 exact ⟨(z0.data.toList,z1.data.toList),rfl,⟨w0,w1⟩⟩
def recFit (r:Rec):Prop:=r.name.length≤maxLen∧r.parent.length≤maxLen∧r.user.length≤maxLen∧r.service.length≤maxLen∧r.url.length≤maxLen
theorem Xnl {H:Type} {enc:TypeId×Value→H} {W:World} {spare:Nat→Bool} {held:Bool} {fuel:Nat} {cs:List Value} {x:DataW H×List MemPlace} (h:DataW.trod enc Tryz.prog W 0 spare held fuel 45 cs=some x):∃ z:Rec,cs=X7 z∧recFit z:=by
 obtain ⟨xs,n,_,_,hcl,hxl,hf⟩:=DataW.trod_struct X15 h
 rw [show Tryz.prog.cellsOf 45=10 from by kernel_rfl] at hcl
 obtain ⟨y0,hy0⟩:∃ y,DataW.trod enc Tryz.prog W 0 spare held n 3 ((cs.drop 0).take (Tryz.prog.cellsOf 3))=some y:=⟨_,(hf 0 _ rfl).trans (Y4 (by rw [hxl]; decide))⟩
 rw [show Tryz.prog.cellsOf 3=1 from by kernel_rfl] at hy0
 obtain ⟨y1,hy1⟩:∃ y,DataW.trod enc Tryz.prog W 0 spare held n 9 ((cs.drop 1).take (Tryz.prog.cellsOf 9))=some y:=⟨_,(hf 1 _ rfl).trans (Y4 (by rw [hxl]; decide))⟩
 rw [show Tryz.prog.cellsOf 9=1 from by kernel_rfl] at hy1
 obtain ⟨y2,hy2⟩:∃ y,DataW.trod enc Tryz.prog W 0 spare held n 9 ((cs.drop 2).take (Tryz.prog.cellsOf 9))=some y:=⟨_,(hf 2 _ rfl).trans (Y4 (by rw [hxl]; decide))⟩
 rw [show Tryz.prog.cellsOf 9=1 from by kernel_rfl] at hy2
 obtain ⟨y3,hy3⟩:∃ y,DataW.trod enc Tryz.prog W 0 spare held n 9 ((cs.drop 3).take (Tryz.prog.cellsOf 9))=some y:=⟨_,(hf 3 _ rfl).trans (Y4 (by rw [hxl]; decide))⟩
 rw [show Tryz.prog.cellsOf 9=1 from by kernel_rfl] at hy3
 obtain ⟨y4,hy4⟩:∃ y,DataW.trod enc Tryz.prog W 0 spare held n 9 ((cs.drop 4).take (Tryz.prog.cellsOf 9))=some y:=⟨_,(hf 4 _ rfl).trans (Y4 (by rw [hxl]; decide))⟩
 rw [show Tryz.prog.cellsOf 9=1 from by kernel_rfl] at hy4
 obtain ⟨y5,hy5⟩:∃ y,DataW.trod enc Tryz.prog W 0 spare held n 9 ((cs.drop 5).take (Tryz.prog.cellsOf 9))=some y:=⟨_,(hf 5 _ rfl).trans (Y4 (by rw [hxl]; decide))⟩
 rw [show Tryz.prog.cellsOf 9=1 from by kernel_rfl] at hy5
 obtain ⟨y6,hy6⟩:∃ y,DataW.trod enc Tryz.prog W 0 spare held n 3 ((cs.drop 6).take (Tryz.prog.cellsOf 3))=some y:=⟨_,(hf 6 _ rfl).trans (Y4 (by rw [hxl]; decide))⟩
 rw [show Tryz.prog.cellsOf 3=1 from by kernel_rfl] at hy6
 obtain ⟨y7,hy7⟩:∃ y,DataW.trod enc Tryz.prog W 0 spare held n 3 ((cs.drop 7).take (Tryz.prog.cellsOf 3))=some y:=⟨_,(hf 7 _ rfl).trans (Y4 (by rw [hxl]; decide))⟩
 rw [show Tryz.prog.cellsOf 3=1 from by kernel_rfl] at hy7
 obtain ⟨y8,hy8⟩:∃ y,DataW.trod enc Tryz.prog W 0 spare held n 3 ((cs.drop 8).take (Tryz.prog.cellsOf 3))=some y:=⟨_,(hf 8 _ rfl).trans (Y4 (by rw [hxl]; decide))⟩
 rw [show Tryz.prog.cellsOf 3=1 from by kernel_rfl] at hy8
 obtain ⟨y9,hy9⟩:∃ y,DataW.trod enc Tryz.prog W 0 spare held n 4 ((cs.drop 9).take (Tryz.prog.cellsOf 4))=some y:=⟨_,(hf 9 _ rfl).trans (Y4 (by rw [hxl]; decide))⟩
 rw [show Tryz.prog.cellsOf 4=1 from by kernel_rfl] at hy9
 obtain ⟨v0,v1,v2,v3,v4,v5,v6,v7,v8,v9,rfl⟩:∃ v0 v1 v2 v3 v4 v5 v6 v7 v8 v9,cs=[v0,v1,v2,v3,v4,v5,v6,v7,v8,v9]:=by
  match cs,hcl with
  | [v0,v1,v2,v3,v4,v5,v6,v7,v8,v9],_=>exact ⟨v0,v1,v2,v3,v4,v5,v6,v7,v8,v9,rfl⟩
 simp only [Y9,Yj,Y1o,Yl] at hy0 hy1 hy2 hy3 hy4 hy5 hy6 hy7 hy8 hy9
 obtain ⟨z0,e0,_,w0⟩:=DataW.trod_int Qu3 hy0
 obtain ⟨z1,e1,_,w1⟩:=DataW.trod_string Qu9 hy1
 obtain ⟨z2,e2,_,w2⟩:=DataW.trod_string Qu9 hy2
 obtain ⟨z3,e3,_,w3⟩:=DataW.trod_string Qu9 hy3
 obtain ⟨z4,e4,_,w4⟩:=DataW.trod_string Qu9 hy4
 obtain ⟨z5,e5,_,w5⟩:=DataW.trod_string Qu9 hy5
 obtain ⟨z6,e6,_,w6⟩:=DataW.trod_int Qu3 hy6
 obtain ⟨z7,e7,_,w7⟩:=DataW.trod_int Qu3 hy7
 obtain ⟨z8,e8,_,w8⟩:=DataW.trod_int Qu3 hy8
 obtain ⟨z9,e9,_⟩:=DataW.trod_bool Qu4 hy9
 simp only [List.cons.injEq,and_true] at e0 e1 e2 e3 e4 e5 e6 e7 e8 e9
 subst e0 e1 e2 e3 e4 e5 e6 e7 e8 e9
 exact ⟨⟨z0,z1.data.toList,z2.data.toList,z3.data.toList,z4.data.toList,z5.data.toList,z6,z7,z8,z9⟩,rfl,⟨w1,w2,w3,w4,w5⟩⟩
theorem Xdw {α:Type} {cells:α→List Value} {c:Nat} {fit:α→Prop} {t e:TypeId} {H:Type} {enc:TypeId×Value→H} {W:World} {spare:Nat→Bool} {held:Bool} {fuel:Nat} {cs:List Value} {x:DataW H×List MemPlace} (ht:Tryz.prog.underlying t=some (.slice e)) (hc:Tryz.prog.cellsOf e=c) (hc0:0<c)
  (one:∀ n cs y,DataW.trod enc Tryz.prog W 0 spare held n e cs=some y→∃ z:α,cs=cells z∧fit z) (h:DataW.trod enc Tryz.prog W 0 spare held fuel t cs=some x) :
  ∃ (a:Option Addr) (cap:Nat) (l:List α),cs=[.slice a l.length cap]∧l.length≤cap∧cap≤maxLen∧RS (im0 W) a c l.length (X1c cells l)∧∀ z∈l,fit z:=by
 obtain ⟨a,cap,L,n,rfl,h1,h2,h3,h4,h5⟩:=X4k ht hc hc0 h
 have key:∀ L:List (List Value),(∀ l∈L,∃ y,DataW.trod enc Tryz.prog W 0 spare held n e l=some y)→∃ l:List α,L=l.map cells∧∀ z∈l,fit z:=by
  intro L
  induction L with
  | nil=>intro _; exact ⟨[],rfl,fun z h=>by simp at h⟩
  | cons c L ih =>
   intro h
   obtain ⟨y,hy⟩:=h c (by simp)
   obtain ⟨z,rfl,hf⟩:=one n c y hy
   obtain ⟨l,rfl,e2⟩:=ih (fun c hc=>h c (by simp [hc]))
   exact ⟨z::l,rfl,fun u hu=>by
    rcases Y17.1 hu with e | hu
    ·subst e; exact hf
    ·exact e2 u hu⟩
 obtain ⟨l,rfl,hfit⟩:=key L h5
 rw [Yz] at h1 h4
 exact ⟨a,cap,l,by rw [Yz],h1,h2,h4,hfit⟩
theorem Xom {H:Type} {enc:TypeId×Value→H} {W:World} {spare:Nat→Bool} {held:Bool} {fuel:Nat} {cs:List Value} {x:DataW H×List MemPlace} (h:DataW.trod enc Tryz.prog W 0 spare held fuel 67 cs=some x):∃ u:Us,UsAt (im0 W) u cs∧u.fits:=by
 obtain ⟨xs,n,_,_,hcl,hxl,hf⟩:=DataW.trod_struct X66 h
 rw [show Tryz.prog.cellsOf 67=3 from by kernel_rfl] at hcl
 obtain ⟨y0,hy0⟩:∃ y,DataW.trod enc Tryz.prog W 0 spare held n 9 ((cs.drop 0).take (Tryz.prog.cellsOf 9))=some y:=⟨_,(hf 0 _ rfl).trans (Y4 (by rw [hxl]; decide))⟩
 rw [show Tryz.prog.cellsOf 9=1 from by kernel_rfl] at hy0
 obtain ⟨y1,hy1⟩:∃ y,DataW.trod enc Tryz.prog W 0 spare held n 9 ((cs.drop 1).take (Tryz.prog.cellsOf 9))=some y:=⟨_,(hf 1 _ rfl).trans (Y4 (by rw [hxl]; decide))⟩
 rw [show Tryz.prog.cellsOf 9=1 from by kernel_rfl] at hy1
 obtain ⟨y2,hy2⟩:∃ y,DataW.trod enc Tryz.prog W 0 spare held n 54 ((cs.drop 2).take (Tryz.prog.cellsOf 54))=some y:=⟨_,(hf 2 _ rfl).trans (Y4 (by rw [hxl]; decide))⟩
 rw [show Tryz.prog.cellsOf 54=1 from by kernel_rfl] at hy2
 obtain ⟨v0,v1,v2,rfl⟩:∃ v0 v1 v2,cs=[v0,v1,v2]:=by
  match cs,hcl with
  | [v0,v1,v2],_=>exact ⟨v0,v1,v2,rfl⟩
 simp only [Y9,Yj,Y1o,Yl] at hy0 hy1 hy2
 obtain ⟨z0,e0,_,w0⟩:=DataW.trod_string Qu9 hy0
 obtain ⟨z1,e1,_,w1⟩:=DataW.trod_string Qu9 hy1
 obtain ⟨a,c,l,e2,h1,h2,h3,h4⟩:=Xdw (cells:=X1h) (c:=2) (fit:=X1k) Xgh (by kernel_rfl) (by decide) (fun n cs y h=>Xkq h) hy2
 simp only [List.cons.injEq,and_true] at e0 e1 e2
 subst e0 e1 e2
 exact ⟨⟨z0.data.toList,z1.data.toList,l⟩,⟨a,c,rfl,h1,h3⟩,⟨w0,w1,Y27 h1 h2,h4⟩⟩
theorem Xle {H:Type} {enc:TypeId×Value→H} {W:World} {spare:Nat→Bool} {held:Bool} {fuel:Nat} {cs:List Value} {x:DataW H×List MemPlace} (h:DataW.trod enc Tryz.prog W 0 spare held fuel 28 cs=some x):∃ (a:Option Addr) (cap:Nat) (l:List Us),cs=[.slice a l.length cap]∧l.length≤cap∧cap≤maxLen∧UsrsAt (im0 W) a l∧∀ u∈l,u.fits:=by
 obtain ⟨a,cap,L,n,rfl,h1,h2,h3,h4,h5⟩:=X4k (c:=3) Xbs (by kernel_rfl) (by decide) h
 have key:∀ L:List (List Value),(∀ l∈L,∃ y,DataW.trod enc Tryz.prog W 0 spare held n 67 l=some y)→∃ l:List Us,L.length=l.length∧∀ (i:Nat) (u:Us),l[i]?=some u→u.fits∧∃ c,L[i]?=some c∧UsAt (im0 W) u c:=by
  intro L
  induction L with
  | nil=>intro _; exact ⟨[],rfl,fun i s h=>by simp at h⟩
  | cons c L ih =>
   intro h
   obtain ⟨y,hy⟩:=h c (by simp)
   obtain ⟨s,hs,hf⟩:=Xom hy
   obtain ⟨l,e1,e2⟩:=ih (fun c hc=>h c (by simp [hc]))
   refine ⟨s::l,by simp [e1],fun i u hu=>?_⟩
   cases i with
   | zero=>simp at hu; subst hu; exact ⟨hf,c,rfl,hs⟩
   | succ i=>simpa using e2 i u (by simpa using hu)
 obtain ⟨l,e1,e2⟩:=key L h5
 refine ⟨a,cap,l,by rw [e1],by rw [← e1]; exact h1,h2,fun i u hu=>?_,fun u hu=>?_⟩
 ·obtain ⟨_,c,hc,ra,rc,rfl,h6,h7⟩:=e2 i u hu
  obtain ⟨p,rfl,hp⟩:=h4.2 (by have:=(Y5.1 hc).1; omega)
  have h8:=X4f (hp.add (i*3)) 3
  rw [X1x L h3 i _ hc] at h8
  exact ⟨p,ra,rc,rfl,h8,h6,h7⟩
 ·obtain ⟨i,hi⟩:=Y11.1 hu
  exact (e2 i u hi).1
theorem Xcm {H:Type} {enc:TypeId×Value→H} {W:World} {spare:Nat→Bool} {held:Bool} {fuel:Nat} {cs:List Value} {x:DataW H×List MemPlace} (h:DataW.trod enc Tryz.prog W 0 spare held fuel 29 cs=some x):∃ l:List Int,l.length=7∧cs=l.map I64:=by
 obtain ⟨xs,n,_,_,hcl,hxl,hf⟩:=DataW.trod_array Xcb h
 rw [show Tryz.prog.cellsOf 29=7 from by kernel_rfl] at hcl
 rw [show Tryz.prog.cellsOf 3=1 from by kernel_rfl] at hf
 have each:∀ v∈cs,∃ z:Int,v=I64 z:=by
  intro v hv
  obtain ⟨i,hi⟩:=Y11.1 hv
  have hil:=(Y5.1 hi).1
  obtain ⟨y,hy⟩:∃ y,xs[i]?=some y:=⟨_,Y4 (by omega)⟩
  have h2:=(hf i (by omega)).trans hy
  obtain ⟨z,e,_⟩:=DataW.trod_int Qu3 h2
  rw [Y1k,Y1d hil,Y1o,Yl,(Y5.1 hi).2] at e
  exact ⟨z,(List.cons.inj e).1⟩
 have key:∀ cs:List Value,(∀ v∈cs,∃ z:Int,v=I64 z)→∃ l:List Int,cs=l.map I64:=by
  intro cs
  induction cs with
  | nil=>intro _; exact ⟨[],rfl⟩
  | cons v r ih =>
   intro h
   obtain ⟨z,rfl⟩:=h v (by simp)
   obtain ⟨l,rfl⟩:=ih (fun v hv=>h v (by simp [hv]))
   exact ⟨z::l,rfl⟩
 obtain ⟨l,rfl⟩:=key cs each
 exact ⟨l,by simpa using hcl,rfl⟩
theorem psL_of {L:List Int} (h:L.length=21):psL (fun i=>L.getD i 0)=L:=by
 match L,h with
 | [a0,a1,a2,a3,a4,a5,a6,a7,a8,a9,a10,a11,a12,a13,a14,a15,a16,a17,a18,a19,a20],_=>rfl
theorem Xmm {H:Type} {enc:TypeId×Value→H} {W:World} {spare:Nat→Bool} {held:Bool} {fuel:Nat} {cs:List Value} {x:DataW H×List MemPlace} (h:DataW.trod enc Tryz.prog W 0 spare held fuel 31 cs=some x):∃ p:Nat→Int,cs=(psL p).map I64:=by
 obtain ⟨xs,n,_,_,hcl,hxl,hf⟩:=DataW.trod_struct Xcf h
 rw [show Tryz.prog.cellsOf 31=21 from by kernel_rfl] at hcl
 obtain ⟨y0,hy0⟩:∃ y,DataW.trod enc Tryz.prog W 0 spare held n 29 ((cs.drop 0).take (Tryz.prog.cellsOf 29))=some y:=⟨_,(hf 0 _ rfl).trans (Y4 (by rw [hxl]; decide))⟩
 rw [show Tryz.prog.cellsOf 29=7 from by kernel_rfl] at hy0
 obtain ⟨y1,hy1⟩:∃ y,DataW.trod enc Tryz.prog W 0 spare held n 29 ((cs.drop 7).take (Tryz.prog.cellsOf 29))=some y:=⟨_,(hf 1 _ rfl).trans (Y4 (by rw [hxl]; decide))⟩
 rw [show Tryz.prog.cellsOf 29=7 from by kernel_rfl] at hy1
 obtain ⟨y2,hy2⟩:∃ y,DataW.trod enc Tryz.prog W 0 spare held n 29 ((cs.drop 14).take (Tryz.prog.cellsOf 29))=some y:=⟨_,(hf 2 _ rfl).trans (Y4 (by rw [hxl]; decide))⟩
 rw [show Tryz.prog.cellsOf 29=7 from by kernel_rfl] at hy2
 obtain ⟨v0,v1,v2,v3,v4,v5,v6,v7,v8,v9,v10,v11,v12,v13,v14,v15,v16,v17,v18,v19,v20,rfl⟩:∃ v0 v1 v2 v3 v4 v5 v6 v7 v8 v9 v10 v11 v12 v13 v14 v15 v16 v17 v18 v19 v20,cs=[v0,v1,v2,v3,v4,v5,v6,v7,v8,v9,v10,v11,v12,v13,v14,v15,v16,v17,v18,v19,v20]:=by
  match cs,hcl with
  | [v0,v1,v2,v3,v4,v5,v6,v7,v8,v9,v10,v11,v12,v13,v14,v15,v16,v17,v18,v19,v20],_=>exact ⟨v0,v1,v2,v3,v4,v5,v6,v7,v8,v9,v10,v11,v12,v13,v14,v15,v16,v17,v18,v19,v20,rfl⟩
 simp only [Y9,Yj,Y1o,Yl] at hy0 hy1 hy2
 obtain ⟨l0,h0,e0⟩:=Xcm hy0
 obtain ⟨l1,h1,e1⟩:=Xcm hy1
 obtain ⟨l2,h2,e2⟩:=Xcm hy2
 refine ⟨fun i=>(l0 ++ (l1 ++ l2)).getD i 0,?_⟩
 rw [psL_of (by simp only [Y0]; omega),Yw,Yw,← e0,← e1,← e2]
 rfl
theorem Xmh {H:Type} {enc:TypeId×Value→H} {W:World} {spare:Nat→Bool} {held:Bool} {fuel:Nat} {cs:List Value} {x:DataW H×List MemPlace} (h:DataW.trod enc Tryz.prog W 0 spare held fuel 34 cs=some x):∃ (c:Cf) (a:Option Addr) (cap:Nat) (ua:Option Addr) (ucap:Nat),cs=X12 c a cap ua ucap∧CfAt (im0 W) c a cap ua ucap:=by
 obtain ⟨xs,n,_,_,hcl,hxl,hf⟩:=DataW.trod_struct Xdk h
 rw [show Tryz.prog.cellsOf 34=28 from by kernel_rfl] at hcl
 obtain ⟨y0,hy0⟩:∃ y,DataW.trod enc Tryz.prog W 0 spare held n 27 ((cs.drop 0).take (Tryz.prog.cellsOf 27))=some y:=⟨_,(hf 0 _ rfl).trans (Y4 (by rw [hxl]; decide))⟩
 rw [show Tryz.prog.cellsOf 27=1 from by kernel_rfl] at hy0
 obtain ⟨y1,hy1⟩:∃ y,DataW.trod enc Tryz.prog W 0 spare held n 28 ((cs.drop 1).take (Tryz.prog.cellsOf 28))=some y:=⟨_,(hf 1 _ rfl).trans (Y4 (by rw [hxl]; decide))⟩
 rw [show Tryz.prog.cellsOf 28=1 from by kernel_rfl] at hy1
 obtain ⟨y2,hy2⟩:∃ y,DataW.trod enc Tryz.prog W 0 spare held n 31 ((cs.drop 2).take (Tryz.prog.cellsOf 31))=some y:=⟨_,(hf 2 _ rfl).trans (Y4 (by rw [hxl]; decide))⟩
 rw [show Tryz.prog.cellsOf 31=21 from by kernel_rfl] at hy2
 obtain ⟨y3,hy3⟩:∃ y,DataW.trod enc Tryz.prog W 0 spare held n 3 ((cs.drop 23).take (Tryz.prog.cellsOf 3))=some y:=⟨_,(hf 3 _ rfl).trans (Y4 (by rw [hxl]; decide))⟩
 rw [show Tryz.prog.cellsOf 3=1 from by kernel_rfl] at hy3
 obtain ⟨y4,hy4⟩:∃ y,DataW.trod enc Tryz.prog W 0 spare held n 32 ((cs.drop 24).take (Tryz.prog.cellsOf 32))=some y:=⟨_,(hf 4 _ rfl).trans (Y4 (by rw [hxl]; decide))⟩
 rw [show Tryz.prog.cellsOf 32=1 from by kernel_rfl] at hy4
 obtain ⟨y5,hy5⟩:∃ y,DataW.trod enc Tryz.prog W 0 spare held n 32 ((cs.drop 25).take (Tryz.prog.cellsOf 32))=some y:=⟨_,(hf 5 _ rfl).trans (Y4 (by rw [hxl]; decide))⟩
 rw [show Tryz.prog.cellsOf 32=1 from by kernel_rfl] at hy5
 obtain ⟨y6,hy6⟩:∃ y,DataW.trod enc Tryz.prog W 0 spare held n 32 ((cs.drop 26).take (Tryz.prog.cellsOf 32))=some y:=⟨_,(hf 6 _ rfl).trans (Y4 (by rw [hxl]; decide))⟩
 rw [show Tryz.prog.cellsOf 32=1 from by kernel_rfl] at hy6
 obtain ⟨y7,hy7⟩:∃ y,DataW.trod enc Tryz.prog W 0 spare held n 3 ((cs.drop 27).take (Tryz.prog.cellsOf 3))=some y:=⟨_,(hf 7 _ rfl).trans (Y4 (by rw [hxl]; decide))⟩
 rw [show Tryz.prog.cellsOf 3=1 from by kernel_rfl] at hy7
 obtain ⟨v0,v1,v2,v3,v4,v5,v6,v7,v8,v9,v10,v11,v12,v13,v14,v15,v16,v17,v18,v19,v20,v21,v22,v23,v24,v25,v26,v27,rfl⟩:∃ v0 v1 v2 v3 v4 v5 v6 v7 v8 v9 v10 v11 v12 v13 v14 v15 v16 v17 v18 v19 v20 v21 v22 v23 v24 v25 v26 v27,cs=[v0,v1,v2,v3,v4,v5,v6,v7,v8,v9,v10,v11,v12,v13,v14,v15,v16,v17,v18,v19,v20,v21,v22,v23,v24,v25,v26,v27]:=by
  match cs,hcl with
  | [v0,v1,v2,v3,v4,v5,v6,v7,v8,v9,v10,v11,v12,v13,v14,v15,v16,v17,v18,v19,v20,v21,v22,v23,v24,v25,v26,v27],_=>exact ⟨v0,v1,v2,v3,v4,v5,v6,v7,v8,v9,v10,v11,v12,v13,v14,v15,v16,v17,v18,v19,v20,v21,v22,v23,v24,v25,v26,v27,rfl⟩
 simp only [Y9,Yj,Y1o,Yl] at hy0 hy1 hy2 hy3 hy4 hy5 hy6 hy7
 obtain ⟨a,cap,L,l,e0,h1,h2,h3,h4,h5,h6⟩:=Xjs hy0
 obtain ⟨ua,ucap,us,e1,h7,h8,h9,h10⟩:=Xle hy1
 obtain ⟨ps,e2⟩:=Xmm hy2
 obtain ⟨z3,e3,_⟩:=DataW.trod_int Qu3 hy3
 obtain ⟨z4,e4,_⟩:=X3n Qu32 hy4
 obtain ⟨z5,e5,_⟩:=X3n Qu32 hy5
 obtain ⟨z6,e6,_⟩:=X3n Qu32 hy6
 obtain ⟨z7,e7,_⟩:=DataW.trod_int Qu3 hy7
 simp only [List.cons.injEq,and_true] at e0 e1 e3 e4 e5 e6 e7
 subst e0 e1 e3 e4 e5 e6 e7
 refine ⟨⟨l,us,ps,z3,z4,z5,z6,z7⟩,a,cap,ua,ucap,?_,svs_of h4 h5 (fun i s hs=>(h6 i s hs).2),h9,⟨by rw [← h3]; exact h1,h2⟩,Y27 h7 h8,fun s hs=>?_,h10⟩
 ·show _=Value.slice a l.length cap::Value.slice ua us.length ucap::((psL ps).map I64 ++ _)
  rw [← e2,← h3]; rfl
 ·obtain ⟨i,hi⟩:=Y11.1 hs
  exact (h6 i s hi).1
end Go.Proofs.YtadhiihnnkcagaaGreatDoor
namespace Go.Proofs.YtadhiihnnkcagaaGreatDoor
open Gk Ul Pc Tk Tr
structure Op where
 act:Int
 n:Int
 d:List Nat
 a:Int
 b:List UInt8
 c:List UInt8
 f:Bool
 r:Rec
 q:Ak
def Xg1 (o:Op) (da:Option Addr) (dc:Nat):List Value:=[I64 o.act,I64 o.n,.slice da o.d.length dc,I64 o.a,S o.b,S o.c,.bool o.f,I64 o.r.kind,S o.r.name,S o.r.parent,S o.r.user,S o.r.service,S o.r.url,I64 o.r.made,I64 o.r.used,I64 o.r.uses,.bool o.r.fresh,S o.q.service,S o.q.cookie,.bool o.q.has,.bool o.q.renew,.bool o.q.gateway,.bool o.q.warn]
def OpAt (I:Im) (o:Op) (cs:List Value):Prop:=∃ da dc,cs=Xg1 o da dc∧o.d.length≤dc∧dc≤maxLen∧RS I da 1 o.d.length (o.d.map fun d=>U64 (d:Nat))
def OpsAt (I:Im) (a:Option Addr) (l:List Op):Prop:=∃ L:List (List Value),L.length=l.length∧(∀ c∈L,c.length=23)∧RS I a 23 l.length L.flatten∧∀ (i:Nat) (o:Op),l[i]?=some o→∃ cs,L[i]?=some cs∧OpAt I o cs
theorem OpAt.mono {I J:Im} {o:Op} {cs:List Value} (h:OpAt I o cs) (hl:Le I J):OpAt J o cs:=by
 obtain ⟨da,dc,e,h1,h2,h3⟩:=h
 exact ⟨da,dc,e,h1,h2,h3.mono hl⟩
theorem OpsAt.mono {I J:Im} {a:Option Addr} {l:List Op} (h:OpsAt I a l) (hl:Le I J):OpsAt J a l:=by
 obtain ⟨L,h1,h2,h3,h4⟩:=h
 exact ⟨L,h1,h2,h3.mono hl,fun i o ho=>by
  obtain ⟨cs,h5,h6⟩:=h4 i o ho
  exact ⟨cs,h5,h6.mono hl⟩⟩
theorem OpsAt.at {I:Im} {a:Option Addr} {l:List Op} (h:OpsAt I a l) (i:Nat) (u:Op) (hu:l[i]?=some u):∃ p cs,a=some p∧At I (p.add (i*23)) cs∧OpAt I u cs:=by
 obtain ⟨L,h1,h2,h3,h4⟩:=h
 obtain ⟨cs,h5,h6⟩:=h4 i u hu
 obtain ⟨p,rfl,hp⟩:=h3.2 (by have:=(Y5.1 hu).1; omega)
 refine ⟨p,cs,rfl,?_,h6⟩
 have h8:=X4f (hp.add (i*23)) 23
 rw [X1x L h2 i _ h5] at h8
 exact h8
structure Op.fits (o:Op):Prop where
 d:∀ x∈o.d,x<18446744073709551616
 b:o.b.length≤maxLen
 c:o.c.length≤maxLen
def bigO (o:Op):Bool:=((((((decide ((10:Int)<(o.d.length:Int)) || decide ((120:Int)<(o.b.length:Int))) || decide ((80:Int)<(o.c.length:Int))) || decide ((120:Int)<(o.q.service.length:Int))) || decide ((60:Int)<(o.r.parent.length:Int))) || decide ((60:Int)<(o.r.user.length:Int))) || decide ((120:Int)<(o.r.service.length:Int))) || decide ((120:Int)<(o.r.url.length:Int))
def Xht (c:Cf) (l:List Op):Bool:=(l.all fun o=>!bigO o) && (fewC c && decide ((l.length:Int)≤40))
def X1b (names:List (List UInt8)) (at9:Int):List UInt8:=if (decide (at9<0) || decide ((names.length:Int)≤at9))=true then [] else (names[names.length - 1 - at9.toNat]?).getD []
def X2j (ω:Wd) (d:List Nat):Wd:={ ω with D:=ω.D ++ d }
def LTr:Rec:=⟨6,[],[],[],[],[],0,0,0,false⟩
def Xit (names:List (List UInt8)) (a:List UInt8):List (List UInt8):=if (a != [])=true then names ++ [a] else names
theorem X6k {ω:Wd} (h:X46 ω) {d:List Nat} (hd:∀ x∈d,x<18446744073709551616):X46 (X2j ω d):=⟨h.len,h.wf,fun x hx=>by
 rcases Y12.1 hx with h1 | h1
 ·exact h.D x h1
 ·exact hd x h1,h.now,h.room⟩
theorem X8d {ω:Wd} {r:Rec}:(mkW ω r).1.1.length≤60:=by
 unfold mkW
 split
 ·exact Yp _
 ·dsimp only
  split
  ·exact Yp _
  ·have:=Xd2 (pr:=fun s=>(get ω.l s).isSome) (kind:=r.kind) (D:=ω.D)
   show (mkN ω r).1.1.length≤60
   unfold mkN; omega
theorem Xie {ω:Wd} {r:Rec}:(mkW ω r).2.D.length≤ω.D.length:=by
 have h:(mkN ω r).2.length≤ω.D.length:=by
  unfold mkN X32
  split
  ·exact Yt _
  ·cases ω.D with
   | nil=>exact Yt _
   | cons d D=>dsimp only; split <;> simp
 unfold mkW
 split
 ·exact h
 ·exact h
theorem X9h {us:List Us} {ps:Nat→Int} {ω:Wd} {lt user pw:List UInt8}:(Xq us ps ω lt user pw).1.1.length≤60:=by
 unfold Xq
 split
 ·exact Yp _
 ·split
  ·exact Yp _
  ·exact X8d
theorem Xmy {us:List Us} {ps:Nat→Int} {ω:Wd} {lt user pw:List UInt8}:(Xq us ps ω lt user pw).2.D.length≤ω.D.length:=by
 unfold Xq
 split
 ·exact Yt _
 ·split
  ·exact Yt _
  ·dsimp only
   split
   ·exact Xie
   ·exact Xie
theorem Xei {lo:List Sv} {ps:Nat→Int} {ω:Wd} {t s:List UInt8} {f:Bool}:(Xu lo ps ω t s f).1.1.1.length≤60:=by
 unfold Xu
 split
 ·exact Yp _
 ·split
  ·exact Yp _
  ·split
   ·exact Yp _
   ·split
    ·exact Yp _
    ·exact X8d
theorem Xn5 {lo:List Sv} {ps:Nat→Int} {ω:Wd} {t s:List UInt8} {f:Bool}:(Xu lo ps ω t s f).2.D.length≤ω.D.length:=by
 unfold Xu
 split
 ·exact Yt _
 ·split
  ·exact Yt _
  ·split
   ·exact Yt _
   ·split
    ·exact Xie
    ·exact Xie
structure WkOk (i:Nat) (s:Wd×List (List UInt8)):Prop where
 ok:X46 s.1
 nm:∀ t∈s.2,t.length≤60
 nl:s.2.length≤i
 dl:s.1.D.length≤10*i
theorem Xk9 {ns:List (List UInt8)} (h:∀ t∈ns,t.length≤60) (a:Int):(X1b ns a).length≤60:=by
 unfold X1b
 split
 ·decide
 ·cases e:ns[ns.length - 1 - a.toNat]? with
  | none=>decide
  | some t=>exact h t (Ym e)
theorem X9u {c:Cf} {l:List Op} (h:Xht c l=true):fewC c=true∧l.length≤40∧∀ o∈l,o.d.length≤10∧o.b.length≤120∧o.c.length≤80∧o.q.service.length≤120∧o.r.parent.length≤60∧o.r.user.length≤60∧o.r.service.length≤120∧o.r.url.length≤120:=by
 unfold Xht at h
 simp only [Yq,decide_eq_true_eq] at h
 refine ⟨h.2.1,by omega,fun o ho=>?_⟩
 have:=Y1a.1 h.1 o ho
 simp [bigO] at this
 omega
theorem Xiv (c:Cf) (a:Option Addr) (cap:Nat) (ua:Option Addr) (ucap:Nat) (oa:Option Addr) (oc:Nat) (l:List Op) (hol:l.length≤9223372036854775807) (B w:World) (I:Im) (hC:CfAt I c a cap ua ucap) (hO:OpsAt I oa l) (As:List X8) (hS:Sat B w I As) :
  Calls Tryz.prog 35 [.agg (X12 c a cap ua ucap).toArray,.slice oa l.length oc].toArray w (Ret fun v w'=>v=.bool (Xht c l)∧Sat B w' I As):=by
 refine calls Tryz.func35 rfl Tryz.ntmps35 rfl (.seq (.region (.boxA (cs:=X12 c a cap ua ucap) hS (.of rfl) rfl ?_)))
 clear hS; intro b2 w hS
 refine .q 1 rfl (.nil (.seq (.seq (.q 1 rfl (.block (.loop (σ:=Nat) (fun i=>[(1,.slice oa l.length oc),(2,ptr b2 0),(5,I64 (i:Nat))]) (fun i w=>i≤l.length∧(∀ (j:Nat) o,j<i→l[j]?=some o→bigO o=false)∧Sat B w I (blk b2 (X12 c a cap ua ucap) 34::As)) (fun i=>l.length - i) 0 ⟨rfl,rfl,rfl,trivial⟩ ⟨Yp _,fun _ _ h=>absurd h (by omega),hS⟩ ?_))))))
 rintro i w ⟨hi,hno,hS⟩
 refine .seq (.seq (.region (.run 4 rfl ⟨⟨_,Xhm⟩,trivial⟩ (.nil ?_))))
 refine WC.cond rfl (fun hb10=>?_) (fun hb10=>?_)
 ·
  have hc10:=hb10; try simp only [Y6] at hc10
  refine .skip (.seq (.block (.seq ?_)))
  obtain ⟨o,ho⟩:∃ o,l[i]?=some o:=⟨_,Y4 (by omega)⟩
  obtain ⟨p,cs,hp9,hx,da,dc,rfl,hdc,hdm,hd⟩:=hO.at i o ho
  subst hp9
  unfold Xg1 at hx
  refine .t 2 rfl (WL.val (.indexAddrI (.of rfl) (.of rfl) (by omega) (by omega) Xhm Xjz) rfl (WL.val (.fieldAddrI 2 (.of rfl) X7n rfl rfl X9z rfl) rfl (WL.val (.ldI (.of rfl) hS (At.add hx _) Xhz rfl) rfl (.run 3 rfl ⟨⟨_,Xeb⟩,trivial⟩ (.gval rfl rfl (fun hg1=>(.move (.of rfl))) rfl (.gval rfl rfl (fun hg1=>(.move (.of rfl))) rfl ?_))))))
  refine WL.gval rfl rfl (fun hg1=>(by exact .indexAddrI (.gd hg1 rfl) (.gd hg1 rfl) (by (try simp only [Y6] at hg1); omega) (by (try simp only [Y6] at hg1); omega) Xhm Xjz)) rfl ?_
  refine WL.gval rfl rfl (fun hg1=>(by exact .fieldAddrI 4 (.gd hg1 rfl) X7n rfl rfl Qs9 rfl)) rfl ?_
  refine WL.gval rfl rfl (fun hg1=>(by exact (.ldI (.gd hg1 rfl) hS (At.add hx _) Qg9 rfl))) rfl ?_
  refine .gval rfl rfl (fun hg1=>(.len (.gd hg1 rfl) Qu9)) rfl (.gval rfl rfl (fun hg1=>(.gtr (.gd hg1 rfl) (.of rfl))) rfl (.val (.por (.of rfl) (.of rfl) (.of rfl)) rfl (.q 1 rfl (.gval rfl rfl (fun hg1=>(.move (.of rfl))) rfl (.gval rfl rfl (fun hg1=>(.move (.of rfl))) rfl ?_)))))
  refine WL.gval rfl rfl (fun hg1=>(by exact .indexAddrI (.gd hg1 rfl) (.gd hg1 rfl) (by (try simp only [Y6] at hg1); omega) (by (try simp only [Y6] at hg1); omega) Xhm Xjz)) rfl ?_
  refine WL.gval rfl rfl (fun hg1=>(by exact .fieldAddrI 5 (.gd hg1 rfl) X7n rfl rfl Qs9 rfl)) rfl ?_
  refine WL.gval rfl rfl (fun hg1=>(by exact (.ldI (.gd hg1 rfl) hS (At.add hx _) Qg9 rfl))) rfl ?_
  refine .gval rfl rfl (fun hg1=>(.len (.gd hg1 rfl) Qu9)) rfl (.gval rfl rfl (fun hg1=>(.gtr (.gd hg1 rfl) (.of rfl))) rfl (.val (.por (.of rfl) (.of rfl) (.of rfl)) rfl (.q 1 rfl (.gval rfl rfl (fun hg1=>(.move (.of rfl))) rfl (.gval rfl rfl (fun hg1=>(.move (.of rfl))) rfl ?_)))))
  refine WL.gval rfl rfl (fun hg1=>(by exact .indexAddrI (.gd hg1 rfl) (.gd hg1 rfl) (by (try simp only [Y6] at hg1); omega) (by (try simp only [Y6] at hg1); omega) Xhm Xjz)) rfl ?_
  refine WL.gval rfl rfl (fun hg1=>(by exact .fieldAddrI 17 (.gd hg1 rfl) X7n rfl rfl Qs95 rfl)) rfl ?_
  refine WL.gval rfl rfl (fun hg1=>(by exact .fieldAddr 0 (.gd hg1 rfl) Xb9 rfl rfl Qs9 rfl)) rfl ?_
  refine WL.gval rfl rfl (fun hg1=>(by exact (.ldI (.gd hg1 rfl) hS (At.add hx 17) Qg9 rfl))) rfl ?_
  refine .gval rfl rfl (fun hg1=>(.len (.gd hg1 rfl) Qu9)) rfl (.gval rfl rfl (fun hg1=>(.gtr (.gd hg1 rfl) (.of rfl))) rfl (.val (.por (.of rfl) (.of rfl) (.of rfl)) rfl (.q 1 rfl (.gval rfl rfl (fun hg1=>(.move (.of rfl))) rfl (.gval rfl rfl (fun hg1=>(.move (.of rfl))) rfl ?_)))))
  refine WL.gval rfl rfl (fun hg1=>(by exact .indexAddrI (.gd hg1 rfl) (.gd hg1 rfl) (by (try simp only [Y6] at hg1); omega) (by (try simp only [Y6] at hg1); omega) Xhm Xjz)) rfl ?_
  refine WL.gval rfl rfl (fun hg1=>(by exact .fieldAddrI 7 (.gd hg1 rfl) X7n rfl rfl Xw rfl)) rfl ?_
  refine WL.gval rfl rfl (fun hg1=>(by exact .fieldAddr 2 (.gd hg1 rfl) X15 rfl rfl Qs9 rfl)) rfl ?_
  refine WL.gval rfl rfl (fun hg1=>(by exact (.ldI (.gd hg1 rfl) hS (At.add hx 9) Qg9 rfl))) rfl ?_
  refine .gval rfl rfl (fun hg1=>(.len (.gd hg1 rfl) Qu9)) rfl (.gval rfl rfl (fun hg1=>(.gtr (.gd hg1 rfl) (.of rfl))) rfl (.val (.por (.of rfl) (.of rfl) (.of rfl)) rfl (.q 1 rfl (.gval rfl rfl (fun hg1=>(.move (.of rfl))) rfl (.gval rfl rfl (fun hg1=>(.move (.of rfl))) rfl ?_)))))
  refine WL.gval rfl rfl (fun hg1=>(by exact .indexAddrI (.gd hg1 rfl) (.gd hg1 rfl) (by (try simp only [Y6] at hg1); omega) (by (try simp only [Y6] at hg1); omega) Xhm Xjz)) rfl ?_
  refine WL.gval rfl rfl (fun hg1=>(by exact .fieldAddrI 7 (.gd hg1 rfl) X7n rfl rfl Xw rfl)) rfl ?_
  refine WL.gval rfl rfl (fun hg1=>(by exact .fieldAddr 3 (.gd hg1 rfl) X15 rfl rfl Qs9 rfl)) rfl ?_
  refine WL.gval rfl rfl (fun hg1=>(by exact (.ldI (.gd hg1 rfl) hS (At.add hx 10) Qg9 rfl))) rfl ?_
  refine .gval rfl rfl (fun hg1=>(.len (.gd hg1 rfl) Qu9)) rfl (.gval rfl rfl (fun hg1=>(.gtr (.gd hg1 rfl) (.of rfl))) rfl (.val (.por (.of rfl) (.of rfl) (.of rfl)) rfl (.q 1 rfl (.gval rfl rfl (fun hg1=>(.move (.of rfl))) rfl (.gval rfl rfl (fun hg1=>(.move (.of rfl))) rfl ?_)))))
  refine WL.gval rfl rfl (fun hg1=>(by exact .indexAddrI (.gd hg1 rfl) (.gd hg1 rfl) (by (try simp only [Y6] at hg1); omega) (by (try simp only [Y6] at hg1); omega) Xhm Xjz)) rfl ?_
  refine WL.gval rfl rfl (fun hg1=>(by exact .fieldAddrI 7 (.gd hg1 rfl) X7n rfl rfl Xw rfl)) rfl ?_
  refine WL.gval rfl rfl (fun hg1=>(by exact .fieldAddr 4 (.gd hg1 rfl) X15 rfl rfl Qs9 rfl)) rfl ?_
  refine WL.gval rfl rfl (fun hg1=>(by exact (.ldI (.gd hg1 rfl) hS (At.add hx 11) Qg9 rfl))) rfl ?_
  refine .gval rfl rfl (fun hg1=>(.len (.gd hg1 rfl) Qu9)) rfl (.gval rfl rfl (fun hg1=>(.gtr (.gd hg1 rfl) (.of rfl))) rfl (.val (.por (.of rfl) (.of rfl) (.of rfl)) rfl (.q 1 rfl (.gval rfl rfl (fun hg1=>(.move (.of rfl))) rfl (.gval rfl rfl (fun hg1=>(.move (.of rfl))) rfl ?_)))))
  refine WL.gval rfl rfl (fun hg1=>(by exact .indexAddrI (.gd hg1 rfl) (.gd hg1 rfl) (by (try simp only [Y6] at hg1); omega) (by (try simp only [Y6] at hg1); omega) Xhm Xjz)) rfl ?_
  refine WL.gval rfl rfl (fun hg1=>(by exact .fieldAddrI 7 (.gd hg1 rfl) X7n rfl rfl Xw rfl)) rfl ?_
  refine WL.gval rfl rfl (fun hg1=>(by exact .fieldAddr 5 (.gd hg1 rfl) X15 rfl rfl Qs9 rfl)) rfl ?_
  refine WL.gval rfl rfl (fun hg1=>(by exact (.ldI (.gd hg1 rfl) hS (At.add hx 12) Qg9 rfl))) rfl ?_
  refine .gval rfl rfl (fun hg1=>(.len (.gd hg1 rfl) Qu9)) rfl (.gval rfl rfl (fun hg1=>(.gtr (.gd hg1 rfl) (.of rfl))) rfl (.val (.por (.of rfl) (.of rfl) (.of rfl)) rfl (.nil ?_)))
  refine WC.cond rfl (fun hb87=>?_) (fun hb87=>?_)
  ·
   refine .seq (.q 1 rfl (.ret (X9 Tryz.results35 rfl ?_)))
   refine ⟨_,rfl,congrArg Value.bool ?_,hS.drop (k:=0) rfl⟩
   have:(l.all fun o=>!bigO o)=false:=Y2j.2 ⟨o,Ym ho,by rw [show bigO o=true from hb87]; decide⟩
   rw [Xht,this]; rfl
  have hc87:=hb87; try simp only [Y6] at hc87
  refine .skip (.region (.run 3 rfl ⟨⟨by omega,by omega⟩,trivial⟩ (.nil ?_)))
  refine ⟨i+1,⟨rfl,rfl,rfl,trivial⟩,⟨by (try dsimp only); omega,fun j t hj ht=>?_,hS⟩,by (try dsimp only); omega⟩
  rcases Yr j i with h1 | h1
  ·exact hno j t h1 ht
  ·have e:j=i:=by omega
   subst e
   rw [ho] at ht; cases ht
   exact hb87
 have hc10:=hb10; try simp only [Y6] at hc10
 refine .exit (.seq (.region ?_))
 refine WL.val (.lds (vs:=X12 c a cap ua ucap) (.of rfl) hS (k:=0) rfl Xqa Xij rfl (fun j v hj=>by rw [Yd]; exact hj)) rfl ?_
 refine .call Tryz.func60 rfl (X0 (.of rfl) X4) rfl (Xp5 c a cap ua ucap hC.cap.1 hC.cap.2 hC.un hC.ufit B _ I hC.svs hC.us _ hS) ?_
 clear hS
 rintro _ w ⟨rfl,hS⟩
 refine .q 1 rfl (.nil (.seq (.t 2 rfl (.gval rfl rfl (fun hg1=>(.move (.of rfl))) rfl (.gval rfl rfl (fun hg1=>(.lenSlice (.gd hg1 rfl) Xhm)) rfl (.gval rfl rfl (fun hg1=>(.leq (.gd hg1 rfl) (.of rfl))) rfl (.val (.pand (.of rfl) (.of rfl) (.of rfl)) rfl (.q 1 rfl (.nil (.ret (X9 Tryz.results35 rfl ?_)))))))))))
 refine ⟨_,rfl,congrArg Value.bool ?_,hS.drop (k:=0) rfl⟩
 have:(l.all fun o=>!bigO o)=true:=by
  rw [Y1a]
  intro q hq
  obtain ⟨j,hj⟩:=Y11.1 hq
  have:=(Y5.1 hj).1
  rw [hno j q (by omega) hj]; rfl
 rw [Xht,this]; rfl
theorem Xjr (a:Option Addr) (c:Nat) (l:List (List UInt8)) (hl:l.length≤9223372036854775807) (at9:Int) (B w:World) (I:Im) (As:List X8) (hE:∀ w,Sat B w I As→Xbv w Xdj 1 a l) (hS:Sat B w I As) :
  Calls Tryz.prog 38 [.slice a l.length c,I64 at9].toArray w (Ret fun v w'=>v=S (X1b l at9)∧Sat B w' I As):=by
 refine calls Tryz.func38 rfl Tryz.ntmps38 rfl (.seq (.q 1 rfl (.seq (.seq (.t 3 rfl (.gval rfl rfl (fun hg1=>(.move (.of rfl))) rfl (.gval rfl rfl (fun hg1=>(.move (.of rfl))) rfl (.gval rfl rfl (fun hg1=>(.lenSlice (.gd hg1 rfl) X1p)) rfl (.gval rfl rfl (fun hg1=>(.geq (.gd hg1 rfl) (.gd hg1 rfl))) rfl (.val (.por (.of rfl) (.of rfl) (.of rfl)) rfl (.nil ?_)))))))))))
 refine WC.cond rfl (fun hb12=>?_) (fun hb12=>?_)
 ·
  refine .seq (.q 1 rfl (.ret (X9 Tryz.results38 rfl ?_)))
  exact ⟨_,rfl,congrArg S (by rw [X1b,if_pos (by simpa using hb12)]),hS⟩
 refine .skip (.seq ?_)
 have hc12:=hb12
 simp only [Y1c,decide_eq_false_iff_not] at hc12
 obtain ⟨k,hk⟩:∃ k,k=l.length - 1 - at9.toNat:=⟨_,rfl⟩
 obtain ⟨x,hx⟩:∃ x,l[k]?=some x:=⟨_,Y4 (by omega)⟩
 obtain ⟨p,rfl,hA⟩:=hE w hS k x hx
 have hc0:=hA 0 _ rfl
 refine .region (.run 5 rfl ⟨⟨_,X1p⟩,⟨by omega,by omega⟩,trivial⟩ (.val (.sub (.of rfl) (.of rfl) ⟨by omega,by omega⟩) rfl ?_))
 rw [show ((l.length:Nat):Int) - 1 - at9=((k:Nat):Int) by omega]
 refine WL.val (.indexAddrI (.of rfl) (.of rfl) (by omega) (by omega) X1p Qs9) rfl (.val (v:=S x) (.ld1 (.of rfl) (by simpa [Addr.add_add] using hc0) Qg9) rfl (.q 1 rfl (.nil (.ret (X9 Tryz.results38 rfl ?_)))))
 exact ⟨_,rfl,congrArg S (by rw [X1b,if_neg (by simpa using hb12),← hk,hx]; rfl),hS⟩
theorem w0_wk (c:Cf):WkOk 0 (w0 c,[]):=⟨Xje c,fun t h=>by simp at h,Yt _,Yt _⟩
theorem Xq4:Bld Tryz.prog 34 [(0,1),(1,1),(2,21),(23,1),(24,1),(25,1),(26,1),(27,1)] [.slice none 0 0,.slice none 0 0,.int .i64 0,.int .i64 0,.int .i64 0,.int .i64 0,.int .i64 0,.int .i64 0,.int .i64 0,.int .i64 0,.int .i64 0,.int .i64 0,.int .i64 0,.int .i64 0,.int .i64 0,.int .i64 0,.int .i64 0,.int .i64 0,.int .i64 0,.int .i64 0,.int .i64 0,.int .i64 0,.int .i64 0,.int .i64 0,.float .f64 0,.float .f64 0,.float .f64 0,.int .i64 0]:=X2l Xdk Tryz.zeroValue34 (fun w=>by simp [go_sem])
theorem Xrl:Bld Tryz.prog 67 [(0,1),(1,1),(2,1)] [S [],S [],.slice none 0 0]:=X2l X66 Xsl (fun w=>by simp [go_sem])
theorem Xrk:Bld Tryz.prog 95 [(0,1),(1,1),(2,1),(3,1),(4,1),(5,1)] [S [],S [],.bool false,.bool false,.bool false,.bool false]:=X2l Xb9 Tryz.zeroValue95 (fun w=>by simp [go_sem])
theorem Xct (B w:World) (I:Im) (As:List X8) (hS:Sat B w I As) :
  Calls Tryz.prog 83 [].toArray w (Ret fun v w'=>∃ J s u,Le I J∧v=.agg (X12 AWC (some (ad s 0)) 1 (some (ad u 0)) 1).toArray∧SvsAt J (some (ad s 0)) [AWS]∧UsrsAt J (some (ad u 0)) [AWUs]∧Sat B w' J As):=by
 refine calls Tryz.func83 rfl Tryz.ntmps83 rfl (.seq (.region (.allocA (cs:=[_,_,_,_,_,_,_,_,_,_,_,_,_,_,_,_,_,_,_,_,_,_,_,_,_,_,_,_]) hS Tryz.zeroValue34 rfl ?_)))
 clear hS; intro b0 w hS
 refine .nil (.seq (.region (.val (.build (cs:=[_,_,_,_,_,_,_,_]) (X5 (.of rfl) (X5 (.of rfl) X6)) X2z rfl) rfl (.buildSlice (cs:=[_,_,_,_,_,_,_,_]) hS (X5 (.of rfl) X6) X7t Xy X7d rfl rfl rfl rfl ?_))))
 clear hS; intro b2 w hS
 refine .val (.build (cs:=[_,_,_]) (X5 (.of rfl) (X5 (.of rfl) X6)) Xrl rfl) rfl (.buildSlice (cs:=[_,_,_]) hS (X5 (.of rfl) X6) Xbs Xb4 Xsl rfl rfl rfl rfl ?_)
 clear hS; intro b4 w hS
 refine .val (.build (cs:=[_,_,_,_,_,_,_,_,_,_,_,_,_,_,_,_,_,_,_,_,_,_,_,_,_,_,_,_]) (X5 (.of rfl) (X5 (.of rfl) (X5 (.of rfl) X6))) Xq4 rfl) rfl (WL.stA hS (k:=2) rfl (.of rfl) (.of rfl) rfl Xij rfl (by simp) ?_)
 clear hS; intro w hS
 try simp only [Yl,Yf,Yc,Y9,Yj,Yo,Yd] at hS
 refine .nil (.ret ?_)
 refine Xlj (b:=_) (cs:=[_,_,_,_,_,_,_,_,_,_,_,_,_,_,_,_,_,_,_,_,_,_,_,_,_,_,_,_]) Tryz.results83 hS (k:=2) rfl Xqa Xij rfl rfl ?_
 obtain ⟨J1,hJ1,hb4,hS⟩:=hS.freeze (k:=0) rfl
 obtain ⟨J2,hJ2,hb2,hS⟩:=hS.freeze (k:=0) rfl
 have hcf:=Xny (J:=J2) hb2 (hJ2 _ _ hb4)
 exact ⟨_,rfl,J2,b2,b4,hJ1.trans hJ2,rfl,hcf.1,hcf.2,hS.drop (k:=0) rfl⟩
set_option maxRecDepth 20000 in
theorem Xf8 (B w:World) (I:Im) (hK:Known I) (hP:PreAt I) (As:List X8) (hS:Sat B w I As) :
  Calls Tryz.prog 34 [].toArray w (Ret fun v w'=>v=.bool true∧Sat B w' I As):=by
 refine calls Tryz.func34 rfl Tryz.ntmps34 rfl (.seq (.q 1 rfl (.seq (.region (.call Tryz.func83 rfl X4 rfl (Xct B _ I _ hS) ?_)))))
 clear hS
 rintro _ w ⟨J1,sb,ub,hJ1,rfl,hs1,hu1,hS⟩
 refine .call Tryz.func41 rfl (X0 (.of rfl) X4) rfl (X7x AWC Xor (some (ad sb 0)) 1 (some (ad ub 0)) 1 B _ J1 (hK.mono hJ1) (hP.mono hJ1) hs1 hu1 _ hS) ?_
 clear hS
 rintro v w ⟨J,hJ,hcase⟩
 obtain ⟨_,p,D,hD,hlo,hus,hps,rfl,hI,hS⟩:=hcase.resolve_left (fun h=>h.1 Xqq)
 obtain rfl:D=[0]:=hD.unique Xqf
 have hlo:p.lo=[AWS]:=hlo
 have hus:p.us=[AWUs]:=hus
 have hps:p.ps=fun _=>0:=hps
 refine .q 5 rfl (.nil (.seq (.seq ?_)))
 obtain ⟨⟨a,c,ma,mc⟩,hS⟩:=Sat.unbox hS
 replace hS:Sat B _ _ (blk p.wb (wdC p (w0 AWC)) 52::blk p.tb [I64 (w0 AWC).room,.slice a (w0 AWC).l.length c] 127::Vec 45 10 (.slice a (w0 AWC).l.length c) (w0 AWC).l.length (Xf (w0 AWC).l)::blk p.mb [.slice ma (w0 AWC).D.length mc] 168::X4a 118 (.slice ma (w0 AWC).D.length mc) ((w0 AWC).D.map fun d=>U64 (d:Nat))::_):=hS
 refine .t 1 rfl (.val (.eqp (.of rfl) (.of rfl) Qu39) rfl (.q 1 rfl (.gval rfl rfl (fun hg1=>(.move (.of rfl))) rfl (.gval rfl rfl (fun hg1=>(.neq (.gd hg1 rfl) (.of rfl))) rfl (.val (.por (.of rfl) (.of rfl) (.of rfl)) rfl (.q 1 rfl (.gval rfl rfl (fun hg1=>(.move (.of rfl))) rfl (.gval rfl rfl (fun hg1=>(.nilCheck (.gd hg1 rfl))) rfl ?_))))))))
 refine WL.gval rfl rfl (fun hg1=>(by exact .fieldAddr 1 (.gd hg1 rfl) X72 rfl rfl Qs48 rfl)) rfl ?_
 refine WL.gval rfl rfl (fun hg1=>(by exact (.ld (.gd hg1 rfl) hS (k:=0) rfl Qg48 rfl))) rfl ?_
 refine .gval rfl rfl (fun hg1=>(.eqp (.gd hg1 rfl) (.of rfl) Tryz.underlying48)) rfl (.val (.por (.of rfl) (.of rfl) (.of rfl)) rfl (.q 1 rfl (.gval rfl rfl (fun hg1=>(.move (.of rfl))) rfl (.gval rfl rfl (fun hg1=>(.nilCheck (.gd hg1 rfl))) rfl ?_))))
 refine WL.gval rfl rfl (fun hg1=>(by exact .fieldAddr 0 (.gd hg1 rfl) X72 rfl rfl Xly rfl)) rfl ?_
 refine WL.gval rfl rfl (fun hg1=>(by exact (.ld (.gd hg1 rfl) hS (k:=0) rfl Xip rfl))) rfl ?_
 refine .gval rfl rfl (fun hg1=>(.eqp (.gd hg1 rfl) (.of rfl) Tryz.underlying47)) rfl (.val (.por (.of rfl) (.of rfl) (.of rfl)) rfl (.nil (.condF (rfl) (.skip (.seq (.t 2 rfl ?_))))))
 refine WL.val (.fieldAddr 1 (.of rfl) X72 rfl rfl Qs48 rfl) rfl (WL.val (.ld (.of rfl) hS (k:=0) rfl Qg48 rfl) rfl (.buildSlice (cs:=[_,_,_]) hS (X5 (.of rfl) (X5 (.of rfl) (X5 (.of rfl) X6))) Xeb Xfy Xsk rfl rfl rfl rfl ?_))
 clear hS; intro b41 w hS
 obtain ⟨J2,hJ2,hb41,hS⟩:=hS.freeze (k:=0) rfl
 refine .call Tryz.func42 rfl (X0 (.of rfl) (X0 (.of rfl) X4)) rfl (Xgy p.mb ma mc [] (by decide) (some (ad b41 0)) 3 [1,2,3] (by decide) B _ J2 ⟨rfl,fun _=>⟨_,rfl,X6x hb41⟩⟩ _ ((hS.pick 4 rfl).pick 4 rfl)) ?_
 clear hS
 rintro _ w ⟨rfl,ma2,mc2,hS⟩
 refine .nil (.seq ?_)
 replace hS:=Sat.box (T:=wdT p (X2j (w0 AWC) [1,2,3])) (a,c,ma2,mc2) (((((hS.pick 1 rfl).pick 1 rfl).pick 4 rfl).pick 4 rfl).pick 4 rfl)
 refine .t 1 rfl (.call Tryz.func43 rfl (X0 (.of rfl) X4) rfl (X4j p (X2j (w0 AWC) [1,2,3]) (X6k (Xje AWC) (by decide):X46 (X2j (w0 AWC) [1,2,3])) B _ J2 (hI.mono hJ2) _ hS) ?_)
 clear hS
 rintro _ w ⟨rfl,hS⟩
 refine .q 5 rfl (.nil (.seq (.t 2 rfl (.call Tryz.func37 rfl (X0 (.of rfl) (X0 (.of rfl) (X0 (.of rfl) (X0 (.of rfl) X4)))) rfl (Xcz (mkW (X2j (w0 AWC) [1,2,3]) LTr).1.1 [117] [112] (by decide) p (mkW (X2j (w0 AWC) [1,2,3]) LTr).2 (X3b (X6k (Xje AWC) (by decide):X46 (X2j (w0 AWC) [1,2,3])) _) B _ J2 (hI.mono hJ2) _ hS) ?_))))
 clear hS
 rintro _ w ⟨rfl,hS⟩
 refine .q 5 rfl (.nil (.seq (.t 2 rfl (.call Tryz.func45 rfl (X0 (.of rfl) (X0 (.of rfl) (X0 (.of rfl) (X0 (.of rfl) X4)))) rfl (Xcy (Xq p.us p.ps (mkW (X2j (w0 AWC) [1,2,3]) LTr).2 (mkW (X2j (w0 AWC) [1,2,3]) LTr).1.1 [117] [112]).1.1 [104,116,116,112,58,47,47,65,47,120] false (Y27 X9h (by decide)) (by decide) p (Xq p.us p.ps (mkW (X2j (w0 AWC) [1,2,3]) LTr).2 (mkW (X2j (w0 AWC) [1,2,3]) LTr).1.1 [117] [112]).2 (X9k (X3b (X6k (Xje AWC) (by decide):X46 (X2j (w0 AWC) [1,2,3])) _) _ _ _) B _ J2 (hI.mono hJ2) _ hS) ?_))))
 clear hS
 rintro _ w ⟨rfl,hS⟩
 refine .q 7 rfl (.nil (.seq (.region (.call Tryz.func56 rfl (X0 (.of rfl) (X0 (.of rfl) X4)) rfl (X9l 2 3 (by decide) B _ J2 _ hS) ?_))))
 clear hS
 rintro v w ⟨hv9,hS⟩
 rw [if_neg (by decide)] at hv9
 subst hv9
 refine .q 5 rfl (.nil (.seq (.t 3 rfl (.gval rfl rfl (fun hg1=>(.move (.of rfl))) rfl (.gval rfl rfl (fun hg1=>(.eql (.gd hg1 rfl) (.of rfl))) rfl (.val (.pand (.of rfl) (.of rfl) (.of rfl)) rfl (.q 1 rfl (.gval rfl rfl (fun hg1=>(.move (.of rfl))) rfl (.gval rfl rfl (fun hg1=>(.eql (.gd hg1 rfl) (.of rfl))) rfl (.val (.pand (.of rfl) (.of rfl) (.of rfl)) rfl (.q 1 rfl (.gval rfl rfl (fun hg1=>(.move (.of rfl))) rfl (.gval rfl rfl (fun hg1=>(.move (.of rfl))) rfl (.gval rfl rfl (fun hg1=>(.eqs (.gd hg1 rfl) (.gd hg1 rfl))) rfl (.val (.pand (.of rfl) (.of rfl) (.of rfl)) rfl (.q 1 rfl (.gval rfl rfl (fun hg1=>(.move (.of rfl))) rfl (.gval rfl rfl (fun hg1=>(.eqs (.gd hg1 rfl) (.of rfl))) rfl (.val (.pand (.of rfl) (.of rfl) (.of rfl)) rfl (.q 1 rfl (.gval rfl rfl (fun hg1=>(.move (.of rfl))) rfl (.gval rfl rfl (fun hg1=>(.move (.of rfl))) rfl (.gval rfl rfl (fun hg1=>(.build (cs:=[_,_,_,_,_,_]) (X5 (.gd hg1 rfl) X6) Xrk rfl)) rfl (.gcall (T:=fun w=>Sat B w J2 _) rfl rfl rfl Tryz.func39 rfl (fun hg1=>(X0 (.gd hg1 rfl) (X0 (.gd hg1 rfl) X4))) rfl (fun hg1=>Xan ⟨[],(Xq p.us p.ps (mkW (X2j (w0 AWC) [1,2,3]) LTr).2 (mkW (X2j (w0 AWC) [1,2,3]) LTr).1.1 [117] [112]).1.1,false,false,false,false⟩ (Yp _) p (Xu p.lo p.ps (Xq p.us p.ps (mkW (X2j (w0 AWC) [1,2,3]) LTr).2 (mkW (X2j (w0 AWC) [1,2,3]) LTr).1.1 [117] [112]).2 (Xq p.us p.ps (mkW (X2j (w0 AWC) [1,2,3]) LTr).2 (mkW (X2j (w0 AWC) [1,2,3]) LTr).1.1 [117] [112]).1.1 [104,116,116,112,58,47,47,65,47,120] false).2 (Xd7 (X9k (X3b (X6k (Xje AWC) (by decide):X46 (X2j (w0 AWC) [1,2,3])) _) _ _ _) _ _ _) B _ J2 (hI.mono hJ2) _ hS) hS ?_))))))))))))))))))))))))
 clear hS; rintro w hS
 refine .gval rfl rfl (fun hg1=>(.eql (.gd hg1 rfl) (.of rfl))) rfl (.val (.pand (.of rfl) (.of rfl) (.of rfl)) rfl (.q 1 rfl (.nil (.ret (X9 Tryz.results34 rfl ?_)))))
 refine ⟨_,rfl,?_,(hS.drop (k:=0) rfl).weaken (hJ1.trans (hJ.trans hJ2))⟩
 refine congrArg Value.bool ?_
 rw [hlo,hus,hps]
 kernel_rfl
end Go.Proofs.YtadhiihnnkcagaaGreatDoor
