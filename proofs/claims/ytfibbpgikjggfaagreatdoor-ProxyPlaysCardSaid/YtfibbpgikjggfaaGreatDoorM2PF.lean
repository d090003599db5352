/- Part 6 of what the proof stands on: W18v, W18w, W21f, Tmo, W21g, W21o, W21p, W21q, W21s, W21t, W18x, W21u, W21w, Op21, W20a, GkX, W22a. -/
import Derived.Test.YtfibbpgikjggfaaGreatDoorM2PE
import Derived.KernelRfl
import Derived.Laws.StructEq
import Derived.OpenShut
import Derived.Defers
set_option linter.unusedVariables false
set_option linter.unusedSimpArgs false
namespace Go.Proofs.YtfibbpgikjggfaaGreatDoor
open Gk Pat
theorem X4f:Tryz.prog.info? 160=some Tryz.t160:=by kernel_rfl
theorem Xj5:Bld Tryz.prog 162 [(0,1)] [.slice none 0 0]:=X2n Xhf Tryz.zeroValue162 (fun w=>by simp [go_sem])
theorem bad_le {l:List Sv} {i:Nat} (h:∀ (j:Nat) t,j<i→l[j]?=some t→bad l j t=0) (hi:i≤l.length):i≤16:=by
 rcases Yr 16 i with h1 | h1
 ·have:=h 16 _ h1 (Y4 (by omega))
  unfold bad at this;rw [if_pos rfl] at this;cases this
 ·exact h1
theorem Xi3 {l:List Sv} {i:Nat} {s:Sv} (hi:i≤16) (hl:i≤l.length):Xos (l.take i) s=bad l i s:=by
 unfold Xos bad;rw [Yt,Y3h hl]
 by_cases h:i=16
 ·rw [if_pos (by omega),if_pos h]
 ·rw [if_neg (by omega),if_neg h]
theorem made_n (s:Sv) (sa:Option Addr) (sc:Nat) (hsc:s.rel.length≤sc) (hrl:s.rel.length≤1000000) (hu:s.urls.length≤9223372036854775807) (hcl:s.calls.length≤9223372036854775807) (a:Option Addr) (cap:Nat) (lo:List Sv) (n:Nat) (hn:lo.length=n) (hlo:n≤100000) (B w:World) (I:Im) (hr:RS I sa 1 s.rel.length (s.rel.map S)) (As:List X7) (hE:∀ w,Sat B w I As→Xgh w I a lo) (hS:Sat B w I As) :
  Cz 147 [.agg [I64 s.id,F64 s.ord,S s.urls,.bool s.login,.bool s.proxy,.bool s.back,S s.calls,.slice sa s.rel.length sc].toArray,.slice a n cap] w fun v w'=>∃ J cs code,Le I J∧v=.tuple #[.agg (List.toArray cs),I64 ((code:Nat):Int)]∧code=Xos lo s∧cs.length=10∧cs.all Value.oneCell'=true∧(code=0→EntAt J s cs)∧Sat B w' J As:=by
 subst hn;exact Xny s sa sc hsc hrl hu hcl a cap lo hlo B w I hr As hE hS
theorem ents_n {B w:World} {I:Im} {As:List X7} {k T cap n:Nat} {a:Option Addr} {E:List (List Value)} {l:List Sv} (hS:Sat B w I As) (hn:l.length=n) (hk:As[k]?=some (Vec T 10 (.slice a n cap) n E.flatten)) (h10:∀ c∈E,c.length=10)
  (hE:∀ (i:Nat) (s:Sv),l[i]?=some s→∃ c,E[i]?=some c∧EntAt I s c):Xgh w I a l:=by
 subst hn;exact Xo9 hS hk h10 hE
theorem EntAt.mono {I J:Im} {s:Sv} {l:List Value} (h:EntAt I s l) (hl:Le I J):EntAt J s l:=by
 obtain ⟨ra,rc,pp,qq,Q,T,e2,h2,h3,h4,h5,h6,h7⟩:=h;exact ⟨ra,rc,pp,qq,Q,T,e2,h2,h3.mono hl,h4,h5.mono hl,h6,h7.mono hl⟩
theorem EntAt.len {I:Im} {s:Sv} {l:List Value} (h:EntAt I s l):l.length=10:=by
 obtain ⟨ra,rc,pp,qq,Q,T,rfl,_⟩:=h;rfl
def X2q (l:List Sv) (D:List Int):List Sv:=D.map fun d=>l.getD d.toNat z0
theorem Xsi (a:Option Addr) (cap:Nat) (l:List Sv) (hln:l.length≤100000) (hom:∀ v∈ords l,v<18446744073709551616) (hfit:∀ s∈l,s.urls.length≤9223372036854775807∧s.calls.length≤9223372036854775807∧s.rel.length≤1000000) (B w:World) (I:Im) (hl:SvsAt I a l) (As:List X7) (hS:Sat B w I As) :
  Cz 102 [.slice a l.length cap] w fun v w'=>∃ J,Le I J∧Sat B w' J As∧(((X3a l).1≠0∧v=.tuple #[.pointer none,I64 ((X3a l).1:Nat),I64 ((X3a l).2:Nat)])∨((X3a l).1=0∧∃ pr D,v=.tuple #[.pointer (some pr),I64 0,I64 0]∧Srt.Ord (kx (ords l)) l.length D∧RegAt J pr (X2q l D))):=by
 refine calls Tryz.func102 rfl Tryz.ntmps102 rfl (.seq (.q 3 rfl (.seq (.q 1 rfl (.seq (.q 1 rfl (.seq (.seq (.region (.run 3 rfl ⟨⟨_,X7d⟩,trivial⟩ (.nil (.block ?_))))))))))));replace hS:=hS.vecNil 27 1;replace hS:=hS.vecNil 160 10;refine .loop (σ:=Nat×Im×Value×Value×List (List Value)) (fun ⟨i,J,ev,ov,E⟩=>[(5,ev),(6,ov),(14,.slice a l.length cap),(15,I64 (l.length:Nat)),(16,I64 (i:Nat))]) (fun ⟨i,J,ev,ov,E⟩ w=>i≤l.length∧Le I J∧E.length=i∧(∀ c∈E,c.length=10)∧(∀ (j:Nat) (s:Sv),(l.take i)[j]?=some s→∃ c,E[j]?=some c∧EntAt J s c)∧(∀ (j:Nat) (t:Sv),j<i→l[j]?=some t→bad l j t=0)∧Sat B w J (Vec 160 10 ev i E.flatten::Vec 27 1 ov i (((ords l).take i).map F64)::As)) (fun ⟨i,J,ev,ov,E⟩=>l.length - i) (0,I,.slice none 0 0,.slice none 0 0,[]) ⟨rfl,rfl,rfl,rfl,rfl,trivial⟩ ⟨Yo _,Le.refl _,rfl,fun _ h=>(by simp at h),fun _ _ h=>(by simp at h),fun _ _ h=>absurd h (by omega),hS⟩ ?_;rintro ⟨i,J,ev,ov,E⟩ w ⟨hi,hJ,hEl,h10,hEE,hok,hS⟩;refine .seq (.q 1 rfl (.seq ?_));refine .cond rfl (fun hb17=>?_) fun hb17=>?_
 ·have hc17:=hb17; simp only [Y6] at hc17;refine .skip (.seq (.block (.seq ?_)));obtain ⟨s,hs⟩:∃ s,l[i]?=some s:=⟨_,Y4 (by omega)⟩
  obtain ⟨p,ra,rc,rfl,hx,hrc,hr⟩:=(hl.mono hJ) i s hs;unfold X16 at hx;have hi16:=bad_le hok hi;have hsm:=hfit s (Yi hs);have hln:(l.take i).length=i:=by rw [Yt]; omega
  have hnx:((ords l).take (i+1)).map F64=((ords l).take i).map F64 ++ [F64 s.ord]:=by
   rw [Y12,ords,Yy,hs,Yv]; rfl
  have htn:l.take (i+1)=l.take i ++ [s]:=by rw [Y12,hs]; rfl
  obtain ⟨ea,ec,rfl,hec,_⟩:=hS.vecSlice (k:=0) rfl;obtain ⟨oa,oc,rfl,hoc,_⟩:=hS.vecSlice (k:=1) rfl;refine .t 1 rfl (.val (.ii rfl rfl (by omega) (by omega) X7d X2b) rfl (.val (.ldsI (.of rfl) hS hx Xfm X2b rfl (fun _ _ h=>h)) rfl (.allocA (cs:=[_,_,_,_,_,_,_,_]) hS Xj3 rfl ?_)));clear hS; intro b8 w hS;refine .q 1 rfl (.so hS (k:=0) rfl rfl rfl rfl X2b rfl (by simp) ?_);clear hS; intro w hS;try simp only [Yh,Ye,Y9,Y7,Yg,Yn,Yd] at hS
  refine .nil (.seq (.region (.val (.ldsW (cs:=[_,_,_,_,_,_,_,_]) (.of rfl) hS (k:=0) rfl Xfm X2b rfl) rfl (.q 1 rfl (.call Tryz.func147 rfl (ec9 rfl (ec9 rfl X0)) rfl (made_n s ra rc hrc hsm.2.2 hsm.1 hsm.2.1 ea ec (l.take i) i hln (by omega) B _ J hr _ (fun w h=>ents_n h hln (k:=1) rfl h10 hEE) hS) ?_)))));clear hS;rintro _ w ⟨J2,cs,code,hJ2,rfl,hcode,hcs10,hall,hent,hS⟩;refine .q 3 rfl (.allocA (cs:=[_,_,_,_,_,_,_,_,_,_]) hS Xit rfl ?_);clear hS; intro b9 w hS;refine .so hS (k:=0) rfl rfl rfl hall X3j hcs10 (by simp) ?_;clear hS; intro w hS;try simp only [Yh,Ye,Y9,Y7,Yg,Yn,Yd] at hS
  refine .q 1 rfl (.nil (.seq (.seq (.q 2 rfl ?_))));refine .cond rfl (fun hb28=>?_) fun hb28=>?_
  ·have hc28:=hb28; simp only [Y6] at hc28;refine .seq (.q 5 rfl (.ret (X7j Tryz.results102 rfl rfl rfl ?_)));have hb2:=Xi3 (l:=l) (i:=i) (s:=s) hi16 (by omega);have hbn:bad l i s≠0:=by rw [← hb2,← hcode]; omega
   have hw:=X58 hok hs hbn;refine ⟨_,rfl,J2,Le.trans hJ hJ2,(((hS.drop (k:=0) rfl).drop (k:=0) rfl).drop (k:=0) rfl).drop (k:=0) rfl,.inl ⟨by rw [hw]; exact hbn,?_⟩⟩;rw [hw,hcode,hb2];rfl
  have hc28:=hb28; simp only [Y6] at hc28;refine .skip ?_;have hcode0:code=0:=by omega
  obtain ⟨sa,sc,pp,qq,Q,T,rfl,hsc,hent⟩:=hent hcode0;have hent2:EntAt J2 s (X1l s sa sc pp qq):=⟨sa,sc,pp,qq,Q,T,rfl,hsc,hent⟩
  have hbad0:bad l i s=0:=by rw [← Xi3 (l:=l) (i:=i) hi16 (by omega),← hcode,hcode0]
  unfold X1l at hS;refine .drawn (fun w=>∃ R,Sat B w J2 (blk b9 [I64 s.id,F64 s.ord,S s.urls,.bool s.login,.bool s.proxy,.bool s.back,S s.calls,.slice sa s.rel.length sc,.pointer (some pp),.pointer (some qq)] 160::blk b8 [I64 s.id,F64 s.ord,S s.urls,.bool s.login,.bool s.proxy,.bool s.back,S s.calls,.slice ra s.rel.length rc] 59::R)) (fun j=>!([].contains j)) (by kernel_rfl) ?_;replace hS:=hS.drew; generalize w.drew=w at hS ⊢;have hH:=((hS.pick 1 rfl).pick 1 rfl)
  refine .tp (i:=0) rfl (by kernel_rfl) (fun w=>(.mo rfl)) rfl (.tk (i:=1) rfl (by kernel_rfl) ⟨_,hH⟩ (fun w ⟨R,hS⟩=>(.ldsW (cs:=[_,_,_,_,_,_,_,_,_,_]) (.of rfl) hS (k:=0) rfl Xeu X3j rfl)) rfl (.tp (i:=4) rfl (by kernel_rfl) (fun w=>(.mo rfl)) rfl (.tp (i:=5) rfl (by kernel_rfl) (fun w=>(.fo 1 rfl X5r rfl rfl Xns rfl)) rfl (.tk (i:=6) rfl (by kernel_rfl) ⟨_,hH⟩ (fun w ⟨R,hS⟩=>(.lo rfl hS (k:=1) rfl Qg27 rfl)) rfl ?_))));refine .branch [2,7] (by kernel_rfl) rfl (WO.cons rfl ?_ (WO.cons rfl ?_ (WO.nil)))
  ·refine .buildSlice (cs:=[_,_,_,_,_,_,_,_,_,_]) hS (pc9 rfl X4) X81 X3j Xit rfl rfl rfl rfl ?_;clear hS; intro b33 w hS;refine .nil ?_;clear hH;have hH:=((hS.pick 2 rfl).pick 2 rfl)
   refine ⟨fun _ _=>⟨_,hH⟩,?_⟩;refine .branch [3,7] (by kernel_rfl) rfl (WO.cons rfl ?_ (WO.cons rfl ?_ (WO.nil)))
   ·refine .append (size:=10) (bytes:=96) hS (.of rfl) (.of rfl) (k:=2) rfl X81 X4f rfl rfl rfl rfl rfl rfl rfl ⟨by omega,by unfold maxLen; omega⟩ rfl ?_;clear hS; intro v34 w hS;obtain ⟨a34,c34,rfl,hcap34,_⟩:=hS.vecSlice (k:=2) (v:=v34) rfl;refine .nil ?_;clear hH;have hH:=((hS.pick 1 rfl).pick 1 rfl)
    refine ⟨fun _ _=>⟨_,hH⟩,?_⟩;refine .b1 7 (by kernel_rfl) rfl (.buildSlice (cs:=[_]) hS (pc9 rfl X4) X61 Xns Qz27 rfl rfl rfl rfl ?_);clear hS; intro b38 w hS;refine .nil ?_;clear hH;have hH:=((hS.pick 2 rfl).pick 2 rfl)
    refine ⟨fun _ _=>⟨_,hH⟩,?_⟩;refine .b1 8 (by kernel_rfl) rfl (.append (size:=1) (bytes:=8) hS (.of rfl) (.of rfl) (k:=3) rfl X61 X78 rfl rfl rfl rfl rfl rfl rfl ⟨by omega,by unfold maxLen; omega⟩ rfl ?_);clear hS; intro v39 w hS;obtain ⟨a39,c39,rfl,hcap39,_⟩:=hS.vecSlice (k:=3) (v:=v39) rfl;refine .nil ?_;clear hH;have hH:=((hS.pick 1 rfl).pick 1 rfl)
    refine ⟨fun _ _=>⟨_,hH⟩,?_⟩;refine .tp (i:=9) rfl (by kernel_rfl) (fun w=>(.ao rfl)) rfl (.tp (i:=10) rfl (by kernel_rfl) (fun w=>(.ao rfl)) rfl (.done (by kernel_rfl) (.region (.run 2 rfl ⟨⟨by omega,by omega⟩,trivial⟩ (.nil ?_)))));have hfin:=((hS.drop (k:=0) rfl).drop (k:=0) rfl)
    refine ⟨(i+1,J2,.slice a34 (i+1) c34,.slice a39 (i+1) c39,E ++ [X1l s sa sc pp qq]),⟨rfl,rfl,rfl,rfl,rfl,trivial⟩,⟨by (try dsimp only); omega,Le.trans hJ hJ2,by (try dsimp only); rw [Y0,hEl]; rfl,fun c hc=>?_,fun j u hu=>?_,fun j u hj hu=>?_,?_⟩,by (try dsimp only); omega⟩
    ·rcases Y16.1 hc with h | h
     ·exact h10 c h
     ·simp at h; subst h; rfl
    ·(try dsimp only at hu)
     rw [htn] at hu;rcases Yr j i with h1 | h1
     ·rw [Yk (by omega)] at hu;obtain ⟨c,e1,e2⟩:=hEE j u hu;exact ⟨c,by rw [Yk (by omega)]; exact e1,e2.mono hJ2⟩
     ·rw [Yw (by omega),hln] at hu;have hj0:j - i=0:=by have:=(Y5.1 hu).1; simp at this; omega
      rw [hj0] at hu;cases hu
      exact ⟨_,by rw [Yw (by omega),hEl,hj0]; rfl,hent2⟩
    ·rcases Yr j i with h1 | h1
     ·exact hok j u h1 hu
     ·have e:j=i:=by (try dsimp only at hj); omega
      subst e;rw [hs] at hu; cases hu;exact hbad0
    ·(try dsimp only)
     rw [hnx,Y2r];simpa [X1l] using hfin
   ·refine .buildSlice (cs:=[_]) hS (pc9 rfl X4) X61 Xns Qz27 rfl rfl rfl rfl ?_;clear hS; intro b38 w hS;refine .nil ?_;clear hH;have hH:=((hS.pick 3 rfl).pick 3 rfl)
    refine ⟨fun _ _=>⟨_,hH⟩,?_⟩;refine .b1 3 (by kernel_rfl) rfl ?_;replace hS:=hS.pick 1 rfl;refine .append (size:=10) (bytes:=96) hS (.of rfl) (.of rfl) (k:=3) rfl X81 X4f rfl rfl rfl rfl rfl rfl rfl ⟨by omega,by unfold maxLen; omega⟩ rfl ?_;clear hS; intro v34 w hS;obtain ⟨a34,c34,rfl,hcap34,_⟩:=hS.vecSlice (k:=3) (v:=v34) rfl;refine .nil ?_;clear hH;have hH:=((hS.pick 2 rfl).pick 2 rfl)
    refine ⟨fun _ _=>⟨_,hH⟩,?_⟩;refine .b1 8 (by kernel_rfl) rfl (.append (size:=1) (bytes:=8) hS (.of rfl) (.of rfl) (k:=3) rfl X61 X78 rfl rfl rfl rfl rfl rfl rfl ⟨by omega,by unfold maxLen; omega⟩ rfl ?_);clear hS; intro v39 w hS;obtain ⟨a39,c39,rfl,hcap39,_⟩:=hS.vecSlice (k:=3) (v:=v39) rfl;refine .nil ?_;clear hH;have hH:=((hS.pick 1 rfl).pick 1 rfl)
    refine ⟨fun _ _=>⟨_,hH⟩,?_⟩;refine .tp (i:=9) rfl (by kernel_rfl) (fun w=>(.ao rfl)) rfl (.tp (i:=10) rfl (by kernel_rfl) (fun w=>(.ao rfl)) rfl (.done (by kernel_rfl) (.region (.run 2 rfl ⟨⟨by omega,by omega⟩,trivial⟩ (.nil ?_)))));have hfin:=((hS.drop (k:=0) rfl).drop (k:=0) rfl)
    refine ⟨(i+1,J2,.slice a34 (i+1) c34,.slice a39 (i+1) c39,E ++ [X1l s sa sc pp qq]),⟨rfl,rfl,rfl,rfl,rfl,trivial⟩,⟨by (try dsimp only); omega,Le.trans hJ hJ2,by (try dsimp only); rw [Y0,hEl]; rfl,fun c hc=>?_,fun j u hu=>?_,fun j u hj hu=>?_,?_⟩,by (try dsimp only); omega⟩
    ·rcases Y16.1 hc with h | h
     ·exact h10 c h
     ·simp at h; subst h; rfl
    ·(try dsimp only at hu)
     rw [htn] at hu;rcases Yr j i with h1 | h1
     ·rw [Yk (by omega)] at hu;obtain ⟨c,e1,e2⟩:=hEE j u hu;exact ⟨c,by rw [Yk (by omega)]; exact e1,e2.mono hJ2⟩
     ·rw [Yw (by omega),hln] at hu;have hj0:j - i=0:=by have:=(Y5.1 hu).1; simp at this; omega
      rw [hj0] at hu;cases hu
      exact ⟨_,by rw [Yw (by omega),hEl,hj0]; rfl,hent2⟩
    ·rcases Yr j i with h1 | h1
     ·exact hok j u h1 hu
     ·have e:j=i:=by (try dsimp only at hj); omega
      subst e;rw [hs] at hu; cases hu;exact hbad0
    ·(try dsimp only)
     rw [hnx,Y2r];simpa [X1l] using hfin
  ·refine .buildSlice (cs:=[_]) hS (pc9 rfl X4) X61 Xns Qz27 rfl rfl rfl rfl ?_;clear hS; intro b38 w hS;refine .nil ?_;clear hH;have hH:=((hS.pick 2 rfl).pick 2 rfl)
   refine ⟨fun _ _=>⟨_,hH⟩,?_⟩;refine .b1 2 (by kernel_rfl) rfl (.buildSlice (cs:=[_,_,_,_,_,_,_,_,_,_]) hS (pc9 rfl X4) X81 X3j Xit rfl rfl rfl rfl ?_);clear hS; intro b33 w hS;refine .nil ?_;clear hH;have hH:=((hS.pick 3 rfl).pick 3 rfl)
   refine ⟨fun _ _=>⟨_,hH⟩,?_⟩;refine .b1 3 (by kernel_rfl) rfl (.append (size:=10) (bytes:=96) hS (.of rfl) (.of rfl) (k:=3) rfl X81 X4f rfl rfl rfl rfl rfl rfl rfl ⟨by omega,by unfold maxLen; omega⟩ rfl ?_);clear hS; intro v34 w hS;obtain ⟨a34,c34,rfl,hcap34,_⟩:=hS.vecSlice (k:=3) (v:=v34) rfl;refine .nil ?_;clear hH;have hH:=((hS.pick 2 rfl).pick 2 rfl)
   refine ⟨fun _ _=>⟨_,hH⟩,?_⟩;refine .b1 8 (by kernel_rfl) rfl (.append (size:=1) (bytes:=8) hS (.of rfl) (.of rfl) (k:=3) rfl X61 X78 rfl rfl rfl rfl rfl rfl rfl ⟨by omega,by unfold maxLen; omega⟩ rfl ?_);clear hS; intro v39 w hS;obtain ⟨a39,c39,rfl,hcap39,_⟩:=hS.vecSlice (k:=3) (v:=v39) rfl;refine .nil ?_;clear hH;have hH:=((hS.pick 1 rfl).pick 1 rfl)
   refine ⟨fun _ _=>⟨_,hH⟩,?_⟩;refine .tp (i:=9) rfl (by kernel_rfl) (fun w=>(.ao rfl)) rfl (.tp (i:=10) rfl (by kernel_rfl) (fun w=>(.ao rfl)) rfl (.done (by kernel_rfl) (.region (.run 2 rfl ⟨⟨by omega,by omega⟩,trivial⟩ (.nil ?_)))));have hfin:=((hS.drop (k:=0) rfl).drop (k:=0) rfl)
   refine ⟨(i+1,J2,.slice a34 (i+1) c34,.slice a39 (i+1) c39,E ++ [X1l s sa sc pp qq]),⟨rfl,rfl,rfl,rfl,rfl,trivial⟩,⟨by (try dsimp only); omega,Le.trans hJ hJ2,by (try dsimp only); rw [Y0,hEl]; rfl,fun c hc=>?_,fun j u hu=>?_,fun j u hj hu=>?_,?_⟩,by (try dsimp only); omega⟩
   ·rcases Y16.1 hc with h | h
    ·exact h10 c h
    ·simp at h; subst h; rfl
   ·(try dsimp only at hu)
    rw [htn] at hu;rcases Yr j i with h1 | h1
    ·rw [Yk (by omega)] at hu;obtain ⟨c,e1,e2⟩:=hEE j u hu;exact ⟨c,by rw [Yk (by omega)]; exact e1,e2.mono hJ2⟩
    ·rw [Yw (by omega),hln] at hu;have hj0:j - i=0:=by have:=(Y5.1 hu).1; simp at this; omega
     rw [hj0] at hu;cases hu
     exact ⟨_,by rw [Yw (by omega),hEl,hj0]; rfl,hent2⟩
   ·rcases Yr j i with h1 | h1
    ·exact hok j u h1 hu
    ·have e:j=i:=by (try dsimp only at hj); omega
     subst e;rw [hs] at hu; cases hu;exact hbad0
   ·(try dsimp only)
    rw [hnx,Y2r];simpa [X1l] using hfin
 have hc17:=hb17; simp only [Y6] at hc17;refine .exit (.seq ?_);have hin:i=l.length:=by omega
 subst hin;have hol:(ords l).length=l.length:=Y10 ..;rw [Yz (Yu _)] at hEE;rw [Yz (by omega)] at hS;obtain ⟨oa,oc,rfl,hoc,_⟩:=hS.vecSlice (k:=1) rfl;obtain ⟨ea,ec,rfl,hec,_⟩:=hS.vecSlice (k:=0) rfl;obtain ⟨J1,hJ1,hOR,hS1⟩:=hS.freezeVec (k:=1) rfl;try dsimp only [List.eraseIdx] at hS1
 obtain ⟨J2,hJ2,hER,hS2⟩:=hS1.freezeVec (k:=0) rfl;clear hS hS1;have hS:=hS2;clear hS2;try dsimp only [List.eraseIdx] at hS
 replace hJ:=Le.trans hJ (Le.trans hJ1 hJ2);replace hOR:=hOR.mono hJ2;replace hEE:=fun j s h=>let ⟨c,h1,h2⟩:=hEE j s h; (⟨c,h1,EntAt.mono h2 (Le.trans hJ1 hJ2)⟩:∃ c,E[j]?=some c∧EntAt J2 s c)
 refine .region (.val (.build (cs:=[_]) X4 Xj5 rfl) rfl (.boxA (cs:=[_]) hS (.of rfl) rfl ?_));clear hS; intro b42 w hS;refine .q 1 rfl (.nil (.seq (.seq ?_)));rw [← hol] at hOR ⊢;refine .t 1 rfl (.call Tryz.func148 rfl (ec9 rfl X0) rfl (Xl6 (ords l) hom (by omega) oa oc B _ J2 hOR _ hS) ?_);clear hS;rintro _ w ⟨D,va,vc,rfl,hD,hS⟩;obtain ⟨J3,hJ3,hDR,hS2⟩:=hS.freezeVec (k:=0) rfl;clear hS;have hS:=hS2;clear hS2;try dsimp only [List.eraseIdx] at hS
 replace hJ:=Le.trans hJ hJ3;rw [hol] at hD hDR ⊢;have hDl:=hD.len;refine .run 2 rfl ⟨⟨_,Xd⟩,trivial⟩ (.nil (.block ?_));replace hS:=(hS.vecNil 160 10).pick 1 rfl;try dsimp only [List.eraseIdx] at hS
 refine .loop (σ:=Value×Nat) (fun ⟨kv,j⟩=>[(5,.slice ea l.length ec),(11,ptr b42 0),(44,.slice va l.length vc),(45,I64 (l.length:Nat)),(46,I64 (j:Nat))]) (fun ⟨kv,j⟩ w=>j≤l.length∧Sat B w J3 (blk b42 [kv] 162::Vec 160 10 kv j (X4j E (D.take j)).flatten::As)) (fun ⟨kv,j⟩=>l.length - j) (.slice none 0 0,0) ⟨rfl,rfl,rfl,rfl,rfl,trivial⟩ ⟨Yo _,hS⟩ ?_;rintro ⟨kv,j⟩ w ⟨hj,hS⟩;refine .seq (.q 1 rfl (.seq ?_));refine .cond rfl (fun hb47=>?_) fun hb47=>?_
 ·have hc47:=hb47; simp only [Y6] at hc47;refine .skip (.seq (.block (.seq ?_)));obtain ⟨d,hd⟩:∃ d,D[j]?=some d:=⟨_,Y4 (by omega)⟩
  have hdm:d∈Srt.upto l.length:=hD.2.mem_iff.1 (Yi hd);have hdr:=Srt.upto_mem.1 hdm;obtain ⟨s,hs⟩:∃ s,l[d.toNat]?=some s:=⟨_,Y4 (by omega)⟩
  obtain ⟨c,hc,ra,rc,pp,qq,Q,T,rfl,hent⟩:=hEE d.toNat s hs;obtain ⟨pe,rfl,hpe⟩:=(hER.mono hJ3).2 (by omega);have hx:=X3m (hpe.add (d.toNat*10)) 10;rw [X1s E h10 d.toNat _ hc] at hx;have hnr:(X4j E (D.take (j+1))).flatten=(X4j E (D.take j)).flatten ++ X1l s ra rc pp qq:=by
   unfold X4j;rw [Y12,hd,Yv,Y2r];simp [Yc,hc]
  unfold X1l at hx hnr;obtain ⟨dp,rfl,hdp⟩:=hDR.2 (by omega);obtain ⟨ka,kc,rfl,hkc,_⟩:=hS.vecSlice (k:=1) rfl;have hdx:((D.map I64).drop ((j:Int).toNat*1))[0]?=some (I64 d):=by rw [Y1e,Ym,Y1i,Y2c,Yy,hd]; rfl
  refine .region (.val (.ii rfl rfl (by omega) (by omega) Xd Qs3) rfl (.val (.ldI (v:=I64 d) (.of rfl) hS (hdp.add _) Qg3 hdx) rfl (.q 1 rfl (.nil (.drawn (fun w=>∃ R,Sat B w J3 (blk b42 [.slice ka j kc] 162::R)) (fun j=>!([13].contains j)) (by kernel_rfl) ?_)))));replace hS:=hS.drew; generalize w.drew=w at hS ⊢;have hH:=(hS.pick 0 rfl)
  refine .tp (i:=0) rfl (by kernel_rfl) (fun w=>(.mo rfl)) rfl (.tp (i:=1) rfl (by kernel_rfl) (fun w=>(.mo rfl)) rfl (.tp (i:=2) rfl (by kernel_rfl) (fun w=>(.no rfl)) rfl (.tp (i:=3) rfl (by kernel_rfl) (fun w=>(.fo 0 rfl Xhf rfl rfl Xft rfl)) rfl (.tk (i:=4) rfl (by kernel_rfl) ⟨_,hH⟩ (fun w ⟨R,hS⟩=>(.lo rfl hS (k:=0) rfl Xkw rfl)) rfl (.tp (i:=5) rfl (by kernel_rfl) (fun w=>(.mo rfl)) rfl (.tp (i:=6) rfl (by kernel_rfl) (fun w=>(.mo rfl)) rfl (.tp (i:=7) rfl (by kernel_rfl) (fun w=>(.ii rfl rfl (by omega) (by omega) X81 X3j)) rfl (.tk (i:=8) rfl (by kernel_rfl) ⟨_,hH⟩ (fun w ⟨R,hS⟩=>(.ldsI (.of rfl) hS hx Xeu X3j rfl (fun _ _ h=>h))) rfl ?_))))))));refine .b1 9 (by kernel_rfl) rfl (.buildSlice (cs:=[_,_,_,_,_,_,_,_,_,_]) hS (pc9 rfl X4) X81 X3j Xit rfl rfl rfl rfl ?_);clear hS; intro b59 w hS;refine .nil ?_;clear hH;have hH:=(hS.pick 1 rfl)
  refine ⟨fun _ _=>⟨_,hH⟩,?_⟩;refine .b1 10 (by kernel_rfl) rfl (.append (size:=10) (bytes:=96) hS (.of rfl) (.of rfl) (k:=1) rfl X81 X4f rfl rfl rfl rfl rfl rfl rfl ⟨by omega,by unfold maxLen; omega⟩ rfl ?_);clear hS; intro v60 w hS;obtain ⟨a60,c60,rfl,hcap60,_⟩:=hS.vecSlice (k:=1) (v:=v60) rfl;refine .nil ?_;clear hH;have hH:=(hS.pick 0 rfl)
  refine ⟨fun _ _=>⟨_,hH⟩,?_⟩;refine .tp (i:=11) rfl (by kernel_rfl) (fun w=>(.no rfl)) rfl (.tp (i:=12) rfl (by kernel_rfl) (fun w=>(.fo 0 rfl Xhf rfl rfl Xft rfl)) rfl ?_);refine .b1 13 (by kernel_rfl) rfl (.s1 hS (k:=0) rfl rfl rfl rfl Xft (by simp) ?_);clear hS; intro w hS;refine .nil ?_;refine And.intro (by intro h; cases h) ?_;refine .done (by kernel_rfl) (.region (.run 2 rfl ⟨⟨by omega,by omega⟩,trivial⟩ (.nil ?_)));refine ⟨(.slice a60 (j+1) c60,j+1),⟨rfl,rfl,rfl,rfl,rfl,trivial⟩,⟨by (try dsimp only); omega,?_⟩,by (try dsimp only); omega⟩;rw [hnr]; exact hS
 have hc47:=hb47; simp only [Y6] at hc47;refine .exit (.seq (.q 4 rfl (.ret (X7j Tryz.results102 rfl rfl rfl ?_))));have hjn:j=l.length:=by omega
 subst hjn;rw [Yz (by omega)] at hS;obtain ⟨ka,kc,rfl,hkc,_⟩:=hS.vecSlice (k:=1) rfl;obtain ⟨J4,hJ4,hKR,hS1⟩:=hS.freezeVec (k:=1) rfl;try dsimp only [List.eraseIdx] at hS1
 obtain ⟨J5,hJ5,hb5,hS2⟩:=hS1.freeze (k:=0) rfl;have hw:X3a l=(0,0):=Xbp (fun q t ht=>hok q t (by have:=(Y5.1 ht).1; omega) ht);have hpl:(X2q l D).length=l.length:=by unfold X2q; rw [Y10,hDl]
 refine ⟨_,rfl,J5,Le.trans hJ (Le.trans hJ4 hJ5),hS2,.inr ⟨by rw [hw],_,D,rfl,hD,ka,kc,X4j E D,?_,by rw [hpl]; exact hkc,by unfold X4j X2q; rw [Y10,Y10],fun q s hq=>?_⟩⟩
 ·rw [hpl];exact ⟨rfl,_,_,_,hb5,fun q v hq=>by simpa using hq⟩
 ·unfold X2q at hq;rw [Yy] at hq;cases hdq:D[q]? with
  | none=>rw [hdq] at hq; cases hq
  | some d =>
   rw [hdq] at hq;have hdr:=Srt.upto_mem.1 (hD.2.mem_iff.1 (Yi hdq));obtain ⟨u,hu⟩:∃ u,l[d.toNat]?=some u:=⟨_,Y4 (by omega)⟩
   have hus:u=s:=by
    have h2:=hq;rw [Y3g,Yc,hu] at h2;exact Option.some.inj h2
   subst hus;obtain ⟨c,hc,hent⟩:=hEE d.toNat u hu;have hql:=(Y5.1 hdq).1;obtain ⟨kp,rfl,hkp⟩:=(hKR.mono hJ5).2 (by omega);have hpk:(X4j E D)[q]?=some c:=by unfold X4j; rw [Yy,hdq]; simp [Yc,hc]
   have h10':∀ c∈X4j E D,c.length=10:=fun c hc=>by
    unfold X4j at hc;obtain ⟨d',hd',rfl⟩:=Y28.1 hc;have hdr':=Srt.upto_mem.1 (hD.2.mem_iff.1 hd');rw [Yc,Y4 (by omega)];exact h10 _ (Y2t _)
   have hx:=X3m (hkp.add (q*10)) 10;rw [X1s _ h10' q _ hpk] at hx;exact ⟨kp,c,rfl,hpk,hx,hent.mono (Le.trans hJ3 (Le.trans hJ4 hJ5))⟩
theorem Xag (pr:Sv→Bool):∀ (l:List Sv) (i:Nat),(X2a pr l i=-1∧l.find? pr=none)∨(∃ j s,X2a pr l i=((i+j:Nat):Int)∧l[j]?=some s∧pr s=true∧l.find? pr=some s)
 | [],_=>.inl ⟨rfl,rfl⟩
 | a::l,i=>by
  rw [X2a,Y3v];cases ha:pr a with
  | true=>exact .inr ⟨0,a,rfl,rfl,ha,rfl⟩
  | false =>
   rw [if_neg (by decide)];rcases Xag pr l (i+1) with ⟨h1,h2⟩ | ⟨j,s,h1,h2,h3,h4⟩
   ·exact .inl ⟨h1,h2⟩
   ·exact .inr ⟨j+1,s,by rw [h1]; congr 1; omega,h2,h3,h4⟩
theorem X6f (pr:Sv→Bool) (l:List Sv):(X2a pr l 0=-1∧l.find? pr=none)∨(∃ (j:Nat) (s:Sv),X2a pr l 0=(j:Int)∧l[j]?=some s∧pr s=true∧l.find? pr=some s):=by
 rcases Xag pr l 0 with h | ⟨j,s,h1,h2⟩
 ·exact .inl h
 ·exact .inr ⟨j,s,by rw [h1,Yd],h2⟩
theorem Xcy {l:List UInt8} {Q:List Pl} (h:cmp l=.ok Q) (s:List UInt8):(X8q l s).1=mat Q s:=by unfold X8q; rw [h]
def X1r (lo:List Sv) (s:List UInt8):Sv×List UInt8×Nat :=
 if (Ul.nU s).2≠0 then (z0,[],(Ul.nU s).2) else if 100<(Ul.nU s).1.length then (z0,[],2)
 else match lo.find? (fun t=>(X8q t.urls (Ul.nU s).1).1) with
  | none=>(z0,[],31)
  | some t=>(t,(Ul.nU s).1,0)
abbrev X7g:List UInt8:=[104,116,116,112,115,58]
def X4r (lo:List Sv) (id:Int) (s:List UInt8):List UInt8×Bool :=
 match lo.find? (fun t=>t.id == id) with
 | none=>([],false)
 | some u=>if (((((Ul.nU s).2:Int) != 0 || decide (100<((Ul.nU s).1.length:Int))) || !(hasPre (Ul.nU s).1 X7g)) || !((X8q u.calls (Ul.nU s).1).1))=true then ([],false) else ((Ul.nU s).1,true)
theorem Xgs (pr:Addr) (lo:List Sv) (hlo:lo.length≤100000) (hrl:∀ s∈lo,s.rel.length≤1000000) (s:List UInt8) (hs:s.length≤1000000) (a:Option Addr) (cc:Nat) (E:List (List Value)) (B w:World) (I:Im) (hK:Known I) (hreg:At I pr [.slice a lo.length cc]) (hE:EntsIn I a E lo) (As:List X7) (hS:Sat B w I As) :
  Cz 50 [.pointer (some pr),S s] w fun v w'=>∃ J u c n e,Le I J∧v=.tuple #[.agg (List.toArray c),S n,I64 ((e:Nat):Int)]∧SvAt J u c∧X1r lo s=(u,n,e)∧Sat B w' J As:=by
 refine calls Qf50 rfl Tryz.ntmps50 rfl (.seq (.region (.allocA (cs:=[_,_,_,_,_,_,_,_]) hS Xj3 rfl ?_)));intro b4 w hS;refine .q 2 rfl (.nil (.seq (.t 1 rfl (.call Tryz.func108 rfl (ec9 rfl X0) rfl (Xao s hs B _ I hK _ hS) ?_))));rintro _ w ⟨rfl,hS⟩;refine .q 3 rfl (.alloc1 hS Qz9 rfl rfl ?_);intro b7 w hS;refine .s1 hS (k:=0) rfl rfl rfl rfl Qs9 (by simp) ?_;intro w hS;refine .q 1 rfl (.nil (.seq (.seq (.t 3 rfl (.gval rfl rfl (fun hg1=>(.lo rfl hS (k:=0) rfl Qg9 rfl)) rfl (.gval rfl rfl (fun hg1=>(.len (.gd hg1 rfl) Qu9)) rfl (.gval rfl rfl (fun hg1=>(.gtr (.gd hg1 rfl) (.of rfl))) rfl (.val (.pa rfl rfl rfl) rfl (.nil ?_)))))))));refine .cond rfl (fun hb21=>?_) fun hb21=>?_
 ·have hc21:=hb21; simp only [Y6] at hc21;refine .q 1 rfl (.seq (.seq (.q 2 rfl ?_)));refine .cond rfl (fun hb23=>?_) (fun hb23=>by exfalso; simp only [Y6] at hb23; omega);have hc23:=hb23; simp only [Y6] at hc23;refine .seq (.region (.val (.build (cs:=[_,_,_,_,_,_,_,_]) X4 X3f rfl) rfl (.q 1 rfl (.so hS (k:=1) rfl rfl rfl rfl X2b rfl (by simp) ?_))));intro w hS;try simp only [Yh,Ye,Y9,Y7,Yg,Yn,Yd] at hS
  refine .q 2 rfl (.nil (.ret (Xes (b:=_) (cs:=[_,_,_,_,_,_,_,_]) Qr50 hS (k:=1) rfl Xfm X2b rfl rfl rfl rfl ?_)));exact ⟨_,rfl,I,z0,_,[],2,Le.refl _,rfl,⟨none,0,rfl,Yu _,RS.nil _ _⟩,(by unfold X1r; rw [if_neg (by simp at hb21; omega),if_pos (by simp at hb21; omega)]),((hS.drop (k:=0) rfl).drop (k:=0) rfl)⟩
 have hc21:=hb21; simp only [Y6] at hc21;refine .skip (.seq (.seq (.q 2 rfl ?_)));refine .cond rfl (fun hb23=>?_) fun hb23=>?_
 ·have hc23:=hb23; simp only [Y6] at hc23;refine .seq (.region (.val (.build (cs:=[_,_,_,_,_,_,_,_]) X4 X3f rfl) rfl (.q 1 rfl (.so hS (k:=1) rfl rfl rfl rfl X2b rfl (by simp) ?_))));intro w hS;try simp only [Yh,Ye,Y9,Y7,Yg,Yn,Yd] at hS
  refine .q 2 rfl (.nil (.ret (Xes (b:=_) (cs:=[_,_,_,_,_,_,_,_]) Qr50 hS (k:=1) rfl Xfm X2b rfl rfl rfl rfl ?_)));exact ⟨_,rfl,I,z0,_,[],_,Le.refl _,rfl,⟨none,0,rfl,Yu _,RS.nil _ _⟩,(by unfold X1r; rw [if_pos (by omega)]),((hS.drop (k:=0) rfl).drop (k:=0) rfl)⟩
 have hc23:=hb23; simp only [Y6] at hc23;refine .skip (.seq ?_);have hz:(Ul.nU s).2=0:=by omega
 have hn100:(Ul.nU s).1.length≤100:=by
  rw [hz] at hb21;simp at hb21
  omega
 refine .t 2 rfl (.val (.fi 0 rfl Xhf rfl rfl Xft rfl) rfl (.val (.ldI (.of rfl) hS (At.add hreg _) Xkw rfl) rfl (.val (.makeFunc (ec9 rfl X0)) rfl ?_)));refine .call Xov rfl (ec9 rfl (ec9 rfl X0)) rfl (X44 a cc lo hlo (fun t=>(X8q t.urls (Ul.nU s).1).1) 110 _ Tryz.func110 rfl [ptr b7 0] B _ I (blk b7 [S (Ul.nU s).1] 9::blk b4 [I64 0,F64 0,S [],.bool false,.bool false,.bool false,S [],.slice none 0 0] 59::As) (fun w h=>hE.now h) (fun t c ht w h=>by
  obtain ⟨ta,tc,tp,tq,Q,_,rfl,_,_,hQ,hpat,_⟩:=ht;refine (Xll hQ ta tc tp tq (Ul.nU s).1 (by omega) b7 B w I hpat _ h).mono fun e w' ⟨v,e1,e2,e3⟩=>⟨v,e1,?_,e3⟩
  rw [e2,Xcy hQ]) hS) ?_
 rintro _ w ⟨rfl,hS⟩;refine .q 1 rfl (.nil (.seq (.seq (.q 2 rfl ?_))));refine .cond rfl (fun hb33=>?_) fun hb33=>?_
 ·have hc33:=hb33; simp only [Y6] at hc33;refine .seq (.region (.val (.build (cs:=[_,_,_,_,_,_,_,_]) X4 X3f rfl) rfl (.so hS (k:=1) rfl rfl rfl rfl X2b rfl (by simp) ?_)));intro w hS;try simp only [Yh,Ye,Y9,Y7,Yg,Yn,Yd] at hS
  refine .q 2 rfl (.nil (.ret (Xes (b:=_) (cs:=[_,_,_,_,_,_,_,_]) Qr50 hS (k:=1) rfl Xfm X2b rfl rfl rfl rfl ?_)));exact ⟨_,rfl,I,z0,_,[],31,Le.refl _,rfl,⟨none,0,rfl,Yu _,RS.nil _ _⟩,(by
   have hno:lo.find? (fun t=>(X8q t.urls (Ul.nU s).1).1)=none:=by
    rcases X6f (fun t=>(X8q t.urls (Ul.nU s).1).1) lo with ⟨_,h⟩ | ⟨j,u,hj,_⟩
    ·exact h
    ·exfalso; rw [hj] at hc33; omega
   unfold X1r;rw [if_neg (by omega),if_neg (by omega),hno]),((hS.drop (k:=0) rfl).drop (k:=0) rfl)⟩
 have hc33:=hb33; simp only [Y6] at hc33;refine .skip (.seq ?_);rcases X6f (fun t=>(X8q t.urls (Ul.nU s).1).1) lo with ⟨hneg,_⟩ | ⟨j,u,hj,hu,hpu,hfind⟩
 ·exfalso; rw [hneg] at hc33; omega
 rw [hj];obtain ⟨p,c,rfl,hc,hx0,ra,rc,pp,qq,Q,T,rfl,hrc,hrr,hQ,hpQ,hT,hpT⟩:=hE.2 j u hu;have hjl:=(Y5.1 hu).1;have hsm:=hrl u (Yi hu);have hx:=X3m hx0 8;simp only [X1l,Y1x,Yh] at hx
 refine .drawn (fun w=>∃ J9 R,Le I J9∧Sat B w J9 (blk b7 [S (Ul.nU s).1] 9::R)) (fun j=>!([].contains j)) (by kernel_rfl) ?_;replace hS:=hS.drew; generalize w.drew=w at hS ⊢;have hH:∃ J9 R,Le I J9∧Sat B w J9 (blk b7 [S (Ul.nU s).1] 9::R):=⟨_,_,Le.refl _,(hS.pick 0 rfl)⟩
 refine .tp (i:=0) rfl (by kernel_rfl) (fun w=>(.mo rfl)) rfl (.tp (i:=1) rfl (by kernel_rfl) (fun w=>(.no rfl)) rfl (.tp (i:=2) rfl (by kernel_rfl) (fun w=>(.fi 0 rfl Xhf rfl rfl Xft rfl)) rfl (.tk (i:=3) rfl (by kernel_rfl) hH (fun w ⟨J9,R,hL9,hS⟩=>(.ldI (.of rfl) hS (At.add (hreg.mono hL9) _) Xkw rfl)) rfl (.tp (i:=4) rfl (by kernel_rfl) (fun w=>(.mo rfl)) rfl (.tp (i:=5) rfl (by kernel_rfl) (fun w=>(.ii rfl rfl (by omega) (by omega) X81 X3j)) rfl (.tp (i:=6) rfl (by kernel_rfl) (fun w=>(.fi 0 rfl Xk9 rfl rfl X2b rfl)) rfl (.tk (i:=7) rfl (by kernel_rfl) hH (fun w ⟨J9,R,hL9,hS⟩=>(.ldsI (.of rfl) hS (hx.mono hL9) Xfm X2b rfl (fun _ _ h=>h))) rfl (.tk (i:=9) rfl (by kernel_rfl) hH (fun w ⟨J9,R,hL9,hS⟩=>(.lo rfl hS (k:=0) rfl Qg9 rfl)) rfl ?_))))))));refine .b1 8 (by kernel_rfl) rfl (.call Tryz.func112 rfl (ec9 rfl X0) rfl (Xsc u ra rc hsm B _ I hrr _ hS) ?_);rintro _ w ⟨J2,cs,hJ2,rfl,hsv,hS⟩;obtain ⟨sa,sc,rfl,hq1,hq2⟩:=hsv;have hsv:SvAt J2 u (X16 u sa sc):=⟨sa,sc,rfl,hq1,hq2⟩
 refine .nil ?_;clear hH;have hH:∃ J9 R,Le I J9∧Sat B w J9 (blk b7 [S (Ul.nU s).1] 9::R):=⟨_,_,hJ2,(hS.pick 0 rfl)⟩
 refine ⟨fun _ _=>hH,?_⟩;refine .b1 10 (by kernel_rfl) rfl (.so hS (k:=1) rfl rfl rfl rfl X2b rfl (by simp) ?_);intro w hS;try simp only [Yh,Ye,Y9,Y7,Yg,Yn,Yd] at hS
 refine .nil ?_;clear hH;have hH:∃ J9 R,Le I J9∧Sat B w J9 (blk b7 [S (Ul.nU s).1] 9::R):=⟨_,_,hJ2,(hS.pick 0 rfl)⟩
 refine ⟨fun _ _=>hH,?_⟩;refine .tp (i:=11) rfl (by kernel_rfl) (fun w=>(.ao rfl)) rfl (.tp (i:=12) rfl (by kernel_rfl) (fun w=>(.ao rfl)) rfl (.done (by kernel_rfl) (.ret (Xes (b:=_) (cs:=[_,_,_,_,_,_,_,_]) Qr50 hS (k:=1) rfl Xfm X2b rfl rfl rfl rfl ?_))));exact ⟨_,rfl,J2,u,_,(Ul.nU s).1,0,hJ2,rfl,hsv,(by unfold X1r; rw [if_neg (by omega),if_neg (by omega),hfind]),((hS.drop (k:=0) rfl).drop (k:=0) rfl)⟩
theorem Xfh (pr:Addr) (lo:List Sv) (hlo:lo.length≤100000) (hrl:∀ s∈lo,s.rel.length≤1000000) (id:Int) (s:List UInt8) (hs:s.length≤1000000) (a:Option Addr) (cc:Nat) (E:List (List Value)) (B w:World) (I:Im) (hK:Known I) (hreg:At I pr [.slice a lo.length cc]) (hE:EntsIn I a E lo) (As:List X7) (hS:Sat B w I As) :
  Cz 51 [.pointer (some pr),I64 id,S s] w fun v w'=>v=.tuple #[S (X4r lo id s).1,.bool (X4r lo id s).2]∧Sat B w' I As:=by
 refine calls Tryz.func51 rfl Tryz.ntmps51 rfl (.seq (.region (.box1 hS (.of rfl) rfl rfl ?_)));intro b4 w hS;refine .q 2 rfl (.nil (.seq (.t 1 rfl (.call Tryz.func108 rfl (ec9 rfl X0) rfl (Xao s hs B _ I hK _ hS) ?_))));rintro _ w ⟨rfl,hS⟩;refine .q 5 rfl (.nil (.seq (.t 2 rfl ?_)));refine .val (.fi 0 rfl Xhf rfl rfl Xft rfl) rfl (.val (.ldI (.of rfl) hS (At.add hreg _) Xkw rfl) rfl (.val (.makeFunc (ec9 rfl X0)) rfl ?_));refine .call Xov rfl (ec9 rfl (ec9 rfl X0)) rfl (X44 a cc lo hlo (fun t=>t.id == id) 113 _ Tryz.func113 rfl [ptr b4 0] B _ I (blk b4 [I64 id] 3::As) (fun w h=>hE.now h) (fun t c ht w h=>by
  obtain ⟨ta,tc,tp,tq,Q,_,rfl,_,_,hQ,hpat,_⟩:=ht;exact Xkp t ta tc tp tq id b4 B w I _ h) hS) ?_
 rintro _ w ⟨rfl,hS⟩;refine .q 1 rfl (.nil (.seq (.seq (.region ?_))));have hi0:=X6f (fun t=>t.id == id) lo;rcases hi0 with ⟨hneg,hnone⟩ | ⟨j,u,hj,hu,hpu,hfind⟩
 ·have hd:decide (X2a (fun t=>t.id == id) lo 0<0)=true:=by rw [hneg]; rfl
  refine .vm rfl rfl (.q 2 rfl (.gm rfl rfl rfl rfl (.gval rfl rfl (fun hg1=>(.neq (.gd hg1 rfl) (.of rfl))) rfl (.val (.po rfl rfl rfl) rfl (.q 1 rfl (.gm rfl rfl rfl rfl (.gval rfl rfl (fun hg1=>(.len (.gd hg1 rfl) Qu9)) rfl (.gval rfl rfl (fun hg1=>(.gtr (.gd hg1 rfl) (.of rfl))) rfl (.val (.po rfl rfl rfl) rfl (.q 1 rfl (.gm rfl rfl rfl rfl ?_)))))))))));refine .gcall (T:=fun w=>Sat B w I (blk b4 [I64 id] 3::As)) rfl rfl rfl Qf90 rfl (fun hg1=>(X6 (.gd hg1 rfl) (ec9 rfl X0))) rfl (fun hg1=>X1q (X26 (Ul.nU s).1 _ w (by (try simp only [Y6] at hg1); omega) (by decide)) hS) hS ?_;rintro w hS;refine .gval rfl rfl (fun hg1=>(.not (.gd hg1 rfl))) rfl (.val (.po rfl rfl rfl) rfl (.q 1 rfl (.gval (v:=.bool false) rfl rfl (fun hg1=>absurd hg1 (by simp [hd])) rfl (.gval (v:=.bool false) rfl rfl (fun hg1=>absurd hg1 (by simp [hd])) rfl (.gval (v:=.bool false) rfl rfl (fun hg1=>absurd hg1 (by simp [hd])) rfl (.gval (v:=.bool false) rfl rfl (fun hg1=>absurd hg1 (by simp [hd])) rfl (.gval (v:=.bool false) rfl rfl (fun hg1=>absurd hg1 (by simp [hd])) rfl (.gval (v:=.bool false) rfl rfl (fun hg1=>absurd hg1 (by simp [hd])) rfl (.gval (v:=.bool false) rfl rfl (fun hg1=>absurd hg1 (by simp [hd])) rfl (.gval (v:=.bool false) rfl rfl (fun hg1=>absurd hg1 (by simp [hd])) rfl (.gval (v:=.bool false) rfl rfl (fun hg1=>absurd hg1 (by simp [hd])) rfl (.gval (v:=.bool false) rfl rfl (fun hg1=>absurd hg1 (by simp [hd])) rfl (.gval (v:=.bool false) rfl rfl (fun hg1=>absurd hg1 (by simp [hd])) rfl (.val (.po rfl rfl rfl) rfl (.nil ?_)))))))))))))));refine .cond rfl (fun hb50=>?_) fun hb50=>?_
  ·refine .seq (.q 2 rfl (.ret (X1e Qr51 rfl rfl ?_)));refine ⟨_,rfl,?_,hS.drop (k:=0) rfl⟩;unfold X4r;rw [hnone]
  refine .skip (.seq (.q 3 rfl (.ret (X1e Qr51 rfl rfl ?_))));exfalso
  rw [hd] at hb50;simp at hb50
 ·rw [hj];obtain ⟨p,c,rfl,hc,hx0,ra,rc,pp,qq,Q,T,rfl,hrc,hrr,hQ,hpQ,hT,hpT⟩:=hE.2 j u hu;have hjl:=(Y5.1 hu).1;have hsm:=hrl u (Yi hu);have hx:=hx0;refine .vm rfl rfl (.q 2 rfl (.gm rfl rfl rfl rfl (.gval rfl rfl (fun hg1=>(.neq (.gd hg1 rfl) (.of rfl))) rfl (.val (.po rfl rfl rfl) rfl (.q 1 rfl (.gm rfl rfl rfl rfl (.gval rfl rfl (fun hg1=>(.len (.gd hg1 rfl) Qu9)) rfl (.gval rfl rfl (fun hg1=>(.gtr (.gd hg1 rfl) (.of rfl))) rfl (.val (.po rfl rfl rfl) rfl (.q 1 rfl (.gm rfl rfl rfl rfl ?_)))))))))));refine .gcall (T:=fun w=>Sat B w I (blk b4 [I64 id] 3::As)) rfl rfl rfl Qf90 rfl (fun hg1=>(X6 (.gd hg1 rfl) (ec9 rfl X0))) rfl (fun hg1=>X1q (X26 (Ul.nU s).1 _ w (by (try simp only [Y6] at hg1); omega) (by decide)) hS) hS ?_;rintro w hS;refine .gval rfl rfl (fun hg1=>(.not (.gd hg1 rfl))) rfl (.val (.po rfl rfl rfl) rfl (.q 1 rfl (.gm rfl rfl rfl rfl (.gval rfl rfl (fun hg1=>(.nilCheck (.gd hg1 rfl))) rfl ?_))));refine .gval rfl rfl (fun hg1=>(by exact .fieldAddrI 0 (.gd hg1 rfl) Xhf rfl rfl Xft rfl)) rfl ?_;refine .gval rfl rfl (fun hg1=>(by exact (.ldI (.gd hg1 rfl) hS (At.add hreg _) Xkw rfl))) rfl ?_;refine .gm rfl rfl rfl rfl (.gval rfl rfl (fun hg1=>(by exact .indexAddrI (.gd hg1 rfl) (.gd hg1 rfl) (by (try simp only [Y6] at hg1); omega) (by (try simp only [Y6] at hg1); omega) X81 X3j)) rfl ?_);refine .gval rfl rfl (fun hg1=>(by exact .fieldAddrI 9 (.gd hg1 rfl) Xk9 rfl rfl Tryz.sizeOf158 rfl)) rfl ?_;refine .gval rfl rfl (fun hg1=>(by exact (.ldI (.gd hg1 rfl) hS (At.add hx _) Tryz.isAgg158 rfl))) rfl ?_;refine .gm rfl rfl rfl rfl (.gcall (T:=fun w=>Sat B w I (blk b4 [I64 id] 3::As)) rfl rfl rfl Tryz.func111 rfl (fun hg1=>(X6 (.gd hg1 rfl) (X6 (.gd hg1 rfl) X0))) rfl (fun hg1=>Xeb hT qq (Ul.nU s).1 (by (try simp only [Y6] at hg1); omega) B _ I _ hS hpT) hS ?_);rintro w hS;refine .gval rfl rfl (fun hg1=>(.not (.gd hg1 rfl))) rfl (.val (.po rfl rfl rfl) rfl (.nil ?_));refine .cond rfl (fun hb50=>?_) fun hb50=>?_
  ·refine .seq (.q 2 rfl (.ret (X1e Qr51 rfl rfl ?_)));refine ⟨_,rfl,?_,hS.drop (k:=0) rfl⟩;unfold X4r;rw [hfind];simp only
   rw [show decide ((j:Int)<0)=false from decide_eq_false (by omega),Y38] at hb50;rw [if_pos (by rw [Xcy hT]; exact hb50)]
  refine .skip (.seq (.q 3 rfl (.ret (X1e Qr51 rfl rfl ?_))));refine ⟨_,rfl,?_,hS.drop (k:=0) rfl⟩;unfold X4r;rw [hfind];simp only
  rw [show decide ((j:Int)<0)=false from decide_eq_false (by omega),Y38] at hb50;rw [if_neg (by rw [Xcy hT,Y1g]; exact hb50)];rfl
end Go.Proofs.YtfibbpgikjggfaaGreatDoor
namespace Go.Proofs.YtfibbpgikjggfaaGreatDoor
open Gk Ul Pc Tk Tr
theorem Ex.indexU {P:Program} {n:Nat} {L:Env} {w:World} {d:Option Nat} {ty t:TypeId} {pos:String} {af:Array Edge} {g:Option (Nat×Bool)} {x y:Operand} {l:List UInt8} {i:Nat} {c:UInt8} (hx:Ev n L x (S l)) (hy:Ev n L y (U64 i)) (hc:l[i]?=some c) (hT:P.underlying t=some .string):Ex P n L w ⟨d,.index t x y,ty,pos,af,g⟩ (U8 c.toNat) w :=
 fun a ha=>by
  have h1:i<l.length:=(Y5.1 hc).1;have h2:=(Y5.1 hc).2;have h3:0≤(i:Int)∧(i:Int)<((ByteArray.size ⟨l.toArray⟩:Nat):Int):=⟨by omega,by show (i:Int)<(l.length:Int); omega⟩
  have h:=run_index_string (P:=P) w t ⟨l.toArray⟩ .u64 i hT;rw [dif_pos h3] at h;have h4:(⟨l.toArray⟩:ByteArray)[((i:Nat):Int).toNat]'(by show ((i:Nat):Int).toNat<l.length; omega)=c:=h2;rw [h4] at h;simp [execOp,hx a ha,hy a ha,h]
theorem Ex.bytesStr {P:Program} {n:Nat} {L:Env} {B w:World} {I:Im} {As:List X7} {k:Nat} {ty:TypeId} {pos:String} {af:Array Edge} {g:Option (Nat×Bool)} {x:Operand} {d:Option Nat} {src dst E:TypeId} {b o cap m:Nat} {l:List UInt8} {cs:List Value} (hx:Ev n L x (.slice (some (ad b o)) m cap)) (hm:l.length=m) (hS:Sat B w I As) (hk:As[k]?=some (blk b cs E)) (hs:P.underlying src=some (.slice E)) (he:P.underlying E=some (.int .u8)) (hd:P.underlying dst=some .string)
  (hc:∀ j (hj:j<l.length),cs[o+j]?=some (U8 (l[j].toNat:Int))):Ex P n L w ⟨d,.convert src dst x,ty,pos,af,g⟩ (S l) w:=fun a ha=>by
 subst hm;have hb:=hS.block hk;have h:=run_convert_bytes_back (P:=P) w src dst E (ad b o) cap l hs he hd (fun j hj=>by rw [X13]; exact Xy hb (hc j hj));simp [execOp,hx a ha,h]
theorem Xsg (d i:Nat):((d:Nat):Int) / 2 ^ (4*(i:Int)).toNat=((d / 16 ^ i:Nat):Int):=by
 rw [show (4*(i:Int)).toNat=4*i by omega,show (16:Nat) ^ i=2 ^ (4*i) by rw [Nat.pow_mul],Int.natCast_ediv,Int.natCast_pow];rfl
theorem X9y (k:Int):(X39 k).length≤6:=by
 unfold X39;split
 ·simp
 ·rename_i h
  have:k=1∨k=2∨k=3∨k=4∨k=5∨k=6:=by omega
  rcases this with e | e | e | e | e | e <;> (subst e; decide)
def dg (n:Nat):UInt8:=if n<10 then UInt8.ofNat (48+n) else UInt8.ofNat (87+n)
theorem hex_dg {n:Nat} (h:n<16):HEXD[n]?=some (dg n):=(by decide:∀ n:Fin 16,HEXD[n.val]?=some (dg n.val)) ⟨n,h⟩
theorem Xap:∀ (k n:Nat),X49 (k+1) n=dg (n / 16 ^ k % 16)::X49 k n
 | 0,n=>by simp [X49,dg]
 | k+1,n=>by
  rw [X49,Xap k (n / 16),Y3d,← Nat.pow_succ',Ys,X49]
theorem Xmj {α:Type} (z v:α) (X:List α):∀ n:Nat,(List.replicate (n+1) z ++ X).set n v=List.replicate n z ++ v::X
 | 0=>rfl
 | n+1=>by
  rw [List.replicate_succ,Ys,Y3f,Xmj z v X n];rfl
def lay (i d:Nat):List Value:=List.replicate (16 - i) (U8 0) ++ bcs (X49 i d)
theorem Xuj {i d:Nat} (h:i≤16):(lay i d).length=16:=by
 unfold lay;rw [Y0,Y1z,Y10,X45]; omega
theorem Xua {i d:Nat} (h:i<16):(lay i d).set (15 - i) (U8 (dg (d / 16 ^ i % 16)).toNat)=lay (i+1) d:=by
 unfold lay;rw [show 16 - i=(15 - i)+1 by omega,Xmj,show 16 - (i+1)=15 - i by omega,Xap];rfl
theorem Xtr {d j:Nat} {D:List UInt8} (h:X49 16 d=D) (hj:j<D.length):(lay 16 d)[0+j]?=some (U8 (D[j].toNat:Int)):=by
 have e:lay 16 d=bcs D:=by unfold lay; rw [h]; rfl
 rw [e,Yd,Yy,Y4 hj];rfl
theorem Xnu (kind:Int) (d:Nat) (hd:d<18446744073709551616) (B w:World) (I:Im) (hP:PreAt I) (As:List X7) (hS:Sat B w I As) :
  Cz 159 [I64 kind,U64 (d:Nat)] w fun v w'=>v=(if X39 kind=[] then .tuple #[S [],I64 8] else .tuple #[S (X39 kind ++ 45::X49 16 d),I64 0])∧Sat B w' I As:=by
 refine calls Tryz.func159 rfl Tryz.ntmps159 rfl (.seq (.q 2 rfl (.seq (.t 1 rfl (.call Tryz.func158 rfl (ec9 rfl X0) rfl (Xbk kind B _ I hP _ hS) ?_)))));rintro _ w ⟨rfl,hS⟩;refine .q 1 rfl (.nil (.seq (.seq (.q 2 rfl ?_))));refine .cond rfl (fun hb12=>?_) fun hb12=>?_
 ·refine .seq (.q 2 rfl (.ret (X1e Tryz.results159 rfl rfl ?_)));exact ⟨_,rfl,by rw [if_pos (by simpa using hb12)],hS⟩
 have hc12:=hb12; simp only [Y6] at hc12;refine .skip (.seq (.region ?_));refine .make (l:=16) hS (.of rfl) (.of rfl) X25 X98 rfl (by simp [Tryz.t5] <;> omega) (by omega) rfl rfl rfl ?_;intro b13 w hS;refine .q 1 rfl (.nil (.seq (.seq ?_)));replace hS:Sat B w I (blk b13 (lay 0 d) 5::As):=hS;refine .region (.run 3 rfl ⟨⟨_,X25⟩,trivial⟩ (.nil (.block (.loop (σ:=Nat) (fun i=>[(1,U64 (d:Nat)),(6,S (X39 kind)),(7,.slice (some (ad b13 0)) 16 16),(15,I64 16),(16,I64 (i:Nat))]) (fun i w=>i≤16∧Sat B w I (blk b13 (lay i d) 5::As)) (fun i=>16 - i) 0 ⟨rfl,rfl,rfl,rfl,rfl,trivial⟩ ⟨Yo _,hS⟩ ?_))));rintro i w ⟨hi,hS⟩;refine .seq (.q 1 rfl (.seq ?_));refine .cond rfl (fun hb17=>?_) fun hb17=>?_
 ·have hc17:=hb17; simp only [Y6] at hc17;refine .skip (.seq (.block (.seq (.q 2 rfl (.region (.run 6 rfl ⟨⟨by omega,by omega⟩,⟨by omega,by omega⟩,trivial⟩ ?_))))));refine .val (.shr (.of rfl) (.of rfl) (by omega) (by show (4*(i:Int))≤64; omega)) rfl ?_;rw [Xsg d i];refine .val (.and64 (a:=d / 16 ^ i) (b:=15) (Y3u (Y55 _ _) hd) (by omega) (.of rfl) (.of rfl)) rfl ?_;rw [show (d / 16 ^ i) &&& 15=d / 16 ^ i % 16 from Nat.and_two_pow_sub_one_eq_mod _ 4];refine .val (Ex.indexU (l:=HEXD) (.of rfl) (.of rfl) (hex_dg (Y3c _ (by decide))) Qu9) rfl ?_;refine .val (.io rfl rfl (by omega) (by omega) X25 Qs5) rfl (.s1 hS (k:=0) rfl rfl rfl rfl Qs5 (by rw [Xuj hi]; omega) ?_);intro w hS;rw [show 0+(15 - (i:Int)).toNat*1=15 - i by omega,Xua (show i<16 by omega)] at hS;refine .nil (.region (.run 2 rfl ⟨⟨by omega,by omega⟩,trivial⟩ (.nil ?_)));refine ⟨i+1,⟨rfl,rfl,rfl,rfl,rfl,trivial⟩,⟨by (try dsimp only); omega,hS⟩,by (try dsimp only); omega⟩
 have hc17:=hb17; simp only [Y6] at hc17;refine .exit (.seq ?_);have h16:i=16:=by omega
 subst h16;have hpl:=X9y kind;have hdl:=X45 16 d;generalize hdg:X49 16 d=D at *;refine .region (.run 3 rfl ⟨by (try simp only [Y0,Y8,Yj]); omega,trivial⟩ (.val (Ex.bytesStr (l:=D) (o:=0) (.of rfl) hdl hS (k:=0) rfl X25 Qu5 Qu9 (fun j hj=>Xtr hdg hj)) rfl (.run 3 rfl ⟨by (try simp only [Y0,Y8,Yj]); omega,trivial⟩ (.nil (.ret (X1e Tryz.results159 rfl rfl ?_))))));exact ⟨_,rfl,by rw [if_neg (by simpa using hb12),Yf]; rfl,hS.drop (k:=0) rfl⟩
end Go.Proofs.YtfibbpgikjggfaaGreatDoor
namespace Gk
open Go
def X3i (E:TypeId) (v:Value) (xs:List Value):X7:=fun h =>
 (v=.slice none 0 0∧xs=[]∧h=[]) ∨
  (∃ g cs p,v=.slice (some p) 0 0∧xs=[]∧h=[(g,Xi cs E)])∨∃ g cap ys rest,v=.slice (some ⟨g,List.length ys,none⟩) xs.length cap∧h=[(g,Xi (ys ++ xs ++ rest) E)]∧xs.length≤cap∧cap≤maxLen∧xs.length+rest.length=cap
section
variable {P:Program} {B w w':World} {I:Im} {As:List X7} {k:Nat} {E:TypeId} {v:Value} {xs:List Value}
theorem Sat.vecoNil (hS:Sat B w I As) (E:Nat):Sat B w I (X3i E (.slice none 0 0) []::As):=by
 obtain ⟨h,hs,hg⟩:=hS;exact ⟨h,⟨[],h,rfl,.inl ⟨rfl,rfl,rfl⟩,hs⟩,hg⟩
theorem Sat.vecoSlice (hS:Sat B w I As) (hk:As[k]?=some (X3i E v xs)):∃ a c,v=.slice a xs.length c∧xs.length≤c∧(xs≠[]→∃ p,a=some p) :=
 hS.pure_ hk fun _ hh=>by
  rcases hh with ⟨rfl,rfl,_⟩ | ⟨_,_,p,rfl,rfl,_⟩ | ⟨g,cap,ys,rest,rfl,_,h3,_⟩
  ·exact ⟨none,0,rfl,Yu _,fun h=>absurd rfl h⟩
  ·exact ⟨some p,0,rfl,Yu _,fun h=>absurd rfl h⟩
  ·exact ⟨_,_,rfl,h3,fun _=>⟨_,rfl⟩⟩
theorem Sat.vecoCons {x:Value} (hS:Sat B w I As) (hk:As[k]?=some (X3i E v (x::xs))):∃ g off c,v=.slice (some ⟨g,off,none⟩) (xs.length+1) c∧xs.length+1≤c :=
 hS.pure_ hk fun _ hh=>by
  rcases hh with ⟨_,h,_⟩ | ⟨_,_,_,_,h,_⟩ | ⟨g,cap,ys,rest,rfl,_,h3,_⟩
  ·cases h
  ·cases h
  ·exact ⟨_,_,_,rfl,h3⟩
theorem Sat.vecoAt {p:Addr} {m c:Nat} (hS:Sat B w I As) (hk:As[k]?=some (X3i E (.slice (some p) m c) xs)) {j:Nat} {u:Value} (hu:xs[j]?=some u):w.cell? (p.add j)=some u:=by
 obtain ⟨g,hs,hg⟩:=hS;obtain ⟨h1,h2,hp,ha,hset,_⟩:=hs.at_ hk;rcases ha with ⟨hv,_⟩ | ⟨_,_,_,_,h,_⟩ | ⟨b,cap,ys,rest,hv,rfl,h3,h4,h5⟩
 ·cases hv
 ·subst h; simp at hu
 ·injection hv with hv1 hv2 hv3
  injection hv1 with hv1
  subst hv1;have hb:w.heap[b]?=some (Xi (ys ++ xs ++ rest) E):=(hg.perm hp).own b _ (by simp);rw [show (⟨b,ys.length,none⟩:Addr).add j=ad b (ys.length+j) from X13 b ys.length j];refine Xy hb ?_;have hj:=(Y5.1 hu).1;rw [Yf,Yw (by omega),Y2j,Yk hj];exact hu
theorem Sat.vecoCut {g off n c:Nat} {x:Value} (hS:Sat B w I As) (hk:As[k]?=some (X3i E (.slice (some ⟨g,off,none⟩) n c) (x::xs))):Sat B w I (As.set k (X3i E (sliced (some ⟨g,off,none⟩) 1 n c 1) xs)) :=
 hS.say hk fun _ hh=>by
  rcases hh with ⟨hv,_⟩ | ⟨_,_,_,_,h,_⟩ | ⟨b,cap,ys,rest,hv,rfl,h3,h4,h5⟩
  ·cases hv
  ·cases h
  ·injection hv with hv1 hv2 hv3
   injection hv1 with hv1
   injection hv1 with hv1 hv4
   subst hv1; subst hv3; subst hv4;simp only [Y8] at h3 h5 hv2
   by_cases h0:c=1
   ·have e:xs=[]:=Yl (by omega);subst e;refine .inr <| .inl ⟨g,_,⟨g,ys.length,none⟩,?_,rfl,rfl⟩;unfold sliced;rw [if_pos h0,hv2,h0];rfl
   ·refine .inr <| .inr ⟨g,c - 1,ys ++ [x],rest,?_,by simp,by omega,by omega,by omega⟩;unfold sliced;rw [if_neg h0,hv2,Y0];rfl
theorem X8v (w:World) (t ty e:TypeId) (i:TypeInfo) (ht:P.underlying t=some (.slice e)) (hi:P.info? e=some i)
  (g off sLen sCap:Nat) (cur:Array Value) (hg:w.heap[g]?=some (.cells cur e (0,0)))
  (a:Addr) (m c:Nat) (news:List Value) (hl:news.length=m*i.size) (hnews:∀ j u,news[j]?=some u→w.cell? (a.add j)=some u) (h1:∀ u∈news,u.oneCell'=true)
  (hroom:sLen+m≤sCap) (hfit:off+sLen*i.size+news.length≤cur.size) :
  (Builtin.append_ #[t,t] ty #[.slice (some ⟨g,off,none⟩) sLen sCap,.slice (some a) m c]).run P w =
   .ok (.slice (some ⟨g,off,none⟩) (sLen+m) sCap) (w.setRow g (cur.toList.take (off+sLen*i.size) ++ news ++ cur.toList.drop (off+sLen*i.size+news.length)).toArray):=by
 have hf:=run_firstCells_some (P:=P) w i.size m a m c news hl hnews;have hst:=run_storeCells_at P g (off+sLen*i.size) e news 0 cur w hg (by simpa using hfit) h1;simp only [Y2c] at hst
 simp [Builtin.append_,run_underlying ht,Go.sizeOf,typeInfo,hi,Builtin.lenOf,hroom,hf,Addr.add_lit,hst]
theorem zc_len (z:Array Value) (hz:z.size=1) (n:Nat):(Builtin.zeroCells z n).toList.length=n:=by rw [Y37,size_zeroCells,hz,Y1i]
theorem X9c (hS:Sat B w I As) {t ty:TypeId} {i:TypeInfo} {z:Value} {bytes:Nat} (ht:P.underlying t=some (.slice E)) (hi:P.info? E=some i) (hz:i.zero=some z)
  (hsize:i.size=1) (hby:i.bytes=bytes) (hzs:z.cells.size=1) (hk:As[k]?=some (X3i E v xs)) {p:Addr} {m c:Nat} {news:List Value} (hl:news.length=m) (hm:0<m)
  (hnews:∀ j u,news[j]?=some u→w.cell? (p.add j)=some u) (h1:∀ u∈news,u.oneCell'=true) (h63:xs.length+m≤maxLen) (hbytes:(xs.length+m)*bytes≤140737488355328) :
  ∃ v' w',(Builtin.append_ #[t,t] ty #[v,.slice (some p) m c]).run P w=.ok v' w'∧Sat B w' I (As.set k (X3i E v' (xs ++ news))):=by
 subst hby;have hlk:k<As.length:=(Y5.1 hk).1;have hsmall:xs.length+m≤9223372036854775807:=by simp only [maxLen] at h63; omega
 have fresh:∀ (xs:List Value) (old:Nat),xs.length+m≤maxLen→∀ (As':List X7),Sat B w I As'→k<As'.length→Sat B (w.drew.alloc (.cells (xs.toArray ++ news.toArray ++ Builtin.zeroCells z.cells (grownCap w (xs.length+m) old E - (xs.length+m))) E)) I
   (As'.set k (X3i E (.slice (some ⟨w.heap.size,0,none⟩) (xs.length+m) (grownCap w (xs.length+m) old E)) (xs ++ news))):=by
  intro xs old h63 As' hS hlk;obtain ⟨A0,hk⟩:∃ A0,As'[k]?=some A0:=⟨_,Y4 hlk⟩
  have hge:=grownCap_ge w (xs.length+m) old E;have hcm:grownCap w (xs.length+m) old E≤maxLen:=grownCap_le_maxLen w (xs.length+m) old E h63;have hS2:=hS.drew.alloc (.cells (xs.toArray ++ news.toArray ++ Builtin.zeroCells z.cells (grownCap w (xs.length+m) old E - (xs.length+m))) E);have e1:(own w.drew.heap.size (.cells (xs.toArray ++ news.toArray ++ Builtin.zeroCells z.cells (grownCap w (xs.length+m) old E - (xs.length+m))) E))=blk w.heap.size ((xs ++ news) ++ (Builtin.zeroCells z.cells (grownCap w (xs.length+m) old E - (xs.length+m))).toList) E:=by
   unfold blk Xi
   congr 2
   apply Array.ext'
   simp
  rw [e1] at hS2;have hS3:=hS2.say (k:=0) (A':=X3i E (.slice (some ⟨w.heap.size,0,none⟩) (xs.length+m) (grownCap w (xs.length+m) old E)) (xs ++ news)) rfl (fun _ hh=>.inr <| .inr ⟨w.heap.size,_,[],_,by rw [Y0,hl]; rfl,by rw [Ye]; exact hh,by rw [Y0,hl]; exact hge,hcm,by
   rw [Y0,hl,zc_len _ hzs]; omega⟩)
  obtain ⟨h,hs,hg⟩:=hS3;obtain ⟨q1,q2,rfl,hq1,hq2⟩:=hs;obtain ⟨h1',h2',hp,_,hset,_⟩:=SepAll.at_ hk hq2;obtain ⟨h',hs',hp'⟩:=hset _ q1 hq1;have g:=hg.perm (hp.append_left q1)
  have:(q1 ++ (h1' ++ h2')).Perm ((q1 ++ h2') ++ h1'):=by
   rw [Yf];exact (Y1l).append_left q1
  exact ⟨h',hs',(g.perm this).left.perm hp'.symm⟩
 obtain ⟨g,hs,hg⟩:=hS;obtain ⟨h1',h2',hp,ha,hset,_⟩:=hs.at_ hk;rcases ha with ⟨rfl,rfl,_⟩ | ⟨_,_,q,rfl,rfl,_⟩ | ⟨b,cap,ys,rest,rfl,rfl,h3,h4,h5⟩
 ·have hr:=run_append_nil (P:=P) w t ty E i z ht hi hz p m c news (by rw [hsize,hl,Y1i]) hnews hm (by simp only [Yj,Yd] at hsmall; omega) (by have hb:=hbytes; simp only [Yj,Yd] at hb; omega);have hgr:=fresh [] 0 (by simpa using h63) As ⟨g,hs,hg⟩ hlk;simp only [Yj,Yd,Ye,Y4n] at hgr ⊢
  exact ⟨_,_,hr,hgr⟩
 ·have hr:=run_append_grow (P:=P) w t ty E i z ht hi hz q 0 0 [] (by simp) (fun j u hu=>by simp at hu) p m c news (by rw [hsize,hl,Y1i]) hnews (by omega) (by simp only [Yj,Yd] at hsmall; omega) (growslice_fits (by omega) (by simpa using hbytes));have hgr:=fresh [] 0 (by simpa using h63) As ⟨g,hs,hg⟩ hlk;simp only [Yj,Yd,Ye,Y4n] at hgr hr ⊢
  exact ⟨_,_,hr,hgr⟩
 ·obtain ⟨h',hs',hp'⟩:=hset (blk b (ys ++ xs ++ rest) E) _ rfl;have hSo:Sat B w I (As.set k (blk b (ys ++ xs ++ rest) E)):=⟨h',hs',hg.perm (hp.trans hp'.symm)⟩
  have hko:(As.set k (blk b (ys ++ xs ++ rest) E))[k]?=some (blk b (ys ++ xs ++ rest) E):=by simp [hlk]
  have hblk:=hSo.block hko
  by_cases hroom:xs.length+m≤cap
  ·have hr:=X8v (P:=P) w t ty E i ht hi b ys.length xs.length cap (ys ++ xs ++ rest).toArray hblk p m c news (by rw [hsize,hl,Y1i]) hnews h1 hroom (by
    simp only [Y3z,Y0,hsize]; omega)
   have e2:((ys ++ xs ++ rest).take (ys.length+xs.length*i.size) ++ news ++ (ys ++ xs ++ rest).drop (ys.length+xs.length*i.size+news.length)).toArray=(ys ++ (xs ++ news) ++ rest.drop news.length).toArray:=by
    rw [hsize,Y1i,← Y0,Y30,Y51,Y17 (by omega:(ys ++ xs).length≤(ys ++ xs).length+news.length)]
    simp
   rw [e2] at hr;refine ⟨_,_,hr,?_⟩;have hw:=hSo.write (w':=w.setRow b (ys ++ (xs ++ news) ++ rest.drop news.length).toArray) (o':=Xi (ys ++ (xs ++ news) ++ rest.drop news.length) E) hko rfl rfl rfl (setRow_heap w b _ _ E _ hblk) (fun x hx=>setRow_other w b x _ hx);have hsh:=hw.say (k:=k) (A:=own b (Xi (ys ++ (xs ++ news) ++ rest.drop news.length) E)) (A':=X3i E (.slice (some ⟨b,ys.length,none⟩) (xs.length+m) cap) (xs ++ news)) (by simp [hlk]) (fun _ hh=>.inr <| .inr ⟨b,cap,ys,rest.drop news.length,by rw [Y0,hl],hh,by rw [Y0,hl]; exact hroom,h4,by
    rw [Y0,Yp]; omega⟩)
   simpa using hsh
  ·have holds:∀ j u,xs[j]?=some u→w.cell? ((⟨b,ys.length,none⟩:Addr).add j)=some u:=fun j u hu=>by
    rw [show (⟨b,ys.length,none⟩:Addr).add j=ad b (ys.length+j) from X13 b ys.length j];refine Xy hblk ?_;have hj:=(Y5.1 hu).1;rw [Yf,Yw (by omega),Y2j,Yk hj];exact hu
   have hr:=run_append_grow (P:=P) w t ty E i z ht hi hz ⟨b,ys.length,none⟩ xs.length cap xs (by rw [hsize,Y1i]) holds p m c news (by rw [hsize,hl,Y1i]) hnews (by omega) (by omega) (growslice_fits (by omega) hbytes);exact ⟨_,_,hr,fresh xs cap h63 As ⟨g,hs,hg⟩ hlk⟩
theorem WL.appendO {n d:Nat} {K:X36} {L:Env} {ops:Array Oper} {rest:List Oper} {ty:TypeId} {pos:String} {af:Array Edge} {t:TypeId} {x y:Operand} {m c:Nat} {a:Option Addr} {news:List Value} {i:TypeInfo} {z:Value} {bytes:Nat} (hS:Sat B w I As) (hx:Ev n L x v) (hy:Ev n L y (.slice a m c)) (hr:RS I a 1 m news)
  (hk:As[k]?=some (X3i E v xs)) (ht:P.underlying t=some (.slice E)) (hi:P.info? E=some i) (hz:i.zero=some z) (hsize:i.size=1) (hby:i.bytes=bytes) (hzs:z.cells.size=1)
  (h1:news.all Value.oneCell'=true) (h63:(xs.length+m)*bytes≤140737488355328∧xs.length+m≤maxLen) (hd:Nat.blt d n=true)
  (h:∀ v' w',Sat B w' I (As.set k (X3i E v' (xs ++ news)))→WL P n ops K rest ((d,v')::L) w') :
  WL P n ops K (⟨some d,.call ⟨.builtin .append,#[x,y],#[t,t]⟩,ty,pos,af,none⟩::rest) L w:=by
 rcases Y1r m with h0 | h0
 ·subst h0;have hy0:news=[]:=Yl (by simpa using hr.1);subst hy0;obtain ⟨a0,c0,rfl,hc0,_⟩:=hS.vecoSlice hk;have hr:(Builtin.append_ #[t,t] ty #[.slice a0 xs.length c0,.slice a 0 c]).run P w=.ok (.slice a0 xs.length c0) w:=by
   cases a0 <;> cases a <;> simp [Builtin.append_,run_underlying ht,Go.sizeOf,typeInfo,hi,Builtin.lenOf,Builtin.firstCells,loadCells,loadCellsFrom,storeCells,hc0]
  have hlk:k<As.length:=(Y5.1 hk).1;have h2:=h (.slice a0 xs.length c0) w (by
   have:As.set k (X3i E (.slice a0 xs.length c0) (xs ++ []))=As:=by
    rw [Y9]
    have:=(Y5.1 hk).2
    rw [← this,Y43]
   rw [this]; exact hS)
  refine .val (v:=.slice a0 xs.length c0) (w':=w) (fun a ha=>?_) hd h2;simp [execOp,resolve,invoke,builtin,hx a ha,hy a ha,hr]
 ·obtain ⟨p,rfl,hA⟩:=hr.2 h0;obtain ⟨v',w',hr',hS'⟩:=X9c (P:=P) (ty:=ty) hS ht hi hz hsize hby hzs hk (p:=p) (m:=m) (c:=c) (by have:=hr.1; omega) h0 (fun j u hu=>X2c hS hA hu) (Y1b.1 h1) h63.2 h63.1
  refine .val (v:=v') (w':=w') (fun a ha=>?_) hd (h _ _ hS');simp [execOp,resolve,invoke,builtin,hx a ha,hy a ha,hr']
end
end Gk
namespace Go.Proofs.YtfibbpgikjggfaaGreatDoor
open Gk Ul Pc Tk Tr
theorem Xkf:Bld Tryz.prog 111 [(0,1)] [.slice none 0 0]:=X2n Xfe Tryz.zeroValue111 (fun w=>by simp [go_sem])
theorem Xok (mb:Nat) (ma:Option Addr) (mc:Nat) (D:List Nat) (B w:World) (I:Im) (As:List X7) (hS:Sat B w I (blk mb [.slice ma D.length mc] 111::X3i 104 (.slice ma D.length mc) (D.map fun d=>U64 (d:Nat))::As)) :
  Cz 35 [ptr mb 0] w fun v w'=>v=I64 (D.length:Nat)∧Sat B w' I (blk mb [.slice ma D.length mc] 111::X3i 104 (.slice ma D.length mc) (D.map fun d=>U64 (d:Nat))::As):=by
 refine calls Tryz.func35 rfl Tryz.ntmps35 rfl (.seq (.q 1 rfl (.seq (.t 2 rfl ?_))));refine .val (.fo 0 rfl Xfe rfl rfl Xb8 rfl) rfl (.val (.lo rfl hS (k:=0) rfl Xjx rfl) rfl (.run 2 rfl ⟨⟨_,Xfn⟩,trivial⟩ (.nil (.ret (X9 Tryz.results35 rfl ?_)))));exact ⟨_,rfl,rfl,hS⟩
theorem Xgf (l:List Nat):(l.map fun d=>U64 (d:Nat)).all Value.oneCell'=true:=by
 rw [List.all_map];exact Y1b.2 fun _ _=>rfl
theorem Xhi (mb:Nat) (ma:Option Addr) (mc:Nat) (D:List Nat) (hD:D.length≤1000000) (a:Option Addr) (c:Nat) (l:List Nat) (hl:l.length≤1000000) (B w:World) (I:Im) (hr:RS I a 1 l.length (l.map fun d=>U64 (d:Nat))) (As:List X7) (hS:Sat B w I (blk mb [.slice ma D.length mc] 111::X3i 104 (.slice ma D.length mc) (D.map fun d=>U64 (d:Nat))::As)) :
  Cz 11 [ptr mb 0,.slice a l.length c] w fun v w'=>v=.tuple #[]∧∃ a c,Sat B w' I (blk mb [.slice a (D ++ l).length c] 111::X3i 104 (.slice a (D ++ l).length c) ((D ++ l).map fun d=>U64 (d:Nat))::As):=by
 refine calls Tryz.func11 rfl Tryz.ntmps11 rfl (.t 3 rfl ?_);refine .val (.fo 0 rfl Xfe rfl rfl Xb8 rfl) rfl (.val (.lo rfl hS (k:=0) rfl Xjx rfl) rfl (.q 1 rfl ?_));refine WL.appendO (bytes:=8) hS (.of rfl) (.of rfl) hr (k:=1) rfl Xfn (i:=Tryz.t104) (by kernel_rfl) rfl rfl rfl rfl (Xgf l) ⟨by rw [Y10]; omega,by rw [Y10]; unfold maxLen; omega⟩ rfl ?_;intro v10 w hS;obtain ⟨a10,c10,rfl,hc10,_⟩:=hS.vecoSlice (k:=1) rfl;refine .q 1 rfl (.val (.fo 0 rfl Xfe rfl rfl Xb8 rfl) rfl (.s1 hS (k:=0) rfl rfl rfl rfl Xb8 (by simp) ?_));intro w hS;refine .nil (X7n Tryz.results11 ?_);refine ⟨_,rfl,rfl,a10,c10,?_⟩;rw [← Yv,Y10] at hS;exact hS
theorem Xj7 (B w:World) (I:Im) (As:List X7) (hS:Sat B w I As) :
  Cz 153 [.slice none 0 0] w fun v w'=>v=.slice none 0 0∧Sat B w' I As:=by
 refine calls Tryz.func153 rfl Tryz.ntmps153 rfl (.seq (.q 1 rfl (.seq (.seq (.t 1 rfl (.val (Ex.slNil (.of rfl) (.of rfl) Xfn) rfl (.nil (.condT (rfl) (.seq (.q 1 rfl (.ret (X9 Tryz.results153 rfl ?_))))))))))));exact ⟨_,rfl,rfl,hS⟩
theorem Xfr (B w:World) (I:Im) (As:List X7) (hS:Sat B w I As) :
  Cz 106 [.slice none 0 0] w fun v w'=>∃ mb,v=ptr mb 0∧Sat B w' I (blk mb [.slice none (([]:List Nat)).length 0] 111::X3i 104 (.slice none (([]:List Nat)).length 0) ((([]:List Nat)).map fun d=>U64 (d:Nat))::As):=by
 refine calls Tryz.func106 rfl Tryz.ntmps106 rfl (.seq (.q 1 rfl (.seq (.t 1 rfl (.call Tryz.func153 rfl (ec9 rfl X0) rfl (Xj7 B _ I _ hS) ?_)))));rintro _ w ⟨rfl,hS⟩;refine .val (.build (cs:=[_]) (pc9 rfl X4) Xkf rfl) rfl (.boxA (cs:=[_]) hS (.of rfl) rfl ?_);intro b6 w hS;refine .q 1 rfl (.nil (.ret (X9 Tryz.results106 rfl ?_)));exact ⟨_,rfl,_,rfl,(hS.vecoNil 104).pick 1 rfl⟩
def X37 (pr:List UInt8→Bool) (kind:Int) (D:List Nat):(List UInt8×Nat)×List Nat :=
 if X39 kind=[] then (([],8),D) else match D with
 | []=>(([],6),[])
 | d::D=>if pr (X39 kind ++ 45::X49 16 d) then (([],7),D) else ((X39 kind ++ 45::X49 16 d,0),D)
theorem Xps (mb:Nat) (ma:Option Addr) (mc:Nat) (D:List Nat) (hD:∀ d∈D,d<18446744073709551616) (kind:Int) (pr:List UInt8→Bool) (fid:FuncId) (fn:Func) (hfn:Tryz.prog.funcs[fid]?=some fn) (hcal:Xh fn=true) (capv:List Value) (B w:World) (I:Im) (hP:PreAt I) (As:List X7) (hf:∀ (M:List X7) (s:List UInt8) w,Sat B w I (M ++ As)→Calls Tryz.prog fid ([S s] ++ capv).toArray w (Ret fun v w'=>v=.bool (pr s)∧Sat B w' I (M ++ As))) (hS:Sat B w I (blk mb [.slice ma D.length mc] 111::X3i 104 (.slice ma D.length mc) (D.map fun d=>U64 (d:Nat))::As)) :
  Cz 114 [ptr mb 0,I64 kind,.func (.func fid) #[] capv.toArray] w fun v w'=>v=.tuple #[S (X37 pr kind D).1.1,I64 ((X37 pr kind D).1.2:Nat)]∧∃ a c,Sat B w' I (blk mb [.slice a ((X37 pr kind D).2).length c] 111::X3i 104 (.slice a ((X37 pr kind D).2).length c) (((X37 pr kind D).2).map fun d=>U64 (d:Nat))::As):=by
 refine calls Tryz.func114 rfl Tryz.ntmps114 rfl (.seq (.q 2 rfl (.seq (.block (.seq (.t 1 rfl (.call Tryz.func158 rfl (ec9 rfl X0) rfl (Xbk kind B _ I hP _ hS) ?_)))))));rintro _ w ⟨rfl,hS⟩;refine .q 2 rfl (.nil ?_);refine .cond rfl (fun hb10=>?_) fun hb10=>?_
 ·refine .seq (.q 2 rfl (.ret (X1e Xqo rfl rfl ?_)));have e:X37 pr kind D=(([],8),D):=by unfold X37; rw [if_pos (by simpa using hb10)]
  rw [e];exact ⟨_,rfl,rfl,ma,mc,hS⟩
 refine .seq (.t 2 rfl ?_);refine .val (.fo 0 rfl Xfe rfl rfl Xb8 rfl) rfl (.val (.lo rfl hS (k:=0) rfl Xjx rfl) rfl (.run 3 rfl ⟨⟨_,Xfn⟩,trivial⟩ (.nil ?_)));refine .cond rfl (fun hb14=>?_) fun hb14=>?_
 ·refine .seq (.q 2 rfl (.ret (X1e Xqo rfl rfl ?_)));obtain rfl:D=[]:=by
   cases D with
   | nil=>rfl
   | cons d D=>exfalso; simp at hb14; omega
  have e:X37 pr kind []=(([],6),[]):=by unfold X37; rw [if_neg (by simpa using hb10)]
  rw [e];exact ⟨_,rfl,rfl,ma,mc,hS⟩
 refine .skip (.seq ?_);have hk0:¬ X39 kind=[]:=by simpa using hb10
 obtain ⟨d,D,rfl⟩:∃ d D',D=d::D':=by
  cases D with
  | nil=>simp at hb14
  | cons d D'=>exact ⟨d,D',rfl⟩
 obtain ⟨mg,mo,mc2,hv,hmc⟩:=hS.vecoCons (k:=1) rfl;injection hv with hv1 hv2 hv3
 subst hv1; subst hv3;have hx:=hS.vecoAt (k:=1) rfl (j:=0) (u:=U64 (d:Nat)) rfl;simp only [Y10] at hmc
 refine .t 3 rfl (.val (.fo 0 rfl Xfe rfl rfl Xb8 rfl) rfl (.val (.lo rfl hS (k:=0) rfl Xjx rfl) rfl (.val (.io rfl rfl (by omega) (by omega) Xfn Xha) rfl (.val (ldC (.of rfl) hx Tryz.isAgg104) rfl (.call Tryz.func159 rfl (ec9 rfl (ec9 rfl X0)) rfl (Xnu kind d (hD d (by simp)) B _ I hP _ hS) ?_)))));rintro _ w ⟨rfl,hS⟩;rw [if_neg hk0];refine .q 5 rfl (.nil (.seq (.t 3 rfl ?_)));refine .val (.fo 0 rfl Xfe rfl rfl Xb8 rfl) rfl (.val (.lo rfl hS (k:=0) rfl Xjx rfl) rfl (.val (.slcFrom (s:=1) (.of rfl) (.of rfl) (by omega) (by simp only [Y8]; omega) Xfn Xha) rfl ?_));replace hS:=hS.vecoCut (k:=1) rfl;refine .q 1 rfl (.val (.fo 0 rfl Xfe rfl rfl Xb8 rfl) rfl (.s1 hS (k:=0) rfl rfl rfl rfl Xb8 (by simp) ?_));intro w hS;refine .nil (.seq (.seq (.t 2 rfl (.vcall (cap:=capv) hfn hcal (.of rfl) (ec9 rfl X0) rfl (hf [_,_] _ w hS) ?_))));rintro _ w ⟨rfl,hS⟩;refine .nil (.cond rfl (fun hb42=>?_) fun hb42=>?_)
 ·refine .seq (.q 2 rfl (.ret (X1e Xqo rfl rfl ?_)));have e:X37 pr kind (d::D)=(([],7),D):=by unfold X37; rw [if_neg hk0]; exact if_pos hb42
  rw [e];exact ⟨_,rfl,rfl,_,_,hS⟩
 refine .skip (.seq (.q 3 rfl (.ret (X1e Xqo rfl rfl ?_))));have e:X37 pr kind (d::D)=((X39 kind ++ 45::X49 16 d,0),D):=by unfold X37; rw [if_neg hk0]; exact if_neg (by rw [hb42]; decide)
 rw [e];exact ⟨_,rfl,rfl,_,_,hS⟩
def psL (p:Nat→Int):List Int:=[p 0,p 1,p 2,p 3,p 4,p 5,p 6,p 7,p 8,p 9,p 10,p 11,p 12,p 13,p 14,p 15,p 16,p 17,p 18,p 19,p 20]
structure Wp where
 wb:Nat
 tb:Nat
 mb:Nat
 ub:Nat
 pr:Addr
 lo:List Sv
 us:List Us
 ps:Nat→Int
structure Wd where
 room:Int
 l:List Rec
 D:List Nat
 now:Int
def wdC (p:Wp) (ω:Wd):List Value:=ptr p.tb 0::ptr p.mb 0::.pointer (some p.pr)::ptr p.ub 0::((psL p.ps).map I64 ++ [I64 ω.now])
def wdT (p:Wp) (ω:Wd):Option Addr×Nat×Option Addr×Nat→List X7:=fun ⟨a,c,ma,mc⟩=>[blk p.wb (wdC p ω) 44,blk p.tb [I64 ω.room,.slice a ω.l.length c] 114,Vec 54 10 (.slice a ω.l.length c) ω.l.length (Xe ω.l),blk p.mb [.slice ma ω.D.length mc] 111,X3i 104 (.slice ma ω.D.length mc) (ω.D.map fun d=>U64 (d:Nat))]
def wdA (p:Wp) (ω:Wd):X7:=Box (wdT p ω)
structure WpOk (I:Im) (p:Wp):Prop where
 reg:RegAt I p.pr p.lo
 tab:TabAt I p.ub p.us
 lo:p.lo.length≤100000
 rel:∀ s∈p.lo,s.rel.length≤1000000
 fit:∀ u∈p.us,u.fits
 att:∀ u∈p.us,u.attrs.length≤8
 known:Known I
 pre:PreAt I
theorem RegAt.mono {I J:Im} {pr:Addr} {lo:List Sv} (h:RegAt I pr lo) (hl:Le I J):RegAt J pr lo:=by
 obtain ⟨a,c,E,h1,h2,h3⟩:=h;exact ⟨a,c,E,h1.mono hl,h2,h3.mono hl⟩
theorem WpOk.mono {I J:Im} {p:Wp} (h:WpOk I p) (hl:Le I J):WpOk J p:=⟨h.reg.mono hl,h.tab.mono hl,h.lo,h.rel,h.fit,h.att,h.known.mono hl,h.pre.mono hl⟩
structure X3n (ω:Wd):Prop where
 len:ω.l.length≤64
 wf:Wf ω.l
 D:∀ d∈ω.D,d<18446744073709551616
 now:0≤ω.now∧ω.now≤1099511627776
 room:ω.room≤64
theorem Sat.swap {B w:World} {I:Im} {M As:List X7} (hS:Sat B w I (M ++ As)):Sat B w I (As ++ M):=by
 obtain ⟨h,hs,hg⟩:=hS;obtain ⟨h1,h2,rfl,h3,h4⟩:=SepAll.app.1 hs;exact ⟨h2 ++ h1,SepAll.app.2 ⟨h2,h1,rfl,h4,h3⟩,hg.perm Y1l⟩
def Xau (n:Int):Bool:=decide (n<0) || decide (1099511627776<n)
def iC (n:Int):List Value:=[I64 n]
def X6w (p:Nat→Int):Bool:=(!((psL p).take 7).any Xau && !(((psL p).drop 7).take 7).any Xau) && !((psL p).drop 14).any Xau
theorem Xck {B w:World} {I:Im} {As:List X7} {k b E:Nat} {cs:List Value} {o:Nat} {l:List Int} (hS:Sat B w I As) (hk:As[k]?=some (blk b cs E)) (h:∀ (i:Nat) n,l[i]?=some n→cs[o+i]?=some (I64 n)):Xb2 w iC 1 (some (ad b o)) l:=fun i n hn=>by
 refine ⟨_,rfl,fun j v hj=>?_⟩;have hb:=hS.block (b:=b) (o:=Xi cs E) hk
 match j,hj with
 | 0,hj =>
  cases hj
  rw [X13,X13];refine Xy hb ?_;rw [Y1i];exact h i n hn
 | j+1,hj=>simp [iC] at hj
theorem Xba (a:Option Addr) (cap:Nat) (l:List (Int)) (hln:l.length≤9223372036854775807) (pr:Int→Bool) (fid:FuncId) (fn:Func) (hfn:Tryz.prog.funcs[fid]?=some fn) (hcal:Xh fn=true) (capv:List Value) (B w:World) (I:Im) (As:List X7) (hE:∀ w,Sat B w I As→Xb2 w iC 1 a l) (hf:∀ (r:Int) (hr:r∈l) w,Sat B w I As→Calls Tryz.prog fid ([I64 r] ++ capv).toArray w (Ret fun v w'=>v=.bool (pr r)∧Sat B w' I As)) (hS:Sat B w I As) :
  Cz 198 [.slice a l.length cap,.func (.func fid) #[] capv.toArray] w fun v w'=>v=I64 (X24 pr l 0)∧Sat B w' I As:=by
 refine calls Tryz.func198 rfl Tryz.ntmps198 rfl (.seq (.q 1 rfl (.seq (.seq (.region (.run 3 rfl ⟨⟨_,Xd⟩,trivial⟩ (.nil (.block (.loop (σ:=Nat) (fun i=>[(0,.slice a l.length cap),(1,.func (.func fid) #[] capv.toArray),(7,I64 (l.length:Nat)),(8,I64 (i:Nat))]) (fun i w=>i≤l.length∧(∀ (j:Nat) t,j<i→l[j]?=some t→pr t=false)∧Sat B w I As) (fun i=>l.length - i) 0 ⟨rfl,rfl,rfl,rfl,trivial⟩ ⟨Yo _,fun _ _ h=>absurd h (by omega),hS⟩ ?_)))))))));rintro i w ⟨hi,hno,hS⟩;refine .seq (.q 1 rfl (.seq ?_));refine .cond rfl (fun hb9=>?_) fun hb9=>?_
 ·have hc9:=hb9; try simp only [Y6] at hc9
  refine .skip (.seq (.block (.seq ?_)));obtain ⟨r,hr⟩:∃ r,l[i]?=some r:=⟨_,Y4 (by omega)⟩
  obtain ⟨p,rfl,hx⟩:=hE w hS i r hr;refine .q 2 rfl (.seq (.t 3 rfl ?_));refine .val (.ii rfl rfl (by omega) (by omega) Xd Qs3) rfl ?_;refine .val (.ld1 (.of rfl) (by have h9:=hx 0 _ rfl; simpa [Addr.add_add] using h9) Qg3) rfl ?_;refine .vcall (cap:=capv) hfn hcal (.of rfl) (ec9 rfl X0) rfl (hf r (Yi hr) w hS) ?_;clear hS;rintro _ w ⟨rfl,hS⟩;refine .nil (.cond rfl (fun hb16=>?_) fun hb16=>?_)
  ·refine .seq (.q 2 rfl (.ret (X9 Tryz.results198 rfl ?_)));exact ⟨_,rfl,by rw [X5f hno hr hb16],hS⟩
  have hc16:=hb16; try simp only [Y6] at hc16
  refine .skip (.region (.run 2 rfl ⟨⟨by omega,by omega⟩,trivial⟩ (.nil ?_)));refine ⟨i+1,⟨rfl,rfl,rfl,rfl,trivial⟩,⟨by (try dsimp only); omega,fun j t hj ht=>?_,hS⟩,by (try dsimp only); omega⟩;rcases Yr j i with h1 | h1
  ·exact hno j t h1 ht
  ·have e:j=i:=by omega
   subst e;rw [hr] at ht; cases ht;exact hb16
 have hc9:=hb9; try simp only [Y6] at hc9
 refine .exit (.seq (.q 1 rfl (.ret (X9 Tryz.results198 rfl ?_))));exact ⟨_,rfl,by rw [X3z (fun j t ht=>hno j t (by have:=(Y5.1 ht).1; omega) ht)],hS⟩
theorem X2g (a:Option Addr) (cap:Nat) (l:List (Int)) (hln:l.length≤9223372036854775807) (pr:Int→Bool) (fid:FuncId) (fn:Func) (hfn:Tryz.prog.funcs[fid]?=some fn) (hcal:Xh fn=true) (capv:List Value) (B w:World) (I:Im) (As:List X7) (hE:∀ w,Sat B w I As→Xb2 w iC 1 a l) (hf:∀ (r:Int) (hr:r∈l) w,Sat B w I As→Calls Tryz.prog fid ([I64 r] ++ capv).toArray w (Ret fun v w'=>v=.bool (pr r)∧Sat B w' I As)) (hS:Sat B w I As) :
  Cz 152 [.slice a l.length cap,.func (.func fid) #[] capv.toArray] w fun v w'=>v=.bool (l.any pr)∧Sat B w' I As:=by
 refine calls Xo2 rfl Tryz.ntmps152 rfl (.seq (.q 1 rfl (.seq (.t 2 rfl (.call Tryz.func198 rfl (ec9 rfl (ec9 rfl X0)) rfl (Xba a cap l hln pr fid fn hfn hcal capv B _ I As hE hf hS) ?_)))));rintro _ w ⟨rfl,hS⟩;refine .q 2 rfl (.nil (.ret (X9 Tryz.results152 rfl ?_)));exact ⟨_,rfl,by rw [← X7x pr l 0],hS⟩
theorem Xdo (n:Int) (B w:World) (I:Im) (As:List X7) (hS:Sat B w I As) :
  Cz 151 [I64 n] w fun v w'=>v=.bool (Xau n)∧Sat B w' I As:=by
 refine calls Xp8 rfl Tryz.ntmps151 rfl (.seq (.q 1 rfl (.seq (.t 3 rfl (.gm rfl rfl rfl rfl (.gval rfl rfl (fun hg1=>(.gtr (.gd hg1 rfl) (.of rfl))) rfl (.val (.po rfl rfl rfl) rfl (.q 1 rfl (.nil (.ret (X9 Tryz.results151 rfl ?_)))))))))));exact ⟨_,rfl,rfl,hS⟩
theorem Xk5 (p:Nat→Int) (B w:World) (I:Im) (As:List X7) (hS:Sat B w I As) :
  Cz 104 [.agg ((psL p).map I64).toArray] w fun v w'=>v=.bool (X6w p)∧Sat B w' I As:=by
 refine calls Tryz.func104 rfl Tryz.ntmps104 rfl (.seq (.region (.boxA (cs:=(psL p).map I64) hS (.of rfl) rfl ?_)));intro b1 w hS;refine .q 1 rfl (.nil (.seq (.q 1 rfl (.seq (.region ?_)))));refine .val (.fo 0 rfl Xca rfl rfl Xdu rfl) rfl (.val (Ex.slcArr (.of rfl) Xdf Qs3) rfl (.q 1 rfl (.call Xo2 rfl (ec9 rfl (ec9 rfl X0)) rfl (X2g (some (ad b1 0)) 7 ((psL p).take 7) (show (7:Nat)≤9223372036854775807 by decide) Xau 151 _ Xp8 rfl [] B _ I _ (fun w h=>Xck h (k:=0) rfl (fun i n hn=>by match i,hn with | 0,hn=>exact congrArg (Option.map I64) hn | 1,hn=>exact congrArg (Option.map I64) hn | 2,hn=>exact congrArg (Option.map I64) hn | 3,hn=>exact congrArg (Option.map I64) hn | 4,hn=>exact congrArg (Option.map I64) hn | 5,hn=>exact congrArg (Option.map I64) hn | 6,hn=>exact congrArg (Option.map I64) hn | i+7,hn=>cases hn)) (fun n hn w h=>Xdo n B w I _ h) hS) ?_)));rintro _ w ⟨rfl,hS⟩;refine .q 2 rfl (.gval rfl rfl (fun hg1=>(by exact .fo 7 rfl Xca rfl rfl Xdu rfl)) rfl ?_);refine .gval rfl rfl (fun hg1=>(Ex.slcArr (.gd hg1 rfl) Xdf Qs3)) rfl (.gm rfl rfl rfl rfl (.gcall (T:=fun w=>Sat B w I (blk b1 ((psL p).map I64) 26::As)) rfl rfl rfl Xo2 rfl (fun hg1=>(X6 (.gd hg1 rfl) (X6 (.gd hg1 rfl) X0))) rfl (fun hg1=>X2g (some (ad b1 7)) 7 (((psL p).drop 7).take 7) (show (7:Nat)≤9223372036854775807 by decide) Xau 151 _ Xp8 rfl [] B _ I _ (fun w h=>Xck h (k:=0) rfl (fun i n hn=>by match i,hn with | 0,hn=>exact congrArg (Option.map I64) hn | 1,hn=>exact congrArg (Option.map I64) hn | 2,hn=>exact congrArg (Option.map I64) hn | 3,hn=>exact congrArg (Option.map I64) hn | 4,hn=>exact congrArg (Option.map I64) hn | 5,hn=>exact congrArg (Option.map I64) hn | 6,hn=>exact congrArg (Option.map I64) hn | i+7,hn=>cases hn)) (fun n hn w h=>Xdo n B w I _ h) hS) hS ?_));rintro w hS;refine .gval rfl rfl (fun hg1=>(.not (.gd hg1 rfl))) rfl (.val (.pa rfl rfl rfl) rfl (.q 1 rfl ?_));refine .gval rfl rfl (fun hg1=>(by exact .fo 14 rfl Xca rfl rfl Xdu rfl)) rfl ?_;refine .gval rfl rfl (fun hg1=>(Ex.slcArr (.gd hg1 rfl) Xdf Qs3)) rfl (.gm rfl rfl rfl rfl (.gcall (T:=fun w=>Sat B w I (blk b1 ((psL p).map I64) 26::As)) rfl rfl rfl Xo2 rfl (fun hg1=>(X6 (.gd hg1 rfl) (X6 (.gd hg1 rfl) X0))) rfl (fun hg1=>X2g (some (ad b1 14)) 7 ((psL p).drop 14) (show (7:Nat)≤9223372036854775807 by decide) Xau 151 _ Xp8 rfl [] B _ I _ (fun w h=>Xck h (k:=0) rfl (fun i n hn=>by match i,hn with | 0,hn=>exact congrArg (Option.map I64) hn | 1,hn=>exact congrArg (Option.map I64) hn | 2,hn=>exact congrArg (Option.map I64) hn | 3,hn=>exact congrArg (Option.map I64) hn | 4,hn=>exact congrArg (Option.map I64) hn | 5,hn=>exact congrArg (Option.map I64) hn | 6,hn=>exact congrArg (Option.map I64) hn | i+7,hn=>cases hn)) (fun n hn w h=>Xdo n B w I _ h) hS) hS ?_));rintro w hS;refine .gval rfl rfl (fun hg1=>(.not (.gd hg1 rfl))) rfl (.val (.pa rfl rfl rfl) rfl (.q 1 rfl (.nil (.ret (X9 Tryz.results104 rfl ?_)))));exact ⟨_,rfl,rfl,hS.drop (k:=0) rfl⟩
def Xrf (ω:Wd) (n:Int):Wd:={ ω with now:=min (ω.now+max 0 (min n 1099511627776)) 1099511627776 }
theorem Xta {ω:Wd} (h:X3n ω) (n:Int):X3n (Xrf ω n):=⟨h.len,h.wf,h.D,by have:=h.now; unfold Xrf; (try dsimp only); omega,h.room⟩
theorem Xqq (p:Wp) (ω:Wd) (n:Int) (hω:X3n ω) (B w:World) (I:Im) (As:List X7) (hS:Sat B w I (wdA p ω::As)) :
  Cz 18 [ptr p.wb 0,I64 n] w fun v w'=>v=.tuple #[]∧Sat B w' I (wdA p (Xrf ω n)::As):=by
 refine calls Tryz.func18 rfl Tryz.ntmps18 rfl ?_;obtain ⟨⟨a,c,ma,mc⟩,hS⟩:=Sat.unbox hS;replace hS:Sat B _ _ (blk p.wb (wdC p ω) 44::blk p.tb [I64 ω.room,.slice a ω.l.length c] 114::Vec 54 10 (.slice a ω.l.length c) ω.l.length (Xe ω.l)::blk p.mb [.slice ma ω.D.length mc] 111::X3i 104 (.slice ma ω.D.length mc) (ω.D.map fun d=>U64 (d:Nat))::As):=hS;have hnow:=hω.now;refine .t 3 rfl (.val (.fo 25 rfl X69 rfl rfl Qs3 rfl) rfl (.val (.lo rfl hS (k:=0) rfl Qg3 rfl) rfl (.q 1 rfl (.val (.min2 (.of rfl) (.of rfl)) rfl (.val (.max2 (.of rfl) (.of rfl)) rfl (.run 1 rfl ⟨⟨by omega,by omega⟩,trivial⟩ (.val (.min2 (.of rfl) (.of rfl)) rfl (.q 1 rfl ?_))))))));refine .val (.fo 25 rfl X69 rfl rfl Qs3 rfl) rfl (.s1 hS (k:=0) rfl rfl rfl rfl Qs3 (show 25<26 by decide) ?_);intro w hS;refine .nil (X7n Tryz.results18 ?_);exact ⟨_,rfl,rfl,Sat.box (T:=wdT p _) (a,c,ma,mc) hS⟩
theorem Xfw (tb:Nat) (room:Int) (a:Option Addr) (c:Nat) (l:List Rec) (hl:l.length≤100000) (hwf:Wf l) (ps:List Int) (hps:ps.length=21) (name:List UInt8) (now:Int) (hn:0≤now∧now≤1099511627776) (B w:World) (I:Im) (As:List X7) (hS:Sat B w I (blk tb [I64 room,.slice a l.length c] 114::Vec 54 10 (.slice a l.length c) l.length (Xe l)::As)) :
  Calls Tryz.prog 62 [ptr tb 0,.agg (ps.map I64).toArray,S name,I64 now].toArray w (Ret fun v w'=>v=.bool (X4h ps l name now)∧Sat B w' I (blk tb [I64 room,.slice a l.length c] 114::Vec 54 10 (.slice a l.length c) l.length (Xe l)::As)) :=
 (Xj0 tb room a c l hl hwf ps hps name now hn B w I As hS).mono fun e w' ⟨v,he,J,hJ,hv,hS⟩=>⟨v,he,hv,hS.weaken hJ⟩
theorem wd_pol {p:Wp} {ω:Wd} {j:Nat} {v:Value} (h:((psL p.ps).map I64)[j]?=some v):(wdC p ω)[0+4+j]?=some v:=by
 have h1:=(Y5.1 h).1;have e:wdC p ω=[ptr p.tb 0,ptr p.mb 0,.pointer (some p.pr),ptr p.ub 0] ++ ((psL p.ps).map I64 ++ [I64 ω.now]):=rfl;rw [e,Yw (by simp),Y8,Y8,Y8,Y8,Yj,show 0+4+j - (0+1+1+1+1)=j by omega,Yk h1];exact h
def Xv (ps:Nat→Int) (ω:Wd) (name:List UInt8) (kind:Int):Rec×Bool:=if ((((getD ω.l name).kind) != kind) || !X4h (psL ps) ω.l name ω.now)=true then (r0,false) else (getD ω.l name,true)
theorem Xl3 (name:List UInt8) (kind:Int) (p:Wp) (ω:Wd) (hω:X3n ω) (B w:World) (I:Im) (As:List X7) (hS:Sat B w I (wdA p ω::As)) :
  Cz 19 [ptr p.wb 0,S name,I64 kind] w fun v w'=>v=.tuple #[.agg (X5 (Xv p.ps ω name kind).1).toArray,.bool (Xv p.ps ω name kind).2]∧Sat B w' I (wdA p ω::As):=by
 refine calls Tryz.func19 rfl Tryz.ntmps19 rfl (.seq ?_);obtain ⟨⟨a,c,ma,mc⟩,hS⟩:=Sat.unbox hS;replace hS:Sat B _ _ (blk p.wb (wdC p ω) 44::blk p.tb [I64 ω.room,.slice a ω.l.length c] 114::Vec 54 10 (.slice a ω.l.length c) ω.l.length (Xe ω.l)::blk p.mb [.slice ma ω.D.length mc] 111::X3i 104 (.slice ma ω.D.length mc) (ω.D.map fun d=>U64 (d:Nat))::As):=hS;have hlen:=hω.len;refine .region (.allocA (cs:=[_,_,_,_,_,_,_,_,_,_]) hS X5t rfl ?_);intro b6 w hS;refine .q 1 rfl (.nil (.seq (.t 2 rfl ?_)));refine .val (.fo 0 rfl X69 rfl rfl Xfo rfl) rfl (.val (.lo rfl hS (k:=1) rfl Xdt rfl) rfl (.q 1 rfl (.call Xu6 rfl (ec9 rfl (ec9 rfl X0)) rfl (X7q p.tb ω.room a c ω.l (by omega) name B _ I _ ((hS.pick 3 rfl).pick 3 rfl)) ?_)));rintro _ w ⟨rfl,hS⟩;refine .q 3 rfl (.allocA (cs:=[_,_,_,_,_,_,_,_,_,_]) hS X5t rfl ?_);intro b8 w hS;refine .so hS (k:=0) rfl rfl rfl rfl Xu rfl (by simp) ?_;intro w hS;try simp only [Yh,Ye,Y9,Y7,Yg,Yn,Yd] at hS
 refine .q 1 rfl (.nil (.seq (.seq ?_)));replace hS:=(hS.pick 2 rfl).pick 2 rfl;refine .quiet (by kernel_rfl) (by kernel_rfl) hS (.val (fun w hS=>(by exact .fo 0 rfl Xr rfl rfl Qs3 rfl)) rfl ?_);refine .val (fun w hS=>(by exact (.lo rfl hS (k:=2) rfl Qg3 rfl))) rfl ?_;refine .val (fun w hS=>(.mo rfl)) rfl (.val (fun w hS=>(.neq (.of rfl) (.of rfl))) rfl (.val (fun w hS=>(.mo rfl)) rfl (.gval rfl rfl rfl (fun hg1 w hS=>(.mo rfl)) rfl (.gval rfl rfl rfl (fun hg1 w hS=>(.nilCheck (.gd hg1 rfl))) rfl ?_))));refine .gval rfl rfl rfl (fun hg1 w hS=>(by exact .fieldAddr 0 (.gd hg1 rfl) X69 rfl rfl Xfo rfl)) rfl ?_;refine .gval rfl rfl rfl (fun hg1 w hS=>(by exact (.ld (.gd hg1 rfl) hS (k:=4) rfl Xdt rfl))) rfl ?_;refine .gval rfl rfl rfl (fun hg1 w hS=>(.mo rfl)) rfl (.gval rfl rfl rfl (fun hg1 w hS=>(.nilCheck (.gd hg1 rfl))) rfl ?_);refine .gval rfl rfl rfl (fun hg1 w hS=>(by exact .fieldAddr 4 (.gd hg1 rfl) X69 rfl rfl Xka rfl)) rfl ?_;refine .gval rfl rfl rfl (fun hg1 w hS=>(.lds (vs:=(psL p.ps).map I64) (.gd hg1 rfl) hS (k:=4) rfl Xth Xka rfl (fun j v hj=>wd_pol hj))) rfl (.gval rfl rfl rfl (fun hg1 w hS=>(.mo rfl)) rfl (.gval rfl rfl rfl (fun hg1 w hS=>(.mo rfl)) rfl (.gval rfl rfl rfl (fun hg1 w hS=>(.nilCheck (.gd hg1 rfl))) rfl ?_)));refine .gval rfl rfl rfl (fun hg1 w hS=>(by exact .fieldAddr 25 (.gd hg1 rfl) X69 rfl rfl Qs3 rfl)) rfl ?_;refine .gval rfl rfl rfl (fun hg1 w hS=>(by exact (.ld (.gd hg1 rfl) hS (k:=4) rfl Qg3 rfl))) rfl ?_;refine .gcall rfl rfl rfl Tryz.func62 rfl (fun hg1=>(X6 (.gd hg1 rfl) (X6 (.gd hg1 rfl) (X6 (.gd hg1 rfl) (X6 (.gd hg1 rfl) X0))))) rfl (fun hg1 w hS=>Xfw p.tb ω.room a c ω.l (by omega) hω.wf (psL p.ps) rfl name ω.now hω.now B _ I _ hS) (.gval rfl rfl rfl (fun hg1 w hS=>(.not (.gd hg1 rfl))) rfl (.val (fun w hS=>(.po rfl rfl rfl)) rfl (.nil ?_)));intro w hS;refine .cond rfl (fun hb39=>?_) fun hb39=>?_
 ·refine .seq (.region (.val (.build (cs:=[_,_,_,_,_,_,_,_,_,_]) X4 X1v rfl) rfl ?_));refine .so hS (k:=3) rfl rfl rfl rfl Xu rfl (by simp) ?_;intro w hS;try simp only [Yh,Ye,Y9,Y7,Yg,Yn,Yd] at hS
  refine .q 1 rfl (.nil (.ret ?_));refine X1i (b:=_) (cs:=[_,_,_,_,_,_,_,_,_,_]) Tryz.results19 hS (k:=3) rfl X3e Xu rfl rfl rfl (⟨_,rfl,?_,Sat.box (T:=wdT p _) (a,c,ma,mc) ?_⟩)
  ·rw [Xv,if_pos hb39]; rfl
  replace hS:=((hS.drop (k:=2) rfl).drop (k:=2) rfl).pick 2 rfl;exact hS
 refine .skip (.seq (.region ?_));refine .val (.ldsW (cs:=[_,_,_,_,_,_,_,_,_,_]) (.of rfl) hS (k:=2) rfl X3e Xu rfl) rfl (.so hS (k:=3) rfl rfl rfl rfl Xu rfl (by simp) ?_);intro w hS;try simp only [Yh,Ye,Y9,Y7,Yg,Yn,Yd] at hS
 refine .q 1 rfl (.nil (.ret ?_));refine X1i (b:=_) (cs:=[_,_,_,_,_,_,_,_,_,_]) Tryz.results19 hS (k:=3) rfl X3e Xu rfl rfl rfl (⟨_,rfl,?_,Sat.box (T:=wdT p _) (a,c,ma,mc) ?_⟩)
 ·rw [Xv,if_neg (by rw [hb39]; decide)]; rfl
 replace hS:=((hS.drop (k:=2) rfl).drop (k:=2) rfl).pick 2 rfl;exact hS
theorem Xsy (p:Wp) (ω:Wd) (a:Option Addr) (c:Nat) (hlen:ω.l.length≤64) (xb:Nat) (name:List UInt8) (B w:World) (I:Im) (As:List X7) (hS:Sat B w I (blk xb [ptr p.wb 0] 37::blk p.wb (wdC p ω) 44::blk p.tb [I64 ω.room,.slice a ω.l.length c] 114::Vec 54 10 (.slice a ω.l.length c) ω.l.length (Xe ω.l)::As)) :
  Cz 115 [S name,ptr xb 0] w fun v w'=>v=.bool (get ω.l name).isSome∧Sat B w' I (blk xb [ptr p.wb 0] 37::blk p.wb (wdC p ω) 44::blk p.tb [I64 ω.room,.slice a ω.l.length c] 114::Vec 54 10 (.slice a ω.l.length c) ω.l.length (Xe ω.l)::As):=by
 refine calls Tryz.func115 rfl Tryz.ntmps115 rfl (.seq (.q 1 rfl (.seq (.region ?_))));refine .val (.lo rfl hS (k:=0) rfl Xna rfl) rfl (.q 1 rfl (.val (.fo 0 rfl X69 rfl rfl Xfo rfl) rfl (.val (.lo rfl hS (k:=1) rfl Xdt rfl) rfl (.q 1 rfl (.call Xu6 rfl (ec9 rfl (ec9 rfl X0)) rfl (X7q p.tb ω.room a c ω.l (by omega) name B _ I _ ((hS.pick 3 rfl).pick 3 rfl)) ?_)))));rintro _ w ⟨rfl,hS⟩;replace hS:=((hS.pick 3 rfl).pick 3 rfl)
 refine .q 3 rfl (.allocA (cs:=[_,_,_,_,_,_,_,_,_,_]) hS X5t rfl ?_);intro b4 w hS;refine .so hS (k:=0) rfl rfl rfl rfl Xu rfl (by simp) ?_;intro w hS;try simp only [Yh,Ye,Y9,Y7,Yg,Yn,Yd] at hS
 refine .q 1 rfl (.nil (.seq (.q 2 rfl (.ret (X9 Tryz.results115 rfl ?_)))));exact ⟨_,rfl,rfl,hS.drop (k:=0) rfl⟩
def mkN (ω:Wd) (r:Rec):(List UInt8×Nat)×List Nat:=X37 (fun s=>(get ω.l s).isSome) r.kind ω.D
def mkR (ω:Wd) (r:Rec):Rec:={ r with name:=(mkN ω r).1.1,made:=ω.now,used:=ω.now }
def mkW (ω:Wd) (r:Rec):(List UInt8×Nat)×Wd :=
 if (mkN ω r).1.2≠0 then (([],39),{ ω with D:=(mkN ω r).2 })
 else (if X5j ω.room ω.l (mkR ω r)≠0 then ([],39) else ((mkN ω r).1.1,0),{ ω with D:=(mkN ω r).2,l:=add ω.room ω.l (mkR ω r) })
theorem Xto {pr:List UInt8→Bool} {kind:Int} {D:List Nat}:∀ d∈(X37 pr kind D).2,d∈D:=by
 intro d hd;unfold X37 at hd;split at hd
 ·exact hd
 ·split at hd
  ·simp at hd
  ·rename_i x D
   split at hd <;> exact Y2k _ hd
theorem Xf3 {pr:List UInt8→Bool} {kind:Int} {D:List Nat}:(X37 pr kind D).1.1.length≤23:=by
 unfold X37;split
 ·simp
 ·split
  ·simp
  ·split
   ·simp
   ·have:=X9y kind
    simp only [Y0,Y8,X45]; omega
theorem X2m {ω:Wd} (h:X3n ω) (r:Rec):X3n (mkW ω r).2:=by
 unfold mkW;have hD:∀ d∈(mkN ω r).2,d<18446744073709551616:=fun d hd=>h.D d (Xto d hd)
 split
 ·exact ⟨h.len,h.wf,hD,h.now,h.room⟩
 ·refine ⟨?_,h.wf.add,hD,h.now,h.room⟩;show (add ω.room ω.l (mkR ω r)).length≤64
  unfold add;split
  ·rename_i e
   have:=(Xi9 e).2.2.2
   have:=h.room
   rw [Y0,Y8,Yj]; omega
  ·exact h.len
theorem Xcb (r:Rec) (hrp:r.parent.length≤1000000) (p:Wp) (ω:Wd) (hω:X3n ω) (B w:World) (I:Im) (hI:WpOk I p) (As:List X7) (hS:Sat B w I (wdA p ω::As)) :
  Cz 52 [ptr p.wb 0,.agg (X5 r).toArray] w fun v w'=>v=.tuple #[S (mkW ω r).1.1,I64 ((mkW ω r).1.2:Nat)]∧Sat B w' I (wdA p (mkW ω r).2::As):=by
 refine calls Qf52 rfl Tryz.ntmps52 rfl (.seq ?_);obtain ⟨⟨a,c,ma,mc⟩,hS⟩:=Sat.unbox hS;replace hS:Sat B _ _ (blk p.wb (wdC p ω) 44::blk p.tb [I64 ω.room,.slice a ω.l.length c] 114::Vec 54 10 (.slice a ω.l.length c) ω.l.length (Xe ω.l)::blk p.mb [.slice ma ω.D.length mc] 111::X3i 104 (.slice ma ω.D.length mc) (ω.D.map fun d=>U64 (d:Nat))::As):=hS;have hlen:=hω.len;refine .region (.box1 hS (.of rfl) rfl rfl ?_);intro b2 w hS;refine .boxA (cs:=[_,_,_,_,_,_,_,_,_,_]) hS (.of rfl) rfl ?_;intro b3 w hS;refine .q 2 rfl (.nil (.seq (.drawn (fun w=>∃ R,Sat B w I (blk b2 [ptr p.wb 0] 37::blk b3 [I64 r.kind,S r.name,S r.parent,S r.user,S r.service,S r.url,I64 r.made,I64 r.used,I64 r.uses,.bool r.fresh] 54::blk p.wb (wdC p ω) 44::R)) (fun j=>!([].contains j)) (by kernel_rfl) ?_)));replace hS:=hS.drew; generalize w.drew=w at hS ⊢;have hH:=(((hS.pick 2 rfl).pick 1 rfl).pick 2 rfl)
 refine .tk (i:=0) rfl (by kernel_rfl) ⟨_,hH⟩ (fun w ⟨R,hS⟩=>((.lo rfl hS (k:=0) rfl Xna rfl))) rfl (.tp (i:=1) rfl (by kernel_rfl) (fun w=>(.no rfl)) rfl (.tp (i:=2) rfl (by kernel_rfl) (fun w=>(.fo 1 rfl X69 rfl rfl Qs40 rfl)) rfl (.tk (i:=3) rfl (by kernel_rfl) ⟨_,hH⟩ (fun w ⟨R,hS⟩=>((.lo rfl hS (k:=2) rfl Qg40 rfl))) rfl (.tp (i:=4) rfl (by kernel_rfl) (fun w=>(.fo 0 rfl Xr rfl rfl Qs3 rfl)) rfl (.tk (i:=5) rfl (by kernel_rfl) ⟨_,hH⟩ (fun w ⟨R,hS⟩=>((.lo rfl hS (k:=1) rfl Qg3 rfl))) rfl (.tp (i:=6) rfl (by kernel_rfl) (fun w=>(.makeFunc (ec9 rfl X0))) rfl (.b1 7 (by kernel_rfl) rfl (.call Tryz.func114 rfl (ec9 rfl (ec9 rfl (ec9 rfl X0))) rfl (Xps p.mb ma mc ω.D hω.D r.kind (fun s=>(get ω.l s).isSome) 115 _ Tryz.func115 rfl [ptr b2 0] B _ I hI.pre (blk b2 [ptr p.wb 0] 37::blk p.wb (wdC p ω) 44::blk p.tb [I64 ω.room,.slice a ω.l.length c] 114::Vec 54 10 (.slice a ω.l.length c) ω.l.length (Xe ω.l)::blk b3 [I64 r.kind,S r.name,S r.parent,S r.user,S r.service,S r.url,I64 r.made,I64 r.used,I64 r.uses,.bool r.fresh] 54::As) (fun M s w h=>(Xsy p ω a c hlen b2 s B w I (blk b3 [I64 r.kind,S r.name,S r.parent,S r.user,S r.service,S r.url,I64 r.made,I64 r.used,I64 r.uses,.bool r.fresh] 54::As ++ M) (Sat.swap (M:=M) (As:=blk b2 [ptr p.wb 0] 37::blk p.wb (wdC p ω) 44::blk p.tb [I64 ω.room,.slice a ω.l.length c] 114::Vec 54 10 (.slice a ω.l.length c) ω.l.length (Xe ω.l)::blk b3 [I64 r.kind,S r.name,S r.parent,S r.user,S r.service,S r.url,I64 r.made,I64 r.used,I64 r.uses,.bool r.fresh] 54::As) h)).mono fun e w9 ⟨v9,he,hv,hS9⟩=>⟨v9,he,hv,Sat.swap (M:=blk b2 [ptr p.wb 0] 37::blk p.wb (wdC p ω) 44::blk p.tb [I64 ω.room,.slice a ω.l.length c] 114::Vec 54 10 (.slice a ω.l.length c) ω.l.length (Xe ω.l)::blk b3 [I64 r.kind,S r.name,S r.parent,S r.user,S r.service,S r.url,I64 r.made,I64 r.used,I64 r.uses,.bool r.fresh] 54::As) (As:=M) hS9⟩) ((((((hS.pick 4 rfl).pick 4 rfl).pick 4 rfl).pick 4 rfl).pick 6 rfl).pick 6 rfl)) ?_))))))));rintro _ w ⟨rfl,ma2,mc2,hS⟩;replace hS:Sat B w I (blk p.mb [.slice ma2 (mkN ω r).2.length mc2] 111::X3i 104 (.slice ma2 (mkN ω r).2.length mc2) ((mkN ω r).2.map fun d=>U64 (d:Nat))::blk b2 [ptr p.wb 0] 37::blk p.wb (wdC p ω) 44::blk p.tb [I64 ω.room,.slice a ω.l.length c] 114::Vec 54 10 (.slice a ω.l.length c) ω.l.length (Xe ω.l)::blk b3 [I64 r.kind,S r.name,S r.parent,S r.user,S r.service,S r.url,I64 r.made,I64 r.used,I64 r.uses,.bool r.fresh] 54::As):=hS;refine .nil ?_;clear hH;have hH:=(((hS.pick 3 rfl).pick 6 rfl).pick 4 rfl)
 refine ⟨fun _ _=>⟨_,hH⟩,?_⟩;refine .tp (i:=8) rfl (by kernel_rfl) (fun w=>(.mo rfl)) rfl (.tp (i:=9) rfl (by kernel_rfl) (fun w=>(.extract (.of rfl) rfl)) rfl (.tp (i:=10) rfl (by kernel_rfl) (fun w=>(.extract (.of rfl) rfl)) rfl (.tp (i:=11) rfl (by kernel_rfl) (fun w=>(.ao rfl)) rfl (.tp (i:=12) rfl (by kernel_rfl) (fun w=>(.ao rfl)) rfl (.done (by kernel_rfl) (.seq (.seq (.q 2 rfl ?_))))))));refine .cond rfl (fun hb20=>?_) fun hb20=>?_
 ·refine .seq (.q 2 rfl (.ret (X1e Tryz.results52 rfl rfl ?_)));have hE:mkW ω r=(([],39),{ ω with D:=(mkN ω r).2 }):=if_pos (by simpa [mkN] using hb20);rw [hE];replace hS:=(hS.drop (k:=2) rfl).drop (k:=5) rfl;exact ⟨_,rfl,rfl,Sat.box (T:=wdT p _) (a,c,ma2,mc2) (((hS.pick 4 rfl).pick 4 rfl).pick 4 rfl)⟩
 refine .skip (.cutS (σ:=Unit) (fun _=>[(2,ptr b2 0),(3,ptr b3 0),(6,S (mkN ω r).1.1)]) (fun _ w=>Sat B w I (blk p.mb [.slice ma2 (mkN ω r).2.length mc2] 111::X3i 104 (.slice ma2 (mkN ω r).2.length mc2) ((mkN ω r).2.map fun d=>U64 (d:Nat))::blk b2 [ptr p.wb 0] 37::blk p.wb (wdC p ω) 44::blk p.tb [I64 ω.room,.slice a ω.l.length c] 114::Vec 54 10 (.slice a ω.l.length c) ω.l.length (Xe ω.l)::blk b3 [I64 r.kind,S (mkN ω r).1.1,S r.parent,S r.user,S r.service,S r.url,I64 ω.now,I64 ω.now,I64 r.uses,.bool r.fresh] 54::As)) ?_ ?_)
 ·refine .drawn (fun w=>∃ R,Sat B w I (blk b2 [ptr p.wb 0] 37::blk p.wb (wdC p ω) 44::R)) (fun j=>!([].contains j)) (by kernel_rfl) ?_;replace hS:=hS.drew; generalize w.drew=w at hS ⊢;have hH:=((hS.pick 3 rfl).pick 3 rfl)
  refine .tp (i:=0) rfl (by kernel_rfl) (fun w=>(.mo rfl)) rfl (.tk (i:=1) rfl (by kernel_rfl) ⟨_,hH⟩ (fun w ⟨R,hS⟩=>((.lo rfl hS (k:=0) rfl Xna rfl))) rfl (.tp (i:=2) rfl (by kernel_rfl) (fun w=>(.no rfl)) rfl (.tp (i:=3) rfl (by kernel_rfl) (fun w=>(.fo 25 rfl X69 rfl rfl Qs3 rfl)) rfl (.tk (i:=4) rfl (by kernel_rfl) ⟨_,hH⟩ (fun w ⟨R,hS⟩=>((.lo rfl hS (k:=1) rfl Qg3 rfl))) rfl (.tk (i:=5) rfl (by kernel_rfl) ⟨_,hH⟩ (fun w ⟨R,hS⟩=>((.lo rfl hS (k:=0) rfl Xna rfl))) rfl (.tp (i:=6) rfl (by kernel_rfl) (fun w=>(.no rfl)) rfl (.tp (i:=7) rfl (by kernel_rfl) (fun w=>(.fo 25 rfl X69 rfl rfl Qs3 rfl)) rfl (.tk (i:=8) rfl (by kernel_rfl) ⟨_,hH⟩ (fun w ⟨R,hS⟩=>((.lo rfl hS (k:=1) rfl Qg3 rfl))) rfl (.tp (i:=9) rfl (by kernel_rfl) (fun w=>(.fo 1 rfl Xr rfl rfl Qs9 rfl)) rfl (.b1 10 (by kernel_rfl) rfl (.s1 hS (k:=6) rfl rfl rfl rfl Qs9 (by simp) ?_)))))))))));intro w hS;refine .nil ?_;clear hH;have hH:=((hS.pick 3 rfl).pick 3 rfl)
  refine ⟨fun _ _=>⟨_,hH⟩,?_⟩;refine .tp (i:=11) rfl (by kernel_rfl) (fun w=>(.fo 6 rfl Xr rfl rfl Qs3 rfl)) rfl (.b1 12 (by kernel_rfl) rfl (.s1 hS (k:=6) rfl rfl rfl rfl Qs3 (by simp) ?_));intro w hS;refine .nil ?_;clear hH;have hH:=((hS.pick 3 rfl).pick 3 rfl)
  refine ⟨fun _ _=>⟨_,hH⟩,?_⟩;refine .tp (i:=13) rfl (by kernel_rfl) (fun w=>(.fo 7 rfl Xr rfl rfl Qs3 rfl)) rfl (.b1 14 (by kernel_rfl) rfl (.s1 hS (k:=6) rfl rfl rfl rfl Qs3 (by simp) ?_));intro w hS;refine .nil ?_;clear hH;have hH:=((hS.pick 3 rfl).pick 3 rfl)
  refine ⟨fun _ _=>⟨_,hH⟩,?_⟩;refine .done (by kernel_rfl) ?_;exact ⟨(),⟨rfl,rfl,rfl,trivial⟩,hS⟩
 rintro _ w hS;refine .seq (.seq (.drawn (fun w=>∃ R,Sat B w I (blk b2 [ptr p.wb 0] 37::blk b3 [I64 r.kind,S (mkN ω r).1.1,S r.parent,S r.user,S r.service,S r.url,I64 ω.now,I64 ω.now,I64 r.uses,.bool r.fresh] 54::blk p.wb (wdC p ω) 44::R)) (fun j=>!([].contains j)) (by kernel_rfl) ?_));replace hS:=hS.drew; generalize w.drew=w at hS ⊢;have hH:=(((hS.pick 3 rfl).pick 6 rfl).pick 4 rfl)
 refine .tk (i:=0) rfl (by kernel_rfl) ⟨_,hH⟩ (fun w ⟨R,hS⟩=>((.lo rfl hS (k:=0) rfl Xna rfl))) rfl (.tp (i:=1) rfl (by kernel_rfl) (fun w=>(.no rfl)) rfl (.tp (i:=2) rfl (by kernel_rfl) (fun w=>(.fo 0 rfl X69 rfl rfl Xfo rfl)) rfl (.tk (i:=3) rfl (by kernel_rfl) ⟨_,hH⟩ (fun w ⟨R,hS⟩=>((.lo rfl hS (k:=2) rfl Xdt rfl))) rfl (.tk (i:=4) rfl (by kernel_rfl) ⟨_,hH⟩ (fun w ⟨R,hS⟩=>((.ldsW (cs:=[_,_,_,_,_,_,_,_,_,_]) (.of rfl) hS (k:=1) rfl X3e Xu rfl))) rfl (.b1 5 (by kernel_rfl) rfl ?_)))));refine .call Tryz.func48 rfl (ec9 rfl (ec9 rfl X0)) rfl (Xmv p.tb ω.room a c ω.l (by omega) (mkR ω r) (by have:=Xf3 (pr:=fun s=>(get ω.l s).isSome) (kind:=r.kind) (D:=ω.D); exact Y21 this (by decide)) hrp B _ I hI.known hI.pre _ ((hS.pick 5 rfl).pick 5 rfl)) ?_;rintro _ w ⟨rfl,a2,c2,hS⟩;refine .nil ?_;clear hH;have hH:=(((hS.pick 5 rfl).pick 6 rfl).pick 6 rfl)
 refine ⟨fun _ _=>⟨_,hH⟩,?_⟩;refine .tp (i:=6) rfl (by kernel_rfl) (fun w=>(.neq (.of rfl) (.of rfl))) rfl (.done (by kernel_rfl) ?_);refine .cond rfl (fun hb39=>?_) fun hb39=>?_
 ·refine .seq (.q 2 rfl (.ret (X1e Tryz.results52 rfl rfl ?_)));have hE:mkW ω r=(([],39),{ ω with D:=(mkN ω r).2,l:=add ω.room ω.l (mkR ω r) }):=by
   rw [mkW,if_neg (by simpa [mkN] using hb20),if_pos (by simpa using hb39)]
  rw [hE];replace hS:=((hS.pick 5 rfl).drop (k:=5) rfl).drop (k:=5) rfl;exact ⟨_,rfl,rfl,Sat.box (T:=wdT p _) (a2,c2,ma2,mc2) hS⟩
 refine .skip (.seq (.q 3 rfl (.ret (X1e Tryz.results52 rfl rfl ?_))));have hE:mkW ω r=(((mkN ω r).1.1,0),{ ω with D:=(mkN ω r).2,l:=add ω.room ω.l (mkR ω r) }):=by
  rw [mkW,if_neg (by simpa [mkN] using hb20),if_neg (by simpa using hb39)]
 rw [hE];replace hS:=((hS.pick 5 rfl).drop (k:=5) rfl).drop (k:=5) rfl;exact ⟨_,rfl,rfl,Sat.box (T:=wdT p _) (a2,c2,ma2,mc2) hS⟩
theorem Xmq {r:Rec} (h:Xm r=true):r.name.length≤23∧r.parent.length≤23:=by
 unfold Xm at h;simp only [Yq] at h
 obtain ⟨⟨_,h1⟩,h2⟩:=h;constructor
 ·unfold isT at h1;cases hp:Xz r.name with
  | none=>rw [hp] at h1; cases h1
  | some x=>exact (X3u (k:=x.1) (d:=x.2) hp).2.2.2.1
 ·unfold X2u at h2;split at h2
  ·rename_i e; rw [e]; simp
  ·cases hp:Xz r.parent with
   | none=>rw [hp] at h2; cases h2
   | some x=>exact (X3u (k:=x.1) (d:=x.2) hp).2.2.2.1
theorem Xf5 {l:List Rec} (hw:Wf l) (name:List UInt8):(get l name=none∧getD l name=r0)∨(get l name=some (getD l name)∧Xm (getD l name)=true∧(getD l name).name=name):=by
 rcases Tr.get_at l name with ⟨_,h⟩ | ⟨j,r,_,h2,h3,h4⟩
 ·exact .inl ⟨h,by rw [getD,h]; rfl⟩
 ·have e:getD l name=r:=by rw [getD,h4]; rfl
  exact .inr ⟨by rw [e]; exact h4,by rw [e]; exact hw.right r (Yi h2),by rw [e]; exact h3⟩
theorem Xk4 {l:List Rec} (hw:Wf l) (name:List UInt8):(getD l name).name.length≤23∧(getD l name).parent.length≤23∧0≤(getD l name).uses∧(getD l name).uses≤255:=by
 rcases Xf5 hw name with ⟨_,e⟩ | ⟨_,h,_⟩
 ·rw [e]; decide
 ·have h1:=Xmq h;have h2:=X6q h;exact ⟨h1.1,h1.2,h2.2.2⟩
def X5u (ω:Wd) (name:List UInt8):Wd:={ ω with l:=drop ω.l name }
theorem Xcg {ω:Wd} (h:X3n ω) (name:List UInt8):X3n (X5u ω name):=⟨Y21 (Xp3 ω.l name).length_le h.len,h.wf.drop name,h.D,h.now,h.room⟩
structure Ak where
 service:List UInt8
 cookie:List UInt8
 has:Bool
 renew:Bool
 gateway:Bool
 warn:Bool
theorem Xn6 (s:List UInt8) (hs:s.length≤1000000) (p:Wp) (B w:World) (I:Im) (hI:WpOk I p) (As:List X7) (hS:Sat B w I As) :
  Cz 50 [.pointer (some p.pr),S s] w fun v w'=>∃ J ra rc,Le I J∧v=.tuple #[.agg (X16 (X1r p.lo s).1 ra rc).toArray,S (X1r p.lo s).2.1,I64 (((X1r p.lo s).2.2:Nat):Int)]∧(X1r p.lo s).1.rel.length≤rc∧RS J ra 1 (X1r p.lo s).1.rel.length ((X1r p.lo s).1.rel.map S)∧Sat B w' J As:=by
 obtain ⟨a,c,E,h1,h2,h3⟩:=hI.reg;refine (Xgs p.pr p.lo hI.lo hI.rel s hs a c E B w I hI.known h1 h3 As hS).mono fun e w' ⟨v,he,J,u,cs,n,e2,hJ,hv,⟨ra,rc,hcs,h4,h5⟩,hf,hS⟩=>⟨v,he,J,ra,rc,hJ,?_⟩
 rw [hf]; subst hcs;exact ⟨hv,h4,h5,hS⟩
theorem Xcu (s:List UInt8) (hs:s.length≤1000000) (p:Wp) (B w:World) (I:Im) (hI:WpOk I p) (As:List X7) (hS:Sat B w I As) :
  Calls Tryz.prog 50 [.pointer (some p.pr),S s].toArray w (Ret fun v w'=>∃ ra rc,v=.tuple #[.agg (X16 (X1r p.lo s).1 ra rc).toArray,S (X1r p.lo s).2.1,I64 (((X1r p.lo s).2.2:Nat):Int)]∧Sat B w' I As) :=
 (Xn6 s hs p B w I hI As hS).mono fun e w' ⟨v,he,J,ra,rc,hJ,hv,_,_,hS⟩=>⟨v,he,ra,rc,hv,hS.weaken hJ⟩
def putW (ω:Wd) (r:Rec):Wd:={ ω with l:=put ω.l r }
theorem Xuc {ω:Wd} (h:X3n ω) (r:Rec):X3n (putW ω r):=⟨by show (put ω.l r).length≤64; rw [Xby]; exact h.len,h.wf.put,h.D,h.now,h.room⟩
theorem X8j {ps:Nat→Int} {ω:Wd} (h:X3n ω) (name:List UInt8) (kind:Int):(Xv ps ω name kind).1.name.length≤23∧(Xv ps ω name kind).1.parent.length≤23∧0≤(Xv ps ω name kind).1.uses∧(Xv ps ω name kind).1.uses≤255:=by
 unfold Xv;split
 ·decide
 ·exact Xk4 h.wf name
theorem Xot:Bld Tryz.prog 44 [(0,1),(1,1),(2,1),(3,1),(4,21),(25,1)] [.pointer none,.pointer none,.pointer none,.pointer none,.int .i64 0,.int .i64 0,.int .i64 0,.int .i64 0,.int .i64 0,.int .i64 0,.int .i64 0,.int .i64 0,.int .i64 0,.int .i64 0,.int .i64 0,.int .i64 0,.int .i64 0,.int .i64 0,.int .i64 0,.int .i64 0,.int .i64 0,.int .i64 0,.int .i64 0,.int .i64 0,.int .i64 0,.int .i64 0]:=X2n X69 Tryz.zeroValue44 (fun w=>by simp [go_sem])
structure Cf where
 svs:List Sv
 us:List Us
 ps:Nat→Int
 room:Int
 base:Nat
 factor:Nat
 most:Nat
 tries:Int
def Xl (c:Cf) (a:Option Addr) (cap:Nat) (ua:Option Addr) (ucap:Nat):List Value:=.slice a c.svs.length cap::.slice ua c.us.length ucap::((psL c.ps).map I64 ++ [I64 c.room,F64 c.base,F64 c.factor,F64 c.most,I64 c.tries])
structure Cf.fits (c:Cf):Prop where
 svs:c.svs.length≤100000
 ords:∀ v∈ords c.svs,v<18446744073709551616
 sfit:∀ s∈c.svs,s.urls.length≤9223372036854775807∧s.calls.length≤9223372036854775807∧s.rel.length≤1000000
 us:c.us.length≤9223372036854775807
 ufit:∀ u∈c.us,u.fits
def X5w (c:Cf):Nat:=if (X3a c.svs).1≠0 then (X3a c.svs).1 else if (X50 c.us 0 []).1≠0 then (X50 c.us 0 []).1 else if X6w c.ps=false then 1 else 0
theorem Xn4:∀ (l:List Us) (i:Nat) (acc:List Us),(X50 l i acc).1=0→∀ u∈l,X70 u=true
 | [],_,_,_,u,h=>by simp at h
 | t::l,i,acc,h,u,hu=>by
  rw [X50] at h;split at h
  ·cases h
  ·split at h
   ·cases h
   ·rename_i h1
    split at h
    ·cases h
    ·rcases Y18.1 hu with e | hu
     ·subst e; simpa using h1
     ·exact Xn4 l (i+1) _ h u hu
theorem Xmh {l:List Sv} {D:List Int} (hO:Srt.Ord (kx (ords l)) l.length D):∀ s∈X2q l D,s∈l:=by
 intro s hs;unfold X2q at hs;obtain ⟨d,hd,rfl⟩:=Y28.1 hs;obtain ⟨h1,h2⟩:=Srt.upto_mem.1 (hO.2.mem_iff.1 hd);rw [Yc,Y4 (by omega)];exact Y2t _
theorem Xkg {A vs C:List Value} {j:Nat} {v:Value} (h:vs[j]?=some v):(A ++ (vs ++ C))[A.length+j]?=some v:=by
 rw [Yw (by omega),Y2j,Yk (Y5.1 h).1];exact h
def w0 (c:Cf):Wd:=⟨Xnb c.room,[],[],0⟩
theorem Xte (c:Cf):X3n (w0 c):=⟨by simp [w0],Wf.nil,fun d h=>by simp [w0] at h,by simp [w0],by unfold w0 Xnb; (try dsimp only); omega⟩
set_option maxRecDepth 20000 in
theorem Xfd (c:Cf) (hc:c.fits) (a:Option Addr) (cap:Nat) (ua:Option Addr) (ucap:Nat) (B w:World) (I:Im) (hK:Known I) (hP:PreAt I) (hl:SvsAt I a c.svs) (hU:UsrsAt I ua c.us) (As:List X7) (hS:Sat B w I As) :
  Cz 47 [.agg (Xl c a cap ua ucap).toArray] w fun v w'=>∃ J,Le I J∧((X5w c≠0∧v=.tuple #[.pointer none,I64 (X5w c:Nat)]∧Sat B w' J As)∨(X5w c=0∧∃ p D,Srt.Ord (kx (ords c.svs)) c.svs.length D∧p.lo=X2q c.svs D∧p.us=c.us∧p.ps=c.ps∧v=.tuple #[ptr p.wb 0,I64 0]∧WpOk J p∧Sat B w' J (wdA p (w0 c)::As))):=by
 refine calls Tryz.func47 rfl Tryz.ntmps47 rfl (.seq (.region (.boxA (cs:=[_,_,_,_,_,_,_,_,_,_,_,_,_,_,_,_,_,_,_,_,_,_,_,_,_,_,_,_]) hS (.of rfl) rfl ?_)));intro b1 w hS;refine .q 2 rfl (.nil (.seq (.region ?_)));refine .val (.fo 0 rfl Xe2 rfl rfl Qs22 rfl) rfl (.val (.lo rfl hS (k:=0) rfl Qg22 rfl) rfl (.call Tryz.func102 rfl (ec9 rfl X0) rfl (Xsi a cap c.svs hc.svs hc.ords hc.sfit B _ I hl _ hS) ?_));rintro v w ⟨J,hJ,hS,hor⟩;obtain ⟨pv,e9,i9,rfl,he9,hz9⟩:∃ (pv:Value) (e9 i9:Nat),v=.tuple #[pv,I64 (e9:Nat),I64 (i9:Nat)]∧e9=(X3a c.svs).1∧(e9=0→∃ pr D,pv=.pointer (some pr)∧Srt.Ord (kx (ords c.svs)) c.svs.length D∧RegAt J pr (X2q c.svs D)):=by
  rcases hor with ⟨h1,h2⟩ | ⟨h1,pr,D,h2,h3,h4⟩
  ·exact ⟨_,_,_,h2,rfl,fun h=>absurd h h1⟩
  ·exact ⟨_,0,0,h2,h1.symm,fun _=>⟨pr,D,rfl,h3,h4⟩⟩
 refine .q 7 rfl (.nil (.seq (.seq (.q 2 rfl ?_))));refine .cond rfl (fun hb17=>?_) fun hb17=>?_
 ·refine .seq (.q 3 rfl (.ret (X1e Qr47 rfl rfl ?_)));have hne:(X3a c.svs).1≠0:=by rw [← he9]; simpa using hb17
  have hE:X5w c=e9:=by rw [X5w,if_pos hne,he9]
  exact ⟨_,rfl,J,hJ,.inl ⟨by rw [hE,he9]; exact hne,by rw [hE]; rfl,hS.drop (k:=0) rfl⟩⟩
 refine .skip (.seq (.region ?_));refine .val (.fo 1 rfl Xe2 rfl rfl Tryz.sizeOf23 rfl) rfl (.val (.lo rfl hS (k:=0) rfl Tryz.isAgg23 rfl) rfl (.call Tryz.func103 rfl (ec9 rfl X0) rfl (Xei ua ucap c.us hc.us hc.ufit B _ J (hU.mono hJ) _ hS) ?_));rintro v w ⟨J2,hJ2,hor2,hS⟩;have hw0:(X3a c.svs).1=0:=by rw [← he9]; simpa using hb17
 obtain ⟨pr,D,rfl,hOrd,hreg⟩:=hz9 (by omega);obtain ⟨uv,f9,j9,rfl,hf9,hy9⟩:∃ (uv:Value) (f9 j9:Nat),v=.tuple #[uv,I64 (f9:Nat),I64 (j9:Nat)]∧f9=(X50 c.us 0 []).1∧(f9=0→∃ ub,uv=ptr ub 0∧TabAt J2 ub c.us):=by
  rcases hor2 with ⟨h1,ub,h2,h3⟩ | ⟨h1,h2⟩
  ·exact ⟨_,0,0,h2,h1.symm,fun _=>⟨ub,rfl,h3⟩⟩
  ·exact ⟨_,_,_,h2,rfl,fun h=>absurd h h1⟩
 refine .q 7 rfl (.nil (.seq (.seq (.q 2 rfl ?_))));refine .cond rfl (fun hb27=>?_) fun hb27=>?_
 ·refine .seq (.q 3 rfl (.ret (X1e Qr47 rfl rfl ?_)));have hne:(X50 c.us 0 []).1≠0:=by rw [← hf9]; simpa using hb27
  have hE:X5w c=f9:=by rw [X5w,if_neg (by rw [hw0]; decide),if_pos hne,hf9]
  exact ⟨_,rfl,J2,hJ.trans hJ2,.inl ⟨by rw [hE,hf9]; exact hne,by rw [hE]; rfl,hS.drop (k:=0) rfl⟩⟩
 refine .skip (.seq (.seq (.region ?_)));refine .val (.fo 2 rfl Xe2 rfl rfl Xka rfl) rfl (.val (.lds (vs:=[I64 (c.ps 0),I64 (c.ps 1),I64 (c.ps 2),I64 (c.ps 3),I64 (c.ps 4),I64 (c.ps 5),I64 (c.ps 6),I64 (c.ps 7),I64 (c.ps 8),I64 (c.ps 9),I64 (c.ps 10),I64 (c.ps 11),I64 (c.ps 12),I64 (c.ps 13),I64 (c.ps 14),I64 (c.ps 15),I64 (c.ps 16),I64 (c.ps 17),I64 (c.ps 18),I64 (c.ps 19),I64 (c.ps 20)]) (.of rfl) hS (k:=0) rfl Xth Xka rfl (fun j v hj=>Xkg (A:=[.slice a c.svs.length cap,.slice ua c.us.length ucap]) (C:=[I64 c.room,F64 c.base,F64 c.factor,F64 c.most,I64 c.tries]) hj)) rfl (.call Tryz.func104 rfl (ec9 rfl X0) rfl (Xk5 c.ps B _ J2 _ hS) ?_));rintro _ w ⟨rfl,hS⟩;have hu0:(X50 c.us 0 []).1=0:=by rw [← hf9]; simpa using hb27
 obtain ⟨ub,rfl,hTab⟩:=hy9 (by omega);refine .q 1 rfl (.nil ?_);refine .cond rfl (fun hb32=>?_) fun hb32=>?_
 ·refine .seq (.q 2 rfl (.ret (X1e Qr47 rfl rfl ?_)));have hE:X5w c=1:=by rw [X5w,if_neg (by rw [hw0]; decide),if_neg (by rw [hu0]; decide),if_pos (by simpa using hb32)]
  exact ⟨_,rfl,J2,hJ.trans hJ2,.inl ⟨by rw [hE]; decide,by rw [hE]; rfl,hS.drop (k:=0) rfl⟩⟩
 refine .skip (.seq (.drawn (fun w=>∃ R,Sat B w J2 (blk b1 [.slice a c.svs.length cap,.slice ua c.us.length ucap,I64 (c.ps 0),I64 (c.ps 1),I64 (c.ps 2),I64 (c.ps 3),I64 (c.ps 4),I64 (c.ps 5),I64 (c.ps 6),I64 (c.ps 7),I64 (c.ps 8),I64 (c.ps 9),I64 (c.ps 10),I64 (c.ps 11),I64 (c.ps 12),I64 (c.ps 13),I64 (c.ps 14),I64 (c.ps 15),I64 (c.ps 16),I64 (c.ps 17),I64 (c.ps 18),I64 (c.ps 19),I64 (c.ps 20),I64 c.room,F64 c.base,F64 c.factor,F64 c.most,I64 c.tries] 29::R)) (fun j=>!([].contains j)) (by kernel_rfl) ?_));replace hS:=hS.drew; generalize w.drew=w at hS ⊢;have hH:=(hS.pick 0 rfl)
 refine .tp (i:=0) rfl (by kernel_rfl) (fun w=>(.fo 23 rfl Xe2 rfl rfl Qs3 rfl)) rfl (.tk (i:=1) rfl (by kernel_rfl) ⟨_,hH⟩ (fun w ⟨R,hS⟩=>(.lo rfl hS (k:=0) rfl Qg3 rfl)) rfl (.tp (i:=4) rfl (by kernel_rfl) (fun w=>(.mo rfl)) rfl (.tp (i:=5) rfl (by kernel_rfl) (fun w=>(.mo rfl)) rfl ?_)));refine .tp (i:=6) rfl (by kernel_rfl) (fun w=>(.fo 2 rfl Xe2 rfl rfl Xka rfl)) rfl (.tk (i:=7) rfl (by kernel_rfl) ⟨_,hH⟩ (fun w ⟨R,hS⟩=>.lds (vs:=[I64 (c.ps 0),I64 (c.ps 1),I64 (c.ps 2),I64 (c.ps 3),I64 (c.ps 4),I64 (c.ps 5),I64 (c.ps 6),I64 (c.ps 7),I64 (c.ps 8),I64 (c.ps 9),I64 (c.ps 10),I64 (c.ps 11),I64 (c.ps 12),I64 (c.ps 13),I64 (c.ps 14),I64 (c.ps 15),I64 (c.ps 16),I64 (c.ps 17),I64 (c.ps 18),I64 (c.ps 19),I64 (c.ps 20)]) (.of rfl) hS (k:=0) rfl Xth Xka rfl (fun j v hj=>Xkg (A:=[.slice a c.svs.length cap,.slice ua c.us.length ucap]) (C:=[I64 c.room,F64 c.base,F64 c.factor,F64 c.most,I64 c.tries]) hj)) rfl (.b1 2 (by kernel_rfl) rfl (.call Tryz.func105 rfl (ec9 rfl X0) rfl (Xfu c.room B _ J2 _ hS) ?_)));rintro _ w ⟨tb,rfl,hS⟩;refine .nil ?_;clear hH;have hH:=(hS.pick 2 rfl)
 refine ⟨fun _ _=>⟨_,hH⟩,?_⟩;refine .b1 3 (by kernel_rfl) rfl (.call Tryz.func106 rfl (ec9 rfl X0) rfl (Xfr B _ J2 _ hS) ?_);rintro _ w ⟨mb,rfl,hS⟩;refine .nil ?_;clear hH;have hH:=(hS.pick 4 rfl)
 refine ⟨fun _ _=>⟨_,hH⟩,?_⟩;refine .tp (i:=8) rfl (by kernel_rfl) (fun w=>(.build (cs:=[_,_,_,_,_,_,_,_,_,_,_,_,_,_,_,_,_,_,_,_,_,_,_,_,_,_]) (pc9 rfl (pc9 rfl (pc9 rfl (pc9 rfl (pc9 rfl X4))))) Xot rfl)) rfl (.b1 9 (by kernel_rfl) rfl (.boxA (cs:=[_,_,_,_,_,_,_,_,_,_,_,_,_,_,_,_,_,_,_,_,_,_,_,_,_,_]) hS (.of rfl) rfl ?_));intro b42 w hS;refine .nil ?_;clear hH;have hH:=(hS.pick 5 rfl)
 refine ⟨fun _ _=>⟨_,hH⟩,?_⟩;refine .tp (i:=10) rfl (by kernel_rfl) (fun w=>(.ao rfl)) rfl (.tp (i:=11) rfl (by kernel_rfl) (fun w=>(.ao rfl)) rfl (.done (by kernel_rfl) (.ret (X1e Qr47 rfl rfl ?_))));have hE:X5w c=0:=by rw [X5w,if_neg (by rw [hw0]; decide),if_neg (by rw [hu0]; decide),if_neg (by simpa using hb32)]
 have hp:=Xmh hOrd;refine ⟨_,rfl,J2,hJ.trans hJ2,.inr ⟨hE,⟨b42,tb,mb,ub,pr,X2q c.svs D,c.us,c.ps⟩,D,hOrd,rfl,rfl,rfl,rfl,⟨hreg.mono hJ2,hTab,?_,fun s hs=>(hc.sfit s (hp s hs)).2.2,hc.ufit,fun u hu=>X9x (Xn4 c.us 0 [] hu0 u hu),(hK.mono hJ).mono hJ2,(hP.mono hJ).mono hJ2⟩,?_⟩⟩
 ·show (X2q c.svs D).length≤100000
  rw [X2q,Y10,hOrd.len]; exact hc.svs
 ·exact Sat.box (T:=wdT ⟨b42,tb,mb,ub,pr,X2q c.svs D,c.us,c.ps⟩ (w0 c)) (none,0,none,0) ((((((hS.pick 2 rfl).pick 2 rfl).pick 4 rfl).pick 4 rfl).pick 4 rfl).drop (k:=5) rfl)
structure Sx where
 user:List UInt8
 attrs:List Pr
 proxies:List (List UInt8)
 iou:List UInt8
def SxAt (J:Im) (x:Sx) (cs:List Value):Prop:=∃ ka kc pa pc,cs=[S x.user,.slice ka x.attrs.length kc,.slice pa x.proxies.length pc,S x.iou]∧x.attrs.length≤kc∧RS J ka 2 x.attrs.length (X12 X1f x.attrs)∧x.proxies.length≤pc∧RS J pa 1 x.proxies.length (x.proxies.map S)
theorem SxAt.mono {I J:Im} {x:Sx} {cs:List Value} (h:SxAt I x cs) (hl:Le I J):SxAt J x cs:=by
 obtain ⟨ka,kc,pa,pc,e,h1,h2,h3,h4⟩:=h;exact ⟨ka,kc,pa,pc,e,h1,h2.mono hl,h3,h4.mono hl⟩
theorem Ex.sub3U {P:Program} {n:Nat} {L:Env} {w:World} {d:Option Nat} {ty t:TypeId} {pos:String} {af:Array Edge} {g:Option (Nat×Bool)} {x y z:Operand} {l:List UInt8} {i j:Int} (hx:Ev n L x (S l)) (hy:Ev n L y (U64 i)) (hz:Ev n L z (U64 j)) (h0:0≤i) (h1:i≤j) (h2:j≤(l.length:Int)) (hT:P.underlying t=some .string) :
  Ex P n L w ⟨d,.slice t x (some y) (some z) none,ty,pos,af,g⟩ (S ((l.drop i.toNat).take (j.toNat - i.toNat))) w:=fun a ha=>by
 have h:=run_slice_string (P:=P) w t ⟨l.toArray⟩ .u64 .u64 i j hT h0 h1 h2;rw [X9v] at h;simp [execOp,hx a ha,hy a ha,hz a ha,run_sliceAt_string w t _ _ _ _ hT,h]
def Xbg (r:Rec):Bool:=(((decide ((r.name.length:Int)≤60) && decide ((r.parent.length:Int)≤60)) && decide ((r.user.length:Int)≤120)) && decide ((r.service.length:Int)≤120)) && decide ((r.url.length:Int)≤120)
def bigP (y:Pr):Bool:=decide ((80:Int)<(y.1.length:Int)) || decide ((80:Int)<(y.2.length:Int))
def bigU (u:Us):Bool:=(decide ((20:Int)<(u.attrs.length:Int)) || decide ((80:Int)<(u.name.length:Int))) || decide ((80:Int)<(u.pw.length:Int))
def Xfj (u:Us):Bool:=!bigU u && u.attrs.all fun y=>!bigP y
def fewU (l:List Us):Bool:=l.all Xfj && decide ((l.length:Int)≤20)
def fewC (c:Cf):Bool:=few c.svs && fewU c.us
theorem X5s {α:Type} {cells:α→List Value} {s:Nat} (hc:∀ x,(cells x).length=s) {I:Im} {a:Option Addr} {l:List α} (hR:RS I a s l.length (X12 cells l)) {i:Nat} {x:α} (hx:l[i]?=some x):∃ q,a=some q∧At I (q.add (i*s)) (cells x):=by
 obtain ⟨q,rfl,hq⟩:=hR.2 (by have:=(Y5.1 hx).1; omega);refine ⟨q,rfl,?_⟩;have h3:=X3m (hq.add (i*s)) s;rw [X12,X1s (l.map cells) (fun c h=>by obtain ⟨y,_,rfl⟩:=Y28.1 h; exact hc y) i (cells x) (by rw [Yy,hx]; rfl)] at h3;exact h3
theorem Xjv (r:Rec) (B w:World) (I:Im) (As:List X7) (hS:Sat B w I As) :
  Cz 45 [.agg (X5 r).toArray] w fun v w'=>v=.bool (Xbg r)∧Sat B w' I As:=by
 refine calls Tryz.func45 rfl Tryz.ntmps45 rfl (.seq (.region (.boxA (cs:=[_,_,_,_,_,_,_,_,_,_]) hS (.of rfl) rfl ?_)));intro b1 w hS;refine .q 1 rfl (.nil (.seq (.region ?_)));refine .val (.fo 1 rfl Xr rfl rfl Qs9 rfl) rfl (.val (.lo rfl hS (k:=0) rfl Qg9 rfl) rfl (.run 3 rfl ⟨Qu9,trivial⟩ (.gval rfl rfl (fun hg1=>(by exact .fo 2 rfl Xr rfl rfl Qs9 rfl)) rfl ?_)));refine .gval rfl rfl (fun hg1=>(by exact (.ld (.gd hg1 rfl) hS (k:=0) rfl Qg9 rfl))) rfl ?_;refine .gval rfl rfl (fun hg1=>(.len (.gd hg1 rfl) Qu9)) rfl (.gval rfl rfl (fun hg1=>(.leq (.gd hg1 rfl) (.of rfl))) rfl (.val (.pa rfl rfl rfl) rfl (.q 1 rfl ?_)));refine .gval rfl rfl (fun hg1=>(by exact .fo 3 rfl Xr rfl rfl Qs9 rfl)) rfl ?_;refine .gval rfl rfl (fun hg1=>(by exact (.ld (.gd hg1 rfl) hS (k:=0) rfl Qg9 rfl))) rfl ?_;refine .gval rfl rfl (fun hg1=>(.len (.gd hg1 rfl) Qu9)) rfl (.gval rfl rfl (fun hg1=>(.leq (.gd hg1 rfl) (.of rfl))) rfl (.val (.pa rfl rfl rfl) rfl (.q 1 rfl ?_)));refine .gval rfl rfl (fun hg1=>(by exact .fo 4 rfl Xr rfl rfl Qs9 rfl)) rfl ?_;refine .gval rfl rfl (fun hg1=>(by exact (.ld (.gd hg1 rfl) hS (k:=0) rfl Qg9 rfl))) rfl ?_;refine .gval rfl rfl (fun hg1=>(.len (.gd hg1 rfl) Qu9)) rfl (.gval rfl rfl (fun hg1=>(.leq (.gd hg1 rfl) (.of rfl))) rfl (.val (.pa rfl rfl rfl) rfl (.q 1 rfl ?_)));refine .gval rfl rfl (fun hg1=>(by exact .fo 5 rfl Xr rfl rfl Qs9 rfl)) rfl ?_;refine .gval rfl rfl (fun hg1=>(by exact (.ld (.gd hg1 rfl) hS (k:=0) rfl Qg9 rfl))) rfl ?_;refine .gval rfl rfl (fun hg1=>(.len (.gd hg1 rfl) Qu9)) rfl (.gval rfl rfl (fun hg1=>(.leq (.gd hg1 rfl) (.of rfl))) rfl (.val (.pa rfl rfl rfl) rfl (.q 1 rfl (.nil (.ret (X9 Tryz.results45 rfl ?_))))));exact ⟨_,rfl,rfl,hS.drop (k:=0) rfl⟩
theorem Xq7 (a:Option Addr) (cap:Nat) (l:List Us) (hln:l.length≤9223372036854775807) (hfit:∀ u∈l,u.fits) (B w:World) (I:Im) (hU:UsrsAt I a l) (As:List X7) (hS:Sat B w I As) :
  Cz 101 [.slice a l.length cap] w fun v w'=>v=.bool (fewU l)∧Sat B w' I As:=by
 refine calls Tryz.func101 rfl Tryz.ntmps101 rfl (.seq (.q 1 rfl (.seq (.seq (.q 1 rfl (.block (.loop (σ:=Nat) (fun i=>[(0,.slice a l.length cap),(3,I64 (i:Nat))]) (fun i w=>i≤l.length∧(∀ (j:Nat) u,j<i→l[j]?=some u→Xfj u=true)∧Sat B w I As) (fun i=>l.length - i) 0 ⟨rfl,rfl,trivial⟩ ⟨Yo _,fun _ _ h=>absurd h (by omega),hS⟩ ?_)))))));rintro i w ⟨hi,hno,hS⟩;refine .seq (.seq (.region (.run 4 rfl ⟨⟨_,Xfy⟩,trivial⟩ (.nil ?_))));refine .cond rfl (fun hb8=>?_) fun hb8=>?_
 ·have hc8:=hb8; simp only [Y6] at hc8;refine .skip (.seq (.block (.seq (.seq ?_))));obtain ⟨u,hu⟩:∃ u,l[i]?=some u:=⟨_,Y4 (by omega)⟩
  obtain ⟨p,ra,rc,hap,hx,hrc,hRR⟩:=hU i u hu;have hfu:=(hfit u (Yi hu)).attrs.1;subst hap;unfold X3l at hx;refine .t 2 rfl (.val (.ii rfl rfl (by omega) (by omega) Xfy X5z) rfl (.val (.fi 2 rfl X2l rfl rfl Xkc rfl) rfl (.val (.ldI (.of rfl) hS (At.add hx _) Xnq rfl) rfl (.run 3 rfl ⟨⟨_,Xex⟩,trivial⟩ (.gm rfl rfl rfl rfl (.gm rfl rfl rfl rfl ?_))))));refine .gval rfl rfl (fun hg1=>(by exact .indexAddrI (.gd hg1 rfl) (.gd hg1 rfl) (by (try simp only [Y6] at hg1); omega) (by (try simp only [Y6] at hg1); omega) Xfy X5z)) rfl ?_;refine .gval rfl rfl (fun hg1=>(by exact .fieldAddrI 0 (.gd hg1 rfl) X2l rfl rfl Qs9 rfl)) rfl ?_;refine .gval rfl rfl (fun hg1=>(by exact (.ldI (.gd hg1 rfl) hS (At.add hx _) Qg9 rfl))) rfl ?_;refine .gval rfl rfl (fun hg1=>(.len (.gd hg1 rfl) Qu9)) rfl (.gval rfl rfl (fun hg1=>(.gtr (.gd hg1 rfl) (.of rfl))) rfl (.val (.po rfl rfl rfl) rfl (.q 1 rfl (.gm rfl rfl rfl rfl (.gm rfl rfl rfl rfl ?_)))));refine .gval rfl rfl (fun hg1=>(by exact .indexAddrI (.gd hg1 rfl) (.gd hg1 rfl) (by (try simp only [Y6] at hg1); omega) (by (try simp only [Y6] at hg1); omega) Xfy X5z)) rfl ?_;refine .gval rfl rfl (fun hg1=>(by exact .fieldAddrI 1 (.gd hg1 rfl) X2l rfl rfl Qs9 rfl)) rfl ?_;refine .gval rfl rfl (fun hg1=>(by exact (.ldI (.gd hg1 rfl) hS (At.add hx _) Qg9 rfl))) rfl ?_;refine .gval rfl rfl (fun hg1=>(.len (.gd hg1 rfl) Qu9)) rfl (.gval rfl rfl (fun hg1=>(.gtr (.gd hg1 rfl) (.of rfl))) rfl (.val (.po rfl rfl rfl) rfl (.nil ?_)));refine .cond rfl (fun hb35=>?_) fun hb35=>?_
  ·refine .seq (.q 1 rfl (.ret (X9 Xsr rfl ?_)));refine ⟨_,rfl,congrArg Value.bool ?_,hS⟩
   have:l.all Xfj=false:=Y2e.2 ⟨u,Yi hu,by
    rw [Xfj,show bigU u=true from hb35,Bool.not_true,Y58]; decide⟩
   rw [fewU,this]; rfl
  have hc35:=hb35; simp only [Y6] at hc35;refine .skip (.seq (.q 1 rfl (.block (.loop (σ:=Nat) (fun k=>[(0,.slice (some p) l.length cap),(3,I64 (i:Nat)),(4,I64 (k:Nat))]) (fun k w=>k≤u.attrs.length∧(∀ (j:Nat) y,j<k→u.attrs[j]?=some y→bigP y=false)∧Sat B w I As) (fun k=>u.attrs.length - k) 0 ⟨rfl,rfl,rfl,trivial⟩ ⟨Yo _,fun _ _ h=>absurd h (by omega),hS⟩ ?_))));rintro k w ⟨hk,hny,hS⟩;refine .seq (.seq (.t 3 rfl ?_));refine .val (.ii rfl rfl (by omega) (by omega) Xfy X5z) rfl (.val (.fi 2 rfl X2l rfl rfl Xkc rfl) rfl (.val (.ldI (.of rfl) hS (At.add hx _) Xnq rfl) rfl (.run 2 rfl ⟨⟨_,Xex⟩,trivial⟩ (.nil ?_))));refine .cond rfl (fun hb43=>?_) fun hb43=>?_
  ·have hc43:=hb43; simp only [Y6] at hc43;refine .skip (.seq (.block (.seq ?_)));obtain ⟨y,hy0⟩:∃ y,u.attrs[k]?=some y:=⟨_,Y4 (by omega)⟩
   obtain ⟨q,hq9,hy⟩:=X5s (cells:=X1f) (s:=2) (fun _=>rfl) hRR hy0;subst hq9;unfold X1f at hy;refine .t 2 rfl (.val (.ii rfl rfl (by omega) (by omega) Xfy X5z) rfl (.val (.fi 2 rfl X2l rfl rfl Xkc rfl) rfl (.val (.ldI (.of rfl) hS (At.add hx _) Xnq rfl) rfl (.q 1 rfl (.val (.ii rfl rfl (by omega) (by omega) Xex X8t) rfl (.val (.fi 0 rfl Xa2 rfl rfl Qs9 rfl) rfl (.val (.ldI (.of rfl) hS (At.add hy _) Qg9 rfl) rfl (.run 3 rfl ⟨Qu9,trivial⟩ (.gm rfl rfl rfl rfl (.gm rfl rfl rfl rfl ?_))))))))));refine .gval rfl rfl (fun hg1=>(by exact .indexAddrI (.gd hg1 rfl) (.gd hg1 rfl) (by (try simp only [Y6] at hg1); omega) (by (try simp only [Y6] at hg1); omega) Xfy X5z)) rfl ?_;refine .gval rfl rfl (fun hg1=>(by exact .fieldAddrI 2 (.gd hg1 rfl) X2l rfl rfl Xkc rfl)) rfl ?_;refine .gval rfl rfl (fun hg1=>(by exact (.ldI (.gd hg1 rfl) hS (At.add hx _) Xnq rfl))) rfl ?_;refine .gm rfl rfl rfl rfl (.gval rfl rfl (fun hg1=>(by exact .indexAddrI (.gd hg1 rfl) (.gd hg1 rfl) (by (try simp only [Y6] at hg1); omega) (by (try simp only [Y6] at hg1); omega) Xex X8t)) rfl ?_);refine .gval rfl rfl (fun hg1=>(by exact .fieldAddrI 1 (.gd hg1 rfl) Xa2 rfl rfl Qs9 rfl)) rfl ?_;refine .gval rfl rfl (fun hg1=>(by exact (.ldI (.gd hg1 rfl) hS (At.add hy _) Qg9 rfl))) rfl ?_;refine .gval rfl rfl (fun hg1=>(.len (.gd hg1 rfl) Qu9)) rfl (.gval rfl rfl (fun hg1=>(.gtr (.gd hg1 rfl) (.of rfl))) rfl (.val (.po rfl rfl rfl) rfl (.nil ?_)));refine .cond rfl (fun hb69=>?_) fun hb69=>?_
   ·refine .seq (.q 1 rfl (.ret (X9 Xsr rfl ?_)));refine ⟨_,rfl,congrArg Value.bool ?_,hS⟩
    have:l.all Xfj=false:=Y2e.2 ⟨u,Yi hu,by
     have:u.attrs.all (fun y=>!bigP y)=false:=Y2e.2 ⟨y,Yi hy0,by
      rw [show bigP y=true from hb69]; decide⟩
     rw [Xfj,this,Y3n]; decide⟩
    rw [fewU,this]; rfl
   have hc69:=hb69; simp only [Y6] at hc69;refine .skip (.region (.run 3 rfl ⟨⟨by omega,by omega⟩,trivial⟩ (.nil ?_)));refine ⟨k+1,⟨rfl,rfl,rfl,trivial⟩,⟨by (try dsimp only); omega,fun j t hj ht=>?_,hS⟩,by (try dsimp only); omega⟩;rcases Yr j k with h1 | h1
   ·exact hny j t h1 ht
   ·have e:j=k:=by omega
    subst e;rw [hy0] at ht; cases ht;exact hb69
  have hc43:=hb43; simp only [Y6] at hc43;refine .exit (.region (.run 3 rfl ⟨⟨by omega,by omega⟩,trivial⟩ (.nil ?_)));refine ⟨i+1,⟨rfl,rfl,trivial⟩,⟨by (try dsimp only); omega,fun j t hj ht=>?_,hS⟩,by (try dsimp only); omega⟩;rcases Yr j i with h1 | h1
  ·exact hno j t h1 ht
  ·have e:j=i:=by omega
   subst e;rw [hu] at ht; cases ht;have e1:bigU u=false:=hb35;rw [Xfj,e1,Y41,Y2u,Y1b];intro y hy;obtain ⟨q,hq⟩:=Yx.1 hy
   have:=(Y5.1 hq).1
   rw [hny q y (by omega) hq]; rfl
 have hc8:=hb8; simp only [Y6] at hc8;refine .exit (.seq (.region (.run 4 rfl ⟨⟨_,Xfy⟩,trivial⟩ (.nil (.ret (X9 Xsr rfl ?_))))));refine ⟨_,rfl,congrArg Value.bool ?_,hS⟩
 have:l.all Xfj=true:=by
  rw [Y1b];intro u hu;obtain ⟨q,hq⟩:=Yx.1 hu
  have:=(Y5.1 hq).1
  exact hno q u (by omega) hq
 rw [fewU,this,Y2u]
set_option maxRecDepth 20000 in
theorem Xpm (c:Cf) (a:Option Addr) (cap:Nat) (ua:Option Addr) (ucap:Nat) (hcap:c.svs.length≤cap) (hcm:cap≤maxLen) (hun:c.us.length≤9223372036854775807) (hfit:∀ u∈c.us,u.fits) (B w:World) (I:Im) (hl:SvsAt I a c.svs) (hU:UsrsAt I ua c.us) (As:List X7) (hS:Sat B w I As) :
  Cz 46 [.agg (Xl c a cap ua ucap).toArray] w fun v w'=>v=.bool (fewC c)∧Sat B w' I As:=by
 refine calls Tryz.func46 rfl Tryz.ntmps46 rfl (.seq (.region (.boxA (cs:=[_,_,_,_,_,_,_,_,_,_,_,_,_,_,_,_,_,_,_,_,_,_,_,_,_,_,_,_]) hS (.of rfl) rfl ?_)));intro b1 w hS;refine .q 1 rfl (.nil (.seq (.region ?_)));refine .val (.fo 0 rfl Xe2 rfl rfl Qs22 rfl) rfl (.val (.lo rfl hS (k:=0) rfl Qg22 rfl) rfl (.call Tryz.func100 rfl (ec9 rfl X0) rfl (Xuk a cap c.svs hcap hcm B _ I hl _ hS) ?_));rintro _ w ⟨rfl,hS⟩;refine .q 1 rfl (.nil (.seq (.region ?_)));refine .val (.fo 1 rfl Xe2 rfl rfl Tryz.sizeOf23 rfl) rfl (.val (.lo rfl hS (k:=0) rfl Tryz.isAgg23 rfl) rfl (.call Tryz.func101 rfl (ec9 rfl X0) rfl (Xq7 ua ucap c.us hun hfit B _ I hU _ hS) ?_));rintro _ w ⟨rfl,hS⟩;refine .q 1 rfl (.nil (.seq (.t 2 rfl (.gm rfl rfl rfl rfl (.val (.pa rfl rfl rfl) rfl (.q 1 rfl (.nil (.ret (X9 Tryz.results46 rfl ?_)))))))));exact ⟨_,rfl,rfl,hS.drop (k:=0) rfl⟩
theorem X4e (k:Int) (B w:World) (I:Im) (As:List X7) (hS:Sat B w I As) :
  Cz 129 [I64 k] w fun v w'=>v=S (X39 k)∧Sat B w' I As:=by
 refine calls Xpc rfl Tryz.ntmps129 rfl (.seq (.q 1 rfl (.seq (.seq (.q 1 rfl (.block (.seq (.q 2 rfl ?_))))))));refine .cond rfl (fun hb4=>?_) fun hb4=>?_
 ·refine .seq (.q 1 rfl (.ret (X9 Xg2 rfl ?_)));refine ⟨_,rfl,congrArg S ?_,hS⟩;simp only [beq_iff_eq,beq_eq_false_iff_ne] at *
  subst_vars; rfl
 refine .seq (.q 2 rfl ?_);refine .cond rfl (fun hb6=>?_) fun hb6=>?_
 ·refine .seq (.q 1 rfl (.ret (X9 Xg2 rfl ?_)));refine ⟨_,rfl,congrArg S ?_,hS⟩;simp only [beq_iff_eq,beq_eq_false_iff_ne] at *
  subst_vars; rfl
 refine .seq (.q 2 rfl ?_);refine .cond rfl (fun hb8=>?_) fun hb8=>?_
 ·refine .seq (.q 1 rfl (.ret (X9 Xg2 rfl ?_)));refine ⟨_,rfl,congrArg S ?_,hS⟩;simp only [beq_iff_eq,beq_eq_false_iff_ne] at *
  subst_vars; rfl
 refine .seq (.q 2 rfl ?_);refine .cond rfl (fun hb10=>?_) fun hb10=>?_
 ·refine .seq (.q 1 rfl (.ret (X9 Xg2 rfl ?_)));refine ⟨_,rfl,congrArg S ?_,hS⟩;simp only [beq_iff_eq,beq_eq_false_iff_ne] at *
  subst_vars; rfl
 refine .seq (.q 2 rfl ?_);refine .cond rfl (fun hb12=>?_) fun hb12=>?_
 ·refine .seq (.q 1 rfl (.ret (X9 Xg2 rfl ?_)));refine ⟨_,rfl,congrArg S ?_,hS⟩;simp only [beq_iff_eq,beq_eq_false_iff_ne] at *
  subst_vars; rfl
 refine .seq (.q 2 rfl ?_);refine .cond rfl (fun hb14=>?_) fun hb14=>?_
 ·refine .seq (.q 1 rfl (.ret (X9 Xg2 rfl ?_)));refine ⟨_,rfl,congrArg S ?_,hS⟩;simp only [beq_iff_eq,beq_eq_false_iff_ne] at *
  subst_vars; rfl
 refine .skip (.seq (.q 1 rfl (.ret (X9 Xg2 rfl ?_))));refine ⟨_,rfl,congrArg S ?_,hS⟩;simp only [beq_iff_eq,beq_eq_false_iff_ne] at *
 (rw [X39,if_pos (by omega)])
theorem Xor {n:Nat} (h:n<16):(HEXD.drop n).take 1=[dg n]:=(by decide:∀ n:Fin 16,(HEXD.drop n.val).take 1=[dg n.val]) ⟨n,h⟩
theorem Xai (kind:Int) (d:Nat) (hd:d<18446744073709551616) (B w:World) (I:Im) (As:List X7) (hS:Sat B w I As) :
  Cz 99 [I64 kind,U64 (d:Nat)] w fun v w'=>v=(if X39 kind=[] then .tuple #[S [],I64 8] else .tuple #[S (X39 kind ++ 45::X49 16 d),I64 0])∧Sat B w' I As:=by
 refine calls Tryz.func99 rfl Tryz.ntmps99 rfl (.seq (.q 2 rfl (.seq (.t 1 rfl (.call Xpc rfl (ec9 rfl X0) rfl (X4e kind B _ I _ hS) ?_)))));rintro _ w ⟨rfl,hS⟩;refine .q 1 rfl (.nil (.seq (.seq (.q 2 rfl ?_))));refine .cond rfl (fun hb13=>?_) fun hb13=>?_
 ·refine .seq (.q 2 rfl (.ret (X1e Tryz.results99 rfl rfl ?_)));exact ⟨_,rfl,by rw [if_pos (by simpa using hb13)],hS⟩
 have hc13:=hb13; simp only [Y6] at hc13;refine .skip (.seq (.q 1 rfl (.seq (.q 1 rfl (.seq (.seq (.q 1 rfl (.block (.loop (σ:=Nat×Nat) (fun ⟨i,e⟩=>[(1,U64 (e:Nat)),(6,S (X39 kind)),(7,S HEXD),(8,S (X49 i d)),(9,I64 (i:Nat))]) (fun ⟨i,e⟩ w=>i≤16∧e=d / 16 ^ i∧Sat B w I As) (fun ⟨i,e⟩=>16 - i) (0,d) ⟨rfl,rfl,rfl,rfl,rfl,trivial⟩ ⟨Yo _,by simp,hS⟩ ?_)))))))));rintro ⟨i,e⟩ w ⟨hi,he,hS⟩;refine .seq (.seq (.q 2 rfl ?_));refine .cond rfl (fun hb15=>?_) fun hb15=>?_
 ·have hc15:=hb15; simp only [Y6] at hc15;refine .skip (.seq (.block (.seq ?_)));have hed:e<18446744073709551616:=by rw [he]; exact Y3u (Y55 _ _) hd
  have hdl:=X45 i d;have hm16:=Y3c e (show 0<16 by decide);have hcast:((e:Nat):Int) % 16=((e % 16:Nat):Int):=by omega
  have htk:=Xor hm16;have hsl:(HEXD.drop ((e:Int) % 16).toNat).take (((e:Int) % 16+1).toNat - ((e:Int) % 16).toNat)=[dg (e % 16)]:=by
   rw [hcast,Ym,show (((e % 16:Nat):Int)+1).toNat - e % 16=1 by omega]; exact htk
  have hcons:[dg (e % 16)] ++ X49 i d=X49 (i+1) d:=by rw [Xap,he]; rfl
  have hquo:((e:Nat):Int) / 16=((e / 16:Nat):Int):=by omega
  have hee:e / 16=d / 16 ^ (i+1):=by rw [he,Y3d,Y2g]
  refine .t 2 rfl (.val (.rem (.of rfl) (.of rfl) (by omega) (by omega)) rfl (.q 1 rfl (.val (.rem (.of rfl) (.of rfl) (by omega) (by omega)) rfl ?_)));refine .val (.addx (.of rfl) (.of rfl) (by rw [IntKind.wrap_u64]; omega)) rfl (.val (Ex.sub3U (.of rfl) (.of rfl) (.of rfl) (by omega) (by omega) (by show _≤(16:Int); omega) Qu9) rfl ?_);rw [hsl];refine .q 1 rfl (.val (.cat (.of rfl) (.of rfl) (by (try simp only [Y0,Y8,Yj]); omega)) rfl ?_);rw [hcons];refine .q 1 rfl (.nil (.t 1 rfl ?_));refine .val (.quo (.of rfl) (.of rfl) (by omega) (by omega) (by rw [IntKind.wrap_u64]; omega)) rfl ?_;rw [hquo];refine .q 1 rfl (.nil (.region (.run 3 rfl ⟨⟨by omega,by omega⟩,trivial⟩ (.nil ?_))));refine ⟨(i+1,e / 16),⟨rfl,rfl,rfl,rfl,rfl,trivial⟩,⟨by (try dsimp only); omega,hee,hS⟩,by (try dsimp only); omega⟩
 have hc15:=hb15; simp only [Y6] at hc15;refine .exit (.seq ?_);have hpl:=X9y kind;have hdl:=X45 i d;refine .region (.run 6 rfl ⟨by (try simp only [Y0,Y8,Yj]); omega,by (try simp only [Y0,Y8,Yj]); omega,trivial⟩ (.nil (.ret (X1e Tryz.results99 rfl rfl ?_))));have e16:i=16:=by omega
 subst e16;refine ⟨_,rfl,by rw [if_neg (by simpa using hb13),Yf]; rfl,hS⟩
end Go.Proofs.YtfibbpgikjggfaaGreatDoor
namespace Go.Proofs.YtfibbpgikjggfaaGreatDoor
open Gk Pat
theorem Xmg {l:List Sv} (h:few l=true):l.length≤20∧∀ s∈l,s.rel.length≤20:=by
 unfold few at h;simp only [Yq,decide_eq_true_eq] at h
 refine ⟨by omega,fun s hs=>?_⟩
 have:=Y1b.1 h.1 s hs
 unfold Xs9 at this;simp only [Y33,Y15,decide_eq_false_iff_not] at this
 omega
theorem Xob {l:List Sv} (h:∀ s∈l,s.fits):∀ v∈ords l,v<18446744073709551616:=fun v hv=>by
 obtain ⟨s,hs,rfl⟩:=Y28.1 hv;exact (h s hs).ord
theorem Xq1 {l:List Sv} (h:∀ s∈l,s.fits) (hr:∀ s∈l,s.rel.length≤20):∀ s∈l,s.urls.length≤9223372036854775807∧s.calls.length≤9223372036854775807∧s.rel.length≤1000000:=fun s hs=>by
 have h1:=(h s hs).urls;have h2:=(h s hs).calls;have h3:=hr s hs;unfold maxLen at h1 h2;exact ⟨by omega,by omega,by omega⟩
theorem X8s (l:List Sv):∀ (r:List Sv) (i:Nat),(X48 l i r).1=0→∀ (j:Nat) t,r[j]?=some t→bad l (i+j) t=0
 | [],_,_,j,t,h=>by simp at h
 | s::r,i,h,j,t,ht=>by
  rw [X48] at h;split at h
  ·rename_i hb; exact absurd h hb
  ·rename_i hb
   cases j with
   | zero=>simp at ht; subst ht; simpa using hb
   | succ j =>
    have:=X8s l r (i+1) h j t (by simpa using ht)
    rw [show i+(j+1)=i+1+j by omega]; exact this
theorem Xbr {l:List Sv} (h:(X3a l).1=0) (j:Nat) (t:Sv) (ht:l[j]?=some t):bad l j t=0:=by
 have:=X8s l l 0 h j t ht
 rw [Yd] at this; exact this
theorem Xim {l:List Sv} {i:Nat} {s:Sv} (h:bad l i s=0):i≠16∧(l.take i).any (fun t=>t.id == s.id)=false∧(chk s.urls).1=0∧(chk s.calls).1=0:=by
 unfold bad at h;split at h
 ·cases h
 ·rename_i h16
  split at h
  ·cases h
  ·split at h
   ·cases h
   ·rename_i h7
    split at h
    ·cases h
    ·rename_i h8
     simp only [Y1j,not_or,bne_iff_ne,ne_eq,Decidable.not_not] at h8
     exact ⟨h16,by simpa using h7,h8.1,h8.2⟩
theorem Xia {l:List Sv} (h:(X3a l).1=0):right l:=fun s hs=>by
 obtain ⟨j,hj⟩:=Yx.1 hs;obtain ⟨_,_,h1,h2⟩:=Xim (Xbr h j s hj);exact ⟨Xbt h1,Xbt h2⟩
theorem Xtk {l:List Sv} (h:(X3a l).1=0) {i j:Nat} {s t:Sv} (hi:l[i]?=some s) (hj:l[j]?=some t) (he:s.id=t.id):s=t:=by
 have key:∀ (i j:Nat) (s t:Sv),i<j→l[i]?=some s→l[j]?=some t→s.id≠t.id:=fun i j s t hij hi hj he=>by
  have h2:=(Xim (Xbr h j t hj)).2.1;rw [Y2i] at h2
  have:=h2 s (Yi (i:=i) (by rw [Y1y,if_pos hij]; exact hi))
  simp [he] at this
 rcases Y4v i j with h1 | h1 | h1
 ·exact absurd he (key i j s t h1 hi hj)
 ·subst h1; rw [hi] at hj; exact Option.some.inj hj
 ·exact absurd he.symm (key j i t s h1 hj hi)
theorem Xoz {l:List Sv} {D:List Int} (hD:Srt.Ord (kx (ords l)) l.length D) {i:Nat} {u:Sv} (hu:(X2q l D)[i]?=some u):∃ d,D[i]?=some d∧0≤d∧l[d.toNat]?=some u:=by
 unfold X2q at hu;rw [Yy] at hu;cases hd:D[i]? with
 | none=>rw [hd] at hu; cases hu
 | some d =>
  rw [hd,Y3g] at hu;have hdr:=Srt.upto_mem.1 (hD.2.mem_iff.1 (Yi hd));refine ⟨d,rfl,hdr.1,?_⟩;rw [Yc,Y4 (show d.toNat<l.length by omega)] at hu;rw [Y4 (show d.toNat<l.length by omega)];exact hu
theorem Xhr {l:List Sv} {D:List Int} (hD:Srt.Ord (kx (ords l)) l.length D) {s:Sv}:s∈X2q l D ↔ s∈l:=by
 constructor
 ·intro h;obtain ⟨i,hi⟩:=Yx.1 h;obtain ⟨d,_,_,h2⟩:=Xoz hD hi;exact Yi h2
 ·intro h;obtain ⟨i,hi⟩:=Yx.1 h;have hil:=(Y5.1 hi).1;unfold X2q;refine Y28.2 ⟨(i:Int),hD.2.mem_iff.2 (Srt.upto_mem.2 ⟨by omega,by omega⟩),?_⟩;rw [Yc,Ym,hi]; rfl
theorem Xro {l:List Sv} {D:List Int} (s:List UInt8):Xg6 l D s=X1r (X2q l D) s:=by
 unfold Xg6 X1r X2q;rw [List.find?_map];split
 ·rfl
 ·split
  ·rfl
  ·show (match D.find? (fun d=>(X8q (l.getD d.toNat z0).urls (Ul.nU s).1).1) with
    | none=>(z0,[],31)
    | some d=>(l.getD d.toNat z0,(Ul.nU s).1,0))=(match (D.find? ((fun t=>(X8q t.urls (Ul.nU s).1).1) ∘ fun d=>l.getD d.toNat z0)).map (fun d=>l.getD d.toNat z0) with
    | none=>(z0,[],31)
    | some t=>(t,(Ul.nU s).1,0))
   rw [show ((fun t=>(X8q t.urls (Ul.nU s).1).1) ∘ fun d=>l.getD d.toNat z0)=(fun d:Int=>(X8q (l.getD d.toNat z0).urls (Ul.nU s).1).1) from rfl];cases D.find? (fun d=>(X8q (l.getD d.toNat z0).urls (Ul.nU s).1).1) <;> rfl
theorem nU_sch {s:List UInt8} (h:(Ul.nU s).2=0):∃ r,(Ul.nU s).1=(Ul.pU s).1.sch ++ 58::r∧((Ul.pU s).1.sch=Ul.http∨(Ul.pU s).1.sch=Ul.https):=by
 obtain ⟨h1,h2⟩:=nU_ok h;refine ⟨[47,47] ++ (Ul.pU s).1.host ++ (if (Ul.pU s).1.port=0 then [] else 58::Go.Lib.decDigits (Ul.pU s).1.port) ++ (Ul.pU s).1.path ++ (if (Ul.pU s).1.ask then 63::(Ul.pU s).1.query else []),?_,Xri s h1⟩;rw [h2,Ul.strU,Ul.origin]
 simp
theorem Xu1 {s:List UInt8} (h:(Ul.nU s).2=0):hasPre (Ul.nU s).1 X7g=((Ul.nU s).1.take 5 == Ul.https)∧(hasPre (Ul.nU s).1 X7g=true→(Ul.pU s).1.sch=Ul.https):=by
 obtain ⟨r,h1,h2⟩:=nU_sch h;rcases h2 with h2 | h2
 ·rw [h1,h2];refine ⟨?_,fun h=>?_⟩
  ·have e1:hasPre (Ul.http ++ 58::r) X7g=false:=by simp [hasPre,Ul.http,X7g]
   have e2:((Ul.http ++ 58::r).take 5 == Ul.https)=false:=by simp [Ul.http,Ul.https]
   rw [e1,e2]
  ·simp [hasPre,Ul.http,X7g] at h
 ·rw [h1,h2];refine ⟨?_,fun _=>rfl⟩;have e1:hasPre (Ul.https ++ 58::r) X7g=true:=by
   simp [hasPre,Ul.https,X7g]
   omega
  have e2:((Ul.https ++ 58::r).take 5 == Ul.https)=true:=by simp [Ul.https]
  rw [e1,e2]
theorem Xum {l:List Sv} {D:List Int} (hw:(X3a l).1=0) (hD:Srt.Ord (kx (ords l)) l.length D) (id:Int) (s:List UInt8):Xfq l id s=X4r (X2q l D) id s:=by
 unfold Xfq X4r
 by_cases h0:(Ul.nU s).2=0
 ·have hp:=(Xu1 h0).1
  by_cases hc:(((((Ul.nU s).2:Int) != 0) || decide (100<((Ul.nU s).1.length:Int))) || !((Ul.nU s).1.take 5 == Ul.https))=true
  ·rw [if_pos hc];split
   ·rfl
   ·rw [hp,if_pos (by rw [hc]; rfl)]
  ·rw [if_neg hc];rw [Y1g] at hc;cases hf:(X2q l D).find? (fun t=>t.id == id) with
   | none =>
    rw [if_neg];rw [Y1g,Y2i];intro t ht
    have:=Y4r.1 hf t ((Xhr hD).2 ht)
    simp only [Y1g] at this ⊢
    rw [this]; rfl
   | some u =>
    have hu:=(Xhr hD).1 (List.mem_of_find?_eq_some hf);have hid:=List.find?_some hf;simp only [hp,hc,Y38]
    by_cases hm:(X8q u.calls (Ul.nU s).1).1=true
    ·rw [if_pos (Y1w.2 ⟨u,hu,by rw [hm,Y4z]; exact hid⟩),if_neg (by rw [hm]; decide)]
    ·rw [if_neg,if_pos (by rw [Y1g] at hm; rw [hm]; rfl)];rw [Y1g,Y2i];intro t ht;rw [Y1g];cases ht2:(t.id == id) with
     | false=>rfl
     | true =>
      obtain ⟨i,hi⟩:=Yx.1 ht;obtain ⟨j,hj⟩:=Yx.1 hu
      have:=Xtk hw hi hj (by rw [eq_of_beq ht2]; exact (eq_of_beq hid).symm)
      subst this;rw [Y2u]; rw [Y1g] at hm; exact hm
 ·rw [if_pos (by simp; exact .inl (.inl h0))];split
  ·rfl
  ·rw [if_pos (by simp; exact .inl (.inl (.inl h0)))]
end Go.Proofs.YtfibbpgikjggfaaGreatDoor
namespace Go.Proofs.YtfibbpgikjggfaaGreatDoor
open Gk Ul Pc Tk Tr
def X42 (ω:Wd) (r:Rec):Wd:={ ω with l:=add ω.room ω.l r }
theorem Xud {ω:Wd} (h:X3n ω) (r:Rec):X3n (X42 ω r):=by
 refine ⟨?_,h.wf.add,h.D,h.now,h.room⟩;show (add ω.room ω.l r).length≤64
 unfold add;split
 ·rename_i e
  have:=(Xi9 e).2.2.2
  have:=h.room
  rw [Y0,Y8,Yj]; omega
 ·exact h.len
theorem X91:∀ (l:List Rec) {ω:Wd},X3n ω→X3n (l.foldl X42 ω)
 | [],_,h=>h
 | r::l,_,h=>X91 l (Xud h r)
def MadeT (c:Cf) (ω:Wd) (J:Im) (pv:Option Addr) (B w:World) (As:List X7):Prop:=(X5w c≠0∧pv=none∧Sat B w J As)∨(X5w c=0∧∃ p D,Srt.Ord (kx (ords c.svs)) c.svs.length D∧p.lo=X2q c.svs D∧p.us=c.us∧p.ps=c.ps∧pv=some (ad p.wb 0)∧WpOk J p∧Sat B w J (wdA p ω::As))
structure CfAt (I:Im) (c:Cf) (a:Option Addr) (cap:Nat) (ua:Option Addr) (ucap:Nat):Prop where
 svs:SvsAt I a c.svs
 us:UsrsAt I ua c.us
 cap:c.svs.length≤cap∧cap≤maxLen
 un:c.us.length≤9223372036854775807
 sfit:∀ s∈c.svs,s.fits
 ufit:∀ u∈c.us,u.fits
theorem CfAt.mono {I J:Im} {c:Cf} {a ua:Option Addr} {cap ucap:Nat} (h:CfAt I c a cap ua ucap) (hl:Le I J):CfAt J c a cap ua ucap:=⟨h.svs.mono hl,h.us.mono hl,h.cap,h.un,h.sfit,h.ufit⟩
theorem Xa4 {I:Im} {c:Cf} {a ua:Option Addr} {cap ucap:Nat} (h:CfAt I c a cap ua ucap) (hf:fewC c=true):c.fits:=by
 unfold fewC at hf;simp only [Yq] at hf
 have h1:=Xmg hf.1;refine ⟨by omega,Xob h.sfit,Xq1 h.sfit h1.2,h.un,h.ufit⟩
theorem Xm2 (r s:Rec) (w:World):(Op.equalIn 10000 54 (.agg (X5 r).toArray) (.agg (X5 s).toArray)).run Tryz.prog w=.ok (decide (r=s)) w:=by
 have hS:Tryz.prog.underlying 54=some (.struct (Tryz.prog.fieldsOf 54)):=by kernel_rfl
 have hp:Tryz.prog.stoodInHeld 54=false:=by kernel_rfl
 have ui:=Qu3;have ai:=Qg3;have us:=Qu9;have as9:=Qg9;have ub:=Qu4;have ab:=Qg4;rw [show (10000:Nat)=9999+1 from rfl,run_equalIn_agg w 9999 54 _ _ hS hp];simp only [Program.fieldsOf,Xr]
 obtain ⟨k,n,pa,u,sv,ur,m,us',uc,f⟩:=r;obtain ⟨k',n',pa',u',sv',ur',m',us'',uc',f'⟩:=s;unfold X5
 go_simp
 repeat' split
 all_goals simp_all
theorem Ex.neRec {n:Nat} {L:Env} {w:World} {d:Option Nat} {ty t':TypeId} {pos:String} {af:Array Edge} {g:Option (Nat×Bool)} {x y:Operand} {r s:Rec} (hx:Ev n L x (.agg (X5 r).toArray)) (hy:Ev n L y (.agg (X5 s).toArray)):Ex Tryz.prog n L w ⟨d,.binOp .neq 54 x y t',ty,pos,af,g⟩ (.bool (!decide (r=s))) w :=
 X1a hx hy (fun p q=>run_eqGuard_agg w _ _ _ _ _ _ (by kernel_rfl)) (by rw [run_neq_struct,Xm2]; rfl)
theorem rec_in {α:Type} [BEq α] [LawfulBEq α] {l:List α} {s:α}:l.contains s=true ↔ s∈l:=by simp
def Xa3 (s:List UInt8):List Value:=[S s]
theorem rowsT (l:List (List UInt8)):X12 Xa3 l=l.map S:=by
 unfold X12
 induction l with
 | nil=>rfl
 | cons x l ih=>rw [Y1d,Y1v,ih]; rfl
theorem In_any (a:Option Addr) (c:Nat) (l:List (List UInt8)) (hl:l.length≤9223372036854775807) (s:List UInt8) (B w:World) (I:Im) (As:List X7) (hE:∀ w,Sat B w I As→Xb2 w Xa3 1 a l) (hS:Sat B w I As) :
  Cz 24 [.slice a l.length c,S s] w fun v w'=>v=.bool (l.contains s)∧Sat B w' I As:=by
 refine calls Tryz.func24 rfl Tryz.ntmps24 rfl (.seq (.q 1 rfl (.seq (.seq (.q 1 rfl (.block (.loop (σ:=Nat) (fun i=>[(0,.slice a l.length c),(1,S s),(5,I64 (i:Nat))]) (fun i w=>i≤l.length∧(∀ (j:Nat) x,j<i→l[j]?=some x→x≠s)∧Sat B w I As) (fun i=>l.length - i) 0 ⟨rfl,rfl,rfl,trivial⟩ ⟨Yo _,fun _ _ h=>absurd h (by omega),hS⟩ ?_)))))));rintro i w ⟨hi,hno,hS⟩;refine .seq (.seq (.region (.run 4 rfl ⟨⟨_,X19⟩,trivial⟩ (.nil ?_))));refine .cond rfl (fun hb9=>?_) fun hb9=>?_
 ·have hc9:=hb9; simp only [Y6] at hc9;refine .skip (.seq (.block (.seq ?_)));obtain ⟨x,hx⟩:∃ x,l[i]?=some x:=⟨_,Y4 (by omega)⟩
  obtain ⟨p,rfl,hA⟩:=hE w hS i x hx;have hc0:=hA 0 _ rfl;refine .t 2 rfl (.val (.ii rfl rfl (by omega) (by omega) X19 Qs9) rfl (.val (v:=S x) (.ld1 (.of rfl) (by simpa [Addr.add_add] using hc0) Qg9) rfl (.q 2 rfl (.nil ?_))));refine .cond rfl (fun hb17=>?_) fun hb17=>?_
  ·refine .seq (.q 1 rfl (.ret (X9 Tryz.results24 rfl ?_)));refine ⟨_,rfl,congrArg Value.bool (rec_in.2 ?_).symm,hS⟩;have e:x=s:=by simpa using hb17
   subst e;exact Yi hx
  have hc17:=hb17; simp only [Y6] at hc17;refine .skip (.region (.run 3 rfl ⟨⟨by omega,by omega⟩,trivial⟩ (.nil ?_)));refine ⟨i+1,⟨rfl,rfl,rfl,trivial⟩,⟨by (try dsimp only); omega,fun j y hj hy=>?_,hS⟩,by (try dsimp only); omega⟩;rcases Yr j i with h1 | h1
  ·exact hno j y h1 hy
  ·have e:j=i:=by omega
   subst e;rw [hx] at hy; cases hy;simpa using hb17
 have hc9:=hb9; simp only [Y6] at hc9;refine .exit (.seq (.q 1 rfl (.ret (X9 Tryz.results24 rfl ?_))));refine ⟨_,rfl,congrArg Value.bool (Y4t.2 fun h=>?_).symm,hS⟩;obtain ⟨j,hj⟩:=Yx.1 (rec_in.1 h)
 have:=(Y5.1 hj).1
 exact hno j s (by omega) hj rfl
end Go.Proofs.YtfibbpgikjggfaaGreatDoor
namespace Go.Proofs.YtfibbpgikjggfaaGreatDoor
open Gk Ul Pc Tk Tr Go.RowKit Go.WideShapes Go.ChangeShapes
set_option maxRecDepth 100000
theorem Xlc {H:Type} {enc:TypeId×Value→H} {W:World} {spare:Nat→Bool} {held:Bool} {fuel:Nat} {cs:List Value} {x:DataW H×List MemPlace} (h:DataW.trod enc Tryz.prog W 0 spare held fuel 101 cs=some x):∃ z:Pr,cs=X1f z∧X1j z:=by
 obtain ⟨xs,n,_,_,hcl,hxl,hf⟩:=DataW.trod_struct Xa2 h;rw [show Tryz.prog.cellsOf 101=2 from by kernel_rfl] at hcl;obtain ⟨y0,hy0⟩:∃ y,DataW.trod enc Tryz.prog W 0 spare held n 9 ((cs.drop 0).take (Tryz.prog.cellsOf 9))=some y:=⟨_,(hf 0 _ rfl).trans (Y4 (by rw [hxl]; decide))⟩
 rw [show Tryz.prog.cellsOf 9=1 from by kernel_rfl] at hy0;obtain ⟨y1,hy1⟩:∃ y,DataW.trod enc Tryz.prog W 0 spare held n 9 ((cs.drop 1).take (Tryz.prog.cellsOf 9))=some y:=⟨_,(hf 1 _ rfl).trans (Y4 (by rw [hxl]; decide))⟩
 rw [show Tryz.prog.cellsOf 9=1 from by kernel_rfl] at hy1;obtain ⟨v0,v1,rfl⟩:∃ v0 v1,cs=[v0,v1]:=by
  match cs,hcl with
  | [v0,v1],_=>exact ⟨v0,v1,rfl⟩
 simp only [Y7,Yg,Y1x,Yh] at hy0 hy1
 obtain ⟨z0,e0,_,w0⟩:=DataW.trod_string Qu9 hy0;obtain ⟨z1,e1,_,w1⟩:=DataW.trod_string Qu9 hy1;simp only [List.cons.injEq,and_true] at e0 e1
 subst e0 e1;exact ⟨(z0.data.toList,z1.data.toList),rfl,⟨w0,w1⟩⟩
def Xrd (r:Rec):Prop:=r.name.length≤maxLen∧r.parent.length≤maxLen∧r.user.length≤maxLen∧r.service.length≤maxLen∧r.url.length≤maxLen
theorem Xp2 {H:Type} {enc:TypeId×Value→H} {W:World} {spare:Nat→Bool} {held:Bool} {fuel:Nat} {cs:List Value} {x:DataW H×List MemPlace} (h:DataW.trod enc Tryz.prog W 0 spare held fuel 54 cs=some x):∃ z:Rec,cs=X5 z∧Xrd z:=by
 obtain ⟨xs,n,_,_,hcl,hxl,hf⟩:=DataW.trod_struct Xr h;rw [show Tryz.prog.cellsOf 54=10 from by kernel_rfl] at hcl;obtain ⟨y0,hy0⟩:∃ y,DataW.trod enc Tryz.prog W 0 spare held n 3 ((cs.drop 0).take (Tryz.prog.cellsOf 3))=some y:=⟨_,(hf 0 _ rfl).trans (Y4 (by rw [hxl]; decide))⟩
 rw [show Tryz.prog.cellsOf 3=1 from by kernel_rfl] at hy0;obtain ⟨y1,hy1⟩:∃ y,DataW.trod enc Tryz.prog W 0 spare held n 9 ((cs.drop 1).take (Tryz.prog.cellsOf 9))=some y:=⟨_,(hf 1 _ rfl).trans (Y4 (by rw [hxl]; decide))⟩
 rw [show Tryz.prog.cellsOf 9=1 from by kernel_rfl] at hy1;obtain ⟨y2,hy2⟩:∃ y,DataW.trod enc Tryz.prog W 0 spare held n 9 ((cs.drop 2).take (Tryz.prog.cellsOf 9))=some y:=⟨_,(hf 2 _ rfl).trans (Y4 (by rw [hxl]; decide))⟩
 rw [show Tryz.prog.cellsOf 9=1 from by kernel_rfl] at hy2;obtain ⟨y3,hy3⟩:∃ y,DataW.trod enc Tryz.prog W 0 spare held n 9 ((cs.drop 3).take (Tryz.prog.cellsOf 9))=some y:=⟨_,(hf 3 _ rfl).trans (Y4 (by rw [hxl]; decide))⟩
 rw [show Tryz.prog.cellsOf 9=1 from by kernel_rfl] at hy3;obtain ⟨y4,hy4⟩:∃ y,DataW.trod enc Tryz.prog W 0 spare held n 9 ((cs.drop 4).take (Tryz.prog.cellsOf 9))=some y:=⟨_,(hf 4 _ rfl).trans (Y4 (by rw [hxl]; decide))⟩
 rw [show Tryz.prog.cellsOf 9=1 from by kernel_rfl] at hy4;obtain ⟨y5,hy5⟩:∃ y,DataW.trod enc Tryz.prog W 0 spare held n 9 ((cs.drop 5).take (Tryz.prog.cellsOf 9))=some y:=⟨_,(hf 5 _ rfl).trans (Y4 (by rw [hxl]; decide))⟩
 rw [show Tryz.prog.cellsOf 9=1 from by kernel_rfl] at hy5;obtain ⟨y6,hy6⟩:∃ y,DataW.trod enc Tryz.prog W 0 spare held n 3 ((cs.drop 6).take (Tryz.prog.cellsOf 3))=some y:=⟨_,(hf 6 _ rfl).trans (Y4 (by rw [hxl]; decide))⟩
 rw [show Tryz.prog.cellsOf 3=1 from by kernel_rfl] at hy6;obtain ⟨y7,hy7⟩:∃ y,DataW.trod enc Tryz.prog W 0 spare held n 3 ((cs.drop 7).take (Tryz.prog.cellsOf 3))=some y:=⟨_,(hf 7 _ rfl).trans (Y4 (by rw [hxl]; decide))⟩
 rw [show Tryz.prog.cellsOf 3=1 from by kernel_rfl] at hy7;obtain ⟨y8,hy8⟩:∃ y,DataW.trod enc Tryz.prog W 0 spare held n 3 ((cs.drop 8).take (Tryz.prog.cellsOf 3))=some y:=⟨_,(hf 8 _ rfl).trans (Y4 (by rw [hxl]; decide))⟩
 rw [show Tryz.prog.cellsOf 3=1 from by kernel_rfl] at hy8;obtain ⟨y9,hy9⟩:∃ y,DataW.trod enc Tryz.prog W 0 spare held n 4 ((cs.drop 9).take (Tryz.prog.cellsOf 4))=some y:=⟨_,(hf 9 _ rfl).trans (Y4 (by rw [hxl]; decide))⟩
 rw [show Tryz.prog.cellsOf 4=1 from by kernel_rfl] at hy9;obtain ⟨v0,v1,v2,v3,v4,v5,v6,v7,v8,v9,rfl⟩:∃ v0 v1 v2 v3 v4 v5 v6 v7 v8 v9,cs=[v0,v1,v2,v3,v4,v5,v6,v7,v8,v9]:=by
  match cs,hcl with
  | [v0,v1,v2,v3,v4,v5,v6,v7,v8,v9],_=>exact ⟨v0,v1,v2,v3,v4,v5,v6,v7,v8,v9,rfl⟩
 simp only [Y7,Yg,Y1x,Yh] at hy0 hy1 hy2 hy3 hy4 hy5 hy6 hy7 hy8 hy9
 obtain ⟨z0,e0,_,w0⟩:=DataW.trod_int Qu3 hy0;obtain ⟨z1,e1,_,w1⟩:=DataW.trod_string Qu9 hy1;obtain ⟨z2,e2,_,w2⟩:=DataW.trod_string Qu9 hy2;obtain ⟨z3,e3,_,w3⟩:=DataW.trod_string Qu9 hy3;obtain ⟨z4,e4,_,w4⟩:=DataW.trod_string Qu9 hy4;obtain ⟨z5,e5,_,w5⟩:=DataW.trod_string Qu9 hy5;obtain ⟨z6,e6,_,w6⟩:=DataW.trod_int Qu3 hy6;obtain ⟨z7,e7,_,w7⟩:=DataW.trod_int Qu3 hy7;obtain ⟨z8,e8,_,w8⟩:=DataW.trod_int Qu3 hy8;obtain ⟨z9,e9,_⟩:=DataW.trod_bool Qu4 hy9;simp only [List.cons.injEq,and_true] at e0 e1 e2 e3 e4 e5 e6 e7 e8 e9
 subst e0 e1 e2 e3 e4 e5 e6 e7 e8 e9;exact ⟨⟨z0,z1.data.toList,z2.data.toList,z3.data.toList,z4.data.toList,z5.data.toList,z6,z7,z8,z9⟩,rfl,⟨w1,w2,w3,w4,w5⟩⟩
theorem X9w {α:Type} {cells:α→List Value} {c:Nat} {fit:α→Prop} {t e:TypeId} {H:Type} {enc:TypeId×Value→H} {W:World} {spare:Nat→Bool} {held:Bool} {fuel:Nat} {cs:List Value} {x:DataW H×List MemPlace} (ht:Tryz.prog.underlying t=some (.slice e)) (hc:Tryz.prog.cellsOf e=c) (hc0:0<c)
  (one:∀ n cs y,DataW.trod enc Tryz.prog W 0 spare held n e cs=some y→∃ z:α,cs=cells z∧fit z) (h:DataW.trod enc Tryz.prog W 0 spare held fuel t cs=some x) :
  ∃ (a:Option Addr) (cap:Nat) (l:List α),cs=[.slice a l.length cap]∧l.length≤cap∧cap≤maxLen∧RS (im0 W) a c l.length (X12 cells l)∧∀ z∈l,fit z:=by
 obtain ⟨a,cap,L,n,rfl,h1,h2,h3,h4,h5⟩:=X55 ht hc hc0 h;have key:∀ L:List (List Value),(∀ l∈L,∃ y,DataW.trod enc Tryz.prog W 0 spare held n e l=some y)→∃ l:List α,L=l.map cells∧∀ z∈l,fit z:=by
  intro L
  induction L with
  | nil=>intro _; exact ⟨[],rfl,fun z h=>by simp at h⟩
  | cons c L ih =>
   intro h;obtain ⟨y,hy⟩:=h c (by simp);obtain ⟨z,rfl,hf⟩:=one n c y hy;obtain ⟨l,rfl,e2⟩:=ih (fun c hc=>h c (by simp [hc]));exact ⟨z::l,rfl,fun u hu=>by
    rcases Y18.1 hu with e | hu
    ·subst e; exact hf
    ·exact e2 u hu⟩
 obtain ⟨l,rfl,hfit⟩:=key L h5;rw [Y10] at h1 h4;exact ⟨a,cap,l,by rw [Y10],h1,h2,h4,hfit⟩
theorem Xqw {H:Type} {enc:TypeId×Value→H} {W:World} {spare:Nat→Bool} {held:Bool} {fuel:Nat} {cs:List Value} {x:DataW H×List MemPlace} (h:DataW.trod enc Tryz.prog W 0 spare held fuel 178 cs=some x):∃ u:Us,UsAt (im0 W) u cs∧u.fits:=by
 obtain ⟨xs,n,_,_,hcl,hxl,hf⟩:=DataW.trod_struct X2l h;rw [show Tryz.prog.cellsOf 178=3 from by kernel_rfl] at hcl;obtain ⟨y0,hy0⟩:∃ y,DataW.trod enc Tryz.prog W 0 spare held n 9 ((cs.drop 0).take (Tryz.prog.cellsOf 9))=some y:=⟨_,(hf 0 _ rfl).trans (Y4 (by rw [hxl]; decide))⟩
 rw [show Tryz.prog.cellsOf 9=1 from by kernel_rfl] at hy0;obtain ⟨y1,hy1⟩:∃ y,DataW.trod enc Tryz.prog W 0 spare held n 9 ((cs.drop 1).take (Tryz.prog.cellsOf 9))=some y:=⟨_,(hf 1 _ rfl).trans (Y4 (by rw [hxl]; decide))⟩
 rw [show Tryz.prog.cellsOf 9=1 from by kernel_rfl] at hy1;obtain ⟨y2,hy2⟩:∃ y,DataW.trod enc Tryz.prog W 0 spare held n 95 ((cs.drop 2).take (Tryz.prog.cellsOf 95))=some y:=⟨_,(hf 2 _ rfl).trans (Y4 (by rw [hxl]; decide))⟩
 rw [show Tryz.prog.cellsOf 95=1 from by kernel_rfl] at hy2;obtain ⟨v0,v1,v2,rfl⟩:∃ v0 v1 v2,cs=[v0,v1,v2]:=by
  match cs,hcl with
  | [v0,v1,v2],_=>exact ⟨v0,v1,v2,rfl⟩
 simp only [Y7,Yg,Y1x,Yh] at hy0 hy1 hy2
 obtain ⟨z0,e0,_,w0⟩:=DataW.trod_string Qu9 hy0;obtain ⟨z1,e1,_,w1⟩:=DataW.trod_string Qu9 hy1;obtain ⟨a,c,l,e2,h1,h2,h3,h4⟩:=X9w (cells:=X1f) (c:=2) (fit:=X1j) Xex (by kernel_rfl) (by decide) (fun n cs y h=>Xlc h) hy2;simp only [List.cons.injEq,and_true] at e0 e1 e2
 subst e0 e1 e2;exact ⟨⟨z0.data.toList,z1.data.toList,l⟩,⟨a,c,rfl,h1,h3⟩,⟨w0,w1,Y21 h1 h2,h4⟩⟩
theorem Xl4 {H:Type} {enc:TypeId×Value→H} {W:World} {spare:Nat→Bool} {held:Bool} {fuel:Nat} {cs:List Value} {x:DataW H×List MemPlace} (h:DataW.trod enc Tryz.prog W 0 spare held fuel 23 cs=some x):∃ (a:Option Addr) (cap:Nat) (l:List Us),cs=[.slice a l.length cap]∧l.length≤cap∧cap≤maxLen∧UsrsAt (im0 W) a l∧∀ u∈l,u.fits:=by
 obtain ⟨a,cap,L,n,rfl,h1,h2,h3,h4,h5⟩:=X55 (c:=3) Xfy (by kernel_rfl) (by decide) h;have key:∀ L:List (List Value),(∀ l∈L,∃ y,DataW.trod enc Tryz.prog W 0 spare held n 178 l=some y)→∃ l:List Us,L.length=l.length∧∀ (i:Nat) (u:Us),l[i]?=some u→u.fits∧∃ c,L[i]?=some c∧UsAt (im0 W) u c:=by
  intro L
  induction L with
  | nil=>intro _; exact ⟨[],rfl,fun i s h=>by simp at h⟩
  | cons c L ih =>
   intro h;obtain ⟨y,hy⟩:=h c (by simp);obtain ⟨s,hs,hf⟩:=Xqw hy;obtain ⟨l,e1,e2⟩:=ih (fun c hc=>h c (by simp [hc]));refine ⟨s::l,by simp [e1],fun i u hu=>?_⟩;cases i with
   | zero=>simp at hu; subst hu; exact ⟨hf,c,rfl,hs⟩
   | succ i=>simpa using e2 i u (by simpa using hu)
 obtain ⟨l,e1,e2⟩:=key L h5;refine ⟨a,cap,l,by rw [e1],by rw [← e1]; exact h1,h2,fun i u hu=>?_,fun u hu=>?_⟩
 ·obtain ⟨_,c,hc,ra,rc,rfl,h6,h7⟩:=e2 i u hu;obtain ⟨p,rfl,hp⟩:=h4.2 (by have:=(Y5.1 hc).1; omega);have h8:=X3m (hp.add (i*3)) 3;rw [X1s L h3 i _ hc] at h8;exact ⟨p,ra,rc,rfl,h8,h6,h7⟩
 ·obtain ⟨i,hi⟩:=Yx.1 hu;exact (e2 i u hi).1
theorem Xdp {H:Type} {enc:TypeId×Value→H} {W:World} {spare:Nat→Bool} {held:Bool} {fuel:Nat} {cs:List Value} {x:DataW H×List MemPlace} (h:DataW.trod enc Tryz.prog W 0 spare held fuel 24 cs=some x):∃ l:List Int,l.length=7∧cs=l.map I64:=by
 obtain ⟨xs,n,_,_,hcl,hxl,hf⟩:=DataW.trod_array Xdf h;rw [show Tryz.prog.cellsOf 24=7 from by kernel_rfl] at hcl;rw [show Tryz.prog.cellsOf 3=1 from by kernel_rfl] at hf;have each:∀ v∈cs,∃ z:Int,v=I64 z:=by
  intro v hv;obtain ⟨i,hi⟩:=Yx.1 hv;have hil:=(Y5.1 hi).1;obtain ⟨y,hy⟩:∃ y,xs[i]?=some y:=⟨_,Y4 (by omega)⟩
  have h2:=(hf i (by omega)).trans hy;obtain ⟨z,e,_⟩:=DataW.trod_int Qu3 h2;rw [Y1i,Y1f hil,Y1x,Yh,(Y5.1 hi).2] at e;exact ⟨z,(List.cons.inj e).1⟩
 have key:∀ cs:List Value,(∀ v∈cs,∃ z:Int,v=I64 z)→∃ l:List Int,cs=l.map I64:=by
  intro cs
  induction cs with
  | nil=>intro _; exact ⟨[],rfl⟩
  | cons v r ih =>
   intro h;obtain ⟨z,rfl⟩:=h v (by simp);obtain ⟨l,rfl⟩:=ih (fun v hv=>h v (by simp [hv]));exact ⟨z::l,rfl⟩
 obtain ⟨l,rfl⟩:=key cs each;exact ⟨l,by simpa using hcl,rfl⟩
theorem psL_of {L:List Int} (h:L.length=21):psL (fun i=>L.getD i 0)=L:=by
 match L,h with
 | [a0,a1,a2,a3,a4,a5,a6,a7,a8,a9,a10,a11,a12,a13,a14,a15,a16,a17,a18,a19,a20],_=>rfl
theorem Xnt {H:Type} {enc:TypeId×Value→H} {W:World} {spare:Nat→Bool} {held:Bool} {fuel:Nat} {cs:List Value} {x:DataW H×List MemPlace} (h:DataW.trod enc Tryz.prog W 0 spare held fuel 26 cs=some x):∃ p:Nat→Int,cs=(psL p).map I64:=by
 obtain ⟨xs,n,_,_,hcl,hxl,hf⟩:=DataW.trod_struct Xca h;rw [show Tryz.prog.cellsOf 26=21 from by kernel_rfl] at hcl;obtain ⟨y0,hy0⟩:∃ y,DataW.trod enc Tryz.prog W 0 spare held n 24 ((cs.drop 0).take (Tryz.prog.cellsOf 24))=some y:=⟨_,(hf 0 _ rfl).trans (Y4 (by rw [hxl]; decide))⟩
 rw [show Tryz.prog.cellsOf 24=7 from by kernel_rfl] at hy0;obtain ⟨y1,hy1⟩:∃ y,DataW.trod enc Tryz.prog W 0 spare held n 24 ((cs.drop 7).take (Tryz.prog.cellsOf 24))=some y:=⟨_,(hf 1 _ rfl).trans (Y4 (by rw [hxl]; decide))⟩
 rw [show Tryz.prog.cellsOf 24=7 from by kernel_rfl] at hy1;obtain ⟨y2,hy2⟩:∃ y,DataW.trod enc Tryz.prog W 0 spare held n 24 ((cs.drop 14).take (Tryz.prog.cellsOf 24))=some y:=⟨_,(hf 2 _ rfl).trans (Y4 (by rw [hxl]; decide))⟩
 rw [show Tryz.prog.cellsOf 24=7 from by kernel_rfl] at hy2;obtain ⟨v0,v1,v2,v3,v4,v5,v6,v7,v8,v9,v10,v11,v12,v13,v14,v15,v16,v17,v18,v19,v20,rfl⟩:∃ v0 v1 v2 v3 v4 v5 v6 v7 v8 v9 v10 v11 v12 v13 v14 v15 v16 v17 v18 v19 v20,cs=[v0,v1,v2,v3,v4,v5,v6,v7,v8,v9,v10,v11,v12,v13,v14,v15,v16,v17,v18,v19,v20]:=by
  match cs,hcl with
  | [v0,v1,v2,v3,v4,v5,v6,v7,v8,v9,v10,v11,v12,v13,v14,v15,v16,v17,v18,v19,v20],_=>exact ⟨v0,v1,v2,v3,v4,v5,v6,v7,v8,v9,v10,v11,v12,v13,v14,v15,v16,v17,v18,v19,v20,rfl⟩
 simp only [Y7,Yg,Y1x,Yh] at hy0 hy1 hy2
 obtain ⟨l0,h0,e0⟩:=Xdp hy0;obtain ⟨l1,h1,e1⟩:=Xdp hy1;obtain ⟨l2,h2,e2⟩:=Xdp hy2;refine ⟨fun i=>(l0 ++ (l1 ++ l2)).getD i 0,?_⟩;rw [psL_of (by simp only [Y0]; omega),Yv,Yv,← e0,← e1,← e2];rfl
theorem Xpp {H:Type} {enc:TypeId×Value→H} {W:World} {spare:Nat→Bool} {held:Bool} {fuel:Nat} {cs:List Value} {x:DataW H×List MemPlace} (h:DataW.trod enc Tryz.prog W 0 spare held fuel 29 cs=some x):∃ (c:Cf) (a:Option Addr) (cap:Nat) (ua:Option Addr) (ucap:Nat),cs=Xl c a cap ua ucap∧CfAt (im0 W) c a cap ua ucap:=by
 obtain ⟨xs,n,_,_,hcl,hxl,hf⟩:=DataW.trod_struct Xe2 h;rw [show Tryz.prog.cellsOf 29=28 from by kernel_rfl] at hcl;obtain ⟨y0,hy0⟩:∃ y,DataW.trod enc Tryz.prog W 0 spare held n 22 ((cs.drop 0).take (Tryz.prog.cellsOf 22))=some y:=⟨_,(hf 0 _ rfl).trans (Y4 (by rw [hxl]; decide))⟩
 rw [show Tryz.prog.cellsOf 22=1 from by kernel_rfl] at hy0;obtain ⟨y1,hy1⟩:∃ y,DataW.trod enc Tryz.prog W 0 spare held n 23 ((cs.drop 1).take (Tryz.prog.cellsOf 23))=some y:=⟨_,(hf 1 _ rfl).trans (Y4 (by rw [hxl]; decide))⟩
 rw [show Tryz.prog.cellsOf 23=1 from by kernel_rfl] at hy1;obtain ⟨y2,hy2⟩:∃ y,DataW.trod enc Tryz.prog W 0 spare held n 26 ((cs.drop 2).take (Tryz.prog.cellsOf 26))=some y:=⟨_,(hf 2 _ rfl).trans (Y4 (by rw [hxl]; decide))⟩
 rw [show Tryz.prog.cellsOf 26=21 from by kernel_rfl] at hy2;obtain ⟨y3,hy3⟩:∃ y,DataW.trod enc Tryz.prog W 0 spare held n 3 ((cs.drop 23).take (Tryz.prog.cellsOf 3))=some y:=⟨_,(hf 3 _ rfl).trans (Y4 (by rw [hxl]; decide))⟩
 rw [show Tryz.prog.cellsOf 3=1 from by kernel_rfl] at hy3;obtain ⟨y4,hy4⟩:∃ y,DataW.trod enc Tryz.prog W 0 spare held n 27 ((cs.drop 24).take (Tryz.prog.cellsOf 27))=some y:=⟨_,(hf 4 _ rfl).trans (Y4 (by rw [hxl]; decide))⟩
 rw [show Tryz.prog.cellsOf 27=1 from by kernel_rfl] at hy4;obtain ⟨y5,hy5⟩:∃ y,DataW.trod enc Tryz.prog W 0 spare held n 27 ((cs.drop 25).take (Tryz.prog.cellsOf 27))=some y:=⟨_,(hf 5 _ rfl).trans (Y4 (by rw [hxl]; decide))⟩
 rw [show Tryz.prog.cellsOf 27=1 from by kernel_rfl] at hy5;obtain ⟨y6,hy6⟩:∃ y,DataW.trod enc Tryz.prog W 0 spare held n 27 ((cs.drop 26).take (Tryz.prog.cellsOf 27))=some y:=⟨_,(hf 6 _ rfl).trans (Y4 (by rw [hxl]; decide))⟩
 rw [show Tryz.prog.cellsOf 27=1 from by kernel_rfl] at hy6;obtain ⟨y7,hy7⟩:∃ y,DataW.trod enc Tryz.prog W 0 spare held n 3 ((cs.drop 27).take (Tryz.prog.cellsOf 3))=some y:=⟨_,(hf 7 _ rfl).trans (Y4 (by rw [hxl]; decide))⟩
 rw [show Tryz.prog.cellsOf 3=1 from by kernel_rfl] at hy7;obtain ⟨v0,v1,v2,v3,v4,v5,v6,v7,v8,v9,v10,v11,v12,v13,v14,v15,v16,v17,v18,v19,v20,v21,v22,v23,v24,v25,v26,v27,rfl⟩:∃ v0 v1 v2 v3 v4 v5 v6 v7 v8 v9 v10 v11 v12 v13 v14 v15 v16 v17 v18 v19 v20 v21 v22 v23 v24 v25 v26 v27,cs=[v0,v1,v2,v3,v4,v5,v6,v7,v8,v9,v10,v11,v12,v13,v14,v15,v16,v17,v18,v19,v20,v21,v22,v23,v24,v25,v26,v27]:=by
  match cs,hcl with
  | [v0,v1,v2,v3,v4,v5,v6,v7,v8,v9,v10,v11,v12,v13,v14,v15,v16,v17,v18,v19,v20,v21,v22,v23,v24,v25,v26,v27],_=>exact ⟨v0,v1,v2,v3,v4,v5,v6,v7,v8,v9,v10,v11,v12,v13,v14,v15,v16,v17,v18,v19,v20,v21,v22,v23,v24,v25,v26,v27,rfl⟩
 simp only [Y7,Yg,Y1x,Yh] at hy0 hy1 hy2 hy3 hy4 hy5 hy6 hy7
 obtain ⟨a,cap,L,l,e0,h1,h2,h3,h4,h5,h6⟩:=Xnj hy0;obtain ⟨ua,ucap,us,e1,h7,h8,h9,h10⟩:=Xl4 hy1;obtain ⟨ps,e2⟩:=Xnt hy2;obtain ⟨z3,e3,_⟩:=DataW.trod_int Qu3 hy3;obtain ⟨z4,e4,_⟩:=X40 Qu27 hy4;obtain ⟨z5,e5,_⟩:=X40 Qu27 hy5;obtain ⟨z6,e6,_⟩:=X40 Qu27 hy6;obtain ⟨z7,e7,_⟩:=DataW.trod_int Qu3 hy7;simp only [List.cons.injEq,and_true] at e0 e1 e3 e4 e5 e6 e7
 subst e0 e1 e3 e4 e5 e6 e7;refine ⟨⟨l,us,ps,z3,z4,z5,z6,z7⟩,a,cap,ua,ucap,?_,svs_of h4 h5 (fun i s hs=>(h6 i s hs).2),h9,⟨by rw [← h3]; exact h1,h2⟩,Y21 h7 h8,fun s hs=>?_,h10⟩
 ·show _=Value.slice a l.length cap::Value.slice ua us.length ucap::((psL ps).map I64 ++ _)
  rw [← e2,← h3]; rfl
 ·obtain ⟨i,hi⟩:=Yx.1 hs;exact (h6 i s hi).1
end Go.Proofs.YtfibbpgikjggfaaGreatDoor
namespace Go.Proofs.YtfibbpgikjggfaaGreatDoor
open Gk Ul Pc Tk Tr
structure Op where
 act:Int
 n:Int
 d:List Nat
 a:Int
 b:List UInt8
 c:List UInt8
 f:Bool
 r:Rec
 q:Ak
def Xsz (o:Op) (da:Option Addr) (dc:Nat):List Value:=[I64 o.act,I64 o.n,.slice da o.d.length dc,I64 o.a,S o.b,S o.c,.bool o.f,I64 o.r.kind,S o.r.name,S o.r.parent,S o.r.user,S o.r.service,S o.r.url,I64 o.r.made,I64 o.r.used,I64 o.r.uses,.bool o.r.fresh,S o.q.service,S o.q.cookie,.bool o.q.has,.bool o.q.renew,.bool o.q.gateway,.bool o.q.warn]
def OpAt (I:Im) (o:Op) (cs:List Value):Prop:=∃ da dc,cs=Xsz o da dc∧o.d.length≤dc∧dc≤maxLen∧RS I da 1 o.d.length (o.d.map fun d=>U64 (d:Nat))
def OpsAt (I:Im) (a:Option Addr) (l:List Op):Prop:=∃ L:List (List Value),L.length=l.length∧(∀ c∈L,c.length=23)∧RS I a 23 l.length L.flatten∧∀ (i:Nat) (o:Op),l[i]?=some o→∃ cs,L[i]?=some cs∧OpAt I o cs
theorem OpAt.mono {I J:Im} {o:Op} {cs:List Value} (h:OpAt I o cs) (hl:Le I J):OpAt J o cs:=by
 obtain ⟨da,dc,e,h1,h2,h3⟩:=h;exact ⟨da,dc,e,h1,h2,h3.mono hl⟩
theorem OpsAt.mono {I J:Im} {a:Option Addr} {l:List Op} (h:OpsAt I a l) (hl:Le I J):OpsAt J a l:=by
 obtain ⟨L,h1,h2,h3,h4⟩:=h;exact ⟨L,h1,h2,h3.mono hl,fun i o ho=>by
  obtain ⟨cs,h5,h6⟩:=h4 i o ho;exact ⟨cs,h5,h6.mono hl⟩⟩
theorem OpsAt.at {I:Im} {a:Option Addr} {l:List Op} (h:OpsAt I a l) (i:Nat) (u:Op) (hu:l[i]?=some u):∃ p cs,a=some p∧At I (p.add (i*23)) cs∧OpAt I u cs:=by
 obtain ⟨L,h1,h2,h3,h4⟩:=h;obtain ⟨cs,h5,h6⟩:=h4 i u hu;obtain ⟨p,rfl,hp⟩:=h3.2 (by have:=(Y5.1 hu).1; omega);refine ⟨p,cs,rfl,?_,h6⟩;have h8:=X3m (hp.add (i*23)) 23;rw [X1s L h2 i _ h5] at h8;exact h8
structure Op.fits (o:Op):Prop where
 d:∀ x∈o.d,x<18446744073709551616
 b:o.b.length≤maxLen
 c:o.c.length≤maxLen
def Xet (ω:Wd) (d:List Nat):Wd:={ ω with D:=ω.D ++ d }
theorem Xi0 {ω:Wd} (h:X3n ω) {d:List Nat} (hd:∀ x∈d,x<18446744073709551616):X3n (Xet ω d):=⟨h.len,h.wf,fun x hx=>by
 rcases Y16.1 hx with h1 | h1
 ·exact h.D x h1
 ·exact hd x h1,h.now,h.room⟩
theorem Xqk {ω:Wd} {r:Rec}:(mkW ω r).2.D.length≤ω.D.length:=by
 have h:(mkN ω r).2.length≤ω.D.length:=by
  unfold mkN X37;split
  ·exact Yu _
  ·cases ω.D with
   | nil=>exact Yu _
   | cons d D=>dsimp only; split <;> simp
 unfold mkW;split
 ·exact h
 ·exact h
end Go.Proofs.YtfibbpgikjggfaaGreatDoor
namespace Gk
open Go
section
variable {P:Program} {n:Nat} {K:X36} {L:Env} {w:World} {ops:Array Oper} {rest:List Oper}
theorem WL.later {x:Operand} {f:Fn} {cap:List Value} {ty:TypeId} {pos:String} {af:Array Edge} (hx:Ev n L x (.func f #[] cap.toArray)) (h0:dl L=[]) (h:WL P n ops K rest ((DK,.func f #[] cap.toArray)::L) w):WL P n ops K (⟨none,.defer ⟨.value x,#[],#[]⟩,ty,pos,af,none⟩::rest) L w:=by
 intro a ha;refine wpList_plain rfl fun K' hK=>?_
 unfold Oper.wp;have he:(execOp a.eval (⟨none,.defer ⟨.value x,#[],#[]⟩,ty,pos,af,none⟩:Oper)).run P w=.ok (.defer { target:=.fn f cap.toArray,args:=#[] }) w:=by
  simp [execOp,resolve,hx a ha,Deferred.ofValue]
 rw [he];refine hK _ _ (h _ ⟨ha.size,ha.small,?_,fun t v hv=>?_⟩)
 ·have:=ha.defers
  rw [h0] at this;simp [Act.put,this,dl,look0]
 ·obtain ⟨h1,h2⟩:=Xa6 hv;rw [look0,Xtq (Ne.symm h1)] at h2;exact ha.get t v (Xmn h1 h2)
theorem callsD {f:FuncId} {fn:Func} {c:Code} {args:List Value} {u:FrameMode} {R:Ending→World→Prop} (hf:P.funcs[f]?=some fn) (hb:fn.body=some c) (hn:fn.ntmps=n) (hle:(Nat.ble args.length n && Nat.ble n DK)=true)
  (h:WC P n c (X53 P n fn R) (Xeh 0 args) w):CallsD P f args.toArray u w fun e u' w'=>u'=u∧R e w':=by
 refine callsD_of_wp hf hb (wp_mono (h _ (X6c hn hle)) ?_);rintro e a' w' ⟨L',h1,h2⟩;cases e with
 | normal=>exact ⟨h1.defers.trans h2.1,h2.2 a' h1⟩
 | ret=>exact ⟨h1.defers.trans h2.1,h2.2 a' h1⟩
 | _=>exact h2.elim
def Xdk (P:Program) (n:Nat) (fn:Func) (R:Ending→World→Prop):X36
 | .normal,L,w | .ret,L,w=>∀ a,Holds n L a→Leaves P fn a.tmps R a.defers .returning w
 | _,_,_=>False
theorem callsF {f:FuncId} {fn:Func} {c:Code} {args:List Value} {R:Ending→World→Prop} (hf:P.funcs[f]?=some fn) (hb:fn.body=some c) (hn:fn.ntmps=n) (hle:(Nat.ble args.length n && Nat.ble n DK)=true)
  (h:WC P n c (Xdk P n fn R) (Xeh 0 args) w):Calls P f args.toArray w R:=by
 refine calls_of_wp_defers hf hb (wp_mono (h _ (X6c hn hle)) ?_);rintro e a' w' ⟨L',h1,h2⟩;cases e with
 | normal=>exact h2 a' h1
 | ret=>exact h2 a' h1
 | _=>exact h2.elim
theorem retF {fn:Func} {R:Ending→World→Prop} (h:X53 P n fn R .ret L w):Xdk P n fn R .ret L w:=fun a ha=>by
 rw [ha.defers,h.1];exact h.2 a ha
theorem retD {fn gn:Func} {R:Ending→World→Prop} {g:FuncId} {cap:List Value} {Q:World→Prop} (hg:P.funcs[g]?=some gn) (hc:Xh gn=true) (hd:dl L=[{ target:=.fn (.func g) cap.toArray,args:=#[] }])
  (hcall:∀ u,CallsD P g cap.toArray u w fun e u' w'=>u'=u∧∃ v,e=.returned v∧Q w') (h:∀ w',Q w'→∀ a,Holds n L a→∃ v,(results fn a.tmps).run P w'=.ok v w'∧R (.returned v) w'):Xdk P n fn R .ret L w:=fun a ha=>by
 rw [ha.defers,hd];unfold Xh at hc;simp only [Yq] at hc
 obtain ⟨h1,h2⟩:=hc;have h1' : ¬ gn.name = "runtime.NumGoroutine" := by simpa using h1
 have h2':¬ gn.body=none:=by intro e; rw [e] at h2; cases h2
 refine leaves_cons (by simp) (f:=g) (args:=cap.toArray) (by simp [invoke,callFunc,program,Sem.run,hg,h1',h2']) ((hcall .returning).mono ?_);rintro e u' w' ⟨rfl,v,rfl,hQ⟩;exact h w' hQ a ha
theorem Xeo {fn:Func} {B:World} {I:Im} {As:List X7} {t u b c s k j:Nat} {ty ty2 E E2:TypeId} {cs:List Value} {x:Value} (h:fn.results=#[.cell t ty,.cell u ty2]) (hS:Sat B w I As) (hk:As[k]?=some (blk b cs E)) (hj:As[j]?=some (blk c [x] E2)) (ht:∀ w,(isAgg ty).run P w=.ok true w) (hs:∀ w,(Go.sizeOf ty).run P w=.ok s w) (ht2:∀ w,(isAgg ty2).run P w=.ok false w)
  (hl:cs.length=s) (hv:look L t=some (ptr b 0)) (hx:look L u=some (ptr c 0)):∀ a,Holds n L a→(results fn a.tmps).run P w=.ok (.tuple #[.agg cs.toArray,x]) w:=fun a ha=>by
 have hb:=hS.block hk;have hc:=hS.block hj;have hld:=run_loadCells_list (P:=P) w (ad b 0) cs (fun j v hj=>by rw [X13]; exact Xy hb (by simpa using hj));have hl2:w.cell? (ad c 0)=some x:=Xy hc (by simp);rw [hl] at hld;have h1:=ha.get t _ hv;have h2:=ha.get u _ hx;simp only [Y14] at h1 h2
 simp [results,h,h1,h2,loadVar,ht,hs,ht2,asAddr,hld,load,Sem.run,hl2]
theorem Xu3 {fn:Func} {R:Ending→World→Prop} {v:Value} (hd:dl L=[]) (h:∀ a,Holds n L a→(results fn a.tmps).run P w=.ok v w) (hR:R (.returned v) w):Xdk P n fn R .ret L w :=
 retF ⟨hd,fun a ha=>⟨v,h a ha,hR⟩⟩
end
end Gk
namespace Go.Proofs.YtfibbpgikjggfaaGreatDoor
open Gk Ul Pc Tk Tr
theorem X4g:Bld Tryz.prog 48 [(0,1),(1,1),(2,1)] [S [],S [],S []]:=X2n Xdw Xrl (fun w=>by simp [go_sem])
structure Cl where
 url:List UInt8
 pgt:List UInt8
 iou:List UInt8
deriving DecidableEq
def X6h (k:Cl):List Value:=[S k.url,S k.pgt,S k.iou]
def c0:Cl:=⟨[],[],[]⟩
def Xcs (lo:List Sv) (ω:Wd) (t:List UInt8):Sv×List UInt8×Nat:=X1r lo (getD ω.l t).service
def Xiv (lo:List Sv) (ω:Wd) (t cb:List UInt8):List UInt8×Bool:=X4r lo (Xcs lo ω t).1.id cb
def noP (ω:Wd) (t:List UInt8):Bool:=((getD ω.l t).kind != 2 && (getD ω.l t).kind != 3) || (getD ω.l t).uses == 0
def noQ (lo:List Sv) (ω:Wd) (t cb:List UInt8):Bool:=((((Xcs lo ω t).2.2:Nat):Int) != 0 || !(Xcs lo ω t).1.proxy) || !(Xiv lo ω t cb).2
def X1w (lo:List Sv) (ω:Wd) (t cb:List UInt8):Rec:=⟨4,[],t,(getD ω.l t).user,(getD ω.l t).service,(Xiv lo ω t cb).1,0,0,0,false⟩
def Xat (pgt:List UInt8):Rec:=⟨5,[],pgt,[],[],[],0,0,0,false⟩
def Xt (lo:List Sv) (ω:Wd) (t cb:List UInt8):(Cl×Nat)×Wd :=
 if noP ω t=true then ((c0,30),ω)
 else if noQ lo ω t cb=true then ((c0,34),ω)
 else if (mkW ω (X1w lo ω t cb)).1.2≠0 then ((c0,(mkW ω (X1w lo ω t cb)).1.2),(mkW ω (X1w lo ω t cb)).2)
 else if (mkW (mkW ω (X1w lo ω t cb)).2 (Xat (mkW ω (X1w lo ω t cb)).1.1)).1.2≠0 then ((c0,(mkW (mkW ω (X1w lo ω t cb)).2 (Xat (mkW ω (X1w lo ω t cb)).1.1)).1.2),X5u (mkW (mkW ω (X1w lo ω t cb)).2 (Xat (mkW ω (X1w lo ω t cb)).1.1)).2 (mkW ω (X1w lo ω t cb)).1.1)
 else ((⟨(Xiv lo ω t cb).1,(mkW ω (X1w lo ω t cb)).1.1,(mkW (mkW ω (X1w lo ω t cb)).2 (Xat (mkW ω (X1w lo ω t cb)).1.1)).1.1⟩,0),(mkW (mkW ω (X1w lo ω t cb)).2 (Xat (mkW ω (X1w lo ω t cb)).1.1)).2)
theorem X2j {lo:List Sv} {ω:Wd} (h:X3n ω) (t cb:List UInt8):X3n (Xt lo ω t cb).2:=by
 unfold Xt;split
 ·exact h
 ·split
  ·exact h
  ·split
   ·exact X2m h _
   ·split
    ·exact Xcg (X2m (X2m h _) _) _
    ·exact X2m (X2m h _) _
def Xo (ω:Wd) (iou:List UInt8) (n:Int):(List UInt8×Nat)×Wd :=
 if ((getD ω.l iou).kind != 5)=true then (([],30),ω)
 else if (n != 200)=true then (([],34),X5u ω (getD ω.l iou).parent)
 else ((iou,0),X5u ω iou)
theorem X2v {ω:Wd} (h:X3n ω) (iou:List UInt8) (n:Int):X3n (Xo ω iou n).2:=by
 unfold Xo;split
 ·exact h
 ·split <;> exact Xcg h _
def X2f (r:Rec):Bool:=r.kind == 5
def X4k (l:List Rec):List (List UInt8):=(l.filter X2f).map Rec.name
def Xbb (l:List Rec) (pgt:List UInt8):Bool:=(X1y l pgt).any fun k=>(getD l k).kind == 5
def X2s (lo:List Sv) (ps:Nat→Int) (ω:Wd) (pgt target:List UInt8):Rec:=⟨3,[],pgt,(Xv ps ω pgt 4).1.user,(X1r lo target).2.1,[],0,0,0,false⟩
def Xn (lo:List Sv) (ps:Nat→Int) (ω:Wd) (pgt target:List UInt8):((List UInt8×List UInt8)×Nat)×Wd :=
 if (pgt == [] || target == [])=true then ((([],[]),33),ω)
 else if (!(Xv ps ω pgt 4).2 || Xbb ω.l pgt)=true then ((([],[]),30),ω)
 else if ((((X1r lo target).2.2:Nat):Int) != 0)=true then ((([],[]),36),ω)
 else if (mkW ω (X2s lo ps ω pgt target)).1.2≠0 then ((([],[]),(mkW ω (X2s lo ps ω pgt target)).1.2),(mkW ω (X2s lo ps ω pgt target)).2)
 else ((((mkW ω (X2s lo ps ω pgt target)).1.1,(X1r lo target).2.1),0),putW (mkW ω (X2s lo ps ω pgt target)).2 (X4i (Xv ps ω pgt 4).1 (mkW ω (X2s lo ps ω pgt target)).2.now))
theorem X22 {lo:List Sv} {ps:Nat→Int} {ω:Wd} (h:X3n ω) (pgt target:List UInt8):X3n (Xn lo ps ω pgt target).2:=by
 unfold Xn;split
 ·exact h
 ·split
  ·exact h
  ·split
   ·exact h
   ·split
    ·exact X2m h _
    ·exact Xuc (X2m h _) _
theorem X6z {ω:Wd} {r:Rec}:(mkW ω r).1.1.length≤23:=by
 unfold mkW;have h:=Xf3 (pr:=fun s=>(get ω.l s).isSome) (kind:=r.kind) (D:=ω.D);split
 ·exact Yo _
 ·(try dsimp only)
  split
  ·exact Yo _
  ·exact h
theorem Xe7 {l:List Rec} (hw:Wf l) (name:List UInt8):(getD l name).service.length≤100:=by
 rcases Xf5 hw name with ⟨_,e⟩ | ⟨_,h2,_⟩
 ·rw [e]; decide
 ·unfold Xm at h2;simp only [Yq,decide_eq_true_eq] at h2
  show (getD l name).service.length≤100
  omega
theorem Xsk (id:Int) (s:List UInt8) (hs:s.length≤1000000) (p:Wp) (B w:World) (I:Im) (hI:WpOk I p) (As:List X7) (hS:Sat B w I As) :
  Cz 51 [.pointer (some p.pr),I64 id,S s] w fun v w'=>v=.tuple #[S (X4r p.lo id s).1,.bool (X4r p.lo id s).2]∧Sat B w' I As:=by
 obtain ⟨a,c,E,h1,h2,h3⟩:=hI.reg;exact Xfh p.pr p.lo hI.lo hI.rel id s hs a c E B w I hI.known h1 h3 As hS
theorem X80 (iou:List UInt8) (n:Int) (p:Wp) (ω:Wd) (hω:X3n ω) (B w:World) (I:Im) (hI:WpOk I p) (As:List X7) (hS:Sat B w I (wdA p ω::As)) :
  Cz 23 [ptr p.wb 0,S iou,I64 n] w fun v w'=>v=.tuple #[S (Xo ω iou n).1.1,I64 ((Xo ω iou n).1.2:Nat)]∧Sat B w' I (wdA p (Xo ω iou n).2::As):=by
 refine calls Qf23 rfl Tryz.ntmps23 rfl (.seq (.q 2 rfl (.seq ?_)));obtain ⟨⟨a,c,ma,mc⟩,hS⟩:=Sat.unbox hS;replace hS:Sat B _ _ (blk p.wb (wdC p ω) 44::blk p.tb [I64 ω.room,.slice a ω.l.length c] 114::Vec 54 10 (.slice a ω.l.length c) ω.l.length (Xe ω.l)::blk p.mb [.slice ma ω.D.length mc] 111::X3i 104 (.slice ma ω.D.length mc) (ω.D.map fun d=>U64 (d:Nat))::_):=hS;have hlen:=hω.len;have hwf:=hω.wf;refine .t 2 rfl (.val (.fo 0 rfl X69 rfl rfl Xfo rfl) rfl (.val (.lo rfl hS (k:=0) rfl Xdt rfl) rfl (.q 1 rfl (.call Xu6 rfl (ec9 rfl (ec9 rfl X0)) rfl (X7q p.tb ω.room a c ω.l (by omega) iou B _ I _ ((hS.pick 2 rfl).pick 2 rfl)) ?_))));rintro _ w ⟨rfl,hS⟩;refine .q 3 rfl (.allocA (cs:=[_,_,_,_,_,_,_,_,_,_]) hS X5t rfl ?_);intro b8 w hS;refine .so hS (k:=0) rfl rfl rfl rfl Xu rfl (by simp) ?_;intro w hS;try simp only [Yh,Ye,Y9,Y7,Yg,Yn,Yd] at hS
 refine .q 1 rfl (.nil (.seq (.block (.seq (.region ?_)))));refine .val (.fo 0 rfl Xr rfl rfl Qs3 rfl) rfl (.val (.lo rfl hS (k:=0) rfl Qg3 rfl) rfl (.q 2 rfl (.nil ?_)));refine .cond rfl (fun hb19=>?_) fun hb19=>?_
 ·refine .seq (.q 2 rfl (.ret (X1e Tryz.results23 rfl rfl ?_)));have hE:Xo ω iou n=(([],30),ω):=by rw [Xo,if_pos hb19]
  rw [hE];exact ⟨_,rfl,rfl,Sat.box (T:=wdT p ω) (a,c,ma,mc) ((((((hS.drop (k:=0) rfl).pick 4 rfl).pick 4 rfl).pick 3 rfl).pick 3 rfl).pick 4 rfl)⟩
 refine .seq (.q 3 rfl ?_);refine .cond rfl (fun hb23=>?_) fun hb23=>?_
 ·refine .seq (.drawn (fun w=>∃ R,Sat B w I (blk b8 (X5 (getD ω.l iou)) 54::blk p.wb (wdC p ω) 44::R)) (fun j=>!([].contains j)) (by kernel_rfl) ?_);replace hS:=hS.drew; generalize w.drew=w at hS ⊢;have hH:=((hS.pick 3 rfl).pick 1 rfl)
  refine .tp (i:=0) rfl (by kernel_rfl) (fun w=>(.mo rfl)) rfl (.tp (i:=1) rfl (by kernel_rfl) (fun w=>(.no rfl)) rfl ?_);refine .tp (i:=2) rfl (by kernel_rfl) (fun w=>(.fo 0 rfl X69 rfl rfl Xfo rfl)) rfl (.tk (i:=3) rfl (by kernel_rfl) ⟨_,hH⟩ (fun w ⟨R,hS⟩=>((.lo rfl hS (k:=1) rfl Xdt rfl))) rfl (.tp (i:=4) rfl (by kernel_rfl) (fun w=>(.fo 2 rfl Xr rfl rfl Qs9 rfl)) rfl (.tk (i:=5) rfl (by kernel_rfl) ⟨_,hH⟩ (fun w ⟨R,hS⟩=>((.lo rfl hS (k:=0) rfl Qg9 rfl))) rfl (.b1 6 (by kernel_rfl) rfl (.call Qf33 rfl (ec9 rfl (ec9 rfl X0)) rfl (X92 p.tb ω.room a c ω.l (by have:=hlen; omega) hwf (getD ω.l iou).parent B _ I _ ((hS.pick 2 rfl).pick 2 rfl)) ?_)))));rintro _ w ⟨J,ga,gc,rfl,hJ,hgc,hRS,a9,c9,hS⟩;replace hS:=hS.weaken hJ;refine .nil ?_;clear hH;have hH:=((hS.pick 3 rfl).pick 3 rfl)
  refine ⟨fun _ _=>⟨_,hH⟩,?_⟩;refine .done (by kernel_rfl) (.seq (.q 2 rfl (.ret (X1e Tryz.results23 rfl rfl ?_))));have hE:Xo ω iou n=(([],34),X5u ω (getD ω.l iou).parent):=by rw [Xo,if_neg (by rw [hb19]; decide),if_pos hb23]
  rw [hE];exact ⟨_,rfl,rfl,Sat.box (T:=wdT p (X5u ω (getD ω.l iou).parent)) (a9,c9,ma,mc) ((((((hS.drop (k:=2) rfl).pick 4 rfl).pick 4 rfl).pick 3 rfl).pick 3 rfl).pick 4 rfl)⟩
 refine .skip (.seq (.t 2 rfl ?_));refine .val (.fo 0 rfl X69 rfl rfl Xfo rfl) rfl (.val (.lo rfl hS (k:=3) rfl Xdt rfl) rfl (.q 1 rfl (.call Qf33 rfl (ec9 rfl (ec9 rfl X0)) rfl (X92 p.tb ω.room a c ω.l (by have:=hlen; omega) hwf iou B _ I _ ((hS.pick 2 rfl).pick 2 rfl)) ?_)));rintro _ w ⟨J,ga,gc,rfl,hJ,hgc,hRS,a9,c9,hS⟩;replace hS:=hS.weaken hJ;refine .nil (.seq (.q 3 rfl (.ret (X1e Tryz.results23 rfl rfl ?_))));have hE:Xo ω iou n=((iou,0),X5u ω iou):=by rw [Xo,if_neg (by rw [hb19]; decide),if_neg (by rw [hb23]; decide)]
 rw [hE];exact ⟨_,rfl,rfl,Sat.box (T:=wdT p (X5u ω iou)) (a9,c9,ma,mc) ((((((hS.drop (k:=2) rfl).pick 4 rfl).pick 4 rfl).pick 3 rfl).pick 3 rfl).pick 4 rfl)⟩
theorem Xbw (bad:Int) (pgt:List UInt8) (b7 b3 b15:Nat) (u:FrameMode) (p:Wp) (ω:Wd) (hω:X3n ω) (B w:World) (I:Im) (As:List X7) (hS:Sat B w I (blk b7 [I64 bad] 49::blk b3 [ptr p.wb 0] 37::blk b15 [S pgt] 9::wdA p ω::As)) :
  CallsD Tryz.prog 53 [ptr b7 0,ptr b3 0,ptr b15 0].toArray u w (fun e u' w'=>u'=u∧Ret (fun v w'=>Sat B w' I (blk b7 [I64 bad] 49::blk b3 [ptr p.wb 0] 37::blk b15 [S pgt] 9::wdA p (if bad=0 then ω else X5u ω pgt)::As)) e w'):=by
 refine callsD Tryz.func53 rfl Tryz.ntmps53 rfl (.seq (.region ?_));refine .val (.lo rfl hS (k:=0) rfl Qg49 rfl) rfl (.q 1 rfl (.nil ?_));refine .cond rfl (fun hb4=>?_) fun hb4=>?_
 ·replace hS:=(hS.pick 3 rfl)
  obtain ⟨⟨a,c,ma,mc⟩,hS⟩:=Sat.unbox hS;replace hS:Sat B _ _ (blk p.wb (wdC p ω) 44::blk p.tb [I64 ω.room,.slice a ω.l.length c] 114::Vec 54 10 (.slice a ω.l.length c) ω.l.length (Xe ω.l)::blk p.mb [.slice ma ω.D.length mc] 111::X3i 104 (.slice ma ω.D.length mc) (ω.D.map fun d=>U64 (d:Nat))::_):=hS;have hlen:=hω.len;have hwf:=hω.wf;refine .drawn (fun w=>∃ R,Sat B w I (blk b3 [ptr p.wb 0] 37::blk b15 [S pgt] 9::blk p.wb (wdC p ω) 44::R)) (fun j=>!([].contains j)) (by kernel_rfl) ?_;replace hS:=hS.drew; generalize w.drew=w at hS ⊢;have hH:=(((hS.pick 0 rfl).pick 7 rfl).pick 7 rfl)
  refine .tk (i:=0) rfl (by kernel_rfl) ⟨_,hH⟩ (fun w ⟨R,hS⟩=>((.lo rfl hS (k:=0) rfl Xna rfl))) rfl (.tp (i:=1) rfl (by kernel_rfl) (fun w=>(.no rfl)) rfl (.tp (i:=2) rfl (by kernel_rfl) (fun w=>(.fo 0 rfl X69 rfl rfl Xfo rfl)) rfl (.tk (i:=3) rfl (by kernel_rfl) ⟨_,hH⟩ (fun w ⟨R,hS⟩=>((.lo rfl hS (k:=2) rfl Xdt rfl))) rfl (.tk (i:=4) rfl (by kernel_rfl) ⟨_,hH⟩ (fun w ⟨R,hS⟩=>((.lo rfl hS (k:=1) rfl Qg9 rfl))) rfl (.b1 5 (by kernel_rfl) rfl (.call Qf33 rfl (ec9 rfl (ec9 rfl X0)) rfl (X92 p.tb ω.room a c ω.l (by have:=hlen; omega) hwf pgt B _ I _ ((hS.pick 2 rfl).pick 2 rfl)) ?_))))));rintro _ w ⟨J,ga,gc,rfl,hJ,hgc,hRS,a9,c9,hS⟩;replace hS:=hS.weaken hJ;refine .nil ?_;clear hH;have hH:=(((hS.pick 2 rfl).pick 7 rfl).pick 7 rfl)
  refine ⟨fun _ _=>⟨_,hH⟩,?_⟩;refine .done (by kernel_rfl) (X7n Tryz.results53 ?_);replace hS:=Sat.box (T:=wdT p (X5u ω pgt)) (a9,c9,ma,mc) (((((hS.pick 4 rfl).pick 4 rfl).pick 3 rfl).pick 3 rfl).pick 4 rfl);refine ⟨_,rfl,?_⟩;rw [if_neg (by simpa using hb4)];exact (((hS.pick 3 rfl).pick 3 rfl).pick 3 rfl)
 refine .skip (X7n Tryz.results53 ?_);refine ⟨_,rfl,?_⟩;rw [if_pos (by simpa using hb4)];exact hS
theorem Xf1 (pgt:List UInt8) (p:Wp) (ω:Wd) (hω:X3n ω) (B w:World) (I:Im) (As:List X7) (hS:Sat B w I (wdA p ω::As)) :
  Cz 63 [ptr p.wb 0,S pgt] w fun v w'=>v=.bool (Xbb ω.l pgt)∧Sat B w' I (wdA p ω::As):=by
 refine calls Tryz.func63 rfl Tryz.ntmps63 rfl (.seq (.q 1 rfl (.seq (.seq ?_))));obtain ⟨⟨a,c,ma,mc⟩,hS⟩:=Sat.unbox hS;replace hS:Sat B _ _ (blk p.wb (wdC p ω) 44::blk p.tb [I64 ω.room,.slice a ω.l.length c] 114::Vec 54 10 (.slice a ω.l.length c) ω.l.length (Xe ω.l)::blk p.mb [.slice ma ω.D.length mc] 111::X3i 104 (.slice ma ω.D.length mc) (ω.D.map fun d=>U64 (d:Nat))::_):=hS;have hlen:=hω.len;have hwf:=hω.wf;refine .t 2 rfl (.val (.fo 0 rfl X69 rfl rfl Xfo rfl) rfl (.val (.lo rfl hS (k:=0) rfl Xdt rfl) rfl (.q 1 rfl (.call Tryz.func124 rfl (ec9 rfl (ec9 rfl X0)) rfl (Xhm p.tb ω.room a c ω.l (by omega) pgt B _ I _ ((hS.pick 2 rfl).pick 2 rfl)) ?_))));rintro _ w ⟨J,ka,kc,rfl,hJ,hkc,hRS,hS⟩;try dsimp only [List.eraseIdx] at hS
 have hkl:=X9j ω.l pgt;refine .run 2 rfl ⟨⟨_,X19⟩,trivial⟩ (.nil (.block ?_));replace hS:=(((((hS.pick 4 rfl).pick 4 rfl).pick 3 rfl).pick 3 rfl).pick 4 rfl)
 refine .loop (σ:=Nat) (fun i=>[(0,ptr p.wb 0),(1,S pgt),(4,.bool false),(14,.slice ka (X1y ω.l pgt).length kc),(15,I64 ((X1y ω.l pgt).length:Nat)),(16,I64 (i:Nat))]) (fun i w=>i≤(X1y ω.l pgt).length∧((X1y ω.l pgt).take i).any (fun k=>(getD ω.l k).kind == 5)=false∧Sat B w J (blk p.wb (wdC p ω) 44::blk p.tb [I64 ω.room,.slice a ω.l.length c] 114::Vec 54 10 (.slice a ω.l.length c) ω.l.length (Xe ω.l)::blk p.mb [.slice ma ω.D.length mc] 111::X3i 104 (.slice ma ω.D.length mc) (ω.D.map fun d=>U64 (d:Nat))::As)) (fun i=>(X1y ω.l pgt).length - i) 0 ⟨rfl,rfl,rfl,rfl,rfl,rfl,trivial⟩ ⟨Yo _,rfl,hS⟩ ?_;rintro i w ⟨hi,hno,hS⟩;refine .seq (.q 1 rfl (.seq ?_));refine .cond rfl (fun hb17=>?_) fun hb17=>?_
 ·have hc17:=hb17; simp only [Y6] at hc17;refine .skip (.seq (.block (.seq ?_)));obtain ⟨k,hkk⟩:∃ k,(X1y ω.l pgt)[i]?=some k:=⟨_,Y4 (by omega)⟩
  obtain ⟨pp,rfl,hA⟩:=hRS.2 (by omega);have hnm:((X1y ω.l pgt).map S)[i]?=some (S k):=by rw [Yy,hkk]; rfl
  refine .region (.val (.ii rfl rfl (by omega) (by omega) X19 Qs9) rfl ?_);refine .val (.ld1 (.of rfl) (by have h9:=X2c hS hA hnm; simpa using h9) Qg9) rfl ?_;refine .q 1 rfl (.nil (.seq (.t 2 rfl ?_)));refine .val (.fo 0 rfl X69 rfl rfl Xfo rfl) rfl (.val (.lo rfl hS (k:=0) rfl Xdt rfl) rfl (.q 1 rfl (.call Xu6 rfl (ec9 rfl (ec9 rfl X0)) rfl (X7q p.tb ω.room a c ω.l (by omega) k B _ J _ ((hS.pick 2 rfl).pick 2 rfl)) ?_)));rintro _ w ⟨rfl,hS⟩;try dsimp only [List.eraseIdx] at hS
  refine .q 3 rfl (.allocA (cs:=[_,_,_,_,_,_,_,_,_,_]) hS X5t rfl ?_);intro b7 w hS;refine .so hS (k:=0) rfl rfl rfl rfl Xu rfl (by simp) ?_;intro w hS;try simp only [Yh,Ye,Y9,Y7,Yg,Yn,Yd] at hS
  refine .q 1 rfl (.nil (.seq (.region ?_)));refine .val (.fo 0 rfl Xr rfl rfl Qs3 rfl) rfl (.val (.lo rfl hS (k:=0) rfl Qg3 rfl) rfl (.q 1 rfl (.nil ?_)));refine .cond rfl (fun hb31=>?_) fun hb31=>?_
  ·refine .seq (.q 1 rfl (.ret (X9 Tryz.results63 rfl ?_)));have hE:Xbb ω.l pgt=true:=Y1w.2 ⟨k,Yi hkk,hb31⟩;rw [hE];exact ⟨_,rfl,rfl,Sat.box (T:=wdT p ω) (a,c,ma,mc) (Sat.weaken ((((((hS.pick 5 rfl).pick 5 rfl).pick 4 rfl).pick 4 rfl).pick 5 rfl).drop (k:=5) rfl) hJ)⟩
  have hc31:=hb31; simp only [Y6] at hc31;refine .skip (.region (.run 2 rfl ⟨⟨by omega,by omega⟩,trivial⟩ (.nil ?_)));refine ⟨i+1,⟨rfl,rfl,rfl,rfl,rfl,rfl,trivial⟩,⟨by (try dsimp only); omega,?_,((((((hS.pick 5 rfl).pick 5 rfl).pick 4 rfl).pick 4 rfl).pick 5 rfl).drop (k:=5) rfl)⟩,by (try dsimp only); omega⟩;rw [Y12,hkk,Y1k,List.any_append,hno,Y4y,List.any_nil,show ((getD ω.l k).kind == 5)=false from hb31]; rfl
 have hc17:=hb17; simp only [Y6] at hc17;refine .exit (.seq (.q 1 rfl (.ret (X9 Tryz.results63 rfl ?_))));have hin:i=(X1y ω.l pgt).length:=by omega
 rw [hin,Y13] at hno;rw [show Xbb ω.l pgt=false from hno];exact ⟨_,rfl,rfl,Sat.box (T:=wdT p ω) (a,c,ma,mc) (hS.weaken hJ)⟩
theorem Xgb (p:Wp) (ω:Wd) (hω:X3n ω) (B w:World) (I:Im) (As:List X7) (hS:Sat B w I (wdA p ω::As)) :
  Cz 21 [ptr p.wb 0] w fun v w'=>∃ J ka kc,v=.slice ka (X4k ω.l).length kc∧Le I J∧(X4k ω.l).length≤kc∧RS J ka 1 (X4k ω.l).length ((X4k ω.l).map S)∧Sat B w' J (wdA p ω::As):=by
 refine calls Tryz.func21 rfl Tryz.ntmps21 rfl (.seq (.q 1 rfl (.seq (.q 1 rfl (.seq (.seq ?_))))));obtain ⟨⟨a,c,ma,mc⟩,hS⟩:=Sat.unbox hS;replace hS:Sat B _ _ (blk p.wb (wdC p ω) 44::blk p.tb [I64 ω.room,.slice a ω.l.length c] 114::Vec 54 10 (.slice a ω.l.length c) ω.l.length (Xe ω.l)::blk p.mb [.slice ma ω.D.length mc] 111::X3i 104 (.slice ma ω.D.length mc) (ω.D.map fun d=>U64 (d:Nat))::_):=hS;have hlen:=hω.len;refine .t 2 rfl (.val (.fo 0 rfl X69 rfl rfl Xfo rfl) rfl (.val (.lo rfl hS (k:=0) rfl Xdt rfl) rfl (.call Tryz.func12 rfl (ec9 rfl X0) rfl (Xa0 p.tb ω.room a c ω.l (by omega) B _ I _ ((hS.pick 2 rfl).pick 2 rfl)) ?_)));rintro _ w ⟨J,wa,wc,rfl,hJ,hwc,hRw,hS⟩;try dsimp only [List.eraseIdx] at hS
 refine .run 2 rfl ⟨⟨_,X1p⟩,trivial⟩ (.nil (.block ?_));replace hS:=(((((hS.pick 4 rfl).pick 4 rfl).pick 3 rfl).pick 3 rfl).pick 4 rfl).vecNil 9 1;refine .loop (σ:=Nat×Value) (fun ⟨i,kv⟩=>[(0,ptr p.wb 0),(3,kv),(10,.slice wa ω.l.length wc),(11,I64 (ω.l.length:Nat)),(12,I64 (i:Nat))]) (fun ⟨i,kv⟩ w=>i≤ω.l.length∧Sat B w J (Vec 9 1 kv (((ω.l.take i).filter X2f).map Rec.name).length ((((ω.l.take i).filter X2f).map Rec.name).map S)::blk p.wb (wdC p ω) 44::blk p.tb [I64 ω.room,.slice a ω.l.length c] 114::Vec 54 10 (.slice a ω.l.length c) ω.l.length (Xe ω.l)::blk p.mb [.slice ma ω.D.length mc] 111::X3i 104 (.slice ma ω.D.length mc) (ω.D.map fun d=>U64 (d:Nat))::As)) (fun ⟨i,kv⟩=>ω.l.length - i) (0,.slice none 0 0) ⟨rfl,rfl,rfl,rfl,rfl,trivial⟩ ⟨Yo _,hS⟩ ?_;rintro ⟨i,kv⟩ w ⟨hi,hS⟩;refine .seq (.q 1 rfl (.seq ?_));refine .cond rfl (fun hb13=>?_) fun hb13=>?_
 ·have hc13:=hb13; simp only [Y6] at hc13;refine .skip (.seq (.block (.seq ?_)));obtain ⟨r,hr⟩:∃ r,ω.l[i]?=some r:=⟨_,Y4 (by omega)⟩
  obtain ⟨wp,hq9,hx⟩:=X5s (cells:=X5) (s:=10) (fun _=>rfl) hRw hr;subst hq9;unfold X5 at hx;have hfl:=Y2z X2f (ω.l.take i);rw [Yt] at hfl;have hol:(((ω.l.take i).filter X2f).map Rec.name).length=((ω.l.take i).filter X2f).length:=Y10 _;have hsn:((ω.l.take (i+1)).filter X2f).map Rec.name=((ω.l.take i).filter X2f).map Rec.name ++ ([r].filter X2f).map Rec.name:=by rw [Y12,hr,Y1k,Y2n,Yv]
  refine .region (.val (.ii rfl rfl (by omega) (by omega) X1p Xu) rfl (.val (.ldsI (.of rfl) hS hx X3e Xu rfl (fun _ _ h=>h)) rfl (.allocA (cs:=[_,_,_,_,_,_,_,_,_,_]) hS X5t rfl ?_)));intro b5 w hS;refine .so hS (k:=0) rfl rfl rfl rfl Xu rfl (by simp) ?_;intro w hS;try simp only [Yh,Ye,Y9,Y7,Yg,Yn,Yd] at hS
  refine .nil (.seq (.region ?_));refine .val (.fo 0 rfl Xr rfl rfl Qs3 rfl) rfl (.val (.lo rfl hS (k:=0) rfl Qg3 rfl) rfl (.q 1 rfl (.nil ?_)));refine .cond rfl (fun hb18=>?_) fun hb18=>?_
  ·have hc18:=hb18; simp only [Y6] at hc18;refine .t 1 rfl (.val (.fo 1 rfl Xr rfl rfl Qs9 rfl) rfl (.val (.lo rfl hS (k:=0) rfl Qg9 rfl) rfl (.buildSlice (cs:=[_]) hS (pc9 rfl X4) X19 Qs9 Qz9 rfl rfl rfl rfl ?_)));intro b22 w hS;refine .append (size:=1) (bytes:=16) hS (.of rfl) (.of rfl) (k:=1) rfl X19 X1m rfl rfl rfl rfl rfl rfl rfl ⟨by omega,by unfold maxLen; omega⟩ rfl ?_;intro v23 w hS;obtain ⟨a23,c23,rfl,hcap23,_⟩:=hS.vecSlice (k:=1) (v:=v23) rfl;refine .q 1 rfl (.nil (.region (.run 2 rfl ⟨⟨by omega,by omega⟩,trivial⟩ (.nil ?_))));refine ⟨(i+1,.slice a23 ((((ω.l.take i).filter X2f).map Rec.name).length+1) c23),⟨rfl,rfl,rfl,rfl,rfl,trivial⟩,⟨by (try dsimp only); omega,?_⟩,by (try dsimp only); omega⟩;rw [hsn,Y2p,if_pos (by simpa [X2f] using hb18),Y3i,Y1d,Y2q,Yv,show (((ω.l.take i).filter X2f).map Rec.name ++ [r.name]).length=(((ω.l.take i).filter X2f).map Rec.name).length+1 from Y0];exact (((((((hS.pick 6 rfl).pick 6 rfl).pick 6 rfl).pick 6 rfl).pick 6 rfl).pick 6 rfl).drop (k:=6) rfl)
  have hc18:=hb18; simp only [Y6] at hc18;refine .skip (.region (.run 2 rfl ⟨⟨by omega,by omega⟩,trivial⟩ (.nil ?_)));refine ⟨(i+1,kv),⟨rfl,rfl,rfl,rfl,rfl,trivial⟩,⟨by (try dsimp only); omega,?_⟩,by (try dsimp only); omega⟩;rw [hsn,Y2p,if_neg (by simpa [X2f] using hb18),Y3i,Y2q,Y9];exact (((((((hS.pick 6 rfl).pick 6 rfl).pick 6 rfl).pick 6 rfl).pick 6 rfl).pick 6 rfl).drop (k:=6) rfl)
 have hc13:=hb13; simp only [Y6] at hc13;refine .exit (.seq (.q 2 rfl (.ret (X9 Tryz.results21 rfl ?_))));have hin:i=ω.l.length:=by omega
 subst hin;rw [Y13] at hS;obtain ⟨ka,kc,rfl,hkc,_⟩:=hS.vecSlice (k:=0) rfl;obtain ⟨J2,hJ2,hR2,hS⟩:=hS.freezeVec (k:=0) rfl;exact ⟨_,rfl,J2,ka,kc,rfl,hJ.trans hJ2,hkc,hR2,Sat.box (T:=wdT p ω) (a,c,ma,mc) hS⟩
theorem X7b (pgt target:List UInt8) (htg:pgt.length≤1000000) (hqs:target.length≤1000000) (p:Wp) (ω:Wd) (hω:X3n ω) (B w:World) (I:Im) (hI:WpOk I p) (As:List X7) (hS:Sat B w I (wdA p ω::As)) :
  Cz 20 [ptr p.wb 0,S pgt,S target] w fun v w'=>v=.tuple #[S (Xn p.lo p.ps ω pgt target).1.1.1,S (Xn p.lo p.ps ω pgt target).1.1.2,I64 ((Xn p.lo p.ps ω pgt target).1.2:Nat)]∧Sat B w' I (wdA p (Xn p.lo p.ps ω pgt target).2::As):=by
 refine calls Qf20 rfl Tryz.ntmps20 rfl (.seq (.q 3 rfl (.seq (.seq (.t 3 rfl (.gm rfl rfl rfl rfl (.gval rfl rfl (fun hg1=>(.eqs (.gd hg1 rfl) (.of rfl))) rfl (.val (.po rfl rfl rfl) rfl (.nil ?_)))))))));refine .cond rfl (fun hb20=>?_) fun hb20=>?_
 ·refine .seq (.q 3 rfl (.ret (X7j Qr20 rfl rfl rfl ?_)));have hE:Xn p.lo p.ps ω pgt target=((([],[]),33),ω):=by rw [Xn,if_pos hb20]
  rw [hE];exact ⟨_,rfl,rfl,hS⟩
 refine .skip (.seq (.t 2 rfl (.call Tryz.func19 rfl (ec9 rfl (ec9 rfl (ec9 rfl X0))) rfl (Xl3 pgt 4 p ω hω B _ I _ hS) ?_)));rintro _ w ⟨rfl,hS⟩;refine .q 3 rfl (.allocA (cs:=[_,_,_,_,_,_,_,_,_,_]) hS X5t rfl ?_);intro b9 w hS;refine .so hS (k:=0) rfl rfl rfl rfl Xu rfl (by simp) ?_;intro w hS;try simp only [Yh,Ye,Y9,Y7,Yg,Yn,Yd] at hS
 refine .q 1 rfl (.nil (.seq (.seq ?_)));replace hS:=hS.pick 1 rfl;refine .t 3 rfl (.gm rfl rfl rfl rfl (.gm rfl rfl rfl rfl (.gcall (T:=fun w=>Sat B w I _) rfl rfl rfl Tryz.func63 rfl (fun hg1=>(X6 (.gd hg1 rfl) (X6 (.gd hg1 rfl) X0))) rfl (fun hg1=>Xf1 pgt p ω hω B _ I _ hS) hS ?_)));rintro w hS;refine .val (.po rfl rfl rfl) rfl (.nil ?_);refine .cond rfl (fun hb33=>?_) fun hb33=>?_
 ·refine .seq (.q 3 rfl (.ret (X7j Qr20 rfl rfl rfl ?_)));have hE:Xn p.lo p.ps ω pgt target=((([],[]),30),ω):=by rw [Xn,if_neg (by rw [hb20]; decide),if_pos hb33]
  rw [hE];exact ⟨_,rfl,rfl,(hS.drop (k:=1) rfl)⟩
 refine .skip (.seq ?_);obtain ⟨⟨a,c,ma,mc⟩,hS⟩:=Sat.unbox hS;replace hS:Sat B _ _ (blk p.wb (wdC p ω) 44::blk p.tb [I64 ω.room,.slice a ω.l.length c] 114::Vec 54 10 (.slice a ω.l.length c) ω.l.length (Xe ω.l)::blk p.mb [.slice ma ω.D.length mc] 111::X3i 104 (.slice ma ω.D.length mc) (ω.D.map fun d=>U64 (d:Nat))::_):=hS;refine .t 2 rfl (.val (.fo 2 rfl X69 rfl rfl Tryz.sizeOf41 rfl) rfl (.val (.lo rfl hS (k:=0) rfl Tryz.isAgg41 rfl) rfl (.q 1 rfl (.call Qf50 rfl (ec9 rfl (ec9 rfl X0)) rfl (Xcu target hqs p B _ I hI _ hS) ?_))));rintro _ w ⟨ra,rc,rfl,hS⟩;refine .q 4 rfl (.allocA (cs:=[_,_,_,_,_,_,_,_]) hS Xj3 rfl ?_);intro b11 w hS;refine .so hS (k:=0) rfl rfl rfl rfl X2b rfl (by simp) ?_;intro w hS;try simp only [Yh,Ye,Y9,Y7,Yg,Yn,Yd] at hS
 refine .q 2 rfl (.nil (.seq (.seq ?_)));replace hS:=Sat.box (T:=wdT p _) (a,c,ma,mc) (((((hS.pick 5 rfl).pick 5 rfl).pick 5 rfl).pick 5 rfl).pick 5 rfl);refine .q 2 rfl (.cond rfl (fun hb45=>?_) fun hb45=>?_)
 ·refine .seq (.q 3 rfl (.ret (X7j Qr20 rfl rfl rfl ?_)));have hE:Xn p.lo p.ps ω pgt target=((([],[]),36),ω):=by rw [Xn,if_neg (by rw [hb20]; decide),if_neg (by rw [hb33]; decide),if_pos hb45]
  rw [hE];exact ⟨_,rfl,rfl,((hS.drop (k:=1) rfl).drop (k:=1) rfl)⟩
 refine .skip (.seq (.t 2 rfl ?_));refine .val (.fo 3 rfl Xr rfl rfl Qs9 rfl) rfl (.val (.lo rfl hS (k:=2) rfl Qg9 rfl) rfl (.q 1 rfl (.val (.build (cs:=[_,_,_,_,_,_,_,_,_,_]) (pc9 rfl (pc9 rfl (pc9 rfl (pc9 rfl X4)))) X1v rfl) rfl (.call Qf52 rfl (ec9 rfl (ec9 rfl X0)) rfl (Xcb (X2s p.lo p.ps ω pgt target) htg p ω hω B _ I hI _ hS) ?_))));rintro _ w ⟨rfl,hS⟩;refine .q 5 rfl (.nil (.seq (.seq (.q 2 rfl ?_))));refine .cond rfl (fun hb57=>?_) fun hb57=>?_
 ·refine .seq (.q 4 rfl (.ret (X7j Qr20 rfl rfl rfl ?_)));have hE:Xn p.lo p.ps ω pgt target=((([],[]),(mkW ω (X2s p.lo p.ps ω pgt target)).1.2),(mkW ω (X2s p.lo p.ps ω pgt target)).2):=by rw [Xn,if_neg (by rw [hb20]; decide),if_neg (by rw [hb33]; decide),if_neg (by rw [hb45]; decide),if_pos (by simpa using hb57)]
  rw [hE];exact ⟨_,rfl,rfl,((hS.drop (k:=1) rfl).drop (k:=1) rfl)⟩
 refine .skip (.seq ?_);obtain ⟨⟨a2,c2,ma2,mc2⟩,hS⟩:=Sat.unbox hS;replace hS:Sat B _ _ (blk p.wb (wdC p (mkW ω (X2s p.lo p.ps ω pgt target)).2) 44::blk p.tb [I64 (mkW ω (X2s p.lo p.ps ω pgt target)).2.room,.slice a2 (mkW ω (X2s p.lo p.ps ω pgt target)).2.l.length c2] 114::Vec 54 10 (.slice a2 (mkW ω (X2s p.lo p.ps ω pgt target)).2.l.length c2) (mkW ω (X2s p.lo p.ps ω pgt target)).2.l.length (Xe (mkW ω (X2s p.lo p.ps ω pgt target)).2.l)::blk p.mb [.slice ma2 (mkW ω (X2s p.lo p.ps ω pgt target)).2.D.length mc2] 111::X3i 104 (.slice ma2 (mkW ω (X2s p.lo p.ps ω pgt target)).2.D.length mc2) ((mkW ω (X2s p.lo p.ps ω pgt target)).2.D.map fun d=>U64 (d:Nat))::_):=hS;have hω2:=X2m hω (X2s p.lo p.ps ω pgt target);have hlen2:=hω2.len;have hsh:=X8j (ps:=p.ps) hω pgt 4;refine .drawn (fun w=>∃ R,Sat B w I (blk b9 (X5 (Xv p.ps ω pgt 4).1) 54::blk p.wb (wdC p (mkW ω (X2s p.lo p.ps ω pgt target)).2) 44::R)) (fun j=>!([].contains j)) (by kernel_rfl) ?_;replace hS:=hS.drew; generalize w.drew=w at hS ⊢;have hH:=((hS.pick 0 rfl).pick 6 rfl)
 refine .tp (i:=0) rfl (by kernel_rfl) (fun w=>(.mo rfl)) rfl (.tp (i:=1) rfl (by kernel_rfl) (fun w=>(.no rfl)) rfl ?_);refine .tp (i:=2) rfl (by kernel_rfl) (fun w=>(.fo 0 rfl X69 rfl rfl Xfo rfl)) rfl (.tk (i:=3) rfl (by kernel_rfl) ⟨_,hH⟩ (fun w ⟨R,hS⟩=>((.lo rfl hS (k:=1) rfl Xdt rfl))) rfl (.tk (i:=4) rfl (by kernel_rfl) ⟨_,hH⟩ (fun w ⟨R,hS⟩=>((.ldsW (cs:=[_,_,_,_,_,_,_,_,_,_]) (.of rfl) hS (k:=0) rfl X3e Xu rfl))) rfl (.tp (i:=5) rfl (by kernel_rfl) (fun w=>(.mo rfl)) rfl (.tp (i:=6) rfl (by kernel_rfl) (fun w=>(.no rfl)) rfl ?_))));refine .tp (i:=7) rfl (by kernel_rfl) (fun w=>(.fo 25 rfl X69 rfl rfl Qs3 rfl)) rfl (.tk (i:=8) rfl (by kernel_rfl) ⟨_,hH⟩ (fun w ⟨R,hS⟩=>((.lo rfl hS (k:=1) rfl Qg3 rfl))) rfl (.b1 9 (by kernel_rfl) rfl (.call Tryz.func65 rfl (ec9 rfl (ec9 rfl X0)) rfl (Xlf (Xv p.ps ω pgt 4).1 (mkW ω (X2s p.lo p.ps ω pgt target)).2.now hsh.2.2.1 hsh.2.2.2 B _ I _ hS) ?_)));rintro _ w ⟨rfl,hS⟩;refine .nil ?_;clear hH;have hH:=((hS.pick 0 rfl).pick 6 rfl)
 refine ⟨fun _ _=>⟨_,hH⟩,?_⟩;refine .b1 10 (by kernel_rfl) rfl (.call Tryz.func64 rfl (ec9 rfl (ec9 rfl X0)) rfl (Xt1 p.tb (mkW ω (X2s p.lo p.ps ω pgt target)).2.room a2 c2 (mkW ω (X2s p.lo p.ps ω pgt target)).2.l (by omega) (X4i (Xv p.ps ω pgt 4).1 (mkW ω (X2s p.lo p.ps ω pgt target)).2.now) (Y21 hsh.1 (by decide)) (Y21 hsh.2.1 (by decide)) B _ I hI.known hI.pre _ ((hS.pick 2 rfl).pick 2 rfl)) ?_);rintro _ w ⟨rfl,hS⟩;refine .nil ?_;clear hH;have hH:=((hS.pick 2 rfl).pick 6 rfl)
 refine ⟨fun _ _=>⟨_,hH⟩,?_⟩;refine .done (by kernel_rfl) (.seq (.q 5 rfl (.ret (X7j Qr20 rfl rfl rfl ?_))));replace hS:=Sat.box (T:=wdT p (putW (mkW ω (X2s p.lo p.ps ω pgt target)).2 (X4i (Xv p.ps ω pgt 4).1 (mkW ω (X2s p.lo p.ps ω pgt target)).2.now))) (a2,c2,ma2,mc2) (((((hS.pick 4 rfl).pick 4 rfl).pick 3 rfl).pick 3 rfl).pick 4 rfl);have hE:Xn p.lo p.ps ω pgt target=((((mkW ω (X2s p.lo p.ps ω pgt target)).1.1,(X1r p.lo target).2.1),0),putW (mkW ω (X2s p.lo p.ps ω pgt target)).2 (X4i (Xv p.ps ω pgt 4).1 (mkW ω (X2s p.lo p.ps ω pgt target)).2.now)):=by rw [Xn,if_neg (by rw [hb20]; decide),if_neg (by rw [hb33]; decide),if_neg (by rw [hb45]; decide),if_neg (by simpa using hb57)]
 rw [hE];exact ⟨_,rfl,rfl,((hS.drop (k:=1) rfl).drop (k:=1) rfl)⟩
theorem Xcd (t cb:List UInt8) (ht:t.length≤1000000) (hcb:cb.length≤1000000) (p:Wp) (ω:Wd) (hω:X3n ω) (B w:World) (I:Im) (hI:WpOk I p) (As:List X7) (hS:Sat B w I (wdA p ω::As)) :
  Cz 13 [ptr p.wb 0,S t,S cb] w fun v w'=>v=.tuple #[.agg (X6h (Xt p.lo ω t cb).1.1).toArray,I64 ((Xt p.lo ω t cb).1.2:Nat)]∧Sat B w' I (wdA p (Xt p.lo ω t cb).2::As):=by
 refine callsF Qf13 rfl Tryz.ntmps13 rfl (.seq (.region (.box1 hS (.of rfl) rfl rfl ?_)));intro b3 w hS;refine .allocA (cs:=[_,_,_]) hS Xrl rfl ?_;intro b6 w hS;refine .alloc1 hS Tryz.zeroValue49 rfl rfl ?_;intro b7 w hS;refine .nil (.seq ?_);replace hS:=(hS.pick 3 rfl)
 obtain ⟨⟨a,c,ma,mc⟩,hS⟩:=Sat.unbox hS;replace hS:Sat B _ _ (blk p.wb (wdC p ω) 44::blk p.tb [I64 ω.room,.slice a ω.l.length c] 114::Vec 54 10 (.slice a ω.l.length c) ω.l.length (Xe ω.l)::blk p.mb [.slice ma ω.D.length mc] 111::X3i 104 (.slice ma ω.D.length mc) (ω.D.map fun d=>U64 (d:Nat))::_):=hS;have hlen:=hω.len;have hwf:=hω.wf;have hsv:=Xe7 hω.wf t;refine .region (.val (.lo rfl hS (k:=7) rfl Xna rfl) rfl (.q 1 rfl (.val (.fo 0 rfl X69 rfl rfl Xfo rfl) rfl (.val (.lo rfl hS (k:=0) rfl Xdt rfl) rfl (.q 1 rfl (.call Xu6 rfl (ec9 rfl (ec9 rfl X0)) rfl (X7q p.tb ω.room a c ω.l (by omega) t B _ I _ ((hS.pick 2 rfl).pick 2 rfl)) ?_))))));rintro _ w ⟨rfl,hS⟩;refine .q 3 rfl (.allocA (cs:=[_,_,_,_,_,_,_,_,_,_]) hS X5t rfl ?_);intro b8 w hS;refine .so hS (k:=0) rfl rfl rfl rfl Xu rfl (by simp) ?_;intro w hS;try simp only [Yh,Ye,Y9,Y7,Yg,Yn,Yd] at hS
 refine .q 1 rfl (.nil (.seq (.seq (.region ?_))));refine .val (.fo 0 rfl Xr rfl rfl Qs3 rfl) rfl (.val (.lo rfl hS (k:=0) rfl Qg3 rfl) rfl (.q 2 rfl (.gval rfl rfl (fun hg1=>(by exact .fo 0 rfl Xr rfl rfl Qs3 rfl)) rfl ?_)));refine .gval rfl rfl (fun hg1=>(by exact (.ld (.gd hg1 rfl) hS (k:=0) rfl Qg3 rfl))) rfl ?_;refine .gval rfl rfl (fun hg1=>(.neq (.gd hg1 rfl) (.of rfl))) rfl (.val (.pa rfl rfl rfl) rfl (.q 1 rfl ?_));refine .gval rfl rfl (fun hg1=>(by exact .fo 8 rfl Xr rfl rfl Qs3 rfl)) rfl ?_;refine .gval rfl rfl (fun hg1=>(by exact (.ld (.gd hg1 rfl) hS (k:=0) rfl Qg3 rfl))) rfl ?_;refine .gval rfl rfl (fun hg1=>(.eql (.gd hg1 rfl) (.of rfl))) rfl (.val (.po rfl rfl rfl) rfl (.nil ?_));refine .cond rfl (fun hb38=>?_) fun hb38=>?_
 ·refine .seq (.region (.val (.build (cs:=[_,_,_]) X4 X4g rfl) rfl ?_));refine .so hS (k:=7) rfl rfl rfl rfl X4n rfl (by simp) ?_;intro w hS;try simp only [Yh,Ye,Y9,Y7,Yg,Yn,Yd] at hS
  refine .s1 hS (k:=6) rfl rfl rfl rfl Qs49 (by simp) ?_;intro w hS;refine .nil (.ret ?_);replace hS:=Sat.box (T:=wdT p ω) (a,c,ma,mc) (((((hS.pick 5 rfl).pick 5 rfl).pick 4 rfl).pick 4 rfl).pick 5 rfl);have hE:Xt p.lo ω t cb=((c0,30),ω):=by rw [Xt,if_pos (show noP ω t=true from hb38)]
  refine Xu3 rfl (Xeo Qr13 hS (k:=3) (j:=2) rfl rfl Xc6 X4n Qg49 rfl rfl rfl) ?_;rw [hE];exact ⟨_,rfl,rfl,((((hS.drop (k:=1) rfl).drop (k:=1) rfl).drop (k:=1) rfl).drop (k:=1) rfl)⟩
 refine .skip (.cutS (σ:=Nat×Option Addr×Nat) (fun ⟨b10,ra,rc⟩=>[(1,S t),(2,S cb),(3,ptr b3 0),(6,ptr b6 0),(7,ptr b7 0),(8,ptr b8 0),(10,ptr b10 0),(12,I64 (((X1r p.lo (getD ω.l t).service).2.2:Nat):Int))]) (fun ⟨b10,ra,rc⟩ w=>Sat B w I (blk b10 (X16 (X1r p.lo (getD ω.l t).service).1 ra rc) 59::blk b8 (X5 (getD ω.l t)) 54::blk b7 [I64 0] 49::blk b6 [S [],S [],S []] 48::blk b3 [ptr p.wb 0] 37::wdA p ω::As)) ?_ ?_)
 ·refine .drawn (fun w=>∃ R,Sat B w I (blk b8 (X5 (getD ω.l t)) 54::blk b3 [ptr p.wb 0] 37::blk p.wb (wdC p ω) 44::R)) (fun j=>!([].contains j)) (by kernel_rfl) ?_;replace hS:=hS.drew; generalize w.drew=w at hS ⊢;have hH:=(((hS.pick 3 rfl).pick 8 rfl).pick 2 rfl)
  refine .tk (i:=0) rfl (by kernel_rfl) ⟨_,hH⟩ (fun w ⟨R,hS⟩=>((.lo rfl hS (k:=1) rfl Xna rfl))) rfl (.tp (i:=1) rfl (by kernel_rfl) (fun w=>(.no rfl)) rfl (.tp (i:=2) rfl (by kernel_rfl) (fun w=>(.fo 2 rfl X69 rfl rfl Tryz.sizeOf41 rfl)) rfl (.tk (i:=3) rfl (by kernel_rfl) ⟨_,hH⟩ (fun w ⟨R,hS⟩=>((.lo rfl hS (k:=2) rfl Tryz.isAgg41 rfl))) rfl (.tp (i:=4) rfl (by kernel_rfl) (fun w=>(.fo 4 rfl Xr rfl rfl Qs9 rfl)) rfl (.tk (i:=5) rfl (by kernel_rfl) ⟨_,hH⟩ (fun w ⟨R,hS⟩=>((.lo rfl hS (k:=0) rfl Qg9 rfl))) rfl (.branch [6,11] (by kernel_rfl) rfl (WO.cons rfl ?_ (WO.cons rfl ?_ (WO.nil)))))))))
  ·refine .call Qf50 rfl (ec9 rfl (ec9 rfl X0)) rfl (Xcu (getD ω.l t).service (by omega) p B _ I hI _ hS) ?_;rintro _ w ⟨ra,rc,rfl,hS⟩;refine .nil ?_;clear hH;have hH:=(((hS.pick 3 rfl).pick 8 rfl).pick 2 rfl)
   refine ⟨fun _ _=>⟨_,hH⟩,?_⟩;refine .tp (i:=7) rfl (by kernel_rfl) (fun w=>(.mo rfl)) rfl (.tp (i:=8) rfl (by kernel_rfl) (fun w=>(.extract (.of rfl) rfl)) rfl (.tp (i:=9) rfl (by kernel_rfl) (fun w=>(.extract (.of rfl) rfl)) rfl (.tp (i:=10) rfl (by kernel_rfl) (fun w=>(.extract (.of rfl) rfl)) rfl ?_)));refine .b1 11 (by kernel_rfl) rfl (.allocA (cs:=[_,_,_,_,_,_,_,_]) hS Xj3 rfl ?_);intro b10 w hS;refine .nil ?_;clear hH;have hH:=(((hS.pick 4 rfl).pick 9 rfl).pick 3 rfl)
   refine ⟨fun _ _=>⟨_,hH⟩,?_⟩;refine .b1 12 (by kernel_rfl) rfl (.so hS (k:=0) rfl rfl rfl rfl X2b rfl (by simp) ?_);intro w hS;try simp only [Yh,Ye,Y9,Y7,Yg,Yn,Yd] at hS
   refine .nil ?_;clear hH;have hH:=(((hS.pick 4 rfl).pick 9 rfl).pick 3 rfl)
   refine ⟨fun _ _=>⟨_,hH⟩,?_⟩;refine .tp (i:=13) rfl (by kernel_rfl) (fun w=>(.ao rfl)) rfl (.tp (i:=14) rfl (by kernel_rfl) (fun w=>(.ao rfl)) rfl (.done (by kernel_rfl) ?_));replace hS:=Sat.box (T:=wdT p ω) (a,c,ma,mc) (((((hS.pick 6 rfl).pick 6 rfl).pick 5 rfl).pick 5 rfl).pick 6 rfl);exact ⟨(b10,ra,rc),⟨rfl,rfl,rfl,rfl,rfl,rfl,rfl,rfl,trivial⟩,(((((hS.pick 5 rfl).pick 5 rfl).pick 5 rfl).pick 5 rfl).pick 5 rfl)⟩
  ·refine .allocA (cs:=[_,_,_,_,_,_,_,_]) hS Xj3 rfl ?_;intro b10 w hS;refine .nil ?_;clear hH;have hH:=(((hS.pick 4 rfl).pick 9 rfl).pick 3 rfl)
   refine ⟨fun _ _=>⟨_,hH⟩,?_⟩;refine .b1 6 (by kernel_rfl) rfl (.call Qf50 rfl (ec9 rfl (ec9 rfl X0)) rfl (Xcu (getD ω.l t).service (by omega) p B _ I hI _ hS) ?_);rintro _ w ⟨ra,rc,rfl,hS⟩;refine .nil ?_;clear hH;have hH:=(((hS.pick 4 rfl).pick 9 rfl).pick 3 rfl)
   refine ⟨fun _ _=>⟨_,hH⟩,?_⟩;refine .tp (i:=7) rfl (by kernel_rfl) (fun w=>(.mo rfl)) rfl (.tp (i:=8) rfl (by kernel_rfl) (fun w=>(.extract (.of rfl) rfl)) rfl (.tp (i:=9) rfl (by kernel_rfl) (fun w=>(.extract (.of rfl) rfl)) rfl (.tp (i:=10) rfl (by kernel_rfl) (fun w=>(.extract (.of rfl) rfl)) rfl ?_)));refine .b1 12 (by kernel_rfl) rfl (.so hS (k:=0) rfl rfl rfl rfl X2b rfl (by simp) ?_);intro w hS;try simp only [Yh,Ye,Y9,Y7,Yg,Yn,Yd] at hS
   refine .nil ?_;clear hH;have hH:=(((hS.pick 4 rfl).pick 9 rfl).pick 3 rfl)
   refine ⟨fun _ _=>⟨_,hH⟩,?_⟩;refine .tp (i:=13) rfl (by kernel_rfl) (fun w=>(.ao rfl)) rfl (.tp (i:=14) rfl (by kernel_rfl) (fun w=>(.ao rfl)) rfl (.done (by kernel_rfl) ?_));replace hS:=Sat.box (T:=wdT p ω) (a,c,ma,mc) (((((hS.pick 6 rfl).pick 6 rfl).pick 5 rfl).pick 5 rfl).pick 6 rfl);exact ⟨(b10,ra,rc),⟨rfl,rfl,rfl,rfl,rfl,rfl,rfl,rfl,trivial⟩,(((((hS.pick 5 rfl).pick 5 rfl).pick 5 rfl).pick 5 rfl).pick 5 rfl)⟩
 rintro ⟨b10,ra,rc⟩ w hS;refine .seq ?_;replace hS:=(hS.pick 5 rfl)
 obtain ⟨⟨a,c,ma,mc⟩,hS⟩:=Sat.unbox hS;replace hS:Sat B _ _ (blk p.wb (wdC p ω) 44::blk p.tb [I64 ω.room,.slice a ω.l.length c] 114::Vec 54 10 (.slice a ω.l.length c) ω.l.length (Xe ω.l)::blk p.mb [.slice ma ω.D.length mc] 111::X3i 104 (.slice ma ω.D.length mc) (ω.D.map fun d=>U64 (d:Nat))::_):=hS;refine .drawn (fun w=>∃ R,Sat B w I (blk b10 (X16 (X1r p.lo (getD ω.l t).service).1 ra rc) 59::blk b3 [ptr p.wb 0] 37::blk p.wb (wdC p ω) 44::R)) (fun j=>!([].contains j)) (by kernel_rfl) ?_;replace hS:=hS.drew; generalize w.drew=w at hS ⊢;have hH:=(((hS.pick 0 rfl).pick 9 rfl).pick 6 rfl)
 refine .tk (i:=0) rfl (by kernel_rfl) ⟨_,hH⟩ (fun w ⟨R,hS⟩=>((.lo rfl hS (k:=1) rfl Xna rfl))) rfl (.tp (i:=1) rfl (by kernel_rfl) (fun w=>(.no rfl)) rfl (.tp (i:=2) rfl (by kernel_rfl) (fun w=>(.fo 2 rfl X69 rfl rfl Tryz.sizeOf41 rfl)) rfl (.tk (i:=3) rfl (by kernel_rfl) ⟨_,hH⟩ (fun w ⟨R,hS⟩=>((.lo rfl hS (k:=2) rfl Tryz.isAgg41 rfl))) rfl (.tp (i:=4) rfl (by kernel_rfl) (fun w=>(.fo 0 rfl X5r rfl rfl Qs3 rfl)) rfl (.tk (i:=5) rfl (by kernel_rfl) ⟨_,hH⟩ (fun w ⟨R,hS⟩=>((.lo rfl hS (k:=0) rfl Qg3 rfl))) rfl (.tp (i:=6) rfl (by kernel_rfl) (fun w=>(.mo rfl)) rfl (.b1 7 (by kernel_rfl) rfl (.call Tryz.func51 rfl (ec9 rfl (ec9 rfl (ec9 rfl X0))) rfl (Xsk (X1r p.lo (getD ω.l t).service).1.id cb hcb p B _ I hI _ hS) ?_))))))));rintro _ w ⟨rfl,hS⟩;refine .nil ?_;clear hH;have hH:=(((hS.pick 0 rfl).pick 9 rfl).pick 6 rfl)
 refine ⟨fun _ _=>⟨_,hH⟩,?_⟩;refine .tp (i:=8) rfl (by kernel_rfl) (fun w=>(.mo rfl)) rfl (.tp (i:=9) rfl (by kernel_rfl) (fun w=>(.extract (.of rfl) rfl)) rfl (.tp (i:=10) rfl (by kernel_rfl) (fun w=>(.extract (.of rfl) rfl)) rfl (.tp (i:=11) rfl (by kernel_rfl) (fun w=>(.ao rfl)) rfl (.tp (i:=12) rfl (by kernel_rfl) (fun w=>(.ao rfl)) rfl (.done (by kernel_rfl) (.seq (.seq (.t 3 rfl ?_))))))));refine .gval rfl rfl (fun hg1=>(by exact .fo 4 rfl X5r rfl rfl Qs4 rfl)) rfl ?_;refine .gval rfl rfl (fun hg1=>(by exact (.ld (.gd hg1 rfl) hS (k:=5) rfl Qg4 rfl))) rfl ?_;refine .gval rfl rfl (fun hg1=>(.not (.gd hg1 rfl))) rfl (.val (.po rfl rfl rfl) rfl (.q 1 rfl (.gm rfl rfl rfl rfl (.gval rfl rfl (fun hg1=>(.not (.gd hg1 rfl))) rfl (.val (.po rfl rfl rfl) rfl (.nil ?_))))));refine .cond rfl (fun hb72=>?_) fun hb72=>?_
 ·refine .seq (.region (.val (.build (cs:=[_,_,_]) X4 X4g rfl) rfl ?_));refine .so hS (k:=8) rfl rfl rfl rfl X4n rfl (by simp) ?_;intro w hS;try simp only [Yh,Ye,Y9,Y7,Yg,Yn,Yd] at hS
  refine .s1 hS (k:=7) rfl rfl rfl rfl Qs49 (by simp) ?_;intro w hS;refine .nil (.ret ?_);replace hS:=Sat.box (T:=wdT p ω) (a,c,ma,mc) (((((hS.pick 4 rfl).pick 4 rfl).pick 4 rfl).pick 4 rfl).pick 4 rfl);have hE:Xt p.lo ω t cb=((c0,34),ω):=by rw [Xt,if_neg (by rw [show noP ω t=false from hb38]; decide),if_pos (show noQ p.lo ω t cb=true from hb72)]
  refine Xu3 rfl (Xeo Qr13 hS (k:=4) (j:=3) rfl rfl Xc6 X4n Qg49 rfl rfl rfl) ?_;rw [hE];exact ⟨_,rfl,rfl,(((((hS.drop (k:=1) rfl).drop (k:=1) rfl).drop (k:=1) rfl).drop (k:=1) rfl).drop (k:=1) rfl)⟩
 refine .skip (.seq ?_);replace hS:=Sat.box (T:=wdT p _) (a,c,ma,mc) (((((hS.pick 4 rfl).pick 4 rfl).pick 4 rfl).pick 4 rfl).pick 4 rfl);refine .region (.val (.lo rfl hS (k:=5) rfl Xna rfl) rfl (.q 1 rfl (.val (.fo 3 rfl Xr rfl rfl Qs9 rfl) rfl (.val (.lo rfl hS (k:=2) rfl Qg9 rfl) rfl (.val (.fo 4 rfl Xr rfl rfl Qs9 rfl) rfl (.val (.lo rfl hS (k:=2) rfl Qg9 rfl) rfl (.q 1 rfl (.val (.build (cs:=[_,_,_,_,_,_,_,_,_,_]) (pc9 rfl (pc9 rfl (pc9 rfl (pc9 rfl (pc9 rfl X4))))) X1v rfl) rfl (.call Qf52 rfl (ec9 rfl (ec9 rfl X0)) rfl (Xcb (X1w p.lo ω t cb) ht p ω hω B _ I hI _ hS) ?_)))))))));rintro _ w ⟨rfl,hS⟩;refine .q 3 rfl (.alloc1 hS Qz9 rfl rfl ?_);intro b15 w hS;refine .s1 hS (k:=0) rfl rfl rfl rfl Qs9 (by simp) ?_;intro w hS;refine .q 1 rfl (.nil (.seq (.seq (.q 2 rfl ?_))));refine .cond rfl (fun hb87=>?_) fun hb87=>?_
 ·refine .seq (.region (.val (.build (cs:=[_,_,_]) X4 X4g rfl) rfl (.q 1 rfl ?_)));refine .so hS (k:=5) rfl rfl rfl rfl X4n rfl (by simp) ?_;intro w hS;try simp only [Yh,Ye,Y9,Y7,Yg,Yn,Yd] at hS
  refine .s1 hS (k:=4) rfl rfl rfl rfl Qs49 (by simp) ?_;intro w hS;refine .nil (.ret ?_);have hE:Xt p.lo ω t cb=((c0,(mkW ω (X1w p.lo ω t cb)).1.2),(mkW ω (X1w p.lo ω t cb)).2):=by rw [Xt,if_neg (by rw [show noP ω t=false from hb38]; decide),if_neg (by rw [show noQ p.lo ω t cb=false from hb72]; decide),if_pos (by simpa using hb87)]
  refine Xu3 rfl (Xeo Qr13 hS (k:=5) (j:=4) rfl rfl Xc6 X4n Qg49 rfl rfl rfl) ?_;rw [hE];exact ⟨_,rfl,rfl,(((((((hS.pick 1 rfl).drop (k:=1) rfl).drop (k:=1) rfl).drop (k:=1) rfl).drop (k:=1) rfl).drop (k:=1) rfl).drop (k:=1) rfl)⟩
 refine .skip (.seq (.region (.val (.makeFunc (ec9 rfl (ec9 rfl (ec9 rfl X0)))) rfl (.later (.of rfl) rfl (.nil (.seq (.region ?_)))))));refine .val (.lo rfl hS (k:=6) rfl Xna rfl) rfl (.val (.lo rfl hS (k:=0) rfl Qg9 rfl) rfl (.val (.build (cs:=[_,_,_,_,_,_,_,_,_,_]) (pc9 rfl (pc9 rfl X4)) X1v rfl) rfl (.call Qf52 rfl (ec9 rfl (ec9 rfl X0)) rfl (Xcb (Xat (mkW ω (X1w p.lo ω t cb)).1.1) (Y21 X6z (by decide)) p (mkW ω (X1w p.lo ω t cb)).2 (X2m hω _) B _ I hI _ (hS.pick 1 rfl)) ?_)));rintro _ w ⟨rfl,hS⟩;refine .q 5 rfl (.nil (.seq (.seq (.q 2 rfl ?_))));refine .cond rfl (fun hb99=>?_) fun hb99=>?_
 ·refine .seq (.region (.val (.build (cs:=[_,_,_]) X4 X4g rfl) rfl (.q 1 rfl ?_)));refine .so hS (k:=5) rfl rfl rfl rfl X4n rfl (by simp) ?_;intro w hS;try simp only [Yh,Ye,Y9,Y7,Yg,Yn,Yd] at hS
  refine .s1 hS (k:=4) rfl rfl rfl rfl Qs49 (by simp) ?_;intro w hS;refine .nil (.ret ?_);have hE:Xt p.lo ω t cb=((c0,(mkW (mkW ω (X1w p.lo ω t cb)).2 (Xat (mkW ω (X1w p.lo ω t cb)).1.1)).1.2),X5u (mkW (mkW ω (X1w p.lo ω t cb)).2 (Xat (mkW ω (X1w p.lo ω t cb)).1.1)).2 (mkW ω (X1w p.lo ω t cb)).1.1):=by rw [Xt,if_neg (by rw [show noP ω t=false from hb38]; decide),if_neg (by rw [show noQ p.lo ω t cb=false from hb72]; decide),if_neg (by simpa using hb87),if_pos (by simpa using hb99)]
  refine retD Tryz.func53 rfl rfl (fun u=>Xbw (((mkW (mkW ω (X1w p.lo ω t cb)).2 (Xat (mkW ω (X1w p.lo ω t cb)).1.1)).1.2:Nat):Int) (mkW ω (X1w p.lo ω t cb)).1.1 b7 b3 b15 u p (mkW (mkW ω (X1w p.lo ω t cb)).2 (Xat (mkW ω (X1w p.lo ω t cb)).1.1)).2 (X2m (X2m hω _) _) B _ I _ (((hS.pick 1 rfl).pick 6 rfl).pick 5 rfl)) ?_;intro w hS;rw [if_neg (by simpa using hb99)] at hS;refine fun a ha=>⟨_,Xeo Qr13 hS (k:=6) (j:=0) rfl rfl Xc6 X4n Qg49 rfl rfl rfl a ha,?_⟩
  rw [hE];exact ⟨_,rfl,rfl,(((((((hS.pick 3 rfl).drop (k:=1) rfl).drop (k:=1) rfl).drop (k:=1) rfl).drop (k:=1) rfl).drop (k:=1) rfl).drop (k:=1) rfl)⟩
 refine .skip (.seq (.t 1 rfl ?_));refine .val (.lo rfl hS (k:=1) rfl Qg9 rfl) rfl (.q 1 rfl (.val (.build (cs:=[_,_,_]) (pc9 rfl (pc9 rfl (pc9 rfl X4))) X4g rfl) rfl ?_));refine .so hS (k:=5) rfl rfl rfl rfl X4n rfl (by simp) ?_;intro w hS;try simp only [Yh,Ye,Y9,Y7,Yg,Yn,Yd] at hS
 refine .s1 hS (k:=4) rfl rfl rfl rfl Qs49 (by simp) ?_;intro w hS;refine .nil (.ret ?_);have hE:Xt p.lo ω t cb=((⟨(Xiv p.lo ω t cb).1,(mkW ω (X1w p.lo ω t cb)).1.1,(mkW (mkW ω (X1w p.lo ω t cb)).2 (Xat (mkW ω (X1w p.lo ω t cb)).1.1)).1.1⟩,0),(mkW (mkW ω (X1w p.lo ω t cb)).2 (Xat (mkW ω (X1w p.lo ω t cb)).1.1)).2):=by rw [Xt,if_neg (by rw [show noP ω t=false from hb38]; decide),if_neg (by rw [show noQ p.lo ω t cb=false from hb72]; decide),if_neg (by simpa using hb87),if_neg (by simpa using hb99)]
 refine retD Tryz.func53 rfl rfl (fun u=>Xbw 0 (mkW ω (X1w p.lo ω t cb)).1.1 b7 b3 b15 u p (mkW (mkW ω (X1w p.lo ω t cb)).2 (Xat (mkW ω (X1w p.lo ω t cb)).1.1)).2 (X2m (X2m hω _) _) B _ I _ (((hS.pick 1 rfl).pick 6 rfl).pick 5 rfl)) ?_;intro w hS;rw [if_pos rfl] at hS;refine fun a ha=>⟨_,Xeo Qr13 hS (k:=6) (j:=0) rfl rfl Xc6 X4n Qg49 rfl rfl rfl a ha,?_⟩
 rw [hE];exact ⟨_,rfl,rfl,(((((((hS.pick 3 rfl).drop (k:=1) rfl).drop (k:=1) rfl).drop (k:=1) rfl).drop (k:=1) rfl).drop (k:=1) rfl).drop (k:=1) rfl)⟩
end Go.Proofs.YtfibbpgikjggfaaGreatDoor
