/- Part 8 of what the proof stands on: W22l, Fm, W22g, W22i, W20n, W22m, GkK, Kn2, Op20, Op22. -/
import Derived.Test.YtfibbpgikjggfaaGreatDoorM2PG
import Derived.Lib.LaidTab
import Derived.Lib.LaidU8
import Derived.Lay
import Derived.Shelf.Vars
import Derived.HandedShaped
import Derived.MakeChecks
import Derived.Test.YtfibbpgikjggfaaGreatDoorRows
import Derived.KernelRfl
import Derived.OpenShut
set_option linter.unusedVariables false
set_option linter.unusedSimpArgs false
namespace Go.Proofs.YtfibbpgikjggfaaGreatDoor
open Gk Ul Pc Tk Tr
theorem Xda (id:Int) (s:List UInt8) (hs:s.length≤1000000) (x:Xp) {lo:List Sv} {us:List Us} {ps:Nat→Int} (B w:World) (I:Im) (hX:XpOk I x lo us ps) (As:List X7) (hS:Sat B w I As) :
  Cz 72 [.slice x.a x.c.svs.length x.cap,I64 id,S s] w fun v w'=>v=.tuple #[S (X4r lo id s).1,.bool (X4r lo id s).2]∧Sat B w' I As:=by
 obtain rfl:=hX.lo;obtain ⟨L,hL⟩:=Xi2 hX.cf.svs;refine (Xem x.a x.cap L x.c.svs hX.fits.svs (Xia (Xcl hX.ok)) id s hs B w I hL As hS).mono fun e w' ⟨v,he,J,hJ,hv,hS⟩=>⟨v,he,?_,hS.weaken hJ⟩
 rw [hv,Xum (Xcl hX.ok) hX.D]
theorem noP_no {ω:Wd} {t:List UInt8} (h:(get ω.l t).isSome=false):noP ω t=true:=by
 unfold noP;rw [show getD ω.l t=r0 from by
  unfold getD;cases hg:get ω.l t with
  | none=>rfl
  | some r=>rw [hg] at h; cases h]
 rfl
theorem Xug {l:List Rec} {t:List UInt8} (h:(get l t).isSome=false):getD l t=r0:=by
 unfold getD;cases hg:get l t with
 | none=>rfl
 | some r=>rw [hg] at h; cases h
def Xfc (pgt:List UInt8) (r:Rec):Bool:=(r.kind == 5) && (r.parent == pgt)
theorem X8z {l:List Rec} (hw:Wf l) {pgt:List UInt8} (h:pgt≠[]):Xbb l pgt=l.any (Xfc pgt):=by
 rw [Y35];constructor
 ·intro hp;obtain ⟨k,hk,h5⟩:=Y1w.1 hp;obtain ⟨_,i,r,hr,h1,h2⟩:=X6u hk;have hm:=Yi hr;rw [← h2,Xlt (Xrj hw hm)] at h5;exact Y1w.2 ⟨r,hm,by rw [Xfc,h5,h1]; simp⟩
 ·intro hp;obtain ⟨r,hm,h5⟩:=Y1w.1 hp;unfold Xfc at h5;simp only [Yq,beq_iff_eq] at h5
  have:=Xtx hw hm h5.1
  rw [h5.2] at this; exact this
theorem Xuf (a:Bool) {l:List Rec} {i:Nat} {r:Rec} (pgt:List UInt8) (hr:l[i]?=some r):((!((l.take i).any (Xfc pgt)) && a) && ((r.kind != 5) || (r.parent != pgt)))=(!((l.take (i+1)).any (Xfc pgt)) && a):=by
 rw [Y12,hr,Y1k,List.any_append,Y4y,List.any_nil,Xfc,bne,bne];cases a <;> cases (l.take i).any (Xfc pgt) <;> cases (r.kind == 5) <;> cases (r.parent == pgt) <;> rfl
theorem X9q (iou:List UInt8) (n:Int) (x:Xp) {lo:List Sv} {us:List Us} {ps:Nat→Int} (ω:Wd) (hω:X3n ω) (la:Option Addr) (lc:Nat) (da:Option Addr) (dc:Nat) (B w:World) (I:Im) (hX:XpOk I x lo us ps) (hM:RwM I la da dc ω) (As:List X7) (hS:Sat B w I (blk x.xb (XC x da ω.D.length dc ω.now) 83::blk x.tb [I64 ω.room,.slice la ω.l.length lc] 90::As)) :
  Cz 31 [ptr x.xb 0,S iou,I64 n] w fun v w'=>v=.tuple #[S (Xo ω iou n).1.1,I64 ((Xo ω iou n).1.2:Nat)]∧∃ J la2 lc2 da2 dc2,Le I J∧RwM J la2 da2 dc2 (Xo ω iou n).2∧Sat B w' J (blk x.xb (XC x da2 (Xo ω iou n).2.D.length dc2 (Xo ω iou n).2.now) 83::blk x.tb [I64 (Xo ω iou n).2.room,.slice la2 (Xo ω iou n).2.l.length lc2] 90::As):=by
 refine calls Tryz.func31 rfl Tryz.ntmps31 rfl (.seq (.q 2 rfl (.seq ?_)));have hlen:=hω.len;refine .t 2 rfl (.val (.fo 28 rfl X4m rfl rfl Xdv rfl) rfl (.val (.lo rfl hS (k:=0) rfl Xds rfl) rfl (.q 1 rfl (.call Qf71 rfl (ec9 rfl (ec9 rfl X0)) rfl (X5b x.tb ω.room la lc ω.l (by omega) iou B _ I hM.1 _ (hS.pick 1 rfl)) ?_))));rintro _ w ⟨rfl,hS⟩;try dsimp only [List.eraseIdx] at hS
 refine .q 3 rfl (.allocA (cs:=[_,_,_,_,_,_,_,_,_,_]) hS X5t rfl ?_);intro b8 w hS;refine .so hS (k:=0) rfl rfl rfl rfl Xu rfl (by simp) ?_;intro w hS;try simp only [Yh,Ye,Y9,Y7,Yg,Yn,Yd] at hS
 refine .q 1 rfl (.nil (.seq (.seq (.t 3 rfl ?_))));refine .gval rfl rfl (fun hg1=>(by exact .fo 0 rfl Xr rfl rfl Qs3 rfl)) rfl ?_;refine .gval rfl rfl (fun hg1=>(by exact (.ld (.gd hg1 rfl) hS (k:=0) rfl Qg3 rfl))) rfl ?_;refine .gval rfl rfl (fun hg1=>(.neq (.gd hg1 rfl) (.of rfl))) rfl (.val (.po rfl rfl rfl) rfl (.nil ?_));refine .cond rfl (fun hb25=>?_) fun hb25=>?_
 ·have hc25:=hb25; simp only [Y6] at hc25;refine .seq (.q 2 rfl (.ret (X1e Tryz.results31 rfl rfl ?_)));have h5:((getD ω.l iou).kind != 5)=true:=by
   rcases (Y23).1 hb25 with h | h
   ·rw [Xug (by simpa using h)]; rfl
   ·exact h
  have hE:Xo ω iou n=(([],30),ω):=by rw [Xo,if_pos h5]
  rw [hE];exact ⟨_,rfl,rfl,I,la,lc,da,dc,Le.refl _,hM,(((hS.pick 1 rfl).pick 2 rfl).drop (k:=2) rfl)⟩
 have hc25:=hb25; simp only [Y6] at hc25;refine .skip (.seq (.seq (.q 2 rfl ?_)));refine .cond rfl (fun hb27=>?_) fun hb27=>?_
 ·have hc27:=hb27; simp only [Y6] at hc27;refine .seq (.t 2 rfl ?_);refine .val (.fo 28 rfl X4m rfl rfl Xdv rfl) rfl (.val (.lo rfl hS (k:=2) rfl Xds rfl) rfl (.q 1 rfl (.call Qf34 rfl (ec9 rfl (ec9 rfl X0)) rfl (X43 x.tb ω.room la lc ω.l (by omega) hω.wf iou B _ I hM.1 _ (hS.pick 1 rfl)) ?_)));rintro v9 w ⟨J,la3,lc3,hJ,hR3,hS⟩;try dsimp only [List.eraseIdx] at hS
  refine .nil (.seq (.q 3 rfl (.ret (X1e Tryz.results31 rfl rfl ?_))));have h5:((getD ω.l iou).kind != 5)=false:=(Y15.1 hb25).2;have hE:Xo ω iou n=((iou,0),X5u ω iou):=by rw [Xo,if_neg (by rw [h5]; decide),if_neg (by rw [show n=200 by simpa using hb27]; decide)]
  rw [hE];exact ⟨_,rfl,rfl,J,la3,lc3,da,dc,hJ,⟨hR3,hM.2.1.mono hJ,hM.2.2⟩,((hS.pick 2 rfl).drop (k:=2) rfl)⟩
 have hc27:=hb27; simp only [Y6] at hc27;refine .skip (.seq (.drawn (fun w=>∃ J9 R,Le I J9∧Sat B w J9 (blk b8 (X5 (getD ω.l iou)) 54::blk x.xb (XC x da ω.D.length dc ω.now) 83::R)) (fun j=>!([].contains j)) (by kernel_rfl) ?_));replace hS:=hS.drew; generalize w.drew=w at hS ⊢;have hH:∃ J9 R,Le I J9∧Sat B w J9 (blk b8 (X5 (getD ω.l iou)) 54::blk x.xb (XC x da ω.D.length dc ω.now) 83::R):=⟨_,_,Le.refl _,((hS.pick 2 rfl).pick 1 rfl)⟩
 refine .tp (i:=0) rfl (by kernel_rfl) (fun w=>(.mo rfl)) rfl (.tp (i:=1) rfl (by kernel_rfl) (fun w=>(.no rfl)) rfl ?_);refine .tp (i:=2) rfl (by kernel_rfl) (fun w=>(.fo 28 rfl X4m rfl rfl Xdv rfl)) rfl (.tk (i:=3) rfl (by kernel_rfl) hH (fun w ⟨J9,R,hL9,hS⟩=>((.lo rfl hS (k:=1) rfl Xds rfl))) rfl (.tp (i:=4) rfl (by kernel_rfl) (fun w=>(.fo 2 rfl Xr rfl rfl Qs9 rfl)) rfl (.tk (i:=5) rfl (by kernel_rfl) hH (fun w ⟨J9,R,hL9,hS⟩=>((.lo rfl hS (k:=0) rfl Qg9 rfl))) rfl (.b1 6 (by kernel_rfl) rfl (.call Qf34 rfl (ec9 rfl (ec9 rfl X0)) rfl (X43 x.tb ω.room la lc ω.l (by omega) hω.wf (getD ω.l iou).parent B _ I hM.1 _ (hS.pick 1 rfl)) ?_)))));rintro v9 w ⟨J,la3,lc3,hJ,hR3,hS⟩;try dsimp only [List.eraseIdx] at hS
 refine .nil ?_;clear hH;have hH:∃ J9 R,Le I J9∧Sat B w J9 (blk b8 (X5 (getD ω.l iou)) 54::blk x.xb (XC x da ω.D.length dc ω.now) 83::R):=⟨_,_,hJ,((hS.pick 2 rfl).pick 2 rfl)⟩
 refine ⟨fun _ _=>hH,?_⟩;refine .done (by kernel_rfl) (.seq (.q 2 rfl (.ret (X1e Tryz.results31 rfl rfl ?_))));have h5:((getD ω.l iou).kind != 5)=false:=(Y15.1 hb25).2;have hE:Xo ω iou n=(([],34),X5u ω (getD ω.l iou).parent):=by rw [Xo,if_neg (by rw [h5]; decide),if_pos (by simpa using hb27)]
 rw [hE];exact ⟨_,rfl,rfl,J,la3,lc3,da,dc,hJ,⟨hR3,hM.2.1.mono hJ,hM.2.2⟩,((hS.pick 2 rfl).drop (k:=2) rfl)⟩
theorem Xb0 (x:Xp) {lo:List Sv} {us:List Us} {ps:Nat→Int} (ω:Wd) (hω:X3n ω) (la:Option Addr) (lc:Nat) (da:Option Addr) (dc:Nat) (B w:World) (I:Im) (hX:XpOk I x lo us ps) (hM:RwM I la da dc ω) (As:List X7) (hS:Sat B w I (blk x.xb (XC x da ω.D.length dc ω.now) 83::blk x.tb [I64 ω.room,.slice la ω.l.length lc] 90::As)) :
  Cz 37 [ptr x.xb 0] w fun v w'=>∃ J ka kc,v=.slice ka (X4k ω.l).length kc∧Le I J∧(X4k ω.l).length≤kc∧RS J ka 1 (X4k ω.l).length ((X4k ω.l).map S)∧Sat B w' J (blk x.xb (XC x da ω.D.length dc ω.now) 83::blk x.tb [I64 ω.room,.slice la ω.l.length lc] 90::As):=by
 refine calls Tryz.func37 rfl Tryz.ntmps37 rfl (.seq (.q 1 rfl (.seq (.q 1 rfl (.seq (.seq ?_))))));have hlen:=hω.len;refine .q 1 rfl (.block ?_);replace hS:=hS.vecNil 9 1;refine .loop (σ:=Nat×Value) (fun ⟨i,kv⟩=>[(0,ptr x.xb 0),(3,kv),(4,I64 (i:Nat))]) (fun ⟨i,kv⟩ w=>i≤ω.l.length∧Sat B w I (Vec 9 1 kv (((ω.l.take i).filter X2f).map Rec.name).length ((((ω.l.take i).filter X2f).map Rec.name).map S)::blk x.xb (XC x da ω.D.length dc ω.now) 83::blk x.tb [I64 ω.room,.slice la ω.l.length lc] 90::As)) (fun ⟨i,kv⟩=>ω.l.length - i) (0,.slice none 0 0) ⟨rfl,rfl,rfl,trivial⟩ ⟨Yo _,hS⟩ ?_;rintro ⟨i,kv⟩ w ⟨hi,hS⟩;refine .seq (.seq (.t 3 rfl ?_));refine .val (.fo 28 rfl X4m rfl rfl Xdv rfl) rfl (.val (.lo rfl hS (k:=1) rfl Xds rfl) rfl (.q 1 rfl (.val (.fo 1 rfl X79 rfl rfl X2y rfl) rfl (.val (.lo rfl hS (k:=2) rfl X5v rfl) rfl (.run 2 rfl ⟨⟨_,X1p⟩,trivial⟩ (.nil ?_))))));refine .cond rfl (fun hb14=>?_) fun hb14=>?_
 ·have hc14:=hb14; simp only [Y6] at hc14;refine .skip (.seq (.block (.seq ?_)));obtain ⟨r,hr⟩:∃ r,ω.l[i]?=some r:=⟨_,Y4 (by omega)⟩
  obtain ⟨wp,hq9,hx⟩:=X5s (cells:=X5) (s:=10) (fun _=>rfl) hM.1 hr;subst hq9;unfold X5 at hx;have hfl:=Y2z X2f (ω.l.take i);rw [Yt] at hfl;have hol:(((ω.l.take i).filter X2f).map Rec.name).length=((ω.l.take i).filter X2f).length:=Y10 _;have hsn:((ω.l.take (i+1)).filter X2f).map Rec.name=((ω.l.take i).filter X2f).map Rec.name ++ ([r].filter X2f).map Rec.name:=by rw [Y12,hr,Y1k,Y2n,Yv]
  refine .t 2 rfl (.val (.fo 28 rfl X4m rfl rfl Xdv rfl) rfl (.val (.lo rfl hS (k:=1) rfl Xds rfl) rfl (.q 1 rfl (.val (.fo 1 rfl X79 rfl rfl X2y rfl) rfl (.val (.lo rfl hS (k:=2) rfl X5v rfl) rfl (.q 1 rfl (.val (.ii rfl rfl (by omega) (by omega) X1p Xu) rfl (.val (.fi 0 rfl Xr rfl rfl Qs3 rfl) rfl (.val (.ldI (.of rfl) hS (At.add hx _) Qg3 rfl) rfl (.q 1 rfl (.nil ?_)))))))))));refine .cond rfl (fun hb28=>?_) fun hb28=>?_
  ·have hc28:=hb28; simp only [Y6] at hc28;refine .t 3 rfl (.val (.fo 28 rfl X4m rfl rfl Xdv rfl) rfl (.val (.lo rfl hS (k:=1) rfl Xds rfl) rfl (.q 1 rfl (.val (.fo 1 rfl X79 rfl rfl X2y rfl) rfl (.val (.lo rfl hS (k:=2) rfl X5v rfl) rfl (.q 1 rfl (.val (.ii rfl rfl (by omega) (by omega) X1p Xu) rfl (.val (.fi 1 rfl Xr rfl rfl Qs9 rfl) rfl (.val (.ldI (.of rfl) hS (At.add hx _) Qg9 rfl) rfl (.buildSlice (cs:=[_]) hS (pc9 rfl X4) X19 Qs9 Qz9 rfl rfl rfl rfl ?_))))))))));intro b41 w hS;refine .append (size:=1) (bytes:=16) hS (.of rfl) (.of rfl) (k:=0) rfl X19 X1m rfl rfl rfl rfl rfl rfl rfl ⟨by omega,by unfold maxLen; omega⟩ rfl ?_;intro v42 w hS;obtain ⟨a42,c42,rfl,hcap42,_⟩:=hS.vecSlice (k:=0) (v:=v42) rfl;refine .q 1 rfl (.nil (.region (.run 3 rfl ⟨⟨by omega,by omega⟩,trivial⟩ (.nil ?_))));refine ⟨(i+1,.slice a42 ((((ω.l.take i).filter X2f).map Rec.name).length+1) c42),⟨rfl,rfl,rfl,trivial⟩,⟨by (try dsimp only); omega,?_⟩,by (try dsimp only); omega⟩;rw [hsn,Y2p,if_pos (by simpa [X2f] using hb28),Y3i,Y1d,Y2q,Yv,show (((ω.l.take i).filter X2f).map Rec.name ++ [r.name]).length=(((ω.l.take i).filter X2f).map Rec.name).length+1 from Y0];exact (((hS.pick 2 rfl).pick 2 rfl).pick 2 rfl)
  have hc28:=hb28; simp only [Y6] at hc28;refine .skip (.region (.run 3 rfl ⟨⟨by omega,by omega⟩,trivial⟩ (.nil ?_)));refine ⟨(i+1,kv),⟨rfl,rfl,rfl,trivial⟩,⟨by (try dsimp only); omega,?_⟩,by (try dsimp only); omega⟩;rw [hsn,Y2p,if_neg (by simpa [X2f] using hb28),Y3i,Y2q,Y9];exact (((hS.pick 2 rfl).pick 2 rfl).pick 2 rfl)
 have hc14:=hb14; simp only [Y6] at hc14;refine .exit (.seq (.q 2 rfl (.ret (X9 Tryz.results37 rfl ?_))));have hin:i=ω.l.length:=by omega
 subst hin;rw [Y13] at hS;obtain ⟨ka,kc,rfl,hkc,_⟩:=hS.vecSlice (k:=0) rfl;obtain ⟨J2,hJ2,hR2,hS⟩:=hS.freezeVec (k:=0) rfl;exact ⟨_,rfl,J2,ka,kc,rfl,hJ2,hkc,hR2,hS⟩
theorem Xe5 (pgt target:List UInt8) (htg:pgt.length≤1000000) (hqs:target.length≤1000000) (x:Xp) {lo:List Sv} {us:List Us} {ps:Nat→Int} (ω:Wd) (hω:X3n ω) (la:Option Addr) (lc:Nat) (da:Option Addr) (dc:Nat) (B w:World) (I:Im) (hX:XpOk I x lo us ps) (hM:RwM I la da dc ω) (As:List X7) (hS:Sat B w I (blk x.xb (XC x da ω.D.length dc ω.now) 83::blk x.tb [I64 ω.room,.slice la ω.l.length lc] 90::As)) :
  Cz 32 [ptr x.xb 0,S pgt,S target] w fun v w'=>v=.tuple #[S (Xn lo ps ω pgt target).1.1.1,S (Xn lo ps ω pgt target).1.1.2,I64 ((Xn lo ps ω pgt target).1.2:Nat)]∧∃ J la2 lc2 da2 dc2,Le I J∧RwM J la2 da2 dc2 (Xn lo ps ω pgt target).2∧Sat B w' J (blk x.xb (XC x da2 (Xn lo ps ω pgt target).2.D.length dc2 (Xn lo ps ω pgt target).2.now) 83::blk x.tb [I64 (Xn lo ps ω pgt target).2.room,.slice la2 (Xn lo ps ω pgt target).2.l.length lc2] 90::As):=by
 obtain rfl:=hX.lo;obtain rfl:=hX.us;obtain rfl:=hX.ps;refine calls Tryz.func32 rfl Tryz.ntmps32 rfl (.seq (.q 3 rfl (.seq (.seq (.t 3 rfl (.gm rfl rfl rfl rfl (.gval rfl rfl (fun hg1=>(.eqs (.gd hg1 rfl) (.of rfl))) rfl (.val (.po rfl rfl rfl) rfl (.nil ?_)))))))));refine .cond rfl (fun hb22=>?_) fun hb22=>?_
 ·have hc22:=hb22; simp only [Y6] at hc22;refine .seq (.q 3 rfl (.ret (X7j Qr32 rfl rfl rfl ?_)));have hE:Xn (xlo x) x.c.ps ω pgt target=((([],[]),33),ω):=by rw [Xn,if_pos hb22]
  rw [hE];exact ⟨_,rfl,rfl,I,la,lc,da,dc,Le.refl _,hM,((hS.pick 1 rfl).pick 1 rfl)⟩
 have hc22:=hb22; simp only [Y6] at hc22;refine .skip (.seq ?_);have hlen:=hω.len;refine .t 2 rfl (.call Tryz.func78 rfl (ec9 rfl (ec9 rfl (ec9 rfl X0))) rfl (Xdq pgt 4 x ω hω la lc da dc B _ I hX hM _ ((hS.pick 1 rfl).pick 1 rfl)) ?_);rintro _ w ⟨rfl,hS⟩;try dsimp only [List.eraseIdx] at hS
 refine .q 3 rfl (.allocA (cs:=[_,_,_,_,_,_,_,_,_,_]) hS X5t rfl ?_);intro b9 w hS;refine .so hS (k:=0) rfl rfl rfl rfl Xu rfl (by simp) ?_;intro w hS;try simp only [Yh,Ye,Y9,Y7,Yg,Yn,Yd] at hS
 refine .q 1 rfl (.nil (.seq (.seq (.q 1 rfl (.block (.loop (σ:=Nat) (fun i=>[(0,ptr x.xb 0),(1,S pgt),(2,S target),(9,ptr b9 0),(10,.bool (!((ω.l.take i).any (Xfc pgt)) && (Xv x.c.ps ω pgt 4).2)),(11,I64 (i:Nat))]) (fun i w=>i≤ω.l.length∧Sat B w I (blk b9 (X5 (Xv x.c.ps ω pgt 4).1) 54::blk x.xb (XC x da ω.D.length dc ω.now) 83::blk x.tb [I64 ω.room,.slice la ω.l.length lc] 90::As)) (fun i=>ω.l.length - i) 0 ⟨rfl,rfl,rfl,rfl,rfl,rfl,trivial⟩ ⟨Yo _,(((hS.pick 2 rfl).pick 2 rfl).pick 2 rfl)⟩ ?_))))));rintro i w ⟨hi,hS⟩;refine .seq (.seq (.t 3 rfl ?_));refine .val (.fo 28 rfl X4m rfl rfl Xdv rfl) rfl (.val (.lo rfl hS (k:=1) rfl Xds rfl) rfl (.q 1 rfl (.val (.fo 1 rfl X79 rfl rfl X2y rfl) rfl (.val (.lo rfl hS (k:=2) rfl X5v rfl) rfl (.run 2 rfl ⟨⟨_,X1p⟩,trivial⟩ (.nil ?_))))));refine .cond rfl (fun hb38=>?_) fun hb38=>?_
 ·have hc38:=hb38; simp only [Y6] at hc38;refine .skip (.seq (.block ?_));obtain ⟨r,hr⟩:∃ r,ω.l[i]?=some r:=⟨_,Y4 (by omega)⟩
  obtain ⟨wp,hq9,hx⟩:=X5s (cells:=X5) (s:=10) (fun _=>rfl) hM.1 hr;subst hq9;unfold X5 at hx;refine .t 2 rfl (.gm rfl rfl rfl rfl (.gval rfl rfl (fun hg1=>(.nilCheck (.gd hg1 rfl))) rfl ?_));refine .gval rfl rfl (fun hg1=>(by exact .fieldAddr 28 (.gd hg1 rfl) X4m rfl rfl Xdv rfl)) rfl ?_;refine .gval rfl rfl (fun hg1=>(by exact (.ld (.gd hg1 rfl) hS (k:=1) rfl Xds rfl))) rfl ?_;refine .gval rfl rfl (fun hg1=>(.nilCheck (.gd hg1 rfl))) rfl (.gval rfl rfl (fun hg1=>(by exact .fieldAddr 1 (.gd hg1 rfl) X79 rfl rfl X2y rfl)) rfl ?_);refine .gval rfl rfl (fun hg1=>(by exact (.ld (.gd hg1 rfl) hS (k:=2) rfl X5v rfl))) rfl ?_;refine .gm rfl rfl rfl rfl (.gval rfl rfl (fun hg1=>(by exact .indexAddrI (.gd hg1 rfl) (.gd hg1 rfl) (by (try simp only [Y6] at hg1); omega) (by (try simp only [Y6] at hg1); omega) X1p Xu)) rfl ?_);refine .gval rfl rfl (fun hg1=>(by exact .fieldAddrI 0 (.gd hg1 rfl) Xr rfl rfl Qs3 rfl)) rfl ?_;refine .gval rfl rfl (fun hg1=>(by exact (.ldI (.gd hg1 rfl) hS (At.add hx _) Qg3 rfl))) rfl ?_;refine .gval rfl rfl (fun hg1=>(.neq (.gd hg1 rfl) (.of rfl))) rfl (.gval rfl rfl (fun hg1=>(.move (.gd hg1 rfl))) rfl (.gval2 rfl rfl rfl (fun hg1 hg2=>(.mo rfl)) rfl (.gval2 rfl rfl rfl (fun hg1 hg2=>(.nilCheck (.gd2 hg1 hg2 rfl))) rfl ?_)));refine .gval2 rfl rfl rfl (fun hg1 hg2=>(by exact .fieldAddr 28 (.gd2 hg1 hg2 rfl) X4m rfl rfl Xdv rfl)) rfl ?_;refine .gval2 rfl rfl rfl (fun hg1 hg2=>(by exact (.ld (.gd2 hg1 hg2 rfl) hS (k:=1) rfl Xds rfl))) rfl ?_;refine .gval2 rfl rfl rfl (fun hg1 hg2=>(.nilCheck (.gd2 hg1 hg2 rfl))) rfl (.gval2 rfl rfl rfl (fun hg1 hg2=>(by exact .fieldAddr 1 (.gd2 hg1 hg2 rfl) X79 rfl rfl X2y rfl)) rfl ?_);refine .gval2 rfl rfl rfl (fun hg1 hg2=>(by exact (.ld (.gd2 hg1 hg2 rfl) hS (k:=2) rfl X5v rfl))) rfl ?_;refine .gval2 rfl rfl rfl (fun hg1 hg2=>(.mo rfl)) rfl (.gval2 rfl rfl rfl (fun hg1 hg2=>(by exact .indexAddrI (.gd2 hg1 hg2 rfl) (.gd2 hg1 hg2 rfl) (by (try simp only [Y6] at hg1 hg2); omega) (by (try simp only [Y6] at hg1 hg2); omega) X1p Xu)) rfl ?_);refine .gval2 rfl rfl rfl (fun hg1 hg2=>(by exact .fieldAddrI 2 (.gd2 hg1 hg2 rfl) Xr rfl rfl Qs9 rfl)) rfl ?_;refine .gval2 rfl rfl rfl (fun hg1 hg2=>(by exact (.ldI (.gd2 hg1 hg2 rfl) hS (At.add hx _) Qg9 rfl))) rfl ?_;refine .gval2 rfl rfl rfl (fun hg1 hg2=>(.mo rfl)) rfl (.gval2 rfl rfl rfl (fun hg1 hg2=>(.nes (.gd2 hg1 hg2 rfl) (.gd2 hg1 hg2 rfl))) rfl (.gval rfl rfl (fun hg1=>(.por (.gd hg1 rfl) (.of rfl) (.gd hg1 rfl))) rfl (.val (.pa rfl rfl rfl) rfl (.q 1 rfl (.nil (.region (.run 3 rfl ⟨⟨by omega,by omega⟩,trivial⟩ (.nil ?_))))))));refine ⟨i+1,⟨rfl,rfl,rfl,rfl,congrArg (fun b=>some (Value.bool b)) (Xuf (Xv x.c.ps ω pgt 4).2 pgt hr),rfl,trivial⟩,⟨by omega,(((hS.pick 2 rfl).pick 2 rfl).pick 2 rfl)⟩,by omega⟩
 have hc38:=hb38; simp only [Y6] at hc38;refine .exit (.seq (.seq (.q 2 rfl ?_)));refine .cond rfl (fun hb72=>?_) fun hb72=>?_
 ·have hc72:=hb72; simp only [Y6] at hc72;refine .seq (.q 3 rfl (.ret (X7j Qr32 rfl rfl rfl ?_)));have hin:i=ω.l.length:=by omega
  subst hin;rw [Y13] at hb72;have hpn:pgt≠[]:=by
   intro e;rw [e] at hb22;simp at hb22
  rw [← X8z hω.wf hpn] at hb72;have hE:Xn (xlo x) x.c.ps ω pgt target=((([],[]),30),ω):=by rw [Xn,if_neg (by rw [hb22]; decide),if_pos (by revert hb72; cases (Xv x.c.ps ω pgt 4).2 <;> cases Xbb ω.l pgt <;> simp)]
  rw [hE];exact ⟨_,rfl,rfl,I,la,lc,da,dc,Le.refl _,hM,(((hS.pick 2 rfl).pick 2 rfl).drop (k:=2) rfl)⟩
 have hc72:=hb72; simp only [Y6] at hc72;refine .skip (.seq (.t 2 rfl ?_));refine .val (.fo 0 rfl X4m rfl rfl Xjw rfl) rfl (.val (.fo 0 rfl Xe2 rfl rfl Qs22 rfl) rfl (.val (.lo rfl hS (k:=1) rfl Qg22 rfl) rfl (.q 1 rfl (.call Qf16 rfl (ec9 rfl (ec9 rfl X0)) rfl (X4t target hqs x B _ I hX _ hS) ?_))));rintro _ w ⟨ra,rc,rfl,hS⟩;refine .q 4 rfl (.allocA (cs:=[_,_,_,_,_,_,_,_]) hS Xj3 rfl ?_);intro b12 w hS;refine .so hS (k:=0) rfl rfl rfl rfl X2b rfl (by simp) ?_;intro w hS;try simp only [Yh,Ye,Y9,Y7,Yg,Yn,Yd] at hS
 refine .q 2 rfl (.nil (.seq (.seq (.q 2 rfl ?_))));refine .cond rfl (fun hb85=>?_) fun hb85=>?_
 ·have hc85:=hb85; simp only [Y6] at hc85;refine .seq (.q 3 rfl (.ret (X7j Qr32 rfl rfl rfl ?_)));have hin:i=ω.l.length:=by omega
  subst hin;rw [Y13] at hb72;have hpn:pgt≠[]:=by
   intro e;rw [e] at hb22;simp at hb22
  rw [← X8z hω.wf hpn] at hb72;have hE:Xn (xlo x) x.c.ps ω pgt target=((([],[]),36),ω):=by rw [Xn,if_neg (by rw [hb22]; decide),if_neg (by revert hb72; cases (Xv x.c.ps ω pgt 4).2 <;> cases Xbb ω.l pgt <;> simp),if_pos hb85]
  rw [hE];exact ⟨_,rfl,rfl,I,la,lc,da,dc,Le.refl _,hM,((((hS.pick 3 rfl).pick 3 rfl).drop (k:=2) rfl).drop (k:=2) rfl)⟩
 have hc85:=hb85; simp only [Y6] at hc85;refine .skip (.seq (.t 2 rfl ?_));refine .val (.fo 3 rfl Xr rfl rfl Qs9 rfl) rfl (.val (.lo rfl hS (k:=1) rfl Qg9 rfl) rfl (.q 1 rfl (.val (.build (cs:=[_,_,_,_,_,_,_,_,_,_]) (pc9 rfl (pc9 rfl (pc9 rfl (pc9 rfl X4)))) X1v rfl) rfl (.call Qf73 rfl (ec9 rfl (ec9 rfl X0)) rfl (X6p (X2s (xlo x) x.c.ps ω pgt target) htg x ω hω la lc da dc B _ I hX hM _ ((hS.pick 3 rfl).pick 3 rfl)) ?_))));rintro _ w ⟨rfl,J,la2,lc2,da2,dc2,hJ,hM2,hS⟩;try dsimp only [List.eraseIdx] at hS
 refine .q 5 rfl (.nil (.seq (.seq (.q 2 rfl ?_))));refine .cond rfl (fun hb97=>?_) fun hb97=>?_
 ·have hc97:=hb97; simp only [Y6] at hc97;refine .seq (.q 3 rfl (.ret (X7j Qr32 rfl rfl rfl ?_)));have hin:i=ω.l.length:=by omega
  subst hin;rw [Y13] at hb72;have hpn:pgt≠[]:=by
   intro e;rw [e] at hb22;simp at hb22
  rw [← X8z hω.wf hpn] at hb72;have h39:(mkW ω (X2s (xlo x) x.c.ps ω pgt target)).1.2=39:=(Xh7 (by simpa using hb97)).2.2.1;have hE:Xn (xlo x) x.c.ps ω pgt target=((([],[]),(mkW ω (X2s (xlo x) x.c.ps ω pgt target)).1.2),(mkW ω (X2s (xlo x) x.c.ps ω pgt target)).2):=by rw [Xn,if_neg (by rw [hb22]; decide),if_neg (by revert hb72; cases (Xv x.c.ps ω pgt 4).2 <;> cases Xbb ω.l pgt <;> simp),if_neg (by rw [hb85]; decide),if_pos (by simpa using hb97)]
  rw [hE,h39];exact ⟨_,rfl,rfl,J,la2,lc2,da2,dc2,hJ,hM2,((((hS.pick 1 rfl).pick 1 rfl).drop (k:=2) rfl).drop (k:=2) rfl)⟩
 have hc97:=hb97; simp only [Y6] at hc97;refine .skip (.seq ?_);have hω2:=X2m hω (X2s (xlo x) x.c.ps ω pgt target);have hlen2:=hω2.len;have hsh:=X8j (ps:=x.c.ps) hω pgt 4;refine .drawn (fun w=>∃ J9 R,Le J J9∧Sat B w J9 (blk b9 (X5 (Xv x.c.ps ω pgt 4).1) 54::blk x.xb (XC x da2 (mkW ω (X2s (xlo x) x.c.ps ω pgt target)).2.D.length dc2 (mkW ω (X2s (xlo x) x.c.ps ω pgt target)).2.now) 83::R)) (fun j=>!([].contains j)) (by kernel_rfl) ?_;replace hS:=hS.drew; generalize w.drew=w at hS ⊢;have hH:∃ J9 R,Le J J9∧Sat B w J9 (blk b9 (X5 (Xv x.c.ps ω pgt 4).1) 54::blk x.xb (XC x da2 (mkW ω (X2s (xlo x) x.c.ps ω pgt target)).2.D.length dc2 (mkW ω (X2s (xlo x) x.c.ps ω pgt target)).2.now) 83::R):=⟨_,_,Le.refl _,((hS.pick 0 rfl).pick 3 rfl)⟩
 refine .tp (i:=0) rfl (by kernel_rfl) (fun w=>(.mo rfl)) rfl (.tp (i:=1) rfl (by kernel_rfl) (fun w=>(.no rfl)) rfl ?_);refine .tp (i:=2) rfl (by kernel_rfl) (fun w=>(.fo 28 rfl X4m rfl rfl Xdv rfl)) rfl (.tk (i:=3) rfl (by kernel_rfl) hH (fun w ⟨J9,R,hL9,hS⟩=>((.lo rfl hS (k:=1) rfl Xds rfl))) rfl (.tk (i:=4) rfl (by kernel_rfl) hH (fun w ⟨J9,R,hL9,hS⟩=>((.ldsW (cs:=[_,_,_,_,_,_,_,_,_,_]) (.of rfl) hS (k:=0) rfl X3e Xu rfl))) rfl (.tp (i:=5) rfl (by kernel_rfl) (fun w=>(.mo rfl)) rfl (.tp (i:=6) rfl (by kernel_rfl) (fun w=>(.no rfl)) rfl ?_))));refine .tp (i:=7) rfl (by kernel_rfl) (fun w=>(.fo 30 rfl X4m rfl rfl Qs3 rfl)) rfl (.tk (i:=8) rfl (by kernel_rfl) hH (fun w ⟨J9,R,hL9,hS⟩=>((.lo rfl hS (k:=1) rfl Qg3 rfl))) rfl (.b1 9 (by kernel_rfl) rfl (.call Tryz.func80 rfl (ec9 rfl (ec9 rfl X0)) rfl (Xev (Xv x.c.ps ω pgt 4).1 (mkW ω (X2s (xlo x) x.c.ps ω pgt target)).2.now hsh.2.2.1 hsh.2.2.2 B _ J _ hS) ?_)));rintro _ w ⟨rfl,hS⟩;refine .nil ?_;clear hH;have hH:∃ J9 R,Le J J9∧Sat B w J9 (blk b9 (X5 (Xv x.c.ps ω pgt 4).1) 54::blk x.xb (XC x da2 (mkW ω (X2s (xlo x) x.c.ps ω pgt target)).2.D.length dc2 (mkW ω (X2s (xlo x) x.c.ps ω pgt target)).2.now) 83::R):=⟨_,_,Le.refl _,((hS.pick 0 rfl).pick 3 rfl)⟩
 refine ⟨fun _ _=>hH,?_⟩;refine .b1 10 (by kernel_rfl) rfl (.call Tryz.func79 rfl (ec9 rfl (ec9 rfl X0)) rfl (Xis x.tb (mkW ω (X2s (xlo x) x.c.ps ω pgt target)).2.room la2 lc2 (mkW ω (X2s (xlo x) x.c.ps ω pgt target)).2.l (by omega) (X4i (Xv x.c.ps ω pgt 4).1 (mkW ω (X2s (xlo x) x.c.ps ω pgt target)).2.now) (Y21 hsh.1 (by decide)) (Y21 hsh.2.1 (by decide)) B _ J hM2.1 _ (hS.pick 1 rfl)) ?_);rintro _ w ⟨rfl,J3,la3,lc3,hJ3,hR3,hS⟩;try dsimp only [List.eraseIdx] at hS
 refine .nil ?_;clear hH;have hH:∃ J9 R,Le J J9∧Sat B w J9 (blk b9 (X5 (Xv x.c.ps ω pgt 4).1) 54::blk x.xb (XC x da2 (mkW ω (X2s (xlo x) x.c.ps ω pgt target)).2.D.length dc2 (mkW ω (X2s (xlo x) x.c.ps ω pgt target)).2.now) 83::R):=⟨_,_,hJ3,((hS.pick 1 rfl).pick 3 rfl)⟩
 refine ⟨fun _ _=>hH,?_⟩;refine .done (by kernel_rfl) (.seq (.q 5 rfl (.ret (X7j Qr32 rfl rfl rfl ?_))));have hin:i=ω.l.length:=by omega
 subst hin;rw [Y13] at hb72;have hpn:pgt≠[]:=by
  intro e;rw [e] at hb22;simp at hb22
 rw [← X8z hω.wf hpn] at hb72;have hE:Xn (xlo x) x.c.ps ω pgt target=((((mkW ω (X2s (xlo x) x.c.ps ω pgt target)).1.1,(X1r (xlo x) target).2.1),0),putW (mkW ω (X2s (xlo x) x.c.ps ω pgt target)).2 (X4i (Xv x.c.ps ω pgt 4).1 (mkW ω (X2s (xlo x) x.c.ps ω pgt target)).2.now)):=by rw [Xn,if_neg (by rw [hb22]; decide),if_neg (by revert hb72; cases (Xv x.c.ps ω pgt 4).2 <;> cases Xbb ω.l pgt <;> simp),if_neg (by rw [hb85]; decide),if_neg (by simpa using hb97)]
 rw [hE];exact ⟨_,rfl,rfl,J3,la3,lc3,da2,dc2,hJ.trans hJ3,⟨hR3,hM2.2.1.mono hJ3,hM2.2.2⟩,(((hS.pick 1 rfl).drop (k:=2) rfl).drop (k:=2) rfl)⟩
set_option maxRecDepth 20000 in
theorem Xdj (t cb:List UInt8) (ht:t.length≤1000000) (hcb:cb.length≤1000000) (x:Xp) {lo:List Sv} {us:List Us} {ps:Nat→Int} (ω:Wd) (hω:X3n ω) (la:Option Addr) (lc:Nat) (da:Option Addr) (dc:Nat) (B w:World) (I:Im) (hX:XpOk I x lo us ps) (hM:RwM I la da dc ω) (As:List X7) (hS:Sat B w I (blk x.xb (XC x da ω.D.length dc ω.now) 83::blk x.tb [I64 ω.room,.slice la ω.l.length lc] 90::As)) :
  Cz 28 [ptr x.xb 0,S t,S cb] w fun v w'=>v=.tuple #[.agg (X6h (Xt lo ω t cb).1.1).toArray,I64 ((Xt lo ω t cb).1.2:Nat)]∧∃ J la2 lc2 da2 dc2,Le I J∧RwM J la2 da2 dc2 (Xt lo ω t cb).2∧Sat B w' J (blk x.xb (XC x da2 (Xt lo ω t cb).2.D.length dc2 (Xt lo ω t cb).2.now) 83::blk x.tb [I64 (Xt lo ω t cb).2.room,.slice la2 (Xt lo ω t cb).2.l.length lc2] 90::As):=by
 obtain rfl:=hX.lo;obtain rfl:=hX.us;obtain rfl:=hX.ps;refine calls Tryz.func28 rfl Tryz.ntmps28 rfl (.seq (.region (.allocA (cs:=[_,_,_]) hS Xrl rfl ?_)));intro b6 w hS;refine .q 1 rfl (.nil (.seq (.region (.val (.build (cs:=[_,_,_]) X4 X4g rfl) rfl (.allocA (cs:=[_,_,_]) hS Xrl rfl ?_)))));intro b8 w hS;refine .so hS (k:=0) rfl rfl rfl rfl X4n rfl (by simp) ?_;intro w hS;try simp only [Yh,Ye,Y9,Y7,Yg,Yn,Yd] at hS
 refine .nil (.seq ?_);have hlen:=hω.len;have hsv:=Xe7 hω.wf t;refine .t 2 rfl (.val (.fo 28 rfl X4m rfl rfl Xdv rfl) rfl (.val (.lo rfl hS (k:=2) rfl Xds rfl) rfl (.q 1 rfl (.call Qf71 rfl (ec9 rfl (ec9 rfl X0)) rfl (X5b x.tb ω.room la lc ω.l (by omega) t B _ I hM.1 _ (hS.pick 3 rfl)) ?_))));rintro _ w ⟨rfl,hS⟩;refine .q 3 rfl (.allocA (cs:=[_,_,_,_,_,_,_,_,_,_]) hS X5t rfl ?_);intro b9 w hS;refine .so hS (k:=0) rfl rfl rfl rfl Xu rfl (by simp) ?_;intro w hS;try simp only [Yh,Ye,Y9,Y7,Yg,Yn,Yd] at hS
 refine .q 1 rfl (.nil (.seq (.seq (.t 3 rfl ?_))));refine .gval rfl rfl (fun hg1=>(by exact .fo 0 rfl Xr rfl rfl Qs3 rfl)) rfl ?_;refine .gval rfl rfl (fun hg1=>(by exact (.ld (.gd hg1 rfl) hS (k:=0) rfl Qg3 rfl))) rfl ?_;refine .gval rfl rfl (fun hg1=>(.neq (.gd hg1 rfl) (.of rfl))) rfl (.gval rfl rfl (fun hg1=>(.move (.gd hg1 rfl))) rfl ?_);refine .gval2 rfl rfl rfl (fun hg1 hg2=>(by exact .fo 0 rfl Xr rfl rfl Qs3 rfl)) rfl ?_;refine .gval2 rfl rfl rfl (fun hg1 hg2=>(by exact (.ld (.gd2 hg1 hg2 rfl) hS (k:=0) rfl Qg3 rfl))) rfl ?_;refine .gval2 rfl rfl rfl (fun hg1 hg2=>(.neq (.gd2 hg1 hg2 rfl) (.of rfl))) rfl (.gval rfl rfl (fun hg1=>(.pand (.gd hg1 rfl) (.gd hg1 rfl) (.of rfl))) rfl (.val (.po rfl rfl rfl) rfl (.q 1 rfl ?_)));refine .gval rfl rfl (fun hg1=>(by exact .fo 8 rfl Xr rfl rfl Qs3 rfl)) rfl ?_;refine .gval rfl rfl (fun hg1=>(by exact (.ld (.gd hg1 rfl) hS (k:=0) rfl Qg3 rfl))) rfl ?_;refine .gval rfl rfl (fun hg1=>(.eql (.gd hg1 rfl) (.of rfl))) rfl (.val (.po rfl rfl rfl) rfl (.nil ?_));refine .cond rfl (fun hb46=>?_) fun hb46=>?_
 ·refine .seq (.region ?_);refine .val (.ldsW (cs:=[_,_,_]) (.of rfl) hS (k:=2) rfl Xc6 X4n rfl) rfl (.so hS (k:=3) rfl rfl rfl rfl X4n rfl (by simp) ?_);intro w hS;try simp only [Yh,Ye,Y9,Y7,Yg,Yn,Yd] at hS
  refine .q 1 rfl (.nil (.ret ?_));refine X1i (b:=_) (cs:=[_,_,_]) Qr28 hS (k:=3) rfl Xc6 X4n rfl rfl rfl ?_;have hp0:noP ω t=true:=by
   by_cases hg:(get ω.l t).isSome=true
   ·have h:=hb46;simp only [hg,Bool.not_true,Y38] at h
    exact h
   ·exact noP_no (by simpa using hg)
  have hE:Xt (xlo x) ω t cb=((c0,30),ω):=by rw [Xt,if_pos hp0]
  rw [hE];exact ⟨_,rfl,rfl,I,la,lc,da,dc,Le.refl _,hM,(((((hS.pick 1 rfl).pick 4 rfl).drop (k:=2) rfl).drop (k:=2) rfl).drop (k:=2) rfl)⟩
 refine .skip (.cutS (σ:=Nat×Option Addr×Nat) (fun ⟨b11,ra,rc⟩=>[(0,ptr x.xb 0),(1,S t),(2,S cb),(6,ptr b6 0),(8,ptr b8 0),(9,ptr b9 0),(11,ptr b11 0),(13,I64 (((X1r (xlo x) (getD ω.l t).service).2.2:Nat):Int))]) (fun ⟨b11,ra,rc⟩ w=>Sat B w I (blk b11 (X16 (X1r (xlo x) (getD ω.l t).service).1 ra rc) 59::blk b9 (X5 (getD ω.l t)) 54::blk b8 [S [],S [],S []] 48::blk b6 [S [],S [],S []] 48::blk x.xb (XC x da ω.D.length dc ω.now) 83::blk x.tb [I64 ω.room,.slice la ω.l.length lc] 90::As)) ?_ ?_)
 ·refine .drawn (fun w=>∃ R,Sat B w I (blk b9 (X5 (getD ω.l t)) 54::blk x.xb (XC x da ω.D.length dc ω.now) 83::R)) (fun j=>!([].contains j)) (by kernel_rfl) ?_;replace hS:=hS.drew; generalize w.drew=w at hS ⊢;have hH:=((hS.pick 4 rfl).pick 1 rfl)
  refine .tp (i:=0) rfl (by kernel_rfl) (fun w=>(.mo rfl)) rfl (.tp (i:=1) rfl (by kernel_rfl) (fun w=>(.no rfl)) rfl ?_);refine .tp (i:=2) rfl (by kernel_rfl) (fun w=>(.fo 0 rfl X4m rfl rfl Xjw rfl)) rfl (.tp (i:=3) rfl (by kernel_rfl) (fun w=>(.fo 0 rfl Xe2 rfl rfl Qs22 rfl)) rfl (.tk (i:=4) rfl (by kernel_rfl) ⟨_,hH⟩ (fun w ⟨R,hS⟩=>((.lo rfl hS (k:=1) rfl Qg22 rfl))) rfl (.tp (i:=5) rfl (by kernel_rfl) (fun w=>(.fo 4 rfl Xr rfl rfl Qs9 rfl)) rfl (.tk (i:=6) rfl (by kernel_rfl) ⟨_,hH⟩ (fun w ⟨R,hS⟩=>((.lo rfl hS (k:=0) rfl Qg9 rfl))) rfl (.branch [7,12] (by kernel_rfl) rfl (WO.cons rfl ?_ (WO.cons rfl ?_ (WO.nil))))))))
  ·refine .call Qf16 rfl (ec9 rfl (ec9 rfl X0)) rfl (X4t (getD ω.l t).service (by omega) x B _ I hX _ hS) ?_;rintro _ w ⟨ra,rc,rfl,hS⟩;refine .nil ?_;clear hH;have hH:=((hS.pick 4 rfl).pick 1 rfl)
   refine ⟨fun _ _=>⟨_,hH⟩,?_⟩;refine .tp (i:=8) rfl (by kernel_rfl) (fun w=>(.mo rfl)) rfl (.tp (i:=9) rfl (by kernel_rfl) (fun w=>(.extract (.of rfl) rfl)) rfl (.tp (i:=10) rfl (by kernel_rfl) (fun w=>(.extract (.of rfl) rfl)) rfl (.tp (i:=11) rfl (by kernel_rfl) (fun w=>(.extract (.of rfl) rfl)) rfl ?_)));refine .b1 12 (by kernel_rfl) rfl (.allocA (cs:=[_,_,_,_,_,_,_,_]) hS Xj3 rfl ?_);intro b11 w hS;refine .nil ?_;clear hH;have hH:=((hS.pick 5 rfl).pick 2 rfl)
   refine ⟨fun _ _=>⟨_,hH⟩,?_⟩;refine .b1 13 (by kernel_rfl) rfl (.so hS (k:=0) rfl rfl rfl rfl X2b rfl (by simp) ?_);intro w hS;try simp only [Yh,Ye,Y9,Y7,Yg,Yn,Yd] at hS
   refine .nil ?_;clear hH;have hH:=((hS.pick 5 rfl).pick 2 rfl)
   refine ⟨fun _ _=>⟨_,hH⟩,?_⟩;refine .tp (i:=14) rfl (by kernel_rfl) (fun w=>(.ao rfl)) rfl (.tp (i:=15) rfl (by kernel_rfl) (fun w=>(.ao rfl)) rfl (.done (by kernel_rfl) ?_));exact ⟨(b11,ra,rc),⟨rfl,rfl,rfl,rfl,rfl,rfl,rfl,rfl,trivial⟩,((((((hS.pick 2 rfl).pick 5 rfl).pick 5 rfl).pick 5 rfl).pick 5 rfl).pick 5 rfl)⟩
  ·refine .allocA (cs:=[_,_,_,_,_,_,_,_]) hS Xj3 rfl ?_;intro b11 w hS;refine .nil ?_;clear hH;have hH:=((hS.pick 5 rfl).pick 2 rfl)
   refine ⟨fun _ _=>⟨_,hH⟩,?_⟩;refine .b1 7 (by kernel_rfl) rfl (.call Qf16 rfl (ec9 rfl (ec9 rfl X0)) rfl (X4t (getD ω.l t).service (by omega) x B _ I hX _ hS) ?_);rintro _ w ⟨ra,rc,rfl,hS⟩;refine .nil ?_;clear hH;have hH:=((hS.pick 5 rfl).pick 2 rfl)
   refine ⟨fun _ _=>⟨_,hH⟩,?_⟩;refine .tp (i:=8) rfl (by kernel_rfl) (fun w=>(.mo rfl)) rfl (.tp (i:=9) rfl (by kernel_rfl) (fun w=>(.extract (.of rfl) rfl)) rfl (.tp (i:=10) rfl (by kernel_rfl) (fun w=>(.extract (.of rfl) rfl)) rfl (.tp (i:=11) rfl (by kernel_rfl) (fun w=>(.extract (.of rfl) rfl)) rfl ?_)));refine .b1 13 (by kernel_rfl) rfl (.so hS (k:=0) rfl rfl rfl rfl X2b rfl (by simp) ?_);intro w hS;try simp only [Yh,Ye,Y9,Y7,Yg,Yn,Yd] at hS
   refine .nil ?_;clear hH;have hH:=((hS.pick 5 rfl).pick 2 rfl)
   refine ⟨fun _ _=>⟨_,hH⟩,?_⟩;refine .tp (i:=14) rfl (by kernel_rfl) (fun w=>(.ao rfl)) rfl (.tp (i:=15) rfl (by kernel_rfl) (fun w=>(.ao rfl)) rfl (.done (by kernel_rfl) ?_));exact ⟨(b11,ra,rc),⟨rfl,rfl,rfl,rfl,rfl,rfl,rfl,rfl,trivial⟩,((((((hS.pick 2 rfl).pick 5 rfl).pick 5 rfl).pick 5 rfl).pick 5 rfl).pick 5 rfl)⟩
 rintro ⟨b11,ra,rc⟩ w hS;refine .seq (.seq (.t 3 rfl ?_));refine .gval rfl rfl (fun hg1=>(by exact .fo 4 rfl X5r rfl rfl Qs4 rfl)) rfl ?_;refine .gval rfl rfl (fun hg1=>(by exact (.ld (.gd hg1 rfl) hS (k:=0) rfl Qg4 rfl))) rfl ?_;refine .gval rfl rfl (fun hg1=>(.not (.gd hg1 rfl))) rfl (.val (.po rfl rfl rfl) rfl (.nil ?_));refine .cond rfl (fun hb66=>?_) fun hb66=>?_
 ·refine .seq (.region ?_);refine .val (.ldsW (cs:=[_,_,_]) (.of rfl) hS (k:=2) rfl Xc6 X4n rfl) rfl (.so hS (k:=3) rfl rfl rfl rfl X4n rfl (by simp) ?_);intro w hS;try simp only [Yh,Ye,Y9,Y7,Yg,Yn,Yd] at hS
  refine .q 1 rfl (.nil (.ret ?_));refine X1i (b:=_) (cs:=[_,_,_]) Qr28 hS (k:=3) rfl Xc6 X4n rfl rfl rfl ?_;have hp0:noP ω t=false:=by
   have h:=hb46;simp only [Y15] at h
   unfold noP;rw [h.1.2,h.2]; rfl
  have hq0:noQ (xlo x) ω t cb=true:=by
   unfold noQ Xcs;rw [hb66]; rfl
  have hE:Xt (xlo x) ω t cb=((c0,34),ω):=by rw [Xt,if_neg (by rw [hp0]; decide),if_pos hq0]
  rw [hE];exact ⟨_,rfl,rfl,I,la,lc,da,dc,Le.refl _,hM,((((((hS.pick 5 rfl).pick 5 rfl).drop (k:=2) rfl).drop (k:=2) rfl).drop (k:=2) rfl).drop (k:=2) rfl)⟩
 refine .skip (.seq (.drawn (fun w=>∃ R,Sat B w I (blk b11 (X16 (X1r (xlo x) (getD ω.l t).service).1 ra rc) 59::blk x.xb (XC x da ω.D.length dc ω.now) 83::R)) (fun j=>!([].contains j)) (by kernel_rfl) ?_));replace hS:=hS.drew; generalize w.drew=w at hS ⊢;have hH:=((hS.pick 4 rfl).pick 1 rfl)
 refine .tp (i:=0) rfl (by kernel_rfl) (fun w=>(.mo rfl)) rfl (.tp (i:=1) rfl (by kernel_rfl) (fun w=>(.no rfl)) rfl ?_);refine .tp (i:=2) rfl (by kernel_rfl) (fun w=>(.fo 0 rfl X4m rfl rfl Xjw rfl)) rfl (.tp (i:=3) rfl (by kernel_rfl) (fun w=>(.fo 0 rfl Xe2 rfl rfl Qs22 rfl)) rfl (.tk (i:=4) rfl (by kernel_rfl) ⟨_,hH⟩ (fun w ⟨R,hS⟩=>((.lo rfl hS (k:=1) rfl Qg22 rfl))) rfl (.tp (i:=5) rfl (by kernel_rfl) (fun w=>(.fo 0 rfl X5r rfl rfl Qs3 rfl)) rfl (.tk (i:=6) rfl (by kernel_rfl) ⟨_,hH⟩ (fun w ⟨R,hS⟩=>((.lo rfl hS (k:=0) rfl Qg3 rfl))) rfl (.tp (i:=7) rfl (by kernel_rfl) (fun w=>(.mo rfl)) rfl (.b1 8 (by kernel_rfl) rfl (.call Tryz.func72 rfl (ec9 rfl (ec9 rfl (ec9 rfl X0))) rfl (Xda (X1r (xlo x) (getD ω.l t).service).1.id cb hcb x B _ I hX _ hS) ?_)))))));rintro _ w ⟨rfl,hS⟩;refine .nil ?_;clear hH;have hH:=((hS.pick 4 rfl).pick 1 rfl)
 refine ⟨fun _ _=>⟨_,hH⟩,?_⟩;refine .tp (i:=9) rfl (by kernel_rfl) (fun w=>(.mo rfl)) rfl (.tp (i:=10) rfl (by kernel_rfl) (fun w=>(.extract (.of rfl) rfl)) rfl (.tp (i:=11) rfl (by kernel_rfl) (fun w=>(.extract (.of rfl) rfl)) rfl (.tp (i:=12) rfl (by kernel_rfl) (fun w=>(.ao rfl)) rfl (.tp (i:=13) rfl (by kernel_rfl) (fun w=>(.ao rfl)) rfl (.done (by kernel_rfl) (.seq (.seq (.q 2 rfl ?_))))))));refine .cond rfl (fun hb81=>?_) fun hb81=>?_
 ·refine .seq (.region ?_);refine .val (.ldsW (cs:=[_,_,_]) (.of rfl) hS (k:=2) rfl Xc6 X4n rfl) rfl (.so hS (k:=3) rfl rfl rfl rfl X4n rfl (by simp) ?_);intro w hS;try simp only [Yh,Ye,Y9,Y7,Yg,Yn,Yd] at hS
  refine .q 1 rfl (.nil (.ret ?_));refine X1i (b:=_) (cs:=[_,_,_]) Qr28 hS (k:=3) rfl Xc6 X4n rfl rfl rfl ?_;have hp0:noP ω t=false:=by
   have h:=hb46;simp only [Y15] at h
   unfold noP;rw [h.1.2,h.2]; rfl
  have hq0:noQ (xlo x) ω t cb=true:=by
   unfold noQ Xcs;show (_ || !(X4r (xlo x) (X1r (xlo x) (getD ω.l t).service).1.id cb).2)=true
   rw [hb81,Bool.or_true]
  have hE:Xt (xlo x) ω t cb=((c0,34),ω):=by rw [Xt,if_neg (by rw [hp0]; decide),if_pos hq0]
  rw [hE];exact ⟨_,rfl,rfl,I,la,lc,da,dc,Le.refl _,hM,((((((hS.pick 5 rfl).pick 5 rfl).drop (k:=2) rfl).drop (k:=2) rfl).drop (k:=2) rfl).drop (k:=2) rfl)⟩
 refine .skip (.seq (.t 2 rfl ?_));refine .val (.fo 3 rfl Xr rfl rfl Qs9 rfl) rfl (.val (.lo rfl hS (k:=1) rfl Qg9 rfl) rfl (.val (.fo 4 rfl Xr rfl rfl Qs9 rfl) rfl (.val (.lo rfl hS (k:=1) rfl Qg9 rfl) rfl (.q 1 rfl (.val (.build (cs:=[_,_,_,_,_,_,_,_,_,_]) (pc9 rfl (pc9 rfl (pc9 rfl (pc9 rfl (pc9 rfl X4))))) X1v rfl) rfl (.call Qf73 rfl (ec9 rfl (ec9 rfl X0)) rfl (X6p (X1w (xlo x) ω t cb) ht x ω hω la lc da dc B _ I hX hM _ ((hS.pick 5 rfl).pick 5 rfl)) ?_))))));rintro _ w ⟨rfl,J,la2,lc2,da2,dc2,hJ,hM2,hS⟩;refine .q 5 rfl (.nil (.seq (.seq (.q 2 rfl ?_))));refine .cond rfl (fun hb96=>?_) fun hb96=>?_
 ·refine .seq (.region ?_);refine .val (.ldsW (cs:=[_,_,_]) (.of rfl) hS (k:=4) rfl Xc6 X4n rfl) rfl (.so hS (k:=5) rfl rfl rfl rfl X4n rfl (by simp) ?_);intro w hS;try simp only [Yh,Ye,Y9,Y7,Yg,Yn,Yd] at hS
  refine .q 1 rfl (.nil (.ret ?_));refine X1i (b:=_) (cs:=[_,_,_]) Qr28 hS (k:=5) rfl Xc6 X4n rfl rfl rfl ?_;have hp0:noP ω t=false:=by
   have h:=hb46;simp only [Y15] at h
   unfold noP;rw [h.1.2,h.2]; rfl
  have hq0:noQ (xlo x) ω t cb=false:=by
   have h:=hb81;unfold noQ Xcs;rw [hb66];exact h
  have h39:(mkW ω (X1w (xlo x) ω t cb)).1.2=39:=(Xh7 (by simpa using hb96)).2.2.1;have hE:Xt (xlo x) ω t cb=((c0,(mkW ω (X1w (xlo x) ω t cb)).1.2),(mkW ω (X1w (xlo x) ω t cb)).2):=by rw [Xt,if_neg (by rw [hp0]; decide),if_neg (by rw [hq0]; decide),if_pos (by simpa using hb96)]
  rw [hE,h39];exact ⟨_,rfl,rfl,J,la2,lc2,da2,dc2,hJ,hM2,((((((hS.pick 1 rfl).pick 1 rfl).drop (k:=2) rfl).drop (k:=2) rfl).drop (k:=2) rfl).drop (k:=2) rfl)⟩
 refine .skip (.seq (.t 2 rfl (.val (.build (cs:=[_,_,_,_,_,_,_,_,_,_]) (pc9 rfl (pc9 rfl X4)) X1v rfl) rfl (.call Qf73 rfl (ec9 rfl (ec9 rfl X0)) rfl (X6p (Xat (mkW ω (X1w (xlo x) ω t cb)).1.1) (Y21 X6z (by decide)) x (mkW ω (X1w (xlo x) ω t cb)).2 (X2m hω _) la2 lc2 da2 dc2 B _ J (hX.mono hJ) hM2 _ ((hS.pick 1 rfl).pick 1 rfl)) ?_))));rintro _ w ⟨rfl,J3,la3,lc3,da3,dc3,hJ3,hM3,hS⟩;refine .q 5 rfl (.nil (.seq (.seq ?_)));have hω2:=X2m hω (X1w (xlo x) ω t cb);have hω3:=X2m hω2 (Xat (mkW ω (X1w (xlo x) ω t cb)).1.1);have hlen3:=hω3.len;refine .q 2 rfl (.cond rfl (fun hb106=>?_) fun hb106=>?_)
 ·refine .seq (.t 2 rfl ?_);refine .val (.fo 28 rfl X4m rfl rfl Xdv rfl) rfl (.val (.lo rfl hS (k:=0) rfl Xds rfl) rfl (.q 1 rfl (.call Qf34 rfl (ec9 rfl (ec9 rfl X0)) rfl (X43 x.tb (mkW (mkW ω (X1w (xlo x) ω t cb)).2 (Xat (mkW ω (X1w (xlo x) ω t cb)).1.1)).2.room la3 lc3 (mkW (mkW ω (X1w (xlo x) ω t cb)).2 (Xat (mkW ω (X1w (xlo x) ω t cb)).1.1)).2.l (by omega) hω3.wf (mkW ω (X1w (xlo x) ω t cb)).1.1 B _ J3 hM3.1 _ (hS.pick 1 rfl)) ?_)));rintro v9 w ⟨J4,la4,lc4,hJ4,hR4,hS⟩;refine .nil (.seq (.region ?_));refine .val (.ldsW (cs:=[_,_,_]) (.of rfl) hS (k:=4) rfl Xc6 X4n rfl) rfl (.so hS (k:=5) rfl rfl rfl rfl X4n rfl (by simp) ?_);intro w hS;try simp only [Yh,Ye,Y9,Y7,Yg,Yn,Yd] at hS
  refine .q 1 rfl (.nil (.ret ?_));refine X1i (b:=_) (cs:=[_,_,_]) Qr28 hS (k:=5) rfl Xc6 X4n rfl rfl rfl ?_;have hp0:noP ω t=false:=by
   have h:=hb46;simp only [Y15] at h
   unfold noP;rw [h.1.2,h.2]; rfl
  have hq0:noQ (xlo x) ω t cb=false:=by
   have h:=hb81;unfold noQ Xcs;rw [hb66];exact h
  have h39:(mkW (mkW ω (X1w (xlo x) ω t cb)).2 (Xat (mkW ω (X1w (xlo x) ω t cb)).1.1)).1.2=39:=(Xh7 (by simpa using hb106)).2.2.1;have hE:Xt (xlo x) ω t cb=((c0,(mkW (mkW ω (X1w (xlo x) ω t cb)).2 (Xat (mkW ω (X1w (xlo x) ω t cb)).1.1)).1.2),X5u (mkW (mkW ω (X1w (xlo x) ω t cb)).2 (Xat (mkW ω (X1w (xlo x) ω t cb)).1.1)).2 (mkW ω (X1w (xlo x) ω t cb)).1.1):=by rw [Xt,if_neg (by rw [hp0]; decide),if_neg (by rw [hq0]; decide),if_neg (by simpa using hb96),if_pos (by simpa using hb106)]
  rw [hE,h39];exact ⟨_,rfl,rfl,J4,la4,lc4,da3,dc3,(hJ.trans hJ3).trans hJ4,⟨hR4,hM3.2.1.mono hJ4,hM3.2.2⟩,(((((hS.pick 1 rfl).drop (k:=2) rfl).drop (k:=2) rfl).drop (k:=2) rfl).drop (k:=2) rfl)⟩
 refine .skip (.seq (.t 3 rfl (.val (.build (cs:=[_,_,_]) (pc9 rfl (pc9 rfl (pc9 rfl X4))) X4g rfl) rfl ?_)));refine .so hS (k:=5) rfl rfl rfl rfl X4n rfl (by simp) ?_;intro w hS;try simp only [Yh,Ye,Y9,Y7,Yg,Yn,Yd] at hS
 refine .q 1 rfl (.nil (.ret ?_));refine X1i (b:=_) (cs:=[_,_,_]) Qr28 hS (k:=5) rfl Xc6 X4n rfl rfl rfl ?_;have hp0:noP ω t=false:=by
  have h:=hb46;simp only [Y15] at h
  unfold noP;rw [h.1.2,h.2]; rfl
 have hq0:noQ (xlo x) ω t cb=false:=by
  have h:=hb81;unfold noQ Xcs;rw [hb66];exact h
 have hE:Xt (xlo x) ω t cb=((⟨(Xiv (xlo x) ω t cb).1,(mkW ω (X1w (xlo x) ω t cb)).1.1,(mkW (mkW ω (X1w (xlo x) ω t cb)).2 (Xat (mkW ω (X1w (xlo x) ω t cb)).1.1)).1.1⟩,0),(mkW (mkW ω (X1w (xlo x) ω t cb)).2 (Xat (mkW ω (X1w (xlo x) ω t cb)).1.1)).2):=by rw [Xt,if_neg (by rw [hp0]; decide),if_neg (by rw [hq0]; decide),if_neg (by simpa using hb96),if_neg (by simpa using hb106)]
 rw [hE];exact ⟨_,rfl,rfl,J3,la3,lc3,da3,dc3,hJ.trans hJ3,hM3,((((((hS.pick 1 rfl).pick 1 rfl).drop (k:=2) rfl).drop (k:=2) rfl).drop (k:=2) rfl).drop (k:=2) rfl)⟩
end Go.Proofs.YtfibbpgikjggfaaGreatDoor
namespace Ul
open Pc Gk
def enc (s:List UInt8):List UInt8:=s.flatMap one
theorem Xop (c:UInt8) (s:List UInt8):enc (c::s)=one c ++ enc s:=rfl
theorem Xsa (a b:List UInt8):enc (a ++ b)=enc a ++ enc b:=Y1o ..
theorem Xrt (c:UInt8):1≤(one c).length∧(one c).length≤3:=by unfold one; split <;> simp [Xbf]
theorem X1h:∀ (s:List UInt8),(enc s).length≤3*s.length
 | []=>Yu _
 | c::s=>by
  have:=X1h s
  have:=(Xrt c).2
  rw [Xop,Y0,Y8]; omega
def dB (p:Bool) (c:UInt8):UInt8:=if (p && c == 43)=true then 32 else c
def Xsb (p:Bool):Nat→List UInt8→Option (List UInt8)
 | 0,_=>some []
 | _+1,[]=>some []
 | f+1,c::r=>if c=37 then match told r with
   | none=>none
   | some v=>(Xsb p f (r.drop 2)).map (v::·)
  else (Xsb p f r).map (dB p c::·)
def dec (p:Bool) (s:List UInt8):Option (List UInt8):=Xsb p (s.length+1) s
theorem X9m (p:Bool):∀ (f g:Nat) (s:List UInt8),s.length<f→s.length<g→Xsb p f s=Xsb p g s
 | 0,_,_,h,_=>by omega
 | _+1,0,_,_,h=>by omega
 | f+1,g+1,[],_,_=>rfl
 | f+1,g+1,c::r,hf,hg=>by
  simp only [Xsb]
  split
  ·cases ht:told r with
   | none=>rfl
   | some v =>
    simp only
    have:=X3g ht
    simp only [Y8] at hf hg
    rw [X9m p f g (r.drop 2) (by rw [Yp]; omega) (by rw [Yp]; omega)]
  ·simp only [Y8] at hf hg
   rw [X9m p f g r (by omega) (by omega)]
theorem Xtu (p:Bool):dec p []=some []:=rfl
theorem Xqf (p:Bool) (c:UInt8) (r:List UInt8):dec p (c::r)=if c=37 then match told r with
   | none=>none
   | some v=>(dec p (r.drop 2)).map (v::·)
  else (dec p r).map (dB p c::·):=by
 unfold dec;simp only [Y8,Xsb]
 split
 ·cases ht:told r with
  | none=>rfl
  | some v =>
   simp only
   have:=X3g ht
   rw [X9m p (r.length+1) ((r.drop 2).length+1) (r.drop 2) (by rw [Yp]; omega) (by omega)]
 ·rfl
theorem X8d (p:Bool):∀ (s t:List UInt8),dec p s=some t→t.length≤s.length:=by
 intro s
 induction hn:s.length using Nat.strongRecOn generalizing s with
 | _ n ih =>
  intro t h;cases s with
  | nil=>rw [Xtu] at h; injection h with h; subst h; simp
  | cons c r =>
   rw [Xqf] at h;simp only [Y8] at hn
   split at h
   ·cases ht:told r with
    | none=>rw [ht] at h; cases h
    | some v =>
     rw [ht] at h;simp only at h
     cases hr:dec p (r.drop 2) with
     | none=>rw [hr] at h; cases h
     | some u =>
      rw [hr] at h;simp at h
      subst h
      have:=ih (r.drop 2).length (by rw [Yp]; omega) (r.drop 2) rfl u hr
      rw [Yp] at this;simp only [Y8]
      omega
   ·cases hr:dec p r with
    | none=>rw [hr] at h; cases h
    | some u =>
     rw [hr] at h;simp at h
     subst h
     have:=ih r.length (by omega) r rfl u hr
     simp only [Y8]
     omega
def Xni (q n v:List UInt8):List UInt8:=(if q=[] then [] else q ++ [38]) ++ (enc n ++ 61::enc v)
theorem Xch (q n v:List UInt8):(Xni q n v).length≤q.length+2+3*n.length+3*v.length:=by
 have h1:=X1h n;have h2:=X1h v;unfold Xni;split <;> simp only [Y0,Y8,Yj] <;> omega
def Xif (u:U) (n v:List UInt8):U:={ u with query:=Xni u.query n v,ask:=true }
end Ul
namespace Go.Proofs.YtfibbpgikjggfaaGreatDoor
open Gk Ul Pc
theorem X5q (s:List UInt8) (i:Nat) (h:i<s.length):enc (s.take (i+1))=enc (s.take i) ++ one (at_ s (i:Int)):=by
 rw [Y12,Xx h,Xsa];show _ ++ enc [_]=_
 rw [show enc [at_ s (i:Int)]=one (at_ s (i:Int)) ++ [] from rfl,Y9]
theorem Xhs (s:List UInt8) (i:Nat) (h:i≤s.length):(enc (s.take i)).length≤3*i:=by
 have:=X1h (s.take i)
 rw [Yt] at this; omega
theorem Xgm {c:UInt8} (h:plain c=true):one c=[c]:=by rw [one,if_pos h]
theorem Xg0 {c:UInt8} (h:plain c=false):one c=Xbf c:=by rw [one,if_neg (by rw [h]; decide)]
set_option maxRecDepth 4000 in
theorem Xc2 (s:List UInt8) (hl:s.length≤1000000) (B w:World) (I:Im) (hd:DigAt I) (As:List X7) (hS:Sat B w I As) :
  Cz 170 [S s] w fun v w'=>v=S (enc s)∧Sat B w' I As:=by
 refine calls Tryz.func170 rfl Tryz.ntmps170 rfl (.seq (.q 1 rfl (.seq (.region (.allocA (cs:=[_,_]) hS Tryz.zeroValue245 rfl ?_)))));clear hS; intro b3 w hS;refine .nil (.seq (.seq (.region (.run 3 rfl ⟨Qu9,trivial⟩ (.nil (.block ?_))))));replace hS:=(hS.vecNil 5 1).pick 1 rfl;refine .loop (σ:=Value×Value×Nat) (fun ⟨p,v,i⟩=>[(0,S s),(3,ptr b3 0),(7,I64 (s.length:Nat)),(8,I64 (i:Nat))]) (fun ⟨p,v,i⟩ w=>i≤s.length∧(p=.pointer none∨p=ptr b3 0)∧((enc (s.take i))=[]→v=.slice none 0 0)∧Sat B w I (blk b3 [p,v] 245::Vec 5 1 v ((enc (s.take i))).length (bcs ((enc (s.take i))))::As)) (fun ⟨p,v,i⟩=>s.length - i) (.pointer none,.slice none 0 0,0) ⟨rfl,rfl,rfl,rfl,trivial⟩ ⟨Yo _,.inl rfl,fun _=>rfl,hS⟩ ?_;rintro ⟨p,v,i⟩ w ⟨hi,hp,hpv,hS⟩;refine .seq (.q 1 rfl (.seq ?_));refine .cond rfl (fun hb9=>?_) fun hb9=>?_
 ·have hc9:=hb9; try simp only [Y6] at hc9
  refine .skip (.seq (.block (.seq (.q 2 rfl (.seq ?_)))));have hel:=Xhs s i (by omega);refine .region (.run 4 rfl ⟨⟨⟨by omega,by omega⟩,Qu9⟩,trivial⟩ (.nil (.seq (.t 1 rfl (.call Xp6 rfl (ec9 rfl X0) rfl (X9z (at_ s (i:Int)) _) ?_)))));rintro _ _ ⟨rfl,rfl⟩;refine .nil (.cond rfl (fun hb15=>?_) fun hb15=>?_)
  ·have hc15:=hb15; try simp only [Y6] at hc15
   refine .t 1 rfl (.call Tryz.func205 rfl (ec9 rfl (ec9 rfl X0)) rfl (Xd7 b3 p v (enc (s.take i)) (at_ s (i:Int)) hp B w I _ hS (by omega)) ?_);clear hS;rintro _ w ⟨rfl,v2,hS⟩;refine .nil (.region (.run 2 rfl ⟨⟨by omega,by omega⟩,trivial⟩ (.nil ?_)));refine ⟨(ptr b3 0,v2,i+1),⟨rfl,rfl,rfl,rfl,trivial⟩,⟨by (try dsimp only); omega,.inr rfl,fun h=>absurd h ?_,?_⟩,by (try dsimp only); omega⟩
   ·try dsimp only
    rw [X5q s i (by omega),Xgm hb15];exact fun e=>by have:=congrArg List.length e; simp [Xbf] at this
   ·try dsimp only
    rw [X5q s i (by omega),Xgm hb15];exact hS
  have hc15:=hb15; try simp only [Y6] at hc15
  refine .t 1 rfl (.call Tryz.func182 rfl (ec9 rfl X0) rfl (Xa7 (at_ s (i:Int)) B w I hd _ hS) ?_);clear hS;rintro _ w ⟨rfl,hS⟩;refine .call Xqr rfl (ec9 rfl (ec9 rfl X0)) rfl (X34 b3 p v (enc (s.take i)) (Xbf (at_ s (i:Int))) hp B w I _ hS (by simp only [Xbf,Y8,Yj]; omega)) ?_;clear hS;rintro _ w ⟨rfl,v2,hS⟩;refine .nil (.region (.run 2 rfl ⟨⟨by omega,by omega⟩,trivial⟩ (.nil ?_)));refine ⟨(ptr b3 0,v2,i+1),⟨rfl,rfl,rfl,rfl,trivial⟩,⟨by (try dsimp only); omega,.inr rfl,fun h=>absurd h ?_,?_⟩,by (try dsimp only); omega⟩
  ·try dsimp only
   rw [X5q s i (by omega),Xg0 hb15];exact fun e=>by have:=congrArg List.length e; simp [Xbf] at this
  ·try dsimp only
   rw [X5q s i (by omega),Xg0 hb15];exact hS
 have hc9:=hb9; try simp only [Y6] at hc9
 refine .exit (.seq (.region (.call Xqd rfl (ec9 rfl X0) rfl (Xc5 b3 p v (enc (s.take i)) hpv B w I _ hS) ?_)));clear hS;rintro _ w ⟨rfl,hS⟩;refine .q 1 rfl (.nil (.ret (X9 Tryz.results170 rfl ?_)));refine ⟨_,rfl,?_,hS⟩;rw [show i=s.length by omega,Y13]
theorem X7a (s:List UInt8) (hl:s.length≤1000000) (B w:World) (I:Im) (As:List X7) (hS:Sat B w I As) :
  Cz 131 [S s] w fun v w'=>v=S (enc s)∧Sat B w' I As:=by
 refine calls Tryz.func131 rfl Tryz.ntmps131 rfl (.seq (.q 1 rfl (.seq (.q 1 rfl (.seq (.seq (.q 1 rfl (.block (.loop (σ:=Nat) (fun i=>[(0,S s),(3,S (enc (s.take i))),(4,I64 (i:Nat))]) (fun i w=>i≤s.length∧Sat B w I As) (fun i=>s.length - i) 0 ⟨rfl,rfl,rfl,trivial⟩ ⟨Yo _,hS⟩ ?_)))))))));rintro i w ⟨hi,hS⟩;refine .seq (.seq (.region (.run 4 rfl ⟨Qu9,trivial⟩ (.nil ?_))));refine .cond rfl (fun hb9=>?_) fun hb9=>?_
 ·have hc9:=hb9; try simp only [Y6] at hc9
  refine .skip (.seq (.block (.seq ?_)));have hel:=Xhs s i (by omega);refine .region (.run 3 rfl ⟨⟨⟨by omega,by omega⟩,Qu9⟩,trivial⟩ (.call Tryz.func163 rfl (ec9 rfl X0) rfl (X8p (at_ s (i:Int)) _) ?_));rintro _ _ ⟨rfl,rfl⟩;refine .q 1 rfl (.nil (.seq (.q 1 rfl ?_)));refine .cond rfl (fun hb16=>?_) fun hb16=>?_
  ·have hc16:=hb16; try simp only [Y6] at hc16
   refine .region (.run 5 rfl ⟨⟨by omega,by omega⟩,trivial⟩ (.val (.sub3 (l:=s) (i:=(i:Int)) (j:=(i:Int)+1) (.of rfl) (.of rfl) (.of rfl) (by omega) (by omega) (by omega) Qu9) rfl ?_));rw [show (s.drop (i:Int).toNat).take (((i:Int)+1).toNat - (i:Int).toNat)=[at_ s (i:Int)] by rw [Ym,show ((i:Int)+1).toNat - i=1 by omega,X8 s (by omega)]; rfl];refine .val (.cat (.of rfl) (.of rfl) (by simp only [Y8,Yj]; omega)) rfl (.q 1 rfl (.nil (.region (.run 3 rfl ⟨⟨by omega,by omega⟩,trivial⟩ (.nil ?_)))));refine ⟨i+1,⟨rfl,?_,rfl,trivial⟩,⟨by (try dsimp only); omega,hS⟩,by (try dsimp only); omega⟩;show some _=some _
   rw [X5q s i (by omega),Xgm hb16]
  have hc16:=hb16; try simp only [Y6] at hc16
  refine .region (.run 4 rfl ⟨⟨⟨by omega,by omega⟩,Qu9⟩,trivial⟩ (.call Tryz.func164 rfl (ec9 rfl X0) rfl (X67 (at_ s (i:Int)) B w I _ hS) ?_));clear hS;rintro _ w ⟨rfl,hS⟩;refine .val (.cat (.of rfl) (.of rfl) (by simp only [Xbf,Y8,Yj]; omega)) rfl (.q 1 rfl (.nil (.region (.run 3 rfl ⟨⟨by omega,by omega⟩,trivial⟩ (.nil ?_)))));refine ⟨i+1,⟨rfl,?_,rfl,trivial⟩,⟨by (try dsimp only); omega,hS⟩,by (try dsimp only); omega⟩;show some _=some _
  rw [X5q s i (by omega),Xg0 hb16]
 have hc9:=hb9; try simp only [Y6] at hc9
 refine .exit (.seq (.q 2 rfl (.ret (X9 Tryz.results131 rfl ?_))));refine ⟨_,rfl,?_,hS⟩;rw [show i=s.length by omega,Y13]
theorem Xjl:Bld Tryz.prog 101 [(0,1),(1,1)] [S [],S []]:=X2n Xa2 Xlx (fun w=>by simp [go_sem])
def PGTID:List UInt8:=[112,103,116,73,100]
def PGTIOU:List UInt8:=[112,103,116,73,111,117]
theorem Xr1 (sch host:List UInt8) (port:Nat) (r:List UInt8):(tailU sch host port r).1.query.length≤r.length∧(tailU sch host port r).1.path.length≤r.length+1:=by
 unfold tailU;split
 ·exact ⟨Yo _,Yo _⟩
 ·rename_i p hp
  split
  ·exact ⟨Yo _,Yo _⟩
  ·rename_i q hq
   have a1:=Xdr hp;have a2:=Xdr hq;have a3:=X89 [63] r;have a4:=X6k [63] r;have a5:=Xhh p;rw [Yp] at a2;refine ⟨by show q.length≤_; omega,?_⟩;show (if p=[] then [47] else X8f p).length≤_
   split
   ·simp
   ·omega
theorem pU_q (s:List UInt8):(pU s).1.query.length≤s.length∧(pU s).1.path.length≤s.length+1:=by
 unfold pU;split
 ·exact ⟨Yo _,Yo _⟩
 ·split
  ·exact ⟨Yo _,Yo _⟩
  ·rename_i sch r hs
   split
   ·have hr:r.length≤s.length:=by
     unfold schemeOf at hs;split at hs
     ·injection hs with hs; injection hs with e1 e2; subst e2; rw [Yp]; omega
     ·split at hs
      ·injection hs with hs; injection hs with e1 e2; subst e2; rw [Yp]; omega
      ·cases hs
    have a3:=X6k [47,63,35,58] r;unfold behind;split
    ·split
     ·have a4:=X6k [47,63,35] ((Xc [47,63,35,58] r).drop 1);rw [Yp] at a4
      have:=Xr1 sch (hostOf r) (X62 (upto [47,63,35] ((Xc [47,63,35,58] r).drop 1)) sch) (Xc [47,63,35] ((Xc [47,63,35,58] r).drop 1))
      omega
     ·exact ⟨Yo _,Yo _⟩
    ·have:=Xr1 sch (hostOf r) 0 (Xc [47,63,35,58] r)
     omega
   ·exact ⟨Yo _,Yo _⟩
theorem Xub {s:List UInt8} (h:(pU s).2=0):s.length≤2000:=by
 unfold pU at h;split at h
 ·cases h
 ·omega
theorem Xef {u:U} {n v:List UInt8} (hu:X31 u) (h:(Xif u n v).query.length≤10000000):X31 (Xif u n v):=⟨hu.1,hu.2.1,hu.2.2.1,hu.2.2.2.1,h⟩
def Xew (u:U) (pgt iou:List UInt8):U:=Xif (Xif u PGTID pgt) PGTIOU iou
def Xfl (url pgt iou:List UInt8):List UInt8×Nat:=if (pU url).2=0 then (strU (Xew (pU url).1 pgt iou),0) else ([],(pU url).2)
theorem Xse (s pgt iou:List UInt8):(Xew (pU s).1 pgt iou).query.length≤s.length+37+3*pgt.length+3*iou.length:=by
 have h1:=(pU_q s).1;have h2:=Xch (pU s).1.query PGTID pgt;have h3:=Xch (Xni (pU s).1.query PGTID pgt) PGTIOU iou;have e1:PGTID.length=5:=rfl;have e2:PGTIOU.length=6:=rfl;show (Xni (Xni (pU s).1.query PGTID pgt) PGTIOU iou).length≤_
 omega
theorem Xc7 {s pgt iou:List UInt8} (h:(pU s).2=0) (hp:pgt.length≤100000) (hi:iou.length≤100000):X31 (Xif (pU s).1 PGTID pgt)∧X31 (Xew (pU s).1 pgt iou):=by
 have h0:=Xub h;have h1:=(pU_q s).1;have h2:=Xch (pU s).1.query PGTID pgt;have h3:=Xse s pgt iou;have e1:PGTID.length=5:=rfl;have hs:X31 (Xif (pU s).1 PGTID pgt):=Xef (X73 s) (by show (Xni (pU s).1.query PGTID pgt).length≤_; omega);exact ⟨hs,Xef hs (by show (Xew (pU s).1 pgt iou).query.length≤_; omega)⟩
theorem Xm4 (a:Option Addr) (c:Nat) (x sep:List UInt8) (B w:World) (I:Im) (As:List X7) (hE:∀ w,Sat B w I As→Xb2 w Xa3 1 a [x]) (hS:Sat B w I As) :
  Cz 171 [.slice a 1 c,S sep] w fun v w'=>v=S x∧Sat B w' I As:=by
 refine calls Tryz.func171 rfl Tryz.ntmps171 rfl (.seq (.q 1 rfl (.seq (.seq ?_))));obtain ⟨p,rfl,hA⟩:=hE w hS 0 x rfl;have hc0:=hA 0 _ rfl;refine .region (.run 2 rfl ⟨⟨_,X19⟩,trivial⟩ (.nil (.block (.seq (.q 2 rfl (.condF (rfl) (.seq (.q 2 rfl (.condT (rfl) (.seq (.t 1 rfl ?_)))))))))));refine .val (.ii rfl rfl (by omega) (by omega) X19 Qs9) rfl (.val (v:=S x) (.ld1 (.of rfl) (by simpa [Addr.add_add] using hc0) Qg9) rfl (.q 1 rfl (.nil (.ret (X9 Tryz.results171 rfl ?_)))));exact ⟨_,rfl,rfl,hS⟩
theorem Xja (b:Nat) (n v9:List UInt8) (hn:n.length≤1000000) (hv9:v9.length≤1000000) (B w:World) (I:Im) (hd:DigAt I) (As:List X7) (hS:Sat B w I (blk b [S n,S v9] 101::As)) :
  Cz 130 [.slice (some (ad b 0)) 1 1] w fun v w'=>v=S (enc n ++ 61::enc v9)∧Sat B w' I (blk b [S n,S v9] 101::As):=by
 refine calls Tryz.func130 rfl Tryz.ntmps130 rfl (.seq (.q 1 rfl (.seq (.q 1 rfl (.seq (.seq (.region (.run 3 rfl ⟨⟨_,Xex⟩,trivial⟩ (.nil (.block ?_))))))))));replace hS:=hS.vecNil 9 1;refine .loop (σ:=Nat×Value) (fun ⟨i,kv⟩=>[(3,kv),(6,.slice (some (ad b 0)) 1 1),(7,I64 1),(8,I64 (i:Nat))]) (fun ⟨i,kv⟩ w=>i≤1∧Sat B w I (Vec 9 1 kv i (([S (enc n ++ 61::enc v9)]:List Value).take i)::blk b [S n,S v9] 101::As)) (fun ⟨i,kv⟩=>1 - i) (0,.slice none 0 0) ⟨rfl,rfl,rfl,rfl,trivial⟩ ⟨Yo _,hS⟩ ?_;rintro ⟨i,kv⟩ w ⟨hi,hS⟩;refine .seq (.q 1 rfl (.seq ?_));refine .cond rfl (fun hb9=>?_) fun hb9=>?_
 ·have hc9:=hb9; simp only [Y6] at hc9;refine .skip (.seq (.block (.seq ?_)));obtain rfl:i=0:=by omega
  have hen:=X1h n;have hev:=X1h v9;obtain ⟨ka,kc,rfl,hkc,_⟩:=hS.vecSlice (k:=0) (v:=kv) rfl;refine .region (.val (.io rfl rfl (by omega) (by omega) Xex X8t) rfl (.val (.ldsW (cs:=[_,_]) (.of rfl) hS (k:=1) rfl Tryz.isAgg101 X8t rfl) rfl (.allocA (cs:=[_,_]) hS Xlx rfl ?_)));intro b5 w hS;refine .so hS (k:=0) rfl rfl rfl rfl X8t rfl (by simp) ?_;intro w hS;try simp only [Yh,Ye,Y9,Y7,Yg,Yn,Yd] at hS
  refine .nil (.drawn (fun w=>∃ R,Sat B w I (blk b5 [S n,S v9] 101::R)) (fun j=>!([].contains j)) (by kernel_rfl) ?_);replace hS:=hS.drew; generalize w.drew=w at hS ⊢;have hH:=(hS.pick 0 rfl)
  refine .tp (i:=0) rfl (by kernel_rfl) (fun w=>(.mo rfl)) rfl (.tp (i:=1) rfl (by kernel_rfl) (fun w=>(.fo 0 rfl Xa2 rfl rfl Qs9 rfl)) rfl (.tk (i:=2) rfl (by kernel_rfl) ⟨_,hH⟩ (fun w ⟨R,hS⟩=>(.lo rfl hS (k:=0) rfl Qg9 rfl)) rfl (.tp (i:=5) rfl (by kernel_rfl) (fun w=>(.fo 1 rfl Xa2 rfl rfl Qs9 rfl)) rfl (.tk (i:=6) rfl (by kernel_rfl) ⟨_,hH⟩ (fun w ⟨R,hS⟩=>(.lo rfl hS (k:=0) rfl Qg9 rfl)) rfl (.b1 3 (by kernel_rfl) rfl (.call Tryz.func170 rfl (ec9 rfl X0) rfl (Xc2 n (by omega) B _ I hd _ hS) ?_))))));rintro _ w ⟨rfl,hS⟩;refine .nil ?_;clear hH;have hH:=(hS.pick 0 rfl)
  refine ⟨fun _ _=>⟨_,hH⟩,?_⟩;refine .tp (i:=4) rfl (by kernel_rfl) (fun w=>(.cat (.of rfl) (.of rfl) (by (try simp only [Y0,Y8,Yj]); omega))) rfl (.b1 7 (by kernel_rfl) rfl (.call Tryz.func170 rfl (ec9 rfl X0) rfl (Xc2 v9 (by omega) B _ I hd _ hS) ?_));rintro _ w ⟨rfl,hS⟩;refine .nil ?_;clear hH;have hH:=(hS.pick 0 rfl)
  refine ⟨fun _ _=>⟨_,hH⟩,?_⟩;refine .tp (i:=8) rfl (by kernel_rfl) (fun w=>(.cat (.of rfl) (.of rfl) (by (try simp only [Y0,Y8,Yj]); omega))) rfl (.b1 9 (by kernel_rfl) rfl (.buildSlice (cs:=[_]) hS (pc9 rfl X4) X19 Qs9 Qz9 rfl rfl rfl rfl ?_));intro b21 w hS;refine .nil ?_;clear hH;have hH:=(hS.pick 1 rfl)
  refine ⟨fun _ _=>⟨_,hH⟩,?_⟩;refine .b1 10 (by kernel_rfl) rfl (.append (size:=1) (bytes:=16) hS (.of rfl) (.of rfl) (k:=1) rfl X19 X1m rfl rfl rfl rfl rfl rfl rfl ⟨by omega,by unfold maxLen; omega⟩ rfl ?_);intro v22 w hS;obtain ⟨a22,c22,rfl,hcap22,_⟩:=hS.vecSlice (k:=1) (v:=v22) rfl;refine .nil ?_;clear hH;have hH:=(hS.pick 0 rfl)
  refine ⟨fun _ _=>⟨_,hH⟩,?_⟩;refine .tp (i:=11) rfl (by kernel_rfl) (fun w=>(.ao rfl)) rfl (.done (by kernel_rfl) (.region (.run 2 rfl ⟨⟨by omega,by omega⟩,trivial⟩ (.nil ?_))));refine ⟨(1,_),⟨rfl,rfl,rfl,rfl,trivial⟩,⟨Yu _,?_⟩,by (try dsimp only); omega⟩;rw [show (enc n ++ [61]) ++ enc v9=(enc n ++ 61::enc v9) by simp] at hS;exact (((hS.pick 2 rfl).pick 2 rfl).drop (k:=2) rfl)
 have hc9:=hb9; simp only [Y6] at hc9;refine .exit (.seq ?_);obtain rfl:i=1:=by omega
 obtain ⟨ka,kc,rfl,hkc,_⟩:=hS.vecSlice (k:=0) (v:=kv) rfl;refine .t 1 rfl (.call Tryz.func171 rfl (ec9 rfl (ec9 rfl X0)) rfl (Xm4 ka kc (enc n ++ 61::enc v9) _ B _ I _ (fun w h=>Xih (cells:=Xa3) (s:=1) (fun _=>rfl) h (k:=0) rfl) hS) ?_);rintro _ w ⟨rfl,hS⟩;refine .q 1 rfl (.nil (.ret (X9 Tryz.results130 rfl ?_)));exact ⟨_,rfl,rfl,hS.drop (k:=0) rfl⟩
theorem Xij (u:U) (hu:X31 u) (n v9:List UInt8) (hn:n.length≤1000000) (hv:v9.length≤1000000) (B w:World) (I:Im) (hd:DigAt I) (As:List X7) (hS:Sat B w I As) :
  Cz 75 [.agg (uc u).toArray,S n,S v9] w fun v w'=>v=.agg (uc (Xif u n v9)).toArray∧Sat B w' I As:=by
 refine calls Tryz.func75 rfl Tryz.ntmps75 rfl (.seq (.region (.boxA (cs:=[S u.sch,S u.host,I64 (u.port:Nat),S u.path,S u.query,.bool u.ask]) hS (.of rfl) rfl ?_)));intro b3 w hS;refine .allocA (cs:=[_,_,_,_,_,_]) hS Xms rfl ?_;intro b6 w hS;refine .nil (.cutS (σ:=List UInt8) (fun q9=>[(1,S n),(2,S v9),(3,ptr b3 0),(6,ptr b6 0)]) (fun q9 w=>(q9=if u.query=[] then [] else u.query ++ [38])∧q9.length≤10000001∧Sat B w I (blk b6 [S [],S [],I64 0,S [],S [],.bool false] 63::blk b3 [S u.sch,S u.host,I64 (u.port:Nat),S u.path,S q9,.bool u.ask] 63::As)) ?_ ?_)
 ·refine .seq ?_;have huq:=hu.2.2.2.2;refine .region (.val (.fo 4 rfl X3y rfl rfl Qs9 rfl) rfl (.val (.lo rfl hS (k:=1) rfl Qg9 rfl) rfl (.q 1 rfl (.nil ?_))));refine .cond rfl (fun hb9=>?_) fun hb9=>?_
  ·refine .region (.val (.fo 4 rfl X3y rfl rfl Qs9 rfl) rfl (.val (.lo rfl hS (k:=1) rfl Qg9 rfl) rfl (.run 1 rfl ⟨by (try simp only [Y0,Y8,Yj]); omega,trivial⟩ (.val (.fo 4 rfl X3y rfl rfl Qs9 rfl) rfl (.s1 hS (k:=1) rfl rfl rfl rfl Qs9 (by simp) ?_)))));intro w hS;refine .nil (⟨u.query ++ [38],⟨rfl,rfl,rfl,rfl,trivial⟩,?_,?_,((hS.pick 1 rfl).pick 1 rfl)⟩)
   ·rw [if_neg (by simpa using hb9)]
   ·rw [Y0]; show _+1≤_; omega
  refine .skip (⟨u.query,⟨rfl,rfl,rfl,rfl,trivial⟩,?_,by omega,((hS.pick 1 rfl).pick 1 rfl)⟩);rw [if_pos (by simpa using hb9)];simpa using hb9
 rintro q9 w ⟨hq9,hql,hS⟩;refine .seq ?_;have hen:=X1h n;have hev:=X1h v9;refine .drawn (fun w=>∃ R,Sat B w I (blk b3 [S u.sch,S u.host,I64 (u.port:Nat),S u.path,S q9,.bool u.ask] 63::R)) (fun j=>!([9].contains j)) (by kernel_rfl) ?_;replace hS:=hS.drew; generalize w.drew=w at hS ⊢;have hH:=(hS.pick 1 rfl)
 refine .tp (i:=0) rfl (by kernel_rfl) (fun w=>(.fo 4 rfl X3y rfl rfl Qs9 rfl)) rfl (.tk (i:=1) rfl (by kernel_rfl) ⟨_,hH⟩ (fun w ⟨R,hS⟩=>(.lo rfl hS (k:=0) rfl Qg9 rfl)) rfl (.tp (i:=2) rfl (by kernel_rfl) (fun w=>(.mo rfl)) rfl (.tp (i:=3) rfl (by kernel_rfl) (fun w=>(.mo rfl)) rfl (.tp (i:=4) rfl (by kernel_rfl) (fun w=>(.build (cs:=[_,_]) (pc9 rfl (pc9 rfl X4)) Xjl rfl)) rfl ?_))));refine .b1 5 (by kernel_rfl) rfl (.buildSlice (cs:=[_,_]) hS (pc9 rfl X4) Xex X8t Xlx rfl rfl rfl rfl ?_);intro b19 w hS;refine .nil ?_;clear hH;have hH:=(hS.pick 2 rfl)
 refine ⟨fun _ _=>⟨_,hH⟩,?_⟩;refine .b1 6 (by kernel_rfl) rfl (.call Tryz.func130 rfl (ec9 rfl X0) rfl (Xja b19 n v9 hn hv B _ I hd _ hS) ?_);rintro _ w ⟨rfl,hS⟩;refine .nil ?_;clear hH;have hH:=(hS.pick 2 rfl)
 refine ⟨fun _ _=>⟨_,hH⟩,?_⟩;refine .tp (i:=7) rfl (by kernel_rfl) (fun w=>(.cat (.of rfl) (.of rfl) (by (try simp only [Y0,Y8,Yj]); omega))) rfl (.tp (i:=8) rfl (by kernel_rfl) (fun w=>(.fo 4 rfl X3y rfl rfl Qs9 rfl)) rfl (.b1 9 (by kernel_rfl) rfl (.s1 hS (k:=2) rfl rfl rfl rfl Qs9 (by simp) ?_)));intro w hS;refine .nil ?_;refine And.intro (by intro h; cases h) ?_;refine .done (by kernel_rfl) (.seq (.region ?_));refine .val (.fo 5 rfl X3y rfl rfl Qs4 rfl) rfl (.s1 hS (k:=2) rfl rfl rfl rfl Qs4 (by simp) ?_);intro w hS;refine .nil (.seq (.region ?_));refine .val (.ldsW (cs:=[_,_,_,_,_,_]) (.of rfl) hS (k:=2) rfl X5i X20 rfl) rfl (.so hS (k:=1) rfl rfl rfl rfl X20 rfl (by simp) ?_);intro w hS;try simp only [Yh,Ye,Y9,Y7,Yg,Yn,Yd] at hS
 refine .nil (.ret ?_);refine Xjt (b:=_) (cs:=[_,_,_,_,_,_]) Tryz.results75 hS (k:=1) rfl X5i X20 rfl rfl (⟨_,rfl,?_,(((hS.drop (k:=0) rfl).drop (k:=0) rfl).drop (k:=0) rfl)⟩);rw [Xif,Xni,← hq9];rfl
theorem X9f (u:U) (hu:X31 u) (n v9:List UInt8) (hn:n.length≤1000000) (hv:v9.length≤1000000) (B w:World) (I:Im) (As:List X7) (hS:Sat B w I As) :
  Cz 76 [.agg (uc u).toArray,S n,S v9] w fun v w'=>v=.agg (uc (Xif u n v9)).toArray∧Sat B w' I As:=by
 refine calls Tryz.func76 rfl Tryz.ntmps76 rfl (.seq (.region (.boxA (cs:=[S u.sch,S u.host,I64 (u.port:Nat),S u.path,S u.query,.bool u.ask]) hS (.of rfl) rfl ?_)));intro b3 w hS;refine .allocA (cs:=[_,_,_,_,_,_]) hS Xms rfl ?_;intro b6 w hS;refine .nil (.seq ?_);have hen:=X1h n;have hev:=X1h v9;have huq:=hu.2.2.2.2;refine .t 1 rfl (.call Tryz.func131 rfl (ec9 rfl X0) rfl (X7a n hn B _ I _ hS) ?_);rintro _ w ⟨rfl,hS⟩;refine .run 2 rfl ⟨by (try simp only [Y0,Y8,Yj]); omega,trivial⟩ (.call Tryz.func131 rfl (ec9 rfl X0) rfl (X7a v9 hv B _ I _ hS) ?_);rintro _ w ⟨rfl,hS⟩;refine .run 2 rfl ⟨by (try simp only [Y0,Y8,Yj]); omega,trivial⟩ (.nil (.cutS (σ:=List UInt8) (fun q9=>[(3,ptr b3 0),(6,ptr b6 0),(7,S q9)]) (fun q9 w=>q9=Xni u.query n v9∧Sat B w I (blk b6 [S [],S [],I64 0,S [],S [],.bool false] 63::blk b3 [S u.sch,S u.host,I64 (u.port:Nat),S u.path,S u.query,.bool u.ask] 63::As)) ?_ ?_))
 ·refine .seq (.region ?_);refine .val (.fo 4 rfl X3y rfl rfl Qs9 rfl) rfl (.val (.lo rfl hS (k:=1) rfl Qg9 rfl) rfl (.q 1 rfl (.nil ?_)));refine .cond rfl (fun hb16=>?_) fun hb16=>?_
  ·refine .region (.val (.fo 4 rfl X3y rfl rfl Qs9 rfl) rfl (.val (.lo rfl hS (k:=1) rfl Qg9 rfl) rfl (.run 4 rfl ⟨by (try simp only [Y0,Y8,Yj]); omega,by (try simp only [Y0,Y8,Yj]); omega,trivial⟩ (.nil (⟨(u.query ++ [38]) ++ ((enc n ++ [61]) ++ enc v9),⟨rfl,rfl,rfl,trivial⟩,?_,((hS.pick 1 rfl).pick 1 rfl)⟩)))));rw [Xni,if_neg (by simpa using hb16)]; simp
  refine .skip (⟨(enc n ++ [61]) ++ enc v9,⟨rfl,rfl,rfl,trivial⟩,?_,((hS.pick 1 rfl).pick 1 rfl)⟩);rw [Xni,if_pos (by simpa using hb16)]; simp
 rintro q9 w ⟨hq9,hS⟩;refine .seq (.t 1 rfl ?_);refine .val (.fo 4 rfl X3y rfl rfl Qs9 rfl) rfl (.s1 hS (k:=1) rfl rfl rfl rfl Qs9 (by simp) ?_);intro w hS;refine .nil (.seq (.region ?_));refine .val (.fo 5 rfl X3y rfl rfl Qs4 rfl) rfl (.s1 hS (k:=1) rfl rfl rfl rfl Qs4 (by simp) ?_);intro w hS;refine .nil (.seq (.region ?_));refine .val (.ldsW (cs:=[_,_,_,_,_,_]) (.of rfl) hS (k:=1) rfl X5i X20 rfl) rfl (.so hS (k:=0) rfl rfl rfl rfl X20 rfl (by simp) ?_);intro w hS;try simp only [Yh,Ye,Y9,Y7,Yg,Yn,Yd] at hS
 refine .nil (.ret ?_);refine Xjt (b:=_) (cs:=[_,_,_,_,_,_]) Tryz.results76 hS (k:=0) rfl X5i X20 rfl rfl (⟨_,rfl,?_,((hS.drop (k:=0) rfl).drop (k:=0) rfl)⟩);rw [Xif,← hq9];rfl
theorem Xj1 (url pgt iou:List UInt8) (hul:url.length≤1000000) (hp:pgt.length≤100000) (hi:iou.length≤100000) (B w:World) (I:Im) (hK:Known I) (As:List X7) (hS:Sat B w I As) :
  Cz 29 [.agg (List.toArray [S url,S pgt,S iou])] w fun v w'=>v=.tuple #[S (Xfl url pgt iou).1,I64 ((Xfl url pgt iou).2:Nat)]∧Sat B w' I As:=by
 refine calls Tryz.func29 rfl Tryz.ntmps29 rfl (.seq (.region (.boxA (cs:=[S url,S pgt,S iou]) hS (.of rfl) rfl ?_)));intro b1 w hS;refine .q 2 rfl (.nil (.seq (.region ?_)));refine .val (.fo 0 rfl Xdw rfl rfl Qs9 rfl) rfl (.val (.lo rfl hS (k:=0) rfl Qg9 rfl) rfl (.call Tryz.func38 rfl (ec9 rfl X0) rfl (Xc4 url hul B _ I hK _ hS) ?_));rintro _ w ⟨rfl,hS⟩;refine .q 3 rfl (.allocA (cs:=[_,_,_,_,_,_]) hS Xms rfl ?_);intro b4 w hS;refine .so hS (k:=0) rfl rfl rfl rfl X20 rfl (by simp) ?_;intro w hS;try simp only [Yh,Ye,Y9,Y7,Yg,Yn,Yd] at hS
 refine .q 1 rfl (.nil (.seq (.seq (.q 2 rfl ?_))));refine .cond rfl (fun hb13=>?_) fun hb13=>?_
 ·have hc13:=hb13; simp only [Y6] at hc13;refine .seq (.q 3 rfl (.ret (X1e Tryz.results29 rfl rfl ?_)));refine ⟨_,rfl,?_,((hS.drop (k:=0) rfl).drop (k:=0) rfl)⟩;have h9:=hc13;rw [Xfl,if_neg (by omega)];rfl
 have hc13:=hb13; simp only [Y6] at hc13;refine .skip (.seq ?_);have hz:(pU url).2=0:=by have h9:=hc13; omega
 obtain ⟨hs1,hs2⟩:=Xc7 hz hp hi;refine .drawn (fun w=>∃ R,Sat B w I (blk b1 [S url,S pgt,S iou] 48::blk b4 (uc (pU url).1) 63::R)) (fun j=>!([].contains j)) (by kernel_rfl) ?_;replace hS:=hS.drew; generalize w.drew=w at hS ⊢;have hH:=((hS.pick 0 rfl).pick 1 rfl)
 refine .tk (i:=0) rfl (by kernel_rfl) ⟨_,hH⟩ (fun w ⟨R,hS⟩=>((.ldsW (cs:=[_,_,_,_,_,_]) (.of rfl) hS (k:=1) rfl X5i X20 rfl))) rfl (.tp (i:=1) rfl (by kernel_rfl) (fun w=>(.fo 1 rfl Xdw rfl rfl Qs9 rfl)) rfl (.tk (i:=2) rfl (by kernel_rfl) ⟨_,hH⟩ (fun w ⟨R,hS⟩=>((.lo rfl hS (k:=0) rfl Qg9 rfl))) rfl (.tp (i:=4) rfl (by kernel_rfl) (fun w=>(.fo 2 rfl Xdw rfl rfl Qs9 rfl)) rfl (.tk (i:=5) rfl (by kernel_rfl) ⟨_,hH⟩ (fun w ⟨R,hS⟩=>((.lo rfl hS (k:=0) rfl Qg9 rfl))) rfl (.b1 3 (by kernel_rfl) rfl (.call Tryz.func75 rfl (ec9 rfl (ec9 rfl (ec9 rfl X0))) rfl (Xij (pU url).1 (X73 url) PGTID pgt (by decide) (by omega) B _ I hK.dig _ hS) ?_))))));rintro _ w ⟨rfl,hS⟩;refine .nil ?_;clear hH;have hH:=((hS.pick 0 rfl).pick 1 rfl)
 refine ⟨fun _ _=>⟨_,hH⟩,?_⟩;refine .b1 6 (by kernel_rfl) rfl (.call Tryz.func75 rfl (ec9 rfl (ec9 rfl (ec9 rfl X0))) rfl (Xij (Xif (pU url).1 PGTID pgt) hs1 PGTIOU iou (by decide) (by omega) B _ I hK.dig _ hS) ?_);rintro _ w ⟨rfl,hS⟩;refine .nil ?_;clear hH;have hH:=((hS.pick 0 rfl).pick 1 rfl)
 refine ⟨fun _ _=>⟨_,hH⟩,?_⟩;refine .b1 7 (by kernel_rfl) rfl (.call Tryz.func74 rfl (ec9 rfl X0) rfl (Xan (Xew (pU url).1 pgt iou) hs2 B _ I hK _ hS) ?_);rintro _ w ⟨rfl,hS⟩;refine .nil ?_;clear hH;have hH:=((hS.pick 0 rfl).pick 1 rfl)
 refine ⟨fun _ _=>⟨_,hH⟩,?_⟩;refine .tp (i:=8) rfl (by kernel_rfl) (fun w=>(.ao rfl)) rfl (.tp (i:=9) rfl (by kernel_rfl) (fun w=>(.ao rfl)) rfl (.done (by kernel_rfl) (.ret (X1e Tryz.results29 rfl rfl ?_))));refine ⟨_,rfl,?_,((hS.drop (k:=0) rfl).drop (k:=0) rfl)⟩;rw [Xfl,if_pos hz]; rfl
theorem Xd4 (url pgt iou:List UInt8) (hul:url.length≤1000000) (hp:pgt.length≤100000) (hi:iou.length≤100000) (B w:World) (I:Im) (As:List X7) (hS:Sat B w I As) :
  Cz 30 [.agg (List.toArray [S url,S pgt,S iou])] w fun v w'=>v=.tuple #[S (Xfl url pgt iou).1,I64 ((Xfl url pgt iou).2:Nat)]∧Sat B w' I As:=by
 refine calls Tryz.func30 rfl Tryz.ntmps30 rfl (.seq (.region (.boxA (cs:=[S url,S pgt,S iou]) hS (.of rfl) rfl ?_)));intro b1 w hS;refine .q 2 rfl (.nil (.seq (.region ?_)));refine .val (.fo 0 rfl Xdw rfl rfl Qs9 rfl) rfl (.val (.lo rfl hS (k:=0) rfl Qg9 rfl) rfl (.call Tryz.func17 rfl (ec9 rfl X0) rfl (X8o url hul B _ I _ hS) ?_));rintro _ w ⟨rfl,hS⟩;refine .q 3 rfl (.allocA (cs:=[_,_,_,_,_,_]) hS Xms rfl ?_);intro b4 w hS;refine .so hS (k:=0) rfl rfl rfl rfl X20 rfl (by simp) ?_;intro w hS;try simp only [Yh,Ye,Y9,Y7,Yg,Yn,Yd] at hS
 refine .q 1 rfl (.nil (.seq (.seq (.q 2 rfl ?_))));refine .cond rfl (fun hb13=>?_) fun hb13=>?_
 ·have hc13:=hb13; simp only [Y6] at hc13;refine .seq (.q 3 rfl (.ret (X1e Tryz.results30 rfl rfl ?_)));refine ⟨_,rfl,?_,((hS.drop (k:=0) rfl).drop (k:=0) rfl)⟩;have h9:=hc13;rw [Xfl,if_neg (by omega)];rfl
 have hc13:=hb13; simp only [Y6] at hc13;refine .skip (.seq ?_);have hz:(pU url).2=0:=by have h9:=hc13; omega
 obtain ⟨hs1,hs2⟩:=Xc7 hz hp hi;refine .region (.val (.ldsW (cs:=[_,_,_,_,_,_]) (.of rfl) hS (k:=0) rfl X5i X20 rfl) rfl (.val (.fo 1 rfl Xdw rfl rfl Qs9 rfl) rfl (.val (.lo rfl hS (k:=1) rfl Qg9 rfl) rfl (.call Tryz.func76 rfl (ec9 rfl (ec9 rfl (ec9 rfl X0))) rfl (X9f (pU url).1 (X73 url) PGTID pgt (by decide) (by omega) B _ I _ hS) ?_))));rintro _ w ⟨rfl,hS⟩;refine .stA (vs:=uc (Xif (pU url).1 PGTID pgt)) hS (k:=0) rfl (.of rfl) (.of rfl) rfl X20 rfl (by simp [uc]) ?_;intro w hS;replace hS:Sat B w I (blk b4 (uc (Xif (pU url).1 PGTID pgt)) 63::blk b1 [S url,S pgt,S iou] 48::As):=hS;refine .nil (.seq (.region ?_));refine .val (.ldsW (cs:=[_,_,_,_,_,_]) (.of rfl) hS (k:=0) rfl X5i X20 rfl) rfl (.val (.fo 2 rfl Xdw rfl rfl Qs9 rfl) rfl (.val (.lo rfl hS (k:=1) rfl Qg9 rfl) rfl (.call Tryz.func76 rfl (ec9 rfl (ec9 rfl (ec9 rfl X0))) rfl (X9f (Xif (pU url).1 PGTID pgt) hs1 PGTIOU iou (by decide) (by omega) B _ I _ hS) ?_)));rintro _ w ⟨rfl,hS⟩;refine .stA (vs:=uc (Xew (pU url).1 pgt iou)) hS (k:=0) rfl (.of rfl) (.of rfl) rfl X20 rfl (by simp [uc]) ?_;intro w hS;replace hS:Sat B w I (blk b4 (uc (Xew (pU url).1 pgt iou)) 63::blk b1 [S url,S pgt,S iou] 48::As):=hS;refine .nil (.seq (.region ?_));refine .val (.ldsW (cs:=[_,_,_,_,_,_]) (.of rfl) hS (k:=0) rfl X5i X20 rfl) rfl (.call Tryz.func77 rfl (ec9 rfl X0) rfl (X7m (Xew (pU url).1 pgt iou) hs2 B _ I _ hS) ?_);rintro _ w ⟨rfl,hS⟩;refine .q 2 rfl (.nil (.ret (X1e Tryz.results30 rfl rfl ?_)));refine ⟨_,rfl,?_,((hS.drop (k:=0) rfl).drop (k:=0) rfl)⟩;rw [Xfl,if_pos hz]; rfl
end Go.Proofs.YtfibbpgikjggfaaGreatDoor
namespace Go.Proofs.YtfibbpgikjggfaaGreatDoor
open Gk Ul Pc Tk Tr
theorem Xee (ra:Option Addr) (rc:Nat) (rl:List Rec) (hrll:rl.length≤9223372036854775807) (hsr:∀ r∈rl,r.name.length≤60∧r.parent.length≤60) (x:Xp) {lo:List Sv} {us:List Us} {ps:Nat→Int} (ω:Wd) (hω:X3n ω) (la:Option Addr) (lc:Nat) (da:Option Addr) (dc:Nat) (B w:World) (I:Im) (hX:XpOk I x lo us ps) (hRr:RS I ra 10 rl.length (X12 X5 rl)) (hM:RwM I la da dc ω) (As:List X7) (hS:Sat B w I (blk x.xb (XC x da ω.D.length dc ω.now) 83::blk x.tb [I64 ω.room,.slice la ω.l.length lc] 90::As)) :
  Cz 26 [ptr x.xb 0,.slice ra rl.length rc] w fun v w'=>v=.tuple #[]∧∃ J la2 lc2 da2 dc2,Le I J∧RwM J la2 da2 dc2 (rl.foldl X42 ω)∧Sat B w' J (blk x.xb (XC x da2 (rl.foldl X42 ω).D.length dc2 (rl.foldl X42 ω).now) 83::blk x.tb [I64 (rl.foldl X42 ω).room,.slice la2 (rl.foldl X42 ω).l.length lc2] 90::As):=by
 refine calls Tryz.func26 rfl Tryz.ntmps26 rfl (.seq (.q 1 rfl (.block (.loop (σ:=Nat×Option Addr×Nat×Im) (fun ⟨i,la2,lc2,J2⟩=>[(0,ptr x.xb 0),(1,.slice ra rl.length rc),(4,I64 (i:Nat))]) (fun ⟨i,la2,lc2,J2⟩ w=>i≤rl.length∧Le I J2∧RwM J2 la2 da dc ((rl.take i).foldl X42 ω)∧Sat B w J2 (blk x.xb (XC x da ((rl.take i).foldl X42 ω).D.length dc ((rl.take i).foldl X42 ω).now) 83::blk x.tb [I64 ((rl.take i).foldl X42 ω).room,.slice la2 ((rl.take i).foldl X42 ω).l.length lc2] 90::As)) (fun ⟨i,la2,lc2,J2⟩=>rl.length - i) (0,la,lc,I) ⟨rfl,rfl,rfl,trivial⟩ ⟨Yo _,Le.refl _,hM,hS⟩ ?_))));rintro ⟨i,la2,lc2,J2⟩ w ⟨hi,hJ2,hM2,hS⟩;refine .seq (.seq (.region (.run 4 rfl ⟨⟨_,X1p⟩,trivial⟩ (.nil ?_))));refine .cond rfl (fun hb8=>?_) fun hb8=>?_
 ·have hc8:=hb8; simp only [Y6] at hc8;refine .skip (.seq (.block ?_));obtain ⟨r,hr⟩:∃ r,rl[i]?=some r:=⟨_,Y4 (by omega)⟩
  obtain ⟨q,hq9,hx⟩:=X5s (cells:=X5) (s:=10) (fun _=>rfl) (hRr.mono hJ2) hr;subst hq9;unfold X5 at hx;have hωi:=X91 (rl.take i) hω;have hlen:=hωi.len;have hsx:=hsr r (Yi hr);refine .drawn (fun w=>∃ J9 R,Le J2 J9∧Sat B w J9 (blk x.xb (XC x da ((rl.take i).foldl X42 ω).D.length dc ((rl.take i).foldl X42 ω).now) 83::R)) (fun j=>!([].contains j)) (by kernel_rfl) ?_;replace hS:=hS.drew; generalize w.drew=w at hS ⊢;have hH:∃ J9 R,Le J2 J9∧Sat B w J9 (blk x.xb (XC x da ((rl.take i).foldl X42 ω).D.length dc ((rl.take i).foldl X42 ω).now) 83::R):=⟨_,_,Le.refl _,(hS.pick 0 rfl)⟩
  refine .tp (i:=0) rfl (by kernel_rfl) (fun w=>(.mo rfl)) rfl (.tp (i:=1) rfl (by kernel_rfl) (fun w=>(.no rfl)) rfl ?_);refine .tp (i:=2) rfl (by kernel_rfl) (fun w=>(.fo 28 rfl X4m rfl rfl Xdv rfl)) rfl (.tk (i:=3) rfl (by kernel_rfl) hH (fun w ⟨J9,R,hL9,hS⟩=>((.lo rfl hS (k:=0) rfl Xds rfl))) rfl (.tp (i:=4) rfl (by kernel_rfl) (fun w=>(.mo rfl)) rfl (.tp (i:=5) rfl (by kernel_rfl) (fun w=>(.mo rfl)) rfl ?_)));refine .tp (i:=6) rfl (by kernel_rfl) (fun w=>(.ii rfl rfl (by omega) (by omega) X1p Xu)) rfl (.tk (i:=7) rfl (by kernel_rfl) hH (fun w ⟨J9,R,hL9,hS⟩=>((.ldsI (.of rfl) hS (hx.mono hL9) X3e Xu rfl (fun _ _ h=>h)))) rfl (.b1 8 (by kernel_rfl) rfl (.call Tryz.func70 rfl (ec9 rfl (ec9 rfl X0)) rfl (Xbi x.tb ((rl.take i).foldl X42 ω).room la2 lc2 ((rl.take i).foldl X42 ω).l (by omega) r (by omega) (by omega) B _ J2 hM2.1 _ (hS.pick 1 rfl)) ?_)));rintro _ w ⟨rfl,J3,la3,lc3,hJ3,hR3,hS⟩;try dsimp only [List.eraseIdx] at hS
  refine .nil ?_;clear hH;have hH:∃ J9 R,Le J2 J9∧Sat B w J9 (blk x.xb (XC x da ((rl.take i).foldl X42 ω).D.length dc ((rl.take i).foldl X42 ω).now) 83::R):=⟨_,_,hJ3,(hS.pick 1 rfl)⟩
  refine ⟨fun _ _=>hH,?_⟩;refine .done (by kernel_rfl) (.region (.run 3 rfl ⟨⟨by omega,by omega⟩,trivial⟩ (.nil ?_)));refine ⟨(i+1,la3,lc3,J3),⟨rfl,rfl,rfl,trivial⟩,?_,by (try dsimp only); omega⟩;try dsimp only
  rw [Y12,hr,Y1k,Y34];exact ⟨by omega,hJ2.trans hJ3,⟨hR3,hM2.2.1.mono hJ3,hM2.2.2⟩,(hS.pick 1 rfl)⟩
 have hc8:=hb8; simp only [Y6] at hc8;refine .exit (X7n Tryz.results26 ?_);have hin:i=rl.length:=by omega
 subst hin;rw [Y13] at hM2 hS;exact ⟨_,rfl,rfl,J2,la2,lc2,da,dc,hJ2,hM2,hS⟩
structure WkP (i:Nat) (ω:Wd) (names:List (List UInt8)):Prop where
 ok:X3n ω
 nm:∀ t∈names,t.length≤60
 nl:names.length≤2*i
 dl:ω.D.length≤10*i
def SlW (B:World) (I:Im) (p:Wp) (ω:Wd) (n:Nat) (xs:List Value) (G:Prop) (As:List X7) (v:Value) (w:World):Prop:=∃ J ra rc,v=.slice ra n rc∧Le I J∧(G→n≤rc∧RS J ra 1 n xs)∧∃ a c ma mc,Sat B w J (blk p.wb (wdC p ω) 44::blk p.tb [I64 ω.room,.slice a ω.l.length c] 114::Vec 54 10 (.slice a ω.l.length c) ω.l.length (Xe ω.l)::blk p.mb [.slice ma ω.D.length mc] 111::X3i 104 (.slice ma ω.D.length mc) (ω.D.map fun d=>U64 (d:Nat))::As)
theorem Xke {lo:List Sv} {ω:Wd} {t cb:List UInt8}:(Xt lo ω t cb).1.1.url.length≤100:=by
 unfold Xt;split
 ·exact Yo _
 ·split
  ·exact Yo _
  ·rename_i h
   split
   ·exact Yo _
   ·split
    ·exact Yo _
    ·have hN:(Xiv lo ω t cb).2=true:=by
      have h9:noQ lo ω t cb=false:=by simpa using h
      unfold noQ at h9;simp only [Y15,Bool.not_eq_false'] at h9
      exact h9.2
     have hc:=Xoh (lo:=lo) hN;show (X4r lo (Xcs lo ω t).1.id cb).1.length≤100
     rw [hc.1]; exact hc.2.2.1
theorem Xpo (l:List Rec):(X4k l).length≤l.length:=by
 unfold X4k;rw [Y10]; exact Y2z _ _
set_option maxRecDepth 20000 in
set_option maxHeartbeats 1600000 in
theorem Xb4 (c:Cf) (a:Option Addr) (cap:Nat) (ua:Option Addr) (ucap:Nat) (la:Option Addr) (lc:Nat) (l:List Rec) (hll:l.length≤9223372036854775807) (oa:Option Addr) (oc:Nat) (ops:List Ob) (hol:ops.length≤9223372036854775807) (hfit:∀ o∈ops,o.fits) (B w:World) (I:Im) (hK:Known I) (hP:PreAt I) (hC:CfAt I c a cap ua ucap) (hR:RS I la 10 l.length (X12 X5 l)) (hO:ObsAt I oa ops) (As:List X7) (hS:Sat B w I As) :
  Cz 6 [.agg (Xl c a cap ua ucap).toArray,.slice la l.length lc,.slice oa ops.length oc] w fun v w'=>v=.bool true∧∃ J,Le I J∧Sat B w' J As:=by
 refine calls Tryz.func6 rfl Tryz.ntmps6 rfl (.seq (.region (.boxA (cs:=Xl c a cap ua ucap) hS (.of rfl) rfl ?_)));intro b3 w hS;refine .q 1 rfl (.nil (.seq (.region (.call Tryz.func8 rfl X0 rfl (Xfs B _ I hK hP _ hS) ?_))));rintro _ w ⟨rfl,hS⟩;refine .q 1 rfl (.nil (.seq (.region ?_)));refine .val (.lds (vs:=Xl c a cap ua ucap) (.of rfl) hS (k:=0) rfl Xrc Xjw rfl (fun j v hj=>by rw [Yd]; exact hj)) rfl ?_;refine .q 2 rfl (.call Tryz.func9 rfl (ec9 rfl (ec9 rfl (ec9 rfl X0))) rfl (Xkt c a cap ua ucap la lc l hll oa oc ops hol B _ I hC hR hO _ hS) ?_);rintro _ w ⟨rfl,hS⟩;refine .q 1 rfl (.nil (.seq (.seq (.q 2 rfl ?_))));refine .cond rfl (fun hb36=>?_) fun hb36=>?_
 ·have hc36:=hb36; simp only [Y6] at hc36;refine .seq (.q 2 rfl (.ret (X9 Tryz.results6 rfl ?_)));exact ⟨_,rfl,rfl,I,Le.refl _,hS.drop (k:=0) rfl⟩
 have hc36:=hb36; simp only [Y6] at hc36;refine .skip (.seq ?_);have hfw:=Xfv (show Xg8 c l ops=true by simpa using hb36);have hfw1:=hfw.1;have hfw2:=hfw.2.1;refine .region ?_;refine .val (.lds (vs:=Xl c a cap ua ucap) (.of rfl) hS (k:=0) rfl Xrc Xjw rfl (fun j v hj=>by rw [Yd]; exact hj)) rfl ?_;refine .q 1 rfl (.call Tryz.func10 rfl (ec9 rfl (ec9 rfl X0)) rfl (Xbn c a cap ua ucap (Xa4 hC hfw1) la lc l hll hfw2 B _ I (hK) (hP) (hC) (hR) _ hS) ?_);rintro _ w ⟨J,pv,hJ,rfl,hcs⟩;rcases hcs with ⟨hne,rfl,hS⟩ | ⟨hz,p,D,hD,hlo,hus,hps,rfl,hI,hS⟩
 ·refine .val (.ao rfl) rfl (.nil (.seq (.region ?_)));refine .val (.lds (vs:=Xl c a cap ua ucap) (.of rfl) hS (k:=0) rfl Xrc Xjw rfl (fun j v hj=>by rw [Yd]; exact hj)) rfl ?_;have hc:=Xa4 hC hfw1;refine .call Tryz.func25 rfl (ec9 rfl X0) rfl (X9i c hc a cap ua ucap B _ J (hC.mono hJ) _ hS) ?_;rintro v w hn;obtain ⟨_,rfl,hS⟩:=hn.resolve_right (fun h=>hne h.1);refine .q 5 rfl (.nil (.seq (.seq (.t 1 rfl (.val (.eqp (.of rfl) (.of rfl) Qu37) rfl (.q 1 rfl (.gm rfl rfl rfl rfl (.gval rfl rfl (fun hg1=>(.eqp (.gd hg1 rfl) (.of rfl) Qu77)) rfl (.val (.po rfl rfl rfl) rfl (.nil (.condT (rfl) (.seq (.t 2 rfl (.gm rfl rfl rfl rfl (.gval rfl rfl (fun hg1=>(.eqp (.gd hg1 rfl) (.of rfl) Qu37)) rfl (.val (.pa rfl rfl rfl) rfl (.q 1 rfl (.gm rfl rfl rfl rfl (.gval rfl rfl (fun hg1=>(.eqp (.gd hg1 rfl) (.of rfl) Qu77)) rfl (.val (.pa rfl rfl rfl) rfl (.q 1 rfl (.nil (.ret (X9 Tryz.results6 rfl ?_))))))))))))))))))))))));exact ⟨_,rfl,rfl,J,hJ,hS.drop (k:=0) rfl⟩
 refine .val (.ao rfl) rfl (.nil (.seq (.region ?_)));refine .val (.lds (vs:=Xl c a cap ua ucap) (.of rfl) hS (k:=1) rfl Xrc Xjw rfl (fun j v hj=>by rw [Yd]; exact hj)) rfl ?_;have hc:=Xa4 hC hfw1;refine .call Tryz.func25 rfl (ec9 rfl X0) rfl (X9i c hc a cap ua ucap B _ J (hC.mono hJ) _ hS) ?_;rintro v w hn;obtain ⟨_,xb,tb,rfl,hS⟩:=hn.resolve_left (fun h=>h.1 hz);obtain ⟨x,hx9⟩:∃ x:Xp,x=⟨xb,tb,c,a,cap,ua,ucap,D⟩:=⟨_,rfl⟩
 have hX:XpOk J x p.lo p.us p.ps:=by rw [hx9]; exact ⟨hC.mono hJ,hc,hz,hD,hlo,hus,hps⟩
 rw [show ptr xb 0=ptr x.xb 0 by rw [hx9]];replace hS:Sat B w J (blk x.xb (XC x none (w0 c).D.length 0 (w0 c).now) 83::blk x.tb [I64 (w0 c).room,.slice none (w0 c).l.length 0] 90::wdA p (X5x c l)::blk b3 (Xl c a cap ua ucap) 29::As):=by rw [hx9]; exact hS
 have hM0:RwM J none none 0 (w0 c):=⟨RS.nil _ _,RS.nil _ _,Yu _⟩
 refine .q 5 rfl (.nil (.seq (.seq (.t 1 rfl (.val (.eqp (.of rfl) (.of rfl) Qu37) rfl (.q 1 rfl (.gm rfl rfl rfl rfl (.gval rfl rfl (fun hg1=>(.eqp (.gd hg1 rfl) (.of rfl) Qu77)) rfl (.val (.po rfl rfl rfl) rfl (.nil (.condF (rfl) (.skip (.seq (.t 2 rfl (.call Tryz.func26 rfl (ec9 rfl (ec9 rfl X0)) rfl (Xee la lc l hll hfw2 x (w0 c) (Xte c) none 0 none 0 B _ J hX (hR.mono hJ) hM0 _ ((hS.pick 1 rfl).pick 1 rfl)) ?_)))))))))))))));rintro _ w ⟨rfl,J2,xa,xc,da,dc,hJ2,hM2,hS⟩;try dsimp only [List.eraseIdx] at hS
 refine .nil (.seq (.q 1 rfl (.seq (.seq (.q 1 rfl (.block ?_))))));replace hS:=(((hS.vecNil 9 1).pick 3 rfl).pick 1 rfl)
 try dsimp only [List.eraseIdx] at hS
 refine .loop (σ:=(Wd×List (List UInt8))×Nat×Value×Option Addr×Nat×Option Addr×Nat×Im) (fun ⟨⟨ω,names⟩,i,dv,la,lc,da,dc,J2⟩=>[(2,.slice oa ops.length oc),(3,ptr b3 0),(7,.bool true),(9,ptr p.wb 0),(10,ptr x.xb 0),(12,dv),(13,I64 (i:Nat))]) (fun ⟨⟨ω,names⟩,i,dv,la,lc,da,dc,J2⟩ w=>i≤ops.length∧Le J J2∧WkP i ω names∧RwM J2 la da dc ω∧Sat B w J2 (Vec 9 1 dv names.length (names.map S)::wdA p ω::blk x.xb (XC x da ω.D.length dc ω.now) 83::blk x.tb [I64 ω.room,.slice la ω.l.length lc] 90::blk b3 (Xl c a cap ua ucap) 29::As)) (fun ⟨⟨ω,names⟩,i,dv,la,lc,da,dc,J2⟩=>ops.length - i) ((X5x c l,[]),0,.slice none 0 0,xa,xc,da,dc,J2) ⟨rfl,rfl,rfl,rfl,rfl,rfl,rfl,trivial⟩ ⟨Yo _,hJ2,⟨Xic c l,fun t h=>by simp at h,Yo _,by rw [Xt3]; exact Yo _⟩,hM2,hS⟩ ?_;rintro ⟨⟨ω,names⟩,i,dv,la,lc,da,dc,J2⟩ w ⟨hi,hJ2,has,hM,hS⟩;refine .seq (.seq (.region (.run 4 rfl ⟨⟨_,Xrh⟩,trivial⟩ (.nil ?_))));refine .cond rfl (fun hb67=>?_) fun hb67=>?_
 ·have hc67:=hb67; simp only [Y6] at hc67;refine .skip (.seq (.block (.seq ?_)));obtain ⟨o,ho⟩:∃ o,ops[i]?=some o:=⟨_,Y4 (by omega)⟩
  obtain ⟨pp,cs,hp9,hq,da9,dc9,rfl,hdc,hdm,hd⟩:=(hO.mono (hJ.trans hJ2)).at i o ho;subst hp9;unfold Xcc at hq;have hoo:=hfw.2.2.2.2 o (Yi ho);have hof:=hfit o (Yi ho);have hω:=has.ok;have hlen:=hω.len;have hnl:=has.nl;have hdl:=has.dl;have htn:(Xq o names).length≤60:=Xjy hoo.1 has.nm;have hI2:=hI.mono hJ2;have hX2:=hX.mono hJ2;have hK2:=hK.mono (hJ.trans hJ2);obtain ⟨va,vc,hdv,hvc,_⟩:=hS.vecSlice (k:=0) rfl;subst hdv;refine .t 2 rfl (.val (.ii rfl rfl (by omega) (by omega) Xrh Xti) rfl (.val (.ldsI (.of rfl) hS hq Tryz.isAgg35 Xti rfl (fun _ _ h=>h)) rfl (.allocA (cs:=[_,_,_,_,_,_]) hS Tryz.zeroValue35 rfl ?_)));intro b14 w hS;refine .so hS (k:=0) rfl rfl rfl rfl Xti rfl (by simp) ?_;intro w hS;try simp only [Yh,Ye,Y9,Y7,Yg,Yn,Yd] at hS
  refine .nil (.seq (.region ?_));refine .val (.ldsW (cs:=[_,_,_,_,_,_]) (.of rfl) hS (k:=0) rfl Tryz.isAgg35 Xti rfl) rfl (.q 1 rfl ?_);refine .call Tryz.func22 rfl (ec9 rfl (ec9 rfl X0)) rfl (Xkm o da9 dc9 va vc names (by omega) B _ J2 _ (fun w h=>Xih (cells:=Xa3) (s:=1) (fun _=>rfl) h (k:=1) (by rw [rowsT]; rfl)) hS) ?_;rintro _ w ⟨rfl,hS⟩;refine .q 1 rfl (.nil (.seq (.q 3 rfl (.seq (.q 3 rfl ?_)))));refine .cutS (σ:=Im×Option Addr×Nat×Option Addr×Nat×Wd×List (List UInt8)×Value×List UInt8×List UInt8×Nat) (fun ⟨J3,la2,lc2,da2,dc2,ω2,ns,nv,ra,rm,re⟩=>[(2,.slice (some pp) ops.length oc),(3,ptr b3 0),(7,.bool true),(9,ptr p.wb 0),(10,ptr x.xb 0),(12,nv),(13,I64 (i:Nat)),(16,S ra),(17,S rm),(18,I64 (re:Nat)),(19,S ra),(20,S rm),(21,I64 (re:Nat))]) (fun ⟨J3,la2,lc2,da2,dc2,ω2,ns,nv,ra,rm,re⟩ w=>Le J2 J3∧RwM J3 la2 da2 dc2 ω2∧WkP (i+1) ω2 ns∧Sat B w J3 (Vec 9 1 nv ns.length (ns.map S)::wdA p ω2::blk x.xb (XC x da2 ω2.D.length dc2 ω2.now) 83::blk x.tb [I64 ω2.room,.slice la2 ω2.l.length lc2] 90::blk b3 (Xl c a cap ua ucap) 29::As)) ?_ ?_
  ·refine .seq (.region ?_);refine .val (.fo 0 rfl Xcn rfl rfl Qs3 rfl) rfl (.val (.lo rfl hS (k:=0) rfl Qg3 rfl) rfl (.nil (.block (.seq (.q 2 rfl ?_)))));refine .cond rfl (fun hb79=>?_) fun hb79=>?_
   ·have hc79:=hb79; simp only [Y6] at hc79;refine .seq ?_;replace hS:=(hS.pick 2 rfl)
    try dsimp only [List.eraseIdx] at hS
    obtain ⟨⟨a5,c5,ma5,mc5⟩,hS⟩:=Sat.unbox hS;replace hS:Sat B _ _ (blk p.wb (wdC p ω) 44::blk p.tb [I64 ω.room,.slice a5 ω.l.length c5] 114::Vec 54 10 (.slice a5 ω.l.length c5) ω.l.length (Xe ω.l)::blk p.mb [.slice ma5 ω.D.length mc5] 111::X3i 104 (.slice ma5 ω.D.length mc5) (ω.D.map fun d=>U64 (d:Nat))::_):=hS;refine .drawn (fun w=>∃ R,Sat B w J2 (blk b14 [I64 o.act,I64 o.n,I64 o.k,S o.a,S o.b,.slice da9 o.d.length dc9] 35::blk p.wb (wdC p ω) 44::R)) (fun j=>!([].contains j)) (by kernel_rfl) ?_;replace hS:=hS.drew; generalize w.drew=w at hS ⊢;have hH:∃ R,Sat B w J2 (blk b14 [I64 o.act,I64 o.n,I64 o.k,S o.a,S o.b,.slice da9 o.d.length dc9] 35::blk p.wb (wdC p ω) 44::R):=⟨_,((hS.pick 0 rfl).pick 5 rfl)⟩
    refine .tp (i:=0) rfl (by kernel_rfl) (fun w=>(.mo rfl)) rfl (.tp (i:=1) rfl (by kernel_rfl) (fun w=>(.no rfl)) rfl ?_);refine .tp (i:=2) rfl (by kernel_rfl) (fun w=>(.fo 1 rfl X69 rfl rfl Qs40 rfl)) rfl (.tk (i:=3) rfl (by kernel_rfl) hH (fun w ⟨R,hS⟩=>((.lo rfl hS (k:=1) rfl Qg40 rfl))) rfl (.tp (i:=4) rfl (by kernel_rfl) (fun w=>(.fo 5 rfl Xcn rfl rfl Xb8 rfl)) rfl (.tk (i:=5) rfl (by kernel_rfl) hH (fun w ⟨R,hS⟩=>((.lo rfl hS (k:=0) rfl Xjx rfl))) rfl (.b1 6 (by kernel_rfl) rfl (.call Tryz.func11 rfl (ec9 rfl (ec9 rfl X0)) rfl (Xhi p.mb ma5 mc5 ω.D (by omega) da9 dc9 o.d (by omega) B _ J2 hd _ ((hS.pick 4 rfl).pick 4 rfl)) ?_)))));rintro _ w ⟨rfl,ma6,mc6,hS⟩;try dsimp only [List.eraseIdx] at hS
    refine .nil ?_;clear hH;have hH:∃ R,Sat B w J2 (blk b14 [I64 o.act,I64 o.n,I64 o.k,S o.a,S o.b,.slice da9 o.d.length dc9] 35::blk p.wb (wdC p ω) 44::R):=⟨_,((hS.pick 2 rfl).pick 5 rfl)⟩
    refine ⟨fun _ _=>hH,?_⟩;refine .done (by kernel_rfl) ?_;replace hS:=Sat.box (T:=wdT p (Xet ω o.d)) (a5,c5,ma6,mc6) (((((hS.pick 1 rfl).pick 1 rfl).pick 4 rfl).pick 4 rfl).pick 4 rfl);try dsimp only [List.eraseIdx] at hS
    refine .drawn (fun w=>∃ R,Sat B w J2 (blk b14 [I64 o.act,I64 o.n,I64 o.k,S o.a,S o.b,.slice da9 o.d.length dc9] 35::blk x.xb (XC x da ω.D.length dc ω.now) 83::R)) (fun j=>!([12].contains j)) (by kernel_rfl) ?_;replace hS:=hS.drew; generalize w.drew=w at hS ⊢;have hH:∃ R,Sat B w J2 (blk b14 [I64 o.act,I64 o.n,I64 o.k,S o.a,S o.b,.slice da9 o.d.length dc9] 35::blk x.xb (XC x da ω.D.length dc ω.now) 83::R):=⟨_,((hS.pick 3 rfl).pick 2 rfl)⟩
    refine .tp (i:=0) rfl (by kernel_rfl) (fun w=>(.mo rfl)) rfl (.tp (i:=2) rfl (by kernel_rfl) (fun w=>(.mo rfl)) rfl (.tp (i:=3) rfl (by kernel_rfl) (fun w=>(.no rfl)) rfl ?_));refine .tp (i:=4) rfl (by kernel_rfl) (fun w=>(.fo 29 rfl X4m rfl rfl Xb8 rfl)) rfl (.tk (i:=5) rfl (by kernel_rfl) hH (fun w ⟨R,hS⟩=>((.lo rfl hS (k:=1) rfl Xjx rfl))) rfl (.tp (i:=7) rfl (by kernel_rfl) (fun w=>(.fo 5 rfl Xcn rfl rfl Xb8 rfl)) rfl (.tk (i:=8) rfl (by kernel_rfl) hH (fun w ⟨R,hS⟩=>((.lo rfl hS (k:=0) rfl Xjx rfl))) rfl (.b1 1 (by kernel_rfl) rfl (.buildSlice (cs:=[]) hS X4 Xfn Xha Xs3 rfl rfl rfl rfl ?_)))));intro b89 w hS;refine .nil ?_;clear hH;have hH:∃ R,Sat B w J2 (blk b14 [I64 o.act,I64 o.n,I64 o.k,S o.a,S o.b,.slice da9 o.d.length dc9] 35::blk x.xb (XC x da ω.D.length dc ω.now) 83::R):=⟨_,((hS.pick 4 rfl).pick 3 rfl)⟩
    refine ⟨fun _ _=>hH,?_⟩;refine .b1 6 (by kernel_rfl) rfl ?_;replace hS:=hS.vecOf (k:=0) (E:=104) (size:=1) (n:=0) rfl rfl (by decide);try dsimp only [List.set] at hS
    refine .appendF (size:=1) (bytes:=8) hS (.of rfl) (.of rfl) hM.2.1 (k:=0) rfl Xfn (i:=Tryz.t104) (by kernel_rfl) rfl rfl rfl rfl (Xgf _) ⟨by omega,by unfold maxLen; omega⟩ rfl ?_;intro v88 w hS;try dsimp only [List.set] at hS
    rw [Yd,Ye] at hS;refine .nil ?_;clear hH;have hH:∃ R,Sat B w J2 (blk b14 [I64 o.act,I64 o.n,I64 o.k,S o.a,S o.b,.slice da9 o.d.length dc9] 35::blk x.xb (XC x da ω.D.length dc ω.now) 83::R):=⟨_,((hS.pick 4 rfl).pick 3 rfl)⟩
    refine ⟨fun _ _=>hH,?_⟩;refine .b1 9 (by kernel_rfl) rfl (.appendF (size:=1) (bytes:=8) hS (.of rfl) (.of rfl) hd (k:=0) rfl Xfn (i:=Tryz.t104) (by kernel_rfl) rfl rfl rfl rfl (Xgf _) ⟨by omega,by unfold maxLen; omega⟩ rfl ?_);intro v91 w hS;try dsimp only [List.set] at hS
    obtain ⟨a91,c91,hv91,hcap91,_⟩:=hS.vecSlice (k:=0) rfl;subst hv91;refine .nil ?_;clear hH;have hH:∃ R,Sat B w J2 (blk b14 [I64 o.act,I64 o.n,I64 o.k,S o.a,S o.b,.slice da9 o.d.length dc9] 35::blk x.xb (XC x da ω.D.length dc ω.now) 83::R):=⟨_,((hS.pick 4 rfl).pick 3 rfl)⟩
    refine ⟨fun _ _=>hH,?_⟩;refine .tp (i:=10) rfl (by kernel_rfl) (fun w=>(.no rfl)) rfl (.tp (i:=11) rfl (by kernel_rfl) (fun w=>(.fo 29 rfl X4m rfl rfl Xb8 rfl)) rfl (.b1 12 (by kernel_rfl) rfl (.s1 hS (k:=4) rfl rfl rfl rfl Xb8 (by simp) ?_)));intro w hS;refine .nil ?_;refine And.intro (by intro h; cases h) ?_;refine .done (by kernel_rfl) ?_;obtain ⟨J4,hJ4,hR4,hS⟩:=hS.freezeVec (k:=0) rfl;try dsimp only [List.eraseIdx] at hS
    exact ⟨(J4,la,lc,a91,c91,(Xet ω o.d),names,.slice va names.length vc,[],[],0),⟨rfl,rfl,rfl,rfl,rfl,rfl,rfl,rfl,rfl,rfl,rfl,rfl,rfl,trivial⟩,hJ4,⟨hM.1.mono hJ4,by show RS J4 a91 1 (ω.D ++ o.d).length ((ω.D ++ o.d).map fun d=>U64 (d:Nat)); rw [Y0,Yv]; exact hR4,by show (ω.D ++ o.d).length≤c91; rw [Y0]; exact hcap91⟩,⟨Xi0 hω hof.d,has.nm,by omega,by show (ω.D ++ o.d).length≤_; rw [Y0]; omega⟩,(by show Sat B w J4 (_::wdA p (Xet ω o.d)::blk x.xb (XC x a91 (ω.D ++ o.d).length c91 (Xet ω o.d).now) 83::blk x.tb [I64 (Xet ω o.d).room,.slice la (Xet ω o.d).l.length lc] 90::_); rw [Y0]; exact ((((((hS.pick 5 rfl).pick 5 rfl).pick 5 rfl).pick 3 rfl).pick 5 rfl).drop (k:=5) rfl))⟩
   have hc79:=hb79; simp only [Y6] at hc79;refine .seq (.q 2 rfl ?_);refine .cond rfl (fun hb100=>?_) fun hb100=>?_
   ·have hc100:=hb100; simp only [Y6] at hc100;refine .seq (.t 1 rfl ?_);refine .val (.fo 1 rfl Xcn rfl rfl Qs3 rfl) rfl (.val (.lo rfl hS (k:=0) rfl Qg3 rfl) rfl (.call Tryz.func18 rfl (ec9 rfl (ec9 rfl X0)) rfl (Xqq p ω o.n hω B _ J2 _ (hS.pick 2 rfl)) ?_));rintro _ w ⟨rfl,hS⟩;try dsimp only [List.eraseIdx] at hS
    refine .nil (.t 1 rfl ?_);refine .val (.fo 1 rfl Xcn rfl rfl Qs3 rfl) rfl (.val (.lo rfl hS (k:=1) rfl Qg3 rfl) rfl (.call Tryz.func27 rfl (ec9 rfl (ec9 rfl X0)) rfl (Xg4 o.n x ω hω la lc da dc B _ J2 hX2 hM _ ((hS.pick 4 rfl).pick 4 rfl)) ?_));rintro _ w ⟨rfl,hS⟩;try dsimp only [List.eraseIdx] at hS
    refine .nil ?_;exact ⟨(J2,la,lc,da,dc,(Xrf ω o.n),names,.slice va names.length vc,[],[],0),⟨rfl,rfl,rfl,rfl,rfl,rfl,rfl,rfl,rfl,rfl,rfl,rfl,rfl,trivial⟩,Le.refl _,hM,⟨Xta hω _,has.nm,by omega,by show ω.D.length≤_; omega⟩,((((((hS.pick 5 rfl).pick 2 rfl).pick 2 rfl).pick 3 rfl).pick 5 rfl).drop (k:=5) rfl)⟩
   have hc100:=hb100; simp only [Y6] at hc100;refine .seq (.q 2 rfl ?_);refine .cond rfl (fun hb110=>?_) fun hb110=>?_
   ·have hc110:=hb110; simp only [Y6] at hc110;refine .seq (.t 2 rfl ?_);refine .val (.fo 4 rfl Xcn rfl rfl Qs9 rfl) rfl (.val (.lo rfl hS (k:=0) rfl Qg9 rfl) rfl (.call Qf13 rfl (ec9 rfl (ec9 rfl (ec9 rfl X0))) rfl (Xcd (Xq o names) o.b (by omega) (by omega) p ω hω B _ J2 hI2 _ (hS.pick 2 rfl)) ?_));rintro _ w ⟨rfl,hS⟩;try dsimp only [List.eraseIdx] at hS
    refine .q 3 rfl (.allocA (cs:=[_,_,_]) hS Xrl rfl ?_);intro b22 w hS;refine .so hS (k:=0) rfl rfl rfl rfl X4n rfl (by simp) ?_;intro w hS;try simp only [Yh,Ye,Y9,Y7,Yg,Yn,Yd] at hS
    refine .q 1 rfl (.nil (.seq (.t 2 rfl ?_)));refine .val (.fo 4 rfl Xcn rfl rfl Qs9 rfl) rfl (.val (.lo rfl hS (k:=2) rfl Qg9 rfl) rfl (.call Tryz.func28 rfl (ec9 rfl (ec9 rfl (ec9 rfl X0))) rfl (Xdj (Xq o names) o.b (by omega) (by omega) x ω hω la lc da dc B _ J2 hX2 hM _ ((hS.pick 5 rfl).pick 5 rfl)) ?_));rintro _ w ⟨rfl,J3,la2,lc2,da2,dc2,hJ3,hM3,hS⟩;try dsimp only [List.eraseIdx] at hS
    refine .q 3 rfl (.allocA (cs:=[_,_,_]) hS Xrl rfl ?_);intro b24 w hS;refine .so hS (k:=0) rfl rfl rfl rfl X4n rfl (by simp) ?_;intro w hS;try simp only [Yh,Ye,Y9,Y7,Yg,Yn,Yd] at hS
    refine .q 1 rfl (.nil (.seq ?_));have hshc:=callW_short (lo:=p.lo) (ω:=ω) (t:=(Xq o names)) (cb:=o.b);have hurl:=Xke (lo:=p.lo) (ω:=ω) (t:=(Xq o names)) (cb:=o.b);refine .region (.val (.ldsW (cs:=[_,_,_]) (.of rfl) hS (k:=3) rfl Xc6 X4n rfl) rfl (.call Tryz.func29 rfl (ec9 rfl X0) rfl (Xj1 (Xt p.lo ω (Xq o names) o.b).1.1.url (Xt p.lo ω (Xq o names) o.b).1.1.pgt (Xt p.lo ω (Xq o names) o.b).1.1.iou (by omega) (by omega) (by omega) B _ J3 (hK2.mono hJ3) _ hS) ?_));rintro _ w ⟨rfl,hS⟩;refine .q 5 rfl (.nil (.seq (.region ?_)));refine .val (.ldsW (cs:=[_,_,_]) (.of rfl) hS (k:=0) rfl Xc6 X4n rfl) rfl (.call Tryz.func30 rfl (ec9 rfl X0) rfl (Xd4 (Xt p.lo ω (Xq o names) o.b).1.1.url (Xt p.lo ω (Xq o names) o.b).1.1.pgt (Xt p.lo ω (Xq o names) o.b).1.1.iou (by omega) (by omega) (by omega) B _ J3 _ hS) ?_);rintro _ w ⟨rfl,hS⟩;refine .q 5 rfl (.nil (.seq (.seq (.region ?_))));refine .val (.ldsW (cs:=[_,_,_]) (.of rfl) hS (k:=3) rfl Xc6 X4n rfl) rfl (.val (.ldsW (cs:=[_,_,_]) (.of rfl) hS (k:=0) rfl Xc6 X4n rfl) rfl (.val (Ex.neCl (r:=(Xt p.lo ω (Xq o names) o.b).1.1) (s:=(Xt p.lo ω (Xq o names) o.b).1.1) (.of rfl) (.of rfl)) rfl (.q 1 rfl (.gm rfl rfl rfl rfl (.gm rfl rfl rfl rfl (.gval rfl rfl (fun hg1=>(.neq (.gd hg1 rfl) (.gd hg1 rfl))) rfl (.val (.po rfl rfl rfl) rfl (.q 1 rfl (.gm rfl rfl rfl rfl (.gm rfl rfl rfl rfl (.gval rfl rfl (fun hg1=>(.nes (.gd hg1 rfl) (.gd hg1 rfl))) rfl (.val (.po rfl rfl rfl) rfl (.q 1 rfl (.gm rfl rfl rfl rfl (.gm rfl rfl rfl rfl (.gval rfl rfl (fun hg1=>(.neq (.gd hg1 rfl) (.gd hg1 rfl))) rfl (.val (.po rfl rfl rfl) rfl (.nil (.condF (congrArg (fun b=>some (Value.bool b)) (by simp)) (.skip (.seq (.region ?_))))))))))))))))))))));refine .val (.fo 1 rfl Xdw rfl rfl Qs9 rfl) rfl (.val (.lo rfl hS (k:=3) rfl Qg9 rfl) rfl (.q 1 rfl (.nil ?_)));refine .cond rfl (fun hb158=>?_) fun hb158=>?_
    ·have hc158:=hb158; simp only [Y6] at hc158;refine .t 1 rfl (.val (.fo 2 rfl Xdw rfl rfl Qs9 rfl) rfl (.val (.lo rfl hS (k:=3) rfl Qg9 rfl) rfl (.val (.fo 1 rfl Xdw rfl rfl Qs9 rfl) rfl (.val (.lo rfl hS (k:=3) rfl Qg9 rfl) rfl (.buildSlice (cs:=[_,_]) hS (pc9 rfl (pc9 rfl X4)) X19 Qs9 Qz9 rfl rfl rfl rfl ?_)))));intro b164 w hS;refine .append (size:=1) (bytes:=16) hS (.of rfl) (.of rfl) (k:=6) rfl X19 X1m rfl rfl rfl rfl rfl rfl rfl ⟨by omega,by unfold maxLen; omega⟩ rfl ?_;intro v165 w hS;obtain ⟨a165,c165,rfl,hcap165,_⟩:=hS.vecSlice (k:=6) (v:=v165) rfl;refine .q 1 rfl (.nil ?_);exact ⟨(J3,la2,lc2,da2,dc2,(Xt p.lo ω (Xq o names) o.b).2,(names ++ [(Xt p.lo ω (Xq o names) o.b).1.1.iou,(Xt p.lo ω (Xq o names) o.b).1.1.pgt]),.slice a165 (names.length+2) c165,[],[],0),⟨rfl,rfl,rfl,rfl,rfl,rfl,rfl,rfl,rfl,rfl,rfl,rfl,rfl,trivial⟩,hJ3,hM3,⟨X2j hω _ _,Xo0 has.nm callW_short.2 callW_short.1,by rw [Y0]; show _+2≤_; omega,Y21 Xmt (by omega)⟩,(by rw [Yv,show (names ++ [(Xt p.lo ω (Xq o names) o.b).1.1.iou,(Xt p.lo ω (Xq o names) o.b).1.1.pgt]).length=names.length+2 from Y0]; exact ((((((((hS.pick 7 rfl).pick 3 rfl).pick 3 rfl).pick 5 rfl).pick 7 rfl).drop (k:=5) rfl).drop (k:=5) rfl).drop (k:=5) rfl))⟩
    have hc158:=hb158; simp only [Y6] at hc158;refine .skip ?_;exact ⟨(J3,la2,lc2,da2,dc2,(Xt p.lo ω (Xq o names) o.b).2,names,.slice va names.length vc,[],[],0),⟨rfl,rfl,rfl,rfl,rfl,rfl,rfl,rfl,rfl,rfl,rfl,rfl,rfl,trivial⟩,hJ3,hM3,⟨X2j hω _ _,has.nm,by omega,Y21 Xmt (by omega)⟩,((((((((hS.pick 7 rfl).pick 3 rfl).pick 3 rfl).pick 5 rfl).pick 7 rfl).drop (k:=5) rfl).drop (k:=5) rfl).drop (k:=5) rfl)⟩
   have hc110:=hb110; simp only [Y6] at hc110;refine .seq (.q 2 rfl ?_);refine .cond rfl (fun hb166=>?_) fun hb166=>?_
   ·have hc166:=hb166; simp only [Y6] at hc166;refine .seq (.t 2 rfl ?_);refine .val (.fo 1 rfl Xcn rfl rfl Qs3 rfl) rfl (.val (.lo rfl hS (k:=0) rfl Qg3 rfl) rfl (.call Qf23 rfl (ec9 rfl (ec9 rfl (ec9 rfl X0))) rfl (X80 (Xq o names) o.n p ω hω B _ J2 hI2 _ (hS.pick 2 rfl)) ?_));rintro _ w ⟨rfl,hS⟩;try dsimp only [List.eraseIdx] at hS
    refine .q 5 rfl (.nil (.t 2 rfl ?_));refine .val (.fo 1 rfl Xcn rfl rfl Qs3 rfl) rfl (.val (.lo rfl hS (k:=1) rfl Qg3 rfl) rfl (.call Tryz.func31 rfl (ec9 rfl (ec9 rfl (ec9 rfl X0))) rfl (X9q (Xq o names) o.n x ω hω la lc da dc B _ J2 hX2 hM _ ((hS.pick 4 rfl).pick 4 rfl)) ?_));rintro _ w ⟨rfl,J3,la2,lc2,da2,dc2,hJ3,hM3,hS⟩;try dsimp only [List.eraseIdx] at hS
    refine .q 5 rfl (.nil ?_);exact ⟨(J3,la2,lc2,da2,dc2,(Xo ω (Xq o names) o.n).2,names,.slice va names.length vc,(Xo ω (Xq o names) o.n).1.1,[],(Xo ω (Xq o names) o.n).1.2),⟨rfl,rfl,rfl,rfl,rfl,rfl,rfl,rfl,rfl,rfl,rfl,rfl,rfl,trivial⟩,hJ3,hM3,⟨X2v hω _ _,has.nm,by omega,by rw [Xm7]; omega⟩,((((((hS.pick 5 rfl).pick 2 rfl).pick 2 rfl).pick 3 rfl).pick 5 rfl).drop (k:=5) rfl)⟩
   have hc166:=hb166; simp only [Y6] at hc166;refine .seq (.q 2 rfl ?_);refine .cond rfl (fun hb184=>?_) fun hb184=>?_
   ·have hc184:=hb184; simp only [Y6] at hc184;refine .seq (.t 2 rfl ?_);refine .val (.fo 4 rfl Xcn rfl rfl Qs9 rfl) rfl (.val (.lo rfl hS (k:=0) rfl Qg9 rfl) rfl (.call Qf20 rfl (ec9 rfl (ec9 rfl (ec9 rfl X0))) rfl (X7b (Xq o names) o.b (by omega) (by omega) p ω hω B _ J2 hI2 _ (hS.pick 2 rfl)) ?_));rintro _ w ⟨rfl,hS⟩;try dsimp only [List.eraseIdx] at hS
    refine .q 7 rfl (.nil (.t 2 rfl ?_));refine .val (.fo 4 rfl Xcn rfl rfl Qs9 rfl) rfl (.val (.lo rfl hS (k:=1) rfl Qg9 rfl) rfl (.call Tryz.func32 rfl (ec9 rfl (ec9 rfl (ec9 rfl X0))) rfl (Xe5 (Xq o names) o.b (by omega) (by omega) x ω hω la lc da dc B _ J2 hX2 hM _ ((hS.pick 4 rfl).pick 4 rfl)) ?_));rintro _ w ⟨rfl,J3,la2,lc2,da2,dc2,hJ3,hM3,hS⟩;try dsimp only [List.eraseIdx] at hS
    refine .q 7 rfl (.nil ?_);exact ⟨(J3,la2,lc2,da2,dc2,(Xn p.lo p.ps ω (Xq o names) o.b).2,names,.slice va names.length vc,(Xn p.lo p.ps ω (Xq o names) o.b).1.1.1,(Xn p.lo p.ps ω (Xq o names) o.b).1.1.2,(Xn p.lo p.ps ω (Xq o names) o.b).1.2),⟨rfl,rfl,rfl,rfl,rfl,rfl,rfl,rfl,rfl,rfl,rfl,rfl,rfl,trivial⟩,hJ3,hM3,⟨X22 hω _ _,has.nm,by omega,Y21 Xo8 (by omega)⟩,((((((hS.pick 5 rfl).pick 2 rfl).pick 2 rfl).pick 3 rfl).pick 5 rfl).drop (k:=5) rfl)⟩
   have hc184:=hb184; simp only [Y6] at hc184;refine .seq (.q 2 rfl ?_);refine .cond rfl (fun hb204=>?_) fun hb204=>?_
   ·have hc204:=hb204; simp only [Y6] at hc204;refine .seq ?_;replace hS:=(hS.pick 2 rfl)
    try dsimp only [List.eraseIdx] at hS
    obtain ⟨⟨a5,c5,ma5,mc5⟩,hS⟩:=Sat.unbox hS;replace hS:Sat B _ _ (blk p.wb (wdC p ω) 44::blk p.tb [I64 ω.room,.slice a5 ω.l.length c5] 114::Vec 54 10 (.slice a5 ω.l.length c5) ω.l.length (Xe ω.l)::blk p.mb [.slice ma5 ω.D.length mc5] 111::X3i 104 (.slice ma5 ω.D.length mc5) (ω.D.map fun d=>U64 (d:Nat))::_):=hS;refine .t 2 rfl (.val (.fo 0 rfl X69 rfl rfl Xfo rfl) rfl (.val (.lo rfl hS (k:=0) rfl Xdt rfl) rfl (.q 1 rfl (.call Qf33 rfl (ec9 rfl (ec9 rfl X0)) rfl (X92 p.tb ω.room a5 c5 ω.l (by omega) hω.wf (Xq o names) B _ J2 _ ((hS.pick 2 rfl).pick 2 rfl)) ?_))));rintro _ w ⟨J3,ga,gc,rfl,hJ3,hgc,hRS,a9,c9,hS⟩;try dsimp only [List.eraseIdx] at hS
    replace hS:=hS.weaken hJ3;clear hRS hJ3 J3;refine .nil ?_;replace hS:=Sat.box (T:=wdT p (X5u ω (Xq o names))) (a9,c9,ma5,mc5) (((((hS.pick 4 rfl).pick 4 rfl).pick 3 rfl).pick 3 rfl).pick 4 rfl);try dsimp only [List.eraseIdx] at hS
    refine .t 2 rfl (.val (.fo 28 rfl X4m rfl rfl Xdv rfl) rfl (.val (.lo rfl hS (k:=3) rfl Xds rfl) rfl (.q 1 rfl (.call Qf34 rfl (ec9 rfl (ec9 rfl X0)) rfl (X43 x.tb ω.room la lc ω.l (by omega) hω.wf (Xq o names) B _ J2 hM.1 _ (hS.pick 4 rfl)) ?_))));rintro v9 w ⟨J3,la2,lc2,hJ3,hR3,hS⟩;try dsimp only [List.eraseIdx] at hS
    refine .nil ?_;exact ⟨(J3,la2,lc2,da,dc,(X5u ω (Xq o names)),names,.slice va names.length vc,[],[],0),⟨rfl,rfl,rfl,rfl,rfl,rfl,rfl,rfl,rfl,rfl,rfl,rfl,rfl,trivial⟩,hJ3,⟨hR3,hM.2.1.mono hJ3,hM.2.2⟩,⟨Xcg hω _,has.nm,by omega,by show ω.D.length≤_; omega⟩,((((((hS.pick 5 rfl).pick 1 rfl).pick 5 rfl).pick 3 rfl).pick 5 rfl).drop (k:=5) rfl)⟩
   have hc204:=hb204; simp only [Y6] at hc204;refine .skip ?_;exact ⟨(J2,la,lc,da,dc,ω,names,.slice va names.length vc,[],[],0),⟨rfl,rfl,rfl,rfl,rfl,rfl,rfl,rfl,rfl,rfl,rfl,rfl,rfl,trivial⟩,Le.refl _,hM,⟨hω,has.nm,by omega,by omega⟩,((((((hS.pick 5 rfl).pick 5 rfl).pick 5 rfl).pick 5 rfl).pick 5 rfl).drop (k:=5) rfl)⟩
  rintro ⟨J3,la2,lc2,da2,dc2,ω2,ns,nv,ra,rm,re⟩ w ⟨hJ3,hM3,has2,hS⟩;refine .seq ?_;replace hS:=(hS.pick 1 rfl)
  try dsimp only [List.eraseIdx] at hS
  obtain ⟨⟨a7,c7,ma7,mc7⟩,hS⟩:=Sat.unbox hS;replace hS:Sat B _ _ (blk p.wb (wdC p ω2) 44::blk p.tb [I64 ω2.room,.slice a7 ω2.l.length c7] 114::Vec 54 10 (.slice a7 ω2.l.length c7) ω2.l.length (Xe ω2.l)::blk p.mb [.slice ma7 ω2.D.length mc7] 111::X3i 104 (.slice ma7 ω2.D.length mc7) (ω2.D.map fun d=>U64 (d:Nat))::_):=hS;have hω2:=has2.ok;have hlen2:=hω2.len;have hI3:=hI2.mono hJ3;have hX3:=hX2.mono hJ3;have hpl2:=Xpo ω2.l;refine .drawn (fun w=>∃ J9 R,Le J3 J9∧Sat B w J9 (blk p.wb (wdC p ω2) 44::blk x.xb (XC x da2 ω2.D.length dc2 ω2.now) 83::blk x.tb [I64 ω2.room,.slice la2 ω2.l.length lc2] 90::R)) (fun j=>!([].contains j)) (by kernel_rfl) ?_;replace hS:=hS.drew; generalize w.drew=w at hS ⊢;have hH:∃ J9 R,Le J3 J9∧Sat B w J9 (blk p.wb (wdC p ω2) 44::blk x.xb (XC x da2 ω2.D.length dc2 ω2.now) 83::blk x.tb [I64 ω2.room,.slice la2 ω2.l.length lc2] 90::R):=⟨_,_,Le.refl _,(((hS.pick 7 rfl).pick 7 rfl).pick 2 rfl)⟩
  refine .tp (i:=0) rfl (by kernel_rfl) (fun w=>(.mo rfl)) rfl (.tp (i:=1) rfl (by kernel_rfl) (fun w=>(.mo rfl)) rfl (.tp (i:=2) rfl (by kernel_rfl) (fun w=>(.nes (.of rfl) (.of rfl))) rfl (.tp (i:=3) rfl (by kernel_rfl) (fun w=>(.mo rfl)) rfl (.tg (i:=4) rfl (by kernel_rfl) hH rfl rfl (fun hg1 w ⟨J9,R,hL9,hS⟩=>(.mo rfl)) rfl (.tg (i:=5) rfl (by kernel_rfl) hH rfl rfl (fun hg1 w ⟨J9,R,hL9,hS⟩=>(.mo rfl)) rfl (.tg (i:=6) rfl (by kernel_rfl) hH rfl rfl (fun hg1 w ⟨J9,R,hL9,hS⟩=>(.nes (.gd hg1 rfl) (.gd hg1 rfl))) rfl (.tp (i:=7) rfl (by kernel_rfl) (fun w=>(.po rfl rfl rfl)) rfl (.tp (i:=8) rfl (by kernel_rfl) (fun w=>(.mo rfl)) rfl (.tg (i:=9) rfl (by kernel_rfl) hH rfl rfl (fun hg1 w ⟨J9,R,hL9,hS⟩=>(.mo rfl)) rfl (.tg (i:=10) rfl (by kernel_rfl) hH rfl rfl (fun hg1 w ⟨J9,R,hL9,hS⟩=>(.mo rfl)) rfl (.tg (i:=11) rfl (by kernel_rfl) hH rfl rfl (fun hg1 w ⟨J9,R,hL9,hS⟩=>(.neq (.gd hg1 rfl) (.gd hg1 rfl))) rfl (.tp (i:=12) rfl (by kernel_rfl) (fun w=>(.po rfl rfl rfl)) rfl (.tp (i:=13) rfl (by kernel_rfl) (fun w=>(.mo rfl)) rfl (.tg (i:=14) rfl (by kernel_rfl) hH rfl rfl (fun hg1 w ⟨J9,R,hL9,hS⟩=>(.mo rfl)) rfl (.tg (i:=15) rfl (by kernel_rfl) hH rfl rfl (fun hg1 w ⟨J9,R,hL9,hS⟩=>(.nilCheck (.gd hg1 rfl))) rfl ?_)))))))))))))));refine .tg (i:=16) rfl (by kernel_rfl) hH rfl rfl (fun hg1 w ⟨J9,R,hL9,hS⟩=>(.fieldAddr 0 (.gd hg1 rfl) X69 rfl rfl Xfo rfl)) rfl (.tg (i:=17) rfl (by kernel_rfl) hH rfl rfl (fun hg1 w ⟨J9,R,hL9,hS⟩=>((.ld (.gd hg1 rfl) hS (k:=0) rfl Xdt rfl))) rfl (.tg (i:=19) rfl (by kernel_rfl) hH rfl rfl (fun hg1 w ⟨J9,R,hL9,hS⟩=>(.mo rfl)) rfl (.tg (i:=20) rfl (by kernel_rfl) hH rfl rfl (fun hg1 w ⟨J9,R,hL9,hS⟩=>(.nilCheck (.gd hg1 rfl))) rfl ?_)));refine .tg (i:=21) rfl (by kernel_rfl) hH rfl rfl (fun hg1 w ⟨J9,R,hL9,hS⟩=>(.fieldAddr 28 (.gd hg1 rfl) X4m rfl rfl Xdv rfl)) rfl (.tg (i:=22) rfl (by kernel_rfl) hH rfl rfl (fun hg1 w ⟨J9,R,hL9,hS⟩=>((.ld (.gd hg1 rfl) hS (k:=1) rfl Xds rfl))) rfl (.tg (i:=23) rfl (by kernel_rfl) hH rfl rfl (fun hg1 w ⟨J9,R,hL9,hS⟩=>(.nilCheck (.gd hg1 rfl))) rfl (.tg (i:=24) rfl (by kernel_rfl) hH rfl rfl (fun hg1 w ⟨J9,R,hL9,hS⟩=>(.fieldAddr 1 (.gd hg1 rfl) X79 rfl rfl X2y rfl)) rfl (.tg (i:=25) rfl (by kernel_rfl) hH rfl rfl (fun hg1 w ⟨J9,R,hL9,hS⟩=>((.ld (.gd hg1 rfl) hS (k:=2) rfl X5v rfl))) rfl (.b1 18 (by kernel_rfl) rfl (.ecall (T:=SlG B J3 10 ω2.l.length (Xe ω2.l) _ _) (v0:=.slice none ω2.l.length 0) rfl rfl rfl Tryz.func12 rfl (fun hg1=>(X6 (.gd hg1 rfl) X0)) rfl (fun hg1=>(Xa0 p.tb ω2.room a7 c7 ω2.l (by omega) B _ J3 _ ((hS.pick 2 rfl).pick 2 rfl)).mono fun e w' ⟨v,he,J9,ra,rc,hv,hJ9,hrc,hR9,hS⟩=>⟨v,he,J9,ra,rc,hv,hJ9,fun _=>⟨hrc,hR9⟩,(((((((((hS.pick 8 rfl).pick 8 rfl).pick 8 rfl).pick 8 rfl).pick 8 rfl).pick 8 rfl).pick 7 rfl).pick 7 rfl).pick 8 rfl)⟩) (fun hne=>⟨J3,none,0,rfl,Le.refl _,fun h=>absurd h hne,hS⟩) ?_))))));rintro v99 w ⟨J5,wa,wc,rfl,hJ5,hG5,hS⟩;refine .nil ?_;clear hH;have hH:∃ J9 R,Le J3 J9∧Sat B w J9 (blk p.wb (wdC p ω2) 44::blk x.xb (XC x da2 ω2.D.length dc2 ω2.now) 83::blk x.tb [I64 ω2.room,.slice la2 ω2.l.length lc2] 90::R):=⟨_,_,hJ5,(((hS.pick 7 rfl).pick 7 rfl).pick 2 rfl)⟩
  refine ⟨fun _ _=>hH,?_⟩;refine .b1 26 (by kernel_rfl) rfl (.gcall (T:=fun w=>Sat B w J5 _) rfl rfl rfl Tryz.func14 rfl (fun hg1=>(X6 (.gd hg1 rfl) (X6 (.gd hg1 rfl) X0))) rfl (fun hg1=>Xe8 wa la2 wc lc2 ω2.l ω2.l (by omega) B _ J5 (hG5 hg1).2 (hM3.1.mono hJ5) _ hS) hS ?_);rintro w hS;refine .nil ?_;clear hH;have hH:∃ J9 R,Le J3 J9∧Sat B w J9 (blk p.wb (wdC p ω2) 44::blk x.xb (XC x da2 ω2.D.length dc2 ω2.now) 83::blk x.tb [I64 ω2.room,.slice la2 ω2.l.length lc2] 90::R):=⟨_,_,hJ5,(((hS.pick 7 rfl).pick 7 rfl).pick 2 rfl)⟩
  refine ⟨fun _ _=>hH,?_⟩;refine .tg (i:=27) rfl (by kernel_rfl) hH rfl rfl (fun hg1 w ⟨J9,R,hL9,hS⟩=>(.not (.gd hg1 rfl))) rfl (.tp (i:=28) rfl (by kernel_rfl) (fun w=>(.po rfl rfl rfl)) rfl (.tp (i:=29) rfl (by kernel_rfl) (fun w=>(.mo rfl)) rfl (.tg (i:=30) rfl (by kernel_rfl) hH rfl rfl (fun hg1 w ⟨J9,R,hL9,hS⟩=>(.mo rfl)) rfl (.tg (i:=31) rfl (by kernel_rfl) hH rfl rfl (fun hg1 w ⟨J9,R,hL9,hS⟩=>(.nilCheck (.gd hg1 rfl))) rfl ?_))));refine .tg (i:=32) rfl (by kernel_rfl) hH rfl rfl (fun hg1 w ⟨J9,R,hL9,hS⟩=>(.fieldAddr 1 (.gd hg1 rfl) X69 rfl rfl Qs40 rfl)) rfl (.tg (i:=33) rfl (by kernel_rfl) hH rfl rfl (fun hg1 w ⟨J9,R,hL9,hS⟩=>((.ld (.gd hg1 rfl) hS (k:=0) rfl Qg40 rfl))) rfl (.tg (i:=35) rfl (by kernel_rfl) hH rfl rfl (fun hg1 w ⟨J9,R,hL9,hS⟩=>(.mo rfl)) rfl (.tg (i:=36) rfl (by kernel_rfl) hH rfl rfl (fun hg1 w ⟨J9,R,hL9,hS⟩=>(.nilCheck (.gd hg1 rfl))) rfl ?_)));refine .tg (i:=37) rfl (by kernel_rfl) hH rfl rfl (fun hg1 w ⟨J9,R,hL9,hS⟩=>(.fieldAddr 29 (.gd hg1 rfl) X4m rfl rfl Xb8 rfl)) rfl (.tg (i:=38) rfl (by kernel_rfl) hH rfl rfl (fun hg1 w ⟨J9,R,hL9,hS⟩=>((.ld (.gd hg1 rfl) hS (k:=1) rfl Xjx rfl))) rfl (.tg (i:=39) rfl (by kernel_rfl) hH rfl rfl (fun hg1 w ⟨J9,R,hL9,hS⟩=>(.lenSlice (.gd hg1 rfl) Xfn)) rfl (.b1 34 (by kernel_rfl) rfl ?_)));replace hS:=((hS.pick 4 rfl).pick 4 rfl)
  try dsimp only [List.eraseIdx] at hS
  refine .gcall (T:=fun w=>Sat B w J5 _) rfl rfl rfl Tryz.func35 rfl (fun hg1=>(X6 (.gd hg1 rfl) X0)) rfl (fun hg1=>Xok p.mb ma7 mc7 ω2.D B _ J5 _ hS) hS ?_;rintro w hS;refine .nil ?_;clear hH;have hH:∃ J9 R,Le J3 J9∧Sat B w J9 (blk p.wb (wdC p ω2) 44::blk x.xb (XC x da2 ω2.D.length dc2 ω2.now) 83::blk x.tb [I64 ω2.room,.slice la2 ω2.l.length lc2] 90::R):=⟨_,_,hJ5,(((hS.pick 7 rfl).pick 7 rfl).pick 4 rfl)⟩
  refine ⟨fun _ _=>hH,?_⟩;refine .tg (i:=40) rfl (by kernel_rfl) hH rfl rfl (fun hg1 w ⟨J9,R,hL9,hS⟩=>(.neq (.gd hg1 rfl) (.gd hg1 rfl))) rfl (.tp (i:=41) rfl (by kernel_rfl) (fun w=>(.po rfl rfl rfl)) rfl (.tp (i:=42) rfl (by kernel_rfl) (fun w=>(.mo rfl)) rfl (.tg (i:=43) rfl (by kernel_rfl) hH rfl rfl (fun hg1 w ⟨J9,R,hL9,hS⟩=>(.mo rfl)) rfl (.tg (i:=45) rfl (by kernel_rfl) hH rfl rfl (fun hg1 w ⟨J9,R,hL9,hS⟩=>(.mo rfl)) rfl ?_))));refine .b1 44 (by kernel_rfl) rfl ?_;replace hS:=(((((hS.pick 1 rfl).pick 1 rfl).pick 4 rfl).pick 4 rfl).pick 4 rfl)
  try dsimp only [List.eraseIdx] at hS
  refine .ecall (T:=SlW B J5 p ω2 (X4k ω2.l).length ((X4k ω2.l).map S) _ _) (v0:=.slice none (X4k ω2.l).length 0) rfl rfl rfl Tryz.func21 rfl (fun hg1=>(X6 (.gd hg1 rfl) X0)) rfl (fun hg1=>(Xgb p ω2 hω2 B _ J5 _ (Sat.box (T:=wdT p ω2) (a7,c7,ma7,mc7) hS)).mono fun e w' ⟨v,he,J9,ra,rc,hv,hJ9,hrc,hR9,hS⟩=>by
   obtain ⟨⟨a,c,ma,mc⟩,hS⟩:=Sat.unbox hS;exact ⟨v,he,J9,ra,rc,hv,hJ9,fun _=>⟨hrc,hR9⟩,a,c,ma,mc,hS⟩) (fun hne=>⟨J5,none,0,rfl,Le.refl _,fun h=>absurd h hne,_,_,_,_,hS⟩) ?_
  rintro v99 w ⟨J6,pa6,pc6,rfl,hJ6,hG6,a8,c8,ma8,mc8,hS⟩;refine .nil ?_;clear hH;have hH:∃ J9 R,Le J3 J9∧Sat B w J9 (blk p.wb (wdC p ω2) 44::blk x.xb (XC x da2 ω2.D.length dc2 ω2.now) 83::blk x.tb [I64 ω2.room,.slice la2 ω2.l.length lc2] 90::R):=⟨_,_,(by exact hJ5.trans hJ6),(((hS.pick 7 rfl).pick 7 rfl).pick 2 rfl)⟩
  refine ⟨fun _ _=>hH,?_⟩;refine .b1 46 (by kernel_rfl) rfl (.ecall (T:=SlG B J6 1 (X4k ω2.l).length ((X4k ω2.l).map S) _ _) (v0:=.slice none (X4k ω2.l).length 0) rfl rfl rfl Tryz.func37 rfl (fun hg1=>(X6 (.gd hg1 rfl) X0)) rfl (fun hg1=>(Xb0 x ω2 hω2 la2 lc2 da2 dc2 B _ J6 (hX3.mono (hJ5.trans hJ6)) (hM3.mono (hJ5.trans hJ6)) _ ((hS.pick 7 rfl).pick 7 rfl)).mono fun e w' ⟨v,he,J9,ra,rc,hv,hJ9,hrc,hR9,hS⟩=>⟨v,he,J9,ra,rc,hv,hJ9,fun _=>⟨hrc,hR9⟩,(((((((((hS.pick 8 rfl).pick 2 rfl).pick 2 rfl).pick 8 rfl).pick 8 rfl).pick 8 rfl).pick 8 rfl).pick 8 rfl).pick 8 rfl)⟩) (fun hne=>⟨J6,none,0,rfl,Le.refl _,fun h=>absurd h hne,hS⟩) ?_);rintro v99 w ⟨J7,pa7,pc7,rfl,hJ7,hG7,hS⟩;refine .nil ?_;clear hH;have hH:∃ J9 R,Le J3 J9∧Sat B w J9 (blk p.wb (wdC p ω2) 44::blk x.xb (XC x da2 ω2.D.length dc2 ω2.now) 83::blk x.tb [I64 ω2.room,.slice la2 ω2.l.length lc2] 90::R):=⟨_,_,(by exact (hJ5.trans hJ6).trans hJ7),(((hS.pick 7 rfl).pick 7 rfl).pick 2 rfl)⟩
  refine ⟨fun _ _=>hH,?_⟩;refine .b1 47 (by kernel_rfl) rfl (.gcall (T:=fun w=>Sat B w J7 _) rfl rfl rfl Tryz.func36 rfl (fun hg1=>(X6 (.gd hg1 rfl) (X6 (.gd hg1 rfl) X0))) rfl (fun hg1=>Xlz pa6 pa7 pc6 pc7 (X4k ω2.l) (X4k ω2.l) (hG6 hg1).1 (hG7 hg1).1 (by omega) B _ J7 ((hG6 hg1).2.mono hJ7) (hG7 hg1).2 _ hS) hS ?_);rintro w hS;refine .nil ?_;clear hH;have hH:∃ J9 R,Le J3 J9∧Sat B w J9 (blk p.wb (wdC p ω2) 44::blk x.xb (XC x da2 ω2.D.length dc2 ω2.now) 83::blk x.tb [I64 ω2.room,.slice la2 ω2.l.length lc2] 90::R):=⟨_,_,(by exact (hJ5.trans hJ6).trans hJ7),(((hS.pick 7 rfl).pick 7 rfl).pick 2 rfl)⟩
  refine ⟨fun _ _=>hH,?_⟩;refine .tg (i:=48) rfl (by kernel_rfl) hH rfl rfl (fun hg1 w ⟨J9,R,hL9,hS⟩=>(.not (.gd hg1 rfl))) rfl (.tp (i:=49) rfl (by kernel_rfl) (fun w=>(.po rfl rfl rfl)) rfl (.done (by kernel_rfl) (.condF (congrArg (fun b=>some (Value.bool b)) (by simp)) (.skip (.region (.run 3 rfl ⟨⟨by omega,by omega⟩,trivial⟩ (.nil ?_)))))));replace hS:=Sat.box (T:=wdT p ω2) (a8,c8,ma8,mc8) (((((hS.pick 4 rfl).pick 4 rfl).pick 4 rfl).pick 4 rfl).pick 4 rfl);try dsimp only [List.eraseIdx] at hS
  refine ⟨((ω2,ns),i+1,nv,la2,lc2,da2,dc2,J7),⟨rfl,rfl,rfl,rfl,rfl,rfl,rfl,trivial⟩,⟨by (try dsimp only); omega,hJ2.trans (hJ3.trans ((hJ5.trans hJ6).trans hJ7)),has2,hM3.mono ((hJ5.trans hJ6).trans hJ7),(((((hS.pick 4 rfl).pick 4 rfl).pick 4 rfl).pick 3 rfl).pick 4 rfl)⟩,by (try dsimp only); omega⟩
 have hc67:=hb67; simp only [Y6] at hc67;refine .exit (.seq (.q 2 rfl (.ret (X9 Tryz.results6 rfl ?_))));exact ⟨_,rfl,rfl,J2,hJ.trans hJ2,(((((hS.drop (k:=0) rfl).drop (k:=0) rfl).drop (k:=0) rfl).drop (k:=0) rfl).drop (k:=0) rfl)⟩
end Go.Proofs.YtfibbpgikjggfaaGreatDoor
namespace Gk
open Go Go.RowKit Go.WideShapes Go.ChangeShapes
section
variable {H:Type} {enc:TypeId×Value→H}
def WitT (enc:TypeId×Value→H) (a:Assume) (C:Checked) (os:Os) (f:FuncId) (fn:Func) (s:ChangeSpec) (conds:List PathCond) (apart:Bool) (X:World→Array Value→Prop):Prop :=
  ∃ (w:World) (tape:Tape) (i:Input),w.os=os∧(w.forCall tape i).Shaped C.prog∧i.vars=[]∧Input.okWide C.prog (w.forCall tape i) .any w.heap.size f i ∧
   ((s.pre enc C.prog fn conds apart (w.forCall tape i).memory i.args∧X (w.forCall tape i).memory i.args)∧sizedMet enc C.prog fn (OpenSpec.ofChange s) apart (w.forCall tape i).memory i.args)∧a.holds C.prog (lone (Frame.enter C.prog f i.args .normal) [] (w.forCall tape i))
theorem X7c {a:Assume} {C:Checked} {os:Os} {f:FuncId} {fn:Func} {s:ChangeSpec} {conds:List PathCond} {apart fresh handsOn again:Bool} {X:World→Array Value→Prop}
  (hX:∀ (w w':World) (args:Array Value),w.heap=w'.heap→X w args→X w' args)
  (own:ownKnob C.prog.godebug=none) (started:os.Started) (noInit:C.prog.inits.idxOf? f=none) (hfn:C.prog.funcs[f]?=some fn)
  (witness:WitT enc a C os f fn s conds apart X)
  (contract:∀ (W:World) (base:Nat) (args:Array Value) (ds gs:List (DataW H)) (before:List MemPlace),
   (∀ (j:Nat) t v,fn.params[j]?=some t→args[j]?=some v→Value.okWide C.prog W .any base t v) →
   DataW.Whole enc C.prog fn.params.toList s.vars apart W args.toList ds gs before→X W args→W.ShapedOpen C.prog →
   Calls C.prog f args W fun e W'=>∃ v,e=.returned v∧s.post enc C.prog fn apart fresh handsOn again W args v W') :
  ReturnsInHanded a C os f .any (fun w args=>(s.pre enc C.prog fn conds apart w args∧X w args)∧sizedMet enc C.prog fn (OpenSpec.ofChange s) apart w args) (s.post enc C.prog fn apart fresh handsOn again):=by
 refine returnsInHanded_of_calls own started noInit witness ?_;intro w tape i _ hsh _ hok hpre _;obtain ⟨_,_,_,fn',hfn',_,_,_,_,hval⟩:=hok;have e:fn'=fn:=Option.some.inj (hfn'.symm.trans hfn);subst e;obtain ⟨⟨⟨ds,gs,before,hw,hc⟩,hx⟩,hz⟩:=hpre;have hw':=DataW.Whole.of_heap (w':=w.forCall tape i) (by rfl) hw;refine (contract (w.forCall tape i) w.heap.size i.args ds gs before hval hw' (hX _ _ _ (by rfl) hx) hsh).mono fun e W' ⟨v,he,hp⟩=>?_
 subst he;exact ChangeSpec.post_blind hp
end
section
variable {P:Program} {W:World}
theorem X68 {name:String} {k:IntKind} {zs:List Int} {g:Nat} {t e:TypeId} {n:Nat}
  (hg:P.globalNamed name=some g) (hty:(P.globals[g]?).map (·.type)=some t) (ht:P.underlying t=some (.array n e)) (he:P.underlying e=some (.int k)) (hce:P.cellsOf e=1) (hct:P.cellsOf t=n)
  (h:Lib.VarReads P W name (Lib.tabData k zs)):Lib.TabIs P W name k zs:=by
 obtain ⟨g',t',cs,fuel,p,hg',ht',hvar,hd⟩:=h;obtain rfl:=Option.some.inj (hg.symm.trans hg');obtain rfl:=Option.some.inj (hty.symm.trans ht');unfold Lib.TabIs;rw [hvar,← Lib.cells_of_tab ht he hce hct hd]
theorem tab_at {name:String} {k:IntKind} {zs:List Int} {g:Nat} (hg:P.globalNamed name=some g) (h:Lib.TabIs P W name k zs) (h0:0<zs.length):At (im0 W) (ad g 0) (zs.map fun z=>.int k z):=by
 refine Xlm (by rw [Y10]; exact h0) fun j v hj=>?_
 rw [Yy] at hj;cases hz:zs[j]? with
 | none=>rw [hz] at hj; cases hj
 | some z =>
  rw [hz] at hj;have hjl:=(Y5.1 hz).1;have hc:=h.cell hg j hjl;rw [X13,Yd,hc,Yc,hz,← hj];rfl
variable {B w:World} {As:List X7}
theorem Xdz {b:Nat} {o:Obj} (h:W.heap[b]?=some o) (hS:Sat B w (im0 W) As):w.heap[b]?=some o:=by
 obtain ⟨_,_,hg⟩:=hS;exact hg.imm b o h
theorem Xrv {name:String} {k:IntKind} {zs:List Int} (h:Lib.TabIs P W name k zs) (hS:Sat B w (im0 W) As):Lib.TabIs P w name k zs:=by
 unfold Lib.TabIs World.var? at h ⊢;cases hg:P.globalNamed name with
 | none=>rw [hg] at h; cases h
 | some g =>
  rw [hg] at h;simp only [Y2s] at h ⊢
  cases hb:W.heap[g]? with
  | none=>rw [hb] at h; cases h
  | some o =>
   rw [Xdz hb hS];rw [hb] at h;exact h
theorem Xo3 {a:Addr} {v:Value} (h:W.cell? a=some v) (hS:Sat B w (im0 W) As):w.cell? a=some v:=by
 unfold World.cell? at h ⊢;cases hb:W.heap[a.block]? with
 | none=>rw [hb] at h; cases h
 | some o=>rw [Xdz hb hS]; rw [hb] at h; exact h
end
end Gk
namespace Go.Proofs.YtfibbpgikjggfaaGreatDoor
open Gk Pc
theorem Xjp:Rows.laid_matricula_pct_digits (H:=Unit)=Lib.tabData .u8 (HIGH.map fun c=>(c.toNat:Int)):=by kernel_rfl
theorem Xt7:Rows.laid_internal_strconv_uint64pow10 (H:=Unit)=Lib.tabData .u64 Lib.pow10Tab:=by kernel_rfl
def Xcz {H:Type} (zs:List (List UInt8)):DataW H:=.agg (zs.map fun z=>.lit (.string z))
theorem Xsj:Rows.laid_matricula_ticket_prefixes (H:=Unit)=Xcz PREV:=by kernel_rfl
theorem Xbc {H:Type} {enc:TypeId×Value→H} {P:Program} {w:World} {base:Nat} {sp:Nat→Bool} {held:Bool} {fuel:Nat} {t e:TypeId} {n:Nat} {cs:List Value} {zs:List (List UInt8)} {p:List MemPlace}
  (ht:P.underlying t=some (.array n e)) (he:P.underlying e=some .string) (hce:P.cellsOf e=1) (hct:P.cellsOf t=n)
  (h:DataW.trod enc P w base sp held fuel t cs=some (Xcz zs,p)):cs=zs.map S:=by
 cases fuel with
 | zero=>simp [DataW.trod] at h
 | succ fuel =>
  simp only [DataW.trod,ht,hce,hct,Y1i] at h
  split at h
  ·rename_i hl
   obtain ⟨xs,hm,hx⟩:=Y1n.1 h;have hxs:xs.map (·.1)=zs.map fun z=>(DataW.lit (.string z):DataW H):=by
    have:=congrArg Prod.fst hx
    simpa [Xcz] using this
   have hxl:xs.length=n:=by simpa using Lib.mapM_length hm
   have hzl:zs.length=n:=by
    have:=congrArg List.length hxs
    simp at this
    omega
   apply Y26
   intro i
   by_cases hi:i<n
   ·obtain ⟨b,hb,hf⟩:=Lib.mapM_at hm i i (by simp [hi]);obtain ⟨z,hc,rfl,_⟩:=DataW.trod_string he hf;have h1:cs[i]?=some (.string z):=by
     have:=congrArg (·[0]?) hc
     simpa [Y1y,Y1e] using this
    have h2:(xs.map (·.1))[i]?=some (DataW.lit (.string z.data.toList):DataW H):=by simp [hb]
    rw [hxs] at h2;simp only [Yy,Y1n,DataW.lit.injEq,Lit.string.injEq] at h2
    obtain ⟨z',hz',e'⟩:=h2;rw [h1,Yy,hz',e'];rfl
   ·rw [Y1u (by omega),Y1u (by simp; omega)]
  ·cases h
theorem pre_at {W : World} (h : Lib.VarReads Tryz.prog W "matricula/ticket.prefixes" Rows.laid_matricula_ticket_prefixes) : PreAt (im0 W) := by
 rw [Xsj] at h;obtain ⟨g',t',cs,fuel,p,hg',ht',hvar,hd⟩:=h;obtain rfl := Option.some.inj ((show Tryz.prog.globalNamed "matricula/ticket.prefixes" = some 0 by kernel_rfl).symm.trans hg');obtain rfl:=Option.some.inj ((show (Tryz.prog.globals[0]?).map (·.type)=some 239 by kernel_rfl).symm.trans ht');have hcs:=Xbc Xoj Qu9 (by kernel_rfl) (by kernel_rfl) hd;refine Xlm (by decide) fun j v hj=>?_
 have h2:=World.var?_cell hg' hvar j;rw [X13,Yd];rw [← Array.getElem?_toList,hcs,hj] at h2;exact h2
theorem Xom {W : World} (h1 : Lib.VarReads Tryz.prog W "matricula/pct.digits" Rows.laid_matricula_pct_digits) (h2 : Lib.VarReads Tryz.prog W "internal/strconv.uint64pow10" Rows.laid_internal_strconv_uint64pow10) (h3 : Lib.VarReads Tryz.prog W "matricula/ticket.prefixes" Rows.laid_matricula_ticket_prefixes) (hsh : W.ShapedOpen Tryz.prog) : Known (im0 W) ∧ PreAt (im0 W) := by
 refine ⟨?_,pre_at h3⟩;rw [Xjp] at h1;rw [Xt7] at h2;have t1:=X68 (g:=2) (by kernel_rfl) (by kernel_rfl) Xq8 Qu5 (by kernel_rfl) (by kernel_rfl) h1;have t2:=X68 (g:=3) (by kernel_rfl) (by kernel_rfl) Tryz.underlying281 Xay (by kernel_rfl) (by kernel_rfl) h2;refine ⟨tab_at (g:=2) (by kernel_rfl) t1 (by decide),fun B w As hS=>Xrv t2 hS,fun B w As hS=>?_⟩;obtain ⟨m,hm⟩:=Go.Proofs.cell_of_shapedOpen_int (g:=1) (t:=3) (zero:=#[.int .i64 0]) (k:=.i64) hsh (by decide +kernel) (by kernel_rfl) (by kernel_rfl) (by kernel_rfl) (by kernel_rfl) Qu3;exact ⟨m,Xo3 hm hS⟩
end Go.Proofs.YtfibbpgikjggfaaGreatDoor
namespace Go.Proofs.YtfibbpgikjggfaaGreatDoor
open Gk Ul Pc Tk Tr Go.RowKit Go.WideShapes Go.ChangeShapes
def Xi4 (d:Nat):List Value:=[U64 (d:Nat)]
theorem Xu9 (l:List Nat):X12 Xi4 l=l.map fun d=>U64 (d:Nat):=by
 unfold X12
 induction l with
 | nil=>rfl
 | cons x l ih=>rw [Y1d,Y1v,ih]; rfl
theorem Xld {H:Type} {enc:TypeId×Value→H} {W:World} {spare:Nat→Bool} {held:Bool} {fuel:Nat} {cs:List Value} {x:DataW H×List MemPlace} (h:DataW.trod enc Tryz.prog W 0 spare held fuel 104 cs=some x):∃ z:Nat,cs=Xi4 z∧z<18446744073709551616:=by
 obtain ⟨z,e,_,w⟩:=DataW.trod_int Xay h;have w2:=w;simp only [Lit.wf,Yq,decide_eq_true_eq] at w2
 have h0:(0:Int)≤z:=w2.1;have h9:z≤18446744073709551615:=w2.2;refine ⟨z.toNat,?_,by omega⟩;rw [e,Xi4,Y4d h0]
end Go.Proofs.YtfibbpgikjggfaaGreatDoor
namespace Go.Proofs.YtfibbpgikjggfaaGreatDoor
open Gk Ul Pc Tk Tr Go.RowKit Go.WideShapes Go.ChangeShapes
set_option maxRecDepth 20000 in
theorem Xt4 {H:Type} {enc:TypeId×Value→H} {W:World} {spare:Nat→Bool} {held:Bool} {fuel:Nat} {cs:List Value} {x:DataW H×List MemPlace} (h:DataW.trod enc Tryz.prog W 0 spare held fuel 35 cs=some x):∃ o:Ob,ObAt (im0 W) o cs∧o.fits:=by
 obtain ⟨xs,n,_,_,hcl,hxl,hf⟩:=DataW.trod_struct Xcn h;rw [show Tryz.prog.cellsOf 35=6 from by kernel_rfl] at hcl;obtain ⟨y0,hy0⟩:∃ y,DataW.trod enc Tryz.prog W 0 spare held n 3 ((cs.drop 0).take (Tryz.prog.cellsOf 3))=some y:=⟨_,(hf 0 _ rfl).trans (Y4 (by rw [hxl]; decide))⟩
 rw [show Tryz.prog.cellsOf 3=1 from by kernel_rfl] at hy0;obtain ⟨y1,hy1⟩:∃ y,DataW.trod enc Tryz.prog W 0 spare held n 3 ((cs.drop 1).take (Tryz.prog.cellsOf 3))=some y:=⟨_,(hf 1 _ rfl).trans (Y4 (by rw [hxl]; decide))⟩
 rw [show Tryz.prog.cellsOf 3=1 from by kernel_rfl] at hy1;obtain ⟨y2,hy2⟩:∃ y,DataW.trod enc Tryz.prog W 0 spare held n 3 ((cs.drop 2).take (Tryz.prog.cellsOf 3))=some y:=⟨_,(hf 2 _ rfl).trans (Y4 (by rw [hxl]; decide))⟩
 rw [show Tryz.prog.cellsOf 3=1 from by kernel_rfl] at hy2;obtain ⟨y3,hy3⟩:∃ y,DataW.trod enc Tryz.prog W 0 spare held n 9 ((cs.drop 3).take (Tryz.prog.cellsOf 9))=some y:=⟨_,(hf 3 _ rfl).trans (Y4 (by rw [hxl]; decide))⟩
 rw [show Tryz.prog.cellsOf 9=1 from by kernel_rfl] at hy3;obtain ⟨y4,hy4⟩:∃ y,DataW.trod enc Tryz.prog W 0 spare held n 9 ((cs.drop 4).take (Tryz.prog.cellsOf 9))=some y:=⟨_,(hf 4 _ rfl).trans (Y4 (by rw [hxl]; decide))⟩
 rw [show Tryz.prog.cellsOf 9=1 from by kernel_rfl] at hy4;obtain ⟨y5,hy5⟩:∃ y,DataW.trod enc Tryz.prog W 0 spare held n 31 ((cs.drop 5).take (Tryz.prog.cellsOf 31))=some y:=⟨_,(hf 5 _ rfl).trans (Y4 (by rw [hxl]; decide))⟩
 rw [show Tryz.prog.cellsOf 31=1 from by kernel_rfl] at hy5;obtain ⟨v0,v1,v2,v3,v4,v5,rfl⟩:∃ v0 v1 v2 v3 v4 v5,cs=[v0,v1,v2,v3,v4,v5]:=by
  match cs,hcl with
  | [v0,v1,v2,v3,v4,v5],_=>exact ⟨v0,v1,v2,v3,v4,v5,rfl⟩
 simp only [Y7,Yg,Y1x,Yh] at hy0 hy1 hy2 hy3 hy4 hy5
 obtain ⟨z0,e0,_,_⟩:=DataW.trod_int Qu3 hy0;obtain ⟨z1,e1,_,_⟩:=DataW.trod_int Qu3 hy1;obtain ⟨z2,e2,_,_⟩:=DataW.trod_int Qu3 hy2;obtain ⟨z3,e3,_,w3⟩:=DataW.trod_string Qu9 hy3;obtain ⟨z4,e4,_,w4⟩:=DataW.trod_string Qu9 hy4;obtain ⟨a,c,l,e5,h1,h2,h3,h4⟩:=X9w (cells:=Xi4) (c:=1) (fit:=fun z=>z<18446744073709551616) Xfn (by kernel_rfl) (by decide) (fun n cs y h=>Xld h) hy5;simp only [List.cons.injEq,and_true] at e0 e1 e2 e3 e4 e5
 subst e0 e1 e2 e3 e4 e5;exact ⟨⟨z0,z1,z2,z3.data.toList,z4.data.toList,l⟩,⟨a,c,rfl,h1,h2,by rw [← Xu9]; exact h3⟩,⟨h4,w3,w4⟩⟩
set_option maxRecDepth 20000 in
theorem Xnz {H:Type} {enc:TypeId×Value→H} {W:World} {spare:Nat→Bool} {held:Bool} {fuel:Nat} {cs:List Value} {x:DataW H×List MemPlace} (h:DataW.trod enc Tryz.prog W 0 spare held fuel 36 cs=some x):∃ (a:Option Addr) (cap:Nat) (l:List Ob),cs=[.slice a l.length cap]∧l.length≤cap∧cap≤maxLen∧ObsAt (im0 W) a l∧∀ o∈l,o.fits:=by
 obtain ⟨a,cap,L,n,rfl,h1,h2,h3,h4,h5⟩:=X55 (c:=6) Xrh (by kernel_rfl) (by decide) h;have key:∀ L:List (List Value),(∀ l∈L,∃ y,DataW.trod enc Tryz.prog W 0 spare held n 35 l=some y)→∃ l:List Ob,L.length=l.length∧∀ (i:Nat) (u:Ob),l[i]?=some u→u.fits∧∃ c,L[i]?=some c∧ObAt (im0 W) u c:=by
  intro L
  induction L with
  | nil=>intro _; exact ⟨[],rfl,fun i s h=>by simp at h⟩
  | cons c L ih =>
   intro h;obtain ⟨y,hy⟩:=h c (by simp);obtain ⟨s,hs,hf⟩:=Xt4 hy;obtain ⟨l,e1,e2⟩:=ih (fun c hc=>h c (by simp [hc]));refine ⟨s::l,by simp [e1],fun i u hu=>?_⟩;cases i with
   | zero=>simp at hu; subst hu; exact ⟨hf,c,rfl,hs⟩
   | succ i=>simpa using e2 i u (by simpa using hu)
 obtain ⟨l,e1,e2⟩:=key L h5;refine ⟨a,cap,l,by rw [e1],by rw [← e1]; exact h1,h2,⟨L,e1,h3,by rw [← e1]; exact h4,fun i u hu=>(e2 i u hu).2⟩,fun u hu=>?_⟩;obtain ⟨i,hi⟩:=Yx.1 hu;exact (e2 i u hi).1
end Go.Proofs.YtfibbpgikjggfaaGreatDoor
