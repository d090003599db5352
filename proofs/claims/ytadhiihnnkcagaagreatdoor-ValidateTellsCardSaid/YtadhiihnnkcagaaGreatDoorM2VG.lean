/- Part 7 of what the proof stands on: W20j, W20k, W20l, GkQ, W20n, W21z, W20o. -/
import Derived.Test.YtadhiihnnkcagaaGreatDoorM2VF
set_option linter.unusedVariables false
set_option linter.unusedSimpArgs false
namespace Go.Proofs.YtadhiihnnkcagaaGreatDoor
open Gk Ul Pc Tk Tr
theorem at_hit {l:List Rec} {name:List UInt8} {i:Nat} {r:Rec} (h:l[i]?=some r) (hn:r.name=name) (hno:∀ (j:Nat) t,j<i→l[j]?=some t→t.name≠name):at0 l name=(i:Int):=by
 rw [at0,← X7x]
 exact X4w (fun j t hj ht=>decide_eq_false (hno j t hj ht)) h (decide_eq_true hn)
theorem Xq1 {l:List Rec} {name:List UInt8} (hno:∀ (j:Nat) t,l[j]?=some t→t.name≠name):at0 l name=-1:=by
 rw [at0,← X7x]
 exact X3n (fun j t ht=>decide_eq_false (hno j t ht))
theorem X42 (tb:Nat) (room:Int) (la:Option Addr) (lc:Nat) (l:List Rec) (hl:l.length≤100000) (name:List UInt8) (B w:World) (I:Im) (hR:RS I la 10 l.length (Xy X7 l)) (As:List Xe) (hS:Sat B w I (blk tb [I64 room,.slice la l.length lc] 79::As)) :
  Calls Tryz.prog 124 [ptr tb 0,S name].toArray w (Ret fun v w'=>v=I64 (at0 l name)∧Sat B w' I (blk tb [I64 room,.slice la l.length lc] 79::As)):=by
 refine calls Xf6 rfl Tryz.ntmps124 rfl (.seq (.q 1 rfl (.seq (.seq (.q 1 rfl (.block (.loop (σ:=Nat) (fun i=>[(0,ptr tb 0),(1,S name),(5,I64 (i:Nat))]) (fun i w=>i≤l.length∧(∀ (j:Nat) r,j<i→l[j]?=some r→r.name≠name)∧Sat B w I (blk tb [I64 room,.slice la l.length lc] 79::As)) (fun i=>l.length - i) 0 ⟨rfl,rfl,rfl,trivial⟩ ⟨Yq _,fun _ _ h=>absurd h (by omega),hS⟩ ?_)))))))
 rintro i w ⟨hi,hno,hS⟩
 refine .seq (.seq (.t 3 rfl ?_))
 refine WL.val (.fieldAddr 1 (.of rfl) Xdk rfl rfl X61 rfl) rfl ?_
 refine WL.val (.ld (.of rfl) hS (k:=0) rfl Xbz rfl) rfl ?_
 refine .run 2 rfl ⟨⟨_,X2x⟩,trivial⟩ (.nil ?_)
 refine WC.cond rfl (fun hb12=>?_) (fun hb12=>?_)
 ·
  have hc12:=hb12; try simp only [Y6] at hc12
  refine .skip (.seq (.block (.seq ?_)))
  obtain ⟨r,hr⟩:∃ r,l[i]?=some r:=⟨_,Y4 (by omega)⟩
  obtain ⟨q,hq9,hx⟩:=X4d (cells:=X7) (s:=10) (fun _=>rfl) (hR) hr
  subst hq9
  unfold X7 at hx
  refine .t 2 rfl ?_
  refine WL.val (.fieldAddr 1 (.of rfl) Xdk rfl rfl X61 rfl) rfl ?_
  refine WL.val (.ld (.of rfl) hS (k:=0) rfl Xbz rfl) rfl ?_
  refine .q 1 rfl ?_
  refine WL.val (.indexAddrI (.of rfl) (.of rfl) (by omega) (by omega) X2x X17) rfl ?_
  refine WL.val (.fieldAddrI 1 (.of rfl) X16 rfl rfl Qs9 rfl) rfl ?_
  refine WL.val (.ldI (.of rfl) hS (At.add hx _) Qg9 rfl) rfl ?_
  refine .q 2 rfl (.nil ?_)
  refine WC.cond rfl (fun hb24=>?_) (fun hb24=>?_)
  ·
   refine .seq (.q 2 rfl (.ret (Xh Tryz.results124 rfl ?_)))
   exact ⟨_,rfl,congrArg I64 (at_hit hr (by simpa using hb24) hno).symm,hS⟩
  have hc24:=hb24; try simp only [Y6] at hc24
  refine .skip (.region (.run 3 rfl ⟨⟨by omega,by omega⟩,trivial⟩ (.nil ?_)))
  refine ⟨i+1,⟨rfl,rfl,rfl,trivial⟩,⟨by (try dsimp only); omega,fun j t hj ht=>?_,hS⟩,by (try dsimp only); omega⟩
  rcases Yr j i with h1 | h1
  ·exact hno j t h1 ht
  ·have e:j=i:=by omega
   subst e
   rw [hr] at ht; cases ht
   simpa using hb24
 have hc12:=hb12; try simp only [Y6] at hc12
 refine .exit (.seq (.q 1 rfl (.ret (Xh Tryz.results124 rfl ?_))))
 refine ⟨_,rfl,congrArg I64 (Xq1 fun j t ht=>?_).symm,hS⟩
 have:=(Y5.1 ht).1
 exact hno j t (by omega) ht
theorem Xac (tb:Nat) (room:Int) (la:Option Addr) (lc:Nat) (l:List Rec) (hl:l.length≤100000) (name:List UInt8) (B w:World) (I:Im) (hR:RS I la 10 l.length (Xy X7 l)) (As:List Xe) (hS:Sat B w I (blk tb [I64 room,.slice la l.length lc] 79::As)) :
  Calls Tryz.prog 124 [ptr tb 0,S name].toArray w (Ret fun v w'=>(∃ k:Int,v=I64 k∧((k=-1∧get l name=none∧at0 l name=-1)∨∃ (j:Nat) (r:Rec),k=(j:Int)∧l[j]?=some r∧r.name=name∧get l name=some r∧at0 l name=(j:Int)))∧Sat B w' I (blk tb [I64 room,.slice la l.length lc] 79::As)) :=
 (X42 tb room la lc l hl name B w I hR As hS).mono fun e w' ⟨v,he,hv,hS⟩=>⟨v,he,by
  rcases Tr.get_at l name with ⟨h1,h2⟩ | ⟨j,r,h1,h2,h3,h4⟩
  ·exact ⟨⟨-1,by rw [hv,h1],.inl ⟨rfl,h2,h1⟩⟩,hS⟩
  ·exact ⟨⟨j,by rw [hv,h1],.inr ⟨j,r,rfl,h2,h3,h4,h1⟩⟩,hS⟩⟩
theorem X50 (tb:Nat) (room:Int) (la:Option Addr) (lc:Nat) (l:List Rec) (hl:l.length≤100000) (name:List UInt8) (B w:World) (I:Im) (hR:RS I la 10 l.length (Xy X7 l)) (As:List Xe) (hS:Sat B w I (blk tb [I64 room,.slice la l.length lc] 79::As)) :
  Calls Tryz.prog 82 [ptr tb 0,S name].toArray w (Ret fun v w'=>v=.tuple #[.agg (X7 (getD l name)).toArray,.bool (get l name).isSome]∧Sat B w' I (blk tb [I64 room,.slice la l.length lc] 79::As)):=by
 refine calls Qf82 rfl Tryz.ntmps82 rfl (.seq (.region (.allocA (cs:=[_,_,_,_,_,_,_,_,_,_]) hS X7c rfl ?_)))
 clear hS; intro b4 w hS
 refine .q 1 rfl (.nil (.seq (.t 2 rfl (.call Xf6 rfl (X0 (.of rfl) (X0 (.of rfl) X4)) rfl (Xac tb room la lc l hl name B _ I hR _ (hS.pick 1 rfl)) ?_))))
 clear hS
 rintro _ w ⟨⟨k,rfl,hk⟩,hS⟩
 refine .q 1 rfl (.nil (.seq (.seq (.region ?_))))
 rcases hk with ⟨rfl,hg,_⟩ | ⟨j,r,rfl,hr,hn9,hg,_⟩
 ·
  refine .val (.move (.of rfl)) rfl (.q 1 rfl (.nil (.condT (congrArg (fun b=>some (Value.bool b)) (decide_eq_true (by decide))) (.seq (.region (.val (.build (cs:=[_,_,_,_,_,_,_,_,_,_]) X6 X2d rfl) rfl ?_))))))
  refine WL.stA hS (k:=1) rfl (.of rfl) (.of rfl) rfl X17 rfl (by simp) ?_
  clear hS; intro w hS
  try simp only [Yh,Yd,Y9,Y7,Yg,Ym,Yc] at hS
  refine .q 1 rfl (.nil (.ret ?_))
  refine X18 (b:=_) (cs:=[_,_,_,_,_,_,_,_,_,_]) Tryz.results82 hS (k:=1) rfl X36 X17 rfl rfl rfl ?_
  exact ⟨_,rfl,by rw [getD,hg]; rfl,hS.drop (k:=1) rfl⟩
 obtain ⟨q,hq9,hx⟩:=X4d (cells:=X7) (s:=10) (fun _=>rfl) hR hr
 subst hq9
 unfold X7 at hx
 have hjl:=(Y5.1 hr).1
 refine .val (.move (.of rfl)) rfl (.q 1 rfl (.nil (.condF (congrArg (fun b=>some (Value.bool b)) (decide_eq_false (by omega))) (.skip (.seq (.t 2 rfl ?_))))))
 refine WL.val (.fieldAddr 1 (.of rfl) Xdk rfl rfl X61 rfl) rfl ?_
 refine WL.val (.ld (.of rfl) hS (k:=0) rfl Xbz rfl) rfl ?_
 refine .q 1 rfl ?_
 refine WL.val (.indexAddrI (.of rfl) (.of rfl) (by omega) (by omega) X2x X17) rfl ?_
 refine WL.val (.ldsI (.of rfl) hS hx X36 X17 rfl (fun _ _ h=>h)) rfl ?_
 refine WL.stA hS (k:=1) rfl (.of rfl) (.of rfl) rfl X17 rfl (by simp) ?_
 clear hS; intro w hS
 try simp only [Yh,Yd,Y9,Y7,Yg,Ym,Yc] at hS
 refine .q 1 rfl (.nil (.ret ?_))
 refine X18 (b:=_) (cs:=[_,_,_,_,_,_,_,_,_,_]) Tryz.results82 hS (k:=1) rfl X36 X17 rfl rfl rfl ?_
 exact ⟨_,rfl,by rw [getD,hg]; rfl,hS.drop (k:=1) rfl⟩
theorem X8j (tb:Nat) (room:Int) (la:Option Addr) (lc:Nat) (l:List Rec) (hl:l.length≤100000) (hwf:Wf l) (name:List UInt8) (B w:World) (I:Im) (hR:RS I la 10 l.length (Xy X7 l)) (As:List Xe) (hS:Sat B w I (blk tb [I64 room,.slice la l.length lc] 79::As)) :
  Calls Tryz.prog 81 [ptr tb 0,S name].toArray w (Ret fun v w'=>∃ J ra rc,v=.slice ra (path l name).length rc∧Le I J∧(path l name).length≤rc∧RS J ra 1 (path l name).length ((path l name).map fun r=>S r.name)∧Sat B w' J (blk tb [I64 room,.slice la l.length lc] 79::As)):=by
 refine calls Tryz.func81 rfl Tryz.ntmps81 rfl (.seq (.q 1 rfl (.seq (.q 1 rfl (.seq (.t 2 rfl (.call Xf6 rfl (X0 (.of rfl) (X0 (.of rfl) X4)) rfl (X42 tb room la lc l hl name B _ I hR _ hS) ?_)))))))
 clear hS
 rintro _ w ⟨rfl,hS⟩
 replace hS:=hS.vecNil 9 1
 refine .q 1 rfl (.nil (.seq (.block (.loop (σ:=Value×Int×List Rec) (fun ⟨kv,i,D⟩=>[(0,ptr tb 0),(1,S name),(5,kv),(6,I64 i)]) (fun ⟨kv,i,D⟩ w=>path l name=D ++ Xdb l i∧-1≤i∧i<l.length∧Sat B w I (Vec 9 1 kv D.length (D.map fun r=>S r.name)::blk tb [I64 room,.slice la l.length lc] 79::As)) (fun ⟨kv,i,D⟩=>(i+1).toNat) (.slice none 0 0,at0 l name,[]) ⟨rfl,rfl,rfl,rfl,trivial⟩ ⟨rfl,Xkg l name,Xed l name,hS⟩ ?_))))
 rintro ⟨kv,i,D⟩ w ⟨hp2,hi1,hi2,hS⟩
 refine .seq (.seq (.q 2 rfl ?_))
 refine WC.cond rfl (fun hb11=>?_) (fun hb11=>?_)
 ·
  refine .skip (.block (.seq ?_))
  obtain ⟨n9,rfl⟩:∃ q:Nat,i=(q:Int):=⟨i.toNat,by simp at hb11; omega⟩
  obtain ⟨r,hr⟩:∃ r,l[n9]?=some r:=⟨_,Y4 (by omega)⟩
  obtain ⟨q,hq9,hx⟩:=X4d (cells:=X7) (s:=10) (fun _=>rfl) hR hr
  subst hq9
  unfold X7 at hx
  have hql:n9<l.length:=by omega
  have hup:=(hwf.up n9 r hr).2
  have hDl:D.length≤l.length:=by have h1:=X45 hwf name; rw [hp2,Y0] at h1; omega
  refine .t 3 rfl ?_
  refine WL.val (.fieldAddr 1 (.of rfl) Xdk rfl rfl X61 rfl) rfl ?_
  refine WL.val (.ld (.of rfl) hS (k:=1) rfl Xbz rfl) rfl ?_
  refine .q 1 rfl ?_
  refine WL.val (.indexAddrI (.of rfl) (.of rfl) (by omega) (by omega) X2x X17) rfl ?_
  refine WL.val (.fieldAddrI 1 (.of rfl) X16 rfl rfl Qs9 rfl) rfl ?_
  refine WL.val (.ldI (.of rfl) hS (At.add hx _) Qg9 rfl) rfl ?_
  refine .buildSlice (cs:=[_]) hS (X5 (.of rfl) X6) X1p Qs9 Qz9 rfl rfl rfl rfl ?_
  clear hS; intro b21 w hS
  refine WL.append (size:=1) (bytes:=16) hS (.of rfl) (.of rfl) (k:=0) rfl X1p X21 rfl rfl rfl rfl rfl rfl rfl ⟨by omega,by unfold maxLen; omega⟩ rfl ?_
  clear hS; intro v22 w hS
  obtain ⟨a22,c22,rfl,hcap22,_⟩:=hS.vecSlice (k:=0) (v:=v22) rfl
  refine .q 1 rfl (.nil (.t 3 rfl ?_))
  refine WL.val (.fieldAddr 1 (.of rfl) Xdk rfl rfl X61 rfl) rfl ?_
  refine WL.val (.ld (.of rfl) hS (k:=1) rfl Xbz rfl) rfl ?_
  refine .q 1 rfl ?_
  refine WL.val (.indexAddrI (.of rfl) (.of rfl) (by omega) (by omega) X2x X17) rfl ?_
  refine WL.val (.fieldAddrI 2 (.of rfl) X16 rfl rfl Qs9 rfl) rfl ?_
  refine WL.val (.ldI (.of rfl) hS (At.add hx _) Qg9 rfl) rfl ?_
  refine .call Xf6 rfl (X0 (.of rfl) (X0 (.of rfl) X4)) rfl (X42 tb room (some q) lc l hl r.parent B _ I hR _ (hS.pick 1 rfl)) ?_
  clear hS
  rintro _ w ⟨rfl,hS⟩
  refine .q 1 rfl (.nil ?_)
  refine ⟨(.slice a22 (D.length+1) c22,at0 l r.parent,D ++ [r]),⟨rfl,rfl,rfl,rfl,trivial⟩,⟨by (try dsimp only); rw [hp2,Xau hwf hr,Yf]; rfl,Xkg l _,Xed l _,?_⟩,by (try dsimp only); omega⟩
  rw [Y0,Yx]
  exact (hS.pick 1 rfl)
 refine .exit (.seq (.q 2 rfl (.ret (Xh Tryz.results81 rfl ?_))))
 have hin:i<0:=by simp at hb11; omega
 rw [X66 l hin,Y9] at hp2
 subst hp2
 obtain ⟨ka,kc,rfl,hkc,_⟩:=hS.vecSlice (k:=0) rfl
 obtain ⟨J,hJ,hRS,hS⟩:=hS.freezeVec (k:=0) rfl
 exact ⟨_,rfl,J,ka,kc,rfl,hJ,hkc,hRS,hS⟩
theorem Xgp (tb:Nat) (room:Int) (la:Option Addr) (lc:Nat) (l:List Rec) (hl:l.length≤100000) (r:Rec) (hn:r.name.length≤9223372036854775000) (hp:r.parent.length≤9223372036854775000) (B w:World) (I:Im) (hR:RS I la 10 l.length (Xy X7 l)) (As:List Xe) (hS:Sat B w I (blk tb [I64 room,.slice la l.length lc] 79::As)) :
  Calls Tryz.prog 73 [ptr tb 0,.agg (X7 r).toArray].toArray w (Ret fun v w'=>v=I64 (X6k room l r:Nat)∧∃ J oa oc,Le I J∧RS J oa 10 (add room l r).length (Xy X7 (add room l r))∧Sat B w' J (blk tb [I64 room,.slice oa (add room l r).length oc] 79::As)):=by
 refine calls Tryz.func73 rfl Tryz.ntmps73 rfl (.seq (.region (.boxA (cs:=[_,_,_,_,_,_,_,_,_,_]) hS (.of rfl) rfl ?_)))
 clear hS; intro b3 w hS
 refine .q 1 rfl (.nil (.seq (.region ?_)))
 refine WL.val (.ldsW (cs:=[_,_,_,_,_,_,_,_,_,_]) (.of rfl) hS (k:=0) rfl X36 X17 rfl) rfl ?_
 refine .call Tryz.func123 rfl (X0 (.of rfl) X4) rfl (X7e r hn hp B _ I _ hS) ?_
 clear hS
 rintro _ w ⟨rfl,hS⟩
 refine .q 1 rfl (.nil (.seq (.seq (.q 2 rfl ?_))))
 refine WC.cond rfl (fun hb9=>?_) (fun hb9=>?_)
 ·
  refine .seq (.q 1 rfl (.ret (Xh Xov rfl ?_)))
  have h1:Xt r=false:=by simpa using hb9
  have hE:X6k room l r=1:=by rw [X6k,if_pos h1]
  have hQ:add room l r=l:=by rw [add,if_neg (by rw [hE]; decide)]
  rw [hE,hQ]
  exact ⟨_,rfl,rfl,I,la,lc,Le.refl _,hR,((hS.pick 1 rfl).drop (k:=1) rfl)⟩
 refine .skip (.seq (.seq (.t 1 rfl ?_)))
 refine WL.val (.fieldAddr 1 (.of rfl) X16 rfl rfl Qs9 rfl) rfl ?_
 refine WL.val (.ld (.of rfl) hS (k:=0) rfl Qg9 rfl) rfl ?_
 refine .call Xf6 rfl (X0 (.of rfl) (X0 (.of rfl) X4)) rfl (X42 tb room la lc l hl r.name B _ I hR _ (hS.pick 1 rfl)) ?_
 clear hS
 rintro _ w ⟨rfl,hS⟩
 refine .q 1 rfl (.nil ?_)
 refine WC.cond rfl (fun hb14=>?_) (fun hb14=>?_)
 ·
  refine .seq (.q 1 rfl (.ret (Xh Xov rfl ?_)))
  have h1:¬ Xt r=false:=by simpa using hb9
  have h2:0≤at0 l r.name:=by simpa using hb14
  have hE:X6k room l r=7:=by rw [X6k,if_neg h1,if_pos h2]
  have hQ:add room l r=l:=by rw [add,if_neg (by rw [hE]; decide)]
  rw [hE,hQ]
  exact ⟨_,rfl,rfl,I,la,lc,Le.refl _,hR,(hS.drop (k:=1) rfl)⟩
 refine .skip (.seq (.seq (.region ?_)))
 refine WL.val (.fieldAddr 2 (.of rfl) X16 rfl rfl Qs9 rfl) rfl ?_
 refine WL.val (.ld (.of rfl) hS (k:=1) rfl Qg9 rfl) rfl ?_
 refine .q 2 rfl (.gval rfl rfl (fun hg1=>(.move (.of rfl))) rfl ?_)
 refine WL.gval rfl rfl (fun hg1=>(by exact .fieldAddr 2 (.of rfl) X16 rfl rfl Qs9 rfl)) rfl ?_
 refine WL.gval rfl rfl (fun hg1=>(by exact (.ld (.gd hg1 rfl) hS (k:=1) rfl Qg9 rfl))) rfl ?_
 refine .gcall (T:=fun w=>Sat B w I _) rfl rfl rfl Xf6 rfl (fun hg1=>(X0 (.gd hg1 rfl) (X0 (.gd hg1 rfl) X4))) rfl (fun hg1=>X42 tb room la lc l hl r.parent B _ I hR _ hS) hS ?_
 clear hS; rintro w hS
 refine .gval rfl rfl (fun hg1=>(.lss (.gd hg1 rfl) (.of rfl))) rfl (.val (.pand (.of rfl) (.of rfl) (.of rfl)) rfl (.nil ?_))
 refine WC.cond rfl (fun hb24=>?_) (fun hb24=>?_)
 ·
  refine .seq (.q 1 rfl (.ret (Xh Xov rfl ?_)))
  have h1:¬ Xt r=false:=by simpa using hb9
  have h2:¬ 0≤at0 l r.name:=by simpa using hb14
  have h3:r.parent≠[]∧at0 l r.parent<0:=by simpa using hb24
  have hE:X6k room l r=6:=by rw [X6k,if_neg h1,if_neg h2,if_pos h3]
  have hQ:add room l r=l:=by rw [add,if_neg (by rw [hE]; decide)]
  rw [hE,hQ]
  exact ⟨_,rfl,rfl,I,la,lc,Le.refl _,hR,(hS.drop (k:=1) rfl)⟩
 refine .skip (.seq (.seq (.drawn (fun w=>∃ R,Sat B w I (blk tb [I64 room,.slice la l.length lc] 79::R)) (fun j=>!([].contains j)) (by kernel_rfl) ?_)))
 replace hS:=hS.drew; generalize w.drew=w at hS ⊢
 have hH:=(hS.pick 0 rfl)
 refine .tp (i:=0) rfl (by kernel_rfl) (fun w=>(.move (.of rfl))) rfl (.tp (i:=1) rfl (by kernel_rfl) (fun w=>(.nilCheck (.of rfl))) rfl ?_)
 refine WD.tp (i:=2) rfl (by kernel_rfl) (fun w=>(.fieldAddr 1 (.of rfl) Xdk rfl rfl X61 rfl)) rfl ?_
 refine .tk (i:=3) rfl (by kernel_rfl) ⟨_,hH⟩ (fun w ⟨R,hS⟩=>(.ld (.of rfl) hS (k:=0) rfl Xbz rfl)) rfl (.tp (i:=4) rfl (by kernel_rfl) (fun w=>(.lenSlice (.of rfl) X2x)) rfl (.tp (i:=5) rfl (by kernel_rfl) (fun w=>(.move (.of rfl))) rfl (.tp (i:=6) rfl (by kernel_rfl) (fun w=>(.nilCheck (.of rfl))) rfl ?_)))
 refine WD.tp (i:=7) rfl (by kernel_rfl) (fun w=>(.fieldAddr 0 (.of rfl) Xdk rfl rfl Qs3 rfl)) rfl ?_
 refine .tk (i:=8) rfl (by kernel_rfl) ⟨_,hH⟩ (fun w ⟨R,hS⟩=>(.ld (.of rfl) hS (k:=0) rfl Qg3 rfl)) rfl (.tp (i:=9) rfl (by kernel_rfl) (fun w=>(.geq (.of rfl) (.of rfl))) rfl (.done (by kernel_rfl) ?_))
 refine WC.cond rfl (fun hb34=>?_) (fun hb34=>?_)
 ·
  refine .seq (.q 1 rfl (.ret (Xh Xov rfl ?_)))
  have h1:¬ Xt r=false:=by simpa using hb9
  have h2:¬ 0≤at0 l r.name:=by simpa using hb14
  have h3:¬ (r.parent≠[]∧at0 l r.parent<0):=by simpa using hb24
  have h4:room≤l.length:=by simpa using hb34
  have hE:X6k room l r=5:=by rw [X6k,if_neg h1,if_neg h2,if_neg h3,if_pos h4]
  have hQ:add room l r=l:=by rw [add,if_neg (by rw [hE]; decide)]
  rw [hE,hQ]
  exact ⟨_,rfl,rfl,I,la,lc,Le.refl _,hR,(hS.drop (k:=1) rfl)⟩
 refine .skip (.seq (.drawn (fun w=>∃ R,Sat B w I (blk tb [I64 room,.slice la l.length lc] 79::blk b3 [I64 r.kind,S r.name,S r.parent,S r.user,S r.service,S r.url,I64 r.made,I64 r.used,I64 r.uses,.bool r.fresh] 45::R)) (fun j=>!([12].contains j)) (by kernel_rfl) ?_))
 replace hS:=hS.drew; generalize w.drew=w at hS ⊢
 have hH:=((hS.pick 1 rfl).pick 1 rfl)
 refine .tp (i:=0) rfl (by kernel_rfl) (fun w=>(.move (.of rfl))) rfl (.tp (i:=2) rfl (by kernel_rfl) (fun w=>(.move (.of rfl))) rfl (.tp (i:=3) rfl (by kernel_rfl) (fun w=>(.nilCheck (.of rfl))) rfl ?_))
 refine WD.tp (i:=4) rfl (by kernel_rfl) (fun w=>(.fieldAddr 1 (.of rfl) Xdk rfl rfl X61 rfl)) rfl ?_
 refine WD.tk (i:=5) rfl (by kernel_rfl) ⟨_,hH⟩ (fun w ⟨R,hS⟩=>((.ld (.of rfl) hS (k:=0) rfl Xbz rfl))) rfl ?_
 refine WD.tk (i:=7) rfl (by kernel_rfl) ⟨_,hH⟩ (fun w ⟨R,hS⟩=>((.ldsW (cs:=[_,_,_,_,_,_,_,_,_,_]) (.of rfl) hS (k:=1) rfl X36 X17 rfl))) rfl ?_
 refine WD.branch [1,8] (by kernel_rfl) rfl (WO.cons rfl ?_ (WO.cons rfl ?_ (WO.nil)))
 ·
  refine .buildSlice (cs:=[]) hS X6 X2x X17 X7c rfl rfl rfl rfl ?_
  clear hS; intro b36 w hS
  refine .nil ?_
  clear hH
  have hH:=((hS.pick 2 rfl).pick 2 rfl)
  refine And.intro (by intro _ _; exact ⟨_,hH⟩) ?_
  refine WD.branch [6,8] (by kernel_rfl) rfl (WO.cons rfl ?_ (WO.cons rfl ?_ (WO.nil)))
  ·
   replace hS:=hS.vecOf (k:=0) (E:=45) (size:=10) (n:=0) rfl rfl (by decide)
   refine WL.appendF (size:=10) (bytes:=120) hS (.of rfl) (.of rfl) hR (k:=0) rfl X2x (i:=Tryz.t45) (by kernel_rfl) rfl rfl rfl rfl (X52 l) ⟨by omega,by unfold maxLen; omega⟩ rfl ?_
   clear hS; intro v41 w hS
   rw [Yc,Yd] at hS
   refine .nil ?_
   clear hH
   have hH:=((hS.pick 2 rfl).pick 2 rfl)
   refine And.intro (by intro _ _; exact ⟨_,hH⟩) ?_
   refine WD.branch [8] (by kernel_rfl) rfl (WO.cons rfl ?_ (WO.nil))
   refine .buildSlice (cs:=[_,_,_,_,_,_,_,_,_,_]) hS (X5 (.of rfl) X6) X2x X17 X7c rfl rfl rfl rfl ?_
   clear hS; intro b43 w hS
   refine .nil ?_
   clear hH
   have hH:=((hS.pick 3 rfl).pick 3 rfl)
   refine And.intro (by intro _ _; exact ⟨_,hH⟩) ?_
   refine WD.branch [9] (by kernel_rfl) rfl (WO.cons rfl ?_ (WO.nil))
   refine WL.append (size:=10) (bytes:=120) hS (.of rfl) (.of rfl) (k:=0) rfl X2x X5z rfl rfl rfl rfl rfl rfl rfl ⟨by omega,by unfold maxLen; omega⟩ rfl ?_
   clear hS; intro v44 w hS
   obtain ⟨a44,c44,rfl,hcap44,_⟩:=hS.vecSlice (k:=0) (v:=v44) rfl
   refine .nil ?_
   clear hH
   have hH:=((hS.pick 2 rfl).pick 2 rfl)
   refine And.intro (by intro _ _; exact ⟨_,hH⟩) ?_
   refine .tp (i:=10) rfl (by kernel_rfl) (fun w=>(.nilCheck (.of rfl))) rfl ?_
   refine WD.tp (i:=11) rfl (by kernel_rfl) (fun w=>(.fieldAddr 1 (.of rfl) Xdk rfl rfl X61 rfl)) rfl ?_
   refine WD.branch [12] (by kernel_rfl) rfl (WO.cons rfl ?_ (WO.nil))
   refine WL.st1 hS (k:=1) rfl (.of rfl) (.of rfl) rfl X61 (by simp) ?_
   clear hS; intro w hS
   refine .nil ?_
   refine And.intro (by intro h; cases h) ?_
   refine .done (by kernel_rfl) (.seq (.q 1 rfl (.ret (Xh Xov rfl ?_))))
   have h1:¬ Xt r=false:=by simpa using hb9
   replace hS:=(((hS.pick 1 rfl).pick 1 rfl).drop (k:=2) rfl)
   obtain ⟨oa,oc,ho9,hoc,_⟩:=hS.vecSlice (k:=0) rfl
   rw [ho9] at hS
   obtain ⟨J2,hJ2,hR2,hS⟩:=hS.freezeVec (k:=0) rfl
   have h2:¬ 0≤at0 l r.name:=by simpa using hb14
   have h3:¬ (r.parent≠[]∧at0 l r.parent<0):=by simpa using hb24
   have h4:¬ room≤l.length:=by simpa using hb34
   have hE:X6k room l r=0:=by rw [X6k,if_neg h1,if_neg h2,if_neg h3,if_neg h4]
   have hQ:add room l r=l ++ [r]:=by rw [add,if_pos hE]
   rw [hE,hQ,show (l ++ [r]).length=l.length+1 from Y0,show Xy X7 (l ++ [r])=Xv l ++ X7 r from X56 l r]
   exact ⟨_,rfl,rfl,J2,oa,oc,hJ2,hR2,hS⟩
  ·
   refine .buildSlice (cs:=[_,_,_,_,_,_,_,_,_,_]) hS (X5 (.of rfl) X6) X2x X17 X7c rfl rfl rfl rfl ?_
   clear hS; intro b43 w hS
   refine .nil ?_
   clear hH
   have hH:=((hS.pick 3 rfl).pick 3 rfl)
   refine And.intro (by intro _ _; exact ⟨_,hH⟩) ?_
   refine WD.branch [6] (by kernel_rfl) rfl (WO.cons rfl ?_ (WO.nil))
   replace hS:=hS.vecOf (k:=1) (E:=45) (size:=10) (n:=0) rfl rfl (by decide)
   refine WL.appendF (size:=10) (bytes:=120) hS (.of rfl) (.of rfl) hR (k:=1) rfl X2x (i:=Tryz.t45) (by kernel_rfl) rfl rfl rfl rfl (X52 l) ⟨by omega,by unfold maxLen; omega⟩ rfl ?_
   clear hS; intro v41 w hS
   rw [Yc,Yd] at hS
   refine .nil ?_
   clear hH
   have hH:=((hS.pick 3 rfl).pick 3 rfl)
   refine And.intro (by intro _ _; exact ⟨_,hH⟩) ?_
   refine WD.branch [9] (by kernel_rfl) rfl (WO.cons rfl ?_ (WO.nil))
   refine WL.append (size:=10) (bytes:=120) hS (.of rfl) (.of rfl) (k:=0) rfl X2x X5z rfl rfl rfl rfl rfl rfl rfl ⟨by omega,by unfold maxLen; omega⟩ rfl ?_
   clear hS; intro v44 w hS
   obtain ⟨a44,c44,rfl,hcap44,_⟩:=hS.vecSlice (k:=0) (v:=v44) rfl
   refine .nil ?_
   clear hH
   have hH:=((hS.pick 2 rfl).pick 2 rfl)
   refine And.intro (by intro _ _; exact ⟨_,hH⟩) ?_
   refine .tp (i:=10) rfl (by kernel_rfl) (fun w=>(.nilCheck (.of rfl))) rfl ?_
   refine WD.tp (i:=11) rfl (by kernel_rfl) (fun w=>(.fieldAddr 1 (.of rfl) Xdk rfl rfl X61 rfl)) rfl ?_
   refine WD.branch [12] (by kernel_rfl) rfl (WO.cons rfl ?_ (WO.nil))
   refine WL.st1 hS (k:=1) rfl (.of rfl) (.of rfl) rfl X61 (by simp) ?_
   clear hS; intro w hS
   refine .nil ?_
   refine And.intro (by intro h; cases h) ?_
   refine .done (by kernel_rfl) (.seq (.q 1 rfl (.ret (Xh Xov rfl ?_))))
   have h1:¬ Xt r=false:=by simpa using hb9
   replace hS:=(((hS.pick 1 rfl).pick 1 rfl).drop (k:=2) rfl)
   obtain ⟨oa,oc,ho9,hoc,_⟩:=hS.vecSlice (k:=0) rfl
   rw [ho9] at hS
   obtain ⟨J2,hJ2,hR2,hS⟩:=hS.freezeVec (k:=0) rfl
   have h2:¬ 0≤at0 l r.name:=by simpa using hb14
   have h3:¬ (r.parent≠[]∧at0 l r.parent<0):=by simpa using hb24
   have h4:¬ room≤l.length:=by simpa using hb34
   have hE:X6k room l r=0:=by rw [X6k,if_neg h1,if_neg h2,if_neg h3,if_neg h4]
   have hQ:add room l r=l ++ [r]:=by rw [add,if_pos hE]
   rw [hE,hQ,show (l ++ [r]).length=l.length+1 from Y0,show Xy X7 (l ++ [r])=Xv l ++ X7 r from X56 l r]
   exact ⟨_,rfl,rfl,J2,oa,oc,hJ2,hR2,hS⟩
 ·
  refine .buildSlice (cs:=[_,_,_,_,_,_,_,_,_,_]) hS (X5 (.of rfl) X6) X2x X17 X7c rfl rfl rfl rfl ?_
  clear hS; intro b43 w hS
  refine .nil ?_
  clear hH
  have hH:=((hS.pick 2 rfl).pick 2 rfl)
  refine And.intro (by intro _ _; exact ⟨_,hH⟩) ?_
  refine WD.branch [1] (by kernel_rfl) rfl (WO.cons rfl ?_ (WO.nil))
  refine .buildSlice (cs:=[]) hS X6 X2x X17 X7c rfl rfl rfl rfl ?_
  clear hS; intro b36 w hS
  refine .nil ?_
  clear hH
  have hH:=((hS.pick 3 rfl).pick 3 rfl)
  refine And.intro (by intro _ _; exact ⟨_,hH⟩) ?_
  refine WD.branch [6] (by kernel_rfl) rfl (WO.cons rfl ?_ (WO.nil))
  replace hS:=hS.vecOf (k:=0) (E:=45) (size:=10) (n:=0) rfl rfl (by decide)
  refine WL.appendF (size:=10) (bytes:=120) hS (.of rfl) (.of rfl) hR (k:=0) rfl X2x (i:=Tryz.t45) (by kernel_rfl) rfl rfl rfl rfl (X52 l) ⟨by omega,by unfold maxLen; omega⟩ rfl ?_
  clear hS; intro v41 w hS
  rw [Yc,Yd] at hS
  refine .nil ?_
  clear hH
  have hH:=((hS.pick 3 rfl).pick 3 rfl)
  refine And.intro (by intro _ _; exact ⟨_,hH⟩) ?_
  refine WD.branch [9] (by kernel_rfl) rfl (WO.cons rfl ?_ (WO.nil))
  replace hS:=hS.pick 1 rfl
  refine WL.append (size:=10) (bytes:=120) hS (.of rfl) (.of rfl) (k:=0) rfl X2x X5z rfl rfl rfl rfl rfl rfl rfl ⟨by omega,by unfold maxLen; omega⟩ rfl ?_
  clear hS; intro v44 w hS
  obtain ⟨a44,c44,rfl,hcap44,_⟩:=hS.vecSlice (k:=0) (v:=v44) rfl
  refine .nil ?_
  clear hH
  have hH:=((hS.pick 2 rfl).pick 2 rfl)
  refine And.intro (by intro _ _; exact ⟨_,hH⟩) ?_
  refine .tp (i:=10) rfl (by kernel_rfl) (fun w=>(.nilCheck (.of rfl))) rfl ?_
  refine WD.tp (i:=11) rfl (by kernel_rfl) (fun w=>(.fieldAddr 1 (.of rfl) Xdk rfl rfl X61 rfl)) rfl ?_
  refine WD.branch [12] (by kernel_rfl) rfl (WO.cons rfl ?_ (WO.nil))
  refine WL.st1 hS (k:=1) rfl (.of rfl) (.of rfl) rfl X61 (by simp) ?_
  clear hS; intro w hS
  refine .nil ?_
  refine And.intro (by intro h; cases h) ?_
  refine .done (by kernel_rfl) (.seq (.q 1 rfl (.ret (Xh Xov rfl ?_))))
  have h1:¬ Xt r=false:=by simpa using hb9
  replace hS:=(((hS.pick 1 rfl).pick 1 rfl).drop (k:=2) rfl)
  obtain ⟨oa,oc,ho9,hoc,_⟩:=hS.vecSlice (k:=0) rfl
  rw [ho9] at hS
  obtain ⟨J2,hJ2,hR2,hS⟩:=hS.freezeVec (k:=0) rfl
  have h2:¬ 0≤at0 l r.name:=by simpa using hb14
  have h3:¬ (r.parent≠[]∧at0 l r.parent<0):=by simpa using hb24
  have h4:¬ room≤l.length:=by simpa using hb34
  have hE:X6k room l r=0:=by rw [X6k,if_neg h1,if_neg h2,if_neg h3,if_neg h4]
  have hQ:add room l r=l ++ [r]:=by rw [add,if_pos hE]
  rw [hE,hQ,show (l ++ [r]).length=l.length+1 from Y0,show Xy X7 (l ++ [r])=Xv l ++ X7 r from X56 l r]
  exact ⟨_,rfl,rfl,J2,oa,oc,hJ2,hR2,hS⟩
theorem Xha (tb:Nat) (room:Int) (la:Option Addr) (lc:Nat) (l:List Rec) (hl:l.length≤100000) (r:Rec) (hn:r.name.length≤9223372036854775000) (hp:r.parent.length≤9223372036854775000) (B w:World) (I:Im) (hR:RS I la 10 l.length (Xy X7 l)) (As:List Xe) (hS:Sat B w I (blk tb [I64 room,.slice la l.length lc] 79::As)) :
  Calls Tryz.prog 75 [ptr tb 0,.agg (X7 r).toArray].toArray w (Ret fun v w'=>v=I64 (X9o l r:Nat)∧∃ J oa oc,Le I J∧RS J oa 10 (put l r).length (Xy X7 (put l r))∧Sat B w' J (blk tb [I64 room,.slice oa (put l r).length oc] 79::As)):=by
 refine calls Tryz.func75 rfl Tryz.ntmps75 rfl (.seq (.region (.boxA (cs:=[_,_,_,_,_,_,_,_,_,_]) hS (.of rfl) rfl ?_)))
 clear hS; intro b3 w hS
 refine .q 1 rfl (.nil (.seq (.region ?_)))
 refine WL.val (.ldsW (cs:=[_,_,_,_,_,_,_,_,_,_]) (.of rfl) hS (k:=0) rfl X36 X17 rfl) rfl ?_
 refine .call Tryz.func123 rfl (X0 (.of rfl) X4) rfl (X7e r hn hp B _ I _ hS) ?_
 clear hS
 rintro _ w ⟨rfl,hS⟩
 refine .q 1 rfl (.nil (.seq (.seq (.q 2 rfl ?_))))
 refine WC.cond rfl (fun hb11=>?_) (fun hb11=>?_)
 ·
  refine .seq (.q 1 rfl (.ret (Xh Qr75 rfl ?_)))
  have h1:Xt r=false:=by simpa using hb11
  have hE:X9o l r=1:=by rw [X9o,if_pos h1]
  have hQ:put l r=l:=by rw [put,if_neg (by rw [hE]; decide)]
  rw [hE,hQ]
  exact ⟨_,rfl,rfl,I,_,lc,Le.refl _,hR,((hS.pick 1 rfl).drop (k:=1) rfl)⟩
 refine .skip (.seq (.t 1 rfl ?_))
 refine WL.val (.fieldAddr 1 (.of rfl) X16 rfl rfl Qs9 rfl) rfl ?_
 refine WL.val (.ld (.of rfl) hS (k:=0) rfl Qg9 rfl) rfl ?_
 refine .call Xf6 rfl (X0 (.of rfl) (X0 (.of rfl) X4)) rfl (Xac tb room la lc l hl r.name B _ I hR _ (hS.pick 1 rfl)) ?_
 clear hS
 rintro _ w ⟨⟨k,rfl,hk⟩,hS⟩
 refine .q 1 rfl (.nil (.seq (.seq (.region ?_))))
 rcases hk with ⟨rfl,hg,_⟩ | ⟨j,t,rfl,hr,hn9,hg,hj⟩
 ·
  refine .val (.move (.of rfl)) rfl (.q 1 rfl (.nil (.condT (congrArg (fun b=>some (Value.bool b)) (decide_eq_true (by decide))) (.seq (.q 1 rfl (.ret (Xh Qr75 rfl ?_)))))))
  have h1:¬ Xt r=false:=by simpa using hb11
  have hE:X9o l r=6:=by rw [X9o,if_neg h1,hg]
  have hQ:put l r=l:=by rw [put,if_neg (by rw [hE]; decide)]
  rw [hE,hQ]
  exact ⟨_,rfl,rfl,I,_,lc,Le.refl _,hR,(hS.drop (k:=1) rfl)⟩
 obtain ⟨q,hq9,hx⟩:=X4d (cells:=X7) (s:=10) (fun _=>rfl) hR hr
 subst hq9
 unfold X7 at hx
 have hjl:=(Y5.1 hr).1
 refine .val (.move (.of rfl)) rfl (.q 1 rfl (.nil (.condF (congrArg (fun b=>some (Value.bool b)) (decide_eq_false (by omega))) (.skip (.seq (.seq (.drawn (fun w=>∃ R,Sat B w I (blk tb [I64 room,.slice (some q) l.length lc] 79::blk b3 [I64 r.kind,S r.name,S r.parent,S r.user,S r.service,S r.url,I64 r.made,I64 r.used,I64 r.uses,.bool r.fresh] 45::R)) (fun j=>!([].contains j)) (by kernel_rfl) ?_)))))))
 replace hS:=hS.drew; generalize w.drew=w at hS ⊢
 have hH:=((hS.pick 1 rfl).pick 1 rfl)
 refine .tp (i:=0) rfl (by kernel_rfl) (fun w=>(.move (.of rfl))) rfl (.tp (i:=1) rfl (by kernel_rfl) (fun w=>(.nilCheck (.of rfl))) rfl ?_)
 refine WD.tp (i:=2) rfl (by kernel_rfl) (fun w=>(.fieldAddr 1 (.of rfl) Xdk rfl rfl X61 rfl)) rfl ?_
 refine WD.tk (i:=3) rfl (by kernel_rfl) ⟨_,hH⟩ (fun w ⟨R,hS⟩=>((.ld (.of rfl) hS (k:=0) rfl Xbz rfl))) rfl ?_
 refine .tp (i:=4) rfl (by kernel_rfl) (fun w=>(.move (.of rfl))) rfl ?_
 refine WD.tp (i:=5) rfl (by kernel_rfl) (fun w=>(.indexAddrI (.of rfl) (.of rfl) (by omega) (by omega) X2x X17)) rfl ?_
 refine WD.tp (i:=6) rfl (by kernel_rfl) (fun w=>(.fieldAddrI 2 (.of rfl) X16 rfl rfl Qs9 rfl)) rfl ?_
 refine WD.tk (i:=7) rfl (by kernel_rfl) ⟨_,hH⟩ (fun w ⟨R,hS⟩=>((.ldI (.of rfl) hS (At.add hx _) Qg9 rfl))) rfl ?_
 refine WD.tp (i:=8) rfl (by kernel_rfl) (fun w=>(.fieldAddr 2 (.of rfl) X16 rfl rfl Qs9 rfl)) rfl ?_
 refine WD.tk (i:=9) rfl (by kernel_rfl) ⟨_,hH⟩ (fun w ⟨R,hS⟩=>((.ld (.of rfl) hS (k:=1) rfl Qg9 rfl))) rfl ?_
 refine .tp (i:=10) rfl (by kernel_rfl) (fun w=>(.nes (.of rfl) (.of rfl))) rfl (.done (by kernel_rfl) ?_)
 refine WC.cond rfl (fun hb28=>?_) (fun hb28=>?_)
 ·
  refine .seq (.q 1 rfl (.ret (Xh Qr75 rfl ?_)))
  have h1:¬ Xt r=false:=by simpa using hb11
  have h2:t.parent≠r.parent:=by simpa using hb28
  have hE:X9o l r=8:=by rw [X9o,if_neg h1,hg]; exact if_pos h2
  have hQ:put l r=l:=by rw [put,if_neg (by rw [hE]; decide)]
  rw [hE,hQ]
  exact ⟨_,rfl,rfl,I,_,lc,Le.refl _,hR,(hS.drop (k:=1) rfl)⟩
 refine .skip (.seq (.region (.buildSlice (cs:=[]) hS X6 X2x X17 X7c rfl rfl rfl rfl ?_)))
 clear hS; intro b29 w hS
 refine .q 2 rfl ?_
 refine WL.val (.fieldAddr 1 (.of rfl) Xdk rfl rfl X61 rfl) rfl ?_
 refine WL.val (.ld (.of rfl) hS (k:=1) rfl Xbz rfl) rfl ?_
 replace hS:=hS.vecOf (k:=0) (E:=45) (size:=10) (n:=0) rfl rfl (by decide)
 refine WL.appendF (size:=10) (bytes:=120) hS (.of rfl) (.of rfl) hR (k:=0) rfl X2x (i:=Tryz.t45) (by kernel_rfl) rfl rfl rfl rfl (X52 l) ⟨by omega,by unfold maxLen; omega⟩ rfl ?_
 clear hS; intro v34 w hS
 rw [Yc,Yd] at hS
 refine .q 1 rfl (.nil (.seq ?_))
 obtain ⟨gb,cap9,rest9,hv9,hc1,hc2,hl1,hl2,hS⟩:=hS.vecOpen (k:=0) rfl (by omega)
 subst hv9
 refine .t 2 rfl ?_
 refine WL.val (.ldsW (cs:=[_,_,_,_,_,_,_,_,_,_]) (.of rfl) hS (k:=2) rfl X36 X17 rfl) rfl ?_
 refine WL.val (.indexAddr (.of rfl) (.of rfl) (by omega) (by omega) X2x X17) rfl ?_
 refine WL.stA hS (k:=0) rfl (.of rfl) (.of rfl) rfl X17 rfl (by simp only [Y0]; omega) ?_
 clear hS; intro w hS
 rw [Yc,Y2j (by omega),Y2k (by omega),← Yf] at hS
 replace hS:=hS.vecShut (n:=l.length) (size:=10) (k:=0) rfl hc1 hc2 (by simp only [Y0,Ys,Yp,Ye,Yn]; omega) (by simp only [Y0,Ys,Yp,Ye,Yn]; omega)
 refine .nil (.seq (.t 3 rfl ?_))
 refine WL.val (.fieldAddr 1 (.of rfl) Xdk rfl rfl X61 rfl) rfl ?_
 refine WL.st1 hS (k:=1) rfl (.of rfl) (.of rfl) rfl X61 (by simp) ?_
 clear hS; intro w hS
 refine .nil (.seq (.q 1 rfl (.ret (Xh Qr75 rfl ?_))))
 have h1:¬ Xt r=false:=by simpa using hb11
 have h2:¬ t.parent≠r.parent:=by simpa using hb28
 have hE:X9o l r=0:=by rw [X9o,if_neg h1,hg]; exact if_neg h2
 have hQ:put l r=l.set j r:=by rw [put,if_pos hE,hj,Yj]
 replace hS:=((hS.pick 1 rfl).pick 1 rfl)
 obtain ⟨J2,hJ2,hR2,hS⟩:=hS.freezeVec (k:=0) rfl
 rw [hE,hQ,Y25,show Xy X7 (l.set j r)=_ from X93 hjl]
 exact ⟨_,rfl,rfl,J2,_,_,hJ2,hR2,hS.drop (k:=1) rfl⟩
theorem Xg4 (p:Nat→Int) {k:Nat} (h:k<21):(psL p).getD k 0=p k:=by
 rcases (by omega:k=0∨k=1∨k=2∨k=3∨k=4∨k=5∨k=6∨k=7∨k=8∨k=9∨k=10∨k=11∨k=12∨k=13∨k=14∨k=15∨k=16∨k=17∨k=18∨k=19∨k=20) with rfl | rfl | rfl | rfl | rfl | rfl | rfl | rfl | rfl | rfl | rfl | rfl | rfl | rfl | rfl | rfl | rfl | rfl | rfl | rfl | rfl <;> rfl
theorem X6s (p:Nat→Int) {o k:Nat} (e:o=k) (h:k<21):((psL p).map I64)[o]?=some (I64 (p k)):=by
 rw [X34 rfl e h,Xg4 p h]
theorem X51 {p:Nat→Int} {k:Nat} (h:k<21) (hb:X9j (p k)=true):X64 p=false:=by
 rcases (by omega:k=0∨k=1∨k=2∨k=3∨k=4∨k=5∨k=6∨k=7∨k=8∨k=9∨k=10∨k=11∨k=12∨k=13∨k=14∨k=15∨k=16∨k=17∨k=18∨k=19∨k=20) with rfl | rfl | rfl | rfl | rfl | rfl | rfl | rfl | rfl | rfl | rfl | rfl | rfl | rfl | rfl | rfl | rfl | rfl | rfl | rfl | rfl <;> simp [X64,psL,hb]
theorem Xeh {p:Nat→Int} (h:∀ k,k<21→X9j (p k)=false):X64 p=true:=by
 simp [X64,psL,h 0 (by decide),h 1 (by decide),h 2 (by decide),h 3 (by decide),h 4 (by decide),h 5 (by decide),h 6 (by decide),h 7 (by decide),h 8 (by decide),h 9 (by decide),h 10 (by decide),h 11 (by decide),h 12 (by decide),h 13 (by decide),h 14 (by decide),h 15 (by decide),h 16 (by decide),h 17 (by decide),h 18 (by decide),h 19 (by decide),h 20 (by decide)]
theorem Xgo {p:Nat→Int} (h:X64 p=true) (k:Nat) (hk:k<21):0≤p k:=by
 cases e:X9j (p k) with
 | true=>rw [X51 hk e] at h; cases h
 | false=>unfold X9j at e; simp at e; omega
theorem Xb0 (p:Nat→Int) (B w:World) (I:Im) (As:List Xe) (hS:Sat B w I As) :
  Calls Tryz.prog 71 [.agg ((psL p).map I64).toArray].toArray w (Ret fun v w'=>v=.bool (X64 p)∧Sat B w' I As):=by
 refine calls Tryz.func71 rfl Tryz.ntmps71 rfl (.seq (.region (.boxA (cs:=(psL p).map I64) hS (.of rfl) rfl ?_)))
 clear hS; intro b1 w hS
 refine .q 1 rfl (.nil (.seq (.seq (.q 1 rfl (.block (.loop (σ:=Nat) (fun i=>[(1,ptr b1 0),(3,I64 (i:Nat))]) (fun i w=>i≤7∧(∀ j,j<i→X9j (p j)=false∧X9j (p (7+j))=false∧X9j (p (14+j))=false)∧Sat B w I (blk b1 ((psL p).map I64) 31::As)) (fun i=>7 - i) 0 ⟨rfl,rfl,trivial⟩ ⟨Yq _,fun _ h=>absurd h (by omega),hS⟩ ?_))))))
 rintro i w ⟨hi,hno,hS⟩
 refine .seq (.seq (.q 2 rfl ?_))
 refine WC.cond rfl (fun hb5=>?_) (fun hb5=>?_)
 ·
  have hc5:=hb5; try simp only [Y6] at hc5
  refine .skip (.seq (.block (.seq (.t 1 rfl ?_))))
  refine WL.val (.fieldAddr 0 (.of rfl) Xb1 rfl rfl Xc3 rfl) rfl ?_
  refine .val (Ex.arrAddrO (i:=(i:Int)) (.of rfl) (.of rfl) (by omega) (by omega) Xay Qs3) rfl (.val (.ld (.of rfl) hS (k:=0) rfl Qg3 (X6s p (o:=0+0+(i:Int).toNat*1) (k:=i) (by omega) (by omega))) rfl (.q 2 rfl (.gval rfl rfl (fun hg1=>(.move (.of rfl))) rfl ?_)))
  refine WL.gval rfl rfl (fun hg1=>(by exact .fieldAddr 7 (.of rfl) Xb1 rfl rfl Xc3 rfl)) rfl ?_
  refine .gval rfl rfl (fun hg1=>Ex.arrAddrO (i:=(i:Int)) (.gd hg1 rfl) (.gd hg1 rfl) (by omega) (by omega) Xay Qs3) rfl (.gval rfl rfl (fun hg1=>.ld (.gd hg1 rfl) hS (k:=0) rfl Qg3 (X6s p (o:=0+7+(i:Int).toNat*1) (k:=7+i) (by omega) (by omega))) rfl (.gval rfl rfl (fun hg1=>(.lss (.gd hg1 rfl) (.of rfl))) rfl (.val (.por (.of rfl) (.of rfl) (.of rfl)) rfl (.q 1 rfl (.gval rfl rfl (fun hg1=>(.move (.of rfl))) rfl ?_)))))
  refine WL.gval rfl rfl (fun hg1=>(by exact .fieldAddr 14 (.of rfl) Xb1 rfl rfl Xc3 rfl)) rfl ?_
  refine .gval rfl rfl (fun hg1=>Ex.arrAddrO (i:=(i:Int)) (.gd hg1 rfl) (.gd hg1 rfl) (by omega) (by omega) Xay Qs3) rfl (.gval rfl rfl (fun hg1=>.ld (.gd hg1 rfl) hS (k:=0) rfl Qg3 (X6s p (o:=0+14+(i:Int).toNat*1) (k:=14+i) (by omega) (by omega))) rfl (.gval rfl rfl (fun hg1=>(.lss (.gd hg1 rfl) (.of rfl))) rfl (.val (.por (.of rfl) (.of rfl) (.of rfl)) rfl (.q 1 rfl (.gval rfl rfl (fun hg1=>(.move (.of rfl))) rfl ?_)))))
  refine WL.gval rfl rfl (fun hg1=>(by exact .fieldAddr 0 (.of rfl) Xb1 rfl rfl Xc3 rfl)) rfl ?_
  refine .gval rfl rfl (fun hg1=>Ex.arrAddrO (i:=(i:Int)) (.gd hg1 rfl) (.gd hg1 rfl) (by omega) (by omega) Xay Qs3) rfl (.gval rfl rfl (fun hg1=>.ld (.gd hg1 rfl) hS (k:=0) rfl Qg3 (X6s p (o:=0+0+(i:Int).toNat*1) (k:=i) (by omega) (by omega))) rfl (.gval rfl rfl (fun hg1=>(.gtr (.gd hg1 rfl) (.of rfl))) rfl (.val (.por (.of rfl) (.of rfl) (.of rfl)) rfl (.q 1 rfl (.gval rfl rfl (fun hg1=>(.move (.of rfl))) rfl ?_)))))
  refine WL.gval rfl rfl (fun hg1=>(by exact .fieldAddr 7 (.of rfl) Xb1 rfl rfl Xc3 rfl)) rfl ?_
  refine .gval rfl rfl (fun hg1=>Ex.arrAddrO (i:=(i:Int)) (.gd hg1 rfl) (.gd hg1 rfl) (by omega) (by omega) Xay Qs3) rfl (.gval rfl rfl (fun hg1=>.ld (.gd hg1 rfl) hS (k:=0) rfl Qg3 (X6s p (o:=0+7+(i:Int).toNat*1) (k:=7+i) (by omega) (by omega))) rfl (.gval rfl rfl (fun hg1=>(.gtr (.gd hg1 rfl) (.of rfl))) rfl (.val (.por (.of rfl) (.of rfl) (.of rfl)) rfl (.q 1 rfl (.gval rfl rfl (fun hg1=>(.move (.of rfl))) rfl ?_)))))
  refine WL.gval rfl rfl (fun hg1=>(by exact .fieldAddr 14 (.of rfl) Xb1 rfl rfl Xc3 rfl)) rfl ?_
  refine .gval rfl rfl (fun hg1=>Ex.arrAddrO (i:=(i:Int)) (.gd hg1 rfl) (.gd hg1 rfl) (by omega) (by omega) Xay Qs3) rfl (.gval rfl rfl (fun hg1=>.ld (.gd hg1 rfl) hS (k:=0) rfl Qg3 (X6s p (o:=0+14+(i:Int).toNat*1) (k:=14+i) (by omega) (by omega))) rfl (.gval rfl rfl (fun hg1=>(.gtr (.gd hg1 rfl) (.of rfl))) rfl (.val (.por (.of rfl) (.of rfl) (.of rfl)) rfl (.nil ?_))))
  refine WC.cond rfl (fun hb47=>?_) (fun hb47=>?_)
  ·
   have hc47:=hb47; try simp only [Y6] at hc47
   refine .seq (.q 1 rfl (.ret (Xh Tryz.results71 rfl ?_)))
   refine ⟨_,rfl,congrArg Value.bool ?_,hS.drop (k:=0) rfl⟩
   have h3:X9j (p i)=true∨X9j (p (7+i))=true∨X9j (p (14+i))=true:=by
    unfold X9j
    simp at hb47 ⊢
    omega
   rcases h3 with h3 | h3 | h3
   ·exact (X51 (by omega) h3).symm
   ·exact (X51 (by omega) h3).symm
   ·exact (X51 (by omega) h3).symm
  have hc47:=hb47; try simp only [Y6] at hc47
  refine .skip (.region (.run 3 rfl ⟨⟨by omega,by omega⟩,trivial⟩ (.nil ?_)))
  have hb3:X9j (p i)=false∧X9j (p (7+i))=false∧X9j (p (14+i))=false:=by
   unfold X9j
   simp at hb47 ⊢
   omega
  refine ⟨i+1,⟨rfl,rfl,trivial⟩,⟨by (try dsimp only); omega,fun j hj=>?_,hS⟩,by (try dsimp only); omega⟩
  rcases Yr j i with h1 | h1
  ·exact hno j h1
  ·have e:j=i:=by omega
   subst e
   exact hb3
 have hc5:=hb5; try simp only [Y6] at hc5
 refine .exit (.seq (.q 1 rfl (.ret (Xh Tryz.results71 rfl ?_))))
 refine ⟨_,rfl,congrArg Value.bool (Xeh fun k hk=>?_).symm,hS.drop (k:=0) rfl⟩
 rcases Yr k 7 with h1 | h1
 ·exact (hno k (by omega)).1
 ·rcases Yr k 14 with h2 | h2
  ·have:=(hno (k - 7) (by omega)).2.1
   rwa [show 7+(k - 7)=k by omega] at this
  ·have:=(hno (k - 14) (by omega)).2.2
   rwa [show 14+(k - 14)=k by omega] at this
theorem Xey (ps:List Int) (hps:ps.length=21) (hpos:∀ k,k<21→0≤ps.getD k 0) (r:Rec) (now:Int) (hm:0≤r.made∧r.made≤1099511627776) (hu:0≤r.used∧r.used≤1099511627776) (hn:0≤now∧now≤1099511627776) (B w:World) (I:Im) (As:List Xe) (hS:Sat B w I As) :
  Calls Tryz.prog 143 [.agg (ps.map I64).toArray,.agg (X7 r).toArray,I64 now].toArray w (Ret fun v w'=>v=.bool (X6a ps r now)∧Sat B w' I As):=by
 refine calls Tryz.func143 rfl Tryz.ntmps143 rfl (.seq (.region (.boxA (cs:=ps.map I64) hS (.of rfl) rfl ?_)))
 clear hS; intro b3 w hS
 refine .boxA (cs:=[_,_,_,_,_,_,_,_,_,_]) hS (.of rfl) rfl ?_
 clear hS; intro b4 w hS
 refine .q 1 rfl (.nil (.seq (.region ?_)))
 refine WL.val (.fieldAddr 0 (.of rfl) X16 rfl rfl Qs3 rfl) rfl ?_
 refine .val (.ld (.of rfl) hS (k:=0) rfl Qg3 rfl) rfl (.q 1 rfl (.nil (.seq (.seq (.t 3 rfl (.gval rfl rfl (fun hg1=>(.move (.of rfl))) rfl (.gval rfl rfl (fun hg1=>(.gtr (.gd hg1 rfl) (.of rfl))) rfl (.val (.por (.of rfl) (.of rfl) (.of rfl)) rfl (.nil ?_)))))))))
 refine WC.cond rfl (fun hb15=>?_) (fun hb15=>?_)
 ·
  refine .seq (.q 1 rfl (.ret (Xh Xn5 rfl ?_)))
  refine ⟨_,rfl,congrArg Value.bool ?_,(hS.drop (k:=0) rfl).drop (k:=0) rfl⟩
  cases h:X6a ps r now with
  | false=>rfl
  | true =>
   exfalso
   unfold X6a X4f at h
   simp only [Yo,Y1h,decide_eq_true_eq,beq_iff_eq] at h hb15
   omega
 refine .skip (.seq (.seq ?_))
 have hk1:1≤r.kind∧r.kind≤6:=by
  have h:=hb15
  simp at h
  omega
 have hp0:=hpos (r.kind.toNat) (by omega)
 have hp1:=hpos (7+r.kind.toNat) (by omega)
 have hp2:=hpos (14+r.kind.toNat) (by omega)
 refine .quiet (by kernel_rfl) (by kernel_rfl) hS (.val (fun w hS=>(.move (.of rfl))) rfl ?_)
 refine WQ.val (fun w hS=>(by exact .fieldAddr 0 (.of rfl) Xb1 rfl rfl Xc3 rfl)) rfl ?_
 refine .val (fun w hS=>Ex.arrAddrO (i:=r.kind) (.of rfl) (.of rfl) (by omega) (by omega) Xay Qs3) rfl (.val (fun w hS=>.ld (.of rfl) hS (k:=1) rfl Qg3 (X34 hps (o:=0+0+r.kind.toNat*1) (k:=r.kind.toNat) (by omega) (by omega))) rfl (.val (fun w hS=>(.gtr (.of rfl) (.of rfl))) rfl (.val (fun w hS=>(.move (.of rfl))) rfl (.gval rfl rfl rfl (fun hg1 w hS=>(.move (.of rfl))) rfl ?_))))
 refine WQ.gval rfl rfl rfl (fun hg1 w hS=>(by exact .fieldAddr 6 (.of rfl) X16 rfl rfl Qs3 rfl)) rfl ?_
 refine .gval rfl rfl rfl (fun hg1 w hS=>(.ld (.gd hg1 rfl) hS (k:=0) rfl Qg3 rfl)) rfl (.gval rfl rfl rfl (fun hg1 w hS=>(.sub (.gd hg1 rfl) (.gd hg1 rfl) ⟨by omega,by omega⟩)) rfl (.gval rfl rfl rfl (fun hg1 w hS=>(.move (.of rfl))) rfl ?_))
 refine WQ.gval rfl rfl rfl (fun hg1 w hS=>(by exact .fieldAddr 0 (.of rfl) Xb1 rfl rfl Xc3 rfl)) rfl ?_
 refine .gval rfl rfl rfl (fun hg1 w hS=>Ex.arrAddrO (i:=r.kind) (.gd hg1 rfl) (.gd hg1 rfl) (by omega) (by omega) Xay Qs3) rfl (.gval rfl rfl rfl (fun hg1 w hS=>.ld (.gd hg1 rfl) hS (k:=1) rfl Qg3 (X34 hps (o:=0+0+r.kind.toNat*1) (k:=r.kind.toNat) (by omega) (by omega))) rfl (.gval rfl rfl rfl (fun hg1 w hS=>(.geq (.gd hg1 rfl) (.gd hg1 rfl))) rfl (.val (fun w hS=>(.pand (.of rfl) (.of rfl) (.of rfl))) rfl (.nil ?_))))
 clear hS; intro w hS
 refine WC.cond rfl (fun hb31=>?_) (fun hb31=>?_)
 ·
  refine .seq (.q 1 rfl (.ret (Xh Xn5 rfl ?_)))
  refine ⟨_,rfl,congrArg Value.bool ?_,(hS.drop (k:=0) rfl).drop (k:=0) rfl⟩
  cases h:X6a ps r now with
  | false=>rfl
  | true =>
   exfalso
   unfold X6a X4f at h
   simp only [Yo,Y1h,decide_eq_true_eq,beq_iff_eq] at h hb31
   omega
 refine .skip (.seq (.seq (.quiet (by kernel_rfl) (by kernel_rfl) hS (.val (fun w hS=>(.move (.of rfl))) rfl ?_))))
 refine WQ.val (fun w hS=>(by exact .fieldAddr 7 (.of rfl) Xb1 rfl rfl Xc3 rfl)) rfl ?_
 refine .val (fun w hS=>Ex.arrAddrO (i:=r.kind) (.of rfl) (.of rfl) (by omega) (by omega) Xay Qs3) rfl (.val (fun w hS=>.ld (.of rfl) hS (k:=1) rfl Qg3 (X34 hps (o:=0+7+r.kind.toNat*1) (k:=7+r.kind.toNat) (by omega) (by omega))) rfl (.val (fun w hS=>(.gtr (.of rfl) (.of rfl))) rfl (.val (fun w hS=>(.move (.of rfl))) rfl (.gval rfl rfl rfl (fun hg1 w hS=>(.move (.of rfl))) rfl ?_))))
 refine WQ.gval rfl rfl rfl (fun hg1 w hS=>(by exact .fieldAddr 7 (.of rfl) X16 rfl rfl Qs3 rfl)) rfl ?_
 refine .gval rfl rfl rfl (fun hg1 w hS=>(.ld (.gd hg1 rfl) hS (k:=0) rfl Qg3 rfl)) rfl (.gval rfl rfl rfl (fun hg1 w hS=>(.sub (.gd hg1 rfl) (.gd hg1 rfl) ⟨by omega,by omega⟩)) rfl (.gval rfl rfl rfl (fun hg1 w hS=>(.move (.of rfl))) rfl ?_))
 refine WQ.gval rfl rfl rfl (fun hg1 w hS=>(by exact .fieldAddr 7 (.of rfl) Xb1 rfl rfl Xc3 rfl)) rfl ?_
 refine .gval rfl rfl rfl (fun hg1 w hS=>Ex.arrAddrO (i:=r.kind) (.gd hg1 rfl) (.gd hg1 rfl) (by omega) (by omega) Xay Qs3) rfl (.gval rfl rfl rfl (fun hg1 w hS=>.ld (.gd hg1 rfl) hS (k:=1) rfl Qg3 (X34 hps (o:=0+7+r.kind.toNat*1) (k:=7+r.kind.toNat) (by omega) (by omega))) rfl (.gval rfl rfl rfl (fun hg1 w hS=>(.geq (.gd hg1 rfl) (.gd hg1 rfl))) rfl (.val (fun w hS=>(.pand (.of rfl) (.of rfl) (.of rfl))) rfl (.nil ?_))))
 clear hS; intro w hS
 refine WC.cond rfl (fun hb47=>?_) (fun hb47=>?_)
 ·
  refine .seq (.q 1 rfl (.ret (Xh Xn5 rfl ?_)))
  refine ⟨_,rfl,congrArg Value.bool ?_,(hS.drop (k:=0) rfl).drop (k:=0) rfl⟩
  cases h:X6a ps r now with
  | false=>rfl
  | true =>
   exfalso
   unfold X6a X4f at h
   simp only [Yo,Y1h,decide_eq_true_eq,beq_iff_eq] at h hb47
   omega
 refine .skip (.seq (.quiet (by kernel_rfl) (by kernel_rfl) hS (.val (fun w hS=>(.move (.of rfl))) rfl ?_)))
 refine WQ.val (fun w hS=>(by exact .fieldAddr 14 (.of rfl) Xb1 rfl rfl Xc3 rfl)) rfl ?_
 refine .val (fun w hS=>Ex.arrAddrO (i:=r.kind) (.of rfl) (.of rfl) (by omega) (by omega) Xay Qs3) rfl (.val (fun w hS=>.ld (.of rfl) hS (k:=1) rfl Qg3 (X34 hps (o:=0+14+r.kind.toNat*1) (k:=14+r.kind.toNat) (by omega) (by omega))) rfl (.val (fun w hS=>(.eql (.of rfl) (.of rfl))) rfl (.val (fun w hS=>(.move (.of rfl))) rfl ?_)))
 refine WQ.gval rfl rfl rfl (fun hg1 w hS=>(by exact .fieldAddr 8 (.of rfl) X16 rfl rfl Qs3 rfl)) rfl ?_
 refine .gval rfl rfl rfl (fun hg1 w hS=>(.ld (.gd hg1 rfl) hS (k:=0) rfl Qg3 rfl)) rfl (.gval rfl rfl rfl (fun hg1 w hS=>(.move (.of rfl))) rfl ?_)
 refine WQ.gval rfl rfl rfl (fun hg1 w hS=>(by exact .fieldAddr 14 (.of rfl) Xb1 rfl rfl Xc3 rfl)) rfl ?_
 refine .gval rfl rfl rfl (fun hg1 w hS=>Ex.arrAddrO (i:=r.kind) (.gd hg1 rfl) (.gd hg1 rfl) (by omega) (by omega) Xay Qs3) rfl (.gval rfl rfl rfl (fun hg1 w hS=>.ld (.gd hg1 rfl) hS (k:=1) rfl Qg3 (X34 hps (o:=0+14+r.kind.toNat*1) (k:=14+r.kind.toNat) (by omega) (by omega))) rfl (.gval rfl rfl rfl (fun hg1 w hS=>(.lss (.gd hg1 rfl) (.gd hg1 rfl))) rfl (.val (fun w hS=>(.por (.of rfl) (.of rfl) (.of rfl))) rfl (.val (fun w hS=>(.assign (.of rfl))) rfl (.nil ?_)))))
 clear hS; intro w hS
 refine .ret (Xh Xn5 rfl ?_)
 refine ⟨_,rfl,congrArg Value.bool ?_,(hS.drop (k:=0) rfl).drop (k:=0) rfl⟩
 have e1:X4f (now - r.made) (ps.getD r.kind.toNat 0)=true:=by
  simp only [Y2g,decide_eq_false_iff_not] at hb31
  unfold X4f
  simp only [Y1h,decide_eq_true_eq,beq_iff_eq]
  omega
 have e2:X4f (now - r.used) (ps.getD (7+r.kind.toNat) 0)=true:=by
  simp only [Y2g,decide_eq_false_iff_not] at hb47
  unfold X4f
  simp only [Y1h,decide_eq_true_eq,beq_iff_eq]
  omega
 rw [X6a,e1,e2,decide_eq_true hk1.1,decide_eq_true hk1.2]
 rfl
theorem Xfn (l:List Rec) (hw:Wf l):∀ (f:Nat) (i:Int) (r:Rec),r∈X3y l f i→∃ j:Nat,(j:Int)≤i∧l[j]?=some r
 | 0,_,r,h=>by simp [X3y] at h
 | f+1,i,r,h=>by
  rw [X3y] at h
  split at h
  ·simp at h
  ·rename_i hi
   split at h
   ·rename_i t ht
    rcases Y1b.1 h with e | e
    ·subst e; exact ⟨i.toNat,by omega,ht⟩
    ·obtain ⟨j,h1,h2⟩:=Xfn l hw f _ r e
     have:=(hw.up _ _ ht).2
     exact ⟨j,by omega,h2⟩
   ·simp at h
theorem Xh5 {l:List Rec} (hw:Wf l) {name:List UInt8} {i:Nat} {r:Rec} (h:(path l name)[i]?=some r):(r.name == name)=decide (i=0):=by
 rcases X2q l name with ⟨h1,_⟩ | ⟨j,t,h1,h2,h3,_⟩
 ·rw [path,h1,X66 l (by omega)] at h; simp at h
 ·rw [path,h1,Xau hw h2] at h
  cases i with
  | zero=>simp at h; subst h; simp [h3]
  | succ i =>
   simp at h
   obtain ⟨q,hq1,hq2⟩:=Xfn l hw _ _ r (Yl h)
   have h4:=(hw.up _ _ h2).2
   have h5:=hw.at_ hq2
   rw [show decide (i+1=0)=false by simp]
   refine beq_eq_false_iff_ne.2 fun e=>?_
   rw [e,h1] at h5
   omega
theorem X9m (tb:Nat) (room:Int) (la:Option Addr) (lc:Nat) (l:List Rec) (hl:l.length≤100000) (hwf:Wf l) (ps:List Int) (hps:ps.length=21) (hpos:∀ k,k<21→0≤ps.getD k 0) (name:List UInt8) (now:Int) (hn:0≤now∧now≤1099511627776) (B w:World) (I:Im) (hR:RS I la 10 l.length (Xy X7 l)) (As:List Xe) (hS:Sat B w I (blk tb [I64 room,.slice la l.length lc] 79::As)) :
  Calls Tryz.prog 105 [ptr tb 0,.agg (ps.map I64).toArray,S name,I64 now].toArray w (Ret fun v w'=>v=.bool (X3w ps l name now)∧Sat B w' I (blk tb [I64 room,.slice la l.length lc] 79::As)):=by
 refine calls Tryz.func105 rfl Tryz.ntmps105 rfl (.seq (.region (.boxA (cs:=ps.map I64) hS (.of rfl) rfl ?_)))
 clear hS; intro b5 w hS
 refine .q 1 rfl (.nil (.seq (.t 2 rfl (.call Tryz.func81 rfl (X0 (.of rfl) (X0 (.of rfl) X4)) rfl (X8j tb room la lc l hl hwf name B _ I hR _ (hS.pick 1 rfl)) ?_))))
 clear hS
 rintro _ w ⟨J,pa,pc,rfl,hJ,hpc,hRS,hS⟩
 try dsimp only [List.eraseIdx] at hS
 have hpl:=X45 hwf name
 refine .q 1 rfl (.nil (.seq (.seq (.q 1 rfl (.block (.loop (σ:=Nat) (fun i=>[(0,ptr tb 0),(2,S name),(3,I64 now),(5,ptr b5 0),(9,.slice pa (path l name).length pc),(10,I64 (i:Nat))]) (fun i w=>i≤(path l name).length∧(∀ (j:Nat) r,j<i→(path l name)[j]?=some r→Xku ps name now r=false)∧Sat B w J (blk tb [I64 room,.slice la l.length lc] 79::blk b5 (ps.map I64) 31::As)) (fun i=>(path l name).length - i) 0 ⟨rfl,rfl,rfl,rfl,rfl,rfl,trivial⟩ ⟨Yq _,fun _ _ h=>absurd h (by omega),hS⟩ ?_))))))
 rintro i w ⟨hi,hno,hS⟩
 refine .seq (.seq (.region (.run 4 rfl ⟨⟨_,X1p⟩,trivial⟩ (.nil ?_))))
 refine WC.cond rfl (fun hb20=>?_) (fun hb20=>?_)
 ·
  have hc20:=hb20; try simp only [Y6] at hc20
  refine .skip (.seq (.block (.seq ?_)))
  obtain ⟨r,hr⟩:∃ r,(path l name)[i]?=some r:=⟨_,Y4 (by omega)⟩
  obtain ⟨q,hq⟩:=X7y (Yl hr)
  have hgd:getD l r.name=r:=by rw [getD,hwf.get_ hq]; rfl
  obtain ⟨ht1,ht2,_⟩:=X5s (hwf.right r (Yl hq))
  have hpf:=Xh5 hwf hr
  obtain ⟨p,rfl,hA⟩:=hRS.2 (by omega)
  have hnm:((path l name).map fun r=>S r.name)[i]?=some (S r.name):=by rw [Yw,hr]; rfl
  refine .t 3 rfl ?_
  refine WL.val (.indexAddrI (.of rfl) (.of rfl) (by omega) (by omega) X1p Qs9) rfl ?_
  refine WL.val (ldC (.of rfl) (by have h9:=X2k hS hA hnm; simpa using h9) Qg9) rfl ?_
  refine .call Qf82 rfl (X0 (.of rfl) (X0 (.of rfl) X4)) rfl (X50 tb room la lc l hl r.name B _ J (hR.mono hJ) _ hS) ?_
  clear hS
  rintro _ w ⟨rfl,hS⟩
  rw [hgd]
  refine .q 3 rfl (.allocA (cs:=[_,_,_,_,_,_,_,_,_,_]) hS X7c rfl ?_)
  clear hS; intro b11 w hS
  refine WL.stA hS (k:=0) rfl (.of rfl) (.of rfl) rfl X17 rfl (by simp) ?_
  clear hS; intro w hS
  try simp only [Yh,Yd,Y9,Y7,Yg,Ym,Yc] at hS
  refine .q 1 rfl (.nil (.seq (.region ?_)))
  refine WL.val (.lds (vs:=ps.map I64) (.of rfl) hS (k:=2) rfl Xqq Xhu (by rw [Yz]; exact hps) (fun j v hj=>by rw [Yc]; exact hj)) rfl ?_
  refine WL.val (.ldsW (cs:=[_,_,_,_,_,_,_,_,_,_]) (.of rfl) hS (k:=0) rfl X36 X17 rfl) rfl ?_
  refine .q 1 rfl (.call Tryz.func143 rfl (X0 (.of rfl) (X0 (.of rfl) (X0 (.of rfl) X4))) rfl (Xey ps hps hpos r now ht1 ht2 hn B _ J _ hS) ?_)
  clear hS
  rintro _ w ⟨rfl,hS⟩
  refine .q 1 rfl (.nil (.seq (.t 3 rfl (.gval rfl rfl (fun hg1=>(.move (.of rfl))) rfl (.gval rfl rfl (fun hg1=>(.eql (.gd hg1 rfl) (.of rfl))) rfl (.gval rfl rfl (fun hg1=>(.move (.gd hg1 rfl))) rfl ?_))))))
  refine WL.gval2 rfl rfl rfl (fun hg1 hg2=>(by exact .fieldAddr 0 (.of rfl) X16 rfl rfl Qs3 rfl)) rfl ?_
  refine WL.gval2 rfl rfl rfl (fun hg1 hg2=>(by exact (.ld (.gd2 hg1 hg2 rfl) hS (k:=0) rfl Qg3 rfl))) rfl ?_
  refine .gval2 rfl rfl rfl (fun hg1 hg2=>(.eql (.gd2 hg1 hg2 rfl) (.of rfl))) rfl (.gval rfl rfl (fun hg1=>(.por (.gd hg1 rfl) (.of rfl) (.gd hg1 rfl))) rfl (.gval rfl rfl (fun hg1=>(.move (.gd hg1 rfl))) rfl ?_))
  refine WL.gval2 rfl rfl rfl (fun hg1 hg2=>(by exact .fieldAddr 0 (.of rfl) X16 rfl rfl Qs3 rfl)) rfl ?_
  refine WL.gval2 rfl rfl rfl (fun hg1 hg2=>(by exact (.ld (.gd2 hg1 hg2 rfl) hS (k:=0) rfl Qg3 rfl))) rfl ?_
  refine .gval2 rfl rfl rfl (fun hg1 hg2=>(.eql (.gd2 hg1 hg2 rfl) (.of rfl))) rfl (.gval rfl rfl (fun hg1=>(.por (.gd hg1 rfl) (.of rfl) (.gd hg1 rfl))) rfl (.val (.pand (.of rfl) (.of rfl) (.of rfl)) rfl (.nil ?_)))
  refine WC.cond rfl (fun hb51=>?_) (fun hb51=>?_)
  ·
   refine .seq (.q 1 rfl (.ret (Xh Tryz.results105 rfl ?_)))
   replace hS:=hS.weaken hJ
   refine ⟨_,rfl,congrArg Value.bool ?_,(hS.drop (k:=0) rfl).drop (k:=1) rfl⟩
   have hbd:Xku ps name now r=true:=by
    rw [Xku,hpf,Xfl]
    cases hl:X6a ps r now with
    | true=>rw [hl] at hb51; simp at hb51
    | false =>
     rw [hl] at hb51
     simp at hb51 ⊢
     omega
   have:(path l name).any (Xku ps name now)=true:=Y2i.2 ⟨r,Yl hr,hbd⟩
   rw [X3w,this]; rfl
  have hc51:=hb51; try simp only [Y6] at hc51
  refine .skip (.region (.run 3 rfl ⟨⟨by omega,by omega⟩,trivial⟩ (.nil ?_)))
  refine ⟨i+1,⟨rfl,rfl,rfl,rfl,rfl,rfl,trivial⟩,⟨by (try dsimp only); omega,fun j t hj ht=>?_,hS.drop (k:=0) rfl⟩,by (try dsimp only); omega⟩
  rcases Yr j i with h1 | h1
  ·exact hno j t h1 ht
  ·have e:j=i:=by omega
   subst e
   rw [hr] at ht; cases ht
   rw [Xku,hpf,Xfl]
   cases hl:X6a ps r now with
   | true=>simp
   | false =>
    rw [hl] at hb51
    simp at hb51 ⊢
    omega
 have hc20:=hb20; try simp only [Y6] at hc20
 refine .exit (.seq (.region (.run 4 rfl ⟨⟨_,X1p⟩,trivial⟩ (.nil (.ret (Xh Tryz.results105 rfl ?_))))))
 replace hS:=hS.weaken hJ
 refine ⟨_,rfl,congrArg Value.bool ?_,hS.drop (k:=1) rfl⟩
 have:(path l name).any (Xku ps name now)=false:=by
  rw [Y3e]
  intro r hr
  obtain ⟨j,hj⟩:=Y10.1 hr
  have:=(Y5.1 hj).1
  rw [hno j r (by omega) hj]; decide
 rw [X3w,this]
 simp
theorem Xcx (r:Rec) (now:Int) (hu:0≤r.uses) (hu2:r.uses≤255) (B w:World) (I:Im) (As:List Xe) (hS:Sat B w I As) :
  Calls Tryz.prog 76 [.agg (X7 r).toArray,I64 now].toArray w (Ret fun v w'=>v=.agg (X7 (Xo r now)).toArray∧Sat B w' I As):=by
 refine calls Tryz.func76 rfl Tryz.ntmps76 rfl (.seq (.region (.boxA (cs:=[_,_,_,_,_,_,_,_,_,_]) hS (.of rfl) rfl ?_)))
 clear hS; intro b2 w hS
 refine .allocA (cs:=[_,_,_,_,_,_,_,_,_,_]) hS X7c rfl ?_
 clear hS; intro b4 w hS
 refine .nil (.seq (.region ?_))
 refine WL.val (.fieldAddr 8 (.of rfl) X16 rfl rfl Qs3 rfl) rfl ?_
 refine WL.val (.ld (.of rfl) hS (k:=1) rfl Qg3 rfl) rfl ?_
 refine .run 1 rfl ⟨⟨by omega,by omega⟩,trivial⟩ (.val (.min2 (.of rfl) (.of rfl)) rfl ?_)
 refine WL.val (.fieldAddr 8 (.of rfl) X16 rfl rfl Qs3 rfl) rfl ?_
 refine WL.st1 hS (k:=1) rfl (.of rfl) (.of rfl) rfl Qs3 (by simp) ?_
 clear hS; intro w hS
 refine .nil (.seq (.seq (.region ?_)))
 refine WL.val (.fieldAddr 7 (.of rfl) X16 rfl rfl Qs3 rfl) rfl ?_
 refine WL.val (.ld (.of rfl) hS (k:=1) rfl Qg3 rfl) rfl ?_
 refine .q 2 rfl (.nil ?_)
 refine WC.cond rfl (fun hb13=>?_) (fun hb13=>?_)
 ·
  refine .t 1 rfl ?_
  refine WL.val (.fieldAddr 7 (.of rfl) X16 rfl rfl Qs3 rfl) rfl ?_
  refine WL.st1 hS (k:=1) rfl (.of rfl) (.of rfl) rfl Qs3 (by simp) ?_
  clear hS; intro w hS
  refine .nil (.seq (.region ?_))
  refine WL.val (.ldsW (cs:=[_,_,_,_,_,_,_,_,_,_]) (.of rfl) hS (k:=1) rfl X36 X17 rfl) rfl ?_
  refine WL.stA hS (k:=0) rfl (.of rfl) (.of rfl) rfl X17 rfl (by simp) ?_
  clear hS; intro w hS
  try simp only [Yh,Yd,Y9,Y7,Yg,Ym,Yc] at hS
  refine .nil (.ret ?_)
  refine Xnq (b:=_) (cs:=[_,_,_,_,_,_,_,_,_,_]) Tryz.results76 hS (k:=0) rfl X36 X17 rfl rfl ?_
  refine ⟨_,rfl,?_,(hS.drop (k:=0) rfl).drop (k:=0) rfl⟩
  have e1:min (255:Int) (r.uses+1)=min (r.uses+1) 255:=Int.min_comm _ _
  rw [e1]
  first
  | (have e2:max r.used now=now:=(by simp at hb13; omega); unfold Xo X7; dsimp only; rw [e2]; done)
  | (have e2:max r.used now=r.used:=(by simp at hb13; omega); unfold Xo X7; dsimp only; rw [e2])
 refine .skip (.seq (.region ?_))
 refine WL.val (.ldsW (cs:=[_,_,_,_,_,_,_,_,_,_]) (.of rfl) hS (k:=1) rfl X36 X17 rfl) rfl ?_
 refine WL.stA hS (k:=0) rfl (.of rfl) (.of rfl) rfl X17 rfl (by simp) ?_
 clear hS; intro w hS
 try simp only [Yh,Yd,Y9,Y7,Yg,Ym,Yc] at hS
 refine .nil (.ret ?_)
 refine Xnq (b:=_) (cs:=[_,_,_,_,_,_,_,_,_,_]) Tryz.results76 hS (k:=0) rfl X36 X17 rfl rfl ?_
 refine ⟨_,rfl,?_,(hS.drop (k:=0) rfl).drop (k:=0) rfl⟩
 have e1:min (255:Int) (r.uses+1)=min (r.uses+1) 255:=Int.min_comm _ _
 rw [e1]
 first
 | (have e2:max r.used now=now:=(by simp at hb13; omega); unfold Xo X7; dsimp only; rw [e2]; done)
 | (have e2:max r.used now=r.used:=(by simp at hb13; omega); unfold Xo X7; dsimp only; rw [e2])
def X3g (s:List UInt8) (lo:Int):Bool:=s.all fun c=>!(decide ((c.toNat:Int)<lo) || decide ((126:Int)<(c.toNat:Int)))
theorem Xki (i:Nat) (c:UInt8):badW i c=(!((decide ((97:Int)≤(c.toNat:Int)) && decide ((c.toNat:Int)≤122)) || (decide ((65:Int)≤(c.toNat:Int)) && decide ((c.toNat:Int)≤90))) && (((i:Int) == 0) || !(((decide ((48:Int)≤(c.toNat:Int)) && decide ((c.toNat:Int)≤57)) || ((c.toNat:Int) == 45)) || ((c.toNat:Int) == 95)))):=by
 unfold badW letC
 rw [Y3a]
 simp only [Yo,Y1h,Y2w,Y13,Y2g,decide_eq_true_eq,decide_eq_false_iff_not,beq_iff_eq,bne_iff_ne,ne_eq,beq_eq_false_iff_ne]
 omega
theorem Xiu (p:Pr):Xl1 p=((!X9q p.1 || decide ((60:Int)<(p.2.length:Int))) || !X3g p.2 32):=by
 unfold Xl1 X5l
 rw [show (p.2.all fun c=>!(decide ((c.toNat:Int)<32) || decide ((126:Int)<(c.toNat:Int))))=X3g p.2 32 from rfl]
 cases X9q p.1 <;> cases X3g p.2 32 <;> simp
 rw [Y3a]
 simp
 try omega
theorem Xb5 (u:Us):X67 u=(!(((((u.name == []) || decide ((32:Int)<(u.name.length:Int))) || (u.pw == [])) || decide ((60:Int)<(u.pw.length:Int))) || decide ((8:Int)<(u.attrs.length:Int))) && X3g u.name 33 && !u.attrs.any Xl1):=by
 unfold X67 X5l
 rw [show (u.name.all fun c=>!(decide ((c.toNat:Int)<33) || decide ((126:Int)<(c.toNat:Int))))=X3g u.name 33 from rfl]
 cases X3g u.name 33 <;> cases u.attrs.any Xl1 <;> simp
 cases u.name <;> cases u.pw <;> simp
 rw [Y3a]
 simp
 omega
theorem X7k (s:List UInt8) (lo:Int) (hs:s.length≤9223372036854775807) (B w:World) (I:Im) (As:List Xe) (hS:Sat B w I As) :
  Calls Tryz.prog 160 [S s,.int .u8 lo].toArray w (Ret fun v w'=>v=.bool (X3g s lo)∧Sat B w' I As):=by
 refine calls Tryz.func160 rfl Tryz.ntmps160 rfl (.seq (.q 1 rfl (.seq (.seq (.q 1 rfl (.block (.loop (σ:=Nat) (fun i=>[(0,S s),(1,.int .u8 lo),(5,I64 (i:Nat))]) (fun i w=>i≤s.length∧(∀ (j:Nat) c,j<i→s[j]?=some c→(decide ((c.toNat:Int)<lo) || decide ((126:Int)<(c.toNat:Int)))=false)∧Sat B w I As) (fun i=>s.length - i) 0 ⟨rfl,rfl,rfl,trivial⟩ ⟨Yq _,fun _ _ h=>absurd h (by omega),hS⟩ ?_)))))))
 rintro i w ⟨hi,hno,hS⟩
 refine .seq (.seq (.region (.run 4 rfl ⟨Qu9,trivial⟩ (.nil ?_))))
 refine WC.cond rfl (fun hb9=>?_) (fun hb9=>?_)
 ·
  have hc9:=hb9; try simp only [Y6] at hc9
  refine .skip (.seq (.block (.seq (.region (.run 6 rfl ⟨⟨⟨by omega,by omega⟩,Qu9⟩,trivial⟩ (.gval rfl rfl (fun hg1=>(.move (.of rfl))) rfl (.gval rfl rfl (fun hg1=>(.move (.of rfl))) rfl ?_)))))))
  refine WL.gval rfl rfl (fun hg1=>(.index (.gd hg1 rfl) (.gd hg1 rfl) (by (try simp only [Y6] at hg1); omega) (by (try simp only [Y6] at hg1); omega) Qu9)) rfl ?_
  refine .gval rfl rfl (fun hg1=>(.gtr (.gd hg1 rfl) (.of rfl))) rfl (.val (.por (.of rfl) (.of rfl) (.of rfl)) rfl (.nil ?_))
  refine WC.cond rfl (fun hb22=>?_) (fun hb22=>?_)
  ·
   have hc22:=hb22; try simp only [Y6] at hc22
   refine .seq (.q 1 rfl (.ret (Xh Tryz.results160 rfl ?_)))
   refine ⟨_,rfl,congrArg Value.bool ?_,hS⟩
   have:X3g s lo=false:=by
    unfold X3g
    rw [Y28]
    exact ⟨_,Yl (X11 (show i<s.length by omega)),by rw [hb22]; decide⟩
   rw [this]
  have hc22:=hb22; try simp only [Y6] at hc22
  refine .skip (.region (.run 3 rfl ⟨⟨by omega,by omega⟩,trivial⟩ (.nil ?_)))
  refine ⟨i+1,⟨rfl,rfl,rfl,trivial⟩,⟨by (try dsimp only); omega,fun j c hj hc=>?_,hS⟩,by (try dsimp only); omega⟩
  rcases Yr j i with h1 | h1
  ·exact hno j c h1 hc
  ·have e:j=i:=by omega
   subst e
   rw [X11 (show j<s.length by omega)] at hc; cases hc
   exact hb22
 have hc9:=hb9; try simp only [Y6] at hc9
 refine .exit (.seq (.q 1 rfl (.ret (Xh Tryz.results160 rfl ?_))))
 refine ⟨_,rfl,congrArg Value.bool ?_,hS⟩
 have:X3g s lo=true:=by
  unfold X3g
  rw [Y1d]
  intro c hc
  obtain ⟨j,hj,hjr⟩:=Y33 hc
  rw [hno j c (by omega) (by rw [Y4 hj,hjr])]
  rfl
 rw [this]
theorem Xet (s:List UInt8) (hs:s.length≤9223372036854775807) (B w:World) (I:Im) (As:List Xe) (hS:Sat B w I As) :
  Calls Tryz.prog 161 [S s].toArray w (Ret fun v w'=>v=.bool (X9q s)∧Sat B w' I As):=by
 refine calls Tryz.func161 rfl Tryz.ntmps161 rfl (.seq (.q 1 rfl (.seq (.seq (.t 3 rfl (.gval rfl rfl (fun hg1=>(.move (.of rfl))) rfl (.gval rfl rfl (fun hg1=>(.len (.gd hg1 rfl) Qu9)) rfl (.gval rfl rfl (fun hg1=>(.gtr (.gd hg1 rfl) (.of rfl))) rfl (.val (.por (.of rfl) (.of rfl) (.of rfl)) rfl (.nil ?_))))))))))
 refine WC.cond rfl (fun hb13=>?_) (fun hb13=>?_)
 ·
  refine .seq (.q 1 rfl (.ret (Xh Xq9 rfl ?_)))
  refine ⟨_,rfl,congrArg Value.bool ?_,hS⟩
  rw [X9q]
  have h:=hb13
  simp at h
  rcases h with h | h
  ·subst h; rfl
  ·rw [decide_eq_false (show ¬ (s.length:Int)≤60 by omega)]; simp
 have hc13:=hb13; try simp only [Y6] at hc13
 refine .skip (.seq (.seq (.q 1 rfl (.block (.loop (σ:=Nat) (fun i=>[(0,S s),(3,I64 (i:Nat))]) (fun i w=>i≤s.length∧(∀ (j:Nat) c,j<i→s[j]?=some c→badW j c=false)∧Sat B w I As) (fun i=>s.length - i) 0 ⟨rfl,rfl,trivial⟩ ⟨Yq _,fun _ _ h=>absurd h (by omega),hS⟩ ?_)))))
 rintro i w ⟨hi,hno,hS⟩
 refine .seq (.seq (.region (.run 4 rfl ⟨Qu9,trivial⟩ (.nil ?_))))
 refine WC.cond rfl (fun hb17=>?_) (fun hb17=>?_)
 ·
  have hc17:=hb17; try simp only [Y6] at hc17
  refine .skip (.seq (.block (.seq (.region (.run 4 rfl ⟨⟨⟨by omega,by omega⟩,Qu9⟩,trivial⟩ (.nil (.seq (.t 3 rfl (.gval rfl rfl (fun hg1=>(.move (.of rfl))) rfl (.gval rfl rfl (fun hg1=>(.leq (.gd hg1 rfl) (.of rfl))) rfl (.val (.pand (.of rfl) (.of rfl) (.of rfl)) rfl (.q 1 rfl (.gval rfl rfl (fun hg1=>(.move (.of rfl))) rfl (.gval rfl rfl (fun hg1=>(.geq (.gd hg1 rfl) (.of rfl))) rfl (.gval rfl rfl (fun hg1=>(.move (.gd hg1 rfl))) rfl (.gval2 rfl rfl rfl (fun hg1 hg2=>(.move (.of rfl))) rfl (.gval2 rfl rfl rfl (fun hg1 hg2=>(.leq (.gd2 hg1 hg2 rfl) (.of rfl))) rfl (.gval rfl rfl (fun hg1=>(.pand (.gd hg1 rfl) (.gd hg1 rfl) (.of rfl))) rfl (.val (.por (.of rfl) (.of rfl) (.of rfl)) rfl (.q 1 rfl (.nil (.seq (.t 3 rfl (.gval rfl rfl (fun hg1=>(.move (.of rfl))) rfl (.gval rfl rfl (fun hg1=>(.leq (.gd hg1 rfl) (.of rfl))) rfl (.val (.pand (.of rfl) (.of rfl) (.of rfl)) rfl (.q 1 rfl (.gval rfl rfl (fun hg1=>(.move (.of rfl))) rfl (.gval rfl rfl (fun hg1=>(.eql (.gd hg1 rfl) (.of rfl))) rfl (.val (.por (.of rfl) (.of rfl) (.of rfl)) rfl (.q 1 rfl (.gval rfl rfl (fun hg1=>(.move (.of rfl))) rfl (.gval rfl rfl (fun hg1=>(.eql (.gd hg1 rfl) (.of rfl))) rfl (.val (.por (.of rfl) (.of rfl) (.of rfl)) rfl (.q 1 rfl (.nil (.seq (.t 3 rfl (.gval rfl rfl (fun hg1=>(.move (.of rfl))) rfl (.gval rfl rfl (fun hg1=>(.eql (.gd hg1 rfl) (.of rfl))) rfl (.gval rfl rfl (fun hg1=>(.move (.gd hg1 rfl))) rfl (.gval2 rfl rfl rfl (fun hg1 hg2=>(.move (.of rfl))) rfl (.gval2 rfl rfl rfl (fun hg1 hg2=>(.not (.gd2 hg1 hg2 rfl))) rfl (.gval rfl rfl (fun hg1=>(.por (.gd hg1 rfl) (.of rfl) (.gd hg1 rfl))) rfl (.val (.pand (.of rfl) (.of rfl) (.of rfl)) rfl (.nil ?_))))))))))))))))))))))))))))))))))))))))))))))
  refine WC.cond rfl (fun hb60=>?_) (fun hb60=>?_)
  ·
   have hc60:=hb60; try simp only [Y6] at hc60
   refine .seq (.q 1 rfl (.ret (Xh Xq9 rfl ?_)))
   refine ⟨_,rfl,congrArg Value.bool ?_,hS⟩
   have:X83 s 0=false:=by
    cases h:X83 s 0 with
    | false=>rfl
    | true =>
     have h1:=(X43 s 0).1 h i _ (X11 (show i<s.length by omega))
     rw [Yc,Xki] at h1
     exact absurd (hb60.symm.trans h1) (by decide)
   rw [X9q,this]; rfl
  have hc60:=hb60; try simp only [Y6] at hc60
  refine .skip (.region (.run 3 rfl ⟨⟨by omega,by omega⟩,trivial⟩ (.nil ?_)))
  refine ⟨i+1,⟨rfl,rfl,trivial⟩,⟨by (try dsimp only); omega,fun j c hj hc=>?_,hS⟩,by (try dsimp only); omega⟩
  rcases Yr j i with h1 | h1
  ·exact hno j c h1 hc
  ·have e:j=i:=by omega
   subst e
   rw [X11 (show j<s.length by omega)] at hc; cases hc
   rw [Xki]; exact hb60
 have hc17:=hb17; try simp only [Y6] at hc17
 refine .exit (.seq (.q 1 rfl (.ret (Xh Xq9 rfl ?_))))
 refine ⟨_,rfl,congrArg Value.bool ?_,hS⟩
 have:X83 s 0=true:=(X43 s 0).2 fun j c hc=>by
  have:=(Y5.1 hc).1
  rw [Yc]; exact hno j c (by omega) hc
 rw [X9q,this]
 have h:=hb13
 simp at h
 rw [decide_eq_true (show (s.length:Int)≤60 by omega)]
 simp [h.1]
theorem Xc0 (u:Us) (a:Option Addr) (c:Nat) (hn:u.name.length≤9223372036854775807) (hpl:u.pw.length≤9223372036854775807) (hal:u.attrs.length≤9223372036854775807) (hA:∀ p∈u.attrs,X1k p) (B w:World) (I:Im) (hR:RS I a 2 u.attrs.length (Xy Xk u.attrs)) (As:List Xe) (hS:Sat B w I As) :
  Calls Tryz.prog 122 [.agg (X2m u a c).toArray].toArray w (Ret fun v w'=>v=.bool (X67 u)∧Sat B w' I As):=by
 refine calls Tryz.func122 rfl Tryz.ntmps122 rfl (.seq (.region (.boxA (cs:=[_,_,_]) hS (.of rfl) rfl ?_)))
 clear hS; intro b1 w hS
 refine .q 1 rfl (.nil (.seq (.seq (.region ?_))))
 refine WL.val (.fieldAddr 0 (.of rfl) X5g rfl rfl Qs9 rfl) rfl ?_
 refine WL.val (.ld (.of rfl) hS (k:=0) rfl Qg9 rfl) rfl ?_
 refine .q 2 rfl ?_
 refine WL.gval rfl rfl (fun hg1=>(by exact .fieldAddr 0 (.of rfl) X5g rfl rfl Qs9 rfl)) rfl ?_
 refine WL.gval rfl rfl (fun hg1=>(by exact (.ld (.gd hg1 rfl) hS (k:=0) rfl Qg9 rfl))) rfl ?_
 refine .gval rfl rfl (fun hg1=>(.len (.gd hg1 rfl) Qu9)) rfl (.gval rfl rfl (fun hg1=>(.gtr (.gd hg1 rfl) (.of rfl))) rfl (.val (.por (.of rfl) (.of rfl) (.of rfl)) rfl (.q 1 rfl ?_)))
 refine WL.gval rfl rfl (fun hg1=>(by exact .fieldAddr 1 (.of rfl) X5g rfl rfl Qs9 rfl)) rfl ?_
 refine WL.gval rfl rfl (fun hg1=>(by exact (.ld (.gd hg1 rfl) hS (k:=0) rfl Qg9 rfl))) rfl ?_
 refine .gval rfl rfl (fun hg1=>(.eqs (.gd hg1 rfl) (.of rfl))) rfl (.val (.por (.of rfl) (.of rfl) (.of rfl)) rfl (.q 1 rfl ?_))
 refine WL.gval rfl rfl (fun hg1=>(by exact .fieldAddr 1 (.of rfl) X5g rfl rfl Qs9 rfl)) rfl ?_
 refine WL.gval rfl rfl (fun hg1=>(by exact (.ld (.gd hg1 rfl) hS (k:=0) rfl Qg9 rfl))) rfl ?_
 refine .gval rfl rfl (fun hg1=>(.len (.gd hg1 rfl) Qu9)) rfl (.gval rfl rfl (fun hg1=>(.gtr (.gd hg1 rfl) (.of rfl))) rfl (.val (.por (.of rfl) (.of rfl) (.of rfl)) rfl (.q 1 rfl ?_)))
 refine WL.gval rfl rfl (fun hg1=>(by exact .fieldAddr 2 (.of rfl) X5g rfl rfl Xcv rfl)) rfl ?_
 refine WL.gval rfl rfl (fun hg1=>(by exact (.ld (.gd hg1 rfl) hS (k:=0) rfl Xdj rfl))) rfl ?_
 refine .gval rfl rfl (fun hg1=>(.lenSlice (.gd hg1 rfl) X6n)) rfl (.gval rfl rfl (fun hg1=>(.gtr (.gd hg1 rfl) (.of rfl))) rfl (.val (.por (.of rfl) (.of rfl) (.of rfl)) rfl (.q 1 rfl ?_)))
 refine WL.gval rfl rfl (fun hg1=>(by exact .fieldAddr 0 (.of rfl) X5g rfl rfl Qs9 rfl)) rfl ?_
 refine WL.gval rfl rfl (fun hg1=>(by exact (.ld (.gd hg1 rfl) hS (k:=0) rfl Qg9 rfl))) rfl ?_
 refine .gcall (T:=fun w=>Sat B w I _) rfl rfl rfl Tryz.func160 rfl (fun hg1=>(X0 (.gd hg1 rfl) (X0 (.of rfl) X4))) rfl (fun hg1=>X7k u.name 33 hn B _ I _ hS) hS ?_
 clear hS; rintro w hS
 refine .gval rfl rfl (fun hg1=>(.not (.gd hg1 rfl))) rfl (.val (.por (.of rfl) (.of rfl) (.of rfl)) rfl (.nil ?_))
 refine WC.cond rfl (fun hb36=>?_) (fun hb36=>?_)
 ·
  refine .seq (.q 1 rfl (.ret (Xh Xq2 rfl ?_)))
  refine ⟨_,rfl,congrArg Value.bool ?_,hS.drop (k:=0) rfl⟩
  rw [Xb5]
  rcases Y21.1 hb36 with h | h
  ·rw [h]; rfl
  ·rw [show X3g u.name 33=false by simpa using h]; simp
 have hc36:=hb36; try simp only [Y6] at hc36
 refine .skip (.seq (.seq (.q 1 rfl (.block (.loop (σ:=Nat) (fun i=>[(1,ptr b1 0),(3,I64 (i:Nat))]) (fun i w=>i≤u.attrs.length∧(∀ (j:Nat) y,j<i→u.attrs[j]?=some y→Xl1 y=false)∧Sat B w I (blk b1 [S u.name,S u.pw,.slice a u.attrs.length c] 67::As)) (fun i=>u.attrs.length - i) 0 ⟨rfl,rfl,trivial⟩ ⟨Yq _,fun _ _ h=>absurd h (by omega),hS⟩ ?_)))))
 rintro i w ⟨hi,hno,hS⟩
 refine .seq (.seq (.t 1 rfl ?_))
 refine WL.val (.fieldAddr 2 (.of rfl) X5g rfl rfl Xcv rfl) rfl ?_
 refine WL.val (.ld (.of rfl) hS (k:=0) rfl Xdj rfl) rfl ?_
 refine .run 2 rfl ⟨⟨_,X6n⟩,trivial⟩ (.nil ?_)
 refine WC.cond rfl (fun hb41=>?_) (fun hb41=>?_)
 ·
  have hc41:=hb41; try simp only [Y6] at hc41
  refine .skip (.seq (.block (.seq ?_)))
  obtain ⟨x,hx0⟩:∃ x,u.attrs[i]?=some x:=⟨_,Y4 (by omega)⟩
  obtain ⟨q,hq9,hx⟩:=X4d (cells:=Xk) (s:=2) (fun _=>rfl) hR hx0
  subst hq9
  unfold Xk at hx
  have hfx:=hA x (Yl hx0)
  have hf1:=hfx.1
  have hf2:=hfx.2
  unfold maxLen at hf1 hf2
  refine .region ?_
  refine WL.val (.fieldAddr 2 (.of rfl) X5g rfl rfl Xcv rfl) rfl ?_
  refine WL.val (.ld (.of rfl) hS (k:=0) rfl Xdj rfl) rfl ?_
  refine .q 1 rfl ?_
  refine WL.val (.indexAddrI (.of rfl) (.of rfl) (by omega) (by omega) X6n X9l) rfl ?_
  refine WL.val (.ldsI (.of rfl) hS hx Xp9 X9l rfl (fun _ _ h=>h)) rfl ?_
  refine .allocA (cs:=[_,_]) hS Qz69 rfl ?_
  clear hS; intro b4 w hS
  refine WL.stA hS (k:=0) rfl (.of rfl) (.of rfl) rfl X9l rfl (by simp) ?_
  clear hS; intro w hS
  try simp only [Yh,Yd,Y9,Y7,Yg,Ym,Yc] at hS
  refine .nil (.seq (.region ?_))
  refine WL.val (.fieldAddr 0 (.of rfl) Xi1 rfl rfl Qs9 rfl) rfl ?_
  refine WL.val (.ld (.of rfl) hS (k:=0) rfl Qg9 rfl) rfl ?_
  refine .call Tryz.func161 rfl (X0 (.of rfl) X4) rfl (Xet x.1 (by omega) B _ I _ hS) ?_
  clear hS
  rintro _ w ⟨rfl,hS⟩
  refine .q 2 rfl ?_
  refine WL.gval rfl rfl (fun hg1=>(by exact .fieldAddr 1 (.of rfl) Xi1 rfl rfl Qs9 rfl)) rfl ?_
  refine WL.gval rfl rfl (fun hg1=>(by exact (.ld (.gd hg1 rfl) hS (k:=0) rfl Qg9 rfl))) rfl ?_
  refine .gval rfl rfl (fun hg1=>(.len (.gd hg1 rfl) Qu9)) rfl (.gval rfl rfl (fun hg1=>(.gtr (.gd hg1 rfl) (.of rfl))) rfl (.val (.por (.of rfl) (.of rfl) (.of rfl)) rfl (.q 1 rfl ?_)))
  refine WL.gval rfl rfl (fun hg1=>(by exact .fieldAddr 1 (.of rfl) Xi1 rfl rfl Qs9 rfl)) rfl ?_
  refine WL.gval rfl rfl (fun hg1=>(by exact (.ld (.gd hg1 rfl) hS (k:=0) rfl Qg9 rfl))) rfl ?_
  refine .gcall (T:=fun w=>Sat B w I _) rfl rfl rfl Tryz.func160 rfl (fun hg1=>(X0 (.gd hg1 rfl) (X0 (.of rfl) X4))) rfl (fun hg1=>X7k x.2 32 (by omega) B _ I _ hS) hS ?_
  clear hS; rintro w hS
  refine .gval rfl rfl (fun hg1=>(.not (.gd hg1 rfl))) rfl (.val (.por (.of rfl) (.of rfl) (.of rfl)) rfl (.nil ?_))
  refine WC.cond rfl (fun hb64=>?_) (fun hb64=>?_)
  ·
   refine .seq (.q 1 rfl (.ret (Xh Xq2 rfl ?_)))
   refine ⟨_,rfl,congrArg Value.bool ?_,(hS.drop (k:=0) rfl).drop (k:=0) rfl⟩
   have:u.attrs.any Xl1=true:=Y2i.2 ⟨x,Yl hx0,by rw [Xiu]; exact hb64⟩
   rw [Xb5,this]; simp
  have hc64:=hb64; try simp only [Y6] at hc64
  refine .skip (.region (.run 3 rfl ⟨⟨by omega,by omega⟩,trivial⟩ (.nil ?_)))
  refine ⟨i+1,⟨rfl,rfl,trivial⟩,⟨by (try dsimp only); omega,fun j y hj hy=>?_,hS.drop (k:=0) rfl⟩,by (try dsimp only); omega⟩
  rcases Yr j i with h1 | h1
  ·exact hno j y h1 hy
  ·have e:j=i:=by omega
   subst e
   rw [hx0] at hy; cases hy
   rw [Xiu]; exact hb64
 have hc41:=hb41; try simp only [Y6] at hc41
 refine .exit (.seq (.q 1 rfl (.ret (Xh Xq2 rfl ?_))))
 refine ⟨_,rfl,congrArg Value.bool ?_,hS.drop (k:=0) rfl⟩
 have:u.attrs.any Xl1=false:=by
  rw [Y3e]
  intro y hy
  obtain ⟨j,hj⟩:=Y10.1 hy
  have:=(Y5.1 hj).1
  rw [hno j y (by omega) hj]; decide
 obtain ⟨h1,h2⟩:=Y13.1 hb36
 rw [Xb5,this,h1,show X3g u.name 33=true by simpa using h2]; rfl
theorem Xb7 (a:Option Addr) (cap:Nat) (l:List Us) (hln:l.length≤9223372036854775807) (hfit:∀ u∈l,u.fits) (B w:World) (I:Im) (hU:UsrsAt I a l) (As:List Xe) (hS:Sat B w I As) :
  Calls Tryz.prog 70 [.slice a l.length cap].toArray w (Ret fun v w'=>v=.tuple #[I64 ((X3z l 0 []).1:Nat),I64 ((X3z l 0 []).2:Nat)]∧Sat B w' I As):=by
 refine calls Tryz.func70 rfl Tryz.ntmps70 rfl (.seq (.q 2 rfl (.seq (.seq (.q 1 rfl (.block (.loop (σ:=Nat) (fun i=>[(0,.slice a l.length cap),(4,I64 (i:Nat))]) (fun i w=>i≤l.length∧i≤16∧X3z (l.drop i) i (l.take i)=X3z l 0 []∧Sat B w I As) (fun i=>l.length - i) 0 ⟨rfl,rfl,trivial⟩ ⟨Yq _,Yq _,rfl,hS⟩ ?_)))))))
 rintro i w ⟨hi,hi6,hq,hS⟩
 refine .seq (.seq (.region (.run 4 rfl ⟨⟨_,X9n⟩,trivial⟩ (.nil ?_))))
 refine WC.cond rfl (fun hb10=>?_) (fun hb10=>?_)
 ·
  have hc10:=hb10; try simp only [Y6] at hc10
  refine .skip (.seq (.block (.seq (.seq ?_))))
  obtain ⟨u,hu⟩:∃ u,l[i]?=some u:=⟨_,Y4 (by omega)⟩
  obtain ⟨p,ra,rc,hap,hx,hrc,hRR⟩:=hU i u hu
  have hfu:=hfit u (Yl hu)
  subst hap
  unfold X2m at hx
  have hstep:X3z (l.drop i) i (l.take i)=if 16≤i then (5,i) else if X67 u=false then (1,i) else if (l.take i).any (fun t=>t.name == u.name) then (7,i) else X3z (l.drop (i+1)) (i+1) (l.take (i+1)):=by
   rw [Y1j (by omega),(Y5.1 hu).2,X3z]
   simp only [Y15,hu,Y1s]
  rw [hq] at hstep
  refine .q 2 rfl ?_
  refine WC.cond rfl (fun hb14=>?_) (fun hb14=>?_)
  ·
   refine .seq (.q 3 rfl (.ret (X2g Qr70 rfl rfl ?_)))
   have hE:X3z l 0 []=(5,i):=by rw [hstep]; exact if_pos (by have h:=hb14; simp at h; omega)
   rw [hE]
   exact ⟨_,rfl,rfl,hS⟩
  have hc14:=hb14; try simp only [Y6] at hc14
  refine .skip (.seq ?_)
  have hi16:i≠16:=by
   have h:=hb14
   simp at h
   omega
  refine .t 2 rfl ?_
  refine WL.val (.indexAddrI (.of rfl) (.of rfl) (by omega) (by omega) X9n X9p) rfl ?_
  refine WL.val (.ldsI (.of rfl) hS hx Qg67 X9p rfl (fun _ _ h=>h)) rfl ?_
  refine .call Tryz.func122 rfl (X0 (.of rfl) X4) rfl (Xc0 u ra rc hfu.name hfu.pw hfu.attrs.1 hfu.attrs.2 B _ I hRR _ hS) ?_
  clear hS
  rintro _ w ⟨rfl,hS⟩
  refine .q 1 rfl (.nil (.seq (.seq (.q 2 rfl ?_))))
  refine WC.cond rfl (fun hb22=>?_) (fun hb22=>?_)
  ·
   refine .seq (.q 3 rfl (.ret (X2g Qr70 rfl rfl ?_)))
   have hE:X3z l 0 []=(1,i):=by rw [hstep]; rw [if_neg (by omega)]; exact if_pos (by simpa using hb22)
   rw [hE]
   exact ⟨_,rfl,rfl,hS⟩
  have hc22:=hb22; try simp only [Y6] at hc22
  refine .skip (.seq (.q 1 rfl (.block (.loop (σ:=Nat) (fun k=>[(0,.slice (some p) l.length cap),(4,I64 (i:Nat)),(6,I64 (k:Nat))]) (fun k w=>k≤i∧(∀ (q:Nat) (t:Us),q<k→l[q]?=some t→t.name≠u.name)∧Sat B w I As) (fun k=>i - k) 0 ⟨rfl,rfl,rfl,trivial⟩ ⟨Yq _,fun _ _ h=>absurd h (by omega),hS⟩ ?_))))
  rintro k w ⟨hk,hids,hS⟩
  refine .seq (.seq (.q 3 rfl ?_))
  refine WC.cond rfl (fun hb26=>?_) (fun hb26=>?_)
  ·
   have hc26:=hb26; try simp only [Y6] at hc26
   refine .skip (.seq (.block (.seq ?_)))
   obtain ⟨z,hzk⟩:∃ z,l[k]?=some z:=⟨_,Y4 (by omega)⟩
   obtain ⟨p2,ra2,rc2,e2,hz,_,_⟩:=hU k z hzk
   cases e2
   unfold X2m at hz
   refine .quiet (by kernel_rfl) (by kernel_rfl) hS (.val (fun w hS=>(.move (.of rfl))) rfl (.val (fun w hS=>(.move (.of rfl))) rfl ?_))
   refine WQ.val (fun w hS=>(by exact .indexAddrI (.of rfl) (.of rfl) (by omega) (by omega) X9n X9p)) rfl ?_
   refine WQ.val (fun w hS=>(by exact .fieldAddrI 0 (.of rfl) X5g rfl rfl Qs9 rfl)) rfl ?_
   refine WQ.val (fun w hS=>(by exact (.ldI (.of rfl) hS (At.add hz _) Qg9 rfl))) rfl ?_
   refine .val (fun w hS=>(.move (.of rfl))) rfl (.val (fun w hS=>(.move (.of rfl))) rfl ?_)
   refine WQ.val (fun w hS=>(by exact .indexAddrI (.of rfl) (.of rfl) (by omega) (by omega) X9n X9p)) rfl ?_
   refine WQ.val (fun w hS=>(by exact .fieldAddrI 0 (.of rfl) X5g rfl rfl Qs9 rfl)) rfl ?_
   refine WQ.val (fun w hS=>(by exact (.ldI (.of rfl) hS (At.add hx _) Qg9 rfl))) rfl ?_
   refine .val (fun w hS=>(.eqs (.of rfl) (.of rfl))) rfl (.nil ?_)
   clear hS; intro w hS
   refine WC.cond rfl (fun hb39=>?_) (fun hb39=>?_)
   ·
    have hc39:=hb39; try simp only [Y6] at hc39
    refine .seq (.q 3 rfl (.ret (X2g Qr70 rfl rfl ?_)))
    have hE:X3z l 0 []=(7,i):=by rw [hstep]; rw [if_neg (by omega)]; rw [if_neg (show ¬ X67 u=false by simpa using hb22)]; exact if_pos (Y2i.2 ⟨z,Yl (i:=k) (by rw [Y1x,if_pos (by omega)]; exact hzk),by simpa using hb39⟩)
    rw [hE]
    exact ⟨_,rfl,rfl,hS⟩
   have hc39:=hb39; try simp only [Y6] at hc39
   refine .skip (.region (.run 3 rfl ⟨⟨by omega,by omega⟩,trivial⟩ (.nil ?_)))
   refine ⟨k+1,⟨rfl,rfl,rfl,trivial⟩,⟨by omega,fun q t hq2 hu2=>?_,hS⟩,by omega⟩
   rcases Yr q k with h1 | h1
   ·exact hids q t h1 hu2
   ·have e:q=k:=by omega
    subst e
    rw [hzk] at hu2; cases hu2
    simpa using hb39
  have hc26:=hb26; try simp only [Y6] at hc26
  refine .exit (.region (.run 3 rfl ⟨⟨by omega,by omega⟩,trivial⟩ (.nil ?_)))
  refine ⟨i+1,⟨rfl,rfl,trivial⟩,⟨by (try dsimp only); omega,by (try dsimp only); omega,?_,hS⟩,by (try dsimp only); omega⟩
  show X3z (l.drop (i+1)) (i+1) (l.take (i+1))=_
  rw [hstep,if_neg (by omega),if_neg (show ¬ X67 u=false by simpa using hb22),if_neg]
  rw [Y2d,Y3e]
  intro t ht
  obtain ⟨q,hq2⟩:=Y10.1 ht
  rw [Y1x] at hq2
  split at hq2
  ·rename_i hqi
   have:=hids q t (by omega) hq2
   simpa using this
  ·cases hq2
 have hc10:=hb10; try simp only [Y6] at hc10
 refine .exit (.seq (.q 2 rfl (.ret (X2g Qr70 rfl rfl ?_))))
 have e:i=l.length:=by omega
 subst e
 have hE:X3z l 0 []=(0,0):=by rw [← hq,Y34]; rfl
 rw [hE]
 exact ⟨_,rfl,rfl,hS⟩
theorem Xq0:Bld Tryz.prog 79 [(0,1),(1,1)] [.int .i64 0,.slice none 0 0]:=X26 Xdk Tryz.zeroValue79 (fun w=>by simp [go_sem])
theorem Xqk:Bld Tryz.prog 83 [(0,28),(28,1),(29,1),(30,1)] [.slice none 0 0,.slice none 0 0,.int .i64 0,.int .i64 0,.int .i64 0,.int .i64 0,.int .i64 0,.int .i64 0,.int .i64 0,.int .i64 0,.int .i64 0,.int .i64 0,.int .i64 0,.int .i64 0,.int .i64 0,.int .i64 0,.int .i64 0,.int .i64 0,.int .i64 0,.int .i64 0,.int .i64 0,.int .i64 0,.int .i64 0,.int .i64 0,.float .f64 0,.float .f64 0,.float .f64 0,.int .i64 0,.pointer none,.slice none 0 0,.int .i64 0]:=X26 Xf0 Tryz.zeroValue83 (fun w=>by simp [go_sem])
structure Xp where
 xb:Nat
 tb:Nat
 c:Cf
 a:Option Addr
 cap:Nat
 ua:Option Addr
 ucap:Nat
 D:List Int
abbrev XC (x:Xp) (da:Option Addr) (n dc:Nat) (now:Int):List Value:=[.slice x.a x.c.svs.length x.cap,.slice x.ua x.c.us.length x.ucap,I64 (x.c.ps 0),I64 (x.c.ps 1),I64 (x.c.ps 2),I64 (x.c.ps 3),I64 (x.c.ps 4),I64 (x.c.ps 5),I64 (x.c.ps 6),I64 (x.c.ps 7),I64 (x.c.ps 8),I64 (x.c.ps 9),I64 (x.c.ps 10),I64 (x.c.ps 11),I64 (x.c.ps 12),I64 (x.c.ps 13),I64 (x.c.ps 14),I64 (x.c.ps 15),I64 (x.c.ps 16),I64 (x.c.ps 17),I64 (x.c.ps 18),I64 (x.c.ps 19),I64 (x.c.ps 20),I64 x.c.room,F64 x.c.base,F64 x.c.factor,F64 x.c.most,I64 x.c.tries,ptr x.tb 0,.slice da n dc,I64 now]
structure XpOk (I:Im) (x:Xp) (lo:List Sv) (us:List Us) (ps:Nat→Int):Prop where
 cf:CfAt I x.c x.a x.cap x.ua x.ucap
 fits:x.c.fits
 ok:X4o x.c=0
 D:Srt.Ord (kx (ords x.c.svs)) x.c.svs.length x.D
 lo:lo=X3o x.c.svs x.D
 us:us=x.c.us
 ps:ps=x.c.ps
theorem XpOk.mono {I J:Im} {x:Xp} {lo:List Sv} {us:List Us} {ps:Nat→Int} (h:XpOk I x lo us ps) (hl:Le I J):XpOk J x lo us ps:=⟨h.cf.mono hl,h.fits,h.ok,h.D,h.lo,h.us,h.ps⟩
def RwM (J:Im) (la da:Option Addr) (dc:Nat) (ω:Wd):Prop:=RS J la 10 ω.l.length (Xy X7 ω.l)∧RS J da 1 ω.D.length (ω.D.map fun d=>U64 (d:Nat))∧ω.D.length≤dc
theorem RwM.mono {I J:Im} {la da:Option Addr} {dc:Nat} {ω:Wd} (h:RwM I la da dc ω) (hl:Le I J):RwM J la da dc ω:=⟨h.1.mono hl,h.2.1.mono hl,h.2.2⟩
abbrev xlo (x:Xp):List Sv:=X3o x.c.svs x.D
theorem Xo0 {c:Cf} (h:X4o c=0):(X3c c.svs).1=0:=by
 unfold X4o at h
 split at h
 ·exact h
 ·rename_i h1; exact Decidable.not_not.1 h1
theorem Xlj {c:Cf} (h:X4o c=0):X64 c.ps=true:=by
 unfold X4o at h
 split at h
 ·rename_i h1; exact absurd h h1
 ·split at h
  ·rename_i h1; exact absurd h h1
  ·split at h
   ·cases h
   ·rename_i h1; simpa using h1
theorem Xm1 {c:Cf} (h:X4o c=0) (k:Nat) (hk:k<21):0≤(psL c.ps).getD k 0:=by
 rw [Xg4 c.ps hk]
 exact Xgo (Xlj h) k hk
theorem Xm6 {I:Im} {a:Option Addr} {l:List Sv} (h:SvsAt I a l):∃ L,SvsIn I a L l:=by
 have key:∀ i:Nat,∃ c,∀ s,l[i]?=some s→∃ p,a=some p∧At I (p.add (i*8)) c∧SvAt I s c:=fun i=>by
  cases e:l[i]? with
  | none=>exact ⟨[],fun s h=>by cases h⟩
  | some s =>
   obtain ⟨p,ra,rc,h1,h2,h3,h4⟩:=h i s e
   exact ⟨X1u s ra rc,fun t ht=>by cases ht; exact ⟨p,h1,h2,ra,rc,rfl,h3,h4⟩⟩
 refine ⟨(List.range l.length).map fun i=>Classical.choose (key i),by simp,fun i s hs=>?_⟩
 have hi:=(Y5.1 hs).1
 obtain ⟨p,h1,h2,h3⟩:=Classical.choose_spec (key i) s hs
 refine ⟨p,_,h1,?_,h2,h3⟩
 rw [Yw,Y49 hi]; rfl
theorem x_pol {x:Xp} {da:Option Addr} {n dc:Nat} {now:Int} {j:Nat} {v:Value} (h:((psL x.c.ps).map I64)[j]?=some v):((.slice x.a x.c.svs.length x.cap::.slice x.ua x.c.us.length x.ucap::((psL x.c.ps).map I64 ++ [I64 x.c.room,F64 x.c.base,F64 x.c.factor,F64 x.c.most,I64 x.c.tries,ptr x.tb 0,.slice da n dc,I64 now])):List Value)[0+2+j]?=some v:=by
 have h1:=(Y5.1 h).1
 rw [show ((.slice x.a x.c.svs.length x.cap::.slice x.ua x.c.us.length x.ucap::((psL x.c.ps).map I64 ++ [I64 x.c.room,F64 x.c.base,F64 x.c.factor,F64 x.c.most,I64 x.c.tries,ptr x.tb 0,.slice da n dc,I64 now])):List Value)=[.slice x.a x.c.svs.length x.cap,.slice x.ua x.c.us.length x.ucap] ++ ((psL x.c.ps).map I64 ++ [I64 x.c.room,F64 x.c.base,F64 x.c.factor,F64 x.c.most,I64 x.c.tries,ptr x.tb 0,.slice da n dc,I64 now]) from rfl,Yv (by simp),Ye,Ye,Yn,show 0+2+j - (0+1+1)=j by omega,Yi h1]
 exact h
theorem Xf7 (n:Int) (x:Xp) {lo:List Sv} {us:List Us} {ps:Nat→Int} (ω:Wd) (hω:X7t ω) (la:Option Addr) (lc:Nat) (da:Option Addr) (dc:Nat) (B w:World) (I:Im) (hX:XpOk I x lo us ps) (hM:RwM I la da dc ω) (As:List Xe) (hS:Sat B w I (blk x.xb (XC x da ω.D.length dc ω.now) 83::blk x.tb [I64 ω.room,.slice la ω.l.length lc] 79::As)) :
  Calls Tryz.prog 26 [ptr x.xb 0,I64 n].toArray w (Ret fun v w'=>v=.tuple #[]∧Sat B w' I (blk x.xb (XC x da (Xo9 ω n).D.length dc (Xo9 ω n).now) 83::blk x.tb [I64 (Xo9 ω n).room,.slice la (Xo9 ω n).l.length lc] 79::As)):=by
 obtain rfl:=hX.lo
 obtain rfl:=hX.us
 obtain rfl:=hX.ps
 refine calls Tryz.func26 rfl Tryz.ntmps26 rfl ?_
 have hnow:=hω.now
 refine .t 3 rfl ?_
 refine WL.val (.fieldAddr 30 (.of rfl) Xf0 rfl rfl Qs3 rfl) rfl ?_
 refine WL.val (.ld (.of rfl) hS (k:=0) rfl Qg3 rfl) rfl ?_
 refine .q 1 rfl (.val (.min2 (.of rfl) (.of rfl)) rfl (.val (.max2 (.of rfl) (.of rfl)) rfl (.run 1 rfl ⟨⟨by omega,by omega⟩,trivial⟩ (.val (.min2 (.of rfl) (.of rfl)) rfl (.q 1 rfl ?_)))))
 refine WL.val (.fieldAddr 30 (.of rfl) Xf0 rfl rfl Qs3 rfl) rfl ?_
 refine WL.st1 hS (k:=0) rfl (.of rfl) (.of rfl) rfl Qs3 (by simp) ?_
 clear hS; intro w hS
 refine .nil (X85 Tryz.results26 ?_)
 rw [show min (1099511627776:Int) (ω.now+max 0 (min n 1099511627776))=min (ω.now+max 0 (min n 1099511627776)) 1099511627776 from Int.min_comm _ _] at hS
 exact ⟨_,rfl,rfl,hS⟩
theorem Xdn {ps:List Int} {l:List Rec} {name:List UInt8} {now:Int} (h:get l name=none):X3w ps l name now=false:=by
 rcases Tr.get_at l name with ⟨h1,_⟩ | ⟨j,r,_,_,_,h2⟩
 ·unfold X3w path
  rw [h1,X66 l (by omega)]; rfl
 ·rw [h] at h2; cases h2
theorem Xkq {ps:Nat→Int} {ω:Wd} {name:List UInt8} {kind:Int} (h:(((!(get ω.l name).isSome || !X3w (psL ps) ω.l name ω.now) || ((getD ω.l name).kind != kind)))=true):X8 ps ω name kind=(r0,false):=by
 unfold X8
 rw [if_pos]
 cases hg:get ω.l name with
 | none=>rw [Xdn hg]; simp
 | some r=>rw [hg] at h; simp at h ⊢; rcases h with h | h <;> simp [h]
theorem Xh0 {ps:Nat→Int} {ω:Wd} {name:List UInt8} {kind:Int} (h:(((!(get ω.l name).isSome || !X3w (psL ps) ω.l name ω.now) || ((getD ω.l name).kind != kind)))=false):X8 ps ω name kind=(getD ω.l name,true):=by
 unfold X8
 rw [if_neg]
 simp at h ⊢
 exact ⟨h.2,h.1.2⟩
theorem Xax (name:List UInt8) (kind:Int) (x:Xp) {lo:List Sv} {us:List Us} {ps:Nat→Int} (ω:Wd) (hω:X7t ω) (la:Option Addr) (lc:Nat) (da:Option Addr) (dc:Nat) (B w:World) (I:Im) (hX:XpOk I x lo us ps) (hM:RwM I la da dc ω) (As:List Xe) (hS:Sat B w I (blk x.xb (XC x da ω.D.length dc ω.now) 83::blk x.tb [I64 ω.room,.slice la ω.l.length lc] 79::As)) :
  Calls Tryz.prog 54 [ptr x.xb 0,S name,I64 kind].toArray w (Ret fun v w'=>v=.tuple #[.agg (X7 (X8 ps ω name kind).1).toArray,.bool (X8 ps ω name kind).2]∧Sat B w' I (blk x.xb (XC x da ω.D.length dc ω.now) 83::blk x.tb [I64 ω.room,.slice la ω.l.length lc] 79::As)):=by
 obtain rfl:=hX.lo
 obtain rfl:=hX.us
 obtain rfl:=hX.ps
 refine calls Tryz.func54 rfl Tryz.ntmps54 rfl (.seq (.region (.allocA (cs:=[_,_,_,_,_,_,_,_,_,_]) hS X7c rfl ?_)))
 clear hS; intro b6 w hS
 refine .q 1 rfl (.nil (.seq ?_))
 have hlen:=hω.len
 refine .t 2 rfl ?_
 refine WL.val (.fieldAddr 28 (.of rfl) Xf0 rfl rfl Xpq rfl) rfl ?_
 refine WL.val (.ld (.of rfl) hS (k:=1) rfl Xox rfl) rfl ?_
 refine .q 1 rfl (.call Qf82 rfl (X0 (.of rfl) (X0 (.of rfl) X4)) rfl (X50 x.tb ω.room la lc ω.l (by omega) name B _ I hM.1 _ (hS.pick 2 rfl)) ?_)
 clear hS
 rintro _ w ⟨rfl,hS⟩
 refine .q 3 rfl (.allocA (cs:=[_,_,_,_,_,_,_,_,_,_]) hS X7c rfl ?_)
 clear hS; intro b8 w hS
 refine WL.stA hS (k:=0) rfl (.of rfl) (.of rfl) rfl X17 rfl (by simp) ?_
 clear hS; intro w hS
 try simp only [Yh,Yd,Y9,Y7,Yg,Ym,Yc] at hS
 refine .q 1 rfl (.nil (.seq (.drawn (fun w=>∃ R,Sat B w I (blk x.xb (XC x da ω.D.length dc ω.now) 83::R)) (fun j=>!([].contains j)) (by kernel_rfl) ?_)))
 replace hS:=hS.drew; generalize w.drew=w at hS ⊢
 have hH:=(hS.pick 3 rfl)
 refine .tp (i:=0) rfl (by kernel_rfl) (fun w=>(.move (.of rfl))) rfl (.tp (i:=1) rfl (by kernel_rfl) (fun w=>(.nilCheck (.of rfl))) rfl ?_)
 refine WD.tp (i:=2) rfl (by kernel_rfl) (fun w=>(.fieldAddr 28 (.of rfl) Xf0 rfl rfl Xpq rfl)) rfl ?_
 refine .tk (i:=3) rfl (by kernel_rfl) ⟨_,hH⟩ (fun w ⟨R,hS⟩=>(.ld (.of rfl) hS (k:=0) rfl Xox rfl)) rfl (.tp (i:=4) rfl (by kernel_rfl) (fun w=>(.move (.of rfl))) rfl (.tp (i:=5) rfl (by kernel_rfl) (fun w=>(.nilCheck (.of rfl))) rfl ?_))
 refine WD.tp (i:=6) rfl (by kernel_rfl) (fun w=>(.fieldAddr 0 (.of rfl) Xf0 rfl rfl Xl3 rfl)) rfl ?_
 refine WD.tp (i:=7) rfl (by kernel_rfl) (fun w=>(.fieldAddr 2 (.of rfl) Xdl rfl rfl Xhu rfl)) rfl ?_
 refine .tk (i:=8) rfl (by kernel_rfl) ⟨_,hH⟩ (fun w ⟨R,hS⟩=>.lds (vs:=(psL x.c.ps).map I64) (.of rfl) hS (k:=0) rfl Xqq Xhu rfl (fun j v hj=>x_pol hj)) rfl (.tp (i:=9) rfl (by kernel_rfl) (fun w=>(.move (.of rfl))) rfl (.tp (i:=10) rfl (by kernel_rfl) (fun w=>(.move (.of rfl))) rfl (.tp (i:=11) rfl (by kernel_rfl) (fun w=>(.nilCheck (.of rfl))) rfl ?_)))
 refine WD.tp (i:=12) rfl (by kernel_rfl) (fun w=>(.fieldAddr 30 (.of rfl) Xf0 rfl rfl Qs3 rfl)) rfl ?_
 refine .tk (i:=13) rfl (by kernel_rfl) ⟨_,hH⟩ (fun w ⟨R,hS⟩=>(.ld (.of rfl) hS (k:=0) rfl Qg3 rfl)) rfl ?_
 refine WD.branch [14] (by kernel_rfl) rfl (WO.cons rfl ?_ (WO.nil))
 refine .call Tryz.func105 rfl (X0 (.of rfl) (X0 (.of rfl) (X0 (.of rfl) (X0 (.of rfl) X4)))) rfl (X9m x.tb ω.room la lc ω.l (by omega) hω.wf (psL x.c.ps) rfl (Xm1 hX.ok) name ω.now hω.now B _ I hM.1 _ (hS.pick 1 rfl)) ?_
 clear hS
 rintro _ w ⟨rfl,hS⟩
 refine .nil ?_
 clear hH
 have hH:=(hS.pick 3 rfl)
 refine And.intro (by intro _ _; exact ⟨_,hH⟩) ?_
 refine .tp (i:=15) rfl (by kernel_rfl) (fun w=>(.assign (.of rfl))) rfl (.done (by kernel_rfl) (.seq (.seq (.t 3 rfl (.gval rfl rfl (fun hg1=>(.move (.of rfl))) rfl (.gval rfl rfl (fun hg1=>(.not (.gd hg1 rfl))) rfl (.val (.por (.of rfl) (.of rfl) (.of rfl)) rfl (.q 1 rfl ?_))))))))
 refine WL.gval rfl rfl (fun hg1=>(by exact .fieldAddr 0 (.of rfl) X16 rfl rfl Qs3 rfl)) rfl ?_
 refine WL.gval rfl rfl (fun hg1=>(by exact (.ld (.gd hg1 rfl) hS (k:=1) rfl Qg3 rfl))) rfl ?_
 refine .gval rfl rfl (fun hg1=>(.move (.of rfl))) rfl (.gval rfl rfl (fun hg1=>(.neq (.gd hg1 rfl) (.gd hg1 rfl))) rfl (.val (.por (.of rfl) (.of rfl) (.of rfl)) rfl (.nil ?_)))
 refine WC.cond rfl (fun hb46=>?_) (fun hb46=>?_)
 ·
  refine .seq (.region (.val (.build (cs:=[_,_,_,_,_,_,_,_,_,_]) X6 X2d rfl) rfl ?_))
  refine WL.stA hS (k:=2) rfl (.of rfl) (.of rfl) rfl X17 rfl (by simp) ?_
  clear hS; intro w hS
  try simp only [Yh,Yd,Y9,Y7,Yg,Ym,Yc] at hS
  refine .q 1 rfl (.nil (.ret ?_))
  refine X18 (b:=_) (cs:=[_,_,_,_,_,_,_,_,_,_]) Tryz.results54 hS (k:=2) rfl X36 X17 rfl rfl rfl ?_
  rw [Xkq hb46]
  exact ⟨_,rfl,rfl,(((hS.pick 3 rfl).drop (k:=2) rfl).drop (k:=2) rfl)⟩
 refine .skip (.seq (.region ?_))
 refine WL.val (.ldsW (cs:=[_,_,_,_,_,_,_,_,_,_]) (.of rfl) hS (k:=1) rfl X36 X17 rfl) rfl ?_
 refine WL.stA hS (k:=2) rfl (.of rfl) (.of rfl) rfl X17 rfl (by simp) ?_
 clear hS; intro w hS
 try simp only [Yh,Yd,Y9,Y7,Yg,Ym,Yc] at hS
 refine .q 1 rfl (.nil (.ret ?_))
 refine X18 (b:=_) (cs:=[_,_,_,_,_,_,_,_,_,_]) Tryz.results54 hS (k:=2) rfl X36 X17 rfl rfl rfl ?_
 rw [Xh0 hb46]
 exact ⟨_,rfl,rfl,(((hS.pick 3 rfl).drop (k:=2) rfl).drop (k:=2) rfl)⟩
theorem Xec (n:Int) (B w:World) (I:Im) (As:List Xe) (hS:Sat B w I As) :
  Calls Tryz.prog 72 [I64 n].toArray w (Ret fun v w'=>∃ tb,v=ptr tb 0∧Sat B w' I (blk tb [I64 (Xkl n),.slice none 0 0] 79::As)):=by
 refine calls Tryz.func72 rfl Tryz.ntmps72 rfl (.seq (.q 1 rfl (.seq (.t 1 rfl (.val (.min2 (.of rfl) (.of rfl)) rfl (.val (.max2 (.of rfl) (.of rfl)) rfl (.val (.build (cs:=[_,_]) (X5 (.of rfl) X6) Xq0 rfl) rfl (.boxA (cs:=[_,_]) hS (.of rfl) rfl ?_))))))))
 clear hS; intro b7 w hS
 refine .q 1 rfl (.nil (.ret (Xh Tryz.results72 rfl ?_)))
 exact ⟨_,rfl,b7,rfl,hS⟩
theorem cf_pol {c:Cf} {a ua:Option Addr} {cap ucap:Nat} {j:Nat} {v:Value} (h:((psL c.ps).map I64)[j]?=some v):(Xz c a cap ua ucap)[0+2+j]?=some v:=by
 have h1:=(Y5.1 h).1
 rw [show Xz c a cap ua ucap=[.slice a c.svs.length cap,.slice ua c.us.length ucap] ++ ((psL c.ps).map I64 ++ [I64 c.room,F64 c.base,F64 c.factor,F64 c.most,I64 c.tries]) from rfl,Yv (by simp),Ye,Ye,Yn,show 0+2+j - (0+1+1)=j by omega,Yi h1]
 exact h
set_option maxRecDepth 20000 in
theorem X97 (c:Cf) (hc:c.fits) (a:Option Addr) (cap:Nat) (ua:Option Addr) (ucap:Nat) (B w:World) (I:Im) (hC:CfAt I c a cap ua ucap) (As:List Xe) (hS:Sat B w I As) :
  Calls Tryz.prog 24 [.agg (Xz c a cap ua ucap).toArray].toArray w (Ret fun v w'=>(X4o c≠0∧v=.tuple #[.pointer none,I64 (X4o c:Nat)]∧Sat B w' I As)∨(X4o c=0∧∃ xb tb,v=.tuple #[ptr xb 0,I64 0]∧Sat B w' I (blk xb [.slice a c.svs.length cap,.slice ua c.us.length ucap,I64 (c.ps 0),I64 (c.ps 1),I64 (c.ps 2),I64 (c.ps 3),I64 (c.ps 4),I64 (c.ps 5),I64 (c.ps 6),I64 (c.ps 7),I64 (c.ps 8),I64 (c.ps 9),I64 (c.ps 10),I64 (c.ps 11),I64 (c.ps 12),I64 (c.ps 13),I64 (c.ps 14),I64 (c.ps 15),I64 (c.ps 16),I64 (c.ps 17),I64 (c.ps 18),I64 (c.ps 19),I64 (c.ps 20),I64 c.room,F64 c.base,F64 c.factor,F64 c.most,I64 c.tries,ptr tb 0,.slice none 0 0,I64 0] 83::blk tb [I64 (Xkl c.room),.slice none 0 0] 79::As))):=by
 refine calls Tryz.func24 rfl Tryz.ntmps24 rfl (.seq (.region (.boxA (cs:=[.slice a c.svs.length cap,.slice ua c.us.length ucap,I64 (c.ps 0),I64 (c.ps 1),I64 (c.ps 2),I64 (c.ps 3),I64 (c.ps 4),I64 (c.ps 5),I64 (c.ps 6),I64 (c.ps 7),I64 (c.ps 8),I64 (c.ps 9),I64 (c.ps 10),I64 (c.ps 11),I64 (c.ps 12),I64 (c.ps 13),I64 (c.ps 14),I64 (c.ps 15),I64 (c.ps 16),I64 (c.ps 17),I64 (c.ps 18),I64 (c.ps 19),I64 (c.ps 20),I64 c.room,F64 c.base,F64 c.factor,F64 c.most,I64 c.tries]) hS (.of rfl) rfl ?_)))
 clear hS; intro b1 w hS
 refine .q 2 rfl (.nil (.seq (.region ?_)))
 refine WL.val (.fieldAddr 0 (.of rfl) Xdl rfl rfl Qs27 rfl) rfl ?_
 refine .val (.ld (.of rfl) hS (k:=0) rfl Qg27 rfl) rfl (.call Tryz.func69 rfl (X0 (.of rfl) X4) rfl (Xkp a cap c.svs hc.svs (fun s hs=>⟨(hc.sfit s hs).1,(hc.sfit s hs).2.1⟩) B _ I hC.svs _ hS) ?_)
 clear hS
 rintro _ w ⟨rfl,hS⟩
 refine .q 5 rfl (.nil (.seq (.seq (.q 2 rfl ?_))))
 refine WC.cond rfl (fun hb16=>?_) (fun hb16=>?_)
 ·
  refine .seq (.q 3 rfl (.ret (X2g Qr24 rfl rfl ?_)))
  have hE:X4o c=(X3c c.svs).1:=by rw [X4o,if_pos (by simpa using hb16)]
  exact ⟨_,rfl,.inl ⟨by rw [hE]; simpa using hb16,by rw [hE]; rfl,(hS.drop (k:=0) rfl)⟩⟩
 refine .skip (.seq (.region ?_))
 refine WL.val (.fieldAddr 1 (.of rfl) Xdl rfl rfl Qs28 rfl) rfl ?_
 refine .val (.ld (.of rfl) hS (k:=0) rfl Qg28 rfl) rfl (.call Tryz.func70 rfl (X0 (.of rfl) X4) rfl (Xb7 ua ucap c.us hC.un hC.ufit B _ I hC.us _ hS) ?_)
 clear hS
 rintro _ w ⟨rfl,hS⟩
 refine .q 5 rfl (.nil (.seq (.seq (.q 2 rfl ?_))))
 refine WC.cond rfl (fun hb25=>?_) (fun hb25=>?_)
 ·
  refine .seq (.q 3 rfl (.ret (X2g Qr24 rfl rfl ?_)))
  have hE:X4o c=(X3z c.us 0 []).1:=by rw [X4o,if_neg (by simpa using hb16),if_pos (by simpa using hb25)]
  exact ⟨_,rfl,.inl ⟨by rw [hE]; simpa using hb25,by rw [hE]; rfl,(hS.drop (k:=0) rfl)⟩⟩
 refine .skip (.seq (.region ?_))
 refine WL.val (.fieldAddr 2 (.of rfl) Xdl rfl rfl Xhu rfl) rfl ?_
 refine .val (.lds (vs:=(psL c.ps).map I64) (.of rfl) hS (k:=0) rfl Xqq Xhu rfl (fun j v hj=>cf_pol hj)) rfl (.call Tryz.func71 rfl (X0 (.of rfl) X4) rfl (Xb0 c.ps B _ I _ hS) ?_)
 clear hS
 rintro _ w ⟨rfl,hS⟩
 refine .q 1 rfl (.nil (.seq (.seq (.q 2 rfl ?_))))
 refine WC.cond rfl (fun hb31=>?_) (fun hb31=>?_)
 ·
  refine .seq (.q 2 rfl (.ret (X2g Qr24 rfl rfl ?_)))
  have hE:X4o c=1:=by rw [X4o,if_neg (by simpa using hb16),if_neg (by simpa using hb25),if_pos (by simpa using hb31)]
  exact ⟨_,rfl,.inl ⟨by rw [hE]; decide,by rw [hE]; rfl,(hS.drop (k:=0) rfl)⟩⟩
 refine .skip (.seq (.drawn (fun w=>∃ R,Sat B w I (blk b1 [.slice a c.svs.length cap,.slice ua c.us.length ucap,I64 (c.ps 0),I64 (c.ps 1),I64 (c.ps 2),I64 (c.ps 3),I64 (c.ps 4),I64 (c.ps 5),I64 (c.ps 6),I64 (c.ps 7),I64 (c.ps 8),I64 (c.ps 9),I64 (c.ps 10),I64 (c.ps 11),I64 (c.ps 12),I64 (c.ps 13),I64 (c.ps 14),I64 (c.ps 15),I64 (c.ps 16),I64 (c.ps 17),I64 (c.ps 18),I64 (c.ps 19),I64 (c.ps 20),I64 c.room,F64 c.base,F64 c.factor,F64 c.most,I64 c.tries] 34::R)) (fun j=>!([].contains j)) (by kernel_rfl) ?_))
 replace hS:=hS.drew; generalize w.drew=w at hS ⊢
 have hH:=(hS.pick 0 rfl)
 refine WD.tk (i:=0) rfl (by kernel_rfl) ⟨_,hH⟩ (fun w ⟨R,hS⟩=>((.ldsW (cs:=[_,_,_,_,_,_,_,_,_,_,_,_,_,_,_,_,_,_,_,_,_,_,_,_,_,_,_,_]) (.of rfl) hS (k:=0) rfl Xr3 Xl3 rfl))) rfl ?_
 refine WD.tp (i:=1) rfl (by kernel_rfl) (fun w=>(.fieldAddr 23 (.of rfl) Xdl rfl rfl Qs3 rfl)) rfl ?_
 refine .tk (i:=2) rfl (by kernel_rfl) ⟨_,hH⟩ (fun w ⟨R,hS⟩=>(.ld (.of rfl) hS (k:=0) rfl Qg3 rfl)) rfl ?_
 refine WD.branch [3] (by kernel_rfl) rfl (WO.cons rfl ?_ (WO.nil))
 refine .call Tryz.func72 rfl (X0 (.of rfl) X4) rfl (Xec c.room B _ I _ hS) ?_
 clear hS
 rintro _ w ⟨tb,rfl,hS⟩
 refine .nil ?_
 clear hH
 have hH:=(hS.pick 1 rfl)
 refine And.intro (by intro _ _; exact ⟨_,hH⟩) ?_
 refine .tp (i:=4) rfl (by kernel_rfl) (fun w=>(.build (cs:=[_,_,_,_,_,_,_,_,_,_,_,_,_,_,_,_,_,_,_,_,_,_,_,_,_,_,_,_,_,_,_]) (X5 (.of rfl) (X5 (.of rfl) X6)) Xqk rfl)) rfl ?_
 refine WD.branch [5] (by kernel_rfl) rfl (WO.cons rfl ?_ (WO.nil))
 refine .boxA (cs:=[_,_,_,_,_,_,_,_,_,_,_,_,_,_,_,_,_,_,_,_,_,_,_,_,_,_,_,_,_,_,_]) hS (.of rfl) rfl ?_
 clear hS; intro b37 w hS
 refine .nil ?_
 clear hH
 have hH:=(hS.pick 2 rfl)
 refine And.intro (by intro _ _; exact ⟨_,hH⟩) ?_
 refine .tp (i:=6) rfl (by kernel_rfl) (fun w=>(.assign (.of rfl))) rfl (.tp (i:=7) rfl (by kernel_rfl) (fun w=>(.assign (.of rfl))) rfl (.done (by kernel_rfl) (.ret (X2g Qr24 rfl rfl ?_))))
 have hE:X4o c=0:=by rw [X4o,if_neg (by simpa using hb16),if_neg (by simpa using hb25),if_neg (by simpa using hb31)]
 exact ⟨_,rfl,.inr ⟨hE,b37,tb,rfl,(((hS.pick 1 rfl).pick 1 rfl).drop (k:=2) rfl)⟩⟩
end Go.Proofs.YtadhiihnnkcagaaGreatDoor
namespace Gk
open Go
section
variable {P:Program} {n:Nat} {K:X3u} {L:Env} {w:World} {ops:Array Oper} {rest:List Oper}
theorem WL.ecalls {d j t:Nat} {c:List (Bool×Bool)} {b want:Bool} {ty:TypeId} {pos:String} {af:Array Edge} (T:Value→World→Prop) {v0:Value} {f:FuncId} {fn:Func} {xs:List Operand} {ts:Array TypeId} {vs:List Value}
  (hj:(ops[j]?).bind (·.dst)=some t) (ht:Nat.blt t n=true) (hb:look L t=some (gds c (.bool b))) (hf:P.funcs[f]?=some fn) (hc:Xr fn=true)
  (hx:(∀ p∈c ++ [(b,want)],p.1=p.2)→∀ a,Holds n L a→xs.map a.eval=vs) (hd:Nat.blt d n=true)
  (hcall:(∀ p∈c ++ [(b,want)],p.1=p.2)→Calls P f vs.toArray w (Ret T)) (h0:(¬ ∀ p∈c ++ [(b,want)],p.1=p.2)→T v0 w)
  (h:∀ v w',T v w'→WL P n ops K rest ((d,gds (c ++ [(b,want)]) v)::L) w'):WL P n ops K (⟨some d,.call ⟨.value (.func f),xs.toArray,ts⟩,ty,pos,af,some (j,want)⟩::rest) L w:=by
 intro a ha
 refine wpList_step fun K' hK=>?_
 have hlt:t<a.tmps.size:=by have:=Y1y ht; rw [ha.size]; omega
 have hv:=ha.get t _ hb
 have hy:yielded ops a.tmps j=match gds c (.bool b) with | .bool b=>some b | _=>none:=by
  obtain ⟨o,ho,hdd⟩:=Y24.1 hj
  rw [Y12,Y18 hlt] at hv
  simp only [Y2h] at hv
  have h2:a.tmps[t]?=some (gds c (.bool b)):=by rw [Y18 hlt,hv]
  simp only [yielded,ho,hdd,Y2o,h2]
  generalize gds c (.bool b)=g
  cases g <;> rfl
 by_cases e:∀ p∈c ++ [(b,want)],p.1=p.2
 ·have ec:∀ p∈c,p.1=p.2:=fun p hp=>e p (by simp [hp])
  have eb:b=want:=e (b,want) (by simp)
  rw [X1q ec] at hy
  rw [if_pos (by simp [Region.wanted,hy,eb])]
  have he:(execOp a.eval (⟨some d,.call ⟨.value (.func f),xs.toArray,ts⟩,ty,pos,af,some (j,want)⟩:Oper)).run P w=.ok (.enter f vs.toArray) w:=by
   unfold Xr at hc
   simp only [Yo] at hc
   obtain ⟨h1,h2⟩:=hc
   have h1' : ¬ fn.name = "runtime.NumGoroutine" := by simpa using h1
   have h2':¬ fn.body=none:=by intro e; rw [e] at h2; cases h2
   have hv:=hx e a ha
   simp [execOp,resolve,Act.eval,Deferred.ofValue,invoke,callFunc,program,Sem.run,hf,h1',h2',← hv]
  unfold Oper.wp
  rw [he]
  refine (hcall e).mono fun e' w'' hq=>?_
  obtain ⟨v,rfl,hT⟩:=hq
  have hput:=h v w'' hT _ (ha.put hd (gds (c ++ [(b,want)]) v))
  rw [X1q e] at hput
  exact hK _ _ hput
 ·have hw:Region.wanted (⟨some d,.call ⟨.value (.func f),xs.toArray,ts⟩,ty,pos,af,some (j,want)⟩:Oper) (yielded ops a.tmps)=false:=by
   by_cases ec:∀ p∈c,p.1=p.2
   ·rw [X1q ec] at hy
    have eb:¬ b=want:=fun eb=>e fun p hp=>by
     rcases Y14.1 hp with hp | hp
     ·exact ec p hp
     ·simp at hp; subst hp; exact eb
    simp [Region.wanted,hy,eb]
   ·rw [X2p ec] at hy
    simp [Region.wanted,hy,undef]
  rw [if_neg (by simp [hw])]
  have hput:=h v0 w (h0 e) _ (ha.put hd (gds (c ++ [(b,want)]) v0))
  rw [X2p e] at hput
  exact hK _ _ hput
theorem WL.ecall {d j t:Nat} {b want:Bool} {ty:TypeId} {pos:String} {af:Array Edge} (T:Value→World→Prop) {v0:Value} {f:FuncId} {fn:Func} {xs:List Operand} {ts:Array TypeId} {vs:List Value}
  (hj:(ops[j]?).bind (·.dst)=some t) (ht:Nat.blt t n=true) (hb:look L t=some (.bool b)) (hf:P.funcs[f]?=some fn) (hc:Xr fn=true)
  (hx:b=want→∀ a,Holds n L a→xs.map a.eval=vs) (hd:Nat.blt d n=true)
  (hcall:b=want→Calls P f vs.toArray w (Ret T)) (h0:¬ b=want→T v0 w)
  (h:∀ v w',T v w'→WL P n ops K rest ((d,gd b want v)::L) w'):WL P n ops K (⟨some d,.call ⟨.value (.func f),xs.toArray,ts⟩,ty,pos,af,some (j,want)⟩::rest) L w :=
 WL.ecalls (c:=[]) T hj ht hb hf hc (fun e=>hx (e (b,want) (by simp))) hd (fun e=>hcall (e (b,want) (by simp))) (fun hn=>h0 fun eb=>hn fun p hp=>by simp at hp; subst hp; exact eb) h
end
end Gk
namespace Go.Proofs.YtadhiihnnkcagaaGreatDoor
open Gk Ul Pc Tk Tr
theorem Xbt (a:Option Addr) (cap:Nat) (l:List Us) (hln:l.length≤9223372036854775807) (name:List UInt8) (ra:Option Addr) (rc:Nat) (rel:List (List UInt8)) (hrl:rel.length≤1000000) (hf:l.find? (fun t=>t.name == name)=none) (B w:World) (I:Im) (hU:UsrsAt I a l) (hRR:RS I ra 1 rel.length (rel.map S)) (As:List Xe) (hS:Sat B w I As) :
  Calls Tryz.prog 78 [.slice a l.length cap,S name,.slice ra rel.length rc].toArray w (Ret fun v w'=>∃ J ka kc,v=.slice ka (X1n l name rel).length kc∧Le I J∧(X1n l name rel).length≤kc∧RS J ka 2 (X1n l name rel).length (Xy Xk (X1n l name rel))∧Sat B w' J As):=by
 refine calls Tryz.func78 rfl Tryz.ntmps78 rfl (.seq (.q 1 rfl (.seq (.t 2 rfl (.call Tryz.func94 rfl (X0 (.of rfl) (X0 (.of rfl) X4)) rfl (Xae a cap l hln name B _ I hU _ hS) ?_)))))
 clear hS
 rintro _ w ⟨k,rfl,hk,hS⟩
 have hk1:k=-1:=by
  rcases hk with ⟨h,_⟩ | ⟨_,_,_,_,h9⟩
  ·exact h
  ·rw [hf] at h9; cases h9
 subst hk1
 refine .q 1 rfl (.nil (.seq (.q 1 rfl (.seq (.seq (.q 1 rfl (.block (.loop (σ:=Unit) (fun ⟨⟩=>[(2,.slice ra rel.length rc),(7,I64 (-1)),(8,.slice none 0 0),(9,I64 ((0:Nat):Int))]) (fun ⟨⟩ w=>Sat B w I As) (fun ⟨⟩=>0) () ⟨rfl,rfl,rfl,rfl,trivial⟩ hS ?_))))))))
 rintro ⟨⟩ w hS
 change WC _ _ _ _ [(2,.slice ra rel.length rc),(7,I64 (-1)),(8,.slice none 0 0),(9,I64 ((0:Nat):Int))] w
 refine .seq (.seq (.region (.run 5 rfl ⟨⟨_,X1p⟩,trivial⟩ (.gval rfl rfl (fun hg1=>(.move (.of rfl))) rfl (.gval rfl rfl (fun hg1=>(.geq (.gd hg1 rfl) (.of rfl))) rfl (.val (.pand (.of rfl) (.of rfl) (.of rfl)) rfl (.nil (.condF (congrArg (fun b=>some (Value.bool b)) (Y3i _)) (.exit (.seq (.q 2 rfl (.ret (Xh Tryz.results78 rfl ?_)))))))))))))
 have hE:X1n l name rel=[]:=by
  unfold X1n
  rw [show atU l name=[] by unfold atU; rw [hf]]
  simp
 rw [hE]
 exact ⟨_,rfl,I,none,0,rfl,Le.refl _,Yu _,RS.nil _ _,hS⟩
theorem Xb4 (a:Option Addr) (cap:Nat) (l:List Us) (hln:l.length≤9223372036854775807) (name:List UInt8) (ra:Option Addr) (rc:Nat) (rel:List (List UInt8)) (hrl:rel.length≤1000000) (u:Us) (hf:l.find? (fun t=>t.name == name)=some u) (h8:u.attrs.length≤8) (B w:World) (I:Im) (hU:UsrsAt I a l) (hRR:RS I ra 1 rel.length (rel.map S)) (As:List Xe) (hS:Sat B w I As) :
  Calls Tryz.prog 78 [.slice a l.length cap,S name,.slice ra rel.length rc].toArray w (Ret fun v w'=>∃ J ka kc,v=.slice ka (X1n l name rel).length kc∧Le I J∧(X1n l name rel).length≤kc∧RS J ka 2 (X1n l name rel).length (Xy Xk (X1n l name rel))∧Sat B w' J As):=by
 refine calls Tryz.func78 rfl Tryz.ntmps78 rfl (.seq (.q 1 rfl (.seq (.t 2 rfl (.call Tryz.func94 rfl (X0 (.of rfl) (X0 (.of rfl) X4)) rfl (Xae a cap l hln name B _ I hU _ hS) ?_)))))
 clear hS
 rintro _ w ⟨k,rfl,hk,hS⟩
 obtain ⟨q9,hk1,hq9⟩:∃ q9:Nat,k=(q9:Int)∧l[q9]?=some u:=by
  rcases hk with ⟨_,h9⟩ | ⟨q9,u9,h1,h2,h9⟩
  ·rw [hf] at h9; cases h9
  ·rw [hf] at h9; cases h9; exact ⟨q9,h1,h2⟩
 subst hk1
 have hq9l:=(Y5.1 hq9).1
 obtain ⟨p,ua,uc,hap,hx,huc,hRRu⟩:=hU q9 u hq9
 subst hap
 unfold X2m at hx
 refine .q 1 rfl (.nil (.seq (.q 1 rfl (.seq (.seq ?_)))))
 replace hS:=hS.vecNil 69 2
 refine .q 1 rfl (.block (.loop (σ:=Nat×Value) (fun ⟨i,v⟩=>[(0,.slice (some p) l.length cap),(2,.slice ra rel.length rc),(7,I64 (q9:Nat)),(8,v),(9,I64 (i:Nat))]) (fun ⟨i,v⟩ w=>i≤rel.length∧Sat B w I (Vec 69 2 v ((rel.take i).flatMap (fun x=>u.attrs.filter (fun a=>a.1 == x))).length (Xy Xk ((rel.take i).flatMap (fun x=>u.attrs.filter (fun a=>a.1 == x))))::As)) (fun ⟨i,v⟩=>rel.length - i) (0,.slice none 0 0) ⟨rfl,rfl,rfl,rfl,rfl,trivial⟩ ⟨Yq _,hS⟩ ?_))
 rintro ⟨i,v⟩ w ⟨hi,hS⟩
 change WC _ _ _ _ [(0,.slice (some p) l.length cap),(2,.slice ra rel.length rc),(7,I64 (q9:Nat)),(8,v),(9,I64 (i:Nat))] w
 refine .seq (.seq (.region (.run 5 rfl ⟨⟨_,X1p⟩,trivial⟩ (.gval rfl rfl (fun hg1=>(.move (.of rfl))) rfl (.gval rfl rfl (fun hg1=>(.geq (.gd hg1 rfl) (.of rfl))) rfl (.val (.pand (.of rfl) (.of rfl) (.of rfl)) rfl (.nil ?_)))))))
 refine WC.cond rfl (fun hb21=>?_) (fun hb21=>?_)
 ·
  have hc21:=hb21; try simp only [Y6] at hc21
  refine .skip (.seq (.block (.seq ?_)))
  obtain ⟨x,hx0⟩:∃ x,rel[i]?=some x:=⟨_,Y4 (by simp at hb21; omega)⟩
  obtain ⟨q2,hq8,hz⟩:=X4d (cells:=Xjh) (s:=1) (fun _=>rfl) (by rw [rowsT]; exact hRR) hx0
  subst hq8
  unfold Xjh at hz
  have hol:=X75 (rel:=rel.take i) h8
  rw [Ys] at hol
  refine .q 1 rfl (.block (.loop (σ:=Nat×Value) (fun ⟨j,v⟩=>[(0,.slice (some p) l.length cap),(2,.slice (some q2) rel.length rc),(7,I64 (q9:Nat)),(8,v),(9,I64 (i:Nat)),(10,I64 (j:Nat))]) (fun ⟨j,v⟩ w=>j≤u.attrs.length∧Sat B w I (Vec 69 2 v ((rel.take i).flatMap (fun x=>u.attrs.filter (fun a=>a.1 == x)) ++ (u.attrs.take j).filter (fun a=>a.1 == x)).length (Xy Xk ((rel.take i).flatMap (fun x=>u.attrs.filter (fun a=>a.1 == x)) ++ (u.attrs.take j).filter (fun a=>a.1 == x)))::As)) (fun ⟨j,v⟩=>u.attrs.length - j) (0,v) ⟨rfl,rfl,rfl,rfl,rfl,rfl,trivial⟩ ⟨Yq _,by simpa using hS⟩ ?_))
  rintro ⟨j,v⟩ w ⟨hj,hS⟩
  change WC _ _ _ _ [(0,.slice (some p) l.length cap),(2,.slice (some q2) rel.length rc),(7,I64 (q9:Nat)),(8,v),(9,I64 (i:Nat)),(10,I64 (j:Nat))] w
  refine .seq (.seq (.t 3 rfl ?_))
  refine WL.val (.indexAddrI (.of rfl) (.of rfl) (by omega) (by omega) X9n X9p) rfl ?_
  refine WL.val (.fieldAddrI 2 (.of rfl) X5g rfl rfl Xcv rfl) rfl ?_
  refine WL.val (.ldI (.of rfl) hS (At.add hx _) Xdj rfl) rfl ?_
  refine .run 2 rfl ⟨⟨_,X6n⟩,trivial⟩ (.nil ?_)
  refine WC.cond rfl (fun hb31=>?_) (fun hb31=>?_)
  ·
   have hc31:=hb31; try simp only [Y6] at hc31
   refine .skip (.seq (.block (.seq ?_)))
   obtain ⟨y,hy0⟩:∃ y,u.attrs[j]?=some y:=⟨_,Y4 (by omega)⟩
   obtain ⟨q3,hq7,hy⟩:=X4d (cells:=Xk) (s:=2) (fun _=>rfl) hRRu hy0
   subst hq7
   unfold Xk at hy
   have hfj:=Y2b (fun a:Pr=>a.1 == x) (u.attrs.take j)
   rw [Ys] at hfj
   have hsn:(u.attrs.take (j+1)).filter (fun a=>a.1 == x)=(u.attrs.take j).filter (fun a=>a.1 == x) ++ [y].filter (fun a=>a.1 == x):=by rw [Y15,hy0,Y1s,Y38]
   have hO2:((rel.take i).flatMap (fun x=>u.attrs.filter (fun a=>a.1 == x)) ++ (u.attrs.take j).filter (fun a=>a.1 == x)).length=((rel.take i).flatMap (fun x=>u.attrs.filter (fun a=>a.1 == x))).length+((u.attrs.take j).filter (fun a=>a.1 == x)).length:=Y0
   refine .quiet (by kernel_rfl) (by kernel_rfl) hS (.val (fun w hS=>(.move (.of rfl))) rfl (.val (fun w hS=>(.move (.of rfl))) rfl ?_))
   refine WQ.val (fun w hS=>(by exact .indexAddrI (.of rfl) (.of rfl) (by omega) (by omega) X9n X9p)) rfl ?_
   refine WQ.val (fun w hS=>(by exact .fieldAddrI 2 (.of rfl) X5g rfl rfl Xcv rfl)) rfl ?_
   refine WQ.val (fun w hS=>(by exact (.ldI (.of rfl) hS (At.add hx _) Xdj rfl))) rfl ?_
   refine .val (fun w hS=>(.move (.of rfl))) rfl ?_
   refine WQ.val (fun w hS=>(by exact .indexAddrI (.of rfl) (.of rfl) (by omega) (by omega) X6n X9l)) rfl ?_
   refine WQ.val (fun w hS=>(by exact .fieldAddrI 0 (.of rfl) Xi1 rfl rfl Qs9 rfl)) rfl ?_
   refine WQ.val (fun w hS=>(by exact (.ldI (.of rfl) hS (At.add hy _) Qg9 rfl))) rfl ?_
   refine .val (fun w hS=>(.move (.of rfl))) rfl (.val (fun w hS=>(.move (.of rfl))) rfl ?_)
   refine WQ.val (fun w hS=>(by exact .indexAddrI (.of rfl) (.of rfl) (by omega) (by omega) X1p Qs9)) rfl ?_
   refine .val (fun w hS=>.ldI (.of rfl) hS hz Qg9 rfl) rfl (.val (fun w hS=>(.eqs (.of rfl) (.of rfl))) rfl (.nil ?_))
   clear hS; intro w hS
   refine WC.cond rfl (fun hb47=>?_) (fun hb47=>?_)
   ·
    have hc47:=hb47; try simp only [Y6] at hc47
    refine .t 3 rfl ?_
    refine WL.val (.indexAddrI (.of rfl) (.of rfl) (by omega) (by omega) X9n X9p) rfl ?_
    refine WL.val (.fieldAddrI 2 (.of rfl) X5g rfl rfl Xcv rfl) rfl ?_
    refine WL.val (.ldI (.of rfl) hS (At.add hx _) Xdj rfl) rfl ?_
    refine .q 1 rfl ?_
    refine WL.val (.indexAddrI (.of rfl) (.of rfl) (by omega) (by omega) X6n X9l) rfl ?_
    refine WL.val (.ldsI (.of rfl) hS hy Xp9 X9l rfl (fun _ _ h=>h)) rfl ?_
    refine .buildSlice (cs:=[_,_]) hS (X5 (.of rfl) X6) X6n X9l Qz69 rfl rfl rfl rfl ?_
    clear hS; intro b57 w hS
    refine WL.append (size:=2) (bytes:=32) hS (.of rfl) (.of rfl) (k:=0) rfl X6n Xdc rfl rfl rfl rfl rfl rfl rfl ⟨by omega,by unfold maxLen; omega⟩ rfl ?_
    clear hS; intro v58 w hS; try dsimp only [List.set] at hS
    obtain ⟨a58,c58,rfl,hcap58,_⟩:=hS.vecSlice (k:=0) (v:=v58) rfl
    refine .q 1 rfl (.nil (.region (.run 3 rfl ⟨⟨by omega,by omega⟩,trivial⟩ (.nil ?_))))
    refine ⟨(j+1,.slice a58 (((rel.take i).flatMap (fun x=>u.attrs.filter (fun a=>a.1 == x)) ++ (u.attrs.take j).filter (fun a=>a.1 == x)).length+1) c58),⟨rfl,rfl,rfl,rfl,rfl,rfl,trivial⟩,⟨by (try dsimp only); omega,?_⟩,by (try dsimp only); omega⟩
    rw [hsn,Y2l,if_pos (by simpa using hb47),Y2n,← Yf,Xa0,show (((rel.take i).flatMap (fun x=>u.attrs.filter (fun a=>a.1 == x)) ++ (u.attrs.take j).filter (fun a=>a.1 == x)) ++ [y]).length=((rel.take i).flatMap (fun x=>u.attrs.filter (fun a=>a.1 == x)) ++ (u.attrs.take j).filter (fun a=>a.1 == x)).length+1 from Y0]
    exact hS
   have hc47:=hb47; try simp only [Y6] at hc47
   refine .skip (.region (.run 3 rfl ⟨⟨by omega,by omega⟩,trivial⟩ (.nil ?_)))
   refine ⟨(j+1,v),⟨rfl,rfl,rfl,rfl,rfl,rfl,trivial⟩,⟨by (try dsimp only); omega,?_⟩,by (try dsimp only); omega⟩
   rw [hsn,Y2l,if_neg (by simpa using hb47),Y2n,Y9]
   exact hS
  have hc31:=hb31; try simp only [Y6] at hc31
  refine .exit (.region (.run 3 rfl ⟨⟨by omega,by omega⟩,trivial⟩ (.nil ?_)))
  refine ⟨(i+1,v),⟨rfl,rfl,rfl,rfl,rfl,trivial⟩,⟨by (try dsimp only); simp at hb21; omega,?_⟩,by (try dsimp only); simp at hb21; omega⟩
  have ej:j=u.attrs.length:=by omega
  subst ej
  rw [Y19] at hS
  rw [Y15,hx0,Y1s,Y1u,Y2e,List.flatMap_nil,Y9]
  exact hS
 refine .exit (.seq (.q 2 rfl (.ret (Xh Tryz.results78 rfl ?_))))
 have ei:i=rel.length:=by simp at hb21; omega
 subst ei
 rw [Y19] at hS
 have hE:X1n l name rel=rel.flatMap (fun x=>u.attrs.filter (fun a=>a.1 == x)):=by
  unfold X1n
  rw [show atU l name=u.attrs by unfold atU; rw [hf]]
 rw [hE]
 obtain ⟨ka,kc,rfl,hkc,_⟩:=hS.vecSlice (k:=0) rfl
 obtain ⟨J,hJ,hRS,hS⟩:=hS.freezeVec (k:=0) rfl
 exact ⟨_,rfl,J,ka,kc,rfl,hJ,hkc,hRS,hS⟩
theorem Xd8 (a:Option Addr) (cap:Nat) (l:List Us) (hln:l.length≤9223372036854775807) (name:List UInt8) (ra:Option Addr) (rc:Nat) (rel:List (List UInt8)) (hrl:rel.length≤1000000) (h8:∀ u∈l,u.attrs.length≤8) (B w:World) (I:Im) (hU:UsrsAt I a l) (hRR:RS I ra 1 rel.length (rel.map S)) (As:List Xe) (hS:Sat B w I As) :
  Calls Tryz.prog 78 [.slice a l.length cap,S name,.slice ra rel.length rc].toArray w (Ret fun v w'=>∃ J ka kc,v=.slice ka (X1n l name rel).length kc∧Le I J∧(X1n l name rel).length≤kc∧RS J ka 2 (X1n l name rel).length (Xy Xk (X1n l name rel))∧Sat B w' J As):=by
 cases hf:l.find? (fun t=>t.name == name) with
 | none=>exact Xbt a cap l hln name ra rc rel hrl hf B w I hU hRR As hS
 | some u=>exact Xb4 a cap l hln name ra rc rel hrl u hf (h8 u (Y2u hf)) B w I hU hRR As hS
theorem X5c (name:List UInt8) (x:Xp) {lo:List Sv} {us:List Us} {ps:Nat→Int} (ω:Wd) (hω:X7t ω) (la:Option Addr) (lc:Nat) (da:Option Addr) (dc:Nat) (B w:World) (I:Im) (hX:XpOk I x lo us ps) (hM:RwM I la da dc ω) (As:List Xe) (hS:Sat B w I (blk x.xb (XC x da ω.D.length dc ω.now) 83::blk x.tb [I64 ω.room,.slice la ω.l.length lc] 79::As)) :
  Calls Tryz.prog 32 [ptr x.xb 0,S name].toArray w (Ret fun v w'=>∃ J ra rc,v=.slice ra (Xx ω.l name).length rc∧Le I J∧(Xx ω.l name).length≤rc∧RS J ra 1 (Xx ω.l name).length ((Xx ω.l name).map S)∧Sat B w' J (blk x.xb (XC x da ω.D.length dc ω.now) 83::blk x.tb [I64 ω.room,.slice la ω.l.length lc] 79::As)):=by
 refine calls Tryz.func32 rfl Tryz.ntmps32 rfl (.seq (.q 1 rfl (.seq (.q 1 rfl (.seq ?_)))))
 have hlen:=hω.len
 refine .t 2 rfl ?_
 refine WL.val (.fieldAddr 28 (.of rfl) Xf0 rfl rfl Xpq rfl) rfl ?_
 refine WL.val (.ld (.of rfl) hS (k:=0) rfl Xox rfl) rfl ?_
 refine .q 1 rfl (.call Tryz.func81 rfl (X0 (.of rfl) (X0 (.of rfl) X4)) rfl (X8j x.tb ω.room la lc ω.l (by omega) hω.wf name B _ I hM.1 _ (hS.pick 1 rfl)) ?_)
 clear hS
 rintro _ w ⟨J,pa,pc,rfl,hJ,hpc,hRS,hS⟩
 try dsimp only [List.eraseIdx] at hS
 have hpl:=X45 hω.wf name
 replace hS:=hS.pick 1 rfl
 try dsimp only [List.eraseIdx] at hS
 refine .q 1 rfl (.nil (.seq (.seq ?_)))
 replace hS:=hS.vecNil 9 1
 refine .q 1 rfl (.block (.loop (σ:=Nat×Value) (fun ⟨i,kv⟩=>[(0,ptr x.xb 0),(5,kv),(6,.slice pa (path ω.l name).length pc),(7,I64 (i:Nat))]) (fun ⟨i,kv⟩ w=>i≤(path ω.l name).length∧Sat B w J (Vec 9 1 kv (((path ω.l name).take i).filter fun r=>(r.kind:Int) == 4).length (((((path ω.l name).take i).filter fun r=>(r.kind:Int) == 4).map Rec.url).map S)::blk x.xb (XC x da ω.D.length dc ω.now) 83::blk x.tb [I64 ω.room,.slice la ω.l.length lc] 79::As)) (fun ⟨i,kv⟩=>(path ω.l name).length - i) (0,.slice none 0 0) ⟨rfl,rfl,rfl,rfl,trivial⟩ ⟨Yq _,hS⟩ ?_))
 rintro ⟨i,kv⟩ w ⟨hi,hS⟩
 change WC _ _ _ _ [(0,ptr x.xb 0),(5,kv),(6,.slice pa (path ω.l name).length pc),(7,I64 (i:Nat))] w
 refine .seq (.seq (.region (.run 4 rfl ⟨⟨_,X1p⟩,trivial⟩ (.nil ?_))))
 refine WC.cond rfl (fun hb19=>?_) (fun hb19=>?_)
 ·
  have hc19:=hb19; try simp only [Y6] at hc19
  refine .skip (.seq (.block ?_))
  obtain ⟨r,hr⟩:∃ r,(path ω.l name)[i]?=some r:=⟨_,Y4 (by omega)⟩
  obtain ⟨q,hq⟩:=X7y (Yl hr)
  have hgd:getD ω.l r.name=r:=by rw [getD,hω.wf.get_ hq]; rfl
  obtain ⟨p,rfl,hA⟩:=hRS.2 (by omega)
  have hnm:((path ω.l name).map fun r=>S r.name)[i]?=some (S r.name):=by rw [Yw,hr]; rfl
  have hdn:(((path ω.l name).take i).filter fun r=>(r.kind:Int) == 4).length≤64:=Y3b (Y2b _ _) (by rw [Ys]; omega)
  refine WC.cutS (σ:=Nat) (fun b8=>[(0,ptr x.xb 0),(5,kv),(6,.slice (some p) (path ω.l name).length pc),(7,I64 (i:Nat)),(8,ptr b8 0)]) (fun b8 w=>Sat B w J (blk b8 [I64 r.kind,S r.name,S r.parent,S r.user,S r.service,S r.url,I64 r.made,I64 r.used,I64 r.uses,.bool r.fresh] 45::Vec 9 1 kv (((path ω.l name).take i).filter fun r=>(r.kind:Int) == 4).length (((((path ω.l name).take i).filter fun r=>(r.kind:Int) == 4).map Rec.url).map S)::blk x.xb (XC x da ω.D.length dc ω.now) 83::blk x.tb [I64 ω.room,.slice la ω.l.length lc] 79::As)) ?_ ?_
  ·
   refine .drawn (fun w=>∃ R,Sat B w J (blk x.xb (XC x da ω.D.length dc ω.now) 83::R)) (fun j=>!([].contains j)) (by kernel_rfl) ?_
   replace hS:=hS.drew; generalize w.drew=w at hS ⊢
   have hH:=(hS.pick 1 rfl)
   refine .tp (i:=0) rfl (by kernel_rfl) (fun w=>(.move (.of rfl))) rfl (.tp (i:=1) rfl (by kernel_rfl) (fun w=>(.nilCheck (.of rfl))) rfl ?_)
   refine WD.tp (i:=2) rfl (by kernel_rfl) (fun w=>(.fieldAddr 28 (.of rfl) Xf0 rfl rfl Xpq rfl)) rfl ?_
   refine .tk (i:=3) rfl (by kernel_rfl) ⟨_,hH⟩ (fun w ⟨R,hS⟩=>(.ld (.of rfl) hS (k:=0) rfl Xox rfl)) rfl (.tp (i:=4) rfl (by kernel_rfl) (fun w=>(.move (.of rfl))) rfl (.tp (i:=5) rfl (by kernel_rfl) (fun w=>(.move (.of rfl))) rfl ?_))
   refine WD.tp (i:=6) rfl (by kernel_rfl) (fun w=>(.indexAddrI (.of rfl) (.of rfl) (by omega) (by omega) X1p Qs9)) rfl ?_
   refine WD.tk (i:=7) rfl (by kernel_rfl) ⟨_,hH⟩ (fun w ⟨R,hS⟩=>ldC (.of rfl) (by have h9:=X2k hS hA hnm; simpa using h9) Qg9) rfl ?_
   refine WD.branch [8,12] (by kernel_rfl) rfl (WO.cons rfl ?_ (WO.cons rfl ?_ (WO.nil)))
   ·
    refine .call Qf82 rfl (X0 (.of rfl) (X0 (.of rfl) X4)) rfl (X50 x.tb ω.room la lc ω.l (by omega) r.name B _ J (hM.1.mono hJ) _ (hS.pick 2 rfl)) ?_
    clear hS
    rintro _ w ⟨rfl,hS⟩
    rw [hgd]
    refine .nil ?_
    clear hH
    have hH:=(hS.pick 2 rfl)
    refine And.intro (by intro _ _; exact ⟨_,hH⟩) ?_
    refine .tp (i:=9) rfl (by kernel_rfl) (fun w=>(.move (.of rfl))) rfl (.tp (i:=10) rfl (by kernel_rfl) (fun w=>(.extract (.of rfl) rfl)) rfl (.tp (i:=11) rfl (by kernel_rfl) (fun w=>(.extract (.of rfl) rfl)) rfl ?_))
    refine WD.branch [12] (by kernel_rfl) rfl (WO.cons rfl ?_ (WO.nil))
    refine .allocA (cs:=[_,_,_,_,_,_,_,_,_,_]) hS X7c rfl ?_
    clear hS; intro b8 w hS
    refine .nil ?_
    clear hH
    have hH:=(hS.pick 3 rfl)
    refine And.intro (by intro _ _; exact ⟨_,hH⟩) ?_
    refine WD.branch [13] (by kernel_rfl) rfl (WO.cons rfl ?_ (WO.nil))
    refine WL.stA hS (k:=0) rfl (.of rfl) (.of rfl) rfl X17 rfl (by simp) ?_
    clear hS; intro w hS
    try simp only [Yh,Yd,Y9,Y7,Yg,Ym,Yc] at hS
    refine .nil ?_
    clear hH
    have hH:=(hS.pick 3 rfl)
    refine And.intro (by intro _ _; exact ⟨_,hH⟩) ?_
    refine .tp (i:=14) rfl (by kernel_rfl) (fun w=>(.assign (.of rfl))) rfl (.done (by kernel_rfl) ?_)
    exact ⟨b8,⟨rfl,rfl,rfl,rfl,rfl,trivial⟩,((((hS.pick 1 rfl).pick 3 rfl).pick 3 rfl).pick 3 rfl)⟩
   ·
    refine .allocA (cs:=[_,_,_,_,_,_,_,_,_,_]) hS X7c rfl ?_
    clear hS; intro b8 w hS
    refine .nil ?_
    clear hH
    have hH:=(hS.pick 2 rfl)
    refine And.intro (by intro _ _; exact ⟨_,hH⟩) ?_
    refine WD.branch [8] (by kernel_rfl) rfl (WO.cons rfl ?_ (WO.nil))
    refine .call Qf82 rfl (X0 (.of rfl) (X0 (.of rfl) X4)) rfl (X50 x.tb ω.room la lc ω.l (by omega) r.name B _ J (hM.1.mono hJ) _ (hS.pick 3 rfl)) ?_
    clear hS
    rintro _ w ⟨rfl,hS⟩
    rw [hgd]
    refine .nil ?_
    clear hH
    have hH:=(hS.pick 3 rfl)
    refine And.intro (by intro _ _; exact ⟨_,hH⟩) ?_
    refine .tp (i:=9) rfl (by kernel_rfl) (fun w=>(.move (.of rfl))) rfl (.tp (i:=10) rfl (by kernel_rfl) (fun w=>(.extract (.of rfl) rfl)) rfl (.tp (i:=11) rfl (by kernel_rfl) (fun w=>(.extract (.of rfl) rfl)) rfl ?_))
    refine WD.branch [13] (by kernel_rfl) rfl (WO.cons rfl ?_ (WO.nil))
    refine WL.stA hS (k:=1) rfl (.of rfl) (.of rfl) rfl X17 rfl (by simp) ?_
    clear hS; intro w hS
    try simp only [Yh,Yd,Y9,Y7,Yg,Ym,Yc] at hS
    refine .nil ?_
    clear hH
    have hH:=(hS.pick 3 rfl)
    refine And.intro (by intro _ _; exact ⟨_,hH⟩) ?_
    refine .tp (i:=14) rfl (by kernel_rfl) (fun w=>(.assign (.of rfl))) rfl (.done (by kernel_rfl) ?_)
    exact ⟨b8,⟨rfl,rfl,rfl,rfl,rfl,trivial⟩,(((hS.pick 3 rfl).pick 3 rfl).pick 3 rfl)⟩
  rintro b8 w hS
  change WC _ _ _ _ [(0,ptr x.xb 0),(5,kv),(6,.slice (some p) (path ω.l name).length pc),(7,I64 (i:Nat)),(8,ptr b8 0)] w
  refine .seq (.region ?_)
  refine WL.val (.fieldAddr 0 (.of rfl) X16 rfl rfl Qs3 rfl) rfl ?_
  refine WL.val (.ld (.of rfl) hS (k:=0) rfl Qg3 rfl) rfl ?_
  refine .q 1 rfl (.nil ?_)
  refine WC.cond rfl (fun hb36=>?_) (fun hb36=>?_)
  ·
   have hc36:=hb36; try simp only [Y6] at hc36
   refine .t 1 rfl ?_
   refine WL.val (.fieldAddr 5 (.of rfl) X16 rfl rfl Qs9 rfl) rfl ?_
   refine WL.val (.ld (.of rfl) hS (k:=0) rfl Qg9 rfl) rfl ?_
   refine .buildSlice (cs:=[_]) hS (X5 (.of rfl) X6) X1p Qs9 Qz9 rfl rfl rfl rfl ?_
   clear hS; intro b40 w hS
   refine WL.append (size:=1) (bytes:=16) hS (.of rfl) (.of rfl) (k:=1) rfl X1p X21 rfl rfl rfl rfl rfl rfl rfl ⟨by omega,by unfold maxLen; omega⟩ rfl ?_
   clear hS; intro v41 w hS; try dsimp only [List.set] at hS
   obtain ⟨a41,c41,rfl,hcap41,_⟩:=hS.vecSlice (k:=1) (v:=v41) rfl
   refine .q 1 rfl (.nil (.region (.run 3 rfl ⟨⟨by omega,by omega⟩,trivial⟩ (.nil ?_))))
   refine ⟨(i+1,.slice a41 ((((path ω.l name).take i).filter fun r=>(r.kind:Int) == 4).length+1) c41),⟨rfl,rfl,rfl,rfl,trivial⟩,⟨by (try dsimp only); omega,?_⟩,by (try dsimp only); omega⟩
   rw [Y15,hr,Y1s,Y38,Y2l,if_pos (by simpa using hb36),Y2n,Y0,Yx,Yx]
   exact ((((hS.pick 3 rfl).pick 3 rfl).pick 3 rfl).drop (k:=3) rfl)
  have hc36:=hb36; try simp only [Y6] at hc36
  refine .skip (.region (.run 3 rfl ⟨⟨by omega,by omega⟩,trivial⟩ (.nil ?_)))
  refine ⟨(i+1,kv),⟨rfl,rfl,rfl,rfl,trivial⟩,⟨by (try dsimp only); omega,?_⟩,by (try dsimp only); omega⟩
  rw [Y15,hr,Y1s,Y38,Y2l,if_neg (by simpa using hb36),Y2n,Y9]
  exact ((((hS.pick 3 rfl).pick 3 rfl).pick 3 rfl).drop (k:=3) rfl)
 have hc19:=hb19; try simp only [Y6] at hc19
 refine .exit (.seq (.q 2 rfl (.ret (Xh Tryz.results32 rfl ?_))))
 have hin:i=(path ω.l name).length:=by omega
 subst hin
 rw [Y19] at hS
 have hE:Xx ω.l name=((path ω.l name).filter fun r=>(r.kind:Int) == 4).map Rec.url:=rfl
 rw [hE,Yz]
 obtain ⟨ka,kc,rfl,hkc,_⟩:=hS.vecSlice (k:=0) rfl
 obtain ⟨J2,hJ2,hRS2,hS⟩:=hS.freezeVec (k:=0) rfl
 exact ⟨_,rfl,J2,ka,kc,rfl,hJ.trans hJ2,hkc,hRS2,hS⟩
theorem Xdd (ra:Option Addr) (rc:Nat) (rl:List Rec) (hrll:rl.length≤9223372036854775807) (hsr:∀ r∈rl,r.name.length≤60∧r.parent.length≤60) (x:Xp) {lo:List Sv} {us:List Us} {ps:Nat→Int} (ω:Wd) (hω:X7t ω) (la:Option Addr) (lc:Nat) (da:Option Addr) (dc:Nat) (B w:World) (I:Im) (hX:XpOk I x lo us ps) (hRr:RS I ra 10 rl.length (Xy X7 rl)) (hM:RwM I la da dc ω) (As:List Xe) (hS:Sat B w I (blk x.xb (XC x da ω.D.length dc ω.now) 83::blk x.tb [I64 ω.room,.slice la ω.l.length lc] 79::As)) :
  Calls Tryz.prog 25 [ptr x.xb 0,.slice ra rl.length rc].toArray w (Ret fun v w'=>v=.tuple #[]∧∃ J la2 lc2 da2 dc2,Le I J∧RwM J la2 da2 dc2 (rl.foldl X37 ω)∧Sat B w' J (blk x.xb (XC x da2 (rl.foldl X37 ω).D.length dc2 (rl.foldl X37 ω).now) 83::blk x.tb [I64 (rl.foldl X37 ω).room,.slice la2 (rl.foldl X37 ω).l.length lc2] 79::As)):=by
 refine calls Tryz.func25 rfl Tryz.ntmps25 rfl (.seq (.q 1 rfl (.block (.loop (σ:=Nat×Option Addr×Nat×Im) (fun ⟨i,la2,lc2,J2⟩=>[(0,ptr x.xb 0),(1,.slice ra rl.length rc),(4,I64 (i:Nat))]) (fun ⟨i,la2,lc2,J2⟩ w=>i≤rl.length∧Le I J2∧RwM J2 la2 da dc ((rl.take i).foldl X37 ω)∧Sat B w J2 (blk x.xb (XC x da ((rl.take i).foldl X37 ω).D.length dc ((rl.take i).foldl X37 ω).now) 83::blk x.tb [I64 ((rl.take i).foldl X37 ω).room,.slice la2 ((rl.take i).foldl X37 ω).l.length lc2] 79::As)) (fun ⟨i,la2,lc2,J2⟩=>rl.length - i) (0,la,lc,I) ⟨rfl,rfl,rfl,trivial⟩ ⟨Yq _,Le.refl _,hM,hS⟩ ?_))))
 rintro ⟨i,la2,lc2,J2⟩ w ⟨hi,hJ2,hM2,hS⟩
 change WC _ _ _ _ [(0,ptr x.xb 0),(1,.slice ra rl.length rc),(4,I64 (i:Nat))] w
 refine .seq (.seq (.region (.run 4 rfl ⟨⟨_,X2x⟩,trivial⟩ (.nil ?_))))
 refine WC.cond rfl (fun hb8=>?_) (fun hb8=>?_)
 ·
  have hc8:=hb8; try simp only [Y6] at hc8
  refine .skip (.seq (.block ?_))
  obtain ⟨r,hr⟩:∃ r,rl[i]?=some r:=⟨_,Y4 (by omega)⟩
  obtain ⟨q,hq9,hx⟩:=X4d (cells:=X7) (s:=10) (fun _=>rfl) (hRr.mono hJ2) hr
  subst hq9
  unfold X7 at hx
  have hωi:=X54 (rl.take i) hω
  have hlen:=hωi.len
  have hsx:=hsr r (Yl hr)
  refine .drawn (fun w=>∃ J9 R,Le J2 J9∧Sat B w J9 (blk x.xb (XC x da ((rl.take i).foldl X37 ω).D.length dc ((rl.take i).foldl X37 ω).now) 83::R)) (fun j=>!([].contains j)) (by kernel_rfl) ?_
  replace hS:=hS.drew; generalize w.drew=w at hS ⊢
  have hH:∃ J9 R,Le J2 J9∧Sat B w J9 (blk x.xb (XC x da ((rl.take i).foldl X37 ω).D.length dc ((rl.take i).foldl X37 ω).now) 83::R):=⟨_,_,Le.refl _,(hS.pick 0 rfl)⟩
  refine .tp (i:=0) rfl (by kernel_rfl) (fun w=>(.move (.of rfl))) rfl (.tp (i:=1) rfl (by kernel_rfl) (fun w=>(.nilCheck (.of rfl))) rfl ?_)
  refine WD.tp (i:=2) rfl (by kernel_rfl) (fun w=>(.fieldAddr 28 (.of rfl) Xf0 rfl rfl Xpq rfl)) rfl ?_
  refine WD.tk (i:=3) rfl (by kernel_rfl) hH (fun w ⟨J9,R,hL9,hS⟩=>((.ld (.of rfl) hS (k:=0) rfl Xox rfl))) rfl ?_
  refine .tp (i:=4) rfl (by kernel_rfl) (fun w=>(.move (.of rfl))) rfl (.tp (i:=5) rfl (by kernel_rfl) (fun w=>(.move (.of rfl))) rfl ?_)
  refine WD.tp (i:=6) rfl (by kernel_rfl) (fun w=>(.indexAddrI (.of rfl) (.of rfl) (by omega) (by omega) X2x X17)) rfl ?_
  refine WD.tk (i:=7) rfl (by kernel_rfl) hH (fun w ⟨J9,R,hL9,hS⟩=>((.ldsI (.of rfl) hS (hx.mono hL9) X36 X17 rfl (fun _ _ h=>h)))) rfl ?_
  refine WD.branch [8] (by kernel_rfl) rfl (WO.cons rfl ?_ (WO.nil))
  refine .call Tryz.func73 rfl (X0 (.of rfl) (X0 (.of rfl) X4)) rfl (Xgp x.tb ((rl.take i).foldl X37 ω).room la2 lc2 ((rl.take i).foldl X37 ω).l (by omega) r (by omega) (by omega) B _ J2 hM2.1 _ (hS.pick 1 rfl)) ?_
  clear hS
  rintro _ w ⟨rfl,J3,la3,lc3,hJ3,hR3,hS⟩
  try dsimp only [List.eraseIdx] at hS
  refine .nil ?_
  clear hH
  have hH:∃ J9 R,Le J2 J9∧Sat B w J9 (blk x.xb (XC x da ((rl.take i).foldl X37 ω).D.length dc ((rl.take i).foldl X37 ω).now) 83::R):=⟨_,_,hJ3,(hS.pick 1 rfl)⟩
  refine And.intro (by intro _ _; exact hH) ?_
  refine .done (by kernel_rfl) (.region (.run 3 rfl ⟨⟨by omega,by omega⟩,trivial⟩ (.nil ?_)))
  refine ⟨(i+1,la3,lc3,J3),⟨rfl,rfl,rfl,trivial⟩,?_,by (try dsimp only); omega⟩
  try dsimp only
  rw [Y15,hr,Y1s,Y2x]
  exact ⟨by omega,hJ2.trans hJ3,⟨hR3,hM2.2.1.mono hJ3,hM2.2.2⟩,(hS.pick 1 rfl)⟩
 have hc8:=hb8; try simp only [Y6] at hc8
 refine .exit (X85 Tryz.results25 ?_)
 have hin:i=rl.length:=by omega
 subst hin
 rw [Y19] at hM2 hS
 exact ⟨_,rfl,rfl,J2,la2,lc2,da,dc,hJ2,hM2,hS⟩
theorem Xf3 (e:Int) (B w:World) (I:Im) (As:List Xe) (hS:Sat B w I As) :
  Calls Tryz.prog 33 [I64 e].toArray w (Ret fun v w'=>v=S (X7s e)∧Sat B w' I As):=by
 refine calls Tryz.func33 rfl Tryz.ntmps33 rfl (.seq (.q 1 rfl (.seq (.seq (.q 1 rfl (.block (.seq (.q 2 rfl ?_))))))))
 refine WC.cond rfl (fun hb4=>?_) (fun hb4=>?_)
 ·
  refine .seq (.q 1 rfl (.ret (Xh Xoc rfl ?_)))
  refine ⟨_,rfl,congrArg S ?_,hS⟩
  simp only [beq_iff_eq,beq_eq_false_iff_ne] at *
  first
  | (subst_vars; rfl)
  | (have f0:(e == 0)=false:=beq_eq_false_iff_ne.2 (by omega); have f33:(e == 33)=false:=beq_eq_false_iff_ne.2 (by omega); have f30:(e == 30)=false:=beq_eq_false_iff_ne.2 (by omega); have f32:(e == 32)=false:=beq_eq_false_iff_ne.2 (by omega); have f31:(e == 31)=false:=beq_eq_false_iff_ne.2 (by omega); have f36:(e == 36)=false:=beq_eq_false_iff_ne.2 (by omega); have f34:(e == 34)=false:=beq_eq_false_iff_ne.2 (by omega); unfold X7s CODES; simp only [List.lookup,f0,f33,f30,f32,f31,f36,f34]; rfl)
 refine .seq (.q 2 rfl ?_)
 refine WC.cond rfl (fun hb6=>?_) (fun hb6=>?_)
 ·
  refine .seq (.q 1 rfl (.ret (Xh Xoc rfl ?_)))
  refine ⟨_,rfl,congrArg S ?_,hS⟩
  simp only [beq_iff_eq,beq_eq_false_iff_ne] at *
  first
  | (subst_vars; rfl)
  | (have f0:(e == 0)=false:=beq_eq_false_iff_ne.2 (by omega); have f33:(e == 33)=false:=beq_eq_false_iff_ne.2 (by omega); have f30:(e == 30)=false:=beq_eq_false_iff_ne.2 (by omega); have f32:(e == 32)=false:=beq_eq_false_iff_ne.2 (by omega); have f31:(e == 31)=false:=beq_eq_false_iff_ne.2 (by omega); have f36:(e == 36)=false:=beq_eq_false_iff_ne.2 (by omega); have f34:(e == 34)=false:=beq_eq_false_iff_ne.2 (by omega); unfold X7s CODES; simp only [List.lookup,f0,f33,f30,f32,f31,f36,f34]; rfl)
 refine .seq (.q 2 rfl ?_)
 refine WC.cond rfl (fun hb8=>?_) (fun hb8=>?_)
 ·
  refine .seq (.q 1 rfl (.ret (Xh Xoc rfl ?_)))
  refine ⟨_,rfl,congrArg S ?_,hS⟩
  simp only [beq_iff_eq,beq_eq_false_iff_ne] at *
  first
  | (subst_vars; rfl)
  | (have f0:(e == 0)=false:=beq_eq_false_iff_ne.2 (by omega); have f33:(e == 33)=false:=beq_eq_false_iff_ne.2 (by omega); have f30:(e == 30)=false:=beq_eq_false_iff_ne.2 (by omega); have f32:(e == 32)=false:=beq_eq_false_iff_ne.2 (by omega); have f31:(e == 31)=false:=beq_eq_false_iff_ne.2 (by omega); have f36:(e == 36)=false:=beq_eq_false_iff_ne.2 (by omega); have f34:(e == 34)=false:=beq_eq_false_iff_ne.2 (by omega); unfold X7s CODES; simp only [List.lookup,f0,f33,f30,f32,f31,f36,f34]; rfl)
 refine .seq (.q 2 rfl ?_)
 refine WC.cond rfl (fun hb10=>?_) (fun hb10=>?_)
 ·
  refine .seq (.q 1 rfl (.ret (Xh Xoc rfl ?_)))
  refine ⟨_,rfl,congrArg S ?_,hS⟩
  simp only [beq_iff_eq,beq_eq_false_iff_ne] at *
  first
  | (subst_vars; rfl)
  | (have f0:(e == 0)=false:=beq_eq_false_iff_ne.2 (by omega); have f33:(e == 33)=false:=beq_eq_false_iff_ne.2 (by omega); have f30:(e == 30)=false:=beq_eq_false_iff_ne.2 (by omega); have f32:(e == 32)=false:=beq_eq_false_iff_ne.2 (by omega); have f31:(e == 31)=false:=beq_eq_false_iff_ne.2 (by omega); have f36:(e == 36)=false:=beq_eq_false_iff_ne.2 (by omega); have f34:(e == 34)=false:=beq_eq_false_iff_ne.2 (by omega); unfold X7s CODES; simp only [List.lookup,f0,f33,f30,f32,f31,f36,f34]; rfl)
 refine .seq (.q 2 rfl ?_)
 refine WC.cond rfl (fun hb12=>?_) (fun hb12=>?_)
 ·
  refine .seq (.q 1 rfl (.ret (Xh Xoc rfl ?_)))
  refine ⟨_,rfl,congrArg S ?_,hS⟩
  simp only [beq_iff_eq,beq_eq_false_iff_ne] at *
  first
  | (subst_vars; rfl)
  | (have f0:(e == 0)=false:=beq_eq_false_iff_ne.2 (by omega); have f33:(e == 33)=false:=beq_eq_false_iff_ne.2 (by omega); have f30:(e == 30)=false:=beq_eq_false_iff_ne.2 (by omega); have f32:(e == 32)=false:=beq_eq_false_iff_ne.2 (by omega); have f31:(e == 31)=false:=beq_eq_false_iff_ne.2 (by omega); have f36:(e == 36)=false:=beq_eq_false_iff_ne.2 (by omega); have f34:(e == 34)=false:=beq_eq_false_iff_ne.2 (by omega); unfold X7s CODES; simp only [List.lookup,f0,f33,f30,f32,f31,f36,f34]; rfl)
 refine .seq (.q 2 rfl ?_)
 refine WC.cond rfl (fun hb14=>?_) (fun hb14=>?_)
 ·
  refine .seq (.q 1 rfl (.ret (Xh Xoc rfl ?_)))
  refine ⟨_,rfl,congrArg S ?_,hS⟩
  simp only [beq_iff_eq,beq_eq_false_iff_ne] at *
  first
  | (subst_vars; rfl)
  | (have f0:(e == 0)=false:=beq_eq_false_iff_ne.2 (by omega); have f33:(e == 33)=false:=beq_eq_false_iff_ne.2 (by omega); have f30:(e == 30)=false:=beq_eq_false_iff_ne.2 (by omega); have f32:(e == 32)=false:=beq_eq_false_iff_ne.2 (by omega); have f31:(e == 31)=false:=beq_eq_false_iff_ne.2 (by omega); have f36:(e == 36)=false:=beq_eq_false_iff_ne.2 (by omega); have f34:(e == 34)=false:=beq_eq_false_iff_ne.2 (by omega); unfold X7s CODES; simp only [List.lookup,f0,f33,f30,f32,f31,f36,f34]; rfl)
 refine .seq (.q 2 rfl ?_)
 refine WC.cond rfl (fun hb16=>?_) (fun hb16=>?_)
 ·
  refine .seq (.q 1 rfl (.ret (Xh Xoc rfl ?_)))
  refine ⟨_,rfl,congrArg S ?_,hS⟩
  simp only [beq_iff_eq,beq_eq_false_iff_ne] at *
  first
  | (subst_vars; rfl)
  | (have f0:(e == 0)=false:=beq_eq_false_iff_ne.2 (by omega); have f33:(e == 33)=false:=beq_eq_false_iff_ne.2 (by omega); have f30:(e == 30)=false:=beq_eq_false_iff_ne.2 (by omega); have f32:(e == 32)=false:=beq_eq_false_iff_ne.2 (by omega); have f31:(e == 31)=false:=beq_eq_false_iff_ne.2 (by omega); have f36:(e == 36)=false:=beq_eq_false_iff_ne.2 (by omega); have f34:(e == 34)=false:=beq_eq_false_iff_ne.2 (by omega); unfold X7s CODES; simp only [List.lookup,f0,f33,f30,f32,f31,f36,f34]; rfl)
 refine .skip (.seq (.q 1 rfl (.ret (Xh Xoc rfl ?_))))
 refine ⟨_,rfl,congrArg S ?_,hS⟩
 simp only [beq_iff_eq,beq_eq_false_iff_ne] at *
 first
 | (subst_vars; rfl)
 | (have f0:(e == 0)=false:=beq_eq_false_iff_ne.2 (by omega); have f33:(e == 33)=false:=beq_eq_false_iff_ne.2 (by omega); have f30:(e == 30)=false:=beq_eq_false_iff_ne.2 (by omega); have f32:(e == 32)=false:=beq_eq_false_iff_ne.2 (by omega); have f31:(e == 31)=false:=beq_eq_false_iff_ne.2 (by omega); have f36:(e == 36)=false:=beq_eq_false_iff_ne.2 (by omega); have f34:(e == 34)=false:=beq_eq_false_iff_ne.2 (by omega); unfold X7s CODES; simp only [List.lookup,f0,f33,f30,f32,f31,f36,f34]; rfl)
theorem Xih (s:List UInt8):kdT s=X9 s:=rfl
theorem Xk0 {s:List UInt8} (h:(Xw s).isSome=false):X9 s=0:=by
 unfold X9
 cases hp:Xw s with
 | none=>rfl
 | some x=>rw [hp] at h; cases h
theorem X63 (s:List UInt8) (hs:s.length≤1000000) (x:Xp) {lo:List Sv} {us:List Us} {ps:Nat→Int} (B w:World) (I:Im) (hX:XpOk I x lo us ps) (As:List Xe) (hS:Sat B w I As) :
  Calls Tryz.prog 77 [.slice x.a x.c.svs.length x.cap,S s].toArray w (Ret fun v w'=>∃ J ra rc,Le I J∧v=.tuple #[.agg (X1u (Xc lo s).1 ra rc).toArray,S (Xc lo s).2.1,I64 (((Xc lo s).2.2:Nat):Int)]∧(Xc lo s).1.rel.length≤rc∧RS J ra 1 (Xc lo s).1.rel.length ((Xc lo s).1.rel.map S)∧Sat B w' J As):=by
 obtain rfl:=hX.lo
 obtain ⟨L,hL⟩:=Xm6 hX.cf.svs
 refine (Xf5 x.a x.cap L x.c.svs hX.fits.svs hX.fits.ords (Xnv (Xo0 hX.ok)) s hs B w I hL As hS).mono fun e w' ⟨v,he,J,u,cs,n,e2,hJ,hv,⟨ra,rc,hcs,h1,h2⟩,hf,hS⟩=>⟨v,he,J,ra,rc,hJ,?_⟩
 have h:=hf x.D hX.D
 rw [Xpz] at h
 rw [h]
 exact ⟨by rw [hv,hcs],h1,h2,hS⟩
theorem x_att {x:Xp} {I:Im} {lo:List Sv} {us:List Us} {ps:Nat→Int} (hX:XpOk I x lo us ps):∀ u∈x.c.us,u.attrs.length≤8:=by
 have h:=hX.ok
 have h1:(X3z x.c.us 0 []).1=0:=by
  unfold X4o at h
  split at h
  ·rename_i h2; exact absurd h h2
  ·split at h
   ·rename_i h2; exact absurd h h2
   ·rename_i h2; exact Decidable.not_not.1 h2
 exact fun u hu=>X5t (Xem x.c.us 0 [] h1 u hu)
set_option maxRecDepth 20000 in
theorem Xcb (q:Qr) (hqt:q.ticket.length≤1000000) (hqs:q.service.length≤1000000) (x:Xp) {lo:List Sv} {us:List Us} {ps:Nat→Int} (ω:Wd) (hω:X7t ω) (la:Option Addr) (lc:Nat) (da:Option Addr) (dc:Nat) (B w:World) (I:Im) (hX:XpOk I x lo us ps) (hM:RwM I la da dc ω) (As:List Xe) (hS:Sat B w I (blk x.xb (XC x da ω.D.length dc ω.now) 83::blk x.tb [I64 ω.room,.slice la ω.l.length lc] 79::As)) :
  Calls Tryz.prog 27 [ptr x.xb 0,.agg (X29 q).toArray].toArray w (Ret fun v w'=>∃ J cs la2 lc2 da2 dc2,Le I J∧v=.tuple #[.agg (List.toArray cs),I64 (X1h ps ω q:Nat)]∧SxAt J (Xd lo us ps ω q) cs∧RwM J la2 da2 dc2 (Xf ps ω q).2∧Sat B w' J (blk x.xb (XC x da2 (Xf ps ω q).2.D.length dc2 (Xf ps ω q).2.now) 83::blk x.tb [I64 (Xf ps ω q).2.room,.slice la2 (Xf ps ω q).2.l.length lc2] 79::As)):=by
 obtain rfl:=hX.lo
 obtain rfl:=hX.us
 obtain rfl:=hX.ps
 refine calls Tryz.func27 rfl Tryz.ntmps27 rfl (.seq (.region (.boxA (cs:=[_,_,_,_]) hS (.of rfl) rfl ?_)))
 clear hS; intro b3 w hS
 refine .allocA (cs:=[_,_,_,_]) hS Xod rfl ?_
 clear hS; intro b4 w hS
 refine .q 1 rfl (.nil (.seq (.region (.val (.build (cs:=[_,_,_,_]) X6 X4p rfl) rfl (.allocA (cs:=[_,_,_,_]) hS Xod rfl ?_)))))
 clear hS; intro b6 w hS
 refine WL.stA hS (k:=0) rfl (.of rfl) (.of rfl) rfl X4i rfl (by simp) ?_
 clear hS; intro w hS; try dsimp only [List.set] at hS
 try simp only [Yh,Yd,Y9,Y7,Yg,Ym,Yc] at hS
 refine .nil (.seq (.seq (.region ?_)))
 refine WL.val (.fieldAddr 0 (.of rfl) Xag rfl rfl Qs9 rfl) rfl ?_
 refine WL.val (.ld (.of rfl) hS (k:=2) rfl Qg9 rfl) rfl ?_
 refine .q 2 rfl ?_
 refine WL.gval rfl rfl (fun hg1=>(by exact .fieldAddr 1 (.of rfl) Xag rfl rfl Qs9 rfl)) rfl ?_
 refine WL.gval rfl rfl (fun hg1=>(by exact (.ld (.gd hg1 rfl) hS (k:=2) rfl Qg9 rfl))) rfl ?_
 refine .gval rfl rfl (fun hg1=>(.eqs (.gd hg1 rfl) (.of rfl))) rfl (.val (.por (.of rfl) (.of rfl) (.of rfl)) rfl (.nil ?_))
 refine WC.cond rfl (fun hb25=>?_) (fun hb25=>?_)
 ·
  have hc25:=hb25; try simp only [Y6] at hc25
  refine .seq (.region ?_)
  refine WL.val (.ldsW (cs:=[_,_,_,_]) (.of rfl) hS (k:=0) rfl Xbq X4i rfl) rfl ?_
  refine WL.stA hS (k:=1) rfl (.of rfl) (.of rfl) rfl X4i rfl (by simp) ?_
  clear hS; intro w hS; try dsimp only [List.set] at hS
  try simp only [Yh,Yd,Y9,Y7,Yg,Ym,Yc] at hS
  refine .q 1 rfl (.nil (.ret ?_))
  refine X18 (b:=_) (cs:=[_,_,_,_]) Xqd hS (k:=1) rfl Xbq X4i rfl rfl rfl ?_
  have hU:Xf x.c.ps ω q=((r0,33),ω):=by rw [Xf,if_pos hb25]
  have hE:X1h x.c.ps ω q=33:=by rw [X1h,hU]; exact if_pos (show (33:Nat)≠0 by decide)
  have hXx:Xd (xlo x) x.c.us x.c.ps ω q=sx0:=if_pos (by rw [hE]; decide)
  rw [hE,hXx,hU]
  exact ⟨_,rfl,I,_,la,lc,da,dc,Le.refl _,rfl,X6d I,hM,(((((hS.pick 4 rfl).pick 4 rfl).drop (k:=2) rfl).drop (k:=2) rfl).drop (k:=2) rfl)⟩
 have hc25:=hb25; try simp only [Y6] at hc25
 refine .skip (.seq (.region ?_))
 refine WL.val (.fieldAddr 0 (.of rfl) Xag rfl rfl Qs9 rfl) rfl ?_
 refine WL.val (.ld (.of rfl) hS (k:=2) rfl Qg9 rfl) rfl ?_
 refine .call Qf74 rfl (X0 (.of rfl) X4) rfl (X33 q.ticket (by omega) B _ I _ hS) ?_
 clear hS
 rintro _ w ⟨rfl,hS⟩
 rw [Xih]
 refine .q 7 rfl (.nil (.seq (.seq (.t 3 rfl (.gval rfl rfl (fun hg1=>(.move (.of rfl))) rfl (.gval rfl rfl (fun hg1=>(.neq (.gd hg1 rfl) (.of rfl))) rfl (.gval rfl rfl (fun hg1=>(.move (.gd hg1 rfl))) rfl (.gval2 rfl rfl rfl (fun hg1 hg2=>(.move (.of rfl))) rfl (.gval2 rfl rfl rfl (fun hg1 hg2=>(.neq (.gd2 hg1 hg2 rfl) (.of rfl))) rfl (.gval rfl rfl (fun hg1=>(.pand (.gd hg1 rfl) (.gd hg1 rfl) (.of rfl))) rfl (.val (.por (.of rfl) (.of rfl) (.of rfl)) rfl (.nil ?_))))))))))))
 refine WC.cond rfl (fun hb43=>?_) (fun hb43=>?_)
 ·
  have hc43:=hb43; try simp only [Y6] at hc43
  refine .seq (.region ?_)
  refine WL.val (.ldsW (cs:=[_,_,_,_]) (.of rfl) hS (k:=0) rfl Xbq X4i rfl) rfl ?_
  refine WL.stA hS (k:=1) rfl (.of rfl) (.of rfl) rfl X4i rfl (by simp) ?_
  clear hS; intro w hS; try dsimp only [List.set] at hS
  try simp only [Yh,Yd,Y9,Y7,Yg,Ym,Yc] at hS
  refine .q 1 rfl (.nil (.ret ?_))
  refine X18 (b:=_) (cs:=[_,_,_,_]) Xqd hS (k:=1) rfl Xbq X4i rfl rfl rfl ?_
  have hk2:(X9 q.ticket != 2 && X9 q.ticket != 3)=true:=by
   rcases (Y21).1 hb43 with h | h
   ·rw [Xk0 (by simpa using h)]; decide
   ·exact h
  have hU:Xf x.c.ps ω q=((r0,30),ω):=by rw [Xf,if_neg (by rw [hb25]; decide),if_pos hk2]
  have hE:X1h x.c.ps ω q=30:=by rw [X1h,hU]; exact if_pos (show (30:Nat)≠0 by decide)
  have hXx:Xd (xlo x) x.c.us x.c.ps ω q=sx0:=if_pos (by rw [hE]; decide)
  rw [hE,hXx,hU]
  exact ⟨_,rfl,I,_,la,lc,da,dc,Le.refl _,rfl,X6d I,hM,(((((hS.pick 4 rfl).pick 4 rfl).drop (k:=2) rfl).drop (k:=2) rfl).drop (k:=2) rfl)⟩
 have hc43:=hb43; try simp only [Y6] at hc43
 refine .skip (.seq (.seq (.t 3 rfl ?_)))
 refine WL.gval rfl rfl (fun hg1=>(by exact .fieldAddr 3 (.of rfl) Xag rfl rfl Qs4 rfl)) rfl ?_
 refine WL.gval rfl rfl (fun hg1=>(by exact (.ld (.gd hg1 rfl) hS (k:=2) rfl Qg4 rfl))) rfl ?_
 refine .gval rfl rfl (fun hg1=>(.not (.gd hg1 rfl))) rfl (.val (.pand (.of rfl) (.of rfl) (.of rfl)) rfl (.nil ?_))
 refine WC.cond rfl (fun hb51=>?_) (fun hb51=>?_)
 ·
  have hc51:=hb51; try simp only [Y6] at hc51
  refine .seq (.region ?_)
  refine WL.val (.ldsW (cs:=[_,_,_,_]) (.of rfl) hS (k:=0) rfl Xbq X4i rfl) rfl ?_
  refine WL.stA hS (k:=1) rfl (.of rfl) (.of rfl) rfl X4i rfl (by simp) ?_
  clear hS; intro w hS; try dsimp only [List.set] at hS
  try simp only [Yh,Yd,Y9,Y7,Yg,Ym,Yc] at hS
  refine .q 1 rfl (.nil (.ret ?_))
  refine X18 (b:=_) (cs:=[_,_,_,_]) Xqd hS (k:=1) rfl Xbq X4i rfl rfl rfl ?_
  have hk2:(X9 q.ticket != 2 && X9 q.ticket != 3)=false:=(Y13.1 hb43).2
  have hU:Xf x.c.ps ω q=((r0,32),ω):=by rw [Xf,if_neg (by rw [hb25]; decide),if_neg (by rw [hk2]; decide),if_pos hb51]
  have hE:X1h x.c.ps ω q=32:=by rw [X1h,hU]; exact if_pos (show (32:Nat)≠0 by decide)
  have hXx:Xd (xlo x) x.c.us x.c.ps ω q=sx0:=if_pos (by rw [hE]; decide)
  rw [hE,hXx,hU]
  exact ⟨_,rfl,I,_,la,lc,da,dc,Le.refl _,rfl,X6d I,hM,(((((hS.pick 4 rfl).pick 4 rfl).drop (k:=2) rfl).drop (k:=2) rfl).drop (k:=2) rfl)⟩
 have hc51:=hb51; try simp only [Y6] at hc51
 refine .skip (.seq (.t 1 rfl ?_))
 refine WL.val (.fieldAddr 0 (.of rfl) Xag rfl rfl Qs9 rfl) rfl ?_
 refine WL.val (.ld (.of rfl) hS (k:=2) rfl Qg9 rfl) rfl ?_
 refine .q 1 rfl (.call Tryz.func54 rfl (X0 (.of rfl) (X0 (.of rfl) (X0 (.of rfl) X4))) rfl (Xax q.ticket (X9 q.ticket) x ω hω la lc da dc B _ I hX hM _ ((hS.pick 4 rfl).pick 4 rfl)) ?_)
 clear hS
 rintro _ w ⟨rfl,hS⟩
 try dsimp only [List.eraseIdx] at hS
 refine .q 3 rfl (.allocA (cs:=[_,_,_,_,_,_,_,_,_,_]) hS X7c rfl ?_)
 clear hS; intro b10 w hS
 refine WL.stA hS (k:=0) rfl (.of rfl) (.of rfl) rfl X17 rfl (by simp) ?_
 clear hS; intro w hS; try dsimp only [List.set] at hS
 try simp only [Yh,Yd,Y9,Y7,Yg,Ym,Yc] at hS
 refine .q 1 rfl (.nil (.seq (.seq (.t 3 rfl ?_))))
 refine WL.gval rfl rfl (fun hg1=>(by exact .fieldAddr 8 (.of rfl) X16 rfl rfl Qs3 rfl)) rfl ?_
 refine WL.gval rfl rfl (fun hg1=>(by exact (.ld (.gd hg1 rfl) hS (k:=0) rfl Qg3 rfl))) rfl ?_
 refine .gval rfl rfl (fun hg1=>(.gtr (.gd hg1 rfl) (.of rfl))) rfl (.val (.por (.of rfl) (.of rfl) (.of rfl)) rfl (.nil ?_))
 refine WC.cond rfl (fun hb67=>?_) (fun hb67=>?_)
 ·
  have hc67:=hb67; try simp only [Y6] at hc67
  refine .seq (.region ?_)
  refine WL.val (.ldsW (cs:=[_,_,_,_]) (.of rfl) hS (k:=3) rfl Xbq X4i rfl) rfl ?_
  refine WL.stA hS (k:=4) rfl (.of rfl) (.of rfl) rfl X4i rfl (by simp) ?_
  clear hS; intro w hS; try dsimp only [List.set] at hS
  try simp only [Yh,Yd,Y9,Y7,Yg,Ym,Yc] at hS
  refine .q 1 rfl (.nil (.ret ?_))
  refine X18 (b:=_) (cs:=[_,_,_,_]) Xqd hS (k:=4) rfl Xbq X4i rfl rfl rfl ?_
  have hk2:(X9 q.ticket != 2 && X9 q.ticket != 3)=false:=(Y13.1 hb43).2
  have hU:Xf x.c.ps ω q=((r0,30),ω):=by rw [Xf,if_neg (by rw [hb25]; decide),if_neg (by rw [hk2]; decide),if_neg (by rw [hb51]; decide),if_pos hb67]
  have hE:X1h x.c.ps ω q=30:=by rw [X1h,hU]; exact if_pos (show (30:Nat)≠0 by decide)
  have hXx:Xd (xlo x) x.c.us x.c.ps ω q=sx0:=if_pos (by rw [hE]; decide)
  rw [hE,hXx,hU]
  exact ⟨_,rfl,I,_,la,lc,da,dc,Le.refl _,rfl,X6d I,hM,((((((hS.pick 2 rfl).pick 2 rfl).drop (k:=2) rfl).drop (k:=2) rfl).drop (k:=2) rfl).drop (k:=2) rfl)⟩
 have hc67:=hb67; try simp only [Y6] at hc67
 refine .skip (.seq ?_)
 have hlen:=hω.len
 have hsh:=X7m (ps:=x.c.ps) hω q.ticket (X9 q.ticket)
 refine .drawn (fun w=>∃ J9 R,Le I J9∧Sat B w J9 (blk b10 (X7 (X8 x.c.ps ω q.ticket (X9 q.ticket)).1) 45::blk x.xb (XC x da ω.D.length dc ω.now) 83::R)) (fun j=>!([].contains j)) (by kernel_rfl) ?_
 replace hS:=hS.drew; generalize w.drew=w at hS ⊢
 have hH:∃ J9 R,Le I J9∧Sat B w J9 (blk b10 (X7 (X8 x.c.ps ω q.ticket (X9 q.ticket)).1) 45::blk x.xb (XC x da ω.D.length dc ω.now) 83::R):=⟨_,_,Le.refl _,((hS.pick 1 rfl).pick 1 rfl)⟩
 refine .tp (i:=0) rfl (by kernel_rfl) (fun w=>(.move (.of rfl))) rfl (.tp (i:=1) rfl (by kernel_rfl) (fun w=>(.nilCheck (.of rfl))) rfl ?_)
 refine WD.tp (i:=2) rfl (by kernel_rfl) (fun w=>(.fieldAddr 28 (.of rfl) Xf0 rfl rfl Xpq rfl)) rfl ?_
 refine WD.tk (i:=3) rfl (by kernel_rfl) hH (fun w ⟨J9,R,hL9,hS⟩=>((.ld (.of rfl) hS (k:=1) rfl Xox rfl))) rfl ?_
 refine WD.tk (i:=4) rfl (by kernel_rfl) hH (fun w ⟨J9,R,hL9,hS⟩=>((.ldsW (cs:=[_,_,_,_,_,_,_,_,_,_]) (.of rfl) hS (k:=0) rfl X36 X17 rfl))) rfl ?_
 refine .tp (i:=5) rfl (by kernel_rfl) (fun w=>(.move (.of rfl))) rfl (.tp (i:=6) rfl (by kernel_rfl) (fun w=>(.nilCheck (.of rfl))) rfl ?_)
 refine WD.tp (i:=7) rfl (by kernel_rfl) (fun w=>(.fieldAddr 30 (.of rfl) Xf0 rfl rfl Qs3 rfl)) rfl ?_
 refine WD.tk (i:=8) rfl (by kernel_rfl) hH (fun w ⟨J9,R,hL9,hS⟩=>((.ld (.of rfl) hS (k:=1) rfl Qg3 rfl))) rfl ?_
 refine WD.branch [9] (by kernel_rfl) rfl (WO.cons rfl ?_ (WO.nil))
 refine .call Tryz.func76 rfl (X0 (.of rfl) (X0 (.of rfl) X4)) rfl (Xcx (X8 x.c.ps ω q.ticket (X9 q.ticket)).1 ω.now hsh.2.2.1 hsh.2.2.2 B _ I _ hS) ?_
 clear hS
 rintro _ w ⟨rfl,hS⟩
 refine .nil ?_
 clear hH
 have hH:∃ J9 R,Le I J9∧Sat B w J9 (blk b10 (X7 (X8 x.c.ps ω q.ticket (X9 q.ticket)).1) 45::blk x.xb (XC x da ω.D.length dc ω.now) 83::R):=⟨_,_,Le.refl _,((hS.pick 1 rfl).pick 1 rfl)⟩
 refine And.intro (by intro _ _; exact hH) ?_
 refine WD.branch [10] (by kernel_rfl) rfl (WO.cons rfl ?_ (WO.nil))
 refine .call Tryz.func75 rfl (X0 (.of rfl) (X0 (.of rfl) X4)) rfl (Xha x.tb ω.room la lc ω.l (by omega) (Xo (X8 x.c.ps ω q.ticket (X9 q.ticket)).1 ω.now) (Y3b hsh.1 (by decide)) (Y3b hsh.2.1 (by decide)) B _ I hM.1 _ (hS.pick 2 rfl)) ?_
 clear hS
 rintro _ w ⟨rfl,J,la2,lc2,hJ,hR2,hS⟩
 try dsimp only [List.eraseIdx] at hS
 refine .nil ?_
 clear hH
 have hH:∃ J9 R,Le I J9∧Sat B w J9 (blk b10 (X7 (X8 x.c.ps ω q.ticket (X9 q.ticket)).1) 45::blk x.xb (XC x da ω.D.length dc ω.now) 83::R):=⟨_,_,hJ,((hS.pick 2 rfl).pick 2 rfl)⟩
 refine And.intro (by intro _ _; exact hH) ?_
 refine .done (by kernel_rfl) (.seq ?_)
 have hω2:=Xk6 hω (Xo (X8 x.c.ps ω q.ticket (X9 q.ticket)).1 ω.now)
 refine .region ?_
 refine WL.val (.fieldAddr 1 (.of rfl) Xag rfl rfl Qs9 rfl) rfl ?_
 refine WL.val (.ld (.of rfl) hS (k:=5) rfl Qg9 rfl) rfl ?_
 refine .call Tryz.func23 rfl (X0 (.of rfl) X4) rfl (X5h q.service hqs B _ J _ hS) ?_
 clear hS
 rintro _ w ⟨rfl,hS⟩
 refine .q 5 rfl (.nil (.seq (.seq (.t 3 rfl (.gval rfl rfl (fun hg1=>(.move (.of rfl))) rfl ?_)))))
 refine WL.gval rfl rfl (fun hg1=>(by exact .fieldAddr 4 (.of rfl) X16 rfl rfl Qs9 rfl)) rfl ?_
 refine WL.gval rfl rfl (fun hg1=>(by exact (.ld (.gd hg1 rfl) hS (k:=1) rfl Qg9 rfl))) rfl ?_
 refine .gval rfl rfl (fun hg1=>(.nes (.gd hg1 rfl) (.gd hg1 rfl))) rfl (.val (.por (.of rfl) (.of rfl) (.of rfl)) rfl (.nil ?_))
 refine WC.cond rfl (fun hb93=>?_) (fun hb93=>?_)
 ·
  have hc93:=hb93; try simp only [Y6] at hc93
  refine .seq (.region ?_)
  refine WL.val (.ldsW (cs:=[_,_,_,_]) (.of rfl) hS (k:=3) rfl Xbq X4i rfl) rfl ?_
  refine WL.stA hS (k:=4) rfl (.of rfl) (.of rfl) rfl X4i rfl (by simp) ?_
  clear hS; intro w hS; try dsimp only [List.set] at hS
  try simp only [Yh,Yd,Y9,Y7,Yg,Ym,Yc] at hS
  refine .q 1 rfl (.nil (.ret ?_))
  refine X18 (b:=_) (cs:=[_,_,_,_]) Xqd hS (k:=4) rfl Xbq X4i rfl rfl rfl ?_
  have hk2:(X9 q.ticket != 2 && X9 q.ticket != 3)=false:=(Y13.1 hb43).2
  have hU:Xf x.c.ps ω q=(((X8 x.c.ps ω q.ticket (X9 q.ticket)).1,0),(X3a ω (Xo (X8 x.c.ps ω q.ticket (X9 q.ticket)).1 ω.now))):=by rw [Xf,if_neg (by rw [hb25]; decide),if_neg (by rw [hk2]; decide),if_neg (by rw [hb51]; decide),if_neg (by rw [hb67]; decide)]
  have hE:X1h x.c.ps ω q=31:=by rw [X1h,hU,if_neg (by simp)]; exact if_pos hb93
  have hXx:Xd (xlo x) x.c.us x.c.ps ω q=sx0:=if_pos (by rw [hE]; decide)
  rw [hE,hXx,hU]
  exact ⟨_,rfl,J,_,la2,lc2,da,dc,hJ,rfl,X6d J,⟨hR2,hM.2.1.mono hJ,hM.2.2⟩,(((((hS.pick 2 rfl).drop (k:=2) rfl).drop (k:=2) rfl).drop (k:=2) rfl).drop (k:=2) rfl)⟩
 have hc93:=hb93; try simp only [Y6] at hc93
 refine .skip (.seq (.seq (.region ?_)))
 refine WL.val (.fieldAddr 2 (.of rfl) Xag rfl rfl Qs4 rfl) rfl ?_
 refine WL.val (.ld (.of rfl) hS (k:=5) rfl Qg4 rfl) rfl ?_
 refine .q 1 rfl ?_
 refine WL.gval rfl rfl (fun hg1=>(by exact .fieldAddr 9 (.of rfl) X16 rfl rfl Qs4 rfl)) rfl ?_
 refine WL.gval rfl rfl (fun hg1=>(by exact (.ld (.gd hg1 rfl) hS (k:=1) rfl Qg4 rfl))) rfl ?_
 refine .gval rfl rfl (fun hg1=>(.not (.gd hg1 rfl))) rfl (.val (.pand (.of rfl) (.of rfl) (.of rfl)) rfl (.nil ?_))
 refine WC.cond rfl (fun hb101=>?_) (fun hb101=>?_)
 ·
  have hc101:=hb101; try simp only [Y6] at hc101
  refine .seq (.region ?_)
  refine WL.val (.ldsW (cs:=[_,_,_,_]) (.of rfl) hS (k:=3) rfl Xbq X4i rfl) rfl ?_
  refine WL.stA hS (k:=4) rfl (.of rfl) (.of rfl) rfl X4i rfl (by simp) ?_
  clear hS; intro w hS; try dsimp only [List.set] at hS
  try simp only [Yh,Yd,Y9,Y7,Yg,Ym,Yc] at hS
  refine .q 1 rfl (.nil (.ret ?_))
  refine X18 (b:=_) (cs:=[_,_,_,_]) Xqd hS (k:=4) rfl Xbq X4i rfl rfl rfl ?_
  have hk2:(X9 q.ticket != 2 && X9 q.ticket != 3)=false:=(Y13.1 hb43).2
  have hU:Xf x.c.ps ω q=(((X8 x.c.ps ω q.ticket (X9 q.ticket)).1,0),(X3a ω (Xo (X8 x.c.ps ω q.ticket (X9 q.ticket)).1 ω.now))):=by rw [Xf,if_neg (by rw [hb25]; decide),if_neg (by rw [hk2]; decide),if_neg (by rw [hb51]; decide),if_neg (by rw [hb67]; decide)]
  have hE:X1h x.c.ps ω q=30:=by rw [X1h,hU,if_neg (by simp)]; exact (if_neg (by rw [hb93]; decide)).trans (if_pos hb101)
  have hXx:Xd (xlo x) x.c.us x.c.ps ω q=sx0:=if_pos (by rw [hE]; decide)
  rw [hE,hXx,hU]
  exact ⟨_,rfl,J,_,la2,lc2,da,dc,hJ,rfl,X6d J,⟨hR2,hM.2.1.mono hJ,hM.2.2⟩,(((((hS.pick 2 rfl).drop (k:=2) rfl).drop (k:=2) rfl).drop (k:=2) rfl).drop (k:=2) rfl)⟩
 have hc101:=hb101; try simp only [Y6] at hc101
 refine .skip ?_
 refine WC.cutS (σ:=Im×Nat×Option Addr×Nat) (fun ⟨Jf,b14,ra,rc⟩=>[(0,ptr x.xb 0),(10,ptr b10 0),(14,ptr b14 0),(4,ptr b4 0)]) (fun ⟨Jf,b14,ra,rc⟩ w=>Le J Jf∧(Xc (xlo x) (X8 x.c.ps ω q.ticket (X9 q.ticket)).1.service).1.rel.length≤rc∧RS Jf ra 1 (Xc (xlo x) (X8 x.c.ps ω q.ticket (X9 q.ticket)).1.service).1.rel.length ((Xc (xlo x) (X8 x.c.ps ω q.ticket (X9 q.ticket)).1.service).1.rel.map S)∧Sat B w Jf (blk b14 [I64 (Xc (xlo x) (X8 x.c.ps ω q.ticket (X9 q.ticket)).1.service).1.id,F64 (Xc (xlo x) (X8 x.c.ps ω q.ticket (X9 q.ticket)).1.service).1.ord,S (Xc (xlo x) (X8 x.c.ps ω q.ticket (X9 q.ticket)).1.service).1.urls,.bool (Xc (xlo x) (X8 x.c.ps ω q.ticket (X9 q.ticket)).1.service).1.login,.bool (Xc (xlo x) (X8 x.c.ps ω q.ticket (X9 q.ticket)).1.service).1.proxy,.bool (Xc (xlo x) (X8 x.c.ps ω q.ticket (X9 q.ticket)).1.service).1.back,S (Xc (xlo x) (X8 x.c.ps ω q.ticket (X9 q.ticket)).1.service).1.calls,.slice ra (Xc (xlo x) (X8 x.c.ps ω q.ticket (X9 q.ticket)).1.service).1.rel.length rc] 101::blk b10 (X7 (X8 x.c.ps ω q.ticket (X9 q.ticket)).1) 45::blk b4 [S [],.slice none 0 0,.slice none 0 0,S []] 56::blk x.xb (XC x da (X3a ω (Xo (X8 x.c.ps ω q.ticket (X9 q.ticket)).1 ω.now)).D.length dc (X3a ω (Xo (X8 x.c.ps ω q.ticket (X9 q.ticket)).1 ω.now)).now) 83::blk x.tb [I64 (X3a ω (Xo (X8 x.c.ps ω q.ticket (X9 q.ticket)).1 ω.now)).room,.slice la2 (X3a ω (Xo (X8 x.c.ps ω q.ticket (X9 q.ticket)).1 ω.now)).l.length lc2] 79::As)) ?_ ?_
 ·
  have hss:(X8 x.c.ps ω q.ticket (X9 q.ticket)).1.service.length≤100:=by
   have h:=Xa7 (ps:=x.c.ps) hω q
   have hk2:(X9 q.ticket != 2 && X9 q.ticket != 3)=false:=(Y13.1 hb43).2
   rw [show Xf x.c.ps ω q=(((X8 x.c.ps ω q.ticket (X9 q.ticket)).1,0),(X3a ω (Xo (X8 x.c.ps ω q.ticket (X9 q.ticket)).1 ω.now))) by rw [Xf,if_neg (by rw [hb25]; decide),if_neg (by rw [hk2]; decide),if_neg (by rw [hb51]; decide),if_neg (by rw [hb67]; decide)]] at h
   exact h
  refine .drawn (fun w=>∃ J9 R,Le J J9∧Sat B w J9 (blk b10 (X7 (X8 x.c.ps ω q.ticket (X9 q.ticket)).1) 45::blk x.xb (XC x da (X3a ω (Xo (X8 x.c.ps ω q.ticket (X9 q.ticket)).1 ω.now)).D.length dc (X3a ω (Xo (X8 x.c.ps ω q.ticket (X9 q.ticket)).1 ω.now)).now) 83::R)) (fun j=>!([].contains j)) (by kernel_rfl) ?_
  replace hS:=hS.drew; generalize w.drew=w at hS ⊢
  have hH:∃ J9 R,Le J J9∧Sat B w J9 (blk b10 (X7 (X8 x.c.ps ω q.ticket (X9 q.ticket)).1) 45::blk x.xb (XC x da (X3a ω (Xo (X8 x.c.ps ω q.ticket (X9 q.ticket)).1 ω.now)).D.length dc (X3a ω (Xo (X8 x.c.ps ω q.ticket (X9 q.ticket)).1 ω.now)).now) 83::R):=⟨_,_,Le.refl _,((hS.pick 2 rfl).pick 2 rfl)⟩
  refine .tp (i:=0) rfl (by kernel_rfl) (fun w=>(.move (.of rfl))) rfl (.tp (i:=1) rfl (by kernel_rfl) (fun w=>(.nilCheck (.of rfl))) rfl ?_)
  refine WD.tp (i:=2) rfl (by kernel_rfl) (fun w=>(.fieldAddr 0 (.of rfl) Xf0 rfl rfl Xl3 rfl)) rfl ?_
  refine WD.tp (i:=3) rfl (by kernel_rfl) (fun w=>(.fieldAddr 0 (.of rfl) Xdl rfl rfl Qs27 rfl)) rfl ?_
  refine WD.tk (i:=4) rfl (by kernel_rfl) hH (fun w ⟨J9,R,hL9,hS⟩=>((.ld (.of rfl) hS (k:=1) rfl Qg27 rfl))) rfl ?_
  refine WD.tp (i:=5) rfl (by kernel_rfl) (fun w=>(.fieldAddr 4 (.of rfl) X16 rfl rfl Qs9 rfl)) rfl ?_
  refine WD.tk (i:=6) rfl (by kernel_rfl) hH (fun w ⟨J9,R,hL9,hS⟩=>((.ld (.of rfl) hS (k:=0) rfl Qg9 rfl))) rfl ?_
  refine WD.branch [7,12] (by kernel_rfl) rfl (WO.cons rfl ?_ (WO.cons rfl ?_ (WO.nil)))
  ·
   refine .call Tryz.func77 rfl (X0 (.of rfl) (X0 (.of rfl) X4)) rfl (X63 (X8 x.c.ps ω q.ticket (X9 q.ticket)).1.service (by omega) x B _ J (hX.mono hJ) _ hS) ?_
   clear hS
   rintro _ w ⟨Jf,ra,rc,hJf,rfl,hrc,hRel,hS⟩
   refine .nil ?_
   clear hH
   have hH:∃ J9 R,Le J J9∧Sat B w J9 (blk b10 (X7 (X8 x.c.ps ω q.ticket (X9 q.ticket)).1) 45::blk x.xb (XC x da (X3a ω (Xo (X8 x.c.ps ω q.ticket (X9 q.ticket)).1 ω.now)).D.length dc (X3a ω (Xo (X8 x.c.ps ω q.ticket (X9 q.ticket)).1 ω.now)).now) 83::R):=⟨_,_,hJf,((hS.pick 2 rfl).pick 2 rfl)⟩
   refine And.intro (by intro _ _; exact hH) ?_
   refine .tp (i:=8) rfl (by kernel_rfl) (fun w=>(.move (.of rfl))) rfl (.tp (i:=9) rfl (by kernel_rfl) (fun w=>(.extract (.of rfl) rfl)) rfl (.tp (i:=10) rfl (by kernel_rfl) (fun w=>(.extract (.of rfl) rfl)) rfl (.tp (i:=11) rfl (by kernel_rfl) (fun w=>(.extract (.of rfl) rfl)) rfl ?_)))
   refine WD.branch [12] (by kernel_rfl) rfl (WO.cons rfl ?_ (WO.nil))
   refine .allocA (cs:=[_,_,_,_,_,_,_,_]) hS X82 rfl ?_
   clear hS; intro b14 w hS
   refine .nil ?_
   clear hH
   have hH:∃ J9 R,Le J J9∧Sat B w J9 (blk b10 (X7 (X8 x.c.ps ω q.ticket (X9 q.ticket)).1) 45::blk x.xb (XC x da (X3a ω (Xo (X8 x.c.ps ω q.ticket (X9 q.ticket)).1 ω.now)).D.length dc (X3a ω (Xo (X8 x.c.ps ω q.ticket (X9 q.ticket)).1 ω.now)).now) 83::R):=⟨_,_,hJf,((hS.pick 3 rfl).pick 3 rfl)⟩
   refine And.intro (by intro _ _; exact hH) ?_
   refine WD.branch [13] (by kernel_rfl) rfl (WO.cons rfl ?_ (WO.nil))
   refine WL.stA hS (k:=0) rfl (.of rfl) (.of rfl) rfl X12 rfl (by simp) ?_
   clear hS; intro w hS; try dsimp only [List.set] at hS
   try simp only [Yh,Yd,Y9,Y7,Yg,Ym,Yc] at hS
   refine .nil ?_
   clear hH
   have hH:∃ J9 R,Le J J9∧Sat B w J9 (blk b10 (X7 (X8 x.c.ps ω q.ticket (X9 q.ticket)).1) 45::blk x.xb (XC x da (X3a ω (Xo (X8 x.c.ps ω q.ticket (X9 q.ticket)).1 ω.now)).D.length dc (X3a ω (Xo (X8 x.c.ps ω q.ticket (X9 q.ticket)).1 ω.now)).now) 83::R):=⟨_,_,hJf,((hS.pick 3 rfl).pick 3 rfl)⟩
   refine And.intro (by intro _ _; exact hH) ?_
   refine .tp (i:=14) rfl (by kernel_rfl) (fun w=>(.assign (.of rfl))) rfl (.tp (i:=15) rfl (by kernel_rfl) (fun w=>(.assign (.of rfl))) rfl (.done (by kernel_rfl) ?_))
   exact ⟨(Jf,b14,ra,rc),⟨rfl,rfl,rfl,rfl,trivial⟩,hJf,hrc,hRel,(((((((hS.pick 1 rfl).pick 3 rfl).pick 5 rfl).pick 4 rfl).pick 4 rfl).drop (k:=5) rfl).drop (k:=5) rfl)⟩
  ·
   refine .allocA (cs:=[_,_,_,_,_,_,_,_]) hS X82 rfl ?_
   clear hS; intro b14 w hS
   refine .nil ?_
   clear hH
   have hH:∃ J9 R,Le J J9∧Sat B w J9 (blk b10 (X7 (X8 x.c.ps ω q.ticket (X9 q.ticket)).1) 45::blk x.xb (XC x da (X3a ω (Xo (X8 x.c.ps ω q.ticket (X9 q.ticket)).1 ω.now)).D.length dc (X3a ω (Xo (X8 x.c.ps ω q.ticket (X9 q.ticket)).1 ω.now)).now) 83::R):=⟨_,_,Le.refl _,((hS.pick 3 rfl).pick 3 rfl)⟩
   refine And.intro (by intro _ _; exact hH) ?_
   refine WD.branch [7] (by kernel_rfl) rfl (WO.cons rfl ?_ (WO.nil))
   refine .call Tryz.func77 rfl (X0 (.of rfl) (X0 (.of rfl) X4)) rfl (X63 (X8 x.c.ps ω q.ticket (X9 q.ticket)).1.service (by omega) x B _ J (hX.mono hJ) _ hS) ?_
   clear hS
   rintro _ w ⟨Jf,ra,rc,hJf,rfl,hrc,hRel,hS⟩
   refine .nil ?_
   clear hH
   have hH:∃ J9 R,Le J J9∧Sat B w J9 (blk b10 (X7 (X8 x.c.ps ω q.ticket (X9 q.ticket)).1) 45::blk x.xb (XC x da (X3a ω (Xo (X8 x.c.ps ω q.ticket (X9 q.ticket)).1 ω.now)).D.length dc (X3a ω (Xo (X8 x.c.ps ω q.ticket (X9 q.ticket)).1 ω.now)).now) 83::R):=⟨_,_,hJf,((hS.pick 3 rfl).pick 3 rfl)⟩
   refine And.intro (by intro _ _; exact hH) ?_
   refine .tp (i:=8) rfl (by kernel_rfl) (fun w=>(.move (.of rfl))) rfl (.tp (i:=9) rfl (by kernel_rfl) (fun w=>(.extract (.of rfl) rfl)) rfl (.tp (i:=10) rfl (by kernel_rfl) (fun w=>(.extract (.of rfl) rfl)) rfl (.tp (i:=11) rfl (by kernel_rfl) (fun w=>(.extract (.of rfl) rfl)) rfl ?_)))
   refine WD.branch [13] (by kernel_rfl) rfl (WO.cons rfl ?_ (WO.nil))
   refine WL.stA hS (k:=0) rfl (.of rfl) (.of rfl) rfl X12 rfl (by simp) ?_
   clear hS; intro w hS; try dsimp only [List.set] at hS
   try simp only [Yh,Yd,Y9,Y7,Yg,Ym,Yc] at hS
   refine .nil ?_
   clear hH
   have hH:∃ J9 R,Le J J9∧Sat B w J9 (blk b10 (X7 (X8 x.c.ps ω q.ticket (X9 q.ticket)).1) 45::blk x.xb (XC x da (X3a ω (Xo (X8 x.c.ps ω q.ticket (X9 q.ticket)).1 ω.now)).D.length dc (X3a ω (Xo (X8 x.c.ps ω q.ticket (X9 q.ticket)).1 ω.now)).now) 83::R):=⟨_,_,hJf,((hS.pick 3 rfl).pick 3 rfl)⟩
   refine And.intro (by intro _ _; exact hH) ?_
   refine .tp (i:=14) rfl (by kernel_rfl) (fun w=>(.assign (.of rfl))) rfl (.tp (i:=15) rfl (by kernel_rfl) (fun w=>(.assign (.of rfl))) rfl (.done (by kernel_rfl) ?_))
   exact ⟨(Jf,b14,ra,rc),⟨rfl,rfl,rfl,rfl,trivial⟩,hJf,hrc,hRel,(((((((hS.pick 1 rfl).pick 3 rfl).pick 5 rfl).pick 4 rfl).pick 4 rfl).drop (k:=5) rfl).drop (k:=5) rfl)⟩
 rintro ⟨Jf,b14,ra,rc⟩ w ⟨hJf,hrc,hRel,hS⟩
 change WC _ _ _ _ [(0,ptr x.xb 0),(10,ptr b10 0),(14,ptr b14 0),(4,ptr b4 0)] w
 refine .seq ?_
 have hrl:(Xc (xlo x) (X8 x.c.ps ω q.ticket (X9 q.ticket)).1.service).1.rel.length≤1000000:=by
  rcases X9d (xlo x) (X8 x.c.ps ω q.ticket (X9 q.ticket)).1.service with e | e
  ·rw [e]; decide
  ·exact (hX.fits.sfit _ (Xd7 hX.D _ e)).2.2
 have hM3:RwM Jf la2 da dc (X3a ω (Xo (X8 x.c.ps ω q.ticket (X9 q.ticket)).1 ω.now)):=RwM.mono ⟨hR2,hM.2.1.mono hJ,hM.2.2⟩ hJf
 refine .drawn (fun w=>∃ J9 R,Le Jf J9∧Sat B w J9 (blk b10 (X7 (X8 x.c.ps ω q.ticket (X9 q.ticket)).1) 45::blk b14 [I64 (Xc (xlo x) (X8 x.c.ps ω q.ticket (X9 q.ticket)).1.service).1.id,F64 (Xc (xlo x) (X8 x.c.ps ω q.ticket (X9 q.ticket)).1.service).1.ord,S (Xc (xlo x) (X8 x.c.ps ω q.ticket (X9 q.ticket)).1.service).1.urls,.bool (Xc (xlo x) (X8 x.c.ps ω q.ticket (X9 q.ticket)).1.service).1.login,.bool (Xc (xlo x) (X8 x.c.ps ω q.ticket (X9 q.ticket)).1.service).1.proxy,.bool (Xc (xlo x) (X8 x.c.ps ω q.ticket (X9 q.ticket)).1.service).1.back,S (Xc (xlo x) (X8 x.c.ps ω q.ticket (X9 q.ticket)).1.service).1.calls,.slice ra (Xc (xlo x) (X8 x.c.ps ω q.ticket (X9 q.ticket)).1.service).1.rel.length rc] 101::blk x.xb (XC x da (X3a ω (Xo (X8 x.c.ps ω q.ticket (X9 q.ticket)).1 ω.now)).D.length dc (X3a ω (Xo (X8 x.c.ps ω q.ticket (X9 q.ticket)).1 ω.now)).now) 83::R)) (fun j=>!([].contains j)) (by kernel_rfl) ?_
 replace hS:=hS.drew; generalize w.drew=w at hS ⊢
 have hH:∃ J9 R,Le Jf J9∧Sat B w J9 (blk b10 (X7 (X8 x.c.ps ω q.ticket (X9 q.ticket)).1) 45::blk b14 [I64 (Xc (xlo x) (X8 x.c.ps ω q.ticket (X9 q.ticket)).1.service).1.id,F64 (Xc (xlo x) (X8 x.c.ps ω q.ticket (X9 q.ticket)).1.service).1.ord,S (Xc (xlo x) (X8 x.c.ps ω q.ticket (X9 q.ticket)).1.service).1.urls,.bool (Xc (xlo x) (X8 x.c.ps ω q.ticket (X9 q.ticket)).1.service).1.login,.bool (Xc (xlo x) (X8 x.c.ps ω q.ticket (X9 q.ticket)).1.service).1.proxy,.bool (Xc (xlo x) (X8 x.c.ps ω q.ticket (X9 q.ticket)).1.service).1.back,S (Xc (xlo x) (X8 x.c.ps ω q.ticket (X9 q.ticket)).1.service).1.calls,.slice ra (Xc (xlo x) (X8 x.c.ps ω q.ticket (X9 q.ticket)).1.service).1.rel.length rc] 101::blk x.xb (XC x da (X3a ω (Xo (X8 x.c.ps ω q.ticket (X9 q.ticket)).1 ω.now)).D.length dc (X3a ω (Xo (X8 x.c.ps ω q.ticket (X9 q.ticket)).1 ω.now)).now) 83::R):=⟨_,_,Le.refl _,(((hS.pick 3 rfl).pick 1 rfl).pick 2 rfl)⟩
 refine WD.tp (i:=0) rfl (by kernel_rfl) (fun w=>(.fieldAddr 3 (.of rfl) X16 rfl rfl Qs9 rfl)) rfl ?_
 refine WD.tk (i:=1) rfl (by kernel_rfl) hH (fun w ⟨J9,R,hL9,hS⟩=>((.ld (.of rfl) hS (k:=0) rfl Qg9 rfl))) rfl ?_
 refine .tp (i:=2) rfl (by kernel_rfl) (fun w=>(.move (.of rfl))) rfl (.tp (i:=3) rfl (by kernel_rfl) (fun w=>(.nilCheck (.of rfl))) rfl ?_)
 refine WD.tp (i:=4) rfl (by kernel_rfl) (fun w=>(.fieldAddr 0 (.of rfl) Xf0 rfl rfl Xl3 rfl)) rfl ?_
 refine WD.tp (i:=5) rfl (by kernel_rfl) (fun w=>(.fieldAddr 1 (.of rfl) Xdl rfl rfl Qs28 rfl)) rfl ?_
 refine WD.tk (i:=6) rfl (by kernel_rfl) hH (fun w ⟨J9,R,hL9,hS⟩=>((.ld (.of rfl) hS (k:=2) rfl Qg28 rfl))) rfl ?_
 refine WD.tp (i:=7) rfl (by kernel_rfl) (fun w=>(.fieldAddr 3 (.of rfl) X16 rfl rfl Qs9 rfl)) rfl ?_
 refine WD.tk (i:=8) rfl (by kernel_rfl) hH (fun w ⟨J9,R,hL9,hS⟩=>((.ld (.of rfl) hS (k:=0) rfl Qg9 rfl))) rfl ?_
 refine WD.tp (i:=9) rfl (by kernel_rfl) (fun w=>(.fieldAddr 7 (.of rfl) X25 rfl rfl Xeo rfl)) rfl ?_
 refine WD.tk (i:=10) rfl (by kernel_rfl) hH (fun w ⟨J9,R,hL9,hS⟩=>((.ld (.of rfl) hS (k:=1) rfl Xie rfl))) rfl ?_
 refine .tp (i:=12) rfl (by kernel_rfl) (fun w=>(.move (.of rfl))) rfl ?_
 refine WD.tp (i:=13) rfl (by kernel_rfl) (fun w=>(.fieldAddr 1 (.of rfl) X16 rfl rfl Qs9 rfl)) rfl ?_
 refine WD.tk (i:=14) rfl (by kernel_rfl) hH (fun w ⟨J9,R,hL9,hS⟩=>((.ld (.of rfl) hS (k:=0) rfl Qg9 rfl))) rfl ?_
 refine WD.branch [11] (by kernel_rfl) rfl (WO.cons rfl ?_ (WO.nil))
 refine WL.call Tryz.func78 rfl (X0 (.of rfl) (X0 (.of rfl) (X0 (.of rfl) X4))) rfl (Xd8 x.ua x.ucap x.c.us hX.cf.un (X8 x.c.ps ω q.ticket (X9 q.ticket)).1.user ra rc _ hrl (x_att hX) B _ _ (by exact hX.cf.us.mono (hJ.trans hJf)) (by exact hRel) _ hS) ?_
 clear hS
 rintro _ w ⟨Ja,ka,kc,rfl,hJa,hkc,hRa,hS⟩
 refine .nil ?_
 clear hH
 have hH:∃ J9 R,Le Jf J9∧Sat B w J9 (blk b10 (X7 (X8 x.c.ps ω q.ticket (X9 q.ticket)).1) 45::blk b14 [I64 (Xc (xlo x) (X8 x.c.ps ω q.ticket (X9 q.ticket)).1.service).1.id,F64 (Xc (xlo x) (X8 x.c.ps ω q.ticket (X9 q.ticket)).1.service).1.ord,S (Xc (xlo x) (X8 x.c.ps ω q.ticket (X9 q.ticket)).1.service).1.urls,.bool (Xc (xlo x) (X8 x.c.ps ω q.ticket (X9 q.ticket)).1.service).1.login,.bool (Xc (xlo x) (X8 x.c.ps ω q.ticket (X9 q.ticket)).1.service).1.proxy,.bool (Xc (xlo x) (X8 x.c.ps ω q.ticket (X9 q.ticket)).1.service).1.back,S (Xc (xlo x) (X8 x.c.ps ω q.ticket (X9 q.ticket)).1.service).1.calls,.slice ra (Xc (xlo x) (X8 x.c.ps ω q.ticket (X9 q.ticket)).1.service).1.rel.length rc] 101::blk x.xb (XC x da (X3a ω (Xo (X8 x.c.ps ω q.ticket (X9 q.ticket)).1 ω.now)).D.length dc (X3a ω (Xo (X8 x.c.ps ω q.ticket (X9 q.ticket)).1 ω.now)).now) 83::R):=⟨_,_,(by exact hJa),(((hS.pick 3 rfl).pick 1 rfl).pick 2 rfl)⟩
 refine And.intro (by intro _ _; exact hH) ?_
 refine WD.branch [15] (by kernel_rfl) rfl (WO.cons rfl ?_ (WO.nil))
 refine WL.call Tryz.func32 rfl (X0 (.of rfl) (X0 (.of rfl) X4)) rfl (X5c (X8 x.c.ps ω q.ticket (X9 q.ticket)).1.name x (X3a ω (Xo (X8 x.c.ps ω q.ticket (X9 q.ticket)).1 ω.now)) hω2 la2 lc2 da dc B _ _ (by exact hX.mono ((hJ.trans hJf).trans hJa)) (by exact hM3.mono hJa) _ ((hS.pick 4 rfl).pick 4 rfl)) ?_
 clear hS
 rintro _ w ⟨Jp,pa,pc,rfl,hJp,hpc,hRp,hS⟩
 try dsimp only [List.eraseIdx] at hS
 refine .nil ?_
 clear hH
 have hH:∃ J9 R,Le Jf J9∧Sat B w J9 (blk b10 (X7 (X8 x.c.ps ω q.ticket (X9 q.ticket)).1) 45::blk b14 [I64 (Xc (xlo x) (X8 x.c.ps ω q.ticket (X9 q.ticket)).1.service).1.id,F64 (Xc (xlo x) (X8 x.c.ps ω q.ticket (X9 q.ticket)).1.service).1.ord,S (Xc (xlo x) (X8 x.c.ps ω q.ticket (X9 q.ticket)).1.service).1.urls,.bool (Xc (xlo x) (X8 x.c.ps ω q.ticket (X9 q.ticket)).1.service).1.login,.bool (Xc (xlo x) (X8 x.c.ps ω q.ticket (X9 q.ticket)).1.service).1.proxy,.bool (Xc (xlo x) (X8 x.c.ps ω q.ticket (X9 q.ticket)).1.service).1.back,S (Xc (xlo x) (X8 x.c.ps ω q.ticket (X9 q.ticket)).1.service).1.calls,.slice ra (Xc (xlo x) (X8 x.c.ps ω q.ticket (X9 q.ticket)).1.service).1.rel.length rc] 101::blk x.xb (XC x da (X3a ω (Xo (X8 x.c.ps ω q.ticket (X9 q.ticket)).1 ω.now)).D.length dc (X3a ω (Xo (X8 x.c.ps ω q.ticket (X9 q.ticket)).1 ω.now)).now) 83::R):=⟨_,_,(by exact hJa.trans hJp),(((hS.pick 0 rfl).pick 2 rfl).pick 3 rfl)⟩
 refine And.intro (by intro _ _; exact hH) ?_
 refine .tp (i:=16) rfl (by kernel_rfl) (fun w=>(.build (cs:=[_,_,_,_]) (X5 (.of rfl) (X5 (.of rfl) (X5 (.of rfl) X6))) X4p rfl)) rfl ?_
 refine WD.branch [17] (by kernel_rfl) rfl (WO.cons rfl ?_ (WO.nil))
 refine WL.stA hS (k:=4) rfl (.of rfl) (.of rfl) rfl X4i rfl (by simp) ?_
 clear hS; intro w hS; try dsimp only [List.set] at hS
 try simp only [Yh,Yd,Y9,Y7,Yg,Ym,Yc] at hS
 refine .nil ?_
 clear hH
 have hH:∃ J9 R,Le Jf J9∧Sat B w J9 (blk b10 (X7 (X8 x.c.ps ω q.ticket (X9 q.ticket)).1) 45::blk b14 [I64 (Xc (xlo x) (X8 x.c.ps ω q.ticket (X9 q.ticket)).1.service).1.id,F64 (Xc (xlo x) (X8 x.c.ps ω q.ticket (X9 q.ticket)).1.service).1.ord,S (Xc (xlo x) (X8 x.c.ps ω q.ticket (X9 q.ticket)).1.service).1.urls,.bool (Xc (xlo x) (X8 x.c.ps ω q.ticket (X9 q.ticket)).1.service).1.login,.bool (Xc (xlo x) (X8 x.c.ps ω q.ticket (X9 q.ticket)).1.service).1.proxy,.bool (Xc (xlo x) (X8 x.c.ps ω q.ticket (X9 q.ticket)).1.service).1.back,S (Xc (xlo x) (X8 x.c.ps ω q.ticket (X9 q.ticket)).1.service).1.calls,.slice ra (Xc (xlo x) (X8 x.c.ps ω q.ticket (X9 q.ticket)).1.service).1.rel.length rc] 101::blk x.xb (XC x da (X3a ω (Xo (X8 x.c.ps ω q.ticket (X9 q.ticket)).1 ω.now)).D.length dc (X3a ω (Xo (X8 x.c.ps ω q.ticket (X9 q.ticket)).1 ω.now)).now) 83::R):=⟨_,_,(by exact hJa.trans hJp),(((hS.pick 0 rfl).pick 2 rfl).pick 3 rfl)⟩
 refine And.intro (by intro _ _; exact hH) ?_
 refine .tp (i:=18) rfl (by kernel_rfl) (fun w=>(.assign (.of rfl))) rfl (.done (by kernel_rfl) (.ret ?_))
 refine X18 (b:=_) (cs:=[_,_,_,_]) Xqd hS (k:=4) rfl Xbq X4i rfl rfl rfl ?_
 have hk2:(X9 q.ticket != 2 && X9 q.ticket != 3)=false:=(Y13.1 hb43).2
 have hU:Xf x.c.ps ω q=(((X8 x.c.ps ω q.ticket (X9 q.ticket)).1,0),(X3a ω (Xo (X8 x.c.ps ω q.ticket (X9 q.ticket)).1 ω.now))):=by rw [Xf,if_neg (by rw [hb25]; decide),if_neg (by rw [hk2]; decide),if_neg (by rw [hb51]; decide),if_neg (by rw [hb67]; decide)]
 have hE:X1h x.c.ps ω q=0:=by rw [X1h,hU,if_neg (by simp)]; exact (if_neg (by rw [hb93]; decide)).trans (if_neg (by rw [hb101]; decide))
 have hXx:Xd (xlo x) x.c.us x.c.ps ω q=⟨(X8 x.c.ps ω q.ticket (X9 q.ticket)).1.user,X1n x.c.us (X8 x.c.ps ω q.ticket (X9 q.ticket)).1.user (Xc (xlo x) (X8 x.c.ps ω q.ticket (X9 q.ticket)).1.service).1.rel,Xx (X3a ω (Xo (X8 x.c.ps ω q.ticket (X9 q.ticket)).1 ω.now)).l (X8 x.c.ps ω q.ticket (X9 q.ticket)).1.name,[]⟩:=by rw [Xd,if_neg (by rw [hE]; decide),hU]
 rw [hE,hXx,hU]
 refine ⟨_,rfl,_,_,la2,lc2,da,dc,?_,rfl,⟨ka,kc,pa,pc,rfl,hkc,?_,hpc,?_⟩,?_,(((((hS.pick 1 rfl).pick 1 rfl).drop (k:=2) rfl).drop (k:=2) rfl).drop (k:=2) rfl)⟩
 ·exact ((hJ.trans hJf).trans hJa).trans hJp
 ·exact hRa.mono hJp
 ·exact hRp
 ·exact hM3.mono (hJa.trans hJp)
theorem Xge (p q:Pr) (w:World):(Op.equalIn 10000 69 (.agg (Xk p).toArray) (.agg (Xk q).toArray)).run Tryz.prog w=.ok (decide (p=q)) w:=by
 have hS:Tryz.prog.underlying 69=some (.struct (Tryz.prog.fieldsOf 69)):=by kernel_rfl
 have hp:Tryz.prog.stoodInHeld 69=false:=by kernel_rfl
 have us:=Qu9
 have as9:=Qg9
 rw [show (10000:Nat)=9999+1 from rfl,run_equalIn_agg w 9999 69 _ _ hS hp]
 simp only [Program.fieldsOf,Xi1]
 obtain ⟨a,b⟩:=p
 obtain ⟨c,d⟩:=q
 unfold Xk
 go_simp
 repeat' split
 all_goals simp_all
theorem Ex.nePr {n:Nat} {L:Env} {w:World} {d:Option Nat} {ty t':TypeId} {pos:String} {af:Array Edge} {g:Option (Nat×Bool)} {x y:Operand} {r s:Pr} (hx:Ev n L x (.agg (Xk r).toArray)) (hy:Ev n L y (.agg (Xk s).toArray)):Ex Tryz.prog n L w ⟨d,.binOp .neq 69 x y t',ty,pos,af,g⟩ (.bool (!decide (r=s))) w :=
 X1d hx hy (fun p q=>run_eqGuard_agg w _ _ _ _ _ _ (by kernel_rfl)) (by rw [run_neq_struct,Xge]; rfl)
theorem Xhk (a b:Option Addr) (ca cb:Nat) (la lb:List Pr) (hla:la.length≤9223372036854775807) (B w:World) (I:Im) (hA:RS I a 2 la.length (Xy Xk la)) (hB:RS I b 2 lb.length (Xy Xk lb)) (As:List Xe) (hS:Sat B w I As) :
  Calls Tryz.prog 66 [.slice a la.length ca,.slice b lb.length cb].toArray w (Ret fun v w'=>v=.bool (decide (la=lb))∧Sat B w' I As):=by
 refine calls Tryz.func66 rfl Tryz.ntmps66 rfl (.seq (.q 1 rfl (.seq (.seq (.region (.run 5 rfl ⟨⟨_,X6n⟩,⟨_,X6n⟩,trivial⟩ (.nil ?_)))))))
 refine WC.cond rfl (fun hb10=>?_) (fun hb10=>?_)
 ·
  refine .seq (.q 1 rfl (.ret (Xh Tryz.results66 rfl ?_)))
  refine ⟨_,rfl,congrArg Value.bool (decide_eq_false fun e=>?_).symm,hS⟩
  subst e
  simp at hb10
 have hc10:=hb10; try simp only [Y6] at hc10
 refine .skip (.seq (.seq (.q 1 rfl (.block (.loop (σ:=Nat) (fun i=>[(0,.slice a la.length ca),(1,.slice b lb.length cb),(5,I64 (i:Nat))]) (fun i w=>i≤la.length∧(∀ (j:Nat),j<i→la[j]?=lb[j]?)∧Sat B w I As) (fun i=>la.length - i) 0 ⟨rfl,rfl,rfl,trivial⟩ ⟨Yq _,fun _ h=>absurd h (by omega),hS⟩ ?_)))))
 rintro i w ⟨hi,hsm,hS⟩
 change WC _ _ _ _ [(0,.slice a la.length ca),(1,.slice b lb.length cb),(5,I64 (i:Nat))] w
 refine .seq (.seq (.region (.run 4 rfl ⟨⟨_,X6n⟩,trivial⟩ (.nil ?_))))
 refine WC.cond rfl (fun hb14=>?_) (fun hb14=>?_)
 ·
  have hc14:=hb14; try simp only [Y6] at hc14
  refine .skip (.seq (.block (.seq ?_)))
  obtain ⟨x,hx0⟩:∃ x,la[i]?=some x:=⟨_,Y4 (by omega)⟩
  obtain ⟨y,hy0⟩:∃ y,lb[i]?=some y:=⟨_,Y4 (by omega)⟩
  obtain ⟨p,hp9,hx⟩:=X4d (cells:=Xk) (s:=2) (fun _=>rfl) hA hx0
  obtain ⟨p2,hp8,hy⟩:=X4d (cells:=Xk) (s:=2) (fun _=>rfl) hB hy0
  subst hp9
  subst hp8
  refine .quiet (by kernel_rfl) (by kernel_rfl) hS (.val (fun w hS=>(.move (.of rfl))) rfl (.val (fun w hS=>(.move (.of rfl))) rfl ?_))
  refine WQ.val (fun w hS=>(by exact .indexAddrI (.of rfl) (.of rfl) (by omega) (by omega) X6n X9l)) rfl ?_
  refine .val (fun w hS=>.ldsI (.of rfl) hS hx Xp9 X9l rfl (fun _ _ h=>h)) rfl (.val (fun w hS=>(.move (.of rfl))) rfl (.val (fun w hS=>(.move (.of rfl))) rfl ?_))
  refine WQ.val (fun w hS=>(by exact .indexAddrI (.of rfl) (.of rfl) (by omega) (by omega) X6n X9l)) rfl ?_
  refine .val (fun w hS=>.ldsI (.of rfl) hS hy Xp9 X9l rfl (fun _ _ h=>h)) rfl (.val (fun w hS=>Ex.nePr (r:=x) (s:=y) (.of rfl) (.of rfl)) rfl (.nil ?_))
  clear hS; intro w hS
  refine WC.cond rfl (fun hb25=>?_) (fun hb25=>?_)
  ·
   refine .seq (.q 1 rfl (.ret (Xh Tryz.results66 rfl ?_)))
   refine ⟨_,rfl,congrArg Value.bool (decide_eq_false fun e=>?_).symm,hS⟩
   subst e
   rw [hx0] at hy0
   cases hy0
   simp at hb25
  have hc25:=hb25; try simp only [Y6] at hc25
  refine .skip (.region (.run 3 rfl ⟨⟨by omega,by omega⟩,trivial⟩ (.nil ?_)))
  refine ⟨i+1,⟨rfl,rfl,rfl,trivial⟩,⟨by (try dsimp only); omega,fun j hj=>?_,hS⟩,by (try dsimp only); omega⟩
  rcases Yr j i with h1 | h1
  ·exact hsm j h1
  ·have e:j=i:=by omega
   subst e
   rw [hx0,hy0,show x=y by simpa using hb25]
 have hc14:=hb14; try simp only [Y6] at hc14
 refine .exit (.seq (.q 1 rfl (.ret (Xh Tryz.results66 rfl ?_))))
 refine ⟨_,rfl,congrArg Value.bool (decide_eq_true ?_).symm,hS⟩
 refine Y1w fun j=>?_
 rcases Yr j i with h1 | h1
 ·exact hsm j h1
 ·rw [Y1f (by omega),Y1f (by omega)]
def Xqj (x y:Sx):Bool:=((x.user == y.user && x.iou == y.iou) && decide (x.attrs=y.attrs)) && decide (x.proxies=y.proxies)
theorem Xgg (x:Sx):Xqj x x=true:=by simp [Xqj]
theorem Xi5 (x y:Sx) (ka1 pa1 ka2 pa2:Option Addr) (kc1 pc1 kc2 pc2:Nat) (hxl:x.attrs.length≤9223372036854775807∧x.proxies.length≤140737488355328) (B w:World) (I:Im) (hka1:x.attrs.length≤kc1) (hRa1:RS I ka1 2 x.attrs.length (Xy Xk x.attrs)) (hpa1:x.proxies.length≤pc1) (hRp1:RS I pa1 1 x.proxies.length (x.proxies.map S)) (hka2:y.attrs.length≤kc2) (hRa2:RS I ka2 2 y.attrs.length (Xy Xk y.attrs)) (hpa2:y.proxies.length≤pc2) (hRp2:RS I pa2 1 y.proxies.length (y.proxies.map S)) (As:List Xe) (hS:Sat B w I As) :
  Calls Tryz.prog 22 [.agg (List.toArray [S x.user,.slice ka1 x.attrs.length kc1,.slice pa1 x.proxies.length pc1,S x.iou]),.agg (List.toArray [S y.user,.slice ka2 y.attrs.length kc2,.slice pa2 y.proxies.length pc2,S y.iou])].toArray w (Ret fun v w'=>v=.bool (Xqj x y)∧Sat B w' I As):=by
 refine calls Tryz.func22 rfl Tryz.ntmps22 rfl (.seq (.region (.boxA (cs:=[_,_,_,_]) hS (.of rfl) rfl ?_)))
 clear hS; intro b2 w hS
 refine .boxA (cs:=[_,_,_,_]) hS (.of rfl) rfl ?_
 clear hS; intro b3 w hS
 refine .q 1 rfl (.nil (.seq (.region ?_)))
 refine WL.val (.fieldAddr 0 (.of rfl) Xkv rfl rfl Qs9 rfl) rfl ?_
 refine WL.val (.ld (.of rfl) hS (k:=1) rfl Qg9 rfl) rfl ?_
 refine WL.val (.fieldAddr 0 (.of rfl) Xkv rfl rfl Qs9 rfl) rfl ?_
 refine WL.val (.ld (.of rfl) hS (k:=0) rfl Qg9 rfl) rfl ?_
 refine .q 2 rfl ?_
 refine WL.gval rfl rfl (fun hg1=>(by exact .fieldAddr 3 (.of rfl) Xkv rfl rfl Qs9 rfl)) rfl ?_
 refine WL.gval rfl rfl (fun hg1=>(by exact (.ld (.gd hg1 rfl) hS (k:=1) rfl Qg9 rfl))) rfl ?_
 refine WL.gval rfl rfl (fun hg1=>(by exact .fieldAddr 3 (.of rfl) Xkv rfl rfl Qs9 rfl)) rfl ?_
 refine WL.gval rfl rfl (fun hg1=>(by exact (.ld (.gd hg1 rfl) hS (k:=0) rfl Qg9 rfl))) rfl ?_
 refine .gval rfl rfl (fun hg1=>(.eqs (.gd hg1 rfl) (.gd hg1 rfl))) rfl (.val (.pand (.of rfl) (.of rfl) (.of rfl)) rfl (.q 1 rfl ?_))
 refine WL.gval rfl rfl (fun hg1=>(by exact .fieldAddr 1 (.of rfl) Xkv rfl rfl Xcv rfl)) rfl ?_
 refine WL.gval rfl rfl (fun hg1=>(by exact (.ld (.gd hg1 rfl) hS (k:=1) rfl Xdj rfl))) rfl ?_
 refine WL.gval rfl rfl (fun hg1=>(by exact .fieldAddr 1 (.of rfl) Xkv rfl rfl Xcv rfl)) rfl ?_
 refine WL.gval rfl rfl (fun hg1=>(by exact (.ld (.gd hg1 rfl) hS (k:=0) rfl Xdj rfl))) rfl ?_
 refine .gcall (T:=fun w=>Sat B w I (blk b3 [S y.user,.slice ka2 y.attrs.length kc2,.slice pa2 y.proxies.length pc2,S y.iou] 56::blk b2 [S x.user,.slice ka1 x.attrs.length kc1,.slice pa1 x.proxies.length pc1,S x.iou] 56::As)) rfl rfl rfl Tryz.func66 rfl (fun hg1=>(X0 (.gd hg1 rfl) (X0 (.gd hg1 rfl) X4))) rfl (fun hg1=>Xhk ka1 ka2 kc1 kc2 x.attrs y.attrs hxl.1 B _ I hRa1 hRa2 _ hS) hS ?_
 clear hS; rintro w hS
 refine .val (.pand (.of rfl) (.of rfl) (.of rfl)) rfl (.q 1 rfl ?_)
 refine WL.gval rfl rfl (fun hg1=>(by exact .fieldAddr 2 (.of rfl) Xkv rfl rfl Xeo rfl)) rfl ?_
 refine WL.gval rfl rfl (fun hg1=>(by exact (.ld (.gd hg1 rfl) hS (k:=1) rfl Xie rfl))) rfl ?_
 refine WL.gval rfl rfl (fun hg1=>(by exact .fieldAddr 2 (.of rfl) Xkv rfl rfl Xeo rfl)) rfl ?_
 refine WL.gval rfl rfl (fun hg1=>(by exact (.ld (.gd hg1 rfl) hS (k:=0) rfl Xie rfl))) rfl ?_
 refine .gcall (T:=fun w=>Sat B w I (blk b3 [S y.user,.slice ka2 y.attrs.length kc2,.slice pa2 y.proxies.length pc2,S y.iou] 56::blk b2 [S x.user,.slice ka1 x.attrs.length kc1,.slice pa1 x.proxies.length pc1,S x.iou] 56::As)) rfl rfl rfl Tryz.func30 rfl (fun hg1=>(X0 (.gd hg1 rfl) (X0 (.gd hg1 rfl) X4))) rfl (fun hg1=>Xct pa1 pa2 pc1 pc2 x.proxies y.proxies hpa1 hpa2 hxl.2 B _ I hRp1 hRp2 _ hS) hS ?_
 clear hS; rintro w hS
 refine .val (.pand (.of rfl) (.of rfl) (.of rfl)) rfl (.q 1 rfl (.nil (.ret (Xh Tryz.results22 rfl ?_))))
 exact ⟨_,rfl,rfl,(hS.drop (k:=0) rfl).drop (k:=0) rfl⟩
def SlT (B:World) (I:Im) (size n:Nat) (xs:List Value) (G:Prop) (As:List Xe) (v:Value) (w:World):Prop:=∃ J ra rc,v=.slice ra n rc∧Le I J∧(G→n≤rc∧RS J ra size n xs)∧Sat B w J As
theorem Xgy {J:Im} {p:Wp} (hI:WpOk J p) {ω:Wd} (hω:X7t ω) (q:Qr):(Xd p.lo p.us p.ps ω q).attrs.length≤9223372036854775807∧(Xd p.lo p.us p.ps ω q).proxies.length≤140737488355328:=by
 unfold Xd
 split
 ·exact ⟨Yq _,Yq _⟩
 ·dsimp only
  constructor
  ·have h1:=X75 (rel:=(Xc p.lo (Xf p.ps ω q).1.1.service).1.rel) (Xoq hI.att (Xf p.ps ω q).1.1.user)
   have h2:(Xc p.lo (Xf p.ps ω q).1.1.service).1.rel.length≤1000000:=by
    rcases X9d p.lo (Xf p.ps ω q).1.1.service with e | e
    ·rw [e]; decide
    ·exact hI.rel _ e
   unfold X1n
   omega
  ·have h1:=X45 (X76 (ps:=p.ps) hω q).wf (Xf p.ps ω q).1.1.name
   have h2:=(X76 (ps:=p.ps) hω q).len
   unfold Xx
   rw [Yz]
   have h3:=Y2b (fun r:Rec=>(r.kind:Int) == 4) (path (Xf p.ps ω q).2.l (Xf p.ps ω q).1.1.name)
   omega
set_option maxRecDepth 20000 in
set_option maxHeartbeats 1600000 in
theorem X6o (c:Cf) (a:Option Addr) (cap:Nat) (ua:Option Addr) (ucap:Nat) (la:Option Addr) (lc:Nat) (l:List Rec) (hll:l.length≤9223372036854775807) (qa:Option Addr) (qc:Nat) (asks:List Qr) (hql:asks.length≤9223372036854775807) (now e:Int) (B w:World) (I:Im) (hK:Known I) (hP:PreAt I) (hC:CfAt I c a cap ua ucap) (hR:RS I la 10 l.length (Xy X7 l)) (hQ:RS I qa 4 asks.length (Xy X29 asks)) (As:List Xe) (hS:Sat B w I As) :
  Calls Tryz.prog 6 [.agg (Xz c a cap ua ucap).toArray,.slice la l.length lc,I64 now,.slice qa asks.length qc,I64 e].toArray w (Ret fun v w'=>v=.bool true∧∃ J,Le I J∧Sat B w' J As):=by
 refine calls Tryz.func6 rfl Tryz.ntmps6 rfl (.seq (.region (.boxA (cs:=Xz c a cap ua ucap) hS (.of rfl) rfl ?_)))
 clear hS; intro b5 w hS
 refine .q 1 rfl (.nil (.seq (.region (.call Tryz.func13 rfl X4 rfl (Xdp B _ I hK hP _ hS) ?_))))
 clear hS
 rintro _ w ⟨rfl,hS⟩
 refine .q 1 rfl (.nil (.seq (.region ?_)))
 refine WL.val (.lds (vs:=Xz c a cap ua ucap) (.of rfl) hS (k:=0) rfl Xr3 Xl3 rfl (fun j v hj=>by rw [Yc]; exact hj)) rfl ?_
 refine .q 2 rfl (.call Tryz.func15 rfl (X0 (.of rfl) (X0 (.of rfl) (X0 (.of rfl) X4))) rfl (Xik c a cap ua ucap la lc l hll qa qc asks hql B _ I hC hR hQ _ hS) ?_)
 clear hS
 rintro _ w ⟨rfl,hS⟩
 refine .q 1 rfl (.nil (.seq (.seq (.q 2 rfl ?_))))
 refine WC.cond rfl (fun hb27=>?_) (fun hb27=>?_)
 ·
  have hc27:=hb27; try simp only [Y6] at hc27
  refine .seq (.q 2 rfl (.ret (Xh Tryz.results6 rfl ?_)))
  exact ⟨_,rfl,rfl,I,Le.refl _,hS.drop (k:=0) rfl⟩
 have hc27:=hb27; try simp only [Y6] at hc27
 refine .skip (.seq ?_)
 have hfw:=Xdx (show Xdo c l asks=true by simpa using hb27)
 have hfw1:=hfw.1
 have hfw2:=hfw.2.1
 refine .region ?_
 refine WL.val (.lds (vs:=Xz c a cap ua ucap) (.of rfl) hS (k:=0) rfl Xr3 Xl3 rfl (fun j v hj=>by rw [Yc]; exact hj)) rfl ?_
 refine .q 2 rfl (.call Tryz.func16 rfl (X0 (.of rfl) (X0 (.of rfl) (X0 (.of rfl) X4))) rfl (Xgf c a cap ua ucap (X8z hC hfw1) la lc l hll hfw2 now B _ I (hK) (hP) (hC) (hR) _ hS) ?_)
 clear hS
 rintro _ w ⟨J,pv,hJ,rfl,hcs⟩
 rcases hcs with ⟨hne,rfl,hS⟩ | ⟨hz,p,D,hD,hlo,hus,hps,rfl,hI,hS⟩
 ·
  refine .val (.assign (.of rfl)) rfl (.nil (.seq (.region ?_)))
  refine WL.val (.lds (vs:=Xz c a cap ua ucap) (.of rfl) hS (k:=0) rfl Xr3 Xl3 rfl (fun j v hj=>by rw [Yc]; exact hj)) rfl ?_
  have hc:=X8z hC hfw1
  refine .call Tryz.func24 rfl (X0 (.of rfl) X4) rfl (X97 c hc a cap ua ucap B _ J (hC.mono hJ) _ hS) ?_
  clear hS
  rintro v w hn
  obtain ⟨_,rfl,hS⟩:=hn.resolve_right (fun h=>hne h.1)
  refine .q 5 rfl (.nil (.seq (.seq (.t 1 rfl (.val (.eqp (.of rfl) (.of rfl) Qu39) rfl (.q 1 rfl (.gval rfl rfl (fun hg1=>(.move (.of rfl))) rfl (.gval rfl rfl (fun hg1=>(.eqp (.gd hg1 rfl) (.of rfl) Qu71)) rfl (.val (.por (.of rfl) (.of rfl) (.of rfl)) rfl (.nil (.condT (congrArg (fun b=>some (Value.bool b)) (by simp)) (.seq (.t 2 rfl (.gval rfl rfl (fun hg1=>(.move (.of rfl))) rfl (.gval rfl rfl (fun hg1=>(.eqp (.gd hg1 rfl) (.of rfl) Qu39)) rfl (.val (.pand (.of rfl) (.of rfl) (.of rfl)) rfl (.q 1 rfl (.gval rfl rfl (fun hg1=>(.move (.of rfl))) rfl (.gval rfl rfl (fun hg1=>(.eqp (.gd hg1 rfl) (.of rfl) Qu71)) rfl (.val (.pand (.of rfl) (.of rfl) (.of rfl)) rfl (.q 1 rfl (.nil (.ret (Xh Tryz.results6 rfl ?_))))))))))))))))))))))))
  exact ⟨_,rfl,by simp,J,hJ,hS.drop (k:=0) rfl⟩
 refine .val (.assign (.of rfl)) rfl (.nil (.seq (.region ?_)))
 refine WL.val (.lds (vs:=Xz c a cap ua ucap) (.of rfl) hS (k:=1) rfl Xr3 Xl3 rfl (fun j v hj=>by rw [Yc]; exact hj)) rfl ?_
 have hc:=X8z hC hfw1
 refine .call Tryz.func24 rfl (X0 (.of rfl) X4) rfl (X97 c hc a cap ua ucap B _ J (hC.mono hJ) _ hS) ?_
 clear hS
 rintro v w hn
 obtain ⟨_,xb,tb,rfl,hS⟩:=hn.resolve_left (fun h=>h.1 hz)
 obtain ⟨x,hx9⟩:∃ x:Xp,x=⟨xb,tb,c,a,cap,ua,ucap,D⟩:=⟨_,rfl⟩
 have hX:XpOk J x p.lo p.us p.ps:=by rw [hx9]; exact ⟨hC.mono hJ,hc,hz,hD,hlo,hus,hps⟩
 rw [show ptr xb 0=ptr x.xb 0 by rw [hx9]]
 replace hS:Sat B w J (blk x.xb (XC x none (w0 c).D.length 0 (w0 c).now) 83::blk x.tb [I64 (w0 c).room,.slice none (w0 c).l.length 0] 79::wdA p (Xl9 c l now)::blk b5 (Xz c a cap ua ucap) 34::As):=by rw [hx9]; exact hS
 have hM0:RwM J none none 0 (w0 c):=⟨RS.nil _ _,RS.nil _ _,Yu _⟩
 refine .q 5 rfl (.nil (.seq (.seq (.t 1 rfl (.val (.eqp (.of rfl) (.of rfl) Qu39) rfl (.q 1 rfl (.gval rfl rfl (fun hg1=>(.move (.of rfl))) rfl (.gval rfl rfl (fun hg1=>(.eqp (.gd hg1 rfl) (.of rfl) Qu71)) rfl (.val (.por (.of rfl) (.of rfl) (.of rfl)) rfl (.nil (.condF (congrArg (fun b=>some (Value.bool b)) (by simp)) (.skip (.seq (.t 2 rfl (.call Tryz.func25 rfl (X0 (.of rfl) (X0 (.of rfl) X4)) rfl (Xdd la lc l hll hfw2 x (w0 c) (Xep c) none 0 none 0 B _ J hX (hR.mono hJ) hM0 _ ((hS.pick 1 rfl).pick 1 rfl)) ?_)))))))))))))))
 clear hS
 rintro _ w ⟨rfl,J2,xa,xc,da,dc,hJ2,hM2,hS⟩
 try dsimp only [List.eraseIdx] at hS
 refine .nil (.seq (.t 2 rfl (.call Tryz.func26 rfl (X0 (.of rfl) (X0 (.of rfl) X4)) rfl (Xf7 now x (l.foldl X37 (w0 c)) (X54 l (Xep c)) xa xc da dc B _ J2 (hX.mono hJ2) hM2 _ ((hS.pick 1 rfl).pick 1 rfl)) ?_)))
 clear hS
 rintro _ w ⟨rfl,hS⟩
 try dsimp only [List.eraseIdx] at hS
 refine .nil (.seq (.seq (.q 1 rfl (.block ?_))))
 replace hS:=((hS.pick 2 rfl))
 try dsimp only [List.eraseIdx] at hS
 refine .loop (σ:=Wd×Nat×Option Addr×Nat×Option Addr×Nat×Im) (fun ⟨ω,i,xa,xc,da,dc,J3⟩=>[(3,.slice qa asks.length qc),(4,I64 e),(5,ptr b5 0),(11,.bool true),(13,ptr p.wb 0),(14,ptr x.xb 0),(16,I64 (i:Nat))]) (fun ⟨ω,i,xa,xc,da,dc,J3⟩ w=>i≤asks.length∧Le J J3∧X7t ω∧RwM J3 xa da dc ω∧Sat B w J3 (wdA p ω::blk x.xb (XC x da ω.D.length dc ω.now) 83::blk x.tb [I64 ω.room,.slice xa ω.l.length xc] 79::blk b5 (Xz c a cap ua ucap) 34::As)) (fun ⟨ω,i,xa,xc,da,dc,J3⟩=>asks.length - i) ((Xl9 c l now),0,xa,xc,da,dc,J2) ⟨rfl,rfl,rfl,rfl,rfl,rfl,rfl,trivial⟩ ⟨Yq _,hJ2,Xld c l now,hM2,hS⟩ ?_
 rintro ⟨ω,i,xa,xc,da,dc,J3⟩ w ⟨hi,hJ3,hω,hM,hS⟩
 change WC _ _ _ _ [(3,.slice qa asks.length qc),(4,I64 e),(5,ptr b5 0),(11,.bool true),(13,ptr p.wb 0),(14,ptr x.xb 0),(16,I64 (i:Nat))] w
 refine .seq (.seq (.region (.run 4 rfl ⟨⟨_,Xlf⟩,trivial⟩ (.nil ?_))))
 refine WC.cond rfl (fun hb62=>?_) (fun hb62=>?_)
 ·
  have hc62:=hb62; try simp only [Y6] at hc62
  refine .skip (.seq (.block (.seq ?_)))
  obtain ⟨q,hq0⟩:∃ q,asks[i]?=some q:=⟨_,Y4 (by omega)⟩
  obtain ⟨qp,hq9,hq⟩:=X4d (cells:=X29) (s:=4) (fun _=>rfl) (hQ.mono (hJ.trans hJ3)) hq0
  have hqf:=hfw.2.2.2.2 q (Yl hq0)
  subst hq9
  refine .t 3 rfl ?_
  refine WL.val (.indexAddrI (.of rfl) (.of rfl) (by omega) (by omega) Xlf Xmk) rfl ?_
  refine .val (.ldsI (.of rfl) hS hq Tryz.isAgg43 Xmk rfl (fun _ _ h=>h)) rfl ?_
  unfold X29
  refine .call Qf18 rfl (X0 (.of rfl) (X0 (.of rfl) X4)) rfl (X6x q (by omega) (by omega) p ω hω B _ J3 (hI.mono hJ3) _ hS) ?_
  clear hS
  rintro _ w ⟨Ja,_,hJa,rfl,⟨ka1,kc1,pa1,pc1,rfl,hka1,hRa1,hpa1,hRp1⟩,hS⟩
  try dsimp only [List.eraseIdx] at hS
  refine .q 3 rfl (.allocA (cs:=[_,_,_,_]) hS Xod rfl ?_)
  clear hS; intro b17 w hS
  refine WL.stA hS (k:=0) rfl (.of rfl) (.of rfl) rfl X4i rfl (by simp) ?_
  clear hS; intro w hS; try dsimp only [List.set] at hS
  try simp only [Yh,Yd,Y9,Y7,Yg,Ym,Yc] at hS
  refine .q 1 rfl (.nil (.seq (.t 3 rfl ?_)))
  refine WL.val (.indexAddrI (.of rfl) (.of rfl) (by omega) (by omega) Xlf Xmk) rfl ?_
  refine .val (.ldsI (.of rfl) hS (hq.mono hJa) Tryz.isAgg43 Xmk rfl (fun _ _ h=>h)) rfl ?_
  unfold X29
  refine .call Tryz.func27 rfl (X0 (.of rfl) (X0 (.of rfl) X4)) rfl (Xcb q (by omega) (by omega) x ω hω xa xc da dc B _ Ja (hX.mono (hJ3.trans hJa)) (hM.mono hJa) _ ((hS.pick 3 rfl).pick 3 rfl)) ?_
  clear hS
  rintro _ w ⟨Jb,_,xa2,xc2,da2,dc2,hJb,rfl,⟨ka2,kc2,pa2,pc2,rfl,hka2,hRa2,hpa2,hRp2⟩,hM2,hS⟩
  try dsimp only [List.eraseIdx] at hS
  refine .q 3 rfl (.allocA (cs:=[_,_,_,_]) hS Xod rfl ?_)
  clear hS; intro b19 w hS
  refine WL.stA hS (k:=0) rfl (.of rfl) (.of rfl) rfl X4i rfl (by simp) ?_
  clear hS; intro w hS; try dsimp only [List.set] at hS
  try simp only [Yh,Yd,Y9,Y7,Yg,Ym,Yc] at hS
  refine .q 1 rfl (.nil (.seq ?_))
  replace hS:=(hS.pick 4 rfl)
  try dsimp only [List.eraseIdx] at hS
  obtain ⟨⟨a5,c5,ma5,mc5⟩,hS⟩:=Sat.unbox hS
  replace hS:Sat B _ _ (blk p.wb (wdC p (Xf p.ps ω q).2) 52::blk p.tb [I64 (Xf p.ps ω q).2.room,.slice a5 (Xf p.ps ω q).2.l.length c5] 127::Vec 45 10 (.slice a5 (Xf p.ps ω q).2.l.length c5) (Xf p.ps ω q).2.l.length (Xv (Xf p.ps ω q).2.l)::blk p.mb [.slice ma5 (Xf p.ps ω q).2.D.length mc5] 168::Xit 118 (.slice ma5 (Xf p.ps ω q).2.D.length mc5) ((Xf p.ps ω q).2.D.map fun d=>U64 (d:Nat))::_):=hS
  have hω2:=X76 (ps:=p.ps) hω q
  have hlen2:=hω2.len
  have hwf2:=hω2.wf
  have hxl:=Xgy (hI.mono hJ3) hω q
  replace hq:=hq.mono (hJa.trans hJb)
  unfold X29 at hq
  refine .drawn (fun w=>∃ J9 R,Le Jb J9∧Sat B w J9 (blk p.wb (wdC p (Xf p.ps ω q).2) 52::blk x.xb (XC x da2 (Xf p.ps ω q).2.D.length dc2 (Xf p.ps ω q).2.now) 83::blk x.tb [I64 (Xf p.ps ω q).2.room,.slice xa2 (Xf p.ps ω q).2.l.length xc2] 79::blk b17 [S (Xd p.lo p.us p.ps ω q).user,.slice ka1 (Xd p.lo p.us p.ps ω q).attrs.length kc1,.slice pa1 (Xd p.lo p.us p.ps ω q).proxies.length pc1,S (Xd p.lo p.us p.ps ω q).iou] 56::blk b19 [S (Xd p.lo p.us p.ps ω q).user,.slice ka2 (Xd p.lo p.us p.ps ω q).attrs.length kc2,.slice pa2 (Xd p.lo p.us p.ps ω q).proxies.length pc2,S (Xd p.lo p.us p.ps ω q).iou] 56::R)) (fun j=>!([].contains j)) (by kernel_rfl) ?_
  replace hS:=hS.drew; generalize w.drew=w at hS ⊢
  have hH:∃ J9 R,Le Jb J9∧Sat B w J9 (blk p.wb (wdC p (Xf p.ps ω q).2) 52::blk x.xb (XC x da2 (Xf p.ps ω q).2.D.length dc2 (Xf p.ps ω q).2.now) 83::blk x.tb [I64 (Xf p.ps ω q).2.room,.slice xa2 (Xf p.ps ω q).2.l.length xc2] 79::blk b17 [S (Xd p.lo p.us p.ps ω q).user,.slice ka1 (Xd p.lo p.us p.ps ω q).attrs.length kc1,.slice pa1 (Xd p.lo p.us p.ps ω q).proxies.length pc1,S (Xd p.lo p.us p.ps ω q).iou] 56::blk b19 [S (Xd p.lo p.us p.ps ω q).user,.slice ka2 (Xd p.lo p.us p.ps ω q).attrs.length kc2,.slice pa2 (Xd p.lo p.us p.ps ω q).proxies.length pc2,S (Xd p.lo p.us p.ps ω q).iou] 56::R):=⟨_,_,Le.refl _,(((((hS.pick 5 rfl).pick 8 rfl).pick 8 rfl).pick 8 rfl).pick 4 rfl)⟩
  refine .tp (i:=0) rfl (by kernel_rfl) (fun w=>(.move (.of rfl))) rfl (.tp (i:=1) rfl (by kernel_rfl) (fun w=>(.move (.of rfl))) rfl (.tp (i:=2) rfl (by kernel_rfl) (fun w=>(.neq (.of rfl) (.of rfl))) rfl (.tp (i:=3) rfl (by kernel_rfl) (fun w=>(.move (.of rfl))) rfl ?_)))
  refine WD.tg (i:=4) rfl (by kernel_rfl) hH rfl rfl (fun hg1 w ⟨J9,R,hL9,hS⟩=>((.ldsW (cs:=[_,_,_,_]) (.of rfl) hS (k:=3) rfl Xbq X4i rfl))) rfl ?_
  refine WD.tg (i:=5) rfl (by kernel_rfl) hH rfl rfl (fun hg1 w ⟨J9,R,hL9,hS⟩=>((.ldsW (cs:=[_,_,_,_]) (.of rfl) hS (k:=4) rfl Xbq X4i rfl))) rfl ?_
  refine WD.branch [6] (by kernel_rfl) rfl (WO.cons rfl ?_ (WO.nil))
  refine .gcall (T:=fun w=>Sat B w Jb _) rfl rfl rfl Tryz.func22 rfl (fun hg1=>(X0 (.gd hg1 rfl) (X0 (.gd hg1 rfl) X4))) rfl (fun hg1=>Xi5 (Xd p.lo p.us p.ps ω q) (Xd p.lo p.us p.ps ω q) ka1 pa1 ka2 pa2 kc1 pc1 kc2 pc2 hxl B _ Jb hka1 (hRa1.mono hJb) hpa1 (hRp1.mono hJb) hka2 hRa2 hpa2 hRp2 _ hS) hS ?_
  clear hS; rintro w hS
  refine .nil ?_
  clear hH
  have hH:∃ J9 R,Le Jb J9∧Sat B w J9 (blk p.wb (wdC p (Xf p.ps ω q).2) 52::blk x.xb (XC x da2 (Xf p.ps ω q).2.D.length dc2 (Xf p.ps ω q).2.now) 83::blk x.tb [I64 (Xf p.ps ω q).2.room,.slice xa2 (Xf p.ps ω q).2.l.length xc2] 79::blk b17 [S (Xd p.lo p.us p.ps ω q).user,.slice ka1 (Xd p.lo p.us p.ps ω q).attrs.length kc1,.slice pa1 (Xd p.lo p.us p.ps ω q).proxies.length pc1,S (Xd p.lo p.us p.ps ω q).iou] 56::blk b19 [S (Xd p.lo p.us p.ps ω q).user,.slice ka2 (Xd p.lo p.us p.ps ω q).attrs.length kc2,.slice pa2 (Xd p.lo p.us p.ps ω q).proxies.length pc2,S (Xd p.lo p.us p.ps ω q).iou] 56::R):=⟨_,_,Le.refl _,(((((hS.pick 5 rfl).pick 8 rfl).pick 8 rfl).pick 8 rfl).pick 4 rfl)⟩
  refine And.intro (by intro _ _; exact hH) ?_
  refine .tg (i:=7) rfl (by kernel_rfl) hH rfl rfl (fun hg1 w ⟨J9,R,hL9,hS⟩=>(.not (.gd hg1 rfl))) rfl (.tp (i:=8) rfl (by kernel_rfl) (fun w=>(.por (.of rfl) (.of rfl) (.of rfl))) rfl (.tp (i:=9) rfl (by kernel_rfl) (fun w=>(.move (.of rfl))) rfl (.tg (i:=10) rfl (by kernel_rfl) hH rfl rfl (fun hg1 w ⟨J9,R,hL9,hS⟩=>(.move (.of rfl))) rfl (.tg (i:=11) rfl (by kernel_rfl) hH rfl rfl (fun hg1 w ⟨J9,R,hL9,hS⟩=>(.nilCheck (.gd hg1 rfl))) rfl ?_))))
  refine WD.tg (i:=12) rfl (by kernel_rfl) hH rfl rfl (fun hg1 w ⟨J9,R,hL9,hS⟩=>(.fieldAddr 0 (.gd hg1 rfl) Xc2 rfl rfl Xkw rfl)) rfl ?_
  refine WD.tg (i:=13) rfl (by kernel_rfl) hH rfl rfl (fun hg1 w ⟨J9,R,hL9,hS⟩=>((.ld (.gd hg1 rfl) hS (k:=0) rfl Xkx rfl))) rfl ?_
  refine .tg (i:=15) rfl (by kernel_rfl) hH rfl rfl (fun hg1 w ⟨J9,R,hL9,hS⟩=>(.move (.of rfl))) rfl (.tg (i:=16) rfl (by kernel_rfl) hH rfl rfl (fun hg1 w ⟨J9,R,hL9,hS⟩=>(.nilCheck (.gd hg1 rfl))) rfl ?_)
  refine WD.tg (i:=17) rfl (by kernel_rfl) hH rfl rfl (fun hg1 w ⟨J9,R,hL9,hS⟩=>(.fieldAddr 28 (.gd hg1 rfl) Xf0 rfl rfl Xpq rfl)) rfl ?_
  refine WD.tg (i:=18) rfl (by kernel_rfl) hH rfl rfl (fun hg1 w ⟨J9,R,hL9,hS⟩=>((.ld (.gd hg1 rfl) hS (k:=1) rfl Xox rfl))) rfl ?_
  refine .tg (i:=19) rfl (by kernel_rfl) hH rfl rfl (fun hg1 w ⟨J9,R,hL9,hS⟩=>(.nilCheck (.gd hg1 rfl))) rfl ?_
  refine WD.tg (i:=20) rfl (by kernel_rfl) hH rfl rfl (fun hg1 w ⟨J9,R,hL9,hS⟩=>(.fieldAddr 1 (.gd hg1 rfl) Xdk rfl rfl X61 rfl)) rfl ?_
  refine WD.tg (i:=21) rfl (by kernel_rfl) hH rfl rfl (fun hg1 w ⟨J9,R,hL9,hS⟩=>((.ld (.gd hg1 rfl) hS (k:=2) rfl Xbz rfl))) rfl ?_
  refine WD.branch [14] (by kernel_rfl) rfl (WO.cons rfl ?_ (WO.nil))
  refine .ecall (T:=SlT B Jb 10 (Xf p.ps ω q).2.l.length (Xv (Xf p.ps ω q).2.l) _ _) (v0:=.slice none (Xf p.ps ω q).2.l.length 0) rfl rfl rfl Tryz.func29 rfl (fun hg1=>(X0 (.gd hg1 rfl) X4)) rfl (fun hg1=>(Xer p.tb (Xf p.ps ω q).2.room a5 c5 (Xf p.ps ω q).2.l (by omega) B _ Jb _ ((hS.pick 2 rfl).pick 2 rfl)).mono fun e w' ⟨v,he,J9,ra,rc,hv,hJ9,hrc,hR9,hS⟩=>⟨v,he,J9,ra,rc,hv,hJ9,fun _=>⟨hrc,hR9⟩,((((((((((hS.pick 9 rfl).pick 9 rfl).pick 9 rfl).pick 9 rfl).pick 9 rfl).pick 9 rfl).pick 9 rfl).pick 8 rfl).pick 8 rfl).pick 9 rfl)⟩) (fun hne=>⟨Jb,none,0,rfl,Le.refl _,fun h=>absurd h hne,hS⟩) ?_
  clear hS
  rintro v97 w ⟨J5,wa,wc,rfl,hJ5,hG5,hS⟩
  refine .nil ?_
  clear hH
  have hH:∃ J9 R,Le Jb J9∧Sat B w J9 (blk p.wb (wdC p (Xf p.ps ω q).2) 52::blk x.xb (XC x da2 (Xf p.ps ω q).2.D.length dc2 (Xf p.ps ω q).2.now) 83::blk x.tb [I64 (Xf p.ps ω q).2.room,.slice xa2 (Xf p.ps ω q).2.l.length xc2] 79::blk b17 [S (Xd p.lo p.us p.ps ω q).user,.slice ka1 (Xd p.lo p.us p.ps ω q).attrs.length kc1,.slice pa1 (Xd p.lo p.us p.ps ω q).proxies.length pc1,S (Xd p.lo p.us p.ps ω q).iou] 56::blk b19 [S (Xd p.lo p.us p.ps ω q).user,.slice ka2 (Xd p.lo p.us p.ps ω q).attrs.length kc2,.slice pa2 (Xd p.lo p.us p.ps ω q).proxies.length pc2,S (Xd p.lo p.us p.ps ω q).iou] 56::R):=⟨_,_,hJ5,(((((hS.pick 5 rfl).pick 8 rfl).pick 8 rfl).pick 8 rfl).pick 4 rfl)⟩
  refine And.intro (by intro _ _; exact hH) ?_
  refine WD.branch [22] (by kernel_rfl) rfl (WO.cons rfl ?_ (WO.nil))
  refine .gcall (T:=fun w=>Sat B w J5 _) rfl rfl rfl Tryz.func28 rfl (fun hg1=>(X0 (.gd hg1 rfl) (X0 (.gd hg1 rfl) X4))) rfl (fun hg1=>Xcl wa xa2 wc xc2 (Xf p.ps ω q).2.l (Xf p.ps ω q).2.l (by omega) B _ J5 (hG5 hg1).2 (hM2.1.mono hJ5) _ hS) hS ?_
  clear hS; rintro w hS
  refine .nil ?_
  clear hH
  have hH:∃ J9 R,Le Jb J9∧Sat B w J9 (blk p.wb (wdC p (Xf p.ps ω q).2) 52::blk x.xb (XC x da2 (Xf p.ps ω q).2.D.length dc2 (Xf p.ps ω q).2.now) 83::blk x.tb [I64 (Xf p.ps ω q).2.room,.slice xa2 (Xf p.ps ω q).2.l.length xc2] 79::blk b17 [S (Xd p.lo p.us p.ps ω q).user,.slice ka1 (Xd p.lo p.us p.ps ω q).attrs.length kc1,.slice pa1 (Xd p.lo p.us p.ps ω q).proxies.length pc1,S (Xd p.lo p.us p.ps ω q).iou] 56::blk b19 [S (Xd p.lo p.us p.ps ω q).user,.slice ka2 (Xd p.lo p.us p.ps ω q).attrs.length kc2,.slice pa2 (Xd p.lo p.us p.ps ω q).proxies.length pc2,S (Xd p.lo p.us p.ps ω q).iou] 56::R):=⟨_,_,hJ5,(((((hS.pick 5 rfl).pick 8 rfl).pick 8 rfl).pick 8 rfl).pick 4 rfl)⟩
  refine And.intro (by intro _ _; exact hH) ?_
  refine .tg (i:=23) rfl (by kernel_rfl) hH rfl rfl (fun hg1 w ⟨J9,R,hL9,hS⟩=>(.not (.gd hg1 rfl))) rfl (.tp (i:=24) rfl (by kernel_rfl) (fun w=>(.por (.of rfl) (.of rfl) (.of rfl))) rfl (.tp (i:=25) rfl (by kernel_rfl) (fun w=>(.move (.of rfl))) rfl (.tg (i:=26) rfl (by kernel_rfl) hH rfl rfl (fun hg1 w ⟨J9,R,hL9,hS⟩=>(.move (.of rfl))) rfl (.tg (i:=27) rfl (by kernel_rfl) hH rfl rfl (fun hg1 w ⟨J9,R,hL9,hS⟩=>(.move (.of rfl))) rfl (.tg (i:=28) rfl (by kernel_rfl) hH rfl rfl (fun hg1 w ⟨J9,R,hL9,hS⟩=>(.move (.of rfl))) rfl ?_)))))
  refine WD.tg (i:=29) rfl (by kernel_rfl) hH rfl rfl (fun hg1 w ⟨J9,R,hL9,hS⟩=>(.indexAddrI (.gd hg1 rfl) (.gd hg1 rfl) (by (try simp only [Y6] at hg1); omega) (by (try simp only [Y6] at hg1); omega) Xlf Xmk)) rfl ?_
  refine WD.tg (i:=30) rfl (by kernel_rfl) hH rfl rfl (fun hg1 w ⟨J9,R,hL9,hS⟩=>(.fieldAddrI 0 (.gd hg1 rfl) Xag rfl rfl Qs9 rfl)) rfl ?_
  refine WD.tg (i:=31) rfl (by kernel_rfl) hH rfl rfl (fun hg1 w ⟨J9,R,hL9,hS⟩=>((.ldI (.gd hg1 rfl) hS (At.add (hq.mono hL9) _) Qg9 rfl))) rfl ?_
  refine .tg (i:=33) rfl (by kernel_rfl) hH rfl rfl (fun hg1 w ⟨J9,R,hL9,hS⟩=>(.move (.of rfl))) rfl (.tg (i:=34) rfl (by kernel_rfl) hH rfl rfl (fun hg1 w ⟨J9,R,hL9,hS⟩=>(.move (.of rfl))) rfl (.tg (i:=35) rfl (by kernel_rfl) hH rfl rfl (fun hg1 w ⟨J9,R,hL9,hS⟩=>(.move (.of rfl))) rfl ?_))
  refine WD.tg (i:=36) rfl (by kernel_rfl) hH rfl rfl (fun hg1 w ⟨J9,R,hL9,hS⟩=>(.indexAddrI (.gd hg1 rfl) (.gd hg1 rfl) (by (try simp only [Y6] at hg1); omega) (by (try simp only [Y6] at hg1); omega) Xlf Xmk)) rfl ?_
  refine WD.tg (i:=37) rfl (by kernel_rfl) hH rfl rfl (fun hg1 w ⟨J9,R,hL9,hS⟩=>(.fieldAddrI 0 (.gd hg1 rfl) Xag rfl rfl Qs9 rfl)) rfl ?_
  refine WD.tg (i:=38) rfl (by kernel_rfl) hH rfl rfl (fun hg1 w ⟨J9,R,hL9,hS⟩=>((.ldI (.gd hg1 rfl) hS (At.add (hq.mono hL9) _) Qg9 rfl))) rfl ?_
  refine WD.branch [32] (by kernel_rfl) rfl (WO.cons rfl ?_ (WO.nil))
  refine .ecall (T:=SlT B J5 1 (Xx (Xf p.ps ω q).2.l q.ticket).length ((Xx (Xf p.ps ω q).2.l q.ticket).map S) _ _) (v0:=.slice none (Xx (Xf p.ps ω q).2.l q.ticket).length 0) rfl rfl rfl Tryz.func31 rfl (fun hg1=>(X0 (.gd hg1 rfl) (X0 (.gd hg1 rfl) X4))) rfl (fun hg1=>(X91 p (Xf p.ps ω q).2 a5 c5 hlen2 hwf2 q.ticket B _ J5 _ (((hS.pick 2 rfl).pick 2 rfl).pick 2 rfl)).mono fun e w' ⟨v,he,J9,ra,rc,hv,hJ9,hrc,hR9,hS⟩=>⟨v,he,J9,ra,rc,hv,hJ9,fun _=>⟨hrc,hR9⟩,((((((((((hS.pick 9 rfl).pick 9 rfl).pick 9 rfl).pick 9 rfl).pick 9 rfl).pick 9 rfl).pick 9 rfl).pick 9 rfl).pick 9 rfl).pick 9 rfl)⟩) (fun hne=>⟨J5,none,0,rfl,Le.refl _,fun h=>absurd h hne,hS⟩) ?_
  clear hS
  rintro v115 w ⟨J7,pa7,pc7,rfl,hJ7,hG7,hS⟩
  refine .nil ?_
  clear hH
  have hH:∃ J9 R,Le Jb J9∧Sat B w J9 (blk p.wb (wdC p (Xf p.ps ω q).2) 52::blk x.xb (XC x da2 (Xf p.ps ω q).2.D.length dc2 (Xf p.ps ω q).2.now) 83::blk x.tb [I64 (Xf p.ps ω q).2.room,.slice xa2 (Xf p.ps ω q).2.l.length xc2] 79::blk b17 [S (Xd p.lo p.us p.ps ω q).user,.slice ka1 (Xd p.lo p.us p.ps ω q).attrs.length kc1,.slice pa1 (Xd p.lo p.us p.ps ω q).proxies.length pc1,S (Xd p.lo p.us p.ps ω q).iou] 56::blk b19 [S (Xd p.lo p.us p.ps ω q).user,.slice ka2 (Xd p.lo p.us p.ps ω q).attrs.length kc2,.slice pa2 (Xd p.lo p.us p.ps ω q).proxies.length pc2,S (Xd p.lo p.us p.ps ω q).iou] 56::R):=⟨_,_,(hJ5.trans hJ7),(((((hS.pick 5 rfl).pick 8 rfl).pick 8 rfl).pick 8 rfl).pick 4 rfl)⟩
  refine And.intro (by intro _ _; exact hH) ?_
  refine WD.branch [39] (by kernel_rfl) rfl (WO.cons rfl ?_ (WO.nil))
  refine .ecall (T:=SlT B J7 1 (Xx (Xf p.ps ω q).2.l q.ticket).length ((Xx (Xf p.ps ω q).2.l q.ticket).map S) _ _) (v0:=.slice none (Xx (Xf p.ps ω q).2.l q.ticket).length 0) rfl rfl rfl Tryz.func32 rfl (fun hg1=>(X0 (.gd hg1 rfl) (X0 (.gd hg1 rfl) X4))) rfl (fun hg1=>(X5c q.ticket x (Xf p.ps ω q).2 hω2 xa2 xc2 da2 dc2 B _ J7 (hX.mono (hJ3.trans (hJa.trans (hJb.trans (hJ5.trans hJ7))))) (hM2.mono (hJ5.trans hJ7)) _ ((hS.pick 7 rfl).pick 7 rfl)).mono fun e w' ⟨v,he,J9,ra,rc,hv,hJ9,hrc,hR9,hS⟩=>⟨v,he,J9,ra,rc,hv,hJ9,fun _=>⟨hrc,hR9⟩,((((((((((hS.pick 9 rfl).pick 9 rfl).pick 3 rfl).pick 3 rfl).pick 9 rfl).pick 9 rfl).pick 9 rfl).pick 9 rfl).pick 9 rfl).pick 9 rfl)⟩) (fun hne=>⟨J7,none,0,rfl,Le.refl _,fun h=>absurd h hne,hS⟩) ?_
  clear hS
  rintro v122 w ⟨J8,pa8,pc8,rfl,hJ8,hG8,hS⟩
  refine .nil ?_
  clear hH
  have hH:∃ J9 R,Le Jb J9∧Sat B w J9 (blk p.wb (wdC p (Xf p.ps ω q).2) 52::blk x.xb (XC x da2 (Xf p.ps ω q).2.D.length dc2 (Xf p.ps ω q).2.now) 83::blk x.tb [I64 (Xf p.ps ω q).2.room,.slice xa2 (Xf p.ps ω q).2.l.length xc2] 79::blk b17 [S (Xd p.lo p.us p.ps ω q).user,.slice ka1 (Xd p.lo p.us p.ps ω q).attrs.length kc1,.slice pa1 (Xd p.lo p.us p.ps ω q).proxies.length pc1,S (Xd p.lo p.us p.ps ω q).iou] 56::blk b19 [S (Xd p.lo p.us p.ps ω q).user,.slice ka2 (Xd p.lo p.us p.ps ω q).attrs.length kc2,.slice pa2 (Xd p.lo p.us p.ps ω q).proxies.length pc2,S (Xd p.lo p.us p.ps ω q).iou] 56::R):=⟨_,_,((hJ5.trans hJ7).trans hJ8),(((((hS.pick 5 rfl).pick 8 rfl).pick 8 rfl).pick 8 rfl).pick 4 rfl)⟩
  refine And.intro (by intro _ _; exact hH) ?_
  refine WD.branch [40] (by kernel_rfl) rfl (WO.cons rfl ?_ (WO.nil))
  refine WL.gcall (T:=fun w=>Sat B w J8 _) rfl rfl rfl Tryz.func30 rfl (fun hg1=>(X0 (.gd hg1 rfl) (X0 (.gd hg1 rfl) X4))) rfl (fun hg1=>Xct pa7 pa8 pc7 pc8 (Xx (Xf p.ps ω q).2.l q.ticket) (Xx (Xf p.ps ω q).2.l q.ticket) (hG7 hg1).1 (hG8 hg1).1 (by have h9:=X45 hwf2 q.ticket; unfold Xx; rw [Yz]; have h8:=Y2b (fun r:Rec=>(r.kind:Int) == 4) (path (Xf p.ps ω q).2.l q.ticket); omega) B _ J8 ((hG7 hg1).2.mono hJ8) (hG8 hg1).2 _ hS) hS ?_
  clear hS; rintro w hS
  refine .nil ?_
  clear hH
  have hH:∃ J9 R,Le Jb J9∧Sat B w J9 (blk p.wb (wdC p (Xf p.ps ω q).2) 52::blk x.xb (XC x da2 (Xf p.ps ω q).2.D.length dc2 (Xf p.ps ω q).2.now) 83::blk x.tb [I64 (Xf p.ps ω q).2.room,.slice xa2 (Xf p.ps ω q).2.l.length xc2] 79::blk b17 [S (Xd p.lo p.us p.ps ω q).user,.slice ka1 (Xd p.lo p.us p.ps ω q).attrs.length kc1,.slice pa1 (Xd p.lo p.us p.ps ω q).proxies.length pc1,S (Xd p.lo p.us p.ps ω q).iou] 56::blk b19 [S (Xd p.lo p.us p.ps ω q).user,.slice ka2 (Xd p.lo p.us p.ps ω q).attrs.length kc2,.slice pa2 (Xd p.lo p.us p.ps ω q).proxies.length pc2,S (Xd p.lo p.us p.ps ω q).iou] 56::R):=⟨_,_,((hJ5.trans hJ7).trans hJ8),(((((hS.pick 5 rfl).pick 8 rfl).pick 8 rfl).pick 8 rfl).pick 4 rfl)⟩
  refine And.intro (by intro _ _; exact hH) ?_
  refine .tg (i:=41) rfl (by kernel_rfl) hH rfl rfl (fun hg1 w ⟨J9,R,hL9,hS⟩=>(.not (.gd hg1 rfl))) rfl (.tp (i:=42) rfl (by kernel_rfl) (fun w=>(.por (.of rfl) (.of rfl) (.of rfl))) rfl (.done (by kernel_rfl) (.condF (congrArg (fun b=>some (Value.bool b)) (by simp [Xgg])) (.skip (.region (.run 3 rfl ⟨⟨by omega,by omega⟩,trivial⟩ (.nil ?_)))))))
  replace hS:=Sat.box (T:=wdT p (Xf p.ps ω q).2) (a5,c5,ma5,mc5) (((((hS.pick 4 rfl).pick 4 rfl).pick 4 rfl).pick 4 rfl).pick 4 rfl)
  try dsimp only [List.eraseIdx] at hS
  refine ⟨((Xf p.ps ω q).2,i+1,xa2,xc2,da2,dc2,J8),⟨rfl,rfl,rfl,rfl,rfl,rfl,rfl,trivial⟩,⟨by (try dsimp only); omega,hJ3.trans (hJa.trans (hJb.trans (hJ5.trans (hJ7.trans hJ8)))),hω2,hM2.mono (hJ5.trans (hJ7.trans hJ8)),((((((hS.pick 5 rfl).pick 4 rfl).pick 4 rfl).pick 3 rfl).drop (k:=4) rfl).drop (k:=4) rfl)⟩,by (try dsimp only); omega⟩
 have hc62:=hb62; try simp only [Y6] at hc62
 refine .exit (.seq (.t 2 rfl (.gval rfl rfl (fun hg1=>(.move (.of rfl))) rfl (.gcall (T:=fun w=>Sat B w J3 _) rfl rfl rfl Tryz.func14 rfl (fun hg1=>(X0 (.gd hg1 rfl) X4)) rfl (fun hg1=>Xfu e B _ J3 _ hS) hS ?_))))
 clear hS; rintro w hS
 refine .gval rfl rfl (fun hg1=>(.move (.of rfl))) rfl (.gcall (T:=fun w=>Sat B w J3 _) rfl rfl rfl Tryz.func33 rfl (fun hg1=>(X0 (.gd hg1 rfl) X4)) rfl (fun hg1=>Xf3 e B _ J3 _ hS) hS ?_)
 clear hS; rintro w hS
 refine .gval rfl rfl (fun hg1=>(.eqs (.gd hg1 rfl) (.gd hg1 rfl))) rfl (.val (.pand (.of rfl) (.of rfl) (.of rfl)) rfl (.q 1 rfl (.nil (.ret (Xh Tryz.results6 rfl ?_)))))
 exact ⟨_,rfl,by simp,J3,hJ.trans hJ3,(((hS.drop (k:=0) rfl).drop (k:=0) rfl).drop (k:=0) rfl).drop (k:=0) rfl⟩
end Go.Proofs.YtadhiihnnkcagaaGreatDoor
