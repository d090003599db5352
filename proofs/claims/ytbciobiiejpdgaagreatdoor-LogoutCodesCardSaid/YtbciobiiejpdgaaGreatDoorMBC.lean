/- Part 3 of what the proof stands on: W23c, W23d, W21a, W23e, Rk, W16a, W16b, Qu, W23f, W23g. -/
import Derived.Test.YtbciobiiejpdgaaGreatDoorMBB
import Derived.Lib.AtoiTie
import Derived.Lib.AtoiErrMem
import Derived.Test.YtbciobiiejpdgaaGreatDoorChecked
set_option linter.unusedVariables false
set_option linter.unusedSimpArgs false
namespace Go.Proofs.YtbciobiiejpdgaaGreatDoor
open Gk Ul Pc Pat Xm Tr
theorem X1l:Tryz.prog.info? 126=some Tryz.t126:=by kernel_rfl
theorem X4j:Tryz.prog.info? 136=some Tryz.t136:=by kernel_rfl
theorem Xr:Bld Tryz.prog 126 [(0,1),(1,1),(2,1),(3,1)] [S [],.slice none 0 0,S [],.slice none 0 0]:=X5s Xq X2s (fun w=>by simp [go_sem])
theorem X1v:Bld Tryz.prog 136 [(0,1),(1,1)] [S [],S []]:=X5s X1c X7q (fun w=>by simp [go_sem])
def tkn (b:Bool) (X x:List UInt8):List UInt8:=if (!b && Xa X x)=true then X.drop x.length else X
theorem Xal (rb:Nat) (X x:List UInt8) (l:Int) (b:Bool) (B w:World) (I:Im) (As:List Xf) (hS:Sat B w I (blk rb [S (X),I64 (l)] 171::As)) :
  (b=false→Calls Tryz.prog 144 [ptr rb 0,S x].toArray w (Ret fun v w'=>v=.bool (Xa X x)∧Sat B w' I (blk rb [S (tkn b X x),I64 (l)] 171::As)))∧(b≠false→Sat B w I (blk rb [S (tkn b X x),I64 (l)] 171::As)):=by
 refine ⟨fun h=>?_,fun h=>?_⟩
 ·subst h
  exact (X53 rb X x l B w I As hS)
 ·have:b=true:=by simpa using h
  subst this
  exact hS
set_option maxRecDepth 4000 in
theorem X8a (rb:Nat) (t0:List UInt8) (hl0:t0.length≤10000) (l:Int) (B w:World) (I:Im) (hK:Kx I) (As:List Xf) (hS:Sat B w I (blk rb [S (t0),I64 (l)] 171::As)) :
  Calls Tryz.prog 146 [ptr rb 0].toArray w (Ret fun v w'=>∃ J aa m c ok t',v=.tuple #[.slice aa m c,.bool ok]∧Le I J∧(match Xs (t0.length+1) t0 [] with
   | none=>ok=false
   | some (ps,r)=>ok=true∧t'=r∧m=ps.length∧m≤c∧RS J aa 2 m (X8 Xe ps)∧(∀ a∈ps,a.1.length≤t0.length∧a.2.length≤t0.length)∧ps.length≤t0.length)∧Sat B w' J (blk rb [S (t'),I64 (l)] 171::As)):=by
 refine calls Tryz.func146 rfl Tryz.ntmps146 rfl (.seq (.q 2 rfl (.seq (.q 1 rfl (.seq (.block ?_))))))
 replace hS:=(hS.vecNil 136 2).pick 1 rfl; try dsimp only [List.eraseIdx] at hS
 refine .loop (σ:=List UInt8×List Px×Value) (fun ⟨t,out,v⟩=>[(0,ptr rb 0),(4,v)]) (fun ⟨t,out,v⟩ w=>t.length≤t0.length∧Xs (t0.length+1) t0 []=Xs (t.length+1) t out∧out.length+t.length≤t0.length∧(∀ a∈out,a.1.length≤t0.length∧a.2.length≤t0.length)∧Sat B w I (blk rb [S (t),I64 (l)] 171::Vec 136 2 v (out).length (X8 Xe (out))::As)) (fun ⟨t,out,v⟩=>t.length) (t0,[],.slice none 0 0) ⟨rfl,rfl,trivial⟩ ⟨Yh _,rfl,by simp,by simp,hS⟩ ?_
 rintro ⟨t,out,v⟩ w ⟨htl,hat,hol,hom,hS⟩
 change WC _ _ _ _ [(0,ptr rb 0),(4,v)] w
 refine .seq (.seq (.t 2 rfl ?_))
 first | refine WL.val (.fieldAddr 0 (.of rfl) X10 rfl rfl Qs9 rfl) rfl ?_ | refine WL.val (.fieldAddrI 0 (.of rfl) X10 rfl rfl Qs9 rfl) rfl ?_
 first | refine WL.val (.ld (.of rfl) hS (k:=0) rfl Qg9 rfl) rfl ?_ | refine WL.val (.ld (.of rfl) hS (k:=1) rfl Qg9 rfl) rfl ?_
 refine .call Xdd rfl (X0 (.of rfl) (X0 (.of rfl) X1)) rfl (X22 t [32] _ (by omega) (by decide)) ?_
 rintro _ _ ⟨rfl,rfl⟩
 refine .nil ?_
 refine WC.cond rfl (fun hb12=>?_) (fun hb12=>?_)
 ·
  have hc12:=hb12; try simp only [Y4] at hc12
  refine .skip (.block (.seq ?_))
  have hp1:=X29 hb12; simp only [List.length_cons,List.length_nil] at hp1
  obtain ⟨t1,ht1⟩:∃ x,x=t.drop 1:=⟨_,rfl⟩
  have hl1:t1.length=t.length - 1:=by rw [ht1,Ya]
  refine .t 3 rfl ?_
  first | refine WL.val (.fieldAddr 0 (.of rfl) X10 rfl rfl Qs9 rfl) rfl ?_ | refine WL.val (.fieldAddrI 0 (.of rfl) X10 rfl rfl Qs9 rfl) rfl ?_
  first | refine WL.val (.ld (.of rfl) hS (k:=0) rfl Qg9 rfl) rfl ?_ | refine WL.val (.ld (.of rfl) hS (k:=1) rfl Qg9 rfl) rfl ?_
  refine .val (.subFrom (.of rfl) (.of rfl) (by omega) (by omega) Qu9) rfl (.q 1 rfl ?_)
  first | refine WL.val (.fieldAddr 0 (.of rfl) X10 rfl rfl Qs9 rfl) rfl ?_ | refine WL.val (.fieldAddrI 0 (.of rfl) X10 rfl rfl Qs9 rfl) rfl ?_
  first | refine WL.st1 hS (k:=0) rfl (.of rfl) (.of rfl) rfl Qs9 (by simp) ?_ | refine WL.st1 hS (k:=1) rfl (.of rfl) (.of rfl) rfl Qs9 (by simp) ?_
  clear hS; intro w hS; try dsimp only [List.set] at hS
  refine .nil (.seq ?_)
  rw [show List.drop (1:Int).toNat t=t1 from ht1.symm] at hS
  refine .t 1 rfl (.call Xaj rfl (X0 (.of rfl) (X0 (.of rfl) X1)) rfl (Xb7 rb t1 61 (by decide) (by omega) l B _ I _ hS) ?_)
  clear hS
  rintro _ w ⟨rfl,hS⟩
  try dsimp only [List.eraseIdx] at hS
  refine .q 1 rfl (.nil (.seq (.seq ?_)))
  obtain ⟨t2,ht2⟩:∃ x,x=Xc [61] t1:=⟨_,rfl⟩
  rw [← ht2] at hS
  have hl2:t2.length≤t1.length:=by rw [ht2]; exact X27 _ _
  have hk2:=X11 [61] t1
  refine .t 1 rfl (.call X9w rfl (X0 (.of rfl) (X0 (.of rfl) X1)) rfl (X53 rb t2 [61,34] l B _ I _ hS) ?_)
  clear hS
  rintro _ w ⟨rfl,hS⟩
  try dsimp only [List.eraseIdx] at hS
  refine .q 1 rfl (.nil ?_)
  refine WC.cond rfl (fun hb25=>?_) (fun hb25=>?_)
  ·
   have hc25:=hb25; try simp only [Y4] at hc25
   refine .seq (.q 2 rfl (.ret (X3u Xfk rfl rfl ?_)))
   refine ⟨_,rfl,I,none,0,0,false,_,rfl,Le.refl _,?_,(hS.drop (k:=1) rfl)⟩
   rw [hat,Xs,if_neg (by rw [hb12]; decide),← ht1,← ht2,if_pos (by simpa using hb25)]
  have hc25:=hb25; try simp only [Y4] at hc25
  refine .skip (.seq ?_)
  have hq2:Xa t2 [61,34]=true:=by simpa using hb25
  rw [if_pos hq2] at hS
  have hp2:=X29 hq2; simp only [List.length_cons,List.length_nil] at hp2
  obtain ⟨t3,ht3⟩:∃ x,x=t2.drop 2:=⟨_,rfl⟩
  have hl3:t3.length=t2.length - 2:=by rw [ht3,Ya]
  rw [show List.drop ([61,34]:List UInt8).length t2=t3 from ht3.symm] at hS
  have hk3:=X11 [34] t3
  refine .t 1 rfl (.call Xaj rfl (X0 (.of rfl) (X0 (.of rfl) X1)) rfl (Xb7 rb t3 34 (by decide) (by omega) l B _ I _ hS) ?_)
  clear hS
  rintro _ w ⟨rfl,hS⟩
  try dsimp only [List.eraseIdx] at hS
  refine .call Tryz.func147 rfl (X0 (.of rfl) X1) rfl (X30 (upto [34] t3) (by omega) B _ I hK _ hS) ?_
  clear hS
  rintro _ w ⟨n1,e1,rfl,hu,hS⟩
  refine .q 5 rfl (.nil (.seq (.seq ?_)))
  obtain ⟨t4,ht4⟩:∃ x,x=Xc [34] t3:=⟨_,rfl⟩
  rw [← ht4] at hS
  refine .t 3 rfl (.gval rfl rfl (fun hg1=>(.move (.of rfl))) rfl ?_)
  have hg9:=fun b=>Xal rb t4 [34] _ b B _ I _ hS
  refine .gcallT rfl rfl rfl X9w rfl (fun hg1=>X0 (.gd hg1 rfl) (X0 (.of rfl) X1)) rfl (hg9 _).1 (hg9 _).2 ?_
  clear hS hg9; intro w hS
  refine .gval rfl rfl (fun hg1=>(.not (.gd hg1 rfl))) rfl (.val (.por (.of rfl) (.of rfl) (.of rfl)) rfl (.nil ?_))
  refine WC.cond rfl (fun hb38=>?_) (fun hb38=>?_)
  ·
   have hc38:=hb38; try simp only [Y4] at hc38
   refine .seq (.q 2 rfl (.ret (X3u Xfk rfl rfl ?_)))
   refine ⟨_,rfl,I,none,0,0,false,_,rfl,Le.refl _,?_,(hS.drop (k:=1) rfl)⟩
   rw [hat,Xs,if_neg (by rw [hb12]; decide),← ht1,← ht2,if_neg (by rw [hq2]; decide),← ht3]
   cases hh:X25 (upto [34] t3) with
   | none=>rfl
   | some z =>
    rw [hh] at hu
    have h0:=hu.2
    subst h0
    dsimp only
    rw [← ht4,if_pos (by simpa using hb38)]
  have hc38:=hb38; try simp only [Y4] at hc38
  refine .skip ?_
  have he0:e1=0∧Xa t4 [34]=true:=by simpa using hb38
  have hk4:(!((e1:Int) != 0) && Xa t4 [34])=true:=by rw [he0.1,he0.2]; rfl
  have hp4:=X29 he0.2; simp only [List.length_cons,List.length_nil] at hp4
  unfold tkn at hS
  rw [if_pos hk4] at hS
  obtain ⟨t5,ht5⟩:∃ x,x=t4.drop 1:=⟨_,rfl⟩
  have hl5:t5.length=t4.length - 1:=by rw [ht5,Ya]
  rw [show List.drop ([34]:List UInt8).length t4=t5 from ht5.symm] at hS
  have hun:X25 (upto [34] t3)=some n1:=by
   cases hh:X25 (upto [34] t3) with
   | none=>rw [hh] at hu; have:=hu.2; omega
   | some z=>rw [hh] at hu; rw [hu.1]
  have hun1:=Xdr hun
  rw [← ht4] at hk3
  refine .t 3 rfl (.val (.build (cs:=[_,_]) (X2 (.of rfl) (X2 (.of rfl) X3)) X1v rfl) rfl (.buildSlice (cs:=[_,_]) hS (X2 (.of rfl) X3) X24 X18 X7q rfl rfl rfl rfl ?_))
  clear hS; intro b43 w hS
  first | refine WL.append (size:=2) (bytes:=32) hS (.of rfl) (.of rfl) (k:=0) rfl X24 X4j rfl rfl rfl rfl rfl rfl rfl ⟨by omega,by unfold maxLen; omega⟩ rfl ?_ | refine WL.append (size:=2) (bytes:=32) hS (.of rfl) (.of rfl) (k:=1) rfl X24 X4j rfl rfl rfl rfl rfl rfl rfl ⟨by omega,by unfold maxLen; omega⟩ rfl ?_
  clear hS; intro v44 w hS; try dsimp only [List.set] at hS
  first | obtain ⟨a44,c44,rfl,hcap44,_⟩:=hS.vecSlice (k:=0) (v:=v44) rfl | obtain ⟨a44,c44,rfl,hcap44,_⟩:=hS.vecSlice (k:=1) (v:=v44) rfl
  refine .q 1 rfl (.nil ?_)
  replace hS:=((hS.pick 1 rfl).pick 1 rfl)
  have er:X8 Xe (out ++ [(upto [61] t1,n1)])=X8 Xe out ++ [S (upto [61] t1),S n1]:=by simp [X8,Xe]
  have el:(out ++ [(upto [61] t1,n1)]).length=out.length+1:=by simp
  refine ⟨(t5,out ++ [(upto [61] t1,n1)],_),⟨rfl,rfl,trivial⟩,⟨by (try dsimp only); omega,?_,by rw [el]; (try dsimp only); omega,fun a ha=>?_,by rw [er,el]; exact hS⟩,by (try dsimp only); omega⟩
  ·rw [hat,Xs,if_neg (by rw [hb12]; decide),← ht1,← ht2,if_neg (by rw [hq2]; decide),← ht3,hun]
   dsimp only
   rw [← ht4,if_neg (by rw [he0.2]; decide),← ht5]
   exact X7h _ (by omega) (by omega)
  ·rcases Y1b.1 ha with h | h
   ·exact hom a h
   ·rw [Y20.1 h]; (try dsimp only); omega
 have hc12:=hb12; try simp only [Y4] at hc12
 refine .exit (.seq (.q 3 rfl (.ret (X3u Xfk rfl rfl ?_))))
 obtain ⟨a9,c9,rfl,hc9,_⟩:=hS.vecSlice (k:=1) rfl
 obtain ⟨J,hJ,hRS,hS⟩:=hS.freezeVec (k:=1) rfl
 refine ⟨_,rfl,J,a9,out.length,c9,true,t,rfl,hJ,?_,hS⟩
 rw [hat,Xs,if_pos hb12]
 exact ⟨rfl,rfl,rfl,hc9,hRS,hom,by omega⟩
theorem X5j {el:Int→List UInt8→Option (Nd×List UInt8×Int)} (hel:∀ l s k r l2,el l s=some (k,r,l2)→r.length<s.length):∀ (f g:Nat) (left:Int) (s:List UInt8) (out:List Nd),s.length<f→s.length<g→X1k el f left s out=X1k el g left s out
 | 0,_,_,_,_,h,_=>by omega
 | _+1,0,_,_,_,_,h=>by omega
 | f+1,g+1,left,s,out,hf,hg=>by
  rw [X1k,X1k]
  split
  ·rfl
  ·split
   ·rfl
   ·rename_i k r l he
    have:=hel _ _ _ _ _ he
    exact X5j hel f g _ _ _ (by omega) (by omega)
theorem X95 {el:Int→List UInt8→Option (Nd×List UInt8×Int)} (hel:∀ l s k r l2,0≤l→el l s=some (k,r,l2)→0≤l2∧l2≤l):∀ (f:Nat) (left:Int) (s:List UInt8) (out ks:List Nd) (r:List UInt8) (l2:Int),0≤left→X1k el f left s out=some (ks,r,l2)→0≤l2∧l2≤left
 | 0,_,_,_,_,_,_,_,h=>by cases h
 | f+1,left,s,out,ks,r,l2,h0,h=>by
  rw [X1k] at h
  split at h
  ·cases h; exact ⟨h0,Int.le_refl _⟩
  ·split at h
   ·cases h
   ·rename_i k r1 l1 he
    have h1:=hel _ _ _ _ _ h0 he
    have h2:=X95 hel f _ _ _ _ _ _ h1.1 h
    exact ⟨h2.1,by omega⟩
theorem X9m:∀ (d:Nat) (l:Int) (s:List UInt8) (k:Nd) (r:List UInt8) (l2:Int),0≤l→X13 d l s=some (k,r,l2)→0≤l2∧l2≤l
 | 0,_,_,_,_,_,_,h=>by cases h
 | d+1,l,s,k,r,l2,h0,h=>by
  rw [X13] at h
  split at h
  ·cases h
  ·rename_i hc
   simp only [not_or] at hc
   split at h
   ·cases h
   ·split at h
    ·cases h
    ·split at h
     ·cases h
     ·split at h
      ·cases h
      ·rename_i ks q l3 hk
       split at h
       ·cases h
       ·cases h
        have:=X95 (fun l s k r l2 h0 h=>X9m d l s k r l2 h0 h) _ _ _ _ _ _ _ (by omega) hk
        exact ⟨this.1,by omega⟩
set_option maxRecDepth 4000 in
theorem X6s (d:Nat) (ih:∀ e,d=e+1→∀ (deep:Int) (t:List UInt8) (l:Int) (rb:Nat) (B w:World) (I:Im) (As:List Xf),1≤deep→deep+(e:Int)=9→t.length≤10000→0≤l→l≤1000→Kx I→Sat B w I (blk rb [S (t),I64 (l)] 171::As)→Calls Tryz.prog 104 [ptr rb 0,I64 deep].toArray w (Ret fun v w'=>∃ J s1 a1 n1 m1 s2 a2 n2 m2 ok t' l',v=.tuple #[.agg ([S s1,.slice a1 n1 m1,S s2,.slice a2 n2 m2]:List Value).toArray,.bool ok]∧Le I J∧(match X13 e l t with
   | none=>ok=false
   | some (k,r,l2)=>ok=true∧t'=r∧l'=l2∧NdV e J [S s1,.slice a1 n1 m1,S s2,.slice a2 n2 m2] k)∧Sat B w' J (blk rb [S (t'),I64 (l')] 171::As)))
  (deep:Int) (t:List UInt8) (l:Int) (rb:Nat) (B w:World) (I:Im) (As:List Xf) (hp:1≤deep) (hd:deep+(d:Int)=9) (hl0:t.length≤10000) (h0:0≤l) (h1:l≤1000) (hK:Kx I) (hS:Sat B w I (blk rb [S (t),I64 (l)] 171::As)):Calls Tryz.prog 104 [ptr rb 0,I64 deep].toArray w (Ret fun v w'=>∃ J s1 a1 n1 m1 s2 a2 n2 m2 ok t' l',v=.tuple #[.agg ([S s1,.slice a1 n1 m1,S s2,.slice a2 n2 m2]:List Value).toArray,.bool ok]∧Le I J∧(match X13 d l t with
   | none=>ok=false
   | some (k,r,l2)=>ok=true∧t'=r∧l'=l2∧NdV d J [S s1,.slice a1 n1 m1,S s2,.slice a2 n2 m2] k)∧Sat B w' J (blk rb [S (t'),I64 (l')] 171::As)):=by
 refine calls Tryz.func104 rfl Tryz.ntmps104 rfl (.seq (.region (.allocA (cs:=[_,_,_,_]) hS X2s rfl ?_)))
 clear hS; intro b4 w hS
 refine .q 1 rfl (.nil (.scope (.seq (.t 2 rfl ?_))))
 first | refine WL.val (.fieldAddr 1 (.of rfl) X10 rfl rfl Qs3 rfl) rfl ?_ | refine WL.val (.fieldAddrI 1 (.of rfl) X10 rfl rfl Qs3 rfl) rfl ?_
 first | refine WL.val (.ld (.of rfl) hS (k:=0) rfl Qg3 rfl) rfl ?_ | refine WL.val (.ld (.of rfl) hS (k:=1) rfl Qg3 rfl) rfl ?_
 refine .run 2 rfl ⟨⟨by omega,by omega⟩,trivial⟩ ?_
 first | refine WL.val (.fieldAddr 1 (.of rfl) X10 rfl rfl Qs3 rfl) rfl ?_ | refine WL.val (.fieldAddrI 1 (.of rfl) X10 rfl rfl Qs3 rfl) rfl ?_
 first | refine WL.st1 hS (k:=0) rfl (.of rfl) (.of rfl) rfl Qs3 (by simp) ?_ | refine WL.st1 hS (k:=1) rfl (.of rfl) (.of rfl) rfl Qs3 (by simp) ?_
 clear hS; intro w hS; try dsimp only [List.set] at hS
 refine .nil (.seq (.seq (.t 3 rfl (.gval rfl rfl (fun hg1=>(.move (.of rfl))) rfl (.gval rfl rfl (fun hg1=>(.nilCheck (.gd hg1 rfl))) rfl ?_)))))
 refine WL.gval rfl rfl (fun hg1=>(by first | exact .fieldAddr 1 (.gd hg1 rfl) X10 rfl rfl Qs3 rfl | exact .fieldAddrI 1 (.gd hg1 rfl) X10 rfl rfl Qs3 rfl)) rfl ?_
 refine WL.gval rfl rfl (fun hg1=>(by first | exact (.ld (.gd hg1 rfl) hS (k:=0) rfl Qg3 rfl) | exact (.ld (.gd hg1 rfl) hS (k:=1) rfl Qg3 rfl))) rfl ?_
 refine .gval rfl rfl (fun hg1=>(.lss (.gd hg1 rfl) (.of rfl))) rfl (.val (.por (.of rfl) (.of rfl) (.of rfl)) rfl (.q 1 rfl (.gval rfl rfl (fun hg1=>(.move (.of rfl))) rfl ?_)))
 replace hS:=(hS.pick 1 rfl); try dsimp only [List.eraseIdx] at hS
 have hg9:=fun b=>Xal rb t [60] _ b B _ I _ hS
 refine .gcallT rfl rfl rfl X9w rfl (fun hg1=>X0 (.gd hg1 rfl) (X0 (.of rfl) X1)) rfl (hg9 _).1 (hg9 _).2 ?_
 clear hS hg9; intro w hS
 refine .gval rfl rfl (fun hg1=>(.not (.gd hg1 rfl))) rfl (.val (.por (.of rfl) (.of rfl) (.of rfl)) rfl (.nil ?_))
 refine WC.cond rfl (fun hb32=>?_) (fun hb32=>?_)
 ·
  have hc32:=hb32; try simp only [Y4] at hc32
  refine .seq (.region (.val (.build (cs:=[_,_,_,_]) X3 Xr rfl) rfl ?_))
  first | refine WL.stA hS (k:=0) rfl (.of rfl) (.of rfl) rfl X4 rfl (by simp) ?_ | refine WL.stA hS (k:=1) rfl (.of rfl) (.of rfl) rfl X4 rfl (by simp) ?_
  clear hS; intro w hS; try dsimp only [List.set] at hS
  try simp only [Yb,Y6,Y8,Y2,Y5,Yc,Y7] at hS
  refine .q 1 rfl (.nil (.ret ?_))
  first | refine Xj (b:=_) (cs:=[_,_,_,_]) X2a hS (k:=0) rfl X7 X4 rfl rfl rfl ?_ | refine Xj (b:=_) (cs:=[_,_,_,_]) X2a hS (k:=1) rfl X7 X4 rfl rfl rfl ?_
  refine ⟨_,rfl,I,[],none,0,0,[],none,0,0,false,_,_,rfl,Le.refl _,?_,(hS.drop (k:=1) rfl)⟩
  cases d with
  | zero=>rfl
  | succ e =>
   rw [X13,if_pos]
   by_cases h1:l - 1<0
   ·exact .inl h1
   ·right
    have h2:¬ deep > 8:=by push_cast at hd; omega
    rw [decide_eq_false h1,decide_eq_false h2] at hb32
    simpa using hb32
 have hc32:=hb32; try simp only [Y4] at hc32
 refine .skip (.seq ?_)
 obtain ⟨hl1,hp1⟩:(deep≤8∧0≤l - 1)∧Xa t [60]=true:=by simpa using hb32
 have htk:(!(decide (deep > 8) || decide (l - 1<0)) && Xa t [60])=true:=by rw [hp1,decide_eq_false (by omega),decide_eq_false (by omega)]; rfl
 unfold tkn at hS
 rw [if_pos htk] at hS
 obtain ⟨e,he9⟩:∃ e,d=e+1:=⟨d - 1,by omega⟩
 subst he9
 have hp1l:=X29 hp1; simp only [List.length_cons,List.length_nil] at hp1l
 obtain ⟨t1,ht1⟩:∃ x,x=t.drop 1:=⟨_,rfl⟩
 have hl1t:t1.length=t.length - 1:=by rw [ht1,Ya]
 rw [show List.drop ([60]:List UInt8).length t=t1 from ht1.symm] at hS
 have hE1:X13 (e+1) l t=match Xs ((Xc [32,62] t1).length+1) (Xc [32,62] t1) [] with
   | none=>none
   | some (ps,r)=>if Xa r [62]=false then none else match X25 (upto [60] (r.drop 1)) with
    | none=>none
    | some z=>match X1k (X13 e) ((Xc [60] (r.drop 1)).length+1) (l - 1) (Xc [60] (r.drop 1)) [] with
     | none=>none
     | some (ks,q,l)=>if Xa q (60::47::upto [32,62] t1 ++ [62])=false then none else some (.mk (upto [32,62] t1) ps z ks,q.drop ((upto [32,62] t1).length+3),l):=by
  rw [X13,if_neg (by rintro (h | h) <;> first | omega | (rw [hp1] at h; cases h)),← ht1]
  rfl
 have hk1:=X11 [32,62] t1
 refine .t 1 rfl (.call Xaj rfl (X0 (.of rfl) (X0 (.of rfl) X1)) rfl (xword2 rb t1 (by omega) (l - 1) B _ I _ hS) ?_)
 clear hS
 rintro _ w ⟨rfl,hS⟩
 try dsimp only [List.eraseIdx] at hS
 refine .val (.build (cs:=[_,_,_,_]) (X2 (.of rfl) X3) Xr rfl) rfl (.allocA (cs:=[_,_,_,_]) hS X2s rfl ?_)
 clear hS; intro b6 w hS
 first | refine WL.stA hS (k:=0) rfl (.of rfl) (.of rfl) rfl X4 rfl (by simp) ?_ | refine WL.stA hS (k:=1) rfl (.of rfl) (.of rfl) rfl X4 rfl (by simp) ?_ | refine WL.stA hS (k:=2) rfl (.of rfl) (.of rfl) rfl X4 rfl (by simp) ?_
 clear hS; intro w hS; try dsimp only [List.set] at hS
 try simp only [Yb,Y6,Y8,Y2,Y5,Yc,Y7] at hS
 refine .nil (.seq ?_)
 obtain ⟨t2,ht2⟩:∃ x,x=Xc [32,62] t1:=⟨_,rfl⟩
 obtain ⟨nm,hnm⟩:∃ x,x=upto [32,62] t1:=⟨_,rfl⟩
 rw [← ht2,← hnm] at hS hE1 hk1
 refine .q 1 rfl (.seq (.seq (.t 1 rfl (.call Tryz.func146 rfl (X0 (.of rfl) X1) rfl (X8a rb t2 (by omega) (l - 1) B _ I hK _ (hS.pick 1 rfl)) ?_))))
 clear hS
 rintro _ w ⟨J,aa,m,c,ok,t3,rfl,hJ,hA,hS⟩
 try dsimp only [List.eraseIdx] at hS
 have hA2:(Xs (t2.length+1) t2 []=none∧ok=false)∨∃ ps,Xs (t2.length+1) t2 []=some (ps,t3)∧ok=true∧m=ps.length∧m≤c∧RS J aa 2 m (X8 Xe ps)∧(∀ a∈ps,a.1.length≤t2.length∧a.2.length≤t2.length)∧ps.length≤t2.length:=by
  cases h:Xs (t2.length+1) t2 [] with
  | none=>rw [h] at hA; exact .inl ⟨rfl,hA⟩
  | some x =>
   obtain ⟨ps,r⟩:=x
   rw [h] at hA
   obtain ⟨h1,h2,h3⟩:=hA
   subst h2
   exact .inr ⟨ps,rfl,h1,h3⟩
 refine .q 3 rfl ?_
 first | refine WL.val (.fieldAddr 1 (.of rfl) Xq rfl rfl X3o rfl) rfl ?_ | refine WL.val (.fieldAddrI 1 (.of rfl) Xq rfl rfl X3o rfl) rfl ?_
 first | refine WL.st1 hS (k:=0) rfl (.of rfl) (.of rfl) rfl X3o (by simp) ?_ | refine WL.st1 hS (k:=1) rfl (.of rfl) (.of rfl) rfl X3o (by simp) ?_ | refine WL.st1 hS (k:=2) rfl (.of rfl) (.of rfl) rfl X3o (by simp) ?_
 clear hS; intro w hS; try dsimp only [List.set] at hS
 refine .q 1 rfl (.nil (.seq (.t 3 rfl (.gval rfl rfl (fun hg1=>(.move (.of rfl))) rfl ?_))))
 have hg9:=fun b=>Xal rb t3 [62] _ b B _ J _ hS
 refine .gcallT rfl rfl rfl X9w rfl (fun hg1=>X0 (.gd hg1 rfl) (X0 (.of rfl) X1)) rfl (hg9 _).1 (hg9 _).2 ?_
 clear hS hg9; intro w hS
 refine .gval rfl rfl (fun hg1=>(.not (.gd hg1 rfl))) rfl (.val (.por (.of rfl) (.of rfl) (.of rfl)) rfl (.nil ?_))
 refine WC.cond rfl (fun hb49=>?_) (fun hb49=>?_)
 ·
  have hc49:=hb49; try simp only [Y4] at hc49
  refine .seq (.region (.val (.build (cs:=[_,_,_,_]) X3 Xr rfl) rfl ?_))
  first | refine WL.stA hS (k:=0) rfl (.of rfl) (.of rfl) rfl X4 rfl (by simp) ?_ | refine WL.stA hS (k:=1) rfl (.of rfl) (.of rfl) rfl X4 rfl (by simp) ?_ | refine WL.stA hS (k:=2) rfl (.of rfl) (.of rfl) rfl X4 rfl (by simp) ?_
  clear hS; intro w hS; try dsimp only [List.set] at hS
  try simp only [Yb,Y6,Y8,Y2,Y5,Yc,Y7] at hS
  refine .q 1 rfl (.nil (.ret ?_))
  first | refine Xj (b:=_) (cs:=[_,_,_,_]) X2a hS (k:=0) rfl X7 X4 rfl rfl rfl ?_ | refine Xj (b:=_) (cs:=[_,_,_,_]) X2a hS (k:=1) rfl X7 X4 rfl rfl rfl ?_ | refine Xj (b:=_) (cs:=[_,_,_,_]) X2a hS (k:=2) rfl X7 X4 rfl rfl rfl ?_
  refine ⟨_,rfl,J,[],none,0,0,[],none,0,0,false,_,_,rfl,hJ,?_,((hS.drop (k:=1) rfl).drop (k:=1) rfl)⟩
  rw [hE1]
  rcases hA2 with ⟨h,_⟩ | ⟨ps,h1,h2,_⟩
  ·rw [h]
  ·rw [h1]
   dsimp only
   rw [if_pos (by rw [h2] at hb49; simpa using hb49)]
 have hc49:=hb49; try simp only [Y4] at hc49
 refine .skip (.seq ?_)
 obtain ⟨hok9,hp3⟩:ok=true∧Xa t3 [62]=true:=by simpa using hb49
 have htk3:(!(!ok) && Xa t3 [62])=true:=by rw [hok9,hp3]; rfl
 unfold tkn at hS
 rw [if_pos htk3] at hS
 obtain ⟨ps,hAF,hmp,hmc,hRS,hps,hpl⟩:∃ ps,Xs (t2.length+1) t2 []=some (ps,t3)∧m=ps.length∧m≤c∧RS J aa 2 m (X8 Xe ps)∧(∀ a∈ps,a.1.length≤t2.length∧a.2.length≤t2.length)∧ps.length≤t2.length:=by
  rcases hA2 with ⟨_,h⟩ | ⟨ps,h1,h2,h3⟩
  ·rw [h] at hok9; cases hok9
  ·exact ⟨ps,h1,h3⟩
 have hl3:=X3f _ _ _ _ _ hAF
 have hp3l:=X29 hp3; simp only [List.length_cons,List.length_nil] at hp3l
 obtain ⟨t4,ht4⟩:∃ x,x=t3.drop 1:=⟨_,rfl⟩
 have hl4:t4.length=t3.length - 1:=by rw [ht4,Ya]
 rw [show List.drop ([62]:List UInt8).length t3=t4 from ht4.symm] at hS
 rw [hAF] at hE1
 dsimp only at hE1
 rw [if_neg (by rw [hp3]; decide),← ht4] at hE1
 have hk4:=X11 [60] t4
 have hKJ:=hK.mono hJ
 refine .t 1 rfl (.call Xaj rfl (X0 (.of rfl) (X0 (.of rfl) X1)) rfl (Xb7 rb t4 60 (by decide) (by omega) (l - 1) B _ J _ hS) ?_)
 clear hS
 rintro _ w ⟨rfl,hS⟩
 try dsimp only [List.eraseIdx] at hS
 refine .call Tryz.func147 rfl (X0 (.of rfl) X1) rfl (X30 (upto [60] t4) (by omega) B _ J hKJ _ hS) ?_
 clear hS
 rintro _ w ⟨n1,e1,rfl,hu,hS⟩
 refine .q 5 rfl (.nil (.seq (.seq (.q 2 rfl ?_))))
 refine WC.cond rfl (fun hb58=>?_) (fun hb58=>?_)
 ·
  have hc58:=hb58; try simp only [Y4] at hc58
  refine .seq (.region (.val (.build (cs:=[_,_,_,_]) X3 Xr rfl) rfl ?_))
  first | refine WL.stA hS (k:=0) rfl (.of rfl) (.of rfl) rfl X4 rfl (by simp) ?_ | refine WL.stA hS (k:=1) rfl (.of rfl) (.of rfl) rfl X4 rfl (by simp) ?_ | refine WL.stA hS (k:=2) rfl (.of rfl) (.of rfl) rfl X4 rfl (by simp) ?_
  clear hS; intro w hS; try dsimp only [List.set] at hS
  try simp only [Yb,Y6,Y8,Y2,Y5,Yc,Y7] at hS
  refine .q 1 rfl (.nil (.ret ?_))
  first | refine Xj (b:=_) (cs:=[_,_,_,_]) X2a hS (k:=0) rfl X7 X4 rfl rfl rfl ?_ | refine Xj (b:=_) (cs:=[_,_,_,_]) X2a hS (k:=1) rfl X7 X4 rfl rfl rfl ?_ | refine Xj (b:=_) (cs:=[_,_,_,_]) X2a hS (k:=2) rfl X7 X4 rfl rfl rfl ?_
  refine ⟨_,rfl,J,[],none,0,0,[],none,0,0,false,_,_,rfl,hJ,?_,((hS.drop (k:=1) rfl).drop (k:=1) rfl)⟩
  rw [hE1]
  cases hh:X25 (upto [60] t4) with
  | none=>rfl
  | some z=>rw [hh] at hu; have:=hu.2; have:=hc58; omega
 have hc58:=hb58; try simp only [Y4] at hc58
 refine .skip (.seq ?_)
 have he0:e1=0:=by have:=hc58; omega
 have hun:X25 (upto [60] t4)=some n1:=by
  cases hh:X25 (upto [60] t4) with
  | none=>rw [hh] at hu; have:=hu.2; omega
  | some z=>rw [hh] at hu; rw [hu.1]
 have hun1:=Xdr hun
 rw [hun] at hE1
 dsimp only at hE1
 obtain ⟨t5,ht5⟩:∃ x,x=Xc [60] t4:=⟨_,rfl⟩
 rw [← ht5] at hS hE1 hk4
 refine .t 1 rfl ?_
 first | refine WL.val (.fieldAddr 2 (.of rfl) Xq rfl rfl Qs9 rfl) rfl ?_ | refine WL.val (.fieldAddrI 2 (.of rfl) Xq rfl rfl Qs9 rfl) rfl ?_
 first | refine WL.st1 hS (k:=0) rfl (.of rfl) (.of rfl) rfl Qs9 (by simp) ?_ | refine WL.st1 hS (k:=1) rfl (.of rfl) (.of rfl) rfl Qs9 (by simp) ?_ | refine WL.st1 hS (k:=2) rfl (.of rfl) (.of rfl) rfl Qs9 (by simp) ?_
 clear hS; intro w hS; try dsimp only [List.set] at hS
 refine .nil (.seq (.label (.seq (.block ?_))))
 have hS0:=((hS.vecNil 126 4).pick 2 rfl).pick 2 rfl; clear hS; try dsimp only [List.eraseIdx] at hS0
 refine .loop (σ:=List UInt8×Int×List Nd×List (List Value)×Value×Im) (fun ⟨tq,lq,ks,xs,v,M⟩=>[(0,ptr rb 0),(1,I64 deep),(4,ptr b4 0),(6,ptr b6 0)]) (fun ⟨tq,lq,ks,xs,v,M⟩ w=>tq.length≤t5.length∧0≤lq∧lq≤1000∧X1k (X13 e) (t5.length+1) (l - 1) t5 []=X1k (X13 e) (tq.length+1) lq tq ks∧Le J M∧xs.length=ks.length∧(∀ x∈xs,x.length=4)∧(∀ (i:Nat) x k,xs[i]?=some x→ks[i]?=some k→NdV e M x k)∧ks.length+tq.length≤t5.length∧Sat B w M (blk rb [S (tq),I64 (lq)] 171::blk b6 [S nm,.slice aa m c,S n1,v] 126::Vec 126 4 v xs.length xs.flatten::blk b4 [S [],.slice none 0 0,S [],.slice none 0 0] 126::As)) (fun ⟨tq,lq,ks,xs,v,M⟩=>tq.length) (t5,l - 1,[],[],.slice none 0 0,J) ⟨rfl,rfl,rfl,rfl,trivial⟩ ⟨Yh _,by omega,by omega,rfl,Le.refl _,rfl,by simp,by simp,by simp,hS0⟩ ?_
 rintro ⟨tq,lq,ks,xs,v,M⟩ w ⟨htq,h0q,h1q,hkf,hJM,hxk,hx4,hNd,hkl,hS⟩
 change WC _ _ _ _ [(0,ptr rb 0),(1,I64 deep),(4,ptr b4 0),(6,ptr b6 0)] w
 clear hS0
 refine .block (.seq (.seq (.t 2 rfl ?_)))
 first | refine WL.val (.fieldAddr 0 (.of rfl) X10 rfl rfl Qs9 rfl) rfl ?_ | refine WL.val (.fieldAddrI 0 (.of rfl) X10 rfl rfl Qs9 rfl) rfl ?_
 first | refine WL.val (.ld (.of rfl) hS (k:=0) rfl Qg9 rfl) rfl ?_ | refine WL.val (.ld (.of rfl) hS (k:=1) rfl Qg9 rfl) rfl ?_ | refine WL.val (.ld (.of rfl) hS (k:=2) rfl Qg9 rfl) rfl ?_ | refine WL.val (.ld (.of rfl) hS (k:=3) rfl Qg9 rfl) rfl ?_
 refine .call Xdd rfl (X0 (.of rfl) (X0 (.of rfl) X1)) rfl (X22 tq [60,47] _ (by omega) (by decide)) ?_
 rintro _ _ ⟨rfl,rfl⟩
 refine .nil ?_
 refine WC.cond rfl (fun hb66=>?_) (fun hb66=>?_)
 ·
  have hc66:=hb66; try simp only [Y4] at hc66
  refine .exit (.seq ?_)
  obtain ⟨ka,kc,rfl,hkc,_⟩:=hS.vecSlice (k:=2) rfl
  refine .drawn (fun w=>∃ R,Sat B w M (blk b6 [S nm,.slice aa m c,S n1,.slice ka xs.length kc] 126::R)) (fun j=>!([].contains j)) (by kernel_rfl) ?_
  replace hS:=hS.drew; generalize w.drew=w at hS ⊢
  have hH:∃ R,Sat B w M (blk b6 [S nm,.slice aa m c,S n1,.slice ka xs.length kc] 126::R):=⟨_,(hS.pick 1 rfl)⟩
  refine WD.tk (i:=0) rfl (by kernel_rfl) hH (fun w ⟨R,hS⟩=>(by first | exact (.ldsW (cs:=[_,_,_,_]) (.of rfl) hS (k:=0) rfl X7 X4 rfl) | exact (.lds (vs:=[_,_,_,_]) (.of rfl) hS (k:=0) rfl X7 X4 rfl (fun _ _ h=>h)))) rfl ?_
  refine .tp (i:=1) rfl (by kernel_rfl) (fun w=>(.move (.of rfl))) rfl ?_
  refine WD.tp (i:=2) rfl (by kernel_rfl) (fun w=>(by first | exact .fieldAddr 0 (.of rfl) Xq rfl rfl Qs9 rfl | exact .fieldAddrI 0 (.of rfl) Xq rfl rfl Qs9 rfl)) rfl ?_
  refine .tk (i:=3) rfl (by kernel_rfl) hH (fun w ⟨R,hS⟩=>(.ld (.of rfl) hS (k:=0) rfl Qg9 rfl)) rfl ?_
  refine WD.tp (i:=4) rfl (by kernel_rfl) (fun w=>(.cat (.of rfl) (.of rfl) (by (try simp only [Y0,List.length_cons,List.length_nil]); omega))) rfl ?_
  refine WD.tp (i:=5) rfl (by kernel_rfl) (fun w=>(.cat (.of rfl) (.of rfl) (by (try simp only [Y0,List.length_cons,List.length_nil]); omega))) rfl ?_
  refine WD.branch [6] (by kernel_rfl) rfl (WO.cons rfl ?_ (WO.nil))
  refine .call X9w rfl (X0 (.of rfl) (X0 (.of rfl) X1)) rfl (X53 rb tq (([60,47] ++ nm) ++ [62]) lq B _ M _ hS) ?_
  clear hS
  rintro _ w ⟨rfl,hS⟩
  try dsimp only [List.eraseIdx] at hS
  refine .nil ?_
  clear hH
  have hH:∃ R,Sat B w M (blk b6 [S nm,.slice aa m c,S n1,.slice ka xs.length kc] 126::R):=⟨_,(hS.pick 1 rfl)⟩
  refine And.intro (by intro _ _; exact hH) ?_
  refine WD.branch [7] (by kernel_rfl) rfl (WO.cons rfl ?_ (WO.nil))
  first | refine WL.stA hS (k:=0) rfl (.of rfl) (.of rfl) rfl X4 rfl (by simp) ?_ | refine WL.stA hS (k:=1) rfl (.of rfl) (.of rfl) rfl X4 rfl (by simp) ?_ | refine WL.stA hS (k:=2) rfl (.of rfl) (.of rfl) rfl X4 rfl (by simp) ?_ | refine WL.stA hS (k:=3) rfl (.of rfl) (.of rfl) rfl X4 rfl (by simp) ?_
  clear hS; intro w hS; try dsimp only [List.set] at hS
  try simp only [Yb,Y6,Y8,Y2,Y5,Yc,Y7] at hS
  refine .nil ?_
  clear hH
  have hH:∃ R,Sat B w M (blk b6 [S nm,.slice aa m c,S n1,.slice ka xs.length kc] 126::R):=⟨_,(hS.pick 1 rfl)⟩
  refine And.intro (by intro _ _; exact hH) ?_
  refine .tp (i:=8) rfl (by kernel_rfl) (fun w=>(.assign (.of rfl))) rfl (.done (by kernel_rfl) (.ret ?_))
  first | refine Xj (b:=_) (cs:=[_,_,_,_]) X2a hS (k:=0) rfl X7 X4 rfl rfl rfl ?_ | refine Xj (b:=_) (cs:=[_,_,_,_]) X2a hS (k:=1) rfl X7 X4 rfl rfl rfl ?_ | refine Xj (b:=_) (cs:=[_,_,_,_]) X2a hS (k:=2) rfl X7 X4 rfl rfl rfl ?_ | refine Xj (b:=_) (cs:=[_,_,_,_]) X2a hS (k:=3) rfl X7 X4 rfl rfl rfl ?_
  have hS9:=((((hS.pick 2 rfl).pick 1 rfl).drop (k:=2) rfl).drop (k:=2) rfl)
  obtain ⟨M3,hM3,hRk,hS9⟩:=hS9.freezeVec (k:=1) rfl
  have hkq:X1k (X13 e) (tq.length+1) lq tq ks=some (ks,tq,lq):=by rw [X1k,if_pos hb66]
  rw [hkf,hkq] at hE1
  dsimp only at hE1
  have hnl:nm.length≤10000:=by omega
  refine ⟨_,rfl,M3,nm,aa,m,c,n1,ka,xs.length,kc,_,_,_,rfl,hJ.trans (hJM.trans hM3),?_,hS9⟩
  rw [hE1]
  rw [show (([60,47]:List UInt8) ++ nm ++ [62])=60::47::nm ++ [62] from rfl]
  cases hpq:Xa tq (60::47::nm ++ [62]) with
  | false=>rfl
  | true =>
   refine ⟨rfl,?_,rfl,?_⟩
   ·rw [if_pos rfl]; congr 1; simp only [List.length_cons,Y0,List.length_nil]
   ·refine ⟨hnl,by (try dsimp only [Nd.text]); show n1.length≤10000; omega,by show ps.length≤10000; omega,by show ks.length≤10000; omega,fun a ha=>by have:=hps a ha; omega,aa,c,ka,kc,xs,?_,?_,?_,?_,?_,hxk,hx4,fun i x k hx hk=>(hNd i x k hx hk).mono hM3⟩
    ·show [S nm,.slice aa m c,S n1,.slice ka xs.length kc]=[S nm,.slice aa ps.length c,S n1,.slice ka ks.length kc]
     rw [hmp,hxk]
    ·show ps.length≤c; omega
    ·show ks.length≤kc; omega
    ·have:=(hRS.mono hJM).mono hM3; rw [hmp] at this; exact this
    ·rw [hxk] at hRk; exact hRk
 have hc66:=hb66; try simp only [Y4] at hc66
 refine .skip (.seq (.region (.run 3 rfl ⟨⟨by omega,by omega⟩,trivial⟩ ?_)))
 refine WL.call Tryz.func104 rfl (X0 (.of rfl) (X0 (.of rfl) X1)) rfl (ih e rfl (deep+1) tq lq rb B _ M _ (by omega) (by push_cast at hd; omega) (by omega) h0q h1q (hK.mono (hJ.trans hJM)) hS) ?_
 clear hS
 rintro _ w ⟨M2,s1,a1,n1,m1,s2,a2,n2,m2,ok2,t7,l7,rfl,hM2,hE,hS⟩
 try dsimp only [List.eraseIdx] at hS
 refine .q 3 rfl (.allocA (cs:=[_,_,_,_]) hS X2s rfl ?_)
 clear hS; intro b10 w hS
 first | refine WL.stA hS (k:=0) rfl (.of rfl) (.of rfl) rfl X4 rfl (by simp) ?_ | refine WL.stA hS (k:=1) rfl (.of rfl) (.of rfl) rfl X4 rfl (by simp) ?_ | refine WL.stA hS (k:=2) rfl (.of rfl) (.of rfl) rfl X4 rfl (by simp) ?_ | refine WL.stA hS (k:=3) rfl (.of rfl) (.of rfl) rfl X4 rfl (by simp) ?_ | refine WL.stA hS (k:=4) rfl (.of rfl) (.of rfl) rfl X4 rfl (by simp) ?_
 clear hS; intro w hS; try dsimp only [List.set] at hS
 try simp only [Yb,Y6,Y8,Y2,Y5,Yc,Y7] at hS
 refine .q 1 rfl (.nil (.seq (.seq (.q 2 rfl ?_))))
 refine WC.cond rfl (fun hb75=>?_) (fun hb75=>?_)
 ·
  have hc75:=hb75; try simp only [Y4] at hc75
  refine .seq (.region (.val (.build (cs:=[_,_,_,_]) X3 Xr rfl) rfl ?_))
  first | refine WL.stA hS (k:=0) rfl (.of rfl) (.of rfl) rfl X4 rfl (by simp) ?_ | refine WL.stA hS (k:=1) rfl (.of rfl) (.of rfl) rfl X4 rfl (by simp) ?_ | refine WL.stA hS (k:=2) rfl (.of rfl) (.of rfl) rfl X4 rfl (by simp) ?_ | refine WL.stA hS (k:=3) rfl (.of rfl) (.of rfl) rfl X4 rfl (by simp) ?_ | refine WL.stA hS (k:=4) rfl (.of rfl) (.of rfl) rfl X4 rfl (by simp) ?_
  clear hS; intro w hS; try dsimp only [List.set] at hS
  try simp only [Yb,Y6,Y8,Y2,Y5,Yc,Y7] at hS
  refine .q 1 rfl (.nil (.ret ?_))
  first | refine Xj (b:=_) (cs:=[_,_,_,_]) X2a hS (k:=0) rfl X7 X4 rfl rfl rfl ?_ | refine Xj (b:=_) (cs:=[_,_,_,_]) X2a hS (k:=1) rfl X7 X4 rfl rfl rfl ?_ | refine Xj (b:=_) (cs:=[_,_,_,_]) X2a hS (k:=2) rfl X7 X4 rfl rfl rfl ?_ | refine Xj (b:=_) (cs:=[_,_,_,_]) X2a hS (k:=3) rfl X7 X4 rfl rfl rfl ?_ | refine Xj (b:=_) (cs:=[_,_,_,_]) X2a hS (k:=4) rfl X7 X4 rfl rfl rfl ?_
  refine ⟨_,rfl,M2,[],none,0,0,[],none,0,0,false,_,_,rfl,hJ.trans (hJM.trans hM2),?_,(((((hS.pick 1 rfl).drop (k:=1) rfl).drop (k:=1) rfl).drop (k:=1) rfl).drop (k:=1) rfl)⟩
  have hks:X1k (X13 e) (t5.length+1) (l - 1) t5 []=none:=by
   rw [hkf,X1k,if_neg (by rw [hb66]; decide)]
   cases hh:X13 e lq tq with
   | none=>rfl
   | some x=>obtain ⟨k,r,z⟩:=x; rw [hh] at hE; rw [hE.1] at hb75; cases hb75
  rw [hE1,hks]
 have hc75:=hb75; try simp only [Y4] at hc75
 refine .skip ?_
 have hok5:ok2=true:=by simpa using hb75
 obtain ⟨k,hEk,hNk⟩:∃ k,X13 e lq tq=some (k,t7,l7)∧NdV e M2 [S s1,.slice a1 n1 m1,S s2,.slice a2 n2 m2] k:=by
  cases hh:X13 e lq tq with
  | none=>rw [hh] at hE; rw [hE] at hok5; cases hok5
  | some x =>
   obtain ⟨k,r,z⟩:=x
   rw [hh] at hE
   obtain ⟨_,h2,h3,h4⟩:=hE
   subst h2; subst h3
   exact ⟨k,rfl,h4⟩
 have hshort:=X4o _ _ _ _ _ _ hEk
 have hlow:=X9m _ _ _ _ _ _ h0q hEk
 refine .region ?_
 first | refine WL.val (.fieldAddr 3 (.of rfl) Xq rfl rfl X21 rfl) rfl ?_ | refine WL.val (.fieldAddrI 3 (.of rfl) Xq rfl rfl X21 rfl) rfl ?_
 first | refine WL.val (.ld (.of rfl) hS (k:=0) rfl X1q rfl) rfl ?_ | refine WL.val (.ld (.of rfl) hS (k:=1) rfl X1q rfl) rfl ?_ | refine WL.val (.ld (.of rfl) hS (k:=2) rfl X1q rfl) rfl ?_ | refine WL.val (.ld (.of rfl) hS (k:=3) rfl X1q rfl) rfl ?_ | refine WL.val (.ld (.of rfl) hS (k:=4) rfl X1q rfl) rfl ?_
 first | refine WL.val (.ldsW (cs:=[_,_,_,_]) (.of rfl) hS (k:=0) rfl X7 X4 rfl) rfl ?_ | refine WL.val (.lds (vs:=[_,_,_,_]) (.of rfl) hS (k:=0) rfl X7 X4 rfl (fun _ _ h=>h)) rfl ?_ | refine WL.val (.ldsW (cs:=[_,_,_,_]) (.of rfl) hS (k:=1) rfl X7 X4 rfl) rfl ?_ | refine WL.val (.lds (vs:=[_,_,_,_]) (.of rfl) hS (k:=1) rfl X7 X4 rfl (fun _ _ h=>h)) rfl ?_ | refine WL.val (.ldsW (cs:=[_,_,_,_]) (.of rfl) hS (k:=2) rfl X7 X4 rfl) rfl ?_ | refine WL.val (.lds (vs:=[_,_,_,_]) (.of rfl) hS (k:=2) rfl X7 X4 rfl (fun _ _ h=>h)) rfl ?_ | refine WL.val (.ldsW (cs:=[_,_,_,_]) (.of rfl) hS (k:=3) rfl X7 X4 rfl) rfl ?_ | refine WL.val (.lds (vs:=[_,_,_,_]) (.of rfl) hS (k:=3) rfl X7 X4 rfl (fun _ _ h=>h)) rfl ?_ | refine WL.val (.ldsW (cs:=[_,_,_,_]) (.of rfl) hS (k:=4) rfl X7 X4 rfl) rfl ?_ | refine WL.val (.lds (vs:=[_,_,_,_]) (.of rfl) hS (k:=4) rfl X7 X4 rfl (fun _ _ h=>h)) rfl ?_
 refine .buildSlice (cs:=[_,_,_,_]) hS (X2 (.of rfl) X3) X1s X4 X2s rfl rfl rfl rfl ?_
 clear hS; intro b80 w hS
 first | refine WL.append (size:=4) (bytes:=80) hS (.of rfl) (.of rfl) (k:=0) rfl X1s X1l rfl rfl rfl rfl rfl rfl rfl ⟨by omega,by unfold maxLen; omega⟩ rfl ?_ | refine WL.append (size:=4) (bytes:=80) hS (.of rfl) (.of rfl) (k:=1) rfl X1s X1l rfl rfl rfl rfl rfl rfl rfl ⟨by omega,by unfold maxLen; omega⟩ rfl ?_ | refine WL.append (size:=4) (bytes:=80) hS (.of rfl) (.of rfl) (k:=2) rfl X1s X1l rfl rfl rfl rfl rfl rfl rfl ⟨by omega,by unfold maxLen; omega⟩ rfl ?_ | refine WL.append (size:=4) (bytes:=80) hS (.of rfl) (.of rfl) (k:=3) rfl X1s X1l rfl rfl rfl rfl rfl rfl rfl ⟨by omega,by unfold maxLen; omega⟩ rfl ?_ | refine WL.append (size:=4) (bytes:=80) hS (.of rfl) (.of rfl) (k:=4) rfl X1s X1l rfl rfl rfl rfl rfl rfl rfl ⟨by omega,by unfold maxLen; omega⟩ rfl ?_
 clear hS; intro v81 w hS; try dsimp only [List.set] at hS
 first | obtain ⟨a81,c81,rfl,hcap81,_⟩:=hS.vecSlice (k:=0) (v:=v81) rfl | obtain ⟨a81,c81,rfl,hcap81,_⟩:=hS.vecSlice (k:=1) (v:=v81) rfl | obtain ⟨a81,c81,rfl,hcap81,_⟩:=hS.vecSlice (k:=2) (v:=v81) rfl | obtain ⟨a81,c81,rfl,hcap81,_⟩:=hS.vecSlice (k:=3) (v:=v81) rfl | obtain ⟨a81,c81,rfl,hcap81,_⟩:=hS.vecSlice (k:=4) (v:=v81) rfl
 first | refine WL.val (.fieldAddr 3 (.of rfl) Xq rfl rfl X21 rfl) rfl ?_ | refine WL.val (.fieldAddrI 3 (.of rfl) Xq rfl rfl X21 rfl) rfl ?_
 first | refine WL.st1 hS (k:=0) rfl (.of rfl) (.of rfl) rfl X21 (by simp) ?_ | refine WL.st1 hS (k:=1) rfl (.of rfl) (.of rfl) rfl X21 (by simp) ?_ | refine WL.st1 hS (k:=2) rfl (.of rfl) (.of rfl) rfl X21 (by simp) ?_ | refine WL.st1 hS (k:=3) rfl (.of rfl) (.of rfl) rfl X21 (by simp) ?_ | refine WL.st1 hS (k:=4) rfl (.of rfl) (.of rfl) rfl X21 (by simp) ?_
 clear hS; intro w hS; try dsimp only [List.set] at hS
 refine .nil ?_
 replace hS:=(((((hS.pick 4 rfl).pick 4 rfl).pick 4 rfl).pick 4 rfl).drop (k:=4) rfl)
 have hxl9:(xs ++ [[S s1,.slice a1 n1 m1,S s2,.slice a2 n2 m2]]).length=xs.length+1:=by simp
 have hxf9:(xs ++ [[S s1,.slice a1 n1 m1,S s2,.slice a2 n2 m2]]).flatten=xs.flatten ++ [S s1,.slice a1 n1 m1,S s2,.slice a2 n2 m2]:=by simp
 refine ⟨(t7,l7,ks ++ [k],xs ++ [[S s1,.slice a1 n1 m1,S s2,.slice a2 n2 m2]],_,M2),⟨rfl,rfl,rfl,rfl,trivial⟩,⟨by (try dsimp only); omega,by (try dsimp only); omega,by (try dsimp only); omega,?_,hJM.trans hM2,by simp [hxk],fun x hx=>?_,fun i x k2 hx hk=>?_,by rw [Y0]; (try dsimp only [List.length_cons,List.length_nil]); omega,by rw [hxl9,hxf9]; exact hS⟩,by (try dsimp only); omega⟩
 ·rw [hkf,X1k,if_neg (by rw [hb66]; decide),hEk]
  exact X5j (fun l s k r l2 h=>X4o _ _ _ _ _ _ h) _ _ _ _ _ (by omega) (by omega)
 ·rcases Y1b.1 hx with h | h
  ·exact hx4 x h
  ·rw [Y20.1 h]; rfl
 ·rcases Yo i xs.length with h | h
  ·rw [Yl h] at hx
   rw [Yl (by omega)] at hk
   exact (hNd i x k2 hx hk).mono hM2
  ·have hi:i=xs.length:=by have:=(Y1.1 hx).1; rw [hxl9] at this; omega
   subst hi
   rw [Y16 (Yh _),Y3q] at hx
   rw [hxk,Y16 (Yh _),Y3q] at hk
   cases hx; cases hk
   exact hNk
theorem X7t:∀ (d:Nat) (deep:Int) (t:List UInt8) (l:Int) (rb:Nat) (B w:World) (I:Im) (As:List Xf),1≤deep→deep+(d:Int)=9→t.length≤10000→0≤l→l≤1000→Kx I→Sat B w I (blk rb [S (t),I64 (l)] 171::As)→Calls Tryz.prog 104 [ptr rb 0,I64 deep].toArray w (Ret fun v w'=>∃ J s1 a1 n1 m1 s2 a2 n2 m2 ok t' l',v=.tuple #[.agg ([S s1,.slice a1 n1 m1,S s2,.slice a2 n2 m2]:List Value).toArray,.bool ok]∧Le I J∧(match X13 d l t with
   | none=>ok=false
   | some (k,r,l2)=>ok=true∧t'=r∧l'=l2∧NdV d J [S s1,.slice a1 n1 m1,S s2,.slice a2 n2 m2] k)∧Sat B w' J (blk rb [S (t'),I64 (l')] 171::As)):=by
 intro d
 induction d with
 | zero=>exact fun deep t l rb B w I As=>X6s 0 (fun e he=>by omega) deep t l rb B w I As
 | succ d ih=>exact fun deep t l rb B w I As=>X6s (d+1) (fun e he=>by have:e=d:=(by omega); subst this; exact ih) deep t l rb B w I As
theorem Xa0:Bld Tryz.prog 171 [(0,1),(1,1)] [S [],.int .i64 0]:=X5s X10 Tryz.zeroValue171 (fun w=>by simp [go_sem])
theorem nd0_V (I:Im) (d:Nat):NdV (d+1) I [S [],.slice none 0 0,S [],.slice none 0 0] nd0:=by
 refine ⟨by decide,by decide,by decide,by decide,fun a h=>by simp [nd0,Nd.attrs] at h,none,0,none,0,[],rfl,Yh _,Yh _,RS.nil I 2,RS.nil I 4,rfl,fun x h=>by simp at h,fun i x k h _=>by simp at h⟩
set_option maxRecDepth 4000 in
theorem Xbl (s:List UInt8) (hl:s.length≤10000) (B w:World) (I:Im) (hK:Kx I) (As:List Xf) (hS:Sat B w I As) :
  Calls Tryz.prog 63 [S s].toArray w (Ret fun v w'=>∃ J s1 a1 n1 m1 s2 a2 n2 m2 e nd,v=.tuple #[.agg ([S s1,.slice a1 n1 m1,S s2,.slice a2 n2 m2]:List Value).toArray,I64 (e:Nat)]∧Le I J∧NdV 8 J [S s1,.slice a1 n1 m1,S s2,.slice a2 n2 m2] nd∧(X7z s=none∧e=10∧nd=nd0∨X7z s=some nd∧e=0)∧Sat B w' J As):=by
 refine calls Tryz.func63 rfl Tryz.ntmps63 rfl (.seq (.region (.allocA (cs:=[_,_,_,_]) hS X2s rfl ?_)))
 clear hS; intro b2 w hS
 refine .q 1 rfl (.nil (.seq (.t 1 rfl (.val (.build (cs:=[_,_]) (X2 (.of rfl) (X2 (.of rfl) X3)) Xa0 rfl) rfl (.boxA (cs:=[_,_]) hS (.of rfl) rfl ?_)))))
 clear hS; intro b9 w hS
 refine .q 1 rfl (.nil (.seq (.t 1 rfl (.call Tryz.func104 rfl (X0 (.of rfl) (X0 (.of rfl) X1)) rfl (X7t 8 1 s 200 b9 B _ I _ (by decide) (by decide) hl (by decide) (by decide) hK hS) ?_))))
 clear hS
 rintro _ w ⟨J,s1,a1,n1,m1,s2,a2,n2,m2,ok,t7,l7,rfl,hJ,hE,hS⟩
 try dsimp only [List.eraseIdx] at hS
 have hE2:∃ k,(X13 8 200 s=none∧ok=false)∨(X13 8 200 s=some (k,t7,l7)∧ok=true∧NdV 8 J [S s1,.slice a1 n1 m1,S s2,.slice a2 n2 m2] k):=by
  cases h:X13 8 200 s with
  | none=>rw [h] at hE; exact ⟨nd0,.inl ⟨rfl,hE⟩⟩
  | some x =>
   obtain ⟨k,r,z⟩:=x
   rw [h] at hE
   obtain ⟨h1,h2,h3,h4⟩:=hE
   subst h2; subst h3
   exact ⟨k,.inr ⟨rfl,h1,h4⟩⟩
 obtain ⟨k,hE2⟩:=hE2
 have hN9:ok=true→NdV 8 J [S s1,.slice a1 n1 m1,S s2,.slice a2 n2 m2] k:=fun h=>by
  rcases hE2 with ⟨_,h2⟩ | ⟨_,_,h4⟩
  ·rw [h2] at h; cases h
  ·exact h4
 refine .q 3 rfl (.allocA (cs:=[_,_,_,_]) hS X2s rfl ?_)
 clear hS; intro b5 w hS
 first | refine WL.stA hS (k:=0) rfl (.of rfl) (.of rfl) rfl X4 rfl (by simp) ?_ | refine WL.stA hS (k:=1) rfl (.of rfl) (.of rfl) rfl X4 rfl (by simp) ?_ | refine WL.stA hS (k:=2) rfl (.of rfl) (.of rfl) rfl X4 rfl (by simp) ?_
 clear hS; intro w hS; try dsimp only [List.set] at hS
 try simp only [Yb,Y6,Y8,Y2,Y5,Yc,Y7] at hS
 refine .q 1 rfl (.nil (.seq (.seq (.t 3 rfl (.gval rfl rfl (fun hg1=>(.move (.of rfl))) rfl (.gval rfl rfl (fun hg1=>(.nilCheck (.gd hg1 rfl))) rfl ?_))))))
 refine WL.gval rfl rfl (fun hg1=>(by first | exact .fieldAddr 0 (.gd hg1 rfl) X10 rfl rfl Qs9 rfl | exact .fieldAddrI 0 (.gd hg1 rfl) X10 rfl rfl Qs9 rfl)) rfl ?_
 refine WL.gval rfl rfl (fun hg1=>(by first | exact (.ld (.gd hg1 rfl) hS (k:=0) rfl Qg9 rfl) | exact (.ld (.gd hg1 rfl) hS (k:=1) rfl Qg9 rfl) | exact (.ld (.gd hg1 rfl) hS (k:=2) rfl Qg9 rfl))) rfl ?_
 refine .gval rfl rfl (fun hg1=>(.nes (.gd hg1 rfl) (.of rfl))) rfl (.val (.por (.of rfl) (.of rfl) (.of rfl)) rfl (.q 1 rfl ?_))
 refine WL.gval rfl rfl (fun hg1=>(by first | exact (.ldsW (cs:=[_,_,_,_]) (.of rfl) hS (k:=0) rfl X7 X4 rfl) | exact (.lds (vs:=[_,_,_,_]) (.of rfl) hS (k:=0) rfl X7 X4 rfl (fun _ _ h=>h)) | exact (.ldsW (cs:=[_,_,_,_]) (.of rfl) hS (k:=1) rfl X7 X4 rfl) | exact (.lds (vs:=[_,_,_,_]) (.of rfl) hS (k:=1) rfl X7 X4 rfl (fun _ _ h=>h)) | exact (.ldsW (cs:=[_,_,_,_]) (.of rfl) hS (k:=2) rfl X7 X4 rfl) | exact (.lds (vs:=[_,_,_,_]) (.of rfl) hS (k:=2) rfl X7 X4 rfl (fun _ _ h=>h)))) rfl ?_
 refine WL.gcall (T:=fun w=>Sat B w J (blk b5 [S s1,.slice a1 n1 m1,S s2,.slice a2 n2 m2] 126::blk b9 [S t7,I64 l7] 171::blk b2 [S [],.slice none 0 0,S [],.slice none 0 0] 126::As)) rfl rfl rfl Tryz.func105 rfl (fun hg1=>(X0 (.gd hg1 rfl) X1)) rfl (fun hg1=>X5i k [S s1,.slice a1 n1 m1,S s2,.slice a2 n2 m2] B _ J (hN9 (by revert hg1; cases ok <;> simp)) _ hS) hS ?_
 clear hS; rintro w hS
 refine .gval rfl rfl (fun hg1=>(.not (.gd hg1 rfl))) rfl (.val (.por (.of rfl) (.of rfl) (.of rfl)) rfl (.nil ?_))
 refine WC.cond rfl (fun hb28=>?_) (fun hb28=>?_)
 ·
  have hc28:=hb28; try simp only [Y4] at hc28
  refine .seq (.region (.val (.build (cs:=[_,_,_,_]) X3 Xr rfl) rfl ?_))
  first | refine WL.stA hS (k:=0) rfl (.of rfl) (.of rfl) rfl X4 rfl (by simp) ?_ | refine WL.stA hS (k:=1) rfl (.of rfl) (.of rfl) rfl X4 rfl (by simp) ?_ | refine WL.stA hS (k:=2) rfl (.of rfl) (.of rfl) rfl X4 rfl (by simp) ?_
  clear hS; intro w hS; try dsimp only [List.set] at hS
  try simp only [Yb,Y6,Y8,Y2,Y5,Yc,Y7] at hS
  refine .q 1 rfl (.nil (.ret ?_))
  first | refine Xj (b:=_) (cs:=[_,_,_,_]) Qr63 hS (k:=0) rfl X7 X4 rfl rfl rfl ?_ | refine Xj (b:=_) (cs:=[_,_,_,_]) Qr63 hS (k:=1) rfl X7 X4 rfl rfl rfl ?_ | refine Xj (b:=_) (cs:=[_,_,_,_]) Qr63 hS (k:=2) rfl X7 X4 rfl rfl rfl ?_
  refine ⟨_,rfl,J,[],none,0,0,[],none,0,0,10,nd0,rfl,hJ,nd0_V J 7,.inl ⟨?_,rfl,rfl⟩,(((hS.drop (k:=0) rfl).drop (k:=0) rfl).drop (k:=0) rfl)⟩
  unfold X7z
  rcases hE2 with ⟨h,_⟩ | ⟨h,h2,_⟩
  ·rw [h]
  ·rw [h]
   dsimp only
   rw [if_pos]
   rw [h2] at hb28
   revert hb28
   cases (X1f 8 200 k) <;> simp
 have hc28:=hb28; try simp only [Y4] at hc28
 refine .skip (.seq (.region ?_))
 first | refine WL.val (.ldsW (cs:=[_,_,_,_]) (.of rfl) hS (k:=0) rfl X7 X4 rfl) rfl ?_ | refine WL.val (.lds (vs:=[_,_,_,_]) (.of rfl) hS (k:=0) rfl X7 X4 rfl (fun _ _ h=>h)) rfl ?_ | refine WL.val (.ldsW (cs:=[_,_,_,_]) (.of rfl) hS (k:=1) rfl X7 X4 rfl) rfl ?_ | refine WL.val (.lds (vs:=[_,_,_,_]) (.of rfl) hS (k:=1) rfl X7 X4 rfl (fun _ _ h=>h)) rfl ?_ | refine WL.val (.ldsW (cs:=[_,_,_,_]) (.of rfl) hS (k:=2) rfl X7 X4 rfl) rfl ?_ | refine WL.val (.lds (vs:=[_,_,_,_]) (.of rfl) hS (k:=2) rfl X7 X4 rfl (fun _ _ h=>h)) rfl ?_
 first | refine WL.stA hS (k:=0) rfl (.of rfl) (.of rfl) rfl X4 rfl (by simp) ?_ | refine WL.stA hS (k:=1) rfl (.of rfl) (.of rfl) rfl X4 rfl (by simp) ?_ | refine WL.stA hS (k:=2) rfl (.of rfl) (.of rfl) rfl X4 rfl (by simp) ?_
 clear hS; intro w hS; try dsimp only [List.set] at hS
 try simp only [Yb,Y6,Y8,Y2,Y5,Yc,Y7] at hS
 refine .q 1 rfl (.nil (.ret ?_))
 first | refine Xj (b:=_) (cs:=[_,_,_,_]) Qr63 hS (k:=0) rfl X7 X4 rfl rfl rfl ?_ | refine Xj (b:=_) (cs:=[_,_,_,_]) Qr63 hS (k:=1) rfl X7 X4 rfl rfl rfl ?_ | refine Xj (b:=_) (cs:=[_,_,_,_]) Qr63 hS (k:=2) rfl X7 X4 rfl rfl rfl ?_
 have hb8:=hb28
 simp only [Yi,Y11] at hb8
 obtain ⟨⟨h1,h2⟩,h3⟩:=hb8
 refine ⟨_,rfl,J,_,_,_,_,_,_,_,_,0,k,rfl,hJ,hN9 h1,.inr ⟨?_,rfl⟩,(((hS.drop (k:=0) rfl).drop (k:=0) rfl).drop (k:=0) rfl)⟩
 unfold X7z
 rcases hE2 with ⟨_,h⟩ | ⟨h,_,_⟩
 ·rw [h1] at h; cases h
 ·rw [h]
  dsimp only
  rw [if_neg]
  rintro (h5 | h5)
  ·exact h5 (by simpa using h2)
  ·rw [Option.isNone_iff_eq_none] at h5; rw [h5] at h3; cases h3
abbrev Cl:=List UInt8×Option Addr×Nat×Nat×List UInt8×Option Addr×Nat×Nat
def clC (c:Cl):List Value:=[S c.1,.slice c.2.1 c.2.2.1 c.2.2.2.1,S c.2.2.2.2.1,.slice c.2.2.2.2.2.1 c.2.2.2.2.2.2.1 c.2.2.2.2.2.2.2]
theorem Xe3 {d:Nat} {I:Im}:∀ {xs:List (List Value)} {ks:List Nd},xs.length=ks.length→(∀ (i:Nat) x k,xs[i]?=some x→ks[i]?=some k→NdV d I x k)→∃ ys:List Cl,xs=ys.map clC
 | [],_,_,_=>⟨[],rfl⟩
 | x::xs,[],h,_=>by simp at h
 | x::xs,k::ks,h,hN=>by
  obtain ⟨s1,a1,n1,m1,s2,a2,n2,m2,rfl⟩:=(hN 0 x k rfl rfl).cells
  obtain ⟨ys,rfl⟩:=Xe3 (xs:=xs) (ks:=ks) (by simpa using h) (fun i x k hx hk=>hN (i+1) x k hx hk)
  exact ⟨(s1,a1,n1,m1,s2,a2,n2,m2)::ys,rfl⟩
theorem NdV.name {I:Im}:∀ {d:Nat} {c:Cl} {n:Nd},NdV d I (clC c) n→c.1=n.name
 | 0,_,_,h=>h.elim
 | d+1,c,n,h=>by
  obtain ⟨h1,h2,h3,h4,h5,aa,ca,ka,ck,xs,h6,_⟩:=h
  injection h6 with h6; injection h6 with h6; injection h6 with h6; simpa using h6
theorem X36 {α:Type} (pr:α→Bool):∀ (l:List α) (k:Nat),(Xw pr l k=-1∧∀ x∈l,pr x=false)∨∃ j x,Xw pr l k=((k+j:Nat):Int)∧l[j]?=some x∧pr x=true∧∀ (i:Nat) y,i<j→l[i]?=some y→pr y=false
 | [],_=>.inl ⟨rfl,by simp⟩
 | a::l,k=>by
  rw [Xw]
  cases ha:pr a with
  | true=>exact .inr ⟨0,a,by simp,rfl,ha,fun _ _ h=>absurd h (by omega)⟩
  | false =>
   rcases X36 pr l (k+1) with ⟨h1,h2⟩ | ⟨j,x,h1,h2,h3,h4⟩
   ·refine .inl ⟨by simpa using h1,fun x hx=>?_⟩
    rcases Y19.1 hx with rfl | hx
    ·exact ha
    ·exact h2 x hx
   ·refine .inr ⟨j+1,x,by simp only [Yp,if_false]; rw [h1]; congr 1; omega,by simpa using h2,h3,fun i y hi hy=>?_⟩
    cases i with
    | zero=>cases hy; exact ha
    | succ i=>exact h4 i y (by omega) (by simpa using hy)
def X5x (n:Nd) (p:List UInt8):Option Nd:=n.kids.find? fun k=>k.name == p
theorem Xbu {α:Type} {pr:α→Bool}:∀ {l:List α} {j:Nat} {x:α},l[j]?=some x→pr x=true→(∀ (i:Nat) y,i<j→l[i]?=some y→pr y=false)→l.find? pr=some x
 | [],j,x,h,_,_=>by simp at h
 | a::l,0,x,h,hp,_=>by cases h; rw [Y2j,hp]
 | a::l,j+1,x,h,hp,hn=>by
  rw [Y2j,hn 0 a (by omega) rfl]
  exact Xbu (l:=l) (j:=j) (by simpa using h) hp (fun i y hi hy=>hn (i+1) y (by omega) (by simpa using hy))
theorem X5b (a:Option Addr) (cap:Nat) (l:List (Cl)) (hln:l.length≤9223372036854775807) (pr:Cl→Bool) (fid:FuncId) (fn:Func) (hfn:Tryz.prog.funcs[fid]?=some fn) (hcal:Xk fn=true) (capv:List Value) (B w:World) (I:Im) (As:List Xf) (hE:∀ w,Sat B w I As→X7n w clC 4 a l) (hf:∀ (r:Cl) (hr:r∈l) w,Sat B w I As→Calls Tryz.prog fid ([Value.agg (clC r).toArray] ++ capv).toArray w (Ret fun v w'=>v=.bool (pr r)∧Sat B w' I As)) (hS:Sat B w I As) :
  Calls Tryz.prog 106 [.slice a l.length cap,.func (.func fid) #[] capv.toArray].toArray w (Ret fun v w'=>v=I64 (Xw pr l 0)∧Sat B w' I As):=by
 refine calls Tryz.func106 rfl Tryz.ntmps106 rfl (.seq (.q 1 rfl (.seq (.seq (.region (.run 3 rfl ⟨⟨_,X1s⟩,trivial⟩ (.nil (.block (.loop (σ:=Nat) (fun i=>[(0,.slice a l.length cap),(1,.func (.func fid) #[] capv.toArray),(7,I64 (l.length:Nat)),(8,I64 (i:Nat))]) (fun i w=>i≤l.length∧(∀ (j:Nat) t,j<i→l[j]?=some t→pr t=false)∧Sat B w I As) (fun i=>l.length - i) 0 ⟨rfl,rfl,rfl,rfl,trivial⟩ ⟨Yk _,fun _ _ h=>absurd h (by omega),hS⟩ ?_)))))))))
 rintro i w ⟨hi,hno,hS⟩
 change WC _ _ _ _ [(0,.slice a l.length cap),(1,.func (.func fid) #[] capv.toArray),(7,I64 (l.length:Nat)),(8,I64 (i:Nat))] w
 refine .seq (.q 1 rfl (.seq ?_))
 refine WC.cond rfl (fun hb9=>?_) (fun hb9=>?_)
 ·
  have hc9:=hb9; try simp only [Y4] at hc9
  refine .skip (.seq (.block (.seq ?_)))
  obtain ⟨r,hr⟩:∃ r,l[i]?=some r:=⟨_,Y3 (by omega)⟩
  obtain ⟨p,rfl,hx⟩:=hE w hS i r hr
  refine .q 2 rfl (.seq (.t 3 rfl ?_))
  first | refine WL.val (.indexAddr (.of rfl) (.of rfl) (by omega) (by omega) X1s X4) rfl ?_ | refine WL.val (.indexAddrI (.of rfl) (.of rfl) (by omega) (by omega) X1s X4) rfl ?_
  refine .val (.ldR (.of rfl) hx X7 X4 rfl) rfl (.vcall (cap:=capv) hfn hcal (.of rfl) (X0 (.of rfl) X1) rfl (hf r (Yj hr) w hS) ?_)
  clear hS
  rintro _ w ⟨rfl,hS⟩
  refine .nil ?_
  refine WC.cond rfl (fun hb16=>?_) (fun hb16=>?_)
  ·
   have hc16:=hb16; try simp only [Y4] at hc16
   refine .seq (.q 2 rfl (.ret (Xl Tryz.results106 rfl ?_)))
   exact ⟨_,rfl,by rw [X3p hno hr hb16],hS⟩
  have hc16:=hb16; try simp only [Y4] at hc16
  refine .skip (.region (.run 2 rfl ⟨⟨by omega,by omega⟩,trivial⟩ (.nil ?_)))
  refine ⟨i+1,⟨rfl,rfl,rfl,rfl,trivial⟩,⟨by (try dsimp only); omega,fun j t hj ht=>?_,hS⟩,by (try dsimp only); omega⟩
  rcases Yo j i with h1 | h1
  ·exact hno j t h1 ht
  ·have e:j=i:=by omega
   subst e
   rw [hr] at ht; cases ht
   exact hb16
 have hc9:=hb9; try simp only [Y4] at hc9
 refine .exit (.seq (.q 1 rfl (.ret (Xl Tryz.results106 rfl ?_))))
 exact ⟨_,rfl,by rw [X2u (fun j t ht=>hno j t (by have:=(Y1.1 ht).1; omega) ht)],hS⟩
theorem Xb4 (r:Cl) (p:List UInt8) (b7:Nat) (B w:World) (I:Im) (As:List Xf) (hS:Sat B w I (blk b7 [S p] 9::As)) :
  Calls Tryz.prog 107 [.agg (clC r).toArray,ptr b7 0].toArray w (Ret fun v w'=>v=.bool (r.1 == p)∧Sat B w' I (blk b7 [S p] 9::As)):=by
 refine calls Tryz.func107 rfl Tryz.ntmps107 rfl (.seq (.region (.boxA (cs:=[_,_,_,_]) hS (.of rfl) rfl ?_)))
 clear hS; intro b2 w hS
 refine .q 1 rfl (.nil (.seq (.region ?_)))
 first | refine WL.val (.fieldAddr 0 (.of rfl) Xq rfl rfl Qs9 rfl) rfl ?_ | refine WL.val (.fieldAddrI 0 (.of rfl) Xq rfl rfl Qs9 rfl) rfl ?_
 first | refine WL.val (.ld (.of rfl) hS (k:=0) rfl Qg9 rfl) rfl ?_ | refine WL.val (.ld (.of rfl) hS (k:=1) rfl Qg9 rfl) rfl ?_
 first | refine WL.val (.ld (.of rfl) hS (k:=0) rfl Qg9 rfl) rfl ?_ | refine WL.val (.ld (.of rfl) hS (k:=1) rfl Qg9 rfl) rfl ?_
 refine .q 2 rfl (.nil (.ret (Xl Tryz.results107 rfl ?_)))
 exact ⟨_,rfl,rfl,hS.drop (k:=0) rfl⟩
set_option maxRecDepth 4000 in
theorem Xau (n:Nd) (p:List UInt8) (s1:List UInt8) (a1:Option Addr) (n1 m1:Nat) (s2:List UInt8) (a2:Option Addr) (n2 m2:Nat) (pb:Nat) (B w:World) (I:Im) (hN:NdV 8 I [S s1,.slice a1 n1 m1,S s2,.slice a2 n2 m2] n) (As:List Xf) (hS:Sat B w I (blk pb [S p] 9::As)) :
  Calls Tryz.prog 64 [.agg ([S s1,.slice a1 n1 m1,S s2,.slice a2 n2 m2]:List Value).toArray,.slice (some (ad pb 0)) 1 1].toArray w (Ret fun v w'=>∃ t1 b1 k1 l1 t2 b2 k2 l2 ok nd,v=.tuple #[.agg ([S t1,.slice b1 k1 l1,S t2,.slice b2 k2 l2]:List Value).toArray,.bool ok]∧(X5x n p=none∧ok=false∨X5x n p=some nd∧ok=true)∧(∃ d,NdV d I [S t1,.slice b1 k1 l1,S t2,.slice b2 k2 l2] nd)∧Sat B w' I (blk pb [S p] 9::As)):=by
 refine calls Tryz.func64 rfl Tryz.ntmps64 rfl (.seq (.region (.boxA (cs:=[_,_,_,_]) hS (.of rfl) rfl ?_)))
 clear hS; intro b2 w hS
 refine .allocA (cs:=[_,_,_,_]) hS X2s rfl ?_
 clear hS; intro b4 w hS
 refine .q 1 rfl (.nil (.seq (.seq (.region (.run 3 rfl ⟨⟨_,Qu87⟩,trivial⟩ (.nil (.block ?_)))))))
 have hS0:=hS; clear hS
 refine .loop (σ:=Nat×Nat×Nd×Cl) (fun ⟨i,d,nd,s1,a1,n1,m1,s2,a2,n2,m2⟩=>[(2,ptr b2 0),(4,ptr b4 0),(9,.slice (some (ad pb 0)) 1 1),(10,I64 ((1:Nat):Int)),(11,I64 (i:Nat))]) (fun ⟨i,d,nd,s1,a1,n1,m1,s2,a2,n2,m2⟩ w=>(i=0∧nd=n∨i=1∧X5x n p=some nd)∧NdV (d+1 - i) I [S s1,.slice a1 n1 m1,S s2,.slice a2 n2 m2] nd∧(i=0→d=7)∧Sat B w I (blk b4 [S [],.slice none 0 0,S [],.slice none 0 0] 126::blk b2 [S s1,.slice a1 n1 m1,S s2,.slice a2 n2 m2] 126::blk pb [S p] 9::As)) (fun ⟨i,d,nd,s1,a1,n1,m1,s2,a2,n2,m2⟩=>1 - i) (0,7,n,s1,a1,n1,m1,s2,a2,n2,m2) ⟨rfl,rfl,rfl,rfl,rfl,trivial⟩ ⟨.inl ⟨rfl,rfl⟩,hN,fun _=>rfl,hS0⟩ ?_
 rintro ⟨i,d,nd,s1,a1,n1,m1,s2,a2,n2,m2⟩ w ⟨hin,hNd,hd7,hS⟩
 change WC _ _ _ _ [(2,ptr b2 0),(4,ptr b4 0),(9,.slice (some (ad pb 0)) 1 1),(10,I64 ((1:Nat):Int)),(11,I64 (i:Nat))] w
 clear hS0
 refine .seq (.q 1 rfl (.seq ?_))
 refine WC.cond rfl (fun hb12=>?_) (fun hb12=>?_)
 ·
  have hc12:=hb12; try simp only [Y4] at hc12
  refine .skip (.seq (.block (.seq ?_)))
  have hi0:i=0:=by omega
  subst hi0
  obtain rfl:=hd7 rfl
  obtain rfl:nd=n:=by
   rcases hin with ⟨_,h⟩ | ⟨h,_⟩
   ·exact h
   ·omega
  replace hNd:NdV 8 I [S s1,.slice a1 n1 m1,S s2,.slice a2 n2 m2] nd:=hNd
  refine .region ?_
  first | refine WL.val (.indexAddr (.of rfl) (.of rfl) (by omega) (by omega) Qu87 Qs9) rfl ?_ | refine WL.val (.indexAddrI (.of rfl) (.of rfl) (by omega) (by omega) Qu87 Qs9) rfl ?_
  first | refine WL.val (.ld (.of rfl) hS (k:=0) rfl Qg9 rfl) rfl ?_ | refine WL.val (.ld (.of rfl) hS (k:=1) rfl Qg9 rfl) rfl ?_ | refine WL.val (.ld (.of rfl) hS (k:=2) rfl Qg9 rfl) rfl ?_
  refine .alloc1 hS Qz9 rfl rfl ?_
  clear hS; intro b7 w hS
  first | refine WL.st1 hS (k:=0) rfl (.of rfl) (.of rfl) rfl Qs9 (by simp) ?_ | refine WL.st1 hS (k:=1) rfl (.of rfl) (.of rfl) rfl Qs9 (by simp) ?_ | refine WL.st1 hS (k:=2) rfl (.of rfl) (.of rfl) rfl Qs9 (by simp) ?_ | refine WL.st1 hS (k:=3) rfl (.of rfl) (.of rfl) rfl Qs9 (by simp) ?_
  clear hS; intro w hS; try dsimp only [List.set] at hS
  refine .nil (.seq ?_)
  obtain ⟨hnl,htl,hal,hkl,hat,aa,ca,ka,ck,xs,hcs,hca,hck,hRa,hRk,hxl,hx4,hKD⟩:=hNd
  obtain ⟨ys,rfl⟩:=Xe3 hxl hKD
  have hyl:ys.length=nd.kids.length:=by simpa using hxl
  injection hcs with e1 hcs; injection hcs with e2 hcs; injection hcs with e3 hcs; injection hcs with e4 hcs
  injection e1 with e1; injection e3 with e3; injection e2 with e2 e2b e2c; injection e4 with e4 e4b e4c
  rw [← hyl] at e4b hRk
  subst e4; subst e4b; subst e4c
  have hnm:∀ (i:Nat) y k,ys[i]?=some y→nd.kids[i]?=some k→y.1=k.name:=fun i y k hy hk=>NdV.name (hKD i _ k (by rw [Y1e,hy]; rfl) hk)
  refine .region ?_
  first | refine WL.val (.fieldAddr 3 (.of rfl) Xq rfl rfl X21 rfl) rfl ?_ | refine WL.val (.fieldAddrI 3 (.of rfl) Xq rfl rfl X21 rfl) rfl ?_
  first | refine WL.val (.ld (.of rfl) hS (k:=0) rfl X1q rfl) rfl ?_ | refine WL.val (.ld (.of rfl) hS (k:=1) rfl X1q rfl) rfl ?_ | refine WL.val (.ld (.of rfl) hS (k:=2) rfl X1q rfl) rfl ?_ | refine WL.val (.ld (.of rfl) hS (k:=3) rfl X1q rfl) rfl ?_
  refine .val (.makeFunc (X0 (.of rfl) X1)) rfl (.call Tryz.func106 rfl (X0 (.of rfl) (X0 (.of rfl) X1)) rfl (X5b a2 m2 ys (by omega) (fun r=>r.1 == p) 107 _ Tryz.func107 rfl [ptr b7 0] B _ I _ (fun w h=>X56 (cells:=clC) (s:=4) (fun _=>rfl) h (by exact hRk)) (fun r hr w h=>Xb4 r p b7 B w I _ h) hS) ?_)
  clear hS
  rintro _ w ⟨rfl,hS⟩
  try dsimp only [List.eraseIdx] at hS
  have hfi:=X36 (fun r:Cl=>r.1 == p) ys 0
  generalize Xw (fun r:Cl=>r.1 == p) ys 0=ix at hfi
  refine .q 1 rfl (.nil (.seq (.seq (.q 2 rfl ?_))))
  refine WC.cond rfl (fun hb20=>?_) (fun hb20=>?_)
  ·
   have hc20:=hb20; try simp only [Y4] at hc20
   refine .seq (.region (.val (.build (cs:=[_,_,_,_]) X3 Xr rfl) rfl ?_))
   first | refine WL.stA hS (k:=0) rfl (.of rfl) (.of rfl) rfl X4 rfl (by simp) ?_ | refine WL.stA hS (k:=1) rfl (.of rfl) (.of rfl) rfl X4 rfl (by simp) ?_ | refine WL.stA hS (k:=2) rfl (.of rfl) (.of rfl) rfl X4 rfl (by simp) ?_ | refine WL.stA hS (k:=3) rfl (.of rfl) (.of rfl) rfl X4 rfl (by simp) ?_
   clear hS; intro w hS; try dsimp only [List.set] at hS
   try simp only [Yb,Y6,Y8,Y2,Y5,Yc,Y7] at hS
   refine .q 1 rfl (.nil (.ret ?_))
   first | refine Xj (b:=_) (cs:=[_,_,_,_]) Xei hS (k:=0) rfl X7 X4 rfl rfl rfl ?_ | refine Xj (b:=_) (cs:=[_,_,_,_]) Xei hS (k:=1) rfl X7 X4 rfl rfl rfl ?_ | refine Xj (b:=_) (cs:=[_,_,_,_]) Xei hS (k:=2) rfl X7 X4 rfl rfl rfl ?_ | refine Xj (b:=_) (cs:=[_,_,_,_]) Xei hS (k:=3) rfl X7 X4 rfl rfl rfl ?_
   refine ⟨_,rfl,[],none,0,0,[],none,0,0,false,nd0,rfl,.inl ⟨?_,rfl⟩,⟨_,nd0_V I 6⟩,((((hS.pick 3 rfl).drop (k:=1) rfl).drop (k:=1) rfl).drop (k:=1) rfl)⟩
   unfold X5x
   rw [List.find?_eq_none]
   intro k hk
   obtain ⟨i,hi⟩:=Y1d.1 hk
   obtain ⟨y,hy⟩:∃ y,ys[i]?=some y:=⟨_,Y3 (by have:=(Y1.1 hi).1; omega)⟩
   rcases hfi with ⟨_,h⟩ | ⟨j,y2,h1,_⟩
   ·have:=h y (Yj hy)
    rw [hnm i y k hy hi] at this
    simpa using this
   ·rw [h1] at hc20; omega
  have hc20:=hb20; try simp only [Y4] at hc20
  refine .skip ?_
  obtain ⟨j,y,hj,hyj,hpy,hfst⟩:∃ j y,ix=((j:Nat):Int)∧ys[j]?=some y∧(y.1 == p)=true∧∀ (i:Nat) y,i<j→ys[i]?=some y→(y.1 == p)=false:=by
   rcases hfi with ⟨h,_⟩ | ⟨j,y,h1,h2,h3,h4⟩
   ·rw [h] at hc20; omega
   ·exact ⟨j,y,by simpa using h1,h2,h3,h4⟩
  subst hj
  have hjl:=(Y1.1 hyj).1
  obtain ⟨k,hk⟩:∃ k,nd.kids[j]?=some k:=⟨_,Y3 (by omega)⟩
  obtain ⟨q,hq9,hx⟩:=Xc0 hRk (by rw [Y25]) hx4 (i:=j) (x:=clC y) (by rw [Y1e,hyj]; rfl)
  have hNk:=hKD j (clC y) k (by rw [Y1e,hyj]; rfl) hk
  have hkd:X5x nd p=some k:=Xbu hk (by rw [← hnm j y k hyj hk]; exact hpy) (fun i k2 hi hk2=>by
   obtain ⟨y2,hy2⟩:∃ y,ys[i]?=some y:=⟨_,Y3 (by omega)⟩
   rw [← hnm i y2 k2 hy2 hk2]
   exact hfst i y2 hi hy2)
  obtain ⟨s3,a3,n3,m3,s4,a4,n4,m4⟩:=y
  unfold clC at hx hNk
  dsimp only at hx hNk
  subst hq9
  refine .region ?_
  first | refine WL.val (.fieldAddr 3 (.of rfl) Xq rfl rfl X21 rfl) rfl ?_ | refine WL.val (.fieldAddrI 3 (.of rfl) Xq rfl rfl X21 rfl) rfl ?_
  first | refine WL.val (.ld (.of rfl) hS (k:=0) rfl X1q rfl) rfl ?_ | refine WL.val (.ld (.of rfl) hS (k:=1) rfl X1q rfl) rfl ?_ | refine WL.val (.ld (.of rfl) hS (k:=2) rfl X1q rfl) rfl ?_ | refine WL.val (.ld (.of rfl) hS (k:=3) rfl X1q rfl) rfl ?_
  refine .q 1 rfl ?_
  first | refine WL.val (.indexAddr (.of rfl) (.of rfl) (by omega) (by omega) X1s X4) rfl ?_ | refine WL.val (.indexAddrI (.of rfl) (.of rfl) (by omega) (by omega) X1s X4) rfl ?_
  rw [Y9]
  refine .val (.ldsI (us:=[S s3,.slice a3 n3 m3,S s4,.slice a4 n4 m4]) (.of rfl) hS hx X7 X4 rfl (fun _ _ h=>h)) rfl ?_
  first | refine WL.stA hS (k:=0) rfl (.of rfl) (.of rfl) rfl X4 rfl (by simp) ?_ | refine WL.stA hS (k:=1) rfl (.of rfl) (.of rfl) rfl X4 rfl (by simp) ?_ | refine WL.stA hS (k:=2) rfl (.of rfl) (.of rfl) rfl X4 rfl (by simp) ?_ | refine WL.stA hS (k:=3) rfl (.of rfl) (.of rfl) rfl X4 rfl (by simp) ?_
  clear hS; intro w hS; try dsimp only [List.set] at hS
  try simp only [Yb,Y6,Y8,Y2,Y5,Yc,Y7] at hS
  refine .nil (.region (.run 2 rfl ⟨⟨by omega,by omega⟩,trivial⟩ (.nil ?_)))
  exact ⟨(0+1,7,k,s3,a3,n3,m3,s4,a4,n4,m4),⟨rfl,rfl,rfl,rfl,rfl,trivial⟩,⟨.inr ⟨rfl,hkd⟩,hNk,fun h=>by simp at h,((((hS.pick 3 rfl).pick 3 rfl).pick 3 rfl).drop (k:=3) rfl)⟩,by simp⟩
 have hc12:=hb12; try simp only [Y4] at hc12
 refine .exit (.seq (.region ?_))
 first | refine WL.val (.ldsW (cs:=[_,_,_,_]) (.of rfl) hS (k:=0) rfl X7 X4 rfl) rfl ?_ | refine WL.val (.lds (vs:=[_,_,_,_]) (.of rfl) hS (k:=0) rfl X7 X4 rfl (fun _ _ h=>h)) rfl ?_ | refine WL.val (.ldsW (cs:=[_,_,_,_]) (.of rfl) hS (k:=1) rfl X7 X4 rfl) rfl ?_ | refine WL.val (.lds (vs:=[_,_,_,_]) (.of rfl) hS (k:=1) rfl X7 X4 rfl (fun _ _ h=>h)) rfl ?_ | refine WL.val (.ldsW (cs:=[_,_,_,_]) (.of rfl) hS (k:=2) rfl X7 X4 rfl) rfl ?_ | refine WL.val (.lds (vs:=[_,_,_,_]) (.of rfl) hS (k:=2) rfl X7 X4 rfl (fun _ _ h=>h)) rfl ?_
 first | refine WL.stA hS (k:=0) rfl (.of rfl) (.of rfl) rfl X4 rfl (by simp) ?_ | refine WL.stA hS (k:=1) rfl (.of rfl) (.of rfl) rfl X4 rfl (by simp) ?_ | refine WL.stA hS (k:=2) rfl (.of rfl) (.of rfl) rfl X4 rfl (by simp) ?_
 clear hS; intro w hS; try dsimp only [List.set] at hS
 try simp only [Yb,Y6,Y8,Y2,Y5,Yc,Y7] at hS
 refine .q 1 rfl (.nil (.ret ?_))
 first | refine Xj (b:=_) (cs:=[_,_,_,_]) Xei hS (k:=0) rfl X7 X4 rfl rfl rfl ?_ | refine Xj (b:=_) (cs:=[_,_,_,_]) Xei hS (k:=1) rfl X7 X4 rfl rfl rfl ?_ | refine Xj (b:=_) (cs:=[_,_,_,_]) Xei hS (k:=2) rfl X7 X4 rfl rfl rfl ?_
 have hi1:i=1:=by rcases hin with ⟨h,_⟩ | ⟨h,_⟩ <;> omega
 subst hi1
 have hkd:X5x n p=some nd:=by
  rcases hin with ⟨h,_⟩ | h
  ·omega
  ·exact h.2
 exact ⟨_,rfl,s1,a1,n1,m1,s2,a2,n2,m2,true,nd,rfl,.inr ⟨hkd,rfl⟩,⟨d,hNd⟩,(((hS.pick 2 rfl).drop (k:=1) rfl).drop (k:=1) rfl)⟩
end Go.Proofs.YtbciobiiejpdgaaGreatDoor
namespace Go.Proofs.YtbciobiiejpdgaaGreatDoor
open Gk Ul Pc Tk Tr
def PREV:List (List UInt8):=[[],pre 1,pre 2,pre 3,pre 4,pre 5,pre 6]
def PreAt (I:Im):Prop:=At I (ad 1 0) (PREV.map S)
theorem PreAt.mono {I J:Im} (h:PreAt I) (hl:Le I J):PreAt J:=At.mono h hl
def X77 (k:Int):List UInt8:=if k<1∨6<k then [] else pre k.toNat
theorem Ex.slcArr {P:Program} {n:Nat} {L:Env} {w:World} {d:Option Nat} {ty:TypeId} {pos:String} {af:Array Edge} {gg:Option (Nat×Bool)} {t e:TypeId} {x:Operand} {p:Addr} {m s:Nat} (hx:Ev n L x (.pointer (some p))) (ht:P.underlying t=some (.array m e)) (hs:∀ w,(Go.sizeOf e).run P w=.ok s w) :
  Ex P n L w ⟨d,.slice t x none none none,ty,pos,af,gg⟩ (.slice (some (if m=0 then p else p.add (0*s))) (m - 0) (m - 0)) w:=fun a ha=>by
 obtain ⟨e1,e2⟩:=X6a ht
 have h:=run_sliceAt_array_all (P:=P) w t p (by rw [e1,e2]; exact ht)
 rw [e1,e2,hs] at h
 simp [execOp,hx a ha,h,slicedAt]
def Xa2 (p:List UInt8):List (List UInt8)→Nat→Int
 | [],_=>-1
 | x::r,i=>if p=x then (i:Int) else Xa2 p r (i+1)
theorem X52 (p:List UInt8):∀ (n:Nat) (r:List (List UInt8)) (i:Nat),(∀ (j:Nat) x,j<n→r[j]?=some x→p≠x)→Xa2 p r i=Xa2 p (r.drop n) (i+min n r.length)
 | 0,r,i,_=>by simp
 | n+1,[],i,_=>by simp [Xa2]
 | n+1,x::r,i,h=>by
  rw [Xa2,if_neg (h 0 x (by omega) rfl),X52 p n r (i+1) (fun j y hj hy=>h (j+1) y (by omega) (by simpa using hy)),Y2,List.length_cons]
  congr 1
  omega
theorem Xck {p:List UInt8} {l:List (List UInt8)} {i:Nat} (h:∀ (j:Nat) x,j<i→l[j]?=some x→p≠x) (hs:l[i]?=some p):Xa2 p l 0=(i:Int):=by
 have hi:=(Y1.1 hs).1
 rw [X52 p i l 0 h,Y7,Y1w (by omega),Yu hi,(Y1.1 hs).2,Xa2,if_pos rfl]
theorem Xap {p:List UInt8} {l:List (List UInt8)} (h:∀ (j:Nat) x,l[j]?=some x→p≠x):Xa2 p l 0=-1:=by
 rw [X52 p l.length l 0 (fun j x _ hx=>h j x hx),Y2y]
 rfl
theorem X9c (p:List UInt8):(1≤Xa2 p PREV 0→X1m p≠0∧Xa2 p PREV 0=(X1m p:Int))∧(¬ 1≤Xa2 p PREV 0→X1m p=0):=by
 unfold PREV X1m
 simp only [Xa2]
 by_cases h0:p=[]
 ·subst h0
  exact ⟨fun h=>by simp at h,fun _=>by decide⟩
 rw [if_neg h0]
 by_cases h1:p=pre 1
 ·rw [if_pos h1,if_pos h1]; exact ⟨fun _=>⟨by decide,by decide⟩,fun h=>absurd (by decide) h⟩
 rw [if_neg h1,if_neg h1]
 by_cases h2:p=pre 2
 ·rw [if_pos h2,if_pos h2]; exact ⟨fun _=>⟨by decide,by decide⟩,fun h=>absurd (by decide) h⟩
 rw [if_neg h2,if_neg h2]
 by_cases h3:p=pre 3
 ·rw [if_pos h3,if_pos h3]; exact ⟨fun _=>⟨by decide,by decide⟩,fun h=>absurd (by decide) h⟩
 rw [if_neg h3,if_neg h3]
 by_cases h4:p=pre 4
 ·rw [if_pos h4,if_pos h4]; exact ⟨fun _=>⟨by decide,by decide⟩,fun h=>absurd (by decide) h⟩
 rw [if_neg h4,if_neg h4]
 by_cases h5:p=pre 5
 ·rw [if_pos h5,if_pos h5]; exact ⟨fun _=>⟨by decide,by decide⟩,fun h=>absurd (by decide) h⟩
 rw [if_neg h5,if_neg h5]
 by_cases h6:p=pre 6
 ·rw [if_pos h6,if_pos h6]; exact ⟨fun _=>⟨by decide,by decide⟩,fun h=>absurd (by decide) h⟩
 rw [if_neg h6,if_neg h6]
 exact ⟨fun h=>absurd h (by decide),fun _=>rfl⟩
theorem X5m (a:Option Addr) (c:Nat) (l:List (List UInt8)) (hll:l.length≤100000) (p:List UInt8) (B w:World) (I:Im) (hA:RS I a 1 l.length (l.map S)) (As:List Xf) (hS:Sat B w I As) :
  Calls Tryz.prog 178 [.slice a l.length c,S p].toArray w (Ret fun v w'=>v=I64 (Xa2 p l 0)∧Sat B w' I As):=by
 refine calls Tryz.func178 rfl Tryz.ntmps178 rfl (.seq (.q 1 rfl (.seq (.seq (.region (.run 3 rfl ⟨⟨_,Qu87⟩,trivial⟩ (.nil (.block (.loop (σ:=Nat) (fun i=>[(0,.slice a l.length c),(1,S p),(7,I64 (l.length:Nat)),(8,I64 (i:Nat))]) (fun i w=>i≤l.length∧(∀ (j:Nat) x,j<i→l[j]?=some x→p≠x)∧Sat B w I As) (fun i=>l.length - i) 0 ⟨rfl,rfl,rfl,rfl,trivial⟩ ⟨Yk _,fun _ _ h=>absurd h (by omega),hS⟩ ?_)))))))))
 rintro i w ⟨hi,hno,hS⟩
 change WC _ _ _ _ [(0,.slice a l.length c),(1,S p),(7,I64 (l.length:Nat)),(8,I64 (i:Nat))] w
 refine .seq (.q 1 rfl (.seq ?_))
 refine WC.cond rfl (fun hb9=>?_) (fun hb9=>?_)
 ·
  have hc9:=hb9; try simp only [Y4] at hc9
  refine .skip (.seq (.block (.seq ?_)))
  obtain ⟨x,hx⟩:∃ x,l[i]?=some x:=⟨_,Y3 (by omega)⟩
  obtain ⟨q,rfl,hq⟩:=hA.2 (by omega)
  have hqx:((l.map S).drop ((i:Int).toNat*1))[0]?=some (S x):=by rw [Yq,Y9,Y2q,Y23,Y1e,hx]; rfl
  refine .q 2 rfl (.seq (.t 3 rfl (.val (.indexAddrI (.of rfl) (.of rfl) (by omega) (by omega) Qu87 Qs9) rfl (.val (.ldI (v:=S x) (.of rfl) hS (hq.add _) Qg9 hqx) rfl (.q 1 rfl (.nil ?_))))))
  refine WC.cond rfl (fun hb16=>?_) (fun hb16=>?_)
  ·
   have hc16:=hb16; try simp only [Y4] at hc16
   refine .seq (.q 2 rfl (.ret (Xl Tryz.results178 rfl ?_)))
   have e:p=x:=by simpa using hb16
   subst e
   exact ⟨_,rfl,by rw [Xck hno hx],hS⟩
  have hc16:=hb16; try simp only [Y4] at hc16
  refine .skip (.region (.run 2 rfl ⟨⟨by omega,by omega⟩,trivial⟩ (.nil ?_)))
  refine ⟨i+1,⟨rfl,rfl,rfl,rfl,trivial⟩,⟨by omega,fun j y hj hy=>?_,hS⟩,by omega⟩
  rcases Yo j i with h1 | h1
  ·exact hno j y h1 hy
  ·have e:j=i:=by omega
   subst e
   rw [hx] at hy; cases hy
   simpa using hb16
 have hc9:=hb9; try simp only [Y4] at hc9
 refine .exit (.seq (.q 1 rfl (.ret (Xl Tryz.results178 rfl ?_))))
 exact ⟨_,rfl,by rw [Xap (fun j x hx=>hno j x (by have:=(Y1.1 hx).1; omega) hx)],hS⟩
abbrev HEXD:List UInt8:=[48,49,50,51,52,53,54,55,56,57,97,98,99,100,101,102]
theorem hx_idx (c:UInt8):(match hx c with | some d=>Go.Lib.indexByte HEXD c=(d:Int) | none=>Go.Lib.indexByte HEXD c=-1):=by
 have:=Xz (p:=fun c=>match hx c with | some d=>Go.Lib.indexByte HEXD c == (d:Int) | none=>Go.Lib.indexByte HEXD c == -1) (by decide +kernel) c
 cases h:hx c with
 | some d=>rw [h] at this; simpa using this
 | none=>rw [h] at this; simpa using this
theorem Xc4 {s:List UInt8} {i:Nat} {n d:Nat} (hi:i<s.length) (hn:hxS 0 (s.take i)=some n) (hd:hx (at_ s (i:Int))=some d):hxS 0 (s.take (i+1))=some (16*n+d):=by
 have:s[i]?=some (at_ s (i:Int)):=Xy hi
 rw [Yn,this,Y1p,X8k,hn,Y1v]
 simp only [hxS,hd]
theorem Xbs:∀ (s:List UInt8) (i n:Nat),i<s.length→hx (at_ s (i:Int))=none→hxS n s=none
 | [],i,_,h,_=>by simp at h
 | c::r,0,n,_,h=>by
  rw [hxS,show hx c=none from h]
 | c::r,i+1,n,hi,h=>by
  rw [hxS]
  cases hx c with
  | none=>rfl
  | some d=>exact Xbs r i _ (by simpa using hi) (by
    have e:at_ (c::r) ((i+1:Nat):Int)=at_ r (i:Int):=by simp [at_]
    rw [e] at h; exact h)
theorem or_low {n d:Nat} (hd:d<16):(16*n) ||| d=16*n+d:=by
 have:=Y35 (i:=4) (b:=d) hd n
 simpa using this.symm
theorem Xdb (s:List UInt8) (hs:s.length≤1000000) (B w:World) (I:Im) (As:List Xf) (hS:Sat B w I As) :
  Calls Tryz.prog 188 [S s].toArray w (Ret fun v w'=>v=(match X28 s with | some d=>.tuple #[U64 (d:Nat),.bool true] | none=>.tuple #[U64 0,.bool false])∧Sat B w' I As):=by
 refine calls Tryz.func188 rfl Tryz.ntmps188 rfl (.seq (.q 2 rfl (.seq (.seq (.region (.run 3 rfl ⟨Qu9,trivial⟩ (.nil ?_)))))))
 refine WC.cond rfl (fun hb9=>?_) (fun hb9=>?_)
 ·
  have hc9:=hb9; try simp only [Y4] at hc9
  refine .seq (.q 2 rfl (.ret (X3u Xfd rfl rfl ?_)))
  exact ⟨_,rfl,by rw [X28,if_neg (by omega)],hS⟩
 have hc9:=hb9; try simp only [Y4] at hc9
 refine .skip (.seq (.q 1 rfl (.seq (.seq (.region (.run 3 rfl ⟨Qu9,trivial⟩ (.nil (.block (.loop (σ:=Nat×Nat) (fun ⟨i,n⟩=>[(0,S s),(4,U64 (n:Nat)),(11,I64 (s.length:Nat)),(12,I64 (i:Nat))]) (fun ⟨i,n⟩ w=>i≤s.length∧hxS 0 (s.take i)=some n∧n<16 ^ i∧Sat B w I As) (fun ⟨i,n⟩=>s.length - i) (0,0) ⟨rfl,rfl,rfl,rfl,trivial⟩ ⟨Yk _,rfl,by decide,hS⟩ ?_)))))))))
 rintro ⟨i,n⟩ w ⟨hi,hn,hn16,hS⟩
 change WC _ _ _ _ [(0,S s),(4,U64 (n:Nat)),(11,I64 (s.length:Nat)),(12,I64 (i:Nat))] w
 refine .seq (.q 1 rfl (.seq ?_))
 refine WC.cond rfl (fun hb13=>?_) (fun hb13=>?_)
 ·
  have hc13:=hb13; try simp only [Y4] at hc13
  refine .skip (.seq (.block (.seq (.q 2 rfl (.seq (.region (.run 3 rfl ⟨⟨⟨by omega,by omega⟩,Qu9⟩,trivial⟩ (.call Qf229 rfl (X0 (.of rfl) (X0 (.of rfl) X1)) rfl (X2y HEXD (at_ s (i:Int)) _) ?_))))))))
  rintro _ _ ⟨rfl,rfl⟩
  refine .q 1 rfl (.nil (.seq (.seq ?_)))
  have hxi:=hx_idx (at_ s (i:Int))
  refine .q 2 rfl ?_
  refine WC.cond rfl (fun hb20=>?_) (fun hb20=>?_)
  ·
   have hc20:=hb20; try simp only [Y4] at hc20
   refine .seq (.q 2 rfl (.ret (X3u Xfd rfl rfl ?_)))
   refine ⟨_,rfl,?_,hS⟩
   have hdn:hx (at_ s (i:Int))=none:=by
    cases hd:hx (at_ s (i:Int)) with
    | none=>rfl
    | some d=>exfalso; rw [hd] at hxi; simp only at hxi; rw [hxi] at hb20; simp at hb20; omega
   rw [X28,if_pos (by omega),Xbs s i 0 (by omega) hdn]
  have hc20:=hb20; try simp only [Y4] at hc20
  refine .skip ?_
  obtain ⟨d,hd⟩:∃ d,hx (at_ s (i:Int))=some d:=by
   cases hd:hx (at_ s (i:Int)) with
   | none=>exfalso; rw [hd] at hxi; simp only at hxi; rw [hxi] at hb20; simp at hb20
   | some d=>exact ⟨d,rfl⟩
  rw [hd] at hxi
  simp only at hxi
  have hd16:=hx_lt hd
  rw [hxi]
  have hn15:n<16 ^ 15:=Y1h hn16 (Yy (by decide) (by omega))
  have hn60:n<1152921504606846976:=by simpa using hn15
  refine .t 1 rfl (.val (.shl (.of rfl) (.of rfl) (by decide) (by decide)) rfl ?_)
  rw [show IntKind.u64.wrap ((n:Int)*2 ^ (4:Int).toNat)=((16*n:Nat):Int) by rw [IntKind.wrap_u64]; simp; omega]
  refine .q 1 rfl ?_
  refine WL.val (.cvi (.of rfl) Qu3 Qu62 (by rw [IntKind.wrap_u64]; omega)) rfl ?_
  refine .val (.or64 (a:=16*n) (b:=d) (by omega) (by omega) (.of rfl) (.of rfl)) rfl ?_
  rw [or_low hd16]
  refine .q 1 rfl (.nil (.region (.run 2 rfl ⟨⟨by omega,by omega⟩,trivial⟩ (.nil ?_))))
  refine ⟨(i+1,16*n+d),⟨rfl,rfl,rfl,rfl,trivial⟩,⟨by (try dsimp only); omega,Xc4 (by omega) hn hd,?_,hS⟩,by (try dsimp only); omega⟩
  (try dsimp only)
  rw [Y17]; omega
 have hc13:=hb13; try simp only [Y4] at hc13
 refine .exit (.seq (.q 3 rfl (.ret (X3u Xfd rfl rfl ?_))))
 refine ⟨_,rfl,?_,hS⟩
 rw [Yx (by omega)] at hn
 rw [X28,if_pos (by omega),hn]
end Go.Proofs.YtbciobiiejpdgaaGreatDoor
namespace Go.Proofs.YtbciobiiejpdgaaGreatDoor
open Gk Ul Pc Pat Xm Tr Tk
theorem Xp:Bld Tryz.prog 45 [(0,1),(1,1),(2,1),(3,1)] [S [],S [],.int .i64 0,.int .i64 0]:=X5s Xg X4a (fun w=>by simp [go_sem])
theorem X9v (s:List UInt8) (hs:s.length≤1000000) (B w:World) (I:Im) (hK:Kx I) (hP:PreAt I) (As:List Xf) (hS:Sat B w I As) :
  Calls Tryz.prog 141 [S s].toArray w (Ret fun v w'=>v=(match Xt s with | some (k,d)=>.tuple #[I64 (k:Nat),U64 (d:Nat),.bool true] | none=>.tuple #[I64 0,U64 0,.bool false])∧Sat B w' I As):=by
 refine calls Tryz.func141 rfl Tryz.ntmps141 rfl (.seq (.q 3 rfl (.seq (.t 1 rfl (.call Tryz.func187 rfl (X0 (.of rfl) (X0 (.of rfl) X1)) rfl (X9f s 45 hs B _ I hK _ hS) ?_)))))
 clear hS
 rintro _ w ⟨rfl,hS⟩
 refine .q 7 rfl (.nil (.seq (.t 1 rfl ?_)))
 refine WL.call Tryz.func188 rfl (X0 (.of rfl) X1) rfl (Xdb _ (by have:=X27 [45] s; rw [Ya]; omega) B _ I _ hS) ?_
 clear hS
 rintro _ w ⟨rfl,hS⟩
 rcases hdr:X28 ((Xc [45] s).drop 1) with _ | d
 ·
  refine .val (.move (.of rfl)) rfl (.q 4 rfl (.nil (.seq (.region (.val (Ex.slcArr (m:=7) (s:=1) (.of rfl) Xf0 Qs9) rfl (.q 1 rfl (.call Tryz.func178 rfl (X0 (.of rfl) (X0 (.of rfl) X1)) rfl (X5m (some (ad 1 0)) 7 PREV (by decide) (upto [45] s) B _ I ⟨rfl,fun _=>⟨_,rfl,hP⟩⟩ As hS) ?_)))))))
  clear hS
  rintro _ w ⟨rfl,hS⟩
  refine .q 1 rfl (.nil (.seq (.seq (.t 3 rfl (.gval rfl rfl (fun hg1=>(.move (.of rfl))) rfl (.gval rfl rfl (fun hg1=>(.lss (.gd hg1 rfl) (.of rfl))) rfl (.val (.por (.of rfl) (.of rfl) (.of rfl)) rfl (.nil ?_))))))))
  refine WC.cond rfl (fun hb30=>?_) (fun hb30=>?_)
  ·
   have hc30:=hb30; try simp only [Y4] at hc30
   refine .seq (.q 3 rfl (.ret (ret3 Xc8 rfl rfl rfl ?_)))
   refine ⟨_,rfl,?_,hS⟩
   have:Xt s=none:=by
    unfold Xt
    split
    ·rfl
    ·rw [hdr]; rfl
   rw [this]
  have hc30:=hb30; try simp only [Y4] at hc30
  refine .skip (.seq (.q 5 rfl (.ret (ret3 Xc8 rfl rfl rfl ?_))))
  exfalso; simp at hb30
 refine .val (.move (.of rfl)) rfl (.q 4 rfl (.nil (.seq (.region (.val (Ex.slcArr (m:=7) (s:=1) (.of rfl) Xf0 Qs9) rfl (.q 1 rfl (.call Tryz.func178 rfl (X0 (.of rfl) (X0 (.of rfl) X1)) rfl (X5m (some (ad 1 0)) 7 PREV (by decide) (upto [45] s) B _ I ⟨rfl,fun _=>⟨_,rfl,hP⟩⟩ As hS) ?_)))))))
 clear hS
 rintro _ w ⟨rfl,hS⟩
 refine .q 1 rfl (.nil (.seq (.seq (.t 3 rfl (.gval rfl rfl (fun hg1=>(.move (.of rfl))) rfl (.gval rfl rfl (fun hg1=>(.lss (.gd hg1 rfl) (.of rfl))) rfl (.val (.por (.of rfl) (.of rfl) (.of rfl)) rfl (.nil ?_))))))))
 refine WC.cond rfl (fun hb30=>?_) (fun hb30=>?_)
 ·
  have hc30:=hb30; try simp only [Y4] at hc30
  refine .seq (.q 3 rfl (.ret (ret3 Xc8 rfl rfl rfl ?_)))
  refine ⟨_,rfl,?_,hS⟩
  have h0:=(X9c (upto [45] s)).2 (by simp at hb30; omega)
  rw [Xt,if_pos h0]
 have hc30:=hb30; try simp only [Y4] at hc30
 refine .skip (.seq (.q 5 rfl (.ret (ret3 Xc8 rfl rfl rfl ?_))))
 refine ⟨_,rfl,?_,hS⟩
 obtain ⟨h0,h1⟩:=(X9c (upto [45] s)).1 (by simp at hb30; omega)
 rw [Xt,if_neg h0,hdr,h1]
 rfl
theorem Xax (s:List UInt8) (kind:Int) (hs:s.length≤1000000) (B w:World) (I:Im) (hK:Kx I) (hP:PreAt I) (As:List Xf) (hS:Sat B w I As) :
  Calls Tryz.prog 99 [S s,I64 kind].toArray w (Ret fun v w'=>v=.bool (isT s kind)∧Sat B w' I As):=by
 refine calls Tryz.func99 rfl Tryz.ntmps99 rfl (.seq (.q 1 rfl (.seq (.t 1 rfl (.call Tryz.func141 rfl (X0 (.of rfl) X1) rfl (X9v s hs B _ I hK hP _ hS) ?_)))))
 clear hS
 rintro _ w ⟨rfl,hS⟩
 rcases hps:Xt s with _ | ⟨k,d⟩
 ·
  refine .val (.move (.of rfl)) rfl (.q 6 rfl (.nil (.seq (.t 2 rfl (.gval rfl rfl (fun hg1=>(.move (.of rfl))) rfl (.gval rfl rfl (fun hg1=>(.move (.of rfl))) rfl (.gval rfl rfl (fun hg1=>(.eql (.gd hg1 rfl) (.gd hg1 rfl))) rfl (.val (.pand (.of rfl) (.of rfl) (.of rfl)) rfl (.q 1 rfl (.nil (.ret (Xl Tryz.results99 rfl ?_))))))))))))
  exact ⟨_,rfl,by rw [isT,hps]; rfl,hS⟩
 refine .val (.move (.of rfl)) rfl (.q 6 rfl (.nil (.seq (.t 2 rfl (.gval rfl rfl (fun hg1=>(.move (.of rfl))) rfl (.gval rfl rfl (fun hg1=>(.move (.of rfl))) rfl (.gval rfl rfl (fun hg1=>(.eql (.gd hg1 rfl) (.gd hg1 rfl))) rfl (.val (.pand (.of rfl) (.of rfl) (.of rfl)) rfl (.q 1 rfl (.nil (.ret (Xl Tryz.results99 rfl ?_))))))))))))
 exact ⟨_,rfl,by rw [isT,hps]; rfl,hS⟩
theorem X26 {n:Nat} (h:n≤1099511627776):(Go.Lib.decDigits n).length≤13:=by
 rw [Go.Lib.decDigits_length]
 have key:∀ (k n:Nat),n<10 ^ k→1≤k→Go.Lib.nDigits n≤k:=by
  intro k
  induction k with
  | zero=>intro n _ h; omega
  | succ k ih =>
   intro n h _
   by_cases h10:n<10
   ·rw [Go.Lib.nDigits_small h10]; omega
   ·rw [Go.Lib.nDigits_big h10]
    rw [Y17] at h
    cases k with
    | zero=>simp at h; omega
    | succ k=>have:=ih (n / 10) (by omega) (by omega); omega
 exact key 13 n (by omega) (by decide)
theorem Xcr (n:Nat):Go.Lib.decFrom 0 (Go.Lib.decDigits n)=some n:=by
 induction n using Nat.strongRecOn with
 | _ n ih =>
  have dig:∀ d,d<10→Go.Lib.digitVal (UInt8.ofNat (48+d))=some d:=fun d hd =>
   (by decide:∀ d:Fin 10,Go.Lib.digitVal (UInt8.ofNat (48+d.val))=some d.val) ⟨d,hd⟩
  by_cases h:n<10
  ·rw [Go.Lib.decDigits,dif_pos h]
   have:=dig n h
   simp only [Go.Lib.decFrom,this,Y2e,Y7]
  ·rw [Go.Lib.decDigits,dif_neg h]
   have h1:=ih (n / 10) (by omega)
   have h2:=Go.Lib.decFrom_take (Go.Lib.decDigits (n / 10) ++ [UInt8.ofNat (48+n % 10)]) (Go.Lib.decDigits (n / 10)).length 0 (n / 10) (UInt8.ofNat (48+n % 10)) (n % 10) (by rw [Y1m]; exact h1) (by rw [Y16 (Yh _),Y3q]; rfl) (dig (n % 10) (by omega))
   rw [Yx (by rw [Y0]; simp)] at h2
   rw [h2]; congr 1; omega
theorem X4s {n:Nat} (h:n≤1099511627776):Go.Lib.atoiAll (Go.Lib.decDigits n)=.ok (n:Int):=by
 rw [Go.Lib.atoiAll_short _ (by have:=X26 h; omega)]
 have h1:=Xcr n
 have h2:=(X1y n).2.1
 have h3:=(X1y n).2.2.2
 have h4:Go.Lib.atoi (Go.Lib.decDigits n)=some (n:Int):=by
  cases hd:Go.Lib.decDigits n with
  | nil=>exact absurd hd h3
  | cons c r =>
   rw [hd] at h1 h2
   have hc:=(Y1c.1 h2) c (by simp)
   have n45:(c == 45)=false:=by
    have:=Xz (p:=fun c=>!X58 c || !(c == 45)) (by decide +kernel) c
    rw [hc] at this; simpa using this
   have n43:(c == 43)=false:=by
    have:=Xz (p:=fun c=>!X58 c || !(c == 43)) (by decide +kernel) c
    rw [hc] at this; simpa using this
   rw [Go.Lib.atoi,n45,n43]
   simp only [Yp,if_false]
   rw [show Go.Lib.decNat (c::r)=some n from h1]; rfl
 rw [h4]; rfl
theorem X7l (n:Nat) (hn:n≤1099511627776) (B w:World) (I:Im) (hK:Kx I) (As:List Xf) (hS:Sat B w I As):Calls Tryz.prog 67 [I64 (n:Nat)].toArray w (Ret fun v w'=>v=S (Go.Lib.decDigits n)∧Sat B w' I As) :=
 (Tryz.strconv_Itoa n (by omega) (by omega) w (hK.pow B w As hS)).mono fun e w' he=>by
  obtain ⟨rfl,k,os,rfl⟩:=he
  refine ⟨_,rfl,?_,Xcw (X7k hS k) os⟩
  unfold Go.Lib.itoa
  rw [if_neg (by omega),Y9]
theorem Xbt (s:List UInt8) (hs:s.length≤10000) (B w:World) (I:Im) (hK:Kx I) (As:List Xf) (hS:Sat B w I As):Calls Tryz.prog 65 [S s].toArray w (Ret fun v w'=>∃ n e,v=.tuple #[I64 n,e]∧(∀ k:Nat,k≤1099511627776→s=Go.Lib.decDigits k→n=k)∧Sat B w' I As):=by
 have hl:(ByteArray.mk s.toArray).size≤10000:=hs
 have hl2:(ByteArray.mk s.toArray).data.toList=s:=rfl
 cases h:Go.Lib.atoiAll s with
 | ok v =>
  refine (Tryz.strconv_Atoi_ok ⟨s.toArray⟩ (by omega) v h w).mono fun e w' he=>?_
  obtain ⟨rfl,hw⟩:=he
  refine ⟨_,rfl,v,_,rfl,fun k hk e=>?_,?_⟩
  ·subst e; rw [X4s hk] at h; injection h with h; exact h.symm
  ·rcases hw with rfl | ⟨t,rfl⟩
   ·exact hS
   ·exact hS.grown (Go.Lib.bytesWorld_below _ _ _)
 | range =>
  obtain ⟨te,pe,hv⟩:=hK.rng B w As hS
  refine (Tryz.strconv_Atoi_range ⟨s.toArray⟩ (by omega) h _ w hv (.inr ⟨te,pe,rfl⟩)).mono fun e w' he=>?_
  obtain ⟨N,rfl,_,_,hb⟩:=he
  exact ⟨_,rfl,_,_,rfl,fun k hk e=>(by subst e; rw [X4s hk] at h; cases h),hS.grown hb⟩
 | _ =>
  obtain ⟨te,pe,hv⟩:=hK.syn B w As hS
  refine (Any.strconv_Atoi_syntax Tryz.laysC172 ⟨s.toArray⟩ (by omega) h _ w hv (.inr ⟨te,pe,rfl⟩)).mono fun e w' he=>?_
  obtain ⟨N,rfl,_,_,hb⟩:=he
  exact ⟨_,rfl,0,_,rfl,fun k hk e=>(by subst e; rw [X4s hk] at h; cases h),hS.grown hb⟩
def X5 (n:Nt):List Value:=[S n.ticket,S n.url,I64 n.tries,I64 n.next]
theorem X2f (n:Nt) (hn:n.ticket.length≤1000000) (hu:n.url.length≤9223372036854775807) (B w:World) (I:Im) (hK:Kx I) (hP:PreAt I) (As:List Xf) (hS:Sat B w I As) :
  Calls Tryz.prog 54 [.agg (X5 n).toArray].toArray w (Ret fun v w'=>v=.bool (Xd n)∧Sat B w' I As):=by
 refine calls Qf54 rfl Tryz.ntmps54 rfl (.seq (.region (.boxA (cs:=[_,_,_,_]) hS (.of rfl) rfl ?_)))
 clear hS; intro b1 w hS
 refine .q 1 rfl (.nil (.seq (.region ?_)))
 first | refine WL.val (.fieldAddr 0 (.of rfl) Xg rfl rfl Qs9 rfl) rfl ?_ | refine WL.val (.fieldAddrI 0 (.of rfl) Xg rfl rfl Qs9 rfl) rfl ?_
 refine .val (.ld (.of rfl) hS (k:=0) rfl Qg9 rfl) rfl (.call Tryz.func99 rfl (X0 (.of rfl) (X0 (.of rfl) X1)) rfl (Xax n.ticket 2 hn B _ I hK hP _ hS) ?_)
 clear hS
 rintro _ w ⟨rfl,hS⟩
 refine .q 1 rfl ?_
 refine WL.gval rfl rfl (fun hg1=>(by first | exact .fieldAddr 0 (.of rfl) Xg rfl rfl Qs9 rfl | exact .fieldAddrI 0 (.of rfl) Xg rfl rfl Qs9 rfl)) rfl ?_
 refine .gval rfl rfl (fun hg1=>(.ld (.gd hg1 rfl) hS (k:=0) rfl Qg9 rfl)) rfl (.gcall (T:=fun w=>Sat B w I (blk b1 [S n.ticket,S n.url,I64 n.tries,I64 n.next] 45::As)) rfl rfl rfl Tryz.func99 rfl (fun hg1=>(X0 (.gd hg1 rfl) (X0 (.of rfl) X1))) rfl (fun hg1=>Xax n.ticket 3 hn B _ I hK hP _ hS) hS ?_)
 clear hS; rintro w hS
 refine .val (.por (.of rfl) (.of rfl) (.of rfl)) rfl (.q 1 rfl ?_)
 refine WL.gval rfl rfl (fun hg1=>(by first | exact .fieldAddr 1 (.of rfl) Xg rfl rfl Qs9 rfl | exact .fieldAddrI 1 (.of rfl) Xg rfl rfl Qs9 rfl)) rfl ?_
 refine .gval rfl rfl (fun hg1=>(.ld (.gd hg1 rfl) hS (k:=0) rfl Qg9 rfl)) rfl (.gval rfl rfl (fun hg1=>(.len (.gd hg1 rfl) Qu9)) rfl (.gval rfl rfl (fun hg1=>(.leq (.gd hg1 rfl) (.of rfl))) rfl (.val (.pand (.of rfl) (.of rfl) (.of rfl)) rfl (.q 1 rfl ?_))))
 refine WL.gval rfl rfl (fun hg1=>(by first | exact .fieldAddr 2 (.of rfl) Xg rfl rfl Qs3 rfl | exact .fieldAddrI 2 (.of rfl) Xg rfl rfl Qs3 rfl)) rfl ?_
 refine .gval rfl rfl (fun hg1=>(.ld (.gd hg1 rfl) hS (k:=0) rfl Qg3 rfl)) rfl (.gval rfl rfl (fun hg1=>(.geq (.gd hg1 rfl) (.of rfl))) rfl (.val (.pand (.of rfl) (.of rfl) (.of rfl)) rfl (.q 1 rfl ?_)))
 refine WL.gval rfl rfl (fun hg1=>(by first | exact .fieldAddr 2 (.of rfl) Xg rfl rfl Qs3 rfl | exact .fieldAddrI 2 (.of rfl) Xg rfl rfl Qs3 rfl)) rfl ?_
 refine .gval rfl rfl (fun hg1=>(.ld (.gd hg1 rfl) hS (k:=0) rfl Qg3 rfl)) rfl (.gval rfl rfl (fun hg1=>(.leq (.gd hg1 rfl) (.of rfl))) rfl (.val (.pand (.of rfl) (.of rfl) (.of rfl)) rfl (.q 1 rfl ?_)))
 refine WL.gval rfl rfl (fun hg1=>(by first | exact .fieldAddr 3 (.of rfl) Xg rfl rfl Qs3 rfl | exact .fieldAddrI 3 (.of rfl) Xg rfl rfl Qs3 rfl)) rfl ?_
 refine .gval rfl rfl (fun hg1=>(.ld (.gd hg1 rfl) hS (k:=0) rfl Qg3 rfl)) rfl (.gval rfl rfl (fun hg1=>(.geq (.gd hg1 rfl) (.of rfl))) rfl (.val (.pand (.of rfl) (.of rfl) (.of rfl)) rfl (.q 1 rfl ?_)))
 refine WL.gval rfl rfl (fun hg1=>(by first | exact .fieldAddr 3 (.of rfl) Xg rfl rfl Qs3 rfl | exact .fieldAddrI 3 (.of rfl) Xg rfl rfl Qs3 rfl)) rfl ?_
 refine .gval rfl rfl (fun hg1=>(.ld (.gd hg1 rfl) hS (k:=0) rfl Qg3 rfl)) rfl (.gval rfl rfl (fun hg1=>(.leq (.gd hg1 rfl) (.of rfl))) rfl (.val (.pand (.of rfl) (.of rfl) (.of rfl)) rfl (.q 1 rfl (.nil (.ret (Xl Tryz.results54 rfl ?_))))))
 exact ⟨_,rfl,rfl,hS.drop (k:=0) rfl⟩
theorem X67 {J:Im} {b:Nat} {cs:List Value} {E:TypeId} (h:J b=some (Xi cs E)):At J (ad b 0) cs :=
 ⟨rfl,cs.toArray,E,(0,0),h,fun j v hv=>by rw [show (ad b 0).off+j=j from Y7 j]; simpa using hv⟩
theorem Xdy (J:Im) (nm tx:List UInt8) (h1:nm.length≤10000) (h2:tx.length≤10000) (d:Nat):NdV (d+1) J [S nm,.slice none 0 0,S tx,.slice none 0 0] (.mk nm [] tx []) :=
 ⟨h1,h2,Yk _,Yk _,fun a h=>by simp [Nd.attrs] at h,none,0,none,0,[],rfl,Yh _,Yh _,RS.nil J 2,RS.nil J 4,rfl,fun x h=>by simp at h,fun i x k h _=>by simp at h⟩
theorem Xez {J:Im} {b15 b20:Nat} {t:List UInt8} {nn:Nat} (ht:t.length≤9000) (hn:nn≤1099511627776) (h1:J b15=some (Xi [S ID_,S (LR_ ++ t),S VER,S V20,S Xbb,S (Go.Lib.decDigits nn)] 136)) (h2:J b20=some (Xi [S NID,.slice none 0 0,S Xai,.slice none 0 0,S SIX,.slice none 0 0,S t,.slice none 0 0] 126)) :
  NdV 8 J [S LREQ,.slice (some (ad b15 0)) 3 3,S [],.slice (some (ad b20 0)) 2 2] (X42 t nn):=by
 have hd:=X26 hn
 refine ⟨(show LREQ.length≤10000 by decide),Yk _,(show 3≤10000 by decide),(show 2≤10000 by decide),fun a ha=>?_,some (ad b15 0),3,some (ad b20 0),2,[[S NID,.slice none 0 0,S Xai,.slice none 0 0],[S SIX,.slice none 0 0,S t,.slice none 0 0]],rfl,Yh _,Yh _,⟨rfl,fun _=>⟨_,rfl,X67 h1⟩⟩,⟨rfl,fun _=>⟨_,rfl,X67 h2⟩⟩,rfl,fun x hx=>?_,fun i x k hx hk=>?_⟩
 ·simp only [X42,Nd.attrs,Y19,List.mem_nil_iff,or_false] at ha
  rcases ha with rfl | rfl | rfl
  ·refine ⟨by (try dsimp only); decide,?_⟩
   show (LR_ ++ t).length≤10000
   rw [Y0]; show 3+t.length≤10000; omega
  ·exact ⟨by decide,by decide⟩
  ·exact ⟨by (try dsimp only); decide,by (try dsimp only); omega⟩
 ·simp only [Y19,List.mem_nil_iff,or_false] at hx
  rcases hx with rfl | rfl <;> rfl
 ·match i,hx,hk with
  | 0,hx,hk=>cases hx; cases hk; exact Xdy J NID Xai (by decide) (by decide) 6
  | 1,hx,hk=>cases hx; cases hk; exact Xdy J SIX t (by decide) (by omega) 6
  | i+2,hx,_=>simp at hx
theorem Xev {t:List UInt8} {nn:Nat} (ht:t.length≤9000) (hn:nn≤1099511627776):(MSG t nn).length≤100000:=by
 have hd:=X26 hn
 unfold MSG M1 M2 M3 M4
 simp only [Y0,List.length_cons,List.length_nil]
 omega
theorem X2e (t:List UInt8) (nn:Nat) (hk:X1g t=true) (hn:nn≤1099511627776) (cs:List Value) (B w:World) (I:Im) (hK:Kx I) (hN:NdV 8 I cs (X42 t nn)) (As:List Xf) (hS:Sat B w I As):Calls Tryz.prog 66 [.agg cs.toArray].toArray w (Ret fun v w'=>v=.tuple #[S (MSG t nn),I64 0]∧Sat B w' I As):=by
 obtain ⟨hT,hl⟩:=Xv hk
 have:=Xaa (X42 t nn) cs B w I hK hN (by rw [X8u hT]; have:=Xev (t:=t) (by omega) hn; omega) As hS
 rw [Xas hT,X8u hT] at this
 exact this
set_option maxRecDepth 4000 in
theorem X8t (t u:List UInt8) (tr:Int) (nn:Nat) (hk:X1g t=true) (hn:nn≤1099511627776) (B w:World) (I:Im) (hK:Kx I) (As:List Xf) (hS:Sat B w I As) :
  Calls Tryz.prog 28 [.agg ([S t,S u,I64 tr,I64 (nn:Nat)]:List Value).toArray].toArray w (Ret fun v w'=>v=S (MSG t nn)∧Sat B w' I As):=by
 have hkl:=(Xv hk).2
 refine calls Qf28 rfl Tryz.ntmps28 rfl (.seq (.region (.boxA (cs:=[_,_,_,_]) hS (.of rfl) rfl ?_)))
 clear hS; intro b1 w hS
 refine .q 1 rfl (.nil (.seq (.drawn (fun w=>∃ J9 R,Le I J9∧Sat B w J9 (blk b1 [S t,S u,I64 tr,I64 (nn:Nat)] 45::R)) (fun j=>!([].contains j)) (by kernel_rfl) ?_)))
 replace hS:=hS.drew; generalize w.drew=w at hS ⊢
 have hH:∃ J9 R,Le I J9∧Sat B w J9 (blk b1 [S t,S u,I64 tr,I64 (nn:Nat)] 45::R):=⟨_,_,Le.refl _,(hS.pick 0 rfl)⟩
 refine WD.tp (i:=0) rfl (by kernel_rfl) (fun w=>(by first | exact .fieldAddr 0 (.of rfl) Xg rfl rfl Qs9 rfl | exact .fieldAddrI 0 (.of rfl) Xg rfl rfl Qs9 rfl)) rfl ?_
 refine .tk (i:=1) rfl (by kernel_rfl) hH (fun w ⟨J9,R,hL9,hS⟩=>(.ld (.of rfl) hS (k:=0) rfl Qg9 rfl)) rfl ?_
 refine WD.tp (i:=2) rfl (by kernel_rfl) (fun w=>(.cat (.of rfl) (.of rfl) (by (try simp only [Y0,List.length_cons,List.length_nil]); omega))) rfl ?_
 refine .tp (i:=3) rfl (by kernel_rfl) (fun w=>(.build (cs:=[_,_]) (X2 (.of rfl) (X2 (.of rfl) X3)) X1v rfl)) rfl (.tp (i:=4) rfl (by kernel_rfl) (fun w=>(.build (cs:=[_,_]) (X2 (.of rfl) (X2 (.of rfl) X3)) X1v rfl)) rfl ?_)
 refine WD.tp (i:=5) rfl (by kernel_rfl) (fun w=>(by first | exact .fieldAddr 3 (.of rfl) Xg rfl rfl Qs3 rfl | exact .fieldAddrI 3 (.of rfl) Xg rfl rfl Qs3 rfl)) rfl ?_
 refine .tk (i:=6) rfl (by kernel_rfl) hH (fun w ⟨J9,R,hL9,hS⟩=>(.ld (.of rfl) hS (k:=0) rfl Qg3 rfl)) rfl (.tp (i:=10) rfl (by kernel_rfl) (fun w=>(.build (cs:=[_,_,_,_]) (X2 (.of rfl) (X2 (.of rfl) X3)) Xr rfl)) rfl ?_)
 refine WD.tp (i:=11) rfl (by kernel_rfl) (fun w=>(by first | exact .fieldAddr 0 (.of rfl) Xg rfl rfl Qs9 rfl | exact .fieldAddrI 0 (.of rfl) Xg rfl rfl Qs9 rfl)) rfl ?_
 refine .tk (i:=12) rfl (by kernel_rfl) hH (fun w ⟨J9,R,hL9,hS⟩=>(.ld (.of rfl) hS (k:=0) rfl Qg9 rfl)) rfl (.tp (i:=13) rfl (by kernel_rfl) (fun w=>(.build (cs:=[_,_,_,_]) (X2 (.of rfl) (X2 (.of rfl) X3)) Xr rfl)) rfl ?_)
 refine WD.branch [7,14] (by kernel_rfl) rfl (WO.cons rfl ?_ (WO.cons rfl ?_ (WO.nil)))
 ·
  refine .call Qf67 rfl (X0 (.of rfl) X1) rfl (X7l nn hn B _ I hK _ hS) ?_
  clear hS
  rintro _ w ⟨rfl,hS⟩
  refine .nil ?_
  clear hH
  have hH:∃ J9 R,Le I J9∧Sat B w J9 (blk b1 [S t,S u,I64 tr,I64 (nn:Nat)] 45::R):=⟨_,_,Le.refl _,(hS.pick 0 rfl)⟩
  refine And.intro (by intro _ _; exact hH) ?_
  refine .tp (i:=8) rfl (by kernel_rfl) (fun w=>(.build (cs:=[_,_]) (X2 (.of rfl) (X2 (.of rfl) X3)) X1v rfl)) rfl ?_
  refine WD.branch [9,14] (by kernel_rfl) rfl (WO.cons rfl ?_ (WO.cons rfl ?_ (WO.nil)))
  ·
   refine .buildSlice (cs:=[_,_,_,_,_,_]) hS (X2 (.of rfl) (X2 (.of rfl) (X2 (.of rfl) X3))) X24 X18 X7q rfl rfl rfl rfl ?_
   clear hS; intro b15 w hS
   refine .nil ?_
   clear hH
   have hH:∃ J9 R,Le I J9∧Sat B w J9 (blk b1 [S t,S u,I64 tr,I64 (nn:Nat)] 45::R):=⟨_,_,Le.refl _,(hS.pick 1 rfl)⟩
   refine And.intro (by intro _ _; exact hH) ?_
   refine WD.branch [14] (by kernel_rfl) rfl (WO.cons rfl ?_ (WO.nil))
   refine .buildSlice (cs:=[_,_,_,_,_,_,_,_]) hS (X2 (.of rfl) (X2 (.of rfl) X3)) X1s X4 X2s rfl rfl rfl rfl ?_
   clear hS; intro b20 w hS
   refine .nil ?_
   clear hH
   have hH:∃ J9 R,Le I J9∧Sat B w J9 (blk b1 [S t,S u,I64 tr,I64 (nn:Nat)] 45::R):=⟨_,_,Le.refl _,(hS.pick 2 rfl)⟩
   refine And.intro (by intro _ _; exact hH) ?_
   refine .tp (i:=15) rfl (by kernel_rfl) (fun w=>(.build (cs:=[_,_,_,_]) (X2 (.of rfl) (X2 (.of rfl) (X2 (.of rfl) X3))) Xr rfl)) rfl ?_
   refine WD.branch [16] (by kernel_rfl) rfl (WO.cons rfl ?_ (WO.nil))
   replace hS:=(hS.pick 1 rfl); try dsimp only [List.eraseIdx] at hS
   obtain ⟨J1,hJ1,hq15,hS⟩:=hS.freeze (k:=0) rfl
   try dsimp only [List.eraseIdx] at hS
   obtain ⟨J2,hJ2,hq20,hS⟩:=hS.freeze (k:=0) rfl
   try dsimp only [List.eraseIdx] at hS
   have hJJ:=hJ1.trans hJ2
   have hNV:=Xez (by have:=(Xv hk).2; omega) hn (hJ2 _ _ hq15) hq20
   refine .call Qf66 rfl (X0 (.of rfl) X1) rfl (X2e t nn hk hn _ B _ J2 (hK.mono hJJ) hNV _ hS) ?_
   clear hS
   rintro _ w ⟨rfl,hS⟩
   refine .nil ?_
   clear hH
   have hH:∃ J9 R,Le I J9∧Sat B w J9 (blk b1 [S t,S u,I64 tr,I64 (nn:Nat)] 45::R):=⟨_,_,hJJ,(hS.pick 0 rfl)⟩
   refine And.intro (by intro _ _; exact hH) ?_
   refine .tp (i:=17) rfl (by kernel_rfl) (fun w=>(.move (.of rfl))) rfl (.tp (i:=18) rfl (by kernel_rfl) (fun w=>(.extract (.of rfl) rfl)) rfl (.tp (i:=19) rfl (by kernel_rfl) (fun w=>(.extract (.of rfl) rfl)) rfl (.tp (i:=20) rfl (by kernel_rfl) (fun w=>(.assign (.of rfl))) rfl (.tp (i:=21) rfl (by kernel_rfl) (fun w=>(.assign (.of rfl))) rfl (.done (by kernel_rfl) (.seq (.q 2 rfl (.ret (Xl Tryz.results28 rfl ?_)))))))))
   exact ⟨_,rfl,rfl,X2c hJJ (hS.drop (k:=0) rfl)⟩
  ·
   refine .buildSlice (cs:=[_,_,_,_,_,_,_,_]) hS (X2 (.of rfl) (X2 (.of rfl) X3)) X1s X4 X2s rfl rfl rfl rfl ?_
   clear hS; intro b20 w hS
   refine .nil ?_
   clear hH
   have hH:∃ J9 R,Le I J9∧Sat B w J9 (blk b1 [S t,S u,I64 tr,I64 (nn:Nat)] 45::R):=⟨_,_,Le.refl _,(hS.pick 1 rfl)⟩
   refine And.intro (by intro _ _; exact hH) ?_
   refine WD.branch [9] (by kernel_rfl) rfl (WO.cons rfl ?_ (WO.nil))
   refine .buildSlice (cs:=[_,_,_,_,_,_]) hS (X2 (.of rfl) (X2 (.of rfl) (X2 (.of rfl) X3))) X24 X18 X7q rfl rfl rfl rfl ?_
   clear hS; intro b15 w hS
   refine .nil ?_
   clear hH
   have hH:∃ J9 R,Le I J9∧Sat B w J9 (blk b1 [S t,S u,I64 tr,I64 (nn:Nat)] 45::R):=⟨_,_,Le.refl _,(hS.pick 2 rfl)⟩
   refine And.intro (by intro _ _; exact hH) ?_
   refine .tp (i:=15) rfl (by kernel_rfl) (fun w=>(.build (cs:=[_,_,_,_]) (X2 (.of rfl) (X2 (.of rfl) (X2 (.of rfl) X3))) Xr rfl)) rfl ?_
   refine WD.branch [16] (by kernel_rfl) rfl (WO.cons rfl ?_ (WO.nil))
   replace hS:=((hS.pick 1 rfl).pick 1 rfl); try dsimp only [List.eraseIdx] at hS
   obtain ⟨J1,hJ1,hq15,hS⟩:=hS.freeze (k:=0) rfl
   try dsimp only [List.eraseIdx] at hS
   obtain ⟨J2,hJ2,hq20,hS⟩:=hS.freeze (k:=0) rfl
   try dsimp only [List.eraseIdx] at hS
   have hJJ:=hJ1.trans hJ2
   have hNV:=Xez (by have:=(Xv hk).2; omega) hn (hJ2 _ _ hq15) hq20
   refine .call Qf66 rfl (X0 (.of rfl) X1) rfl (X2e t nn hk hn _ B _ J2 (hK.mono hJJ) hNV _ hS) ?_
   clear hS
   rintro _ w ⟨rfl,hS⟩
   refine .nil ?_
   clear hH
   have hH:∃ J9 R,Le I J9∧Sat B w J9 (blk b1 [S t,S u,I64 tr,I64 (nn:Nat)] 45::R):=⟨_,_,hJJ,(hS.pick 0 rfl)⟩
   refine And.intro (by intro _ _; exact hH) ?_
   refine .tp (i:=17) rfl (by kernel_rfl) (fun w=>(.move (.of rfl))) rfl (.tp (i:=18) rfl (by kernel_rfl) (fun w=>(.extract (.of rfl) rfl)) rfl (.tp (i:=19) rfl (by kernel_rfl) (fun w=>(.extract (.of rfl) rfl)) rfl (.tp (i:=20) rfl (by kernel_rfl) (fun w=>(.assign (.of rfl))) rfl (.tp (i:=21) rfl (by kernel_rfl) (fun w=>(.assign (.of rfl))) rfl (.done (by kernel_rfl) (.seq (.q 2 rfl (.ret (Xl Tryz.results28 rfl ?_)))))))))
   exact ⟨_,rfl,rfl,X2c hJJ (hS.drop (k:=0) rfl)⟩
 ·
  refine .buildSlice (cs:=[_,_,_,_,_,_,_,_]) hS (X2 (.of rfl) (X2 (.of rfl) X3)) X1s X4 X2s rfl rfl rfl rfl ?_
  clear hS; intro b20 w hS
  refine .nil ?_
  clear hH
  have hH:∃ J9 R,Le I J9∧Sat B w J9 (blk b1 [S t,S u,I64 tr,I64 (nn:Nat)] 45::R):=⟨_,_,Le.refl _,(hS.pick 1 rfl)⟩
  refine And.intro (by intro _ _; exact hH) ?_
  refine WD.branch [7] (by kernel_rfl) rfl (WO.cons rfl ?_ (WO.nil))
  refine .call Qf67 rfl (X0 (.of rfl) X1) rfl (X7l nn hn B _ I hK _ hS) ?_
  clear hS
  rintro _ w ⟨rfl,hS⟩
  refine .nil ?_
  clear hH
  have hH:∃ J9 R,Le I J9∧Sat B w J9 (blk b1 [S t,S u,I64 tr,I64 (nn:Nat)] 45::R):=⟨_,_,Le.refl _,(hS.pick 1 rfl)⟩
  refine And.intro (by intro _ _; exact hH) ?_
  refine .tp (i:=8) rfl (by kernel_rfl) (fun w=>(.build (cs:=[_,_]) (X2 (.of rfl) (X2 (.of rfl) X3)) X1v rfl)) rfl ?_
  refine WD.branch [9] (by kernel_rfl) rfl (WO.cons rfl ?_ (WO.nil))
  refine .buildSlice (cs:=[_,_,_,_,_,_]) hS (X2 (.of rfl) (X2 (.of rfl) (X2 (.of rfl) X3))) X24 X18 X7q rfl rfl rfl rfl ?_
  clear hS; intro b15 w hS
  refine .nil ?_
  clear hH
  have hH:∃ J9 R,Le I J9∧Sat B w J9 (blk b1 [S t,S u,I64 tr,I64 (nn:Nat)] 45::R):=⟨_,_,Le.refl _,(hS.pick 2 rfl)⟩
  refine And.intro (by intro _ _; exact hH) ?_
  refine .tp (i:=15) rfl (by kernel_rfl) (fun w=>(.build (cs:=[_,_,_,_]) (X2 (.of rfl) (X2 (.of rfl) (X2 (.of rfl) X3))) Xr rfl)) rfl ?_
  refine WD.branch [16] (by kernel_rfl) rfl (WO.cons rfl ?_ (WO.nil))
  replace hS:=((hS.pick 1 rfl).pick 1 rfl); try dsimp only [List.eraseIdx] at hS
  obtain ⟨J1,hJ1,hq15,hS⟩:=hS.freeze (k:=0) rfl
  try dsimp only [List.eraseIdx] at hS
  obtain ⟨J2,hJ2,hq20,hS⟩:=hS.freeze (k:=0) rfl
  try dsimp only [List.eraseIdx] at hS
  have hJJ:=hJ1.trans hJ2
  have hNV:=Xez (by have:=(Xv hk).2; omega) hn (hJ2 _ _ hq15) hq20
  refine .call Qf66 rfl (X0 (.of rfl) X1) rfl (X2e t nn hk hn _ B _ J2 (hK.mono hJJ) hNV _ hS) ?_
  clear hS
  rintro _ w ⟨rfl,hS⟩
  refine .nil ?_
  clear hH
  have hH:∃ J9 R,Le I J9∧Sat B w J9 (blk b1 [S t,S u,I64 tr,I64 (nn:Nat)] 45::R):=⟨_,_,hJJ,(hS.pick 0 rfl)⟩
  refine And.intro (by intro _ _; exact hH) ?_
  refine .tp (i:=17) rfl (by kernel_rfl) (fun w=>(.move (.of rfl))) rfl (.tp (i:=18) rfl (by kernel_rfl) (fun w=>(.extract (.of rfl) rfl)) rfl (.tp (i:=19) rfl (by kernel_rfl) (fun w=>(.extract (.of rfl) rfl)) rfl (.tp (i:=20) rfl (by kernel_rfl) (fun w=>(.assign (.of rfl))) rfl (.tp (i:=21) rfl (by kernel_rfl) (fun w=>(.assign (.of rfl))) rfl (.done (by kernel_rfl) (.seq (.q 2 rfl (.ret (Xl Tryz.results28 rfl ?_)))))))))
  exact ⟨_,rfl,rfl,X2c hJJ (hS.drop (k:=0) rfl)⟩
theorem NdV.parts {I:Im}:∀ {d:Nat} {s1:List UInt8} {a1:Option Addr} {n1 m1:Nat} {s2:List UInt8} {a2:Option Addr} {n2 m2:Nat} {n:Nd},NdV d I [S s1,.slice a1 n1 m1,S s2,.slice a2 n2 m2] n →
  n1=n.attrs.length∧s2=n.text∧RS I a1 2 n.attrs.length (X8 Xe n.attrs)∧(∀ a∈n.attrs,a.1.length≤10000∧a.2.length≤10000)∧n.text.length≤10000
 | 0,_,_,_,_,_,_,_,_,_,h=>h.elim
 | d+1,s1,a1,n1,m1,s2,a2,n2,m2,n,h=>by
  obtain ⟨h1,h2,h3,h4,h5,aa,ca,ka,ck,xs,hcs,h7,h8,h9,_⟩:=h
  injection hcs with e1 hcs; injection hcs with e2 hcs; injection hcs with e3 hcs
  injection e2 with e2 e2b e2c
  injection e3 with e3; injection e3 with e3
  subst e2
  exact ⟨e2b,by simpa using e3,h9,h5,h2⟩
theorem Xo {n:Nt} (h:Xd n=true):X1g n.ticket=true∧0≤n.next∧n.next≤1099511627776∧n.url.length≤100∧0≤n.tries∧n.tries≤9:=by
 unfold Xd at h
 simp only [Yd,decide_eq_true_eq] at h
 obtain ⟨⟨⟨⟨⟨h1,h2⟩,h3⟩,h4⟩,h5⟩,h6⟩:=h
 exact ⟨h1,h5,h6,by omega,h3,h4⟩
theorem X3a (n:Nt) (h:Xd n=true) (B w:World) (I:Im) (hK:Kx I) (As:List Xf) (hS:Sat B w I As):Calls Tryz.prog 28 [.agg (X5 n).toArray].toArray w (Ret fun v w'=>v=S (MSG n.ticket n.next.toNat)∧Sat B w' I As):=by
 obtain ⟨h1,h2,h3,_⟩:=Xo h
 have:=X8t n.ticket n.url n.tries n.next.toNat h1 (by omega) B w I hK As hS
 rw [Y36 h2] at this
 exact this
theorem Xba (t:List UInt8) (n:Nat):X5x (X42 t n) SIX=some (.mk SIX [] t []):=by
 unfold X5x X42
 simp only [Nd.kids,Y2j,Nd.name]
 rw [show (NID == SIX)=false by decide,show (SIX == SIX)=true by decide]
set_option maxRecDepth 4000 in
theorem X47 (s:List UInt8) (hl:s.length≤400) (B w:World) (I:Im) (hK:Kx I) (hP:PreAt I) (As:List Xf) (hS:Sat B w I As) :
  Calls Tryz.prog 25 [S s].toArray w (Ret fun v w'=>v=.tuple #[S ((X14 s).getD []),.bool (X14 s).isSome]∧Sat B w' I As):=by
 refine calls Qf25 rfl Tryz.ntmps25 rfl (.seq (.q 2 rfl (.seq (.t 1 rfl (.call Tryz.func63 rfl (X0 (.of rfl) X1) rfl (Xbl s (by omega) B _ I hK _ hS) ?_)))))
 clear hS
 rintro _ w ⟨J,s1,a1,n1,m1,s2,a2,n2,m2,e,nd,rfl,hJ,hN,hR,hS⟩
 refine .q 3 rfl (.allocA (cs:=[_,_,_,_]) hS X2s rfl ?_)
 clear hS; intro b4 w hS
 refine .stA hS (k:=0) rfl (.of rfl) (.of rfl) rfl X4 rfl (by simp) ?_
 clear hS; intro w hS; try dsimp only [List.set] at hS
 try simp only [Yb,Y6,Y8,Y2,Y5,Yc,Y7] at hS
 refine .q 1 rfl (.nil (.seq (.region ?_)))
 first | refine WL.val (.ldsW (cs:=[_,_,_,_]) (.of rfl) hS (k:=0) rfl X7 X4 rfl) rfl ?_ | refine WL.val (.lds (vs:=[_,_,_,_]) (.of rfl) hS (k:=0) rfl X7 X4 rfl (fun _ _ h=>h)) rfl ?_ | refine WL.val (.ldsI (.of rfl) hS hx X7 X4 rfl (fun _ _ h=>h)) rfl ?_ | refine WL.val (.ldsI (.of rfl) hS (At.add hx _) X7 X4 rfl (fun _ _ h=>h)) rfl ?_
 refine .buildSlice (cs:=[_]) hS (X2 (.of rfl) X3) Qu87 Qs9 Qz9 rfl rfl rfl rfl ?_
 clear hS; intro b18 w hS
 refine .call Tryz.func64 rfl (X0 (.of rfl) (X0 (.of rfl) X1)) rfl (Xau nd SIX s1 a1 n1 m1 s2 a2 n2 m2 b18 B _ J hN _ hS) ?_
 clear hS
 rintro _ w ⟨t1,c1,k1,l1,t2,c2,k2,l2,ok,kd,rfl,hF,hD,hS⟩
 try dsimp only [List.eraseIdx] at hS
 refine .q 3 rfl (.allocA (cs:=[_,_,_,_]) hS X2s rfl ?_)
 clear hS; intro b6 w hS
 first | refine WL.stA hS (k:=0) rfl (.of rfl) (.of rfl) rfl X4 rfl (by simp) ?_ | refine WL.stA hS (k:=1) rfl (.of rfl) (.of rfl) rfl X4 rfl (by simp) ?_ | refine WL.stA hS (k:=2) rfl (.of rfl) (.of rfl) rfl X4 rfl (by simp) ?_
 clear hS; intro w hS; try dsimp only [List.set] at hS
 try simp only [Yb,Y6,Y8,Y2,Y5,Yc,Y7] at hS
 refine .q 1 rfl (.nil (.seq (.seq (.t 3 rfl (.gval rfl rfl (fun hg1=>(.move (.of rfl))) rfl (.gval rfl rfl (fun hg1=>(.not (.gd hg1 rfl))) rfl (.val (.por (.of rfl) (.of rfl) (.of rfl)) rfl (.q 1 rfl ?_))))))))
 refine WL.gval rfl rfl (fun hg1=>(by first | exact .fieldAddr 1 (.of rfl) Xq rfl rfl X3o rfl | exact .fieldAddrI 1 (.of rfl) Xq rfl rfl X3o rfl)) rfl ?_
 refine WL.gval rfl rfl (fun hg1=>(by first | exact (.ld (.gd hg1 rfl) hS (k:=0) rfl X31 rfl) | exact (.ld (.gd hg1 rfl) hS (k:=1) rfl X31 rfl) | exact (.ld (.gd hg1 rfl) hS (k:=2) rfl X31 rfl) | exact (.ldI (.gd hg1 rfl) hS (At.add hx _) X31 rfl))) rfl ?_
 refine .gval rfl rfl (fun hg1=>(.lenSlice (.gd hg1 rfl) X24)) rfl (.gval rfl rfl (fun hg1=>(.neq (.gd hg1 rfl) (.of rfl))) rfl (.val (.por (.of rfl) (.of rfl) (.of rfl)) rfl (.nil ?_)))
 refine WC.cond rfl (fun hb33=>?_) (fun hb33=>?_)
 ·
  have hc33:=hb33; try simp only [Y4] at hc33
  refine .seq (.q 2 rfl (.ret (X3u Tryz.results25 rfl rfl ?_)))
  refine ⟨_,rfl,?_,X2c hJ (((hS.drop (k:=0) rfl).drop (k:=0) rfl).drop (k:=0) rfl)⟩
  have hno:X14 s=none:=X7w fun t n ht hn es=>by
   have hx:=X93 (Xv ht).1 n
   rw [← es] at hx
   rcases hR with ⟨h,_⟩ | ⟨h,h2⟩
   ·rw [h] at hx; cases hx
   ·rw [h] at hx
    injection hx with hx
    subst hx
    have hk:=Xba t n
    have hl:=hN.parts.1
    have h3:n1=3:=hl
    rcases hF with ⟨h,_⟩ | ⟨_,h4⟩
    ·rw [hk] at h; cases h
    ·rw [h2,h4,h3] at hb33; simp at hb33
  rw [hno]; rfl
 have hc33:=hb33; try simp only [Y4] at hc33
 refine .skip (.seq ?_)
 have hb9:=hb33
 simp only [Yi,bne_eq_false_iff_eq,Y11] at hb9
 obtain ⟨⟨he0,hok⟩,h3⟩:=hb9
 obtain ⟨hp1,hp2,hpR,hpa,hpt⟩:=hN.parts
 obtain ⟨dd,hD⟩:=hD
 obtain ⟨hq1,hq2,_,_,hqt⟩:=hD.parts
 have ht2l:t2.length≤10000:=by rw [hq2]; exact hqt
 have hal3:nd.attrs.length=3:=by omega
 obtain ⟨av,hav⟩:∃ a,nd.attrs[2]?=some a:=⟨_,Y3 (by omega)⟩
 obtain ⟨qa,hqa9,hx⟩:=Xbi hpR hav
 have hav2:=hpa av (Yj hav)
 have h39:n1=3:=by omega
 subst h39
 clear hp1
 subst hqa9
 have hfnd:X7z s=some nd∧X5x nd SIX=some kd:=by
  refine ⟨?_,?_⟩
  ·rcases hR with ⟨_,h,_⟩ | ⟨h,_⟩
   ·rw [h] at he0; simp at he0
   ·exact h
  ·rcases hF with ⟨_,h⟩ | ⟨h,_⟩
   ·rw [h] at hok; cases hok
   ·exact h
 refine .region ?_
 first | refine WL.val (.fieldAddr 1 (.of rfl) Xq rfl rfl X3o rfl) rfl ?_ | refine WL.val (.fieldAddrI 1 (.of rfl) Xq rfl rfl X3o rfl) rfl ?_
 first | refine WL.val (.ld (.of rfl) hS (k:=0) rfl X31 rfl) rfl ?_ | refine WL.val (.ld (.of rfl) hS (k:=1) rfl X31 rfl) rfl ?_ | refine WL.val (.ld (.of rfl) hS (k:=2) rfl X31 rfl) rfl ?_ | refine WL.val (.ldI (.of rfl) hS (At.add hx _) X31 rfl) rfl ?_
 first | refine WL.val (.indexAddr (.of rfl) (.of rfl) (by omega) (by omega) X24 X18) rfl ?_ | refine WL.val (.indexAddrI (.of rfl) (.of rfl) (by omega) (by omega) X24 X18) rfl ?_
 first | refine WL.val (.fieldAddr 1 (.of rfl) X1c rfl rfl Qs9 rfl) rfl ?_ | refine WL.val (.fieldAddrI 1 (.of rfl) X1c rfl rfl Qs9 rfl) rfl ?_
 refine .val (.ldI (.of rfl) hS (At.add hx 1) Qg9 rfl) rfl (.call Tryz.func65 rfl (X0 (.of rfl) X1) rfl (Xbt av.2 (by omega) B _ J (hK.mono hJ) _ hS) ?_)
 clear hS
 rintro _ w ⟨nx,ee,rfl,hnx,hS⟩
 refine .q 5 rfl (.nil (.seq (.region ?_)))
 first | refine WL.val (.fieldAddr 2 (.of rfl) Xq rfl rfl Qs9 rfl) rfl ?_ | refine WL.val (.fieldAddrI 2 (.of rfl) Xq rfl rfl Qs9 rfl) rfl ?_
 first | refine WL.val (.ld (.of rfl) hS (k:=0) rfl Qg9 rfl) rfl ?_ | refine WL.val (.ld (.of rfl) hS (k:=1) rfl Qg9 rfl) rfl ?_ | refine WL.val (.ld (.of rfl) hS (k:=2) rfl Qg9 rfl) rfl ?_ | refine WL.val (.ldI (.of rfl) hS (At.add hx _) Qg9 rfl) rfl ?_
 refine .q 1 rfl (.val (.build (cs:=[_,_,_,_]) (X2 (.of rfl) (X2 (.of rfl) X3)) Xp rfl) rfl (.allocA (cs:=[_,_,_,_]) hS X4a rfl ?_))
 clear hS; intro b10 w hS
 first | refine WL.stA hS (k:=0) rfl (.of rfl) (.of rfl) rfl X6 rfl (by simp) ?_ | refine WL.stA hS (k:=1) rfl (.of rfl) (.of rfl) rfl X6 rfl (by simp) ?_ | refine WL.stA hS (k:=2) rfl (.of rfl) (.of rfl) rfl X6 rfl (by simp) ?_ | refine WL.stA hS (k:=3) rfl (.of rfl) (.of rfl) rfl X6 rfl (by simp) ?_
 clear hS; intro w hS; try dsimp only [List.set] at hS
 try simp only [Yb,Y6,Y8,Y2,Y5,Yc,Y7] at hS
 refine .nil (.seq (.seq (.region ?_)))
 first | refine WL.val (.ldsW (cs:=[_,_,_,_]) (.of rfl) hS (k:=0) rfl Xb X6 rfl) rfl ?_ | refine WL.val (.lds (vs:=[_,_,_,_]) (.of rfl) hS (k:=0) rfl Xb X6 rfl (fun _ _ h=>h)) rfl ?_ | refine WL.val (.ldsW (cs:=[_,_,_,_]) (.of rfl) hS (k:=1) rfl Xb X6 rfl) rfl ?_ | refine WL.val (.lds (vs:=[_,_,_,_]) (.of rfl) hS (k:=1) rfl Xb X6 rfl (fun _ _ h=>h)) rfl ?_ | refine WL.val (.ldsW (cs:=[_,_,_,_]) (.of rfl) hS (k:=2) rfl Xb X6 rfl) rfl ?_ | refine WL.val (.lds (vs:=[_,_,_,_]) (.of rfl) hS (k:=2) rfl Xb X6 rfl (fun _ _ h=>h)) rfl ?_ | refine WL.val (.ldsW (cs:=[_,_,_,_]) (.of rfl) hS (k:=3) rfl Xb X6 rfl) rfl ?_ | refine WL.val (.lds (vs:=[_,_,_,_]) (.of rfl) hS (k:=3) rfl Xb X6 rfl (fun _ _ h=>h)) rfl ?_ | refine WL.val (.ldsI (.of rfl) hS hx Xb X6 rfl (fun _ _ h=>h)) rfl ?_ | refine WL.val (.ldsI (.of rfl) hS (At.add hx _) Xb X6 rfl (fun _ _ h=>h)) rfl ?_
 refine WL.call Qf54 rfl (X0 (.of rfl) X1) rfl (X2f ⟨t2,[],0,nx⟩ (by (try dsimp only); omega) (by (try dsimp only [List.length_nil]); decide) B _ J (hK.mono hJ) (hP.mono hJ) _ hS) ?_
 clear hS
 rintro _ w ⟨rfl,hS⟩
 refine .q 2 rfl ?_
 refine WL.gval rfl rfl (fun hg1=>(by first | exact (.ldsW (cs:=[_,_,_,_]) (.of rfl) hS (k:=0) rfl Xb X6 rfl) | exact (.lds (vs:=[_,_,_,_]) (.of rfl) hS (k:=0) rfl Xb X6 rfl (fun _ _ h=>h)) | exact (.ldsW (cs:=[_,_,_,_]) (.of rfl) hS (k:=1) rfl Xb X6 rfl) | exact (.lds (vs:=[_,_,_,_]) (.of rfl) hS (k:=1) rfl Xb X6 rfl (fun _ _ h=>h)) | exact (.ldsW (cs:=[_,_,_,_]) (.of rfl) hS (k:=2) rfl Xb X6 rfl) | exact (.lds (vs:=[_,_,_,_]) (.of rfl) hS (k:=2) rfl Xb X6 rfl (fun _ _ h=>h)) | exact (.ldsW (cs:=[_,_,_,_]) (.of rfl) hS (k:=3) rfl Xb X6 rfl) | exact (.lds (vs:=[_,_,_,_]) (.of rfl) hS (k:=3) rfl Xb X6 rfl (fun _ _ h=>h)) | exact (.ldsI (.of rfl) hS hx Xb X6 rfl (fun _ _ h=>h)) | exact (.ldsI (.of rfl) hS (At.add hx _) Xb X6 rfl (fun _ _ h=>h)))) rfl ?_
 refine .gcall (T:=fun w=>Sat B w J _) rfl rfl rfl Qf28 rfl (fun hg1=>(X0 (.gd hg1 rfl) X1)) rfl (fun hg1=>X3a ⟨t2,[],0,nx⟩ (by simpa using hg1) B _ J (hK.mono hJ) _ hS) hS ?_
 clear hS; rintro w hS
 refine .gval rfl rfl (fun hg1=>(.move (.of rfl))) rfl (.gval rfl rfl (fun hg1=>(.nes (.gd hg1 rfl) (.gd hg1 rfl))) rfl (.val (.por (.of rfl) (.of rfl) (.of rfl)) rfl (.nil ?_)))
 refine WC.cond rfl (fun hb55=>?_) (fun hb55=>?_)
 ·
  have hc55:=hb55; try simp only [Y4] at hc55
  refine .seq (.q 2 rfl (.ret (X3u Tryz.results25 rfl rfl ?_)))
  refine ⟨_,rfl,?_,X2c hJ ((((hS.drop (k:=0) rfl).drop (k:=0) rfl).drop (k:=0) rfl).drop (k:=0) rfl)⟩
  have hno:X14 s=none:=X7w fun t n ht hn es=>by
   have hr:=X93 (Xv ht).1 n
   rw [← es,hfnd.1] at hr
   injection hr with hr
   subst hr
   have hk:=Xba t n
   rw [hfnd.2] at hk
   injection hk with hk
   subst hk
   have hav3:av=(Xbb,Go.Lib.decDigits n):=by
    have:some av=some (Xbb,Go.Lib.decDigits n):=hav.symm
    injection this
   have hn2:=hnx n hn (by rw [hav3])
   have ht2:t2=t:=hq2
   subst ht2; subst hn2
   have hright:Xd ⟨t2,[],0,(n:Int)⟩=true:=by
    unfold Xd
    simp only [ht,List.length_nil]
    simp
    omega
   rw [hright,Y9,← es] at hb55
   simp at hb55
  rw [hno]; rfl
 have hc55:=hb55; try simp only [Y4] at hc55
 refine .skip (.seq (.region ?_))
 first | refine WL.val (.fieldAddr 0 (.of rfl) Xg rfl rfl Qs9 rfl) rfl ?_ | refine WL.val (.fieldAddrI 0 (.of rfl) Xg rfl rfl Qs9 rfl) rfl ?_
 first | refine WL.val (.ld (.of rfl) hS (k:=0) rfl Qg9 rfl) rfl ?_ | refine WL.val (.ld (.of rfl) hS (k:=1) rfl Qg9 rfl) rfl ?_ | refine WL.val (.ld (.of rfl) hS (k:=2) rfl Qg9 rfl) rfl ?_ | refine WL.val (.ld (.of rfl) hS (k:=3) rfl Qg9 rfl) rfl ?_ | refine WL.val (.ldI (.of rfl) hS (At.add hx _) Qg9 rfl) rfl ?_
 refine .q 2 rfl (.nil (.ret (X3u Tryz.results25 rfl rfl ?_)))
 refine ⟨_,rfl,?_,X2c hJ ((((hS.drop (k:=0) rfl).drop (k:=0) rfl).drop (k:=0) rfl).drop (k:=0) rfl)⟩
 have hb8:=hb55
 simp only [Yi,bne_eq_false_iff_eq,Y11] at hb8
 obtain ⟨hr1,hr2⟩:=hb8
 obtain ⟨hr3,hr4,hr5,_⟩:=Xo hr1
 have:=X4l (t:=t2) hr3 (n:=nx.toNat) (by (try dsimp only at hr4 hr5); omega)
 rw [show MSG t2 nx.toNat=s by simpa using hr2] at this
 rw [this]; rfl
end Go.Proofs.YtbciobiiejpdgaaGreatDoor
namespace Rk
open Flt
def W (x y:Nat):Nat→Option Nat
 | 0=>nf x
 | k+1=>(W x y k).bind fun v=>Ieee.double.mul v y
theorem W_step {x y k r r':Nat} (h:nf r=W x y k) (h':nf r'=Ieee.double.mul r y):nf r'=W x y (k+1):=by
 rw [W,← h,h']
 unfold nf
 cases hn:nan r
 ·rfl
 ·simp [Xdi (.inl hn)]
def X83 (n:Int):Nat:=(max 0 (min n 64)).toNat
def Xbf (x y:Nat) (k:Nat) (z:Nat):Nat:=if lt 0 z then match W x y k with | none=>z | some v=>if lt z v then z else if lt 0 v then v else 0 else 0
def waitV (x y:Nat) (n:Int) (z:Nat):Nat:=Xbf x y (X83 n) z
theorem Xdc {x y k z:Nat} (h:lt 0 z=false):Xbf x y k z=0:=by unfold Xbf; rw [h]; rfl
theorem X6h {x y k z r:Nat} (h:lt 0 z=true) (hr:nf r=W x y k):Xbf x y k z=if nan r || lt z r then z else if lt 0 r then r else 0:=by
 unfold Xbf
 rw [h,if_pos rfl,← hr]
 unfold nf
 cases nan r <;> simp
theorem Xc6:nan 0=false:=by decide
theorem Xea:sv 0=0:=by decide
theorem lt0 (v:Nat):lt 0 v=(!nan v && decide (0<sv v)):=by unfold lt; rw [Xc6,Xea]; simp
theorem Xce (v:Nat):(!feq v v)=nan v:=by unfold feq; cases nan v <;> simp
def top (most:Int):Int:=max 0 (min most 1099511627776)
def cei (x:Nat):Int:=((Ieee.double.read (X7a x)).toInt .zero).getD 0
def cnt (x:Nat) (most:Int):Int:=if nan x || lt (ofI (top most)) x then top most else if lt 0 x then cei x else 0
theorem X7e (most:Int):0≤top most∧top most≤1099511627776:=by unfold top; omega
theorem Xdq {x:Nat} {most:Int} (h:nan x=false):lt (ofI (top most)) x=decide (top most*(one:Int)<sv x):=by
 obtain ⟨h1,h2⟩:=Xc7 (X7e most).1 (X7e most).2
 unfold lt; rw [h1,h,h2]; simp
theorem X9q {x:Nat} {most:Int} (h:(nan x || lt (ofI (top most)) x)=false) (h0:lt 0 x=true) :
  (Ieee.double.read (X7a x)).toInt .zero=some (cei x)∧0≤cei x∧cei x≤top most∧sv x≤cei x*one∧(cei x - 1)*one<sv x:=by
 simp only [Yi] at h
 obtain ⟨hn,hl⟩:=h
 rw [Xdq hn] at hl
 simp only [decide_eq_false_iff_not] at hl
 rw [lt0,hn] at h0
 simp at h0
 have ho:(0:Int)<(one:Int):=Y3b.2 X8l
 have ht:=(X7e most).2
 have hmul:top most*(one:Int)≤1099511627776*(one:Int):=Y2v ht (by omega)
 obtain ⟨c,hc,h1,h2,h3⟩:=Xav hn h0 (by omega)
 have e:cei x=c:=by unfold cei; rw [hc]; rfl
 rw [e]
 refine ⟨hc,by omega,?_,h2,h3⟩
 have:((c:Int) - 1)*one<top most*one:=by omega
 have:=Y29 this (Y3m ho)
 omega
theorem cnt_laws (x:Nat) (most:Int):0≤cnt x most∧cnt x most≤top most∧(nan x=false→cnt x most<top most→sv x≤cnt x most*one)∧(0<cnt x most→nan x=false→(cnt x most - 1)*one<sv x):=by
 have ho:(0:Int)<(one:Int):=Y3b.2 X8l
 have ht:=X7e most
 unfold cnt
 cases hh:(nan x || lt (ofI (top most)) x)
 ·simp only [Yp,if_false]
  cases hp:lt 0 x
  ·simp only [Yp,if_false]
   refine ⟨by omega,ht.1,fun hn _=>?_,by omega⟩
   rw [lt0,hn] at hp
   simp at hp
   omega
  ·simp only [if_true]
   obtain ⟨_,g1,g2,g3,g4⟩:=X9q hh hp
   exact ⟨g1,g2,fun _ _=>g3,fun _ _=>g4⟩
 ·simp only [if_true]
  refine ⟨ht.1,Int.le_refl _,fun _ h=>by omega,fun h hn=>?_⟩
  rw [hn,Xdq hn] at hh
  simp at hh
  have:(top most - 1)*(one:Int)≤top most*one:=Y2v (by omega) (by omega)
  omega
end Rk
namespace Go.Proofs.YtbciobiiejpdgaaGreatDoor
open Gk Rk Flt
theorem X7i (a:Nat) (w:World) :
  Calls Tryz.prog 101 [F64 a].toArray w (Ret fun v w'=>v=.bool (Flt.nan a)∧w=w'):=by
 refine calls Tryz.func101 rfl Tryz.ntmps101 rfl (.seq (.q 1 rfl (.seq (.t 2 rfl (.val (.fneq (.of rfl) (.of rfl)) rfl (.q 1 rfl (.nil (.ret (Xl Tryz.results101 rfl ?_)))))))))
 exact ⟨_,rfl,by rw [Xce],rfl⟩
end Go.Proofs.YtbciobiiejpdgaaGreatDoor
namespace Go.Proofs.YtbciobiiejpdgaaGreatDoor
open Gk Rk Flt
set_option maxRecDepth 20000
theorem Xdo (x y:Nat) (n:Int) (z:Nat) (B w:World) (I:Im) (As:List Xf) (hS:Sat B w I As) :
  Calls Tryz.prog 59 [F64 x,F64 y,I64 n,F64 z].toArray w (Ret fun v w'=>v=F64 (waitV x y n z)∧Sat B w' I As):=by
 refine calls Tryz.func59 rfl Tryz.ntmps59 rfl (.seq (.q 1 rfl (.seq (.seq (.t 1 rfl (.val (.fgtr (.of rfl) (.of rfl)) rfl (.q 1 rfl (.nil ?_))))))))
 refine WC.cond rfl (fun hb11=>?_) (fun hb11=>?_)
 ·
  have hc11:=hb11; try simp only [Y4] at hc11
  refine .seq (.q 1 rfl (.ret (Xl Qr59 rfl ?_)))
  exact ⟨_,rfl,by rw [waitV,Xdc (by simpa using hb11)],hS⟩
 have hc11:=hb11; try simp only [Y4] at hc11
 refine .skip (.seq (.seq (.t 1 rfl (.val (.min2 (.of rfl) (.of rfl)) rfl (.val (.max2 (.of rfl) (.of rfl)) rfl (.q 1 rfl (.nil (.block ?_))))))))
 refine WC.loop (σ:=Nat×Nat) (fun ⟨r,j⟩=>[(0,F64 r),(1,F64 y),(3,F64 z),(14,I64 (max 0 (min n 64))),(15,I64 (j:Nat))]) (fun ⟨r,j⟩ w=>nf r=W x y j∧(j:Int)≤max 0 (min n 64)∧Sat B w I As) (fun ⟨r,j⟩=>(max 0 (min n 64)).toNat - j) (x,0) ⟨rfl,rfl,rfl,rfl,rfl,trivial⟩ ⟨rfl,by (try dsimp only); omega,hS⟩ ?_
 rintro ⟨r,j⟩ w ⟨hr,hj,hS⟩
 change WC _ _ _ _ [(0,F64 r),(1,F64 y),(3,F64 z),(14,I64 (max 0 (min n 64))),(15,I64 (j:Nat))] w
 refine .seq (.q 1 rfl (.seq ?_))
 refine WC.cond rfl (fun hb16=>?_) (fun hb16=>?_)
 ·
  have hc16:=hb16; try simp only [Y4] at hc16
  refine .skip (.seq (.block (.t 2 rfl (.fmul hS (.of rfl) (.of rfl) rfl ?_))))
  clear hS; intro fr19 w hr19 hn19 hS
  refine .q 1 rfl (.nil (.region (.run 2 rfl ⟨⟨by omega,by omega⟩,trivial⟩ (.nil ?_))))
  refine ⟨(fr19,j+1),⟨rfl,rfl,rfl,rfl,rfl,trivial⟩,⟨W_step hr hn19,by (try dsimp only); omega,hS⟩,by (try dsimp only); omega⟩
 have hc16:=hb16; try simp only [Y4] at hc16
 refine .exit (.seq (.block (.seq (.t 1 rfl (.call Tryz.func101 rfl (X0 (.of rfl) X1) rfl (X7i _ _) ?_)))))
 rintro _ _ ⟨rfl,rfl⟩
 refine .q 1 rfl (.gval rfl rfl (fun hg1=>(.move (.of rfl))) rfl (.gval rfl rfl (fun hg1=>(.move (.of rfl))) rfl (.gval rfl rfl (fun hg1=>(.fgtr (.gd hg1 rfl) (.gd hg1 rfl))) rfl (.val (.por (.of rfl) (.of rfl) (.of rfl)) rfl (.q 1 rfl (.nil ?_))))))
 refine WC.cond rfl (fun hb21=>?_) (fun hb21=>?_)
 ·
  have hc21:=hb21; try simp only [Y4] at hc21
  refine .seq (.q 2 rfl (.ret (Xl Qr59 rfl ?_)))
  have ht:j=X83 n:=by unfold X83; omega
  subst ht
  have hz:lt 0 z=true:=by simpa using hb11
  exact ⟨_,rfl,by rw [waitV,X6h hz hr,if_pos hb21],hS⟩
 have hc21:=hb21; try simp only [Y4] at hc21
 refine .seq (.t 1 rfl (.val (.fgtr (.of rfl) (.of rfl)) rfl (.q 1 rfl (.nil ?_))))
 refine WC.cond rfl (fun hb30=>?_) (fun hb30=>?_)
 ·
  have hc30:=hb30; try simp only [Y4] at hc30
  refine .seq (.q 2 rfl (.ret (Xl Qr59 rfl ?_)))
  have ht:j=X83 n:=by unfold X83; omega
  subst ht
  have hz:lt 0 z=true:=by simpa using hb11
  exact ⟨_,rfl,by rw [waitV,X6h hz hr,if_neg (by rw [hb21]; simp),if_pos hb30],hS⟩
 have hc30:=hb30; try simp only [Y4] at hc30
 refine .skip (.seq (.q 1 rfl (.ret (Xl Qr59 rfl ?_))))
 have ht:j=X83 n:=by unfold X83; omega
 subst ht
 have hz:lt 0 z=true:=by simpa using hb11
 exact ⟨_,rfl,by rw [waitV,X6h hz hr,if_neg (by rw [hb21]; simp),if_neg (by rw [hb30]; simp)],hS⟩
theorem Xdj {P : Program} (w : World) {x : Nat} (hn : Flt.nan x = false) : (Extern.MathFloor.toIntegral "math.archCeil" .up [F64 x].toArray).run P w = .ok (F64 (X7a x)) w := by
 have hx:Ieee.double.read x=FloatKind.f64.decode x:=rfl
 have hd:(∃ s m i,FloatKind.f64.decode x=.number s m i)∨∃ s,FloatKind.f64.decode x=.infinity s:=by
  have h1:¬ 9218868437227405312<rg x:=by simpa [Flt.nan] using hn
  rcases Yo (rg x) 9218868437227405312 with h | h
  ·obtain ⟨m,i,e,_⟩:=X2m h
   exact .inl ⟨_,m,i,e⟩
  ·exact .inr ⟨_,X45 (by omega)⟩
 have e:X7a x=FloatKind.f64.encode ((FloatKind.f64.decode x).integral .up):=rfl
 rw [e]
 rcases hd with ⟨s,m,i,hd⟩ | ⟨s,hd⟩
 ·delta Extern.MathFloor.toIntegral
  conv=>lhs; arg 2; whnf
  rw [hd]
  rfl
 ·delta Extern.MathFloor.toIntegral
  conv=>lhs; arg 2; whnf
  rw [hd]
  rfl
theorem Xch (x:Nat) (hn:Flt.nan x=false) (w:World) :
  Calls Tryz.prog 102 [F64 x].toArray w (Ret fun v w'=>v=F64 (X7a x)∧w=w'):=by
 refine calls Tryz.func102 rfl Tryz.ntmps102 rfl (.seq (.q 1 rfl (.seq (.condT (rfl) (.seq (.t 1 rfl (.val (.extern Tryz.func142 (by kernel_rfl) (by kernel_rfl) (by kernel_rfl) (e := Extern.MathFloor.toIntegral "math.archCeil" .up) (by kernel_rfl) (X0 (.of rfl) X1) (Xdj w hn)) rfl (.q 1 rfl (.nil (.ret (Xl Tryz.results102 rfl ?_)))))))))))
 exact ⟨_,rfl,rfl,rfl⟩
theorem Xaz (x:Nat) (most:Int) (w:World) :
  Calls Tryz.prog 60 [F64 x,I64 most].toArray w (Ret fun v w'=>v=I64 (cnt x most)∧w=w'):=by
 refine calls Tryz.func60 rfl Tryz.ntmps60 rfl (.seq (.q 1 rfl (.seq (.t 1 rfl (.val (.min2 (.of rfl) (.of rfl)) rfl (.val (.max2 (.of rfl) (.of rfl)) rfl (.q 1 rfl (.nil (.seq (.block (.seq (.t 1 rfl (.call Tryz.func101 rfl (X0 (.of rfl) X1) rfl (X7i _ _) ?_)))))))))))))
 rintro _ _ ⟨rfl,rfl⟩
 refine .q 1 rfl (.gval rfl rfl (fun hg1=>(.move (.of rfl))) rfl (.gval rfl rfl (fun hg1=>(.move (.of rfl))) rfl (.gval rfl rfl (fun hg1=>(.toF (.gd hg1 rfl) rfl Tryz.underlying27)) rfl (.gval rfl rfl (fun hg1=>(.fgtr (.gd hg1 rfl) (.gd hg1 rfl))) rfl (.val (.por (.of rfl) (.of rfl) (.of rfl)) rfl (.q 1 rfl (.nil ?_)))))))
 refine WC.cond rfl (fun hb8=>?_) (fun hb8=>?_)
 ·
  have hc8:=hb8; try simp only [Y4] at hc8
  refine .seq (.q 2 rfl (.ret (Xl Tryz.results60 rfl ?_)))
  exact ⟨_,rfl,by rw [cnt,if_pos (show (Flt.nan x || lt (ofI (top most)) x)=true from hb8)]; rfl,rfl⟩
 have hc8:=hb8; try simp only [Y4] at hc8
 refine .seq (.t 1 rfl (.val (.fgtr (.of rfl) (.of rfl)) rfl (.q 1 rfl (.nil ?_))))
 refine WC.cond rfl (fun hb18=>?_) (fun hb18=>?_)
 ·
  have hc18:=hb18; try simp only [Y4] at hc18
  refine .seq ?_
  have hnx:Flt.nan x=false:=by cases h:Flt.nan x <;> simp [h] at hb8 ⊢
  have hcs:=X9q (x:=x) (most:=most) hb8 hb18
  have htp:=X7e most
  refine .t 1 rfl (.call Tryz.func102 rfl (X0 (.of rfl) X1) rfl (Xch x hnx _) ?_)
  rintro _ _ ⟨rfl,rfl⟩
  refine .val (.ofF (.of rfl) rfl Qu3 hcs.1 hcs.2.1 (by omega)) rfl (.q 1 rfl (.nil (.ret (Xl Tryz.results60 rfl ?_))))
  exact ⟨_,rfl,by rw [cnt,if_neg (show ¬ _ by rw [show (Flt.nan x || lt (ofI (top most)) x)=false from hb8]; simp),if_pos hb18],rfl⟩
 have hc18:=hb18; try simp only [Y4] at hc18
 refine .skip (.seq (.q 1 rfl (.ret (Xl Tryz.results60 rfl ?_))))
 exact ⟨_,rfl,by rw [cnt,if_neg (show ¬ _ by rw [show (Flt.nan x || lt (ofI (top most)) x)=false from hb8]; simp),if_neg (by rw [hb18]; simp)],rfl⟩
end Go.Proofs.YtbciobiiejpdgaaGreatDoor
namespace Xm
open Ul Pc Gk Pat Tk Tr
def nt0:Nt:=⟨[],[],0,0⟩
def Xff:List Nt→List Nt→Bool
 | _,[]=>false
 | q,n::r=>(q.any fun x=>x.ticket == n.ticket) || Xff (q ++ [n]) r
def X98 (q l:List Nt):List Nt×Nat:=if (l.any fun n=>!Xd n)=true then (q,1) else if Xff q l=true then (q,7) else if 64<q.length+l.length then (q,5) else (q ++ l,0)
def X3g:Option Nt→List Nt→Option Nt
 | b,[]=>b
 | none,n::r=>X3g (some n) r
 | some b,n::r=>X3g (some (if n.next<b.next then n else b)) r
def X54 (q:List Nt) (now:Int):Nt×Bool:=match X3g none q with
 | none=>(nt0,false)
 | some b=>if now<b.next then (nt0,false) else (b,true)
structure Qc where
 x:Nat
 y:Nat
 z:Nat
 tries:Int
def limQ (c:Qc):Int:=max 1 (min c.tries 9)
def X3w (c:Qc) (n:Nt) (now:Int):Nt:=⟨n.ticket,n.url,n.tries+1,min (now+Rk.cnt (Rk.waitV c.x c.y n.tries c.z) 1099511627776) 1099511627776⟩
def ixN (q:List Nt) (t:List UInt8):Int:=Xw (fun n=>n.ticket == t) q 0
def X35 (c:Qc) (q:List Nt) (t:List UInt8) (ok:Bool) (now:Int):List Nt×Nat:=match q[(ixN q t).toNat]? with
 | none=>(q,6)
 | some n=>if ixN q t<0 then (q,6) else if ok=true∨limQ c≤n.tries+1 then (q.eraseIdx (ixN q t).toNat,0) else (q.set (ixN q t).toNat (X3w c n now),0)
theorem X4v:∀ (a b:List Nt) (s:Option Nt),X3g s (a ++ b)=X3g (X3g s a) b
 | [],b,s=>rfl
 | m::r,b,none=>X4v r b _
 | m::r,b,some _=>X4v r b _
theorem Xee (x:Nat):0≤Rk.cnt x 1099511627776∧Rk.cnt x 1099511627776≤1099511627776:=by
 have h:=Rk.cnt_laws x 1099511627776
 have h2:Rk.top 1099511627776=1099511627776:=by decide
 rw [h2] at h
 exact ⟨h.1,h.2.1⟩
end Xm
namespace Go.Proofs.YtbciobiiejpdgaaGreatDoor
open Gk Ul Pc Pat Xm Tr Tk
set_option maxRecDepth 4000
theorem X3i:Tryz.prog.info? 45=some Tryz.t45:=by kernel_rfl
theorem X9z:Bld Tryz.prog 113 [(0,1),(1,1),(2,1),(3,1),(4,1)] [.int .i64 0,.float .f64 0,.float .f64 0,.float .f64 0,.slice none 0 0]:=X5s X1e Tryz.zeroValue113 (fun w=>by simp [go_sem])
theorem X2b (a:Option Addr) (cap:Nat) (l:List (Nt)) (hln:l.length≤9223372036854775807) (pr:Nt→Bool) (fid:FuncId) (fn:Func) (hfn:Tryz.prog.funcs[fid]?=some fn) (hcal:Xk fn=true) (capv:List Value) (B w:World) (I:Im) (As:List Xf) (hE:∀ w,Sat B w I As→X7n w X5 4 a l) (hf:∀ (r:Nt) (hr:r∈l) w,Sat B w I As→Calls Tryz.prog fid ([Value.agg (X5 r).toArray] ++ capv).toArray w (Ret fun v w'=>v=.bool (pr r)∧Sat B w' I As)) (hS:Sat B w I As) :
  Calls Tryz.prog 98 [.slice a l.length cap,.func (.func fid) #[] capv.toArray].toArray w (Ret fun v w'=>v=I64 (Xw pr l 0)∧Sat B w' I As):=by
 refine calls Tryz.func98 rfl Tryz.ntmps98 rfl (.seq (.q 1 rfl (.seq (.seq (.region (.run 3 rfl ⟨⟨_,X2z⟩,trivial⟩ (.nil (.block (.loop (σ:=Nat) (fun i=>[(0,.slice a l.length cap),(1,.func (.func fid) #[] capv.toArray),(7,I64 (l.length:Nat)),(8,I64 (i:Nat))]) (fun i w=>i≤l.length∧(∀ (j:Nat) t,j<i→l[j]?=some t→pr t=false)∧Sat B w I As) (fun i=>l.length - i) 0 ⟨rfl,rfl,rfl,rfl,trivial⟩ ⟨Yk _,fun _ _ h=>absurd h (by omega),hS⟩ ?_)))))))))
 rintro i w ⟨hi,hno,hS⟩
 change WC _ _ _ _ [(0,.slice a l.length cap),(1,.func (.func fid) #[] capv.toArray),(7,I64 (l.length:Nat)),(8,I64 (i:Nat))] w
 refine .seq (.q 1 rfl (.seq ?_))
 refine WC.cond rfl (fun hb9=>?_) (fun hb9=>?_)
 ·
  have hc9:=hb9; try simp only [Y4] at hc9
  refine .skip (.seq (.block (.seq ?_)))
  obtain ⟨r,hr⟩:∃ r,l[i]?=some r:=⟨_,Y3 (by omega)⟩
  obtain ⟨p,rfl,hx⟩:=hE w hS i r hr
  refine .q 2 rfl (.seq (.t 3 rfl ?_))
  first | refine WL.val (.indexAddr (.of rfl) (.of rfl) (by omega) (by omega) X2z X6) rfl ?_ | refine WL.val (.indexAddrI (.of rfl) (.of rfl) (by omega) (by omega) X2z X6) rfl ?_
  refine .val (.ldR (.of rfl) hx Xb X6 rfl) rfl (.vcall (cap:=capv) hfn hcal (.of rfl) (X0 (.of rfl) X1) rfl (hf r (Yj hr) w hS) ?_)
  clear hS
  rintro _ w ⟨rfl,hS⟩
  refine .nil ?_
  refine WC.cond rfl (fun hb16=>?_) (fun hb16=>?_)
  ·
   have hc16:=hb16; try simp only [Y4] at hc16
   refine .seq (.q 2 rfl (.ret (Xl Tryz.results98 rfl ?_)))
   exact ⟨_,rfl,by rw [X3p hno hr hb16],hS⟩
  have hc16:=hb16; try simp only [Y4] at hc16
  refine .skip (.region (.run 2 rfl ⟨⟨by omega,by omega⟩,trivial⟩ (.nil ?_)))
  refine ⟨i+1,⟨rfl,rfl,rfl,rfl,trivial⟩,⟨by (try dsimp only); omega,fun j t hj ht=>?_,hS⟩,by (try dsimp only); omega⟩
  rcases Yo j i with h1 | h1
  ·exact hno j t h1 ht
  ·have e:j=i:=by omega
   subst e
   rw [hr] at ht; cases ht
   exact hb16
 have hc9:=hb9; try simp only [Y4] at hc9
 refine .exit (.seq (.q 1 rfl (.ret (Xl Tryz.results98 rfl ?_))))
 exact ⟨_,rfl,by rw [X2u (fun j t ht=>hno j t (by have:=(Y1.1 ht).1; omega) ht)],hS⟩
theorem X32 (a:Option Addr) (cap:Nat) (l:List (Nt)) (hln:l.length≤9223372036854775807) (pr:Nt→Bool) (fid:FuncId) (fn:Func) (hfn:Tryz.prog.funcs[fid]?=some fn) (hcal:Xk fn=true) (capv:List Value) (B w:World) (I:Im) (As:List Xf) (hE:∀ w,Sat B w I As→X7n w X5 4 a l) (hf:∀ (r:Nt) (hr:r∈l) w,Sat B w I As→Calls Tryz.prog fid ([Value.agg (X5 r).toArray] ++ capv).toArray w (Ret fun v w'=>v=.bool (pr r)∧Sat B w' I As)) (hS:Sat B w I As) :
  Calls Tryz.prog 52 [.slice a l.length cap,.func (.func fid) #[] capv.toArray].toArray w (Ret fun v w'=>v=.bool (l.any pr)∧Sat B w' I As):=by
 refine calls Tryz.func52 rfl Tryz.ntmps52 rfl (.seq (.q 1 rfl (.seq (.t 2 rfl (.call Tryz.func98 rfl (X0 (.of rfl) (X0 (.of rfl) X1)) rfl (X2b a cap l hln pr fid fn hfn hcal capv B _ I As hE hf hS) ?_)))))
 clear hS
 rintro _ w ⟨rfl,hS⟩
 refine .q 2 rfl (.nil (.ret (Xl Tryz.results52 rfl ?_)))
 exact ⟨_,rfl,by rw [← X1i pr l 0],hS⟩
theorem nt_vec {B w:World} {I:Im} {As:List Xf} {k c:Nat} {a:Option Addr} {l:List Nt} (hS:Sat B w I As) (hk:As[k]?=some (Vec 45 4 (.slice a l.length c) l.length (X8 X5 (l)))):X7n w X5 4 a l:=fun i r hr=>by
 obtain ⟨b,cap,rest,hv,_,_,_,_,hSo⟩:=hS.vecOpen hk (by have:=(Y1.1 hr).1; omega)
 injection hv with h1 h2 h3
 subst h1
 have hb:=hSo.block (k:=k) (by rw [Y3i ((Y1.1 hk).1)]; rfl)
 refine ⟨_,rfl,fun j v hj=>?_⟩
 rw [Addr.add_add]
 have h3:=X2x (cells:=X5) (s:=4) (fun _=>rfl) hr hj
 have:=X19 hb (o:=i*4+j) (by rw [Yl (Y1.1 h3).1]; exact h3)
 rw [X1d,Y7]
 exact this
theorem X55 {α:Type} {cells:α→List Value} (h:∀ r,(cells r).all Value.oneCell'=true):∀ l:List α,(X8 cells l).all Value.oneCell'=true
 | []=>rfl
 | x::l=>by
  show (cells x ++ X8 cells l).all _=true
  rw [Y3p,h x,X55 h l]; rfl
theorem Xec (r:Nt) (t:List UInt8) (b3:Nat) (B w:World) (I:Im) (As:List Xf) (hS:Sat B w I (blk b3 [S t] 9::As)) :
  Calls Tryz.prog 100 [.agg (X5 r).toArray,ptr b3 0].toArray w (Ret fun v w'=>v=.bool (r.ticket == t)∧Sat B w' I (blk b3 [S t] 9::As)):=by
 refine calls Tryz.func100 rfl Tryz.ntmps100 rfl (.seq (.region (.boxA (cs:=[_,_,_,_]) hS (.of rfl) rfl ?_)))
 clear hS; intro b2 w hS
 refine .q 1 rfl (.nil (.seq (.region ?_)))
 first | refine WL.val (.fieldAddr 0 (.of rfl) Xg rfl rfl Qs9 rfl) rfl ?_ | refine WL.val (.fieldAddrI 0 (.of rfl) Xg rfl rfl Qs9 rfl) rfl ?_
 first | refine WL.val (.ld (.of rfl) hS (k:=0) rfl Qg9 rfl) rfl ?_ | refine WL.val (.ld (.of rfl) hS (k:=1) rfl Qg9 rfl) rfl ?_
 first | refine WL.val (.ld (.of rfl) hS (k:=0) rfl Qg9 rfl) rfl ?_ | refine WL.val (.ld (.of rfl) hS (k:=1) rfl Qg9 rfl) rfl ?_
 refine .q 2 rfl (.nil (.ret (Xl Tryz.results100 rfl ?_)))
 exact ⟨_,rfl,rfl,hS.drop (k:=0) rfl⟩
theorem Xe4 (a:Option Addr) (c:Nat) (l:List Nt) (hl:l.length≤100000) (t:List UInt8) (B w:World) (I:Im) (As:List Xf) (hE:∀ (w:World) (X:Xf),Sat B w I (X::As)→X7n w X5 4 a l) (hS:Sat B w I As) :
  Calls Tryz.prog 56 [.slice a l.length c,S t].toArray w (Ret fun v w'=>v=I64 (ixN l t)∧Sat B w' I As):=by
 refine calls Tryz.func56 rfl Tryz.ntmps56 rfl (.seq (.region (.box1 hS (.of rfl) rfl rfl ?_)))
 clear hS; intro b3 w hS
 refine .q 1 rfl (.nil (.seq (.t 1 rfl (.val (.makeFunc (X0 (.of rfl) X1)) rfl (.call Tryz.func98 rfl (X0 (.of rfl) (X0 (.of rfl) X1)) rfl (X2b a c l (by omega) (fun r=>r.ticket == t) 100 _ Tryz.func100 rfl [ptr b3 0] B _ I _ (fun w h=>hE w _ h) (fun r hr w h=>Xec r t b3 B w I _ h) hS) ?_)))))
 clear hS
 rintro _ w ⟨rfl,hS⟩
 refine .q 1 rfl (.nil (.ret (Xl Tryz.results56 rfl ?_)))
 exact ⟨_,rfl,rfl,hS.drop (k:=0) rfl⟩
theorem X3m (a:Option Addr) (c:Nat) (l:List Nt) (hl:l.length≤100000) (B w:World) (I:Im) (hR:RS I a 4 l.length (X8 X5 l)) (As:List Xf) (hS:Sat B w I As) :
  Calls Tryz.prog 55 [.slice a l.length c].toArray w (Ret fun v w'=>Sat B w' I (Vec 45 4 v (l).length (X8 X5 (l))::As)):=by
 refine calls Qf55 rfl Tryz.ntmps55 rfl (.seq (.q 1 rfl (.seq (.seq (.t 1 rfl (.val (Ex.slNil (.of rfl) (.of rfl) X2z) rfl (.nil ?_)))))))
 refine WC.cond rfl (fun hb4=>?_) (fun hb4=>?_)
 ·
  have hc4:=hb4; try simp only [Y4] at hc4
  refine .seq (.q 1 rfl (.ret (Xl Tryz.results55 rfl ?_)))
  cases a with
  | some p=>simp at hb4
  | none =>
  have h0:l=[]:=by
   cases l with
   | nil=>rfl
   | cons x l=>obtain ⟨p,h,_⟩:=hR.2 (by simp); cases h
  subst h0
  exact ⟨_,rfl,hS.vecNil 45 4⟩
 have hc4:=hb4; try simp only [Y4] at hc4
 refine .skip (.seq (.region (.buildSlice (cs:=[]) hS X3 X2z X6 X4a rfl rfl rfl rfl ?_)))
 clear hS; intro b5 w hS
 refine .q 1 rfl ?_
 replace hS:=hS.vecOf (k:=0) (E:=45) (size:=4) (n:=0) rfl rfl (Yk _)
 try dsimp only [List.set] at hS
 refine WL.appendF (size:=4) (bytes:=48) hS (.of rfl) (.of rfl) hR (k:=0) rfl X2z (i:=Tryz.t45) (by kernel_rfl) rfl rfl rfl rfl (X55 (fun r=>rfl) l) ⟨by omega,by unfold maxLen; omega⟩ rfl ?_
 clear hS; intro v7 w hS
 rw [Y7,Y6] at hS
 refine .q 1 rfl (.nil (.ret (Xl Tryz.results55 rfl ?_)))
 exact ⟨_,rfl,hS⟩
theorem Xf9 (qb:Nat) (lim:Int) (x y z:Nat) (a:Option Addr) (c:Nat) (q:List Nt) (hq:q.length≤64) (B w:World) (I:Im) (hR:RS I a 4 q.length (X8 X5 q)) (hc:q.length≤c) (As:List Xf) (hS:Sat B w I (blk qb [I64 lim,F64 x,F64 y,F64 z,.slice a q.length c] 113::As)) :
  Calls Tryz.prog 20 [ptr qb 0].toArray w (Ret fun v w'=>∃ J ra rc,v=.slice ra q.length rc∧Le I J∧q.length≤rc∧RS J ra 4 q.length (X8 X5 q)∧Sat B w' J (blk qb [I64 lim,F64 x,F64 y,F64 z,.slice a q.length c] 113::As)):=by
 refine calls Tryz.func20 rfl Tryz.ntmps20 rfl (.seq (.q 1 rfl (.seq (.t 2 rfl ?_))))
 first | refine WL.val (.fieldAddr 4 (.of rfl) X1e rfl rfl X59 rfl) rfl ?_ | refine WL.val (.fieldAddrI 4 (.of rfl) X1e rfl rfl X59 rfl) rfl ?_
 refine .val (.ld (.of rfl) hS (k:=0) rfl Xe7 rfl) rfl (.call Qf55 rfl (X0 (.of rfl) X1) rfl (X3m a c q (by omega) B _ I hR _ hS) ?_)
 clear hS
 rintro v9 w hS
 refine .q 1 rfl (.nil (.ret (Xl Tryz.results20 rfl ?_)))
 obtain ⟨ra,rc,rfl,hrc,_⟩:=hS.vecSlice (k:=0) rfl
 obtain ⟨J,hJ,hRS,hS⟩:=hS.freezeVec (k:=0) rfl
 exact ⟨_,rfl,J,ra,rc,rfl,hJ,hrc,hRS,hS⟩
theorem Xeq (cs:List Value) (x y z:Nat) (tr:Int) (h24:cs[24]?=some (F64 x)) (h25:cs[25]?=some (F64 y)) (h26:cs[26]?=some (F64 z)) (h27:cs[27]?=some (I64 tr)) (B w:World) (I:Im) (As:List Xf) (hS:Sat B w I As) :
  Calls Tryz.prog 11 [.agg cs.toArray].toArray w (Ret fun v w'=>∃ qb,v=ptr qb 0∧Sat B w' I (blk qb [I64 (max 1 (min tr 9)),F64 x,F64 y,F64 z,.slice none 0 0] 113::As)):=by
 refine calls Tryz.func11 rfl Tryz.ntmps11 rfl (.seq (.region (.boxA (cs:=cs) hS (.of rfl) rfl ?_)))
 clear hS; intro b1 w hS
 refine .q 1 rfl (.nil (.seq (.region ?_)))
 first | refine WL.val (.fieldAddr 27 (.of rfl) Xdn rfl rfl Qs3 rfl) rfl ?_ | refine WL.val (.fieldAddrI 27 (.of rfl) Xdn rfl rfl Qs3 rfl) rfl ?_
 refine .val (.ld (v:=I64 tr) (.of rfl) hS (k:=0) rfl Qg3 h27) rfl (.val (.min2 (.of rfl) (.of rfl)) rfl (.val (.max2 (.of rfl) (.of rfl)) rfl ?_))
 first | refine WL.val (.fieldAddr 24 (.of rfl) Xdn rfl rfl Xah rfl) rfl ?_ | refine WL.val (.fieldAddrI 24 (.of rfl) Xdn rfl rfl Xah rfl) rfl ?_
 refine .val (.ld (v:=F64 x) (.of rfl) hS (k:=0) rfl Xde h24) rfl ?_
 first | refine WL.val (.fieldAddr 25 (.of rfl) Xdn rfl rfl Xah rfl) rfl ?_ | refine WL.val (.fieldAddrI 25 (.of rfl) Xdn rfl rfl Xah rfl) rfl ?_
 refine .val (.ld (v:=F64 y) (.of rfl) hS (k:=0) rfl Xde h25) rfl ?_
 first | refine WL.val (.fieldAddr 26 (.of rfl) Xdn rfl rfl Xah rfl) rfl ?_ | refine WL.val (.fieldAddrI 26 (.of rfl) Xdn rfl rfl Xah rfl) rfl ?_
 refine .val (.ld (v:=F64 z) (.of rfl) hS (k:=0) rfl Xde h26) rfl (.val (.build (cs:=[_,_,_,_,_]) (X2 (.of rfl) (X2 (.of rfl) (X2 (.of rfl) (X2 (.of rfl) X3)))) X9z rfl) rfl (.boxA (cs:=[_,_,_,_,_]) hS (.of rfl) rfl ?_))
 clear hS; intro b14 w hS
 refine .q 1 rfl (.nil (.ret (Xl Tryz.results11 rfl ?_)))
 exact ⟨_,rfl,b14,rfl,(hS.drop (k:=1) rfl)⟩
theorem X4h (qb:Nat) (lim:Int) (x y z:Nat) (a:Option Addr) (c:Nat) (q:List Nt) (hq:q.length≤64) (B w:World) (I:Im) (hR:RS I a 4 q.length (X8 X5 q)) (hc:q.length≤c) (hqr:∀ n∈q,Xd n=true) (now:Int) (hn0:0≤now) (hn1:now≤1099511627776) (As:List Xf) (hS:Sat B w I (blk qb [I64 lim,F64 x,F64 y,F64 z,.slice a q.length c] 113::As)) :
  Calls Tryz.prog 17 [ptr qb 0,I64 now].toArray w (Ret fun v w'=>v=.tuple #[.agg (X5 (X54 q now).1).toArray,.bool (X54 q now).2]∧Sat B w' I (blk qb [I64 lim,F64 x,F64 y,F64 z,.slice a q.length c] 113::As)):=by
 refine calls Qf17 rfl Tryz.ntmps17 rfl (.seq (.region (.allocA (cs:=[_,_,_,_]) hS X4a rfl ?_)))
 clear hS; intro b4 w hS
 refine .q 1 rfl (.nil (.seq (.region (.val (.build (cs:=[_,_,_,_]) (X2 (.of rfl) X3) Xp rfl) rfl (.allocA (cs:=[_,_,_,_]) hS X4a rfl ?_)))))
 clear hS; intro b6 w hS
 first | refine WL.stA hS (k:=0) rfl (.of rfl) (.of rfl) rfl X6 rfl (by simp) ?_ | refine WL.stA hS (k:=1) rfl (.of rfl) (.of rfl) rfl X6 rfl (by simp) ?_ | refine WL.stA hS (k:=2) rfl (.of rfl) (.of rfl) rfl X6 rfl (by simp) ?_
 clear hS; intro w hS; try dsimp only [List.set] at hS
 try simp only [Yb,Y6,Y8,Y2,Y5,Yc,Y7] at hS
 refine .nil (.seq (.seq (.t 2 rfl ?_)))
 first | refine WL.val (.fieldAddr 4 (.of rfl) X1e rfl rfl X59 rfl) rfl ?_ | refine WL.val (.fieldAddrI 4 (.of rfl) X1e rfl rfl X59 rfl) rfl ?_
 first | refine WL.val (.ld (.of rfl) hS (k:=0) rfl Xe7 rfl) rfl ?_ | refine WL.val (.ld (.of rfl) hS (k:=1) rfl Xe7 rfl) rfl ?_ | refine WL.val (.ld (.of rfl) hS (k:=2) rfl Xe7 rfl) rfl ?_
 refine .run 2 rfl ⟨⟨_,X2z⟩,trivial⟩ (.nil (.block ?_))
 have hS0:=hS; clear hS
 refine .loop (σ:=Nat×Nt) (fun ⟨i,b⟩=>[(1,I64 now),(4,ptr b4 0),(6,ptr b6 0),(13,.slice a q.length c),(14,I64 (q.length:Nat)),(15,I64 (i:Nat))]) (fun ⟨i,b⟩ w=>i≤q.length∧(X3g none (q.take i)=none∧i=0∧b=⟨[],[],0,1099511627777⟩∨X3g none (q.take i)=some b)∧Sat B w I (blk b6 [S b.ticket,S b.url,I64 b.tries,I64 b.next] 45::blk b4 [S [],S [],I64 0,I64 0] 45::blk qb [I64 lim,F64 x,F64 y,F64 z,.slice a q.length c] 113::As)) (fun ⟨i,b⟩=>q.length - i) (0,⟨[],[],0,1099511627777⟩) ⟨rfl,rfl,rfl,rfl,rfl,rfl,trivial⟩ ⟨Yk _,.inl ⟨rfl,rfl,rfl⟩,hS0⟩ ?_
 rintro ⟨i,b⟩ w ⟨hi,hbb,hS⟩
 change WC _ _ _ _ [(1,I64 now),(4,ptr b4 0),(6,ptr b6 0),(13,.slice a q.length c),(14,I64 (q.length:Nat)),(15,I64 (i:Nat))] w
 clear hS0
 refine .seq (.q 1 rfl (.seq ?_))
 refine WC.cond rfl (fun hb16=>?_) (fun hb16=>?_)
 ·
  have hc16:=hb16; try simp only [Y4] at hc16
  refine .skip (.seq (.block (.seq ?_)))
  obtain ⟨n,hn⟩:∃ n,q[i]?=some n:=⟨_,Y3 (by omega)⟩
  obtain ⟨p,hp9,hx⟩:=X8y (cells:=X5) (s:=4) (fun _=>rfl) hR hn
  subst hp9
  have hrn:=Xo (hqr n (Yj hn))
  have hst:X3g none (q.take (i+1))=X3g (X3g none (q.take i)) [n]:=by rw [Yn,hn,Y1p,X4v]
  refine .region ?_
  first | refine WL.val (.indexAddr (.of rfl) (.of rfl) (by omega) (by omega) X2z X6) rfl ?_ | refine WL.val (.indexAddrI (.of rfl) (.of rfl) (by omega) (by omega) X2z X6) rfl ?_
  rw [Y9]
  refine .val (.ldsI (us:=[S n.ticket,S n.url,I64 n.tries,I64 n.next]) (.of rfl) hS hx Xb X6 rfl (fun _ _ h=>h)) rfl (.allocA (cs:=[_,_,_,_]) hS X4a rfl ?_)
  clear hS; intro b8 w hS
  first | refine WL.stA hS (k:=0) rfl (.of rfl) (.of rfl) rfl X6 rfl (by simp) ?_ | refine WL.stA hS (k:=1) rfl (.of rfl) (.of rfl) rfl X6 rfl (by simp) ?_ | refine WL.stA hS (k:=2) rfl (.of rfl) (.of rfl) rfl X6 rfl (by simp) ?_ | refine WL.stA hS (k:=3) rfl (.of rfl) (.of rfl) rfl X6 rfl (by simp) ?_
  clear hS; intro w hS; try dsimp only [List.set] at hS
  try simp only [Yb,Y6,Y8,Y2,Y5,Yc,Y7] at hS
  refine .nil (.seq (.region ?_))
  first | refine WL.val (.fieldAddr 3 (.of rfl) Xg rfl rfl Qs3 rfl) rfl ?_ | refine WL.val (.fieldAddrI 3 (.of rfl) Xg rfl rfl Qs3 rfl) rfl ?_
  first | refine WL.val (.ld (.of rfl) hS (k:=0) rfl Qg3 rfl) rfl ?_ | refine WL.val (.ld (.of rfl) hS (k:=1) rfl Qg3 rfl) rfl ?_ | refine WL.val (.ld (.of rfl) hS (k:=2) rfl Qg3 rfl) rfl ?_ | refine WL.val (.ld (.of rfl) hS (k:=3) rfl Qg3 rfl) rfl ?_
  first | refine WL.val (.fieldAddr 3 (.of rfl) Xg rfl rfl Qs3 rfl) rfl ?_ | refine WL.val (.fieldAddrI 3 (.of rfl) Xg rfl rfl Qs3 rfl) rfl ?_
  first | refine WL.val (.ld (.of rfl) hS (k:=0) rfl Qg3 rfl) rfl ?_ | refine WL.val (.ld (.of rfl) hS (k:=1) rfl Qg3 rfl) rfl ?_ | refine WL.val (.ld (.of rfl) hS (k:=2) rfl Qg3 rfl) rfl ?_ | refine WL.val (.ld (.of rfl) hS (k:=3) rfl Qg3 rfl) rfl ?_
  refine .q 1 rfl (.nil ?_)
  refine WC.cond rfl (fun hb23=>?_) (fun hb23=>?_)
  ·
   have hc23:=hb23; try simp only [Y4] at hc23
   refine .region ?_
   first | refine WL.val (.ldsW (cs:=[_,_,_,_]) (.of rfl) hS (k:=0) rfl Xb X6 rfl) rfl ?_ | refine WL.val (.lds (vs:=[_,_,_,_]) (.of rfl) hS (k:=0) rfl Xb X6 rfl (fun _ _ h=>h)) rfl ?_ | refine WL.val (.ldsW (cs:=[_,_,_,_]) (.of rfl) hS (k:=1) rfl Xb X6 rfl) rfl ?_ | refine WL.val (.lds (vs:=[_,_,_,_]) (.of rfl) hS (k:=1) rfl Xb X6 rfl (fun _ _ h=>h)) rfl ?_ | refine WL.val (.ldsW (cs:=[_,_,_,_]) (.of rfl) hS (k:=2) rfl Xb X6 rfl) rfl ?_ | refine WL.val (.lds (vs:=[_,_,_,_]) (.of rfl) hS (k:=2) rfl Xb X6 rfl (fun _ _ h=>h)) rfl ?_ | refine WL.val (.ldsW (cs:=[_,_,_,_]) (.of rfl) hS (k:=3) rfl Xb X6 rfl) rfl ?_ | refine WL.val (.lds (vs:=[_,_,_,_]) (.of rfl) hS (k:=3) rfl Xb X6 rfl (fun _ _ h=>h)) rfl ?_
   first | refine WL.stA hS (k:=0) rfl (.of rfl) (.of rfl) rfl X6 rfl (by simp) ?_ | refine WL.stA hS (k:=1) rfl (.of rfl) (.of rfl) rfl X6 rfl (by simp) ?_ | refine WL.stA hS (k:=2) rfl (.of rfl) (.of rfl) rfl X6 rfl (by simp) ?_ | refine WL.stA hS (k:=3) rfl (.of rfl) (.of rfl) rfl X6 rfl (by simp) ?_
   clear hS; intro w hS; try dsimp only [List.set] at hS
   try simp only [Yb,Y6,Y8,Y2,Y5,Yc,Y7] at hS
   refine .nil (.region (.run 2 rfl ⟨⟨by omega,by omega⟩,trivial⟩ (.nil ?_)))
   refine ⟨(i+1,n),⟨rfl,rfl,rfl,rfl,rfl,rfl,trivial⟩,⟨by (try dsimp only); omega,.inr ?_,((((hS.pick 3 rfl).pick 3 rfl).pick 3 rfl).drop (k:=3) rfl)⟩,by (try dsimp only); omega⟩
   rcases hbb with ⟨h1,h2,h3⟩ | h1
   ·rw [hst,h1]; rfl
   ·rw [hst,h1]
    show X3g (some (if n.next<b.next then n else b)) []=_
    rw [if_pos (by have h9:=hc23; omega)]; rfl
  have hc23:=hb23; try simp only [Y4] at hc23
  refine .skip (.region (.run 2 rfl ⟨⟨by omega,by omega⟩,trivial⟩ (.nil ?_)))
  refine ⟨(i+1,b),⟨rfl,rfl,rfl,rfl,rfl,rfl,trivial⟩,⟨by (try dsimp only); omega,.inr ?_,((((hS.pick 3 rfl).pick 3 rfl).pick 3 rfl).drop (k:=3) rfl)⟩,by (try dsimp only); omega⟩
  rcases hbb with ⟨h1,h2,h3⟩ | h1
  ·subst h3; exfalso; have h9:=hc23; (try dsimp only at h9); omega
  ·rw [hst,h1]
   show X3g (some (if n.next<b.next then n else b)) []=_
   rw [if_neg (by have h9:=hc23; omega)]; rfl
 have hc16:=hb16; try simp only [Y4] at hc16
 refine .exit (.seq (.seq (.region ?_)))
 first | refine WL.val (.fieldAddr 3 (.of rfl) Xg rfl rfl Qs3 rfl) rfl ?_ | refine WL.val (.fieldAddrI 3 (.of rfl) Xg rfl rfl Qs3 rfl) rfl ?_
 first | refine WL.val (.ld (.of rfl) hS (k:=0) rfl Qg3 rfl) rfl ?_ | refine WL.val (.ld (.of rfl) hS (k:=1) rfl Qg3 rfl) rfl ?_ | refine WL.val (.ld (.of rfl) hS (k:=2) rfl Qg3 rfl) rfl ?_
 refine .q 1 rfl (.val (.min2 (.of rfl) (.of rfl)) rfl (.q 1 rfl (.nil ?_)))
 refine WC.cond rfl (fun hb30=>?_) (fun hb30=>?_)
 ·
  have hc30:=hb30; try simp only [Y4] at hc30
  refine .seq (.region (.val (.build (cs:=[_,_,_,_]) X3 Xp rfl) rfl ?_))
  first | refine WL.stA hS (k:=0) rfl (.of rfl) (.of rfl) rfl X6 rfl (by simp) ?_ | refine WL.stA hS (k:=1) rfl (.of rfl) (.of rfl) rfl X6 rfl (by simp) ?_ | refine WL.stA hS (k:=2) rfl (.of rfl) (.of rfl) rfl X6 rfl (by simp) ?_
  clear hS; intro w hS; try dsimp only [List.set] at hS
  try simp only [Yb,Y6,Y8,Y2,Y5,Yc,Y7] at hS
  refine .q 1 rfl (.nil (.ret ?_))
  first | refine Xj (b:=_) (cs:=[_,_,_,_]) Qr17 hS (k:=0) rfl Xb X6 rfl rfl rfl ?_ | refine Xj (b:=_) (cs:=[_,_,_,_]) Qr17 hS (k:=1) rfl Xb X6 rfl rfl rfl ?_ | refine Xj (b:=_) (cs:=[_,_,_,_]) Qr17 hS (k:=2) rfl Xb X6 rfl rfl rfl ?_
  refine ⟨_,rfl,?_,(((hS.pick 2 rfl).drop (k:=1) rfl).drop (k:=1) rfl)⟩
  have hiq:i=q.length:=by omega
  subst hiq
  rw [Y2b] at hbb
  unfold X54
  rcases hbb with ⟨h1,_⟩ | h1
  ·rw [h1]; rfl
  ·rw [h1]
   dsimp only
   rw [if_pos (by have h9:=hc30; omega)]; rfl
 have hc30:=hb30; try simp only [Y4] at hc30
 refine .skip (.seq (.region ?_))
 first | refine WL.val (.ldsW (cs:=[_,_,_,_]) (.of rfl) hS (k:=0) rfl Xb X6 rfl) rfl ?_ | refine WL.val (.lds (vs:=[_,_,_,_]) (.of rfl) hS (k:=0) rfl Xb X6 rfl (fun _ _ h=>h)) rfl ?_ | refine WL.val (.ldsW (cs:=[_,_,_,_]) (.of rfl) hS (k:=1) rfl Xb X6 rfl) rfl ?_ | refine WL.val (.lds (vs:=[_,_,_,_]) (.of rfl) hS (k:=1) rfl Xb X6 rfl (fun _ _ h=>h)) rfl ?_ | refine WL.val (.ldsW (cs:=[_,_,_,_]) (.of rfl) hS (k:=2) rfl Xb X6 rfl) rfl ?_ | refine WL.val (.lds (vs:=[_,_,_,_]) (.of rfl) hS (k:=2) rfl Xb X6 rfl (fun _ _ h=>h)) rfl ?_
 first | refine WL.stA hS (k:=0) rfl (.of rfl) (.of rfl) rfl X6 rfl (by simp) ?_ | refine WL.stA hS (k:=1) rfl (.of rfl) (.of rfl) rfl X6 rfl (by simp) ?_ | refine WL.stA hS (k:=2) rfl (.of rfl) (.of rfl) rfl X6 rfl (by simp) ?_
 clear hS; intro w hS; try dsimp only [List.set] at hS
 try simp only [Yb,Y6,Y8,Y2,Y5,Yc,Y7] at hS
 refine .q 1 rfl (.nil (.ret ?_))
 first | refine Xj (b:=_) (cs:=[_,_,_,_]) Qr17 hS (k:=0) rfl Xb X6 rfl rfl rfl ?_ | refine Xj (b:=_) (cs:=[_,_,_,_]) Qr17 hS (k:=1) rfl Xb X6 rfl rfl rfl ?_ | refine Xj (b:=_) (cs:=[_,_,_,_]) Qr17 hS (k:=2) rfl Xb X6 rfl rfl rfl ?_
 refine ⟨_,rfl,?_,(((hS.pick 2 rfl).drop (k:=1) rfl).drop (k:=1) rfl)⟩
 have hiq:i=q.length:=by omega
 subst hiq
 rw [Y2b] at hbb
 unfold X54
 rcases hbb with ⟨h1,h2,h3⟩ | h1
 ·subst h3; exfalso; have h9:=hc30; (try dsimp only at h9); omega
 ·rw [h1]
  dsimp only
  rw [if_neg (by have h9:=hc30; omega)]; rfl
theorem Xcm (r:Nt) (h1:r.ticket.length≤60) (h2:r.url.length≤120) (B w:World) (I:Im) (hK:Kx I) (hP:PreAt I) (As:List Xf) (hS:Sat B w I As) :
  Calls Tryz.prog 53 [.agg (X5 r).toArray].toArray w (Ret fun v w'=>v=.bool (!Xd r)∧Sat B w' I As):=by
 refine calls Tryz.func53 rfl Tryz.ntmps53 rfl (.seq (.region (.boxA (cs:=[_,_,_,_]) hS (.of rfl) rfl ?_)))
 clear hS; intro b1 w hS
 refine .q 1 rfl (.nil (.seq (.region ?_)))
 first | refine WL.val (.ldsW (cs:=[_,_,_,_]) (.of rfl) hS (k:=0) rfl Xb X6 rfl) rfl ?_ | refine WL.val (.lds (vs:=[_,_,_,_]) (.of rfl) hS (k:=0) rfl Xb X6 rfl (fun _ _ h=>h)) rfl ?_
 refine .call Qf54 rfl (X0 (.of rfl) X1) rfl (X2f r (by omega) (by omega) B _ I hK hP _ hS) ?_
 clear hS
 rintro _ w ⟨rfl,hS⟩
 refine .q 2 rfl (.nil (.ret (Xl Tryz.results53 rfl ?_)))
 exact ⟨_,rfl,rfl,(hS.drop (k:=0) rfl)⟩
theorem Xfm (qb:Nat) (lim:Int) (x y z:Nat) (a:Option Addr) (c:Nat) (q:List Nt) (hq:q.length≤64) (B w:World) (I:Im) (hR:RS I a 4 q.length (X8 X5 q)) (hc:q.length≤c) (la:Option Addr) (lc:Nat) (l:List Nt) (hl:l.length≤70) (hls:∀ n∈l,n.ticket.length≤60∧n.url.length≤120) (hRl:RS I la 4 l.length (X8 X5 l)) (hK:Kx I) (hP:PreAt I) (As:List Xf) (hS:Sat B w I (blk qb [I64 lim,F64 x,F64 y,F64 z,.slice a q.length c] 113::As)) :
  Calls Tryz.prog 13 [ptr qb 0,.slice la l.length lc].toArray w (Ret fun v w'=>∃ J a2 c2,v=I64 ((X98 q l).2:Nat)∧Le I J∧RS J a2 4 (X98 q l).1.length (X8 X5 (X98 q l).1)∧(X98 q l).1.length≤c2∧Sat B w' J (blk qb [I64 lim,F64 x,F64 y,F64 z,.slice a2 (X98 q l).1.length c2] 113::As)):=by
 refine calls Tryz.func13 rfl Tryz.ntmps13 rfl (.seq (.q 1 rfl (.seq (.seq (.t 1 rfl (.call Tryz.func52 rfl (X0 (.of rfl) (X0 (.of rfl) X1)) rfl (X32 la lc l (by omega) (fun n=>!Xd n) 53 _ Tryz.func53 rfl [] B _ I _ (fun w h=>X56 (cells:=X5) (s:=4) (fun _=>rfl) h hRl) (fun r hr w h=>Xcm r (hls r hr).1 (hls r hr).2 B w I hK hP _ h) hS) ?_))))))
 clear hS
 rintro _ w ⟨rfl,hS⟩
 refine .nil ?_
 refine WC.cond rfl (fun hb9=>?_) (fun hb9=>?_)
 ·
  have hc9:=hb9; try simp only [Y4] at hc9
  refine .seq (.q 1 rfl (.ret (Xl Qr13 rfl ?_)))
  have hp:X98 q l=(q,1):=by unfold X98; rw [if_pos hb9]
  rw [hp]
  exact ⟨_,rfl,I,a,c,rfl,Le.refl _,hR,hc,hS⟩
 have hc9:=hb9; try simp only [Y4] at hc9
 refine .skip (.seq (.t 2 rfl ?_))
 first | refine WL.val (.fieldAddr 4 (.of rfl) X1e rfl rfl X59 rfl) rfl ?_ | refine WL.val (.fieldAddrI 4 (.of rfl) X1e rfl rfl X59 rfl) rfl ?_
 refine .val (.ld (.of rfl) hS (k:=0) rfl Xe7 rfl) rfl (.call Qf55 rfl (X0 (.of rfl) X1) rfl (X3m a c q (by omega) B _ I hR _ hS) ?_)
 clear hS
 rintro v5 w hS
 refine .q 1 rfl (.nil (.seq (.seq (.region (.run 3 rfl ⟨⟨_,X2z⟩,trivial⟩ (.nil (.block ?_)))))))
 have hS0:=hS; clear hS
 refine .loop (σ:=Nat×List Nt×Value) (fun ⟨i,all,v⟩=>[(0,ptr qb 0),(1,.slice la l.length lc),(5,v),(15,.slice la l.length lc),(16,I64 (l.length:Nat)),(17,I64 (i:Nat))]) (fun ⟨i,all,v⟩ w=>i≤l.length∧all=q ++ l.take i∧Xff q l=Xff all (l.drop i)∧Sat B w I (Vec 45 4 v (all).length (X8 X5 (all))::blk qb [I64 lim,F64 x,F64 y,F64 z,.slice a q.length c] 113::As)) (fun ⟨i,all,v⟩=>l.length - i) (0,q,v5) ⟨rfl,rfl,rfl,rfl,rfl,rfl,trivial⟩ ⟨Yk _,by simp,rfl,hS0⟩ ?_
 rintro ⟨i,all,v⟩ w ⟨hi,hall,hdup,hS⟩
 change WC _ _ _ _ [(0,ptr qb 0),(1,.slice la l.length lc),(5,v),(15,.slice la l.length lc),(16,I64 (l.length:Nat)),(17,I64 (i:Nat))] w
 clear hS0
 refine .seq (.q 1 rfl (.seq ?_))
 refine WC.cond rfl (fun hb18=>?_) (fun hb18=>?_)
 ·
  have hc18:=hb18; try simp only [Y4] at hc18
  refine .skip (.seq (.block (.seq ?_)))
  obtain ⟨n,hn⟩:∃ n,l[i]?=some n:=⟨_,Y3 (by omega)⟩
  obtain ⟨p,hp9,hx⟩:=X8y (cells:=X5) (s:=4) (fun _=>rfl) hRl hn
  subst hp9
  have hdr:l.drop i=n::l.drop (i+1):=by rw [Yu (by omega),(Y1.1 hn).2]
  have hal9:all.length≤134:=by rw [hall]; simp only [Y0,Yw]; omega
  refine .region ?_
  first | refine WL.val (.indexAddr (.of rfl) (.of rfl) (by omega) (by omega) X2z X6) rfl ?_ | refine WL.val (.indexAddrI (.of rfl) (.of rfl) (by omega) (by omega) X2z X6) rfl ?_
  rw [Y9]
  refine .val (.ldsI (us:=[S n.ticket,S n.url,I64 n.tries,I64 n.next]) (.of rfl) hS hx Xb X6 rfl (fun _ _ h=>h)) rfl (.allocA (cs:=[_,_,_,_]) hS X4a rfl ?_)
  clear hS; intro b7 w hS
  first | refine WL.stA hS (k:=0) rfl (.of rfl) (.of rfl) rfl X6 rfl (by simp) ?_ | refine WL.stA hS (k:=1) rfl (.of rfl) (.of rfl) rfl X6 rfl (by simp) ?_ | refine WL.stA hS (k:=2) rfl (.of rfl) (.of rfl) rfl X6 rfl (by simp) ?_
  clear hS; intro w hS; try dsimp only [List.set] at hS
  try simp only [Yb,Y6,Y8,Y2,Y5,Yc,Y7] at hS
  refine .nil (.seq (.seq ?_))
  obtain ⟨va,vc,rfl,hvc,_⟩:=hS.vecSlice (k:=1) rfl
  refine .t 1 rfl ?_
  first | refine WL.val (.fieldAddr 0 (.of rfl) Xg rfl rfl Qs9 rfl) rfl ?_ | refine WL.val (.fieldAddrI 0 (.of rfl) Xg rfl rfl Qs9 rfl) rfl ?_
  first | refine WL.val (.ld (.of rfl) hS (k:=0) rfl Qg9 rfl) rfl ?_ | refine WL.val (.ld (.of rfl) hS (k:=1) rfl Qg9 rfl) rfl ?_ | refine WL.val (.ld (.of rfl) hS (k:=2) rfl Qg9 rfl) rfl ?_
  replace hS:=(hS.pick 1 rfl); try dsimp only [List.eraseIdx] at hS
  refine .call Tryz.func56 rfl (X0 (.of rfl) (X0 (.of rfl) X1)) rfl (Xe4 va vc all (by omega) n.ticket B _ I _ (fun w X h=>nt_vec h (k:=1) rfl) hS) ?_
  clear hS
  rintro _ w ⟨rfl,hS⟩
  refine .q 1 rfl (.nil ?_)
  refine WC.cond rfl (fun hb25=>?_) (fun hb25=>?_)
  ·
   have hc25:=hb25; try simp only [Y4] at hc25
   refine .seq (.q 1 rfl (.ret (Xl Qr13 rfl ?_)))
   have hany0:(l.any fun n=>!Xd n)=false:=by simpa using hb9
   have hyes:(all.any fun x=>x.ticket == n.ticket)=true:=by
    rw [← X1i _ all 0]
    exact decide_eq_true (by have h9:=hc25; unfold ixN at h9; omega)
   have hp:X98 q l=(q,7):=by unfold X98; rw [if_neg (by rw [hany0]; decide),if_pos (by rw [hdup,hdr,Xff,hyes,Bool.true_or])]
   rw [hp]
   exact ⟨_,rfl,I,a,c,rfl,Le.refl _,hR,hc,(((hS.pick 2 rfl).drop (k:=1) rfl).drop (k:=1) rfl)⟩
  have hc25:=hb25; try simp only [Y4] at hc25
  refine .skip (.t 1 rfl ?_)
  first | refine WL.val (.ldsW (cs:=[_,_,_,_]) (.of rfl) hS (k:=0) rfl Xb X6 rfl) rfl ?_ | refine WL.val (.lds (vs:=[_,_,_,_]) (.of rfl) hS (k:=0) rfl Xb X6 rfl (fun _ _ h=>h)) rfl ?_ | refine WL.val (.ldsW (cs:=[_,_,_,_]) (.of rfl) hS (k:=1) rfl Xb X6 rfl) rfl ?_ | refine WL.val (.lds (vs:=[_,_,_,_]) (.of rfl) hS (k:=1) rfl Xb X6 rfl (fun _ _ h=>h)) rfl ?_ | refine WL.val (.ldsW (cs:=[_,_,_,_]) (.of rfl) hS (k:=2) rfl Xb X6 rfl) rfl ?_ | refine WL.val (.lds (vs:=[_,_,_,_]) (.of rfl) hS (k:=2) rfl Xb X6 rfl (fun _ _ h=>h)) rfl ?_
  refine .buildSlice (cs:=[_,_,_,_]) hS (X2 (.of rfl) X3) X2z X6 X4a rfl rfl rfl rfl ?_
  clear hS; intro b28 w hS
  first | refine WL.append (size:=4) (bytes:=48) hS (.of rfl) (.of rfl) (k:=0) rfl X2z X3i rfl rfl rfl rfl rfl rfl rfl ⟨by omega,by unfold maxLen; omega⟩ rfl ?_ | refine WL.append (size:=4) (bytes:=48) hS (.of rfl) (.of rfl) (k:=1) rfl X2z X3i rfl rfl rfl rfl rfl rfl rfl ⟨by omega,by unfold maxLen; omega⟩ rfl ?_ | refine WL.append (size:=4) (bytes:=48) hS (.of rfl) (.of rfl) (k:=2) rfl X2z X3i rfl rfl rfl rfl rfl rfl rfl ⟨by omega,by unfold maxLen; omega⟩ rfl ?_
  clear hS; intro v29 w hS; try dsimp only [List.set] at hS
  first | obtain ⟨a29,c29,rfl,hcap29,_⟩:=hS.vecSlice (k:=0) (v:=v29) rfl | obtain ⟨a29,c29,rfl,hcap29,_⟩:=hS.vecSlice (k:=1) (v:=v29) rfl | obtain ⟨a29,c29,rfl,hcap29,_⟩:=hS.vecSlice (k:=2) (v:=v29) rfl
  refine .q 1 rfl (.nil (.region (.run 2 rfl ⟨⟨by omega,by omega⟩,trivial⟩ (.nil ?_))))
  replace hS:=(((hS.pick 2 rfl).pick 1 rfl).drop (k:=2) rfl)
  have er:X8 X5 (all ++ [n])=X8 X5 all ++ [S n.ticket,S n.url,I64 n.tries,I64 n.next]:=by simp [X8,X5]
  have el:(all ++ [n]).length=all.length+1:=by simp
  have hno:(all.any fun x=>x.ticket == n.ticket)=false:=by
   rw [← X1i _ all 0]
   exact decide_eq_false (by have h9:=hc25; unfold ixN at h9; omega)
  refine ⟨(i+1,all ++ [n],_),⟨rfl,rfl,rfl,rfl,rfl,rfl,trivial⟩,⟨by (try dsimp only); omega,?_,?_,by rw [er,el]; exact hS⟩,by (try dsimp only); omega⟩
  ·rw [hall,Yn,hn,Y1p,Ye]
  ·rw [hdup,hdr,Xff,hno,Y32]
 have hc18:=hb18; try simp only [Y4] at hc18
 refine .exit (.seq (.seq ?_))
 have hil:i=l.length:=by omega
 subst hil
 rw [Y2b] at hall
 have hdup0:Xff q l=false:=by rw [hdup,Y2y]; rfl
 have hany0:(l.any fun n=>!Xd n)=false:=by simpa using hb9
 have hal9:all.length=q.length+l.length:=by rw [hall,Y0]
 obtain ⟨va,vc,rfl,hvc,_⟩:=hS.vecSlice (k:=0) rfl
 refine .region (.run 3 rfl ⟨⟨_,X2z⟩,trivial⟩ (.nil ?_))
 refine WC.cond rfl (fun hb33=>?_) (fun hb33=>?_)
 ·
  have hc33:=hb33; try simp only [Y4] at hc33
  refine .seq (.q 1 rfl (.ret (Xl Qr13 rfl ?_)))
  have hp:X98 q l=(q,5):=by unfold X98; rw [if_neg (by rw [hany0]; decide),if_neg (by rw [hdup0]; decide),if_pos (by have h9:=hc33; omega)]
  rw [hp]
  exact ⟨_,rfl,I,a,c,rfl,Le.refl _,hR,hc,((hS.pick 1 rfl).drop (k:=1) rfl)⟩
 have hc33:=hb33; try simp only [Y4] at hc33
 refine .skip (.seq (.t 3 rfl ?_))
 first | refine WL.val (.fieldAddr 4 (.of rfl) X1e rfl rfl X59 rfl) rfl ?_ | refine WL.val (.fieldAddrI 4 (.of rfl) X1e rfl rfl X59 rfl) rfl ?_
 first | refine WL.st1 hS (k:=0) rfl (.of rfl) (.of rfl) rfl X59 (by simp) ?_ | refine WL.st1 hS (k:=1) rfl (.of rfl) (.of rfl) rfl X59 (by simp) ?_
 clear hS; intro w hS; try dsimp only [List.set] at hS
 refine .nil (.seq (.q 1 rfl (.ret (Xl Qr13 rfl ?_))))
 have hp:X98 q l=(q ++ l,0):=by unfold X98; rw [if_neg (by rw [hany0]; decide),if_neg (by rw [hdup0]; decide),if_neg (by have h9:=hc33; omega)]
 rw [hp]
 subst hall
 obtain ⟨J,hJ,hRS,hS⟩:=hS.freezeVec (k:=0) rfl
 exact ⟨_,rfl,J,va,vc,rfl,hJ,hRS,hvc,hS⟩
theorem X5h {α:Type} (cells:α→List Value) (l:List α) (k:Nat):X8 cells l=X8 cells (l.take k) ++ X8 cells (l.drop k):=by
 conv=>lhs; rw [← Y1a k l]
 unfold X8; rw [Y2f,Y2d]
theorem Xb0 {α:Type} {cells:α→List Value} {s:Nat} (hc:∀ x,(cells x).length=s) (l:List α) (r:List Value) {k:Nat} (hk:k≤l.length):(X8 cells l ++ r).take (k*s)=X8 cells (l.take k):=by
 have h:=X12 hc (l.take k)
 rw [Yw,Y1w hk] at h
 rw [X5h cells l k,Ye,← h,Y1m]
theorem Xbx {α:Type} {cells:α→List Value} {s:Nat} (hc:∀ x,(cells x).length=s) (l:List α) (r:List Value) {k:Nat} (hk:k≤l.length):(X8 cells l ++ r).drop (k*s)=X8 cells (l.drop k) ++ r:=by
 have h:=X12 hc (l.take k)
 rw [Yw,Y1w hk] at h
 rw [X5h cells l k,Ye,← h,Y3s]
theorem X6c {α:Type} {cells:α→List Value} {s:Nat} (hc:∀ x,(cells x).length=s) (y:α) (v:Value) (k:Nat) (hk:k<s) (r:List Value):∀ (l:List α) (i:Nat) (x:α),l[i]?=some x→cells y=(cells x).set k v→(X8 cells l ++ r).set (i*s+k) v=X8 cells (l.set i y) ++ r
 | [],_,_,h,_=>by simp at h
 | a::l,0,x,h,hy=>by
  cases h
  show (cells a ++ X8 cells l ++ r).set (0*s+k) v=cells y ++ X8 cells l ++ r
  rw [Y2e,Y7,Ye,List.set_append_left _ _ (by rw [hc]; exact hk),hy,Ye]
 | a::l,i+1,x,h,hy=>by
  show (cells a ++ X8 cells l ++ r).set ((i+1)*s+k) v=cells a ++ X8 cells (l.set i y) ++ r
  rw [Ye,List.set_append_right _ _ (by rw [hc,Y38]; omega),hc,Y38,show i*s+s+k - s=i*s+k by omega,X6c hc y v k hk r l i x (by simpa using h) hy,Ye]
theorem Xa4 (l:List Nt) (i:Nat) (hi:i<l.length) (hl:l.length≤100000) (s:Value) (B w:World) (I:Im) (As:List Xf) (hS:Sat B w I (Vec 45 4 s (l).length (X8 X5 (l))::As)) :
  Calls Tryz.prog 58 [s,I64 (i:Nat),I64 ((i:Int)+1)].toArray w (Ret fun v w'=>Sat B w' I (Vec 45 4 v (l.eraseIdx i).length (X8 X5 (l.eraseIdx i))::As)):=by
 obtain ⟨gb,cap,r,rfl,hc1,hc2,hl1,hl2,hS⟩:=hS.vecOpen (k:=0) rfl (by omega)
 try dsimp only [List.set] at hS
 have h4:∀ x:Nt,(X5 x).length=4:=fun _=>rfl
 obtain ⟨pq,hsl,hpq⟩:∃ pq,sliced (some (ad gb 0)) ((i:Int)+1).toNat l.length cap 4=.slice (some pq) (l.length - (i+1)) (cap - (i+1))∧(0<l.length - (i+1)→pq=ad gb ((i+1)*4)):=by
  unfold sliced
  rw [show ((i:Int)+1).toNat=i+1 by omega]
  split
  ·exact ⟨_,rfl,fun h=>by omega⟩
  ·exact ⟨_,rfl,fun _=>by (try dsimp only); rw [X1d,Y7]⟩
 have hs2:sliced (some (ad gb 0)) ((i+(l.length - (i+1)):Nat):Int).toNat (l.length:Int).toNat cap 4=.slice (some (ad gb ((l.length - 1)*4))) 1 (cap - (l.length - 1)):=by
  unfold sliced
  rw [Y9,Y9,if_neg (by omega),Option.map_some,X1d,Y7,show i+(l.length - (i+1))=l.length - 1 by omega,show l.length - (l.length - 1)=1 by omega]
 have hcut:((X8 X5 l ++ r).drop ((i+1)*4)).take ((l.length - (i+1))*4)=X8 X5 (l.drop (i+1)):=by
  rw [Xbx h4 l r (by omega)]
  have h:=X12 h4 (l.drop (i+1))
  rw [Ya] at h
  rw [← h,Y1m]
 have htk:=Xb0 h4 l r (k:=i) (by omega)
 have hel:l.eraseIdx i=l.take i ++ l.drop (i+1):=List.eraseIdx_eq_take_drop_succ ..
 have hrl:=X12 h4 l
 have hell:(l.eraseIdx i).length=l.length - 1:=by rw [List.length_eraseIdx]; split <;> omega
 have hrel:=X12 h4 (l.eraseIdx i)
 have hre:X8 X5 (l.eraseIdx i)=X8 X5 (l.take i) ++ X8 X5 (l.drop (i+1)):=by rw [hel]; unfold X8; rw [Y2f,Y2d]
 refine calls Tryz.func58 rfl Tryz.ntmps58 rfl (.seq (.q 1 rfl (.seq (.region (.run 5 rfl ⟨⟨_,X2z⟩,trivial⟩ (.val (Ex.slc3 (.of rfl) (.of rfl) (.of rfl) (.of rfl) (by omega) (by omega) (by omega) (by omega) X2z X6) rfl (.nil (.seq (.seq (.q 3 rfl ?_))))))))))
 refine WC.cond rfl (fun hb16=>by exfalso; simp only [Y4] at hb16; omega) (fun hb16=>?_)
 have hc16:=hb16; try simp only [Y4] at hc16
 refine .skip (.seq (.region (.run 3 rfl ⟨⟨_,X2z⟩,trivial⟩ (.nil (.seq (.drawn (fun _=>True) (fun j=>!([].contains j)) (by kernel_rfl) ?_))))))
 replace hS:=hS.drew; generalize w.drew=w at hS ⊢
 refine .tp (i:=0) rfl (by kernel_rfl) (fun w=>(.move (.of rfl))) rfl (.tp (i:=1) rfl (by kernel_rfl) (fun w=>(.move (.of rfl))) rfl (.tp (i:=2) rfl (by kernel_rfl) (fun w=>.slcTo (.of rfl) (.of rfl) (by omega) (by omega) X2z X6) rfl ?_))
 rw [Y9,show (⟨gb,0,none⟩:Addr)=ad gb 0 from rfl,X57]
 refine .tp (i:=3) rfl (by kernel_rfl) (fun w=>(.move (.of rfl))) rfl (.tp (i:=4) rfl (by kernel_rfl) (fun w=>(.move (.of rfl))) rfl (.tp (i:=5) rfl (by kernel_rfl) (fun w=>.slcFrom (.of rfl) (.of rfl) (by omega) (by omega) X2z X6) rfl ?_))
 rw [hsl]
 refine WD.branch [6] (by kernel_rfl) rfl (WO.cons rfl ?_ (WO.nil))
 refine WL.appendSelf (o:=(i+1)*4) (size:=4) hS (k:=0) rfl (.of rfl) (.of rfl) hpq X2z (i:=Tryz.t45) (by kernel_rfl) rfl (by rw [Y0]; omega) (by rw [hcut]; exact Y1c.1 (X55 (fun r=>rfl) _)) (by omega) (by rw [Y0]; omega) rfl ?_
 clear hS; intro w hS
 try dsimp only [List.set] at hS
 rw [hcut,htk,← hre] at hS
 refine .nil ?_
 refine And.intro (by intro _ _; trivial) ?_
 refine .tp (i:=7) rfl (by kernel_rfl) (fun w=>(.assign (.of rfl))) rfl (.done (by kernel_rfl) (.seq (.region (.run 4 rfl ⟨⟨_,X2z⟩,trivial⟩ (.val (.slc (.of rfl) (.of rfl) (.of rfl) (by omega) (by omega) (by omega) X2z X6) rfl ?_)))))
 rw [hs2]
 refine WL.clear (s:=4) hS (k:=0) rfl (.of rfl) X2z X4a rfl (by decide) (by simp only [Y0,Ya]; omega) ?_
 clear hS; intro w cs9 hcs1 hcs2 hS
 try dsimp only [List.set] at hS
 refine .nil (.seq (.q 2 rfl (.ret (Xl Tryz.results58 rfl ?_))))
 have h5:cs9.take ((l.length - 1)*4)=X8 X5 (l.eraseIdx i):=by
  rw [hcs2]
  rw [← hell,← hrel,Y1m]
 have h6:cs9=X8 X5 (l.eraseIdx i) ++ cs9.drop ((l.length - 1)*4):=by rw [← h5]; exact (Y1a _ _).symm
 rw [h6] at hS
 rw [show i+(l.length - (i+1))=(l.eraseIdx i).length by omega]
 simp only [Y0,Ya] at hcs1
 exact ⟨_,rfl,hS.vecShut (n:=(l.eraseIdx i).length) (size:=4) (k:=0) rfl (by omega) hc2 hrel (by rw [hrel,Ya,hcs1]; omega)⟩
theorem X63 (qb:Nat) (lim:Int) (x y z:Nat) (a:Option Addr) (c:Nat) (q:List Nt) (hq:q.length≤64) (B w:World) (I:Im) (hR:RS I a 4 q.length (X8 X5 q)) (hc:q.length≤c) (hqr:∀ n∈q,Xd n=true) (tr:Int) (hlim:lim=limQ ⟨x,y,z,tr⟩) (t:List UInt8) (ok:Bool) (now:Int) (hn0:0≤now) (hn1:now≤1099511627776) (As:List Xf) (hS:Sat B w I (blk qb [I64 lim,F64 x,F64 y,F64 z,.slice a q.length c] 113::As)) :
  Calls Tryz.prog 15 [ptr qb 0,S t,.bool ok,I64 now].toArray w (Ret fun v w'=>∃ J a2 c2,v=I64 ((X35 ⟨x,y,z,tr⟩ q t ok now).2:Nat)∧Le I J∧RS J a2 4 (X35 ⟨x,y,z,tr⟩ q t ok now).1.length (X8 X5 (X35 ⟨x,y,z,tr⟩ q t ok now).1)∧(X35 ⟨x,y,z,tr⟩ q t ok now).1.length≤c2∧Sat B w' J (blk qb [I64 lim,F64 x,F64 y,F64 z,.slice a2 (X35 ⟨x,y,z,tr⟩ q t ok now).1.length c2] 113::As)):=by
 refine calls Qf15 rfl Tryz.ntmps15 rfl (.seq (.q 1 rfl (.seq (.t 2 rfl ?_))))
 first | refine WL.val (.fieldAddr 4 (.of rfl) X1e rfl rfl X59 rfl) rfl ?_ | refine WL.val (.fieldAddrI 4 (.of rfl) X1e rfl rfl X59 rfl) rfl ?_
 refine .val (.ld (.of rfl) hS (k:=0) rfl Xe7 rfl) rfl (.q 1 rfl (.call Tryz.func56 rfl (X0 (.of rfl) (X0 (.of rfl) X1)) rfl (Xe4 a c q (by omega) t B _ I _ (fun w X h=>X56 (cells:=X5) (s:=4) (fun _=>rfl) h hR) hS) ?_))
 clear hS
 rintro _ w ⟨rfl,hS⟩
 refine .q 1 rfl (.nil (.seq (.seq (.q 2 rfl ?_))))
 refine WC.cond rfl (fun hb20=>?_) (fun hb20=>?_)
 ·
  have hc20:=hb20; try simp only [Y4] at hc20
  refine .seq (.q 1 rfl (.ret (Xl Tryz.results15 rfl ?_)))
  have hd:X35 ⟨x,y,z,tr⟩ q t ok now=(q,6):=by
   unfold X35
   split
   ·rfl
   ·rw [if_pos (by have h9:=hc20; omega)]
  rw [hd]
  exact ⟨_,rfl,I,a,c,rfl,Le.refl _,hR,hc,hS⟩
 have hc20:=hb20; try simp only [Y4] at hc20
 refine .skip (.seq ?_)
 obtain ⟨j,n,hix,hnj⟩:∃ (j:Nat) (n:Nt),ixN q t=(j:Int)∧q[j]?=some n:=by
  rcases X36 (fun n:Nt=>n.ticket == t) q 0 with ⟨h,_⟩ | ⟨j,n,h1,h2,_⟩
  ·exfalso; have h9:=hc20; unfold ixN at h9; rw [h] at h9; omega
  ·exact ⟨j,n,by unfold ixN; rw [h1]; simp,h2⟩
 rw [hix]
 have hjl:=(Y1.1 hnj).1
 have h4:∀ x:Nt,(X5 x).length=4:=fun _=>rfl
 have hrn:=Xo (hqr n (Yj hnj))
 have hrq:=X12 h4 q
 have hdq:∀ (tr:Int),X35 ⟨x,y,z,tr⟩ q t ok now=if ok=true∨limQ ⟨x,y,z,tr⟩≤n.tries+1 then (q.eraseIdx j,0) else (q.set j (X3w ⟨x,y,z,tr⟩ n now),0):=fun tr=>by
  unfold X35
  rw [hix,Y9,hnj]
  dsimp only
  rw [if_neg (by omega)]
 refine .t 2 rfl ?_
 first | refine WL.val (.fieldAddr 4 (.of rfl) X1e rfl rfl X59 rfl) rfl ?_ | refine WL.val (.fieldAddrI 4 (.of rfl) X1e rfl rfl X59 rfl) rfl ?_
 refine .val (.ld (.of rfl) hS (k:=0) rfl Xe7 rfl) rfl (.call Qf55 rfl (X0 (.of rfl) X1) rfl (X3m a c q (by omega) B _ I hR _ hS) ?_)
 clear hS
 rintro v10 w hS
 refine .q 1 rfl (.nil (.seq ?_))
 obtain ⟨gb,cap,r,rfl,hc1,hc2,hl1,hl2,hS⟩:=hS.vecOpen (k:=0) rfl (by omega)
 try dsimp only [List.set] at hS
 have hld0:(X8 X5 q ++ r)[j*4+2]?=some (I64 n.tries):=by
  have h9:=X2x (cells:=X5) (s:=4) (fun _=>rfl) hnj (j:=2) (v:=I64 n.tries) rfl
  rw [Yl (Y1.1 h9).1]; exact h9
 obtain ⟨q1,hq1⟩:∃ q1,q1=q.set j ⟨n.ticket,n.url,n.tries+1,n.next⟩:=⟨_,rfl⟩
 have hql1:q1.length=q.length:=by rw [hq1,List.length_set]
 have hrq1:=X12 h4 q1
 have hn1:q1[j]?=some (⟨n.ticket,n.url,n.tries+1,n.next⟩:Nt):=by rw [hq1,Y3i hjl]
 have hst1:(X8 X5 q ++ r).set (j*4+2) (I64 (n.tries+1))=X8 X5 q1 ++ r:=by
  rw [hq1]; exact X6c h4 ⟨n.ticket,n.url,n.tries+1,n.next⟩ _ 2 (by decide) r q j n hnj rfl
 have hld1:(X8 X5 q1 ++ r)[j*4+2]?=some (I64 (n.tries+1)):=by
  have h9:=X2x (cells:=X5) (s:=4) (fun _=>rfl) hn1 (j:=2) (v:=I64 (n.tries+1)) rfl
  rw [Yl (Y1.1 h9).1]; exact h9
 refine .t 2 rfl (.val (.indexAddr (.of rfl) (.of rfl) (by omega) (by omega) X2z X6) rfl ?_)
 rw [Y9,Y7]
 refine .q 1 rfl (.nil (.seq (.seq (.t 2 rfl ?_))))
 first | refine WL.val (.fieldAddr 2 (.of rfl) Xg rfl rfl Qs3 rfl) rfl ?_ | refine WL.val (.fieldAddrI 2 (.of rfl) Xg rfl rfl Qs3 rfl) rfl ?_
 refine .val (.ld (v:=I64 n.tries) (.of rfl) hS (k:=0) rfl Qg3 hld0) rfl (.run 2 rfl ⟨⟨by omega,by omega⟩,trivial⟩ ?_)
 first | refine WL.val (.fieldAddr 2 (.of rfl) Xg rfl rfl Qs3 rfl) rfl ?_ | refine WL.val (.fieldAddrI 2 (.of rfl) Xg rfl rfl Qs3 rfl) rfl ?_
 refine WL.st1 hS (k:=0) rfl (.of rfl) (.of rfl) rfl Qs3 (by rw [Y0]; omega) ?_
 clear hS; intro w hS; try dsimp only [List.set] at hS
 rw [hst1] at hS
 refine .nil (.seq (.quiet (by kernel_rfl) (by kernel_rfl) hS (.val (fun w hS=>(.move (.of rfl))) rfl (.val (fun w hS=>(.move (.of rfl))) rfl (.gval rfl rfl rfl (fun hg1 w hS=>(.move (.of rfl))) rfl (.gval rfl rfl rfl (fun hg1 w hS=>(.nilCheck (.gd hg1 rfl))) rfl ?_))))))
 refine WQ.gval rfl rfl rfl (fun hg1 w hS=>(by first | exact .fieldAddr 2 (.gd hg1 rfl) Xg rfl rfl Qs3 rfl | exact .fieldAddrI 2 (.gd hg1 rfl) Xg rfl rfl Qs3 rfl)) rfl ?_
 refine .gval rfl rfl rfl (fun hg1 w hS=>.ld (v:=I64 (n.tries+1)) (.gd hg1 rfl) hS (k:=0) rfl Qg3 hld1) rfl (.gval rfl rfl rfl (fun hg1 w hS=>(.move (.of rfl))) rfl (.gval rfl rfl rfl (fun hg1 w hS=>(.nilCheck (.gd hg1 rfl))) rfl ?_))
 refine WQ.gval rfl rfl rfl (fun hg1 w hS=>(by first | exact .fieldAddr 0 (.gd hg1 rfl) X1e rfl rfl Qs3 rfl | exact .fieldAddrI 0 (.gd hg1 rfl) X1e rfl rfl Qs3 rfl)) rfl ?_
 refine WQ.gval rfl rfl rfl (fun hg1 w hS=>(by first | exact (.ld (.gd hg1 rfl) hS (k:=0) rfl Qg3 rfl) | exact (.ld (.gd hg1 rfl) hS (k:=1) rfl Qg3 rfl))) rfl ?_
 refine .gval rfl rfl rfl (fun hg1 w hS=>(.geq (.gd hg1 rfl) (.gd hg1 rfl))) rfl (.val (fun w hS=>(.por (.of rfl) (.of rfl) (.of rfl))) rfl (.nil ?_))
 clear hS; intro w hS
 refine WC.cond rfl (fun hb47=>?_) (fun hb47=>?_)
 ·
  have hc47:=hb47; try simp only [Y4] at hc47
  refine .seq ?_
  replace hS:=hS.vecShut (n:=q1.length) (size:=4) (k:=0) rfl (by omega) hc2 hrq1 (by omega)
  try dsimp only [List.set] at hS
  rw [← hql1]
  refine .region (.run 5 rfl ⟨⟨by omega,by omega⟩,trivial⟩ (.call Tryz.func58 rfl (X0 (.of rfl) (X0 (.of rfl) (X0 (.of rfl) X1))) rfl (Xa4 q1 j (by omega) (by omega) _ B _ I _ hS) ?_))
  clear hS
  rintro v53 w hS
  obtain ⟨vd,cd,rfl,hvd,_⟩:=hS.vecSlice (k:=0) rfl
  refine .q 1 rfl ?_
  first | refine WL.val (.fieldAddr 4 (.of rfl) X1e rfl rfl X59 rfl) rfl ?_ | refine WL.val (.fieldAddrI 4 (.of rfl) X1e rfl rfl X59 rfl) rfl ?_
  first | refine WL.st1 hS (k:=0) rfl (.of rfl) (.of rfl) rfl X59 (by simp) ?_ | refine WL.st1 hS (k:=1) rfl (.of rfl) (.of rfl) rfl X59 (by simp) ?_
  clear hS; intro w hS; try dsimp only [List.set] at hS
  refine .nil (.seq (.q 1 rfl (.ret (Xl Tryz.results15 rfl ?_))))
  have hd:X35 ⟨x,y,z,tr⟩ q t ok now=(q.eraseIdx j,0):=by
   rw [hdq,if_pos]
   have h9:=hb47
   simp only [Y1o,decide_eq_true_eq] at h9
   rcases h9 with h | h
   ·exact .inl h
   ·exact .inr (by rw [← hlim]; omega)
  rw [hd]
  have he:q1.eraseIdx j=q.eraseIdx j:=by rw [hq1,Y30]
  rw [he] at hS
  replace hS:=((hS.pick 1 rfl).pick 1 rfl)
  obtain ⟨J,hJ,hRS,hS⟩:=hS.freezeVec (k:=0) rfl
  rw [he] at hvd
  exact ⟨_,rfl,J,vd,cd,rfl,hJ,hRS,hvd,hS⟩
 have hc47:=hb47; try simp only [Y4] at hc47
 refine .skip (.seq (.drawn (fun w=>∃ R,Sat B w I (blk qb [I64 lim,F64 x,F64 y,F64 z,.slice a q.length c] 113::blk gb (X8 X5 q1 ++ r) 45::R)) (fun j=>!([].contains j)) (by kernel_rfl) ?_))
 replace hS:=hS.drew; generalize w.drew=w at hS ⊢
 have hH:∃ R,Sat B w I (blk qb [I64 lim,F64 x,F64 y,F64 z,.slice a q.length c] 113::blk gb (X8 X5 q1 ++ r) 45::R):=⟨_,((hS.pick 0 rfl).pick 1 rfl)⟩
 refine .tp (i:=0) rfl (by kernel_rfl) (fun w=>(.move (.of rfl))) rfl (.tp (i:=1) rfl (by kernel_rfl) (fun w=>(.nilCheck (.of rfl))) rfl ?_)
 refine WD.tp (i:=2) rfl (by kernel_rfl) (fun w=>(by first | exact .fieldAddr 1 (.of rfl) X1e rfl rfl Xah rfl | exact .fieldAddrI 1 (.of rfl) X1e rfl rfl Xah rfl)) rfl ?_
 refine WD.tk (i:=3) rfl (by kernel_rfl) hH (fun w ⟨R,hS⟩=>(by first | exact (.ld (.of rfl) hS (k:=0) rfl Xde rfl) | exact (.ld (.of rfl) hS (k:=1) rfl Xde rfl))) rfl ?_
 refine .tp (i:=4) rfl (by kernel_rfl) (fun w=>(.move (.of rfl))) rfl (.tp (i:=5) rfl (by kernel_rfl) (fun w=>(.nilCheck (.of rfl))) rfl ?_)
 refine WD.tp (i:=6) rfl (by kernel_rfl) (fun w=>(by first | exact .fieldAddr 2 (.of rfl) X1e rfl rfl Xah rfl | exact .fieldAddrI 2 (.of rfl) X1e rfl rfl Xah rfl)) rfl ?_
 refine WD.tk (i:=7) rfl (by kernel_rfl) hH (fun w ⟨R,hS⟩=>(by first | exact (.ld (.of rfl) hS (k:=0) rfl Xde rfl) | exact (.ld (.of rfl) hS (k:=1) rfl Xde rfl))) rfl ?_
 refine .tp (i:=8) rfl (by kernel_rfl) (fun w=>(.move (.of rfl))) rfl (.tp (i:=9) rfl (by kernel_rfl) (fun w=>(.nilCheck (.of rfl))) rfl ?_)
 refine WD.tp (i:=10) rfl (by kernel_rfl) (fun w=>(by first | exact .fieldAddr 2 (.of rfl) Xg rfl rfl Qs3 rfl | exact .fieldAddrI 2 (.of rfl) Xg rfl rfl Qs3 rfl)) rfl ?_
 refine .tk (i:=11) rfl (by kernel_rfl) hH (fun w ⟨R,hS⟩=>.ld (v:=I64 (n.tries+1)) (.of rfl) hS (k:=1) rfl Qg3 hld1) rfl (.tp (i:=12) rfl (by kernel_rfl) (fun w=>(.sub (.of rfl) (.of rfl) ⟨by omega,by omega⟩)) rfl (.tp (i:=13) rfl (by kernel_rfl) (fun w=>(.move (.of rfl))) rfl (.tp (i:=14) rfl (by kernel_rfl) (fun w=>(.nilCheck (.of rfl))) rfl ?_)))
 refine WD.tp (i:=15) rfl (by kernel_rfl) (fun w=>(by first | exact .fieldAddr 3 (.of rfl) X1e rfl rfl Xah rfl | exact .fieldAddrI 3 (.of rfl) X1e rfl rfl Xah rfl)) rfl ?_
 refine WD.tk (i:=16) rfl (by kernel_rfl) hH (fun w ⟨R,hS⟩=>(by first | exact (.ld (.of rfl) hS (k:=0) rfl Xde rfl) | exact (.ld (.of rfl) hS (k:=1) rfl Xde rfl))) rfl ?_
 refine WD.branch [17] (by kernel_rfl) rfl (WO.cons rfl ?_ (WO.nil))
 refine .call Tryz.func59 rfl (X0 (.of rfl) (X0 (.of rfl) (X0 (.of rfl) (X0 (.of rfl) X1)))) rfl (Xdo x y (n.tries+1 - 1) z B _ I _ hS) ?_
 clear hS
 rintro _ w ⟨rfl,hS⟩
 refine .nil ?_
 clear hH
 have hH:∃ R,Sat B w I (blk qb [I64 lim,F64 x,F64 y,F64 z,.slice a q.length c] 113::blk gb (X8 X5 q1 ++ r) 45::R):=⟨_,((hS.pick 0 rfl).pick 1 rfl)⟩
 refine And.intro (by intro _ _; exact hH) ?_
 refine .tp (i:=18) rfl (by kernel_rfl) (fun w=>(.assign (.of rfl))) rfl (.done (by kernel_rfl) (.seq ?_))
 have hct:=Xee (Rk.waitV x y (n.tries+1 - 1) z)
 have hst2:(X8 X5 q1 ++ r).set (j*4+3) (I64 (min (now+Rk.cnt (Rk.waitV x y (n.tries+1 - 1) z) 1099511627776) 1099511627776))=X8 X5 (q1.set j (⟨n.ticket,n.url,n.tries+1,min (now+Rk.cnt (Rk.waitV x y (n.tries+1 - 1) z) 1099511627776) 1099511627776⟩:Nt)) ++ r:=X6c h4 (⟨n.ticket,n.url,n.tries+1,min (now+Rk.cnt (Rk.waitV x y (n.tries+1 - 1) z) 1099511627776) 1099511627776⟩:Nt) _ 3 (by decide) r q1 j _ hn1 rfl
 refine .t 3 rfl (.call Tryz.func60 rfl (X0 (.of rfl) (X0 (.of rfl) X1)) rfl (Xaz _ _ _) ?_)
 rintro _ _ ⟨rfl,rfl⟩
 refine .run 1 rfl ⟨⟨by omega,by omega⟩,trivial⟩ (.val (.min2 (.of rfl) (.of rfl)) rfl (.q 1 rfl ?_))
 first | refine WL.val (.fieldAddr 3 (.of rfl) Xg rfl rfl Qs3 rfl) rfl ?_ | refine WL.val (.fieldAddrI 3 (.of rfl) Xg rfl rfl Qs3 rfl) rfl ?_
 refine WL.st1 hS (k:=0) rfl (.of rfl) (.of rfl) rfl Qs3 (by rw [Y0]; omega) ?_
 clear hS; intro w hS; try dsimp only [List.set] at hS
 rw [hst2] at hS
 refine .nil (.seq (.t 3 rfl ?_))
 first | refine WL.val (.fieldAddr 4 (.of rfl) X1e rfl rfl X59 rfl) rfl ?_ | refine WL.val (.fieldAddrI 4 (.of rfl) X1e rfl rfl X59 rfl) rfl ?_
 first | refine WL.st1 hS (k:=0) rfl (.of rfl) (.of rfl) rfl X59 (by simp) ?_ | refine WL.st1 hS (k:=1) rfl (.of rfl) (.of rfl) rfl X59 (by simp) ?_
 clear hS; intro w hS; try dsimp only [List.set] at hS
 refine .nil (.seq (.q 1 rfl (.ret (Xl Tryz.results15 rfl ?_))))
 have hd:X35 ⟨x,y,z,tr⟩ q t ok now=(q.set j (X3w ⟨x,y,z,tr⟩ n now),0):=by
  rw [hdq,if_neg]
  have h9:=hb47
  simp only [Yi,decide_eq_false_iff_not] at h9
  rintro (h | h)
  ·rw [h9.1] at h; cases h
  ·rw [← hlim] at h; omega
 rw [hd]
 have he:q1.set j (⟨n.ticket,n.url,n.tries+1,min (now+Rk.cnt (Rk.waitV x y (n.tries+1 - 1) z) 1099511627776) 1099511627776⟩:Nt)=q.set j (X3w ⟨x,y,z,tr⟩ n now):=by
  rw [hq1,List.set_set]
  unfold X3w
  rw [show n.tries+1 - 1=n.tries by omega]
 rw [he] at hS
 have hle:(q.set j (X3w ⟨x,y,z,tr⟩ n now)).length=q.length:=List.length_set ..
 have hrl:=X12 h4 (q.set j (X3w ⟨x,y,z,tr⟩ n now))
 replace hS:=((hS.pick 1 rfl).pick 1 rfl)
 replace hS:=hS.vecShut (n:=(q.set j (X3w ⟨x,y,z,tr⟩ n now)).length) (size:=4) (k:=0) rfl (by omega) hc2 hrl (by omega)
 try dsimp only [List.set] at hS
 obtain ⟨J,hJ,hRS,hS⟩:=hS.freezeVec (k:=0) rfl
 exact ⟨_,rfl,J,_,cap,rfl,hJ,hRS,by (try dsimp only); omega,by (try dsimp only); rw [hle]; exact hS⟩
theorem Ex.sub3U {P:Program} {n:Nat} {L:Env} {w:World} {d:Option Nat} {ty t:TypeId} {pos:String} {af:Array Edge} {g:Option (Nat×Bool)} {x y z:Operand} {l:List UInt8} {i j:Int} (hx:Ev n L x (S l)) (hy:Ev n L y (U64 i)) (hz:Ev n L z (U64 j)) (h0:0≤i) (h1:i≤j) (h2:j≤(l.length:Int)) (hT:P.underlying t=some .string) :
  Ex P n L w ⟨d,.slice t x (some y) (some z) none,ty,pos,af,g⟩ (S ((l.drop i.toNat).take (j.toNat - i.toNat))) w:=fun a ha=>by
 have h:=run_slice_string (P:=P) w t ⟨l.toArray⟩ .u64 .u64 i j hT h0 h1 h2
 rw [X6e] at h
 simp [execOp,hx a ha,hy a ha,hz a ha,run_sliceAt_string w t _ _ _ _ hT,h]
theorem Xb9 (k:Int):(X77 k).length≤6:=by
 unfold X77
 split
 ·simp
 ·rename_i h
  have:k=1∨k=2∨k=3∨k=4∨k=5∨k=6:=by omega
  rcases this with e | e | e | e | e | e <;> (subst e; decide)
def dg (n:Nat):UInt8:=if n<10 then UInt8.ofNat (48+n) else UInt8.ofNat (87+n)
theorem X6x:∀ (k n:Nat),X9d (k+1) n=dg (n / 16 ^ k % 16)::X9d k n
 | 0,n=>by simp [X9d,dg]
 | k+1,n=>by
  rw [X9d,X6x k (n / 16),Y2m,← Nat.pow_succ',Y1r,X9d]
theorem X3b (k:Int) (B w:World) (I:Im) (As:List Xf) (hS:Sat B w I As) :
  Calls Tryz.prog 70 [I64 k].toArray w (Ret fun v w'=>v=S (X77 k)∧Sat B w' I As):=by
 refine calls Tryz.func70 rfl Tryz.ntmps70 rfl (.seq (.q 1 rfl (.seq (.seq (.q 1 rfl (.block (.seq (.q 2 rfl ?_))))))))
 refine WC.cond rfl (fun hb4=>?_) (fun hb4=>?_)
 ·
  have hc4:=hb4; try simp only [Y4] at hc4
  refine .seq (.q 1 rfl (.ret (Xl Xfb rfl ?_)))
  refine ⟨_,rfl,congrArg S ?_,hS⟩
  simp only [beq_iff_eq,beq_eq_false_iff_ne] at *
  first | subst_vars; rfl | (rw [X77,if_pos (by omega)])
 have hc4:=hb4; try simp only [Y4] at hc4
 refine .seq (.q 2 rfl ?_)
 refine WC.cond rfl (fun hb6=>?_) (fun hb6=>?_)
 ·
  have hc6:=hb6; try simp only [Y4] at hc6
  refine .seq (.q 1 rfl (.ret (Xl Xfb rfl ?_)))
  refine ⟨_,rfl,congrArg S ?_,hS⟩
  simp only [beq_iff_eq,beq_eq_false_iff_ne] at *
  first | subst_vars; rfl | (rw [X77,if_pos (by omega)])
 have hc6:=hb6; try simp only [Y4] at hc6
 refine .seq (.q 2 rfl ?_)
 refine WC.cond rfl (fun hb8=>?_) (fun hb8=>?_)
 ·
  have hc8:=hb8; try simp only [Y4] at hc8
  refine .seq (.q 1 rfl (.ret (Xl Xfb rfl ?_)))
  refine ⟨_,rfl,congrArg S ?_,hS⟩
  simp only [beq_iff_eq,beq_eq_false_iff_ne] at *
  first | subst_vars; rfl | (rw [X77,if_pos (by omega)])
 have hc8:=hb8; try simp only [Y4] at hc8
 refine .seq (.q 2 rfl ?_)
 refine WC.cond rfl (fun hb10=>?_) (fun hb10=>?_)
 ·
  have hc10:=hb10; try simp only [Y4] at hc10
  refine .seq (.q 1 rfl (.ret (Xl Xfb rfl ?_)))
  refine ⟨_,rfl,congrArg S ?_,hS⟩
  simp only [beq_iff_eq,beq_eq_false_iff_ne] at *
  first | subst_vars; rfl | (rw [X77,if_pos (by omega)])
 have hc10:=hb10; try simp only [Y4] at hc10
 refine .seq (.q 2 rfl ?_)
 refine WC.cond rfl (fun hb12=>?_) (fun hb12=>?_)
 ·
  have hc12:=hb12; try simp only [Y4] at hc12
  refine .seq (.q 1 rfl (.ret (Xl Xfb rfl ?_)))
  refine ⟨_,rfl,congrArg S ?_,hS⟩
  simp only [beq_iff_eq,beq_eq_false_iff_ne] at *
  first | subst_vars; rfl | (rw [X77,if_pos (by omega)])
 have hc12:=hb12; try simp only [Y4] at hc12
 refine .seq (.q 2 rfl ?_)
 refine WC.cond rfl (fun hb14=>?_) (fun hb14=>?_)
 ·
  have hc14:=hb14; try simp only [Y4] at hc14
  refine .seq (.q 1 rfl (.ret (Xl Xfb rfl ?_)))
  refine ⟨_,rfl,congrArg S ?_,hS⟩
  simp only [beq_iff_eq,beq_eq_false_iff_ne] at *
  first | subst_vars; rfl | (rw [X77,if_pos (by omega)])
 have hc14:=hb14; try simp only [Y4] at hc14
 refine .skip (.seq (.q 1 rfl (.ret (Xl Xfb rfl ?_))))
 refine ⟨_,rfl,congrArg S ?_,hS⟩
 simp only [beq_iff_eq,beq_eq_false_iff_ne] at *
 first | subst_vars; rfl | (rw [X77,if_pos (by omega)])
theorem Xci {n:Nat} (h:n<16):(HEXD.drop n).take 1=[dg n]:=(by decide:∀ n:Fin 16,(HEXD.drop n.val).take 1=[dg n.val]) ⟨n,h⟩
theorem X8f (kind:Int) (d:Nat) (hd:d<18446744073709551616) (B w:World) (I:Im) (As:List Xf) (hS:Sat B w I As) :
  Calls Tryz.prog 92 [I64 kind,U64 (d:Nat)].toArray w (Ret fun v w'=>v=(if X77 kind=[] then .tuple #[S [],I64 8] else .tuple #[S (X77 kind ++ 45::X9d 16 d),I64 0])∧Sat B w' I As):=by
 refine calls Tryz.func92 rfl Tryz.ntmps92 rfl (.seq (.q 2 rfl (.seq (.t 1 rfl (.call Tryz.func70 rfl (X0 (.of rfl) X1) rfl (X3b kind B _ I _ hS) ?_)))))
 clear hS
 rintro _ w ⟨rfl,hS⟩
 refine .q 1 rfl (.nil (.seq (.seq (.q 2 rfl ?_))))
 refine WC.cond rfl (fun hb13=>?_) (fun hb13=>?_)
 ·
  have hc13:=hb13; try simp only [Y4] at hc13
  refine .seq (.q 2 rfl (.ret (X3u Tryz.results92 rfl rfl ?_)))
  exact ⟨_,rfl,by rw [if_pos (by simpa using hb13)],hS⟩
 have hc13:=hb13; try simp only [Y4] at hc13
 refine .skip (.seq (.q 1 rfl (.seq (.q 1 rfl (.seq (.seq (.q 1 rfl (.block (.loop (σ:=Nat×Nat) (fun ⟨i,e⟩=>[(1,U64 (e:Nat)),(6,S (X77 kind)),(7,S HEXD),(8,S (X9d i d)),(9,I64 (i:Nat))]) (fun ⟨i,e⟩ w=>i≤16∧e=d / 16 ^ i∧Sat B w I As) (fun ⟨i,e⟩=>16 - i) (0,d) ⟨rfl,rfl,rfl,rfl,rfl,trivial⟩ ⟨Yk _,by simp,hS⟩ ?_)))))))))
 rintro ⟨i,e⟩ w ⟨hi,he,hS⟩
 change WC _ _ _ _ [(1,U64 (e:Nat)),(6,S (X77 kind)),(7,S HEXD),(8,S (X9d i d)),(9,I64 (i:Nat))] w
 refine .seq (.seq (.q 2 rfl ?_))
 refine WC.cond rfl (fun hb15=>?_) (fun hb15=>?_)
 ·
  have hc15:=hb15; try simp only [Y4] at hc15
  refine .skip (.seq (.block (.seq ?_)))
  have hed:e<18446744073709551616:=by rw [he]; exact Nat.lt_of_le_of_lt (Nat.div_le_self _ _) hd
  have hdl:=X6n i d
  have hm16:=Y2p e (show 0<16 by decide)
  have hcast:((e:Nat):Int) % 16=((e % 16:Nat):Int):=by omega
  have htk:=Xci hm16
  have hsl:(HEXD.drop ((e:Int) % 16).toNat).take (((e:Int) % 16+1).toNat - ((e:Int) % 16).toNat)=[dg (e % 16)]:=by
   rw [hcast,Y9,show (((e % 16:Nat):Int)+1).toNat - e % 16=1 by omega]; exact htk
  have hcons:[dg (e % 16)] ++ X9d i d=X9d (i+1) d:=by rw [X6x,he]; rfl
  have hquo:((e:Nat):Int) / 16=((e / 16:Nat):Int):=by omega
  have hee:e / 16=d / 16 ^ (i+1):=by rw [he,Y2m,Y17]
  refine .t 2 rfl (.val (.rem (.of rfl) (.of rfl) (by omega) (by omega)) rfl (.q 1 rfl (.val (.rem (.of rfl) (.of rfl) (by omega) (by omega)) rfl ?_)))
  first | refine WL.val (.addx (.of rfl) (.of rfl) (by rw [IntKind.wrap_u64]; omega)) rfl ?_ | refine WL.val (.addw (.of rfl) (.of rfl)) rfl ?_
  refine WL.val (Ex.sub3U (.of rfl) (.of rfl) (.of rfl) (by omega) (by omega) (by show _≤(16:Int); omega) Qu9) rfl ?_
  rw [hsl]
  refine .q 1 rfl ?_
  refine WL.val (.cat (.of rfl) (.of rfl) (by (try simp only [Y0,List.length_cons,List.length_nil]); omega)) rfl ?_
  rw [hcons]
  refine .q 1 rfl (.nil (.t 1 rfl ?_))
  refine WL.val (.quo (.of rfl) (.of rfl) (by omega) (by omega) (by rw [IntKind.wrap_u64]; omega)) rfl ?_
  rw [hquo]
  refine .q 1 rfl (.nil (.region (.run 3 rfl ⟨⟨by omega,by omega⟩,trivial⟩ (.nil ?_))))
  refine ⟨(i+1,e / 16),⟨rfl,rfl,rfl,rfl,rfl,trivial⟩,⟨by (try dsimp only); omega,hee,hS⟩,by (try dsimp only); omega⟩
 have hc15:=hb15; try simp only [Y4] at hc15
 refine .exit (.seq ?_)
 have hpl:=Xb9 kind
 have hdl:=X6n i d
 refine .region ?_
 refine WL.run 6 rfl ⟨by (try simp only [Y0,List.length_cons,List.length_nil]); omega,by (try simp only [Y0,List.length_cons,List.length_nil]); omega,trivial⟩ ?_
 refine .nil (.ret (X3u Tryz.results92 rfl rfl ?_))
 have e16:i=16:=by omega
 subst e16
 refine ⟨_,rfl,by rw [if_neg (by simpa using hb13),Ye]; rfl,hS⟩
theorem X6b (s:List UInt8) (c:UInt8) (n:Nat):hxS n (s ++ [c])=(hxS n s).bind fun m=>(hx c).map fun d=>16*m+d:=by
 rw [X8k]
 congr 1
 funext m
 rw [hxS]
 cases hx c with
 | none=>rfl
 | some d=>rfl
theorem X50 {c:UInt8} {r:List UInt8}:∀ {s:List UInt8},Xc [45] s=c::r→c=45
 | [],h=>by simp [Xc] at h
 | x::s,h=>by
  unfold Xc at h
  rw [Y1t] at h
  split at h
  ·exact X50 h
  ·rename_i h1
   cases h
   simpa using h1
theorem X1n (cs s:List UInt8):upto cs s ++ Xc cs s=s:=Y2s
theorem X6u {s t:List UInt8} {k:Nat} (hs:s=pre k ++ 45::t) (hl:t.length=16):s.length=(pre k).length+1+16∧s.take ((pre k).length+1)=pre k ++ [45]∧s.drop ((pre k).length+1)=t:=by
 have e:s=(pre k ++ [45]) ++ t:=by rw [hs]; simp
 have e2:(pre k).length+1=(pre k ++ [45]).length:=by simp
 refine ⟨by rw [hs]; simp [hl],?_,?_⟩
 ·rw [e,e2,Y1m]
 ·rw [e,e2,Y3s]
theorem X9e {s:List UInt8} {k d:Nat} (h:Xt s=some (k,d)):∃ t,s=pre k ++ 45::t∧t.length=16∧hxS 0 t=some d:=by
 unfold Xt at h
 split at h
 ·cases h
 ·rename_i hk
  obtain ⟨x,hx,e⟩:=Y18.1 h
  simp only [Prod.mk.injEq] at e
  obtain ⟨e1,rfl⟩:=e
  have h1:=X86 hk
  rw [e1] at h1
  unfold X28 at hx
  split at hx
  ·rename_i hl
   have h2:=X1n [45] s
   cases e3:Xc [45] s with
   | nil=>rw [e3] at hl; cases hl
   | cons c r =>
    rw [e3] at hl hx
    have h3:c=45:=X50 e3
    subst h3
    exact ⟨r,by rw [← h1]; rw [e3] at h2; exact h2.symm,hl,hx⟩
  ·cases hx
theorem Xca {k d:Nat} {t:List UInt8} (h1:1≤k) (h2:k≤6) (hl:t.length=16) (hd:hxS 0 t=some d):Xt (pre k ++ 45::t)=some (k,d):=by
 unfold Xt
 obtain ⟨e1,e2⟩:=Xda (p:=pre k) (r:=t) Xco
 rw [e1,e2,Xcj h1 h2,if_neg (by omega),Y2,Y5,X28,if_pos hl,hd]
 rfl
theorem Xcn {k:Nat} (h1:1≤k) (h2:k≤6):X77 (k:Int)=pre k:=by
 unfold X77
 rw [if_neg (by omega),Y9]
theorem hx_num {c:UInt8} (h1:48≤c.toNat) (h2:c.toNat≤57):hx c=some (c.toNat - 48):=by
 unfold hx
 rw [if_pos]
 simp only [Yd,decide_eq_true_eq,Yv]
 exact ⟨h1,h2⟩
theorem hx_let {c:UInt8} (h1:97≤c.toNat) (h2:c.toNat≤102):hx c=some (c.toNat - 87):=by
 unfold hx
 rw [if_neg,if_pos]
 ·simp only [Yd,decide_eq_true_eq,Yv]
  exact ⟨h1,h2⟩
 ·simp only [Yd,decide_eq_true_eq,Yv]
  intro h
  have:c.toNat≤57:=h.2
  omega
theorem hx_no {c:UInt8} (h1:¬(48≤c.toNat∧c.toNat≤57)) (h2:¬(97≤c.toNat∧c.toNat≤102)):hx c=none:=by
 unfold hx
 rw [if_neg,if_neg]
 ·simp only [Yd,decide_eq_true_eq,Yv]; exact h2
 ·simp only [Yd,decide_eq_true_eq,Yv]; exact h1
theorem X4d {s:List UInt8} {n i:Nat} (h1:n≤i) (h2:i<s.length):(s.drop n).take (i+1 - n)=(s.drop n).take (i - n) ++ [at_ s (i:Int)]:=by
 have e:i+1 - n=(i - n)+1:=by omega
 rw [e,Yn,Yq,show n+(i - n)=i by omega,Xy h2]
 rfl
theorem X38 (s:List UInt8) (hsl:s.length≤9223372036854775000) (B w:World) (I:Im) (As:List Xf) (hS:Sat B w I As) :
  Calls Tryz.prog 30 [S s].toArray w (Ret fun v w'=>v=(match Xt s with | some (k,d)=>.tuple #[I64 (k:Nat),U64 (d:Nat),.bool true] | none=>.tuple #[I64 0,U64 0,.bool false])∧Sat B w' I As):=by
 refine calls Tryz.func30 rfl Tryz.ntmps30 rfl (.seq (.q 3 rfl (.seq (.seq (.q 1 rfl (.block ?_))))))
 refine WC.loop (σ:=Nat) (fun k=>[(0,S s),(5,I64 (k:Nat))]) (fun k w=>1≤k∧k≤7∧(∀ (j d:Nat),j<k→Xt s≠some (j,d))∧Sat B w I As) (fun k=>7 - k) 1 ⟨rfl,rfl,trivial⟩ ⟨Yh _,by decide,fun j d hj h=>by have:=(X2k h).1; omega,hS⟩ ?_
 rintro k w ⟨hk0,hk7,hno,hS⟩
 change WC _ _ _ _ [(0,S s),(5,I64 (k:Nat))] w
 refine .seq (.seq (.q 2 rfl ?_))
 refine WC.cond rfl (fun hb13=>?_) (fun hb13=>?_)
 ·
  have hc13:=hb13; try simp only [Y4] at hc13
  refine .skip (.seq (.block (.seq ?_)))
  have hk1:1≤k∧k≤6:=by omega
  have hpr:=Xcn hk1.1 hk1.2
  have hp6:(pre k).length≤6:=by rw [← hpr]; exact Xb9 _
  have hn9:(pre k ++ [45]).length=(pre k).length+1:=by simp
  refine .t 1 rfl (.call Tryz.func70 rfl (X0 (.of rfl) X1) rfl (X3b (k:Int) B _ I _ hS) ?_)
  clear hS
  rintro _ w ⟨rfl,hS⟩
  rw [hpr]
  refine WL.run 2 rfl ⟨by (try simp only [Y0,List.length_cons,List.length_nil]); omega,trivial⟩ ?_
  refine .nil (.seq (.region (.run 3 rfl ⟨Qu9,trivial⟩ (.nil (.seq (.seq ?_))))))
  rw [hn9]
  refine .region (.run 6 rfl ⟨Qu9,⟨by omega,by omega⟩,trivial⟩ (.gval rfl rfl (fun hg1=>(.move (.of rfl))) rfl (.gval rfl rfl (fun hg1=>(.move (.of rfl))) rfl ?_)))
  refine WL.gval rfl rfl (fun hg1=>(.subTo (.gd hg1 rfl) (.gd hg1 rfl) (by (try simp only [Y4] at hg1); omega) (by (try simp only [Y4] at hg1); omega) Qu9)) rfl ?_
  refine .gval rfl rfl (fun hg1=>(.move (.of rfl))) rfl (.gval rfl rfl (fun hg1=>(.nes (.gd hg1 rfl) (.gd hg1 rfl))) rfl (.val (.por (.of rfl) (.of rfl) (.of rfl)) rfl (.nil ?_)))
  refine WC.cond rfl (fun hb32=>?_) (fun hb32=>?_)
  ·
   have hc32:=hb32; try simp only [Y4] at hc32
   refine .exit (.region (.run 3 rfl ⟨⟨by omega,by omega⟩,trivial⟩ (.nil ?_)))
   refine ⟨k+1,⟨rfl,rfl,trivial⟩,⟨by (try dsimp only); omega,by (try dsimp only); omega,fun j d hj h=>?_,hS⟩,by (try dsimp only); omega⟩
   rcases Yo j k with h1 | h1
   ·exact hno j d h1 h
   ·have e:k=j:=by omega
    subst e
    obtain ⟨t,ht,htl,hth⟩:=X9e h
    obtain ⟨g1,g2,g3⟩:=X6u ht htl
    first
    | (have h3:=hb32; simp [g1,g2] at h3; done)
    | (have h3:=hb32; simp [g1,g2] at h3; omega)
    | (have h3:hxS 0 ((s.drop ((pre k).length+1)).take (s.length - ((pre k).length+1)))=some d:=(by (rw [g3,Yx (by omega)]; exact hth)); rw [show i=s.length by omega] at hhx; rw [hhx] at h3; simp [hb70] at h3)
  have hc32:=hb32; try simp only [Y4] at hc32
  refine .skip (.seq ?_)
  obtain ⟨hle,hpf⟩:s.length=(pre k).length+1+16∧s.take ((pre k).length+1)=pre k ++ [45]:=by
   have h:=hb32
   simp at h
   refine ⟨by omega,?_⟩
   simpa using h.2
  refine .q 1 rfl (.seq (.q 1 rfl (.seq (.seq (.q 2 rfl (.block ?_))))))
  refine WC.loop (σ:=Nat×Nat×Bool) (fun ⟨i,d,b⟩=>[(0,S s),(5,I64 (k:Nat)),(8,U64 (d:Nat)),(9,.bool b),(10,I64 (i:Nat))]) (fun ⟨i,d,b⟩ w=>((pre k).length+1)≤i∧i≤s.length∧d<16 ^ (i - ((pre k).length+1))∧hxS 0 ((s.drop ((pre k).length+1)).take (i - ((pre k).length+1)))=(if b=true then some d else none)∧Sat B w I As) (fun ⟨i,d,b⟩=>s.length - i) (((pre k).length+1),0,true) ⟨rfl,rfl,rfl,rfl,rfl,trivial⟩ ⟨Yh _,by (try dsimp only); omega,by (try dsimp only); exact Nat.pow_pos (by decide),by (try dsimp only); rw [Y3q]; rfl,hS⟩ ?_
  rintro ⟨i,d,b⟩ w ⟨hni,hi,hdp,hhx,hS⟩
  change WC _ _ _ _ [(0,S s),(5,I64 (k:Nat)),(8,U64 (d:Nat)),(9,.bool b),(10,I64 (i:Nat))] w
  refine .seq (.seq (.region (.run 4 rfl ⟨Qu9,trivial⟩ (.nil ?_))))
  refine WC.cond rfl (fun hb37=>?_) (fun hb37=>?_)
  ·
   have hc37:=hb37; try simp only [Y4] at hc37
   refine .skip (.seq (.block (.seq ?_)))
   have hp15:d<1152921504606846976:=Y1h hdp (Y2t (Yy (by decide) (show i - ((pre k).length+1)≤15 by omega)) (by decide))
   refine .region (.run 4 rfl ⟨⟨⟨by omega,by omega⟩,Qu9⟩,trivial⟩ (.nil (.block (.seq (.t 3 rfl (.gval rfl rfl (fun hg1=>(.move (.of rfl))) rfl (.gval rfl rfl (fun hg1=>(.leq (.gd hg1 rfl) (.of rfl))) rfl (.val (.pand (.of rfl) (.of rfl) (.of rfl)) rfl (.q 1 rfl (.nil ?_))))))))))
   refine WC.cond rfl (fun hb43=>?_) (fun hb43=>?_)
   ·
    have hc43:=hb43; try simp only [Y4] at hc43
    refine .t 1 rfl ?_
    first | refine WL.val (.mulx (.of rfl) (.of rfl) (by rw [IntKind.wrap_u64]; omega)) rfl ?_ | refine WL.val (.mulw (.of rfl) (.of rfl)) rfl ?_
    refine .q 1 rfl ?_
    refine WL.val (.subx (.of rfl) (.of rfl) (by rw [IntKind.wrap_u8]; simp at hb43; omega)) rfl ?_
    refine WL.val (.cvi (.of rfl) Qu5 Qu62 (by rw [IntKind.wrap_u64]; omega)) rfl ?_
    first | refine WL.val (.addx (.of rfl) (.of rfl) (by rw [IntKind.wrap_u64]; omega)) rfl ?_ | refine WL.val (.addw (.of rfl) (.of rfl)) rfl ?_
    rw [show (16*(d:Int)+(((at_ s (i:Int)).toNat:Int) - 48))=((16*d+((at_ s (i:Int)).toNat - 48):Nat):Int) by simp at hb43; omega]
    refine .q 1 rfl (.nil (.region (.run 3 rfl ⟨⟨by omega,by omega⟩,trivial⟩ (.nil ?_))))
    refine ⟨(i+1,16*d+((at_ s (i:Int)).toNat - 48),b),⟨rfl,rfl,rfl,rfl,rfl,trivial⟩,⟨by (try dsimp only); omega,by (try dsimp only); omega,by (try dsimp only); exact Y1h (show 16*d+((at_ s (i:Int)).toNat - 48)<16*16 ^ (i - ((pre k).length+1)) by have h9:(at_ s (i:Int)).toNat≤57:=(by simp at hb43; omega); omega) (by rw [show i+1 - ((pre k).length+1)=(i - ((pre k).length+1))+1 by omega,Y17]; omega),?_,hS⟩,by (try dsimp only); omega⟩
    try dsimp only
    rw [X4d hni (by omega),X6b,hhx,hx_num (by simp at hb43; omega) (by simp at hb43; omega)]
    cases b with
     | true=>simp
     | false=>simp
   have hc43:=hb43; try simp only [Y4] at hc43
   refine .seq (.t 3 rfl (.gval rfl rfl (fun hg1=>(.move (.of rfl))) rfl (.gval rfl rfl (fun hg1=>(.leq (.gd hg1 rfl) (.of rfl))) rfl (.val (.pand (.of rfl) (.of rfl) (.of rfl)) rfl (.q 1 rfl (.nil ?_))))))
   refine WC.cond rfl (fun hb56=>?_) (fun hb56=>?_)
   ·
    have hc56:=hb56; try simp only [Y4] at hc56
    refine .t 1 rfl ?_
    first | refine WL.val (.mulx (.of rfl) (.of rfl) (by rw [IntKind.wrap_u64]; omega)) rfl ?_ | refine WL.val (.mulw (.of rfl) (.of rfl)) rfl ?_
    refine .q 1 rfl ?_
    refine WL.val (.subx (.of rfl) (.of rfl) (by rw [IntKind.wrap_u8]; simp at hb56; omega)) rfl ?_
    refine WL.val (.cvi (.of rfl) Qu5 Qu62 (by rw [IntKind.wrap_u64]; omega)) rfl ?_
    first | refine WL.val (.addx (.of rfl) (.of rfl) (by rw [IntKind.wrap_u64]; omega)) rfl ?_ | refine WL.val (.addw (.of rfl) (.of rfl)) rfl ?_
    first | refine WL.val (.addx (.of rfl) (.of rfl) (by rw [IntKind.wrap_u64]; omega)) rfl ?_ | refine WL.val (.addw (.of rfl) (.of rfl)) rfl ?_
    rw [show (16*(d:Int)+(((at_ s (i:Int)).toNat:Int) - 97)+10)=((16*d+((at_ s (i:Int)).toNat - 97)+10:Nat):Int) by simp at hb56; omega]
    refine .q 1 rfl (.nil (.region (.run 3 rfl ⟨⟨by omega,by omega⟩,trivial⟩ (.nil ?_))))
    refine ⟨(i+1,16*d+((at_ s (i:Int)).toNat - 97)+10,b),⟨rfl,rfl,rfl,rfl,rfl,trivial⟩,⟨by (try dsimp only); omega,by (try dsimp only); omega,by (try dsimp only); exact Y1h (show 16*d+((at_ s (i:Int)).toNat - 97)+10<16*16 ^ (i - ((pre k).length+1)) by have h9:(at_ s (i:Int)).toNat≤102:=(by simp at hb56; omega); have h8:97≤(at_ s (i:Int)).toNat:=(by simp at hb56; omega); omega) (by rw [show i+1 - ((pre k).length+1)=(i - ((pre k).length+1))+1 by omega,Y17]; omega),?_,hS⟩,by (try dsimp only); omega⟩
    try dsimp only
    rw [X4d hni (by omega),X6b,hhx,hx_let (by simp at hb56; omega) (by simp at hb56; omega)]
    cases b with
     | true=>simp; omega
     | false=>simp
   have hc56:=hb56; try simp only [Y4] at hc56
   refine .q 1 rfl (.region (.run 3 rfl ⟨⟨by omega,by omega⟩,trivial⟩ (.nil ?_)))
   refine ⟨(i+1,d,false),⟨rfl,rfl,rfl,rfl,rfl,trivial⟩,⟨by (try dsimp only); omega,by (try dsimp only); omega,by (try dsimp only); exact Y1h (show d<16*16 ^ (i - ((pre k).length+1)) by omega) (by rw [show i+1 - ((pre k).length+1)=(i - ((pre k).length+1))+1 by omega,Y17]; omega),?_,hS⟩,by (try dsimp only); omega⟩
   try dsimp only
   rw [X4d hni (by omega),X6b,hhx,hx_no (fun h=>by have h1:=h.1; have h2:=h.2; simp at hb43; omega) (fun h=>by have h1:=h.1; have h2:=h.2; simp at hb56; omega)]
   cases b <;> simp
  have hc37:=hb37; try simp only [Y4] at hc37
  refine .exit (.seq (.q 1 rfl ?_))
  refine WC.cond rfl (fun hb70=>?_) (fun hb70=>?_)
  ·
   have hc70:=hb70; try simp only [Y4] at hc70
   refine .seq (.q 5 rfl (.ret (ret3 Tryz.results30 rfl rfl rfl ?_)))
   have hs9:s=pre k ++ 45::s.drop ((pre k).length+1):=by
    have h:=Y1a ((pre k).length+1) s
    rw [hpf,Ye] at h
    exact h.symm
   have hil:i=s.length:=by omega
   have hh:hxS 0 (s.drop ((pre k).length+1))=some d:=by
    rw [hil,Yx (by rw [Ya]; omega),hb70] at hhx
    exact hhx
   have hP:Xt s=some (k,d):=by
    rw [hs9]
    exact Xca hk1.1 hk1.2 (by rw [Ya]; omega) hh
   rw [hP]
   exact ⟨_,rfl,rfl,hS⟩
  have hc70:=hb70; try simp only [Y4] at hc70
  refine .skip (.region (.run 3 rfl ⟨⟨by omega,by omega⟩,trivial⟩ (.nil ?_)))
  refine ⟨k+1,⟨rfl,rfl,trivial⟩,⟨by (try dsimp only); omega,by (try dsimp only); omega,fun j d hj h=>?_,hS⟩,by (try dsimp only); omega⟩
  rcases Yo j k with h1 | h1
  ·exact hno j d h1 h
  ·have e:k=j:=by omega
   subst e
   obtain ⟨t,ht,htl,hth⟩:=X9e h
   obtain ⟨g1,g2,g3⟩:=X6u ht htl
   first
   | (have h3:=hb32; simp [g1,g2] at h3; done)
   | (have h3:=hb32; simp [g1,g2] at h3; omega)
   | (have h3:hxS 0 ((s.drop ((pre k).length+1)).take (s.length - ((pre k).length+1)))=some d:=(by (rw [g3,Yx (by omega)]; exact hth)); rw [show i=s.length by omega] at hhx; rw [hhx] at h3; simp [hb70] at h3)
 have hc13:=hb13; try simp only [Y4] at hc13
 refine .exit (.seq (.q 3 rfl (.ret (ret3 Tryz.results30 rfl rfl rfl ?_))))
 have hP:Xt s=none:=by
  cases h:Xt s with
  | none=>rfl
  | some x =>
   obtain ⟨j,d⟩:=x
   have:=X2k h
   exact absurd h (hno j d (by omega))
 rw [hP]
 exact ⟨_,rfl,rfl,hS⟩
theorem X1a (n:Nt) (hn:n.ticket.length≤1000000) (hu:n.url.length≤9223372036854775807) (B w:World) (I:Im) (As:List Xf) (hS:Sat B w I As) :
  Calls Tryz.prog 27 [.agg (X5 n).toArray].toArray w (Ret fun v w'=>v=.bool (Xd n)∧Sat B w' I As):=by
 refine calls Qf27 rfl Tryz.ntmps27 rfl (.seq (.region (.boxA (cs:=[_,_,_,_]) hS (.of rfl) rfl ?_)))
 clear hS; intro b1 w hS
 refine .q 1 rfl (.nil (.seq (.region ?_)))
 first | refine WL.val (.fieldAddr 0 (.of rfl) Xg rfl rfl Qs9 rfl) rfl ?_ | refine WL.val (.fieldAddrI 0 (.of rfl) Xg rfl rfl Qs9 rfl) rfl ?_
 refine .val (.ld (.of rfl) hS (k:=0) rfl Qg9 rfl) rfl (.call Tryz.func30 rfl (X0 (.of rfl) X1) rfl (X38 n.ticket (by omega) B _ I _ hS) ?_)
 clear hS
 rintro _ w ⟨rfl,hS⟩
 generalize hps:Xt n.ticket=pt
 rcases pt with _ | ⟨k,d⟩
 ·
  refine .val (.move (.of rfl)) rfl (.q 6 rfl (.nil (.seq (.seq (.t 3 rfl (.gval rfl rfl (fun hg1=>(.move (.of rfl))) rfl (.gval rfl rfl (fun hg1=>(.neq (.gd hg1 rfl) (.of rfl))) rfl (.gval rfl rfl (fun hg1=>(.move (.gd hg1 rfl))) rfl (.gval2 rfl rfl rfl (fun hg1 hg2=>(.move (.of rfl))) rfl (.gval2 rfl rfl rfl (fun hg1 hg2=>(.neq (.gd2 hg1 hg2 rfl) (.of rfl))) rfl (.gval rfl rfl (fun hg1=>(.pand (.gd hg1 rfl) (.gd hg1 rfl) (.of rfl))) rfl (.val (.por (.of rfl) (.of rfl) (.of rfl)) rfl (.nil ?_)))))))))))))
  refine WC.cond rfl (fun hb22=>?_) (fun hb22=>?_)
  ·
   have hc22:=hb22; try simp only [Y4] at hc22
   refine .seq (.q 1 rfl (.ret (Xl Qr27 rfl ?_)))
   refine ⟨_,rfl,congrArg Value.bool ?_,hS.drop (k:=0) rfl⟩
   unfold Xd X1g isT
   rw [hps]; rfl
  have hc22:=hb22; try simp only [Y4] at hc22
  refine .skip (.seq (.region ?_))
  first | refine WL.val (.fieldAddr 1 (.of rfl) Xg rfl rfl Qs9 rfl) rfl ?_ | refine WL.val (.fieldAddrI 1 (.of rfl) Xg rfl rfl Qs9 rfl) rfl ?_
  refine .val (.ld (.of rfl) hS (k:=0) rfl Qg9 rfl) rfl (.run 3 rfl ⟨Qu9,trivial⟩ ?_)
  refine WL.gval rfl rfl (fun hg1=>(by first | exact .fieldAddr 2 (.of rfl) Xg rfl rfl Qs3 rfl | exact .fieldAddrI 2 (.of rfl) Xg rfl rfl Qs3 rfl)) rfl ?_
  refine .gval rfl rfl (fun hg1=>(.ld (.gd hg1 rfl) hS (k:=0) rfl Qg3 rfl)) rfl (.gval rfl rfl (fun hg1=>(.geq (.gd hg1 rfl) (.of rfl))) rfl (.val (.pand (.of rfl) (.of rfl) (.of rfl)) rfl (.q 1 rfl ?_)))
  refine WL.gval rfl rfl (fun hg1=>(by first | exact .fieldAddr 2 (.of rfl) Xg rfl rfl Qs3 rfl | exact .fieldAddrI 2 (.of rfl) Xg rfl rfl Qs3 rfl)) rfl ?_
  refine .gval rfl rfl (fun hg1=>(.ld (.gd hg1 rfl) hS (k:=0) rfl Qg3 rfl)) rfl (.gval rfl rfl (fun hg1=>(.leq (.gd hg1 rfl) (.of rfl))) rfl (.val (.pand (.of rfl) (.of rfl) (.of rfl)) rfl (.q 1 rfl ?_)))
  refine WL.gval rfl rfl (fun hg1=>(by first | exact .fieldAddr 3 (.of rfl) Xg rfl rfl Qs3 rfl | exact .fieldAddrI 3 (.of rfl) Xg rfl rfl Qs3 rfl)) rfl ?_
  refine .gval rfl rfl (fun hg1=>(.ld (.gd hg1 rfl) hS (k:=0) rfl Qg3 rfl)) rfl (.gval rfl rfl (fun hg1=>(.geq (.gd hg1 rfl) (.of rfl))) rfl (.val (.pand (.of rfl) (.of rfl) (.of rfl)) rfl (.q 1 rfl ?_)))
  refine WL.gval rfl rfl (fun hg1=>(by first | exact .fieldAddr 3 (.of rfl) Xg rfl rfl Qs3 rfl | exact .fieldAddrI 3 (.of rfl) Xg rfl rfl Qs3 rfl)) rfl ?_
  refine .gval rfl rfl (fun hg1=>(.ld (.gd hg1 rfl) hS (k:=0) rfl Qg3 rfl)) rfl (.gval rfl rfl (fun hg1=>(.leq (.gd hg1 rfl) (.of rfl))) rfl (.val (.pand (.of rfl) (.of rfl) (.of rfl)) rfl (.q 1 rfl (.nil (.ret (Xl Qr27 rfl ?_))))))
  exfalso; simp at hb22
 refine .val (.move (.of rfl)) rfl (.q 6 rfl (.nil (.seq (.seq (.t 3 rfl (.gval rfl rfl (fun hg1=>(.move (.of rfl))) rfl (.gval rfl rfl (fun hg1=>(.neq (.gd hg1 rfl) (.of rfl))) rfl (.gval rfl rfl (fun hg1=>(.move (.gd hg1 rfl))) rfl (.gval2 rfl rfl rfl (fun hg1 hg2=>(.move (.of rfl))) rfl (.gval2 rfl rfl rfl (fun hg1 hg2=>(.neq (.gd2 hg1 hg2 rfl) (.of rfl))) rfl (.gval rfl rfl (fun hg1=>(.pand (.gd hg1 rfl) (.gd hg1 rfl) (.of rfl))) rfl (.val (.por (.of rfl) (.of rfl) (.of rfl)) rfl (.nil ?_)))))))))))))
 refine WC.cond rfl (fun hb22=>?_) (fun hb22=>?_)
 ·
  have hc22:=hb22; try simp only [Y4] at hc22
  refine .seq (.q 1 rfl (.ret (Xl Qr27 rfl ?_)))
  refine ⟨_,rfl,congrArg Value.bool ?_,hS.drop (k:=0) rfl⟩
  unfold Xd X1g isT
  rw [hps]
  have h9:=hb22
  simp at h9
  have h2:((k:Int) == 2)=false:=by simpa using h9.1
  have h3:((k:Int) == 3)=false:=by simpa using h9.2
  simp [h2,h3]
 have hc22:=hb22; try simp only [Y4] at hc22
 refine .skip (.seq (.region ?_))
 first | refine WL.val (.fieldAddr 1 (.of rfl) Xg rfl rfl Qs9 rfl) rfl ?_ | refine WL.val (.fieldAddrI 1 (.of rfl) Xg rfl rfl Qs9 rfl) rfl ?_
 refine .val (.ld (.of rfl) hS (k:=0) rfl Qg9 rfl) rfl (.run 3 rfl ⟨Qu9,trivial⟩ ?_)
 refine WL.gval rfl rfl (fun hg1=>(by first | exact .fieldAddr 2 (.of rfl) Xg rfl rfl Qs3 rfl | exact .fieldAddrI 2 (.of rfl) Xg rfl rfl Qs3 rfl)) rfl ?_
 refine .gval rfl rfl (fun hg1=>(.ld (.gd hg1 rfl) hS (k:=0) rfl Qg3 rfl)) rfl (.gval rfl rfl (fun hg1=>(.geq (.gd hg1 rfl) (.of rfl))) rfl (.val (.pand (.of rfl) (.of rfl) (.of rfl)) rfl (.q 1 rfl ?_)))
 refine WL.gval rfl rfl (fun hg1=>(by first | exact .fieldAddr 2 (.of rfl) Xg rfl rfl Qs3 rfl | exact .fieldAddrI 2 (.of rfl) Xg rfl rfl Qs3 rfl)) rfl ?_
 refine .gval rfl rfl (fun hg1=>(.ld (.gd hg1 rfl) hS (k:=0) rfl Qg3 rfl)) rfl (.gval rfl rfl (fun hg1=>(.leq (.gd hg1 rfl) (.of rfl))) rfl (.val (.pand (.of rfl) (.of rfl) (.of rfl)) rfl (.q 1 rfl ?_)))
 refine WL.gval rfl rfl (fun hg1=>(by first | exact .fieldAddr 3 (.of rfl) Xg rfl rfl Qs3 rfl | exact .fieldAddrI 3 (.of rfl) Xg rfl rfl Qs3 rfl)) rfl ?_
 refine .gval rfl rfl (fun hg1=>(.ld (.gd hg1 rfl) hS (k:=0) rfl Qg3 rfl)) rfl (.gval rfl rfl (fun hg1=>(.geq (.gd hg1 rfl) (.of rfl))) rfl (.val (.pand (.of rfl) (.of rfl) (.of rfl)) rfl (.q 1 rfl ?_)))
 refine WL.gval rfl rfl (fun hg1=>(by first | exact .fieldAddr 3 (.of rfl) Xg rfl rfl Qs3 rfl | exact .fieldAddrI 3 (.of rfl) Xg rfl rfl Qs3 rfl)) rfl ?_
 refine .gval rfl rfl (fun hg1=>(.ld (.gd hg1 rfl) hS (k:=0) rfl Qg3 rfl)) rfl (.gval rfl rfl (fun hg1=>(.leq (.gd hg1 rfl) (.of rfl))) rfl (.val (.pand (.of rfl) (.of rfl) (.of rfl)) rfl (.q 1 rfl (.nil (.ret (Xl Qr27 rfl ?_))))))
 refine ⟨_,rfl,congrArg Value.bool ?_,hS.drop (k:=0) rfl⟩
 unfold Xd X1g isT
 rw [hps]
 have h9:((k:Int) == 2 || (k:Int) == 3)=true:=by
  have h9:=hb22
  simp at h9
  by_cases e:(k:Int)=2
  ·simp [e]
  ·have:=h9 e; simp [this]
 dsimp only
 rw [h9,Y3g]
theorem X5n (p q:Nt) (w:World):(Op.equalIn 10000 45 (.agg (X5 p).toArray) (.agg (X5 q).toArray)).run Tryz.prog w=.ok (decide (p=q)) w:=by
 have hS:Tryz.prog.underlying 45=some (.struct (Tryz.prog.fieldsOf 45)):=by kernel_rfl
 have hp:Tryz.prog.stoodInHeld 45=false:=by kernel_rfl
 have us:=Qu9
 have as9:=Qg9
 have ui:=Qu3
 have ai:=Qg3
 rw [show (10000:Nat)=9999+1 from rfl,run_equalIn_agg w 9999 45 _ _ hS hp]
 simp only [Program.fieldsOf,Xg]
 obtain ⟨a,b,e,f⟩:=p
 obtain ⟨c,d,g,h⟩:=q
 unfold X5
 go_simp
 repeat' split
 all_goals simp_all
theorem Ex.neNt {n:Nat} {L:Env} {w:World} {d:Option Nat} {ty t':TypeId} {pos:String} {af:Array Edge} {g:Option (Nat×Bool)} {x y:Operand} {r s:Nt} (hx:Ev n L x (.agg (X5 r).toArray)) (hy:Ev n L y (.agg (X5 s).toArray)):Ex Tryz.prog n L w ⟨d,.binOp .neq 45 x y t',ty,pos,af,g⟩ (.bool (!decide (r=s))) w :=
 Xn hx hy (fun p q=>run_eqGuard_agg w _ _ _ _ _ _ (by kernel_rfl)) (by rw [run_neq_struct,X5n]; rfl)
end Go.Proofs.YtbciobiiejpdgaaGreatDoor
