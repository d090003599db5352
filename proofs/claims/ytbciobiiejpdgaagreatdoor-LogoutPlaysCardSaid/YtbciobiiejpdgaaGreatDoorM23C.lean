/- Part 3 of what the proof stands on: W23c, W23d, W21a, W23e, Rk, W16a, W16b, Qu, W23f. -/
import Derived.Test.YtbciobiiejpdgaaGreatDoorM23B
import Derived.Lib.AtoiTie
import Derived.Lib.AtoiErrMem
import Derived.Test.YtbciobiiejpdgaaGreatDoorChecked
set_option linter.unusedVariables false
set_option linter.unusedSimpArgs false
namespace Go.Proofs.YtbciobiiejpdgaaGreatDoor
open Gk Ul Pc Pat Xm Tr
theorem X1i:Tryz.prog.info? 126=some Tryz.t126:=by kernel_rfl
theorem X4s:Tryz.prog.info? 136=some Tryz.t136:=by kernel_rfl
theorem Xn:Bld Tryz.prog 126 [(0,1),(1,1),(2,1),(3,1)] [S [],.slice none 0 0,S [],.slice none 0 0]:=X4d Xl X33 (fun w=>by simp [go_sem])
theorem X22:Bld Tryz.prog 136 [(0,1),(1,1)] [S [],S []]:=X4d X1b X7i (fun w=>by simp [go_sem])
def tkn (b:Bool) (X x:List UInt8):List UInt8:=if (!b && Xa X x)=true then X.drop x.length else X
theorem Xav (rb:Nat) (X x:List UInt8) (l:Int) (b:Bool) (B w:World) (I:Im) (As:List Xe) (hS:Sat B w I (blk rb [S (X),I64 (l)] 171::As)) :
  (b=false→Calls Tryz.prog 144 [ptr rb 0,S x].toArray w (Ret fun v w'=>v=.bool (Xa X x)∧Sat B w' I (blk rb [S (tkn b X x),I64 (l)] 171::As)))∧(b≠false→Sat B w I (blk rb [S (tkn b X x),I64 (l)] 171::As)):=by
 refine ⟨fun h=>?_,fun h=>?_⟩
 ·subst h
  exact (X4x rb X x l B w I As hS)
 ·have:b=true:=by simpa using h
  subst this
  exact hS
set_option maxRecDepth 4000 in
theorem X7t (rb:Nat) (t0:List UInt8) (hl0:t0.length≤10000) (l:Int) (B w:World) (I:Im) (hK:Kx I) (As:List Xe) (hS:Sat B w I (blk rb [S (t0),I64 (l)] 171::As)) :
  Calls Tryz.prog 146 [ptr rb 0].toArray w (Ret fun v w'=>∃ J aa m c ok t',v=.tuple #[.slice aa m c,.bool ok]∧Le I J∧(match Xo (t0.length+1) t0 [] with
   | none=>ok=false
   | some (ps,r)=>ok=true∧t'=r∧m=ps.length∧m≤c∧RS J aa 2 m (X6 Xd ps)∧(∀ a∈ps,a.1.length≤t0.length∧a.2.length≤t0.length)∧ps.length≤t0.length)∧Sat B w' J (blk rb [S (t'),I64 (l)] 171::As)):=by
 refine calls Tryz.func146 rfl Tryz.ntmps146 rfl (.seq (.q 2 rfl (.seq (.q 1 rfl (.seq (.block ?_))))))
 replace hS:=(hS.vecNil 136 2).pick 1 rfl; try dsimp only [List.eraseIdx] at hS
 refine .loop (σ:=List UInt8×List Px×Value) (fun ⟨t,out,v⟩=>[(0,ptr rb 0),(4,v)]) (fun ⟨t,out,v⟩ w=>t.length≤t0.length∧Xo (t0.length+1) t0 []=Xo (t.length+1) t out∧out.length+t.length≤t0.length∧(∀ a∈out,a.1.length≤t0.length∧a.2.length≤t0.length)∧Sat B w I (blk rb [S (t),I64 (l)] 171::Vec 136 2 v (out).length (X6 Xd (out))::As)) (fun ⟨t,out,v⟩=>t.length) (t0,[],.slice none 0 0) ⟨rfl,rfl,trivial⟩ ⟨Yi _,rfl,by simp,by simp,hS⟩ ?_
 rintro ⟨t,out,v⟩ w ⟨htl,hat,hol,hom,hS⟩
 change WC _ _ _ _ [(0,ptr rb 0),(4,v)] w
 refine .seq (.seq (.t 2 rfl ?_))
 first | refine WL.val (.fieldAddr 0 (.of rfl) Xx rfl rfl Qs9 rfl) rfl ?_ | refine WL.val (.fieldAddrI 0 (.of rfl) Xx rfl rfl Qs9 rfl) rfl ?_
 first | refine WL.val (.ld (.of rfl) hS (k:=0) rfl Qg9 rfl) rfl ?_ | refine WL.val (.ld (.of rfl) hS (k:=1) rfl Qg9 rfl) rfl ?_
 refine .call Xd0 rfl (X0 (.of rfl) (X0 (.of rfl) X1)) rfl (X24 t [32] _ (by omega) (by decide)) ?_
 rintro _ _ ⟨rfl,rfl⟩
 refine .nil ?_
 refine WC.cond rfl (fun hb12=>?_) (fun hb12=>?_)
 ·
  have hc12:=hb12; try simp only [Y4] at hc12
  refine .skip (.block (.seq ?_))
  have hp1:=X2h hb12; simp only [List.length_cons,List.length_nil] at hp1
  obtain ⟨t1,ht1⟩:∃ x,x=t.drop 1:=⟨_,rfl⟩
  have hl1:t1.length=t.length - 1:=by rw [ht1,Ya]
  refine .t 3 rfl ?_
  first | refine WL.val (.fieldAddr 0 (.of rfl) Xx rfl rfl Qs9 rfl) rfl ?_ | refine WL.val (.fieldAddrI 0 (.of rfl) Xx rfl rfl Qs9 rfl) rfl ?_
  first | refine WL.val (.ld (.of rfl) hS (k:=0) rfl Qg9 rfl) rfl ?_ | refine WL.val (.ld (.of rfl) hS (k:=1) rfl Qg9 rfl) rfl ?_
  refine .val (.subFrom (.of rfl) (.of rfl) (by omega) (by omega) Qu9) rfl (.q 1 rfl ?_)
  first | refine WL.val (.fieldAddr 0 (.of rfl) Xx rfl rfl Qs9 rfl) rfl ?_ | refine WL.val (.fieldAddrI 0 (.of rfl) Xx rfl rfl Qs9 rfl) rfl ?_
  first | refine WL.st1 hS (k:=0) rfl (.of rfl) (.of rfl) rfl Qs9 (by simp) ?_ | refine WL.st1 hS (k:=1) rfl (.of rfl) (.of rfl) rfl Qs9 (by simp) ?_
  clear hS; intro w hS; try dsimp only [List.set] at hS
  refine .nil (.seq ?_)
  rw [show List.drop (1:Int).toNat t=t1 from ht1.symm] at hS
  refine .t 1 rfl (.call Xah rfl (X0 (.of rfl) (X0 (.of rfl) X1)) rfl (Xaq rb t1 61 (by decide) (by omega) l B _ I _ hS) ?_)
  clear hS
  rintro _ w ⟨rfl,hS⟩
  try dsimp only [List.eraseIdx] at hS
  refine .q 1 rfl (.nil (.seq (.seq ?_)))
  obtain ⟨t2,ht2⟩:∃ x,x=Xb [61] t1:=⟨_,rfl⟩
  rw [← ht2] at hS
  have hl2:t2.length≤t1.length:=by rw [ht2]; exact X29 _ _
  have hk2:=X11 [61] t1
  refine .t 1 rfl (.call X9q rfl (X0 (.of rfl) (X0 (.of rfl) X1)) rfl (X4x rb t2 [61,34] l B _ I _ hS) ?_)
  clear hS
  rintro _ w ⟨rfl,hS⟩
  try dsimp only [List.eraseIdx] at hS
  refine .q 1 rfl (.nil ?_)
  refine WC.cond rfl (fun hb25=>?_) (fun hb25=>?_)
  ·
   have hc25:=hb25; try simp only [Y4] at hc25
   refine .seq (.q 2 rfl (.ret (X6f Xdr rfl rfl ?_)))
   refine ⟨_,rfl,I,none,0,0,false,_,rfl,Le.refl _,?_,(hS.drop (k:=1) rfl)⟩
   rw [hat,Xo,if_neg (by rw [hb12]; decide),← ht1,← ht2,if_pos (by simpa using hb25)]
  have hc25:=hb25; try simp only [Y4] at hc25
  refine .skip (.seq ?_)
  have hq2:Xa t2 [61,34]=true:=by simpa using hb25
  rw [if_pos hq2] at hS
  have hp2:=X2h hq2; simp only [List.length_cons,List.length_nil] at hp2
  obtain ⟨t3,ht3⟩:∃ x,x=t2.drop 2:=⟨_,rfl⟩
  have hl3:t3.length=t2.length - 2:=by rw [ht3,Ya]
  rw [show List.drop ([61,34]:List UInt8).length t2=t3 from ht3.symm] at hS
  have hk3:=X11 [34] t3
  refine .t 1 rfl (.call Xah rfl (X0 (.of rfl) (X0 (.of rfl) X1)) rfl (Xaq rb t3 34 (by decide) (by omega) l B _ I _ hS) ?_)
  clear hS
  rintro _ w ⟨rfl,hS⟩
  try dsimp only [List.eraseIdx] at hS
  refine .call Tryz.func147 rfl (X0 (.of rfl) X1) rfl (X3e (upto [34] t3) (by omega) B _ I hK _ hS) ?_
  clear hS
  rintro _ w ⟨n1,e1,rfl,hu,hS⟩
  refine .q 5 rfl (.nil (.seq (.seq ?_)))
  obtain ⟨t4,ht4⟩:∃ x,x=Xb [34] t3:=⟨_,rfl⟩
  rw [← ht4] at hS
  refine .t 3 rfl (.gval rfl rfl (fun hg1=>(.move (.of rfl))) rfl ?_)
  have hg9:=fun b=>Xav rb t4 [34] _ b B _ I _ hS
  refine .gcallT rfl rfl rfl X9q rfl (fun hg1=>X0 (.gd hg1 rfl) (X0 (.of rfl) X1)) rfl (hg9 _).1 (hg9 _).2 ?_
  clear hS hg9; intro w hS
  refine .gval rfl rfl (fun hg1=>(.not (.gd hg1 rfl))) rfl (.val (.por (.of rfl) (.of rfl) (.of rfl)) rfl (.nil ?_))
  refine WC.cond rfl (fun hb38=>?_) (fun hb38=>?_)
  ·
   have hc38:=hb38; try simp only [Y4] at hc38
   refine .seq (.q 2 rfl (.ret (X6f Xdr rfl rfl ?_)))
   refine ⟨_,rfl,I,none,0,0,false,_,rfl,Le.refl _,?_,(hS.drop (k:=1) rfl)⟩
   rw [hat,Xo,if_neg (by rw [hb12]; decide),← ht1,← ht2,if_neg (by rw [hq2]; decide),← ht3]
   cases hh:X27 (upto [34] t3) with
   | none=>rfl
   | some z =>
    rw [hh] at hu
    have h0:=hu.2
    subst h0
    dsimp only
    rw [← ht4,if_pos (by simpa using hb38)]
  have hc38:=hb38; try simp only [Y4] at hc38
  refine .skip ?_
  have he0:e1=0∧Xa t4 [34]=true:=by simpa using hb38
  have hk4:(!((e1:Int) != 0) && Xa t4 [34])=true:=by rw [he0.1,he0.2]; rfl
  have hp4:=X2h he0.2; simp only [List.length_cons,List.length_nil] at hp4
  unfold tkn at hS
  rw [if_pos hk4] at hS
  obtain ⟨t5,ht5⟩:∃ x,x=t4.drop 1:=⟨_,rfl⟩
  have hl5:t5.length=t4.length - 1:=by rw [ht5,Ya]
  rw [show List.drop ([34]:List UInt8).length t4=t5 from ht5.symm] at hS
  have hun:X27 (upto [34] t3)=some n1:=by
   cases hh:X27 (upto [34] t3) with
   | none=>rw [hh] at hu; have:=hu.2; omega
   | some z=>rw [hh] at hu; rw [hu.1]
  have hun1:=Xdq hun
  rw [← ht4] at hk3
  refine .t 3 rfl (.val (.build (cs:=[_,_]) (X2 (.of rfl) (X2 (.of rfl) X5)) X22 rfl) rfl (.buildSlice (cs:=[_,_]) hS (X2 (.of rfl) X5) X26 X15 X7i rfl rfl rfl rfl ?_))
  clear hS; intro b43 w hS
  first | refine WL.append (size:=2) (bytes:=32) hS (.of rfl) (.of rfl) (k:=0) rfl X26 X4s rfl rfl rfl rfl rfl rfl rfl ⟨by omega,by unfold maxLen; omega⟩ rfl ?_ | refine WL.append (size:=2) (bytes:=32) hS (.of rfl) (.of rfl) (k:=1) rfl X26 X4s rfl rfl rfl rfl rfl rfl rfl ⟨by omega,by unfold maxLen; omega⟩ rfl ?_
  clear hS; intro v44 w hS; try dsimp only [List.set] at hS
  first | obtain ⟨a44,c44,rfl,hcap44,_⟩:=hS.vecSlice (k:=0) (v:=v44) rfl | obtain ⟨a44,c44,rfl,hcap44,_⟩:=hS.vecSlice (k:=1) (v:=v44) rfl
  refine .q 1 rfl (.nil ?_)
  replace hS:=((hS.pick 1 rfl).pick 1 rfl)
  have er:X6 Xd (out ++ [(upto [61] t1,n1)])=X6 Xd out ++ [S (upto [61] t1),S n1]:=by simp [X6,Xd]
  have el:(out ++ [(upto [61] t1,n1)]).length=out.length+1:=by simp
  refine ⟨(t5,out ++ [(upto [61] t1,n1)],_),⟨rfl,rfl,trivial⟩,⟨by (try dsimp only); omega,?_,by rw [el]; (try dsimp only); omega,fun a ha=>?_,by rw [er,el]; exact hS⟩,by (try dsimp only); omega⟩
  ·rw [hat,Xo,if_neg (by rw [hb12]; decide),← ht1,← ht2,if_neg (by rw [hq2]; decide),← ht3,hun]
   dsimp only
   rw [← ht4,if_neg (by rw [he0.2]; decide),← ht5]
   exact X70 _ (by omega) (by omega)
  ·rcases Y16.1 ha with h | h
   ·exact hom a h
   ·rw [Y2j.1 h]; (try dsimp only); omega
 have hc12:=hb12; try simp only [Y4] at hc12
 refine .exit (.seq (.q 3 rfl (.ret (X6f Xdr rfl rfl ?_))))
 obtain ⟨a9,c9,rfl,hc9,_⟩:=hS.vecSlice (k:=1) rfl
 obtain ⟨J,hJ,hRS,hS⟩:=hS.freezeVec (k:=1) rfl
 refine ⟨_,rfl,J,a9,out.length,c9,true,t,rfl,hJ,?_,hS⟩
 rw [hat,Xo,if_pos hb12]
 exact ⟨rfl,rfl,rfl,hc9,hRS,hom,by omega⟩
theorem X5f {el:Int→List UInt8→Option (Nd×List UInt8×Int)} (hel:∀ l s k r l2,el l s=some (k,r,l2)→r.length<s.length):∀ (f g:Nat) (left:Int) (s:List UInt8) (out:List Nd),s.length<f→s.length<g→X1j el f left s out=X1j el g left s out
 | 0,_,_,_,_,h,_=>by omega
 | _+1,0,_,_,_,_,h=>by omega
 | f+1,g+1,left,s,out,hf,hg=>by
  rw [X1j,X1j]
  split
  ·rfl
  ·split
   ·rfl
   ·rename_i k r l he
    have:=hel _ _ _ _ _ he
    exact X5f hel f g _ _ _ (by omega) (by omega)
theorem X8j {el:Int→List UInt8→Option (Nd×List UInt8×Int)} (hel:∀ l s k r l2,0≤l→el l s=some (k,r,l2)→0≤l2∧l2≤l):∀ (f:Nat) (left:Int) (s:List UInt8) (out ks:List Nd) (r:List UInt8) (l2:Int),0≤left→X1j el f left s out=some (ks,r,l2)→0≤l2∧l2≤left
 | 0,_,_,_,_,_,_,_,h=>by cases h
 | f+1,left,s,out,ks,r,l2,h0,h=>by
  rw [X1j] at h
  split at h
  ·cases h; exact ⟨h0,Y3q _⟩
  ·split at h
   ·cases h
   ·rename_i k r1 l1 he
    have h1:=hel _ _ _ _ _ h0 he
    have h2:=X8j hel f _ _ _ _ _ _ h1.1 h
    exact ⟨h2.1,by omega⟩
theorem X8x:∀ (d:Nat) (l:Int) (s:List UInt8) (k:Nd) (r:List UInt8) (l2:Int),0≤l→X14 d l s=some (k,r,l2)→0≤l2∧l2≤l
 | 0,_,_,_,_,_,_,h=>by cases h
 | d+1,l,s,k,r,l2,h0,h=>by
  rw [X14] at h
  split at h
  ·cases h
  ·rename_i hc
   simp only [not_or] at hc
   split at h
   ·cases h
   ·split at h
    ·cases h
    ·split at h
     ·cases h
     ·split at h
      ·cases h
      ·rename_i ks q l3 hk
       split at h
       ·cases h
       ·cases h
        have:=X8j (fun l s k r l2 h0 h=>X8x d l s k r l2 h0 h) _ _ _ _ _ _ _ (by omega) hk
        exact ⟨this.1,by omega⟩
set_option maxRecDepth 4000 in
theorem X71 (d:Nat) (ih:∀ e,d=e+1→∀ (deep:Int) (t:List UInt8) (l:Int) (rb:Nat) (B w:World) (I:Im) (As:List Xe),1≤deep→deep+(e:Int)=9→t.length≤10000→0≤l→l≤1000→Kx I→Sat B w I (blk rb [S (t),I64 (l)] 171::As)→Calls Tryz.prog 104 [ptr rb 0,I64 deep].toArray w (Ret fun v w'=>∃ J s1 a1 n1 m1 s2 a2 n2 m2 ok t' l',v=.tuple #[.agg ([S s1,.slice a1 n1 m1,S s2,.slice a2 n2 m2]:List Value).toArray,.bool ok]∧Le I J∧(match X14 e l t with
   | none=>ok=false
   | some (k,r,l2)=>ok=true∧t'=r∧l'=l2∧NdV e J [S s1,.slice a1 n1 m1,S s2,.slice a2 n2 m2] k)∧Sat B w' J (blk rb [S (t'),I64 (l')] 171::As)))
  (deep:Int) (t:List UInt8) (l:Int) (rb:Nat) (B w:World) (I:Im) (As:List Xe) (hp:1≤deep) (hd:deep+(d:Int)=9) (hl0:t.length≤10000) (h0:0≤l) (h1:l≤1000) (hK:Kx I) (hS:Sat B w I (blk rb [S (t),I64 (l)] 171::As)):Calls Tryz.prog 104 [ptr rb 0,I64 deep].toArray w (Ret fun v w'=>∃ J s1 a1 n1 m1 s2 a2 n2 m2 ok t' l',v=.tuple #[.agg ([S s1,.slice a1 n1 m1,S s2,.slice a2 n2 m2]:List Value).toArray,.bool ok]∧Le I J∧(match X14 d l t with
   | none=>ok=false
   | some (k,r,l2)=>ok=true∧t'=r∧l'=l2∧NdV d J [S s1,.slice a1 n1 m1,S s2,.slice a2 n2 m2] k)∧Sat B w' J (blk rb [S (t'),I64 (l')] 171::As)):=by
 refine calls Tryz.func104 rfl Tryz.ntmps104 rfl (.seq (.region (.allocA (cs:=[_,_,_,_]) hS X33 rfl ?_)))
 clear hS; intro b4 w hS
 refine .q 1 rfl (.nil (.scope (.seq (.t 2 rfl ?_))))
 first | refine WL.val (.fieldAddr 1 (.of rfl) Xx rfl rfl Qs3 rfl) rfl ?_ | refine WL.val (.fieldAddrI 1 (.of rfl) Xx rfl rfl Qs3 rfl) rfl ?_
 first | refine WL.val (.ld (.of rfl) hS (k:=0) rfl Qg3 rfl) rfl ?_ | refine WL.val (.ld (.of rfl) hS (k:=1) rfl Qg3 rfl) rfl ?_
 refine .run 2 rfl ⟨⟨by omega,by omega⟩,trivial⟩ ?_
 first | refine WL.val (.fieldAddr 1 (.of rfl) Xx rfl rfl Qs3 rfl) rfl ?_ | refine WL.val (.fieldAddrI 1 (.of rfl) Xx rfl rfl Qs3 rfl) rfl ?_
 first | refine WL.st1 hS (k:=0) rfl (.of rfl) (.of rfl) rfl Qs3 (by simp) ?_ | refine WL.st1 hS (k:=1) rfl (.of rfl) (.of rfl) rfl Qs3 (by simp) ?_
 clear hS; intro w hS; try dsimp only [List.set] at hS
 refine .nil (.seq (.seq (.t 3 rfl (.gval rfl rfl (fun hg1=>(.move (.of rfl))) rfl (.gval rfl rfl (fun hg1=>(.nilCheck (.gd hg1 rfl))) rfl ?_)))))
 refine WL.gval rfl rfl (fun hg1=>(by first | exact .fieldAddr 1 (.gd hg1 rfl) Xx rfl rfl Qs3 rfl | exact .fieldAddrI 1 (.gd hg1 rfl) Xx rfl rfl Qs3 rfl)) rfl ?_
 refine WL.gval rfl rfl (fun hg1=>(by first | exact (.ld (.gd hg1 rfl) hS (k:=0) rfl Qg3 rfl) | exact (.ld (.gd hg1 rfl) hS (k:=1) rfl Qg3 rfl))) rfl ?_
 refine .gval rfl rfl (fun hg1=>(.lss (.gd hg1 rfl) (.of rfl))) rfl (.val (.por (.of rfl) (.of rfl) (.of rfl)) rfl (.q 1 rfl (.gval rfl rfl (fun hg1=>(.move (.of rfl))) rfl ?_)))
 replace hS:=(hS.pick 1 rfl); try dsimp only [List.eraseIdx] at hS
 have hg9:=fun b=>Xav rb t [60] _ b B _ I _ hS
 refine .gcallT rfl rfl rfl X9q rfl (fun hg1=>X0 (.gd hg1 rfl) (X0 (.of rfl) X1)) rfl (hg9 _).1 (hg9 _).2 ?_
 clear hS hg9; intro w hS
 refine .gval rfl rfl (fun hg1=>(.not (.gd hg1 rfl))) rfl (.val (.por (.of rfl) (.of rfl) (.of rfl)) rfl (.nil ?_))
 refine WC.cond rfl (fun hb32=>?_) (fun hb32=>?_)
 ·
  have hc32:=hb32; try simp only [Y4] at hc32
  refine .seq (.region (.val (.build (cs:=[_,_,_,_]) X5 Xn rfl) rfl ?_))
  first | refine WL.stA hS (k:=0) rfl (.of rfl) (.of rfl) rfl X4 rfl (by simp) ?_ | refine WL.stA hS (k:=1) rfl (.of rfl) (.of rfl) rfl X4 rfl (by simp) ?_
  clear hS; intro w hS; try dsimp only [List.set] at hS
  try simp only [Yb,Y6,Y8,Y3,Y7,Yd,Y5] at hS
  refine .q 1 rfl (.nil (.ret ?_))
  first | refine Xs (b:=_) (cs:=[_,_,_,_]) X2j hS (k:=0) rfl X8 X4 rfl rfl rfl ?_ | refine Xs (b:=_) (cs:=[_,_,_,_]) X2j hS (k:=1) rfl X8 X4 rfl rfl rfl ?_
  refine ⟨_,rfl,I,[],none,0,0,[],none,0,0,false,_,_,rfl,Le.refl _,?_,(hS.drop (k:=1) rfl)⟩
  cases d with
  | zero=>rfl
  | succ e =>
   rw [X14,if_pos]
   by_cases h1:l - 1<0
   ·exact .inl h1
   ·right
    have h2:¬ deep > 8:=by push_cast at hd; omega
    rw [decide_eq_false h1,decide_eq_false h2] at hb32
    simpa using hb32
 have hc32:=hb32; try simp only [Y4] at hc32
 refine .skip (.seq ?_)
 obtain ⟨hl1,hp1⟩:(deep≤8∧0≤l - 1)∧Xa t [60]=true:=by simpa using hb32
 have htk:(!(decide (deep > 8) || decide (l - 1<0)) && Xa t [60])=true:=by rw [hp1,decide_eq_false (by omega),decide_eq_false (by omega)]; rfl
 unfold tkn at hS
 rw [if_pos htk] at hS
 obtain ⟨e,he9⟩:∃ e,d=e+1:=⟨d - 1,by omega⟩
 subst he9
 have hp1l:=X2h hp1; simp only [List.length_cons,List.length_nil] at hp1l
 obtain ⟨t1,ht1⟩:∃ x,x=t.drop 1:=⟨_,rfl⟩
 have hl1t:t1.length=t.length - 1:=by rw [ht1,Ya]
 rw [show List.drop ([60]:List UInt8).length t=t1 from ht1.symm] at hS
 have hE1:X14 (e+1) l t=match Xo ((Xb [32,62] t1).length+1) (Xb [32,62] t1) [] with
   | none=>none
   | some (ps,r)=>if Xa r [62]=false then none else match X27 (upto [60] (r.drop 1)) with
    | none=>none
    | some z=>match X1j (X14 e) ((Xb [60] (r.drop 1)).length+1) (l - 1) (Xb [60] (r.drop 1)) [] with
     | none=>none
     | some (ks,q,l)=>if Xa q (60::47::upto [32,62] t1 ++ [62])=false then none else some (.mk (upto [32,62] t1) ps z ks,q.drop ((upto [32,62] t1).length+3),l):=by
  rw [X14,if_neg (by rintro (h | h) <;> first | omega | (rw [hp1] at h; cases h)),← ht1]
  rfl
 have hk1:=X11 [32,62] t1
 refine .t 1 rfl (.call Xah rfl (X0 (.of rfl) (X0 (.of rfl) X1)) rfl (xword2 rb t1 (by omega) (l - 1) B _ I _ hS) ?_)
 clear hS
 rintro _ w ⟨rfl,hS⟩
 try dsimp only [List.eraseIdx] at hS
 refine .val (.build (cs:=[_,_,_,_]) (X2 (.of rfl) X5) Xn rfl) rfl (.allocA (cs:=[_,_,_,_]) hS X33 rfl ?_)
 clear hS; intro b6 w hS
 first | refine WL.stA hS (k:=0) rfl (.of rfl) (.of rfl) rfl X4 rfl (by simp) ?_ | refine WL.stA hS (k:=1) rfl (.of rfl) (.of rfl) rfl X4 rfl (by simp) ?_ | refine WL.stA hS (k:=2) rfl (.of rfl) (.of rfl) rfl X4 rfl (by simp) ?_
 clear hS; intro w hS; try dsimp only [List.set] at hS
 try simp only [Yb,Y6,Y8,Y3,Y7,Yd,Y5] at hS
 refine .nil (.seq ?_)
 obtain ⟨t2,ht2⟩:∃ x,x=Xb [32,62] t1:=⟨_,rfl⟩
 obtain ⟨nm,hnm⟩:∃ x,x=upto [32,62] t1:=⟨_,rfl⟩
 rw [← ht2,← hnm] at hS hE1 hk1
 refine .q 1 rfl (.seq (.seq (.t 1 rfl (.call Tryz.func146 rfl (X0 (.of rfl) X1) rfl (X7t rb t2 (by omega) (l - 1) B _ I hK _ (hS.pick 1 rfl)) ?_))))
 clear hS
 rintro _ w ⟨J,aa,m,c,ok,t3,rfl,hJ,hA,hS⟩
 try dsimp only [List.eraseIdx] at hS
 have hA2:(Xo (t2.length+1) t2 []=none∧ok=false)∨∃ ps,Xo (t2.length+1) t2 []=some (ps,t3)∧ok=true∧m=ps.length∧m≤c∧RS J aa 2 m (X6 Xd ps)∧(∀ a∈ps,a.1.length≤t2.length∧a.2.length≤t2.length)∧ps.length≤t2.length:=by
  cases h:Xo (t2.length+1) t2 [] with
  | none=>rw [h] at hA; exact .inl ⟨rfl,hA⟩
  | some x =>
   obtain ⟨ps,r⟩:=x
   rw [h] at hA
   obtain ⟨h1,h2,h3⟩:=hA
   subst h2
   exact .inr ⟨ps,rfl,h1,h3⟩
 refine .q 3 rfl ?_
 first | refine WL.val (.fieldAddr 1 (.of rfl) Xl rfl rfl X3n rfl) rfl ?_ | refine WL.val (.fieldAddrI 1 (.of rfl) Xl rfl rfl X3n rfl) rfl ?_
 first | refine WL.st1 hS (k:=0) rfl (.of rfl) (.of rfl) rfl X3n (by simp) ?_ | refine WL.st1 hS (k:=1) rfl (.of rfl) (.of rfl) rfl X3n (by simp) ?_ | refine WL.st1 hS (k:=2) rfl (.of rfl) (.of rfl) rfl X3n (by simp) ?_
 clear hS; intro w hS; try dsimp only [List.set] at hS
 refine .q 1 rfl (.nil (.seq (.t 3 rfl (.gval rfl rfl (fun hg1=>(.move (.of rfl))) rfl ?_))))
 have hg9:=fun b=>Xav rb t3 [62] _ b B _ J _ hS
 refine .gcallT rfl rfl rfl X9q rfl (fun hg1=>X0 (.gd hg1 rfl) (X0 (.of rfl) X1)) rfl (hg9 _).1 (hg9 _).2 ?_
 clear hS hg9; intro w hS
 refine .gval rfl rfl (fun hg1=>(.not (.gd hg1 rfl))) rfl (.val (.por (.of rfl) (.of rfl) (.of rfl)) rfl (.nil ?_))
 refine WC.cond rfl (fun hb49=>?_) (fun hb49=>?_)
 ·
  have hc49:=hb49; try simp only [Y4] at hc49
  refine .seq (.region (.val (.build (cs:=[_,_,_,_]) X5 Xn rfl) rfl ?_))
  first | refine WL.stA hS (k:=0) rfl (.of rfl) (.of rfl) rfl X4 rfl (by simp) ?_ | refine WL.stA hS (k:=1) rfl (.of rfl) (.of rfl) rfl X4 rfl (by simp) ?_ | refine WL.stA hS (k:=2) rfl (.of rfl) (.of rfl) rfl X4 rfl (by simp) ?_
  clear hS; intro w hS; try dsimp only [List.set] at hS
  try simp only [Yb,Y6,Y8,Y3,Y7,Yd,Y5] at hS
  refine .q 1 rfl (.nil (.ret ?_))
  first | refine Xs (b:=_) (cs:=[_,_,_,_]) X2j hS (k:=0) rfl X8 X4 rfl rfl rfl ?_ | refine Xs (b:=_) (cs:=[_,_,_,_]) X2j hS (k:=1) rfl X8 X4 rfl rfl rfl ?_ | refine Xs (b:=_) (cs:=[_,_,_,_]) X2j hS (k:=2) rfl X8 X4 rfl rfl rfl ?_
  refine ⟨_,rfl,J,[],none,0,0,[],none,0,0,false,_,_,rfl,hJ,?_,((hS.drop (k:=1) rfl).drop (k:=1) rfl)⟩
  rw [hE1]
  rcases hA2 with ⟨h,_⟩ | ⟨ps,h1,h2,_⟩
  ·rw [h]
  ·rw [h1]
   dsimp only
   rw [if_pos (by rw [h2] at hb49; simpa using hb49)]
 have hc49:=hb49; try simp only [Y4] at hc49
 refine .skip (.seq ?_)
 obtain ⟨hok9,hp3⟩:ok=true∧Xa t3 [62]=true:=by simpa using hb49
 have htk3:(!(!ok) && Xa t3 [62])=true:=by rw [hok9,hp3]; rfl
 unfold tkn at hS
 rw [if_pos htk3] at hS
 obtain ⟨ps,hAF,hmp,hmc,hRS,hps,hpl⟩:∃ ps,Xo (t2.length+1) t2 []=some (ps,t3)∧m=ps.length∧m≤c∧RS J aa 2 m (X6 Xd ps)∧(∀ a∈ps,a.1.length≤t2.length∧a.2.length≤t2.length)∧ps.length≤t2.length:=by
  rcases hA2 with ⟨_,h⟩ | ⟨ps,h1,h2,h3⟩
  ·rw [h] at hok9; cases hok9
  ·exact ⟨ps,h1,h3⟩
 have hl3:=X3o _ _ _ _ _ hAF
 have hp3l:=X2h hp3; simp only [List.length_cons,List.length_nil] at hp3l
 obtain ⟨t4,ht4⟩:∃ x,x=t3.drop 1:=⟨_,rfl⟩
 have hl4:t4.length=t3.length - 1:=by rw [ht4,Ya]
 rw [show List.drop ([62]:List UInt8).length t3=t4 from ht4.symm] at hS
 rw [hAF] at hE1
 dsimp only at hE1
 rw [if_neg (by rw [hp3]; decide),← ht4] at hE1
 have hk4:=X11 [60] t4
 have hKJ:=hK.mono hJ
 refine .t 1 rfl (.call Xah rfl (X0 (.of rfl) (X0 (.of rfl) X1)) rfl (Xaq rb t4 60 (by decide) (by omega) (l - 1) B _ J _ hS) ?_)
 clear hS
 rintro _ w ⟨rfl,hS⟩
 try dsimp only [List.eraseIdx] at hS
 refine .call Tryz.func147 rfl (X0 (.of rfl) X1) rfl (X3e (upto [60] t4) (by omega) B _ J hKJ _ hS) ?_
 clear hS
 rintro _ w ⟨n1,e1,rfl,hu,hS⟩
 refine .q 5 rfl (.nil (.seq (.seq (.q 2 rfl ?_))))
 refine WC.cond rfl (fun hb58=>?_) (fun hb58=>?_)
 ·
  have hc58:=hb58; try simp only [Y4] at hc58
  refine .seq (.region (.val (.build (cs:=[_,_,_,_]) X5 Xn rfl) rfl ?_))
  first | refine WL.stA hS (k:=0) rfl (.of rfl) (.of rfl) rfl X4 rfl (by simp) ?_ | refine WL.stA hS (k:=1) rfl (.of rfl) (.of rfl) rfl X4 rfl (by simp) ?_ | refine WL.stA hS (k:=2) rfl (.of rfl) (.of rfl) rfl X4 rfl (by simp) ?_
  clear hS; intro w hS; try dsimp only [List.set] at hS
  try simp only [Yb,Y6,Y8,Y3,Y7,Yd,Y5] at hS
  refine .q 1 rfl (.nil (.ret ?_))
  first | refine Xs (b:=_) (cs:=[_,_,_,_]) X2j hS (k:=0) rfl X8 X4 rfl rfl rfl ?_ | refine Xs (b:=_) (cs:=[_,_,_,_]) X2j hS (k:=1) rfl X8 X4 rfl rfl rfl ?_ | refine Xs (b:=_) (cs:=[_,_,_,_]) X2j hS (k:=2) rfl X8 X4 rfl rfl rfl ?_
  refine ⟨_,rfl,J,[],none,0,0,[],none,0,0,false,_,_,rfl,hJ,?_,((hS.drop (k:=1) rfl).drop (k:=1) rfl)⟩
  rw [hE1]
  cases hh:X27 (upto [60] t4) with
  | none=>rfl
  | some z=>rw [hh] at hu; have:=hu.2; have:=hc58; omega
 have hc58:=hb58; try simp only [Y4] at hc58
 refine .skip (.seq ?_)
 have he0:e1=0:=by have:=hc58; omega
 have hun:X27 (upto [60] t4)=some n1:=by
  cases hh:X27 (upto [60] t4) with
  | none=>rw [hh] at hu; have:=hu.2; omega
  | some z=>rw [hh] at hu; rw [hu.1]
 have hun1:=Xdq hun
 rw [hun] at hE1
 dsimp only at hE1
 obtain ⟨t5,ht5⟩:∃ x,x=Xb [60] t4:=⟨_,rfl⟩
 rw [← ht5] at hS hE1 hk4
 refine .t 1 rfl ?_
 first | refine WL.val (.fieldAddr 2 (.of rfl) Xl rfl rfl Qs9 rfl) rfl ?_ | refine WL.val (.fieldAddrI 2 (.of rfl) Xl rfl rfl Qs9 rfl) rfl ?_
 first | refine WL.st1 hS (k:=0) rfl (.of rfl) (.of rfl) rfl Qs9 (by simp) ?_ | refine WL.st1 hS (k:=1) rfl (.of rfl) (.of rfl) rfl Qs9 (by simp) ?_ | refine WL.st1 hS (k:=2) rfl (.of rfl) (.of rfl) rfl Qs9 (by simp) ?_
 clear hS; intro w hS; try dsimp only [List.set] at hS
 refine .nil (.seq (.label (.seq (.block ?_))))
 have hS0:=((hS.vecNil 126 4).pick 2 rfl).pick 2 rfl; clear hS; try dsimp only [List.eraseIdx] at hS0
 refine .loop (σ:=List UInt8×Int×List Nd×List (List Value)×Value×Im) (fun ⟨tq,lq,ks,xs,v,M⟩=>[(0,ptr rb 0),(1,I64 deep),(4,ptr b4 0),(6,ptr b6 0)]) (fun ⟨tq,lq,ks,xs,v,M⟩ w=>tq.length≤t5.length∧0≤lq∧lq≤1000∧X1j (X14 e) (t5.length+1) (l - 1) t5 []=X1j (X14 e) (tq.length+1) lq tq ks∧Le J M∧xs.length=ks.length∧(∀ x∈xs,x.length=4)∧(∀ (i:Nat) x k,xs[i]?=some x→ks[i]?=some k→NdV e M x k)∧ks.length+tq.length≤t5.length∧Sat B w M (blk rb [S (tq),I64 (lq)] 171::blk b6 [S nm,.slice aa m c,S n1,v] 126::Vec 126 4 v xs.length xs.flatten::blk b4 [S [],.slice none 0 0,S [],.slice none 0 0] 126::As)) (fun ⟨tq,lq,ks,xs,v,M⟩=>tq.length) (t5,l - 1,[],[],.slice none 0 0,J) ⟨rfl,rfl,rfl,rfl,trivial⟩ ⟨Yi _,by omega,by omega,rfl,Le.refl _,rfl,by simp,by simp,by simp,hS0⟩ ?_
 rintro ⟨tq,lq,ks,xs,v,M⟩ w ⟨htq,h0q,h1q,hkf,hJM,hxk,hx4,hNd,hkl,hS⟩
 change WC _ _ _ _ [(0,ptr rb 0),(1,I64 deep),(4,ptr b4 0),(6,ptr b6 0)] w
 clear hS0
 refine .block (.seq (.seq (.t 2 rfl ?_)))
 first | refine WL.val (.fieldAddr 0 (.of rfl) Xx rfl rfl Qs9 rfl) rfl ?_ | refine WL.val (.fieldAddrI 0 (.of rfl) Xx rfl rfl Qs9 rfl) rfl ?_
 first | refine WL.val (.ld (.of rfl) hS (k:=0) rfl Qg9 rfl) rfl ?_ | refine WL.val (.ld (.of rfl) hS (k:=1) rfl Qg9 rfl) rfl ?_ | refine WL.val (.ld (.of rfl) hS (k:=2) rfl Qg9 rfl) rfl ?_ | refine WL.val (.ld (.of rfl) hS (k:=3) rfl Qg9 rfl) rfl ?_
 refine .call Xd0 rfl (X0 (.of rfl) (X0 (.of rfl) X1)) rfl (X24 tq [60,47] _ (by omega) (by decide)) ?_
 rintro _ _ ⟨rfl,rfl⟩
 refine .nil ?_
 refine WC.cond rfl (fun hb66=>?_) (fun hb66=>?_)
 ·
  have hc66:=hb66; try simp only [Y4] at hc66
  refine .exit (.seq ?_)
  obtain ⟨ka,kc,rfl,hkc,_⟩:=hS.vecSlice (k:=2) rfl
  refine .drawn (fun w=>∃ R,Sat B w M (blk b6 [S nm,.slice aa m c,S n1,.slice ka xs.length kc] 126::R)) (fun j=>!([].contains j)) (by kernel_rfl) ?_
  replace hS:=hS.drew; generalize w.drew=w at hS ⊢
  have hH:∃ R,Sat B w M (blk b6 [S nm,.slice aa m c,S n1,.slice ka xs.length kc] 126::R):=⟨_,(hS.pick 1 rfl)⟩
  refine WD.tk (i:=0) rfl (by kernel_rfl) hH (fun w ⟨R,hS⟩=>(by first | exact (.ldsW (cs:=[_,_,_,_]) (.of rfl) hS (k:=0) rfl X8 X4 rfl) | exact (.lds (vs:=[_,_,_,_]) (.of rfl) hS (k:=0) rfl X8 X4 rfl (fun _ _ h=>h)))) rfl ?_
  refine .tp (i:=1) rfl (by kernel_rfl) (fun w=>(.move (.of rfl))) rfl ?_
  refine WD.tp (i:=2) rfl (by kernel_rfl) (fun w=>(by first | exact .fieldAddr 0 (.of rfl) Xl rfl rfl Qs9 rfl | exact .fieldAddrI 0 (.of rfl) Xl rfl rfl Qs9 rfl)) rfl ?_
  refine .tk (i:=3) rfl (by kernel_rfl) hH (fun w ⟨R,hS⟩=>(.ld (.of rfl) hS (k:=0) rfl Qg9 rfl)) rfl ?_
  refine WD.tp (i:=4) rfl (by kernel_rfl) (fun w=>(.cat (.of rfl) (.of rfl) (by (try simp only [Y2,List.length_cons,List.length_nil]); omega))) rfl ?_
  refine WD.tp (i:=5) rfl (by kernel_rfl) (fun w=>(.cat (.of rfl) (.of rfl) (by (try simp only [Y2,List.length_cons,List.length_nil]); omega))) rfl ?_
  refine WD.branch [6] (by kernel_rfl) rfl (WO.cons rfl ?_ (WO.nil))
  refine .call X9q rfl (X0 (.of rfl) (X0 (.of rfl) X1)) rfl (X4x rb tq (([60,47] ++ nm) ++ [62]) lq B _ M _ hS) ?_
  clear hS
  rintro _ w ⟨rfl,hS⟩
  try dsimp only [List.eraseIdx] at hS
  refine .nil ?_
  clear hH
  have hH:∃ R,Sat B w M (blk b6 [S nm,.slice aa m c,S n1,.slice ka xs.length kc] 126::R):=⟨_,(hS.pick 1 rfl)⟩
  refine And.intro (by intro _ _; exact hH) ?_
  refine WD.branch [7] (by kernel_rfl) rfl (WO.cons rfl ?_ (WO.nil))
  first | refine WL.stA hS (k:=0) rfl (.of rfl) (.of rfl) rfl X4 rfl (by simp) ?_ | refine WL.stA hS (k:=1) rfl (.of rfl) (.of rfl) rfl X4 rfl (by simp) ?_ | refine WL.stA hS (k:=2) rfl (.of rfl) (.of rfl) rfl X4 rfl (by simp) ?_ | refine WL.stA hS (k:=3) rfl (.of rfl) (.of rfl) rfl X4 rfl (by simp) ?_
  clear hS; intro w hS; try dsimp only [List.set] at hS
  try simp only [Yb,Y6,Y8,Y3,Y7,Yd,Y5] at hS
  refine .nil ?_
  clear hH
  have hH:∃ R,Sat B w M (blk b6 [S nm,.slice aa m c,S n1,.slice ka xs.length kc] 126::R):=⟨_,(hS.pick 1 rfl)⟩
  refine And.intro (by intro _ _; exact hH) ?_
  refine .tp (i:=8) rfl (by kernel_rfl) (fun w=>(.assign (.of rfl))) rfl (.done (by kernel_rfl) (.ret ?_))
  first | refine Xs (b:=_) (cs:=[_,_,_,_]) X2j hS (k:=0) rfl X8 X4 rfl rfl rfl ?_ | refine Xs (b:=_) (cs:=[_,_,_,_]) X2j hS (k:=1) rfl X8 X4 rfl rfl rfl ?_ | refine Xs (b:=_) (cs:=[_,_,_,_]) X2j hS (k:=2) rfl X8 X4 rfl rfl rfl ?_ | refine Xs (b:=_) (cs:=[_,_,_,_]) X2j hS (k:=3) rfl X8 X4 rfl rfl rfl ?_
  have hS9:=((((hS.pick 2 rfl).pick 1 rfl).drop (k:=2) rfl).drop (k:=2) rfl)
  obtain ⟨M3,hM3,hRk,hS9⟩:=hS9.freezeVec (k:=1) rfl
  have hkq:X1j (X14 e) (tq.length+1) lq tq ks=some (ks,tq,lq):=by rw [X1j,if_pos hb66]
  rw [hkf,hkq] at hE1
  dsimp only at hE1
  have hnl:nm.length≤10000:=by omega
  refine ⟨_,rfl,M3,nm,aa,m,c,n1,ka,xs.length,kc,_,_,_,rfl,hJ.trans (hJM.trans hM3),?_,hS9⟩
  rw [hE1]
  rw [show (([60,47]:List UInt8) ++ nm ++ [62])=60::47::nm ++ [62] from rfl]
  cases hpq:Xa tq (60::47::nm ++ [62]) with
  | false=>rfl
  | true =>
   refine ⟨rfl,?_,rfl,?_⟩
   ·rw [if_pos rfl]; congr 1; simp only [List.length_cons,Y2,List.length_nil]
   ·refine ⟨hnl,by (try dsimp only [Nd.text]); show n1.length≤10000; omega,by show ps.length≤10000; omega,by show ks.length≤10000; omega,fun a ha=>by have:=hps a ha; omega,aa,c,ka,kc,xs,?_,?_,?_,?_,?_,hxk,hx4,fun i x k hx hk=>(hNd i x k hx hk).mono hM3⟩
    ·show [S nm,.slice aa m c,S n1,.slice ka xs.length kc]=[S nm,.slice aa ps.length c,S n1,.slice ka ks.length kc]
     rw [hmp,hxk]
    ·show ps.length≤c; omega
    ·show ks.length≤kc; omega
    ·have:=(hRS.mono hJM).mono hM3; rw [hmp] at this; exact this
    ·rw [hxk] at hRk; exact hRk
 have hc66:=hb66; try simp only [Y4] at hc66
 refine .skip (.seq (.region (.run 3 rfl ⟨⟨by omega,by omega⟩,trivial⟩ ?_)))
 refine WL.call Tryz.func104 rfl (X0 (.of rfl) (X0 (.of rfl) X1)) rfl (ih e rfl (deep+1) tq lq rb B _ M _ (by omega) (by push_cast at hd; omega) (by omega) h0q h1q (hK.mono (hJ.trans hJM)) hS) ?_
 clear hS
 rintro _ w ⟨M2,s1,a1,n1,m1,s2,a2,n2,m2,ok2,t7,l7,rfl,hM2,hE,hS⟩
 try dsimp only [List.eraseIdx] at hS
 refine .q 3 rfl (.allocA (cs:=[_,_,_,_]) hS X33 rfl ?_)
 clear hS; intro b10 w hS
 first | refine WL.stA hS (k:=0) rfl (.of rfl) (.of rfl) rfl X4 rfl (by simp) ?_ | refine WL.stA hS (k:=1) rfl (.of rfl) (.of rfl) rfl X4 rfl (by simp) ?_ | refine WL.stA hS (k:=2) rfl (.of rfl) (.of rfl) rfl X4 rfl (by simp) ?_ | refine WL.stA hS (k:=3) rfl (.of rfl) (.of rfl) rfl X4 rfl (by simp) ?_ | refine WL.stA hS (k:=4) rfl (.of rfl) (.of rfl) rfl X4 rfl (by simp) ?_
 clear hS; intro w hS; try dsimp only [List.set] at hS
 try simp only [Yb,Y6,Y8,Y3,Y7,Yd,Y5] at hS
 refine .q 1 rfl (.nil (.seq (.seq (.q 2 rfl ?_))))
 refine WC.cond rfl (fun hb75=>?_) (fun hb75=>?_)
 ·
  have hc75:=hb75; try simp only [Y4] at hc75
  refine .seq (.region (.val (.build (cs:=[_,_,_,_]) X5 Xn rfl) rfl ?_))
  first | refine WL.stA hS (k:=0) rfl (.of rfl) (.of rfl) rfl X4 rfl (by simp) ?_ | refine WL.stA hS (k:=1) rfl (.of rfl) (.of rfl) rfl X4 rfl (by simp) ?_ | refine WL.stA hS (k:=2) rfl (.of rfl) (.of rfl) rfl X4 rfl (by simp) ?_ | refine WL.stA hS (k:=3) rfl (.of rfl) (.of rfl) rfl X4 rfl (by simp) ?_ | refine WL.stA hS (k:=4) rfl (.of rfl) (.of rfl) rfl X4 rfl (by simp) ?_
  clear hS; intro w hS; try dsimp only [List.set] at hS
  try simp only [Yb,Y6,Y8,Y3,Y7,Yd,Y5] at hS
  refine .q 1 rfl (.nil (.ret ?_))
  first | refine Xs (b:=_) (cs:=[_,_,_,_]) X2j hS (k:=0) rfl X8 X4 rfl rfl rfl ?_ | refine Xs (b:=_) (cs:=[_,_,_,_]) X2j hS (k:=1) rfl X8 X4 rfl rfl rfl ?_ | refine Xs (b:=_) (cs:=[_,_,_,_]) X2j hS (k:=2) rfl X8 X4 rfl rfl rfl ?_ | refine Xs (b:=_) (cs:=[_,_,_,_]) X2j hS (k:=3) rfl X8 X4 rfl rfl rfl ?_ | refine Xs (b:=_) (cs:=[_,_,_,_]) X2j hS (k:=4) rfl X8 X4 rfl rfl rfl ?_
  refine ⟨_,rfl,M2,[],none,0,0,[],none,0,0,false,_,_,rfl,hJ.trans (hJM.trans hM2),?_,(((((hS.pick 1 rfl).drop (k:=1) rfl).drop (k:=1) rfl).drop (k:=1) rfl).drop (k:=1) rfl)⟩
  have hks:X1j (X14 e) (t5.length+1) (l - 1) t5 []=none:=by
   rw [hkf,X1j,if_neg (by rw [hb66]; decide)]
   cases hh:X14 e lq tq with
   | none=>rfl
   | some x=>obtain ⟨k,r,z⟩:=x; rw [hh] at hE; rw [hE.1] at hb75; cases hb75
  rw [hE1,hks]
 have hc75:=hb75; try simp only [Y4] at hc75
 refine .skip ?_
 have hok5:ok2=true:=by simpa using hb75
 obtain ⟨k,hEk,hNk⟩:∃ k,X14 e lq tq=some (k,t7,l7)∧NdV e M2 [S s1,.slice a1 n1 m1,S s2,.slice a2 n2 m2] k:=by
  cases hh:X14 e lq tq with
  | none=>rw [hh] at hE; rw [hE] at hok5; cases hok5
  | some x =>
   obtain ⟨k,r,z⟩:=x
   rw [hh] at hE
   obtain ⟨_,h2,h3,h4⟩:=hE
   subst h2; subst h3
   exact ⟨k,rfl,h4⟩
 have hshort:=X4w _ _ _ _ _ _ hEk
 have hlow:=X8x _ _ _ _ _ _ h0q hEk
 refine .region ?_
 first | refine WL.val (.fieldAddr 3 (.of rfl) Xl rfl rfl X25 rfl) rfl ?_ | refine WL.val (.fieldAddrI 3 (.of rfl) Xl rfl rfl X25 rfl) rfl ?_
 first | refine WL.val (.ld (.of rfl) hS (k:=0) rfl X1q rfl) rfl ?_ | refine WL.val (.ld (.of rfl) hS (k:=1) rfl X1q rfl) rfl ?_ | refine WL.val (.ld (.of rfl) hS (k:=2) rfl X1q rfl) rfl ?_ | refine WL.val (.ld (.of rfl) hS (k:=3) rfl X1q rfl) rfl ?_ | refine WL.val (.ld (.of rfl) hS (k:=4) rfl X1q rfl) rfl ?_
 first | refine WL.val (.ldsW (cs:=[_,_,_,_]) (.of rfl) hS (k:=0) rfl X8 X4 rfl) rfl ?_ | refine WL.val (.lds (vs:=[_,_,_,_]) (.of rfl) hS (k:=0) rfl X8 X4 rfl (fun _ _ h=>h)) rfl ?_ | refine WL.val (.ldsW (cs:=[_,_,_,_]) (.of rfl) hS (k:=1) rfl X8 X4 rfl) rfl ?_ | refine WL.val (.lds (vs:=[_,_,_,_]) (.of rfl) hS (k:=1) rfl X8 X4 rfl (fun _ _ h=>h)) rfl ?_ | refine WL.val (.ldsW (cs:=[_,_,_,_]) (.of rfl) hS (k:=2) rfl X8 X4 rfl) rfl ?_ | refine WL.val (.lds (vs:=[_,_,_,_]) (.of rfl) hS (k:=2) rfl X8 X4 rfl (fun _ _ h=>h)) rfl ?_ | refine WL.val (.ldsW (cs:=[_,_,_,_]) (.of rfl) hS (k:=3) rfl X8 X4 rfl) rfl ?_ | refine WL.val (.lds (vs:=[_,_,_,_]) (.of rfl) hS (k:=3) rfl X8 X4 rfl (fun _ _ h=>h)) rfl ?_ | refine WL.val (.ldsW (cs:=[_,_,_,_]) (.of rfl) hS (k:=4) rfl X8 X4 rfl) rfl ?_ | refine WL.val (.lds (vs:=[_,_,_,_]) (.of rfl) hS (k:=4) rfl X8 X4 rfl (fun _ _ h=>h)) rfl ?_
 refine .buildSlice (cs:=[_,_,_,_]) hS (X2 (.of rfl) X5) X1t X4 X33 rfl rfl rfl rfl ?_
 clear hS; intro b80 w hS
 first | refine WL.append (size:=4) (bytes:=80) hS (.of rfl) (.of rfl) (k:=0) rfl X1t X1i rfl rfl rfl rfl rfl rfl rfl ⟨by omega,by unfold maxLen; omega⟩ rfl ?_ | refine WL.append (size:=4) (bytes:=80) hS (.of rfl) (.of rfl) (k:=1) rfl X1t X1i rfl rfl rfl rfl rfl rfl rfl ⟨by omega,by unfold maxLen; omega⟩ rfl ?_ | refine WL.append (size:=4) (bytes:=80) hS (.of rfl) (.of rfl) (k:=2) rfl X1t X1i rfl rfl rfl rfl rfl rfl rfl ⟨by omega,by unfold maxLen; omega⟩ rfl ?_ | refine WL.append (size:=4) (bytes:=80) hS (.of rfl) (.of rfl) (k:=3) rfl X1t X1i rfl rfl rfl rfl rfl rfl rfl ⟨by omega,by unfold maxLen; omega⟩ rfl ?_ | refine WL.append (size:=4) (bytes:=80) hS (.of rfl) (.of rfl) (k:=4) rfl X1t X1i rfl rfl rfl rfl rfl rfl rfl ⟨by omega,by unfold maxLen; omega⟩ rfl ?_
 clear hS; intro v81 w hS; try dsimp only [List.set] at hS
 first | obtain ⟨a81,c81,rfl,hcap81,_⟩:=hS.vecSlice (k:=0) (v:=v81) rfl | obtain ⟨a81,c81,rfl,hcap81,_⟩:=hS.vecSlice (k:=1) (v:=v81) rfl | obtain ⟨a81,c81,rfl,hcap81,_⟩:=hS.vecSlice (k:=2) (v:=v81) rfl | obtain ⟨a81,c81,rfl,hcap81,_⟩:=hS.vecSlice (k:=3) (v:=v81) rfl | obtain ⟨a81,c81,rfl,hcap81,_⟩:=hS.vecSlice (k:=4) (v:=v81) rfl
 first | refine WL.val (.fieldAddr 3 (.of rfl) Xl rfl rfl X25 rfl) rfl ?_ | refine WL.val (.fieldAddrI 3 (.of rfl) Xl rfl rfl X25 rfl) rfl ?_
 first | refine WL.st1 hS (k:=0) rfl (.of rfl) (.of rfl) rfl X25 (by simp) ?_ | refine WL.st1 hS (k:=1) rfl (.of rfl) (.of rfl) rfl X25 (by simp) ?_ | refine WL.st1 hS (k:=2) rfl (.of rfl) (.of rfl) rfl X25 (by simp) ?_ | refine WL.st1 hS (k:=3) rfl (.of rfl) (.of rfl) rfl X25 (by simp) ?_ | refine WL.st1 hS (k:=4) rfl (.of rfl) (.of rfl) rfl X25 (by simp) ?_
 clear hS; intro w hS; try dsimp only [List.set] at hS
 refine .nil ?_
 replace hS:=(((((hS.pick 4 rfl).pick 4 rfl).pick 4 rfl).pick 4 rfl).drop (k:=4) rfl)
 have hxl9:(xs ++ [[S s1,.slice a1 n1 m1,S s2,.slice a2 n2 m2]]).length=xs.length+1:=by simp
 have hxf9:(xs ++ [[S s1,.slice a1 n1 m1,S s2,.slice a2 n2 m2]]).flatten=xs.flatten ++ [S s1,.slice a1 n1 m1,S s2,.slice a2 n2 m2]:=by simp
 refine ⟨(t7,l7,ks ++ [k],xs ++ [[S s1,.slice a1 n1 m1,S s2,.slice a2 n2 m2]],_,M2),⟨rfl,rfl,rfl,rfl,trivial⟩,⟨by (try dsimp only); omega,by (try dsimp only); omega,by (try dsimp only); omega,?_,hJM.trans hM2,by simp [hxk],fun x hx=>?_,fun i x k2 hx hk=>?_,by rw [Y2]; (try dsimp only [List.length_cons,List.length_nil]); omega,by rw [hxl9,hxf9]; exact hS⟩,by (try dsimp only); omega⟩
 ·rw [hkf,X1j,if_neg (by rw [hb66]; decide),hEk]
  exact X5f (fun l s k r l2 h=>X4w _ _ _ _ _ _ h) _ _ _ _ _ (by omega) (by omega)
 ·rcases Y16.1 hx with h | h
  ·exact hx4 x h
  ·rw [Y2j.1 h]; rfl
 ·rcases Yl i xs.length with h | h
  ·rw [Ym h] at hx
   rw [Ym (by omega)] at hk
   exact (hNd i x k2 hx hk).mono hM2
  ·have hi:i=xs.length:=by have:=(Y0.1 hx).1; rw [hxl9] at this; omega
   subst hi
   rw [Yx (Yi _),Y3m] at hx
   rw [hxk,Yx (Yi _),Y3m] at hk
   cases hx; cases hk
   exact hNk
theorem X6v:∀ (d:Nat) (deep:Int) (t:List UInt8) (l:Int) (rb:Nat) (B w:World) (I:Im) (As:List Xe),1≤deep→deep+(d:Int)=9→t.length≤10000→0≤l→l≤1000→Kx I→Sat B w I (blk rb [S (t),I64 (l)] 171::As)→Calls Tryz.prog 104 [ptr rb 0,I64 deep].toArray w (Ret fun v w'=>∃ J s1 a1 n1 m1 s2 a2 n2 m2 ok t' l',v=.tuple #[.agg ([S s1,.slice a1 n1 m1,S s2,.slice a2 n2 m2]:List Value).toArray,.bool ok]∧Le I J∧(match X14 d l t with
   | none=>ok=false
   | some (k,r,l2)=>ok=true∧t'=r∧l'=l2∧NdV d J [S s1,.slice a1 n1 m1,S s2,.slice a2 n2 m2] k)∧Sat B w' J (blk rb [S (t'),I64 (l')] 171::As)):=by
 intro d
 induction d with
 | zero=>exact fun deep t l rb B w I As=>X71 0 (fun e he=>by omega) deep t l rb B w I As
 | succ d ih=>exact fun deep t l rb B w I As=>X71 (d+1) (fun e he=>by have:e=d:=(by omega); subst this; exact ih) deep t l rb B w I As
theorem X9f:Bld Tryz.prog 171 [(0,1),(1,1)] [S [],.int .i64 0]:=X4d Xx Tryz.zeroValue171 (fun w=>by simp [go_sem])
theorem nd0_V (I:Im) (d:Nat):NdV (d+1) I [S [],.slice none 0 0,S [],.slice none 0 0] nd0:=by
 refine ⟨by decide,by decide,by decide,by decide,fun a h=>by simp [nd0,Nd.attrs] at h,none,0,none,0,[],rfl,Yi _,Yi _,RS.nil I 2,RS.nil I 4,rfl,fun x h=>by simp at h,fun i x k h _=>by simp at h⟩
set_option maxRecDepth 4000 in
theorem Xan (s:List UInt8) (hl:s.length≤10000) (B w:World) (I:Im) (hK:Kx I) (As:List Xe) (hS:Sat B w I As) :
  Calls Tryz.prog 63 [S s].toArray w (Ret fun v w'=>∃ J s1 a1 n1 m1 s2 a2 n2 m2 e nd,v=.tuple #[.agg ([S s1,.slice a1 n1 m1,S s2,.slice a2 n2 m2]:List Value).toArray,I64 (e:Nat)]∧Le I J∧NdV 8 J [S s1,.slice a1 n1 m1,S s2,.slice a2 n2 m2] nd∧(X7y s=none∧e=10∧nd=nd0∨X7y s=some nd∧e=0)∧Sat B w' J As):=by
 refine calls Tryz.func63 rfl Tryz.ntmps63 rfl (.seq (.region (.allocA (cs:=[_,_,_,_]) hS X33 rfl ?_)))
 clear hS; intro b2 w hS
 refine .q 1 rfl (.nil (.seq (.t 1 rfl (.val (.build (cs:=[_,_]) (X2 (.of rfl) (X2 (.of rfl) X5)) X9f rfl) rfl (.boxA (cs:=[_,_]) hS (.of rfl) rfl ?_)))))
 clear hS; intro b9 w hS
 refine .q 1 rfl (.nil (.seq (.t 1 rfl (.call Tryz.func104 rfl (X0 (.of rfl) (X0 (.of rfl) X1)) rfl (X6v 8 1 s 200 b9 B _ I _ (by decide) (by decide) hl (by decide) (by decide) hK hS) ?_))))
 clear hS
 rintro _ w ⟨J,s1,a1,n1,m1,s2,a2,n2,m2,ok,t7,l7,rfl,hJ,hE,hS⟩
 try dsimp only [List.eraseIdx] at hS
 have hE2:∃ k,(X14 8 200 s=none∧ok=false)∨(X14 8 200 s=some (k,t7,l7)∧ok=true∧NdV 8 J [S s1,.slice a1 n1 m1,S s2,.slice a2 n2 m2] k):=by
  cases h:X14 8 200 s with
  | none=>rw [h] at hE; exact ⟨nd0,.inl ⟨rfl,hE⟩⟩
  | some x =>
   obtain ⟨k,r,z⟩:=x
   rw [h] at hE
   obtain ⟨h1,h2,h3,h4⟩:=hE
   subst h2; subst h3
   exact ⟨k,.inr ⟨rfl,h1,h4⟩⟩
 obtain ⟨k,hE2⟩:=hE2
 have hN9:ok=true→NdV 8 J [S s1,.slice a1 n1 m1,S s2,.slice a2 n2 m2] k:=fun h=>by
  rcases hE2 with ⟨_,h2⟩ | ⟨_,_,h4⟩
  ·rw [h2] at h; cases h
  ·exact h4
 refine .q 3 rfl (.allocA (cs:=[_,_,_,_]) hS X33 rfl ?_)
 clear hS; intro b5 w hS
 first | refine WL.stA hS (k:=0) rfl (.of rfl) (.of rfl) rfl X4 rfl (by simp) ?_ | refine WL.stA hS (k:=1) rfl (.of rfl) (.of rfl) rfl X4 rfl (by simp) ?_ | refine WL.stA hS (k:=2) rfl (.of rfl) (.of rfl) rfl X4 rfl (by simp) ?_
 clear hS; intro w hS; try dsimp only [List.set] at hS
 try simp only [Yb,Y6,Y8,Y3,Y7,Yd,Y5] at hS
 refine .q 1 rfl (.nil (.seq (.seq (.t 3 rfl (.gval rfl rfl (fun hg1=>(.move (.of rfl))) rfl (.gval rfl rfl (fun hg1=>(.nilCheck (.gd hg1 rfl))) rfl ?_))))))
 refine WL.gval rfl rfl (fun hg1=>(by first | exact .fieldAddr 0 (.gd hg1 rfl) Xx rfl rfl Qs9 rfl | exact .fieldAddrI 0 (.gd hg1 rfl) Xx rfl rfl Qs9 rfl)) rfl ?_
 refine WL.gval rfl rfl (fun hg1=>(by first | exact (.ld (.gd hg1 rfl) hS (k:=0) rfl Qg9 rfl) | exact (.ld (.gd hg1 rfl) hS (k:=1) rfl Qg9 rfl) | exact (.ld (.gd hg1 rfl) hS (k:=2) rfl Qg9 rfl))) rfl ?_
 refine .gval rfl rfl (fun hg1=>(.nes (.gd hg1 rfl) (.of rfl))) rfl (.val (.por (.of rfl) (.of rfl) (.of rfl)) rfl (.q 1 rfl ?_))
 refine WL.gval rfl rfl (fun hg1=>(by first | exact (.ldsW (cs:=[_,_,_,_]) (.of rfl) hS (k:=0) rfl X8 X4 rfl) | exact (.lds (vs:=[_,_,_,_]) (.of rfl) hS (k:=0) rfl X8 X4 rfl (fun _ _ h=>h)) | exact (.ldsW (cs:=[_,_,_,_]) (.of rfl) hS (k:=1) rfl X8 X4 rfl) | exact (.lds (vs:=[_,_,_,_]) (.of rfl) hS (k:=1) rfl X8 X4 rfl (fun _ _ h=>h)) | exact (.ldsW (cs:=[_,_,_,_]) (.of rfl) hS (k:=2) rfl X8 X4 rfl) | exact (.lds (vs:=[_,_,_,_]) (.of rfl) hS (k:=2) rfl X8 X4 rfl (fun _ _ h=>h)))) rfl ?_
 refine WL.gcall (T:=fun w=>Sat B w J (blk b5 [S s1,.slice a1 n1 m1,S s2,.slice a2 n2 m2] 126::blk b9 [S t7,I64 l7] 171::blk b2 [S [],.slice none 0 0,S [],.slice none 0 0] 126::As)) rfl rfl rfl Tryz.func105 rfl (fun hg1=>(X0 (.gd hg1 rfl) X1)) rfl (fun hg1=>X59 k [S s1,.slice a1 n1 m1,S s2,.slice a2 n2 m2] B _ J (hN9 (by revert hg1; cases ok <;> simp)) _ hS) hS ?_
 clear hS; rintro w hS
 refine .gval rfl rfl (fun hg1=>(.not (.gd hg1 rfl))) rfl (.val (.por (.of rfl) (.of rfl) (.of rfl)) rfl (.nil ?_))
 refine WC.cond rfl (fun hb28=>?_) (fun hb28=>?_)
 ·
  have hc28:=hb28; try simp only [Y4] at hc28
  refine .seq (.region (.val (.build (cs:=[_,_,_,_]) X5 Xn rfl) rfl ?_))
  first | refine WL.stA hS (k:=0) rfl (.of rfl) (.of rfl) rfl X4 rfl (by simp) ?_ | refine WL.stA hS (k:=1) rfl (.of rfl) (.of rfl) rfl X4 rfl (by simp) ?_ | refine WL.stA hS (k:=2) rfl (.of rfl) (.of rfl) rfl X4 rfl (by simp) ?_
  clear hS; intro w hS; try dsimp only [List.set] at hS
  try simp only [Yb,Y6,Y8,Y3,Y7,Yd,Y5] at hS
  refine .q 1 rfl (.nil (.ret ?_))
  first | refine Xs (b:=_) (cs:=[_,_,_,_]) Qr63 hS (k:=0) rfl X8 X4 rfl rfl rfl ?_ | refine Xs (b:=_) (cs:=[_,_,_,_]) Qr63 hS (k:=1) rfl X8 X4 rfl rfl rfl ?_ | refine Xs (b:=_) (cs:=[_,_,_,_]) Qr63 hS (k:=2) rfl X8 X4 rfl rfl rfl ?_
  refine ⟨_,rfl,J,[],none,0,0,[],none,0,0,10,nd0,rfl,hJ,nd0_V J 7,.inl ⟨?_,rfl,rfl⟩,(((hS.drop (k:=0) rfl).drop (k:=0) rfl).drop (k:=0) rfl)⟩
  unfold X7y
  rcases hE2 with ⟨h,_⟩ | ⟨h,h2,_⟩
  ·rw [h]
  ·rw [h]
   dsimp only
   rw [if_pos]
   rw [h2] at hb28
   revert hb28
   cases (X1d 8 200 k) <;> simp
 have hc28:=hb28; try simp only [Y4] at hc28
 refine .skip (.seq (.region ?_))
 first | refine WL.val (.ldsW (cs:=[_,_,_,_]) (.of rfl) hS (k:=0) rfl X8 X4 rfl) rfl ?_ | refine WL.val (.lds (vs:=[_,_,_,_]) (.of rfl) hS (k:=0) rfl X8 X4 rfl (fun _ _ h=>h)) rfl ?_ | refine WL.val (.ldsW (cs:=[_,_,_,_]) (.of rfl) hS (k:=1) rfl X8 X4 rfl) rfl ?_ | refine WL.val (.lds (vs:=[_,_,_,_]) (.of rfl) hS (k:=1) rfl X8 X4 rfl (fun _ _ h=>h)) rfl ?_ | refine WL.val (.ldsW (cs:=[_,_,_,_]) (.of rfl) hS (k:=2) rfl X8 X4 rfl) rfl ?_ | refine WL.val (.lds (vs:=[_,_,_,_]) (.of rfl) hS (k:=2) rfl X8 X4 rfl (fun _ _ h=>h)) rfl ?_
 first | refine WL.stA hS (k:=0) rfl (.of rfl) (.of rfl) rfl X4 rfl (by simp) ?_ | refine WL.stA hS (k:=1) rfl (.of rfl) (.of rfl) rfl X4 rfl (by simp) ?_ | refine WL.stA hS (k:=2) rfl (.of rfl) (.of rfl) rfl X4 rfl (by simp) ?_
 clear hS; intro w hS; try dsimp only [List.set] at hS
 try simp only [Yb,Y6,Y8,Y3,Y7,Yd,Y5] at hS
 refine .q 1 rfl (.nil (.ret ?_))
 first | refine Xs (b:=_) (cs:=[_,_,_,_]) Qr63 hS (k:=0) rfl X8 X4 rfl rfl rfl ?_ | refine Xs (b:=_) (cs:=[_,_,_,_]) Qr63 hS (k:=1) rfl X8 X4 rfl rfl rfl ?_ | refine Xs (b:=_) (cs:=[_,_,_,_]) Qr63 hS (k:=2) rfl X8 X4 rfl rfl rfl ?_
 have hb8:=hb28
 simp only [Yj,Y1n] at hb8
 obtain ⟨⟨h1,h2⟩,h3⟩:=hb8
 refine ⟨_,rfl,J,_,_,_,_,_,_,_,_,0,k,rfl,hJ,hN9 h1,.inr ⟨?_,rfl⟩,(((hS.drop (k:=0) rfl).drop (k:=0) rfl).drop (k:=0) rfl)⟩
 unfold X7y
 rcases hE2 with ⟨_,h⟩ | ⟨h,_,_⟩
 ·rw [h1] at h; cases h
 ·rw [h]
  dsimp only
  rw [if_neg]
  rintro (h5 | h5)
  ·exact h5 (by simpa using h2)
  ·rw [Option.isNone_iff_eq_none] at h5; rw [h5] at h3; cases h3
abbrev Cl:=List UInt8×Option Addr×Nat×Nat×List UInt8×Option Addr×Nat×Nat
def clC (c:Cl):List Value:=[S c.1,.slice c.2.1 c.2.2.1 c.2.2.2.1,S c.2.2.2.2.1,.slice c.2.2.2.2.2.1 c.2.2.2.2.2.2.1 c.2.2.2.2.2.2.2]
theorem Xdc {d:Nat} {I:Im}:∀ {xs:List (List Value)} {ks:List Nd},xs.length=ks.length→(∀ (i:Nat) x k,xs[i]?=some x→ks[i]?=some k→NdV d I x k)→∃ ys:List Cl,xs=ys.map clC
 | [],_,_,_=>⟨[],rfl⟩
 | x::xs,[],h,_=>by simp at h
 | x::xs,k::ks,h,hN=>by
  obtain ⟨s1,a1,n1,m1,s2,a2,n2,m2,rfl⟩:=(hN 0 x k rfl rfl).cells
  obtain ⟨ys,rfl⟩:=Xdc (xs:=xs) (ks:=ks) (by simpa using h) (fun i x k hx hk=>hN (i+1) x k hx hk)
  exact ⟨(s1,a1,n1,m1,s2,a2,n2,m2)::ys,rfl⟩
theorem NdV.name {I:Im}:∀ {d:Nat} {c:Cl} {n:Nd},NdV d I (clC c) n→c.1=n.name
 | 0,_,_,h=>h.elim
 | d+1,c,n,h=>by
  obtain ⟨h1,h2,h3,h4,h5,aa,ca,ka,ck,xs,h6,_⟩:=h
  injection h6 with h6; injection h6 with h6; injection h6 with h6; simpa using h6
theorem X2q {α:Type} (pr:α→Bool):∀ (l:List α) (k:Nat),(Xq pr l k=-1∧∀ x∈l,pr x=false)∨∃ j x,Xq pr l k=((k+j:Nat):Int)∧l[j]?=some x∧pr x=true∧∀ (i:Nat) y,i<j→l[i]?=some y→pr y=false
 | [],_=>.inl ⟨rfl,by simp⟩
 | a::l,k=>by
  rw [Xq]
  cases ha:pr a with
  | true=>exact .inr ⟨0,a,by simp,rfl,ha,fun _ _ h=>absurd h (by omega)⟩
  | false =>
   rcases X2q pr l (k+1) with ⟨h1,h2⟩ | ⟨j,x,h1,h2,h3,h4⟩
   ·refine .inl ⟨by simpa using h1,fun x hx=>?_⟩
    rcases Yy.1 hx with rfl | hx
    ·exact ha
    ·exact h2 x hx
   ·refine .inr ⟨j+1,x,by simp only [Yn,if_false]; rw [h1]; congr 1; omega,by simpa using h2,h3,fun i y hi hy=>?_⟩
    cases i with
    | zero=>cases hy; exact ha
    | succ i=>exact h4 i y (by omega) (by simpa using hy)
def X5o (n:Nd) (p:List UInt8):Option Nd:=n.kids.find? fun k=>k.name == p
theorem Xam {α:Type} {pr:α→Bool}:∀ {l:List α} {j:Nat} {x:α},l[j]?=some x→pr x=true→(∀ (i:Nat) y,i<j→l[i]?=some y→pr y=false)→l.find? pr=some x
 | [],j,x,h,_,_=>by simp at h
 | a::l,0,x,h,hp,_=>by cases h; rw [Y2h,hp]
 | a::l,j+1,x,h,hp,hn=>by
  rw [Y2h,hn 0 a (by omega) rfl]
  exact Xam (l:=l) (j:=j) (by simpa using h) hp (fun i y hi hy=>hn (i+1) y (by omega) (by simpa using hy))
theorem X51 (a:Option Addr) (cap:Nat) (l:List (Cl)) (hln:l.length≤9223372036854775807) (pr:Cl→Bool) (fid:FuncId) (fn:Func) (hfn:Tryz.prog.funcs[fid]?=some fn) (hcal:Xi fn=true) (capv:List Value) (B w:World) (I:Im) (As:List Xe) (hE:∀ w,Sat B w I As→X6o w clC 4 a l) (hf:∀ (r:Cl) (hr:r∈l) w,Sat B w I As→Calls Tryz.prog fid ([Value.agg (clC r).toArray] ++ capv).toArray w (Ret fun v w'=>v=.bool (pr r)∧Sat B w' I As)) (hS:Sat B w I As) :
  Calls Tryz.prog 106 [.slice a l.length cap,.func (.func fid) #[] capv.toArray].toArray w (Ret fun v w'=>v=I64 (Xq pr l 0)∧Sat B w' I As):=by
 refine calls Tryz.func106 rfl Tryz.ntmps106 rfl (.seq (.q 1 rfl (.seq (.seq (.region (.run 3 rfl ⟨⟨_,X1t⟩,trivial⟩ (.nil (.block (.loop (σ:=Nat) (fun i=>[(0,.slice a l.length cap),(1,.func (.func fid) #[] capv.toArray),(7,I64 (l.length:Nat)),(8,I64 (i:Nat))]) (fun i w=>i≤l.length∧(∀ (j:Nat) t,j<i→l[j]?=some t→pr t=false)∧Sat B w I As) (fun i=>l.length - i) 0 ⟨rfl,rfl,rfl,rfl,trivial⟩ ⟨Yk _,fun _ _ h=>absurd h (by omega),hS⟩ ?_)))))))))
 rintro i w ⟨hi,hno,hS⟩
 change WC _ _ _ _ [(0,.slice a l.length cap),(1,.func (.func fid) #[] capv.toArray),(7,I64 (l.length:Nat)),(8,I64 (i:Nat))] w
 refine .seq (.q 1 rfl (.seq ?_))
 refine WC.cond rfl (fun hb9=>?_) (fun hb9=>?_)
 ·
  have hc9:=hb9; try simp only [Y4] at hc9
  refine .skip (.seq (.block (.seq ?_)))
  obtain ⟨r,hr⟩:∃ r,l[i]?=some r:=⟨_,Y1 (by omega)⟩
  obtain ⟨p,rfl,hx⟩:=hE w hS i r hr
  refine .q 2 rfl (.seq (.t 3 rfl ?_))
  first | refine WL.val (.indexAddr (.of rfl) (.of rfl) (by omega) (by omega) X1t X4) rfl ?_ | refine WL.val (.indexAddrI (.of rfl) (.of rfl) (by omega) (by omega) X1t X4) rfl ?_
  refine .val (.ldR (.of rfl) hx X8 X4 rfl) rfl (.vcall (cap:=capv) hfn hcal (.of rfl) (X0 (.of rfl) X1) rfl (hf r (Yc hr) w hS) ?_)
  clear hS
  rintro _ w ⟨rfl,hS⟩
  refine .nil ?_
  refine WC.cond rfl (fun hb16=>?_) (fun hb16=>?_)
  ·
   have hc16:=hb16; try simp only [Y4] at hc16
   refine .seq (.q 2 rfl (.ret (Xg Tryz.results106 rfl ?_)))
   exact ⟨_,rfl,by rw [X2u hno hr hb16],hS⟩
  have hc16:=hb16; try simp only [Y4] at hc16
  refine .skip (.region (.run 2 rfl ⟨⟨by omega,by omega⟩,trivial⟩ (.nil ?_)))
  refine ⟨i+1,⟨rfl,rfl,rfl,rfl,trivial⟩,⟨by (try dsimp only); omega,fun j t hj ht=>?_,hS⟩,by (try dsimp only); omega⟩
  rcases Yl j i with h1 | h1
  ·exact hno j t h1 ht
  ·have e:j=i:=by omega
   subst e
   rw [hr] at ht; cases ht
   exact hb16
 have hc9:=hb9; try simp only [Y4] at hc9
 refine .exit (.seq (.q 1 rfl (.ret (Xg Tryz.results106 rfl ?_))))
 exact ⟨_,rfl,by rw [X28 (fun j t ht=>hno j t (by have:=(Y0.1 ht).1; omega) ht)],hS⟩
theorem Xak (r:Cl) (p:List UInt8) (b7:Nat) (B w:World) (I:Im) (As:List Xe) (hS:Sat B w I (blk b7 [S p] 9::As)) :
  Calls Tryz.prog 107 [.agg (clC r).toArray,ptr b7 0].toArray w (Ret fun v w'=>v=.bool (r.1 == p)∧Sat B w' I (blk b7 [S p] 9::As)):=by
 refine calls Tryz.func107 rfl Tryz.ntmps107 rfl (.seq (.region (.boxA (cs:=[_,_,_,_]) hS (.of rfl) rfl ?_)))
 clear hS; intro b2 w hS
 refine .q 1 rfl (.nil (.seq (.region ?_)))
 first | refine WL.val (.fieldAddr 0 (.of rfl) Xl rfl rfl Qs9 rfl) rfl ?_ | refine WL.val (.fieldAddrI 0 (.of rfl) Xl rfl rfl Qs9 rfl) rfl ?_
 first | refine WL.val (.ld (.of rfl) hS (k:=0) rfl Qg9 rfl) rfl ?_ | refine WL.val (.ld (.of rfl) hS (k:=1) rfl Qg9 rfl) rfl ?_
 first | refine WL.val (.ld (.of rfl) hS (k:=0) rfl Qg9 rfl) rfl ?_ | refine WL.val (.ld (.of rfl) hS (k:=1) rfl Qg9 rfl) rfl ?_
 refine .q 2 rfl (.nil (.ret (Xg Tryz.results107 rfl ?_)))
 exact ⟨_,rfl,rfl,hS.drop (k:=0) rfl⟩
set_option maxRecDepth 4000 in
theorem Xac (n:Nd) (p:List UInt8) (s1:List UInt8) (a1:Option Addr) (n1 m1:Nat) (s2:List UInt8) (a2:Option Addr) (n2 m2:Nat) (pb:Nat) (B w:World) (I:Im) (hN:NdV 8 I [S s1,.slice a1 n1 m1,S s2,.slice a2 n2 m2] n) (As:List Xe) (hS:Sat B w I (blk pb [S p] 9::As)) :
  Calls Tryz.prog 64 [.agg ([S s1,.slice a1 n1 m1,S s2,.slice a2 n2 m2]:List Value).toArray,.slice (some (ad pb 0)) 1 1].toArray w (Ret fun v w'=>∃ t1 b1 k1 l1 t2 b2 k2 l2 ok nd,v=.tuple #[.agg ([S t1,.slice b1 k1 l1,S t2,.slice b2 k2 l2]:List Value).toArray,.bool ok]∧(X5o n p=none∧ok=false∨X5o n p=some nd∧ok=true)∧(∃ d,NdV d I [S t1,.slice b1 k1 l1,S t2,.slice b2 k2 l2] nd)∧Sat B w' I (blk pb [S p] 9::As)):=by
 refine calls Tryz.func64 rfl Tryz.ntmps64 rfl (.seq (.region (.boxA (cs:=[_,_,_,_]) hS (.of rfl) rfl ?_)))
 clear hS; intro b2 w hS
 refine .allocA (cs:=[_,_,_,_]) hS X33 rfl ?_
 clear hS; intro b4 w hS
 refine .q 1 rfl (.nil (.seq (.seq (.region (.run 3 rfl ⟨⟨_,Qu87⟩,trivial⟩ (.nil (.block ?_)))))))
 have hS0:=hS; clear hS
 refine .loop (σ:=Nat×Nat×Nd×Cl) (fun ⟨i,d,nd,s1,a1,n1,m1,s2,a2,n2,m2⟩=>[(2,ptr b2 0),(4,ptr b4 0),(9,.slice (some (ad pb 0)) 1 1),(10,I64 ((1:Nat):Int)),(11,I64 (i:Nat))]) (fun ⟨i,d,nd,s1,a1,n1,m1,s2,a2,n2,m2⟩ w=>(i=0∧nd=n∨i=1∧X5o n p=some nd)∧NdV (d+1 - i) I [S s1,.slice a1 n1 m1,S s2,.slice a2 n2 m2] nd∧(i=0→d=7)∧Sat B w I (blk b4 [S [],.slice none 0 0,S [],.slice none 0 0] 126::blk b2 [S s1,.slice a1 n1 m1,S s2,.slice a2 n2 m2] 126::blk pb [S p] 9::As)) (fun ⟨i,d,nd,s1,a1,n1,m1,s2,a2,n2,m2⟩=>1 - i) (0,7,n,s1,a1,n1,m1,s2,a2,n2,m2) ⟨rfl,rfl,rfl,rfl,rfl,trivial⟩ ⟨.inl ⟨rfl,rfl⟩,hN,fun _=>rfl,hS0⟩ ?_
 rintro ⟨i,d,nd,s1,a1,n1,m1,s2,a2,n2,m2⟩ w ⟨hin,hNd,hd7,hS⟩
 change WC _ _ _ _ [(2,ptr b2 0),(4,ptr b4 0),(9,.slice (some (ad pb 0)) 1 1),(10,I64 ((1:Nat):Int)),(11,I64 (i:Nat))] w
 clear hS0
 refine .seq (.q 1 rfl (.seq ?_))
 refine WC.cond rfl (fun hb12=>?_) (fun hb12=>?_)
 ·
  have hc12:=hb12; try simp only [Y4] at hc12
  refine .skip (.seq (.block (.seq ?_)))
  have hi0:i=0:=by omega
  subst hi0
  obtain rfl:=hd7 rfl
  obtain rfl:nd=n:=by
   rcases hin with ⟨_,h⟩ | ⟨h,_⟩
   ·exact h
   ·omega
  replace hNd:NdV 8 I [S s1,.slice a1 n1 m1,S s2,.slice a2 n2 m2] nd:=hNd
  refine .region ?_
  first | refine WL.val (.indexAddr (.of rfl) (.of rfl) (by omega) (by omega) Qu87 Qs9) rfl ?_ | refine WL.val (.indexAddrI (.of rfl) (.of rfl) (by omega) (by omega) Qu87 Qs9) rfl ?_
  first | refine WL.val (.ld (.of rfl) hS (k:=0) rfl Qg9 rfl) rfl ?_ | refine WL.val (.ld (.of rfl) hS (k:=1) rfl Qg9 rfl) rfl ?_ | refine WL.val (.ld (.of rfl) hS (k:=2) rfl Qg9 rfl) rfl ?_
  refine .alloc1 hS Qz9 rfl rfl ?_
  clear hS; intro b7 w hS
  first | refine WL.st1 hS (k:=0) rfl (.of rfl) (.of rfl) rfl Qs9 (by simp) ?_ | refine WL.st1 hS (k:=1) rfl (.of rfl) (.of rfl) rfl Qs9 (by simp) ?_ | refine WL.st1 hS (k:=2) rfl (.of rfl) (.of rfl) rfl Qs9 (by simp) ?_ | refine WL.st1 hS (k:=3) rfl (.of rfl) (.of rfl) rfl Qs9 (by simp) ?_
  clear hS; intro w hS; try dsimp only [List.set] at hS
  refine .nil (.seq ?_)
  obtain ⟨hnl,htl,hal,hkl,hat,aa,ca,ka,ck,xs,hcs,hca,hck,hRa,hRk,hxl,hx4,hKD⟩:=hNd
  obtain ⟨ys,rfl⟩:=Xdc hxl hKD
  have hyl:ys.length=nd.kids.length:=by simpa using hxl
  injection hcs with e1 hcs; injection hcs with e2 hcs; injection hcs with e3 hcs; injection hcs with e4 hcs
  injection e1 with e1; injection e3 with e3; injection e2 with e2 e2b e2c; injection e4 with e4 e4b e4c
  rw [← hyl] at e4b hRk
  subst e4; subst e4b; subst e4c
  have hnm:∀ (i:Nat) y k,ys[i]?=some y→nd.kids[i]?=some k→y.1=k.name:=fun i y k hy hk=>NdV.name (hKD i _ k (by rw [Y18,hy]; rfl) hk)
  refine .region ?_
  first | refine WL.val (.fieldAddr 3 (.of rfl) Xl rfl rfl X25 rfl) rfl ?_ | refine WL.val (.fieldAddrI 3 (.of rfl) Xl rfl rfl X25 rfl) rfl ?_
  first | refine WL.val (.ld (.of rfl) hS (k:=0) rfl X1q rfl) rfl ?_ | refine WL.val (.ld (.of rfl) hS (k:=1) rfl X1q rfl) rfl ?_ | refine WL.val (.ld (.of rfl) hS (k:=2) rfl X1q rfl) rfl ?_ | refine WL.val (.ld (.of rfl) hS (k:=3) rfl X1q rfl) rfl ?_
  refine .val (.makeFunc (X0 (.of rfl) X1)) rfl (.call Tryz.func106 rfl (X0 (.of rfl) (X0 (.of rfl) X1)) rfl (X51 a2 m2 ys (by omega) (fun r=>r.1 == p) 107 _ Tryz.func107 rfl [ptr b7 0] B _ I _ (fun w h=>X4k (cells:=clC) (s:=4) (fun _=>rfl) h (by exact hRk)) (fun r hr w h=>Xak r p b7 B w I _ h) hS) ?_)
  clear hS
  rintro _ w ⟨rfl,hS⟩
  try dsimp only [List.eraseIdx] at hS
  have hfi:=X2q (fun r:Cl=>r.1 == p) ys 0
  generalize Xq (fun r:Cl=>r.1 == p) ys 0=ix at hfi
  refine .q 1 rfl (.nil (.seq (.seq (.q 2 rfl ?_))))
  refine WC.cond rfl (fun hb20=>?_) (fun hb20=>?_)
  ·
   have hc20:=hb20; try simp only [Y4] at hc20
   refine .seq (.region (.val (.build (cs:=[_,_,_,_]) X5 Xn rfl) rfl ?_))
   first | refine WL.stA hS (k:=0) rfl (.of rfl) (.of rfl) rfl X4 rfl (by simp) ?_ | refine WL.stA hS (k:=1) rfl (.of rfl) (.of rfl) rfl X4 rfl (by simp) ?_ | refine WL.stA hS (k:=2) rfl (.of rfl) (.of rfl) rfl X4 rfl (by simp) ?_ | refine WL.stA hS (k:=3) rfl (.of rfl) (.of rfl) rfl X4 rfl (by simp) ?_
   clear hS; intro w hS; try dsimp only [List.set] at hS
   try simp only [Yb,Y6,Y8,Y3,Y7,Yd,Y5] at hS
   refine .q 1 rfl (.nil (.ret ?_))
   first | refine Xs (b:=_) (cs:=[_,_,_,_]) Xec hS (k:=0) rfl X8 X4 rfl rfl rfl ?_ | refine Xs (b:=_) (cs:=[_,_,_,_]) Xec hS (k:=1) rfl X8 X4 rfl rfl rfl ?_ | refine Xs (b:=_) (cs:=[_,_,_,_]) Xec hS (k:=2) rfl X8 X4 rfl rfl rfl ?_ | refine Xs (b:=_) (cs:=[_,_,_,_]) Xec hS (k:=3) rfl X8 X4 rfl rfl rfl ?_
   refine ⟨_,rfl,[],none,0,0,[],none,0,0,false,nd0,rfl,.inl ⟨?_,rfl⟩,⟨_,nd0_V I 6⟩,((((hS.pick 3 rfl).drop (k:=1) rfl).drop (k:=1) rfl).drop (k:=1) rfl)⟩
   unfold X5o
   rw [List.find?_eq_none]
   intro k hk
   obtain ⟨i,hi⟩:=Yp.1 hk
   obtain ⟨y,hy⟩:∃ y,ys[i]?=some y:=⟨_,Y1 (by have:=(Y0.1 hi).1; omega)⟩
   rcases hfi with ⟨_,h⟩ | ⟨j,y2,h1,_⟩
   ·have:=h y (Yc hy)
    rw [hnm i y k hy hi] at this
    simpa using this
   ·rw [h1] at hc20; omega
  have hc20:=hb20; try simp only [Y4] at hc20
  refine .skip ?_
  obtain ⟨j,y,hj,hyj,hpy,hfst⟩:∃ j y,ix=((j:Nat):Int)∧ys[j]?=some y∧(y.1 == p)=true∧∀ (i:Nat) y,i<j→ys[i]?=some y→(y.1 == p)=false:=by
   rcases hfi with ⟨h,_⟩ | ⟨j,y,h1,h2,h3,h4⟩
   ·rw [h] at hc20; omega
   ·exact ⟨j,y,by simpa using h1,h2,h3,h4⟩
  subst hj
  have hjl:=(Y0.1 hyj).1
  obtain ⟨k,hk⟩:∃ k,nd.kids[j]?=some k:=⟨_,Y1 (by omega)⟩
  obtain ⟨q,hq9,hx⟩:=Xb9 hRk (by rw [Y1x]) hx4 (i:=j) (x:=clC y) (by rw [Y18,hyj]; rfl)
  have hNk:=hKD j (clC y) k (by rw [Y18,hyj]; rfl) hk
  have hkd:X5o nd p=some k:=Xam hk (by rw [← hnm j y k hyj hk]; exact hpy) (fun i k2 hi hk2=>by
   obtain ⟨y2,hy2⟩:∃ y,ys[i]?=some y:=⟨_,Y1 (by omega)⟩
   rw [← hnm i y2 k2 hy2 hk2]
   exact hfst i y2 hi hy2)
  obtain ⟨s3,a3,n3,m3,s4,a4,n4,m4⟩:=y
  unfold clC at hx hNk
  dsimp only at hx hNk
  subst hq9
  refine .region ?_
  first | refine WL.val (.fieldAddr 3 (.of rfl) Xl rfl rfl X25 rfl) rfl ?_ | refine WL.val (.fieldAddrI 3 (.of rfl) Xl rfl rfl X25 rfl) rfl ?_
  first | refine WL.val (.ld (.of rfl) hS (k:=0) rfl X1q rfl) rfl ?_ | refine WL.val (.ld (.of rfl) hS (k:=1) rfl X1q rfl) rfl ?_ | refine WL.val (.ld (.of rfl) hS (k:=2) rfl X1q rfl) rfl ?_ | refine WL.val (.ld (.of rfl) hS (k:=3) rfl X1q rfl) rfl ?_
  refine .q 1 rfl ?_
  first | refine WL.val (.indexAddr (.of rfl) (.of rfl) (by omega) (by omega) X1t X4) rfl ?_ | refine WL.val (.indexAddrI (.of rfl) (.of rfl) (by omega) (by omega) X1t X4) rfl ?_
  rw [Y9]
  refine .val (.ldsI (us:=[S s3,.slice a3 n3 m3,S s4,.slice a4 n4 m4]) (.of rfl) hS hx X8 X4 rfl (fun _ _ h=>h)) rfl ?_
  first | refine WL.stA hS (k:=0) rfl (.of rfl) (.of rfl) rfl X4 rfl (by simp) ?_ | refine WL.stA hS (k:=1) rfl (.of rfl) (.of rfl) rfl X4 rfl (by simp) ?_ | refine WL.stA hS (k:=2) rfl (.of rfl) (.of rfl) rfl X4 rfl (by simp) ?_ | refine WL.stA hS (k:=3) rfl (.of rfl) (.of rfl) rfl X4 rfl (by simp) ?_
  clear hS; intro w hS; try dsimp only [List.set] at hS
  try simp only [Yb,Y6,Y8,Y3,Y7,Yd,Y5] at hS
  refine .nil (.region (.run 2 rfl ⟨⟨by omega,by omega⟩,trivial⟩ (.nil ?_)))
  exact ⟨(0+1,7,k,s3,a3,n3,m3,s4,a4,n4,m4),⟨rfl,rfl,rfl,rfl,rfl,trivial⟩,⟨.inr ⟨rfl,hkd⟩,hNk,fun h=>by simp at h,((((hS.pick 3 rfl).pick 3 rfl).pick 3 rfl).drop (k:=3) rfl)⟩,by simp⟩
 have hc12:=hb12; try simp only [Y4] at hc12
 refine .exit (.seq (.region ?_))
 first | refine WL.val (.ldsW (cs:=[_,_,_,_]) (.of rfl) hS (k:=0) rfl X8 X4 rfl) rfl ?_ | refine WL.val (.lds (vs:=[_,_,_,_]) (.of rfl) hS (k:=0) rfl X8 X4 rfl (fun _ _ h=>h)) rfl ?_ | refine WL.val (.ldsW (cs:=[_,_,_,_]) (.of rfl) hS (k:=1) rfl X8 X4 rfl) rfl ?_ | refine WL.val (.lds (vs:=[_,_,_,_]) (.of rfl) hS (k:=1) rfl X8 X4 rfl (fun _ _ h=>h)) rfl ?_ | refine WL.val (.ldsW (cs:=[_,_,_,_]) (.of rfl) hS (k:=2) rfl X8 X4 rfl) rfl ?_ | refine WL.val (.lds (vs:=[_,_,_,_]) (.of rfl) hS (k:=2) rfl X8 X4 rfl (fun _ _ h=>h)) rfl ?_
 first | refine WL.stA hS (k:=0) rfl (.of rfl) (.of rfl) rfl X4 rfl (by simp) ?_ | refine WL.stA hS (k:=1) rfl (.of rfl) (.of rfl) rfl X4 rfl (by simp) ?_ | refine WL.stA hS (k:=2) rfl (.of rfl) (.of rfl) rfl X4 rfl (by simp) ?_
 clear hS; intro w hS; try dsimp only [List.set] at hS
 try simp only [Yb,Y6,Y8,Y3,Y7,Yd,Y5] at hS
 refine .q 1 rfl (.nil (.ret ?_))
 first | refine Xs (b:=_) (cs:=[_,_,_,_]) Xec hS (k:=0) rfl X8 X4 rfl rfl rfl ?_ | refine Xs (b:=_) (cs:=[_,_,_,_]) Xec hS (k:=1) rfl X8 X4 rfl rfl rfl ?_ | refine Xs (b:=_) (cs:=[_,_,_,_]) Xec hS (k:=2) rfl X8 X4 rfl rfl rfl ?_
 have hi1:i=1:=by rcases hin with ⟨h,_⟩ | ⟨h,_⟩ <;> omega
 subst hi1
 have hkd:X5o n p=some nd:=by
  rcases hin with ⟨h,_⟩ | h
  ·omega
  ·exact h.2
 exact ⟨_,rfl,s1,a1,n1,m1,s2,a2,n2,m2,true,nd,rfl,.inr ⟨hkd,rfl⟩,⟨d,hNd⟩,(((hS.pick 2 rfl).drop (k:=1) rfl).drop (k:=1) rfl)⟩
end Go.Proofs.YtbciobiiejpdgaaGreatDoor
namespace Go.Proofs.YtbciobiiejpdgaaGreatDoor
open Gk Ul Pc Tk Tr
def PREV:List (List UInt8):=[[],pre 1,pre 2,pre 3,pre 4,pre 5,pre 6]
def PreAt (I:Im):Prop:=At I (ad 1 0) (PREV.map S)
theorem PreAt.mono {I J:Im} (h:PreAt I) (hl:Le I J):PreAt J:=At.mono h hl
def X6p (k:Int):List UInt8:=if k<1∨6<k then [] else pre k.toNat
theorem Ex.slcArr {P:Program} {n:Nat} {L:Env} {w:World} {d:Option Nat} {ty:TypeId} {pos:String} {af:Array Edge} {gg:Option (Nat×Bool)} {t e:TypeId} {x:Operand} {p:Addr} {m s:Nat} (hx:Ev n L x (.pointer (some p))) (ht:P.underlying t=some (.array m e)) (hs:∀ w,(Go.sizeOf e).run P w=.ok s w) :
  Ex P n L w ⟨d,.slice t x none none none,ty,pos,af,gg⟩ (.slice (some (if m=0 then p else p.add (0*s))) (m - 0) (m - 0)) w:=fun a ha=>by
 obtain ⟨e1,e2⟩:=X68 ht
 have h:=run_sliceAt_array_all (P:=P) w t p (by rw [e1,e2]; exact ht)
 rw [e1,e2,hs] at h
 simp [execOp,hx a ha,h,slicedAt]
def X9w (p:List UInt8):List (List UInt8)→Nat→Int
 | [],_=>-1
 | x::r,i=>if p=x then (i:Int) else X9w p r (i+1)
theorem X4v (p:List UInt8):∀ (n:Nat) (r:List (List UInt8)) (i:Nat),(∀ (j:Nat) x,j<n→r[j]?=some x→p≠x)→X9w p r i=X9w p (r.drop n) (i+min n r.length)
 | 0,r,i,_=>by simp
 | n+1,[],i,_=>by simp [X9w]
 | n+1,x::r,i,h=>by
  rw [X9w,if_neg (h 0 x (by omega) rfl),X4v p n r (i+1) (fun j y hj hy=>h (j+1) y (by omega) (by simpa using hy)),Y3,List.length_cons]
  congr 1
  omega
theorem Xc1 {p:List UInt8} {l:List (List UInt8)} {i:Nat} (h:∀ (j:Nat) x,j<i→l[j]?=some x→p≠x) (hs:l[i]?=some p):X9w p l 0=(i:Int):=by
 have hi:=(Y0.1 hs).1
 rw [X4v p i l 0 h,Y5,Y1w (by omega),Yo hi,(Y0.1 hs).2,X9w,if_pos rfl]
theorem Xa9 {p:List UInt8} {l:List (List UInt8)} (h:∀ (j:Nat) x,l[j]?=some x→p≠x):X9w p l 0=-1:=by
 rw [X4v p l.length l 0 (fun j x _ hx=>h j x hx),Y2a]
 rfl
theorem X8g (p:List UInt8):(1≤X9w p PREV 0→X1h p≠0∧X9w p PREV 0=(X1h p:Int))∧(¬ 1≤X9w p PREV 0→X1h p=0):=by
 unfold PREV X1h
 simp only [X9w]
 by_cases h0:p=[]
 ·subst h0
  exact ⟨fun h=>by simp at h,fun _=>by decide⟩
 rw [if_neg h0]
 by_cases h1:p=pre 1
 ·rw [if_pos h1,if_pos h1]; exact ⟨fun _=>⟨by decide,by decide⟩,fun h=>absurd (by decide) h⟩
 rw [if_neg h1,if_neg h1]
 by_cases h2:p=pre 2
 ·rw [if_pos h2,if_pos h2]; exact ⟨fun _=>⟨by decide,by decide⟩,fun h=>absurd (by decide) h⟩
 rw [if_neg h2,if_neg h2]
 by_cases h3:p=pre 3
 ·rw [if_pos h3,if_pos h3]; exact ⟨fun _=>⟨by decide,by decide⟩,fun h=>absurd (by decide) h⟩
 rw [if_neg h3,if_neg h3]
 by_cases h4:p=pre 4
 ·rw [if_pos h4,if_pos h4]; exact ⟨fun _=>⟨by decide,by decide⟩,fun h=>absurd (by decide) h⟩
 rw [if_neg h4,if_neg h4]
 by_cases h5:p=pre 5
 ·rw [if_pos h5,if_pos h5]; exact ⟨fun _=>⟨by decide,by decide⟩,fun h=>absurd (by decide) h⟩
 rw [if_neg h5,if_neg h5]
 by_cases h6:p=pre 6
 ·rw [if_pos h6,if_pos h6]; exact ⟨fun _=>⟨by decide,by decide⟩,fun h=>absurd (by decide) h⟩
 rw [if_neg h6,if_neg h6]
 exact ⟨fun h=>absurd h (by decide),fun _=>rfl⟩
theorem X5h (a:Option Addr) (c:Nat) (l:List (List UInt8)) (hll:l.length≤100000) (p:List UInt8) (B w:World) (I:Im) (hA:RS I a 1 l.length (l.map S)) (As:List Xe) (hS:Sat B w I As) :
  Calls Tryz.prog 178 [.slice a l.length c,S p].toArray w (Ret fun v w'=>v=I64 (X9w p l 0)∧Sat B w' I As):=by
 refine calls Tryz.func178 rfl Tryz.ntmps178 rfl (.seq (.q 1 rfl (.seq (.seq (.region (.run 3 rfl ⟨⟨_,Qu87⟩,trivial⟩ (.nil (.block (.loop (σ:=Nat) (fun i=>[(0,.slice a l.length c),(1,S p),(7,I64 (l.length:Nat)),(8,I64 (i:Nat))]) (fun i w=>i≤l.length∧(∀ (j:Nat) x,j<i→l[j]?=some x→p≠x)∧Sat B w I As) (fun i=>l.length - i) 0 ⟨rfl,rfl,rfl,rfl,trivial⟩ ⟨Yk _,fun _ _ h=>absurd h (by omega),hS⟩ ?_)))))))))
 rintro i w ⟨hi,hno,hS⟩
 change WC _ _ _ _ [(0,.slice a l.length c),(1,S p),(7,I64 (l.length:Nat)),(8,I64 (i:Nat))] w
 refine .seq (.q 1 rfl (.seq ?_))
 refine WC.cond rfl (fun hb9=>?_) (fun hb9=>?_)
 ·
  have hc9:=hb9; try simp only [Y4] at hc9
  refine .skip (.seq (.block (.seq ?_)))
  obtain ⟨x,hx⟩:∃ x,l[i]?=some x:=⟨_,Y1 (by omega)⟩
  obtain ⟨q,rfl,hq⟩:=hA.2 (by omega)
  have hqx:((l.map S).drop ((i:Int).toNat*1))[0]?=some (S x):=by rw [Y22,Y9,Y2l,Y24,Y18,hx]; rfl
  refine .q 2 rfl (.seq (.t 3 rfl (.val (.indexAddrI (.of rfl) (.of rfl) (by omega) (by omega) Qu87 Qs9) rfl (.val (.ldI (v:=S x) (.of rfl) hS (hq.add _) Qg9 hqx) rfl (.q 1 rfl (.nil ?_))))))
  refine WC.cond rfl (fun hb16=>?_) (fun hb16=>?_)
  ·
   have hc16:=hb16; try simp only [Y4] at hc16
   refine .seq (.q 2 rfl (.ret (Xg Tryz.results178 rfl ?_)))
   have e:p=x:=by simpa using hb16
   subst e
   exact ⟨_,rfl,by rw [Xc1 hno hx],hS⟩
  have hc16:=hb16; try simp only [Y4] at hc16
  refine .skip (.region (.run 2 rfl ⟨⟨by omega,by omega⟩,trivial⟩ (.nil ?_)))
  refine ⟨i+1,⟨rfl,rfl,rfl,rfl,trivial⟩,⟨by omega,fun j y hj hy=>?_,hS⟩,by omega⟩
  rcases Yl j i with h1 | h1
  ·exact hno j y h1 hy
  ·have e:j=i:=by omega
   subst e
   rw [hx] at hy; cases hy
   simpa using hb16
 have hc9:=hb9; try simp only [Y4] at hc9
 refine .exit (.seq (.q 1 rfl (.ret (Xg Tryz.results178 rfl ?_))))
 exact ⟨_,rfl,by rw [Xa9 (fun j x hx=>hno j x (by have:=(Y0.1 hx).1; omega) hx)],hS⟩
abbrev HEXD:List UInt8:=[48,49,50,51,52,53,54,55,56,57,97,98,99,100,101,102]
theorem hx_idx (c:UInt8):(match hx c with | some d=>Go.Lib.indexByte HEXD c=(d:Int) | none=>Go.Lib.indexByte HEXD c=-1):=by
 have:=Xz (p:=fun c=>match hx c with | some d=>Go.Lib.indexByte HEXD c == (d:Int) | none=>Go.Lib.indexByte HEXD c == -1) (by decide +kernel) c
 cases h:hx c with
 | some d=>rw [h] at this; simpa using this
 | none=>rw [h] at this; simpa using this
theorem Xd3 {s:List UInt8} {i:Nat} {n d:Nat} (hi:i<s.length) (hn:hxS 0 (s.take i)=some n) (hd:hx (at_ s (i:Int))=some d):hxS 0 (s.take (i+1))=some (16*n+d):=by
 have:s[i]?=some (at_ s (i:Int)):=X2y hi
 rw [Y19,this,Y1c,X85,hn,Y1t]
 simp only [hxS,hd]
theorem Xa8:∀ (s:List UInt8) (i n:Nat),i<s.length→hx (at_ s (i:Int))=none→hxS n s=none
 | [],i,_,h,_=>by simp at h
 | c::r,0,n,_,h=>by
  rw [hxS,show hx c=none from h]
 | c::r,i+1,n,hi,h=>by
  rw [hxS]
  cases hx c with
  | none=>rfl
  | some d=>exact Xa8 r i _ (by simpa using hi) (by
    have e:at_ (c::r) ((i+1:Nat):Int)=at_ r (i:Int):=by simp [at_]
    rw [e] at h; exact h)
theorem or_low {n d:Nat} (hd:d<16):(16*n) ||| d=16*n+d:=by
 have:=Nat.two_pow_add_eq_or_of_lt (i:=4) (b:=d) hd n
 simpa using this.symm
theorem Xc2 (s:List UInt8) (hs:s.length≤1000000) (B w:World) (I:Im) (As:List Xe) (hS:Sat B w I As) :
  Calls Tryz.prog 188 [S s].toArray w (Ret fun v w'=>v=(match X2c s with | some d=>.tuple #[U64 (d:Nat),.bool true] | none=>.tuple #[U64 0,.bool false])∧Sat B w' I As):=by
 refine calls Tryz.func188 rfl Tryz.ntmps188 rfl (.seq (.q 2 rfl (.seq (.seq (.region (.run 3 rfl ⟨Qu9,trivial⟩ (.nil ?_)))))))
 refine WC.cond rfl (fun hb9=>?_) (fun hb9=>?_)
 ·
  have hc9:=hb9; try simp only [Y4] at hc9
  refine .seq (.q 2 rfl (.ret (X6f Xex rfl rfl ?_)))
  exact ⟨_,rfl,by rw [X2c,if_neg (by omega)],hS⟩
 have hc9:=hb9; try simp only [Y4] at hc9
 refine .skip (.seq (.q 1 rfl (.seq (.seq (.region (.run 3 rfl ⟨Qu9,trivial⟩ (.nil (.block (.loop (σ:=Nat×Nat) (fun ⟨i,n⟩=>[(0,S s),(4,U64 (n:Nat)),(11,I64 (s.length:Nat)),(12,I64 (i:Nat))]) (fun ⟨i,n⟩ w=>i≤s.length∧hxS 0 (s.take i)=some n∧n<16 ^ i∧Sat B w I As) (fun ⟨i,n⟩=>s.length - i) (0,0) ⟨rfl,rfl,rfl,rfl,trivial⟩ ⟨Yk _,rfl,by decide,hS⟩ ?_)))))))))
 rintro ⟨i,n⟩ w ⟨hi,hn,hn16,hS⟩
 change WC _ _ _ _ [(0,S s),(4,U64 (n:Nat)),(11,I64 (s.length:Nat)),(12,I64 (i:Nat))] w
 refine .seq (.q 1 rfl (.seq ?_))
 refine WC.cond rfl (fun hb13=>?_) (fun hb13=>?_)
 ·
  have hc13:=hb13; try simp only [Y4] at hc13
  refine .skip (.seq (.block (.seq (.q 2 rfl (.seq (.region (.run 3 rfl ⟨⟨⟨by omega,by omega⟩,Qu9⟩,trivial⟩ (.call Qf229 rfl (X0 (.of rfl) (X0 (.of rfl) X1)) rfl (X39 HEXD (at_ s (i:Int)) _) ?_))))))))
  rintro _ _ ⟨rfl,rfl⟩
  refine .q 1 rfl (.nil (.seq (.seq ?_)))
  have hxi:=hx_idx (at_ s (i:Int))
  refine .q 2 rfl ?_
  refine WC.cond rfl (fun hb20=>?_) (fun hb20=>?_)
  ·
   have hc20:=hb20; try simp only [Y4] at hc20
   refine .seq (.q 2 rfl (.ret (X6f Xex rfl rfl ?_)))
   refine ⟨_,rfl,?_,hS⟩
   have hdn:hx (at_ s (i:Int))=none:=by
    cases hd:hx (at_ s (i:Int)) with
    | none=>rfl
    | some d=>exfalso; rw [hd] at hxi; simp only at hxi; rw [hxi] at hb20; simp at hb20; omega
   rw [X2c,if_pos (by omega),Xa8 s i 0 (by omega) hdn]
  have hc20:=hb20; try simp only [Y4] at hc20
  refine .skip ?_
  obtain ⟨d,hd⟩:∃ d,hx (at_ s (i:Int))=some d:=by
   cases hd:hx (at_ s (i:Int)) with
   | none=>exfalso; rw [hd] at hxi; simp only at hxi; rw [hxi] at hb20; simp at hb20
   | some d=>exact ⟨d,rfl⟩
  rw [hd] at hxi
  simp only at hxi
  have hd16:=hx_lt hd
  rw [hxi]
  have hn15:n<16 ^ 15:=Y1b hn16 (Y11 (by decide) (by omega))
  have hn60:n<1152921504606846976:=by simpa using hn15
  refine .t 1 rfl (.val (.shl (.of rfl) (.of rfl) (by decide) (by decide)) rfl ?_)
  rw [show IntKind.u64.wrap ((n:Int)*2 ^ (4:Int).toNat)=((16*n:Nat):Int) by rw [IntKind.wrap_u64]; simp; omega]
  refine .q 1 rfl ?_
  refine WL.val (.cvi (.of rfl) Qu3 Qu62 (by rw [IntKind.wrap_u64]; omega)) rfl ?_
  refine .val (.or64 (a:=16*n) (b:=d) (by omega) (by omega) (.of rfl) (.of rfl)) rfl ?_
  rw [or_low hd16]
  refine .q 1 rfl (.nil (.region (.run 2 rfl ⟨⟨by omega,by omega⟩,trivial⟩ (.nil ?_))))
  refine ⟨(i+1,16*n+d),⟨rfl,rfl,rfl,rfl,trivial⟩,⟨by (try dsimp only); omega,Xd3 (by omega) hn hd,?_,hS⟩,by (try dsimp only); omega⟩
  (try dsimp only)
  rw [Y1q]; omega
 have hc13:=hb13; try simp only [Y4] at hc13
 refine .exit (.seq (.q 3 rfl (.ret (X6f Xex rfl rfl ?_))))
 refine ⟨_,rfl,?_,hS⟩
 rw [Y1d (by omega)] at hn
 rw [X2c,if_pos (by omega),hn]
end Go.Proofs.YtbciobiiejpdgaaGreatDoor
namespace Go.Proofs.YtbciobiiejpdgaaGreatDoor
open Gk Ul Pc Pat Xm Tr Tk
theorem X2l:Bld Tryz.prog 45 [(0,1),(1,1),(2,1),(3,1)] [S [],S [],.int .i64 0,.int .i64 0]:=X4d Xj X50 (fun w=>by simp [go_sem])
theorem X9l (s:List UInt8) (hs:s.length≤1000000) (B w:World) (I:Im) (hK:Kx I) (hP:PreAt I) (As:List Xe) (hS:Sat B w I As) :
  Calls Tryz.prog 141 [S s].toArray w (Ret fun v w'=>v=(match Xy s with | some (k,d)=>.tuple #[I64 (k:Nat),U64 (d:Nat),.bool true] | none=>.tuple #[I64 0,U64 0,.bool false])∧Sat B w' I As):=by
 refine calls Tryz.func141 rfl Tryz.ntmps141 rfl (.seq (.q 3 rfl (.seq (.t 1 rfl (.call Tryz.func187 rfl (X0 (.of rfl) (X0 (.of rfl) X1)) rfl (X8p s 45 hs B _ I hK _ hS) ?_)))))
 clear hS
 rintro _ w ⟨rfl,hS⟩
 refine .q 7 rfl (.nil (.seq (.t 1 rfl ?_)))
 refine WL.call Tryz.func188 rfl (X0 (.of rfl) X1) rfl (Xc2 _ (by have:=X29 [45] s; rw [Ya]; omega) B _ I _ hS) ?_
 clear hS
 rintro _ w ⟨rfl,hS⟩
 rcases hdr:X2c ((Xb [45] s).drop 1) with _ | d
 ·
  refine .val (.move (.of rfl)) rfl (.q 4 rfl (.nil (.seq (.region (.val (Ex.slcArr (m:=7) (s:=1) (.of rfl) Xel Qs9) rfl (.q 1 rfl (.call Tryz.func178 rfl (X0 (.of rfl) (X0 (.of rfl) X1)) rfl (X5h (some (ad 1 0)) 7 PREV (by decide) (upto [45] s) B _ I ⟨rfl,fun _=>⟨_,rfl,hP⟩⟩ As hS) ?_)))))))
  clear hS
  rintro _ w ⟨rfl,hS⟩
  refine .q 1 rfl (.nil (.seq (.seq (.t 3 rfl (.gval rfl rfl (fun hg1=>(.move (.of rfl))) rfl (.gval rfl rfl (fun hg1=>(.lss (.gd hg1 rfl) (.of rfl))) rfl (.val (.por (.of rfl) (.of rfl) (.of rfl)) rfl (.nil ?_))))))))
  refine WC.cond rfl (fun hb30=>?_) (fun hb30=>?_)
  ·
   have hc30:=hb30; try simp only [Y4] at hc30
   refine .seq (.q 3 rfl (.ret (ret3 Xd8 rfl rfl rfl ?_)))
   refine ⟨_,rfl,?_,hS⟩
   have:Xy s=none:=by
    unfold Xy
    split
    ·rfl
    ·rw [hdr]; rfl
   rw [this]
  have hc30:=hb30; try simp only [Y4] at hc30
  refine .skip (.seq (.q 5 rfl (.ret (ret3 Xd8 rfl rfl rfl ?_))))
  exfalso; simp at hb30
 refine .val (.move (.of rfl)) rfl (.q 4 rfl (.nil (.seq (.region (.val (Ex.slcArr (m:=7) (s:=1) (.of rfl) Xel Qs9) rfl (.q 1 rfl (.call Tryz.func178 rfl (X0 (.of rfl) (X0 (.of rfl) X1)) rfl (X5h (some (ad 1 0)) 7 PREV (by decide) (upto [45] s) B _ I ⟨rfl,fun _=>⟨_,rfl,hP⟩⟩ As hS) ?_)))))))
 clear hS
 rintro _ w ⟨rfl,hS⟩
 refine .q 1 rfl (.nil (.seq (.seq (.t 3 rfl (.gval rfl rfl (fun hg1=>(.move (.of rfl))) rfl (.gval rfl rfl (fun hg1=>(.lss (.gd hg1 rfl) (.of rfl))) rfl (.val (.por (.of rfl) (.of rfl) (.of rfl)) rfl (.nil ?_))))))))
 refine WC.cond rfl (fun hb30=>?_) (fun hb30=>?_)
 ·
  have hc30:=hb30; try simp only [Y4] at hc30
  refine .seq (.q 3 rfl (.ret (ret3 Xd8 rfl rfl rfl ?_)))
  refine ⟨_,rfl,?_,hS⟩
  have h0:=(X8g (upto [45] s)).2 (by simp at hb30; omega)
  rw [Xy,if_pos h0]
 have hc30:=hb30; try simp only [Y4] at hc30
 refine .skip (.seq (.q 5 rfl (.ret (ret3 Xd8 rfl rfl rfl ?_))))
 refine ⟨_,rfl,?_,hS⟩
 obtain ⟨h0,h1⟩:=(X8g (upto [45] s)).1 (by simp at hb30; omega)
 rw [Xy,if_neg h0,hdr,h1]
 rfl
theorem Xbe (s:List UInt8) (kind:Int) (hs:s.length≤1000000) (B w:World) (I:Im) (hK:Kx I) (hP:PreAt I) (As:List Xe) (hS:Sat B w I As) :
  Calls Tryz.prog 99 [S s,I64 kind].toArray w (Ret fun v w'=>v=.bool (isT s kind)∧Sat B w' I As):=by
 refine calls Tryz.func99 rfl Tryz.ntmps99 rfl (.seq (.q 1 rfl (.seq (.t 1 rfl (.call Tryz.func141 rfl (X0 (.of rfl) X1) rfl (X9l s hs B _ I hK hP _ hS) ?_)))))
 clear hS
 rintro _ w ⟨rfl,hS⟩
 rcases hps:Xy s with _ | ⟨k,d⟩
 ·
  refine .val (.move (.of rfl)) rfl (.q 6 rfl (.nil (.seq (.t 2 rfl (.gval rfl rfl (fun hg1=>(.move (.of rfl))) rfl (.gval rfl rfl (fun hg1=>(.move (.of rfl))) rfl (.gval rfl rfl (fun hg1=>(.eql (.gd hg1 rfl) (.gd hg1 rfl))) rfl (.val (.pand (.of rfl) (.of rfl) (.of rfl)) rfl (.q 1 rfl (.nil (.ret (Xg Tryz.results99 rfl ?_))))))))))))
  exact ⟨_,rfl,by rw [isT,hps]; rfl,hS⟩
 refine .val (.move (.of rfl)) rfl (.q 6 rfl (.nil (.seq (.t 2 rfl (.gval rfl rfl (fun hg1=>(.move (.of rfl))) rfl (.gval rfl rfl (fun hg1=>(.move (.of rfl))) rfl (.gval rfl rfl (fun hg1=>(.eql (.gd hg1 rfl) (.gd hg1 rfl))) rfl (.val (.pand (.of rfl) (.of rfl) (.of rfl)) rfl (.q 1 rfl (.nil (.ret (Xg Tryz.results99 rfl ?_))))))))))))
 exact ⟨_,rfl,by rw [isT,hps]; rfl,hS⟩
theorem X5m {n:Nat} (h:n≤1099511627776):(Go.Lib.decDigits n).length≤13:=by
 rw [Go.Lib.decDigits_length]
 have key:∀ (k n:Nat),n<10 ^ k→1≤k→Go.Lib.nDigits n≤k:=by
  intro k
  induction k with
  | zero=>intro n _ h; omega
  | succ k ih =>
   intro n h _
   by_cases h10:n<10
   ·rw [Go.Lib.nDigits_small h10]; omega
   ·rw [Go.Lib.nDigits_big h10]
    rw [Y1q] at h
    cases k with
    | zero=>simp at h; omega
    | succ k=>have:=ih (n / 10) (by omega) (by omega); omega
 exact key 13 n (by omega) (by decide)
theorem Xcb (n:Nat):Go.Lib.decFrom 0 (Go.Lib.decDigits n)=some n:=by
 induction n using Nat.strongRecOn with
 | _ n ih =>
  have dig:∀ d,d<10→Go.Lib.digitVal (UInt8.ofNat (48+d))=some d:=fun d hd =>
   (by decide:∀ d:Fin 10,Go.Lib.digitVal (UInt8.ofNat (48+d.val))=some d.val) ⟨d,hd⟩
  by_cases h:n<10
  ·rw [Go.Lib.decDigits,dif_pos h]
   have:=dig n h
   simp only [Go.Lib.decFrom,this,Y2e,Y5]
  ·rw [Go.Lib.decDigits,dif_neg h]
   have h1:=ih (n / 10) (by omega)
   have h2:=Go.Lib.decFrom_take (Go.Lib.decDigits (n / 10) ++ [UInt8.ofNat (48+n % 10)]) (Go.Lib.decDigits (n / 10)).length 0 (n / 10) (UInt8.ofNat (48+n % 10)) (n % 10) (by rw [Y1j]; exact h1) (by rw [Yx (Yi _),Y3m]; rfl) (dig (n % 10) (by omega))
   rw [Y1d (by rw [Y2]; simp)] at h2
   rw [h2]; congr 1; omega
theorem X4m {n:Nat} (h:n≤1099511627776):Go.Lib.atoiAll (Go.Lib.decDigits n)=.ok (n:Int):=by
 rw [Go.Lib.atoiAll_short _ (by have:=X5m h; omega)]
 have h1:=Xcb n
 have h2:=(X1z n).2.1
 have h3:=(X1z n).2.2.2
 have h4:Go.Lib.atoi (Go.Lib.decDigits n)=some (n:Int):=by
  cases hd:Go.Lib.decDigits n with
  | nil=>exact absurd hd h3
  | cons c r =>
   rw [hd] at h1 h2
   have hc:=(Yt.1 h2) c (by simp)
   have n45:(c == 45)=false:=by
    have:=Xz (p:=fun c=>!Xbx c || !(c == 45)) (by decide +kernel) c
    rw [hc] at this; simpa using this
   have n43:(c == 43)=false:=by
    have:=Xz (p:=fun c=>!Xbx c || !(c == 43)) (by decide +kernel) c
    rw [hc] at this; simpa using this
   rw [Go.Lib.atoi,n45,n43]
   simp only [Yn,if_false]
   rw [show Go.Lib.decNat (c::r)=some n from h1]; rfl
 rw [h4]; rfl
theorem X7g (n:Nat) (hn:n≤1099511627776) (B w:World) (I:Im) (hK:Kx I) (As:List Xe) (hS:Sat B w I As):Calls Tryz.prog 67 [I64 (n:Nat)].toArray w (Ret fun v w'=>v=S (Go.Lib.decDigits n)∧Sat B w' I As) :=
 (Tryz.strconv_Itoa n (by omega) (by omega) w (hK.pow B w As hS)).mono fun e w' he=>by
  obtain ⟨rfl,k,os,rfl⟩:=he
  refine ⟨_,rfl,?_,Xcq (X7m hS k) os⟩
  unfold Go.Lib.itoa
  rw [if_neg (by omega),Y9]
theorem Xbj (s:List UInt8) (hs:s.length≤10000) (B w:World) (I:Im) (hK:Kx I) (As:List Xe) (hS:Sat B w I As):Calls Tryz.prog 65 [S s].toArray w (Ret fun v w'=>∃ n e,v=.tuple #[I64 n,e]∧(∀ k:Nat,k≤1099511627776→s=Go.Lib.decDigits k→n=k)∧Sat B w' I As):=by
 have hl:(ByteArray.mk s.toArray).size≤10000:=hs
 have hl2:(ByteArray.mk s.toArray).data.toList=s:=rfl
 cases h:Go.Lib.atoiAll s with
 | ok v =>
  refine (Tryz.strconv_Atoi_ok ⟨s.toArray⟩ (by omega) v h w).mono fun e w' he=>?_
  obtain ⟨rfl,hw⟩:=he
  refine ⟨_,rfl,v,_,rfl,fun k hk e=>?_,?_⟩
  ·subst e; rw [X4m hk] at h; injection h with h; exact h.symm
  ·rcases hw with rfl | ⟨t,rfl⟩
   ·exact hS
   ·exact hS.grown (Go.Lib.bytesWorld_below _ _ _)
 | range =>
  obtain ⟨te,pe,hv⟩:=hK.rng B w As hS
  refine (Tryz.strconv_Atoi_range ⟨s.toArray⟩ (by omega) h _ w hv (.inr ⟨te,pe,rfl⟩)).mono fun e w' he=>?_
  obtain ⟨N,rfl,_,_,hb⟩:=he
  exact ⟨_,rfl,_,_,rfl,fun k hk e=>(by subst e; rw [X4m hk] at h; cases h),hS.grown hb⟩
 | _ =>
  obtain ⟨te,pe,hv⟩:=hK.syn B w As hS
  refine (Any.strconv_Atoi_syntax Tryz.laysC172 ⟨s.toArray⟩ (by omega) h _ w hv (.inr ⟨te,pe,rfl⟩)).mono fun e w' he=>?_
  obtain ⟨N,rfl,_,_,hb⟩:=he
  exact ⟨_,rfl,0,_,rfl,fun k hk e=>(by subst e; rw [X4m hk] at h; cases h),hS.grown hb⟩
def X3 (n:Nt):List Value:=[S n.ticket,S n.url,I64 n.tries,I64 n.next]
theorem X6t (n:Nt) (hn:n.ticket.length≤1000000) (hu:n.url.length≤9223372036854775807) (B w:World) (I:Im) (hK:Kx I) (hP:PreAt I) (As:List Xe) (hS:Sat B w I As) :
  Calls Tryz.prog 54 [.agg (X3 n).toArray].toArray w (Ret fun v w'=>v=.bool (Xp n)∧Sat B w' I As):=by
 refine calls Tryz.func54 rfl Tryz.ntmps54 rfl (.seq (.region (.boxA (cs:=[_,_,_,_]) hS (.of rfl) rfl ?_)))
 clear hS; intro b1 w hS
 refine .q 1 rfl (.nil (.seq (.region ?_)))
 first | refine WL.val (.fieldAddr 0 (.of rfl) Xj rfl rfl Qs9 rfl) rfl ?_ | refine WL.val (.fieldAddrI 0 (.of rfl) Xj rfl rfl Qs9 rfl) rfl ?_
 refine .val (.ld (.of rfl) hS (k:=0) rfl Qg9 rfl) rfl (.call Tryz.func99 rfl (X0 (.of rfl) (X0 (.of rfl) X1)) rfl (Xbe n.ticket 2 hn B _ I hK hP _ hS) ?_)
 clear hS
 rintro _ w ⟨rfl,hS⟩
 refine .q 1 rfl ?_
 refine WL.gval rfl rfl (fun hg1=>(by first | exact .fieldAddr 0 (.of rfl) Xj rfl rfl Qs9 rfl | exact .fieldAddrI 0 (.of rfl) Xj rfl rfl Qs9 rfl)) rfl ?_
 refine .gval rfl rfl (fun hg1=>(.ld (.gd hg1 rfl) hS (k:=0) rfl Qg9 rfl)) rfl (.gcall (T:=fun w=>Sat B w I (blk b1 [S n.ticket,S n.url,I64 n.tries,I64 n.next] 45::As)) rfl rfl rfl Tryz.func99 rfl (fun hg1=>(X0 (.gd hg1 rfl) (X0 (.of rfl) X1))) rfl (fun hg1=>Xbe n.ticket 3 hn B _ I hK hP _ hS) hS ?_)
 clear hS; rintro w hS
 refine .val (.por (.of rfl) (.of rfl) (.of rfl)) rfl (.q 1 rfl ?_)
 refine WL.gval rfl rfl (fun hg1=>(by first | exact .fieldAddr 1 (.of rfl) Xj rfl rfl Qs9 rfl | exact .fieldAddrI 1 (.of rfl) Xj rfl rfl Qs9 rfl)) rfl ?_
 refine .gval rfl rfl (fun hg1=>(.ld (.gd hg1 rfl) hS (k:=0) rfl Qg9 rfl)) rfl (.gval rfl rfl (fun hg1=>(.len (.gd hg1 rfl) Qu9)) rfl (.gval rfl rfl (fun hg1=>(.leq (.gd hg1 rfl) (.of rfl))) rfl (.val (.pand (.of rfl) (.of rfl) (.of rfl)) rfl (.q 1 rfl ?_))))
 refine WL.gval rfl rfl (fun hg1=>(by first | exact .fieldAddr 2 (.of rfl) Xj rfl rfl Qs3 rfl | exact .fieldAddrI 2 (.of rfl) Xj rfl rfl Qs3 rfl)) rfl ?_
 refine .gval rfl rfl (fun hg1=>(.ld (.gd hg1 rfl) hS (k:=0) rfl Qg3 rfl)) rfl (.gval rfl rfl (fun hg1=>(.geq (.gd hg1 rfl) (.of rfl))) rfl (.val (.pand (.of rfl) (.of rfl) (.of rfl)) rfl (.q 1 rfl ?_)))
 refine WL.gval rfl rfl (fun hg1=>(by first | exact .fieldAddr 2 (.of rfl) Xj rfl rfl Qs3 rfl | exact .fieldAddrI 2 (.of rfl) Xj rfl rfl Qs3 rfl)) rfl ?_
 refine .gval rfl rfl (fun hg1=>(.ld (.gd hg1 rfl) hS (k:=0) rfl Qg3 rfl)) rfl (.gval rfl rfl (fun hg1=>(.leq (.gd hg1 rfl) (.of rfl))) rfl (.val (.pand (.of rfl) (.of rfl) (.of rfl)) rfl (.q 1 rfl ?_)))
 refine WL.gval rfl rfl (fun hg1=>(by first | exact .fieldAddr 3 (.of rfl) Xj rfl rfl Qs3 rfl | exact .fieldAddrI 3 (.of rfl) Xj rfl rfl Qs3 rfl)) rfl ?_
 refine .gval rfl rfl (fun hg1=>(.ld (.gd hg1 rfl) hS (k:=0) rfl Qg3 rfl)) rfl (.gval rfl rfl (fun hg1=>(.geq (.gd hg1 rfl) (.of rfl))) rfl (.val (.pand (.of rfl) (.of rfl) (.of rfl)) rfl (.q 1 rfl ?_)))
 refine WL.gval rfl rfl (fun hg1=>(by first | exact .fieldAddr 3 (.of rfl) Xj rfl rfl Qs3 rfl | exact .fieldAddrI 3 (.of rfl) Xj rfl rfl Qs3 rfl)) rfl ?_
 refine .gval rfl rfl (fun hg1=>(.ld (.gd hg1 rfl) hS (k:=0) rfl Qg3 rfl)) rfl (.gval rfl rfl (fun hg1=>(.leq (.gd hg1 rfl) (.of rfl))) rfl (.val (.pand (.of rfl) (.of rfl) (.of rfl)) rfl (.q 1 rfl (.nil (.ret (Xg Tryz.results54 rfl ?_))))))
 exact ⟨_,rfl,rfl,hS.drop (k:=0) rfl⟩
theorem X5k {J:Im} {b:Nat} {cs:List Value} {E:TypeId} (h:J b=some (Xf cs E)):At J (ad b 0) cs :=
 ⟨rfl,cs.toArray,E,(0,0),h,fun j v hv=>by rw [show (ad b 0).off+j=j from Y5 j]; simpa using hv⟩
theorem Xdp (J:Im) (nm tx:List UInt8) (h1:nm.length≤10000) (h2:tx.length≤10000) (d:Nat):NdV (d+1) J [S nm,.slice none 0 0,S tx,.slice none 0 0] (.mk nm [] tx []) :=
 ⟨h1,h2,Yk _,Yk _,fun a h=>by simp [Nd.attrs] at h,none,0,none,0,[],rfl,Yi _,Yi _,RS.nil J 2,RS.nil J 4,rfl,fun x h=>by simp at h,fun i x k h _=>by simp at h⟩
theorem Xe4 {J:Im} {b15 b20:Nat} {t:List UInt8} {nn:Nat} (ht:t.length≤9000) (hn:nn≤1099511627776) (h1:J b15=some (Xf [S ID_,S (LR_ ++ t),S VER,S V20,S Xa2,S (Go.Lib.decDigits nn)] 136)) (h2:J b20=some (Xf [S NID,.slice none 0 0,S Xa1,.slice none 0 0,S SIX,.slice none 0 0,S t,.slice none 0 0] 126)) :
  NdV 8 J [S LREQ,.slice (some (ad b15 0)) 3 3,S [],.slice (some (ad b20 0)) 2 2] (X42 t nn):=by
 have hd:=X5m hn
 refine ⟨(show LREQ.length≤10000 by decide),Yk _,(show 3≤10000 by decide),(show 2≤10000 by decide),fun a ha=>?_,some (ad b15 0),3,some (ad b20 0),2,[[S NID,.slice none 0 0,S Xa1,.slice none 0 0],[S SIX,.slice none 0 0,S t,.slice none 0 0]],rfl,Yi _,Yi _,⟨rfl,fun _=>⟨_,rfl,X5k h1⟩⟩,⟨rfl,fun _=>⟨_,rfl,X5k h2⟩⟩,rfl,fun x hx=>?_,fun i x k hx hk=>?_⟩
 ·simp only [X42,Nd.attrs,Yy,List.mem_nil_iff,or_false] at ha
  rcases ha with rfl | rfl | rfl
  ·refine ⟨by (try dsimp only); decide,?_⟩
   show (LR_ ++ t).length≤10000
   rw [Y2]; show 3+t.length≤10000; omega
  ·exact ⟨by decide,by decide⟩
  ·exact ⟨by (try dsimp only); decide,by (try dsimp only); omega⟩
 ·simp only [Yy,List.mem_nil_iff,or_false] at hx
  rcases hx with rfl | rfl <;> rfl
 ·match i,hx,hk with
  | 0,hx,hk=>cases hx; cases hk; exact Xdp J NID Xa1 (by decide) (by decide) 6
  | 1,hx,hk=>cases hx; cases hk; exact Xdp J SIX t (by decide) (by omega) 6
  | i+2,hx,_=>simp at hx
theorem Xf2 {t:List UInt8} {nn:Nat} (ht:t.length≤9000) (hn:nn≤1099511627776):(MSG t nn).length≤100000:=by
 have hd:=X5m hn
 unfold MSG M1 M2 M3 M4
 simp only [Y2,List.length_cons,List.length_nil]
 omega
theorem X2k (t:List UInt8) (nn:Nat) (hk:X1y t=true) (hn:nn≤1099511627776) (cs:List Value) (B w:World) (I:Im) (hK:Kx I) (hN:NdV 8 I cs (X42 t nn)) (As:List Xe) (hS:Sat B w I As):Calls Tryz.prog 66 [.agg cs.toArray].toArray w (Ret fun v w'=>v=.tuple #[S (MSG t nn),I64 0]∧Sat B w' I As):=by
 obtain ⟨hT,hl⟩:=X19 hk
 have:=X99 (X42 t nn) cs B w I hK hN (by rw [X8v hT]; have:=Xf2 (t:=t) (by omega) hn; omega) As hS
 rw [Xbf hT,X8v hT] at this
 exact this
set_option maxRecDepth 4000 in
theorem X7v (t u:List UInt8) (tr:Int) (nn:Nat) (hk:X1y t=true) (hn:nn≤1099511627776) (B w:World) (I:Im) (hK:Kx I) (As:List Xe) (hS:Sat B w I As) :
  Calls Tryz.prog 28 [.agg ([S t,S u,I64 tr,I64 (nn:Nat)]:List Value).toArray].toArray w (Ret fun v w'=>v=S (MSG t nn)∧Sat B w' I As):=by
 have hkl:=(X19 hk).2
 refine calls Tryz.func28 rfl Tryz.ntmps28 rfl (.seq (.region (.boxA (cs:=[_,_,_,_]) hS (.of rfl) rfl ?_)))
 clear hS; intro b1 w hS
 refine .q 1 rfl (.nil (.seq (.drawn (fun w=>∃ J9 R,Le I J9∧Sat B w J9 (blk b1 [S t,S u,I64 tr,I64 (nn:Nat)] 45::R)) (fun j=>!([].contains j)) (by kernel_rfl) ?_)))
 replace hS:=hS.drew; generalize w.drew=w at hS ⊢
 have hH:∃ J9 R,Le I J9∧Sat B w J9 (blk b1 [S t,S u,I64 tr,I64 (nn:Nat)] 45::R):=⟨_,_,Le.refl _,(hS.pick 0 rfl)⟩
 refine WD.tp (i:=0) rfl (by kernel_rfl) (fun w=>(by first | exact .fieldAddr 0 (.of rfl) Xj rfl rfl Qs9 rfl | exact .fieldAddrI 0 (.of rfl) Xj rfl rfl Qs9 rfl)) rfl ?_
 refine .tk (i:=1) rfl (by kernel_rfl) hH (fun w ⟨J9,R,hL9,hS⟩=>(.ld (.of rfl) hS (k:=0) rfl Qg9 rfl)) rfl ?_
 refine WD.tp (i:=2) rfl (by kernel_rfl) (fun w=>(.cat (.of rfl) (.of rfl) (by (try simp only [Y2,List.length_cons,List.length_nil]); omega))) rfl ?_
 refine .tp (i:=3) rfl (by kernel_rfl) (fun w=>(.build (cs:=[_,_]) (X2 (.of rfl) (X2 (.of rfl) X5)) X22 rfl)) rfl (.tp (i:=4) rfl (by kernel_rfl) (fun w=>(.build (cs:=[_,_]) (X2 (.of rfl) (X2 (.of rfl) X5)) X22 rfl)) rfl ?_)
 refine WD.tp (i:=5) rfl (by kernel_rfl) (fun w=>(by first | exact .fieldAddr 3 (.of rfl) Xj rfl rfl Qs3 rfl | exact .fieldAddrI 3 (.of rfl) Xj rfl rfl Qs3 rfl)) rfl ?_
 refine .tk (i:=6) rfl (by kernel_rfl) hH (fun w ⟨J9,R,hL9,hS⟩=>(.ld (.of rfl) hS (k:=0) rfl Qg3 rfl)) rfl (.tp (i:=10) rfl (by kernel_rfl) (fun w=>(.build (cs:=[_,_,_,_]) (X2 (.of rfl) (X2 (.of rfl) X5)) Xn rfl)) rfl ?_)
 refine WD.tp (i:=11) rfl (by kernel_rfl) (fun w=>(by first | exact .fieldAddr 0 (.of rfl) Xj rfl rfl Qs9 rfl | exact .fieldAddrI 0 (.of rfl) Xj rfl rfl Qs9 rfl)) rfl ?_
 refine .tk (i:=12) rfl (by kernel_rfl) hH (fun w ⟨J9,R,hL9,hS⟩=>(.ld (.of rfl) hS (k:=0) rfl Qg9 rfl)) rfl (.tp (i:=13) rfl (by kernel_rfl) (fun w=>(.build (cs:=[_,_,_,_]) (X2 (.of rfl) (X2 (.of rfl) X5)) Xn rfl)) rfl ?_)
 refine WD.branch [7,14] (by kernel_rfl) rfl (WO.cons rfl ?_ (WO.cons rfl ?_ (WO.nil)))
 ·
  refine .call Qf67 rfl (X0 (.of rfl) X1) rfl (X7g nn hn B _ I hK _ hS) ?_
  clear hS
  rintro _ w ⟨rfl,hS⟩
  refine .nil ?_
  clear hH
  have hH:∃ J9 R,Le I J9∧Sat B w J9 (blk b1 [S t,S u,I64 tr,I64 (nn:Nat)] 45::R):=⟨_,_,Le.refl _,(hS.pick 0 rfl)⟩
  refine And.intro (by intro _ _; exact hH) ?_
  refine .tp (i:=8) rfl (by kernel_rfl) (fun w=>(.build (cs:=[_,_]) (X2 (.of rfl) (X2 (.of rfl) X5)) X22 rfl)) rfl ?_
  refine WD.branch [9,14] (by kernel_rfl) rfl (WO.cons rfl ?_ (WO.cons rfl ?_ (WO.nil)))
  ·
   refine .buildSlice (cs:=[_,_,_,_,_,_]) hS (X2 (.of rfl) (X2 (.of rfl) (X2 (.of rfl) X5))) X26 X15 X7i rfl rfl rfl rfl ?_
   clear hS; intro b15 w hS
   refine .nil ?_
   clear hH
   have hH:∃ J9 R,Le I J9∧Sat B w J9 (blk b1 [S t,S u,I64 tr,I64 (nn:Nat)] 45::R):=⟨_,_,Le.refl _,(hS.pick 1 rfl)⟩
   refine And.intro (by intro _ _; exact hH) ?_
   refine WD.branch [14] (by kernel_rfl) rfl (WO.cons rfl ?_ (WO.nil))
   refine .buildSlice (cs:=[_,_,_,_,_,_,_,_]) hS (X2 (.of rfl) (X2 (.of rfl) X5)) X1t X4 X33 rfl rfl rfl rfl ?_
   clear hS; intro b20 w hS
   refine .nil ?_
   clear hH
   have hH:∃ J9 R,Le I J9∧Sat B w J9 (blk b1 [S t,S u,I64 tr,I64 (nn:Nat)] 45::R):=⟨_,_,Le.refl _,(hS.pick 2 rfl)⟩
   refine And.intro (by intro _ _; exact hH) ?_
   refine .tp (i:=15) rfl (by kernel_rfl) (fun w=>(.build (cs:=[_,_,_,_]) (X2 (.of rfl) (X2 (.of rfl) (X2 (.of rfl) X5))) Xn rfl)) rfl ?_
   refine WD.branch [16] (by kernel_rfl) rfl (WO.cons rfl ?_ (WO.nil))
   replace hS:=(hS.pick 1 rfl); try dsimp only [List.eraseIdx] at hS
   obtain ⟨J1,hJ1,hq15,hS⟩:=hS.freeze (k:=0) rfl
   try dsimp only [List.eraseIdx] at hS
   obtain ⟨J2,hJ2,hq20,hS⟩:=hS.freeze (k:=0) rfl
   try dsimp only [List.eraseIdx] at hS
   have hJJ:=hJ1.trans hJ2
   have hNV:=Xe4 (by have:=(X19 hk).2; omega) hn (hJ2 _ _ hq15) hq20
   refine .call Qf66 rfl (X0 (.of rfl) X1) rfl (X2k t nn hk hn _ B _ J2 (hK.mono hJJ) hNV _ hS) ?_
   clear hS
   rintro _ w ⟨rfl,hS⟩
   refine .nil ?_
   clear hH
   have hH:∃ J9 R,Le I J9∧Sat B w J9 (blk b1 [S t,S u,I64 tr,I64 (nn:Nat)] 45::R):=⟨_,_,hJJ,(hS.pick 0 rfl)⟩
   refine And.intro (by intro _ _; exact hH) ?_
   refine .tp (i:=17) rfl (by kernel_rfl) (fun w=>(.move (.of rfl))) rfl (.tp (i:=18) rfl (by kernel_rfl) (fun w=>(.extract (.of rfl) rfl)) rfl (.tp (i:=19) rfl (by kernel_rfl) (fun w=>(.extract (.of rfl) rfl)) rfl (.tp (i:=20) rfl (by kernel_rfl) (fun w=>(.assign (.of rfl))) rfl (.tp (i:=21) rfl (by kernel_rfl) (fun w=>(.assign (.of rfl))) rfl (.done (by kernel_rfl) (.seq (.q 2 rfl (.ret (Xg Tryz.results28 rfl ?_)))))))))
   exact ⟨_,rfl,rfl,X2e hJJ (hS.drop (k:=0) rfl)⟩
  ·
   refine .buildSlice (cs:=[_,_,_,_,_,_,_,_]) hS (X2 (.of rfl) (X2 (.of rfl) X5)) X1t X4 X33 rfl rfl rfl rfl ?_
   clear hS; intro b20 w hS
   refine .nil ?_
   clear hH
   have hH:∃ J9 R,Le I J9∧Sat B w J9 (blk b1 [S t,S u,I64 tr,I64 (nn:Nat)] 45::R):=⟨_,_,Le.refl _,(hS.pick 1 rfl)⟩
   refine And.intro (by intro _ _; exact hH) ?_
   refine WD.branch [9] (by kernel_rfl) rfl (WO.cons rfl ?_ (WO.nil))
   refine .buildSlice (cs:=[_,_,_,_,_,_]) hS (X2 (.of rfl) (X2 (.of rfl) (X2 (.of rfl) X5))) X26 X15 X7i rfl rfl rfl rfl ?_
   clear hS; intro b15 w hS
   refine .nil ?_
   clear hH
   have hH:∃ J9 R,Le I J9∧Sat B w J9 (blk b1 [S t,S u,I64 tr,I64 (nn:Nat)] 45::R):=⟨_,_,Le.refl _,(hS.pick 2 rfl)⟩
   refine And.intro (by intro _ _; exact hH) ?_
   refine .tp (i:=15) rfl (by kernel_rfl) (fun w=>(.build (cs:=[_,_,_,_]) (X2 (.of rfl) (X2 (.of rfl) (X2 (.of rfl) X5))) Xn rfl)) rfl ?_
   refine WD.branch [16] (by kernel_rfl) rfl (WO.cons rfl ?_ (WO.nil))
   replace hS:=((hS.pick 1 rfl).pick 1 rfl); try dsimp only [List.eraseIdx] at hS
   obtain ⟨J1,hJ1,hq15,hS⟩:=hS.freeze (k:=0) rfl
   try dsimp only [List.eraseIdx] at hS
   obtain ⟨J2,hJ2,hq20,hS⟩:=hS.freeze (k:=0) rfl
   try dsimp only [List.eraseIdx] at hS
   have hJJ:=hJ1.trans hJ2
   have hNV:=Xe4 (by have:=(X19 hk).2; omega) hn (hJ2 _ _ hq15) hq20
   refine .call Qf66 rfl (X0 (.of rfl) X1) rfl (X2k t nn hk hn _ B _ J2 (hK.mono hJJ) hNV _ hS) ?_
   clear hS
   rintro _ w ⟨rfl,hS⟩
   refine .nil ?_
   clear hH
   have hH:∃ J9 R,Le I J9∧Sat B w J9 (blk b1 [S t,S u,I64 tr,I64 (nn:Nat)] 45::R):=⟨_,_,hJJ,(hS.pick 0 rfl)⟩
   refine And.intro (by intro _ _; exact hH) ?_
   refine .tp (i:=17) rfl (by kernel_rfl) (fun w=>(.move (.of rfl))) rfl (.tp (i:=18) rfl (by kernel_rfl) (fun w=>(.extract (.of rfl) rfl)) rfl (.tp (i:=19) rfl (by kernel_rfl) (fun w=>(.extract (.of rfl) rfl)) rfl (.tp (i:=20) rfl (by kernel_rfl) (fun w=>(.assign (.of rfl))) rfl (.tp (i:=21) rfl (by kernel_rfl) (fun w=>(.assign (.of rfl))) rfl (.done (by kernel_rfl) (.seq (.q 2 rfl (.ret (Xg Tryz.results28 rfl ?_)))))))))
   exact ⟨_,rfl,rfl,X2e hJJ (hS.drop (k:=0) rfl)⟩
 ·
  refine .buildSlice (cs:=[_,_,_,_,_,_,_,_]) hS (X2 (.of rfl) (X2 (.of rfl) X5)) X1t X4 X33 rfl rfl rfl rfl ?_
  clear hS; intro b20 w hS
  refine .nil ?_
  clear hH
  have hH:∃ J9 R,Le I J9∧Sat B w J9 (blk b1 [S t,S u,I64 tr,I64 (nn:Nat)] 45::R):=⟨_,_,Le.refl _,(hS.pick 1 rfl)⟩
  refine And.intro (by intro _ _; exact hH) ?_
  refine WD.branch [7] (by kernel_rfl) rfl (WO.cons rfl ?_ (WO.nil))
  refine .call Qf67 rfl (X0 (.of rfl) X1) rfl (X7g nn hn B _ I hK _ hS) ?_
  clear hS
  rintro _ w ⟨rfl,hS⟩
  refine .nil ?_
  clear hH
  have hH:∃ J9 R,Le I J9∧Sat B w J9 (blk b1 [S t,S u,I64 tr,I64 (nn:Nat)] 45::R):=⟨_,_,Le.refl _,(hS.pick 1 rfl)⟩
  refine And.intro (by intro _ _; exact hH) ?_
  refine .tp (i:=8) rfl (by kernel_rfl) (fun w=>(.build (cs:=[_,_]) (X2 (.of rfl) (X2 (.of rfl) X5)) X22 rfl)) rfl ?_
  refine WD.branch [9] (by kernel_rfl) rfl (WO.cons rfl ?_ (WO.nil))
  refine .buildSlice (cs:=[_,_,_,_,_,_]) hS (X2 (.of rfl) (X2 (.of rfl) (X2 (.of rfl) X5))) X26 X15 X7i rfl rfl rfl rfl ?_
  clear hS; intro b15 w hS
  refine .nil ?_
  clear hH
  have hH:∃ J9 R,Le I J9∧Sat B w J9 (blk b1 [S t,S u,I64 tr,I64 (nn:Nat)] 45::R):=⟨_,_,Le.refl _,(hS.pick 2 rfl)⟩
  refine And.intro (by intro _ _; exact hH) ?_
  refine .tp (i:=15) rfl (by kernel_rfl) (fun w=>(.build (cs:=[_,_,_,_]) (X2 (.of rfl) (X2 (.of rfl) (X2 (.of rfl) X5))) Xn rfl)) rfl ?_
  refine WD.branch [16] (by kernel_rfl) rfl (WO.cons rfl ?_ (WO.nil))
  replace hS:=((hS.pick 1 rfl).pick 1 rfl); try dsimp only [List.eraseIdx] at hS
  obtain ⟨J1,hJ1,hq15,hS⟩:=hS.freeze (k:=0) rfl
  try dsimp only [List.eraseIdx] at hS
  obtain ⟨J2,hJ2,hq20,hS⟩:=hS.freeze (k:=0) rfl
  try dsimp only [List.eraseIdx] at hS
  have hJJ:=hJ1.trans hJ2
  have hNV:=Xe4 (by have:=(X19 hk).2; omega) hn (hJ2 _ _ hq15) hq20
  refine .call Qf66 rfl (X0 (.of rfl) X1) rfl (X2k t nn hk hn _ B _ J2 (hK.mono hJJ) hNV _ hS) ?_
  clear hS
  rintro _ w ⟨rfl,hS⟩
  refine .nil ?_
  clear hH
  have hH:∃ J9 R,Le I J9∧Sat B w J9 (blk b1 [S t,S u,I64 tr,I64 (nn:Nat)] 45::R):=⟨_,_,hJJ,(hS.pick 0 rfl)⟩
  refine And.intro (by intro _ _; exact hH) ?_
  refine .tp (i:=17) rfl (by kernel_rfl) (fun w=>(.move (.of rfl))) rfl (.tp (i:=18) rfl (by kernel_rfl) (fun w=>(.extract (.of rfl) rfl)) rfl (.tp (i:=19) rfl (by kernel_rfl) (fun w=>(.extract (.of rfl) rfl)) rfl (.tp (i:=20) rfl (by kernel_rfl) (fun w=>(.assign (.of rfl))) rfl (.tp (i:=21) rfl (by kernel_rfl) (fun w=>(.assign (.of rfl))) rfl (.done (by kernel_rfl) (.seq (.q 2 rfl (.ret (Xg Tryz.results28 rfl ?_)))))))))
  exact ⟨_,rfl,rfl,X2e hJJ (hS.drop (k:=0) rfl)⟩
theorem NdV.parts {I:Im}:∀ {d:Nat} {s1:List UInt8} {a1:Option Addr} {n1 m1:Nat} {s2:List UInt8} {a2:Option Addr} {n2 m2:Nat} {n:Nd},NdV d I [S s1,.slice a1 n1 m1,S s2,.slice a2 n2 m2] n →
  n1=n.attrs.length∧s2=n.text∧RS I a1 2 n.attrs.length (X6 Xd n.attrs)∧(∀ a∈n.attrs,a.1.length≤10000∧a.2.length≤10000)∧n.text.length≤10000
 | 0,_,_,_,_,_,_,_,_,_,h=>h.elim
 | d+1,s1,a1,n1,m1,s2,a2,n2,m2,n,h=>by
  obtain ⟨h1,h2,h3,h4,h5,aa,ca,ka,ck,xs,hcs,h7,h8,h9,_⟩:=h
  injection hcs with e1 hcs; injection hcs with e2 hcs; injection hcs with e3 hcs
  injection e2 with e2 e2b e2c
  injection e3 with e3; injection e3 with e3
  subst e2
  exact ⟨e2b,by simpa using e3,h9,h5,h2⟩
theorem X1l {n:Nt} (h:Xp n=true):X1y n.ticket=true∧0≤n.next∧n.next≤1099511627776∧n.url.length≤100∧0≤n.tries∧n.tries≤9:=by
 unfold Xp at h
 simp only [Yh,decide_eq_true_eq] at h
 obtain ⟨⟨⟨⟨⟨h1,h2⟩,h3⟩,h4⟩,h5⟩,h6⟩:=h
 exact ⟨h1,h5,h6,by omega,h3,h4⟩
theorem X6s (n:Nt) (h:Xp n=true) (B w:World) (I:Im) (hK:Kx I) (As:List Xe) (hS:Sat B w I As):Calls Tryz.prog 28 [.agg (X3 n).toArray].toArray w (Ret fun v w'=>v=S (MSG n.ticket n.next.toNat)∧Sat B w' I As):=by
 obtain ⟨h1,h2,h3,_⟩:=X1l h
 have:=X7v n.ticket n.url n.tries n.next.toNat h1 (by omega) B w I hK As hS
 rw [Int.toNat_of_nonneg h2] at this
 exact this
theorem Xaw (t:List UInt8) (n:Nat):X5o (X42 t n) SIX=some (.mk SIX [] t []):=by
 unfold X5o X42
 simp only [Nd.kids,Y2h,Nd.name]
 rw [show (NID == SIX)=false by decide,show (SIX == SIX)=true by decide]
set_option maxRecDepth 4000 in
theorem Xcf (s:List UInt8) (hl:s.length≤400) (B w:World) (I:Im) (hK:Kx I) (hP:PreAt I) (As:List Xe) (hS:Sat B w I As) :
  Calls Tryz.prog 25 [S s].toArray w (Ret fun v w'=>v=.tuple #[S ((X4e s).getD []),.bool (X4e s).isSome]∧Sat B w' I As):=by
 refine calls Tryz.func25 rfl Tryz.ntmps25 rfl (.seq (.q 2 rfl (.seq (.t 1 rfl (.call Tryz.func63 rfl (X0 (.of rfl) X1) rfl (Xan s (by omega) B _ I hK _ hS) ?_)))))
 clear hS
 rintro _ w ⟨J,s1,a1,n1,m1,s2,a2,n2,m2,e,nd,rfl,hJ,hN,hR,hS⟩
 refine .q 3 rfl (.allocA (cs:=[_,_,_,_]) hS X33 rfl ?_)
 clear hS; intro b4 w hS
 refine .stA hS (k:=0) rfl (.of rfl) (.of rfl) rfl X4 rfl (by simp) ?_
 clear hS; intro w hS; try dsimp only [List.set] at hS
 try simp only [Yb,Y6,Y8,Y3,Y7,Yd,Y5] at hS
 refine .q 1 rfl (.nil (.seq (.region ?_)))
 first | refine WL.val (.ldsW (cs:=[_,_,_,_]) (.of rfl) hS (k:=0) rfl X8 X4 rfl) rfl ?_ | refine WL.val (.lds (vs:=[_,_,_,_]) (.of rfl) hS (k:=0) rfl X8 X4 rfl (fun _ _ h=>h)) rfl ?_ | refine WL.val (.ldsI (.of rfl) hS hx X8 X4 rfl (fun _ _ h=>h)) rfl ?_ | refine WL.val (.ldsI (.of rfl) hS (At.add hx _) X8 X4 rfl (fun _ _ h=>h)) rfl ?_
 refine .buildSlice (cs:=[_]) hS (X2 (.of rfl) X5) Qu87 Qs9 Qz9 rfl rfl rfl rfl ?_
 clear hS; intro b18 w hS
 refine .call Tryz.func64 rfl (X0 (.of rfl) (X0 (.of rfl) X1)) rfl (Xac nd SIX s1 a1 n1 m1 s2 a2 n2 m2 b18 B _ J hN _ hS) ?_
 clear hS
 rintro _ w ⟨t1,c1,k1,l1,t2,c2,k2,l2,ok,kd,rfl,hF,hD,hS⟩
 try dsimp only [List.eraseIdx] at hS
 refine .q 3 rfl (.allocA (cs:=[_,_,_,_]) hS X33 rfl ?_)
 clear hS; intro b6 w hS
 first | refine WL.stA hS (k:=0) rfl (.of rfl) (.of rfl) rfl X4 rfl (by simp) ?_ | refine WL.stA hS (k:=1) rfl (.of rfl) (.of rfl) rfl X4 rfl (by simp) ?_ | refine WL.stA hS (k:=2) rfl (.of rfl) (.of rfl) rfl X4 rfl (by simp) ?_
 clear hS; intro w hS; try dsimp only [List.set] at hS
 try simp only [Yb,Y6,Y8,Y3,Y7,Yd,Y5] at hS
 refine .q 1 rfl (.nil (.seq (.seq (.t 3 rfl (.gval rfl rfl (fun hg1=>(.move (.of rfl))) rfl (.gval rfl rfl (fun hg1=>(.not (.gd hg1 rfl))) rfl (.val (.por (.of rfl) (.of rfl) (.of rfl)) rfl (.q 1 rfl ?_))))))))
 refine WL.gval rfl rfl (fun hg1=>(by first | exact .fieldAddr 1 (.of rfl) Xl rfl rfl X3n rfl | exact .fieldAddrI 1 (.of rfl) Xl rfl rfl X3n rfl)) rfl ?_
 refine WL.gval rfl rfl (fun hg1=>(by first | exact (.ld (.gd hg1 rfl) hS (k:=0) rfl X3b rfl) | exact (.ld (.gd hg1 rfl) hS (k:=1) rfl X3b rfl) | exact (.ld (.gd hg1 rfl) hS (k:=2) rfl X3b rfl) | exact (.ldI (.gd hg1 rfl) hS (At.add hx _) X3b rfl))) rfl ?_
 refine .gval rfl rfl (fun hg1=>(.lenSlice (.gd hg1 rfl) X26)) rfl (.gval rfl rfl (fun hg1=>(.neq (.gd hg1 rfl) (.of rfl))) rfl (.val (.por (.of rfl) (.of rfl) (.of rfl)) rfl (.nil ?_)))
 refine WC.cond rfl (fun hb33=>?_) (fun hb33=>?_)
 ·
  have hc33:=hb33; try simp only [Y4] at hc33
  refine .seq (.q 2 rfl (.ret (X6f Tryz.results25 rfl rfl ?_)))
  refine ⟨_,rfl,?_,X2e hJ (((hS.drop (k:=0) rfl).drop (k:=0) rfl).drop (k:=0) rfl)⟩
  have hno:X4e s=none:=X6u fun t n ht hn es=>by
   have hx:=X93 (X19 ht).1 n
   rw [← es] at hx
   rcases hR with ⟨h,_⟩ | ⟨h,h2⟩
   ·rw [h] at hx; cases hx
   ·rw [h] at hx
    injection hx with hx
    subst hx
    have hk:=Xaw t n
    have hl:=hN.parts.1
    have h3:n1=3:=hl
    rcases hF with ⟨h,_⟩ | ⟨_,h4⟩
    ·rw [hk] at h; cases h
    ·rw [h2,h4,h3] at hb33; simp at hb33
  rw [hno]; rfl
 have hc33:=hb33; try simp only [Y4] at hc33
 refine .skip (.seq ?_)
 have hb9:=hb33
 simp only [Yj,bne_eq_false_iff_eq,Y1n] at hb9
 obtain ⟨⟨he0,hok⟩,h3⟩:=hb9
 obtain ⟨hp1,hp2,hpR,hpa,hpt⟩:=hN.parts
 obtain ⟨dd,hD⟩:=hD
 obtain ⟨hq1,hq2,_,_,hqt⟩:=hD.parts
 have ht2l:t2.length≤10000:=by rw [hq2]; exact hqt
 have hal3:nd.attrs.length=3:=by omega
 obtain ⟨av,hav⟩:∃ a,nd.attrs[2]?=some a:=⟨_,Y1 (by omega)⟩
 obtain ⟨qa,hqa9,hx⟩:=Xbh hpR hav
 have hav2:=hpa av (Yc hav)
 have h39:n1=3:=by omega
 subst h39
 clear hp1
 subst hqa9
 have hfnd:X7y s=some nd∧X5o nd SIX=some kd:=by
  refine ⟨?_,?_⟩
  ·rcases hR with ⟨_,h,_⟩ | ⟨h,_⟩
   ·rw [h] at he0; simp at he0
   ·exact h
  ·rcases hF with ⟨_,h⟩ | ⟨h,_⟩
   ·rw [h] at hok; cases hok
   ·exact h
 refine .region ?_
 first | refine WL.val (.fieldAddr 1 (.of rfl) Xl rfl rfl X3n rfl) rfl ?_ | refine WL.val (.fieldAddrI 1 (.of rfl) Xl rfl rfl X3n rfl) rfl ?_
 first | refine WL.val (.ld (.of rfl) hS (k:=0) rfl X3b rfl) rfl ?_ | refine WL.val (.ld (.of rfl) hS (k:=1) rfl X3b rfl) rfl ?_ | refine WL.val (.ld (.of rfl) hS (k:=2) rfl X3b rfl) rfl ?_ | refine WL.val (.ldI (.of rfl) hS (At.add hx _) X3b rfl) rfl ?_
 first | refine WL.val (.indexAddr (.of rfl) (.of rfl) (by omega) (by omega) X26 X15) rfl ?_ | refine WL.val (.indexAddrI (.of rfl) (.of rfl) (by omega) (by omega) X26 X15) rfl ?_
 first | refine WL.val (.fieldAddr 1 (.of rfl) X1b rfl rfl Qs9 rfl) rfl ?_ | refine WL.val (.fieldAddrI 1 (.of rfl) X1b rfl rfl Qs9 rfl) rfl ?_
 refine .val (.ldI (.of rfl) hS (At.add hx 1) Qg9 rfl) rfl (.call Tryz.func65 rfl (X0 (.of rfl) X1) rfl (Xbj av.2 (by omega) B _ J (hK.mono hJ) _ hS) ?_)
 clear hS
 rintro _ w ⟨nx,ee,rfl,hnx,hS⟩
 refine .q 5 rfl (.nil (.seq (.region ?_)))
 first | refine WL.val (.fieldAddr 2 (.of rfl) Xl rfl rfl Qs9 rfl) rfl ?_ | refine WL.val (.fieldAddrI 2 (.of rfl) Xl rfl rfl Qs9 rfl) rfl ?_
 first | refine WL.val (.ld (.of rfl) hS (k:=0) rfl Qg9 rfl) rfl ?_ | refine WL.val (.ld (.of rfl) hS (k:=1) rfl Qg9 rfl) rfl ?_ | refine WL.val (.ld (.of rfl) hS (k:=2) rfl Qg9 rfl) rfl ?_ | refine WL.val (.ldI (.of rfl) hS (At.add hx _) Qg9 rfl) rfl ?_
 refine .q 1 rfl (.val (.build (cs:=[_,_,_,_]) (X2 (.of rfl) (X2 (.of rfl) X5)) X2l rfl) rfl (.allocA (cs:=[_,_,_,_]) hS X50 rfl ?_))
 clear hS; intro b10 w hS
 first | refine WL.stA hS (k:=0) rfl (.of rfl) (.of rfl) rfl X7 rfl (by simp) ?_ | refine WL.stA hS (k:=1) rfl (.of rfl) (.of rfl) rfl X7 rfl (by simp) ?_ | refine WL.stA hS (k:=2) rfl (.of rfl) (.of rfl) rfl X7 rfl (by simp) ?_ | refine WL.stA hS (k:=3) rfl (.of rfl) (.of rfl) rfl X7 rfl (by simp) ?_
 clear hS; intro w hS; try dsimp only [List.set] at hS
 try simp only [Yb,Y6,Y8,Y3,Y7,Yd,Y5] at hS
 refine .nil (.seq (.seq (.region ?_)))
 first | refine WL.val (.ldsW (cs:=[_,_,_,_]) (.of rfl) hS (k:=0) rfl Xh X7 rfl) rfl ?_ | refine WL.val (.lds (vs:=[_,_,_,_]) (.of rfl) hS (k:=0) rfl Xh X7 rfl (fun _ _ h=>h)) rfl ?_ | refine WL.val (.ldsW (cs:=[_,_,_,_]) (.of rfl) hS (k:=1) rfl Xh X7 rfl) rfl ?_ | refine WL.val (.lds (vs:=[_,_,_,_]) (.of rfl) hS (k:=1) rfl Xh X7 rfl (fun _ _ h=>h)) rfl ?_ | refine WL.val (.ldsW (cs:=[_,_,_,_]) (.of rfl) hS (k:=2) rfl Xh X7 rfl) rfl ?_ | refine WL.val (.lds (vs:=[_,_,_,_]) (.of rfl) hS (k:=2) rfl Xh X7 rfl (fun _ _ h=>h)) rfl ?_ | refine WL.val (.ldsW (cs:=[_,_,_,_]) (.of rfl) hS (k:=3) rfl Xh X7 rfl) rfl ?_ | refine WL.val (.lds (vs:=[_,_,_,_]) (.of rfl) hS (k:=3) rfl Xh X7 rfl (fun _ _ h=>h)) rfl ?_ | refine WL.val (.ldsI (.of rfl) hS hx Xh X7 rfl (fun _ _ h=>h)) rfl ?_ | refine WL.val (.ldsI (.of rfl) hS (At.add hx _) Xh X7 rfl (fun _ _ h=>h)) rfl ?_
 refine WL.call Tryz.func54 rfl (X0 (.of rfl) X1) rfl (X6t ⟨t2,[],0,nx⟩ (by (try dsimp only); omega) (by (try dsimp only [List.length_nil]); decide) B _ J (hK.mono hJ) (hP.mono hJ) _ hS) ?_
 clear hS
 rintro _ w ⟨rfl,hS⟩
 refine .q 2 rfl ?_
 refine WL.gval rfl rfl (fun hg1=>(by first | exact (.ldsW (cs:=[_,_,_,_]) (.of rfl) hS (k:=0) rfl Xh X7 rfl) | exact (.lds (vs:=[_,_,_,_]) (.of rfl) hS (k:=0) rfl Xh X7 rfl (fun _ _ h=>h)) | exact (.ldsW (cs:=[_,_,_,_]) (.of rfl) hS (k:=1) rfl Xh X7 rfl) | exact (.lds (vs:=[_,_,_,_]) (.of rfl) hS (k:=1) rfl Xh X7 rfl (fun _ _ h=>h)) | exact (.ldsW (cs:=[_,_,_,_]) (.of rfl) hS (k:=2) rfl Xh X7 rfl) | exact (.lds (vs:=[_,_,_,_]) (.of rfl) hS (k:=2) rfl Xh X7 rfl (fun _ _ h=>h)) | exact (.ldsW (cs:=[_,_,_,_]) (.of rfl) hS (k:=3) rfl Xh X7 rfl) | exact (.lds (vs:=[_,_,_,_]) (.of rfl) hS (k:=3) rfl Xh X7 rfl (fun _ _ h=>h)) | exact (.ldsI (.of rfl) hS hx Xh X7 rfl (fun _ _ h=>h)) | exact (.ldsI (.of rfl) hS (At.add hx _) Xh X7 rfl (fun _ _ h=>h)))) rfl ?_
 refine .gcall (T:=fun w=>Sat B w J _) rfl rfl rfl Tryz.func28 rfl (fun hg1=>(X0 (.gd hg1 rfl) X1)) rfl (fun hg1=>X6s ⟨t2,[],0,nx⟩ (by simpa using hg1) B _ J (hK.mono hJ) _ hS) hS ?_
 clear hS; rintro w hS
 refine .gval rfl rfl (fun hg1=>(.move (.of rfl))) rfl (.gval rfl rfl (fun hg1=>(.nes (.gd hg1 rfl) (.gd hg1 rfl))) rfl (.val (.por (.of rfl) (.of rfl) (.of rfl)) rfl (.nil ?_)))
 refine WC.cond rfl (fun hb55=>?_) (fun hb55=>?_)
 ·
  have hc55:=hb55; try simp only [Y4] at hc55
  refine .seq (.q 2 rfl (.ret (X6f Tryz.results25 rfl rfl ?_)))
  refine ⟨_,rfl,?_,X2e hJ ((((hS.drop (k:=0) rfl).drop (k:=0) rfl).drop (k:=0) rfl).drop (k:=0) rfl)⟩
  have hno:X4e s=none:=X6u fun t n ht hn es=>by
   have hr:=X93 (X19 ht).1 n
   rw [← es,hfnd.1] at hr
   injection hr with hr
   subst hr
   have hk:=Xaw t n
   rw [hfnd.2] at hk
   injection hk with hk
   subst hk
   have hav3:av=(Xa2,Go.Lib.decDigits n):=by
    have:some av=some (Xa2,Go.Lib.decDigits n):=hav.symm
    injection this
   have hn2:=hnx n hn (by rw [hav3])
   have ht2:t2=t:=hq2
   subst ht2; subst hn2
   have hright:Xp ⟨t2,[],0,(n:Int)⟩=true:=by
    unfold Xp
    simp only [ht,List.length_nil]
    simp
    omega
   rw [hright,Y9,← es] at hb55
   simp at hb55
  rw [hno]; rfl
 have hc55:=hb55; try simp only [Y4] at hc55
 refine .skip (.seq (.region ?_))
 first | refine WL.val (.fieldAddr 0 (.of rfl) Xj rfl rfl Qs9 rfl) rfl ?_ | refine WL.val (.fieldAddrI 0 (.of rfl) Xj rfl rfl Qs9 rfl) rfl ?_
 first | refine WL.val (.ld (.of rfl) hS (k:=0) rfl Qg9 rfl) rfl ?_ | refine WL.val (.ld (.of rfl) hS (k:=1) rfl Qg9 rfl) rfl ?_ | refine WL.val (.ld (.of rfl) hS (k:=2) rfl Qg9 rfl) rfl ?_ | refine WL.val (.ld (.of rfl) hS (k:=3) rfl Qg9 rfl) rfl ?_ | refine WL.val (.ldI (.of rfl) hS (At.add hx _) Qg9 rfl) rfl ?_
 refine .q 2 rfl (.nil (.ret (X6f Tryz.results25 rfl rfl ?_)))
 refine ⟨_,rfl,?_,X2e hJ ((((hS.drop (k:=0) rfl).drop (k:=0) rfl).drop (k:=0) rfl).drop (k:=0) rfl)⟩
 have hb8:=hb55
 simp only [Yj,bne_eq_false_iff_eq,Y1n] at hb8
 obtain ⟨hr1,hr2⟩:=hb8
 obtain ⟨hr3,hr4,hr5,_⟩:=X1l hr1
 have:=X6m (t:=t2) hr3 (n:=nx.toNat) (by (try dsimp only at hr4 hr5); omega)
 rw [show MSG t2 nx.toNat=s by simpa using hr2] at this
 rw [this]; rfl
end Go.Proofs.YtbciobiiejpdgaaGreatDoor
namespace Rk
open Flt
def W (x y:Nat):Nat→Option Nat
 | 0=>nf x
 | k+1=>(W x y k).bind fun v=>Ieee.double.mul v y
theorem Xdh {x y k r r':Nat} (h:nf r=W x y k) (h':nf r'=Ieee.double.mul r y):nf r'=W x y (k+1):=by
 rw [W,← h,h']
 unfold nf
 cases hn:nan r
 ·rfl
 ·simp [Xd6 (.inl hn)]
def X3q (n:Int):Nat:=(max 0 (min n 64)).toNat
def Xbo (x y:Nat) (k:Nat) (z:Nat):Nat:=if lt 0 z then match W x y k with | none=>z | some v=>if lt z v then z else if lt 0 v then v else 0 else 0
def waitV (x y:Nat) (n:Int) (z:Nat):Nat:=Xbo x y (X3q n) z
theorem X8k {x y k z:Nat} (h:lt 0 z=false):Xbo x y k z=0:=by unfold Xbo; rw [h]; rfl
theorem X2p {x y k z r:Nat} (h:lt 0 z=true) (hr:nf r=W x y k):Xbo x y k z=if nan r || lt z r then z else if lt 0 r then r else 0:=by
 unfold Xbo
 rw [h,if_pos rfl,← hr]
 unfold nf
 cases nan r <;> simp
theorem X8n:nan 0=false:=by decide
theorem Xbm:sv 0=0:=by decide
theorem lt0 (v:Nat):lt 0 v=(!nan v && decide (0<sv v)):=by unfold lt; rw [X8n,Xbm]; simp
theorem le0 (v:Nat):le v 0=(!nan v && decide (sv v≤0)):=by unfold le; rw [X8n,Xbm]; simp
theorem X4z (v:Nat):(le v 0 || nan v)=!lt 0 v:=by
 rw [lt0,le0]
 cases nan v <;> simp
 rw [← decide_not]
 exact decide_eq_decide.2 (by omega)
theorem Xdk {v:Nat} (h:nan v=false):le v 0=!lt 0 v:=by rw [← X4z,h]; simp
theorem X5y (v:Nat):(!feq v v)=nan v:=by unfold feq; cases nan v <;> simp
def top (most:Int):Int:=max 0 (min most 1099511627776)
def cei (x:Nat):Int:=((Ieee.double.read (X78 x)).toInt .zero).getD 0
def cnt (x:Nat) (most:Int):Int:=if nan x || lt (ofI (top most)) x then top most else if lt 0 x then cei x else 0
theorem X5a (most:Int):0≤top most∧top most≤1099511627776:=by unfold top; omega
theorem Xb1 {x:Nat} {most:Int} (h:nan x=false):lt (ofI (top most)) x=decide (top most*(one:Int)<sv x):=by
 obtain ⟨h1,h2⟩:=X5x (X5a most).1 (X5a most).2
 unfold lt; rw [h1,h,h2]; simp
theorem X6a {x:Nat} {most:Int} (h:(nan x || lt (ofI (top most)) x)=false) (h0:lt 0 x=true) :
  (Ieee.double.read (X78 x)).toInt .zero=some (cei x)∧0≤cei x∧cei x≤top most∧sv x≤cei x*one∧(cei x - 1)*one<sv x:=by
 simp only [Yj] at h
 obtain ⟨hn,hl⟩:=h
 rw [Xb1 hn] at hl
 simp only [decide_eq_false_iff_not] at hl
 rw [lt0,hn] at h0
 simp at h0
 have ho:(0:Int)<(one:Int):=Y2q.2 X5l
 have ht:=(X5a most).2
 have hmul:top most*(one:Int)≤1099511627776*(one:Int):=Y2s ht (by omega)
 obtain ⟨c,hc,h1,h2,h3⟩:=Xai hn h0 (by omega)
 have e:cei x=c:=by unfold cei; rw [hc]; rfl
 rw [e]
 refine ⟨hc,by omega,?_,h2,h3⟩
 have:((c:Int) - 1)*one<top most*one:=by omega
 have:=Y14 this (Y2p ho)
 omega
theorem Xa3 {x:Nat} {most c:Int} (hn:nan x=false) (hl:lt (ofI (top most)) x=false) (h0:0≤c) (h1:sv x≤c*one) (h2:c=0∨(c - 1)*one<sv x):cnt x most=c:=by
 have ho:(0:Int)<(one:Int):=Y2q.2 X5l
 have hh:(nan x || lt (ofI (top most)) x)=false:=by rw [hn,hl]; rfl
 unfold cnt
 rw [hh]
 simp only [Yn,if_false]
 cases hp:lt 0 x
 ·simp only [Yn,if_false]
  rw [lt0,hn] at hp
  simp at hp
  rcases h2 with h2 | h2
  ·exact h2.symm
  ·have:(c - 1)*(one:Int)<0*(one:Int):=by omega
   have:=Y14 this (Y2p ho)
   omega
 ·simp only [if_true]
  obtain ⟨_,g1,g2,g3,g4⟩:=X6a hh hp
  rw [lt0,hn] at hp
  simp at hp
  have k1:(cei x - 1)*(one:Int)<c*one:=by omega
  have k1:=Y14 k1 (Y2p ho)
  rcases h2 with h2 | h2
  ·subst h2; omega
  ·have k2:(c - 1)*(one:Int)<cei x*one:=by omega
   have k2:=Y14 k2 (Y2p ho)
   omega
theorem cnt_laws (x:Nat) (most:Int):0≤cnt x most∧cnt x most≤top most∧(nan x=false→cnt x most<top most→sv x≤cnt x most*one)∧(0<cnt x most→nan x=false→(cnt x most - 1)*one<sv x):=by
 have ho:(0:Int)<(one:Int):=Y2q.2 X5l
 have ht:=X5a most
 unfold cnt
 cases hh:(nan x || lt (ofI (top most)) x)
 ·simp only [Yn,if_false]
  cases hp:lt 0 x
  ·simp only [Yn,if_false]
   refine ⟨by omega,ht.1,fun hn _=>?_,by omega⟩
   rw [lt0,hn] at hp
   simp at hp
   omega
  ·simp only [if_true]
   obtain ⟨_,g1,g2,g3,g4⟩:=X6a hh hp
   exact ⟨g1,g2,fun _ _=>g3,fun _ _=>g4⟩
 ·simp only [if_true]
  refine ⟨ht.1,Y3q _,fun _ h=>by omega,fun h hn=>?_⟩
  rw [hn,Xb1 hn] at hh
  simp at hh
  have:(top most - 1)*(one:Int)≤top most*one:=Y2s (by omega) (by omega)
  omega
end Rk
namespace Go.Proofs.YtbciobiiejpdgaaGreatDoor
open Gk Rk Flt
theorem X6x (a:Nat) (w:World) :
  Calls Tryz.prog 101 [F64 a].toArray w (Ret fun v w'=>v=.bool (Flt.nan a)∧w=w'):=by
 refine calls Tryz.func101 rfl Tryz.ntmps101 rfl (.seq (.q 1 rfl (.seq (.t 2 rfl (.val (.fneq (.of rfl) (.of rfl)) rfl (.q 1 rfl (.nil (.ret (Xg Tryz.results101 rfl ?_)))))))))
 exact ⟨_,rfl,by rw [X5y],rfl⟩
theorem Xag (a:Nat) (w:World) :
  Calls Tryz.prog 103 [F64 a].toArray w (Ret fun v w'=>v=.bool (Flt.nan a)∧w=w'):=by
 refine calls Xa6 rfl Tryz.ntmps103 rfl (.seq (.q 1 rfl (.seq (.t 2 rfl (.val (.fneq (.of rfl) (.of rfl)) rfl (.q 1 rfl (.nil (.ret (Xg Tryz.results103 rfl ?_)))))))))
 exact ⟨_,rfl,by rw [X5y],rfl⟩
end Go.Proofs.YtbciobiiejpdgaaGreatDoor
namespace Go.Proofs.YtbciobiiejpdgaaGreatDoor
open Gk Rk Flt
set_option maxRecDepth 20000
theorem Xeu (a:Nat) (B w:World) (I:Im) (As:List Xe) (hS:Sat B w I As) :
  Calls Tryz.prog 103 [F64 a].toArray w (Ret fun v w'=>v=.bool (Flt.nan a)∧Sat B w' I As):=by
 refine calls Xa6 rfl Tryz.ntmps103 rfl (.seq (.q 1 rfl (.seq (.t 2 rfl (.val (.fneq (.of rfl) (.of rfl)) rfl (.q 1 rfl (.nil (.ret (Xg Tryz.results103 rfl ?_)))))))))
 exact ⟨_,rfl,by rw [X5y],hS⟩
theorem Xcv (x y:Nat) (n:Int) (z:Nat) (B w:World) (I:Im) (As:List Xe) (hS:Sat B w I As) :
  Calls Tryz.prog 59 [F64 x,F64 y,I64 n,F64 z].toArray w (Ret fun v w'=>v=F64 (waitV x y n z)∧Sat B w' I As):=by
 refine calls Tryz.func59 rfl Tryz.ntmps59 rfl (.seq (.q 1 rfl (.seq (.seq (.t 1 rfl (.val (.fgtr (.of rfl) (.of rfl)) rfl (.q 1 rfl (.nil ?_))))))))
 refine WC.cond rfl (fun hb11=>?_) (fun hb11=>?_)
 ·
  have hc11:=hb11; try simp only [Y4] at hc11
  refine .seq (.q 1 rfl (.ret (Xg Qr59 rfl ?_)))
  exact ⟨_,rfl,by rw [waitV,X8k (by simpa using hb11)],hS⟩
 have hc11:=hb11; try simp only [Y4] at hc11
 refine .skip (.seq (.seq (.t 1 rfl (.val (.min2 (.of rfl) (.of rfl)) rfl (.val (.max2 (.of rfl) (.of rfl)) rfl (.q 1 rfl (.nil (.block ?_))))))))
 refine WC.loop (σ:=Nat×Nat) (fun ⟨r,j⟩=>[(0,F64 r),(1,F64 y),(3,F64 z),(14,I64 (max 0 (min n 64))),(15,I64 (j:Nat))]) (fun ⟨r,j⟩ w=>nf r=W x y j∧(j:Int)≤max 0 (min n 64)∧Sat B w I As) (fun ⟨r,j⟩=>(max 0 (min n 64)).toNat - j) (x,0) ⟨rfl,rfl,rfl,rfl,rfl,trivial⟩ ⟨rfl,by (try dsimp only); omega,hS⟩ ?_
 rintro ⟨r,j⟩ w ⟨hr,hj,hS⟩
 change WC _ _ _ _ [(0,F64 r),(1,F64 y),(3,F64 z),(14,I64 (max 0 (min n 64))),(15,I64 (j:Nat))] w
 refine .seq (.q 1 rfl (.seq ?_))
 refine WC.cond rfl (fun hb16=>?_) (fun hb16=>?_)
 ·
  have hc16:=hb16; try simp only [Y4] at hc16
  refine .skip (.seq (.block (.t 2 rfl (.fmul hS (.of rfl) (.of rfl) rfl ?_))))
  clear hS; intro fr19 w hr19 hn19 hS
  refine .q 1 rfl (.nil (.region (.run 2 rfl ⟨⟨by omega,by omega⟩,trivial⟩ (.nil ?_))))
  refine ⟨(fr19,j+1),⟨rfl,rfl,rfl,rfl,rfl,trivial⟩,⟨Xdh hr hn19,by (try dsimp only); omega,hS⟩,by (try dsimp only); omega⟩
 have hc16:=hb16; try simp only [Y4] at hc16
 refine .exit (.seq (.block (.seq (.t 1 rfl (.call Tryz.func101 rfl (X0 (.of rfl) X1) rfl (X6x _ _) ?_)))))
 rintro _ _ ⟨rfl,rfl⟩
 refine .q 1 rfl (.gval rfl rfl (fun hg1=>(.move (.of rfl))) rfl (.gval rfl rfl (fun hg1=>(.move (.of rfl))) rfl (.gval rfl rfl (fun hg1=>(.fgtr (.gd hg1 rfl) (.gd hg1 rfl))) rfl (.val (.por (.of rfl) (.of rfl) (.of rfl)) rfl (.q 1 rfl (.nil ?_))))))
 refine WC.cond rfl (fun hb21=>?_) (fun hb21=>?_)
 ·
  have hc21:=hb21; try simp only [Y4] at hc21
  refine .seq (.q 2 rfl (.ret (Xg Qr59 rfl ?_)))
  have ht:j=X3q n:=by unfold X3q; omega
  subst ht
  have hz:lt 0 z=true:=by simpa using hb11
  exact ⟨_,rfl,by rw [waitV,X2p hz hr,if_pos hb21],hS⟩
 have hc21:=hb21; try simp only [Y4] at hc21
 refine .seq (.t 1 rfl (.val (.fgtr (.of rfl) (.of rfl)) rfl (.q 1 rfl (.nil ?_))))
 refine WC.cond rfl (fun hb30=>?_) (fun hb30=>?_)
 ·
  have hc30:=hb30; try simp only [Y4] at hc30
  refine .seq (.q 2 rfl (.ret (Xg Qr59 rfl ?_)))
  have ht:j=X3q n:=by unfold X3q; omega
  subst ht
  have hz:lt 0 z=true:=by simpa using hb11
  exact ⟨_,rfl,by rw [waitV,X2p hz hr,if_neg (by rw [hb21]; simp),if_pos hb30],hS⟩
 have hc30:=hb30; try simp only [Y4] at hc30
 refine .skip (.seq (.q 1 rfl (.ret (Xg Qr59 rfl ?_))))
 have ht:j=X3q n:=by unfold X3q; omega
 subst ht
 have hz:lt 0 z=true:=by simpa using hb11
 exact ⟨_,rfl,by rw [waitV,X2p hz hr,if_neg (by rw [hb21]; simp),if_neg (by rw [hb30]; simp)],hS⟩
theorem X88 (x y:Nat) (n:Int) (z:Nat) (B w:World) (I:Im) (As:List Xe) (hS:Sat B w I As) :
  Calls Tryz.prog 62 [F64 x,F64 y,I64 n,F64 z].toArray w (Ret fun v w'=>v=F64 (waitV x y n z)∧Sat B w' I As):=by
 refine calls Tryz.func62 rfl Tryz.ntmps62 rfl (.seq (.q 1 rfl (.seq (.seq (.t 1 rfl (.val (.fleq (.of rfl) (.of rfl)) rfl (.q 1 rfl (.gval rfl rfl (fun hg1=>(.move (.of rfl))) rfl (.gcall (T:=fun w=>Sat B w I As) rfl rfl rfl Xa6 rfl (fun hg1=>(X0 (.gd hg1 rfl) X1)) rfl (fun hg1=>Xeu _ _ _ _ _ hS) hS ?_)))))))))
 clear hS; rintro w hS
 refine .val (.por (.of rfl) (.of rfl) (.of rfl)) rfl (.nil ?_)
 refine WC.cond rfl (fun hb16=>?_) (fun hb16=>?_)
 ·
  have hc16:=hb16; try simp only [Y4] at hc16
  refine .seq (.q 1 rfl (.ret (Xg Qr62 rfl ?_)))
  exact ⟨_,rfl,by rw [waitV,X8k (by rw [X4z] at hb16; simpa using hb16)],hS⟩
 have hc16:=hb16; try simp only [Y4] at hc16
 refine .skip (.seq (.q 2 rfl (.seq (.seq (.q 1 rfl (.block ?_))))))
 refine WC.loop (σ:=Nat×Nat) (fun ⟨r,j⟩=>[(1,F64 y),(2,I64 n),(3,F64 z),(9,F64 r),(10,I64 (j:Nat))]) (fun ⟨r,j⟩ w=>nf r=W x y j∧(j:Int)≤max 0 (min n 64)∧Sat B w I As) (fun ⟨r,j⟩=>(max 0 (min n 64)).toNat - j) (x,0) ⟨rfl,rfl,rfl,rfl,rfl,trivial⟩ ⟨rfl,by (try dsimp only); omega,hS⟩ ?_
 rintro ⟨r,j⟩ w ⟨hr,hj,hS⟩
 change WC _ _ _ _ [(1,F64 y),(2,I64 n),(3,F64 z),(9,F64 r),(10,I64 (j:Nat))] w
 refine .seq (.seq (.t 4 rfl (.gval rfl rfl (fun hg1=>(.move (.of rfl))) rfl (.gval rfl rfl (fun hg1=>(.lss (.gd hg1 rfl) (.of rfl))) rfl (.val (.pand (.of rfl) (.of rfl) (.of rfl)) rfl (.nil ?_))))))
 refine WC.cond rfl (fun hb24=>?_) (fun hb24=>?_)
 ·
  have hc24:=hb24; try simp only [Y4] at hc24
  refine .skip (.seq (.block (.t 2 rfl (.fmul hS (.of rfl) (.of rfl) rfl ?_))))
  clear hS; intro fr29 w hr29 hn29 hS
  refine .q 1 rfl (.nil (.region (.run 3 rfl ⟨⟨by omega,by omega⟩,trivial⟩ (.nil ?_))))
  refine ⟨(fr29,j+1),⟨rfl,rfl,rfl,rfl,rfl,trivial⟩,⟨Xdh hr hn29,by (try dsimp only); omega,hS⟩,by (try dsimp only); omega⟩
 have hc24:=hb24; try simp only [Y4] at hc24
 refine .exit (.seq (.seq (.t 1 rfl (.call Xa6 rfl (X0 (.of rfl) X1) rfl (Xag _ _) ?_))))
 rintro _ _ ⟨rfl,rfl⟩
 refine .q 1 rfl (.gval rfl rfl (fun hg1=>(.move (.of rfl))) rfl (.gval rfl rfl (fun hg1=>(.move (.of rfl))) rfl (.gval rfl rfl (fun hg1=>(.fgtr (.gd hg1 rfl) (.gd hg1 rfl))) rfl (.val (.por (.of rfl) (.of rfl) (.of rfl)) rfl (.nil ?_)))))
 refine WC.cond rfl (fun hb36=>?_) (fun hb36=>?_)
 ·
  have hc36:=hb36; try simp only [Y4] at hc36
  refine .seq (.q 2 rfl (.ret (Xg Qr62 rfl ?_)))
  have ht:j=X3q n:=by unfold X3q; simp only [Y1u,decide_eq_false_iff_not] at hb24; omega
  subst ht
  have hz:lt 0 z=true:=by rw [X4z] at hb16; simpa using hb16
  exact ⟨_,rfl,by rw [waitV,X2p hz hr,if_pos hb36],hS⟩
 have hc36:=hb36; try simp only [Y4] at hc36
 refine .skip (.seq (.seq (.t 1 rfl (.val (.fleq (.of rfl) (.of rfl)) rfl (.nil ?_)))))
 refine WC.cond rfl (fun hb39=>?_) (fun hb39=>?_)
 ·
  have hc39:=hb39; try simp only [Y4] at hc39
  refine .seq (.q 1 rfl (.ret (Xg Qr62 rfl ?_)))
  have ht:j=X3q n:=by unfold X3q; simp only [Y1u,decide_eq_false_iff_not] at hb24; omega
  subst ht
  have hz:lt 0 z=true:=by rw [X4z] at hb16; simpa using hb16
  have hnr:Flt.nan r=false:=by cases h:Flt.nan r <;> simp [h] at hb36 ⊢
  rw [Xdk hnr] at hb39
  exact ⟨_,rfl,by rw [waitV,X2p hz hr,if_neg (by rw [hb36]; simp),if_neg (by simpa using hb39)],hS⟩
 have hc39:=hb39; try simp only [Y4] at hc39
 refine .skip (.seq (.q 2 rfl (.ret (Xg Qr62 rfl ?_))))
 have ht:j=X3q n:=by unfold X3q; simp only [Y1u,decide_eq_false_iff_not] at hb24; omega
 subst ht
 have hz:lt 0 z=true:=by rw [X4z] at hb16; simpa using hb16
 have hnr:Flt.nan r=false:=by cases h:Flt.nan r <;> simp [h] at hb36 ⊢
 rw [Xdk hnr] at hb39
 exact ⟨_,rfl,by rw [waitV,X2p hz hr,if_neg (by rw [hb36]; simp),if_pos (by simpa using hb39)],hS⟩
theorem Xcl {P : Program} (w : World) {x : Nat} (hn : Flt.nan x = false) : (Extern.MathFloor.toIntegral "math.archCeil" .up [F64 x].toArray).run P w = .ok (F64 (X78 x)) w := by
 have hx:Ieee.double.read x=FloatKind.f64.decode x:=rfl
 have hd:(∃ s m i,FloatKind.f64.decode x=.number s m i)∨∃ s,FloatKind.f64.decode x=.infinity s:=by
  have h1:¬ 9218868437227405312<rg x:=by simpa [Flt.nan] using hn
  rcases Yl (rg x) 9218868437227405312 with h | h
  ·obtain ⟨m,i,e,_⟩:=X2o h
   exact .inl ⟨_,m,i,e⟩
  ·exact .inr ⟨_,X48 (by omega)⟩
 have e:X78 x=FloatKind.f64.encode ((FloatKind.f64.decode x).integral .up):=rfl
 rw [e]
 rcases hd with ⟨s,m,i,hd⟩ | ⟨s,hd⟩
 ·delta Extern.MathFloor.toIntegral
  conv=>lhs; arg 2; whnf
  rw [hd]
  rfl
 ·delta Extern.MathFloor.toIntegral
  conv=>lhs; arg 2; whnf
  rw [hd]
  rfl
theorem Xcp (x:Nat) (hn:Flt.nan x=false) (w:World) :
  Calls Tryz.prog 102 [F64 x].toArray w (Ret fun v w'=>v=F64 (X78 x)∧w=w'):=by
 refine calls Tryz.func102 rfl Tryz.ntmps102 rfl (.seq (.q 1 rfl (.seq (.condT (rfl) (.seq (.t 1 rfl (.val (.extern Tryz.func142 (by kernel_rfl) (by kernel_rfl) (by kernel_rfl) (e := Extern.MathFloor.toIntegral "math.archCeil" .up) (by kernel_rfl) (X0 (.of rfl) X1) (Xcl w hn)) rfl (.q 1 rfl (.nil (.ret (Xg Tryz.results102 rfl ?_)))))))))))
 exact ⟨_,rfl,rfl,rfl⟩
theorem Xbs (x:Nat) (most:Int) (w:World) :
  Calls Tryz.prog 60 [F64 x,I64 most].toArray w (Ret fun v w'=>v=I64 (cnt x most)∧w=w'):=by
 refine calls Tryz.func60 rfl Tryz.ntmps60 rfl (.seq (.q 1 rfl (.seq (.t 1 rfl (.val (.min2 (.of rfl) (.of rfl)) rfl (.val (.max2 (.of rfl) (.of rfl)) rfl (.q 1 rfl (.nil (.seq (.block (.seq (.t 1 rfl (.call Tryz.func101 rfl (X0 (.of rfl) X1) rfl (X6x _ _) ?_)))))))))))))
 rintro _ _ ⟨rfl,rfl⟩
 refine .q 1 rfl (.gval rfl rfl (fun hg1=>(.move (.of rfl))) rfl (.gval rfl rfl (fun hg1=>(.move (.of rfl))) rfl (.gval rfl rfl (fun hg1=>(.toF (.gd hg1 rfl) rfl Qu27)) rfl (.gval rfl rfl (fun hg1=>(.fgtr (.gd hg1 rfl) (.gd hg1 rfl))) rfl (.val (.por (.of rfl) (.of rfl) (.of rfl)) rfl (.q 1 rfl (.nil ?_)))))))
 refine WC.cond rfl (fun hb8=>?_) (fun hb8=>?_)
 ·
  have hc8:=hb8; try simp only [Y4] at hc8
  refine .seq (.q 2 rfl (.ret (Xg Tryz.results60 rfl ?_)))
  exact ⟨_,rfl,by rw [cnt,if_pos (show (Flt.nan x || lt (ofI (top most)) x)=true from hb8)]; rfl,rfl⟩
 have hc8:=hb8; try simp only [Y4] at hc8
 refine .seq (.t 1 rfl (.val (.fgtr (.of rfl) (.of rfl)) rfl (.q 1 rfl (.nil ?_))))
 refine WC.cond rfl (fun hb18=>?_) (fun hb18=>?_)
 ·
  have hc18:=hb18; try simp only [Y4] at hc18
  refine .seq ?_
  have hnx:Flt.nan x=false:=by cases h:Flt.nan x <;> simp [h] at hb8 ⊢
  have hcs:=X6a (x:=x) (most:=most) hb8 hb18
  have htp:=X5a most
  refine .t 1 rfl (.call Tryz.func102 rfl (X0 (.of rfl) X1) rfl (Xcp x hnx _) ?_)
  rintro _ _ ⟨rfl,rfl⟩
  refine .val (.ofF (.of rfl) rfl Qu3 hcs.1 hcs.2.1 (by omega)) rfl (.q 1 rfl (.nil (.ret (Xg Tryz.results60 rfl ?_))))
  exact ⟨_,rfl,by rw [cnt,if_neg (show ¬ _ by rw [show (Flt.nan x || lt (ofI (top most)) x)=false from hb8]; simp),if_pos hb18],rfl⟩
 have hc18:=hb18; try simp only [Y4] at hc18
 refine .skip (.seq (.q 1 rfl (.ret (Xg Tryz.results60 rfl ?_))))
 exact ⟨_,rfl,by rw [cnt,if_neg (show ¬ _ by rw [show (Flt.nan x || lt (ofI (top most)) x)=false from hb8]; simp),if_neg (by rw [hb18]; simp)],rfl⟩
theorem X6z (x:Nat) (most:Int) (w:World) :
  Calls Tryz.prog 61 [F64 x,I64 most].toArray w (Ret fun v w'=>v=I64 (cnt x most)∧w=w'):=by
 obtain ⟨w0,hw0⟩:∃ w0,w=w0:=⟨_,rfl⟩
 rw [show (fun (v:Value) (w':World)=>v=I64 (cnt x most)∧w=w')=(fun v w'=>v=I64 (cnt x most)∧w0=w') by rw [hw0]]
 refine calls Tryz.func61 rfl Tryz.ntmps61 rfl (.seq (.q 1 rfl (.seq (.t 1 rfl (.val (.min2 (.of rfl) (.of rfl)) rfl (.val (.max2 (.of rfl) (.of rfl)) rfl (.q 1 rfl (.nil (.seq (.seq (.t 1 rfl (.call Xa6 rfl (X0 (.of rfl) X1) rfl (Xag _ _) ?_))))))))))))
 rintro _ _ ⟨rfl,rfl⟩
 refine .q 1 rfl (.gval rfl rfl (fun hg1=>(.move (.of rfl))) rfl (.gval rfl rfl (fun hg1=>(.move (.of rfl))) rfl (.gval rfl rfl (fun hg1=>(.toF (.gd hg1 rfl) rfl Qu27)) rfl (.gval rfl rfl (fun hg1=>(.fgtr (.gd hg1 rfl) (.gd hg1 rfl))) rfl (.val (.por (.of rfl) (.of rfl) (.of rfl)) rfl (.nil ?_))))))
 refine WC.cond rfl (fun hb19=>?_) (fun hb19=>?_)
 ·
  have hc19:=hb19; try simp only [Y4] at hc19
  refine .seq (.q 2 rfl (.ret (Xg Tryz.results61 rfl ?_)))
  exact ⟨_,rfl,by rw [cnt,if_pos (show (Flt.nan x || lt (ofI (top most)) x)=true from hb19)]; rfl,hw0.symm⟩
 have hc19:=hb19; try simp only [Y4] at hc19
 refine .skip (.seq ?_)
 have htp:=X5a most
 have hnx:Flt.nan x=false:=by cases h:Flt.nan x <;> simp [h] at hb19 ⊢
 have hlx:lt (ofI (top most)) x=false:=by have h:=hb19; rw [hnx] at h; exact h
 refine .q 1 rfl (.seq (.q 2 rfl (.seq (.block ?_))))
 refine WC.loop (σ:=Int×Int) (fun ⟨lo,hi⟩=>[(0,F64 x),(6,I64 lo),(7,I64 hi)]) (fun ⟨lo,hi⟩ w=>0≤lo∧lo≤hi∧hi≤top most∧Flt.sv x≤hi*one∧(lo=0∨(lo - 1)*one<Flt.sv x)∧w=w0) (fun ⟨lo,hi⟩=>(hi - lo).toNat) (0,max 0 (min most 1099511627776)) ⟨rfl,rfl,rfl,trivial⟩ ⟨by (try dsimp only); omega,htp.1,Y3q _,by rw [Xb1 hnx] at hlx; simp at hlx; exact hlx,.inl rfl,hw0⟩ ?_
 rintro ⟨lo,hi⟩ w ⟨h0,h1,h2,h3,h4,hw⟩
 change WC _ _ _ _ [(0,F64 x),(6,I64 lo),(7,I64 hi)] w
 refine .seq (.seq (.q 3 rfl ?_))
 refine WC.cond rfl (fun hb24=>?_) (fun hb24=>?_)
 ·
  have hc24:=hb24; try simp only [Y4] at hc24
  refine .skip (.block (.seq (.region (.run 3 rfl ⟨⟨by omega,by omega⟩,trivial⟩ ?_))))
  refine WL.val (.quo (.of rfl) (.of rfl) (by omega) (by omega) (by rw [IntKind.wrap_i64]; omega)) rfl ?_
  refine .q 1 rfl (.nil (.seq (.t 1 rfl (.val (.toF (.of rfl) rfl Qu27) rfl (.q 1 rfl (.val (.fgeq (.of rfl) (.of rfl)) rfl (.nil ?_)))))))
  refine WC.cond rfl (fun hb32=>?_) (fun hb32=>?_)
  ·
   have hc32:=hb32; try simp only [Y4] at hc32
   refine .q 2 rfl ?_
   have hm:=X5x (c:=(lo+hi) / 2) (by omega) (by omega)
   have hle:Flt.sv x≤(lo+hi) / 2*one:=by
    have h:=hb32
    unfold Flt.le at h
    rw [hnx,hm.1,hm.2] at h
    simpa using h
   exact ⟨(lo,(lo+hi) / 2),⟨rfl,rfl,rfl,trivial⟩,⟨h0,by (try dsimp only); omega,by (try dsimp only); omega,hle,h4,hw⟩,by (try dsimp only); omega⟩
  have hc32:=hb32; try simp only [Y4] at hc32
  refine .region (.run 3 rfl ⟨⟨by omega,by omega⟩,trivial⟩ (.nil ?_))
  have hm:=X5x (c:=(lo+hi) / 2) (by omega) (by omega)
  have hle:(lo+hi) / 2*one<Flt.sv x:=by
   have h:=hb32
   unfold Flt.le at h
   rw [hnx,hm.1,hm.2] at h
   simpa using h
  exact ⟨((lo+hi) / 2+1,hi),⟨rfl,rfl,rfl,trivial⟩,⟨by (try dsimp only); omega,by (try dsimp only); omega,h2,h3,.inr (by (try dsimp only); rw [show (lo+hi) / 2+1 - 1=(lo+hi) / 2 by omega]; exact hle),hw⟩,by (try dsimp only); omega⟩
 have hc24:=hb24; try simp only [Y4] at hc24
 refine .exit (.seq (.q 2 rfl (.ret (Xg Tryz.results61 rfl ?_))))
 have e:lo=hi:=by omega
 subst e
 exact ⟨_,rfl,by rw [Xa3 hnx hlx h0 h3 h4],hw.symm⟩
end Go.Proofs.YtbciobiiejpdgaaGreatDoor
namespace Xm
open Ul Pc Gk Pat Tk Tr
def nt0:Nt:=⟨[],[],0,0⟩
def Xa0:List Nt→List Nt→Bool
 | _,[]=>false
 | q,n::r=>(q.any fun x=>x.ticket == n.ticket) || Xa0 (q ++ [n]) r
def X2z (q l:List Nt):List Nt×Nat:=if (l.any fun n=>!Xp n)=true then (q,1) else if Xa0 q l=true then (q,7) else if 64<q.length+l.length then (q,5) else (q ++ l,0)
def X21:Option Nt→List Nt→Option Nt
 | b,[]=>b
 | none,n::r=>X21 (some n) r
 | some b,n::r=>X21 (some (if n.next<b.next then n else b)) r
def X9 (q:List Nt) (now:Int):Nt×Bool:=match X21 none q with
 | none=>(nt0,false)
 | some b=>if now<b.next then (nt0,false) else (b,true)
structure Qc where
 x:Nat
 y:Nat
 z:Nat
 tries:Int
def Xbv (c:Qc):Int:=max 1 (min c.tries 9)
def X13 (c:Qc) (n:Nt) (now:Int):Nt:=⟨n.ticket,n.url,n.tries+1,min (now+Rk.cnt (Rk.waitV c.x c.y n.tries c.z) 1099511627776) 1099511627776⟩
def ixN (q:List Nt) (t:List UInt8):Int:=Xq (fun n=>n.ticket == t) q 0
def X12 (c:Qc) (q:List Nt) (t:List UInt8) (ok:Bool) (now:Int):List Nt×Nat:=match q[(ixN q t).toNat]? with
 | none=>(q,6)
 | some n=>if ixN q t<0 then (q,6) else if ok=true∨Xbv c≤n.tries+1 then (q.eraseIdx (ixN q t).toNat,0) else (q.set (ixN q t).toNat (X13 c n now),0)
def QOk (q:List Nt):Prop:=q.length≤64∧∀ n∈q,Xp n=true
theorem X37:∀ (a b:List Nt) (s:Option Nt),X21 s (a ++ b)=X21 (X21 s a) b
 | [],b,s=>rfl
 | m::r,b,none=>X37 r b _
 | m::r,b,some _=>X37 r b _
theorem X7u (x:Nat):0≤Rk.cnt x 1099511627776∧Rk.cnt x 1099511627776≤1099511627776:=by
 have h:=Rk.cnt_laws x 1099511627776
 have h2:Rk.top 1099511627776=1099511627776:=by decide
 rw [h2] at h
 exact ⟨h.1,h.2.1⟩
theorem Xea {q l:List Nt} (h:QOk q):QOk (X2z q l).1:=by
 unfold X2z
 split
 ·exact h
 ·rename_i h1
  split
  ·exact h
  ·split
   ·exact h
   ·rename_i h3
    refine ⟨by (try dsimp only); rw [Y2]; omega,fun n hn=>?_⟩
    rcases Y16.1 hn with e | e
    ·exact h.2 n e
    ·have h9:=Y2n.1 (Bool.not_eq_true _ ▸ h1) n e
     simpa using h9
theorem X91 {c:Qc} {q:List Nt} {t:List UInt8} {ok:Bool} {now:Int} (h:QOk q) (h0:0≤now):QOk (X12 c q t ok now).1:=by
 unfold X12
 split
 ·exact h
 ·rename_i n hn
  split
  ·exact h
  ·split
   ·exact ⟨Y34 (List.length_eraseIdx_le _ _) h.1,fun m hm=>h.2 m (List.mem_of_mem_eraseIdx hm)⟩
   ·rename_i hc
    refine ⟨by (try dsimp only); rw [Y3n]; exact h.1,fun m hm=>?_⟩
    rcases Y37 hm with e | e
    ·exact h.2 m e
    ·subst e
     have hr:=h.2 n (Yc hn)
     have hct:=X7u (Rk.waitV c.x c.y n.tries c.z)
     have hl:n.tries+1<Xbv c:=by
      rcases Int.lt_or_le (n.tries+1) (Xbv c) with e | e
      ·exact e
      ·exact absurd (.inr e) hc
     unfold Xbv at hl
     unfold Xp at hr ⊢
     simp only [Yh,decide_eq_true_eq] at hr ⊢
     obtain ⟨⟨⟨⟨⟨g1,g2⟩,g3⟩,g4⟩,g5⟩,g6⟩:=hr
     exact ⟨⟨⟨⟨⟨g1,g2⟩,by (try dsimp only [X13]); omega⟩,by (try dsimp only [X13]); omega⟩,by (try dsimp only [X13]); omega⟩,by (try dsimp only [X13]); omega⟩
end Xm
namespace Go.Proofs.YtbciobiiejpdgaaGreatDoor
open Gk Ul Pc Pat Xm Tr Tk
set_option maxRecDepth 4000
theorem X1g:Tryz.prog.info? 45=some Tryz.t45:=by kernel_rfl
theorem X9g:Bld Tryz.prog 113 [(0,1),(1,1),(2,1),(3,1),(4,1)] [.int .i64 0,.float .f64 0,.float .f64 0,.float .f64 0,.slice none 0 0]:=X4d X1c Tryz.zeroValue113 (fun w=>by simp [go_sem])
theorem X2f (a:Option Addr) (cap:Nat) (l:List (Nt)) (hln:l.length≤9223372036854775807) (pr:Nt→Bool) (fid:FuncId) (fn:Func) (hfn:Tryz.prog.funcs[fid]?=some fn) (hcal:Xi fn=true) (capv:List Value) (B w:World) (I:Im) (As:List Xe) (hE:∀ w,Sat B w I As→X6o w X3 4 a l) (hf:∀ (r:Nt) (hr:r∈l) w,Sat B w I As→Calls Tryz.prog fid ([Value.agg (X3 r).toArray] ++ capv).toArray w (Ret fun v w'=>v=.bool (pr r)∧Sat B w' I As)) (hS:Sat B w I As) :
  Calls Tryz.prog 98 [.slice a l.length cap,.func (.func fid) #[] capv.toArray].toArray w (Ret fun v w'=>v=I64 (Xq pr l 0)∧Sat B w' I As):=by
 refine calls Tryz.func98 rfl Tryz.ntmps98 rfl (.seq (.q 1 rfl (.seq (.seq (.region (.run 3 rfl ⟨⟨_,Xt⟩,trivial⟩ (.nil (.block (.loop (σ:=Nat) (fun i=>[(0,.slice a l.length cap),(1,.func (.func fid) #[] capv.toArray),(7,I64 (l.length:Nat)),(8,I64 (i:Nat))]) (fun i w=>i≤l.length∧(∀ (j:Nat) t,j<i→l[j]?=some t→pr t=false)∧Sat B w I As) (fun i=>l.length - i) 0 ⟨rfl,rfl,rfl,rfl,trivial⟩ ⟨Yk _,fun _ _ h=>absurd h (by omega),hS⟩ ?_)))))))))
 rintro i w ⟨hi,hno,hS⟩
 change WC _ _ _ _ [(0,.slice a l.length cap),(1,.func (.func fid) #[] capv.toArray),(7,I64 (l.length:Nat)),(8,I64 (i:Nat))] w
 refine .seq (.q 1 rfl (.seq ?_))
 refine WC.cond rfl (fun hb9=>?_) (fun hb9=>?_)
 ·
  have hc9:=hb9; try simp only [Y4] at hc9
  refine .skip (.seq (.block (.seq ?_)))
  obtain ⟨r,hr⟩:∃ r,l[i]?=some r:=⟨_,Y1 (by omega)⟩
  obtain ⟨p,rfl,hx⟩:=hE w hS i r hr
  refine .q 2 rfl (.seq (.t 3 rfl ?_))
  first | refine WL.val (.indexAddr (.of rfl) (.of rfl) (by omega) (by omega) Xt X7) rfl ?_ | refine WL.val (.indexAddrI (.of rfl) (.of rfl) (by omega) (by omega) Xt X7) rfl ?_
  refine .val (.ldR (.of rfl) hx Xh X7 rfl) rfl (.vcall (cap:=capv) hfn hcal (.of rfl) (X0 (.of rfl) X1) rfl (hf r (Yc hr) w hS) ?_)
  clear hS
  rintro _ w ⟨rfl,hS⟩
  refine .nil ?_
  refine WC.cond rfl (fun hb16=>?_) (fun hb16=>?_)
  ·
   have hc16:=hb16; try simp only [Y4] at hc16
   refine .seq (.q 2 rfl (.ret (Xg Tryz.results98 rfl ?_)))
   exact ⟨_,rfl,by rw [X2u hno hr hb16],hS⟩
  have hc16:=hb16; try simp only [Y4] at hc16
  refine .skip (.region (.run 2 rfl ⟨⟨by omega,by omega⟩,trivial⟩ (.nil ?_)))
  refine ⟨i+1,⟨rfl,rfl,rfl,rfl,trivial⟩,⟨by (try dsimp only); omega,fun j t hj ht=>?_,hS⟩,by (try dsimp only); omega⟩
  rcases Yl j i with h1 | h1
  ·exact hno j t h1 ht
  ·have e:j=i:=by omega
   subst e
   rw [hr] at ht; cases ht
   exact hb16
 have hc9:=hb9; try simp only [Y4] at hc9
 refine .exit (.seq (.q 1 rfl (.ret (Xg Tryz.results98 rfl ?_))))
 exact ⟨_,rfl,by rw [X28 (fun j t ht=>hno j t (by have:=(Y0.1 ht).1; omega) ht)],hS⟩
theorem X3g (a:Option Addr) (cap:Nat) (l:List (Nt)) (hln:l.length≤9223372036854775807) (pr:Nt→Bool) (fid:FuncId) (fn:Func) (hfn:Tryz.prog.funcs[fid]?=some fn) (hcal:Xi fn=true) (capv:List Value) (B w:World) (I:Im) (As:List Xe) (hE:∀ w,Sat B w I As→X6o w X3 4 a l) (hf:∀ (r:Nt) (hr:r∈l) w,Sat B w I As→Calls Tryz.prog fid ([Value.agg (X3 r).toArray] ++ capv).toArray w (Ret fun v w'=>v=.bool (pr r)∧Sat B w' I As)) (hS:Sat B w I As) :
  Calls Tryz.prog 52 [.slice a l.length cap,.func (.func fid) #[] capv.toArray].toArray w (Ret fun v w'=>v=.bool (l.any pr)∧Sat B w' I As):=by
 refine calls Tryz.func52 rfl Tryz.ntmps52 rfl (.seq (.q 1 rfl (.seq (.t 2 rfl (.call Tryz.func98 rfl (X0 (.of rfl) (X0 (.of rfl) X1)) rfl (X2f a cap l hln pr fid fn hfn hcal capv B _ I As hE hf hS) ?_)))))
 clear hS
 rintro _ w ⟨rfl,hS⟩
 refine .q 2 rfl (.nil (.ret (Xg Tryz.results52 rfl ?_)))
 exact ⟨_,rfl,by rw [← Xw pr l 0],hS⟩
theorem nt_vec {B w:World} {I:Im} {As:List Xe} {k c:Nat} {a:Option Addr} {l:List Nt} (hS:Sat B w I As) (hk:As[k]?=some (Vec 45 4 (.slice a l.length c) l.length (X6 X3 (l)))):X6o w X3 4 a l:=fun i r hr=>by
 obtain ⟨b,cap,rest,hv,_,_,_,_,hSo⟩:=hS.vecOpen hk (by have:=(Y0.1 hr).1; omega)
 injection hv with h1 h2 h3
 subst h1
 have hb:=hSo.block (k:=k) (by rw [Y3f ((Y0.1 hk).1)]; rfl)
 refine ⟨_,rfl,fun j v hj=>?_⟩
 rw [Addr.add_add]
 have h3:=X38 (cells:=X3) (s:=4) (fun _=>rfl) hr hj
 have:=X1f hb (o:=i*4+j) (by rw [Ym (Y0.1 h3).1]; exact h3)
 rw [X1e,Y5]
 exact this
theorem X1a {α:Type} {cells:α→List Value} (h:∀ r,(cells r).all Value.oneCell'=true):∀ l:List α,(X6 cells l).all Value.oneCell'=true
 | []=>rfl
 | x::l=>by
  show (cells x ++ X6 cells l).all _=true
  rw [List.all_append,h x,X1a h l]; rfl
theorem Xep (r:Nt) (t:List UInt8) (b3:Nat) (B w:World) (I:Im) (As:List Xe) (hS:Sat B w I (blk b3 [S t] 9::As)) :
  Calls Tryz.prog 100 [.agg (X3 r).toArray,ptr b3 0].toArray w (Ret fun v w'=>v=.bool (r.ticket == t)∧Sat B w' I (blk b3 [S t] 9::As)):=by
 refine calls Tryz.func100 rfl Tryz.ntmps100 rfl (.seq (.region (.boxA (cs:=[_,_,_,_]) hS (.of rfl) rfl ?_)))
 clear hS; intro b2 w hS
 refine .q 1 rfl (.nil (.seq (.region ?_)))
 first | refine WL.val (.fieldAddr 0 (.of rfl) Xj rfl rfl Qs9 rfl) rfl ?_ | refine WL.val (.fieldAddrI 0 (.of rfl) Xj rfl rfl Qs9 rfl) rfl ?_
 first | refine WL.val (.ld (.of rfl) hS (k:=0) rfl Qg9 rfl) rfl ?_ | refine WL.val (.ld (.of rfl) hS (k:=1) rfl Qg9 rfl) rfl ?_
 first | refine WL.val (.ld (.of rfl) hS (k:=0) rfl Qg9 rfl) rfl ?_ | refine WL.val (.ld (.of rfl) hS (k:=1) rfl Qg9 rfl) rfl ?_
 refine .q 2 rfl (.nil (.ret (Xg Tryz.results100 rfl ?_)))
 exact ⟨_,rfl,rfl,hS.drop (k:=0) rfl⟩
theorem Xdo (a:Option Addr) (c:Nat) (l:List Nt) (hl:l.length≤100000) (t:List UInt8) (B w:World) (I:Im) (As:List Xe) (hE:∀ (w:World) (X:Xe),Sat B w I (X::As)→X6o w X3 4 a l) (hS:Sat B w I As) :
  Calls Tryz.prog 56 [.slice a l.length c,S t].toArray w (Ret fun v w'=>v=I64 (ixN l t)∧Sat B w' I As):=by
 refine calls Tryz.func56 rfl Tryz.ntmps56 rfl (.seq (.region (.box1 hS (.of rfl) rfl rfl ?_)))
 clear hS; intro b3 w hS
 refine .q 1 rfl (.nil (.seq (.t 1 rfl (.val (.makeFunc (X0 (.of rfl) X1)) rfl (.call Tryz.func98 rfl (X0 (.of rfl) (X0 (.of rfl) X1)) rfl (X2f a c l (by omega) (fun r=>r.ticket == t) 100 _ Tryz.func100 rfl [ptr b3 0] B _ I _ (fun w h=>hE w _ h) (fun r hr w h=>Xep r t b3 B w I _ h) hS) ?_)))))
 clear hS
 rintro _ w ⟨rfl,hS⟩
 refine .q 1 rfl (.nil (.ret (Xg Tryz.results56 rfl ?_)))
 exact ⟨_,rfl,rfl,hS.drop (k:=0) rfl⟩
theorem X3i (a:Option Addr) (c:Nat) (l:List Nt) (hl:l.length≤100000) (B w:World) (I:Im) (hR:RS I a 4 l.length (X6 X3 l)) (As:List Xe) (hS:Sat B w I As) :
  Calls Tryz.prog 55 [.slice a l.length c].toArray w (Ret fun v w'=>Sat B w' I (Vec 45 4 v (l).length (X6 X3 (l))::As)):=by
 refine calls Qf55 rfl Tryz.ntmps55 rfl (.seq (.q 1 rfl (.seq (.seq (.t 1 rfl (.val (Ex.slNil (.of rfl) (.of rfl) Xt) rfl (.nil ?_)))))))
 refine WC.cond rfl (fun hb4=>?_) (fun hb4=>?_)
 ·
  have hc4:=hb4; try simp only [Y4] at hc4
  refine .seq (.q 1 rfl (.ret (Xg Tryz.results55 rfl ?_)))
  cases a with
  | some p=>simp at hb4
  | none =>
  have h0:l=[]:=by
   cases l with
   | nil=>rfl
   | cons x l=>obtain ⟨p,h,_⟩:=hR.2 (by simp); cases h
  subst h0
  exact ⟨_,rfl,hS.vecNil 45 4⟩
 have hc4:=hb4; try simp only [Y4] at hc4
 refine .skip (.seq (.region (.buildSlice (cs:=[]) hS X5 Xt X7 X50 rfl rfl rfl rfl ?_)))
 clear hS; intro b5 w hS
 refine .q 1 rfl ?_
 replace hS:=hS.vecOf (k:=0) (E:=45) (size:=4) (n:=0) rfl rfl (Yk _)
 try dsimp only [List.set] at hS
 refine WL.appendF (size:=4) (bytes:=48) hS (.of rfl) (.of rfl) hR (k:=0) rfl Xt (i:=Tryz.t45) (by kernel_rfl) rfl rfl rfl rfl (X1a (fun r=>rfl) l) ⟨by omega,by unfold maxLen; omega⟩ rfl ?_
 clear hS; intro v7 w hS
 rw [Y5,Y6] at hS
 refine .q 1 rfl (.nil (.ret (Xg Tryz.results55 rfl ?_)))
 exact ⟨_,rfl,hS⟩
theorem Xa5 (qb:Nat) (lim:Int) (x y z:Nat) (a:Option Addr) (c:Nat) (q:List Nt) (hq:q.length≤64) (B w:World) (I:Im) (hR:RS I a 4 q.length (X6 X3 q)) (hc:q.length≤c) (As:List Xe) (hS:Sat B w I (blk qb [I64 lim,F64 x,F64 y,F64 z,.slice a q.length c] 113::As)) :
  Calls Tryz.prog 20 [ptr qb 0].toArray w (Ret fun v w'=>∃ J ra rc,v=.slice ra q.length rc∧Le I J∧q.length≤rc∧RS J ra 4 q.length (X6 X3 q)∧Sat B w' J (blk qb [I64 lim,F64 x,F64 y,F64 z,.slice a q.length c] 113::As)):=by
 refine calls Tryz.func20 rfl Tryz.ntmps20 rfl (.seq (.q 1 rfl (.seq (.t 2 rfl ?_))))
 first | refine WL.val (.fieldAddr 4 (.of rfl) X1c rfl rfl Xv rfl) rfl ?_ | refine WL.val (.fieldAddrI 4 (.of rfl) X1c rfl rfl Xv rfl) rfl ?_
 refine .val (.ld (.of rfl) hS (k:=0) rfl X1r rfl) rfl (.call Qf55 rfl (X0 (.of rfl) X1) rfl (X3i a c q (by omega) B _ I hR _ hS) ?_)
 clear hS
 rintro v9 w hS
 refine .q 1 rfl (.nil (.ret (Xg Tryz.results20 rfl ?_)))
 obtain ⟨ra,rc,rfl,hrc,_⟩:=hS.vecSlice (k:=0) rfl
 obtain ⟨J,hJ,hRS,hS⟩:=hS.freezeVec (k:=0) rfl
 exact ⟨_,rfl,J,ra,rc,rfl,hJ,hrc,hRS,hS⟩
theorem Xay (cs:List Value) (x y z:Nat) (tr:Int) (h24:cs[24]?=some (F64 x)) (h25:cs[25]?=some (F64 y)) (h26:cs[26]?=some (F64 z)) (h27:cs[27]?=some (I64 tr)) (B w:World) (I:Im) (As:List Xe) (hS:Sat B w I As) :
  Calls Tryz.prog 11 [.agg cs.toArray].toArray w (Ret fun v w'=>∃ qb,v=ptr qb 0∧Sat B w' I (blk qb [I64 (max 1 (min tr 9)),F64 x,F64 y,F64 z,.slice none 0 0] 113::As)):=by
 refine calls Tryz.func11 rfl Tryz.ntmps11 rfl (.seq (.region (.boxA (cs:=cs) hS (.of rfl) rfl ?_)))
 clear hS; intro b1 w hS
 refine .q 1 rfl (.nil (.seq (.region ?_)))
 first | refine WL.val (.fieldAddr 27 (.of rfl) X6d rfl rfl Qs3 rfl) rfl ?_ | refine WL.val (.fieldAddrI 27 (.of rfl) X6d rfl rfl Qs3 rfl) rfl ?_
 refine .val (.ld (v:=I64 tr) (.of rfl) hS (k:=0) rfl Qg3 h27) rfl (.val (.min2 (.of rfl) (.of rfl)) rfl (.val (.max2 (.of rfl) (.of rfl)) rfl ?_))
 first | refine WL.val (.fieldAddr 24 (.of rfl) X6d rfl rfl X45 rfl) rfl ?_ | refine WL.val (.fieldAddrI 24 (.of rfl) X6d rfl rfl X45 rfl) rfl ?_
 refine .val (.ld (v:=F64 x) (.of rfl) hS (k:=0) rfl X6e h24) rfl ?_
 first | refine WL.val (.fieldAddr 25 (.of rfl) X6d rfl rfl X45 rfl) rfl ?_ | refine WL.val (.fieldAddrI 25 (.of rfl) X6d rfl rfl X45 rfl) rfl ?_
 refine .val (.ld (v:=F64 y) (.of rfl) hS (k:=0) rfl X6e h25) rfl ?_
 first | refine WL.val (.fieldAddr 26 (.of rfl) X6d rfl rfl X45 rfl) rfl ?_ | refine WL.val (.fieldAddrI 26 (.of rfl) X6d rfl rfl X45 rfl) rfl ?_
 refine .val (.ld (v:=F64 z) (.of rfl) hS (k:=0) rfl X6e h26) rfl (.val (.build (cs:=[_,_,_,_,_]) (X2 (.of rfl) (X2 (.of rfl) (X2 (.of rfl) (X2 (.of rfl) X5)))) X9g rfl) rfl (.boxA (cs:=[_,_,_,_,_]) hS (.of rfl) rfl ?_))
 clear hS; intro b14 w hS
 refine .q 1 rfl (.nil (.ret (Xg Tryz.results11 rfl ?_)))
 exact ⟨_,rfl,b14,rfl,(hS.drop (k:=1) rfl)⟩
theorem X2g (qb:Nat) (lim:Int) (x y z:Nat) (a:Option Addr) (c:Nat) (q:List Nt) (hq:q.length≤64) (B w:World) (I:Im) (hR:RS I a 4 q.length (X6 X3 q)) (hc:q.length≤c) (hqr:∀ n∈q,Xp n=true) (now:Int) (hn0:0≤now) (hn1:now≤1099511627776) (As:List Xe) (hS:Sat B w I (blk qb [I64 lim,F64 x,F64 y,F64 z,.slice a q.length c] 113::As)) :
  Calls Tryz.prog 17 [ptr qb 0,I64 now].toArray w (Ret fun v w'=>v=.tuple #[.agg (X3 (X9 q now).1).toArray,.bool (X9 q now).2]∧Sat B w' I (blk qb [I64 lim,F64 x,F64 y,F64 z,.slice a q.length c] 113::As)):=by
 refine calls Qf17 rfl Tryz.ntmps17 rfl (.seq (.region (.allocA (cs:=[_,_,_,_]) hS X50 rfl ?_)))
 clear hS; intro b4 w hS
 refine .q 1 rfl (.nil (.seq (.region (.val (.build (cs:=[_,_,_,_]) (X2 (.of rfl) X5) X2l rfl) rfl (.allocA (cs:=[_,_,_,_]) hS X50 rfl ?_)))))
 clear hS; intro b6 w hS
 first | refine WL.stA hS (k:=0) rfl (.of rfl) (.of rfl) rfl X7 rfl (by simp) ?_ | refine WL.stA hS (k:=1) rfl (.of rfl) (.of rfl) rfl X7 rfl (by simp) ?_ | refine WL.stA hS (k:=2) rfl (.of rfl) (.of rfl) rfl X7 rfl (by simp) ?_
 clear hS; intro w hS; try dsimp only [List.set] at hS
 try simp only [Yb,Y6,Y8,Y3,Y7,Yd,Y5] at hS
 refine .nil (.seq (.seq (.t 2 rfl ?_)))
 first | refine WL.val (.fieldAddr 4 (.of rfl) X1c rfl rfl Xv rfl) rfl ?_ | refine WL.val (.fieldAddrI 4 (.of rfl) X1c rfl rfl Xv rfl) rfl ?_
 first | refine WL.val (.ld (.of rfl) hS (k:=0) rfl X1r rfl) rfl ?_ | refine WL.val (.ld (.of rfl) hS (k:=1) rfl X1r rfl) rfl ?_ | refine WL.val (.ld (.of rfl) hS (k:=2) rfl X1r rfl) rfl ?_
 refine .run 2 rfl ⟨⟨_,Xt⟩,trivial⟩ (.nil (.block ?_))
 have hS0:=hS; clear hS
 refine .loop (σ:=Nat×Nt) (fun ⟨i,b⟩=>[(1,I64 now),(4,ptr b4 0),(6,ptr b6 0),(13,.slice a q.length c),(14,I64 (q.length:Nat)),(15,I64 (i:Nat))]) (fun ⟨i,b⟩ w=>i≤q.length∧(X21 none (q.take i)=none∧i=0∧b=⟨[],[],0,1099511627777⟩∨X21 none (q.take i)=some b)∧Sat B w I (blk b6 [S b.ticket,S b.url,I64 b.tries,I64 b.next] 45::blk b4 [S [],S [],I64 0,I64 0] 45::blk qb [I64 lim,F64 x,F64 y,F64 z,.slice a q.length c] 113::As)) (fun ⟨i,b⟩=>q.length - i) (0,⟨[],[],0,1099511627777⟩) ⟨rfl,rfl,rfl,rfl,rfl,rfl,trivial⟩ ⟨Yk _,.inl ⟨rfl,rfl,rfl⟩,hS0⟩ ?_
 rintro ⟨i,b⟩ w ⟨hi,hbb,hS⟩
 change WC _ _ _ _ [(1,I64 now),(4,ptr b4 0),(6,ptr b6 0),(13,.slice a q.length c),(14,I64 (q.length:Nat)),(15,I64 (i:Nat))] w
 clear hS0
 refine .seq (.q 1 rfl (.seq ?_))
 refine WC.cond rfl (fun hb16=>?_) (fun hb16=>?_)
 ·
  have hc16:=hb16; try simp only [Y4] at hc16
  refine .skip (.seq (.block (.seq ?_)))
  obtain ⟨n,hn⟩:∃ n,q[i]?=some n:=⟨_,Y1 (by omega)⟩
  obtain ⟨p,hp9,hx⟩:=X1n (cells:=X3) (s:=4) (fun _=>rfl) hR hn
  subst hp9
  have hrn:=X1l (hqr n (Yc hn))
  have hst:X21 none (q.take (i+1))=X21 (X21 none (q.take i)) [n]:=by rw [Y19,hn,Y1c,X37]
  refine .region ?_
  first | refine WL.val (.indexAddr (.of rfl) (.of rfl) (by omega) (by omega) Xt X7) rfl ?_ | refine WL.val (.indexAddrI (.of rfl) (.of rfl) (by omega) (by omega) Xt X7) rfl ?_
  rw [Y9]
  refine .val (.ldsI (us:=[S n.ticket,S n.url,I64 n.tries,I64 n.next]) (.of rfl) hS hx Xh X7 rfl (fun _ _ h=>h)) rfl (.allocA (cs:=[_,_,_,_]) hS X50 rfl ?_)
  clear hS; intro b8 w hS
  first | refine WL.stA hS (k:=0) rfl (.of rfl) (.of rfl) rfl X7 rfl (by simp) ?_ | refine WL.stA hS (k:=1) rfl (.of rfl) (.of rfl) rfl X7 rfl (by simp) ?_ | refine WL.stA hS (k:=2) rfl (.of rfl) (.of rfl) rfl X7 rfl (by simp) ?_ | refine WL.stA hS (k:=3) rfl (.of rfl) (.of rfl) rfl X7 rfl (by simp) ?_
  clear hS; intro w hS; try dsimp only [List.set] at hS
  try simp only [Yb,Y6,Y8,Y3,Y7,Yd,Y5] at hS
  refine .nil (.seq (.region ?_))
  first | refine WL.val (.fieldAddr 3 (.of rfl) Xj rfl rfl Qs3 rfl) rfl ?_ | refine WL.val (.fieldAddrI 3 (.of rfl) Xj rfl rfl Qs3 rfl) rfl ?_
  first | refine WL.val (.ld (.of rfl) hS (k:=0) rfl Qg3 rfl) rfl ?_ | refine WL.val (.ld (.of rfl) hS (k:=1) rfl Qg3 rfl) rfl ?_ | refine WL.val (.ld (.of rfl) hS (k:=2) rfl Qg3 rfl) rfl ?_ | refine WL.val (.ld (.of rfl) hS (k:=3) rfl Qg3 rfl) rfl ?_
  first | refine WL.val (.fieldAddr 3 (.of rfl) Xj rfl rfl Qs3 rfl) rfl ?_ | refine WL.val (.fieldAddrI 3 (.of rfl) Xj rfl rfl Qs3 rfl) rfl ?_
  first | refine WL.val (.ld (.of rfl) hS (k:=0) rfl Qg3 rfl) rfl ?_ | refine WL.val (.ld (.of rfl) hS (k:=1) rfl Qg3 rfl) rfl ?_ | refine WL.val (.ld (.of rfl) hS (k:=2) rfl Qg3 rfl) rfl ?_ | refine WL.val (.ld (.of rfl) hS (k:=3) rfl Qg3 rfl) rfl ?_
  refine .q 1 rfl (.nil ?_)
  refine WC.cond rfl (fun hb23=>?_) (fun hb23=>?_)
  ·
   have hc23:=hb23; try simp only [Y4] at hc23
   refine .region ?_
   first | refine WL.val (.ldsW (cs:=[_,_,_,_]) (.of rfl) hS (k:=0) rfl Xh X7 rfl) rfl ?_ | refine WL.val (.lds (vs:=[_,_,_,_]) (.of rfl) hS (k:=0) rfl Xh X7 rfl (fun _ _ h=>h)) rfl ?_ | refine WL.val (.ldsW (cs:=[_,_,_,_]) (.of rfl) hS (k:=1) rfl Xh X7 rfl) rfl ?_ | refine WL.val (.lds (vs:=[_,_,_,_]) (.of rfl) hS (k:=1) rfl Xh X7 rfl (fun _ _ h=>h)) rfl ?_ | refine WL.val (.ldsW (cs:=[_,_,_,_]) (.of rfl) hS (k:=2) rfl Xh X7 rfl) rfl ?_ | refine WL.val (.lds (vs:=[_,_,_,_]) (.of rfl) hS (k:=2) rfl Xh X7 rfl (fun _ _ h=>h)) rfl ?_ | refine WL.val (.ldsW (cs:=[_,_,_,_]) (.of rfl) hS (k:=3) rfl Xh X7 rfl) rfl ?_ | refine WL.val (.lds (vs:=[_,_,_,_]) (.of rfl) hS (k:=3) rfl Xh X7 rfl (fun _ _ h=>h)) rfl ?_
   first | refine WL.stA hS (k:=0) rfl (.of rfl) (.of rfl) rfl X7 rfl (by simp) ?_ | refine WL.stA hS (k:=1) rfl (.of rfl) (.of rfl) rfl X7 rfl (by simp) ?_ | refine WL.stA hS (k:=2) rfl (.of rfl) (.of rfl) rfl X7 rfl (by simp) ?_ | refine WL.stA hS (k:=3) rfl (.of rfl) (.of rfl) rfl X7 rfl (by simp) ?_
   clear hS; intro w hS; try dsimp only [List.set] at hS
   try simp only [Yb,Y6,Y8,Y3,Y7,Yd,Y5] at hS
   refine .nil (.region (.run 2 rfl ⟨⟨by omega,by omega⟩,trivial⟩ (.nil ?_)))
   refine ⟨(i+1,n),⟨rfl,rfl,rfl,rfl,rfl,rfl,trivial⟩,⟨by (try dsimp only); omega,.inr ?_,((((hS.pick 3 rfl).pick 3 rfl).pick 3 rfl).drop (k:=3) rfl)⟩,by (try dsimp only); omega⟩
   rcases hbb with ⟨h1,h2,h3⟩ | h1
   ·rw [hst,h1]; rfl
   ·rw [hst,h1]
    show X21 (some (if n.next<b.next then n else b)) []=_
    rw [if_pos (by have h9:=hc23; omega)]; rfl
  have hc23:=hb23; try simp only [Y4] at hc23
  refine .skip (.region (.run 2 rfl ⟨⟨by omega,by omega⟩,trivial⟩ (.nil ?_)))
  refine ⟨(i+1,b),⟨rfl,rfl,rfl,rfl,rfl,rfl,trivial⟩,⟨by (try dsimp only); omega,.inr ?_,((((hS.pick 3 rfl).pick 3 rfl).pick 3 rfl).drop (k:=3) rfl)⟩,by (try dsimp only); omega⟩
  rcases hbb with ⟨h1,h2,h3⟩ | h1
  ·subst h3; exfalso; have h9:=hc23; (try dsimp only at h9); omega
  ·rw [hst,h1]
   show X21 (some (if n.next<b.next then n else b)) []=_
   rw [if_neg (by have h9:=hc23; omega)]; rfl
 have hc16:=hb16; try simp only [Y4] at hc16
 refine .exit (.seq (.seq (.region ?_)))
 first | refine WL.val (.fieldAddr 3 (.of rfl) Xj rfl rfl Qs3 rfl) rfl ?_ | refine WL.val (.fieldAddrI 3 (.of rfl) Xj rfl rfl Qs3 rfl) rfl ?_
 first | refine WL.val (.ld (.of rfl) hS (k:=0) rfl Qg3 rfl) rfl ?_ | refine WL.val (.ld (.of rfl) hS (k:=1) rfl Qg3 rfl) rfl ?_ | refine WL.val (.ld (.of rfl) hS (k:=2) rfl Qg3 rfl) rfl ?_
 refine .q 1 rfl (.val (.min2 (.of rfl) (.of rfl)) rfl (.q 1 rfl (.nil ?_)))
 refine WC.cond rfl (fun hb30=>?_) (fun hb30=>?_)
 ·
  have hc30:=hb30; try simp only [Y4] at hc30
  refine .seq (.region (.val (.build (cs:=[_,_,_,_]) X5 X2l rfl) rfl ?_))
  first | refine WL.stA hS (k:=0) rfl (.of rfl) (.of rfl) rfl X7 rfl (by simp) ?_ | refine WL.stA hS (k:=1) rfl (.of rfl) (.of rfl) rfl X7 rfl (by simp) ?_ | refine WL.stA hS (k:=2) rfl (.of rfl) (.of rfl) rfl X7 rfl (by simp) ?_
  clear hS; intro w hS; try dsimp only [List.set] at hS
  try simp only [Yb,Y6,Y8,Y3,Y7,Yd,Y5] at hS
  refine .q 1 rfl (.nil (.ret ?_))
  first | refine Xs (b:=_) (cs:=[_,_,_,_]) Qr17 hS (k:=0) rfl Xh X7 rfl rfl rfl ?_ | refine Xs (b:=_) (cs:=[_,_,_,_]) Qr17 hS (k:=1) rfl Xh X7 rfl rfl rfl ?_ | refine Xs (b:=_) (cs:=[_,_,_,_]) Qr17 hS (k:=2) rfl Xh X7 rfl rfl rfl ?_
  refine ⟨_,rfl,?_,(((hS.pick 2 rfl).drop (k:=1) rfl).drop (k:=1) rfl)⟩
  have hiq:i=q.length:=by omega
  subst hiq
  rw [Y20] at hbb
  unfold X9
  rcases hbb with ⟨h1,_⟩ | h1
  ·rw [h1]; rfl
  ·rw [h1]
   dsimp only
   rw [if_pos (by have h9:=hc30; omega)]; rfl
 have hc30:=hb30; try simp only [Y4] at hc30
 refine .skip (.seq (.region ?_))
 first | refine WL.val (.ldsW (cs:=[_,_,_,_]) (.of rfl) hS (k:=0) rfl Xh X7 rfl) rfl ?_ | refine WL.val (.lds (vs:=[_,_,_,_]) (.of rfl) hS (k:=0) rfl Xh X7 rfl (fun _ _ h=>h)) rfl ?_ | refine WL.val (.ldsW (cs:=[_,_,_,_]) (.of rfl) hS (k:=1) rfl Xh X7 rfl) rfl ?_ | refine WL.val (.lds (vs:=[_,_,_,_]) (.of rfl) hS (k:=1) rfl Xh X7 rfl (fun _ _ h=>h)) rfl ?_ | refine WL.val (.ldsW (cs:=[_,_,_,_]) (.of rfl) hS (k:=2) rfl Xh X7 rfl) rfl ?_ | refine WL.val (.lds (vs:=[_,_,_,_]) (.of rfl) hS (k:=2) rfl Xh X7 rfl (fun _ _ h=>h)) rfl ?_
 first | refine WL.stA hS (k:=0) rfl (.of rfl) (.of rfl) rfl X7 rfl (by simp) ?_ | refine WL.stA hS (k:=1) rfl (.of rfl) (.of rfl) rfl X7 rfl (by simp) ?_ | refine WL.stA hS (k:=2) rfl (.of rfl) (.of rfl) rfl X7 rfl (by simp) ?_
 clear hS; intro w hS; try dsimp only [List.set] at hS
 try simp only [Yb,Y6,Y8,Y3,Y7,Yd,Y5] at hS
 refine .q 1 rfl (.nil (.ret ?_))
 first | refine Xs (b:=_) (cs:=[_,_,_,_]) Qr17 hS (k:=0) rfl Xh X7 rfl rfl rfl ?_ | refine Xs (b:=_) (cs:=[_,_,_,_]) Qr17 hS (k:=1) rfl Xh X7 rfl rfl rfl ?_ | refine Xs (b:=_) (cs:=[_,_,_,_]) Qr17 hS (k:=2) rfl Xh X7 rfl rfl rfl ?_
 refine ⟨_,rfl,?_,(((hS.pick 2 rfl).drop (k:=1) rfl).drop (k:=1) rfl)⟩
 have hiq:i=q.length:=by omega
 subst hiq
 rw [Y20] at hbb
 unfold X9
 rcases hbb with ⟨h1,h2,h3⟩ | h1
 ·subst h3; exfalso; have h9:=hc30; (try dsimp only at h9); omega
 ·rw [h1]
  dsimp only
  rw [if_neg (by have h9:=hc30; omega)]; rfl
theorem Xc0 (r:Nt) (h1:r.ticket.length≤60) (h2:r.url.length≤120) (B w:World) (I:Im) (hK:Kx I) (hP:PreAt I) (As:List Xe) (hS:Sat B w I As) :
  Calls Tryz.prog 53 [.agg (X3 r).toArray].toArray w (Ret fun v w'=>v=.bool (!Xp r)∧Sat B w' I As):=by
 refine calls Tryz.func53 rfl Tryz.ntmps53 rfl (.seq (.region (.boxA (cs:=[_,_,_,_]) hS (.of rfl) rfl ?_)))
 clear hS; intro b1 w hS
 refine .q 1 rfl (.nil (.seq (.region ?_)))
 first | refine WL.val (.ldsW (cs:=[_,_,_,_]) (.of rfl) hS (k:=0) rfl Xh X7 rfl) rfl ?_ | refine WL.val (.lds (vs:=[_,_,_,_]) (.of rfl) hS (k:=0) rfl Xh X7 rfl (fun _ _ h=>h)) rfl ?_
 refine .call Tryz.func54 rfl (X0 (.of rfl) X1) rfl (X6t r (by omega) (by omega) B _ I hK hP _ hS) ?_
 clear hS
 rintro _ w ⟨rfl,hS⟩
 refine .q 2 rfl (.nil (.ret (Xg Tryz.results53 rfl ?_)))
 exact ⟨_,rfl,rfl,(hS.drop (k:=0) rfl)⟩
theorem Xb2 (qb:Nat) (lim:Int) (x y z:Nat) (a:Option Addr) (c:Nat) (q:List Nt) (hq:q.length≤64) (B w:World) (I:Im) (hR:RS I a 4 q.length (X6 X3 q)) (hc:q.length≤c) (la:Option Addr) (lc:Nat) (l:List Nt) (hl:l.length≤70) (hls:∀ n∈l,n.ticket.length≤60∧n.url.length≤120) (hRl:RS I la 4 l.length (X6 X3 l)) (hK:Kx I) (hP:PreAt I) (As:List Xe) (hS:Sat B w I (blk qb [I64 lim,F64 x,F64 y,F64 z,.slice a q.length c] 113::As)) :
  Calls Tryz.prog 13 [ptr qb 0,.slice la l.length lc].toArray w (Ret fun v w'=>∃ J a2 c2,v=I64 ((X2z q l).2:Nat)∧Le I J∧RS J a2 4 (X2z q l).1.length (X6 X3 (X2z q l).1)∧(X2z q l).1.length≤c2∧Sat B w' J (blk qb [I64 lim,F64 x,F64 y,F64 z,.slice a2 (X2z q l).1.length c2] 113::As)):=by
 refine calls Tryz.func13 rfl Tryz.ntmps13 rfl (.seq (.q 1 rfl (.seq (.seq (.t 1 rfl (.call Tryz.func52 rfl (X0 (.of rfl) (X0 (.of rfl) X1)) rfl (X3g la lc l (by omega) (fun n=>!Xp n) 53 _ Tryz.func53 rfl [] B _ I _ (fun w h=>X4k (cells:=X3) (s:=4) (fun _=>rfl) h hRl) (fun r hr w h=>Xc0 r (hls r hr).1 (hls r hr).2 B w I hK hP _ h) hS) ?_))))))
 clear hS
 rintro _ w ⟨rfl,hS⟩
 refine .nil ?_
 refine WC.cond rfl (fun hb9=>?_) (fun hb9=>?_)
 ·
  have hc9:=hb9; try simp only [Y4] at hc9
  refine .seq (.q 1 rfl (.ret (Xg Qr13 rfl ?_)))
  have hp:X2z q l=(q,1):=by unfold X2z; rw [if_pos hb9]
  rw [hp]
  exact ⟨_,rfl,I,a,c,rfl,Le.refl _,hR,hc,hS⟩
 have hc9:=hb9; try simp only [Y4] at hc9
 refine .skip (.seq (.t 2 rfl ?_))
 first | refine WL.val (.fieldAddr 4 (.of rfl) X1c rfl rfl Xv rfl) rfl ?_ | refine WL.val (.fieldAddrI 4 (.of rfl) X1c rfl rfl Xv rfl) rfl ?_
 refine .val (.ld (.of rfl) hS (k:=0) rfl X1r rfl) rfl (.call Qf55 rfl (X0 (.of rfl) X1) rfl (X3i a c q (by omega) B _ I hR _ hS) ?_)
 clear hS
 rintro v5 w hS
 refine .q 1 rfl (.nil (.seq (.seq (.region (.run 3 rfl ⟨⟨_,Xt⟩,trivial⟩ (.nil (.block ?_)))))))
 have hS0:=hS; clear hS
 refine .loop (σ:=Nat×List Nt×Value) (fun ⟨i,all,v⟩=>[(0,ptr qb 0),(1,.slice la l.length lc),(5,v),(15,.slice la l.length lc),(16,I64 (l.length:Nat)),(17,I64 (i:Nat))]) (fun ⟨i,all,v⟩ w=>i≤l.length∧all=q ++ l.take i∧Xa0 q l=Xa0 all (l.drop i)∧Sat B w I (Vec 45 4 v (all).length (X6 X3 (all))::blk qb [I64 lim,F64 x,F64 y,F64 z,.slice a q.length c] 113::As)) (fun ⟨i,all,v⟩=>l.length - i) (0,q,v5) ⟨rfl,rfl,rfl,rfl,rfl,rfl,trivial⟩ ⟨Yk _,by simp,rfl,hS0⟩ ?_
 rintro ⟨i,all,v⟩ w ⟨hi,hall,hdup,hS⟩
 change WC _ _ _ _ [(0,ptr qb 0),(1,.slice la l.length lc),(5,v),(15,.slice la l.length lc),(16,I64 (l.length:Nat)),(17,I64 (i:Nat))] w
 clear hS0
 refine .seq (.q 1 rfl (.seq ?_))
 refine WC.cond rfl (fun hb18=>?_) (fun hb18=>?_)
 ·
  have hc18:=hb18; try simp only [Y4] at hc18
  refine .skip (.seq (.block (.seq ?_)))
  obtain ⟨n,hn⟩:∃ n,l[i]?=some n:=⟨_,Y1 (by omega)⟩
  obtain ⟨p,hp9,hx⟩:=X1n (cells:=X3) (s:=4) (fun _=>rfl) hRl hn
  subst hp9
  have hdr:l.drop i=n::l.drop (i+1):=by rw [Yo (by omega),(Y0.1 hn).2]
  have hal9:all.length≤134:=by rw [hall]; simp only [Y2,Y10]; omega
  refine .region ?_
  first | refine WL.val (.indexAddr (.of rfl) (.of rfl) (by omega) (by omega) Xt X7) rfl ?_ | refine WL.val (.indexAddrI (.of rfl) (.of rfl) (by omega) (by omega) Xt X7) rfl ?_
  rw [Y9]
  refine .val (.ldsI (us:=[S n.ticket,S n.url,I64 n.tries,I64 n.next]) (.of rfl) hS hx Xh X7 rfl (fun _ _ h=>h)) rfl (.allocA (cs:=[_,_,_,_]) hS X50 rfl ?_)
  clear hS; intro b7 w hS
  first | refine WL.stA hS (k:=0) rfl (.of rfl) (.of rfl) rfl X7 rfl (by simp) ?_ | refine WL.stA hS (k:=1) rfl (.of rfl) (.of rfl) rfl X7 rfl (by simp) ?_ | refine WL.stA hS (k:=2) rfl (.of rfl) (.of rfl) rfl X7 rfl (by simp) ?_
  clear hS; intro w hS; try dsimp only [List.set] at hS
  try simp only [Yb,Y6,Y8,Y3,Y7,Yd,Y5] at hS
  refine .nil (.seq (.seq ?_))
  obtain ⟨va,vc,rfl,hvc,_⟩:=hS.vecSlice (k:=1) rfl
  refine .t 1 rfl ?_
  first | refine WL.val (.fieldAddr 0 (.of rfl) Xj rfl rfl Qs9 rfl) rfl ?_ | refine WL.val (.fieldAddrI 0 (.of rfl) Xj rfl rfl Qs9 rfl) rfl ?_
  first | refine WL.val (.ld (.of rfl) hS (k:=0) rfl Qg9 rfl) rfl ?_ | refine WL.val (.ld (.of rfl) hS (k:=1) rfl Qg9 rfl) rfl ?_ | refine WL.val (.ld (.of rfl) hS (k:=2) rfl Qg9 rfl) rfl ?_
  replace hS:=(hS.pick 1 rfl); try dsimp only [List.eraseIdx] at hS
  refine .call Tryz.func56 rfl (X0 (.of rfl) (X0 (.of rfl) X1)) rfl (Xdo va vc all (by omega) n.ticket B _ I _ (fun w X h=>nt_vec h (k:=1) rfl) hS) ?_
  clear hS
  rintro _ w ⟨rfl,hS⟩
  refine .q 1 rfl (.nil ?_)
  refine WC.cond rfl (fun hb25=>?_) (fun hb25=>?_)
  ·
   have hc25:=hb25; try simp only [Y4] at hc25
   refine .seq (.q 1 rfl (.ret (Xg Qr13 rfl ?_)))
   have hany0:(l.any fun n=>!Xp n)=false:=by simpa using hb9
   have hyes:(all.any fun x=>x.ticket == n.ticket)=true:=by
    rw [← Xw _ all 0]
    exact decide_eq_true (by have h9:=hc25; unfold ixN at h9; omega)
   have hp:X2z q l=(q,7):=by unfold X2z; rw [if_neg (by rw [hany0]; decide),if_pos (by rw [hdup,hdr,Xa0,hyes,Bool.true_or])]
   rw [hp]
   exact ⟨_,rfl,I,a,c,rfl,Le.refl _,hR,hc,(((hS.pick 2 rfl).drop (k:=1) rfl).drop (k:=1) rfl)⟩
  have hc25:=hb25; try simp only [Y4] at hc25
  refine .skip (.t 1 rfl ?_)
  first | refine WL.val (.ldsW (cs:=[_,_,_,_]) (.of rfl) hS (k:=0) rfl Xh X7 rfl) rfl ?_ | refine WL.val (.lds (vs:=[_,_,_,_]) (.of rfl) hS (k:=0) rfl Xh X7 rfl (fun _ _ h=>h)) rfl ?_ | refine WL.val (.ldsW (cs:=[_,_,_,_]) (.of rfl) hS (k:=1) rfl Xh X7 rfl) rfl ?_ | refine WL.val (.lds (vs:=[_,_,_,_]) (.of rfl) hS (k:=1) rfl Xh X7 rfl (fun _ _ h=>h)) rfl ?_ | refine WL.val (.ldsW (cs:=[_,_,_,_]) (.of rfl) hS (k:=2) rfl Xh X7 rfl) rfl ?_ | refine WL.val (.lds (vs:=[_,_,_,_]) (.of rfl) hS (k:=2) rfl Xh X7 rfl (fun _ _ h=>h)) rfl ?_
  refine .buildSlice (cs:=[_,_,_,_]) hS (X2 (.of rfl) X5) Xt X7 X50 rfl rfl rfl rfl ?_
  clear hS; intro b28 w hS
  first | refine WL.append (size:=4) (bytes:=48) hS (.of rfl) (.of rfl) (k:=0) rfl Xt X1g rfl rfl rfl rfl rfl rfl rfl ⟨by omega,by unfold maxLen; omega⟩ rfl ?_ | refine WL.append (size:=4) (bytes:=48) hS (.of rfl) (.of rfl) (k:=1) rfl Xt X1g rfl rfl rfl rfl rfl rfl rfl ⟨by omega,by unfold maxLen; omega⟩ rfl ?_ | refine WL.append (size:=4) (bytes:=48) hS (.of rfl) (.of rfl) (k:=2) rfl Xt X1g rfl rfl rfl rfl rfl rfl rfl ⟨by omega,by unfold maxLen; omega⟩ rfl ?_
  clear hS; intro v29 w hS; try dsimp only [List.set] at hS
  first | obtain ⟨a29,c29,rfl,hcap29,_⟩:=hS.vecSlice (k:=0) (v:=v29) rfl | obtain ⟨a29,c29,rfl,hcap29,_⟩:=hS.vecSlice (k:=1) (v:=v29) rfl | obtain ⟨a29,c29,rfl,hcap29,_⟩:=hS.vecSlice (k:=2) (v:=v29) rfl
  refine .q 1 rfl (.nil (.region (.run 2 rfl ⟨⟨by omega,by omega⟩,trivial⟩ (.nil ?_))))
  replace hS:=(((hS.pick 2 rfl).pick 1 rfl).drop (k:=2) rfl)
  have er:X6 X3 (all ++ [n])=X6 X3 all ++ [S n.ticket,S n.url,I64 n.tries,I64 n.next]:=by simp [X6,X3]
  have el:(all ++ [n]).length=all.length+1:=by simp
  have hno:(all.any fun x=>x.ticket == n.ticket)=false:=by
   rw [← Xw _ all 0]
   exact decide_eq_false (by have h9:=hc25; unfold ixN at h9; omega)
  refine ⟨(i+1,all ++ [n],_),⟨rfl,rfl,rfl,rfl,rfl,rfl,trivial⟩,⟨by (try dsimp only); omega,?_,?_,by rw [er,el]; exact hS⟩,by (try dsimp only); omega⟩
  ·rw [hall,Y19,hn,Y1c,Yg]
  ·rw [hdup,hdr,Xa0,hno,Y2i]
 have hc18:=hb18; try simp only [Y4] at hc18
 refine .exit (.seq (.seq ?_))
 have hil:i=l.length:=by omega
 subst hil
 rw [Y20] at hall
 have hdup0:Xa0 q l=false:=by rw [hdup,Y2a]; rfl
 have hany0:(l.any fun n=>!Xp n)=false:=by simpa using hb9
 have hal9:all.length=q.length+l.length:=by rw [hall,Y2]
 obtain ⟨va,vc,rfl,hvc,_⟩:=hS.vecSlice (k:=0) rfl
 refine .region (.run 3 rfl ⟨⟨_,Xt⟩,trivial⟩ (.nil ?_))
 refine WC.cond rfl (fun hb33=>?_) (fun hb33=>?_)
 ·
  have hc33:=hb33; try simp only [Y4] at hc33
  refine .seq (.q 1 rfl (.ret (Xg Qr13 rfl ?_)))
  have hp:X2z q l=(q,5):=by unfold X2z; rw [if_neg (by rw [hany0]; decide),if_neg (by rw [hdup0]; decide),if_pos (by have h9:=hc33; omega)]
  rw [hp]
  exact ⟨_,rfl,I,a,c,rfl,Le.refl _,hR,hc,((hS.pick 1 rfl).drop (k:=1) rfl)⟩
 have hc33:=hb33; try simp only [Y4] at hc33
 refine .skip (.seq (.t 3 rfl ?_))
 first | refine WL.val (.fieldAddr 4 (.of rfl) X1c rfl rfl Xv rfl) rfl ?_ | refine WL.val (.fieldAddrI 4 (.of rfl) X1c rfl rfl Xv rfl) rfl ?_
 first | refine WL.st1 hS (k:=0) rfl (.of rfl) (.of rfl) rfl Xv (by simp) ?_ | refine WL.st1 hS (k:=1) rfl (.of rfl) (.of rfl) rfl Xv (by simp) ?_
 clear hS; intro w hS; try dsimp only [List.set] at hS
 refine .nil (.seq (.q 1 rfl (.ret (Xg Qr13 rfl ?_))))
 have hp:X2z q l=(q ++ l,0):=by unfold X2z; rw [if_neg (by rw [hany0]; decide),if_neg (by rw [hdup0]; decide),if_neg (by have h9:=hc33; omega)]
 rw [hp]
 subst hall
 obtain ⟨J,hJ,hRS,hS⟩:=hS.freezeVec (k:=0) rfl
 exact ⟨_,rfl,J,va,vc,rfl,hJ,hRS,hvc,hS⟩
theorem X58 {α:Type} (cells:α→List Value) (l:List α) (k:Nat):X6 cells l=X6 cells (l.take k) ++ X6 cells (l.drop k):=by
 conv=>lhs; rw [← Y1l k l]
 unfold X6; rw [Y2f,Y2c]
theorem X7f {α:Type} {cells:α→List Value} {s:Nat} (hc:∀ x,(cells x).length=s) (l:List α) (r:List Value) {k:Nat} (hk:k≤l.length):(X6 cells l ++ r).take (k*s)=X6 cells (l.take k):=by
 have h:=Xu hc (l.take k)
 rw [Y10,Y1w hk] at h
 rw [X58 cells l k,Yg,← h,Y1j]
theorem X6w {α:Type} {cells:α→List Value} {s:Nat} (hc:∀ x,(cells x).length=s) (l:List α) (r:List Value) {k:Nat} (hk:k≤l.length):(X6 cells l ++ r).drop (k*s)=X6 cells (l.drop k) ++ r:=by
 have h:=Xu hc (l.take k)
 rw [Y10,Y1w hk] at h
 rw [X58 cells l k,Yg,← h,Y3o]
theorem X67 {α:Type} {cells:α→List Value} {s:Nat} (hc:∀ x,(cells x).length=s) (y:α) (v:Value) (k:Nat) (hk:k<s) (r:List Value):∀ (l:List α) (i:Nat) (x:α),l[i]?=some x→cells y=(cells x).set k v→(X6 cells l ++ r).set (i*s+k) v=X6 cells (l.set i y) ++ r
 | [],_,_,h,_=>by simp at h
 | a::l,0,x,h,hy=>by
  cases h
  show (cells a ++ X6 cells l ++ r).set (0*s+k) v=cells y ++ X6 cells l ++ r
  rw [Y2e,Y5,Yg,List.set_append_left _ _ (by rw [hc]; exact hk),hy,Yg]
 | a::l,i+1,x,h,hy=>by
  show (cells a ++ X6 cells l ++ r).set ((i+1)*s+k) v=cells a ++ X6 cells (l.set i y) ++ r
  rw [Yg,List.set_append_right _ _ (by rw [hc,Y2o]; omega),hc,Y2o,show i*s+s+k - s=i*s+k by omega,X67 hc y v k hk r l i x (by simpa using h) hy,Yg]
theorem X9e (l:List Nt) (i:Nat) (hi:i<l.length) (hl:l.length≤100000) (s:Value) (B w:World) (I:Im) (As:List Xe) (hS:Sat B w I (Vec 45 4 s (l).length (X6 X3 (l))::As)) :
  Calls Tryz.prog 58 [s,I64 (i:Nat),I64 ((i:Int)+1)].toArray w (Ret fun v w'=>Sat B w' I (Vec 45 4 v (l.eraseIdx i).length (X6 X3 (l.eraseIdx i))::As)):=by
 obtain ⟨gb,cap,r,rfl,hc1,hc2,hl1,hl2,hS⟩:=hS.vecOpen (k:=0) rfl (by omega)
 try dsimp only [List.set] at hS
 have h4:∀ x:Nt,(X3 x).length=4:=fun _=>rfl
 obtain ⟨pq,hsl,hpq⟩:∃ pq,sliced (some (ad gb 0)) ((i:Int)+1).toNat l.length cap 4=.slice (some pq) (l.length - (i+1)) (cap - (i+1))∧(0<l.length - (i+1)→pq=ad gb ((i+1)*4)):=by
  unfold sliced
  rw [show ((i:Int)+1).toNat=i+1 by omega]
  split
  ·exact ⟨_,rfl,fun h=>by omega⟩
  ·exact ⟨_,rfl,fun _=>by (try dsimp only); rw [X1e,Y5]⟩
 have hs2:sliced (some (ad gb 0)) ((i+(l.length - (i+1)):Nat):Int).toNat (l.length:Int).toNat cap 4=.slice (some (ad gb ((l.length - 1)*4))) 1 (cap - (l.length - 1)):=by
  unfold sliced
  rw [Y9,Y9,if_neg (by omega),Y3l,X1e,Y5,show i+(l.length - (i+1))=l.length - 1 by omega,show l.length - (l.length - 1)=1 by omega]
 have hcut:((X6 X3 l ++ r).drop ((i+1)*4)).take ((l.length - (i+1))*4)=X6 X3 (l.drop (i+1)):=by
  rw [X6w h4 l r (by omega)]
  have h:=Xu h4 (l.drop (i+1))
  rw [Ya] at h
  rw [← h,Y1j]
 have htk:=X7f h4 l r (k:=i) (by omega)
 have hel:l.eraseIdx i=l.take i ++ l.drop (i+1):=Y1y ..
 have hrl:=Xu h4 l
 have hell:(l.eraseIdx i).length=l.length - 1:=by rw [List.length_eraseIdx]; split <;> omega
 have hrel:=Xu h4 (l.eraseIdx i)
 have hre:X6 X3 (l.eraseIdx i)=X6 X3 (l.take i) ++ X6 X3 (l.drop (i+1)):=by rw [hel]; unfold X6; rw [Y2f,Y2c]
 refine calls Tryz.func58 rfl Tryz.ntmps58 rfl (.seq (.q 1 rfl (.seq (.region (.run 5 rfl ⟨⟨_,Xt⟩,trivial⟩ (.val (Ex.slc3 (.of rfl) (.of rfl) (.of rfl) (.of rfl) (by omega) (by omega) (by omega) (by omega) Xt X7) rfl (.nil (.seq (.seq (.q 3 rfl ?_))))))))))
 refine WC.cond rfl (fun hb16=>by exfalso; simp only [Y4] at hb16; omega) (fun hb16=>?_)
 have hc16:=hb16; try simp only [Y4] at hc16
 refine .skip (.seq (.region (.run 3 rfl ⟨⟨_,Xt⟩,trivial⟩ (.nil (.seq (.drawn (fun _=>True) (fun j=>!([].contains j)) (by kernel_rfl) ?_))))))
 replace hS:=hS.drew; generalize w.drew=w at hS ⊢
 refine .tp (i:=0) rfl (by kernel_rfl) (fun w=>(.move (.of rfl))) rfl (.tp (i:=1) rfl (by kernel_rfl) (fun w=>(.move (.of rfl))) rfl (.tp (i:=2) rfl (by kernel_rfl) (fun w=>.slcTo (.of rfl) (.of rfl) (by omega) (by omega) Xt X7) rfl ?_))
 rw [Y9,show (⟨gb,0,none⟩:Addr)=ad gb 0 from rfl,X2b]
 refine .tp (i:=3) rfl (by kernel_rfl) (fun w=>(.move (.of rfl))) rfl (.tp (i:=4) rfl (by kernel_rfl) (fun w=>(.move (.of rfl))) rfl (.tp (i:=5) rfl (by kernel_rfl) (fun w=>.slcFrom (.of rfl) (.of rfl) (by omega) (by omega) Xt X7) rfl ?_))
 rw [hsl]
 refine WD.branch [6] (by kernel_rfl) rfl (WO.cons rfl ?_ (WO.nil))
 refine WL.appendSelf (o:=(i+1)*4) (size:=4) hS (k:=0) rfl (.of rfl) (.of rfl) hpq Xt (i:=Tryz.t45) (by kernel_rfl) rfl (by rw [Y2]; omega) (by rw [hcut]; exact Yt.1 (X1a (fun r=>rfl) _)) (by omega) (by rw [Y2]; omega) rfl ?_
 clear hS; intro w hS
 try dsimp only [List.set] at hS
 rw [hcut,htk,← hre] at hS
 refine .nil ?_
 refine And.intro (by intro _ _; trivial) ?_
 refine .tp (i:=7) rfl (by kernel_rfl) (fun w=>(.assign (.of rfl))) rfl (.done (by kernel_rfl) (.seq (.region (.run 4 rfl ⟨⟨_,Xt⟩,trivial⟩ (.val (.slc (.of rfl) (.of rfl) (.of rfl) (by omega) (by omega) (by omega) Xt X7) rfl ?_)))))
 rw [hs2]
 refine WL.clear (s:=4) hS (k:=0) rfl (.of rfl) Xt X50 rfl (by decide) (by simp only [Y2,Ya]; omega) ?_
 clear hS; intro w cs9 hcs1 hcs2 hS
 try dsimp only [List.set] at hS
 refine .nil (.seq (.q 2 rfl (.ret (Xg Tryz.results58 rfl ?_))))
 have h5:cs9.take ((l.length - 1)*4)=X6 X3 (l.eraseIdx i):=by
  rw [hcs2]
  rw [← hell,← hrel,Y1j]
 have h6:cs9=X6 X3 (l.eraseIdx i) ++ cs9.drop ((l.length - 1)*4):=by rw [← h5]; exact (Y1l _ _).symm
 rw [h6] at hS
 rw [show i+(l.length - (i+1))=(l.eraseIdx i).length by omega]
 simp only [Y2,Ya] at hcs1
 exact ⟨_,rfl,hS.vecShut (n:=(l.eraseIdx i).length) (size:=4) (k:=0) rfl (by omega) hc2 hrel (by rw [hrel,Ya,hcs1]; omega)⟩
theorem X36 (qb:Nat) (lim:Int) (x y z:Nat) (a:Option Addr) (c:Nat) (q:List Nt) (hq:q.length≤64) (B w:World) (I:Im) (hR:RS I a 4 q.length (X6 X3 q)) (hc:q.length≤c) (hqr:∀ n∈q,Xp n=true) (tr:Int) (hlim:lim=Xbv ⟨x,y,z,tr⟩) (t:List UInt8) (ok:Bool) (now:Int) (hn0:0≤now) (hn1:now≤1099511627776) (As:List Xe) (hS:Sat B w I (blk qb [I64 lim,F64 x,F64 y,F64 z,.slice a q.length c] 113::As)) :
  Calls Tryz.prog 15 [ptr qb 0,S t,.bool ok,I64 now].toArray w (Ret fun v w'=>∃ J a2 c2,v=I64 ((X12 ⟨x,y,z,tr⟩ q t ok now).2:Nat)∧Le I J∧RS J a2 4 (X12 ⟨x,y,z,tr⟩ q t ok now).1.length (X6 X3 (X12 ⟨x,y,z,tr⟩ q t ok now).1)∧(X12 ⟨x,y,z,tr⟩ q t ok now).1.length≤c2∧Sat B w' J (blk qb [I64 lim,F64 x,F64 y,F64 z,.slice a2 (X12 ⟨x,y,z,tr⟩ q t ok now).1.length c2] 113::As)):=by
 refine calls Qf15 rfl Tryz.ntmps15 rfl (.seq (.q 1 rfl (.seq (.t 2 rfl ?_))))
 first | refine WL.val (.fieldAddr 4 (.of rfl) X1c rfl rfl Xv rfl) rfl ?_ | refine WL.val (.fieldAddrI 4 (.of rfl) X1c rfl rfl Xv rfl) rfl ?_
 refine .val (.ld (.of rfl) hS (k:=0) rfl X1r rfl) rfl (.q 1 rfl (.call Tryz.func56 rfl (X0 (.of rfl) (X0 (.of rfl) X1)) rfl (Xdo a c q (by omega) t B _ I _ (fun w X h=>X4k (cells:=X3) (s:=4) (fun _=>rfl) h hR) hS) ?_))
 clear hS
 rintro _ w ⟨rfl,hS⟩
 refine .q 1 rfl (.nil (.seq (.seq (.q 2 rfl ?_))))
 refine WC.cond rfl (fun hb20=>?_) (fun hb20=>?_)
 ·
  have hc20:=hb20; try simp only [Y4] at hc20
  refine .seq (.q 1 rfl (.ret (Xg Tryz.results15 rfl ?_)))
  have hd:X12 ⟨x,y,z,tr⟩ q t ok now=(q,6):=by
   unfold X12
   split
   ·rfl
   ·rw [if_pos (by have h9:=hc20; omega)]
  rw [hd]
  exact ⟨_,rfl,I,a,c,rfl,Le.refl _,hR,hc,hS⟩
 have hc20:=hb20; try simp only [Y4] at hc20
 refine .skip (.seq ?_)
 obtain ⟨j,n,hix,hnj⟩:∃ (j:Nat) (n:Nt),ixN q t=(j:Int)∧q[j]?=some n:=by
  rcases X2q (fun n:Nt=>n.ticket == t) q 0 with ⟨h,_⟩ | ⟨j,n,h1,h2,_⟩
  ·exfalso; have h9:=hc20; unfold ixN at h9; rw [h] at h9; omega
  ·exact ⟨j,n,by unfold ixN; rw [h1]; simp,h2⟩
 rw [hix]
 have hjl:=(Y0.1 hnj).1
 have h4:∀ x:Nt,(X3 x).length=4:=fun _=>rfl
 have hrn:=X1l (hqr n (Yc hnj))
 have hrq:=Xu h4 q
 have hdq:∀ (tr:Int),X12 ⟨x,y,z,tr⟩ q t ok now=if ok=true∨Xbv ⟨x,y,z,tr⟩≤n.tries+1 then (q.eraseIdx j,0) else (q.set j (X13 ⟨x,y,z,tr⟩ n now),0):=fun tr=>by
  unfold X12
  rw [hix,Y9,hnj]
  dsimp only
  rw [if_neg (by omega)]
 refine .t 2 rfl ?_
 first | refine WL.val (.fieldAddr 4 (.of rfl) X1c rfl rfl Xv rfl) rfl ?_ | refine WL.val (.fieldAddrI 4 (.of rfl) X1c rfl rfl Xv rfl) rfl ?_
 refine .val (.ld (.of rfl) hS (k:=0) rfl X1r rfl) rfl (.call Qf55 rfl (X0 (.of rfl) X1) rfl (X3i a c q (by omega) B _ I hR _ hS) ?_)
 clear hS
 rintro v10 w hS
 refine .q 1 rfl (.nil (.seq ?_))
 obtain ⟨gb,cap,r,rfl,hc1,hc2,hl1,hl2,hS⟩:=hS.vecOpen (k:=0) rfl (by omega)
 try dsimp only [List.set] at hS
 have hld0:(X6 X3 q ++ r)[j*4+2]?=some (I64 n.tries):=by
  have h9:=X38 (cells:=X3) (s:=4) (fun _=>rfl) hnj (j:=2) (v:=I64 n.tries) rfl
  rw [Ym (Y0.1 h9).1]; exact h9
 obtain ⟨q1,hq1⟩:∃ q1,q1=q.set j ⟨n.ticket,n.url,n.tries+1,n.next⟩:=⟨_,rfl⟩
 have hql1:q1.length=q.length:=by rw [hq1,Y3n]
 have hrq1:=Xu h4 q1
 have hn1:q1[j]?=some (⟨n.ticket,n.url,n.tries+1,n.next⟩:Nt):=by rw [hq1,Y3f hjl]
 have hst1:(X6 X3 q ++ r).set (j*4+2) (I64 (n.tries+1))=X6 X3 q1 ++ r:=by
  rw [hq1]; exact X67 h4 ⟨n.ticket,n.url,n.tries+1,n.next⟩ _ 2 (by decide) r q j n hnj rfl
 have hld1:(X6 X3 q1 ++ r)[j*4+2]?=some (I64 (n.tries+1)):=by
  have h9:=X38 (cells:=X3) (s:=4) (fun _=>rfl) hn1 (j:=2) (v:=I64 (n.tries+1)) rfl
  rw [Ym (Y0.1 h9).1]; exact h9
 refine .t 2 rfl (.val (.indexAddr (.of rfl) (.of rfl) (by omega) (by omega) Xt X7) rfl ?_)
 rw [Y9,Y5]
 refine .q 1 rfl (.nil (.seq (.seq (.t 2 rfl ?_))))
 first | refine WL.val (.fieldAddr 2 (.of rfl) Xj rfl rfl Qs3 rfl) rfl ?_ | refine WL.val (.fieldAddrI 2 (.of rfl) Xj rfl rfl Qs3 rfl) rfl ?_
 refine .val (.ld (v:=I64 n.tries) (.of rfl) hS (k:=0) rfl Qg3 hld0) rfl (.run 2 rfl ⟨⟨by omega,by omega⟩,trivial⟩ ?_)
 first | refine WL.val (.fieldAddr 2 (.of rfl) Xj rfl rfl Qs3 rfl) rfl ?_ | refine WL.val (.fieldAddrI 2 (.of rfl) Xj rfl rfl Qs3 rfl) rfl ?_
 refine WL.st1 hS (k:=0) rfl (.of rfl) (.of rfl) rfl Qs3 (by rw [Y2]; omega) ?_
 clear hS; intro w hS; try dsimp only [List.set] at hS
 rw [hst1] at hS
 refine .nil (.seq (.quiet (by kernel_rfl) (by kernel_rfl) hS (.val (fun w hS=>(.move (.of rfl))) rfl (.val (fun w hS=>(.move (.of rfl))) rfl (.gval rfl rfl rfl (fun hg1 w hS=>(.move (.of rfl))) rfl (.gval rfl rfl rfl (fun hg1 w hS=>(.nilCheck (.gd hg1 rfl))) rfl ?_))))))
 refine WQ.gval rfl rfl rfl (fun hg1 w hS=>(by first | exact .fieldAddr 2 (.gd hg1 rfl) Xj rfl rfl Qs3 rfl | exact .fieldAddrI 2 (.gd hg1 rfl) Xj rfl rfl Qs3 rfl)) rfl ?_
 refine .gval rfl rfl rfl (fun hg1 w hS=>.ld (v:=I64 (n.tries+1)) (.gd hg1 rfl) hS (k:=0) rfl Qg3 hld1) rfl (.gval rfl rfl rfl (fun hg1 w hS=>(.move (.of rfl))) rfl (.gval rfl rfl rfl (fun hg1 w hS=>(.nilCheck (.gd hg1 rfl))) rfl ?_))
 refine WQ.gval rfl rfl rfl (fun hg1 w hS=>(by first | exact .fieldAddr 0 (.gd hg1 rfl) X1c rfl rfl Qs3 rfl | exact .fieldAddrI 0 (.gd hg1 rfl) X1c rfl rfl Qs3 rfl)) rfl ?_
 refine WQ.gval rfl rfl rfl (fun hg1 w hS=>(by first | exact (.ld (.gd hg1 rfl) hS (k:=0) rfl Qg3 rfl) | exact (.ld (.gd hg1 rfl) hS (k:=1) rfl Qg3 rfl))) rfl ?_
 refine .gval rfl rfl rfl (fun hg1 w hS=>(.geq (.gd hg1 rfl) (.gd hg1 rfl))) rfl (.val (fun w hS=>(.por (.of rfl) (.of rfl) (.of rfl))) rfl (.nil ?_))
 clear hS; intro w hS
 refine WC.cond rfl (fun hb47=>?_) (fun hb47=>?_)
 ·
  have hc47:=hb47; try simp only [Y4] at hc47
  refine .seq ?_
  replace hS:=hS.vecShut (n:=q1.length) (size:=4) (k:=0) rfl (by omega) hc2 hrq1 (by omega)
  try dsimp only [List.set] at hS
  rw [← hql1]
  refine .region (.run 5 rfl ⟨⟨by omega,by omega⟩,trivial⟩ (.call Tryz.func58 rfl (X0 (.of rfl) (X0 (.of rfl) (X0 (.of rfl) X1))) rfl (X9e q1 j (by omega) (by omega) _ B _ I _ hS) ?_))
  clear hS
  rintro v53 w hS
  obtain ⟨vd,cd,rfl,hvd,_⟩:=hS.vecSlice (k:=0) rfl
  refine .q 1 rfl ?_
  first | refine WL.val (.fieldAddr 4 (.of rfl) X1c rfl rfl Xv rfl) rfl ?_ | refine WL.val (.fieldAddrI 4 (.of rfl) X1c rfl rfl Xv rfl) rfl ?_
  first | refine WL.st1 hS (k:=0) rfl (.of rfl) (.of rfl) rfl Xv (by simp) ?_ | refine WL.st1 hS (k:=1) rfl (.of rfl) (.of rfl) rfl Xv (by simp) ?_
  clear hS; intro w hS; try dsimp only [List.set] at hS
  refine .nil (.seq (.q 1 rfl (.ret (Xg Tryz.results15 rfl ?_))))
  have hd:X12 ⟨x,y,z,tr⟩ q t ok now=(q.eraseIdx j,0):=by
   rw [hdq,if_pos]
   have h9:=hb47
   simp only [Y1a,decide_eq_true_eq] at h9
   rcases h9 with h | h
   ·exact .inl h
   ·exact .inr (by rw [← hlim]; omega)
  rw [hd]
  have he:q1.eraseIdx j=q.eraseIdx j:=by rw [hq1,Y2w]
  rw [he] at hS
  replace hS:=((hS.pick 1 rfl).pick 1 rfl)
  obtain ⟨J,hJ,hRS,hS⟩:=hS.freezeVec (k:=0) rfl
  rw [he] at hvd
  exact ⟨_,rfl,J,vd,cd,rfl,hJ,hRS,hvd,hS⟩
 have hc47:=hb47; try simp only [Y4] at hc47
 refine .skip (.seq (.drawn (fun w=>∃ R,Sat B w I (blk qb [I64 lim,F64 x,F64 y,F64 z,.slice a q.length c] 113::blk gb (X6 X3 q1 ++ r) 45::R)) (fun j=>!([].contains j)) (by kernel_rfl) ?_))
 replace hS:=hS.drew; generalize w.drew=w at hS ⊢
 have hH:∃ R,Sat B w I (blk qb [I64 lim,F64 x,F64 y,F64 z,.slice a q.length c] 113::blk gb (X6 X3 q1 ++ r) 45::R):=⟨_,((hS.pick 0 rfl).pick 1 rfl)⟩
 refine .tp (i:=0) rfl (by kernel_rfl) (fun w=>(.move (.of rfl))) rfl (.tp (i:=1) rfl (by kernel_rfl) (fun w=>(.nilCheck (.of rfl))) rfl ?_)
 refine WD.tp (i:=2) rfl (by kernel_rfl) (fun w=>(by first | exact .fieldAddr 1 (.of rfl) X1c rfl rfl X45 rfl | exact .fieldAddrI 1 (.of rfl) X1c rfl rfl X45 rfl)) rfl ?_
 refine WD.tk (i:=3) rfl (by kernel_rfl) hH (fun w ⟨R,hS⟩=>(by first | exact (.ld (.of rfl) hS (k:=0) rfl X6e rfl) | exact (.ld (.of rfl) hS (k:=1) rfl X6e rfl))) rfl ?_
 refine .tp (i:=4) rfl (by kernel_rfl) (fun w=>(.move (.of rfl))) rfl (.tp (i:=5) rfl (by kernel_rfl) (fun w=>(.nilCheck (.of rfl))) rfl ?_)
 refine WD.tp (i:=6) rfl (by kernel_rfl) (fun w=>(by first | exact .fieldAddr 2 (.of rfl) X1c rfl rfl X45 rfl | exact .fieldAddrI 2 (.of rfl) X1c rfl rfl X45 rfl)) rfl ?_
 refine WD.tk (i:=7) rfl (by kernel_rfl) hH (fun w ⟨R,hS⟩=>(by first | exact (.ld (.of rfl) hS (k:=0) rfl X6e rfl) | exact (.ld (.of rfl) hS (k:=1) rfl X6e rfl))) rfl ?_
 refine .tp (i:=8) rfl (by kernel_rfl) (fun w=>(.move (.of rfl))) rfl (.tp (i:=9) rfl (by kernel_rfl) (fun w=>(.nilCheck (.of rfl))) rfl ?_)
 refine WD.tp (i:=10) rfl (by kernel_rfl) (fun w=>(by first | exact .fieldAddr 2 (.of rfl) Xj rfl rfl Qs3 rfl | exact .fieldAddrI 2 (.of rfl) Xj rfl rfl Qs3 rfl)) rfl ?_
 refine .tk (i:=11) rfl (by kernel_rfl) hH (fun w ⟨R,hS⟩=>.ld (v:=I64 (n.tries+1)) (.of rfl) hS (k:=1) rfl Qg3 hld1) rfl (.tp (i:=12) rfl (by kernel_rfl) (fun w=>(.sub (.of rfl) (.of rfl) ⟨by omega,by omega⟩)) rfl (.tp (i:=13) rfl (by kernel_rfl) (fun w=>(.move (.of rfl))) rfl (.tp (i:=14) rfl (by kernel_rfl) (fun w=>(.nilCheck (.of rfl))) rfl ?_)))
 refine WD.tp (i:=15) rfl (by kernel_rfl) (fun w=>(by first | exact .fieldAddr 3 (.of rfl) X1c rfl rfl X45 rfl | exact .fieldAddrI 3 (.of rfl) X1c rfl rfl X45 rfl)) rfl ?_
 refine WD.tk (i:=16) rfl (by kernel_rfl) hH (fun w ⟨R,hS⟩=>(by first | exact (.ld (.of rfl) hS (k:=0) rfl X6e rfl) | exact (.ld (.of rfl) hS (k:=1) rfl X6e rfl))) rfl ?_
 refine WD.branch [17] (by kernel_rfl) rfl (WO.cons rfl ?_ (WO.nil))
 refine .call Tryz.func59 rfl (X0 (.of rfl) (X0 (.of rfl) (X0 (.of rfl) (X0 (.of rfl) X1)))) rfl (Xcv x y (n.tries+1 - 1) z B _ I _ hS) ?_
 clear hS
 rintro _ w ⟨rfl,hS⟩
 refine .nil ?_
 clear hH
 have hH:∃ R,Sat B w I (blk qb [I64 lim,F64 x,F64 y,F64 z,.slice a q.length c] 113::blk gb (X6 X3 q1 ++ r) 45::R):=⟨_,((hS.pick 0 rfl).pick 1 rfl)⟩
 refine And.intro (by intro _ _; exact hH) ?_
 refine .tp (i:=18) rfl (by kernel_rfl) (fun w=>(.assign (.of rfl))) rfl (.done (by kernel_rfl) (.seq ?_))
 have hct:=X7u (Rk.waitV x y (n.tries+1 - 1) z)
 have hst2:(X6 X3 q1 ++ r).set (j*4+3) (I64 (min (now+Rk.cnt (Rk.waitV x y (n.tries+1 - 1) z) 1099511627776) 1099511627776))=X6 X3 (q1.set j (⟨n.ticket,n.url,n.tries+1,min (now+Rk.cnt (Rk.waitV x y (n.tries+1 - 1) z) 1099511627776) 1099511627776⟩:Nt)) ++ r:=X67 h4 (⟨n.ticket,n.url,n.tries+1,min (now+Rk.cnt (Rk.waitV x y (n.tries+1 - 1) z) 1099511627776) 1099511627776⟩:Nt) _ 3 (by decide) r q1 j _ hn1 rfl
 refine .t 3 rfl (.call Tryz.func60 rfl (X0 (.of rfl) (X0 (.of rfl) X1)) rfl (Xbs _ _ _) ?_)
 rintro _ _ ⟨rfl,rfl⟩
 refine .run 1 rfl ⟨⟨by omega,by omega⟩,trivial⟩ (.val (.min2 (.of rfl) (.of rfl)) rfl (.q 1 rfl ?_))
 first | refine WL.val (.fieldAddr 3 (.of rfl) Xj rfl rfl Qs3 rfl) rfl ?_ | refine WL.val (.fieldAddrI 3 (.of rfl) Xj rfl rfl Qs3 rfl) rfl ?_
 refine WL.st1 hS (k:=0) rfl (.of rfl) (.of rfl) rfl Qs3 (by rw [Y2]; omega) ?_
 clear hS; intro w hS; try dsimp only [List.set] at hS
 rw [hst2] at hS
 refine .nil (.seq (.t 3 rfl ?_))
 first | refine WL.val (.fieldAddr 4 (.of rfl) X1c rfl rfl Xv rfl) rfl ?_ | refine WL.val (.fieldAddrI 4 (.of rfl) X1c rfl rfl Xv rfl) rfl ?_
 first | refine WL.st1 hS (k:=0) rfl (.of rfl) (.of rfl) rfl Xv (by simp) ?_ | refine WL.st1 hS (k:=1) rfl (.of rfl) (.of rfl) rfl Xv (by simp) ?_
 clear hS; intro w hS; try dsimp only [List.set] at hS
 refine .nil (.seq (.q 1 rfl (.ret (Xg Tryz.results15 rfl ?_))))
 have hd:X12 ⟨x,y,z,tr⟩ q t ok now=(q.set j (X13 ⟨x,y,z,tr⟩ n now),0):=by
  rw [hdq,if_neg]
  have h9:=hb47
  simp only [Yj,decide_eq_false_iff_not] at h9
  rintro (h | h)
  ·rw [h9.1] at h; cases h
  ·rw [← hlim] at h; omega
 rw [hd]
 have he:q1.set j (⟨n.ticket,n.url,n.tries+1,min (now+Rk.cnt (Rk.waitV x y (n.tries+1 - 1) z) 1099511627776) 1099511627776⟩:Nt)=q.set j (X13 ⟨x,y,z,tr⟩ n now):=by
  rw [hq1,List.set_set]
  unfold X13
  rw [show n.tries+1 - 1=n.tries by omega]
 rw [he] at hS
 have hle:(q.set j (X13 ⟨x,y,z,tr⟩ n now)).length=q.length:=Y3n ..
 have hrl:=Xu h4 (q.set j (X13 ⟨x,y,z,tr⟩ n now))
 replace hS:=((hS.pick 1 rfl).pick 1 rfl)
 replace hS:=hS.vecShut (n:=(q.set j (X13 ⟨x,y,z,tr⟩ n now)).length) (size:=4) (k:=0) rfl (by omega) hc2 hrl (by omega)
 try dsimp only [List.set] at hS
 obtain ⟨J,hJ,hRS,hS⟩:=hS.freezeVec (k:=0) rfl
 exact ⟨_,rfl,J,_,cap,rfl,hJ,hRS,by (try dsimp only); omega,by (try dsimp only); rw [hle]; exact hS⟩
end Go.Proofs.YtbciobiiejpdgaaGreatDoor
