/- Part 7 of what the proof stands on: W23c, W23d, W23e, W16b, Qu, W23f, W23h, W20l, W23n, To, W23p. -/
import Derived.Test.YtbciobiiejpdgaaGreatDoorMTF
import Derived.Lib.AtoiTie
import Derived.Lib.AtoiErrMem
import Derived.KernelRfl
set_option linter.unusedVariables false
set_option linter.unusedSimpArgs false
namespace Go.Proofs.YtbciobiiejpdgaaGreatDoor
open Gk Ul Pc Pat Xm Tr
theorem Xgs:Tryz.prog.info? 126=some Tryz.t126:=by kernel_rfl
theorem Xg6:Tryz.prog.info? 136=some Tryz.t136:=by kernel_rfl
theorem X14:Bld Tryz.prog 126 [(0,1),(1,1),(2,1),(3,1)] [S [],.slice none 0 0,S [],.slice none 0 0]:=X2b X38 X6b (fun w=>by simp [go_sem])
theorem X3u:Bld Tryz.prog 136 [(0,1),(1,1)] [S [],S []]:=X2b X4f Xcv (fun w=>by simp [go_sem])
def tkn (b:Bool) (X x:List UInt8):List UInt8:=if (!b && Xd X x)=true then X.drop x.length else X
theorem Xp5 (rb:Nat) (X x:List UInt8) (l:Int) (b:Bool) (B w:World) (I:Im) (As:List X6) (hS:Sat B w I (blk rb [S (X),I64 (l)] 171::As)) :
  (b=false→Calls Tryz.prog 144 [ptr rb 0,S x].toArray w (Ret fun v w'=>v=.bool (Xd X x)∧Sat B w' I (blk rb [S (tkn b X x),I64 (l)] 171::As)))∧(b≠false→Sat B w I (blk rb [S (tkn b X x),I64 (l)] 171::As)):=by
 refine ⟨fun h=>?_,fun h=>?_⟩
 ·subst h;exact (X9t rb X x l B w I As hS)
 ·have:b=true:=by simpa using h
  subst this;exact hS
set_option maxRecDepth 4000 in
theorem Xh1 (rb:Nat) (t0:List UInt8) (hl0:t0.length≤10000) (l:Int) (B w:World) (I:Im) (hK:Kx I) (As:List X6) (hS:Sat B w I (blk rb [S (t0),I64 (l)] 171::As)) :
  Calls Tryz.prog 146 [ptr rb 0].toArray w (Ret fun v w'=>∃ J aa m c ok t',v=.tuple #[.slice aa m c,.bool ok]∧Le I J∧(match X15 (t0.length+1) t0 [] with
   | none=>ok=false
   | some (ps,r)=>ok=true∧t'=r∧m=ps.length∧m≤c∧RS J aa 2 m (X9 Xo ps)∧(∀ a∈ps,a.1.length≤t0.length∧a.2.length≤t0.length)∧ps.length≤t0.length)∧Sat B w' J (blk rb [S (t'),I64 (l)] 171::As)):=by
 refine calls Tryz.func146 rfl Tryz.ntmps146 rfl (.seq (.q 2 rfl (.seq (.q 1 rfl (.seq (.block ?_))))));replace hS:=(hS.vecNil 136 2).pick 1 rfl;refine .loop (σ:=List UInt8×List Px×Value) (fun ⟨t,out,v⟩=>[(0,ptr rb 0),(4,v)]) (fun ⟨t,out,v⟩ w=>t.length≤t0.length∧X15 (t0.length+1) t0 []=X15 (t.length+1) t out∧out.length+t.length≤t0.length∧(∀ a∈out,a.1.length≤t0.length∧a.2.length≤t0.length)∧Sat B w I (blk rb [S (t),I64 (l)] 171::Vec 136 2 v (out).length (X9 Xo (out))::As)) (fun ⟨t,out,v⟩=>t.length) (t0,[],.slice none 0 0) ⟨rfl,rfl,trivial⟩ ⟨Yo _,rfl,by simp,by simp,hS⟩ ?_;rintro ⟨t,out,v⟩ w ⟨htl,hat,hol,hom,hS⟩;refine .seq (.seq (.t 2 rfl ?_));refine .val (.fo 0 rfl X4d rfl rfl Qs9 rfl) rfl (.val (.lo rfl hS (k:=0) rfl Qg9 rfl) rfl (.call Xge rfl (ec9 rfl (ec9 rfl X0)) rfl (X1q t [32] _ (by omega) (by decide)) ?_));rintro _ _ ⟨rfl,rfl⟩;refine .nil (.cond rfl (fun hb12=>?_) fun hb12=>?_)
 ·refine .skip (.block (.seq ?_));have hp1:=X4u hb12; simp only [List.length_cons,List.length_nil] at hp1;obtain ⟨t1,ht1⟩:∃ x,x=t.drop 1:=⟨_,rfl⟩
  have hl1:t1.length=t.length - 1:=by rw [ht1,Yg]
  refine .t 3 rfl (.val (.fo 0 rfl X4d rfl rfl Qs9 rfl) rfl (.val (.lo rfl hS (k:=0) rfl Qg9 rfl) rfl (.val (.subFrom (.of rfl) (.of rfl) (by omega) (by omega) Qu9) rfl (.q 1 rfl ?_))));refine .val (.fo 0 rfl X4d rfl rfl Qs9 rfl) rfl (.s1 hS (k:=0) rfl rfl rfl rfl Qs9 (by simp) ?_);intro w hS;refine .nil (.seq ?_);rw [show List.drop (1:Int).toNat t=t1 from ht1.symm] at hS;refine .t 1 rfl (.call Xmk rfl (ec9 rfl (ec9 rfl X0)) rfl (Xp4 rb t1 61 (by decide) (by omega) l B _ I _ hS) ?_);rintro _ w ⟨rfl,hS⟩;refine .q 1 rfl (.nil (.seq (.seq ?_)));obtain ⟨t2,ht2⟩:∃ x,x=X5 [61] t1:=⟨_,rfl⟩
  rw [← ht2] at hS;have hl2:t2.length≤t1.length:=by rw [ht2]; exact X2d _ _
  have hk2:=Xx [61] t1;refine .t 1 rfl (.call Xkc rfl (ec9 rfl (ec9 rfl X0)) rfl (X9t rb t2 [61,34] l B _ I _ hS) ?_);rintro _ w ⟨rfl,hS⟩;refine .q 1 rfl (.nil ?_);refine .cond rfl (fun hb25=>?_) fun hb25=>?_
  ·refine .seq (.q 2 rfl (.ret (X2z Xvo rfl rfl ?_)));refine ⟨_,rfl,I,none,0,0,false,_,rfl,Le.refl _,?_,(hS.drop (k:=1) rfl)⟩;rw [hat,X15,if_neg (by rw [hb12]; decide),← ht1,← ht2,if_pos (by simpa using hb25)]
  refine .skip (.seq ?_);have hq2:Xd t2 [61,34]=true:=by simpa using hb25
  rw [if_pos hq2] at hS;have hp2:=X4u hq2; simp only [List.length_cons,List.length_nil] at hp2;obtain ⟨t3,ht3⟩:∃ x,x=t2.drop 2:=⟨_,rfl⟩
  have hl3:t3.length=t2.length - 2:=by rw [ht3,Yg]
  rw [show List.drop ([61,34]:List UInt8).length t2=t3 from ht3.symm] at hS;have hk3:=Xx [34] t3;refine .t 1 rfl (.call Xmk rfl (ec9 rfl (ec9 rfl X0)) rfl (Xp4 rb t3 34 (by decide) (by omega) l B _ I _ hS) ?_);rintro _ w ⟨rfl,hS⟩;refine .call Tryz.func147 rfl (ec9 rfl X0) rfl (X6v (upto [34] t3) (by omega) B _ I hK _ hS) ?_;rintro _ w ⟨n1,e1,rfl,hu,hS⟩;refine .q 5 rfl (.nil (.seq (.seq ?_)));obtain ⟨t4,ht4⟩:∃ x,x=X5 [34] t3:=⟨_,rfl⟩
  rw [← ht4] at hS;refine .t 3 rfl (.gm rfl rfl rfl rfl ?_);have hg9:=fun b=>Xp5 rb t4 [34] _ b B _ I _ hS
  refine .gcallT rfl rfl rfl Xkc rfl (fun hg1=>Xc (.gd hg1 rfl) (ec9 rfl X0)) rfl (hg9 _).1 (hg9 _).2 ?_;clear hS hg9; intro w hS;refine .gval rfl rfl (fun hg1=>(.not (.gd hg1 rfl))) rfl (.val (.po rfl rfl rfl) rfl (.nil ?_));refine .cond rfl (fun hb38=>?_) fun hb38=>?_
  ·refine .seq (.q 2 rfl (.ret (X2z Xvo rfl rfl ?_)));refine ⟨_,rfl,I,none,0,0,false,_,rfl,Le.refl _,?_,(hS.drop (k:=1) rfl)⟩;rw [hat,X15,if_neg (by rw [hb12]; decide),← ht1,← ht2,if_neg (by rw [hq2]; decide),← ht3];cases hh:X3w (upto [34] t3) with
   | none=>rfl
   | some z =>
    rw [hh] at hu;have h0:=hu.2;subst h0;dsimp only
    rw [← ht4,if_pos (by simpa using hb38)]
  refine .skip ?_;have he0:e1=0∧Xd t4 [34]=true:=by simpa using hb38
  have hk4:(!((e1:Int) != 0) && Xd t4 [34])=true:=by rw [he0.1,he0.2]; rfl
  have hp4:=X4u he0.2; simp only [List.length_cons,List.length_nil] at hp4;unfold tkn at hS;rw [if_pos hk4] at hS;obtain ⟨t5,ht5⟩:∃ x,x=t4.drop 1:=⟨_,rfl⟩
  have hl5:t5.length=t4.length - 1:=by rw [ht5,Yg]
  rw [show List.drop ([34]:List UInt8).length t4=t5 from ht5.symm] at hS;have hun:X3w (upto [34] t3)=some n1:=by
   cases hh:X3w (upto [34] t3) with
   | none=>rw [hh] at hu; have:=hu.2; omega
   | some z=>rw [hh] at hu; rw [hu.1]
  have hun1:=Xtc hun;rw [← ht4] at hk3;refine .t 3 rfl (.val (.build (cs:=[_,_]) (pc9 rfl (pc9 rfl X4)) X3u rfl) rfl (.buildSlice (cs:=[_,_]) hS (pc9 rfl X4) X2t X2w Xcv rfl rfl rfl rfl ?_));intro b43 w hS;refine .append (size:=2) (bytes:=32) hS (.of rfl) (.of rfl) (k:=1) rfl X2t Xg6 rfl rfl rfl rfl rfl rfl rfl ⟨by omega,by unfold maxLen; omega⟩ rfl ?_;intro v44 w hS;obtain ⟨a44,c44,rfl,hcap44,_⟩:=hS.vecSlice (k:=1) (v:=v44) rfl;refine .q 1 rfl (.nil ?_);replace hS:=((hS.pick 1 rfl).pick 1 rfl)
  have er:X9 Xo (out ++ [(upto [61] t1,n1)])=X9 Xo out ++ [S (upto [61] t1),S n1]:=by simp [X9,Xo]
  have el:(out ++ [(upto [61] t1,n1)]).length=out.length+1:=by simp
  refine ⟨(t5,out ++ [(upto [61] t1,n1)],_),⟨rfl,rfl,trivial⟩,⟨by (try dsimp only); omega,?_,by rw [el]; (try dsimp only); omega,fun a ha=>?_,by rw [er,el]; exact hS⟩,by (try dsimp only); omega⟩
  ·rw [hat,X15,if_neg (by rw [hb12]; decide),← ht1,← ht2,if_neg (by rw [hq2]; decide),← ht3,hun];dsimp only
   rw [← ht4,if_neg (by rw [he0.2]; decide),← ht5];exact Xet _ (by omega) (by omega)
  ·rcases Y11.1 ha with h | h
   ·exact hom a h
   ·rw [Y3r.1 h]; (try dsimp only); omega
 refine .exit (.seq (.q 3 rfl (.ret (X2z Xvo rfl rfl ?_))));obtain ⟨a9,c9,rfl,hc9,_⟩:=hS.vecSlice (k:=1) rfl;obtain ⟨J,hJ,hRS,hS⟩:=hS.freezeVec (k:=1) rfl;refine ⟨_,rfl,J,a9,out.length,c9,true,t,rfl,hJ,?_,hS⟩;rw [hat,X15,if_pos hb12];exact ⟨rfl,rfl,rfl,hc9,hRS,hom,by omega⟩
theorem Xb5 {el:Int→List UInt8→Option (Nd×List UInt8×Int)} (hel:∀ l s k r l2,el l s=some (k,r,l2)→r.length<s.length):∀ (f g:Nat) (left:Int) (s:List UInt8) (out:List Nd),s.length<f→s.length<g→X37 el f left s out=X37 el g left s out
 | 0,_,_,_,_,h,_=>by omega
 | _+1,0,_,_,_,_,h=>by omega
 | f+1,g+1,left,s,out,hf,hg=>by
  rw [X37,X37];split
  ·rfl
  ·split
   ·rfl
   ·rename_i k r l he
    have:=hel _ _ _ _ _ he
    exact Xb5 hel f g _ _ _ (by omega) (by omega)
theorem Xhs {el:Int→List UInt8→Option (Nd×List UInt8×Int)} (hel:∀ l s k r l2,0≤l→el l s=some (k,r,l2)→0≤l2∧l2≤l):∀ (f:Nat) (left:Int) (s:List UInt8) (out ks:List Nd) (r:List UInt8) (l2:Int),0≤left→X37 el f left s out=some (ks,r,l2)→0≤l2∧l2≤left
 | 0,_,_,_,_,_,_,_,h=>by cases h
 | f+1,left,s,out,ks,r,l2,h0,h=>by
  rw [X37] at h;split at h
  ·cases h; exact ⟨h0,Y3x _⟩
  ·split at h
   ·cases h
   ·rename_i k r1 l1 he
    have h1:=hel _ _ _ _ _ h0 he;have h2:=Xhs hel f _ _ _ _ _ _ h1.1 h;exact ⟨h2.1,by omega⟩
theorem Xib:∀ (d:Nat) (l:Int) (s:List UInt8) (k:Nd) (r:List UInt8) (l2:Int),0≤l→X22 d l s=some (k,r,l2)→0≤l2∧l2≤l
 | 0,_,_,_,_,_,_,h=>by cases h
 | d+1,l,s,k,r,l2,h0,h=>by
  rw [X22] at h;split at h
  ·cases h
  ·rename_i hc
   simp only [not_or] at hc
   split at h
   ·cases h
   ·split at h
    ·cases h
    ·split at h
     ·cases h
     ·split at h
      ·cases h
      ·rename_i ks q l3 hk
       split at h
       ·cases h
       ·cases h
        have:=Xhs (fun l s k r l2 h0 h=>Xib d l s k r l2 h0 h) _ _ _ _ _ _ _ (by omega) hk
        exact ⟨this.1,by omega⟩
set_option maxRecDepth 4000 in
theorem Xe7 (d:Nat) (ih:∀ e,d=e+1→∀ (deep:Int) (t:List UInt8) (l:Int) (rb:Nat) (B w:World) (I:Im) (As:List X6),1≤deep→deep+(e:Int)=9→t.length≤10000→0≤l→l≤1000→Kx I→Sat B w I (blk rb [S (t),I64 (l)] 171::As)→Calls Tryz.prog 104 [ptr rb 0,I64 deep].toArray w (Ret fun v w'=>∃ J s1 a1 n1 m1 s2 a2 n2 m2 ok t' l',v=.tuple #[.agg ([S s1,.slice a1 n1 m1,S s2,.slice a2 n2 m2]:List Value).toArray,.bool ok]∧Le I J∧(match X22 e l t with
   | none=>ok=false
   | some (k,r,l2)=>ok=true∧t'=r∧l'=l2∧NdV e J [S s1,.slice a1 n1 m1,S s2,.slice a2 n2 m2] k)∧Sat B w' J (blk rb [S (t'),I64 (l')] 171::As)))
  (deep:Int) (t:List UInt8) (l:Int) (rb:Nat) (B w:World) (I:Im) (As:List X6) (hp:1≤deep) (hd:deep+(d:Int)=9) (hl0:t.length≤10000) (h0:0≤l) (h1:l≤1000) (hK:Kx I) (hS:Sat B w I (blk rb [S (t),I64 (l)] 171::As)):Calls Tryz.prog 104 [ptr rb 0,I64 deep].toArray w (Ret fun v w'=>∃ J s1 a1 n1 m1 s2 a2 n2 m2 ok t' l',v=.tuple #[.agg ([S s1,.slice a1 n1 m1,S s2,.slice a2 n2 m2]:List Value).toArray,.bool ok]∧Le I J∧(match X22 d l t with
   | none=>ok=false
   | some (k,r,l2)=>ok=true∧t'=r∧l'=l2∧NdV d J [S s1,.slice a1 n1 m1,S s2,.slice a2 n2 m2] k)∧Sat B w' J (blk rb [S (t'),I64 (l')] 171::As)):=by
 refine calls Tryz.func104 rfl Tryz.ntmps104 rfl (.seq (.region (.allocA (cs:=[_,_,_,_]) hS X6b rfl ?_)));intro b4 w hS;refine .q 1 rfl (.nil (.scope (.seq (.t 2 rfl ?_))));refine .val (.fo 1 rfl X4d rfl rfl Qs3 rfl) rfl (.val (.lo rfl hS (k:=1) rfl Qg3 rfl) rfl (.run 2 rfl ⟨⟨by omega,by omega⟩,trivial⟩ (.val (.fo 1 rfl X4d rfl rfl Qs3 rfl) rfl (.s1 hS (k:=1) rfl rfl rfl rfl Qs3 (by simp) ?_))));intro w hS;refine .nil (.seq (.seq (.t 3 rfl (.gm rfl rfl rfl rfl (.gval rfl rfl (fun hg1=>(.nilCheck (.gd hg1 rfl))) rfl ?_)))));refine .gval rfl rfl (fun hg1=>(by exact .fieldAddr 1 (.gd hg1 rfl) X4d rfl rfl Qs3 rfl)) rfl ?_;refine .gval rfl rfl (fun hg1=>(by exact (.ld (.gd hg1 rfl) hS (k:=1) rfl Qg3 rfl))) rfl ?_;refine .gval rfl rfl (fun hg1=>(.lss (.gd hg1 rfl) (.of rfl))) rfl (.val (.po rfl rfl rfl) rfl (.q 1 rfl (.gm rfl rfl rfl rfl ?_)));replace hS:=(hS.pick 1 rfl)
 have hg9:=fun b=>Xp5 rb t [60] _ b B _ I _ hS
 refine .gcallT rfl rfl rfl Xkc rfl (fun hg1=>Xc (.gd hg1 rfl) (ec9 rfl X0)) rfl (hg9 _).1 (hg9 _).2 ?_;clear hS hg9; intro w hS;refine .gval rfl rfl (fun hg1=>(.not (.gd hg1 rfl))) rfl (.val (.po rfl rfl rfl) rfl (.nil ?_));refine .cond rfl (fun hb32=>?_) fun hb32=>?_
 ·refine .seq (.region (.val (.build (cs:=[_,_,_,_]) X4 X14 rfl) rfl ?_));refine .so hS (k:=1) rfl rfl rfl rfl Xy rfl (by simp) ?_;intro w hS;try simp only [Yk,Yf,Y9,Y7,Yh,Ym,Yd] at hS
  refine .q 1 rfl (.nil (.ret ?_));refine X1j (b:=_) (cs:=[_,_,_,_]) Xpl hS (k:=1) rfl X2u Xy rfl rfl rfl (⟨_,rfl,I,[],none,0,0,[],none,0,0,false,_,_,rfl,Le.refl _,?_,(hS.drop (k:=1) rfl)⟩);cases d with
  | zero=>rfl
  | succ e =>
   rw [X22,if_pos]
   by_cases h1:l - 1<0
   ·exact .inl h1
   ·right
    have h2:¬ deep > 8:=by push_cast at hd; omega
    rw [decide_eq_false h1,decide_eq_false h2] at hb32;simpa using hb32
 have hc32:=hb32; simp only [Y6] at hc32;refine .skip (.seq ?_);obtain ⟨hl1,hp1⟩:(deep≤8∧0≤l - 1)∧Xd t [60]=true:=by simpa using hb32
 have htk:(!(decide (deep > 8) || decide (l - 1<0)) && Xd t [60])=true:=by rw [hp1,decide_eq_false (by omega),decide_eq_false (by omega)]; rfl
 unfold tkn at hS;rw [if_pos htk] at hS;obtain ⟨e,he9⟩:∃ e,d=e+1:=⟨d - 1,by omega⟩
 subst he9;have hp1l:=X4u hp1; simp only [List.length_cons,List.length_nil] at hp1l;obtain ⟨t1,ht1⟩:∃ x,x=t.drop 1:=⟨_,rfl⟩
 have hl1t:t1.length=t.length - 1:=by rw [ht1,Yg]
 rw [show List.drop ([60]:List UInt8).length t=t1 from ht1.symm] at hS;have hE1:X22 (e+1) l t=match X15 ((X5 [32,62] t1).length+1) (X5 [32,62] t1) [] with
   | none=>none
   | some (ps,r)=>if Xd r [62]=false then none else match X3w (upto [60] (r.drop 1)) with
    | none=>none
    | some z=>match X37 (X22 e) ((X5 [60] (r.drop 1)).length+1) (l - 1) (X5 [60] (r.drop 1)) [] with
     | none=>none
     | some (ks,q,l)=>if Xd q (60::47::upto [32,62] t1 ++ [62])=false then none else some (.mk (upto [32,62] t1) ps z ks,q.drop ((upto [32,62] t1).length+3),l):=by
  rw [X22,if_neg (by rintro (h | h) <;> first | omega | (rw [hp1] at h; cases h)),← ht1];rfl
 have hk1:=Xx [32,62] t1;refine .t 1 rfl (.call Xmk rfl (ec9 rfl (ec9 rfl X0)) rfl (xword2 rb t1 (by omega) (l - 1) B _ I _ hS) ?_);rintro _ w ⟨rfl,hS⟩;try dsimp only [List.eraseIdx] at hS
 refine .val (.build (cs:=[_,_,_,_]) (pc9 rfl X4) X14 rfl) rfl (.allocA (cs:=[_,_,_,_]) hS X6b rfl ?_);intro b6 w hS;refine .so hS (k:=0) rfl rfl rfl rfl Xy rfl (by simp) ?_;intro w hS;try simp only [Yk,Yf,Y9,Y7,Yh,Ym,Yd] at hS
 refine .nil (.seq ?_);obtain ⟨t2,ht2⟩:∃ x,x=X5 [32,62] t1:=⟨_,rfl⟩
 obtain ⟨nm,hnm⟩:∃ x,x=upto [32,62] t1:=⟨_,rfl⟩
 rw [← ht2,← hnm] at hS hE1 hk1;refine .q 1 rfl (.seq (.seq (.t 1 rfl (.call Tryz.func146 rfl (ec9 rfl X0) rfl (Xh1 rb t2 (by omega) (l - 1) B _ I hK _ (hS.pick 1 rfl)) ?_))));rintro _ w ⟨J,aa,m,c,ok,t3,rfl,hJ,hA,hS⟩;try dsimp only [List.eraseIdx] at hS
 have hA2:(X15 (t2.length+1) t2 []=none∧ok=false)∨∃ ps,X15 (t2.length+1) t2 []=some (ps,t3)∧ok=true∧m=ps.length∧m≤c∧RS J aa 2 m (X9 Xo ps)∧(∀ a∈ps,a.1.length≤t2.length∧a.2.length≤t2.length)∧ps.length≤t2.length:=by
  cases h:X15 (t2.length+1) t2 [] with
  | none=>rw [h] at hA; exact .inl ⟨rfl,hA⟩
  | some x =>
   obtain ⟨ps,r⟩:=x;rw [h] at hA;obtain ⟨h1,h2,h3⟩:=hA;subst h2;exact .inr ⟨ps,rfl,h1,h3⟩
 refine .q 3 rfl (.val (.fo 1 rfl X38 rfl rfl X6e rfl) rfl (.s1 hS (k:=1) rfl rfl rfl rfl X6e (by simp) ?_));intro w hS;refine .q 1 rfl (.nil (.seq (.t 3 rfl (.gm rfl rfl rfl rfl ?_))));have hg9:=fun b=>Xp5 rb t3 [62] _ b B _ J _ hS
 refine .gcallT rfl rfl rfl Xkc rfl (fun hg1=>Xc (.gd hg1 rfl) (ec9 rfl X0)) rfl (hg9 _).1 (hg9 _).2 ?_;clear hS hg9; intro w hS;refine .gval rfl rfl (fun hg1=>(.not (.gd hg1 rfl))) rfl (.val (.po rfl rfl rfl) rfl (.nil ?_));refine .cond rfl (fun hb49=>?_) fun hb49=>?_
 ·refine .seq (.region (.val (.build (cs:=[_,_,_,_]) X4 X14 rfl) rfl ?_));refine .so hS (k:=2) rfl rfl rfl rfl Xy rfl (by simp) ?_;intro w hS;try simp only [Yk,Yf,Y9,Y7,Yh,Ym,Yd] at hS
  refine .q 1 rfl (.nil (.ret ?_));refine X1j (b:=_) (cs:=[_,_,_,_]) Xpl hS (k:=2) rfl X2u Xy rfl rfl rfl (⟨_,rfl,J,[],none,0,0,[],none,0,0,false,_,_,rfl,hJ,?_,((hS.drop (k:=1) rfl).drop (k:=1) rfl)⟩);rw [hE1];rcases hA2 with ⟨h,_⟩ | ⟨ps,h1,h2,_⟩
  ·rw [h]
  ·rw [h1];dsimp only
   rw [if_pos (by rw [h2] at hb49; simpa using hb49)]
 have hc49:=hb49; simp only [Y6] at hc49;refine .skip (.seq ?_);obtain ⟨hok9,hp3⟩:ok=true∧Xd t3 [62]=true:=by simpa using hb49
 have htk3:(!(!ok) && Xd t3 [62])=true:=by rw [hok9,hp3]; rfl
 unfold tkn at hS;rw [if_pos htk3] at hS;obtain ⟨ps,hAF,hmp,hmc,hRS,hps,hpl⟩:∃ ps,X15 (t2.length+1) t2 []=some (ps,t3)∧m=ps.length∧m≤c∧RS J aa 2 m (X9 Xo ps)∧(∀ a∈ps,a.1.length≤t2.length∧a.2.length≤t2.length)∧ps.length≤t2.length:=by
  rcases hA2 with ⟨_,h⟩ | ⟨ps,h1,h2,h3⟩
  ·rw [h] at hok9; cases hok9
  ·exact ⟨ps,h1,h3⟩
 have hl3:=X7r _ _ _ _ _ hAF;have hp3l:=X4u hp3; simp only [List.length_cons,List.length_nil] at hp3l;obtain ⟨t4,ht4⟩:∃ x,x=t3.drop 1:=⟨_,rfl⟩
 have hl4:t4.length=t3.length - 1:=by rw [ht4,Yg]
 rw [show List.drop ([62]:List UInt8).length t3=t4 from ht4.symm] at hS;rw [hAF] at hE1;dsimp only at hE1
 rw [if_neg (by rw [hp3]; decide),← ht4] at hE1;have hk4:=Xx [60] t4;have hKJ:=hK.mono hJ;refine .t 1 rfl (.call Xmk rfl (ec9 rfl (ec9 rfl X0)) rfl (Xp4 rb t4 60 (by decide) (by omega) (l - 1) B _ J _ hS) ?_);rintro _ w ⟨rfl,hS⟩;try dsimp only [List.eraseIdx] at hS
 refine .call Tryz.func147 rfl (ec9 rfl X0) rfl (X6v (upto [60] t4) (by omega) B _ J hKJ _ hS) ?_;rintro _ w ⟨n1,e1,rfl,hu,hS⟩;refine .q 5 rfl (.nil (.seq (.seq (.q 2 rfl ?_))));refine .cond rfl (fun hb58=>?_) fun hb58=>?_
 ·have hc58:=hb58; simp only [Y6] at hc58;refine .seq (.region (.val (.build (cs:=[_,_,_,_]) X4 X14 rfl) rfl ?_));refine .so hS (k:=2) rfl rfl rfl rfl Xy rfl (by simp) ?_;intro w hS;try simp only [Yk,Yf,Y9,Y7,Yh,Ym,Yd] at hS
  refine .q 1 rfl (.nil (.ret ?_));refine X1j (b:=_) (cs:=[_,_,_,_]) Xpl hS (k:=2) rfl X2u Xy rfl rfl rfl (⟨_,rfl,J,[],none,0,0,[],none,0,0,false,_,_,rfl,hJ,?_,((hS.drop (k:=1) rfl).drop (k:=1) rfl)⟩);rw [hE1];cases hh:X3w (upto [60] t4) with
  | none=>rfl
  | some z=>rw [hh] at hu; have:=hu.2; have:=hc58; omega
 have hc58:=hb58; simp only [Y6] at hc58;refine .skip (.seq ?_);have he0:e1=0:=by have:=hc58; omega
 have hun:X3w (upto [60] t4)=some n1:=by
  cases hh:X3w (upto [60] t4) with
  | none=>rw [hh] at hu; have:=hu.2; omega
  | some z=>rw [hh] at hu; rw [hu.1]
 have hun1:=Xtc hun;rw [hun] at hE1;dsimp only at hE1
 obtain ⟨t5,ht5⟩:∃ x,x=X5 [60] t4:=⟨_,rfl⟩
 rw [← ht5] at hS hE1 hk4;refine .t 1 rfl (.val (.fo 2 rfl X38 rfl rfl Qs9 rfl) rfl (.s1 hS (k:=1) rfl rfl rfl rfl Qs9 (by simp) ?_));intro w hS;refine .nil (.seq (.label (.seq (.block ?_))));have hS0:=((hS.vecNil 126 4).pick 2 rfl).pick 2 rfl; clear hS; try dsimp only [List.eraseIdx] at hS0
 refine .loop (σ:=List UInt8×Int×List Nd×List (List Value)×Value×Im) (fun ⟨tq,lq,ks,xs,v,M⟩=>[(0,ptr rb 0),(1,I64 deep),(4,ptr b4 0),(6,ptr b6 0)]) (fun ⟨tq,lq,ks,xs,v,M⟩ w=>tq.length≤t5.length∧0≤lq∧lq≤1000∧X37 (X22 e) (t5.length+1) (l - 1) t5 []=X37 (X22 e) (tq.length+1) lq tq ks∧Le J M∧xs.length=ks.length∧(∀ x∈xs,x.length=4)∧(∀ (i:Nat) x k,xs[i]?=some x→ks[i]?=some k→NdV e M x k)∧ks.length+tq.length≤t5.length∧Sat B w M (blk rb [S (tq),I64 (lq)] 171::blk b6 [S nm,.slice aa m c,S n1,v] 126::Vec 126 4 v xs.length xs.flatten::blk b4 [S [],.slice none 0 0,S [],.slice none 0 0] 126::As)) (fun ⟨tq,lq,ks,xs,v,M⟩=>tq.length) (t5,l - 1,[],[],.slice none 0 0,J) ⟨rfl,rfl,rfl,rfl,trivial⟩ ⟨Yo _,by omega,by omega,rfl,Le.refl _,rfl,by simp,by simp,by simp,hS0⟩ ?_;rintro ⟨tq,lq,ks,xs,v,M⟩ w ⟨htq,h0q,h1q,hkf,hJM,hxk,hx4,hNd,hkl,hS⟩;clear hS0;refine .block (.seq (.seq (.t 2 rfl ?_)));refine .val (.fo 0 rfl X4d rfl rfl Qs9 rfl) rfl (.val (.lo rfl hS (k:=0) rfl Qg9 rfl) rfl (.call Xge rfl (ec9 rfl (ec9 rfl X0)) rfl (X1q tq [60,47] _ (by omega) (by decide)) ?_));rintro _ _ ⟨rfl,rfl⟩;refine .nil (.cond rfl (fun hb66=>?_) fun hb66=>?_)
 ·refine .exit (.seq ?_);obtain ⟨ka,kc,rfl,hkc,_⟩:=hS.vecSlice (k:=2) rfl;refine .drawn (fun w=>∃ R,Sat B w M (blk b6 [S nm,.slice aa m c,S n1,.slice ka xs.length kc] 126::R)) (fun j=>!([].contains j)) (by kernel_rfl) ?_;replace hS:=hS.drew; generalize w.drew=w at hS ⊢;have hH:=(hS.pick 1 rfl)
  refine .tk (i:=0) rfl (by kernel_rfl) ⟨_,hH⟩ (fun w ⟨R,hS⟩=>((.ldsW (cs:=[_,_,_,_]) (.of rfl) hS (k:=0) rfl X2u Xy rfl))) rfl (.tp (i:=1) rfl (by kernel_rfl) (fun w=>(.mo rfl)) rfl (.tp (i:=2) rfl (by kernel_rfl) (fun w=>(.fo 0 rfl X38 rfl rfl Qs9 rfl)) rfl (.tk (i:=3) rfl (by kernel_rfl) ⟨_,hH⟩ (fun w ⟨R,hS⟩=>(.lo rfl hS (k:=0) rfl Qg9 rfl)) rfl (.tp (i:=4) rfl (by kernel_rfl) (fun w=>(.cat (.of rfl) (.of rfl) (by (try simp only [Y0,List.length_cons,List.length_nil]); omega))) rfl (.tp (i:=5) rfl (by kernel_rfl) (fun w=>(.cat (.of rfl) (.of rfl) (by (try simp only [Y0,List.length_cons,List.length_nil]); omega))) rfl (.b1 6 (by kernel_rfl) rfl (.call Xkc rfl (ec9 rfl (ec9 rfl X0)) rfl (X9t rb tq (([60,47] ++ nm) ++ [62]) lq B _ M _ hS) ?_)))))));rintro _ w ⟨rfl,hS⟩;refine .nil ?_;clear hH;have hH:=(hS.pick 1 rfl)
  refine ⟨fun _ _=>⟨_,hH⟩,?_⟩;refine .b1 7 (by kernel_rfl) rfl (.so hS (k:=3) rfl rfl rfl rfl Xy rfl (by simp) ?_);intro w hS;try simp only [Yk,Yf,Y9,Y7,Yh,Ym,Yd] at hS
  refine .nil ?_;clear hH;have hH:=(hS.pick 1 rfl)
  refine ⟨fun _ _=>⟨_,hH⟩,?_⟩;refine .tp (i:=8) rfl (by kernel_rfl) (fun w=>(.ao rfl)) rfl (.done (by kernel_rfl) (.ret ?_));refine X1j (b:=_) (cs:=[_,_,_,_]) Xpl hS (k:=3) rfl X2u Xy rfl rfl rfl ?_;have hS9:=((((hS.pick 2 rfl).pick 1 rfl).drop (k:=2) rfl).drop (k:=2) rfl)
  obtain ⟨M3,hM3,hRk,hS9⟩:=hS9.freezeVec (k:=1) rfl;have hkq:X37 (X22 e) (tq.length+1) lq tq ks=some (ks,tq,lq):=by rw [X37,if_pos hb66]
  rw [hkf,hkq] at hE1;dsimp only at hE1
  have hnl:nm.length≤10000:=by omega
  refine ⟨_,rfl,M3,nm,aa,m,c,n1,ka,xs.length,kc,_,_,_,rfl,hJ.trans (hJM.trans hM3),?_,hS9⟩;rw [hE1];rw [show (([60,47]:List UInt8) ++ nm ++ [62])=60::47::nm ++ [62] from rfl];cases hpq:Xd tq (60::47::nm ++ [62]) with
  | false=>rfl
  | true =>
   refine ⟨rfl,?_,rfl,?_⟩
   ·rw [if_pos rfl]; congr 1; simp only [List.length_cons,Y0,List.length_nil]
   ·refine ⟨hnl,by (try dsimp only [Nd.text]); show n1.length≤10000; omega,by show ps.length≤10000; omega,by show ks.length≤10000; omega,fun a ha=>by have:=hps a ha; omega,aa,c,ka,kc,xs,?_,?_,?_,?_,?_,hxk,hx4,fun i x k hx hk=>(hNd i x k hx hk).mono hM3⟩
    ·show [S nm,.slice aa m c,S n1,.slice ka xs.length kc]=[S nm,.slice aa ps.length c,S n1,.slice ka ks.length kc]
     rw [hmp,hxk]
    ·show ps.length≤c; omega
    ·show ks.length≤kc; omega
    ·have:=(hRS.mono hJM).mono hM3; rw [hmp] at this; exact this
    ·rw [hxk] at hRk; exact hRk
 refine .skip (.seq (.region (.run 3 rfl ⟨⟨by omega,by omega⟩,trivial⟩ ?_)));refine .call Tryz.func104 rfl (ec9 rfl (ec9 rfl X0)) rfl (ih e rfl (deep+1) tq lq rb B _ M _ (by omega) (by push_cast at hd; omega) (by omega) h0q h1q (hK.mono (hJ.trans hJM)) hS) ?_;rintro _ w ⟨M2,s1,a1,n1,m1,s2,a2,n2,m2,ok2,t7,l7,rfl,hM2,hE,hS⟩;refine .q 3 rfl (.allocA (cs:=[_,_,_,_]) hS X6b rfl ?_);intro b10 w hS;refine .so hS (k:=0) rfl rfl rfl rfl Xy rfl (by simp) ?_;intro w hS;try simp only [Yk,Yf,Y9,Y7,Yh,Ym,Yd] at hS
 refine .q 1 rfl (.nil (.seq (.seq (.q 2 rfl ?_))));refine .cond rfl (fun hb75=>?_) fun hb75=>?_
 ·refine .seq (.region (.val (.build (cs:=[_,_,_,_]) X4 X14 rfl) rfl ?_));refine .so hS (k:=4) rfl rfl rfl rfl Xy rfl (by simp) ?_;intro w hS;try simp only [Yk,Yf,Y9,Y7,Yh,Ym,Yd] at hS
  refine .q 1 rfl (.nil (.ret ?_));refine X1j (b:=_) (cs:=[_,_,_,_]) Xpl hS (k:=4) rfl X2u Xy rfl rfl rfl (⟨_,rfl,M2,[],none,0,0,[],none,0,0,false,_,_,rfl,hJ.trans (hJM.trans hM2),?_,(((((hS.pick 1 rfl).drop (k:=1) rfl).drop (k:=1) rfl).drop (k:=1) rfl).drop (k:=1) rfl)⟩);have hks:X37 (X22 e) (t5.length+1) (l - 1) t5 []=none:=by
   rw [hkf,X37,if_neg (by rw [hb66]; decide)];cases hh:X22 e lq tq with
   | none=>rfl
   | some x=>obtain ⟨k,r,z⟩:=x; rw [hh] at hE; rw [hE.1] at hb75; cases hb75
  rw [hE1,hks]
 refine .skip ?_;have hok5:ok2=true:=by simpa using hb75
 obtain ⟨k,hEk,hNk⟩:∃ k,X22 e lq tq=some (k,t7,l7)∧NdV e M2 [S s1,.slice a1 n1 m1,S s2,.slice a2 n2 m2] k:=by
  cases hh:X22 e lq tq with
  | none=>rw [hh] at hE; rw [hE] at hok5; cases hok5
  | some x =>
   obtain ⟨k,r,z⟩:=x;rw [hh] at hE;obtain ⟨_,h2,h3,h4⟩:=hE;subst h2; subst h3;exact ⟨k,rfl,h4⟩
 have hshort:=Xah _ _ _ _ _ _ hEk;have hlow:=Xib _ _ _ _ _ _ h0q hEk;refine .region (.val (.fo 3 rfl X38 rfl rfl Xej rfl) rfl (.val (.lo rfl hS (k:=2) rfl Xkb rfl) rfl (.val (.ldsW (cs:=[_,_,_,_]) (.of rfl) hS (k:=0) rfl X2u Xy rfl) rfl (.buildSlice (cs:=[_,_,_,_]) hS (pc9 rfl X4) X83 Xy X6b rfl rfl rfl rfl ?_))));intro b80 w hS;refine .append (size:=4) (bytes:=80) hS (.of rfl) (.of rfl) (k:=3) rfl X83 Xgs rfl rfl rfl rfl rfl rfl rfl ⟨by omega,by unfold maxLen; omega⟩ rfl ?_;intro v81 w hS;obtain ⟨a81,c81,rfl,hcap81,_⟩:=hS.vecSlice (k:=3) (v:=v81) rfl;refine .val (.fo 3 rfl X38 rfl rfl Xej rfl) rfl (.s1 hS (k:=2) rfl rfl rfl rfl Xej (by simp) ?_);intro w hS;refine .nil ?_;replace hS:=(((((hS.pick 4 rfl).pick 4 rfl).pick 4 rfl).pick 4 rfl).drop (k:=4) rfl)
 have hxl9:(xs ++ [[S s1,.slice a1 n1 m1,S s2,.slice a2 n2 m2]]).length=xs.length+1:=by simp
 have hxf9:(xs ++ [[S s1,.slice a1 n1 m1,S s2,.slice a2 n2 m2]]).flatten=xs.flatten ++ [S s1,.slice a1 n1 m1,S s2,.slice a2 n2 m2]:=by simp
 refine ⟨(t7,l7,ks ++ [k],xs ++ [[S s1,.slice a1 n1 m1,S s2,.slice a2 n2 m2]],_,M2),⟨rfl,rfl,rfl,rfl,trivial⟩,⟨by (try dsimp only); omega,by (try dsimp only); omega,by (try dsimp only); omega,?_,hJM.trans hM2,by simp [hxk],fun x hx=>?_,fun i x k2 hx hk=>?_,by rw [Y0]; (try dsimp only [List.length_cons,List.length_nil]); omega,by rw [hxl9,hxf9]; exact hS⟩,by (try dsimp only); omega⟩
 ·rw [hkf,X37,if_neg (by rw [hb66]; decide),hEk];exact Xb5 (fun l s k r l2 h=>Xah _ _ _ _ _ _ h) _ _ _ _ _ (by omega) (by omega)
 ·rcases Y11.1 hx with h | h
  ·exact hx4 x h
  ·rw [Y3r.1 h]; rfl
 ·rcases Ys i xs.length with h | h
  ·rw [Yi h] at hx;rw [Yi (by omega)] at hk;exact (hNd i x k2 hx hk).mono hM2
  ·have hi:i=xs.length:=by have:=(Y4.1 hx).1; rw [hxl9] at this; omega
   subst hi;rw [Yv (Yo _),Y3w] at hx;rw [hxk,Yv (Yo _),Y3w] at hk;cases hx; cases hk
   exact hNk
theorem Xdx:∀ (d:Nat) (deep:Int) (t:List UInt8) (l:Int) (rb:Nat) (B w:World) (I:Im) (As:List X6),1≤deep→deep+(d:Int)=9→t.length≤10000→0≤l→l≤1000→Kx I→Sat B w I (blk rb [S (t),I64 (l)] 171::As)→Calls Tryz.prog 104 [ptr rb 0,I64 deep].toArray w (Ret fun v w'=>∃ J s1 a1 n1 m1 s2 a2 n2 m2 ok t' l',v=.tuple #[.agg ([S s1,.slice a1 n1 m1,S s2,.slice a2 n2 m2]:List Value).toArray,.bool ok]∧Le I J∧(match X22 d l t with
   | none=>ok=false
   | some (k,r,l2)=>ok=true∧t'=r∧l'=l2∧NdV d J [S s1,.slice a1 n1 m1,S s2,.slice a2 n2 m2] k)∧Sat B w' J (blk rb [S (t'),I64 (l')] 171::As)):=by
 intro d
 induction d with
 | zero=>exact fun deep t l rb B w I As=>Xe7 0 (fun e he=>by omega) deep t l rb B w I As
 | succ d ih=>exact fun deep t l rb B w I As=>Xe7 (d+1) (fun e he=>by have:e=d:=(by omega); subst this; exact ih) deep t l rb B w I As
theorem Xl0:Bld Tryz.prog 171 [(0,1),(1,1)] [S [],.int .i64 0]:=X2b X4d Tryz.zeroValue171 (fun w=>by simp [go_sem])
theorem nd0_V (I:Im) (d:Nat):NdV (d+1) I [S [],.slice none 0 0,S [],.slice none 0 0] nd0:=by
 refine ⟨by decide,by decide,by decide,by decide,fun a h=>by simp [nd0,Nd.attrs] at h,none,0,none,0,[],rfl,Yo _,Yo _,RS.nil I 2,RS.nil I 4,rfl,fun x h=>by simp at h,fun i x k h _=>by simp at h⟩
set_option maxRecDepth 4000 in
theorem Xnf (s:List UInt8) (hl:s.length≤10000) (B w:World) (I:Im) (hK:Kx I) (As:List X6) (hS:Sat B w I As) :
  Cz 63 [S s] w fun v w'=>∃ J s1 a1 n1 m1 s2 a2 n2 m2 e nd,v=.tuple #[.agg ([S s1,.slice a1 n1 m1,S s2,.slice a2 n2 m2]:List Value).toArray,I64 (e:Nat)]∧Le I J∧NdV 8 J [S s1,.slice a1 n1 m1,S s2,.slice a2 n2 m2] nd∧(Xgm s=none∧e=10∧nd=nd0∨Xgm s=some nd∧e=0)∧Sat B w' J As:=by
 refine calls Tryz.func63 rfl Tryz.ntmps63 rfl (.seq (.region (.allocA (cs:=[_,_,_,_]) hS X6b rfl ?_)));intro b2 w hS;refine .q 1 rfl (.nil (.seq (.t 1 rfl (.val (.build (cs:=[_,_]) (pc9 rfl (pc9 rfl X4)) Xl0 rfl) rfl (.boxA (cs:=[_,_]) hS (.of rfl) rfl ?_)))));intro b9 w hS;refine .q 1 rfl (.nil (.seq (.t 1 rfl (.call Tryz.func104 rfl (ec9 rfl (ec9 rfl X0)) rfl (Xdx 8 1 s 200 b9 B _ I _ (by decide) (by decide) hl (by decide) (by decide) hK hS) ?_))));rintro _ w ⟨J,s1,a1,n1,m1,s2,a2,n2,m2,ok,t7,l7,rfl,hJ,hE,hS⟩;have hE2:∃ k,(X22 8 200 s=none∧ok=false)∨(X22 8 200 s=some (k,t7,l7)∧ok=true∧NdV 8 J [S s1,.slice a1 n1 m1,S s2,.slice a2 n2 m2] k):=by
  cases h:X22 8 200 s with
  | none=>rw [h] at hE; exact ⟨nd0,.inl ⟨rfl,hE⟩⟩
  | some x =>
   obtain ⟨k,r,z⟩:=x;rw [h] at hE;obtain ⟨h1,h2,h3,h4⟩:=hE;subst h2; subst h3;exact ⟨k,.inr ⟨rfl,h1,h4⟩⟩
 obtain ⟨k,hE2⟩:=hE2;have hN9:ok=true→NdV 8 J [S s1,.slice a1 n1 m1,S s2,.slice a2 n2 m2] k:=fun h=>by
  rcases hE2 with ⟨_,h2⟩ | ⟨_,_,h4⟩
  ·rw [h2] at h; cases h
  ·exact h4
 refine .q 3 rfl (.allocA (cs:=[_,_,_,_]) hS X6b rfl ?_);intro b5 w hS;refine .so hS (k:=0) rfl rfl rfl rfl Xy rfl (by simp) ?_;intro w hS;try simp only [Yk,Yf,Y9,Y7,Yh,Ym,Yd] at hS
 refine .q 1 rfl (.nil (.seq (.seq (.t 3 rfl (.gm rfl rfl rfl rfl (.gval rfl rfl (fun hg1=>(.nilCheck (.gd hg1 rfl))) rfl ?_))))));refine .gval rfl rfl (fun hg1=>(by exact .fieldAddr 0 (.gd hg1 rfl) X4d rfl rfl Qs9 rfl)) rfl ?_;refine .gval rfl rfl (fun hg1=>(by exact (.ld (.gd hg1 rfl) hS (k:=1) rfl Qg9 rfl))) rfl ?_;refine .gval rfl rfl (fun hg1=>(.nes (.gd hg1 rfl) (.of rfl))) rfl (.val (.po rfl rfl rfl) rfl (.q 1 rfl ?_));refine .gval rfl rfl (fun hg1=>(by exact (.ldsW (cs:=[_,_,_,_]) (.of rfl) hS (k:=0) rfl X2u Xy rfl))) rfl ?_;refine .gcall (T:=fun w=>Sat B w J (blk b5 [S s1,.slice a1 n1 m1,S s2,.slice a2 n2 m2] 126::blk b9 [S t7,I64 l7] 171::blk b2 [S [],.slice none 0 0,S [],.slice none 0 0] 126::As)) rfl rfl rfl Tryz.func105 rfl (fun hg1=>(Xc (.gd hg1 rfl) X0)) rfl (fun hg1=>Xb7 k [S s1,.slice a1 n1 m1,S s2,.slice a2 n2 m2] B _ J (hN9 (by revert hg1; cases ok <;> simp)) _ hS) hS ?_;rintro w hS;refine .gval rfl rfl (fun hg1=>(.not (.gd hg1 rfl))) rfl (.val (.po rfl rfl rfl) rfl (.nil ?_));refine .cond rfl (fun hb28=>?_) fun hb28=>?_
 ·refine .seq (.region (.val (.build (cs:=[_,_,_,_]) X4 X14 rfl) rfl ?_));refine .so hS (k:=2) rfl rfl rfl rfl Xy rfl (by simp) ?_;intro w hS;try simp only [Yk,Yf,Y9,Y7,Yh,Ym,Yd] at hS
  refine .q 1 rfl (.nil (.ret ?_));refine X1j (b:=_) (cs:=[_,_,_,_]) Tryz.results63 hS (k:=2) rfl X2u Xy rfl rfl rfl (⟨_,rfl,J,[],none,0,0,[],none,0,0,10,nd0,rfl,hJ,nd0_V J 7,.inl ⟨?_,rfl,rfl⟩,(((hS.drop (k:=0) rfl).drop (k:=0) rfl).drop (k:=0) rfl)⟩);unfold Xgm;rcases hE2 with ⟨h,_⟩ | ⟨h,h2,_⟩
  ·rw [h]
  ·rw [h];dsimp only
   rw [if_pos];rw [h2] at hb28
   revert hb28
   cases (X2s 8 200 k) <;> simp
 refine .skip (.seq (.region ?_));refine .val (.ldsW (cs:=[_,_,_,_]) (.of rfl) hS (k:=0) rfl X2u Xy rfl) rfl (.so hS (k:=2) rfl rfl rfl rfl Xy rfl (by simp) ?_);intro w hS;try simp only [Yk,Yf,Y9,Y7,Yh,Ym,Yd] at hS
 refine .q 1 rfl (.nil (.ret ?_));refine X1j (b:=_) (cs:=[_,_,_,_]) Tryz.results63 hS (k:=2) rfl X2u Xy rfl rfl rfl ?_;have hb8:=hb28;simp only [Yz,Y2m] at hb8
 obtain ⟨⟨h1,h2⟩,h3⟩:=hb8;refine ⟨_,rfl,J,_,_,_,_,_,_,_,_,0,k,rfl,hJ,hN9 h1,.inr ⟨?_,rfl⟩,(((hS.drop (k:=0) rfl).drop (k:=0) rfl).drop (k:=0) rfl)⟩;unfold Xgm;rcases hE2 with ⟨_,h⟩ | ⟨h,_,_⟩
 ·rw [h1] at h; cases h
 ·rw [h];dsimp only
  rw [if_neg];rintro (h5 | h5)
  ·exact h5 (by simpa using h2)
  ·rw [Option.isNone_iff_eq_none] at h5; rw [h5] at h3; cases h3
abbrev Cl:=List UInt8×Option Addr×Nat×Nat×List UInt8×Option Addr×Nat×Nat
def clC (c:Cl):List Value:=[S c.1,.slice c.2.1 c.2.2.1 c.2.2.2.1,S c.2.2.2.2.1,.slice c.2.2.2.2.2.1 c.2.2.2.2.2.2.1 c.2.2.2.2.2.2.2]
theorem Xtn {d:Nat} {I:Im}:∀ {xs:List (List Value)} {ks:List Nd},xs.length=ks.length→(∀ (i:Nat) x k,xs[i]?=some x→ks[i]?=some k→NdV d I x k)→∃ ys:List Cl,xs=ys.map clC
 | [],_,_,_=>⟨[],rfl⟩
 | x::xs,[],h,_=>by simp at h
 | x::xs,k::ks,h,hN=>by
  obtain ⟨s1,a1,n1,m1,s2,a2,n2,m2,rfl⟩:=(hN 0 x k rfl rfl).cells;obtain ⟨ys,rfl⟩:=Xtn (xs:=xs) (ks:=ks) (by simpa using h) (fun i x k hx hk=>hN (i+1) x k hx hk);exact ⟨(s1,a1,n1,m1,s2,a2,n2,m2)::ys,rfl⟩
theorem NdV.name {I:Im}:∀ {d:Nat} {c:Cl} {n:Nd},NdV d I (clC c) n→c.1=n.name
 | 0,_,_,h=>h.elim
 | d+1,c,n,h=>by
  obtain ⟨h1,h2,h3,h4,h5,aa,ca,ka,ck,xs,h6,_⟩:=h;injection h6 with h6; injection h6 with h6; injection h6 with h6; simpa using h6
theorem X5h {α:Type} (pr:α→Bool):∀ (l:List α) (k:Nat),(Xt pr l k=-1∧∀ x∈l,pr x=false)∨∃ j x,Xt pr l k=((k+j:Nat):Int)∧l[j]?=some x∧pr x=true∧∀ (i:Nat) y,i<j→l[i]?=some y→pr y=false
 | [],_=>.inl ⟨rfl,by simp⟩
 | a::l,k=>by
  rw [Xt];cases ha:pr a with
  | true=>exact .inr ⟨0,a,by simp,rfl,ha,fun _ _ h=>absurd h (by omega)⟩
  | false =>
   rcases X5h pr l (k+1) with ⟨h1,h2⟩ | ⟨j,x,h1,h2,h3,h4⟩
   ·refine .inl ⟨by simpa using h1,fun x hx=>?_⟩;rcases Y15.1 hx with rfl | hx
    ·exact ha
    ·exact h2 x hx
   ·refine .inr ⟨j+1,x,by simp only [Y1m,if_false]; rw [h1]; congr 1; omega,by simpa using h2,h3,fun i y hi hy=>?_⟩;cases i with
    | zero=>cases hy; exact ha
    | succ i=>exact h4 i y (by omega) (by simpa using hy)
def Xd0 (n:Nd) (p:List UInt8):Option Nd:=n.kids.find? fun k=>k.name == p
theorem Xev {α:Type} {pr:α→Bool}:∀ {l:List α} {j:Nat} {x:α},l[j]?=some x→pr x=true→(∀ (i:Nat) y,i<j→l[i]?=some y→pr y=false)→l.find? pr=some x
 | [],j,x,h,_,_=>by simp at h
 | a::l,0,x,h,hp,_=>by cases h; rw [Y2s,hp]
 | a::l,j+1,x,h,hp,hn=>by
  rw [Y2s,hn 0 a (by omega) rfl];exact Xev (l:=l) (j:=j) (by simpa using h) hp (fun i y hi hy=>hn (i+1) y (by omega) (by simpa using hy))
theorem Xar (a:Option Addr) (cap:Nat) (l:List (Cl)) (hln:l.length≤9223372036854775807) (pr:Cl→Bool) (fid:FuncId) (fn:Func) (hfn:Tryz.prog.funcs[fid]?=some fn) (hcal:Xj fn=true) (capv:List Value) (B w:World) (I:Im) (As:List X6) (hE:∀ w,Sat B w I As→X6q w clC 4 a l) (hf:∀ (r:Cl) (hr:r∈l) w,Sat B w I As→Calls Tryz.prog fid ([Value.agg (clC r).toArray] ++ capv).toArray w (Ret fun v w'=>v=.bool (pr r)∧Sat B w' I As)) (hS:Sat B w I As) :
  Cz 106 [.slice a l.length cap,.func (.func fid) #[] capv.toArray] w fun v w'=>v=I64 (Xt pr l 0)∧Sat B w' I As:=by
 refine calls Tryz.func106 rfl Tryz.ntmps106 rfl (.seq (.q 1 rfl (.seq (.seq (.region (.run 3 rfl ⟨⟨_,X83⟩,trivial⟩ (.nil (.block (.loop (σ:=Nat) (fun i=>[(0,.slice a l.length cap),(1,.func (.func fid) #[] capv.toArray),(7,I64 (l.length:Nat)),(8,I64 (i:Nat))]) (fun i w=>i≤l.length∧(∀ (j:Nat) t,j<i→l[j]?=some t→pr t=false)∧Sat B w I As) (fun i=>l.length - i) 0 ⟨rfl,rfl,rfl,rfl,trivial⟩ ⟨Yq _,fun _ _ h=>absurd h (by omega),hS⟩ ?_)))))))));rintro i w ⟨hi,hno,hS⟩;refine .seq (.q 1 rfl (.seq ?_));refine .cond rfl (fun hb9=>?_) fun hb9=>?_
 ·have hc9:=hb9; try simp only [Y6] at hc9
  refine .skip (.seq (.block (.seq ?_)));obtain ⟨r,hr⟩:∃ r,l[i]?=some r:=⟨_,Y5 (by omega)⟩
  obtain ⟨p,rfl,hx⟩:=hE w hS i r hr;refine .q 2 rfl (.seq (.t 3 rfl ?_));refine .val (.ii rfl rfl (by omega) (by omega) X83 Xy) rfl (.val (.ldR (.of rfl) hx X2u Xy rfl) rfl (.vcall (cap:=capv) hfn hcal (.of rfl) (ec9 rfl X0) rfl (hf r (Yl hr) w hS) ?_));clear hS;rintro _ w ⟨rfl,hS⟩;refine .nil (.cond rfl (fun hb16=>?_) fun hb16=>?_)
  ·refine .seq (.q 2 rfl (.ret (X8 Tryz.results106 rfl ?_)));exact ⟨_,rfl,by rw [X2y hno hr hb16],hS⟩
  have hc16:=hb16; try simp only [Y6] at hc16
  refine .skip (.region (.run 2 rfl ⟨⟨by omega,by omega⟩,trivial⟩ (.nil ?_)));refine ⟨i+1,⟨rfl,rfl,rfl,rfl,trivial⟩,⟨by (try dsimp only); omega,fun j t hj ht=>?_,hS⟩,by (try dsimp only); omega⟩;rcases Ys j i with h1 | h1
  ·exact hno j t h1 ht
  ·have e:j=i:=by omega
   subst e;rw [hr] at ht; cases ht;exact hb16
 have hc9:=hb9; try simp only [Y6] at hc9
 refine .exit (.seq (.q 1 rfl (.ret (X8 Tryz.results106 rfl ?_))));exact ⟨_,rfl,by rw [X2g (fun j t ht=>hno j t (by have:=(Y4.1 ht).1; omega) ht)],hS⟩
theorem Xhc (r:Cl) (p:List UInt8) (b7:Nat) (B w:World) (I:Im) (As:List X6) (hS:Sat B w I (blk b7 [S p] 9::As)) :
  Cz 107 [.agg (clC r).toArray,ptr b7 0] w fun v w'=>v=.bool (r.1 == p)∧Sat B w' I (blk b7 [S p] 9::As):=by
 refine calls Tryz.func107 rfl Tryz.ntmps107 rfl (.seq (.region (.boxA (cs:=[_,_,_,_]) hS (.of rfl) rfl ?_)));intro b2 w hS;refine .q 1 rfl (.nil (.seq (.region ?_)));refine .val (.fo 0 rfl X38 rfl rfl Qs9 rfl) rfl (.val (.lo rfl hS (k:=0) rfl Qg9 rfl) rfl (.val (.lo rfl hS (k:=1) rfl Qg9 rfl) rfl (.q 2 rfl (.nil (.ret (X8 Tryz.results107 rfl ?_))))));exact ⟨_,rfl,rfl,hS.drop (k:=0) rfl⟩
set_option maxRecDepth 4000 in
theorem Xm8 (n:Nd) (p:List UInt8) (s1:List UInt8) (a1:Option Addr) (n1 m1:Nat) (s2:List UInt8) (a2:Option Addr) (n2 m2:Nat) (pb:Nat) (B w:World) (I:Im) (hN:NdV 8 I [S s1,.slice a1 n1 m1,S s2,.slice a2 n2 m2] n) (As:List X6) (hS:Sat B w I (blk pb [S p] 9::As)) :
  Cz 64 [.agg ([S s1,.slice a1 n1 m1,S s2,.slice a2 n2 m2]:List Value).toArray,.slice (some (ad pb 0)) 1 1] w fun v w'=>∃ t1 b1 k1 l1 t2 b2 k2 l2 ok nd,v=.tuple #[.agg ([S t1,.slice b1 k1 l1,S t2,.slice b2 k2 l2]:List Value).toArray,.bool ok]∧(Xd0 n p=none∧ok=false∨Xd0 n p=some nd∧ok=true)∧(∃ d,NdV d I [S t1,.slice b1 k1 l1,S t2,.slice b2 k2 l2] nd)∧Sat B w' I (blk pb [S p] 9::As):=by
 refine calls Tryz.func64 rfl Tryz.ntmps64 rfl (.seq (.region (.boxA (cs:=[_,_,_,_]) hS (.of rfl) rfl ?_)));intro b2 w hS;refine .allocA (cs:=[_,_,_,_]) hS X6b rfl ?_;intro b4 w hS;refine .q 1 rfl (.nil (.seq (.seq (.region (.run 3 rfl ⟨⟨_,X1s⟩,trivial⟩ (.nil (.block ?_)))))));have hS0:=hS; clear hS;refine .loop (σ:=Nat×Nat×Nd×Cl) (fun ⟨i,d,nd,s1,a1,n1,m1,s2,a2,n2,m2⟩=>[(2,ptr b2 0),(4,ptr b4 0),(9,.slice (some (ad pb 0)) 1 1),(10,I64 ((1:Nat):Int)),(11,I64 (i:Nat))]) (fun ⟨i,d,nd,s1,a1,n1,m1,s2,a2,n2,m2⟩ w=>(i=0∧nd=n∨i=1∧Xd0 n p=some nd)∧NdV (d+1 - i) I [S s1,.slice a1 n1 m1,S s2,.slice a2 n2 m2] nd∧(i=0→d=7)∧Sat B w I (blk b4 [S [],.slice none 0 0,S [],.slice none 0 0] 126::blk b2 [S s1,.slice a1 n1 m1,S s2,.slice a2 n2 m2] 126::blk pb [S p] 9::As)) (fun ⟨i,d,nd,s1,a1,n1,m1,s2,a2,n2,m2⟩=>1 - i) (0,7,n,s1,a1,n1,m1,s2,a2,n2,m2) ⟨rfl,rfl,rfl,rfl,rfl,trivial⟩ ⟨.inl ⟨rfl,rfl⟩,hN,fun _=>rfl,hS0⟩ ?_;rintro ⟨i,d,nd,s1,a1,n1,m1,s2,a2,n2,m2⟩ w ⟨hin,hNd,hd7,hS⟩;clear hS0;refine .seq (.q 1 rfl (.seq ?_));refine .cond rfl (fun hb12=>?_) fun hb12=>?_
 ·have hc12:=hb12; simp only [Y6] at hc12;refine .skip (.seq (.block (.seq ?_)));have hi0:i=0:=by omega
  subst hi0;obtain rfl:=hd7 rfl;obtain rfl:nd=n:=by
   rcases hin with ⟨_,h⟩ | ⟨h,_⟩
   ·exact h
   ·omega
  replace hNd:NdV 8 I [S s1,.slice a1 n1 m1,S s2,.slice a2 n2 m2] nd:=hNd;refine .region (.val (.io rfl rfl (by omega) (by omega) X1s Qs9) rfl (.val (.lo rfl hS (k:=2) rfl Qg9 rfl) rfl (.alloc1 hS Qz9 rfl rfl ?_)));intro b7 w hS;refine .s1 hS (k:=0) rfl rfl rfl rfl Qs9 (by simp) ?_;intro w hS;refine .nil (.seq ?_);obtain ⟨hnl,htl,hal,hkl,hat,aa,ca,ka,ck,xs,hcs,hca,hck,hRa,hRk,hxl,hx4,hKD⟩:=hNd;obtain ⟨ys,rfl⟩:=Xtn hxl hKD;have hyl:ys.length=nd.kids.length:=by simpa using hxl
  injection hcs with e1 hcs; injection hcs with e2 hcs; injection hcs with e3 hcs; injection hcs with e4 hcs
  injection e1 with e1; injection e3 with e3; injection e2 with e2 e2b e2c; injection e4 with e4 e4b e4c
  rw [← hyl] at e4b hRk;subst e4; subst e4b; subst e4c;have hnm:∀ (i:Nat) y k,ys[i]?=some y→nd.kids[i]?=some k→y.1=k.name:=fun i y k hy hk=>NdV.name (hKD i _ k (by rw [Yt,hy]; rfl) hk)
  refine .region (.val (.fo 3 rfl X38 rfl rfl Xej rfl) rfl (.val (.lo rfl hS (k:=2) rfl Xkb rfl) rfl (.val (.makeFunc (ec9 rfl X0)) rfl (.call Tryz.func106 rfl (ec9 rfl (ec9 rfl X0)) rfl (Xar a2 m2 ys (by omega) (fun r=>r.1 == p) 107 _ Tryz.func107 rfl [ptr b7 0] B _ I _ (fun w h=>X68 (cells:=clC) (s:=4) (fun _=>rfl) h (by exact hRk)) (fun r hr w h=>Xhc r p b7 B w I _ h) hS) ?_))));rintro _ w ⟨rfl,hS⟩;try dsimp only [List.eraseIdx] at hS
  have hfi:=X5h (fun r:Cl=>r.1 == p) ys 0;generalize Xt (fun r:Cl=>r.1 == p) ys 0=ix at hfi;refine .q 1 rfl (.nil (.seq (.seq (.q 2 rfl ?_))));refine .cond rfl (fun hb20=>?_) fun hb20=>?_
  ·have hc20:=hb20; simp only [Y6] at hc20;refine .seq (.region (.val (.build (cs:=[_,_,_,_]) X4 X14 rfl) rfl ?_));refine .so hS (k:=1) rfl rfl rfl rfl Xy rfl (by simp) ?_;intro w hS;try simp only [Yk,Yf,Y9,Y7,Yh,Ym,Yd] at hS
   refine .q 1 rfl (.nil (.ret ?_));refine X1j (b:=_) (cs:=[_,_,_,_]) Tryz.results64 hS (k:=1) rfl X2u Xy rfl rfl rfl (⟨_,rfl,[],none,0,0,[],none,0,0,false,nd0,rfl,.inl ⟨?_,rfl⟩,⟨_,nd0_V I 6⟩,((((hS.pick 3 rfl).drop (k:=1) rfl).drop (k:=1) rfl).drop (k:=1) rfl)⟩);unfold Xd0;rw [Y5h];intro k hk;obtain ⟨i,hi⟩:=Yx.1 hk;obtain ⟨y,hy⟩:∃ y,ys[i]?=some y:=⟨_,Y5 (by have:=(Y4.1 hi).1; omega)⟩
   rcases hfi with ⟨_,h⟩ | ⟨j,y2,h1,_⟩
   ·have:=h y (Yl hy)
    rw [hnm i y k hy hi] at this;simpa using this
   ·rw [h1] at hc20; omega
  have hc20:=hb20; simp only [Y6] at hc20;refine .skip ?_;obtain ⟨j,y,hj,hyj,hpy,hfst⟩:∃ j y,ix=((j:Nat):Int)∧ys[j]?=some y∧(y.1 == p)=true∧∀ (i:Nat) y,i<j→ys[i]?=some y→(y.1 == p)=false:=by
   rcases hfi with ⟨h,_⟩ | ⟨j,y,h1,h2,h3,h4⟩
   ·rw [h] at hc20; omega
   ·exact ⟨j,y,by simpa using h1,h2,h3,h4⟩
  subst hj;have hjl:=(Y4.1 hyj).1;obtain ⟨k,hk⟩:∃ k,nd.kids[j]?=some k:=⟨_,Y5 (by omega)⟩
  obtain ⟨q,hq9,hx⟩:=X8f hRk (by rw [Y10]) hx4 (i:=j) (x:=clC y) (by rw [Yt,hyj]; rfl);have hNk:=hKD j (clC y) k (by rw [Yt,hyj]; rfl) hk;have hkd:Xd0 nd p=some k:=Xev hk (by rw [← hnm j y k hyj hk]; exact hpy) (fun i k2 hi hk2=>by
   obtain ⟨y2,hy2⟩:∃ y,ys[i]?=some y:=⟨_,Y5 (by omega)⟩
   rw [← hnm i y2 k2 hy2 hk2];exact hfst i y2 hi hy2)
  obtain ⟨s3,a3,n3,m3,s4,a4,n4,m4⟩:=y;unfold clC at hx hNk;dsimp only at hx hNk
  subst hq9;refine .region (.val (.fo 3 rfl X38 rfl rfl Xej rfl) rfl (.val (.lo rfl hS (k:=2) rfl Xkb rfl) rfl (.q 1 rfl (.val (.ii rfl rfl (by omega) (by omega) X83 Xy) rfl ?_))));rw [Ye];refine .val (.ldsI (us:=[S s3,.slice a3 n3 m3,S s4,.slice a4 n4 m4]) (.of rfl) hS hx X2u Xy rfl (fun _ _ h=>h)) rfl (.so hS (k:=2) rfl rfl rfl rfl Xy rfl (by simp) ?_);intro w hS;try simp only [Yk,Yf,Y9,Y7,Yh,Ym,Yd] at hS
  refine .nil (.region (.run 2 rfl ⟨⟨by omega,by omega⟩,trivial⟩ (.nil ?_)));exact ⟨(0+1,7,k,s3,a3,n3,m3,s4,a4,n4,m4),⟨rfl,rfl,rfl,rfl,rfl,trivial⟩,⟨.inr ⟨rfl,hkd⟩,hNk,fun h=>by simp at h,((((hS.pick 3 rfl).pick 3 rfl).pick 3 rfl).drop (k:=3) rfl)⟩,by simp⟩
 have hc12:=hb12; simp only [Y6] at hc12;refine .exit (.seq (.region ?_));refine .val (.ldsW (cs:=[_,_,_,_]) (.of rfl) hS (k:=1) rfl X2u Xy rfl) rfl (.so hS (k:=0) rfl rfl rfl rfl Xy rfl (by simp) ?_);intro w hS;try simp only [Yk,Yf,Y9,Y7,Yh,Ym,Yd] at hS
 refine .q 1 rfl (.nil (.ret ?_));refine X1j (b:=_) (cs:=[_,_,_,_]) Tryz.results64 hS (k:=0) rfl X2u Xy rfl rfl rfl ?_;have hi1:i=1:=by rcases hin with ⟨h,_⟩ | ⟨h,_⟩ <;> omega
 subst hi1;have hkd:Xd0 n p=some nd:=by
  rcases hin with ⟨h,_⟩ | h
  ·omega
  ·exact h.2
 exact ⟨_,rfl,s1,a1,n1,m1,s2,a2,n2,m2,true,nd,rfl,.inr ⟨hkd,rfl⟩,⟨d,hNd⟩,(((hS.pick 2 rfl).drop (k:=1) rfl).drop (k:=1) rfl)⟩
end Go.Proofs.YtbciobiiejpdgaaGreatDoor
namespace Go.Proofs.YtbciobiiejpdgaaGreatDoor
open Gk Ul Pc Pat Xm Tr Tk
theorem X54:Bld Tryz.prog 45 [(0,1),(1,1),(2,1),(3,1)] [S [],S [],.int .i64 0,.int .i64 0]:=X2b X7h Xfd (fun w=>by simp [go_sem])
theorem Xkg (s:List UInt8) (hs:s.length≤1000000) (B w:World) (I:Im) (hK:Kx I) (hP:PreAt I) (As:List X6) (hS:Sat B w I As) :
  Cz 141 [S s] w fun v w'=>v=(match X1e s with | some (k,d)=>.tuple #[I64 (k:Nat),U64 (d:Nat),.bool true] | none=>.tuple #[I64 0,U64 0,.bool false])∧Sat B w' I As:=by
 refine calls Xor rfl Tryz.ntmps141 rfl (.seq (.q 3 rfl (.seq (.t 1 rfl (.call Qf187 rfl (ec9 rfl (ec9 rfl X0)) rfl (Xi5 s 45 hs B _ I hK _ hS) ?_)))));rintro _ w ⟨rfl,hS⟩;refine .q 7 rfl (.nil (.seq (.t 1 rfl ?_)));refine .call Tryz.func188 rfl (ec9 rfl X0) rfl (Xhw _ (by have:=X2d [45] s; rw [Yg]; omega) B _ I _ hS) ?_;rintro _ w ⟨rfl,hS⟩;rcases hdr:X51 ((X5 [45] s).drop 1) with _ | d
 ·refine .vm rfl rfl (.q 4 rfl (.nil (.seq (.region (.val (Ex.slcArr (m:=7) (s:=1) (.of rfl) Xmy Qs9) rfl (.q 1 rfl (.call Xky rfl (ec9 rfl (ec9 rfl X0)) rfl (X3s (some (ad 1 0)) 7 PREV (by decide) (upto [45] s) B _ I ⟨rfl,fun _=>⟨_,rfl,hP⟩⟩ As hS) ?_)))))));rintro _ w ⟨rfl,hS⟩;refine .q 1 rfl (.nil (.seq (.seq (.t 3 rfl (.gm rfl rfl rfl rfl (.gval rfl rfl (fun hg1=>(.lss (.gd hg1 rfl) (.of rfl))) rfl (.val (.po rfl rfl rfl) rfl (.nil ?_))))))));refine .cond rfl (fun hb30=>?_) fun hb30=>?_
  ·refine .seq (.q 3 rfl (.ret (Xb2 Xe6 rfl rfl rfl ?_)));refine ⟨_,rfl,?_,hS⟩
   have:X1e s=none:=by
    unfold X1e;split
    ·rfl
    ·rw [hdr]; rfl
   rw [this]
  refine .skip (.seq (.q 5 rfl (.ret (Xb2 Xe6 rfl rfl rfl ?_))));exfalso; simp at hb30
 refine .vm rfl rfl (.q 4 rfl (.nil (.seq (.region (.val (Ex.slcArr (m:=7) (s:=1) (.of rfl) Xmy Qs9) rfl (.q 1 rfl (.call Xky rfl (ec9 rfl (ec9 rfl X0)) rfl (X3s (some (ad 1 0)) 7 PREV (by decide) (upto [45] s) B _ I ⟨rfl,fun _=>⟨_,rfl,hP⟩⟩ As hS) ?_)))))));rintro _ w ⟨rfl,hS⟩;refine .q 1 rfl (.nil (.seq (.seq (.t 3 rfl (.gm rfl rfl rfl rfl (.gval rfl rfl (fun hg1=>(.lss (.gd hg1 rfl) (.of rfl))) rfl (.val (.po rfl rfl rfl) rfl (.nil ?_))))))));refine .cond rfl (fun hb30=>?_) fun hb30=>?_
 ·refine .seq (.q 3 rfl (.ret (Xb2 Xe6 rfl rfl rfl ?_)));refine ⟨_,rfl,?_,hS⟩;have h0:=(X8s (upto [45] s)).2 (by simp at hb30; omega);rw [X1e,if_pos h0]
 refine .skip (.seq (.q 5 rfl (.ret (Xb2 Xe6 rfl rfl rfl ?_))));refine ⟨_,rfl,?_,hS⟩;obtain ⟨h0,h1⟩:=(X8s (upto [45] s)).1 (by simp at hb30; omega);rw [X1e,if_neg h0,hdr,h1];rfl
theorem Xo9 (s:List UInt8) (kind:Int) (hs:s.length≤1000000) (B w:World) (I:Im) (hK:Kx I) (hP:PreAt I) (As:List X6) (hS:Sat B w I As) :
  Cz 99 [S s,I64 kind] w fun v w'=>v=.bool (isT s kind)∧Sat B w' I As:=by
 refine calls Qf99 rfl Tryz.ntmps99 rfl (.seq (.q 1 rfl (.seq (.t 1 rfl (.call Xor rfl (ec9 rfl X0) rfl (Xkg s hs B _ I hK hP _ hS) ?_)))));rintro _ w ⟨rfl,hS⟩;rcases hps:X1e s with _ | ⟨k,d⟩
 ·refine .vm rfl rfl (.q 6 rfl (.nil (.seq (.t 2 rfl (.gm rfl rfl rfl rfl (.gm rfl rfl rfl rfl (.gval rfl rfl (fun hg1=>(.eql (.gd hg1 rfl) (.gd hg1 rfl))) rfl (.val (.pa rfl rfl rfl) rfl (.q 1 rfl (.nil (.ret (X8 Qr99 rfl ?_))))))))))));exact ⟨_,rfl,by rw [isT,hps]; rfl,hS⟩
 refine .vm rfl rfl (.q 6 rfl (.nil (.seq (.t 2 rfl (.gm rfl rfl rfl rfl (.gm rfl rfl rfl rfl (.gval rfl rfl (fun hg1=>(.eql (.gd hg1 rfl) (.gd hg1 rfl))) rfl (.val (.pa rfl rfl rfl) rfl (.q 1 rfl (.nil (.ret (X8 Qr99 rfl ?_))))))))))));exact ⟨_,rfl,by rw [isT,hps]; rfl,hS⟩
theorem Xcl {n:Nat} (h:n≤1099511627776):(Go.Lib.decDigits n).length≤13:=by
 rw [Go.Lib.decDigits_length];have key:∀ (k n:Nat),n<10 ^ k→1≤k→Go.Lib.nDigits n≤k:=by
  intro k
  induction k with
  | zero=>intro n _ h; omega
  | succ k ih =>
   intro n h _
   by_cases h10:n<10
   ·rw [Go.Lib.nDigits_small h10]; omega
   ·rw [Go.Lib.nDigits_big h10];rw [Y28] at h;cases k with
    | zero=>simp at h; omega
    | succ k=>have:=ih (n / 10) (by omega) (by omega); omega
 exact key 13 n (by omega) (by decide)
theorem Xt9 (n:Nat):Go.Lib.decFrom 0 (Go.Lib.decDigits n)=some n:=by
 induction n using Nat.strongRecOn with
 | _ n ih =>
  have dig:∀ d,d<10→Go.Lib.digitVal (UInt8.ofNat (48+d))=some d:=fun d hd =>
   (by decide:∀ d:Fin 10,Go.Lib.digitVal (UInt8.ofNat (48+d.val))=some d.val) ⟨d,hd⟩
  by_cases h:n<10
  ·rw [Go.Lib.decDigits,dif_pos h]
   have:=dig n h
   simp only [Go.Lib.decFrom,this,Y30,Yd]
  ·rw [Go.Lib.decDigits,dif_neg h];have h1:=ih (n / 10) (by omega);have h2:=Go.Lib.decFrom_take (Go.Lib.decDigits (n / 10) ++ [UInt8.ofNat (48+n % 10)]) (Go.Lib.decDigits (n / 10)).length 0 (n / 10) (UInt8.ofNat (48+n % 10)) (n % 10) (by rw [Y2c]; exact h1) (by rw [Yv (Yo _),Y3w]; rfl) (dig (n % 10) (by omega));rw [Yy (by rw [Y0]; simp)] at h2;rw [h2]; congr 1; omega
theorem X93 {n:Nat} (h:n≤1099511627776):Go.Lib.atoiAll (Go.Lib.decDigits n)=.ok (n:Int):=by
 rw [Go.Lib.atoiAll_short _ (by have:=Xcl h; omega)];have h1:=Xt9 n;have h2:=(X3p n).2.1;have h3:=(X3p n).2.2.2;have h4:Go.Lib.atoi (Go.Lib.decDigits n)=some (n:Int):=by
  cases hd:Go.Lib.decDigits n with
  | nil=>exact absurd hd h3
  | cons c r =>
   rw [hd] at h1 h2;have hc:=(Y1d.1 h2) c (by simp);have n45:(c == 45)=false:=by
    have:=Xh (p:=fun c=>!X7i c || !(c == 45)) (by decide +kernel) c
    rw [hc] at this; simpa using this
   have n43:(c == 43)=false:=by
    have:=Xh (p:=fun c=>!X7i c || !(c == 43)) (by decide +kernel) c
    rw [hc] at this; simpa using this
   rw [Go.Lib.atoi,n45,n43];simp only [Y1m,if_false]
   rw [show Go.Lib.decNat (c::r)=some n from h1]; rfl
 rw [h4]; rfl
theorem Xf0 (n:Nat) (hn:n≤1099511627776) (B w:World) (I:Im) (hK:Kx I) (As:List X6) (hS:Sat B w I As):Calls Tryz.prog 67 [I64 (n:Nat)].toArray w (Ret fun v w'=>v=S (Go.Lib.decDigits n)∧Sat B w' I As) :=
 (Tryz.strconv_Itoa n (by omega) (by omega) w (hK.pow B w As hS)).mono fun e w' he=>by
  obtain ⟨rfl,k,os,rfl⟩:=he;refine ⟨_,rfl,?_,Xhp (X4x hS k) os⟩;unfold Go.Lib.itoa;rw [if_neg (by omega),Ye]
theorem Xpi (s:List UInt8) (hs:s.length≤10000) (B w:World) (I:Im) (hK:Kx I) (As:List X6) (hS:Sat B w I As):Calls Tryz.prog 65 [S s].toArray w (Ret fun v w'=>∃ n e,v=.tuple #[I64 n,e]∧(∀ k:Nat,k≤1099511627776→s=Go.Lib.decDigits k→n=k)∧Sat B w' I As):=by
 have hl:(ByteArray.mk s.toArray).size≤10000:=hs;have hl2:(ByteArray.mk s.toArray).data.toList=s:=rfl;cases h:Go.Lib.atoiAll s with
 | ok v =>
  refine (Tryz.strconv_Atoi_ok ⟨s.toArray⟩ (by omega) v h w).mono fun e w' he=>?_
  obtain ⟨rfl,hw⟩:=he;refine ⟨_,rfl,v,_,rfl,fun k hk e=>?_,?_⟩
  ·subst e; rw [X93 hk] at h; injection h with h; exact h.symm
  ·rcases hw with rfl | ⟨t,rfl⟩
   ·exact hS
   ·exact hS.grown (Go.Lib.bytesWorld_below _ _ _)
 | range =>
  obtain ⟨te,pe,hv⟩:=hK.rng B w As hS;refine (Tryz.strconv_Atoi_range ⟨s.toArray⟩ (by omega) h _ w hv (.inr ⟨te,pe,rfl⟩)).mono fun e w' he=>?_
  obtain ⟨N,rfl,_,_,hb⟩:=he;exact ⟨_,rfl,_,_,rfl,fun k hk e=>(by subst e; rw [X93 hk] at h; cases h),hS.grown hb⟩
 | _ =>
  obtain ⟨te,pe,hv⟩:=hK.syn B w As hS;refine (Any.strconv_Atoi_syntax Tryz.laysC172 ⟨s.toArray⟩ (by omega) h _ w hv (.inr ⟨te,pe,rfl⟩)).mono fun e w' he=>?_
  obtain ⟨N,rfl,_,_,hb⟩:=he;exact ⟨_,rfl,0,_,rfl,fun k hk e=>(by subst e; rw [X93 hk] at h; cases h),hS.grown hb⟩
def X7 (n:Nt):List Value:=[S n.ticket,S n.url,I64 n.tries,I64 n.next]
theorem Xew (n:Nt) (hn:n.ticket.length≤1000000) (hu:n.url.length≤9223372036854775807) (B w:World) (I:Im) (hK:Kx I) (hP:PreAt I) (As:List X6) (hS:Sat B w I As) :
  Cz 54 [.agg (X7 n).toArray] w fun v w'=>v=.bool (X1l n)∧Sat B w' I As:=by
 refine calls Tryz.func54 rfl Tryz.ntmps54 rfl (.seq (.region (.boxA (cs:=[_,_,_,_]) hS (.of rfl) rfl ?_)));intro b1 w hS;refine .q 1 rfl (.nil (.seq (.region ?_)));refine .val (.fo 0 rfl X7h rfl rfl Qs9 rfl) rfl (.val (.lo rfl hS (k:=0) rfl Qg9 rfl) rfl (.call Qf99 rfl (ec9 rfl (ec9 rfl X0)) rfl (Xo9 n.ticket 2 hn B _ I hK hP _ hS) ?_));rintro _ w ⟨rfl,hS⟩;refine .q 1 rfl (.gval rfl rfl (fun hg1=>(by exact .fo 0 rfl X7h rfl rfl Qs9 rfl)) rfl ?_);refine .gval rfl rfl (fun hg1=>(.ld (.gd hg1 rfl) hS (k:=0) rfl Qg9 rfl)) rfl (.gcall (T:=fun w=>Sat B w I (blk b1 [S n.ticket,S n.url,I64 n.tries,I64 n.next] 45::As)) rfl rfl rfl Qf99 rfl (fun hg1=>(Xc (.gd hg1 rfl) (ec9 rfl X0))) rfl (fun hg1=>Xo9 n.ticket 3 hn B _ I hK hP _ hS) hS ?_);rintro w hS;refine .val (.po rfl rfl rfl) rfl (.q 1 rfl ?_);refine .gval rfl rfl (fun hg1=>(by exact .fo 1 rfl X7h rfl rfl Qs9 rfl)) rfl ?_;refine .gval rfl rfl (fun hg1=>(.ld (.gd hg1 rfl) hS (k:=0) rfl Qg9 rfl)) rfl (.gval rfl rfl (fun hg1=>(.len (.gd hg1 rfl) Qu9)) rfl (.gval rfl rfl (fun hg1=>(.leq (.gd hg1 rfl) (.of rfl))) rfl (.val (.pa rfl rfl rfl) rfl (.q 1 rfl ?_))));refine .gval rfl rfl (fun hg1=>(by exact .fo 2 rfl X7h rfl rfl Qs3 rfl)) rfl ?_;refine .gval rfl rfl (fun hg1=>(.ld (.gd hg1 rfl) hS (k:=0) rfl Qg3 rfl)) rfl (.gval rfl rfl (fun hg1=>(.geq (.gd hg1 rfl) (.of rfl))) rfl (.val (.pa rfl rfl rfl) rfl (.q 1 rfl ?_)));refine .gval rfl rfl (fun hg1=>(by exact .fo 2 rfl X7h rfl rfl Qs3 rfl)) rfl ?_;refine .gval rfl rfl (fun hg1=>(.ld (.gd hg1 rfl) hS (k:=0) rfl Qg3 rfl)) rfl (.gval rfl rfl (fun hg1=>(.leq (.gd hg1 rfl) (.of rfl))) rfl (.val (.pa rfl rfl rfl) rfl (.q 1 rfl ?_)));refine .gval rfl rfl (fun hg1=>(by exact .fo 3 rfl X7h rfl rfl Qs3 rfl)) rfl ?_;refine .gval rfl rfl (fun hg1=>(.ld (.gd hg1 rfl) hS (k:=0) rfl Qg3 rfl)) rfl (.gval rfl rfl (fun hg1=>(.geq (.gd hg1 rfl) (.of rfl))) rfl (.val (.pa rfl rfl rfl) rfl (.q 1 rfl ?_)));refine .gval rfl rfl (fun hg1=>(by exact .fo 3 rfl X7h rfl rfl Qs3 rfl)) rfl ?_;refine .gval rfl rfl (fun hg1=>(.ld (.gd hg1 rfl) hS (k:=0) rfl Qg3 rfl)) rfl (.gval rfl rfl (fun hg1=>(.leq (.gd hg1 rfl) (.of rfl))) rfl (.val (.pa rfl rfl rfl) rfl (.q 1 rfl (.nil (.ret (X8 Tryz.results54 rfl ?_))))));exact ⟨_,rfl,rfl,hS.drop (k:=0) rfl⟩
theorem Xct {J:Im} {b:Nat} {cs:List Value} {E:TypeId} (h:J b=some (Xl cs E)):At J (ad b 0) cs :=
 ⟨rfl,cs.toArray,E,(0,0),h,fun j v hv=>by rw [show (ad b 0).off+j=j from Yd j]; simpa using hv⟩
theorem Xu3 (J:Im) (nm tx:List UInt8) (h1:nm.length≤10000) (h2:tx.length≤10000) (d:Nat):NdV (d+1) J [S nm,.slice none 0 0,S tx,.slice none 0 0] (.mk nm [] tx []) :=
 ⟨h1,h2,Yq _,Yq _,fun a h=>by simp [Nd.attrs] at h,none,0,none,0,[],rfl,Yo _,Yo _,RS.nil J 2,RS.nil J 4,rfl,fun x h=>by simp at h,fun i x k h _=>by simp at h⟩
theorem Xvr {J:Im} {b15 b20:Nat} {t:List UInt8} {nn:Nat} (ht:t.length≤9000) (hn:nn≤1099511627776) (h1:J b15=some (Xl [S ID_,S (LR_ ++ t),S VER,S V20,S Xoo,S (Go.Lib.decDigits nn)] 136)) (h2:J b20=some (Xl [S NID,.slice none 0 0,S Xl4,.slice none 0 0,S SIX,.slice none 0 0,S t,.slice none 0 0] 126)) :
  NdV 8 J [S LREQ,.slice (some (ad b15 0)) 3 3,S [],.slice (some (ad b20 0)) 2 2] (X8l t nn):=by
 have hd:=Xcl hn;refine ⟨(show LREQ.length≤10000 by decide),Yq _,(show 3≤10000 by decide),(show 2≤10000 by decide),fun a ha=>?_,some (ad b15 0),3,some (ad b20 0),2,[[S NID,.slice none 0 0,S Xl4,.slice none 0 0],[S SIX,.slice none 0 0,S t,.slice none 0 0]],rfl,Yo _,Yo _,⟨rfl,fun _=>⟨_,rfl,Xct h1⟩⟩,⟨rfl,fun _=>⟨_,rfl,Xct h2⟩⟩,rfl,fun x hx=>?_,fun i x k hx hk=>?_⟩
 ·simp only [X8l,Nd.attrs,Y15,List.mem_nil_iff,or_false] at ha
  rcases ha with rfl | rfl | rfl
  ·refine ⟨by (try dsimp only); decide,?_⟩;show (LR_ ++ t).length≤10000
   rw [Y0]; show 3+t.length≤10000; omega
  ·exact ⟨by decide,by decide⟩
  ·exact ⟨by (try dsimp only); decide,by (try dsimp only); omega⟩
 ·simp only [Y15,List.mem_nil_iff,or_false] at hx
  rcases hx with rfl | rfl <;> rfl
 ·match i,hx,hk with
  | 0,hx,hk=>cases hx; cases hk; exact Xu3 J NID Xl4 (by decide) (by decide) 6
  | 1,hx,hk=>cases hx; cases hk; exact Xu3 J SIX t (by decide) (by omega) 6
  | i+2,hx,_=>simp at hx
theorem Xwb {t:List UInt8} {nn:Nat} (ht:t.length≤9000) (hn:nn≤1099511627776):(MSG t nn).length≤100000:=by
 have hd:=Xcl hn;unfold MSG M1 M2 M3 M4;simp only [Y0,List.length_cons,List.length_nil]
 omega
theorem X57 (t:List UInt8) (nn:Nat) (hk:X4k t=true) (hn:nn≤1099511627776) (cs:List Value) (B w:World) (I:Im) (hK:Kx I) (hN:NdV 8 I cs (X8l t nn)) (As:List X6) (hS:Sat B w I As):Calls Tryz.prog 66 [.agg cs.toArray].toArray w (Ret fun v w'=>v=.tuple #[S (MSG t nn),I64 0]∧Sat B w' I As):=by
 obtain ⟨hT,hl⟩:=X28 hk
 have:=Xja (X8l t nn) cs B w I hK hN (by rw [Xig hT]; have:=Xwb (t:=t) (by omega) hn; omega) As hS
 rw [Xnw hT,Xig hT] at this;exact this
set_option maxRecDepth 4000 in
theorem Xfi (t u:List UInt8) (tr:Int) (nn:Nat) (hk:X4k t=true) (hn:nn≤1099511627776) (B w:World) (I:Im) (hK:Kx I) (As:List X6) (hS:Sat B w I As) :
  Cz 28 [.agg ([S t,S u,I64 tr,I64 (nn:Nat)]:List Value).toArray] w fun v w'=>v=S (MSG t nn)∧Sat B w' I As:=by
 have hkl:=(X28 hk).2;refine calls Tryz.func28 rfl Tryz.ntmps28 rfl (.seq (.region (.boxA (cs:=[_,_,_,_]) hS (.of rfl) rfl ?_)));intro b1 w hS;refine .q 1 rfl (.nil (.seq (.drawn (fun w=>∃ J9 R,Le I J9∧Sat B w J9 (blk b1 [S t,S u,I64 tr,I64 (nn:Nat)] 45::R)) (fun j=>!([].contains j)) (by kernel_rfl) ?_)));replace hS:=hS.drew; generalize w.drew=w at hS ⊢;have hH:∃ J9 R,Le I J9∧Sat B w J9 (blk b1 [S t,S u,I64 tr,I64 (nn:Nat)] 45::R):=⟨_,_,Le.refl _,(hS.pick 0 rfl)⟩
 refine .tp (i:=0) rfl (by kernel_rfl) (fun w=>(.fo 0 rfl X7h rfl rfl Qs9 rfl)) rfl (.tk (i:=1) rfl (by kernel_rfl) hH (fun w ⟨J9,R,hL9,hS⟩=>(.lo rfl hS (k:=0) rfl Qg9 rfl)) rfl (.tp (i:=2) rfl (by kernel_rfl) (fun w=>(.cat (.of rfl) (.of rfl) (by (try simp only [Y0,List.length_cons,List.length_nil]); omega))) rfl (.tp (i:=3) rfl (by kernel_rfl) (fun w=>(.build (cs:=[_,_]) (pc9 rfl (pc9 rfl X4)) X3u rfl)) rfl (.tp (i:=4) rfl (by kernel_rfl) (fun w=>(.build (cs:=[_,_]) (pc9 rfl (pc9 rfl X4)) X3u rfl)) rfl ?_))));refine .tp (i:=5) rfl (by kernel_rfl) (fun w=>(.fo 3 rfl X7h rfl rfl Qs3 rfl)) rfl (.tk (i:=6) rfl (by kernel_rfl) hH (fun w ⟨J9,R,hL9,hS⟩=>(.lo rfl hS (k:=0) rfl Qg3 rfl)) rfl (.tp (i:=10) rfl (by kernel_rfl) (fun w=>(.build (cs:=[_,_,_,_]) (pc9 rfl (pc9 rfl X4)) X14 rfl)) rfl ?_));refine .tp (i:=11) rfl (by kernel_rfl) (fun w=>(.fo 0 rfl X7h rfl rfl Qs9 rfl)) rfl (.tk (i:=12) rfl (by kernel_rfl) hH (fun w ⟨J9,R,hL9,hS⟩=>(.lo rfl hS (k:=0) rfl Qg9 rfl)) rfl (.tp (i:=13) rfl (by kernel_rfl) (fun w=>(.build (cs:=[_,_,_,_]) (pc9 rfl (pc9 rfl X4)) X14 rfl)) rfl ?_));refine .branch [7,14] (by kernel_rfl) rfl (WO.cons rfl ?_ (WO.cons rfl ?_ (WO.nil)))
 ·refine .call Qf67 rfl (ec9 rfl X0) rfl (Xf0 nn hn B _ I hK _ hS) ?_;rintro _ w ⟨rfl,hS⟩;refine .nil ?_;clear hH;have hH:∃ J9 R,Le I J9∧Sat B w J9 (blk b1 [S t,S u,I64 tr,I64 (nn:Nat)] 45::R):=⟨_,_,Le.refl _,(hS.pick 0 rfl)⟩
  refine ⟨fun _ _=>hH,?_⟩;refine .tp (i:=8) rfl (by kernel_rfl) (fun w=>(.build (cs:=[_,_]) (pc9 rfl (pc9 rfl X4)) X3u rfl)) rfl (.branch [9,14] (by kernel_rfl) rfl (WO.cons rfl ?_ (WO.cons rfl ?_ (WO.nil))))
  ·refine .buildSlice (cs:=[_,_,_,_,_,_]) hS (pc9 rfl (pc9 rfl (pc9 rfl X4))) X2t X2w Xcv rfl rfl rfl rfl ?_;intro b15 w hS;refine .nil ?_;clear hH;have hH:∃ J9 R,Le I J9∧Sat B w J9 (blk b1 [S t,S u,I64 tr,I64 (nn:Nat)] 45::R):=⟨_,_,Le.refl _,(hS.pick 1 rfl)⟩
   refine ⟨fun _ _=>hH,?_⟩;refine .b1 14 (by kernel_rfl) rfl (.buildSlice (cs:=[_,_,_,_,_,_,_,_]) hS (pc9 rfl (pc9 rfl X4)) X83 Xy X6b rfl rfl rfl rfl ?_);intro b20 w hS;refine .nil ?_;clear hH;have hH:∃ J9 R,Le I J9∧Sat B w J9 (blk b1 [S t,S u,I64 tr,I64 (nn:Nat)] 45::R):=⟨_,_,Le.refl _,(hS.pick 2 rfl)⟩
   refine ⟨fun _ _=>hH,?_⟩;refine .tp (i:=15) rfl (by kernel_rfl) (fun w=>(.build (cs:=[_,_,_,_]) (pc9 rfl (pc9 rfl (pc9 rfl X4))) X14 rfl)) rfl (.b1 16 (by kernel_rfl) rfl ?_);replace hS:=(hS.pick 1 rfl)
   obtain ⟨J1,hJ1,hq15,hS⟩:=hS.freeze (k:=0) rfl;try dsimp only [List.eraseIdx] at hS
   obtain ⟨J2,hJ2,hq20,hS⟩:=hS.freeze (k:=0) rfl;try dsimp only [List.eraseIdx] at hS
   have hJJ:=hJ1.trans hJ2;have hNV:=Xvr (by have:=(X28 hk).2; omega) hn (hJ2 _ _ hq15) hq20;refine .call Qf66 rfl (ec9 rfl X0) rfl (X57 t nn hk hn _ B _ J2 (hK.mono hJJ) hNV _ hS) ?_;rintro _ w ⟨rfl,hS⟩;refine .nil ?_;clear hH;have hH:∃ J9 R,Le I J9∧Sat B w J9 (blk b1 [S t,S u,I64 tr,I64 (nn:Nat)] 45::R):=⟨_,_,hJJ,(hS.pick 0 rfl)⟩
   refine ⟨fun _ _=>hH,?_⟩;refine .tp (i:=17) rfl (by kernel_rfl) (fun w=>(.mo rfl)) rfl (.tp (i:=18) rfl (by kernel_rfl) (fun w=>(.extract (.of rfl) rfl)) rfl (.tp (i:=19) rfl (by kernel_rfl) (fun w=>(.extract (.of rfl) rfl)) rfl (.tp (i:=20) rfl (by kernel_rfl) (fun w=>(.ao rfl)) rfl (.tp (i:=21) rfl (by kernel_rfl) (fun w=>(.ao rfl)) rfl (.done (by kernel_rfl) (.seq (.q 2 rfl (.ret (X8 Tryz.results28 rfl ?_)))))))));exact ⟨_,rfl,rfl,X5b hJJ (hS.drop (k:=0) rfl)⟩
  ·refine .buildSlice (cs:=[_,_,_,_,_,_,_,_]) hS (pc9 rfl (pc9 rfl X4)) X83 Xy X6b rfl rfl rfl rfl ?_;intro b20 w hS;refine .nil ?_;clear hH;have hH:∃ J9 R,Le I J9∧Sat B w J9 (blk b1 [S t,S u,I64 tr,I64 (nn:Nat)] 45::R):=⟨_,_,Le.refl _,(hS.pick 1 rfl)⟩
   refine ⟨fun _ _=>hH,?_⟩;refine .b1 9 (by kernel_rfl) rfl (.buildSlice (cs:=[_,_,_,_,_,_]) hS (pc9 rfl (pc9 rfl (pc9 rfl X4))) X2t X2w Xcv rfl rfl rfl rfl ?_);intro b15 w hS;refine .nil ?_;clear hH;have hH:∃ J9 R,Le I J9∧Sat B w J9 (blk b1 [S t,S u,I64 tr,I64 (nn:Nat)] 45::R):=⟨_,_,Le.refl _,(hS.pick 2 rfl)⟩
   refine ⟨fun _ _=>hH,?_⟩;refine .tp (i:=15) rfl (by kernel_rfl) (fun w=>(.build (cs:=[_,_,_,_]) (pc9 rfl (pc9 rfl (pc9 rfl X4))) X14 rfl)) rfl (.b1 16 (by kernel_rfl) rfl ?_);replace hS:=((hS.pick 1 rfl).pick 1 rfl)
   obtain ⟨J1,hJ1,hq15,hS⟩:=hS.freeze (k:=0) rfl;try dsimp only [List.eraseIdx] at hS
   obtain ⟨J2,hJ2,hq20,hS⟩:=hS.freeze (k:=0) rfl;try dsimp only [List.eraseIdx] at hS
   have hJJ:=hJ1.trans hJ2;have hNV:=Xvr (by have:=(X28 hk).2; omega) hn (hJ2 _ _ hq15) hq20;refine .call Qf66 rfl (ec9 rfl X0) rfl (X57 t nn hk hn _ B _ J2 (hK.mono hJJ) hNV _ hS) ?_;rintro _ w ⟨rfl,hS⟩;refine .nil ?_;clear hH;have hH:∃ J9 R,Le I J9∧Sat B w J9 (blk b1 [S t,S u,I64 tr,I64 (nn:Nat)] 45::R):=⟨_,_,hJJ,(hS.pick 0 rfl)⟩
   refine ⟨fun _ _=>hH,?_⟩;refine .tp (i:=17) rfl (by kernel_rfl) (fun w=>(.mo rfl)) rfl (.tp (i:=18) rfl (by kernel_rfl) (fun w=>(.extract (.of rfl) rfl)) rfl (.tp (i:=19) rfl (by kernel_rfl) (fun w=>(.extract (.of rfl) rfl)) rfl (.tp (i:=20) rfl (by kernel_rfl) (fun w=>(.ao rfl)) rfl (.tp (i:=21) rfl (by kernel_rfl) (fun w=>(.ao rfl)) rfl (.done (by kernel_rfl) (.seq (.q 2 rfl (.ret (X8 Tryz.results28 rfl ?_)))))))));exact ⟨_,rfl,rfl,X5b hJJ (hS.drop (k:=0) rfl)⟩
 ·refine .buildSlice (cs:=[_,_,_,_,_,_,_,_]) hS (pc9 rfl (pc9 rfl X4)) X83 Xy X6b rfl rfl rfl rfl ?_;intro b20 w hS;refine .nil ?_;clear hH;have hH:∃ J9 R,Le I J9∧Sat B w J9 (blk b1 [S t,S u,I64 tr,I64 (nn:Nat)] 45::R):=⟨_,_,Le.refl _,(hS.pick 1 rfl)⟩
  refine ⟨fun _ _=>hH,?_⟩;refine .b1 7 (by kernel_rfl) rfl (.call Qf67 rfl (ec9 rfl X0) rfl (Xf0 nn hn B _ I hK _ hS) ?_);rintro _ w ⟨rfl,hS⟩;refine .nil ?_;clear hH;have hH:∃ J9 R,Le I J9∧Sat B w J9 (blk b1 [S t,S u,I64 tr,I64 (nn:Nat)] 45::R):=⟨_,_,Le.refl _,(hS.pick 1 rfl)⟩
  refine ⟨fun _ _=>hH,?_⟩;refine .tp (i:=8) rfl (by kernel_rfl) (fun w=>(.build (cs:=[_,_]) (pc9 rfl (pc9 rfl X4)) X3u rfl)) rfl (.b1 9 (by kernel_rfl) rfl (.buildSlice (cs:=[_,_,_,_,_,_]) hS (pc9 rfl (pc9 rfl (pc9 rfl X4))) X2t X2w Xcv rfl rfl rfl rfl ?_));intro b15 w hS;refine .nil ?_;clear hH;have hH:∃ J9 R,Le I J9∧Sat B w J9 (blk b1 [S t,S u,I64 tr,I64 (nn:Nat)] 45::R):=⟨_,_,Le.refl _,(hS.pick 2 rfl)⟩
  refine ⟨fun _ _=>hH,?_⟩;refine .tp (i:=15) rfl (by kernel_rfl) (fun w=>(.build (cs:=[_,_,_,_]) (pc9 rfl (pc9 rfl (pc9 rfl X4))) X14 rfl)) rfl (.b1 16 (by kernel_rfl) rfl ?_);replace hS:=((hS.pick 1 rfl).pick 1 rfl)
  obtain ⟨J1,hJ1,hq15,hS⟩:=hS.freeze (k:=0) rfl;try dsimp only [List.eraseIdx] at hS
  obtain ⟨J2,hJ2,hq20,hS⟩:=hS.freeze (k:=0) rfl;try dsimp only [List.eraseIdx] at hS
  have hJJ:=hJ1.trans hJ2;have hNV:=Xvr (by have:=(X28 hk).2; omega) hn (hJ2 _ _ hq15) hq20;refine .call Qf66 rfl (ec9 rfl X0) rfl (X57 t nn hk hn _ B _ J2 (hK.mono hJJ) hNV _ hS) ?_;rintro _ w ⟨rfl,hS⟩;refine .nil ?_;clear hH;have hH:∃ J9 R,Le I J9∧Sat B w J9 (blk b1 [S t,S u,I64 tr,I64 (nn:Nat)] 45::R):=⟨_,_,hJJ,(hS.pick 0 rfl)⟩
  refine ⟨fun _ _=>hH,?_⟩;refine .tp (i:=17) rfl (by kernel_rfl) (fun w=>(.mo rfl)) rfl (.tp (i:=18) rfl (by kernel_rfl) (fun w=>(.extract (.of rfl) rfl)) rfl (.tp (i:=19) rfl (by kernel_rfl) (fun w=>(.extract (.of rfl) rfl)) rfl (.tp (i:=20) rfl (by kernel_rfl) (fun w=>(.ao rfl)) rfl (.tp (i:=21) rfl (by kernel_rfl) (fun w=>(.ao rfl)) rfl (.done (by kernel_rfl) (.seq (.q 2 rfl (.ret (X8 Tryz.results28 rfl ?_)))))))));exact ⟨_,rfl,rfl,X5b hJJ (hS.drop (k:=0) rfl)⟩
theorem NdV.parts {I:Im}:∀ {d:Nat} {s1:List UInt8} {a1:Option Addr} {n1 m1:Nat} {s2:List UInt8} {a2:Option Addr} {n2 m2:Nat} {n:Nd},NdV d I [S s1,.slice a1 n1 m1,S s2,.slice a2 n2 m2] n →
  n1=n.attrs.length∧s2=n.text∧RS I a1 2 n.attrs.length (X9 Xo n.attrs)∧(∀ a∈n.attrs,a.1.length≤10000∧a.2.length≤10000)∧n.text.length≤10000
 | 0,_,_,_,_,_,_,_,_,_,h=>h.elim
 | d+1,s1,a1,n1,m1,s2,a2,n2,m2,n,h=>by
  obtain ⟨h1,h2,h3,h4,h5,aa,ca,ka,ck,xs,hcs,h7,h8,h9,_⟩:=h;injection hcs with e1 hcs; injection hcs with e2 hcs; injection hcs with e3 hcs
  injection e2 with e2 e2b e2c
  injection e3 with e3; injection e3 with e3
  subst e2;exact ⟨e2b,by simpa using e3,h9,h5,h2⟩
theorem X3a {n:Nt} (h:X1l n=true):X4k n.ticket=true∧0≤n.next∧n.next≤1099511627776∧n.url.length≤100∧0≤n.tries∧n.tries≤9:=by
 unfold X1l at h;simp only [Yn,decide_eq_true_eq] at h
 obtain ⟨⟨⟨⟨⟨h1,h2⟩,h3⟩,h4⟩,h5⟩,h6⟩:=h;exact ⟨h1,h5,h6,by omega,h3,h4⟩
theorem Xdv (n:Nt) (h:X1l n=true) (B w:World) (I:Im) (hK:Kx I) (As:List X6) (hS:Sat B w I As):Calls Tryz.prog 28 [.agg (X7 n).toArray].toArray w (Ret fun v w'=>v=S (MSG n.ticket n.next.toNat)∧Sat B w' I As):=by
 obtain ⟨h1,h2,h3,_⟩:=X3a h
 have:=Xfi n.ticket n.url n.tries n.next.toNat h1 (by omega) B w I hK As hS
 rw [Y54 h2] at this;exact this
theorem Xls (t:List UInt8) (n:Nat):Xd0 (X8l t n) SIX=some (.mk SIX [] t []):=by
 unfold Xd0 X8l;simp only [Nd.kids,Y2s,Nd.name]
 rw [show (NID == SIX)=false by decide,show (SIX == SIX)=true by decide]
set_option maxRecDepth 4000 in
theorem Xt3 (s:List UInt8) (hl:s.length≤400) (B w:World) (I:Im) (hK:Kx I) (hP:PreAt I) (As:List X6) (hS:Sat B w I As) :
  Cz 25 [S s] w fun v w'=>v=.tuple #[S ((Xa6 s).getD []),.bool (Xa6 s).isSome]∧Sat B w' I As:=by
 refine calls Tryz.func25 rfl Tryz.ntmps25 rfl (.seq (.q 2 rfl (.seq (.t 1 rfl (.call Tryz.func63 rfl (ec9 rfl X0) rfl (Xnf s (by omega) B _ I hK _ hS) ?_)))));rintro _ w ⟨J,s1,a1,n1,m1,s2,a2,n2,m2,e,nd,rfl,hJ,hN,hR,hS⟩;refine .q 3 rfl (.allocA (cs:=[_,_,_,_]) hS X6b rfl ?_);intro b4 w hS;refine .so hS (k:=0) rfl rfl rfl rfl Xy rfl (by simp) ?_;intro w hS;try simp only [Yk,Yf,Y9,Y7,Yh,Ym,Yd] at hS
 refine .q 1 rfl (.nil (.seq (.region ?_)));refine .val (.ldsW (cs:=[_,_,_,_]) (.of rfl) hS (k:=0) rfl X2u Xy rfl) rfl (.buildSlice (cs:=[_]) hS (pc9 rfl X4) X1s Qs9 Qz9 rfl rfl rfl rfl ?_);intro b18 w hS;refine .call Tryz.func64 rfl (ec9 rfl (ec9 rfl X0)) rfl (Xm8 nd SIX s1 a1 n1 m1 s2 a2 n2 m2 b18 B _ J hN _ hS) ?_;rintro _ w ⟨t1,c1,k1,l1,t2,c2,k2,l2,ok,kd,rfl,hF,hD,hS⟩;refine .q 3 rfl (.allocA (cs:=[_,_,_,_]) hS X6b rfl ?_);intro b6 w hS;refine .so hS (k:=0) rfl rfl rfl rfl Xy rfl (by simp) ?_;intro w hS;try simp only [Yk,Yf,Y9,Y7,Yh,Ym,Yd] at hS
 refine .q 1 rfl (.nil (.seq (.seq (.t 3 rfl (.gm rfl rfl rfl rfl (.gval rfl rfl (fun hg1=>(.not (.gd hg1 rfl))) rfl (.val (.po rfl rfl rfl) rfl (.q 1 rfl ?_))))))));refine .gval rfl rfl (fun hg1=>(by exact .fo 1 rfl X38 rfl rfl X6e rfl)) rfl ?_;refine .gval rfl rfl (fun hg1=>(by exact (.ld (.gd hg1 rfl) hS (k:=2) rfl Xaa rfl))) rfl ?_;refine .gval rfl rfl (fun hg1=>(.lenSlice (.gd hg1 rfl) X2t)) rfl (.gval rfl rfl (fun hg1=>(.neq (.gd hg1 rfl) (.of rfl))) rfl (.val (.po rfl rfl rfl) rfl (.nil ?_)));refine .cond rfl (fun hb33=>?_) fun hb33=>?_
 ·refine .seq (.q 2 rfl (.ret (X2z Tryz.results25 rfl rfl ?_)));refine ⟨_,rfl,?_,X5b hJ (((hS.drop (k:=0) rfl).drop (k:=0) rfl).drop (k:=0) rfl)⟩;have hno:Xa6 s=none:=Xfc fun t n ht hn es=>by
   have hx:=Xi1 (X28 ht).1 n;rw [← es] at hx;rcases hR with ⟨h,_⟩ | ⟨h,h2⟩
   ·rw [h] at hx; cases hx
   ·rw [h] at hx;injection hx with hx
    subst hx;have hk:=Xls t n;have hl:=hN.parts.1;have h3:n1=3:=hl;rcases hF with ⟨h,_⟩ | ⟨_,h4⟩
    ·rw [hk] at h; cases h
    ·rw [h2,h4,h3] at hb33; simp at hb33
  rw [hno]; rfl
 refine .skip (.seq ?_);have hb9:=hb33;simp only [Yz,bne_eq_false_iff_eq,Y2m] at hb9
 obtain ⟨⟨he0,hok⟩,h3⟩:=hb9;obtain ⟨hp1,hp2,hpR,hpa,hpt⟩:=hN.parts;obtain ⟨dd,hD⟩:=hD;obtain ⟨hq1,hq2,_,_,hqt⟩:=hD.parts;have ht2l:t2.length≤10000:=by rw [hq2]; exact hqt
 have hal3:nd.attrs.length=3:=by omega
 obtain ⟨av,hav⟩:∃ a,nd.attrs[2]?=some a:=⟨_,Y5 (by omega)⟩
 obtain ⟨qa,hqa9,hx⟩:=Xni hpR hav;have hav2:=hpa av (Yl hav);have h39:n1=3:=by omega
 subst h39;clear hp1;subst hqa9;have hfnd:Xgm s=some nd∧Xd0 nd SIX=some kd:=by
  refine ⟨?_,?_⟩
  ·rcases hR with ⟨_,h,_⟩ | ⟨h,_⟩
   ·rw [h] at he0; simp at he0
   ·exact h
  ·rcases hF with ⟨_,h⟩ | ⟨h,_⟩
   ·rw [h] at hok; cases hok
   ·exact h
 refine .region (.val (.fo 1 rfl X38 rfl rfl X6e rfl) rfl (.val (.lo rfl hS (k:=2) rfl Xaa rfl) rfl (.val (.ii rfl rfl (by omega) (by omega) X2t X2w) rfl (.val (.fo 1 rfl X4f rfl rfl Qs9 rfl) rfl (.val (.ldI (.of rfl) hS (At.add hx 1) Qg9 rfl) rfl (.call Tryz.func65 rfl (ec9 rfl X0) rfl (Xpi av.2 (by omega) B _ J (hK.mono hJ) _ hS) ?_))))));rintro _ w ⟨nx,ee,rfl,hnx,hS⟩;refine .q 5 rfl (.nil (.seq (.region ?_)));refine .val (.fo 2 rfl X38 rfl rfl Qs9 rfl) rfl (.val (.lo rfl hS (k:=0) rfl Qg9 rfl) rfl (.q 1 rfl (.val (.build (cs:=[_,_,_,_]) (pc9 rfl (pc9 rfl X4)) X54 rfl) rfl (.allocA (cs:=[_,_,_,_]) hS Xfd rfl ?_))));intro b10 w hS;refine .so hS (k:=0) rfl rfl rfl rfl X4n rfl (by simp) ?_;intro w hS;try simp only [Yk,Yf,Y9,Y7,Yh,Ym,Yd] at hS
 refine .nil (.seq (.seq (.region ?_)));refine .val (.ldsW (cs:=[_,_,_,_]) (.of rfl) hS (k:=0) rfl Xl7 X4n rfl) rfl ?_;refine .call Tryz.func54 rfl (ec9 rfl X0) rfl (Xew ⟨t2,[],0,nx⟩ (by (try dsimp only); omega) (by (try dsimp only [List.length_nil]); decide) B _ J (hK.mono hJ) (hP.mono hJ) _ hS) ?_;rintro _ w ⟨rfl,hS⟩;refine .q 2 rfl (.gval rfl rfl (fun hg1=>(by exact (.ldsW (cs:=[_,_,_,_]) (.of rfl) hS (k:=0) rfl Xl7 X4n rfl))) rfl ?_);refine .gcall (T:=fun w=>Sat B w J _) rfl rfl rfl Tryz.func28 rfl (fun hg1=>(Xc (.gd hg1 rfl) X0)) rfl (fun hg1=>Xdv ⟨t2,[],0,nx⟩ (by simpa using hg1) B _ J (hK.mono hJ) _ hS) hS ?_;rintro w hS;refine .gm rfl rfl rfl rfl (.gval rfl rfl (fun hg1=>(.nes (.gd hg1 rfl) (.gd hg1 rfl))) rfl (.val (.po rfl rfl rfl) rfl (.nil ?_)));refine .cond rfl (fun hb55=>?_) fun hb55=>?_
 ·refine .seq (.q 2 rfl (.ret (X2z Tryz.results25 rfl rfl ?_)));refine ⟨_,rfl,?_,X5b hJ ((((hS.drop (k:=0) rfl).drop (k:=0) rfl).drop (k:=0) rfl).drop (k:=0) rfl)⟩;have hno:Xa6 s=none:=Xfc fun t n ht hn es=>by
   have hr:=Xi1 (X28 ht).1 n;rw [← es,hfnd.1] at hr;injection hr with hr
   subst hr;have hk:=Xls t n;rw [hfnd.2] at hk;injection hk with hk
   subst hk;have hav3:av=(Xoo,Go.Lib.decDigits n):=by
    have:some av=some (Xoo,Go.Lib.decDigits n):=hav.symm
    injection this
   have hn2:=hnx n hn (by rw [hav3]);have ht2:t2=t:=hq2;subst ht2; subst hn2;have hright:X1l ⟨t2,[],0,(n:Int)⟩=true:=by
    unfold X1l;simp only [ht,List.length_nil]
    simp
    omega
   rw [hright,Ye,← es] at hb55;simp at hb55
  rw [hno]; rfl
 refine .skip (.seq (.region ?_));refine .val (.fo 0 rfl X7h rfl rfl Qs9 rfl) rfl (.val (.lo rfl hS (k:=0) rfl Qg9 rfl) rfl (.q 2 rfl (.nil (.ret (X2z Tryz.results25 rfl rfl ?_)))));refine ⟨_,rfl,?_,X5b hJ ((((hS.drop (k:=0) rfl).drop (k:=0) rfl).drop (k:=0) rfl).drop (k:=0) rfl)⟩;have hb8:=hb55;simp only [Yz,bne_eq_false_iff_eq,Y2m] at hb8
 obtain ⟨hr1,hr2⟩:=hb8;obtain ⟨hr3,hr4,hr5,_⟩:=X3a hr1
 have:=Xeo (t:=t2) hr3 (n:=nx.toNat) (by (try dsimp only at hr4 hr5); omega)
 rw [show MSG t2 nx.toNat=s by simpa using hr2] at this;rw [this]; rfl
end Go.Proofs.YtbciobiiejpdgaaGreatDoor
namespace Go.Proofs.YtbciobiiejpdgaaGreatDoor
open Gk Rk Flt
set_option maxRecDepth 20000
theorem Xrw (x y:Nat) (n:Int) (z:Nat) (B w:World) (I:Im) (As:List X6) (hS:Sat B w I As) :
  Cz 59 [F64 x,F64 y,I64 n,F64 z] w fun v w'=>v=F64 (waitV x y n z)∧Sat B w' I As:=by
 refine calls Tryz.func59 rfl Tryz.ntmps59 rfl (.seq (.q 1 rfl (.seq (.seq (.t 1 rfl (.val (.fgtr (.of rfl) (.of rfl)) rfl (.q 1 rfl (.nil ?_))))))));refine .cond rfl (fun hb11=>?_) fun hb11=>?_
 ·refine .seq (.q 1 rfl (.ret (X8 Qr59 rfl ?_)));exact ⟨_,rfl,by rw [waitV,Xqu (by simpa using hb11)],hS⟩
 have hc11:=hb11; try simp only [Y6] at hc11
 refine .skip (.seq (.seq (.t 1 rfl (.val (.min2 (.of rfl) (.of rfl)) rfl (.val (.max2 (.of rfl) (.of rfl)) rfl (.q 1 rfl (.nil (.block ?_))))))));refine .loop (σ:=Nat×Nat) (fun ⟨r,j⟩=>[(0,F64 r),(1,F64 y),(3,F64 z),(14,I64 (max 0 (min n 64))),(15,I64 (j:Nat))]) (fun ⟨r,j⟩ w=>nf r=W x y j∧(j:Int)≤max 0 (min n 64)∧Sat B w I As) (fun ⟨r,j⟩=>(max 0 (min n 64)).toNat - j) (x,0) ⟨rfl,rfl,rfl,rfl,rfl,trivial⟩ ⟨rfl,by (try dsimp only); omega,hS⟩ ?_;rintro ⟨r,j⟩ w ⟨hr,hj,hS⟩;refine .seq (.q 1 rfl (.seq ?_));refine .cond rfl (fun hb16=>?_) fun hb16=>?_
 ·have hc16:=hb16; try simp only [Y6] at hc16
  refine .skip (.seq (.block (.t 2 rfl (.fmul hS (.of rfl) (.of rfl) rfl ?_))));clear hS; intro fr19 w hr19 hn19 hS;refine .q 1 rfl (.nil (.region (.run 2 rfl ⟨⟨by omega,by omega⟩,trivial⟩ (.nil ?_))));refine ⟨(fr19,j+1),⟨rfl,rfl,rfl,rfl,rfl,trivial⟩,⟨W_step hr hn19,by (try dsimp only); omega,hS⟩,by (try dsimp only); omega⟩
 have hc16:=hb16; try simp only [Y6] at hc16
 refine .exit (.seq (.block (.seq (.t 1 rfl (.call Tryz.func101 rfl (ec9 rfl X0) rfl (Xek _ _) ?_)))));rintro _ _ ⟨rfl,rfl⟩;refine .q 1 rfl (.gm rfl rfl rfl rfl (.gm rfl rfl rfl rfl (.gval rfl rfl (fun hg1=>(.fgtr (.gd hg1 rfl) (.gd hg1 rfl))) rfl (.val (.po rfl rfl rfl) rfl (.q 1 rfl (.nil ?_))))));refine .cond rfl (fun hb21=>?_) fun hb21=>?_
 ·have hc21:=hb21; try simp only [Y6] at hc21
  refine .seq (.q 2 rfl (.ret (X8 Qr59 rfl ?_)));have ht:j=Xhh n:=by unfold Xhh; omega
  subst ht;have hz:lt 0 z=true:=by simpa using hb11
  exact ⟨_,rfl,by rw [waitV,Xcx hz hr,if_pos hb21],hS⟩
 have hc21:=hb21; try simp only [Y6] at hc21
 refine .seq (.t 1 rfl (.val (.fgtr (.of rfl) (.of rfl)) rfl (.q 1 rfl (.nil ?_))));refine .cond rfl (fun hb30=>?_) fun hb30=>?_
 ·have hc30:=hb30; try simp only [Y6] at hc30
  refine .seq (.q 2 rfl (.ret (X8 Qr59 rfl ?_)));have ht:j=Xhh n:=by unfold Xhh; omega
  subst ht;have hz:lt 0 z=true:=by simpa using hb11
  exact ⟨_,rfl,by rw [waitV,Xcx hz hr,if_neg (by rw [hb21]; simp),if_pos hb30],hS⟩
 have hc30:=hb30; try simp only [Y6] at hc30
 refine .skip (.seq (.q 1 rfl (.ret (X8 Qr59 rfl ?_))));have ht:j=Xhh n:=by unfold Xhh; omega
 subst ht;have hz:lt 0 z=true:=by simpa using hb11
 exact ⟨_,rfl,by rw [waitV,Xcx hz hr,if_neg (by rw [hb21]; simp),if_neg (by rw [hb30]; simp)],hS⟩
theorem Xt2 {P : Program} (w : World) {x : Nat} (hn : Flt.nan x = false) : (Extern.MathFloor.toIntegral "math.archCeil" .up [F64 x].toArray).run P w = .ok (F64 (Xdk x)) w := by
 have hx:Ieee.double.read x=FloatKind.f64.decode x:=rfl;have hd:(∃ s m i,FloatKind.f64.decode x=.number s m i)∨∃ s,FloatKind.f64.decode x=.infinity s:=by
  have h1:¬ 9218868437227405312<rg x:=by simpa [Flt.nan] using hn
  rcases Ys (rg x) 9218868437227405312 with h | h
  ·obtain ⟨m,i,e,_⟩:=X5o h;exact .inl ⟨_,m,i,e⟩
  ·exact .inr ⟨_,X8u (by omega)⟩
 have e:Xdk x=FloatKind.f64.encode ((FloatKind.f64.decode x).integral .up):=rfl;rw [e];rcases hd with ⟨s,m,i,hd⟩ | ⟨s,hd⟩
 ·delta Extern.MathFloor.toIntegral
  conv=>lhs; arg 2; whnf
  rw [hd];rfl
 ·delta Extern.MathFloor.toIntegral
  conv=>lhs; arg 2; whnf
  rw [hd];rfl
theorem Xrm (x:Nat) (hn:Flt.nan x=false) (w:World) :
  Cz 102 [F64 x] w fun v w'=>v=F64 (Xdk x)∧w=w':=by
 refine calls Tryz.func102 rfl Tryz.ntmps102 rfl (.seq (.q 1 rfl (.seq (.condT (rfl) (.seq (.t 1 rfl (.val (.extern Tryz.func142 (by kernel_rfl) (by kernel_rfl) (by kernel_rfl) (e := Extern.MathFloor.toIntegral "math.archCeil" .up) (by kernel_rfl) (ec9 rfl X0) (Xt2 w hn)) rfl (.q 1 rfl (.nil (.ret (X8 Tryz.results102 rfl ?_)))))))))));exact ⟨_,rfl,rfl,rfl⟩
theorem Xly (x:Nat) (most:Int) (w:World) :
  Cz 60 [F64 x,I64 most] w fun v w'=>v=I64 (cnt x most)∧w=w':=by
 refine calls Tryz.func60 rfl Tryz.ntmps60 rfl (.seq (.q 1 rfl (.seq (.t 1 rfl (.val (.min2 (.of rfl) (.of rfl)) rfl (.val (.max2 (.of rfl) (.of rfl)) rfl (.q 1 rfl (.nil (.seq (.block (.seq (.t 1 rfl (.call Tryz.func101 rfl (ec9 rfl X0) rfl (Xek _ _) ?_)))))))))))));rintro _ _ ⟨rfl,rfl⟩;refine .q 1 rfl (.gm rfl rfl rfl rfl (.gm rfl rfl rfl rfl (.gval rfl rfl (fun hg1=>(.toF (.gd hg1 rfl) rfl Qu27)) rfl (.gval rfl rfl (fun hg1=>(.fgtr (.gd hg1 rfl) (.gd hg1 rfl))) rfl (.val (.po rfl rfl rfl) rfl (.q 1 rfl (.nil ?_)))))));refine .cond rfl (fun hb8=>?_) fun hb8=>?_
 ·refine .seq (.q 2 rfl (.ret (X8 Tryz.results60 rfl ?_)));exact ⟨_,rfl,by rw [cnt,if_pos (show (Flt.nan x || lt (ofI (top most)) x)=true from hb8)]; rfl,rfl⟩
 refine .seq (.t 1 rfl (.val (.fgtr (.of rfl) (.of rfl)) rfl (.q 1 rfl (.nil ?_))));refine .cond rfl (fun hb18=>?_) fun hb18=>?_
 ·refine .seq ?_;have hnx:Flt.nan x=false:=by cases h:Flt.nan x <;> simp [h] at hb8 ⊢
  have hcs:=Xio (x:=x) (most:=most) hb8 hb18;have htp:=Xe4 most;refine .t 1 rfl (.call Tryz.func102 rfl (ec9 rfl X0) rfl (Xrm x hnx _) ?_);rintro _ _ ⟨rfl,rfl⟩;refine .val (.ofF (.of rfl) rfl Qu3 hcs.1 hcs.2.1 (by omega)) rfl (.q 1 rfl (.nil (.ret (X8 Tryz.results60 rfl ?_))));exact ⟨_,rfl,by rw [cnt,if_neg (show ¬ _ by rw [show (Flt.nan x || lt (ofI (top most)) x)=false from hb8]; simp),if_pos hb18],rfl⟩
 refine .skip (.seq (.q 1 rfl (.ret (X8 Tryz.results60 rfl ?_))));exact ⟨_,rfl,by rw [cnt,if_neg (show ¬ _ by rw [show (Flt.nan x || lt (ofI (top most)) x)=false from hb8]; simp),if_neg (by rw [hb18]; simp)],rfl⟩
end Go.Proofs.YtbciobiiejpdgaaGreatDoor
namespace Xm
open Ul Pc Gk Pat Tk Tr
def nt0:Nt:=⟨[],[],0,0⟩
def Xrg:List Nt→List Nt→Bool
 | _,[]=>false
 | q,n::r=>(q.any fun x=>x.ticket == n.ticket) || Xrg (q ++ [n]) r
def Xfe (q l:List Nt):List Nt×Nat:=if (l.any fun n=>!X1l n)=true then (q,1) else if Xrg q l=true then (q,7) else if 64<q.length+l.length then (q,5) else (q ++ l,0)
def X61:Option Nt→List Nt→Option Nt
 | b,[]=>b
 | none,n::r=>X61 (some n) r
 | some b,n::r=>X61 (some (if n.next<b.next then n else b)) r
def X64 (q:List Nt) (now:Int):Nt×Bool:=match X61 none q with
 | none=>(nt0,false)
 | some b=>if now<b.next then (nt0,false) else (b,true)
structure Qc where
 x:Nat
 y:Nat
 z:Nat
 tries:Int
def Xgj (c:Qc):Int:=max 1 (min c.tries 9)
def X2o (c:Qc) (n:Nt) (now:Int):Nt:=⟨n.ticket,n.url,n.tries+1,min (now+Rk.cnt (Rk.waitV c.x c.y n.tries c.z) 1099511627776) 1099511627776⟩
def ixN (q:List Nt) (t:List UInt8):Int:=Xt (fun n=>n.ticket == t) q 0
def X3d (c:Qc) (q:List Nt) (t:List UInt8) (ok:Bool) (now:Int):List Nt×Nat:=match q[(ixN q t).toNat]? with
 | none=>(q,6)
 | some n=>if ixN q t<0 then (q,6) else if ok=true∨Xgj c≤n.tries+1 then (q.eraseIdx (ixN q t).toNat,0) else (q.set (ixN q t).toNat (X2o c n now),0)
def QOk (q:List Nt):Prop:=q.length≤64∧∀ n∈q,X1l n=true
theorem X94:∀ {q:List Nt} {b:Option Nt} {n:Nt},X61 b q=some n→b=some n∨n∈q
 | [],b,n,h=>.inl h
 | m::r,none,n,h=>by
  rcases X94 (q:=r) (b:=some m) h with e | e
  ·cases e; exact .inr (by simp)
  ·exact .inr (by simp [e])
 | m::r,some b,n,h=>by
  rcases X94 (q:=r) (b:=some (if m.next<b.next then m else b)) h with e | e
  ·split at e
   ·cases e; exact .inr (by simp)
   ·exact .inl e
  ·exact .inr (by simp [e])
theorem Xbf:∀ (q:List Nt) (b:Nt),∃ n,X61 (some b) q=some n
 | [],b=>⟨b,rfl⟩
 | m::r,b=>Xbf r _
theorem X9l:∀ (a b:List Nt) (s:Option Nt),X61 s (a ++ b)=X61 (X61 s a) b
 | [],b,s=>rfl
 | m::r,b,none=>X9l r b _
 | m::r,b,some _=>X9l r b _
theorem Xm2 (x:Nat):0≤Rk.cnt x 1099511627776∧Rk.cnt x 1099511627776≤1099511627776:=by
 have h:=Rk.cnt_laws x 1099511627776;have h2:Rk.top 1099511627776=1099511627776:=by decide
 rw [h2] at h;exact ⟨h.1,h.2.1⟩
theorem Xr3 {c:Qc} {q:List Nt} {t:List UInt8} {ok:Bool} {now:Int} (h:QOk q) (h0:0≤now):QOk (X3d c q t ok now).1:=by
 unfold X3d;split
 ·exact h
 ·rename_i n hn
  split
  ·exact h
  ·split
   ·exact ⟨Y4e (List.length_eraseIdx_le _ _) h.1,fun m hm=>h.2 m (List.mem_of_mem_eraseIdx hm)⟩
   ·rename_i hc
    refine ⟨by (try dsimp only); rw [Y24]; exact h.1,fun m hm=>?_⟩;rcases Y48 hm with e | e
    ·exact h.2 m e
    ·subst e;have hr:=h.2 n (Yl hn);have hct:=Xm2 (Rk.waitV c.x c.y n.tries c.z);have hl:n.tries+1<Xgj c:=by
      rcases Y4q (n.tries+1) (Xgj c) with e | e
      ·exact e
      ·exact absurd (.inr e) hc
     unfold Xgj at hl;unfold X1l at hr ⊢;simp only [Yn,decide_eq_true_eq] at hr ⊢
     obtain ⟨⟨⟨⟨⟨g1,g2⟩,g3⟩,g4⟩,g5⟩,g6⟩:=hr;exact ⟨⟨⟨⟨⟨g1,g2⟩,by (try dsimp only [X2o]); omega⟩,by (try dsimp only [X2o]); omega⟩,by (try dsimp only [X2o]); omega⟩,by (try dsimp only [X2o]); omega⟩
end Xm
namespace Go.Proofs.YtbciobiiejpdgaaGreatDoor
open Gk Ul Pc Pat Xm Tr Tk
set_option maxRecDepth 4000
theorem Xbn:Tryz.prog.info? 45=some Tryz.t45:=by kernel_rfl
theorem Xkm:Bld Tryz.prog 113 [(0,1),(1,1),(2,1),(3,1),(4,1)] [.int .i64 0,.float .f64 0,.float .f64 0,.float .f64 0,.slice none 0 0]:=X2b X7o Tryz.zeroValue113 (fun w=>by simp [go_sem])
theorem X5c (a:Option Addr) (cap:Nat) (l:List (Nt)) (hln:l.length≤9223372036854775807) (pr:Nt→Bool) (fid:FuncId) (fn:Func) (hfn:Tryz.prog.funcs[fid]?=some fn) (hcal:Xj fn=true) (capv:List Value) (B w:World) (I:Im) (As:List X6) (hE:∀ w,Sat B w I As→X6q w X7 4 a l) (hf:∀ (r:Nt) (hr:r∈l) w,Sat B w I As→Calls Tryz.prog fid ([Value.agg (X7 r).toArray] ++ capv).toArray w (Ret fun v w'=>v=.bool (pr r)∧Sat B w' I As)) (hS:Sat B w I As) :
  Cz 98 [.slice a l.length cap,.func (.func fid) #[] capv.toArray] w fun v w'=>v=I64 (Xt pr l 0)∧Sat B w' I As:=by
 refine calls Tryz.func98 rfl Tryz.ntmps98 rfl (.seq (.q 1 rfl (.seq (.seq (.region (.run 3 rfl ⟨⟨_,X6o⟩,trivial⟩ (.nil (.block (.loop (σ:=Nat) (fun i=>[(0,.slice a l.length cap),(1,.func (.func fid) #[] capv.toArray),(7,I64 (l.length:Nat)),(8,I64 (i:Nat))]) (fun i w=>i≤l.length∧(∀ (j:Nat) t,j<i→l[j]?=some t→pr t=false)∧Sat B w I As) (fun i=>l.length - i) 0 ⟨rfl,rfl,rfl,rfl,trivial⟩ ⟨Yq _,fun _ _ h=>absurd h (by omega),hS⟩ ?_)))))))));rintro i w ⟨hi,hno,hS⟩;refine .seq (.q 1 rfl (.seq ?_));refine .cond rfl (fun hb9=>?_) fun hb9=>?_
 ·have hc9:=hb9; try simp only [Y6] at hc9
  refine .skip (.seq (.block (.seq ?_)));obtain ⟨r,hr⟩:∃ r,l[i]?=some r:=⟨_,Y5 (by omega)⟩
  obtain ⟨p,rfl,hx⟩:=hE w hS i r hr;refine .q 2 rfl (.seq (.t 3 rfl ?_));refine .val (.ii rfl rfl (by omega) (by omega) X6o X4n) rfl (.val (.ldR (.of rfl) hx Xl7 X4n rfl) rfl (.vcall (cap:=capv) hfn hcal (.of rfl) (ec9 rfl X0) rfl (hf r (Yl hr) w hS) ?_));clear hS;rintro _ w ⟨rfl,hS⟩;refine .nil (.cond rfl (fun hb16=>?_) fun hb16=>?_)
  ·refine .seq (.q 2 rfl (.ret (X8 Tryz.results98 rfl ?_)));exact ⟨_,rfl,by rw [X2y hno hr hb16],hS⟩
  have hc16:=hb16; try simp only [Y6] at hc16
  refine .skip (.region (.run 2 rfl ⟨⟨by omega,by omega⟩,trivial⟩ (.nil ?_)));refine ⟨i+1,⟨rfl,rfl,rfl,rfl,trivial⟩,⟨by (try dsimp only); omega,fun j t hj ht=>?_,hS⟩,by (try dsimp only); omega⟩;rcases Ys j i with h1 | h1
  ·exact hno j t h1 ht
  ·have e:j=i:=by omega
   subst e;rw [hr] at ht; cases ht;exact hb16
 have hc9:=hb9; try simp only [Y6] at hc9
 refine .exit (.seq (.q 1 rfl (.ret (X8 Tryz.results98 rfl ?_))));exact ⟨_,rfl,by rw [X2g (fun j t ht=>hno j t (by have:=(Y4.1 ht).1; omega) ht)],hS⟩
theorem X78 (a:Option Addr) (cap:Nat) (l:List (Nt)) (hln:l.length≤9223372036854775807) (pr:Nt→Bool) (fid:FuncId) (fn:Func) (hfn:Tryz.prog.funcs[fid]?=some fn) (hcal:Xj fn=true) (capv:List Value) (B w:World) (I:Im) (As:List X6) (hE:∀ w,Sat B w I As→X6q w X7 4 a l) (hf:∀ (r:Nt) (hr:r∈l) w,Sat B w I As→Calls Tryz.prog fid ([Value.agg (X7 r).toArray] ++ capv).toArray w (Ret fun v w'=>v=.bool (pr r)∧Sat B w' I As)) (hS:Sat B w I As) :
  Cz 52 [.slice a l.length cap,.func (.func fid) #[] capv.toArray] w fun v w'=>v=.bool (l.any pr)∧Sat B w' I As:=by
 refine calls Tryz.func52 rfl Tryz.ntmps52 rfl (.seq (.q 1 rfl (.seq (.t 2 rfl (.call Tryz.func98 rfl (ec9 rfl (ec9 rfl X0)) rfl (X5c a cap l hln pr fid fn hfn hcal capv B _ I As hE hf hS) ?_)))));rintro _ w ⟨rfl,hS⟩;refine .q 2 rfl (.nil (.ret (X8 Tryz.results52 rfl ?_)));exact ⟨_,rfl,by rw [← X20 pr l 0],hS⟩
theorem nt_vec {B w:World} {I:Im} {As:List X6} {k c:Nat} {a:Option Addr} {l:List Nt} (hS:Sat B w I As) (hk:As[k]?=some (Vec 45 4 (.slice a l.length c) l.length (X9 X7 (l)))):X6q w X7 4 a l:=fun i r hr=>by
 obtain ⟨b,cap,rest,hv,_,_,_,_,hSo⟩:=hS.vecOpen hk (by have:=(Y4.1 hr).1; omega);injection hv with h1 h2 h3
 subst h1;have hb:=hSo.block (k:=k) (by rw [Y1u ((Y4.1 hk).1)]; rfl);refine ⟨_,rfl,fun j v hj=>?_⟩;rw [Addr.add_add];have h3:=X76 (cells:=X7) (s:=4) (fun _=>rfl) hr hj
 have:=X16 hb (o:=i*4+j) (by rw [Yi (Y4.1 h3).1]; exact h3)
 rw [X12,Yd];exact this
theorem Xaj {α:Type} {cells:α→List Value} (h:∀ r,(cells r).all Value.oneCell'=true):∀ l:List α,(X9 cells l).all Value.oneCell'=true
 | []=>rfl
 | x::l=>by
  show (cells x ++ X9 cells l).all _=true
  rw [Y59,h x,Xaj h l]; rfl
theorem Xln (r:Nt) (t:List UInt8) (b3:Nat) (B w:World) (I:Im) (As:List X6) (hS:Sat B w I (blk b3 [S t] 9::As)) :
  Cz 100 [.agg (X7 r).toArray,ptr b3 0] w fun v w'=>v=.bool (r.ticket == t)∧Sat B w' I (blk b3 [S t] 9::As):=by
 refine calls Tryz.func100 rfl Tryz.ntmps100 rfl (.seq (.region (.boxA (cs:=[_,_,_,_]) hS (.of rfl) rfl ?_)));intro b2 w hS;refine .q 1 rfl (.nil (.seq (.region ?_)));refine .val (.fo 0 rfl X7h rfl rfl Qs9 rfl) rfl (.val (.lo rfl hS (k:=0) rfl Qg9 rfl) rfl (.val (.lo rfl hS (k:=1) rfl Qg9 rfl) rfl (.q 2 rfl (.nil (.ret (X8 Tryz.results100 rfl ?_))))));exact ⟨_,rfl,rfl,hS.drop (k:=0) rfl⟩
theorem Xhu (a:Option Addr) (c:Nat) (l:List Nt) (hl:l.length≤100000) (t:List UInt8) (B w:World) (I:Im) (As:List X6) (hE:∀ (w:World) (X:X6),Sat B w I (X::As)→X6q w X7 4 a l) (hS:Sat B w I As) :
  Cz 56 [.slice a l.length c,S t] w fun v w'=>v=I64 (ixN l t)∧Sat B w' I As:=by
 refine calls Tryz.func56 rfl Tryz.ntmps56 rfl (.seq (.region (.box1 hS (.of rfl) rfl rfl ?_)));intro b3 w hS;refine .q 1 rfl (.nil (.seq (.t 1 rfl (.val (.makeFunc (ec9 rfl X0)) rfl (.call Tryz.func98 rfl (ec9 rfl (ec9 rfl X0)) rfl (X5c a c l (by omega) (fun r=>r.ticket == t) 100 _ Tryz.func100 rfl [ptr b3 0] B _ I _ (fun w h=>hE w _ h) (fun r hr w h=>Xln r t b3 B w I _ h) hS) ?_)))));rintro _ w ⟨rfl,hS⟩;refine .q 1 rfl (.nil (.ret (X8 Tryz.results56 rfl ?_)));exact ⟨_,rfl,rfl,hS.drop (k:=0) rfl⟩
theorem X7x (a:Option Addr) (c:Nat) (l:List Nt) (hl:l.length≤100000) (B w:World) (I:Im) (hR:RS I a 4 l.length (X9 X7 l)) (As:List X6) (hS:Sat B w I As) :
  Cz 55 [.slice a l.length c] w fun v w'=>Sat B w' I (Vec 45 4 v (l).length (X9 X7 (l))::As):=by
 refine calls Qf55 rfl Tryz.ntmps55 rfl (.seq (.q 1 rfl (.seq (.seq (.t 1 rfl (.val (Ex.slNil (.of rfl) (.of rfl) X6o) rfl (.nil ?_)))))));refine .cond rfl (fun hb4=>?_) fun hb4=>?_
 ·refine .seq (.q 1 rfl (.ret (X8 Tryz.results55 rfl ?_)));cases a with
  | some p=>simp at hb4
  | none =>
  have h0:l=[]:=by
   cases l with
   | nil=>rfl
   | cons x l=>obtain ⟨p,h,_⟩:=hR.2 (by simp); cases h
  subst h0;exact ⟨_,rfl,hS.vecNil 45 4⟩
 refine .skip (.seq (.region (.buildSlice (cs:=[]) hS X4 X6o X4n Xfd rfl rfl rfl rfl ?_)));intro b5 w hS;refine .q 1 rfl ?_;replace hS:=hS.vecOf (k:=0) (E:=45) (size:=4) (n:=0) rfl rfl (Yq _);refine .appendF (size:=4) (bytes:=48) hS (.of rfl) (.of rfl) hR (k:=0) rfl X6o (i:=Tryz.t45) (by kernel_rfl) rfl rfl rfl rfl (Xaj (fun r=>rfl) l) ⟨by omega,by unfold maxLen; omega⟩ rfl ?_;intro v7 w hS;rw [Yd,Yf] at hS;refine .q 1 rfl (.nil (.ret (X8 Tryz.results55 rfl ?_)));exact ⟨_,rfl,hS⟩
theorem Xfa (qb:Nat) (lim:Int) (x y z:Nat) (a:Option Addr) (c:Nat) (q:List Nt) (hq:q.length≤64) (B w:World) (I:Im) (hR:RS I a 4 q.length (X9 X7 q)) (hc:q.length≤c) (As:List X6) (hS:Sat B w I (blk qb [I64 lim,F64 x,F64 y,F64 z,.slice a q.length c] 113::As)) :
  Cz 20 [ptr qb 0] w fun v w'=>∃ J ra rc,v=.slice ra q.length rc∧Le I J∧q.length≤rc∧RS J ra 4 q.length (X9 X7 q)∧Sat B w' J (blk qb [I64 lim,F64 x,F64 y,F64 z,.slice a q.length c] 113::As):=by
 refine calls Tryz.func20 rfl Tryz.ntmps20 rfl (.seq (.q 1 rfl (.seq (.t 2 rfl ?_))));refine .val (.fo 4 rfl X7o rfl rfl Xna rfl) rfl (.val (.lo rfl hS (k:=0) rfl Qg38 rfl) rfl (.call Qf55 rfl (ec9 rfl X0) rfl (X7x a c q (by omega) B _ I hR _ hS) ?_));rintro v9 w hS;refine .q 1 rfl (.nil (.ret (X8 Tryz.results20 rfl ?_)));obtain ⟨ra,rc,rfl,hrc,_⟩:=hS.vecSlice (k:=0) rfl;obtain ⟨J,hJ,hRS,hS⟩:=hS.freezeVec (k:=0) rfl;exact ⟨_,rfl,J,ra,rc,rfl,hJ,hrc,hRS,hS⟩
theorem X90 (cs:List Value) (x y z:Nat) (tr:Int) (h24:cs[24]?=some (F64 x)) (h25:cs[25]?=some (F64 y)) (h26:cs[26]?=some (F64 z)) (h27:cs[27]?=some (I64 tr)) (B w:World) (I:Im) (As:List X6) (hS:Sat B w I As) :
  Cz 11 [.agg cs.toArray] w fun v w'=>∃ qb,v=ptr qb 0∧Sat B w' I (blk qb [I64 (max 1 (min tr 9)),F64 x,F64 y,F64 z,.slice none 0 0] 113::As):=by
 refine calls Qf11 rfl Tryz.ntmps11 rfl (.seq (.region (.boxA (cs:=cs) hS (.of rfl) rfl ?_)));intro b1 w hS;refine .q 1 rfl (.nil (.seq (.region ?_)));refine .val (.fo 27 rfl Xhi rfl rfl Qs3 rfl) rfl (.val (.ld (v:=I64 tr) (.of rfl) hS (k:=0) rfl Qg3 h27) rfl (.val (.min2 (.of rfl) (.of rfl)) rfl (.val (.max2 (.of rfl) (.of rfl)) rfl ?_)));refine .val (.fo 24 rfl Xhi rfl rfl Xfg rfl) rfl (.val (.ld (v:=F64 x) (.of rfl) hS (k:=0) rfl Xl8 h24) rfl (.val (.fo 25 rfl Xhi rfl rfl Xfg rfl) rfl (.val (.ld (v:=F64 y) (.of rfl) hS (k:=0) rfl Xl8 h25) rfl (.val (.fo 26 rfl Xhi rfl rfl Xfg rfl) rfl (.val (.ld (v:=F64 z) (.of rfl) hS (k:=0) rfl Xl8 h26) rfl (.val (.build (cs:=[_,_,_,_,_]) (pc9 rfl (pc9 rfl (pc9 rfl (pc9 rfl X4)))) Xkm rfl) rfl (.boxA (cs:=[_,_,_,_,_]) hS (.of rfl) rfl ?_)))))));intro b14 w hS;refine .q 1 rfl (.nil (.ret (X8 Tryz.results11 rfl ?_)));exact ⟨_,rfl,b14,rfl,(hS.drop (k:=1) rfl)⟩
theorem X75 (qb:Nat) (lim:Int) (x y z:Nat) (a:Option Addr) (c:Nat) (q:List Nt) (hq:q.length≤64) (B w:World) (I:Im) (hR:RS I a 4 q.length (X9 X7 q)) (hc:q.length≤c) (hqr:∀ n∈q,X1l n=true) (now:Int) (hn0:0≤now) (hn1:now≤1099511627776) (As:List X6) (hS:Sat B w I (blk qb [I64 lim,F64 x,F64 y,F64 z,.slice a q.length c] 113::As)) :
  Cz 17 [ptr qb 0,I64 now] w fun v w'=>v=.tuple #[.agg (X7 (X64 q now).1).toArray,.bool (X64 q now).2]∧Sat B w' I (blk qb [I64 lim,F64 x,F64 y,F64 z,.slice a q.length c] 113::As):=by
 refine calls Qf17 rfl Tryz.ntmps17 rfl (.seq (.region (.allocA (cs:=[_,_,_,_]) hS Xfd rfl ?_)));intro b4 w hS;refine .q 1 rfl (.nil (.seq (.region (.val (.build (cs:=[_,_,_,_]) (pc9 rfl X4) X54 rfl) rfl (.allocA (cs:=[_,_,_,_]) hS Xfd rfl ?_)))));intro b6 w hS;refine .so hS (k:=0) rfl rfl rfl rfl X4n rfl (by simp) ?_;intro w hS;try simp only [Yk,Yf,Y9,Y7,Yh,Ym,Yd] at hS
 refine .nil (.seq (.seq (.t 2 rfl ?_)));refine .val (.fo 4 rfl X7o rfl rfl Xna rfl) rfl (.val (.lo rfl hS (k:=2) rfl Qg38 rfl) rfl (.run 2 rfl ⟨⟨_,X6o⟩,trivial⟩ (.nil (.block ?_))));have hS0:=hS; clear hS;refine .loop (σ:=Nat×Nt) (fun ⟨i,b⟩=>[(1,I64 now),(4,ptr b4 0),(6,ptr b6 0),(13,.slice a q.length c),(14,I64 (q.length:Nat)),(15,I64 (i:Nat))]) (fun ⟨i,b⟩ w=>i≤q.length∧(X61 none (q.take i)=none∧i=0∧b=⟨[],[],0,1099511627777⟩∨X61 none (q.take i)=some b)∧Sat B w I (blk b6 [S b.ticket,S b.url,I64 b.tries,I64 b.next] 45::blk b4 [S [],S [],I64 0,I64 0] 45::blk qb [I64 lim,F64 x,F64 y,F64 z,.slice a q.length c] 113::As)) (fun ⟨i,b⟩=>q.length - i) (0,⟨[],[],0,1099511627777⟩) ⟨rfl,rfl,rfl,rfl,rfl,rfl,trivial⟩ ⟨Yq _,.inl ⟨rfl,rfl,rfl⟩,hS0⟩ ?_;rintro ⟨i,b⟩ w ⟨hi,hbb,hS⟩;clear hS0;refine .seq (.q 1 rfl (.seq ?_));refine .cond rfl (fun hb16=>?_) fun hb16=>?_
 ·have hc16:=hb16; simp only [Y6] at hc16;refine .skip (.seq (.block (.seq ?_)));obtain ⟨n,hn⟩:∃ n,q[i]?=some n:=⟨_,Y5 (by omega)⟩
  obtain ⟨p,hp9,hx⟩:=Xj1 (cells:=X7) (s:=4) (fun _=>rfl) hR hn;subst hp9;have hrn:=X3a (hqr n (Yl hn));have hst:X61 none (q.take (i+1))=X61 (X61 none (q.take i)) [n]:=by rw [Y12,hn,Y1n,X9l]
  refine .region (.val (.ii rfl rfl (by omega) (by omega) X6o X4n) rfl ?_);rw [Ye];refine .val (.ldsI (us:=[S n.ticket,S n.url,I64 n.tries,I64 n.next]) (.of rfl) hS hx Xl7 X4n rfl (fun _ _ h=>h)) rfl (.allocA (cs:=[_,_,_,_]) hS Xfd rfl ?_);intro b8 w hS;refine .so hS (k:=0) rfl rfl rfl rfl X4n rfl (by simp) ?_;intro w hS;try simp only [Yk,Yf,Y9,Y7,Yh,Ym,Yd] at hS
  refine .nil (.seq (.region ?_));refine .val (.fo 3 rfl X7h rfl rfl Qs3 rfl) rfl (.val (.lo rfl hS (k:=0) rfl Qg3 rfl) rfl (.val (.fo 3 rfl X7h rfl rfl Qs3 rfl) rfl (.val (.lo rfl hS (k:=1) rfl Qg3 rfl) rfl (.q 1 rfl (.nil ?_)))));refine .cond rfl (fun hb23=>?_) fun hb23=>?_
  ·have hc23:=hb23; simp only [Y6] at hc23;refine .region (.val (.ldsW (cs:=[_,_,_,_]) (.of rfl) hS (k:=0) rfl Xl7 X4n rfl) rfl (.so hS (k:=1) rfl rfl rfl rfl X4n rfl (by simp) ?_));intro w hS;try simp only [Yk,Yf,Y9,Y7,Yh,Ym,Yd] at hS
   refine .nil (.region (.run 2 rfl ⟨⟨by omega,by omega⟩,trivial⟩ (.nil ?_)));refine ⟨(i+1,n),⟨rfl,rfl,rfl,rfl,rfl,rfl,trivial⟩,⟨by (try dsimp only); omega,.inr ?_,((((hS.pick 3 rfl).pick 3 rfl).pick 3 rfl).drop (k:=3) rfl)⟩,by (try dsimp only); omega⟩;rcases hbb with ⟨h1,h2,h3⟩ | h1
   ·rw [hst,h1]; rfl
   ·rw [hst,h1];show X61 (some (if n.next<b.next then n else b)) []=_
    rw [if_pos (by have h9:=hc23; omega)]; rfl
  have hc23:=hb23; simp only [Y6] at hc23;refine .skip (.region (.run 2 rfl ⟨⟨by omega,by omega⟩,trivial⟩ (.nil ?_)));refine ⟨(i+1,b),⟨rfl,rfl,rfl,rfl,rfl,rfl,trivial⟩,⟨by (try dsimp only); omega,.inr ?_,((((hS.pick 3 rfl).pick 3 rfl).pick 3 rfl).drop (k:=3) rfl)⟩,by (try dsimp only); omega⟩;rcases hbb with ⟨h1,h2,h3⟩ | h1
  ·subst h3; exfalso; have h9:=hc23; (try dsimp only at h9); omega
  ·rw [hst,h1];show X61 (some (if n.next<b.next then n else b)) []=_
   rw [if_neg (by have h9:=hc23; omega)]; rfl
 have hc16:=hb16; simp only [Y6] at hc16;refine .exit (.seq (.seq (.region ?_)));refine .val (.fo 3 rfl X7h rfl rfl Qs3 rfl) rfl (.val (.lo rfl hS (k:=0) rfl Qg3 rfl) rfl (.q 1 rfl (.val (.min2 (.of rfl) (.of rfl)) rfl (.q 1 rfl (.nil ?_)))));refine .cond rfl (fun hb30=>?_) fun hb30=>?_
 ·have hc30:=hb30; simp only [Y6] at hc30;refine .seq (.region (.val (.build (cs:=[_,_,_,_]) X4 X54 rfl) rfl ?_));refine .so hS (k:=1) rfl rfl rfl rfl X4n rfl (by simp) ?_;intro w hS;try simp only [Yk,Yf,Y9,Y7,Yh,Ym,Yd] at hS
  refine .q 1 rfl (.nil (.ret ?_));refine X1j (b:=_) (cs:=[_,_,_,_]) Tryz.results17 hS (k:=1) rfl Xl7 X4n rfl rfl rfl (⟨_,rfl,?_,(((hS.pick 2 rfl).drop (k:=1) rfl).drop (k:=1) rfl)⟩);have hiq:i=q.length:=by omega
  subst hiq;rw [Y17] at hbb;unfold X64;rcases hbb with ⟨h1,_⟩ | h1
  ·rw [h1]; rfl
  ·rw [h1];dsimp only
   rw [if_pos (by have h9:=hc30; omega)]; rfl
 have hc30:=hb30; simp only [Y6] at hc30;refine .skip (.seq (.region ?_));refine .val (.ldsW (cs:=[_,_,_,_]) (.of rfl) hS (k:=0) rfl Xl7 X4n rfl) rfl (.so hS (k:=1) rfl rfl rfl rfl X4n rfl (by simp) ?_);intro w hS;try simp only [Yk,Yf,Y9,Y7,Yh,Ym,Yd] at hS
 refine .q 1 rfl (.nil (.ret ?_));refine X1j (b:=_) (cs:=[_,_,_,_]) Tryz.results17 hS (k:=1) rfl Xl7 X4n rfl rfl rfl (⟨_,rfl,?_,(((hS.pick 2 rfl).drop (k:=1) rfl).drop (k:=1) rfl)⟩);have hiq:i=q.length:=by omega
 subst hiq;rw [Y17] at hbb;unfold X64;rcases hbb with ⟨h1,h2,h3⟩ | h1
 ·subst h3; exfalso; have h9:=hc30; (try dsimp only at h9); omega
 ·rw [h1];dsimp only
  rw [if_neg (by have h9:=hc30; omega)]; rfl
theorem Xqr (r:Nt) (h1:r.ticket.length≤60) (h2:r.url.length≤120) (B w:World) (I:Im) (hK:Kx I) (hP:PreAt I) (As:List X6) (hS:Sat B w I As) :
  Cz 53 [.agg (X7 r).toArray] w fun v w'=>v=.bool (!X1l r)∧Sat B w' I As:=by
 refine calls Tryz.func53 rfl Tryz.ntmps53 rfl (.seq (.region (.boxA (cs:=[_,_,_,_]) hS (.of rfl) rfl ?_)));intro b1 w hS;refine .q 1 rfl (.nil (.seq (.region ?_)));refine .val (.ldsW (cs:=[_,_,_,_]) (.of rfl) hS (k:=0) rfl Xl7 X4n rfl) rfl (.call Tryz.func54 rfl (ec9 rfl X0) rfl (Xew r (by omega) (by omega) B _ I hK hP _ hS) ?_);rintro _ w ⟨rfl,hS⟩;refine .q 2 rfl (.nil (.ret (X8 Tryz.results53 rfl ?_)));exact ⟨_,rfl,rfl,(hS.drop (k:=0) rfl)⟩
theorem Xle (qb:Nat) (lim:Int) (x y z:Nat) (a:Option Addr) (c:Nat) (q:List Nt) (hq:q.length≤64) (B w:World) (I:Im) (hR:RS I a 4 q.length (X9 X7 q)) (hc:q.length≤c) (la:Option Addr) (lc:Nat) (l:List Nt) (hl:l.length≤70) (hls:∀ n∈l,n.ticket.length≤60∧n.url.length≤120) (hRl:RS I la 4 l.length (X9 X7 l)) (hK:Kx I) (hP:PreAt I) (As:List X6) (hS:Sat B w I (blk qb [I64 lim,F64 x,F64 y,F64 z,.slice a q.length c] 113::As)) :
  Cz 13 [ptr qb 0,.slice la l.length lc] w fun v w'=>∃ J a2 c2,v=I64 ((Xfe q l).2:Nat)∧Le I J∧RS J a2 4 (Xfe q l).1.length (X9 X7 (Xfe q l).1)∧(Xfe q l).1.length≤c2∧Sat B w' J (blk qb [I64 lim,F64 x,F64 y,F64 z,.slice a2 (Xfe q l).1.length c2] 113::As):=by
 refine calls Tryz.func13 rfl Tryz.ntmps13 rfl (.seq (.q 1 rfl (.seq (.seq (.t 1 rfl (.call Tryz.func52 rfl (ec9 rfl (ec9 rfl X0)) rfl (X78 la lc l (by omega) (fun n=>!X1l n) 53 _ Tryz.func53 rfl [] B _ I _ (fun w h=>X68 (cells:=X7) (s:=4) (fun _=>rfl) h hRl) (fun r hr w h=>Xqr r (hls r hr).1 (hls r hr).2 B w I hK hP _ h) hS) ?_))))));clear hS;rintro _ w ⟨rfl,hS⟩;refine .nil (.cond rfl (fun hb9=>?_) fun hb9=>?_)
 ·refine .seq (.q 1 rfl (.ret (X8 Qr13 rfl ?_)));have hp:Xfe q l=(q,1):=by unfold Xfe; rw [if_pos hb9]
  rw [hp];exact ⟨_,rfl,I,a,c,rfl,Le.refl _,hR,hc,hS⟩
 have hc9:=hb9; try simp only [Y6] at hc9
 refine .skip (.seq (.t 2 rfl ?_));refine .val (.fo 4 rfl X7o rfl rfl Xna rfl) rfl (.val (.lo rfl hS (k:=0) rfl Qg38 rfl) rfl (.call Qf55 rfl (ec9 rfl X0) rfl (X7x a c q (by omega) B _ I hR _ hS) ?_));clear hS;rintro v5 w hS;refine .q 1 rfl (.nil (.seq (.seq (.region (.run 3 rfl ⟨⟨_,X6o⟩,trivial⟩ (.nil (.block ?_)))))));have hS0:=hS; clear hS;refine .loop (σ:=Nat×List Nt×Value) (fun ⟨i,all,v⟩=>[(0,ptr qb 0),(1,.slice la l.length lc),(5,v),(15,.slice la l.length lc),(16,I64 (l.length:Nat)),(17,I64 (i:Nat))]) (fun ⟨i,all,v⟩ w=>i≤l.length∧all=q ++ l.take i∧Xrg q l=Xrg all (l.drop i)∧Sat B w I (Vec 45 4 v (all).length (X9 X7 (all))::blk qb [I64 lim,F64 x,F64 y,F64 z,.slice a q.length c] 113::As)) (fun ⟨i,all,v⟩=>l.length - i) (0,q,v5) ⟨rfl,rfl,rfl,rfl,rfl,rfl,trivial⟩ ⟨Yq _,by simp,rfl,hS0⟩ ?_;rintro ⟨i,all,v⟩ w ⟨hi,hall,hdup,hS⟩;clear hS0;refine .seq (.q 1 rfl (.seq ?_));refine .cond rfl (fun hb18=>?_) fun hb18=>?_
 ·have hc18:=hb18; try simp only [Y6] at hc18
  refine .skip (.seq (.block (.seq ?_)));obtain ⟨n,hn⟩:∃ n,l[i]?=some n:=⟨_,Y5 (by omega)⟩
  obtain ⟨p,hp9,hx⟩:=Xj1 (cells:=X7) (s:=4) (fun _=>rfl) hRl hn;subst hp9;have hdr:l.drop i=n::l.drop (i+1):=by rw [Y16 (by omega),(Y4.1 hn).2]
  have hal9:all.length≤134:=by rw [hall]; simp only [Y0,Yp]; omega
  refine .region (.val (.ii rfl rfl (by omega) (by omega) X6o X4n) rfl ?_);rw [Ye];refine .val (.ldsI (us:=[S n.ticket,S n.url,I64 n.tries,I64 n.next]) (.of rfl) hS hx Xl7 X4n rfl (fun _ _ h=>h)) rfl (.allocA (cs:=[_,_,_,_]) hS Xfd rfl ?_);clear hS; intro b7 w hS;refine .so hS (k:=0) rfl rfl rfl rfl X4n rfl (by simp) ?_;clear hS; intro w hS;try simp only [Yk,Yf,Y9,Y7,Yh,Ym,Yd] at hS
  refine .nil (.seq (.seq ?_));obtain ⟨va,vc,rfl,hvc,_⟩:=hS.vecSlice (k:=1) rfl;refine .t 1 rfl (.val (.fo 0 rfl X7h rfl rfl Qs9 rfl) rfl (.val (.lo rfl hS (k:=0) rfl Qg9 rfl) rfl ?_));replace hS:=(hS.pick 1 rfl)
  refine .call Tryz.func56 rfl (ec9 rfl (ec9 rfl X0)) rfl (Xhu va vc all (by omega) n.ticket B _ I _ (fun w X h=>nt_vec h (k:=1) rfl) hS) ?_;clear hS;rintro _ w ⟨rfl,hS⟩;refine .q 1 rfl (.nil ?_);refine .cond rfl (fun hb25=>?_) fun hb25=>?_
  ·have hc25:=hb25; try simp only [Y6] at hc25
   refine .seq (.q 1 rfl (.ret (X8 Qr13 rfl ?_)));have hany0:(l.any fun n=>!X1l n)=false:=by simpa using hb9
   have hyes:(all.any fun x=>x.ticket == n.ticket)=true:=by
    rw [← X20 _ all 0];exact decide_eq_true (by have h9:=hc25; unfold ixN at h9; omega)
   have hp:Xfe q l=(q,7):=by unfold Xfe; rw [if_neg (by rw [hany0]; decide),if_pos (by rw [hdup,hdr,Xrg,hyes,Bool.true_or])]
   rw [hp];exact ⟨_,rfl,I,a,c,rfl,Le.refl _,hR,hc,(((hS.pick 2 rfl).drop (k:=1) rfl).drop (k:=1) rfl)⟩
  have hc25:=hb25; try simp only [Y6] at hc25
  refine .skip (.t 1 rfl ?_);refine .val (.ldsW (cs:=[_,_,_,_]) (.of rfl) hS (k:=1) rfl Xl7 X4n rfl) rfl (.buildSlice (cs:=[_,_,_,_]) hS (pc9 rfl X4) X6o X4n Xfd rfl rfl rfl rfl ?_);clear hS; intro b28 w hS;refine .append (size:=4) (bytes:=48) hS (.of rfl) (.of rfl) (k:=0) rfl X6o Xbn rfl rfl rfl rfl rfl rfl rfl ⟨by omega,by unfold maxLen; omega⟩ rfl ?_;clear hS; intro v29 w hS;obtain ⟨a29,c29,rfl,hcap29,_⟩:=hS.vecSlice (k:=0) (v:=v29) rfl;refine .q 1 rfl (.nil (.region (.run 2 rfl ⟨⟨by omega,by omega⟩,trivial⟩ (.nil ?_))));replace hS:=(((hS.pick 2 rfl).pick 1 rfl).drop (k:=2) rfl)
  have er:X9 X7 (all ++ [n])=X9 X7 all ++ [S n.ticket,S n.url,I64 n.tries,I64 n.next]:=by simp [X9,X7]
  have el:(all ++ [n]).length=all.length+1:=by simp
  have hno:(all.any fun x=>x.ticket == n.ticket)=false:=by
   rw [← X20 _ all 0];exact decide_eq_false (by have h9:=hc25; unfold ixN at h9; omega)
  refine ⟨(i+1,all ++ [n],_),⟨rfl,rfl,rfl,rfl,rfl,rfl,trivial⟩,⟨by (try dsimp only); omega,?_,?_,by rw [er,el]; exact hS⟩,by (try dsimp only); omega⟩
  ·rw [hall,Y12,hn,Y1n,Yc]
  ·rw [hdup,hdr,Xrg,hno,Y39]
 have hc18:=hb18; try simp only [Y6] at hc18
 refine .exit (.seq (.seq ?_));have hil:i=l.length:=by omega
 subst hil;rw [Y17] at hall;have hdup0:Xrg q l=false:=by rw [hdup,Y37]; rfl
 have hany0:(l.any fun n=>!X1l n)=false:=by simpa using hb9
 have hal9:all.length=q.length+l.length:=by rw [hall,Y0]
 obtain ⟨va,vc,rfl,hvc,_⟩:=hS.vecSlice (k:=0) rfl;refine .region (.run 3 rfl ⟨⟨_,X6o⟩,trivial⟩ (.nil ?_));refine .cond rfl (fun hb33=>?_) fun hb33=>?_
 ·have hc33:=hb33; try simp only [Y6] at hc33
  refine .seq (.q 1 rfl (.ret (X8 Qr13 rfl ?_)));have hp:Xfe q l=(q,5):=by unfold Xfe; rw [if_neg (by rw [hany0]; decide),if_neg (by rw [hdup0]; decide),if_pos (by have h9:=hc33; omega)]
  rw [hp];exact ⟨_,rfl,I,a,c,rfl,Le.refl _,hR,hc,((hS.pick 1 rfl).drop (k:=1) rfl)⟩
 have hc33:=hb33; try simp only [Y6] at hc33
 refine .skip (.seq (.t 3 rfl ?_));refine .val (.fo 4 rfl X7o rfl rfl Xna rfl) rfl (.s1 hS (k:=1) rfl rfl rfl rfl Xna (by simp) ?_);clear hS; intro w hS;refine .nil (.seq (.q 1 rfl (.ret (X8 Qr13 rfl ?_))));have hp:Xfe q l=(q ++ l,0):=by unfold Xfe; rw [if_neg (by rw [hany0]; decide),if_neg (by rw [hdup0]; decide),if_neg (by have h9:=hc33; omega)]
 rw [hp];subst hall;obtain ⟨J,hJ,hRS,hS⟩:=hS.freezeVec (k:=0) rfl;exact ⟨_,rfl,J,va,vc,rfl,hJ,hRS,hvc,hS⟩
theorem Xbo {α:Type} (cells:α→List Value) (l:List α) (k:Nat):X9 cells l=X9 cells (l.take k) ++ X9 cells (l.drop k):=by
 conv=>lhs; rw [← Yw k l]
 unfold X9; rw [Yu,Y27]
theorem Xlc {α:Type} {cells:α→List Value} {s:Nat} (hc:∀ x,(cells x).length=s) (l:List α) (r:List Value) {k:Nat} (hk:k≤l.length):(X9 cells l ++ r).take (k*s)=X9 cells (l.take k):=by
 have h:=X1t hc (l.take k);rw [Yp,Y2g hk] at h;rw [Xbo cells l k,Yc,← h,Y2c]
theorem Xoe {α:Type} {cells:α→List Value} {s:Nat} (hc:∀ x,(cells x).length=s) (l:List α) (r:List Value) {k:Nat} (hk:k≤l.length):(X9 cells l ++ r).drop (k*s)=X9 cells (l.drop k) ++ r:=by
 have h:=X1t hc (l.take k);rw [Yp,Y2g hk] at h;rw [Xbo cells l k,Yc,← h,Y47]
theorem Xc0 {α:Type} {cells:α→List Value} {s:Nat} (hc:∀ x,(cells x).length=s) (y:α) (v:Value) (k:Nat) (hk:k<s) (r:List Value):∀ (l:List α) (i:Nat) (x:α),l[i]?=some x→cells y=(cells x).set k v→(X9 cells l ++ r).set (i*s+k) v=X9 cells (l.set i y) ++ r
 | [],_,_,h,_=>by simp at h
 | a::l,0,x,h,hy=>by
  cases h
  show (cells a ++ X9 cells l ++ r).set (0*s+k) v=cells y ++ X9 cells l ++ r
  rw [Y30,Yd,Yc,Y44 _ _ (by rw [hc]; exact hk),hy,Yc]
 | a::l,i+1,x,h,hy=>by
  show (cells a ++ X9 cells l ++ r).set ((i+1)*s+k) v=cells a ++ X9 cells (l.set i y) ++ r
  rw [Yc,Y29 _ _ (by rw [hc,Y2z]; omega),hc,Y2z,show i*s+s+k - s=i*s+k by omega,Xc0 hc y v k hk r l i x (by simpa using h) hy,Yc]
theorem Xjz (l:List Nt) (i:Nat) (hi:i<l.length) (hl:l.length≤100000) (s:Value) (B w:World) (I:Im) (As:List X6) (hS:Sat B w I (Vec 45 4 s (l).length (X9 X7 (l))::As)) :
  Cz 58 [s,I64 (i:Nat),I64 ((i:Int)+1)] w fun v w'=>Sat B w' I (Vec 45 4 v (l.eraseIdx i).length (X9 X7 (l.eraseIdx i))::As):=by
 obtain ⟨gb,cap,r,rfl,hc1,hc2,hl1,hl2,hS⟩:=hS.vecOpen (k:=0) rfl (by omega);have h4:∀ x:Nt,(X7 x).length=4:=fun _=>rfl
 obtain ⟨pq,hsl,hpq⟩:∃ pq,sliced (some (ad gb 0)) ((i:Int)+1).toNat l.length cap 4=.slice (some pq) (l.length - (i+1)) (cap - (i+1))∧(0<l.length - (i+1)→pq=ad gb ((i+1)*4)):=by
  unfold sliced;rw [show ((i:Int)+1).toNat=i+1 by omega];split
  ·exact ⟨_,rfl,fun h=>by omega⟩
  ·exact ⟨_,rfl,fun _=>by (try dsimp only); rw [X12,Yd]⟩
 have hs2:sliced (some (ad gb 0)) ((i+(l.length - (i+1)):Nat):Int).toNat (l.length:Int).toNat cap 4=.slice (some (ad gb ((l.length - 1)*4))) 1 (cap - (l.length - 1)):=by
  unfold sliced;rw [Ye,Ye,if_neg (by omega),Y3t,X12,Yd,show i+(l.length - (i+1))=l.length - 1 by omega,show l.length - (l.length - 1)=1 by omega]
 have hcut:((X9 X7 l ++ r).drop ((i+1)*4)).take ((l.length - (i+1))*4)=X9 X7 (l.drop (i+1)):=by
  rw [Xoe h4 l r (by omega)];have h:=X1t h4 (l.drop (i+1));rw [Yg] at h;rw [← h,Y2c]
 have htk:=Xlc h4 l r (k:=i) (by omega);have hel:l.eraseIdx i=l.take i ++ l.drop (i+1):=List.eraseIdx_eq_take_drop_succ ..;have hrl:=X1t h4 l;have hell:(l.eraseIdx i).length=l.length - 1:=by rw [List.length_eraseIdx]; split <;> omega
 have hrel:=X1t h4 (l.eraseIdx i);have hre:X9 X7 (l.eraseIdx i)=X9 X7 (l.take i) ++ X9 X7 (l.drop (i+1)):=by rw [hel]; unfold X9; rw [Yu,Y27]
 refine calls Tryz.func58 rfl Tryz.ntmps58 rfl (.seq (.q 1 rfl (.seq (.region (.run 5 rfl ⟨⟨_,X6o⟩,trivial⟩ (.val (Ex.slc3 (.of rfl) (.of rfl) (.of rfl) (.of rfl) (by omega) (by omega) (by omega) (by omega) X6o X4n) rfl (.nil (.seq (.seq (.q 3 rfl ?_))))))))));refine .cond rfl (fun hb16=>by exfalso; simp only [Y6] at hb16; omega) (fun hb16=>?_);refine .skip (.seq (.region (.run 3 rfl ⟨⟨_,X6o⟩,trivial⟩ (.nil (.seq (.drawn (fun _=>True) (fun j=>!([].contains j)) (by kernel_rfl) ?_))))));replace hS:=hS.drew; generalize w.drew=w at hS ⊢;refine .tp (i:=0) rfl (by kernel_rfl) (fun w=>(.mo rfl)) rfl (.tp (i:=1) rfl (by kernel_rfl) (fun w=>(.mo rfl)) rfl (.tp (i:=2) rfl (by kernel_rfl) (fun w=>.slcTo (.of rfl) (.of rfl) (by omega) (by omega) X6o X4n) rfl ?_));rw [Ye,show (⟨gb,0,none⟩:Addr)=ad gb 0 from rfl,X48];refine .tp (i:=3) rfl (by kernel_rfl) (fun w=>(.mo rfl)) rfl (.tp (i:=4) rfl (by kernel_rfl) (fun w=>(.mo rfl)) rfl (.tp (i:=5) rfl (by kernel_rfl) (fun w=>.slcFrom (.of rfl) (.of rfl) (by omega) (by omega) X6o X4n) rfl ?_));rw [hsl];refine .b1 6 (by kernel_rfl) rfl ?_;refine .appendSelf (o:=(i+1)*4) (size:=4) hS (k:=0) rfl (.of rfl) (.of rfl) hpq X6o (i:=Tryz.t45) (by kernel_rfl) rfl (by rw [Y0]; omega) (by rw [hcut]; exact Y1d.1 (Xaj (fun r=>rfl) _)) (by omega) (by rw [Y0]; omega) rfl ?_;intro w hS;rw [hcut,htk,← hre] at hS;refine .nil ?_;refine And.intro (by intro _ _; trivial) ?_;refine .tp (i:=7) rfl (by kernel_rfl) (fun w=>(.ao rfl)) rfl (.done (by kernel_rfl) (.seq (.region (.run 4 rfl ⟨⟨_,X6o⟩,trivial⟩ (.val (.slc (.of rfl) (.of rfl) (.of rfl) (by omega) (by omega) (by omega) X6o X4n) rfl ?_)))));rw [hs2];refine WL.clear (s:=4) hS (k:=0) rfl (.of rfl) X6o Xfd rfl (by decide) (by simp only [Y0,Yg]; omega) ?_;intro w cs9 hcs1 hcs2 hS;refine .nil (.seq (.q 2 rfl (.ret (X8 Tryz.results58 rfl ?_))));have h5:cs9.take ((l.length - 1)*4)=X9 X7 (l.eraseIdx i):=by
  rw [hcs2];rw [← hell,← hrel,Y2c]
 have h6:cs9=X9 X7 (l.eraseIdx i) ++ cs9.drop ((l.length - 1)*4):=by rw [← h5]; exact (Yw _ _).symm
 rw [h6] at hS;rw [show i+(l.length - (i+1))=(l.eraseIdx i).length by omega];simp only [Y0,Yg] at hcs1
 exact ⟨_,rfl,hS.vecShut (n:=(l.eraseIdx i).length) (size:=4) (k:=0) rfl (by omega) hc2 hrel (by rw [hrel,Yg,hcs1]; omega)⟩
theorem X8v (qb:Nat) (lim:Int) (x y z:Nat) (a:Option Addr) (c:Nat) (q:List Nt) (hq:q.length≤64) (B w:World) (I:Im) (hR:RS I a 4 q.length (X9 X7 q)) (hc:q.length≤c) (hqr:∀ n∈q,X1l n=true) (tr:Int) (hlim:lim=Xgj ⟨x,y,z,tr⟩) (t:List UInt8) (ok:Bool) (now:Int) (hn0:0≤now) (hn1:now≤1099511627776) (As:List X6) (hS:Sat B w I (blk qb [I64 lim,F64 x,F64 y,F64 z,.slice a q.length c] 113::As)) :
  Cz 15 [ptr qb 0,S t,.bool ok,I64 now] w fun v w'=>∃ J a2 c2,v=I64 ((X3d ⟨x,y,z,tr⟩ q t ok now).2:Nat)∧Le I J∧RS J a2 4 (X3d ⟨x,y,z,tr⟩ q t ok now).1.length (X9 X7 (X3d ⟨x,y,z,tr⟩ q t ok now).1)∧(X3d ⟨x,y,z,tr⟩ q t ok now).1.length≤c2∧Sat B w' J (blk qb [I64 lim,F64 x,F64 y,F64 z,.slice a2 (X3d ⟨x,y,z,tr⟩ q t ok now).1.length c2] 113::As):=by
 refine calls Qf15 rfl Tryz.ntmps15 rfl (.seq (.q 1 rfl (.seq (.t 2 rfl ?_))));refine .val (.fo 4 rfl X7o rfl rfl Xna rfl) rfl (.val (.lo rfl hS (k:=0) rfl Qg38 rfl) rfl (.q 1 rfl (.call Tryz.func56 rfl (ec9 rfl (ec9 rfl X0)) rfl (Xhu a c q (by omega) t B _ I _ (fun w X h=>X68 (cells:=X7) (s:=4) (fun _=>rfl) h hR) hS) ?_)));rintro _ w ⟨rfl,hS⟩;refine .q 1 rfl (.nil (.seq (.seq (.q 2 rfl ?_))));refine .cond rfl (fun hb20=>?_) fun hb20=>?_
 ·have hc20:=hb20; simp only [Y6] at hc20;refine .seq (.q 1 rfl (.ret (X8 Tryz.results15 rfl ?_)));have hd:X3d ⟨x,y,z,tr⟩ q t ok now=(q,6):=by
   unfold X3d;split
   ·rfl
   ·rw [if_pos (by have h9:=hc20; omega)]
  rw [hd];exact ⟨_,rfl,I,a,c,rfl,Le.refl _,hR,hc,hS⟩
 have hc20:=hb20; simp only [Y6] at hc20;refine .skip (.seq ?_);obtain ⟨j,n,hix,hnj⟩:∃ (j:Nat) (n:Nt),ixN q t=(j:Int)∧q[j]?=some n:=by
  rcases X5h (fun n:Nt=>n.ticket == t) q 0 with ⟨h,_⟩ | ⟨j,n,h1,h2,_⟩
  ·exfalso; have h9:=hc20; unfold ixN at h9; rw [h] at h9; omega
  ·exact ⟨j,n,by unfold ixN; rw [h1]; simp,h2⟩
 rw [hix];have hjl:=(Y4.1 hnj).1;have h4:∀ x:Nt,(X7 x).length=4:=fun _=>rfl
 have hrn:=X3a (hqr n (Yl hnj));have hrq:=X1t h4 q;have hdq:∀ (tr:Int),X3d ⟨x,y,z,tr⟩ q t ok now=if ok=true∨Xgj ⟨x,y,z,tr⟩≤n.tries+1 then (q.eraseIdx j,0) else (q.set j (X2o ⟨x,y,z,tr⟩ n now),0):=fun tr=>by
  unfold X3d;rw [hix,Ye,hnj];dsimp only
  rw [if_neg (by omega)]
 refine .t 2 rfl (.val (.fo 4 rfl X7o rfl rfl Xna rfl) rfl (.val (.lo rfl hS (k:=0) rfl Qg38 rfl) rfl (.call Qf55 rfl (ec9 rfl X0) rfl (X7x a c q (by omega) B _ I hR _ hS) ?_)));rintro v10 w hS;refine .q 1 rfl (.nil (.seq ?_));obtain ⟨gb,cap,r,rfl,hc1,hc2,hl1,hl2,hS⟩:=hS.vecOpen (k:=0) rfl (by omega);have hld0:(X9 X7 q ++ r)[j*4+2]?=some (I64 n.tries):=by
  have h9:=X76 (cells:=X7) (s:=4) (fun _=>rfl) hnj (j:=2) (v:=I64 n.tries) rfl;rw [Yi (Y4.1 h9).1]; exact h9
 obtain ⟨q1,hq1⟩:∃ q1,q1=q.set j ⟨n.ticket,n.url,n.tries+1,n.next⟩:=⟨_,rfl⟩
 have hql1:q1.length=q.length:=by rw [hq1,Y24]
 have hrq1:=X1t h4 q1;have hn1:q1[j]?=some (⟨n.ticket,n.url,n.tries+1,n.next⟩:Nt):=by rw [hq1,Y1u hjl]
 have hst1:(X9 X7 q ++ r).set (j*4+2) (I64 (n.tries+1))=X9 X7 q1 ++ r:=by
  rw [hq1]; exact Xc0 h4 ⟨n.ticket,n.url,n.tries+1,n.next⟩ _ 2 (by decide) r q j n hnj rfl
 have hld1:(X9 X7 q1 ++ r)[j*4+2]?=some (I64 (n.tries+1)):=by
  have h9:=X76 (cells:=X7) (s:=4) (fun _=>rfl) hn1 (j:=2) (v:=I64 (n.tries+1)) rfl;rw [Yi (Y4.1 h9).1]; exact h9
 refine .t 2 rfl (.val (.io rfl rfl (by omega) (by omega) X6o X4n) rfl ?_);rw [Ye,Yd];refine .q 1 rfl (.nil (.seq (.seq (.t 2 rfl ?_))));refine .val (.fo 2 rfl X7h rfl rfl Qs3 rfl) rfl (.val (.ld (v:=I64 n.tries) (.of rfl) hS (k:=0) rfl Qg3 hld0) rfl (.run 2 rfl ⟨⟨by omega,by omega⟩,trivial⟩ ?_));refine .val (.fo 2 rfl X7h rfl rfl Qs3 rfl) rfl (.s1 hS (k:=0) rfl rfl rfl rfl Qs3 (by rw [Y0]; omega) ?_);intro w hS;rw [hst1] at hS;refine .nil (.seq (.quiet (by kernel_rfl) (by kernel_rfl) hS (.val (fun w hS=>(.mo rfl)) rfl (.val (fun w hS=>(.mo rfl)) rfl (.gval rfl rfl rfl (fun hg1 w hS=>(.mo rfl)) rfl (.gval rfl rfl rfl (fun hg1 w hS=>(.nilCheck (.gd hg1 rfl))) rfl ?_))))));refine .gval rfl rfl rfl (fun hg1 w hS=>(by exact .fieldAddr 2 (.gd hg1 rfl) X7h rfl rfl Qs3 rfl)) rfl ?_;refine .gval rfl rfl rfl (fun hg1 w hS=>.ld (v:=I64 (n.tries+1)) (.gd hg1 rfl) hS (k:=0) rfl Qg3 hld1) rfl (.gval rfl rfl rfl (fun hg1 w hS=>(.mo rfl)) rfl (.gval rfl rfl rfl (fun hg1 w hS=>(.nilCheck (.gd hg1 rfl))) rfl ?_));refine .gval rfl rfl rfl (fun hg1 w hS=>(by exact .fieldAddr 0 (.gd hg1 rfl) X7o rfl rfl Qs3 rfl)) rfl ?_;refine .gval rfl rfl rfl (fun hg1 w hS=>(by exact (.ld (.gd hg1 rfl) hS (k:=1) rfl Qg3 rfl))) rfl ?_;refine .gval rfl rfl rfl (fun hg1 w hS=>(.geq (.gd hg1 rfl) (.gd hg1 rfl))) rfl (.val (fun w hS=>(.po rfl rfl rfl)) rfl (.nil ?_));intro w hS;refine .cond rfl (fun hb47=>?_) fun hb47=>?_
 ·refine .seq ?_;replace hS:=hS.vecShut (n:=q1.length) (size:=4) (k:=0) rfl (by omega) hc2 hrq1 (by omega);rw [← hql1];refine .region (.run 5 rfl ⟨⟨by omega,by omega⟩,trivial⟩ (.call Tryz.func58 rfl (ec9 rfl (ec9 rfl (ec9 rfl X0))) rfl (Xjz q1 j (by omega) (by omega) _ B _ I _ hS) ?_));rintro v53 w hS;obtain ⟨vd,cd,rfl,hvd,_⟩:=hS.vecSlice (k:=0) rfl;refine .q 1 rfl (.val (.fo 4 rfl X7o rfl rfl Xna rfl) rfl (.s1 hS (k:=1) rfl rfl rfl rfl Xna (by simp) ?_));intro w hS;refine .nil (.seq (.q 1 rfl (.ret (X8 Tryz.results15 rfl ?_))));have hd:X3d ⟨x,y,z,tr⟩ q t ok now=(q.eraseIdx j,0):=by
   rw [hdq,if_pos];have h9:=hb47;simp only [Y1i,decide_eq_true_eq] at h9
   rcases h9 with h | h
   ·exact .inl h
   ·exact .inr (by rw [← hlim]; omega)
  rw [hd];have he:q1.eraseIdx j=q.eraseIdx j:=by rw [hq1,Y3g]
  rw [he] at hS;replace hS:=((hS.pick 1 rfl).pick 1 rfl)
  obtain ⟨J,hJ,hRS,hS⟩:=hS.freezeVec (k:=0) rfl;rw [he] at hvd;exact ⟨_,rfl,J,vd,cd,rfl,hJ,hRS,hvd,hS⟩
 refine .skip (.seq (.drawn (fun w=>∃ R,Sat B w I (blk qb [I64 lim,F64 x,F64 y,F64 z,.slice a q.length c] 113::blk gb (X9 X7 q1 ++ r) 45::R)) (fun j=>!([].contains j)) (by kernel_rfl) ?_));replace hS:=hS.drew; generalize w.drew=w at hS ⊢;have hH:=((hS.pick 0 rfl).pick 1 rfl)
 refine .tp (i:=0) rfl (by kernel_rfl) (fun w=>(.mo rfl)) rfl (.tp (i:=1) rfl (by kernel_rfl) (fun w=>(.no rfl)) rfl ?_);refine .tp (i:=2) rfl (by kernel_rfl) (fun w=>(.fo 1 rfl X7o rfl rfl Xfg rfl)) rfl (.tk (i:=3) rfl (by kernel_rfl) ⟨_,hH⟩ (fun w ⟨R,hS⟩=>((.lo rfl hS (k:=0) rfl Xl8 rfl))) rfl (.tp (i:=4) rfl (by kernel_rfl) (fun w=>(.mo rfl)) rfl (.tp (i:=5) rfl (by kernel_rfl) (fun w=>(.no rfl)) rfl ?_)));refine .tp (i:=6) rfl (by kernel_rfl) (fun w=>(.fo 2 rfl X7o rfl rfl Xfg rfl)) rfl (.tk (i:=7) rfl (by kernel_rfl) ⟨_,hH⟩ (fun w ⟨R,hS⟩=>((.lo rfl hS (k:=0) rfl Xl8 rfl))) rfl (.tp (i:=8) rfl (by kernel_rfl) (fun w=>(.mo rfl)) rfl (.tp (i:=9) rfl (by kernel_rfl) (fun w=>(.no rfl)) rfl ?_)));refine .tp (i:=10) rfl (by kernel_rfl) (fun w=>(.fo 2 rfl X7h rfl rfl Qs3 rfl)) rfl (.tk (i:=11) rfl (by kernel_rfl) ⟨_,hH⟩ (fun w ⟨R,hS⟩=>.ld (v:=I64 (n.tries+1)) (.of rfl) hS (k:=1) rfl Qg3 hld1) rfl (.tp (i:=12) rfl (by kernel_rfl) (fun w=>(.sub (.of rfl) (.of rfl) ⟨by omega,by omega⟩)) rfl (.tp (i:=13) rfl (by kernel_rfl) (fun w=>(.mo rfl)) rfl (.tp (i:=14) rfl (by kernel_rfl) (fun w=>(.no rfl)) rfl ?_))));refine .tp (i:=15) rfl (by kernel_rfl) (fun w=>(.fo 3 rfl X7o rfl rfl Xfg rfl)) rfl (.tk (i:=16) rfl (by kernel_rfl) ⟨_,hH⟩ (fun w ⟨R,hS⟩=>((.lo rfl hS (k:=0) rfl Xl8 rfl))) rfl (.b1 17 (by kernel_rfl) rfl (.call Tryz.func59 rfl (ec9 rfl (ec9 rfl (ec9 rfl (ec9 rfl X0)))) rfl (Xrw x y (n.tries+1 - 1) z B _ I _ hS) ?_)));rintro _ w ⟨rfl,hS⟩;refine .nil ?_;clear hH;have hH:=((hS.pick 0 rfl).pick 1 rfl)
 refine ⟨fun _ _=>⟨_,hH⟩,?_⟩;refine .tp (i:=18) rfl (by kernel_rfl) (fun w=>(.ao rfl)) rfl (.done (by kernel_rfl) (.seq ?_));have hct:=Xm2 (Rk.waitV x y (n.tries+1 - 1) z);have hst2:(X9 X7 q1 ++ r).set (j*4+3) (I64 (min (now+Rk.cnt (Rk.waitV x y (n.tries+1 - 1) z) 1099511627776) 1099511627776))=X9 X7 (q1.set j (⟨n.ticket,n.url,n.tries+1,min (now+Rk.cnt (Rk.waitV x y (n.tries+1 - 1) z) 1099511627776) 1099511627776⟩:Nt)) ++ r:=Xc0 h4 (⟨n.ticket,n.url,n.tries+1,min (now+Rk.cnt (Rk.waitV x y (n.tries+1 - 1) z) 1099511627776) 1099511627776⟩:Nt) _ 3 (by decide) r q1 j _ hn1 rfl;refine .t 3 rfl (.call Tryz.func60 rfl (ec9 rfl (ec9 rfl X0)) rfl (Xly _ _ _) ?_);rintro _ _ ⟨rfl,rfl⟩;refine .run 1 rfl ⟨⟨by omega,by omega⟩,trivial⟩ (.val (.min2 (.of rfl) (.of rfl)) rfl (.q 1 rfl ?_));refine .val (.fo 3 rfl X7h rfl rfl Qs3 rfl) rfl (.s1 hS (k:=0) rfl rfl rfl rfl Qs3 (by rw [Y0]; omega) ?_);intro w hS;rw [hst2] at hS;refine .nil (.seq (.t 3 rfl ?_));refine .val (.fo 4 rfl X7o rfl rfl Xna rfl) rfl (.s1 hS (k:=1) rfl rfl rfl rfl Xna (by simp) ?_);intro w hS;refine .nil (.seq (.q 1 rfl (.ret (X8 Tryz.results15 rfl ?_))));have hd:X3d ⟨x,y,z,tr⟩ q t ok now=(q.set j (X2o ⟨x,y,z,tr⟩ n now),0):=by
  rw [hdq,if_neg];have h9:=hb47;simp only [Yz,decide_eq_false_iff_not] at h9
  rintro (h | h)
  ·rw [h9.1] at h; cases h
  ·rw [← hlim] at h; omega
 rw [hd];have he:q1.set j (⟨n.ticket,n.url,n.tries+1,min (now+Rk.cnt (Rk.waitV x y (n.tries+1 - 1) z) 1099511627776) 1099511627776⟩:Nt)=q.set j (X2o ⟨x,y,z,tr⟩ n now):=by
  rw [hq1,List.set_set];unfold X2o;rw [show n.tries+1 - 1=n.tries by omega]
 rw [he] at hS;have hle:(q.set j (X2o ⟨x,y,z,tr⟩ n now)).length=q.length:=Y24 ..;have hrl:=X1t h4 (q.set j (X2o ⟨x,y,z,tr⟩ n now));replace hS:=((hS.pick 1 rfl).pick 1 rfl)
 replace hS:=hS.vecShut (n:=(q.set j (X2o ⟨x,y,z,tr⟩ n now)).length) (size:=4) (k:=0) rfl (by omega) hc2 hrl (by omega);obtain ⟨J,hJ,hRS,hS⟩:=hS.freezeVec (k:=0) rfl;exact ⟨_,rfl,J,_,cap,rfl,hJ,hRS,by (try dsimp only); omega,by (try dsimp only); rw [hle]; exact hS⟩
theorem Xnn:Bld Tryz.prog 29 [(0,1),(1,1),(2,21),(23,1),(24,1),(25,1),(26,1),(27,1)] [.slice none 0 0,.slice none 0 0,.int .i64 0,.int .i64 0,.int .i64 0,.int .i64 0,.int .i64 0,.int .i64 0,.int .i64 0,.int .i64 0,.int .i64 0,.int .i64 0,.int .i64 0,.int .i64 0,.int .i64 0,.int .i64 0,.int .i64 0,.int .i64 0,.int .i64 0,.int .i64 0,.int .i64 0,.int .i64 0,.int .i64 0,.int .i64 0,.float .f64 0,.float .f64 0,.float .f64 0,.int .i64 0]:=X2b Xhi Tryz.zeroValue29 (fun w=>by simp [go_sem])
structure Op3 where
 act:Int
 l:List Nt
 a:List UInt8
 f:Bool
 n:Int
def OpAt3 (I:Im) (o:Op3) (cs:List Value):Prop:=∃ la lc,cs=[I64 o.act,.slice la o.l.length lc,S o.a,.bool o.f,I64 o.n]∧o.l.length≤lc∧RS I la 4 o.l.length (X9 X7 o.l)
def OpsAt3 (I:Im) (a:Option Addr) (l:List Op3):Prop:=∃ L:List (List Value),L.length=l.length∧(∀ c∈L,c.length=5)∧RS I a 5 l.length L.flatten∧∀ (i:Nat) o,l[i]?=some o→∃ cs,L[i]?=some cs∧OpAt3 I o cs
theorem OpsAt3.at {I:Im} {a:Option Addr} {l:List Op3} (h:OpsAt3 I a l) {i:Nat} {u:Op3} (hu:l[i]?=some u):∃ p la lc,a=some p∧At I (p.add (i*5)) [I64 u.act,.slice la u.l.length lc,S u.a,.bool u.f,I64 u.n]∧u.l.length≤lc∧RS I la 4 u.l.length (X9 X7 u.l):=by
 obtain ⟨L,h1,h2,h3,h4⟩:=h;obtain ⟨cs,h5,la,lc,rfl,h7,h8⟩:=h4 i u hu;obtain ⟨q,rfl,hq⟩:=h3.2 (by have:=(Y4.1 hu).1; omega);have h9:=X72 (hq.add (i*5)) 5;rw [X1c L h2 i _ h5] at h9;exact ⟨q,la,lc,rfl,h9,h7,h8⟩
def CFG:List Value:=[.slice none 0 0,.slice none 0 0,I64 0,I64 0,I64 0,I64 0,I64 0,I64 0,I64 0,I64 0,I64 0,I64 0,I64 0,I64 0,I64 0,I64 0,I64 0,I64 0,I64 0,I64 0,I64 0,I64 0,I64 0,I64 0,F64 4607182418800017408,F64 4611686018427387904,F64 4621819117588971520,I64 3]
def NM:List UInt8:=pre 2 ++ 45::Xhl 16 1
def EX0:Nt:=⟨NM,[104,116,116,112,58,47,47,97,47],0,5⟩
def EX1:Nt:=⟨NM,[104,116,116,112,58,47,47,97,47],1,6⟩
def EX2:Nt:=⟨NM,[104,116,116,112,58,47,47,97,47],2,8⟩
def QC0:Qc:=⟨4607182418800017408,4611686018427387904,4621819117588971520,3⟩
theorem ex_put:Xfe [] [EX0]=([EX0],0):=by decide +kernel
theorem Xrf:X3d QC0 [EX0] NM false 5=([EX1],0):=by decide +kernel
theorem Xr9:X3d QC0 [EX1] NM false 6=([EX2],0):=by decide +kernel
theorem Xt0:X3d QC0 [EX2] NM false 8=([],0):=by decide +kernel
theorem Xom:X64 [EX1] 6=(EX1,true):=by decide +kernel
theorem Xmg:X64 [EX2] 7=(nt0,false):=by decide +kernel
theorem Xn0:X64 [EX2] 8=(EX2,true):=by decide +kernel
theorem Xmp:(max 1 (min (3:Int) 9))=Xgj QC0:=by decide +kernel
theorem ex_right:X1l EX0=true∧X1l EX1=true∧X1l EX2=true:=by decide +kernel
theorem Xul:Xa6 (MSG NM 6)=some NM:=Xeo (by decide +kernel) (by decide)
theorem X3z {n:Nt} (h:X1l n=true):∀ m∈[n],X1l m=true:=fun m hm=>by rw [Y3r.1 hm]; exact h
theorem Xga (B w:World) (I:Im) (As:List X6) (hS:Sat B w I As) :
  Cz 51 [] w fun v w'=>v=.agg CFG.toArray∧Sat B w' I As:=by
 refine calls Tryz.func51 rfl Tryz.ntmps51 rfl (.seq (.region (.allocA (cs:=[_,_,_,_,_,_,_,_,_,_,_,_,_,_,_,_,_,_,_,_,_,_,_,_,_,_,_,_]) hS Tryz.zeroValue29 rfl ?_)));intro b0 w hS;refine .nil (.seq (.region (.val (.build (cs:=[_,_,_,_,_,_,_,_,_,_,_,_,_,_,_,_,_,_,_,_,_,_,_,_,_,_,_,_]) (pc9 rfl (pc9 rfl (pc9 rfl (pc9 rfl X4)))) Xnn rfl) rfl (.so hS (k:=0) rfl rfl rfl rfl Qs29 rfl (by simp) ?_))));intro w hS;try simp only [Yk,Yf,Y9,Y7,Yh,Ym,Yd] at hS
 refine .nil (.ret (ret1c (b:=_) (cs:=[_,_,_,_,_,_,_,_,_,_,_,_,_,_,_,_,_,_,_,_,_,_,_,_,_,_,_,_]) Tryz.results51 hS (k:=0) rfl Qg29 Qs29 rfl rfl ?_));exact ⟨_,rfl,rfl,(hS.drop (k:=0) rfl)⟩
theorem Xn7 (B w:World) (I:Im) (As:List X6) (hS:Sat B w I As) :
  Cz 46 [I64 2,U64 ((1:Nat):Int)] w fun v w'=>v=S NM∧Sat B w' I As:=by
 refine calls Qf46 rfl Tryz.ntmps46 rfl (.seq (.q 1 rfl (.seq (.t 2 rfl (.call Tryz.func92 rfl (ec9 rfl (ec9 rfl X0)) rfl (X98 2 1 (by decide) B _ I _ hS) ?_)))));rintro _ w ⟨rfl,hS⟩;rw [if_neg (show ¬ Xt7 2=[] by decide +kernel)];refine .q 5 rfl (.nil (.seq (.q 2 rfl (.ret (X8 Tryz.results46 rfl ?_)))));exact ⟨_,rfl,rfl,hS⟩
set_option maxHeartbeats 400000 in
theorem Xh4 (B w:World) (I:Im) (hK:Kx I) (hP:PreAt I) (As:List X6) (hS:Sat B w I As) :
  Cz 8 [] w fun v w'=>v=.bool true∧Sat B w' I As:=by
 refine calls Tryz.func8 rfl Tryz.ntmps8 rfl (.seq (.q 1 rfl (.seq (.region (.call Tryz.func51 rfl X0 rfl (Xga B _ I _ hS) ?_)))));rintro _ w ⟨rfl,hS⟩;refine .call Qf11 rfl (ec9 rfl X0) rfl (X90 CFG 4607182418800017408 4611686018427387904 4621819117588971520 3 rfl rfl rfl rfl B _ I _ hS) ?_;rintro _ w ⟨qb,rfl,hS⟩;refine .q 1 rfl (.nil (.seq (.seq (.t 1 rfl (.val (.eqp (.of rfl) (.of rfl) Qu34) rfl (.nil (.condF (rfl) (.skip (.seq (.region (.call Qf46 rfl (ec9 rfl (ec9 rfl X0)) rfl (Xn7 B _ I _ hS) ?_)))))))))));rintro _ w ⟨rfl,hS⟩;refine .q 1 rfl (.nil (.seq (.t 2 rfl (.val (.build (cs:=[_,_,_,_]) (pc9 rfl (pc9 rfl (pc9 rfl X4))) X54 rfl) rfl (.buildSlice (cs:=[_,_,_,_]) hS (pc9 rfl X4) X6o X4n Xfd rfl rfl rfl rfl ?_)))));intro b23 w hS;replace hS:=((hS.pick 1 rfl).pick 1 rfl)
 obtain ⟨J0,hJ0,hj23,hS⟩:=hS.freeze (k:=0) rfl;have hRl:RS J0 (some (ad b23 0)) 4 [EX0].length (X9 X7 [EX0]):=⟨rfl,fun _=>⟨_,rfl,Xct hj23⟩⟩
 refine .call Tryz.func13 rfl (ec9 rfl (ec9 rfl X0)) rfl (Xle qb _ _ _ _ none 0 [] (by decide) B _ J0 (RS.nil _ 4) (Yo _) (some (ad b23 0)) 1 [EX0] (by decide) (fun n hn=>by rw [Y3r.1 hn]; exact (by decide +kernel:EX0.ticket.length≤60∧EX0.url.length≤120)) hRl (hK.mono hJ0) (hP.mono hJ0) _ hS) ?_;rintro _ w ⟨J1,a1,c1,rfl,hJ1,hR1,hc1,hS⟩;rw [ex_put] at hS hR1 hc1 ⊢;dsimp only at hS hR1 hc1
 refine .q 1 rfl (.nil (.seq (.t 2 rfl (.call Qf15 rfl (ec9 rfl (ec9 rfl (ec9 rfl (ec9 rfl X0)))) rfl (X8v qb _ _ _ _ a1 c1 [EX0] (by decide) B _ J1 hR1 hc1 (X3z ex_right.1) 3 Xmp NM false 5 (by decide) (by decide) _ hS) ?_))));rintro _ w ⟨J2,a2,c2,rfl,hJ2,hR2,hc2,hS⟩;replace hS:=hS;rw [show (⟨4607182418800017408,4611686018427387904,4621819117588971520,3⟩:Qc)=QC0 from rfl,Xrf] at hS hR2 hc2 ⊢;dsimp only at hS hR2 hc2
 refine .q 1 rfl (.nil (.seq (.t 1 rfl (.call Qf17 rfl (ec9 rfl (ec9 rfl X0)) rfl (X75 qb _ _ _ _ a2 c2 [EX1] (by decide) B _ J2 hR2 hc2 (X3z ex_right.2.1) 6 (by decide) (by decide) _ hS) ?_))));rintro _ w ⟨rfl,hS⟩;rw [Xom];refine .q 3 rfl (.allocA (cs:=[_,_,_,_]) hS Xfd rfl ?_);intro b5 w hS;refine .so hS (k:=0) rfl rfl rfl rfl X4n rfl (by simp) ?_;intro w hS;try simp only [Yk,Yf,Y9,Y7,Yh,Ym,Yd] at hS
 refine .q 1 rfl (.nil (.seq (.t 2 rfl (.call Qf15 rfl (ec9 rfl (ec9 rfl (ec9 rfl (ec9 rfl X0)))) rfl (X8v qb _ _ _ _ a2 c2 [EX1] (by decide) B _ J2 hR2 hc2 (X3z ex_right.2.1) 3 Xmp NM false 6 (by decide) (by decide) _ (hS.pick 1 rfl)) ?_))));rintro _ w ⟨J3,a3,c3,rfl,hJ3,hR3,hc3,hS⟩;replace hS:=hS;rw [show (⟨4607182418800017408,4611686018427387904,4621819117588971520,3⟩:Qc)=QC0 from rfl,Xr9] at hS hR3 hc3 ⊢;dsimp only at hS hR3 hc3
 refine .q 1 rfl (.nil (.seq (.t 1 rfl (.call Qf17 rfl (ec9 rfl (ec9 rfl X0)) rfl (X75 qb _ _ _ _ a3 c3 [EX2] (by decide) B _ J3 hR3 hc3 (X3z ex_right.2.2) 7 (by decide) (by decide) _ hS) ?_))));rintro _ w ⟨rfl,hS⟩;rw [Xmg];refine .q 3 rfl (.allocA (cs:=[_,_,_,_]) hS Xfd rfl ?_);intro b8 w hS;refine .so hS (k:=0) rfl rfl rfl rfl X4n rfl (by simp) ?_;intro w hS;try simp only [Yk,Yf,Y9,Y7,Yh,Ym,Yd] at hS
 refine .q 1 rfl (.nil (.seq (.t 1 rfl (.call Qf17 rfl (ec9 rfl (ec9 rfl X0)) rfl (X75 qb _ _ _ _ a3 c3 [EX2] (by decide) B _ J3 hR3 hc3 (X3z ex_right.2.2) 8 (by decide) (by decide) _ (hS.pick 1 rfl)) ?_))));rintro _ w ⟨rfl,hS⟩;rw [Xn0];refine .q 3 rfl (.allocA (cs:=[_,_,_,_]) hS Xfd rfl ?_);intro b10 w hS;refine .so hS (k:=0) rfl rfl rfl rfl X4n rfl (by simp) ?_;intro w hS;try simp only [Yk,Yf,Y9,Y7,Yh,Ym,Yd] at hS
 refine .q 1 rfl (.nil (.seq (.t 2 rfl (.call Qf15 rfl (ec9 rfl (ec9 rfl (ec9 rfl (ec9 rfl X0)))) rfl (X8v qb _ _ _ _ a3 c3 [EX2] (by decide) B _ J3 hR3 hc3 (X3z ex_right.2.2) 3 Xmp NM false 8 (by decide) (by decide) _ (hS.pick 1 rfl)) ?_))));rintro _ w ⟨J4,a4,c4,rfl,hJ4,hR4,hc4,hS⟩;replace hS:=hS;rw [show (⟨4607182418800017408,4611686018427387904,4621819117588971520,3⟩:Qc)=QC0 from rfl,Xt0] at hS hR4 hc4 ⊢;dsimp only at hS hR4 hc4
 refine .q 1 rfl (.nil (.seq (.region ?_)));refine .val (.ldsW (cs:=[_,_,_,_]) (.of rfl) hS (k:=3) rfl Xl7 X4n rfl) rfl (.call Tryz.func28 rfl (ec9 rfl X0) rfl (Xdv EX1 ex_right.2.1 B _ J4 (hK.mono (hJ0.trans (hJ1.trans (hJ2.trans (hJ3.trans hJ4))))) _ hS) ?_);rintro _ w ⟨rfl,hS⟩;refine .call Tryz.func25 rfl (ec9 rfl X0) rfl (Xt3 (MSG NM 6) (by decide +kernel) B _ J4 (hK.mono (hJ0.trans (hJ1.trans (hJ2.trans (hJ3.trans hJ4))))) (hP.mono (hJ0.trans (hJ1.trans (hJ2.trans (hJ3.trans hJ4))))) _ hS) ?_;rintro _ w ⟨rfl,hS⟩;rw [Xul];refine .q 5 rfl (.nil (.seq (.t 3 rfl (.gm rfl rfl rfl rfl (.gval rfl rfl (fun hg1=>(.eql (.gd hg1 rfl) (.of rfl))) rfl (.val (.pa rfl rfl rfl) rfl (.q 1 rfl (.gm rfl rfl rfl rfl (.gval rfl rfl (fun hg1=>(.eql (.gd hg1 rfl) (.of rfl))) rfl (.val (.pa rfl rfl rfl) rfl (.q 1 rfl (.gm rfl rfl rfl rfl (.gval rfl rfl (fun hg1=>(.eql (.gd hg1 rfl) (.of rfl))) rfl (.val (.pa rfl rfl rfl) rfl (.q 1 rfl (.gm rfl rfl rfl rfl (.val (.pa rfl rfl rfl) rfl (.q 1 rfl ?_))))))))))))))))));refine .gval rfl rfl (fun hg1=>(by exact .fo 3 rfl X7h rfl rfl Qs3 rfl)) rfl ?_;refine .gval rfl rfl (fun hg1=>(by exact (.ld (.gd hg1 rfl) hS (k:=3) rfl Qg3 rfl))) rfl ?_;refine .gval rfl rfl (fun hg1=>(.eql (.gd hg1 rfl) (.of rfl))) rfl (.val (.pa rfl rfl rfl) rfl (.q 1 rfl ?_));refine .gval rfl rfl (fun hg1=>(by exact .fo 2 rfl X7h rfl rfl Qs3 rfl)) rfl ?_;refine .gval rfl rfl (fun hg1=>(by exact (.ld (.gd hg1 rfl) hS (k:=3) rfl Qg3 rfl))) rfl ?_;refine .gval rfl rfl (fun hg1=>(.eql (.gd hg1 rfl) (.of rfl))) rfl (.val (.pa rfl rfl rfl) rfl (.q 1 rfl (.gm rfl rfl rfl rfl (.gval rfl rfl (fun hg1=>(.not (.gd hg1 rfl))) rfl (.val (.pa rfl rfl rfl) rfl (.q 1 rfl (.gm rfl rfl rfl rfl (.val (.pa rfl rfl rfl) rfl (.q 1 rfl ?_)))))))));refine .gval rfl rfl (fun hg1=>(by exact .fo 3 rfl X7h rfl rfl Qs3 rfl)) rfl ?_;refine .gval rfl rfl (fun hg1=>(by exact (.ld (.gd hg1 rfl) hS (k:=1) rfl Qg3 rfl))) rfl ?_;refine .gval rfl rfl (fun hg1=>(.eql (.gd hg1 rfl) (.of rfl))) rfl (.val (.pa rfl rfl rfl) rfl (.q 1 rfl (.opn rfl rfl rfl (.vm rfl rfl (.opn rfl rfl rfl (.call Tryz.func20 rfl (ec9 rfl X0) rfl (Xfa qb _ _ _ _ a4 c4 [] (by decide) B _ J4 hR4 hc4 _ hS) ?_))))));rintro _ w ⟨J5,a5,c5,rfl,hJ5,_,_,hS⟩;refine .opn rfl rfl rfl (.val (.lenSlice (.of rfl) X6o) rfl (.opn rfl rfl rfl (.val (.eql (.of rfl) (.of rfl)) rfl (.val (.pa rfl rfl rfl) rfl (.q 1 rfl (.gm rfl rfl rfl rfl (.gm rfl rfl rfl rfl (.gval rfl rfl (fun hg1=>(.eqs (.gd hg1 rfl) (.gd hg1 rfl))) rfl (.val (.pa rfl rfl rfl) rfl (.q 1 rfl (.gm rfl rfl rfl rfl (.val (.pa rfl rfl rfl) rfl (.q 1 rfl (.nil (.ret (X8 Tryz.results8 rfl ?_))))))))))))))));refine ⟨_,rfl,?_,X5b ((hJ0.trans (hJ1.trans (hJ2.trans (hJ3.trans hJ4)))).trans hJ5) ((((hS.drop (k:=0) rfl).drop (k:=0) rfl).drop (k:=0) rfl).drop (k:=0) rfl)⟩;exact congrArg Value.bool (by decide +kernel)
end Go.Proofs.YtbciobiiejpdgaaGreatDoor
namespace Go.Proofs.YtbciobiiejpdgaaGreatDoor
open Gk Ul Pc Tk Tr
structure Xp where
 xb:Nat
 tb:Nat
 c:Cf
 a:Option Addr
 cap:Nat
 ua:Option Addr
 ucap:Nat
 D:List Int
structure XpOk (I:Im) (x:Xp) (lo:List Sv) (us:List Us) (ps:Nat→Int):Prop where
 cf:CfAt I x.c x.a x.cap x.ua x.ucap
 fits:x.c.fits
 ok:Xff x.c=0
 D:Srt.Ord (kx (ords x.c.svs)) x.c.svs.length x.D
 lo:lo=X4r x.c.svs x.D
 us:us=x.c.us
 ps:ps=x.c.ps
theorem XpOk.mono {I J:Im} {x:Xp} {lo:List Sv} {us:List Us} {ps:Nat→Int} (h:XpOk I x lo us ps) (hl:Le I J):XpOk J x lo us ps:=⟨h.cf.mono hl,h.fits,h.ok,h.D,h.lo,h.us,h.ps⟩
def RwM (J:Im) (la da:Option Addr) (dc:Nat) (ω:Wd):Prop:=RS J la 10 ω.l.length (X9 Xf ω.l)∧RS J da 1 ω.D.length (ω.D.map fun d=>U64 (d:Nat))∧ω.D.length≤dc
theorem RwM.mono {I J:Im} {la da:Option Addr} {dc:Nat} {ω:Wd} (h:RwM I la da dc ω) (hl:Le I J):RwM J la da dc ω:=⟨h.1.mono hl,h.2.1.mono hl,h.2.2⟩
theorem Xra {c:Cf} (h:Xff c=0):(X59 c.svs).1=0:=by
 unfold Xff at h;split at h
 ·exact h
 ·rename_i h1; exact Decidable.not_not.1 h1
theorem Xqe {I:Im} {a:Option Addr} {l:List Sv} (h:SvsAt I a l):∃ L,SvsIn I a L l:=by
 have key:∀ i:Nat,∃ c,∀ s,l[i]?=some s→∃ p,a=some p∧At I (p.add (i*8)) c∧SvAt I s c:=fun i=>by
  cases e:l[i]? with
  | none=>exact ⟨[],fun s h=>by cases h⟩
  | some s =>
   obtain ⟨p,ra,rc,h1,h2,h3,h4⟩:=h i s e;exact ⟨X1x s ra rc,fun t ht=>by cases ht; exact ⟨p,h1,h2,ra,rc,rfl,h3,h4⟩⟩
 refine ⟨(List.range l.length).map fun i=>Classical.choose (key i),by simp,fun i s hs=>?_⟩;have hi:=(Y4.1 hs).1;obtain ⟨p,h1,h2,h3⟩:=Classical.choose_spec (key i) s hs;refine ⟨p,_,h1,?_,h2,h3⟩;rw [Yt,Y56 hi]; rfl
theorem Xda (s:List UInt8) (hs:s.length≤1000000) (x:Xp) {lo:List Sv} {us:List Us} {ps:Nat→Int} (B w:World) (I:Im) (hX:XpOk I x lo us ps) (As:List X6) (hS:Sat B w I As) :
  Cz 48 [.slice x.a x.c.svs.length x.cap,S s] w fun v w'=>∃ ra rc,v=.tuple #[.agg (X1x (X24 lo s).1 ra rc).toArray,S (X24 lo s).2.1,I64 (((X24 lo s).2.2:Nat):Int)]∧Sat B w' I As:=by
 obtain rfl:=hX.lo;obtain ⟨L,hL⟩:=Xqe hX.cf.svs;refine (Xh9 x.a x.cap L x.c.svs hX.fits.svs hX.fits.ords (Xqo (Xra hX.ok)) s hs B w I hL As hS).mono fun e w' ⟨v,he,J,u,cs,n,e2,hJ,hv,⟨ra,rc,hcs,_,_⟩,hf,hS⟩=>⟨v,he,ra,rc,?_,hS.weaken hJ⟩
 have h:=hf x.D hX.D;rw [Xus] at h;rw [hv,h,hcs]
end Go.Proofs.YtbciobiiejpdgaaGreatDoor
namespace Go.Proofs.YtbciobiiejpdgaaGreatDoor
open Gk Ul Pc Pat Xm Tr Tk
set_option maxRecDepth 4000
theorem Xa8 {l:List Rec} (hw:Wf l) (name:List UInt8):(getD l name).service.length≤100:=by
 rcases X74 hw name with ⟨_,e⟩ | ⟨_,h2,_⟩
 ·rw [e]; decide
 ·unfold X1f at h2;simp only [Yn,decide_eq_true_eq] at h2
  omega
def X4m (lo:List Sv) (ω:Wd) (n:List UInt8):Bool:=(((getD ω.l n).kind == 2 || (getD ω.l n).kind == 3) && decide (0<(getD ω.l n).uses)) && ((X24 lo (getD ω.l n).service).2.2 == 0 && (X24 lo (getD ω.l n).service).1.back)
def Xbv (ω:Wd) (n:List UInt8):Nt:=⟨n,(getD ω.l n).service,0,ω.now⟩
def X4j (lo:List Sv) (ω:Wd) (ns:List (List UInt8)):List Nt:=(ns.filter (X4m lo ω)).map (Xbv ω)
def X2a (lo:List Sv) (ω:Wd) (tgt:List UInt8):List Nt:=X4j lo ω (below ω.l tgt)
theorem Xfw {lo:List Sv} {ω:Wd} {ns:List (List UInt8)} {k:Nat} {x:List UInt8} (h:ns[k]?=some x):X4j lo ω (ns.take (k+1))=X4j lo ω (ns.take k) ++ (if X4m lo ω x=true then [Xbv ω x] else []):=by
 unfold X4j;rw [Y12,h,Y1n,Y3s,Yu,Y4x];split <;> simp
theorem Xdt (lo:List Sv) (ω:Wd) (ns:List (List UInt8)):(X4j lo ω ns).length≤ns.length:=by unfold X4j; rw [Y10]; exact Y4t _ _
theorem Xnb {lo:List Sv} {ω:Wd} {n:List UInt8} (h:(((getD ω.l n).kind != 2 && (getD ω.l n).kind != 3) || (getD ω.l n).uses == 0)=true):X4m lo ω n=false:=by
 refine Y40.2 fun hn=>?_
 unfold X4m at hn;simp only [Yn,Y1i,beq_iff_eq,bne_iff_ne,ne_eq,decide_eq_true_eq] at hn h
 omega
theorem Xil {lo:List Sv} {ω:Wd} {n:List UInt8} (hw:Wf ω.l) (h:(((getD ω.l n).kind != 2 && (getD ω.l n).kind != 3) || (getD ω.l n).uses == 0)=false):X4m lo ω n=((((X24 lo (getD ω.l n).service).2.2:Nat):Int) == 0 && (X24 lo (getD ω.l n).service).1.back):=by
 have hu:=(Xl2 hw n).2.2.1;simp only [Yz,Y3a,bne_eq_false_iff_eq,beq_eq_false_iff_ne,ne_eq] at h
 unfold X4m;rw [show ((getD ω.l n).kind == 2 || (getD ω.l n).kind == 3)=true by simp only [Y1i,beq_iff_eq]; omega,decide_eq_true (by omega),Y2i,Y2i]
 congr 1
 rw [Y3y,beq_iff_eq,beq_iff_eq]; omega
theorem Xlh {lo:List Sv} {ω:Wd} {n:List UInt8}:((((((getD ω.l n).kind == 2 || (getD ω.l n).kind == 3) && decide (0<(getD ω.l n).uses)) && (((X24 lo (getD ω.l n).service).2.2:Nat):Int) == 0)) && (X24 lo (getD ω.l n).service).1.back)=X4m lo ω n:=by
 unfold X4m;rw [Bool.and_assoc]
 congr 2
 rw [Y3y,beq_iff_eq,beq_iff_eq]; omega
def Xao (lo:List Sv) (ω:Wd) (t:List UInt8):List Nt:=if (getD ω.l t).kind=1 then X2a lo ω t else []
def endG (ω:Wd) (t:List UInt8):List (List UInt8):=if (getD ω.l t).kind=1 then below ω.l t else []
def Xd8 (ω:Wd) (t:List UInt8):Wd:=if (getD ω.l t).kind=1 then Xqt ω t else ω
theorem Xmf (tgt:List UInt8) (p:Wp) (ω:Wd) (hω:Xe3 ω) (B w:World) (I:Im) (hI:WpOk I p) (As:List X6) (hS:Sat B w I (wdA p ω::As)) :
  Cz 39 [ptr p.wb 0,S tgt] w fun v w'=>∃ J na nc,Le I J∧v=.slice na (X2a p.lo ω tgt).length nc∧(X2a p.lo ω tgt).length≤nc∧RS J na 4 (X2a p.lo ω tgt).length (X9 X7 (X2a p.lo ω tgt))∧Sat B w' J (wdA p ω::As):=by
 refine calls Tryz.func39 rfl Tryz.ntmps39 rfl (.seq (.q 1 rfl (.seq (.q 1 rfl (.seq (.seq ?_))))));obtain ⟨⟨a,c,ma,mc⟩,hS⟩:=Sat.unbox hS;replace hS:Sat B _ _ (blk p.wb (wdC p ω) 81::blk p.tb [I64 ω.room,.slice a ω.l.length c] 155::Vec 75 10 (.slice a ω.l.length c) ω.l.length (Xq ω.l)::blk p.mb [.slice ma ω.D.length mc] 203::Xl6 62 (.slice ma ω.D.length mc) (ω.D.map fun d=>U64 (d:Nat))::_):=hS;have hlen:=hω.len;have hbl:=Xc7 hω.wf tgt;refine .t 2 rfl (.val (.fo 0 rfl Xmr rfl rfl Xtm rfl) rfl (.val (.lo rfl hS (k:=0) rfl Xpo rfl) rfl (.q 1 rfl (.call Qf49 rfl (ec9 rfl (ec9 rfl X0)) rfl (X9k p.tb ω.room a c ω.l (by omega) hω.wf tgt B _ I _ ((hS.pick 2 rfl).pick 2 rfl)) ?_))));rintro _ w ⟨J,ra,rc,rfl,hJ,hrc,hRB,hS⟩;try dsimp only [List.eraseIdx] at hS
 refine .run 2 rfl ⟨⟨_,X1s⟩,trivial⟩ (.nil (.block ?_));replace hS:=(((((hS.pick 4 rfl).pick 4 rfl).pick 3 rfl).pick 3 rfl).pick 4 rfl).vecNil 45 4;refine .loop (σ:=Nat×Value) (fun ⟨k,v⟩=>[(0,ptr p.wb 0),(5,v),(18,.slice ra (below ω.l tgt).length rc),(19,I64 ((below ω.l tgt).length:Nat)),(20,I64 (k:Nat))]) (fun ⟨k,v⟩ w=>k≤(below ω.l tgt).length∧Sat B w J (Vec 45 4 v (X4j p.lo ω ((below ω.l tgt).take k)).length (X9 X7 (X4j p.lo ω ((below ω.l tgt).take k)))::blk p.wb (wdC p ω) 81::blk p.tb [I64 ω.room,.slice a ω.l.length c] 155::Vec 75 10 (.slice a ω.l.length c) ω.l.length (Xq ω.l)::blk p.mb [.slice ma ω.D.length mc] 203::Xl6 62 (.slice ma ω.D.length mc) (ω.D.map fun d=>U64 (d:Nat))::As)) (fun ⟨k,v⟩=>(below ω.l tgt).length - k) (0,.slice none 0 0) ⟨rfl,rfl,rfl,rfl,rfl,trivial⟩ ⟨Yq _,hS⟩ ?_;rintro ⟨k,v⟩ w ⟨hk,hS⟩;change WC _ _ _ _ [(0,ptr p.wb 0),(5,v),(18,.slice ra (below ω.l tgt).length rc),(19,I64 ((below ω.l tgt).length:Nat)),(20,I64 (k:Nat))] w;refine .seq (.q 1 rfl (.seq ?_));refine .cond rfl (fun hb21=>?_) fun hb21=>?_
 ·have hc21:=hb21; simp only [Y6] at hc21;refine .skip (.seq (.block (.seq ?_)));obtain ⟨x,hx0⟩:∃ x,(below ω.l tgt)[k]?=some x:=⟨_,Y5 (by omega)⟩
  obtain ⟨q,hq9,hx⟩:=Xdz (cells:=X9h) (s:=1) (fun _=>rfl) (by rw [Xuq]; exact hRB:RS J ra 1 (below ω.l tgt).length (X9 X9h (below ω.l tgt))) hx0;subst hq9;have hstep:=Xfw (lo:=p.lo) (ω:=ω) hx0;have hsv:=Xa8 hω.wf x;have hnl:=Xdt p.lo ω ((below ω.l tgt).take k);have htk:((below ω.l tgt).take k).length≤k:=by rw [Yp]; omega
  refine .region (.val (.ii rfl rfl (by omega) (by omega) X1s Qs9) rfl (.val (.ldI (.of rfl) hS hx Qg9 rfl) rfl (.q 1 rfl (.nil (.seq (.t 2 rfl ?_))))));refine .val (.fo 0 rfl Xmr rfl rfl Xtm rfl) rfl (.val (.lo rfl hS (k:=1) rfl Xpo rfl) rfl (.q 1 rfl (.call Tryz.func85 rfl (ec9 rfl (ec9 rfl X0)) rfl (Xo5 p.tb ω.room a c ω.l (by omega) x B _ J _ ((hS.pick 3 rfl).pick 3 rfl)) ?_)));rintro _ w ⟨rfl,hS⟩;try dsimp only [List.eraseIdx] at hS
  refine .q 3 rfl (.allocA (cs:=[_,_,_,_,_,_,_,_,_,_]) hS Xpn rfl ?_);intro b8 w hS;refine .so hS (k:=0) rfl rfl rfl rfl X4z rfl (by simp) ?_;intro w hS; try dsimp only [List.set] at hS
  try simp only [Yk,Yf,Y9,Y7,Yh,Ym,Yd] at hS
  refine .q 1 rfl (.nil (.seq (.seq (.region ?_))));refine .val (.fo 0 rfl X3r rfl rfl Qs3 rfl) rfl (.val (.lo rfl hS (k:=0) rfl Qg3 rfl) rfl (.q 2 rfl (.gval rfl rfl (fun hg1=>(by exact .fo 0 rfl X3r rfl rfl Qs3 rfl)) rfl ?_)));refine .gval rfl rfl (fun hg1=>(by exact (.ld (.gd hg1 rfl) hS (k:=0) rfl Qg3 rfl))) rfl ?_;refine .gval rfl rfl (fun hg1=>(.neq (.gd hg1 rfl) (.of rfl))) rfl (.val (.pa rfl rfl rfl) rfl (.q 1 rfl ?_));refine .gval rfl rfl (fun hg1=>(by exact .fo 8 rfl X3r rfl rfl Qs3 rfl)) rfl ?_;refine .gval rfl rfl (fun hg1=>(by exact (.ld (.gd hg1 rfl) hS (k:=0) rfl Qg3 rfl))) rfl ?_;refine .gval rfl rfl (fun hg1=>(.eql (.gd hg1 rfl) (.of rfl))) rfl (.val (.po rfl rfl rfl) rfl (.nil ?_));refine .cond rfl (fun hb45=>?_) fun hb45=>?_
  ·have hc45:=hb45; simp only [Y6] at hc45;refine .exit (.region (.run 2 rfl ⟨⟨by omega,by omega⟩,trivial⟩ (.nil ?_)));have hnb:X4m p.lo ω x=false:=Xnb hb45;rw [hnb] at hstep;refine ⟨(k+1,_),⟨rfl,rfl,rfl,rfl,rfl,trivial⟩,⟨by (try dsimp only); omega,?_⟩,by (try dsimp only); omega⟩;rw [hstep];rw [if_neg (by decide),Y9];exact (((((((hS.pick 6 rfl).pick 6 rfl).pick 4 rfl).pick 4 rfl).pick 6 rfl).pick 6 rfl).drop (k:=6) rfl)
  have hc45:=hb45; simp only [Y6] at hc45;refine .skip (.cutS (σ:=Nat×Option Addr×Nat) (fun ⟨b10,fa,fc⟩=>[(0,ptr p.wb 0),(5,v),(7,S x),(8,ptr b8 0),(10,ptr b10 0),(12,I64 (((X24 p.lo (getD ω.l x).service).2.2:Nat):Int)),(18,.slice (some q) (below ω.l tgt).length rc),(19,I64 ((below ω.l tgt).length:Nat)),(20,I64 (k:Nat))]) (fun ⟨b10,fa,fc⟩ w=>Sat B w J (blk b10 (X1x (X24 p.lo (getD ω.l x).service).1 fa fc) 105::blk b8 (Xf (getD ω.l x)) 75::Vec 45 4 v (X4j p.lo ω ((below ω.l tgt).take k)).length (X9 X7 (X4j p.lo ω ((below ω.l tgt).take k)))::blk p.wb (wdC p ω) 81::blk p.tb [I64 ω.room,.slice a ω.l.length c] 155::Vec 75 10 (.slice a ω.l.length c) ω.l.length (Xq ω.l)::blk p.mb [.slice ma ω.D.length mc] 203::Xl6 62 (.slice ma ω.D.length mc) (ω.D.map fun d=>U64 (d:Nat))::As)) ?_ ?_)
  ·refine .drawn (fun w=>∃ R,Sat B w J (blk b8 (Xf (getD ω.l x)) 75::blk p.wb (wdC p ω) 81::R)) (fun j=>!([].contains j)) (by kernel_rfl) ?_;replace hS:=hS.drew; generalize w.drew=w at hS ⊢;have hH:=((hS.pick 4 rfl).pick 1 rfl)
   refine .tp (i:=0) rfl (by kernel_rfl) (fun w=>(.mo rfl)) rfl (.tp (i:=1) rfl (by kernel_rfl) (fun w=>(.no rfl)) rfl ?_);refine .tp (i:=2) rfl (by kernel_rfl) (fun w=>(.fo 2 rfl Xmr rfl rfl Tryz.sizeOf78 rfl)) rfl (.tk (i:=3) rfl (by kernel_rfl) ⟨_,hH⟩ (fun w ⟨R,hS⟩=>((.lo rfl hS (k:=1) rfl Tryz.isAgg78 rfl))) rfl (.tp (i:=4) rfl (by kernel_rfl) (fun w=>(.fo 4 rfl X3r rfl rfl Qs9 rfl)) rfl (.tk (i:=5) rfl (by kernel_rfl) ⟨_,hH⟩ (fun w ⟨R,hS⟩=>((.lo rfl hS (k:=0) rfl Qg9 rfl))) rfl (.branch [6,11] (by kernel_rfl) rfl (WO.cons rfl ?_ (WO.cons rfl ?_ (WO.nil)))))))
   ·refine .call Tryz.func86 rfl (ec9 rfl (ec9 rfl X0)) rfl (Xht (getD ω.l x).service (by omega) p B _ J (hI.mono hJ) _ hS) ?_;rintro _ w ⟨fa,fc,rfl,hS⟩;refine .nil ?_;clear hH;have hH:=((hS.pick 4 rfl).pick 1 rfl)
    refine ⟨fun _ _=>⟨_,hH⟩,?_⟩;refine .tp (i:=7) rfl (by kernel_rfl) (fun w=>(.mo rfl)) rfl (.tp (i:=8) rfl (by kernel_rfl) (fun w=>(.extract (.of rfl) rfl)) rfl (.tp (i:=9) rfl (by kernel_rfl) (fun w=>(.extract (.of rfl) rfl)) rfl (.tp (i:=10) rfl (by kernel_rfl) (fun w=>(.extract (.of rfl) rfl)) rfl ?_)));refine .b1 11 (by kernel_rfl) rfl (.allocA (cs:=[_,_,_,_,_,_,_,_]) hS Xcc rfl ?_);intro b10 w hS;refine .nil ?_;clear hH;have hH:=((hS.pick 5 rfl).pick 2 rfl)
    refine ⟨fun _ _=>⟨_,hH⟩,?_⟩;refine .b1 12 (by kernel_rfl) rfl (.so hS (k:=0) rfl rfl rfl rfl X18 rfl (by simp) ?_);intro w hS;try simp only [Yk,Yf,Y9,Y7,Yh,Ym,Yd] at hS
    refine .nil ?_;clear hH;have hH:=((hS.pick 5 rfl).pick 2 rfl)
    refine ⟨fun _ _=>⟨_,hH⟩,?_⟩;refine .tp (i:=13) rfl (by kernel_rfl) (fun w=>(.ao rfl)) rfl (.tp (i:=14) rfl (by kernel_rfl) (fun w=>(.ao rfl)) rfl (.done (by kernel_rfl) ?_));exact ⟨(b10,fa,fc),⟨rfl,rfl,rfl,rfl,rfl,rfl,rfl,rfl,rfl,trivial⟩,((((((((hS.pick 7 rfl).pick 7 rfl).pick 5 rfl).pick 5 rfl).pick 7 rfl).pick 7 rfl).pick 7 rfl).pick 7 rfl)⟩
   ·refine .allocA (cs:=[_,_,_,_,_,_,_,_]) hS Xcc rfl ?_;intro b10 w hS;refine .nil ?_;clear hH;have hH:=((hS.pick 5 rfl).pick 2 rfl)
    refine ⟨fun _ _=>⟨_,hH⟩,?_⟩;refine .b1 6 (by kernel_rfl) rfl (.call Tryz.func86 rfl (ec9 rfl (ec9 rfl X0)) rfl (Xht (getD ω.l x).service (by omega) p B _ J (hI.mono hJ) _ hS) ?_);rintro _ w ⟨fa,fc,rfl,hS⟩;refine .nil ?_;clear hH;have hH:=((hS.pick 5 rfl).pick 2 rfl)
    refine ⟨fun _ _=>⟨_,hH⟩,?_⟩;refine .tp (i:=7) rfl (by kernel_rfl) (fun w=>(.mo rfl)) rfl (.tp (i:=8) rfl (by kernel_rfl) (fun w=>(.extract (.of rfl) rfl)) rfl (.tp (i:=9) rfl (by kernel_rfl) (fun w=>(.extract (.of rfl) rfl)) rfl (.tp (i:=10) rfl (by kernel_rfl) (fun w=>(.extract (.of rfl) rfl)) rfl ?_)));refine .b1 12 (by kernel_rfl) rfl (.so hS (k:=0) rfl rfl rfl rfl X18 rfl (by simp) ?_);intro w hS;try simp only [Yk,Yf,Y9,Y7,Yh,Ym,Yd] at hS
    refine .nil ?_;clear hH;have hH:=((hS.pick 5 rfl).pick 2 rfl)
    refine ⟨fun _ _=>⟨_,hH⟩,?_⟩;refine .tp (i:=13) rfl (by kernel_rfl) (fun w=>(.ao rfl)) rfl (.tp (i:=14) rfl (by kernel_rfl) (fun w=>(.ao rfl)) rfl (.done (by kernel_rfl) ?_));exact ⟨(b10,fa,fc),⟨rfl,rfl,rfl,rfl,rfl,rfl,rfl,rfl,rfl,trivial⟩,((((((((hS.pick 7 rfl).pick 7 rfl).pick 5 rfl).pick 5 rfl).pick 7 rfl).pick 7 rfl).pick 7 rfl).pick 7 rfl)⟩
  rintro ⟨b10,fa,fc⟩ w hS;change WC _ _ _ _ [(0,ptr p.wb 0),(5,v),(7,S x),(8,ptr b8 0),(10,ptr b10 0),(12,I64 (((X24 p.lo (getD ω.l x).service).2.2:Nat):Int)),(18,.slice (some q) (below ω.l tgt).length rc),(19,I64 ((below ω.l tgt).length:Nat)),(20,I64 (k:Nat))] w;refine .seq (.t 3 rfl ?_);refine .gval rfl rfl (fun hg1=>(by exact .fo 5 rfl X3e rfl rfl Qs4 rfl)) rfl ?_;refine .gval rfl rfl (fun hg1=>(by exact (.ld (.gd hg1 rfl) hS (k:=0) rfl Qg4 rfl))) rfl ?_;refine .val (.pa rfl rfl rfl) rfl (.nil ?_);refine .cond rfl (fun hb62=>?_) fun hb62=>?_
  ·have hc62:=hb62; simp only [Y6] at hc62;refine .drawn (fun w=>∃ R,Sat B w J (blk b8 (Xf (getD ω.l x)) 75::blk p.wb (wdC p ω) 81::R)) (fun j=>!([].contains j)) (by kernel_rfl) ?_;replace hS:=hS.drew; generalize w.drew=w at hS ⊢;have hH:=((hS.pick 3 rfl).pick 2 rfl)
   refine .tp (i:=0) rfl (by kernel_rfl) (fun w=>(.mo rfl)) rfl (.tp (i:=1) rfl (by kernel_rfl) (fun w=>(.mo rfl)) rfl ?_);refine .tp (i:=2) rfl (by kernel_rfl) (fun w=>(.fo 4 rfl X3r rfl rfl Qs9 rfl)) rfl (.tk (i:=3) rfl (by kernel_rfl) ⟨_,hH⟩ (fun w ⟨R,hS⟩=>((.lo rfl hS (k:=0) rfl Qg9 rfl))) rfl (.tp (i:=4) rfl (by kernel_rfl) (fun w=>(.mo rfl)) rfl (.tp (i:=5) rfl (by kernel_rfl) (fun w=>(.no rfl)) rfl ?_)));refine .tp (i:=6) rfl (by kernel_rfl) (fun w=>(.fo 25 rfl Xmr rfl rfl Qs3 rfl)) rfl (.tk (i:=7) rfl (by kernel_rfl) ⟨_,hH⟩ (fun w ⟨R,hS⟩=>((.lo rfl hS (k:=1) rfl Qg3 rfl))) rfl (.tp (i:=8) rfl (by kernel_rfl) (fun w=>(.build (cs:=[_,_,_,_]) (pc9 rfl (pc9 rfl (pc9 rfl X4))) X54 rfl)) rfl (.b1 9 (by kernel_rfl) rfl (.buildSlice (cs:=[_,_,_,_]) hS (pc9 rfl X4) X6o X4n Xfd rfl rfl rfl rfl ?_))));intro b72 w hS;refine .nil ?_;clear hH;have hH:=((hS.pick 4 rfl).pick 3 rfl)
   refine ⟨fun _ _=>⟨_,hH⟩,?_⟩;refine .b1 10 (by kernel_rfl) rfl (.append (size:=4) (bytes:=48) hS (.of rfl) (.of rfl) (k:=2) rfl X6o Xbn rfl rfl rfl rfl rfl rfl rfl ⟨by omega,by unfold maxLen; omega⟩ rfl ?_);intro v73 w hS; try dsimp only [List.set] at hS
   obtain ⟨a73,c73,rfl,hcap73,_⟩:=hS.vecSlice (k:=2) (v:=v73) rfl;refine .nil ?_;clear hH;have hH:=((hS.pick 3 rfl).pick 2 rfl)
   refine ⟨fun _ _=>⟨_,hH⟩,?_⟩;refine .tp (i:=11) rfl (by kernel_rfl) (fun w=>(.ao rfl)) rfl (.done (by kernel_rfl) (.region (.run 2 rfl ⟨⟨by omega,by omega⟩,trivial⟩ (.nil ?_))));have hnb:X4m p.lo ω x=true:=(Xil hω.wf hb45).trans hb62;rw [hnb] at hstep;refine ⟨(k+1,_),⟨rfl,rfl,rfl,rfl,rfl,trivial⟩,⟨by (try dsimp only); omega,?_⟩,by (try dsimp only); omega⟩;rw [hstep];rw [if_pos rfl,Y0,Xjo];exact ((((((((hS.pick 7 rfl).pick 7 rfl).pick 7 rfl).pick 7 rfl).pick 7 rfl).pick 7 rfl).drop (k:=6) rfl).drop (k:=6) rfl)
  have hc62:=hb62; simp only [Y6] at hc62;refine .skip (.region (.run 2 rfl ⟨⟨by omega,by omega⟩,trivial⟩ (.nil ?_)));have hnb:X4m p.lo ω x=false:=(Xil hω.wf hb45).trans hb62;rw [hnb] at hstep;refine ⟨(k+1,_),⟨rfl,rfl,rfl,rfl,rfl,trivial⟩,⟨by (try dsimp only); omega,?_⟩,by (try dsimp only); omega⟩;rw [hstep];rw [if_neg (by decide),Y9];exact ((((((((hS.pick 7 rfl).pick 7 rfl).pick 7 rfl).pick 7 rfl).pick 7 rfl).pick 7 rfl).drop (k:=6) rfl).drop (k:=6) rfl)
 have hc21:=hb21; simp only [Y6] at hc21;refine .exit (.seq (.q 2 rfl (.ret (X8 Tryz.results39 rfl ?_))));have hk9:k=(below ω.l tgt).length:=by omega
 subst hk9;rw [Y17] at hS;obtain ⟨na,nc,rfl,hnc,_⟩:=hS.vecSlice (k:=0) rfl;obtain ⟨J3,hJ3,hRN,hS⟩:=hS.freezeVec (k:=0) rfl;replace hS:=Sat.box (T:=wdT p _) (a,c,ma,mc) (((((hS.pick 4 rfl).pick 4 rfl).pick 4 rfl).pick 4 rfl).pick 4 rfl);exact ⟨_,rfl,J3,na,nc,hJ.trans hJ3,rfl,hnc,hRN,hS⟩
theorem Xuv (tgt:List UInt8) (p:Wp) (ω:Wd) (hω:Xe3 ω) (B w:World) (I:Im) (hI:WpOk I p) (As:List X6) (hS:Sat B w I (wdA p ω::As)) :
  Cz 41 [ptr p.wb 0,S tgt] w fun v w'=>∃ J na nc ga gc,Le I J∧v=.tuple #[.slice na (Xao p.lo ω tgt).length nc,.slice ga (endG ω tgt).length gc]∧(Xao p.lo ω tgt).length≤nc∧RS J na 4 (Xao p.lo ω tgt).length (X9 X7 (Xao p.lo ω tgt))∧(endG ω tgt).length≤gc∧RS J ga 1 (endG ω tgt).length ((endG ω tgt).map S)∧Sat B w' J (wdA p (Xd8 ω tgt)::As):=by
 refine calls Tryz.func41 rfl Tryz.ntmps41 rfl (.seq (.q 2 rfl (.seq (.seq ?_))));obtain ⟨⟨a,c,ma,mc⟩,hS⟩:=Sat.unbox hS;replace hS:Sat B _ _ (blk p.wb (wdC p ω) 81::blk p.tb [I64 ω.room,.slice a ω.l.length c] 155::Vec 75 10 (.slice a ω.l.length c) ω.l.length (Xq ω.l)::blk p.mb [.slice ma ω.D.length mc] 203::Xl6 62 (.slice ma ω.D.length mc) (ω.D.map fun d=>U64 (d:Nat))::_):=hS;have hlen:=hω.len;refine .t 2 rfl (.val (.fo 0 rfl Xmr rfl rfl Xtm rfl) rfl (.val (.lo rfl hS (k:=0) rfl Xpo rfl) rfl (.q 1 rfl (.call Tryz.func85 rfl (ec9 rfl (ec9 rfl X0)) rfl (Xo5 p.tb ω.room a c ω.l (by omega) tgt B _ I _ ((hS.pick 2 rfl).pick 2 rfl)) ?_))));rintro _ w ⟨rfl,hS⟩;refine .q 3 rfl (.allocA (cs:=[_,_,_,_,_,_,_,_,_,_]) hS Xpn rfl ?_);intro b6 w hS;refine .so hS (k:=0) rfl rfl rfl rfl X4z rfl (by simp) ?_;intro w hS;try simp only [Yk,Yf,Y9,Y7,Yh,Ym,Yd] at hS
 refine .q 1 rfl (.nil (.seq (.region ?_)));refine .val (.fo 0 rfl X3r rfl rfl Qs3 rfl) rfl (.val (.lo rfl hS (k:=0) rfl Qg3 rfl) rfl (.q 1 rfl (.nil ?_)));refine .cond rfl (fun hb20=>?_) fun hb20=>?_
 ·refine .seq (.q 2 rfl (.ret (X2z Tryz.results41 rfl rfl ?_)));have hk1:¬ (getD ω.l tgt).kind=1:=by simpa using hb20
  have e1:Xao p.lo ω tgt=[]:=if_neg hk1;have e2:endG ω tgt=[]:=if_neg hk1;have e3:Xd8 ω tgt=ω:=if_neg hk1;rw [e1,e2,e3];replace hS:=Sat.box (T:=wdT p _) (a,c,ma,mc) (((((hS.pick 5 rfl).pick 5 rfl).pick 4 rfl).pick 4 rfl).pick 5 rfl);exact ⟨_,rfl,I,none,0,none,0,Le.refl _,rfl,Yo _,RS.nil _ 4,Yo _,RS.nil _ 1,(hS.drop (k:=1) rfl)⟩
 refine .skip (.seq ?_);replace hS:=Sat.box (T:=wdT p _) (a,c,ma,mc) (((((hS.pick 5 rfl).pick 5 rfl).pick 4 rfl).pick 4 rfl).pick 5 rfl);refine .t 2 rfl (.call Tryz.func39 rfl (ec9 rfl (ec9 rfl X0)) rfl (Xmf tgt p ω hω B _ I hI _ hS) ?_);rintro _ w ⟨J,na,nc,hJ,rfl,hnc,hRN,hS⟩;refine .q 1 rfl (.nil (.seq ?_));obtain ⟨⟨a,c,ma,mc⟩,hS⟩:=Sat.unbox hS;replace hS:Sat B _ _ (blk p.wb (wdC p ω) 81::blk p.tb [I64 ω.room,.slice a ω.l.length c] 155::Vec 75 10 (.slice a ω.l.length c) ω.l.length (Xq ω.l)::blk p.mb [.slice ma ω.D.length mc] 203::Xl6 62 (.slice ma ω.D.length mc) (ω.D.map fun d=>U64 (d:Nat))::_):=hS;refine .t 3 rfl (.val (.fo 0 rfl Xmr rfl rfl Xtm rfl) rfl (.val (.lo rfl hS (k:=0) rfl Xpo rfl) rfl (.q 1 rfl (.call Tryz.func89 rfl (ec9 rfl (ec9 rfl X0)) rfl (Xrd p.tb ω.room a c ω.l (by omega) hω.wf tgt B _ J _ ((hS.pick 2 rfl).pick 2 rfl)) ?_))));rintro _ w ⟨J5,ga,gc,rfl,hJ5,hgc,hRG,a5,c5,hS⟩;refine .q 2 rfl (.nil (.ret (X2z Tryz.results41 rfl rfl ?_)));have hk1:(getD ω.l tgt).kind=1:=by simpa using hb20
 have e1:Xao p.lo ω tgt=X2a p.lo ω tgt:=if_pos hk1;have e2:endG ω tgt=(below ω.l tgt):=if_pos hk1;have e3:Xd8 ω tgt=Xqt ω tgt:=if_pos hk1;rw [e1,e2,e3];replace hS:=Sat.box (T:=wdT p (Xqt ω tgt)) (a5,c5,ma,mc) (((((hS.pick 4 rfl).pick 4 rfl).pick 3 rfl).pick 3 rfl).pick 4 rfl);exact ⟨_,rfl,J5,na,nc,ga,gc,hJ.trans hJ5,rfl,hnc,hRN.mono hJ5,hgc,hRG,(hS.drop (k:=1) rfl)⟩
end Go.Proofs.YtbciobiiejpdgaaGreatDoor
namespace Tr
open Tk
theorem Xp0 {s:List UInt8} {a b:Int} (h:isT s a=true) (k:isT s b=true):a=b:=by
 unfold isT at h k;cases hp:X1e s with
 | none=>rw [hp] at h; cases h
 | some x =>
  obtain ⟨c,d⟩:=x;rw [hp] at h k;simp only [beq_iff_eq] at h k
  omega
theorem X5n {r:Rec} (h:X1f r=true):isT r.name r.kind=true∧X3j r.kind r.parent=true:=by
 unfold X1f at h;simp only [Yn] at h
 exact ⟨h.1.2,h.2⟩
theorem Xfr {r:Rec} (h:X1f r=true) (h1:r.kind=1):r.parent=[]:=by
 have h2:=(X5n h).2;rw [h1] at h2;unfold X3j at h2;split at h2
 ·assumption
 ·cases hp:X1e r.parent with
  | none=>rw [hp] at h2; cases h2
  | some x =>
   obtain ⟨c,d⟩:=x;rw [hp] at h2
   have:=(X3o hp).1
   simp [X9o] at h2
   omega
theorem X7j {l:List Rec} {t:List UInt8} (h:0≤at0 l t):t∈below l t:=by
 have hl:=Xfq l t;unfold below;rw [if_pos h];cases hn:l.length with
 | zero=>omega
 | succ n=>rw [Xu]; simp
theorem Xdi {l:List Rec} (hw:Wf l) {t x:List UInt8} (ht:0≤at0 l t) (hne:∀ y,Und l t y→y≠[]) (h:Und l t x):x∈below l t:=by
 induction h with
 | self=>exact X7j ht
 | step hr h ih=>exact Xcf hw hr (hne _ h) ih
theorem Xtq {l:List Rec} (hw:Wf l) {t:List UInt8} (ht:0≤at0 l t):∀ y,Und l t y→y≠[]:=by
 intro y hy;cases hy with
 | self =>
  rcases X1o l t with ⟨h1,_⟩ | ⟨j,r,_,h2,h3,_⟩
  ·omega
  ·rw [← h3]; exact X2x (hw.right r (Yl h2))
 | step hr _=>exact X2x (hw.right _ (Yl hr))
theorem Xg4 {l:List Rec} (hw:Wf l) {i:Nat} {r:Rec} (hr:l[i]?=some r):path l r.name=r::Xdf l (at0 l r.parent):=by
 unfold path;rw [hw.at_ hr];exact Xcw hw hr
theorem Xr7 {l:List Rec} (hw:Wf l):at0 l []=-1:=by
 rcases X1o l [] with ⟨h1,_⟩ | ⟨j,r,_,h2,h3,_⟩
 ·exact h1
 ·exact absurd h3 (X2x (hw.right r (Yl h2)))
theorem X80 {l:List Rec} (hw:Wf l) {t:List UInt8} (ht:isT t 1=true):∀ (n i:Nat) (r:Rec),i<n→l[i]?=some r→∃ s,(path l r.name).getLast?=some s∧(s.name=t ↔ r.name∈below l t)
 | 0,_,_,h,_=>absurd h (by omega)
 | n+1,i,r,hn,hr=>by
  have hrr:=hw.right r (Yl hr);have hat:=hw.at_ hr;rw [Xg4 hw hr];have hnot:r.name∈below l t→0≤at0 l t:=fun h=>by
   unfold below at h;split at h
   ·assumption
   ·simp at h
  by_cases hp:r.parent=[]
  ·rw [hp,Xr7 hw,Xeb l (by omega)];refine ⟨r,rfl,fun e=>?_,fun h=>?_⟩
   ·rw [e]; exact X7j (by rw [← e,hat]; omega)
   ·have h0:=hnot h;unfold below at h;rw [if_pos h0] at h;have hu:=X3n _ _ _ h;generalize hx:r.name=x at hu;cases hu with
    | self=>rfl
    | step hs hq =>
     rename_i j s
     have e:=hw.one _ _ _ _ hr hs hx;subst e;rw [hr] at hs;cases hs
     rw [hp] at hq;exact absurd rfl (Xtq hw h0 _ hq)
  ·have hup:=hw.up i r hr;rcases hup.1 with e | h0
   ·exact absurd e hp
   rcases X1o l r.parent with ⟨h1,_⟩ | ⟨j,s,h1,h2,h3,_⟩
   ·omega
   obtain ⟨u,hu1,hu2⟩:=X80 hw ht n j s (by omega) h2;rw [h1,Xcw hw h2];rw [Xg4 hw h2] at hu1;refine ⟨u,by rw [List.getLast?_cons_cons]; exact hu1,hu2.trans ⟨fun h=>?_,fun h=>?_⟩⟩
   ·exact Xcf hw hr hp (by rw [← h3]; exact h)
   ·have h0:=hnot h;unfold below at h;rw [if_pos h0] at h;have hu:=X3n _ _ _ h;generalize hx:r.name=x at hu;cases hu with
    | self =>
     have hk:=(X5n hrr).1;rw [hx] at hk;exact absurd (Xfr hrr (Xp0 hk ht)) hp
    | step hs hq =>
     rename_i j' s'
     have e:=hw.one _ _ _ _ hr hs hx;subst e;rw [hr] at hs;cases hs
     rw [h3];exact Xdi hw h0 (Xtq hw h0) hq
theorem Xjr {l:List Rec} (t:List UInt8):below (drop l t) t=[]:=by
 unfold below;rw [if_neg];intro h;rcases X1o (drop l t) t with ⟨h1,_⟩ | ⟨j,r,_,h2,h3,_⟩
 ·omega
 ·have h4:=Y2t.1 (Yl h2);have h5:t∈below l t:=by
   rcases X1o l t with ⟨_,h6⟩ | ⟨k,s,h6,_⟩
   ·exact absurd h3 (h6 r h4.1)
   ·exact X7j (by omega)
  have h6:=h4.2;rw [h3] at h6;simp [h5] at h6
theorem Xm3 {l:List Rec} {t x:List UInt8} (h:x∈below l t):∃ r∈l,r.name=x:=by
 unfold below at h;split at h
 ·rename_i h0
  rcases X5i _ _ _ h with e | e
  ·rcases X1o l t with ⟨h1,_⟩ | ⟨j,r,_,h2,h3,_⟩
   ·omega
   ·exact ⟨r,Yl h2,by rw [h3,e]⟩
  ·exact e
 ·simp at h
theorem Xad {l:List Rec} (hw:Wf l) (t:List UInt8):(below l t).Nodup:=by
 unfold below;split
 ·exact X3h hw _ _
 ·exact List.nodup_nil
theorem Xqq {l:List Rec} (hw:Wf l) {t:List UInt8} (ht:isT t 1=true) (P:Rec→Bool) (Q:List UInt8→Bool) (hPQ:∀ (i:Nat) r,l[i]?=some r→Q r.name=P r) (pr:Rec→Bool) (hpr:∀ (i:Nat) r,l[i]?=some r→pr r=((path l r.name).getLast?.any (fun s=>s.name == t) && P r)) :
  (∀ x,x∈(l.filter pr).map Rec.name ↔ x∈(below l t).filter Q)∧((l.filter pr).map Rec.name).length=((below l t).filter Q).length:=by
 have key:∀ x,x∈(l.filter pr).map Rec.name ↔ x∈(below l t).filter Q:=by
  intro x;rw [Y1r,Y2t];constructor
  ·rintro ⟨r,hr,rfl⟩;obtain ⟨h1,h2⟩:=Y2t.1 hr;obtain ⟨i,hi⟩:=Yx.1 h1;rw [hpr i r hi,Yn] at h2;obtain ⟨s,hs1,hs2⟩:=X80 hw ht (i+1) i r (by omega) hi;rw [hs1] at h2;exact ⟨hs2.1 (by simpa using h2.1),by rw [hPQ i r hi]; exact h2.2⟩
  ·rintro ⟨h1,h2⟩;obtain ⟨r,hr,rfl⟩:=Xm3 h1;obtain ⟨i,hi⟩:=Yx.1 hr;obtain ⟨s,hs1,hs2⟩:=X80 hw ht (i+1) i r (by omega) hi;refine ⟨r,Y2t.2 ⟨hr,?_⟩,rfl⟩;rw [hpr i r hi,hs1,Yn];exact ⟨by simpa using hs2.2 h1,by rw [← hPQ i r hi]; exact h2⟩
 have n1:((l.filter pr).map Rec.name).Nodup:=hw.names.sublist (Y2r.map Rec.name);have n2:((below l t).filter Q).Nodup:=(Xad hw t).sublist Y2r;exact ⟨key,Nat.le_antisymm (X5f _ _ n1 fun x hx=>(key x).1 hx) (X5f _ _ n2 fun x hx=>(key x).2 hx)⟩
end Tr
namespace Xm
open Ul Pc Gk Pat Tk Tr
theorem Xez {α:Type} (pr:α→Bool):∀ (l:List α) (k j:Nat) (x:α),l[j]?=some x→pr x=true→(∀ (i:Nat) y,i<j→l[i]?=some y→pr y=false)→Xt pr l k=((k+j:Nat):Int)
 | [],_,_,_,h,_,_=>by simp at h
 | a::l,k,0,x,h,hx,_=>by
  simp at h; subst h
  rw [Xt,if_pos hx]; rfl
 | a::l,k,j+1,x,h,hx,hno=>by
  rw [Xt,if_neg (by rw [hno 0 a (by omega) rfl]; decide),Xez pr l (k+1) j x (by simpa using h) hx (fun i y hi hy=>hno (i+1) y (by omega) (by simpa using hy))]
  congr 1; omega
theorem Xox {q:List Nt} (h:QOk q):(q=[]∧X64 q 1099511627776=(nt0,false))∨∃ (j:Nat) (n:Nt),q[j]?=some n∧X64 q 1099511627776=(n,true):=by
 cases q with
 | nil=>exact .inl ⟨rfl,rfl⟩
 | cons m r =>
  obtain ⟨n,hn⟩:=Xbf r m;have hb:X61 none (m::r)=some n:=hn;have hm:n∈m::r:=by
   rcases X94 hb with e | e
   ·cases e
   ·exact e
  have hr:=h.2 n hm;unfold X1l at hr;simp only [Yn,decide_eq_true_eq] at hr
  obtain ⟨j,hj⟩:=Yx.1 hm;refine .inr ⟨j,n,hj,?_⟩;unfold X64;rw [hb];dsimp only
  rw [if_neg (by omega)]
theorem Xmd:∀ (l:List Nat) (k t:Nat),l[k]?=some t→(l.set k (t+1)).sum=l.sum+1
 | [],_,_,h=>by simp at h
 | a::l,0,t,h=>by simp at h; subst h; simp; omega
 | a::l,k+1,t,h=>by
  have:=Xmd l k t (by simpa using h)
  simp [this]; omega
theorem Xtl (m:Nat):∀ (l:List Nat),(∀ t∈l,t≤m)→l.sum≤m*l.length
 | [],_=>by simp
 | a::l,h=>by
  have h1:=Xtl m l fun t ht=>h t (by simp [ht])
  have h2:=h a (by simp);rw [Y50,List.length_cons,Nat.mul_succ]; omega
structure Told (m:Nat) (D:List (List UInt8)) (q:List Nt) (ts:List Nat) (ds:List Bool):Prop where
 tl:ts.length=D.length
 dl:ds.length=D.length
 top:∀ t∈ts,t≤m
 inq:∀ (i:Nat) n,q[i]?=some n→∃ (k t:Nat),D[k]?=some n.ticket∧ts[k]?=some t∧n.tries=((t:Nat):Int)∧ds[k]?=some false∧t<m
 all:∀ (k t:Nat) (b:Bool) d,D[k]?=some d→ts[k]?=some t→ds[k]?=some b→(b=true∧1≤t)∨(b=false∧t=m)∨(b=false∧∃ (i:Nat) (n:Nt),q[i]?=some n∧n.ticket=d)
 one:∀ (i j:Nat) (a b:Nt),q[i]?=some a→q[j]?=some b→a.ticket=b.ticket→i=j
 ok:QOk q
theorem Xj8 {m:Nat} (hm:1≤m) {D:List (List UInt8)} {q:List Nt} (ok:QOk q) (one:(q.map Nt.ticket).Nodup) (h0:∀ n∈q,n.tries=0) (hD:∀ x,x∈D ↔ x∈q.map Nt.ticket):Told m D q (List.replicate D.length 0) (List.replicate D.length false) where
 tl:=by simp
 dl:=by simp
 top:=fun t ht=>by rw [(List.mem_replicate.1 ht).2]; omega
 inq:=fun i n hn=>by
  have hm9:=Yl hn;obtain ⟨k,hk⟩:=Yx.1 ((hD n.ticket).2 (Y1r.2 ⟨n,hm9,rfl⟩));have hkl:=(Y4.1 hk).1;exact ⟨k,0,hk,by simp [hkl],by rw [h0 n hm9]; rfl,by simp [hkl],by omega⟩
 all:=fun k t b d hd ht hb=>by
  obtain ⟨n,hn,e⟩:=Y1r.1 ((hD d).1 (Yl hd));obtain ⟨i,hi⟩:=Yx.1 hn;have hb9:=Yl hb;exact .inr (.inr ⟨(List.mem_replicate.1 hb9).2,i,n,hi,e⟩)
 one:=fun i j a b ha hb e=>by
  have hi:=(Y4.1 ha); have hj:=(Y4.1 hb)
  have h1:(q.map Nt.ticket)[i]?=some a.ticket:=by rw [Yt,ha]; rfl
  have h2:(q.map Nt.ticket)[j]?=some a.ticket:=by rw [Yt,hb,e]; rfl
  rw [List.Nodup,Y2h] at one;rcases Y4n i j with h | h | h
  ·exact absurd (by
    have e1:=(Y4.1 h1).2; have e2:=(Y4.1 h2).2;rw [e1,e2]) (one i j (by simpa using hi.1) (by simpa using hj.1) h)
  ·exact h
  ·exact absurd (by
    have e1:=(Y4.1 h1).2; have e2:=(Y4.1 h2).2;rw [e1,e2]) (one j i (by simpa using hj.1) (by simpa using hi.1) h)
 ok:=ok
theorem Xnj {m:Nat} {D:List (List UInt8)} {q:List Nt} {ts:List Nat} {ds:List Bool} {c:Qc} {n:Nt} {j:Nat} {good:Bool} (h:Told m D q ts ds) (hD:∀ (i k:Nat) x,D[i]?=some x→D[k]?=some x→i=k) (hm:Xgj c=(m:Int)) (hn:q[j]?=some n) :
  ∃ (k t:Nat),D[k]?=some n.ticket∧ts[k]?=some t∧ds[k]?=some false∧(X3d c q n.ticket good 0).2=0∧Told m D (X3d c q n.ticket good 0).1 (ts.set k (t+1)) (ds.set k good):=by
 obtain ⟨k,t,hk,ht,htr,hd,hlt⟩:=h.inq j n hn;have hix:ixN q n.ticket=(j:Int):=by
  unfold ixN;rw [Xez _ q 0 j n hn (by simp) (fun i y hi hy=>by
   refine Y40.2 fun e=>?_
   have:=h.one i j y n hy hn (by simpa using e)
   omega)]
  simp
 have htl:=(Y4.1 ht).1;have hdl:=(Y4.1 hd).1;have hjl:=(Y4.1 hn).1;have hE:X3d c q n.ticket good 0=if good=true∨Xgj c≤n.tries+1 then (q.eraseIdx j,0) else (q.set j (X2o c n 0),0):=by
  unfold X3d;rw [hix,Ye,hn];dsimp only
  rw [if_neg (by omega)]
 have hok:=Xr3 (c:=c) (t:=n.ticket) (ok:=good) (now:=0) h.ok (by omega);refine ⟨k,t,hk,ht,hd,by rw [hE]; split <;> rfl,?_⟩;have other:∀ (k':Nat) x,D[k']?=some x→x≠n.ticket→k'≠k:=fun k' x h1 h2 e=>by
  subst e;rw [hk] at h1; cases h1; exact h2 rfl
 have tset:∀ (k':Nat),k'≠k→(ts.set k (t+1))[k']?=ts[k']?:=fun k' e=>Y45 (Ne.symm e)
 have dset:∀ (k':Nat),k'≠k→(ds.set k good)[k']?=ds[k']?:=fun k' e=>Y45 (Ne.symm e)
 have top':∀ x∈ts.set k (t+1),x≤m:=fun x hx=>by
  rcases Y48 hx with e | e
  ·exact h.top x e
  ·omega
 have old:∀ (i:Nat) a,q[i]?=some a→i≠j→∃ (k' t':Nat),D[k']?=some a.ticket∧(ts.set k (t+1))[k']?=some t'∧a.tries=((t':Nat):Int)∧(ds.set k good)[k']?=some false∧t'<m:=fun i a ha hij=>by
  obtain ⟨k',t',h1,h2,h3,h4,h5⟩:=h.inq i a ha;have hne:=other k' _ h1 (fun e=>hij (h.one i j a n ha hn e));exact ⟨k',t',h1,by rw [tset k' hne]; exact h2,h3,by rw [dset k' hne]; exact h4,h5⟩
 by_cases hc:good=true∨Xgj c≤n.tries+1
 ·rw [hE,if_pos hc] at hok ⊢;have er:∀ (i:Nat),(q.eraseIdx j)[i]?=if i<j then q[i]? else q[i+1]?:=fun i=>by rw [List.getElem?_eraseIdx]
  refine ⟨by simp [h.tl],by simp [h.dl],top',fun i a ha=>?_,fun k' t' b d hd' ht' hb'=>?_,fun i i' a b ha hb e=>?_,hok⟩
  ·dsimp only at ha
   rw [er] at ha;split at ha
   ·exact old i a ha (by omega)
   ·exact old (i+1) a ha (by omega)
  ·by_cases e:k'=k
   ·subst e;rw [Y1u hdl] at hb';rw [Y1u htl] at ht';cases hb'; cases ht'
    cases hg:good with
    | true=>exact .inl ⟨rfl,by omega⟩
    | false =>
     refine .inr (.inl ⟨rfl,?_⟩);rcases hc with e | e
     ·rw [hg] at e; cases e
     ·omega
   ·rw [tset k' e] at ht';rw [dset k' e] at hb';rcases h.all k' t' b d hd' ht' hb' with h1 | h1 | ⟨h1,i,a,ha,h2⟩
    ·exact .inl h1
    ·exact .inr (.inl h1)
    ·have hij:i≠j:=fun e9=>by
      subst e9;rw [hn] at ha; cases ha;exact e (hD k' k d hd' (by rw [← h2]; exact hk))
     refine .inr (.inr ⟨h1,?_⟩)
     by_cases hlt':i<j
     ·exact ⟨i,a,by dsimp only; rw [er,if_pos hlt']; exact ha,h2⟩
     ·exact ⟨i - 1,a,by dsimp only; rw [er,if_neg (by omega),show i - 1+1=i by omega]; exact ha,h2⟩
  ·dsimp only at ha hb
   rw [er] at ha hb
   have:(if i<j then i else i+1)=(if i'<j then i' else i'+1):=h.one _ _ a b (by split <;> rename_i h9 <;> simpa [h9] using ha) (by split <;> rename_i h9 <;> simpa [h9] using hb) e
   split at this <;> split at this <;> omega
 ·rw [hE,if_neg hc] at hok ⊢;have hg:good=false:=by
   cases hg:good with
   | false=>rfl
   | true=>exact absurd (.inl hg) hc
  have hl:n.tries+1<Xgj c:=by
   rcases Y4q (n.tries+1) (Xgj c) with e | e
   ·exact e
   ·exact absurd (.inr e) hc
  have tk:∀ (i:Nat) a,(q.set j (X2o c n 0))[i]?=some a→∃ b,q[i]?=some b∧b.ticket=a.ticket∧(i=j→a=X2o c n 0)∧(i≠j→a=b):=fun i a ha=>by
   by_cases e:i=j
   ·subst e;rw [Y1u hjl] at ha;cases ha
    exact ⟨n,hn,rfl,fun _=>rfl,fun h9=>absurd rfl h9⟩
   ·rw [Y45 (Ne.symm e)] at ha;exact ⟨a,ha,rfl,fun h9=>absurd h9 e,fun _=>rfl⟩
  refine ⟨by simp [h.tl],by simp [h.dl],top',fun i a ha=>?_,fun k' t' b d hd' ht' hb'=>?_,fun i i' a b ha hb e=>?_,hok⟩
  ·obtain ⟨b,hb,hbt,h1,h2⟩:=tk i a ha
   by_cases e:i=j
   ·subst e;rw [h1 rfl];refine ⟨k,t+1,hk,Y1u htl,?_,by rw [Y1u hdl,hg],by omega⟩;unfold X2o;dsimp only
    omega
   ·rw [h2 e]; exact old i b hb e
  ·by_cases e:k'=k
   ·subst e;rw [Y1u hdl] at hb';cases hb'
    rw [hk] at hd'; cases hd';exact .inr (.inr ⟨hg,j,X2o c n 0,Y1u hjl,rfl⟩)
   ·rw [tset k' e] at ht';rw [dset k' e] at hb';rcases h.all k' t' b d hd' ht' hb' with h1 | h1 | ⟨h1,i,a,ha,h2⟩
    ·exact .inl h1
    ·exact .inr (.inl h1)
    ·have hij:i≠j:=fun e9=>by
      subst e9;rw [hn] at ha; cases ha;exact e (hD k' k d hd' (by rw [← h2]; exact hk))
     exact .inr (.inr ⟨h1,i,a,by dsimp only; rw [Y45 (Ne.symm hij)]; exact ha,h2⟩)
  ·obtain ⟨a',ha',h1,_⟩:=tk i a ha;obtain ⟨b',hb',h2,_⟩:=tk i' b hb;exact h.one i i' a' b' ha' hb' (by rw [h1,h2,e])
theorem Xpr {m:Nat} (hm:1≤m) {D:List (List UInt8)} {ts:List Nat} {ds:List Bool} (h:Told m D [] ts ds) {k t:Nat} {b:Bool} (ht:ts[k]?=some t) (hb:ds[k]?=some b):1≤t∧t≤m∧(b=false→t=m):=by
 have hkl:=(Y4.1 ht).1;obtain ⟨d,hd⟩:∃ d,D[k]?=some d:=⟨_,Y5 (by rw [← h.tl]; exact hkl)⟩
 have h2:=h.top t (Yl ht);rcases h.all k t b d hd ht hb with ⟨h1,h3⟩ | ⟨h1,h3⟩ | ⟨_,i,n,h3,_⟩
 ·exact ⟨h3,h2,fun e=>by rw [h1] at e; cases e⟩
 ·exact ⟨by omega,h2,fun _=>h3⟩
 ·simp at h3
end Xm
namespace Go.Proofs.YtbciobiiejpdgaaGreatDoor
open Gk Ul Pc Pat Xm Tr Tk
set_option maxRecDepth 4000
def TN:List UInt8:=pre 1 ++ 45::Xhl 16 1
theorem TN_is:isT TN 1=true:=by decide +kernel
def Xvc (lo:List Sv) (ω:Wd) (t:List UInt8) (r:Rec):Bool:=(path ω.l r.name).getLast?.any (fun s=>s.name == t) && X4m lo ω r.name
def X2p (lo:List Sv) (ω:Wd) (t:List UInt8) (l:List Rec):List (List UInt8):=(l.filter (Xvc lo ω t)).map Rec.name
theorem Xsg {lo:List Sv} {ω:Wd} {t:List UInt8} {l:List Rec} {i:Nat} {r:Rec} (h:l[i]?=some r):X2p lo ω t (l.take (i+1))=X2p lo ω t (l.take i) ++ (if Xvc lo ω t r=true then [r.name] else []):=by
 unfold X2p;rw [Y12,h,Y1n,Y3s,Yu,Y4x];split <;> simp
theorem Xtp (lo:List Sv) (ω:Wd) (t:List UInt8) (l:List Rec):(X2p lo ω t l).length≤l.length:=by unfold X2p; rw [Y10]; exact Y4t _ _
theorem Xvn {l:List Rec} (hw:Wf l) {i:Nat} {r:Rec} (h:l[i]?=some r):getD l r.name=r:=by rw [getD,hw.get_ h]; rfl
theorem Xit {lo:List Sv} {ω:Wd} {t:List UInt8} {r s:Rec} (hg:getD ω.l r.name=r) (hs:(path ω.l r.name).getLast?=some s):(((((s.name == t) && ((r.kind == 2) || (r.kind == 3))) && decide (0<r.uses)) && ((((X24 lo r.service).2.2:Nat):Int) == 0)) && (X24 lo r.service).1.back)=Xvc lo ω t r:=by
 unfold Xvc;rw [hs,Option.any_some,← Xlh,hg];simp only [Bool.and_assoc]
theorem Xhm {ω:Wd} (hω:Xe3 ω) {t:List UInt8} (ht:isT t 1=true):(getD ω.l t).kind=1∨(at0 ω.l t<0∧below ω.l t=[]∧¬ (getD ω.l t).kind=1):=by
 rcases X74 hω.wf t with ⟨h1,h2⟩ | ⟨h1,h2,h3⟩
 ·refine .inr ⟨?_,?_,by rw [h2]; decide⟩
  ·rcases Tr.get_at ω.l t with ⟨h4,_⟩ | ⟨j,r,_,_,_,h4⟩
   ·omega
   ·rw [h1] at h4; cases h4
  ·unfold below;rw [if_neg];rcases Tr.get_at ω.l t with ⟨h4,_⟩ | ⟨j,r,_,_,_,h4⟩
   ·omega
   ·rw [h1] at h4; cases h4
 ·have h4:=(X5n h2).1;rw [h3] at h4;exact .inl (Xp0 h4 ht)
theorem Xt1 {lo:List Sv} {ω:Wd} (hω:Xe3 ω) {t:List UInt8} (ht:isT t 1=true):Xao lo ω t=X2a lo ω t:=by
 unfold Xao;split
 ·rfl
 ·rename_i h
  rcases Xhm hω ht with e | ⟨_,e,_⟩
  ·exact absurd e h
  ·unfold X2a; rw [e]; rfl
theorem Xp1 {ω:Wd} (hω:Xe3 ω) {t:List UInt8} (ht:isT t 1=true):below (Xd8 ω t).l t=[]:=by
 unfold Xd8;rcases Xhm hω ht with e | ⟨_,e,e2⟩
 ·rw [if_pos e]; exact Xjr t
 ·rw [if_neg e2]; exact e
theorem Xkh {lo:List Sv} {ω:Wd} (hω:Xe3 ω) {n:List UInt8} (h:X4m lo ω n=true):X1l (Xbv ω n)=true:=by
 unfold X4m at h;simp only [Yn,Y1i,beq_iff_eq] at h
 rcases X74 hω.wf n with ⟨_,e⟩ | ⟨_,h2,h3⟩
 ·rw [e] at h; rcases h.1.1 with h | h <;> cases h
 ·have h4:=(X5n h2).1;have h5:=Xa8 hω.wf n;have h6:=hω.now;rw [h3] at h4;have ht:X4k n=true:=by
   unfold X4k;rcases h.1.1 with e | e
   ·rw [e] at h4; rw [h4]; rfl
   ·rw [e] at h4; rw [h4,Bool.or_true]
  unfold X1l Xbv;dsimp only
  rw [ht,decide_eq_true (by omega),decide_eq_true (by omega),decide_eq_true h6.1,decide_eq_true h6.2];rfl
theorem Xtd:∀ (l q:List Nt),((q ++ l).map Nt.ticket).Nodup→Xrg q l=false
 | [],_,_=>rfl
 | n::r,q,h=>by
  rw [Xrg];have h1:(q.any fun x=>x.ticket == n.ticket)=false:=Y5n.2 fun x hx=>by
   rw [Yu,Y4k] at h
   have:=h.2.2 x.ticket (Y1r.2 ⟨x,hx,rfl⟩) n.ticket (by simp)
   simpa using this
  rw [h1,Y39];exact Xtd r (q ++ [n]) (by rw [Yc]; exact h)
theorem Xko {lo:List Sv} {ω:Wd} (hω:Xe3 ω) {t:List UInt8} (ht:isT t 1=true) :
  Xfe [] (Xao lo ω t)=(Xao lo ω t,0)∧QOk (Xao lo ω t)∧((Xao lo ω t).map Nt.ticket).Nodup∧(∀ n∈Xao lo ω t,n.tries=0∧n.ticket.length≤60∧n.url.length≤120)∧(∀ x,x∈X2p lo ω t ω.l ↔ x∈(Xao lo ω t).map Nt.ticket)∧(Xao lo ω t).length=(X2p lo ω t ω.l).length∧(∀ (i k:Nat) x,(X2p lo ω t ω.l)[i]?=some x→(X2p lo ω t ω.l)[k]?=some x→i=k):=by
 rw [Xt1 hω ht];have htk:(X2a lo ω t).map Nt.ticket=(below ω.l t).filter (X4m lo ω):=by
  unfold X2a X4j;rw [List.map_map]
  have:(Nt.ticket ∘ Xbv ω)=id:=rfl
  rw [this,List.map_id]
 have hnd:((X2a lo ω t).map Nt.ticket).Nodup:=by rw [htk]; exact (Xad hω.wf t).sublist Y2r
 have hlen:(X2a lo ω t).length≤64:=by
  have h1:=Xdt lo ω (below ω.l t);have h2:=Xc7 hω.wf t;have h3:=hω.len;unfold X2a; omega
 have hr:∀ n∈X2a lo ω t,∃ x,X4m lo ω x=true∧n=Xbv ω x:=fun n hn=>by
  unfold X2a X4j at hn;obtain ⟨x,hx,rfl⟩:=Y1r.1 hn;exact ⟨x,(Y2t.1 hx).2,rfl⟩
 have hok:QOk (X2a lo ω t):=⟨hlen,fun n hn=>by
  obtain ⟨x,h1,rfl⟩:=hr n hn;exact Xkh hω h1⟩
 have hds:=Xqq hω.wf ht (fun r=>X4m lo ω r.name) (X4m lo ω) (fun i r hr=>rfl) (Xvc lo ω t) (fun i r hr=>rfl);refine ⟨?_,hok,hnd,fun n hn=>?_,?_,?_,?_⟩
 ·unfold Xfe;rw [if_neg,if_neg,if_neg,Yf]
  ·rw [List.length_nil]; omega
  ·rw [Xtd _ _ (by rw [Yf]; exact hnd)]; decide
  ·rw [Y2x];exact Y5n.2 fun n hn=>by rw [hok.2 n hn]; decide
 ·obtain ⟨h1,h2,_,h3,_⟩:=X3a (hok.2 n hn)
  have:=(X28 h1).2
  obtain ⟨x,_,rfl⟩:=hr n hn;exact ⟨rfl,by omega,by omega⟩
 ·intro x;rw [htk];exact hds.1 x
 ·rw [show (X2a lo ω t).length=((X2a lo ω t).map Nt.ticket).length from (Y10 ..).symm,htk];exact hds.2.symm
 ·have n1:(X2p lo ω t ω.l).Nodup:=hω.wf.names.sublist (Y2r.map Rec.name);rw [List.Nodup,Y2h] at n1;intro i k x hi hk;have e1:=Y4.1 hi; have e2:=Y4.1 hk;obtain ⟨a1,a2⟩:=e1;obtain ⟨b1,b2⟩:=e2;rcases Y4n i k with h | h | h
  ·exact absurd (by rw [a2,b2]) (n1 i k a1 b1 h)
  ·exact h
  ·exact absurd (by rw [a2,b2]) (n1 k i b1 a1 h)
def Xhr (b:Bool):List Value:=[.bool b]
theorem Xqn {α:Type} (f:α→Value) (l:List α):X9 (fun x=>[f x]) l=l.map f:=by
 unfold X9
 induction l with
 | nil=>rfl
 | cons x l ih=>rw [Y1a,Y1j,ih]; rfl
theorem Xmv {l:List Rec} (hw:Wf l) {i:Nat} {r:Rec} (hr:l[i]?=some r):∃ s,(path l r.name).getLast?=some s∧(path l r.name)[(path l r.name).length - 1]?=some s∧1≤(path l r.name).length:=by
 have h1:=Xg4 hw hr;have h2:1≤(path l r.name).length:=by rw [h1]; simp
 obtain ⟨s,hs⟩:∃ s,(path l r.name)[(path l r.name).length - 1]?=some s:=⟨_,Y5 (by omega)⟩
 exact ⟨s,by rw [Y3e]; exact hs,hs,h2⟩
theorem Xph (B w:World) (I:Im) (As:List X6) (hS:Sat B w I As) :
  Cz 46 [I64 1,U64 ((1:Nat):Int)] w fun v w'=>v=S TN∧Sat B w' I As:=by
 refine calls Qf46 rfl Tryz.ntmps46 rfl (.seq (.q 1 rfl (.seq (.t 2 rfl (.call Tryz.func92 rfl (ec9 rfl (ec9 rfl X0)) rfl (X98 1 1 (by decide) B _ I _ hS) ?_)))));rintro _ w ⟨rfl,hS⟩;rw [if_neg (show ¬ Xt7 1=[] by decide +kernel)];refine .q 5 rfl (.nil (.seq (.q 2 rfl (.ret (X8 Tryz.results46 rfl ?_)))));exact ⟨_,rfl,rfl,hS⟩
end Go.Proofs.YtbciobiiejpdgaaGreatDoor
