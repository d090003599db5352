/- Part 3 of what the proof stands on: W18h, Uid, Fm, W22g, Tk, Tre, W21a, W21b, GkZ, GkO, W18k, W18i, W18j, Rk, W16a, Srt. -/
import Derived.Test.YtfibbpgikjggfaaGreatDoorM2TB
import Derived.Below
import Derived.ChangeSame
import Derived.Carry
import Derived.ChangeSlices
import Derived.Deep.Strs
import Derived.DataElems
import Derived.Lib.LaidTab
import Derived.Test.YtfibbpgikjggfaaGreatDoorChecked
set_option linter.unusedVariables false
set_option linter.unusedSimpArgs false
namespace Go.Proofs.YtfibbpgikjggfaaGreatDoor
open Gk Pc Ul Pat
theorem X8q (s:List UInt8) (hl:s.length≤1000000) (B w:World) (I:Im) (As:List X9) (hS:Sat B w I As) :
  Calls Tryz.prog 58 [S s].toArray w (Ret fun v w'=>v=S (low s)∧Sat B w' I As):=by
 refine calls Qf58 rfl Tryz.ntmps58 rfl (.seq (.q 1 rfl (.seq (.q 1 rfl (.seq (.seq (.q 1 rfl (.block (.loop (σ:=Nat) (fun i=>[(0,S s),(3,S (low (s.take i))),(4,I64 (i:Nat))]) (fun i w=>i≤s.length∧Sat B w I As) (fun i=>s.length - i) 0 ⟨rfl,rfl,rfl,trivial⟩ ⟨Yp _,hS⟩ ?_)))))))))
 rintro i w ⟨hi,hS⟩
 change WC _ _ _ _ [(0,S s),(3,S (low (s.take i))),(4,I64 (i:Nat))] w
 refine .seq (.seq (.region (.run 4 rfl ⟨Qu9,trivial⟩ (.nil ?_))))
 refine WC.cond rfl (fun hb9=>?_) (fun hb9=>?_)
 ·
  have hc9:=hb9; try simp only [Y5] at hc9
  refine .skip (.seq (.block (.seq ?_)))
  have hnx:low (s.take (i+1))=low (s.take i) ++ [lo (at_ s (i:Int))]:=by rw [Y1a,Xq (by omega),low,low,Yy]; rfl
  have hll:(low (s.take i)).length≤1000000:=by rw [X1k,Yq]; omega
  refine .region (.run 4 rfl ⟨⟨⟨by omega,by omega⟩,Qu9⟩,trivial⟩ (.nil (.seq (.seq (.t 3 rfl (.gval rfl rfl (fun hg1=>(.move (.of rfl))) rfl (.gval rfl rfl (fun hg1=>(.leq (.gd hg1 rfl) (.of rfl))) rfl (.val (.pand (.of rfl) (.of rfl) (.of rfl)) rfl (.nil ?_)))))))))
  refine WC.cond rfl (fun hb20=>?_) (fun hb20=>?_)
  ·
   have hc20:=hb20; try simp only [Y5] at hc20
   refine .t 1 rfl (.val (.addw (.of rfl) (.of rfl)) rfl (.q 1 rfl (.nil (.t 2 rfl (.buildSlice (cs:=[_]) hS (X5 (.of rfl) X6) X19 Qs5 Qz5 rfl rfl rfl rfl ?_)))))
   clear hS; intro b25 w hS
   refine WL.val (.str1 (b:=b25) (cap:=1) (c:=lo (at_ s (i:Int))) (i:=(IntKind.u8.wrap (((at_ s (i:Int)).toNat:Int)+32))) (.of rfl) hS (k:=0) rfl (by have:=lo_up (c:=at_ s (i:Int)) (by simpa only [Yn,decide_eq_true_eq] using hb20); rw [this,IntKind.wrap_u8]; omega) X19 Qu5 Qu9) rfl ?_
   refine WL.run 2 rfl ⟨by (try simp only [Y0,Y6,Yh]); omega,trivial⟩ ?_
   refine .nil (.region (.run 3 rfl ⟨⟨by omega,by omega⟩,trivial⟩ (.nil ?_)))
   refine ⟨i+1,⟨rfl,by show some (S _)=some _; rw [hnx],rfl,trivial⟩,⟨by omega,hS.drop (k:=0) rfl⟩,by omega⟩
  have hc20:=hb20; try simp only [Y5] at hc20
  refine .skip (.t 2 rfl (.buildSlice (cs:=[_]) hS (X5 (.of rfl) X6) X19 Qs5 Qz5 rfl rfl rfl rfl ?_))
  clear hS; intro b25 w hS
  have hlo:lo (at_ s (i:Int))=at_ s (i:Int):=lo_no (fun hh=>by
   have:(decide (65≤((at_ s (i:Int)).toNat:Int)) && decide (((at_ s (i:Int)).toNat:Int)≤90))=true:=by simp only [Yn,decide_eq_true_eq]; exact hh
   rw [this] at hb20; cases hb20)
  refine .val (.str1 (b:=b25) (cap:=1) (c:=lo (at_ s (i:Int))) (i:=((at_ s (i:Int)).toNat:Int)) (.of rfl) hS (k:=0) rfl (by rw [hlo]) X19 Qu5 Qu9) rfl ?_
  refine WL.run 2 rfl ⟨by (try simp only [Y0,Y6,Yh]); omega,trivial⟩ ?_
  refine .nil (.region (.run 3 rfl ⟨⟨by omega,by omega⟩,trivial⟩ (.nil ?_)))
  refine ⟨i+1,⟨rfl,by show some (S _)=some _; rw [hnx],rfl,trivial⟩,⟨by omega,hS.drop (k:=0) rfl⟩,by omega⟩
 have hc9:=hb9; try simp only [Y5] at hc9
 refine .exit (.seq (.q 2 rfl (.ret (Xe Tryz.results58 rfl ?_))))
 exact ⟨_,rfl,by rw [Y11 (by omega)],hS⟩
theorem Xar (s cs:List UInt8) (fr:Nat) (hf:fr≤s.length) (hl:s.length≤1000000) (hc:cs.length≤1000) (B w:World) (I:Im) (As:List X9) (hS:Sat B w I As) :
  Calls Tryz.prog 59 [S s,I64 (fr:Nat),S cs].toArray w (Ret fun v w'=>v=I64 ((fr+(upto cs (s.drop fr)).length:Nat):Int)∧Sat B w' I As):=by
 refine calls Qf59 rfl Tryz.ntmps59 rfl (.seq (.q 1 rfl (.seq (.seq (.q 2 rfl (.block (.loop (σ:=Nat) (fun i=>[(0,S s),(2,S cs),(7,I64 ((fr+i:Nat):Int))]) (fun i w=>fr+i≤s.length∧Go.Lib.NoAny (s.drop fr) cs i∧Sat B w I As) (fun i=>s.length - (fr+i)) 0 ⟨rfl,rfl,rfl,trivial⟩ ⟨hf,Go.Lib.NoAny.zero _ _,hS⟩ ?_)))))))
 rintro i w ⟨hi,hno,hS⟩
 change WC _ _ _ _ [(0,S s),(2,S cs),(7,I64 ((fr+i:Nat):Int))] w
 refine .seq (.seq (.region (.run 4 rfl ⟨Qu9,trivial⟩ (.nil ?_))))
 refine WC.cond rfl (fun hb13=>?_) (fun hb13=>?_)
 ·
  have hc13:=hb13; try simp only [Y5] at hc13
  refine .skip (.seq (.block (.seq (.q 1 rfl (.block (.loop (σ:=Nat) (fun k=>[(0,S s),(2,S cs),(7,I64 ((fr+i:Nat):Int)),(8,I64 (k:Nat))]) (fun k w=>k≤cs.length∧(∀ q,q<k→at_ cs (q:Int)≠at_ s ((fr+i:Nat):Int))∧Sat B w I As) (fun k=>cs.length - k) 0 ⟨rfl,rfl,rfl,rfl,trivial⟩ ⟨Yp _,fun _ h=>absurd h (by omega),hS⟩ ?_))))))
  rintro k w ⟨hkl,hk,hS⟩
  change WC _ _ _ _ [(0,S s),(2,S cs),(7,I64 ((fr+i:Nat):Int)),(8,I64 (k:Nat))] w
  refine .seq (.seq (.region (.run 4 rfl ⟨Qu9,trivial⟩ (.nil ?_))))
  refine WC.cond rfl (fun hb19=>?_) (fun hb19=>?_)
  ·
   have hc19:=hb19; try simp only [Y5] at hc19
   refine .skip (.seq (.block (.seq (.quiet (by kernel_rfl) (by kernel_rfl) hS (.val (fun w hS=>(.move (.of rfl))) rfl (.val (fun w hS=>(.move (.of rfl))) rfl (.val (fun w hS=>(.index (.of rfl) (.of rfl) (by omega) (by omega) Qu9)) rfl (.val (fun w hS=>(.move (.of rfl))) rfl (.val (fun w hS=>(.move (.of rfl))) rfl (.val (fun w hS=>(.index (.of rfl) (.of rfl) (by omega) (by omega) Qu9)) rfl (.val (fun w hS=>(.eql (.of rfl) (.of rfl))) rfl (.nil ?_))))))))))))
   clear hS; intro w hS
   refine WC.cond rfl (fun hb28=>?_) (fun hb28=>?_)
   ·
    have hc28:=hb28; try simp only [Y5] at hc28
    refine .seq (.q 2 rfl (.ret (Xe Tryz.results59 rfl ?_)))
    have heq:at_ cs (k:Int)=at_ s ((fr+i:Nat):Int):=Yz.1 (by simp only [beq_iff_eq] at hb28; omega)
    have hat:(s.drop fr)[i]?=some (at_ s ((fr+i:Nat):Int)):=by rw [Y1d]; exact Xq (by omega)
    have hin:cs.contains (at_ s ((fr+i:Nat):Int))=true:=by
     rw [Y24,← heq]
     exact Yr (Xq (by omega:k<cs.length))
    obtain ⟨h1,h2,h3⟩:=Xam (Go.Lib.indexAny_hit hno hat hin)
    refine ⟨_,rfl,?_,hS⟩
    rw [h1,Yq,Yj]
    congr 1; omega
   have hc28:=hb28; try simp only [Y5] at hc28
   refine .skip (.region (.run 3 rfl ⟨⟨by omega,by omega⟩,trivial⟩ (.nil ?_)))
   refine ⟨k+1,⟨rfl,rfl,rfl,rfl,trivial⟩,⟨by omega,fun q hq=>?_,hS⟩,by omega⟩
   rcases Yv q k with h1 | h1
   ·exact hk q h1
   ·have e:q=k:=by omega
    subst e
    simp only [beq_eq_false_iff_ne] at hb28
    exact fun e=>hb28 (by rw [e])
  have hc19:=hb19; try simp only [Y5] at hc19
  refine .exit (.region (.run 3 rfl ⟨⟨by omega,by omega⟩,trivial⟩ (.nil ?_)))
  have hat:(s.drop fr)[i]?=some (at_ s ((fr+i:Nat):Int)):=by rw [Y1d]; exact Xq (by omega)
  refine ⟨i+1,⟨rfl,rfl,by show some (I64 _)=some (I64 _); congr 2,trivial⟩,⟨by omega,hno.succ hat ?_,hS⟩,by omega⟩
  cases hc:cs.contains (at_ s ((fr+i:Nat):Int)) with
  | false=>rfl
  | true =>
   rw [Y24] at hc
   obtain ⟨q,hq⟩:=Y1j.1 hc
   have hql:q<cs.length:=(Y4.1 hq).1
   rw [Xq hql] at hq
   exact absurd (by injection hq) (hk q (by omega))
 have hc13:=hb13; try simp only [Y5] at hc13
 refine .exit (.seq (.region (.run 3 rfl ⟨Qu9,trivial⟩ (.nil (.ret (Xe Tryz.results59 rfl ?_))))))
 obtain ⟨h1,h2⟩:=X75 (Go.Lib.indexAny_none (s:=s.drop fr) (chars:=cs) (by rw [Yj,show s.length - fr=i by omega]; exact hno))
 refine ⟨_,rfl,?_,hS⟩
 rw [h1,Yj]
 congr 1; omega
theorem Xpa {n:Nat} (h:¬ n<10):Go.Lib.decDigits n=Go.Lib.decDigits (n / 10) ++ [UInt8.ofNat (48+n % 10)]:=by
 rw [Go.Lib.decDigits,dif_neg h]
theorem Xfe (m:Nat) (hm:m≤65535) (B w:World) (I:Im) (As:List X9) (hS:Sat B w I As) :
  Calls Tryz.prog 95 [I64 (m:Nat)].toArray w (Ret fun v w'=>v=S (Go.Lib.decDigits m)∧Sat B w' I As):=by
 refine calls Tryz.func95 rfl Tryz.ntmps95 rfl (.seq (.q 1 rfl (.seq (.q 1 rfl (.seq (.block (.loop (σ:=Nat×List UInt8) (fun ⟨n,out⟩=>[(0,I64 (n:Nat)),(3,S out)]) (fun ⟨n,out⟩ w=>n≤m∧Go.Lib.decDigits m=Go.Lib.decDigits n ++ out∧Sat B w I As) (fun ⟨n,out⟩=>n) (m,[]) ⟨rfl,rfl,trivial⟩ ⟨Ys _,by simp,hS⟩ ?_)))))))
 rintro ⟨n,out⟩ w ⟨hn,hd,hS⟩
 change WC _ _ _ _ [(0,I64 (n:Nat)),(3,S out)] w
 refine .seq (.seq (.q 2 rfl ?_))
 refine WC.cond rfl (fun hb5=>?_) (fun hb5=>?_)
 ·
  have hc5:=hb5; try simp only [Y5] at hc5
  refine .skip (.block (.seq ?_))
  have hbg:=Xpa (n:=n) (by omega)
  have hlo2:=congrArg List.length hd
  rw [Y0,hbg,Y0] at hlo2
  have h5:=X52 m hm
  refine .t 1 rfl (.val (.rem (.of rfl) (.of rfl) (by omega) (by omega)) rfl (.run 1 rfl ⟨⟨by omega,by omega⟩,trivial⟩ ?_))
  refine WL.val (.cvi (.of rfl) Qu3 Qu5 (by rw [IntKind.wrap_u8]; omega)) rfl ?_
  refine .buildSlice (cs:=[_]) hS (X5 (.of rfl) X6) X19 Qs5 Qz5 rfl rfl rfl rfl ?_
  clear hS; intro b10 w hS
  refine WL.val (.str1 (b:=b10) (cap:=1) (c:=UInt8.ofNat (48+n % 10)) (i:=(48+(n:Int) % 10)) (.of rfl) hS (k:=0) rfl (by rw [Y45]; omega) X19 Qu5 Qu9) rfl ?_
  refine WL.run 3 rfl ⟨by (try simp only [Y0,Y6,Yh]); omega,trivial⟩ ?_
  refine .nil (.t 1 rfl ?_)
  refine WL.val (.quo (.of rfl) (.of rfl) (by omega) (by omega) (by rw [IntKind.wrap_i64]; omega)) rfl ?_
  refine .q 1 rfl (.nil ?_)
  refine ⟨(n / 10,_),⟨rfl,rfl,trivial⟩,⟨by (try dsimp only); omega,?_,hS.drop (k:=0) rfl⟩,by (try dsimp only); omega⟩
  rw [hd,hbg,Y8]
 have hc5:=hb5; try simp only [Y5] at hc5
 refine .exit (.seq ?_)
 have hsm:=Go.Lib.decDigits_one (i:=n) (by omega)
 have hlo2:=congrArg List.length hd
 rw [Y0] at hlo2
 have h5:=X52 m hm
 refine .region (.run 2 rfl ⟨⟨by omega,by omega⟩,trivial⟩ ?_)
 refine WL.val (.cvi (.of rfl) Qu3 Qu5 (by rw [IntKind.wrap_u8]; omega)) rfl ?_
 refine .buildSlice (cs:=[_]) hS (X5 (.of rfl) X6) X19 Qs5 Qz5 rfl rfl rfl rfl ?_
 clear hS; intro b19 w hS
 refine WL.val (.str1 (b:=b19) (cap:=1) (c:=UInt8.ofNat (48+n)) (i:=(48+(n:Int))) (.of rfl) hS (k:=0) rfl (by rw [Y45]; omega) X19 Qu5 Qu9) rfl ?_
 refine WL.run 3 rfl ⟨by (try simp only [Y0,Y6,Yh]); omega,trivial⟩ ?_
 refine .nil (.ret (Xe Tryz.results95 rfl ?_))
 refine ⟨_,rfl,?_,hS.drop (k:=0) rfl⟩
 rw [hd,hsm]
theorem X9i (c:UInt8):(((((((((((decide ((c.toNat:Int)<33) || decide (126<(c.toNat:Int))) || ((c.toNat:Int) == 34)) || ((c.toNat:Int) == 60)) || ((c.toNat:Int) == 62)) || ((c.toNat:Int) == 35)) || ((c.toNat:Int) == 92)) || ((c.toNat:Int) == 94)) || ((c.toNat:Int) == 123)) || ((c.toNat:Int) == 124)) || ((c.toNat:Int) == 125)) || ((c.toNat:Int) == 96))=!X14 c :=
 eq_of_beq (Xj (p:=fun c=>(((((((((((decide ((c.toNat:Int)<33) || decide (126<(c.toNat:Int))) || ((c.toNat:Int) == 34)) || ((c.toNat:Int) == 60)) || ((c.toNat:Int) == 62)) || ((c.toNat:Int) == 35)) || ((c.toNat:Int) == 92)) || ((c.toNat:Int) == 94)) || ((c.toNat:Int) == 123)) || ((c.toNat:Int) == 124)) || ((c.toNat:Int) == 125)) || ((c.toNat:Int) == 96)) == !X14 c) (by decide +kernel) c)
theorem Xdm (s:List UInt8) (hl:s.length≤1000000) (B w:World) (I:Im) (As:List X9) (hS:Sat B w I As):Calls Tryz.prog 120 [S s].toArray w (Ret fun v w'=>∃ n1 e1,v=.tuple #[S n1,I64 e1]∧(match X2s s with | none=>n1=[]∧e1=11 | some t=>n1=t∧e1=0)∧Sat B w' I As) :=
 (Xa1 s hl B w I As hS).mono fun e w' he=>by
  obtain ⟨v,rfl,rfl,h⟩:=he
  cases X2s s with
  | none=>exact ⟨_,rfl,_,_,rfl,⟨rfl,rfl⟩,h⟩
  | some t=>exact ⟨_,rfl,_,_,rfl,⟨rfl,rfl⟩,h⟩
set_option maxRecDepth 4000 in
theorem Xee (s:List UInt8) (hl:s.length≤1000000) (B w:World) (I:Im) (As:List X9) (hS:Sat B w I As) :
  Calls Tryz.prog 60 [S s].toArray w (Ret fun v w'=>∃ n1 b1,v=.tuple #[S n1,.bool b1]∧(match Xy s with | none=>b1=false | some t=>n1=t∧b1=true)∧n1.length≤s.length∧Sat B w' I As):=by
 refine calls Tryz.func60 rfl Tryz.ntmps60 rfl (.seq (.q 2 rfl (.seq (.seq (.q 1 rfl (.block (.loop (σ:=Nat) (fun i=>[(0,S s),(4,I64 (i:Nat))]) (fun i w=>i≤s.length∧(∀ j,j<i→j<s.length→X14 (at_ s (j:Int))=true)∧Sat B w I As) (fun i=>s.length - i) 0 ⟨rfl,rfl,trivial⟩ ⟨Yp _,fun _ h=>absurd h (by omega),hS⟩ ?_)))))))
 rintro i w ⟨hi,hok,hS⟩
 change WC _ _ _ _ [(0,S s),(4,I64 (i:Nat))] w
 refine .seq (.seq (.region (.run 4 rfl ⟨Qu9,trivial⟩ (.nil ?_))))
 refine WC.cond rfl (fun hb11=>?_) (fun hb11=>?_)
 ·
  have hc11:=hb11; try simp only [Y5] at hc11
  refine .skip (.seq (.block (.seq (.region (.run 4 rfl ⟨⟨⟨by omega,by omega⟩,Qu9⟩,trivial⟩ (.nil (.seq (.t 3 rfl (.gval rfl rfl (fun hg1=>(.move (.of rfl))) rfl (.gval rfl rfl (fun hg1=>(.gtr (.gd hg1 rfl) (.of rfl))) rfl (.val (.por (.of rfl) (.of rfl) (.of rfl)) rfl (.q 1 rfl (.gval rfl rfl (fun hg1=>(.move (.of rfl))) rfl (.gval rfl rfl (fun hg1=>(.eql (.gd hg1 rfl) (.of rfl))) rfl (.val (.por (.of rfl) (.of rfl) (.of rfl)) rfl (.q 1 rfl (.gval rfl rfl (fun hg1=>(.move (.of rfl))) rfl (.gval rfl rfl (fun hg1=>(.eql (.gd hg1 rfl) (.of rfl))) rfl (.val (.por (.of rfl) (.of rfl) (.of rfl)) rfl (.q 1 rfl (.gval rfl rfl (fun hg1=>(.move (.of rfl))) rfl (.gval rfl rfl (fun hg1=>(.eql (.gd hg1 rfl) (.of rfl))) rfl (.val (.por (.of rfl) (.of rfl) (.of rfl)) rfl (.q 1 rfl (.gval rfl rfl (fun hg1=>(.move (.of rfl))) rfl (.gval rfl rfl (fun hg1=>(.eql (.gd hg1 rfl) (.of rfl))) rfl (.val (.por (.of rfl) (.of rfl) (.of rfl)) rfl (.q 1 rfl (.gval rfl rfl (fun hg1=>(.move (.of rfl))) rfl (.gval rfl rfl (fun hg1=>(.eql (.gd hg1 rfl) (.of rfl))) rfl (.val (.por (.of rfl) (.of rfl) (.of rfl)) rfl (.q 1 rfl (.gval rfl rfl (fun hg1=>(.move (.of rfl))) rfl (.gval rfl rfl (fun hg1=>(.eql (.gd hg1 rfl) (.of rfl))) rfl (.val (.por (.of rfl) (.of rfl) (.of rfl)) rfl (.q 1 rfl (.gval rfl rfl (fun hg1=>(.move (.of rfl))) rfl (.gval rfl rfl (fun hg1=>(.eql (.gd hg1 rfl) (.of rfl))) rfl (.val (.por (.of rfl) (.of rfl) (.of rfl)) rfl (.q 1 rfl (.gval rfl rfl (fun hg1=>(.move (.of rfl))) rfl (.gval rfl rfl (fun hg1=>(.eql (.gd hg1 rfl) (.of rfl))) rfl (.val (.por (.of rfl) (.of rfl) (.of rfl)) rfl (.q 1 rfl (.gval rfl rfl (fun hg1=>(.move (.of rfl))) rfl (.gval rfl rfl (fun hg1=>(.eql (.gd hg1 rfl) (.of rfl))) rfl (.val (.por (.of rfl) (.of rfl) (.of rfl)) rfl (.q 1 rfl (.gval rfl rfl (fun hg1=>(.move (.of rfl))) rfl (.gval rfl rfl (fun hg1=>(.eql (.gd hg1 rfl) (.of rfl))) rfl (.val (.por (.of rfl) (.of rfl) (.of rfl)) rfl (.nil ?_))))))))))))))))))))))))))))))))))))))))))))))))))))
  refine WC.cond rfl (fun hb62=>?_) (fun hb62=>?_)
  ·
   have hc62:=hb62; try simp only [Y5] at hc62
   refine .seq (.q 2 rfl (.ret (X1g Tryz.results60 rfl rfl ?_)))
   refine ⟨_,rfl,[],false,rfl,?_,Yp _,hS⟩
   have hh:=X9i (at_ s (i:Int))
   rw [hb62] at hh
   have:Xy s=none:=by rw [Xy,X69 (p:=X14) (i:=i) (by omega) (by simpa using hh.symm)]; rfl
   rw [this]
  have hc62:=hb62; try simp only [Y5] at hc62
  refine .skip (.region (.run 3 rfl ⟨⟨by omega,by omega⟩,trivial⟩ (.nil ?_)))
  refine ⟨i+1,⟨rfl,rfl,trivial⟩,⟨by omega,fun j hj hjl=>?_,hS⟩,by omega⟩
  rcases Yv j i with h1 | h1
  ·exact hok j h1 hjl
  ·have e:j=i:=by omega
   subst e
   have hh:=X9i (at_ s (j:Int))
   rw [hb62] at hh
   simpa using hh.symm
 have hc11:=hb11; try simp only [Y5] at hc11
 refine .exit (.seq (.t 1 rfl (.call Tryz.func120 rfl (X0 (.of rfl) X4) rfl (Xdm s hl B _ I _ hS) ?_)))
 clear hS
 rintro _ w ⟨n1,e1,rfl,hne,hS⟩
 refine .q 5 rfl (.nil (.seq (.q 5 rfl (.ret (X1g Tryz.results60 rfl rfl ?_)))))
 have hall:s.all X14=true:=X6w hok (by omega)
 cases hn:X2s s with
 | none =>
  rw [hn] at hne
  obtain ⟨rfl,rfl⟩:=hne
  refine ⟨_,rfl,[],false,rfl,?_,Yp _,hS⟩
  have:Xy s=none:=by rw [Xy,if_pos hall,hn]
  rw [this]
 | some t =>
  rw [hn] at hne
  obtain ⟨rfl,rfl⟩:=hne
  refine ⟨_,rfl,n1,true,rfl,?_,X9z s _ hn,hS⟩
  have:Xy s=some n1:=by rw [Xy,if_pos hall,hn]
  rw [this]
  exact ⟨rfl,rfl⟩
theorem Xgo (s:List UInt8) (hl:s.length≤1000000) (B w:World) (I:Im) (As:List X9) (hS:Sat B w I As) :
  Calls Tryz.prog 96 [S s,U8 47].toArray w (Ret fun v w'=>Sat B w' I (Vec 9 1 v (spl s).length ((spl s).map S)::As)):=by
 refine calls Qf96 rfl Tryz.ntmps96 rfl (.seq (.q 1 rfl (.seq (.q 1 rfl (.seq (.q 1 rfl (.seq (.seq (.q 1 rfl (.block ?_))))))))))
 replace hS:=hS.vecNil 9 1
 refine WC.loop (σ:=Value×List (List UInt8)×Nat×Nat) (fun ⟨kv,out,fr,i⟩=>[(0,S s),(1,U8 47),(5,kv),(6,I64 (fr:Nat)),(7,I64 (i:Nat))]) (fun ⟨kv,out,fr,i⟩ w=>i≤s.length∧fr≤i∧spl s=out ++ spl (s.drop fr)∧(∀ j,fr≤j→j<i→at_ s (j:Int)≠47)∧Sat B w I (Vec 9 1 kv out.length (out.map S)::As)) (fun ⟨kv,out,fr,i⟩=>s.length - i) (.slice none 0 0,[],0,0) ⟨rfl,rfl,rfl,rfl,rfl,trivial⟩ ⟨Yp _,Yp _,rfl,fun _ h1 h2=>by (try dsimp only at h1 h2); omega,hS⟩ ?_
 rintro ⟨kv,out,fr,i⟩ w ⟨hi,hfi,hsp,hno,hS⟩
 change WC _ _ _ _ [(0,S s),(1,U8 47),(5,kv),(6,I64 (fr:Nat)),(7,I64 (i:Nat))] w
 refine .seq (.seq (.region (.run 4 rfl ⟨Qu9,trivial⟩ (.nil ?_))))
 refine WC.cond rfl (fun hb11=>?_) (fun hb11=>?_)
 ·
  have hc11:=hb11; try simp only [Y5] at hc11
  refine .skip (.seq (.block (.seq (.region (.run 5 rfl ⟨⟨⟨by omega,by omega⟩,Qu9⟩,trivial⟩ (.nil ?_))))))
  refine WC.cond rfl (fun hb18=>?_) (fun hb18=>?_)
  ·
   have hc18:=hb18; try simp only [Y5] at hc18
   refine .seq ?_
   have hto:=congrArg List.length hsp
   rw [Y0] at hto
   have hlt:=X27 (spl s)
   rw [X2x] at hlt
   have hsn:1≤(spl (s.drop fr)).length:=Y1q.2 (X7n _)
   obtain ⟨ka,kc,rfl,hkc,_⟩:=hS.vecSlice (k:=0) (v:=kv) rfl
   refine .t 4 rfl (.val (.sub3 (.of rfl) (.of rfl) (.of rfl) (by omega) (by omega) (by omega) Qu9) rfl ?_)
   simp only [Yk]
   refine .buildSlice (cs:=[_]) hS (X5 (.of rfl) X6) X1f Qs9 Qz9 rfl rfl rfl rfl ?_
   clear hS; intro b24 w hS
   refine WL.append (size:=1) (bytes:=16) hS (.of rfl) (.of rfl) (k:=0) rfl X1f X1h rfl rfl rfl rfl rfl rfl rfl ⟨by omega,by unfold maxLen; omega⟩ rfl ?_
   clear hS; intro v25 w hS; try dsimp only [List.set] at hS
   obtain ⟨a25,c25,rfl,hcap25,_⟩:=hS.vecSlice (k:=0) (v:=v25) rfl
   refine .q 1 rfl (.nil (.region (.run 3 rfl ⟨⟨by omega,by omega⟩,trivial⟩ (.nil (.region (.run 3 rfl ⟨⟨by omega,by omega⟩,trivial⟩ (.nil ?_)))))))
   refine ⟨(_,out ++ [(s.drop fr).take (i - fr)],i+1,i+1),⟨rfl,rfl,rfl,rfl,rfl,trivial⟩,⟨by (try dsimp only); omega,by (try dsimp only); omega,?_,fun j h1 h2=>by (try dsimp only at h1 h2); omega,?_⟩,by (try dsimp only); omega⟩
   ·rw [hsp,Xa6 (s:=s.drop fr) (i:=i - fr) (by rw [Y1d,show fr+(i - fr)=i by omega,Xq (by omega)]; congr 1; exact Yz.1 (by show (at_ s (i:Int)).toNat=47; simp only [beq_iff_eq] at hb18; omega)) (fun q hq e=>by
     rw [Y1d,Xq (by omega)] at e
     injection e with e
     exact hno (fr+q) (by omega) (by omega) e),Y1l,show fr+(i - fr+1)=i+1 by omega,Y8]
    rfl
   ·rw [Yy,Y0]; exact hS
  have hc18:=hb18; try simp only [Y5] at hc18
  refine .skip (.region (.run 3 rfl ⟨⟨by omega,by omega⟩,trivial⟩ (.nil ?_)))
  refine ⟨(_,out,fr,i+1),⟨rfl,rfl,rfl,rfl,rfl,trivial⟩,⟨by (try dsimp only); omega,by (try dsimp only); omega,hsp,fun j h1 h2=>?_,hS⟩,by (try dsimp only); omega⟩
  rcases Yv j i with h3 | h3
  ·exact hno j h1 h3
  ·have e:j=i:=by (try dsimp only at h2); omega
   subst e
   simp only [beq_eq_false_iff_ne] at hb18
   exact fun e=>hb18 (by rw [e]; rfl)
 have hc11:=hb11; try simp only [Y5] at hc11
 refine .exit (.seq ?_)
 have hto:=congrArg List.length hsp
 rw [Y0] at hto
 have hlt:=X27 (spl s)
 rw [X2x] at hlt
 have hsn:1≤(spl (s.drop fr)).length:=Y1q.2 (X7n _)
 obtain ⟨ka,kc,rfl,hkc,_⟩:=hS.vecSlice (k:=0) (v:=kv) rfl
 refine .t 3 rfl (.val (.subFrom (.of rfl) (.of rfl) (by omega) (by omega) Qu9) rfl ?_)
 simp only [Yk]
 refine .buildSlice (cs:=[_]) hS (X5 (.of rfl) X6) X1f Qs9 Qz9 rfl rfl rfl rfl ?_
 clear hS; intro b32 w hS
 refine WL.append (size:=1) (bytes:=16) hS (.of rfl) (.of rfl) (k:=0) rfl X1f X1h rfl rfl rfl rfl rfl rfl rfl ⟨by omega,by unfold maxLen; omega⟩ rfl ?_
 clear hS; intro v33 w hS; try dsimp only [List.set] at hS
 obtain ⟨a33,c33,rfl,hcap33,_⟩:=hS.vecSlice (k:=0) (v:=v33) rfl
 refine .q 1 rfl (.nil (.ret (Xe Tryz.results96 rfl ?_)))
 have hend:spl s=out ++ [s.drop fr]:=by
  rw [hsp,X4g (s.drop fr) fun x hx ex=>?_]
  obtain ⟨q,hq⟩:=Y1j.1 hx
  rw [Y1d] at hq
  have hql:=(Y4.1 hq).1
  rw [Xq hql] at hq
  injection hq with hq
  exact hno (fr+q) (by omega) (by omega) (hq.trans ex)
 refine ⟨_,rfl,?_⟩
 rw [hend,Yy,Y0]
 exact hS
end Go.Proofs.YtfibbpgikjggfaaGreatDoor
namespace Ul
open Pc Gk
theorem Xkp {r t:List UInt8} {v:UInt8} (h:told r=some v):told (r ++ t)=some v:=by
 match r,h with
 | a::b::_,h=>exact h
 | [_],h=>simp [told] at h
 | [],h=>simp [told] at h
theorem Xkg:∀ (n:Nat) (a b a':List UInt8),a.length≤n→X2s a=some a'→X2s (a ++ b)=(X2s b).map (a' ++ ·):=by
 intro n
 induction n with
 | zero =>
  intro a b a' hn h
  have:=Ye (Y4c.1 hn)
  subst this
  rw [X17] at h; injection h with h; subst h
  rw [Yc]
  cases hb:X2s b <;> simp
 | succ n ih =>
  intro a b a' hn h
  cases a with
  | nil =>
   rw [X17] at h; injection h with h; subst h
   cases hb:X2s b <;> simp [hb]
  | cons c r =>
   simp only [Y6] at hn
   rw [Xo] at h
   rw [Yu,Xo]
   by_cases hc:c=37
   ·rw [if_pos hc] at h ⊢
    cases ht:told r with
    | none=>rw [ht] at h; cases h
    | some v =>
     rw [ht] at h
     rw [Xkp ht]
     simp only at h ⊢
     have hl:=X1y ht
     obtain ⟨u,hu,rfl⟩:=Y14.1 h
     rw [Y1z hl,ih (r.drop 2) b u (by rw [Yj]; omega) hu,Y4l]
     congr 1
     funext x
     simp
   ·rw [if_neg hc] at h ⊢
    obtain ⟨u,hu,rfl⟩:=Y14.1 h
    rw [ih r b u (by omega) hu,Y4l]
    rfl
def Fix (s:List UInt8):Prop:=X2s s=some s
theorem Fix.nil:Fix []:=X17
theorem Fix.app {a b:List UInt8} (h:Fix a) (k:Fix b):Fix (a ++ b):=by
 unfold Fix at *
 rw [Xkg a.length a b a (Ys _) h,k]; rfl
theorem Fix.cons {c:UInt8} {b:List UInt8} (h:c≠37) (k:Fix b):Fix (c::b):=by
 unfold Fix at *
 rw [Xo,if_neg h,k]; rfl
theorem Xej (v:UInt8) (u:List UInt8):told (X9b (v.toNat / 16)::X9b (v.toNat % 16)::u)=some v:=by
 have:=Xj (p:=fun v=>decide (0≤X2b (X9b (v.toNat / 16))) && decide (0≤X2b (X9b (v.toNat % 16))) && (byteOf (X9b (v.toNat / 16)) (X9b (v.toNat % 16)) == v)) (by decide +kernel) v
 simp only [Yn,decide_eq_true_eq,beq_iff_eq] at this
 show (if X2b (X9b (v.toNat / 16))<0∨X2b (X9b (v.toNat % 16))<0 then none else some (byteOf (X9b (v.toNat / 16)) (X9b (v.toNat % 16))))=some v
 rw [if_neg (by omega),this.2]
theorem X51 {v:UInt8} (h:plain v=true):v≠37:=fun e=>by subst e; revert h; decide
theorem Xdh (v:UInt8):Fix (one v):=by
 unfold one
 by_cases h:plain v=true
 ·rw [if_pos h]; exact Fix.cons (X51 h) Fix.nil
 ·rw [if_neg h]
  unfold Fix X7a
  rw [Xo,if_pos rfl,Xej]
  simp only [Y9,Yl,X17,Y3f,Yg]
  unfold one
  rw [if_neg h]; rfl
theorem Xfa:∀ (n:Nat) (s t:List UInt8),s.length≤n→X2s s=some t→Fix t:=by
 intro n
 induction n with
 | zero =>
  intro s t hn h
  have:=Ye (Y4c.1 hn)
  subst this
  rw [X17] at h; injection h with h; subst h; exact Fix.nil
 | succ n ih =>
  intro s t hn h
  cases s with
  | nil=>rw [X17] at h; injection h with h; subst h; exact Fix.nil
  | cons c r =>
   simp only [Y6] at hn
   rw [Xo] at h
   by_cases hc:c=37
   ·rw [if_pos hc] at h
    cases ht:told r with
    | none=>rw [ht] at h; cases h
    | some v =>
     rw [ht] at h
     simp only at h
     obtain ⟨u,hu,rfl⟩:=Y14.1 h
     exact (Xdh v).app (ih _ u (by rw [Yj]; omega) hu)
   ·rw [if_neg hc] at h
    obtain ⟨u,hu,rfl⟩:=Y14.1 h
    exact Fix.cons hc (ih r u (by omega) hu)
theorem Xcd:∀ (n:Nat) (a b:List UInt8),a.length≤n→Fix (a ++ 47::b)→Fix a∧Fix b:=by
 intro n
 induction n with
 | zero =>
  intro a b hn h
  have:=Ye (Y4c.1 hn)
  subst this
  refine ⟨Fix.nil,?_⟩
  unfold Fix at h ⊢
  rw [Yc,Xo,if_neg (by decide)] at h
  obtain ⟨u,hu,e⟩:=Y14.1 h
  injection e with _ e
  rw [hu,e]
 | succ n ih =>
  intro a b hn h
  cases a with
  | nil=>exact ih [] b (by simp) h
  | cons c r =>
   simp only [Y6] at hn
   unfold Fix at h
   rw [Yu,Xo] at h
   by_cases hc:c=37
   ·subst hc
    rw [if_pos rfl] at h
    match r,hn,h with
    | [],_,h =>
     exfalso
     cases b with
     | nil=>simp [told] at h
     | cons x b=>simp [told,show X2b 47=-1 from by decide] at h
    | [x],_,h =>
     exfalso
     simp [told,show X2b 47=-1 from by decide] at h
    | x::y::r,hn,h =>
     cases ht:told ((x::y::r) ++ 47::b) with
     | none=>rw [ht] at h; cases h
     | some v =>
      rw [ht] at h
      simp only [Yu,Y9,Yl] at h
      obtain ⟨u,hu,e⟩:=Y14.1 h
      by_cases hp:plain v=true
      ·exfalso
       unfold one at e
       rw [if_pos hp] at e
       injection e with e _
       exact X51 hp e
      ·unfold one at e
       rw [if_neg hp] at e
       simp only [X7a,Yu,Yc,List.cons.injEq,true_and] at e
       obtain ⟨e1,e2,e3⟩:=e
       subst e3
       obtain ⟨h1,h2⟩:=ih r b (by simp only [Y6] at hn; omega) hu
       refine ⟨?_,h2⟩
       have:=(Xdh v).app h1
       unfold one at this
       rw [if_neg hp] at this
       simp only [X7a,e1,e2,Yu,Yc] at this
       exact this
   ·rw [if_neg hc] at h
    obtain ⟨u,hu,e⟩:=Y14.1 h
    injection e with _ e
    subst e
    obtain ⟨h1,h2⟩:=ih r b (by omega) hu
    exact ⟨Fix.cons hc h1,h2⟩
theorem Xkh (s:List UInt8):(∀ x∈s,x≠47)∧spl s=[s]∨∃ a b,s=a ++ 47::b∧(∀ x∈a,x≠47)∧spl s=a::spl b:=by
 induction s with
 | nil=>exact .inl ⟨fun x h=>by simp at h,rfl⟩
 | cons c r ih =>
  by_cases hc:c=47
  ·subst hc
   exact .inr ⟨[],r,rfl,fun x h=>by simp at h,by rw [spl,if_pos rfl]⟩
  ·rcases ih with ⟨h1,h2⟩ | ⟨a,b,rfl,h1,h2⟩
   ·have h3:∀ x∈c::r,x≠47:=fun x hx=>by
     rcases Y17.1 hx with e | e
     ·subst e; exact hc
     ·exact h1 x e
    exact .inl ⟨h3,X4g _ h3⟩
   ·have h3:∀ x∈c::a,x≠47:=fun x hx=>by
     rcases Y17.1 hx with e | e
     ·subst e; exact hc
     ·exact h1 x e
    exact .inr ⟨c::a,b,rfl,h3,Xag (c::a) b h3⟩
structure Piece (p:UInt8→Bool) (x:List UInt8):Prop where
 fix:Fix x
 no:∀ c∈x,c≠47
 all:x.all p=true
theorem Xjh {p:UInt8→Bool}:∀ (n:Nat) (s:List UInt8),s.length≤n→Fix s→s.all p=true→∀ x∈spl s,Piece p x:=by
 intro n
 induction n with
 | zero =>
  intro s hn h hp x hx
  have:=Ye (Y4c.1 hn)
  subst this
  simp [spl] at hx
  subst hx
  exact ⟨Fix.nil,fun c h=>by simp at h,rfl⟩
 | succ n ih =>
  intro s hn h hp x hx
  rcases Xkh s with ⟨h1,h2⟩ | ⟨a,b,rfl,h1,h2⟩
  ·rw [h2] at hx
   simp at hx
   subst hx
   exact ⟨h,h1,hp⟩
  ·rw [h2] at hx
   obtain ⟨f1,f2⟩:=Xcd a.length a b (Ys _) h
   rw [Y27,Yn,Y20,Yn] at hp
   rcases Y17.1 hx with e | e
   ·subst e; exact ⟨f1,h1,hp.1⟩
   ·refine ih b ?_ f2 hp.2.2 x e
    simp only [Y0,Y6] at hn; omega
theorem Xen {Q:List UInt8→Prop}:∀ (l k:List (List UInt8)),(∀ x∈l,Q x)→(∀ x∈k,Q x∧X1w x=false)→∀ x∈l.foldl keep k,Q x∧X1w x=false
 | [],k,_,hk,x,hx=>hk x hx
 | a::l,k,hl,hk,x,hx=>by
  rw [Y3e] at hx
  refine Xen l (keep k a) (fun x hx=>hl x (by simp [hx])) (fun y hy=>?_) x hx
  unfold keep at hy
  split at hy
  ·exact hk y hy
  ·rename_i h1
   split at hy
   ·exact hk y (List.dropLast_subset _ hy)
   ·rename_i h2
    rcases Y12.1 hy with e | e
    ·exact hk y e
    ·simp at e
     subst e
     refine ⟨hl _ (by simp),?_⟩
     unfold X1w
     simp [h1,h2]
theorem Xeh:∀ (l k:List (List UInt8)),(∀ x∈l,X1w x=false)→l.foldl keep k=k ++ l
 | [],k,_=>by simp
 | a::l,k,h=>by
  have ha:=h a (by simp)
  unfold X1w at ha
  simp only [Y1g,beq_eq_false_iff_ne] at ha
  rw [Y3e,Xeh l _ (fun x hx=>h x (by simp [hx])),keep,if_neg ha.1,if_neg ha.2,Y8]
  rfl
theorem X7h:∀ (k:List (List UInt8)) (e:List UInt8),(∀ x∈k,∀ c∈x,c≠47)→(∀ c∈e,c≠47)→Xf k ++ 47::e=47::((k.map (· ++ [47])).flatten ++ e)∧spl ((k.map (· ++ [47])).flatten ++ e)=k ++ [e]
 | [],e,_,he=>⟨by simp [Xf],by simpa using X4g e he⟩
 | a::k,e,hk,he=>by
  obtain ⟨h1,h2⟩:=X7h k e (fun x hx=>hk x (by simp [hx])) he
  refine ⟨?_,?_⟩
  ·have:Xf (a::k)=47::a ++ Xf k:=by simp [Xf]
   rw [this,Y8,h1]
   simp
  ·rw [Y1c,Y1t,Y8,Y8,Yu,Yc,Xag a _ (hk a (by simp)),h2]
   rfl
theorem X6o (k:List (List UInt8)) (e:List UInt8) (hk:∀ x∈k,∀ c∈x,c≠47) (he:∀ c∈e,c≠47) (hkd:∀ x∈k,X1w x=false) (hed:X1w e=false):X2z (Xf k ++ 47::e)=Xf k ++ 47::e:=by
 obtain ⟨h1,h2⟩:=X7h k e hk he
 have h3:∀ x∈k ++ [e],X1w x=false:=fun x hx=>by
  rcases Y12.1 hx with h | h
  ·exact hkd x h
  ·simp at h; subst h; exact hed
 rw [h1,X2z,if_pos rfl,h2,Xeh _ _ h3,Yc,← h1,X3d]
 have:((k ++ [e]).getLastD [])=e:=by simp [Y2p]
 rw [this,hed]
 simp
theorem X8t {p:UInt8→Bool} (h47:p 47=true):∀ (k:List (List UInt8)),(∀ x∈k,x.all p=true)→(Xf k).all p=true
 | [],_=>rfl
 | a::k,h=>by
  have:Xf (a::k)=47::a ++ Xf k:=by simp [Xf]
  rw [this,Y27,Y20,h47,h a (by simp),X8t h47 k (fun x hx=>h x (by simp [hx]))]
  rfl
theorem X7r:∀ (k:List (List UInt8)),(∀ x∈k,Fix x)→Fix (Xf k)
 | [],_=>Fix.nil
 | a::k,h=>by
  have:Xf (a::k)=47::a ++ Xf k:=by simp [Xf]
  rw [this]
  exact (Fix.cons (by decide) (h a (by simp))).app (X7r k (fun x hx=>h x (by simp [hx])))
theorem Xhp {p:UInt8→Bool} (h47:p 47=true) {s:List UInt8} (hf:Fix s) (hp:s.all p=true) (h0:s.head?=some 47):X2z (X2z s)=X2z s∧Fix (X2z s)∧(X2z s).all p=true∧(X2z s).head?=some 47:=by
 cases s with
 | nil=>cases h0
 | cons c r =>
  simp at h0
  subst h0
  have hfr:Fix r:=(Xcd 0 [] r (Ys _) hf).2
  rw [Y20,Yn] at hp
  have hpc:=Xjh r.length r (Ys _) hfr hp.2
  have hk:=Xen (Q:=Piece p) (spl r) [] hpc (fun x h=>by simp at h)
  rw [show X2z (47::r)=Xf ((spl r).foldl keep []) ++ (if X1w ((spl r).getLastD []) || ((spl r).foldl keep []).length == 0 then [47] else []) from by rw [X2z,if_pos rfl]]
  generalize (spl r).foldl keep []=k at hk ⊢
  have noe:∀ c∈([]:List UInt8),c≠47:=fun c h=>by simp at h
  have hsf:=X7r k (fun x hx=>(hk x hx).1.fix)
  have hsa:=X8t h47 k (fun x hx=>(hk x hx).1.all)
  split
  ·refine ⟨X6o k [] (fun x hx=>(hk x hx).1.no) noe (fun x hx=>(hk x hx).2) rfl,hsf.app (Fix.cons (by decide) Fix.nil),?_,?_⟩
   ·rw [Y27,hsa,Y20,h47]; rfl
   ·cases k with
    | nil=>rfl
    | cons a k=>rfl
  ·rename_i hc
   simp only [Y1w,not_or,beq_iff_eq] at hc
   rw [Yg]
   obtain ⟨k',e,rfl⟩:∃ k' e,k=k' ++ [e]:=⟨k.dropLast,k.getLast (fun h=>hc.2 (by rw [h]; rfl)),(Y2y _).symm⟩
   have he:=hk e (by simp)
   refine ⟨?_,hsf,hsa,?_⟩
   ·rw [X3d]
    exact X6o k' e (fun x hx=>(hk x (by simp [hx])).1.no) he.1.no (fun x hx=>(hk x (by simp [hx])).2) he.2
   ·cases k' with
    | nil=>rfl
    | cons a k'=>rfl
theorem Xi0 {p:UInt8→Bool} (hp:∀ v,plain v=true→p v=true) (h37:p 37=true) (v:UInt8):(one v).all p=true:=by
 unfold one
 by_cases h:plain v=true
 ·rw [if_pos h,Y20,hp v h]; rfl
 ·have hx:=Xj (p:=fun v=>plain (X9b (v.toNat / 16)) && plain (X9b (v.toNat % 16))) (by decide +kernel) v
  rw [Yn] at hx
  rw [if_neg h,X7a,Y20,h37,Y20,hp _ hx.1,Y20,hp _ hx.2]
  rfl
theorem Xf7 {p:UInt8→Bool} (hp:∀ v,plain v=true→p v=true) (h37:p 37=true):∀ (n:Nat) (s t:List UInt8),s.length≤n→s.all p=true→X2s s=some t→t.all p=true:=by
 intro n
 induction n with
 | zero =>
  intro s t hn hs h
  have:=Ye (Y4c.1 hn)
  subst this
  rw [X17] at h; injection h with h; subst h; rfl
 | succ n ih =>
  intro s t hn hs h
  cases s with
  | nil=>rw [X17] at h; injection h with h; subst h; rfl
  | cons c r =>
   simp only [Y6] at hn
   rw [Y20,Yn] at hs
   rw [Xo] at h
   by_cases hc:c=37
   ·rw [if_pos hc] at h
    cases ht:told r with
    | none=>rw [ht] at h; cases h
    | some v =>
     rw [ht] at h
     simp only at h
     obtain ⟨u,hu,rfl⟩:=Y14.1 h
     rw [Y27,Xi0 hp h37 v,ih _ u (by rw [Yj]; omega) (Y18.2 fun x hx=>Y18.1 hs.2 x (List.mem_of_mem_drop hx)) hu]
     rfl
   ·rw [if_neg hc] at h
    obtain ⟨u,hu,rfl⟩:=Y14.1 h
    rw [Y20,hs.1,ih r u (by omega) hs.2 hu]; rfl
def X36 (c:UInt8):Bool:=X14 c && c != 63
theorem X54 (v:UInt8) (h:plain v=true):X36 v=true:=by
 have:=Xj (p:=fun v=>!plain v || X36 v) (by decide +kernel) v
 simp only [h,Bool.not_true,Y3i] at this
 exact this
theorem X6q {s:List UInt8} (h:s.all X36=true):s.all X14=true:=by
 rw [Y18] at h ⊢
 intro x hx
 have:=h x hx
 unfold X36 at this
 rw [Yn] at this
 exact this.1
theorem X3x {ats a b:List UInt8} (ha:∀ c∈a,ats.contains c=false) (hb:∀ c,b.head?=some c→ats.contains c=true):upto ats (a ++ b)=a∧X7 ats (a ++ b)=b:=by
 induction a with
 | nil =>
  cases b with
  | nil=>exact ⟨rfl,rfl⟩
  | cons c b =>
   have:=hb c rfl
   unfold upto X7
   rw [Yc,Y2t,Y3a,this]
   exact ⟨rfl,rfl⟩
 | cons c a ih =>
  have h1:=ha c (by simp)
  obtain ⟨h2,h3⟩:=ih (fun x hx=>ha x (by simp [hx]))
  simp only [upto,X7] at h2 h3 ⊢
  rw [Yu,Y2t,Y3a,h1]
  exact ⟨congrArg (c::·) h2,h3⟩
theorem Xmu {p:UInt8→Bool}:∀ {l:List UInt8} {x:UInt8},x∈l.takeWhile p→p x=true
 | [],_,h=>by simp at h
 | a::l,x,h=>by
  rw [Y2t] at h
  split at h
  ·rename_i ha
   rcases Y17.1 h with e | e
   ·subst e; exact ha
   ·exact Xmu e
  ·simp at h
theorem lo_lo (c:UInt8):lo (lo c)=lo c:=eq_of_beq (Xj (p:=fun c=>lo (lo c) == lo c) (by decide +kernel) c)
theorem Xoj (s:List UInt8):low (low s)=low s:=by
 unfold low
 rw [List.map_map]
 exact List.map_congr_left fun c _=>lo_lo c
theorem Xfr:∀ (n:Nat),val (Go.Lib.decDigits n)=n∧(Go.Lib.decDigits n).all X8u=true∧(0<n→(Go.Lib.decDigits n).head?≠some 48)∧Go.Lib.decDigits n≠[]:=by
 have dig:∀ d,d<10→(UInt8.ofNat (48+d)).toNat=48+d∧X8u (UInt8.ofNat (48+d))=true:=fun d hd=>by
  have h:=(by decide:∀ d:Fin 10,(UInt8.ofNat (48+d.val)).toNat=48+d.val∧X8u (UInt8.ofNat (48+d.val))=true) ⟨d,hd⟩
  exact h
 intro n
 induction n using Nat.strongRecOn with
 | _ n ih =>
  rw [Go.Lib.decDigits]
  by_cases h:n<10
  ·rw [dif_pos h]
   obtain ⟨h1,h2⟩:=dig n h
   refine ⟨?_,?_,fun h0=>?_,by simp⟩
   ·simp only [val,Y3e,List.foldl_nil,h1]; omega
   ·rw [Y20,h2]; rfl
   ·simp only [List.head?_cons,Option.some.injEq,ne_eq]
    intro e
    rw [e] at h1
    have:(48:UInt8).toNat=48:=rfl
    omega
  ·rw [dif_neg h]
   obtain ⟨h1,h2⟩:=dig (n % 10) (by omega)
   obtain ⟨i1,i2,i3,i4⟩:=ih (n / 10) (by omega)
   refine ⟨?_,?_,fun _=>?_,by simp⟩
   ·rw [Xhs,i1,h1]; omega
   ·rw [Y27,i2,Y20,h2]; rfl
   ·rw [List.head?_append]
    cases hd:(Go.Lib.decDigits (n / 10)).head? with
    | none=>exact absurd (List.head?_eq_none_iff.1 hd) i4
    | some x =>
     have:=i3 (by omega)
     rw [hd] at this
     exact this
structure Good (u:U):Prop where
 sch:u.sch=Xcj∨u.sch=X3t
 host:X25 u.host=true∧low u.host=u.host
 port:u.port≤65535∧u.port≠Xju u.sch
 path:X2z u.path=u.path∧Fix u.path∧u.path.all X36=true∧u.path.head?=some 47
 query:Fix u.query∧u.query.all X14=true∧(u.ask=false→u.query=[])
theorem Xc2 {sch host:List UInt8} {port:Nat} {r:List UInt8} (h1:sch=Xcj∨sch=X3t) (h2:X25 host=true∧low host=host) (h3:port≤65535∧port≠Xju sch) (hr:∀ c,r.head?=some c→c=47∨c=63∨c=35) (h:(X2k sch host port r).2=0):Good (X2k sch host port r).1:=by
 unfold X2k at h ⊢
 cases hp:Xy (upto [63] r) with
 | none=>rw [hp] at h; cases h
 | some p =>
  rw [hp] at h
  cases hq:Xy ((X7 [63] r).drop 1) with
  | none=>rw [hq] at h; cases h
  | some q =>
   simp only
   have hps:(upto [63] r).all X14=true∧X2s (upto [63] r)=some p:=by
    unfold Xy at hp
    split at hp
    ·rename_i e; exact ⟨e,hp⟩
    ·cases hp
   have hqs:((X7 [63] r).drop 1).all X14=true∧X2s ((X7 [63] r).drop 1)=some q:=by
    unfold Xy at hq
    split at hq
    ·rename_i e; exact ⟨e,hq⟩
    ·cases hq
   have hus:(upto [63] r).all X36=true:=by
    rw [Y18]
    intro x hx
    unfold X36
    rw [Y18.1 hps.1 x hx,Y3h,bne_iff_ne]
    intro e
    subst e
    unfold upto at hx
    have:=Xmu hx
    simp at this
   have hpf:Fix p:=Xfa _ _ _ (Ys _) hps.2
   have hpa:p.all X36=true:=Xf7 X54 (by decide) _ _ _ (Ys _) hus hps.2
   have hqf:Fix q:=Xfa _ _ _ (Ys _) hqs.2
   have hqa:q.all X14=true:=Xf7 (fun v hv=>by have:=X54 v hv; unfold X36 at this; rw [Yn] at this; exact this.1) (by decide) _ _ _ (Ys _) hqs.1 hqs.2
   refine ⟨h1,h2,h3,?_,hqf,hqa,fun ha=>?_⟩
   ·show X2z (if p=[] then [47] else X2z p)=_∧Fix (if p=[] then [47] else X2z p)∧(if p=[] then [47] else X2z p).all X36=true∧(if p=[] then [47] else X2z p).head?=some 47
    by_cases e:p=[]
    ·rw [if_pos e]
     exact ⟨(by decide:X2z [47]=[47]),Fix.cons (by decide) Fix.nil,(by decide:([47]:List UInt8).all X36=true),rfl⟩
    ·rw [if_neg e]
     refine Xhp (by decide) hpf hpa ?_
     -- the path's first byte
     cases hu:upto [63] r with
     | nil =>
      rw [hu,X17] at hps
      exact absurd (Option.some.inj hps.2).symm e
     | cons c s =>
      rw [hu] at hps
      have hc:r.head?=some c:=by
       have:=X22 [63] r
       rw [hu] at this
       rw [← this]; rfl
      have hc2:=Y18.1 hus c (by rw [hu]; simp)
      rcases hr c hc with e1 | e1 | e1
      ·subst e1
       have h4:=hps.2
       rw [Xo,if_neg (by decide)] at h4
       obtain ⟨u,_,rfl⟩:=Y14.1 h4
       rfl
      ·subst e1; exact absurd hc2 (by decide)
      ·subst e1; exact absurd hc2 (by decide)
   ·have hf:X7 [63] r=[]:=by simpa using ha
    rw [hf,Yo,X17] at hqs
    exact (Option.some.inj hqs.2).symm
theorem Xcf {ats s:List UInt8} {c:UInt8} (h:(X7 ats s).head?=some c):ats.contains c=true:=by
 unfold X7 at h
 have:=List.head?_dropWhile_not (fun c=>!ats.contains c) s
 rw [h] at this
 simpa using this
theorem Xo4 {s:List UInt8} (h:(pU s).2=0):Good (pU s).1:=by
 unfold pU at h ⊢
 by_cases h1:2000<s.length
 ·rw [if_pos h1] at h; cases h
 ·rw [if_neg h1] at h ⊢
  cases hs:Xv s with
  | none=>rw [hs] at h; cases h
  | some x =>
   obtain ⟨sch,r⟩:=x
   rw [hs] at h
   have hsch:sch=Xcj∨sch=X3t:=by
    unfold Xv at hs
    split at hs
    ·injection hs with hs; injection hs with e1 _; exact .inl e1.symm
    ·split at hs
     ·injection hs with hs; injection hs with e1 _; exact .inr e1.symm
     ·cases hs
   simp only at h ⊢
   by_cases hh:X25 (X16 r)=true
   ·rw [if_pos hh] at h ⊢
    have hho:X25 (X16 r)=true∧low (X16 r)=X16 r:=⟨hh,Xoj _⟩
    have own0:Xju sch≠0:=by unfold Xju; split <;> decide
    unfold behind at h ⊢
    by_cases ht:(X7 [47,63,35,58] r).take 1=[58]
    ·rw [if_pos ht] at h ⊢
     by_cases hp:Xu (upto [47,63,35] ((X7 [47,63,35,58] r).drop 1))=true
     ·rw [if_pos hp] at h ⊢
      refine Xc2 hsch hho ⟨Xjg hp,?_⟩ (fun c hc=>?_) h
      ·unfold X3k
       split
       ·exact fun e=>own0 e.symm
       ·rename_i e; exact e
      ·have:=Xcf hc
       simpa using this
     ·rw [if_neg hp] at h; cases h
    ·rw [if_neg ht] at h ⊢
     refine Xc2 hsch hho ⟨by decide,fun e=>own0 e.symm⟩ (fun c hc=>?_) h
     have:=Xcf hc
     have h58:c≠58:=fun e=>by
      subst e
      cases hx:X7 [47,63,35,58] r with
      | nil=>rw [hx] at hc; cases hc
      | cons a b=>rw [hx] at hc ht; simp at hc; subst hc; exact ht rfl
     simp only [Y47,List.contains_nil,Y1w,beq_iff_eq,Bool.or_false] at this
     rcases this with e | e | e | e
     ·exact .inl e
     ·exact .inr (.inl e)
     ·exact .inr (.inr e)
     ·exact absurd e h58
   ·rw [if_neg hh] at h; cases h
theorem Xc7 {u:U} (hu:Good u):X2k u.sch u.host u.port (u.path ++ (if u.ask then 63::u.query else []))=(u,0):=by
 obtain ⟨h1,h2,h3,⟨p1,p2,p3,p4⟩,q1,q2,q3⟩:=hu
 have hn:∀ c∈u.path,([63]:List UInt8).contains c=false:=fun c hc=>by
  have:=Y18.1 p3 c hc
  unfold X36 at this
  simp only [Yn,bne_iff_ne] at this
  simp [this.2]
 have hst:=X3x (ats:=[63]) (a:=u.path) (b:=if u.ask then 63::u.query else []) hn (fun c hc=>by
  cases ha:u.ask with
  | true=>rw [ha] at hc; simp at hc; subst hc; rfl
  | false=>rw [ha] at hc; simp at hc)
 have hp:Xy u.path=some u.path:=by unfold Xy; rw [if_pos (X6q p3)]; exact p2
 have hne:u.path≠[]:=fun e=>by rw [e] at p4; cases p4
 unfold X2k
 rw [hst.1,hst.2,hp]
 simp only
 have hq:Xy ((if u.ask=true then 63::u.query else []).drop 1)=some u.query:=by
  cases ha:u.ask with
  | true =>
   rw [if_pos rfl,Y9,Yl]
   unfold Xy; rw [if_pos q2]; exact q1
  | false =>
   rw [if_neg (by decide),q3 ha]; rfl
 rw [hq]
 simp only
 rw [if_neg hne,p1]
 have:(!(if u.ask=true then 63::u.query else []).isEmpty)=u.ask:=by cases u.ask <;> rfl
 rw [this]
theorem Xiy {u:U} (hu:Good u) (hl:(Xav u).length≤2000):pU (Xav u)=(u,0):=by
 have hu':=hu
 obtain ⟨h1,⟨ho,hlow⟩,h3,⟨p1,p2,p3,p4⟩,q1,q2,q3⟩:=hu'
 have hhost:∀ c∈u.host,X73 c=true:=by
  unfold X25 at ho
  rw [Yn] at ho
  exact fun c hc=>Y18.1 ho.2 c hc
 have hb:∀ c,X73 c=true→([47,63,35,58]:List UInt8).contains c=false:=fun c hc=>by
  have:=Xj (p:=fun c=>!X73 c || !([47,63,35,58]:List UInt8).contains c) (by decide +kernel) c
  rw [hc] at this
  simpa using this
 have hlen:¬ 2000<(Xav u).length:=by omega
 have hse:Xv (Xav u)=some (u.sch,u.host ++ ((if u.port=0 then [] else 58::Go.Lib.decDigits u.port) ++ (u.path ++ (if u.ask then 63::u.query else [])))):=by
  have e:Xav u=u.sch ++ ([58,47,47] ++ (u.host ++ ((if u.port=0 then [] else 58::Go.Lib.decDigits u.port) ++ (u.path ++ (if u.ask then 63::u.query else []))))):=by
   unfold Xav X30
   simp only [Y8]
  rw [e]
  generalize u.host ++ ((if u.port=0 then [] else 58::Go.Lib.decDigits u.port) ++ (u.path ++ (if u.ask then 63::u.query else [])))=R
  unfold Xv
  rcases h1 with h1 | h1
  ·rw [h1]
   have h7:low (List.take 7 (Xcj ++ ([58,47,47] ++ R)))=[104,116,116,112,58,47,47]:=rfl
   simp only [h7,if_true]
   rfl
  ·rw [h1]
   have h7:low (List.take 7 (X3t ++ ([58,47,47] ++ R)))=[104,116,116,112,115,58,47]:=rfl
   have h8:low (List.take 8 (X3t ++ ([58,47,47] ++ R)))=[104,116,116,112,115,58,47,47]:=rfl
   have hne:¬ ([104,116,116,112,115,58,47]:List UInt8)=[104,116,116,112,58,47,47]:=by decide
   simp only [h7,h8,hne,if_true,if_false]
   rfl
 obtain ⟨ps,hps⟩:∃ ps,u.path=47::ps:=by
  cases hp:u.path with
  | nil=>rw [hp] at p4; cases p4
  | cons c ps=>rw [hp] at p4; simp at p4; subst p4; exact ⟨ps,rfl⟩
 have hst:=X3x (ats:=[47,63,35,58]) (a:=u.host) (b:=(if u.port=0 then [] else 58::Go.Lib.decDigits u.port) ++ (u.path ++ (if u.ask then 63::u.query else []))) (fun c hc=>hb c (hhost c hc)) (fun c hc=>by
  by_cases h0:u.port=0
  ·rw [if_pos h0,hps] at hc; simp at hc; subst hc; rfl
  ·rw [if_neg h0] at hc; simp at hc; subst hc; rfl)
 have hho:X16 (u.host ++ ((if u.port=0 then [] else 58::Go.Lib.decDigits u.port) ++ (u.path ++ (if u.ask then 63::u.query else []))))=u.host:=by
  unfold X16
  rw [hst.1,hlow]
 unfold pU
 rw [if_neg hlen,hse]
 simp only
 rw [hho,if_pos ho,hst.2]
 unfold behind
 by_cases h0:u.port=0
 ·rw [if_pos h0,Yc,if_neg (by rw [hps]; simp)]
  have:=Xc7 hu
  rw [h0] at this
  exact this
 ·rw [if_neg h0]
  obtain ⟨v1,v2,v3,v4⟩:=Xfr u.port
  have hd:∀ c∈Go.Lib.decDigits u.port,([47,63,35]:List UInt8).contains c=false:=fun c hc=>by
   have h5:=Y18.1 v2 c hc
   have:=Xj (p:=fun c=>!X8u c || !([47,63,35]:List UInt8).contains c) (by decide +kernel) c
   rw [h5] at this
   simpa using this
  have hst2:=X3x (ats:=[47,63,35]) (a:=Go.Lib.decDigits u.port) (b:=u.path ++ (if u.ask then 63::u.query else [])) hd (fun c hc=>by rw [hps] at hc; simp at hc; subst hc; rfl)
  rw [if_pos (by simp),Yu,Y9,Yl,hst2.1,hst2.2]
  have hpk:Xu (Go.Lib.decDigits u.port)=true:=by
   unfold Xu
   rw [v1,v2]
   have:((Go.Lib.decDigits u.port).headD 0 == 48)=false:=by
    have h6:=v3 (by omega)
    cases hx:Go.Lib.decDigits u.port with
    | nil=>exact absurd hx v4
    | cons a b=>rw [hx] at h6; simpa using h6
   rw [this]
   simp only [Y36,Y4b,Y3h,Yn,decide_eq_true_eq]
   exact ⟨by omega,h3.1⟩
  rw [if_pos hpk]
  have hpv:X3k (Go.Lib.decDigits u.port) u.sch=u.port:=by
   unfold X3k
   rw [v1,if_neg h3.2]
  rw [hpv]
  exact Xc7 hu
def amp:List UInt8→List (List UInt8)
 | []=>[[]]
 | c::r=>if c=38 then []::amp r else match amp r with
  | []=>[[c]]
  | h::t=>(c::h)::t
theorem Xec (s:List UInt8):amp s≠[]:=by
 cases s with
 | nil=>simp [amp]
 | cons c r =>
  simp only [amp]
  split
  ·simp
  ·split <;> simp
theorem X5a:∀ (s:List UInt8),(∀ x∈s,x≠38)→amp s=[s]
 | [],_=>rfl
 | c::r,h=>by
  rw [amp,if_neg (h c (by simp)),X5a r (fun x hx=>h x (by simp [hx]))]
theorem Xjp:∀ (a b:List UInt8),(∀ x∈a,x≠38)→amp (a ++ 38::b)=a::amp b
 | [],b,_=>by show amp (38::b)=_; rw [amp,if_pos rfl]
 | c::r,b,h=>by
  show amp (c::(r ++ 38::b))=_
  rw [amp,if_neg (h c (by simp)),Xjp r b (fun x hx=>h x (by simp [hx]))]
theorem Xj5 {s:List UInt8} {i:Nat} (h:s[i]?=some 38) (hno:∀ k,k<i→s[k]?≠some 38):amp s=s.take i::amp (s.drop (i+1)):=by
 have hi:i<s.length:=(Y4.1 h).1
 have e:s=s.take i ++ 38::s.drop (i+1):=by
  conv=>lhs; rw [← Yw i s]
  rw [Y1e hi,(Y4.1 h).2]
 conv=>lhs; rw [e]
 refine Xjp _ _ fun x hx ex=>?_
 obtain ⟨k,hk⟩:=Y1j.1 hx
 rw [Y1v] at hk
 split at hk
 ·rename_i hki
  exact hno k hki (by rw [hk,ex])
 ·cases hk
theorem Xgu:∀ (n:Nat) (s:List UInt8),s.length≤n→Go.Lib.splitK [38] 0 (Go.Lib.count s [38]) s=amp s:=by
 intro n
 induction n with
 | zero =>
  intro s h
  have:s=[]:=Ye (by omega)
  subst this
  rfl
 | succ n ih =>
  intro s h
  have hge:=Go.Lib.indexByte_ge s 38
  by_cases e:Go.Lib.indexByte s 38=-1
  ·have hi:Go.Lib.index s [38]=-1:=by rw [Go.Lib.index_one]; exact e
   rw [Go.Lib.count_miss hi]
   refine (X5a s fun x hx ex=>?_).symm
   obtain ⟨k,hk⟩:=Y1j.1 hx
   exact Go.Lib.indexByte_none e k (by rw [hk,ex])
  ·obtain ⟨i,hk⟩:∃ k:Nat,Go.Lib.indexByte s 38=k:=⟨(Go.Lib.indexByte s 38).toNat,by omega⟩
   have hi:Go.Lib.index s [38]=i:=by rw [Go.Lib.index_one]; exact hk
   obtain ⟨h1,h2⟩:=Go.Lib.indexByte_some hk
   have hlt:i<s.length:=(Y4.1 h1).1
   rw [Go.Lib.count_hit (by simp) hi,Y43 1,Go.Lib.splitK,hi,if_neg (by simp),Xj5 h1 h2]
   show s.take ((i:Int).toNat+0)::Go.Lib.splitK [38] 0 (Go.Lib.count (s.drop (i+1)) [38]) (s.drop ((i:Int).toNat+1))=_
   rw [Yk,Y2d,ih (s.drop (i+1)) (by rw [Yj]; omega)]
theorem Xnh:∀ (n:Nat) (s:List UInt8),s.length≤n→(amp s).length=Go.Lib.count s [38]+1:=by
 intro n
 induction n with
 | zero =>
  intro s h
  have:s=[]:=Ye (by omega)
  subst this
  rfl
 | succ n ih =>
  intro s h
  have hge:=Go.Lib.indexByte_ge s 38
  by_cases e:Go.Lib.indexByte s 38=-1
  ·have hi:Go.Lib.index s [38]=-1:=by rw [Go.Lib.index_one]; exact e
   rw [Go.Lib.count_miss hi,X5a s fun x hx ex=>?_]
   ·rfl
   ·obtain ⟨k,hk⟩:=Y1j.1 hx
    exact Go.Lib.indexByte_none e k (by rw [hk,ex])
  ·obtain ⟨i,hk⟩:∃ k:Nat,Go.Lib.indexByte s 38=k:=⟨(Go.Lib.indexByte s 38).toNat,by omega⟩
   have hi:Go.Lib.index s [38]=i:=by rw [Go.Lib.index_one]; exact hk
   obtain ⟨h1,h2⟩:=Go.Lib.indexByte_some hk
   have hlt:i<s.length:=(Y4.1 h1).1
   rw [Go.Lib.count_hit (by simp) hi,Xj5 h1 h2,Y6,ih (s.drop (i+1)) (by rw [Yj]; omega)]
   show _=1+Go.Lib.count (s.drop (i+1)) [38]+1
   omega
theorem X65:∀ (s:List UInt8),tot (amp s)=s.length+1
 | []=>rfl
 | c::r=>by
  have ih:=X65 r
  simp only [amp]
  split
  ·simp only [tot,Y1c,Y3g] at ih ⊢
   simp only [Yh,Y6]
   omega
  ·split
   ·rename_i h; exact absurd h (Xec r)
   ·rename_i h
    rw [h] at ih
    simp only [tot,Y1c,Y3g,Y6] at ih ⊢
    omega
theorem Xit:∀ (a b:List UInt8),amp (a ++ 38::b)=amp a ++ amp b
 | [],b=>by show amp (38::b)=[]::amp b; rw [amp,if_pos rfl]
 | c::r,b=>by
  show amp (c::(r ++ 38::b))=_
  rw [amp,amp,Xit r b]
  split
  ·rfl
  ·cases h:amp r with
   | nil=>exact absurd h (Xec r)
   | cons x y=>rfl
def enc (s:List UInt8):List UInt8:=s.flatMap one
theorem Xa4 (c:UInt8) (s:List UInt8):enc (c::s)=one c ++ enc s:=rfl
theorem Xny (a b:List UInt8):enc (a ++ b)=enc a ++ enc b:=Y1o ..
theorem Xo3 (c:UInt8):1≤(one c).length∧(one c).length≤3:=by unfold one; split <;> simp [X7a]
theorem X1a:∀ (s:List UInt8),(enc s).length≤3*s.length
 | []=>Ys _
 | c::s=>by
  have:=X1a s
  have:=(Xo3 c).2
  rw [Xa4,Y0,Y6]; omega
def dB (p:Bool) (c:UInt8):UInt8:=if (p && c == 43)=true then 32 else c
def Xp5 (p:Bool):Nat→List UInt8→Option (List UInt8)
 | 0,_=>some []
 | _+1,[]=>some []
 | f+1,c::r=>if c=37 then match told r with
   | none=>none
   | some v=>(Xp5 p f (r.drop 2)).map (v::·)
  else (Xp5 p f r).map (dB p c::·)
def dec (p:Bool) (s:List UInt8):Option (List UInt8):=Xp5 p (s.length+1) s
theorem X82 (p:Bool):∀ (f g:Nat) (s:List UInt8),s.length<f→s.length<g→Xp5 p f s=Xp5 p g s
 | 0,_,_,h,_=>by omega
 | _+1,0,_,_,h=>by omega
 | f+1,g+1,[],_,_=>rfl
 | f+1,g+1,c::r,hf,hg=>by
  simp only [Xp5]
  split
  ·cases ht:told r with
   | none=>rfl
   | some v =>
    simp only
    have:=X1y ht
    simp only [Y6] at hf hg
    rw [X82 p f g (r.drop 2) (by rw [Yj]; omega) (by rw [Yj]; omega)]
  ·simp only [Y6] at hf hg
   rw [X82 p f g r (by omega) (by omega)]
theorem Xau (p:Bool):dec p []=some []:=rfl
theorem X1z (p:Bool) (c:UInt8) (r:List UInt8):dec p (c::r)=if c=37 then match told r with
   | none=>none
   | some v=>(dec p (r.drop 2)).map (v::·)
  else (dec p r).map (dB p c::·):=by
 unfold dec
 simp only [Y6,Xp5]
 split
 ·cases ht:told r with
  | none=>rfl
  | some v =>
   simp only
   have:=X1y ht
   rw [X82 p (r.length+1) ((r.drop 2).length+1) (r.drop 2) (by rw [Yj]; omega) (by omega)]
 ·rfl
theorem X52 (p:Bool):∀ (s t:List UInt8),dec p s=some t→t.length≤s.length:=by
 intro s
 induction hn:s.length using Nat.strongRecOn generalizing s with
 | _ n ih =>
  intro t h
  cases s with
  | nil=>rw [Xau] at h; injection h with h; subst h; simp
  | cons c r =>
   rw [X1z] at h
   simp only [Y6] at hn
   split at h
   ·cases ht:told r with
    | none=>rw [ht] at h; cases h
    | some v =>
     rw [ht] at h
     simp only at h
     cases hr:dec p (r.drop 2) with
     | none=>rw [hr] at h; cases h
     | some u =>
      rw [hr] at h
      simp at h
      subst h
      have:=ih (r.drop 2).length (by rw [Yj]; omega) (r.drop 2) rfl u hr
      rw [Yj] at this
      simp only [Y6]
      omega
   ·cases hr:dec p r with
    | none=>rw [hr] at h; cases h
    | some u =>
     rw [hr] at h
     simp at h
     subst h
     have:=ih r.length (by omega) r rfl u hr
     simp only [Y6]
     omega
theorem Xdd {v:UInt8} (h:plain v=true):v≠43:=fun e=>by subst e; revert h; decide
theorem Xnt (p:Bool) (c:UInt8) (t:List UInt8):dec p (one c ++ t)=(dec p t).map (c::·):=by
 unfold one
 split
 ·rename_i h
  show dec p (c::t)=_
  rw [X1z,if_neg (X51 h),dB,if_neg (by simp [Xdd h])]
 ·show dec p (37::(X9b (c.toNat / 16)::X9b (c.toNat % 16)::t))=_
  rw [X1z,if_pos rfl,Xej]; rfl
theorem Xht (p:Bool):∀ (s t:List UInt8),dec p (enc s ++ t)=(dec p t).map (s ++ ·)
 | [],t=>by simp [enc]
 | c::s,t=>by
  rw [Xa4,Y8,Xnt,Xht p s t]
  cases dec p t <;> rfl
theorem Xh1 (p:Bool) (s:List UInt8):dec p (enc s)=some s:=by
 have:=Xht p s []
 rw [Yg,Xau] at this
 simpa using this
theorem one_no {x:UInt8} (hx:plain x=false) (h37:x≠37) (hd:∀ n,n<16→X9b n≠x) (c:UInt8):x ∉ one c:=by
 unfold one
 split
 ·rename_i h
  intro hm
  rw [List.mem_singleton.1 hm,h] at hx; cases hx
 ·unfold X7a
  have hc:=c.toNat_lt
  intro hm
  simp only [Y17,List.not_mem_nil,or_false] at hm
  rcases hm with e | e | e
  ·exact h37 e
  ·exact hd _ (by omega) e.symm
  ·exact hd _ (by omega) e.symm
theorem Xmk {x:UInt8} (hx:plain x=false) (h37:x≠37) (hd:∀ n,n<16→X9b n≠x) (s:List UInt8):x ∉ enc s:=by
 intro hm
 obtain ⟨c,_,h⟩:=Y2l.1 hm
 exact one_no hx h37 hd c h
theorem Xn0 (s:List UInt8):∀ c∈enc s,c≠38:=fun c hc e=>Xmk (x:=38) (by decide) (by decide) (by decide) s (e ▸ hc)
theorem enc_61 (s:List UInt8):∀ c∈enc s,c≠61:=fun c hc e=>Xmk (x:=61) (by decide) (by decide) (by decide) s (e ▸ hc)
theorem Xd1:∀ (s:List UInt8),Fix (enc s)
 | []=>Fix.nil
 | c::s=>by rw [Xa4]; exact (Xdh c).app (Xd1 s)
abbrev Pq:=List UInt8×List UInt8
def X4h (x:List UInt8):Option Pq:=match dec true (upto [61] x) with
 | none=>none
 | some n=>match dec true ((X7 [61] x).drop 1) with
  | none=>none
  | some v=>some (n,v)
def X2a:List (List UInt8)→List Pq→List Pq×Nat
 | [],out=>(out,0)
 | x::r,out=>if x=[] then X2a r out else if 32≤out.length then ([],5) else match X4h x with
  | none=>([],11)
  | some p=>X2a r (out ++ [p])
def form (s:List UInt8):List Pq×Nat:=X2a (amp s) []
theorem X8c:∀ (l:List (List UInt8)) (out:List Pq),out.length≤32→(X2a l out).1.length≤32
 | [],out,h=>h
 | x::r,out,h=>by
  rw [X2a]
  split
  ·exact X8c r out h
  ·split
   ·exact Yp _
   ·cases hp:X4h x with
    | none=>exact Yp _
    | some p=>exact X8c r _ (by rw [Y0]; show _+1≤32; omega)
theorem X8s:∀ (a b:List (List UInt8)) (out:List Pq),X2a (a ++ b) out=if (X2a a out).2=0 then X2a b (X2a a out).1 else X2a a out
 | [],b,out=>by rw [Yc,X2a,if_pos rfl]
 | x::r,b,out=>by
  rw [Yu,X2a,X2a]
  split
  ·exact X8s r b out
  ·split
   ·rw [if_neg (by decide)]
   ·cases hp:X4h x with
    | none=>simp
    | some p=>exact X8s r b _
theorem Xeu (n v:List UInt8):X4h (enc n ++ 61::enc v)=some (n,v):=by
 have h:=X3x (ats:=[61]) (a:=enc n) (b:=61::enc v) (fun c hc=>by simpa using enc_61 n c hc) (fun c hc=>by simp at hc; subst hc; decide)
 unfold X4h
 rw [h.1,h.2,Xh1]
 show (match dec true (enc v) with | none=>none | some v=>some (n,v))=_
 rw [Xh1]
def Xck (q n v:List UInt8):List UInt8:=(if q=[] then [] else q ++ [38]) ++ (enc n ++ 61::enc v)
theorem Xew (n v:List UInt8):amp (enc n ++ 61::enc v)=[enc n ++ 61::enc v]:=X5a _ fun x hx=>by
 rcases Y12.1 hx with h | h
 ·exact Xn0 n x h
 ·rcases Y17.1 h with rfl | h
  ·decide
  ·exact Xn0 v x h
theorem Xev (q n v:List UInt8):form (Xck q n v)=if (form q).2=0 then (if 32≤(form q).1.length then ([],5) else ((form q).1 ++ [(n,v)],0)) else form q:=by
 have hne:enc n ++ 61::enc v≠[]:=by simp
 unfold form Xck
 split
 ·rename_i h
  subst h
  rw [Yc,Xew,X2a,if_neg hne,if_neg (by decide),Xeu]
  rfl
 ·rw [Y8,List.singleton_append,Xit,X8s,Xew]
  split
  ·rw [X2a,if_neg hne]
   split
   ·rfl
   ·rw [Xeu]; rfl
  ·rfl
theorem Xa7 (q n v:List UInt8):(Xck q n v).length≤q.length+2+3*n.length+3*v.length:=by
 have h1:=X1a n
 have h2:=X1a v
 unfold Xck
 split <;> simp only [Y0,Y6,Yh] <;> omega
theorem Xlu {q:List UInt8} (h:Fix q) (n v:List UInt8):Fix (Xck q n v):=by
 have hp:Fix (enc n ++ 61::enc v):=(Xd1 n).app ((Xd1 v).cons (by decide))
 unfold Xck
 split
 ·exact hp
 ·exact (h.app (Fix.nil.cons (c:=38) (by decide))).app hp
theorem Xbn (s:List UInt8):(enc s).all X14=true:=by
 rw [Y18]
 intro x hx
 obtain ⟨c,_,h⟩:=Y2l.1 hx
 have:=Xi0 (p:=X36) X54 (by decide) c
 exact Y18.1 (X6q this) x h
theorem Xgw {q:List UInt8} (h:q.all X14=true) (n v:List UInt8):(Xck q n v).all X14=true:=by
 have hp:(enc n ++ 61::enc v).all X14=true:=by
  rw [Y27,Xbn,Y20,Xbn]; decide
 unfold Xck
 split
 ·exact hp
 ·rw [Y27,Y27,h,hp]; decide
def Xjr (u:U) (n v:List UInt8):U:={ u with query:=Xck u.query n v,ask:=true }
theorem Xbu {u:U} (h:Good u) (n v:List UInt8):Good (Xjr u n v):=⟨h.sch,h.host,h.port,h.path,⟨Xlu h.query.1 n v,Xgw h.query.2.1 n v,fun e=>by cases e⟩⟩
end Ul
namespace Go.Proofs.YtfibbpgikjggfaaGreatDoor
open Gk Ul Pc
theorem X79 (s:List UInt8) (i:Nat) (h:i<s.length):enc (s.take (i+1))=enc (s.take i) ++ one (at_ s (i:Int)):=by
 rw [Y1a,Xq h,Xny]
 show _ ++ enc [_]=_
 rw [show enc [at_ s (i:Int)]=one (at_ s (i:Int)) ++ [] from rfl,Yg]
theorem Xm4 (s:List UInt8) (i:Nat) (h:i≤s.length):(enc (s.take i)).length≤3*i:=by
 have:=X1a (s.take i)
 rw [Yq] at this; omega
theorem Xhv {c:UInt8} (h:plain c=true):one c=[c]:=by rw [one,if_pos h]
theorem Xhc {c:UInt8} (h:plain c=false):one c=X7a c:=by rw [one,if_neg (by rw [h]; decide)]
set_option maxRecDepth 4000 in
theorem X9k (s:List UInt8) (hl:s.length≤1000000) (B w:World) (I:Im) (hd:DigAt I) (As:List X9) (hS:Sat B w I As) :
  Calls Tryz.prog 170 [S s].toArray w (Ret fun v w'=>v=S (enc s)∧Sat B w' I As):=by
 refine calls Tryz.func170 rfl Tryz.ntmps170 rfl (.seq (.q 1 rfl (.seq (.region (.allocA (cs:=[_,_]) hS Xp3 rfl ?_)))))
 clear hS; intro b3 w hS
 refine .nil (.seq (.seq (.region (.run 3 rfl ⟨Qu9,trivial⟩ (.nil (.block ?_))))))
 replace hS:=(hS.vecNil 5 1).pick 1 rfl; try dsimp only [List.eraseIdx] at hS
 refine .loop (σ:=Value×Value×Nat) (fun ⟨p,v,i⟩=>[(0,S s),(3,ptr b3 0),(7,I64 (s.length:Nat)),(8,I64 (i:Nat))]) (fun ⟨p,v,i⟩ w=>i≤s.length∧(p=.pointer none∨p=ptr b3 0)∧((enc (s.take i))=[]→v=.slice none 0 0)∧Sat B w I (blk b3 [p,v] 245::Vec 5 1 v ((enc (s.take i))).length (bcs ((enc (s.take i))))::As)) (fun ⟨p,v,i⟩=>s.length - i) (.pointer none,.slice none 0 0,0) ⟨rfl,rfl,rfl,rfl,trivial⟩ ⟨Yp _,.inl rfl,fun _=>rfl,hS⟩ ?_
 rintro ⟨p,v,i⟩ w ⟨hi,hp,hpv,hS⟩
 change WC _ _ _ _ [(0,S s),(3,ptr b3 0),(7,I64 (s.length:Nat)),(8,I64 (i:Nat))] w
 refine .seq (.q 1 rfl (.seq ?_))
 refine WC.cond rfl (fun hb9=>?_) (fun hb9=>?_)
 ·
  have hc9:=hb9; try simp only [Y5] at hc9
  refine .skip (.seq (.block (.seq (.q 2 rfl (.seq ?_)))))
  have hel:=Xm4 s i (by omega)
  refine .region (.run 4 rfl ⟨⟨⟨by omega,by omega⟩,Qu9⟩,trivial⟩ (.nil (.seq (.t 1 rfl (.call Xmd rfl (X0 (.of rfl) X4) rfl (X7t (at_ s (i:Int)) _) ?_)))))
  rintro _ _ ⟨rfl,rfl⟩
  refine .nil ?_
  refine WC.cond rfl (fun hb15=>?_) (fun hb15=>?_)
  ·
   have hc15:=hb15; try simp only [Y5] at hc15
   refine .t 1 rfl (.call Tryz.func205 rfl (X0 (.of rfl) (X0 (.of rfl) X4)) rfl (Xah b3 p v (enc (s.take i)) (at_ s (i:Int)) hp B w I _ hS (by omega)) ?_)
   clear hS
   rintro _ w ⟨rfl,v2,hS⟩
   refine .nil (.region (.run 2 rfl ⟨⟨by omega,by omega⟩,trivial⟩ (.nil ?_)))
   refine ⟨(ptr b3 0,v2,i+1),⟨rfl,rfl,rfl,rfl,trivial⟩,⟨by (try dsimp only); omega,.inr rfl,fun h=>absurd h ?_,?_⟩,by (try dsimp only); omega⟩
   ·try dsimp only
    rw [X79 s i (by omega),Xhv hb15]
    exact fun e=>by have:=congrArg List.length e; simp [X7a] at this
   ·try dsimp only
    rw [X79 s i (by omega),Xhv hb15]
    exact hS
  have hc15:=hb15; try simp only [Y5] at hc15
  refine .t 1 rfl (.call Tryz.func182 rfl (X0 (.of rfl) X4) rfl (X8f (at_ s (i:Int)) B w I hd _ hS) ?_)
  clear hS
  rintro _ w ⟨rfl,hS⟩
  refine WL.call Xgv rfl (X0 (.of rfl) (X0 (.of rfl) X4)) rfl (X13 b3 p v (enc (s.take i)) (X7a (at_ s (i:Int))) hp B w I _ hS (by simp only [X7a,Y6,Yh]; omega)) ?_
  clear hS
  rintro _ w ⟨rfl,v2,hS⟩
  refine .nil (.region (.run 2 rfl ⟨⟨by omega,by omega⟩,trivial⟩ (.nil ?_)))
  refine ⟨(ptr b3 0,v2,i+1),⟨rfl,rfl,rfl,rfl,trivial⟩,⟨by (try dsimp only); omega,.inr rfl,fun h=>absurd h ?_,?_⟩,by (try dsimp only); omega⟩
  ·try dsimp only
   rw [X79 s i (by omega),Xhc hb15]
   exact fun e=>by have:=congrArg List.length e; simp [X7a] at this
  ·try dsimp only
   rw [X79 s i (by omega),Xhc hb15]
   exact hS
 have hc9:=hb9; try simp only [Y5] at hc9
 refine .exit (.seq (.region (.call Xi6 rfl (X0 (.of rfl) X4) rfl (X6a b3 p v (enc (s.take i)) hpv B w I _ hS) ?_)))
 clear hS
 rintro _ w ⟨rfl,hS⟩
 refine .q 1 rfl (.nil (.ret (Xe Tryz.results170 rfl ?_)))
 refine ⟨_,rfl,?_,hS⟩
 rw [show i=s.length by omega,Y1b]
theorem X81 (c:UInt8) (b plus:Bool) (bp:Nat) (B w:World) (I:Im) (As:List X9) (hS:Sat B w I (blk bp [.bool plus] 4::As)) :
  Calls Tryz.prog 222 [U8 c.toNat,.bool b,ptr bp 0].toArray w (Ret fun v w'=>v=S [if b=true then c else dB plus c]∧Sat B w' I (blk bp [.bool plus] 4::As)):=by
 refine calls Tryz.func222 rfl Tryz.ntmps222 rfl (.seq (.q 1 rfl (.seq (.seq (.region (.val (.ld (.of rfl) hS (k:=0) rfl Qg4 rfl) rfl (.q 1 rfl (.gval rfl rfl (fun hg1=>(.move (.of rfl))) rfl (.gval rfl rfl (fun hg1=>(.not (.gd hg1 rfl))) rfl (.val (.pand (.of rfl) (.of rfl) (.of rfl)) rfl (.q 1 rfl (.gval rfl rfl (fun hg1=>(.move (.of rfl))) rfl (.gval rfl rfl (fun hg1=>(.eql (.gd hg1 rfl) (.of rfl))) rfl (.val (.pand (.of rfl) (.of rfl) (.of rfl)) rfl (.nil ?_)))))))))))))))
 refine WC.cond rfl (fun hb14=>?_) (fun hb14=>?_)
 ·
  have hc14:=hb14; try simp only [Y5] at hc14
  refine .seq (.q 1 rfl (.ret (Xe Tryz.results222 rfl ?_)))
  refine ⟨_,rfl,?_,hS⟩
  have hb:=hb14
  cases b
  ·simp only [Yn,beq_iff_eq,Y36,Y4b] at hb
   have e:c=43:=Yz.1 (by have:=hb.2; show c.toNat=43; omega)
   rw [if_neg (by decide),dB,hb.1,e]; rfl
  ·simp at hb
 have hc14:=hb14; try simp only [Y5] at hc14
 refine .skip (.seq (.t 1 rfl (.buildSlice (cs:=[_]) hS (X5 (.of rfl) X6) X19 Qs5 Qz5 rfl rfl rfl rfl ?_)))
 clear hS; intro b16 w hS
 refine .val (.str1 (c:=c) (.of rfl) hS (k:=0) rfl rfl X19 Qu5 Qu9) rfl (.q 1 rfl (.nil (.ret (Xe Tryz.results222 rfl ?_))))
 refine ⟨_,rfl,?_,hS.drop (k:=0) rfl⟩
 have hb:=hb14
 cases b
 ·rw [if_neg (by decide),dB,if_neg]
  intro h
  simp only [Yn,beq_iff_eq] at h
  rw [h.1,h.2] at hb
  revert hb; decide
 ·rw [if_pos rfl]
set_option maxHeartbeats 400000 in
set_option maxRecDepth 4000 in
theorem Xj7 (s:List UInt8) (hl:s.length≤1000000) (plus:Bool) (bp:Nat) (B w:World) (I:Im) (hd:DigAt I) (As:List X9) (hS:Sat B w I (blk bp [.bool plus] 4::As)) :
  Calls Tryz.prog 180 [S s,.func (.func 222) #[] #[ptr bp 0]].toArray w (Ret fun v w'=>∃ n1 e1,v=.tuple #[S n1,I64 (e1:Nat)]∧(match dec plus s with | none=>n1=[]∧e1=11 | some t=>n1=t∧e1=0)∧Sat B w' I As):=by
 refine calls Xkx rfl Tryz.ntmps180 rfl (.seq (.q 2 rfl (.seq (.region (.allocA (cs:=[_,_]) hS Xp3 rfl ?_)))))
 clear hS; intro b6 w hS
 refine .nil (.seq (.seq (.q 1 rfl (.block ?_))))
 replace hS:=(hS.vecNil 5 1).pick 1 rfl; try dsimp only [List.eraseIdx] at hS
 refine .loop (σ:=List UInt8×Value×Value×Nat) (fun ⟨out,p,v,i⟩=>[(0,S s),(1,.func (.func 222) #[] #[ptr bp 0]),(6,ptr b6 0),(7,I64 (i:Nat))]) (fun ⟨out,p,v,i⟩ w=>i≤s.length∧out.length+(s.length - i)≤s.length∧dec plus s=(dec plus (s.drop i)).map (out ++ ·)∧(p=.pointer none∨p=ptr b6 0)∧(out=[]→v=.slice none 0 0)∧Sat B w I (blk b6 [p,v] 245::Vec 5 1 v (out).length (bcs (out))::blk bp [.bool plus] 4::As)) (fun ⟨out,p,v,i⟩=>s.length - i) ([],.pointer none,.slice none 0 0,0) ⟨rfl,rfl,rfl,rfl,trivial⟩ ⟨Yp _,by simp,by simp,.inl rfl,fun _=>rfl,hS⟩ ?_
 rintro ⟨out,p,v,i⟩ w ⟨hi,hol,hno,hp,hpv,hS⟩
 change WC _ _ _ _ [(0,S s),(1,.func (.func 222) #[] #[ptr bp 0]),(6,ptr b6 0),(7,I64 (i:Nat))] w
 refine .seq (.seq (.region (.run 4 rfl ⟨Qu9,trivial⟩ (.nil ?_))))
 refine WC.cond rfl (fun hb13=>?_) (fun hb13=>?_)
 ·
  have hc13:=hb13; try simp only [Y5] at hc13
  refine .skip (.seq (.block (.seq (.seq (.region (.run 4 rfl ⟨⟨⟨by omega,by omega⟩,Qu9⟩,trivial⟩ (.nil ?_)))))))
  refine WC.cond rfl (fun hb19=>?_) (fun hb19=>?_)
  ·
   have hc19:=hb19; try simp only [Y5] at hc19
   refine .seq (.region (.run 4 rfl ⟨⟨⟨by omega,by omega⟩,Qu9⟩,trivial⟩ (.vcall (cap:=[ptr bp 0]) Tryz.func222 rfl (.of rfl) (X0 (.of rfl) (X0 (.of rfl) X4)) rfl (X81 (at_ s (i:Int)) false plus bp B w I _ (hS.pick 2 rfl)) ?_)))
   clear hS
   rintro _ w ⟨rfl,hS⟩
   replace hS:=(hS.pick 2 rfl).pick 2 rfl
   try dsimp only [List.eraseIdx] at hS
   rw [if_neg (by decide)]
   refine WL.call Xgv rfl (X0 (.of rfl) (X0 (.of rfl) X4)) rfl (X13 b6 p v out ([dB plus (at_ s (i:Int))]) hp B w I _ hS (by simp only [Y6,Yh]; omega)) ?_
   clear hS
   rintro _ w ⟨rfl,v2,hS⟩
   refine .nil (.exit (.region (.run 3 rfl ⟨⟨by omega,by omega⟩,trivial⟩ (.nil ?_))))
   have e37:at_ s (i:Int)≠37:=fun e=>by rw [e] at hb19; simp at hb19
   refine ⟨(out ++ [dB plus (at_ s (i:Int))],ptr b6 0,v2,i+1),⟨rfl,rfl,rfl,rfl,trivial⟩,⟨by (try dsimp only); omega,by (try dsimp only); rw [Y0]; simp only [Y6,Yh]; omega,?_,.inr rfl,fun h=>absurd h (by simp),hS⟩,by (try dsimp only); omega⟩
   rw [hno,Xc s (by omega),X1z,if_neg e37]
   cases dec plus (s.drop (i+1)) <;> simp
  have hc19:=hb19; try simp only [Y5] at hc19
  refine .skip (.seq (.t 2 rfl (.call Tryz.func214 rfl (X0 (.of rfl) (X0 (.of rfl) X4)) rfl (Xmv s i (by omega) B w I hd _ hS) ?_)))
  clear hS
  rintro _ w ⟨tv,ok,rfl,htv,hS⟩
  refine .q 5 rfl (.nil (.seq (.seq (.q 2 rfl ?_))))
  refine WC.cond rfl (fun hb33=>?_) (fun hb33=>?_)
  ·
   have hc33:=hb33; try simp only [Y5] at hc33
   refine .seq (.q 2 rfl (.ret (X1g Xlb rfl rfl ?_)))
   refine ⟨_,rfl,[],11,rfl,?_,((hS.drop (k:=0) rfl).drop (k:=0) rfl).drop (k:=0) rfl⟩
   have e37:at_ s (i:Int)=37:=Yz.1 (by simp only [bne_eq_false_iff_eq] at hb19; show (at_ s (i:Int)).toNat=37; omega)
   have ht:Pc.told (s.drop (i+1))=none:=by
    cases ht:Pc.told (s.drop (i+1)) with
    | none=>rfl
    | some v=>rw [ht] at htv; rw [htv.1] at hb33; simp at hb33
   have:dec plus s=none:=by rw [hno,Xc s (by omega),X1z,if_pos e37,ht]; rfl
   rw [this]
   exact ⟨rfl,rfl⟩
  have hc33:=hb33; try simp only [Y5] at hc33
  refine .skip (.seq ?_)
  have e37:at_ s (i:Int)=37:=Yz.1 (by simp only [bne_eq_false_iff_eq] at hb19; show (at_ s (i:Int)).toNat=37; omega)
  obtain ⟨vb,hv⟩:∃ v,Pc.told (s.drop (i+1))=some v:=by
   cases ht:Pc.told (s.drop (i+1)) with
   | some v=>exact ⟨v,rfl⟩
   | none=>rw [ht] at htv; simp only at htv; rw [htv] at hb33; simp at hb33
  rw [hv] at htv
  obtain ⟨_,rfl⟩:=htv
  have hvl:=X1y hv
  rw [Yj] at hvl
  refine .t 2 rfl (.vcall (cap:=[ptr bp 0]) Tryz.func222 rfl (.of rfl) (X0 (.of rfl) (X0 (.of rfl) X4)) rfl (X81 vb true plus bp B w I _ (hS.pick 2 rfl)) ?_)
  clear hS
  rintro _ w ⟨rfl,hS⟩
  replace hS:=(hS.pick 2 rfl).pick 2 rfl
  try dsimp only [List.eraseIdx] at hS
  rw [if_pos rfl]
  refine WL.call Xgv rfl (X0 (.of rfl) (X0 (.of rfl) X4)) rfl (X13 b6 p v out ([vb]) hp B w I _ hS (by simp only [Y6,Yh]; omega)) ?_
  clear hS
  rintro _ w ⟨rfl,v2,hS⟩
  refine .nil (.region (.run 3 rfl ⟨⟨by omega,by omega⟩,trivial⟩ (.nil (.region (.run 3 rfl ⟨⟨by omega,by omega⟩,trivial⟩ (.nil ?_))))))
  refine ⟨(out ++ [vb],ptr b6 0,v2,i+3),⟨rfl,rfl,rfl,rfl,trivial⟩,⟨by (try dsimp only); omega,by (try dsimp only); rw [Y0]; simp only [Y6,Yh]; omega,?_,.inr rfl,fun h=>absurd h (by simp),hS⟩,by (try dsimp only); omega⟩
  rw [hno,Xc s (by omega),X1z,if_pos e37,hv]
  simp only [Y1l]
  cases dec plus (s.drop (i+3)) <;> simp [Y2m]
 have hc13:=hb13; try simp only [Y5] at hc13
 refine .exit (.seq (.region (.call Xi6 rfl (X0 (.of rfl) X4) rfl (X6a b6 p v out hpv B w I _ hS) ?_)))
 clear hS
 rintro _ w ⟨rfl,hS⟩
 refine .q 2 rfl (.nil (.ret (X1g Xlb rfl rfl ?_)))
 refine ⟨_,rfl,out,0,rfl,?_,hS.drop (k:=0) rfl⟩
 have:dec plus s=some out:=by rw [hno,Y15 (by omega),Xau]; simp
 rw [this]
 exact ⟨rfl,rfl⟩
theorem X9j (s:List UInt8) (hl:s.length≤1000000) (plus:Bool) (B w:World) (I:Im) (hd:DigAt I) (As:List X9) (hS:Sat B w I As) :
  Calls Tryz.prog 186 [S s,.bool plus].toArray w (Ret fun v w'=>∃ n1 e1,v=.tuple #[S n1,I64 (e1:Nat)]∧(match dec plus s with | none=>n1=[]∧e1=11 | some t=>n1=t∧e1=0)∧Sat B w' I As):=by
 refine calls Tryz.func186 rfl Tryz.ntmps186 rfl (.seq (.region (.box1 hS (.of rfl) rfl rfl ?_)))
 clear hS; intro b3 w hS
 refine .q 2 rfl (.nil (.seq (.t 1 rfl (.val (.makeFunc (X0 (.of rfl) X4)) rfl (.call Xkx rfl (X0 (.of rfl) (X0 (.of rfl) X4)) rfl (Xj7 s hl plus b3 B w I hd _ hS) ?_)))))
 clear hS
 rintro _ w ⟨n1,e1,rfl,hn,hS⟩
 refine .q 4 rfl (.nil (.ret (X1g Tryz.results186 rfl rfl ?_)))
 exact ⟨_,rfl,n1,e1,rfl,hn,hS⟩
set_option maxHeartbeats 400000 in
theorem X5h (s:List UInt8) (hl:s.length≤1000000) (plus:Bool) (B w:World) (I:Im) (As:List X9) (hS:Sat B w I As) :
  Calls Tryz.prog 97 [S s,.bool plus].toArray w (Ret fun v w'=>∃ n1 e1,v=.tuple #[S n1,I64 (e1:Nat)]∧(match dec plus s with | none=>n1=[]∧e1=11 | some t=>n1=t∧e1=0)∧Sat B w' I As):=by
 refine calls Tryz.func97 rfl Tryz.ntmps97 rfl (.seq (.q 2 rfl (.seq (.q 1 rfl (.seq (.seq (.q 1 rfl (.block (.loop (σ:=List UInt8×Nat) (fun ⟨out,i⟩=>[(0,S s),(1,.bool plus),(6,S out),(7,I64 (i:Nat))]) (fun ⟨out,i⟩ w=>i≤s.length∧out.length+(s.length - i)≤s.length∧dec plus s=(dec plus (s.drop i)).map (out ++ ·)∧Sat B w I As) (fun ⟨out,i⟩=>s.length - i) ([],0) ⟨rfl,rfl,rfl,rfl,trivial⟩ ⟨Yp _,by simp,by simp,hS⟩ ?_)))))))))
 rintro ⟨out,i⟩ w ⟨hi,hol,hno,hS⟩
 change WC _ _ _ _ [(0,S s),(1,.bool plus),(6,S out),(7,I64 (i:Nat))] w
 refine .seq (.seq (.region (.run 4 rfl ⟨Qu9,trivial⟩ (.nil ?_))))
 refine WC.cond rfl (fun hb12=>?_) (fun hb12=>?_)
 ·
  have hc12:=hb12; try simp only [Y5] at hc12
  refine .skip (.seq (.block (.block (.seq (.region (.run 5 rfl ⟨⟨⟨by omega,by omega⟩,Qu9⟩,trivial⟩ (.nil ?_)))))))
  refine WC.cond rfl (fun hb22=>?_) (fun hb22=>?_)
  ·
   have hc22:=hb22; try simp only [Y5] at hc22
   refine .seq (.t 2 rfl (.call Tryz.func145 rfl (X0 (.of rfl) (X0 (.of rfl) X4)) rfl (X87 s (i:Int) (by omega) (by omega) _) ?_))
   rintro _ _ ⟨rfl,rfl⟩
   rw [Xij]
   refine .q 1 rfl (.nil (.seq (.seq (.q 2 rfl ?_))))
   refine WC.cond rfl (fun hb31=>?_) (fun hb31=>?_)
   ·
    have hc31:=hb31; try simp only [Y5] at hc31
    refine .seq (.q 2 rfl (.ret (X1g Tryz.results97 rfl rfl ?_)))
    refine ⟨_,rfl,[],11,rfl,?_,hS⟩
    have e37:at_ s (i:Int)=37:=Yz.1 (by simp only [beq_iff_eq] at hb22; show (at_ s (i:Int)).toNat=37; omega)
    have ht:told (s.drop (i+1))=none:=by
     cases ht:told (s.drop (i+1)) with
     | none=>rfl
     | some v=>rw [ht] at hc31; simp at hc31; omega
    have:dec plus s=none:=by rw [hno,Xc s (by omega),X1z,if_pos e37,ht]; rfl
    rw [this]
    exact ⟨rfl,rfl⟩
   have hc31:=hb31; try simp only [Y5] at hc31
   refine .skip (.seq ?_)
   have e37:at_ s (i:Int)=37:=Yz.1 (by simp only [beq_iff_eq] at hb22; show (at_ s (i:Int)).toNat=37; omega)
   obtain ⟨vb,hv⟩:∃ v,told (s.drop (i+1))=some v:=by
    cases ht:told (s.drop (i+1)) with
    | some v=>exact ⟨v,rfl⟩
    | none=>rw [ht] at hc31; simp at hc31
   rw [hv]
   try dsimp only
   have hvl:=X1y hv
   rw [Yj] at hvl
   have hv8:=vb.toNat_lt
   refine .t 2 rfl ?_
   refine WL.val (.cvi (.of rfl) Qu3 Qu5 (by rw [IntKind.wrap_u8]; omega)) rfl ?_
   refine .buildSlice (cs:=[_]) hS (X5 (.of rfl) X6) X19 Qs5 Qz5 rfl rfl rfl rfl ?_
   clear hS; intro b35 w hS
   refine .val (.str1 (c:=vb) (.of rfl) hS (k:=0) rfl rfl X19 Qu5 Qu9) rfl ?_
   refine WL.val (.cat (.of rfl) (.of rfl) (by simp only [Y6,Yh]; omega)) rfl ?_
   refine .q 1 rfl (.nil (.region (.run 3 rfl ⟨⟨by omega,by omega⟩,trivial⟩ (.nil (.region (.run 3 rfl ⟨⟨by omega,by omega⟩,trivial⟩ (.nil ?_)))))))
   have e37:at_ s (i:Int)=37:=Yz.1 (by simp only [beq_iff_eq] at hb22; show (at_ s (i:Int)).toNat=37; omega)
   refine ⟨(out ++ [vb],i+3),⟨rfl,rfl,rfl,rfl,trivial⟩,⟨by (try dsimp only); omega,by (try dsimp only); rw [Y0]; simp only [Y6,Yh]; omega,?_,hS.drop (k:=0) rfl⟩,by (try dsimp only); omega⟩
   rw [hno,Xc s (by omega),X1z,if_pos e37,hv]
   simp only [Y1l]
   cases dec plus (s.drop (i+3)) <;> simp [Y2m]
  have hc22:=hb22; try simp only [Y5] at hc22
  refine .seq (.region (.run 5 rfl ⟨⟨⟨by omega,by omega⟩,Qu9⟩,trivial⟩ (.gval rfl rfl (fun hg1=>(.move (.of rfl))) rfl (.val (.pand (.of rfl) (.of rfl) (.of rfl)) rfl (.q 1 rfl (.nil ?_))))))
  refine WC.cond rfl (fun hb40=>?_) (fun hb40=>?_)
  ·
   have hc40:=hb40; try simp only [Y5] at hc40
   refine .t 1 rfl ?_
   refine WL.val (.cat (l:=out) (m:=[32]) (.of rfl) (.of rfl) (by simp only [Y6,Yh]; omega)) rfl ?_
   refine .q 1 rfl (.nil (.region (.run 3 rfl ⟨⟨by omega,by omega⟩,trivial⟩ (.nil ?_))))
   have e37:at_ s (i:Int)≠37:=fun e=>by rw [e] at hb22; simp at hb22
   have hdb:dB plus (at_ s (i:Int))=32:=by
    simp only [Yn,beq_iff_eq] at hb40
    have e:at_ s (i:Int)=43:=Yz.1 (by have:=hb40.1; show (at_ s (i:Int)).toNat=43; omega)
    rw [dB,hb40.2,e]; rfl
   refine ⟨(out ++ [32],i+1),⟨rfl,rfl,rfl,rfl,trivial⟩,⟨by (try dsimp only); omega,by (try dsimp only); rw [Y0]; simp only [Y6,Yh]; omega,?_,hS⟩,by (try dsimp only); omega⟩
   rw [hno,Xc s (by omega),X1z,if_neg e37,hdb]
   cases dec plus (s.drop (i+1)) <;> simp
  have hc40:=hb40; try simp only [Y5] at hc40
  refine .region (.run 5 rfl ⟨⟨by omega,by omega⟩,trivial⟩ (.val (.sub3 (l:=s) (i:=(i:Int)) (j:=(i:Int)+1) (.of rfl) (.of rfl) (.of rfl) (by omega) (by omega) (by omega) Qu9) rfl ?_))
  rw [show (s.drop (i:Int).toNat).take (((i:Int)+1).toNat - (i:Int).toNat)=[at_ s (i:Int)] by rw [Yk,show ((i:Int)+1).toNat - i=1 by omega,Xc s (by omega)]; rfl]
  refine WL.val (.cat (.of rfl) (.of rfl) (by simp only [Y6,Yh]; omega)) rfl ?_
  refine .q 1 rfl (.nil (.region (.run 3 rfl ⟨⟨by omega,by omega⟩,trivial⟩ (.nil ?_))))
  have e37:at_ s (i:Int)≠37:=fun e=>by rw [e] at hb22; simp at hb22
  have hdb:dB plus (at_ s (i:Int))=at_ s (i:Int):=by
   rw [dB,if_neg]
   intro h
   simp only [Yn,beq_iff_eq] at h
   rw [h.1,h.2] at hb40
   revert hb40; decide
  refine ⟨(out ++ [at_ s (i:Int)],i+1),⟨rfl,rfl,rfl,rfl,trivial⟩,⟨by (try dsimp only); omega,by (try dsimp only); rw [Y0]; simp only [Y6,Yh]; omega,?_,hS⟩,by (try dsimp only); omega⟩
  rw [hno,Xc s (by omega),X1z,if_neg e37,hdb]
  cases dec plus (s.drop (i+1)) <;> simp
 have hc12:=hb12; try simp only [Y5] at hc12
 refine .exit (.seq (.q 3 rfl (.ret (X1g Tryz.results97 rfl rfl ?_))))
 refine ⟨_,rfl,out,0,rfl,?_,hS⟩
 have:dec plus s=some out:=by rw [hno,Y15 (by omega),Xau]; simp
 rw [this]
 exact ⟨rfl,rfl⟩
end Go.Proofs.YtfibbpgikjggfaaGreatDoor
namespace Tk
open Pc Gk Ul
def pre:Nat→List UInt8
 | 1=>[84,71,84]
 | 2=>[83,84]
 | 3=>[80,84]
 | 4=>[80,71,84]
 | 5=>[80,71,84,73,79,85]
 | 6=>[76,84]
 | _=>[]
def hx (c:UInt8):Option Nat:=if 48≤c && c≤57 then some (c.toNat - 48) else if 97≤c && c≤102 then some (c.toNat - 87) else none
def hxS (n:Nat):List UInt8→Option Nat
 | []=>some n
 | c::r=>match hx c with
  | some d=>hxS (16*n+d) r
  | none=>none
def X5d (s:List UInt8):Option Nat:=if s.length=16 then hxS 0 s else none
def X3p (p:List UInt8):Nat:=if p=pre 1 then 1 else if p=pre 2 then 2 else if p=pre 3 then 3 else if p=pre 4 then 4 else if p=pre 5 then 5 else if p=pre 6 then 6 else 0
def X2t (s:List UInt8):Option (Nat×Nat) :=
 if X3p (upto [45] s)=0 then none else (X5d ((X7 [45] s).drop 1)).map fun d=>(X3p (upto [45] s),d)
theorem hx_lt {c:UInt8} {d:Nat} (h:hx c=some d):d<16:=by
 have:=Xj (p:=fun c=>match hx c with | some d=>decide (d<16) | none=>true) (by decide +kernel) c
 rw [h] at this
 simpa using this
theorem Xmr:∀ (s:List UInt8) (n m k:Nat),n<16 ^ k→hxS n s=some m→m<16 ^ (k+s.length)
 | [],n,m,k,hn,h=>by
  simp only [hxS,Option.some.injEq] at h
  subst h; exact hn
 | c::r,n,m,k,hn,h=>by
  rw [hxS] at h
  cases hc:hx c with
  | none=>rw [hc] at h; cases h
  | some d =>
   rw [hc] at h
   have hd:=hx_lt hc
   have:=Xmr r (16*n+d) m (k+1) (by rw [Y3n]; omega) h
   rw [Y6,show k+(r.length+1)=k+1+r.length by omega]; exact this
theorem Xp0 {s:List UInt8} {d:Nat} (h:X5d s=some d):d<18446744073709551616:=by
 unfold X5d at h
 split at h
 ·rename_i hl
  have:=Xmr s 0 d 0 (by decide) h
  rw [hl] at this
  exact this
 ·cases h
def X6y:Nat→Nat→List UInt8
 | 0,_=>[]
 | k+1,n=>X6y k (n / 16) ++ [if n % 16<10 then UInt8.ofNat (48+n % 16) else UInt8.ofNat (87+n % 16)]
theorem X48:∀ (k n:Nat),(X6y k n).length=k
 | 0,_=>rfl
 | k+1,n=>by rw [X6y,Y0,X48 k]; rfl
theorem Xis:∀ (s t:List UInt8) (n:Nat),hxS n (s ++ t)=(hxS n s).bind fun m=>hxS m t
 | [],_,_=>rfl
 | c::r,t,n=>by
  rw [Yu,hxS,hxS]
  cases hx c with
  | none=>rfl
  | some d=>exact Xis r t _
theorem Xns (p:List UInt8):X3p p≤6:=by
 unfold X3p
 by_cases h1:p=pre 1
 ·rw [if_pos h1]; decide
 by_cases h2:p=pre 2
 ·rw [if_neg h1,if_pos h2]; decide
 by_cases h3:p=pre 3
 ·rw [if_neg h1,if_neg h2,if_pos h3]; decide
 by_cases h4:p=pre 4
 ·rw [if_neg h1,if_neg h2,if_neg h3,if_pos h4]; decide
 by_cases h5:p=pre 5
 ·rw [if_neg h1,if_neg h2,if_neg h3,if_neg h4,if_pos h5]; decide
 by_cases h6:p=pre 6
 ·rw [if_neg h1,if_neg h2,if_neg h3,if_neg h4,if_neg h5,if_pos h6]; decide
 ·rw [if_neg h1,if_neg h2,if_neg h3,if_neg h4,if_neg h5,if_neg h6]; decide
theorem Xox {p:List UInt8} (h:X3p p≠0):p=pre (X3p p):=by
 unfold X3p at h ⊢
 by_cases h1:p=pre 1
 ·rw [if_pos h1]; exact h1
 by_cases h2:p=pre 2
 ·rw [if_neg h1,if_pos h2]; exact h2
 by_cases h3:p=pre 3
 ·rw [if_neg h1,if_neg h2,if_pos h3]; exact h3
 by_cases h4:p=pre 4
 ·rw [if_neg h1,if_neg h2,if_neg h3,if_pos h4]; exact h4
 by_cases h5:p=pre 5
 ·rw [if_neg h1,if_neg h2,if_neg h3,if_neg h4,if_pos h5]; exact h5
 by_cases h6:p=pre 6
 ·rw [if_neg h1,if_neg h2,if_neg h3,if_neg h4,if_neg h5,if_pos h6]; exact h6
 ·rw [if_neg h1,if_neg h2,if_neg h3,if_neg h4,if_neg h5,if_neg h6] at h; exact absurd rfl h
theorem X5v {s:List UInt8} {k d:Nat} (h:X2t s=some (k,d)):1≤k∧k≤6∧d<18446744073709551616∧s.length≤23∧s≠[]:=by
 unfold X2t at h
 split at h
 ·cases h
 ·rename_i hk
  obtain ⟨x,hx,e⟩:=Y14.1 h
  simp only [Prod.mk.injEq] at e
  obtain ⟨rfl,rfl⟩:=e
  have hl:=Xns (upto [45] s)
  refine ⟨by omega,hl,Xp0 hx,?_,fun e=>by subst e; exact hk rfl⟩
  unfold X5d at hx
  split at hx
  ·rename_i h16
   have h3:=X2d [45] s
   have h4:(upto [45] s).length≤6:=by
    rw [Xox hk]
    have:=(by decide:∀ k:Fin 7,(pre k.val).length≤6) ⟨X3p (upto [45] s),by omega⟩
    exact this
   rw [Yj] at h16
   omega
  ·cases hx
end Tk
namespace Tr
open Tk
structure Rec where
 kind:Int
 name:List UInt8
 parent:List UInt8
 user:List UInt8
 service:List UInt8
 url:List UInt8
 made:Int
 used:Int
 uses:Int
 fresh:Bool
 deriving DecidableEq
def r0:Rec:=⟨0,[],[],[],[],[],0,0,0,false⟩
def X98 (kind of:Int):Bool:=(kind == 1 && of == 0) || (kind == 6 && of == 0) || (kind == 2 && of == 1) || (kind == 3 && of == 4) || (kind == 4 && of == 2) || (kind == 4 && of == 3) || (kind == 5 && of == 4)
def X4d (kind:Int) (name:List UInt8):Bool:=if name=[] then X98 kind 0 else match X2t name with
 | some (of,_)=>X98 kind (of:Nat)
 | none=>false
def isT (s:List UInt8) (kind:Int):Bool:=match X2t s with
 | some (k,_)=>((k:Nat):Int) == kind
 | none=>false
def Xx (r:Rec):Bool :=
 (decide ((r.user.length:Int)≤32) && decide ((r.service.length:Int)≤100) && decide ((r.url.length:Int)≤100)) && (decide (0≤r.made) && decide (r.made≤r.used) && decide (r.used≤1099511627776) && decide (0≤r.uses) && decide (r.uses≤255)) && isT r.name r.kind && X4d r.kind r.parent
def atN (name:List UInt8):List Rec→Nat→Int
 | [],_=>-1
 | r::l,i=>if r.name=name then (i:Int) else atN name l (i+1)
def at0 (l:List Rec) (name:List UInt8):Int:=atN name l 0
theorem Xez (name:List UInt8):∀ (l:List Rec) (i:Nat),(atN name l i=-1∧∀ r∈l,r.name≠name)∨∃ (j:Nat) (r:Rec),atN name l i=((i+j:Nat):Int)∧l[j]?=some r∧r.name=name∧∀ (q:Nat) (t:Rec),q<j→l[q]?=some t→t.name≠name
 | [],_=>.inl ⟨rfl,fun r h=>by simp at h⟩
 | a::l,i=>by
  rw [atN]
  by_cases h:a.name=name
  ·rw [if_pos h]
   exact .inr ⟨0,a,rfl,rfl,h,fun q t hq=>absurd hq (by omega)⟩
  ·rw [if_neg h]
   rcases Xez name l (i+1) with ⟨h1,h2⟩ | ⟨j,r,h1,h2,h3,h4⟩
   ·refine .inl ⟨h1,fun r hr=>?_⟩
    rcases Y17.1 hr with e | e
    ·subst e; exact h
    ·exact h2 r e
   ·refine .inr ⟨j+1,r,by rw [h1]; congr 1; omega,h2,h3,fun q t hq ht=>?_⟩
    cases q with
    | zero=>simp at ht; subst ht; exact h
    | succ q=>exact h4 q t (by omega) (by simpa using ht)
theorem X2r (l:List Rec) (name:List UInt8):(at0 l name=-1∧∀ r∈l,r.name≠name)∨∃ (j:Nat) (r:Rec),at0 l name=(j:Int)∧l[j]?=some r∧r.name=name∧∀ (q:Nat) (t:Rec),q<j→l[q]?=some t→t.name≠name:=by
 rcases Xez name l 0 with h | ⟨j,r,h1,h2⟩
 ·exact .inl h
 ·exact .inr ⟨j,r,by rw [at0,h1,Yf],h2⟩
theorem Xfj (l:List Rec) (name:List UInt8):at0 l name<l.length:=by
 rcases X2r l name with ⟨h,_⟩ | ⟨j,r,h,hr,_⟩
 ·rw [h]; omega
 ·have:=(Y4.1 hr).1
  rw [h]; omega
theorem Xom (l:List Rec) (name:List UInt8):-1≤at0 l name:=by
 rcases X2r l name with ⟨h,_⟩ | ⟨j,r,h,_⟩ <;> rw [h] <;> omega
def get (l:List Rec) (name:List UInt8):Option Rec:=l.find? fun r=>decide (r.name=name)
theorem get_at (l:List Rec) (name:List UInt8):(at0 l name=-1∧get l name=none)∨∃ (j:Nat) (r:Rec),at0 l name=(j:Int)∧l[j]?=some r∧r.name=name∧get l name=some r:=by
 rcases X2r l name with ⟨h1,h2⟩ | ⟨j,r,h1,h2,h3,h4⟩
 ·refine .inl ⟨h1,?_⟩
  unfold get
  rw [List.find?_eq_none]
  intro r hr
  simpa using h2 r hr
 ·refine .inr ⟨j,r,h1,h2,h3,?_⟩
  unfold get
  have:∀ (l:List Rec) (j:Nat),l[j]?=some r→(∀ (q:Nat) (t:Rec),q<j→l[q]?=some t→t.name≠name)→l.find? (fun r=>decide (r.name=name))=some r:=by
   intro l
   induction l with
   | nil=>intro j h; simp at h
   | cons a l ih =>
    intro j h hno
    rw [Y4i]
    cases j with
    | zero=>simp at h; subst h; rw [decide_eq_true h3]
    | succ j =>
     rw [decide_eq_false (hno 0 a (by omega) rfl)]
     exact ih j (by simpa using h) (fun q t hq ht=>hno (q+1) t (by omega) (by simpa using ht))
  exact this l j h2 h4
def Xds (room:Int) (l:List Rec) (r:Rec):Nat:=if Xx r=false then 1 else if 0≤at0 l r.name then 7 else if r.parent≠[]∧at0 l r.parent<0 then 6 else if room≤l.length then 5 else 0
def add (room:Int) (l:List Rec) (r:Rec):List Rec:=if Xds room l r=0 then l ++ [r] else l
def Xgz (l:List Rec) (r:Rec):Nat:=if Xx r=false then 1 else match get l r.name with
 | none=>6
 | some t=>if t.parent≠r.parent then 8 else 0
def put (l:List Rec) (r:Rec):List Rec:=if Xgz l r=0 then l.set (at0 l r.name).toNat r else l
structure Wf (l:List Rec):Prop where
 right:∀ r∈l,Xx r=true
 one:∀ (i j:Nat) (r s:Rec),l[i]?=some r→l[j]?=some s→r.name=s.name→i=j
 up:∀ (i:Nat) (r:Rec),l[i]?=some r→(r.parent=[]∨0≤at0 l r.parent)∧at0 l r.parent<i
theorem Wf.nil:Wf []:=⟨fun r h=>by simp at h,fun i j r s h=>by simp at h,fun i r h=>by simp at h⟩
theorem Wf.at_ {l:List Rec} (h:Wf l) {i:Nat} {r:Rec} (hr:l[i]?=some r):at0 l r.name=(i:Int):=by
 rcases X2r l r.name with ⟨_,h2⟩ | ⟨j,t,h1,h2,h3,_⟩
 ·exact absurd rfl (h2 r (Yr hr))
 ·rw [h1,h.one j i t r h2 hr h3]
theorem Wf.get_ {l:List Rec} (h:Wf l) {i:Nat} {r:Rec} (hr:l[i]?=some r):get l r.name=some r:=by
 rcases get_at l r.name with ⟨h1,_⟩ | ⟨j,t,h1,h2,h3,h4⟩
 ·rw [h.at_ hr] at h1; omega
 ·rw [h4]
  have e:j=i:=h.one j i t r h2 hr h3
  subst e
  rw [h2] at hr; exact hr
theorem X5s {r:Rec} (h:Xx r=true):r.name≠[]:=by
 intro e
 unfold Xx at h
 simp only [Yn] at h
 have h1:=h.1.2
 unfold isT at h1
 rw [e] at h1
 cases hp:X2t [] with
 | none=>rw [hp] at h1; cases h1
 | some x=>exact (X5v (k:=x.1) (d:=x.2) hp).2.2.2.2 rfl
theorem Xhi (name:List UInt8):∀ (l m:List Rec) (i:Nat),atN name (l ++ m) i=if atN name l i=-1 then atN name m (i+l.length) else atN name l i
 | [],m,i=>by simp [atN]
 | a::l,m,i=>by
  rw [Yu,atN,atN]
  split
  ·rw [if_neg (by omega)]
  ·rw [Xhi name l m (i+1),Y6,show i+1+l.length=i+(l.length+1) by omega]
theorem Xon (l:List Rec) (r:Rec) (name:List UInt8):at0 (l ++ [r]) name=if at0 l name=-1 then (if r.name=name then (l.length:Int) else -1) else at0 l name:=by
 unfold at0
 rw [Xhi]
 simp [atN]
theorem X78 {l:List Rec} {r:Rec} {i:Nat} {t:Rec} (h:(l ++ [r])[i]?=some t):l[i]?=some t∨(i=l.length∧t=r):=by
 rcases Yv i l.length with h1 | h1
 ·rw [Yi h1] at h; exact .inl h
 ·rw [Yt h1] at h
  have h2:=(Y4.1 h).1
  simp at h2
  have h3:i=l.length:=by omega
  subst h3
  simp at h
  exact .inr ⟨rfl,h.symm⟩
theorem Xim {room:Int} {l:List Rec} {r:Rec} (h:Xds room l r=0):Xx r=true∧at0 l r.name=-1∧(r.parent=[]∨0≤at0 l r.parent)∧(l.length:Int)<room:=by
 unfold Xds at h
 split at h
 ·cases h
 ·rename_i h1
  split at h
  ·cases h
  ·rename_i h2
   split at h
   ·cases h
   ·rename_i h3
    split at h
    ·cases h
    ·refine ⟨by simpa using h1,by have:=Xom l r.name; omega,?_,by omega⟩
     by_cases e:r.parent=[]
     ·exact .inl e
     ·refine .inr ?_
      have:¬ at0 l r.parent<0:=fun h4=>h3 ⟨e,h4⟩
      omega
theorem Wf.snoc {l:List Rec} (h:Wf l) {r:Rec} (hr:Xx r=true) (hm1:at0 l r.name=-1) (hp:r.parent=[]∨0≤at0 l r.parent):Wf (l ++ [r]):=by
 have hno:∀ t∈l,t.name≠r.name:=by
  rcases X2r l r.name with ⟨_,h4⟩ | ⟨j,t,h4,_⟩
  ·exact h4
  ·rw [h4] at hm1; omega
 have hnil:∀ l:List Rec,(∀ r∈l,Xx r=true)→at0 l []=-1:=fun l hl=>by
  rcases X2r l [] with ⟨h4,_⟩ | ⟨j,t,_,ht,he,_⟩
  ·exact h4
  ·exact absurd he (X5s (hl t (Yr ht)))
 refine ⟨fun t ht=>?_,fun i j s t hi hj he=>?_,fun i t hi=>?_⟩
 ·rcases Y12.1 ht with e | e
  ·exact h.right t e
  ·simp at e; subst e; exact hr
 ·rcases X78 hi with hi1 | ⟨hi1,hi2⟩
  ·rcases X78 hj with hj1 | ⟨hj1,hj2⟩
   ·exact h.one i j s t hi1 hj1 he
   ·rw [hj2] at he; exact absurd he (hno s (Yr hi1))
  ·rcases X78 hj with hj1 | ⟨hj1,hj2⟩
   ·rw [hi2] at he; exact absurd he.symm (hno t (Yr hj1))
   ·omega
 ·have key:∀ (t:Rec),(t.parent=[]∨0≤at0 l t.parent)→at0 (l ++ [r]) t.parent=at0 l t.parent:=fun t ht=>by
   rw [Xon]
   rcases ht with e | e
   ·rw [e,hnil l h.right,if_pos rfl,if_neg (X5s hr)]
   ·rw [if_neg (by omega)]
  rcases X78 hi with hi1 | ⟨hi1,hi2⟩
  ·obtain ⟨h1,h2⟩:=h.up i t hi1
   rw [key t h1]; exact ⟨h1,h2⟩
  ·subst hi1; subst hi2
   rw [key t hp]; exact ⟨hp,Xfj l t.parent⟩
theorem Wf.add {l:List Rec} (h:Wf l) {room:Int} {r:Rec}:Wf (add room l r):=by
 unfold Tr.add
 split
 ·rename_i he
  obtain ⟨h1,h2,h3,_⟩:=Xim he
  exact h.snoc h1 h2 h3
 ·exact h
theorem Xh9 (name:List UInt8) {r:Rec}:∀ (l:List Rec) (k i:Nat) (t:Rec),l[k]?=some t→t.name=r.name→atN name (l.set k r) i=atN name l i
 | [],k,i,t,h,_=>by simp at h
 | a::l,0,i,t,h,he=>by
  simp at h; subst h
  rw [Y46,atN,atN,he]
 | a::l,k+1,i,t,h,he=>by
  rw [Y2x,atN,atN,Xh9 name l k (i+1) t (by simpa using h) he]
theorem put_ok {l:List Rec} {r:Rec} (h:Xgz l r=0):Xx r=true∧∃ (j:Nat) (t:Rec),at0 l r.name=(j:Int)∧l[j]?=some t∧t.name=r.name∧t.parent=r.parent∧get l r.name=some t:=by
 unfold Xgz at h
 split at h
 ·cases h
 ·rename_i h1
  refine ⟨by simpa using h1,?_⟩
  rcases get_at l r.name with ⟨_,h2⟩ | ⟨j,t,h2,h3,h4,h5⟩
  ·rw [h2] at h; cases h
  ·rw [h5] at h
   simp only at h
   split at h
   ·cases h
   ·rename_i h6
    exact ⟨j,t,h2,h3,h4,by simpa using h6,h5⟩
theorem Wf.set {l:List Rec} (h:Wf l) {j:Nat} {t r:Rec} (ht:l[j]?=some t) (hn:t.name=r.name) (hp:t.parent=r.parent) (hr:Xx r=true):Wf (l.set j r):=by
 have hj:=(Y4.1 ht).1
 have e:∀ name,at0 (l.set j r) name=at0 l name:=fun name=>Xh9 name l j 0 t ht hn
 have g:∀ (i:Nat) (s:Rec),(l.set j r)[i]?=some s→∃ u,l[i]?=some u∧u.name=s.name∧u.parent=s.parent:=fun i s hs=>by
  rw [Y2e] at hs
  split at hs
  ·rename_i hij
   subst hij
   cases hs
   exact ⟨t,ht,hn,hp⟩
  ·exact ⟨s,hs,rfl,rfl⟩
 refine ⟨fun s hs=>?_,fun i k s u hi hk he=>?_,fun i s hi=>?_⟩
 ·rcases List.mem_or_eq_of_mem_set hs with h1 | h1
  ·exact h.right s h1
  ·subst h1; exact hr
 ·obtain ⟨s',h1,h2,_⟩:=g i s hi
  obtain ⟨u',h3,h4,_⟩:=g k u hk
  exact h.one i k s' u' h1 h3 (by rw [h2,h4,he])
 ·obtain ⟨s',h1,_,h2⟩:=g i s hi
  rw [e,← h2]
  exact h.up i s' h1
theorem Wf.put {l:List Rec} (h:Wf l) {r:Rec}:Wf (put l r):=by
 unfold Tr.put
 split
 ·rename_i he
  obtain ⟨h1,j,t,h2,h3,h4,h5,_⟩:=put_ok he
  rw [h2,Yk]
  exact h.set h3 h4 h5 h1
 ·exact h
def X53 (l:List Rec):Nat→Int→List Rec
 | 0,_=>[]
 | f+1,i=>if i<0 then [] else match l[i.toNat]? with
  | some r=>r::X53 l f (at0 l r.parent)
  | none=>[]
theorem X37 (l:List Rec) (f:Nat) {i:Int} (h:i<0):X53 l f i=[]:=by
 cases f with
 | zero=>rfl
 | succ f=>rw [X53,if_pos h]
theorem X9h {l:List Rec} (h:Wf l):∀ (f g:Nat) (i:Int),i<f→i<g→X53 l f i=X53 l g i
 | 0,g,i,h1,_=>by rw [X37 l g (by omega),X37 l 0 (by omega)]
 | f+1,0,i,_,h2=>by rw [X37 l (f+1) (by omega),X37 l 0 (by omega)]
 | f+1,g+1,i,h1,h2=>by
  rw [X53,X53]
  split
  ·rfl
  ·rename_i hi
   cases hr:l[i.toNat]? with
   | none=>rfl
   | some r =>
    have hu:=(h.up i.toNat r hr).2
    simp only
    rw [X9h h f g (at0 l r.parent) (by omega) (by omega)]
def Xcv (l:List Rec) (i:Int):List Rec:=X53 l (i.toNat+1) i
def path (l:List Rec) (name:List UInt8):List Rec:=Xcv l (at0 l name)
theorem Xio (l:List Rec) {i:Int} (h:i<0):Xcv l i=[]:=X37 l _ h
theorem Xm7 {l:List Rec} (h:Wf l) {i:Nat} {r:Rec} (hr:l[i]?=some r):Xcv l (i:Int)=r::Xcv l (at0 l r.parent):=by
 unfold Xcv
 rw [Yk,X53,if_neg (by omega),Yk,hr]
 simp only
 have hu:=(h.up i r hr).2
 rw [X9h h i ((at0 l r.parent).toNat+1) _ (by omega) (by omega)]
def Xgm (l:List Rec) (name:List UInt8):List Rec:=l.filter fun r=>decide (name≠[]) && decide (r.parent=name)
def X2j (l:List Rec) (name:List UInt8):List (List UInt8):=(Xgm l name).map Rec.name
def Xn (l:List Rec):Nat→List UInt8→List (List UInt8)
 | 0,_=>[]
 | f+1,name=>name::(X2j l name).flatMap (Xn l f)
def below (l:List Rec) (name:List UInt8):List (List UInt8):=if 0≤at0 l name then Xn l l.length name else []
def drop (l:List Rec) (name:List UInt8):List Rec:=l.filter fun r=>!(below l name).contains r.name
def X1l {α:Type} (pr:α→Bool):List α→Nat→Int
 | [],_=>-1
 | s::r,i=>if pr s then (i:Int) else X1l pr r (i+1)
theorem X4x {α:Type} (pr:α→Bool):∀ (n:Nat) (r:List α) (i:Nat),(∀ (j:Nat) s,j<n→r[j]?=some s→pr s=false)→X1l pr r i=X1l pr (r.drop n) (i+min n r.length)
 | 0,r,i,_=>by simp
 | n+1,[],i,_=>by simp [X1l]
 | n+1,s::r,i,h=>by
  rw [X1l,if_neg (by rw [h 0 s (by omega) rfl]; decide),X4x pr n r (i+1) (fun j t hj ht=>h (j+1) t (by omega) (by simpa using ht)),Y9,Y6]
  congr 1
  omega
theorem X5y {α:Type} {pr:α→Bool} {l:List α} {i:Nat} {s:α} (h:∀ (j:Nat) t,j<i→l[j]?=some t→pr t=false) (hs:l[i]?=some s) (hp:pr s=true):X1l pr l 0=(i:Int):=by
 have hi:=(Y4.1 hs).1
 rw [X4x pr i l 0 h,Yf,Y31 (by omega),Y1e hi,(Y4.1 hs).2,X1l,if_pos hp]
theorem X4u {α:Type} {pr:α→Bool} {l:List α} (h:∀ (j:Nat) t,l[j]?=some t→pr t=false):X1l pr l 0=-1:=by
 rw [X4x pr l.length l 0 (fun j t _ ht=>h j t ht),Y39]
 rfl
theorem X5t {α:Type} (pr:α→Bool):∀ (l:List α) (i:Nat),decide (0≤X1l pr l i)=l.any pr
 | [],i=>rfl
 | s::r,i=>by
  rw [X1l,Y4m]
  split
  ·rename_i h
   rw [h,Bool.true_or,decide_eq_true_eq]; omega
  ·rename_i h
   rw [Bool.eq_false_iff.2 h,Y3i,X5t pr r (i+1)]
theorem Xe8 (name:List UInt8):∀ (l:List Rec) (i:Nat),X1l (fun r=>decide (r.name=name)) l i=atN name l i
 | [],i=>rfl
 | s::r,i=>by
  rw [X1l,atN,Xe8 name r (i+1)]
  simp only [decide_eq_true_eq]
def getD (l:List Rec) (name:List UInt8):Rec:=(get l name).getD r0
end Tr
namespace Go.Proofs.YtfibbpgikjggfaaGreatDoor
open Gk Ul Pc Tk Tr
def PREV:List (List UInt8):=[[],pre 1,pre 2,pre 3,pre 4,pre 5,pre 6]
def PreAt (I:Im):Prop:=At I (ad 0 0) (PREV.map S)
theorem PreAt.mono {I J:Im} (h:PreAt I) (hl:Le I J):PreAt J:=At.mono h hl
theorem Xp6 {k:Nat} (h:k<7):(((PREV.map S).drop (k*1)))[0]?=some (S (pre k)):=by
 match k,h with
 | 0,_=>rfl
 | 1,_=>rfl
 | 2,_=>rfl
 | 3,_=>rfl
 | 4,_=>rfl
 | 5,_=>rfl
 | 6,_=>rfl
def X6t (k:Int):List UInt8:=if k<1∨6<k then [] else pre k.toNat
theorem Ex.slcArr {P:Program} {n:Nat} {L:Env} {w:World} {d:Option Nat} {ty:TypeId} {pos:String} {af:Array Edge} {gg:Option (Nat×Bool)} {t e:TypeId} {x:Operand} {p:Addr} {m s:Nat} (hx:Ev n L x (.pointer (some p))) (ht:P.underlying t=some (.array m e)) (hs:∀ w,(Go.sizeOf e).run P w=.ok s w) :
  Ex P n L w ⟨d,.slice t x none none none,ty,pos,af,gg⟩ (.slice (some (if m=0 then p else p.add (0*s))) (m - 0) (m - 0)) w:=fun a ha=>by
 obtain ⟨e1,e2⟩:=Xea ht
 have h:=run_sliceAt_array_all (P:=P) w t p (by rw [e1,e2]; exact ht)
 rw [e1,e2,hs] at h
 simp [execOp,hx a ha,h,slicedAt]
def Xe3 (p:List UInt8):List (List UInt8)→Nat→Int
 | [],_=>-1
 | x::r,i=>if p=x then (i:Int) else Xe3 p r (i+1)
theorem X84 (p:List UInt8):∀ (n:Nat) (r:List (List UInt8)) (i:Nat),(∀ (j:Nat) x,j<n→r[j]?=some x→p≠x)→Xe3 p r i=Xe3 p (r.drop n) (i+min n r.length)
 | 0,r,i,_=>by simp
 | n+1,[],i,_=>by simp [Xe3]
 | n+1,x::r,i,h=>by
  rw [Xe3,if_neg (h 0 x (by omega) rfl),X84 p n r (i+1) (fun j y hj hy=>h (j+1) y (by omega) (by simpa using hy)),Y9,Y6]
  congr 1
  omega
theorem Xm0 {p:List UInt8} {l:List (List UInt8)} {i:Nat} (h:∀ (j:Nat) x,j<i→l[j]?=some x→p≠x) (hs:l[i]?=some p):Xe3 p l 0=(i:Int):=by
 have hi:=(Y4.1 hs).1
 rw [X84 p i l 0 h,Yf,Y31 (by omega),Y1e hi,(Y4.1 hs).2,Xe3,if_pos rfl]
theorem Xj6 {p:List UInt8} {l:List (List UInt8)} (h:∀ (j:Nat) x,l[j]?=some x→p≠x):Xe3 p l 0=-1:=by
 rw [X84 p l.length l 0 (fun j x _ hx=>h j x hx),Y39]
 rfl
theorem Xe6 (p:List UInt8):(1≤Xe3 p PREV 0→X3p p≠0∧Xe3 p PREV 0=(X3p p:Int))∧(¬ 1≤Xe3 p PREV 0→X3p p=0):=by
 unfold PREV X3p
 simp only [Xe3]
 by_cases h0:p=[]
 ·subst h0
  exact ⟨fun h=>by simp at h,fun _=>by decide⟩
 rw [if_neg h0]
 by_cases h1:p=pre 1
 ·rw [if_pos h1,if_pos h1]; exact ⟨fun _=>⟨by decide,by decide⟩,fun h=>absurd (by decide) h⟩
 rw [if_neg h1,if_neg h1]
 by_cases h2:p=pre 2
 ·rw [if_pos h2,if_pos h2]; exact ⟨fun _=>⟨by decide,by decide⟩,fun h=>absurd (by decide) h⟩
 rw [if_neg h2,if_neg h2]
 by_cases h3:p=pre 3
 ·rw [if_pos h3,if_pos h3]; exact ⟨fun _=>⟨by decide,by decide⟩,fun h=>absurd (by decide) h⟩
 rw [if_neg h3,if_neg h3]
 by_cases h4:p=pre 4
 ·rw [if_pos h4,if_pos h4]; exact ⟨fun _=>⟨by decide,by decide⟩,fun h=>absurd (by decide) h⟩
 rw [if_neg h4,if_neg h4]
 by_cases h5:p=pre 5
 ·rw [if_pos h5,if_pos h5]; exact ⟨fun _=>⟨by decide,by decide⟩,fun h=>absurd (by decide) h⟩
 rw [if_neg h5,if_neg h5]
 by_cases h6:p=pre 6
 ·rw [if_pos h6,if_pos h6]; exact ⟨fun _=>⟨by decide,by decide⟩,fun h=>absurd (by decide) h⟩
 rw [if_neg h6,if_neg h6]
 exact ⟨fun h=>absurd h (by decide),fun _=>rfl⟩
theorem X5x (a:Option Addr) (c:Nat) (l:List (List UInt8)) (hll:l.length≤100000) (p:List UInt8) (B w:World) (I:Im) (hA:RS I a 1 l.length (l.map S)) (As:List X9) (hS:Sat B w I As) :
  Calls Tryz.prog 134 [.slice a l.length c,S p].toArray w (Ret fun v w'=>v=I64 (Xe3 p l 0)∧Sat B w' I As):=by
 refine calls Xke rfl Tryz.ntmps134 rfl (.seq (.q 1 rfl (.seq (.seq (.region (.run 3 rfl ⟨⟨_,X1f⟩,trivial⟩ (.nil (.block (.loop (σ:=Nat) (fun i=>[(0,.slice a l.length c),(1,S p),(7,I64 (l.length:Nat)),(8,I64 (i:Nat))]) (fun i w=>i≤l.length∧(∀ (j:Nat) x,j<i→l[j]?=some x→p≠x)∧Sat B w I As) (fun i=>l.length - i) 0 ⟨rfl,rfl,rfl,rfl,trivial⟩ ⟨Yp _,fun _ _ h=>absurd h (by omega),hS⟩ ?_)))))))))
 rintro i w ⟨hi,hno,hS⟩
 change WC _ _ _ _ [(0,.slice a l.length c),(1,S p),(7,I64 (l.length:Nat)),(8,I64 (i:Nat))] w
 refine .seq (.q 1 rfl (.seq ?_))
 refine WC.cond rfl (fun hb9=>?_) (fun hb9=>?_)
 ·
  have hc9:=hb9; try simp only [Y5] at hc9
  refine .skip (.seq (.block (.seq ?_)))
  obtain ⟨x,hx⟩:∃ x,l[i]?=some x:=⟨_,Y7 (by omega)⟩
  obtain ⟨q,rfl,hq⟩:=hA.2 (by omega)
  have hqx:((l.map S).drop ((i:Int).toNat*1))[0]?=some (S x):=by rw [Y1d,Yk,Y1i,Y2d,Yx,hx]; rfl
  refine .q 2 rfl (.seq (.t 3 rfl (.val (.indexAddrI (.of rfl) (.of rfl) (by omega) (by omega) X1f Qs9) rfl (.val (.ldI (v:=S x) (.of rfl) hS (hq.add _) Qg9 hqx) rfl (.q 1 rfl (.nil ?_))))))
  refine WC.cond rfl (fun hb16=>?_) (fun hb16=>?_)
  ·
   have hc16:=hb16; try simp only [Y5] at hc16
   refine .seq (.q 2 rfl (.ret (Xe Tryz.results134 rfl ?_)))
   have e:p=x:=by simpa using hb16
   subst e
   exact ⟨_,rfl,by rw [Xm0 hno hx],hS⟩
  have hc16:=hb16; try simp only [Y5] at hc16
  refine .skip (.region (.run 2 rfl ⟨⟨by omega,by omega⟩,trivial⟩ (.nil ?_)))
  refine ⟨i+1,⟨rfl,rfl,rfl,rfl,trivial⟩,⟨by omega,fun j y hj hy=>?_,hS⟩,by omega⟩
  rcases Yv j i with h1 | h1
  ·exact hno j y h1 hy
  ·have e:j=i:=by omega
   subst e
   rw [hx] at hy; cases hy
   simpa using hb16
 have hc9:=hb9; try simp only [Y5] at hc9
 refine .exit (.seq (.q 1 rfl (.ret (Xe Tryz.results134 rfl ?_))))
 exact ⟨_,rfl,by rw [Xj6 (fun j x hx=>hno j x (by have:=(Y4.1 hx).1; omega) hx)],hS⟩
theorem X9c (k:Int) (B w:World) (I:Im) (hP:PreAt I) (As:List X9) (hS:Sat B w I As) :
  Calls Tryz.prog 158 [I64 k].toArray w (Ret fun v w'=>v=S (X6t k)∧Sat B w' I As):=by
 refine calls Tryz.func158 rfl Tryz.ntmps158 rfl (.seq (.q 1 rfl (.seq (.seq (.t 3 rfl (.gval rfl rfl (fun hg1=>(.move (.of rfl))) rfl (.gval rfl rfl (fun hg1=>(.gtr (.gd hg1 rfl) (.of rfl))) rfl (.val (.por (.of rfl) (.of rfl) (.of rfl)) rfl (.nil ?_)))))))))
 refine WC.cond rfl (fun hb8=>?_) (fun hb8=>?_)
 ·
  have hc8:=hb8; try simp only [Y5] at hc8
  refine .seq (.q 1 rfl (.ret (Xe Tryz.results158 rfl ?_)))
  exact ⟨_,rfl,by rw [X6t,if_pos (by omega)],hS⟩
 have hc8:=hb8; try simp only [Y5] at hc8
 refine .skip (.seq ?_)
 have hk7:k.toNat<7:=by omega
 refine .t 1 rfl (.val (.arrAddrI (i:=k) (.of rfl) (.of rfl) (by omega) (by omega) Xkt Qs9) rfl (.val (.ldI (v:=S (pre k.toNat)) (.of rfl) hS (At.add hP _) Qg9 (Xp6 hk7)) rfl (.q 1 rfl (.nil (.ret (Xe Tryz.results158 rfl ?_))))))
 exact ⟨_,rfl,by rw [X6t,if_neg (by omega)],hS⟩
abbrev HEXD:List UInt8:=[48,49,50,51,52,53,54,55,56,57,97,98,99,100,101,102]
theorem hx_idx (c:UInt8):(match hx c with | some d=>Go.Lib.indexByte HEXD c=(d:Int) | none=>Go.Lib.indexByte HEXD c=-1):=by
 have:=Xj (p:=fun c=>match hx c with | some d=>Go.Lib.indexByte HEXD c == (d:Int) | none=>Go.Lib.indexByte HEXD c == -1) (by decide +kernel) c
 cases h:hx c with
 | some d=>rw [h] at this; simpa using this
 | none=>rw [h] at this; simpa using this
theorem Xlj {s:List UInt8} {i:Nat} {n d:Nat} (hi:i<s.length) (hn:hxS 0 (s.take i)=some n) (hd:hx (at_ s (i:Int))=some d):hxS 0 (s.take (i+1))=some (16*n+d):=by
 have:s[i]?=some (at_ s (i:Int)):=Xq hi
 rw [Y1a,this,Y28,Xis,hn,Y2j]
 simp only [hxS,hd]
theorem Xid:∀ (s:List UInt8) (i n:Nat),i<s.length→hx (at_ s (i:Int))=none→hxS n s=none
 | [],i,_,h,_=>by simp at h
 | c::r,0,n,_,h=>by
  rw [hxS,show hx c=none from h]
 | c::r,i+1,n,hi,h=>by
  rw [hxS]
  cases hx c with
  | none=>rfl
  | some d=>exact Xid r i _ (by simpa using hi) (by
    have e:at_ (c::r) ((i+1:Nat):Int)=at_ r (i:Int):=by simp [at_]
    rw [e] at h; exact h)
theorem or_low {n d:Nat} (hd:d<16):(16*n) ||| d=16*n+d:=by
 have:=Y3t (i:=4) (b:=d) hd n
 simpa using this.symm
theorem Xk7 (s:List UInt8) (hs:s.length≤1000000) (B w:World) (I:Im) (As:List X9) (hS:Sat B w I As) :
  Calls Tryz.prog 231 [S s].toArray w (Ret fun v w'=>v=(match X5d s with | some d=>.tuple #[U64 (d:Nat),.bool true] | none=>.tuple #[U64 0,.bool false])∧Sat B w' I As):=by
 refine calls Tryz.func231 rfl Tryz.ntmps231 rfl (.seq (.q 2 rfl (.seq (.seq (.region (.run 3 rfl ⟨Qu9,trivial⟩ (.nil ?_)))))))
 refine WC.cond rfl (fun hb9=>?_) (fun hb9=>?_)
 ·
  have hc9:=hb9; try simp only [Y5] at hc9
  refine .seq (.q 2 rfl (.ret (X1g Xnc rfl rfl ?_)))
  exact ⟨_,rfl,by rw [X5d,if_neg (by omega)],hS⟩
 have hc9:=hb9; try simp only [Y5] at hc9
 refine .skip (.seq (.q 1 rfl (.seq (.seq (.region (.run 3 rfl ⟨Qu9,trivial⟩ (.nil (.block (.loop (σ:=Nat×Nat) (fun ⟨i,n⟩=>[(0,S s),(4,U64 (n:Nat)),(11,I64 (s.length:Nat)),(12,I64 (i:Nat))]) (fun ⟨i,n⟩ w=>i≤s.length∧hxS 0 (s.take i)=some n∧n<16 ^ i∧Sat B w I As) (fun ⟨i,n⟩=>s.length - i) (0,0) ⟨rfl,rfl,rfl,rfl,trivial⟩ ⟨Yp _,rfl,by decide,hS⟩ ?_)))))))))
 rintro ⟨i,n⟩ w ⟨hi,hn,hn16,hS⟩
 change WC _ _ _ _ [(0,S s),(4,U64 (n:Nat)),(11,I64 (s.length:Nat)),(12,I64 (i:Nat))] w
 refine .seq (.q 1 rfl (.seq ?_))
 refine WC.cond rfl (fun hb13=>?_) (fun hb13=>?_)
 ·
  have hc13:=hb13; try simp only [Y5] at hc13
  refine .skip (.seq (.block (.seq (.q 2 rfl (.seq (.region (.run 3 rfl ⟨⟨⟨by omega,by omega⟩,Qu9⟩,trivial⟩ (.call Qf179 rfl (X0 (.of rfl) (X0 (.of rfl) X4)) rfl (X3l HEXD (at_ s (i:Int)) _) ?_))))))))
  rintro _ _ ⟨rfl,rfl⟩
  refine .q 1 rfl (.nil (.seq (.seq ?_)))
  have hxi:=hx_idx (at_ s (i:Int))
  refine .q 2 rfl ?_
  refine WC.cond rfl (fun hb20=>?_) (fun hb20=>?_)
  ·
   have hc20:=hb20; try simp only [Y5] at hc20
   refine .seq (.q 2 rfl (.ret (X1g Xnc rfl rfl ?_)))
   refine ⟨_,rfl,?_,hS⟩
   have hdn:hx (at_ s (i:Int))=none:=by
    cases hd:hx (at_ s (i:Int)) with
    | none=>rfl
    | some d=>exfalso; rw [hd] at hxi; simp only at hxi; rw [hxi] at hb20; simp at hb20; omega
   rw [X5d,if_pos (by omega),Xid s i 0 (by omega) hdn]
  have hc20:=hb20; try simp only [Y5] at hc20
  refine .skip ?_
  obtain ⟨d,hd⟩:∃ d,hx (at_ s (i:Int))=some d:=by
   cases hd:hx (at_ s (i:Int)) with
   | none=>exfalso; rw [hd] at hxi; simp only at hxi; rw [hxi] at hb20; simp at hb20
   | some d=>exact ⟨d,rfl⟩
  rw [hd] at hxi
  simp only at hxi
  have hd16:=hx_lt hd
  rw [hxi]
  have hn15:n<16 ^ 15:=Nat.lt_of_lt_of_le hn16 (Nat.pow_le_pow_right (by decide) (by omega))
  have hn60:n<1152921504606846976:=by simpa using hn15
  refine .t 1 rfl (.val (.shl (.of rfl) (.of rfl) (by decide) (by decide)) rfl ?_)
  rw [show IntKind.u64.wrap ((n:Int)*2 ^ (4:Int).toNat)=((16*n:Nat):Int) by rw [IntKind.wrap_u64]; simp; omega]
  refine .q 1 rfl ?_
  refine WL.val (.cvi (.of rfl) Qu3 Xop (by rw [IntKind.wrap_u64]; omega)) rfl ?_
  refine .val (.or64 (a:=16*n) (b:=d) (by omega) (by omega) (.of rfl) (.of rfl)) rfl ?_
  rw [or_low hd16]
  refine .q 1 rfl (.nil (.region (.run 2 rfl ⟨⟨by omega,by omega⟩,trivial⟩ (.nil ?_))))
  refine ⟨(i+1,16*n+d),⟨rfl,rfl,rfl,rfl,trivial⟩,⟨by (try dsimp only); omega,Xlj (by omega) hn hd,?_,hS⟩,by (try dsimp only); omega⟩
  (try dsimp only)
  rw [Y3n]; omega
 have hc13:=hb13; try simp only [Y5] at hc13
 refine .exit (.seq (.q 3 rfl (.ret (X1g Xnc rfl rfl ?_))))
 refine ⟨_,rfl,?_,hS⟩
 rw [Y11 (by omega)] at hn
 rw [X5d,if_pos (by omega),hn]
theorem Xbc (s:List UInt8) (hs:s.length≤1000000) (B w:World) (I:Im) (hK:Known I) (hP:PreAt I) (As:List X9) (hS:Sat B w I As) :
  Calls Tryz.prog 199 [S s].toArray w (Ret fun v w'=>v=(match X2t s with | some (k,d)=>.tuple #[I64 (k:Nat),U64 (d:Nat),.bool true] | none=>.tuple #[I64 0,U64 0,.bool false])∧Sat B w' I As):=by
 refine calls Tryz.func199 rfl Tryz.ntmps199 rfl (.seq (.q 3 rfl (.seq (.t 1 rfl (.call Qf86 rfl (X0 (.of rfl) (X0 (.of rfl) X4)) rfl (X61 s 45 hs B _ I hK _ hS) ?_)))))
 clear hS
 rintro _ w ⟨rfl,hS⟩
 refine .q 7 rfl (.nil (.seq (.t 1 rfl ?_)))
 refine WL.call Tryz.func231 rfl (X0 (.of rfl) X4) rfl (Xk7 _ (by have:=X3f [45] s; rw [Yj]; omega) B _ I _ hS) ?_
 clear hS
 rintro _ w ⟨rfl,hS⟩
 rcases hdr:X5d ((X7 [45] s).drop 1) with _ | d
 ·
  refine .val (.move (.of rfl)) rfl (.q 4 rfl (.nil (.seq (.region (.val (Ex.slcArr (m:=7) (s:=1) (.of rfl) Xkt Qs9) rfl (.q 1 rfl (.call Xke rfl (X0 (.of rfl) (X0 (.of rfl) X4)) rfl (X5x (some (ad 0 0)) 7 PREV (by decide) (upto [45] s) B _ I ⟨rfl,fun _=>⟨_,rfl,hP⟩⟩ As hS) ?_)))))))
  clear hS
  rintro _ w ⟨rfl,hS⟩
  refine .q 1 rfl (.nil (.seq (.seq (.t 3 rfl (.gval rfl rfl (fun hg1=>(.move (.of rfl))) rfl (.gval rfl rfl (fun hg1=>(.lss (.gd hg1 rfl) (.of rfl))) rfl (.val (.por (.of rfl) (.of rfl) (.of rfl)) rfl (.nil ?_))))))))
  refine WC.cond rfl (fun hb30=>?_) (fun hb30=>?_)
  ·
   have hc30:=hb30; try simp only [Y5] at hc30
   refine .seq (.q 3 rfl (.ret (X8v Xkd rfl rfl rfl ?_)))
   refine ⟨_,rfl,?_,hS⟩
   have:X2t s=none:=by
    unfold X2t
    split
    ·rfl
    ·rw [hdr]; rfl
   rw [this]
  have hc30:=hb30; try simp only [Y5] at hc30
  refine .skip (.seq (.q 5 rfl (.ret (X8v Xkd rfl rfl rfl ?_))))
  exfalso; simp at hb30
 refine .val (.move (.of rfl)) rfl (.q 4 rfl (.nil (.seq (.region (.val (Ex.slcArr (m:=7) (s:=1) (.of rfl) Xkt Qs9) rfl (.q 1 rfl (.call Xke rfl (X0 (.of rfl) (X0 (.of rfl) X4)) rfl (X5x (some (ad 0 0)) 7 PREV (by decide) (upto [45] s) B _ I ⟨rfl,fun _=>⟨_,rfl,hP⟩⟩ As hS) ?_)))))))
 clear hS
 rintro _ w ⟨rfl,hS⟩
 refine .q 1 rfl (.nil (.seq (.seq (.t 3 rfl (.gval rfl rfl (fun hg1=>(.move (.of rfl))) rfl (.gval rfl rfl (fun hg1=>(.lss (.gd hg1 rfl) (.of rfl))) rfl (.val (.por (.of rfl) (.of rfl) (.of rfl)) rfl (.nil ?_))))))))
 refine WC.cond rfl (fun hb30=>?_) (fun hb30=>?_)
 ·
  have hc30:=hb30; try simp only [Y5] at hc30
  refine .seq (.q 3 rfl (.ret (X8v Xkd rfl rfl rfl ?_)))
  refine ⟨_,rfl,?_,hS⟩
  have h0:=(Xe6 (upto [45] s)).2 (by simp at hb30; omega)
  rw [X2t,if_pos h0]
 have hc30:=hb30; try simp only [Y5] at hc30
 refine .skip (.seq (.q 5 rfl (.ret (X8v Xkd rfl rfl rfl ?_))))
 refine ⟨_,rfl,?_,hS⟩
 obtain ⟨h0,h1⟩:=(Xe6 (upto [45] s)).1 (by simp at hb30; omega)
 rw [X2t,if_neg h0,hdr,h1]
 rfl
theorem Is_any (s:List UInt8) (kind:Int) (hs:s.length≤1000000) (B w:World) (I:Im) (hK:Known I) (hP:PreAt I) (As:List X9) (hS:Sat B w I As) :
  Calls Tryz.prog 154 [S s,I64 kind].toArray w (Ret fun v w'=>v=.bool (isT s kind)∧Sat B w' I As):=by
 refine calls Tryz.func154 rfl Tryz.ntmps154 rfl (.seq (.q 1 rfl (.seq (.t 1 rfl (.call Tryz.func199 rfl (X0 (.of rfl) X4) rfl (Xbc s hs B _ I hK hP _ hS) ?_)))))
 clear hS
 rintro _ w ⟨rfl,hS⟩
 rcases hps:X2t s with _ | ⟨k,d⟩
 ·
  refine .val (.move (.of rfl)) rfl (.q 6 rfl (.nil (.seq (.t 2 rfl (.gval rfl rfl (fun hg1=>(.move (.of rfl))) rfl (.gval rfl rfl (fun hg1=>(.move (.of rfl))) rfl (.gval rfl rfl (fun hg1=>(.eql (.gd hg1 rfl) (.gd hg1 rfl))) rfl (.val (.pand (.of rfl) (.of rfl) (.of rfl)) rfl (.q 1 rfl (.nil (.ret (Xe Tryz.results154 rfl ?_))))))))))))
  exact ⟨_,rfl,by rw [isT,hps]; rfl,hS⟩
 refine .val (.move (.of rfl)) rfl (.q 6 rfl (.nil (.seq (.t 2 rfl (.gval rfl rfl (fun hg1=>(.move (.of rfl))) rfl (.gval rfl rfl (fun hg1=>(.move (.of rfl))) rfl (.gval rfl rfl (fun hg1=>(.eql (.gd hg1 rfl) (.gd hg1 rfl))) rfl (.val (.pand (.of rfl) (.of rfl) (.of rfl)) rfl (.q 1 rfl (.nil (.ret (Xe Tryz.results154 rfl ?_))))))))))))
 exact ⟨_,rfl,by rw [isT,hps]; rfl,hS⟩
theorem X7z (kind of:Int) (w:World) :
  Calls Tryz.prog 200 [I64 kind,I64 of].toArray w (Ret fun v w'=>v=.bool (X98 kind of)∧w=w'):=by
 refine calls Xlh rfl Tryz.ntmps200 rfl (.seq (.q 1 rfl (.seq (.seq (.q 1 rfl (.block (.seq (.block (.seq (.block (.block (.seq (.block (.seq (.block (.block (.seq (.seq (.seq (.q 2 rfl ?_))))))))))))))))))))
 refine WC.cond rfl (fun hb6=>?_) (fun hb6=>?_)
 ·
  have hc6:=hb6; try simp only [Y5] at hc6
  refine .exit (.seq (.seq (.q 3 rfl (.ret (Xe Xco rfl ?_)))))
  refine ⟨_,rfl,congrArg Value.bool ?_,rfl⟩
  simp only [beq_iff_eq,beq_eq_false_iff_ne] at *
  (subst_vars; simp [X98]; done)
 have hc6:=hb6; try simp only [Y5] at hc6
 refine .skip (.seq (.seq (.q 2 rfl ?_)))
 refine WC.cond rfl (fun hb8=>?_) (fun hb8=>?_)
 ·
  have hc8:=hb8; try simp only [Y5] at hc8
  refine .exit (.seq (.seq (.q 3 rfl (.ret (Xe Xco rfl ?_)))))
  refine ⟨_,rfl,congrArg Value.bool ?_,rfl⟩
  simp only [beq_iff_eq,beq_eq_false_iff_ne] at *
  (subst_vars; simp [X98]; done)
 have hc8:=hb8; try simp only [Y5] at hc8
 refine .skip (.seq (.seq (.q 2 rfl ?_)))
 refine WC.cond rfl (fun hb10=>?_) (fun hb10=>?_)
 ·
  have hc10:=hb10; try simp only [Y5] at hc10
  refine .exit (.seq (.seq (.q 3 rfl (.ret (Xe Xco rfl ?_)))))
  refine ⟨_,rfl,congrArg Value.bool ?_,rfl⟩
  simp only [beq_iff_eq,beq_eq_false_iff_ne] at *
  (subst_vars; simp [X98]; done)
 have hc10:=hb10; try simp only [Y5] at hc10
 refine .skip (.seq (.seq (.q 2 rfl ?_)))
 refine WC.cond rfl (fun hb12=>?_) (fun hb12=>?_)
 ·
  have hc12:=hb12; try simp only [Y5] at hc12
  refine .exit (.seq (.seq (.q 3 rfl (.ret (Xe Xco rfl ?_)))))
  refine ⟨_,rfl,congrArg Value.bool ?_,rfl⟩
  simp only [beq_iff_eq,beq_eq_false_iff_ne] at *
  (subst_vars; simp [X98]; done)
 have hc12:=hb12; try simp only [Y5] at hc12
 refine .skip (.seq (.seq (.q 2 rfl ?_)))
 refine WC.cond rfl (fun hb14=>?_) (fun hb14=>?_)
 ·
  have hc14:=hb14; try simp only [Y5] at hc14
  refine .exit (.seq (.seq (.q 3 rfl (.ret (Xe Xco rfl ?_)))))
  refine ⟨_,rfl,congrArg Value.bool ?_,rfl⟩
  simp only [beq_iff_eq,beq_eq_false_iff_ne] at *
  (subst_vars; simp [X98]; done)
 have hc14:=hb14; try simp only [Y5] at hc14
 refine .skip (.seq (.q 2 rfl ?_))
 refine WC.cond rfl (fun hb16=>?_) (fun hb16=>?_)
 ·
  have hc16:=hb16; try simp only [Y5] at hc16
  refine .exit (.seq (.seq (.t 3 rfl (.gval rfl rfl (fun hg1=>(.move (.of rfl))) rfl (.gval rfl rfl (fun hg1=>(.eql (.gd hg1 rfl) (.of rfl))) rfl (.val (.por (.of rfl) (.of rfl) (.of rfl)) rfl (.q 1 rfl (.nil (.ret (Xe Xco rfl ?_))))))))))
  refine ⟨_,rfl,congrArg Value.bool ?_,rfl⟩
  simp only [beq_iff_eq,beq_eq_false_iff_ne] at *
  (subst_vars; simp [X98]; done)
 have hc16:=hb16; try simp only [Y5] at hc16
 refine .skip (.exit (.seq (.q 1 rfl (.ret (Xe Xco rfl ?_)))))
 refine ⟨_,rfl,congrArg Value.bool ?_,rfl⟩
 simp only [beq_iff_eq,beq_eq_false_iff_ne] at *
 (simp [X98, *]; done)
theorem Xgi (kind:Int) (s:List UInt8) (hs:s.length≤1000000) (B w:World) (I:Im) (hK:Known I) (hP:PreAt I) (As:List X9) (hS:Sat B w I As) :
  Calls Tryz.prog 155 [I64 kind,S s].toArray w (Ret fun v w'=>v=.bool (X4d kind s)∧Sat B w' I As):=by
 refine calls Tryz.func155 rfl Tryz.ntmps155 rfl (.seq (.q 1 rfl (.seq (.seq (.q 2 rfl ?_)))))
 refine WC.cond rfl (fun hb9=>?_) (fun hb9=>?_)
 ·
  have hc9:=hb9; try simp only [Y5] at hc9
  refine .seq (.t 1 rfl (.call Xlh rfl (X0 (.of rfl) (X0 (.of rfl) X4)) rfl (X7z kind 0 _) ?_))
  rintro _ _ ⟨rfl,rfl⟩
  refine .q 1 rfl (.nil (.ret (Xe Xod rfl ?_)))
  exact ⟨_,rfl,by rw [X4d,if_pos (by simpa using hb9)],hS⟩
 have hc9:=hb9; try simp only [Y5] at hc9
 refine .skip (.seq (.t 1 rfl (.call Tryz.func199 rfl (X0 (.of rfl) X4) rfl (Xbc s hs B _ I hK hP _ hS) ?_)))
 clear hS
 rintro _ w ⟨rfl,hS⟩
 rcases hps:X2t s with _ | ⟨k,d⟩
 ·
  refine .val (.move (.of rfl)) rfl (.q 6 rfl (.nil (.seq (.t 2 rfl (.gval rfl rfl (fun hg1=>(.move (.of rfl))) rfl (.gval rfl rfl (fun hg1=>(.move (.of rfl))) rfl (.gcall (T:=fun w=>Sat B w I As) rfl rfl rfl Xlh rfl (fun hg1=>(X0 (.gd hg1 rfl) (X0 (.gd hg1 rfl) X4))) rfl (fun hg1=>X18 (X7z _ _ w) hS) hS ?_)))))))
  clear hS; rintro w hS
  refine .val (.pand (.of rfl) (.of rfl) (.of rfl)) rfl (.q 1 rfl (.nil (.ret (Xe Xod rfl ?_))))
  exact ⟨_,rfl,by rw [X4d,if_neg (by simpa using hb9),hps]; rfl,hS⟩
 refine .val (.move (.of rfl)) rfl (.q 6 rfl (.nil (.seq (.t 2 rfl (.gval rfl rfl (fun hg1=>(.move (.of rfl))) rfl (.gval rfl rfl (fun hg1=>(.move (.of rfl))) rfl (.gcall (T:=fun w=>Sat B w I As) rfl rfl rfl Xlh rfl (fun hg1=>(X0 (.gd hg1 rfl) (X0 (.gd hg1 rfl) X4))) rfl (fun hg1=>X18 (X7z _ _ w) hS) hS ?_)))))))
 clear hS; rintro w hS
 refine .val (.pand (.of rfl) (.of rfl) (.of rfl)) rfl (.q 1 rfl (.nil (.ret (Xe Xod rfl ?_))))
 exact ⟨_,rfl,by rw [X4d,if_neg (by simpa using hb9),hps]; rfl,hS⟩
def X8 (r:Rec):List Value:=[I64 r.kind,S r.name,S r.parent,S r.user,S r.service,S r.url,I64 r.made,I64 r.used,I64 r.uses,.bool r.fresh]
theorem Xbr (r:Rec) (hn:r.name.length≤1000000) (hp:r.parent.length≤1000000) (B w:World) (I:Im) (hK:Known I) (hP:PreAt I) (As:List X9) (hS:Sat B w I As) :
  Calls Tryz.prog 107 [.agg (X8 r).toArray].toArray w (Ret fun v w'=>v=.bool (Xx r)∧Sat B w' I As):=by
 refine calls Tryz.func107 rfl Tryz.ntmps107 rfl (.seq (.region (.boxA (cs:=[_,_,_,_,_,_,_,_,_,_]) hS (.of rfl) rfl ?_)))
 clear hS; intro b1 w hS
 refine .q 1 rfl (.nil (.seq (.region ?_)))
 refine WL.val (.fieldAddr 3 (.of rfl) X20 rfl rfl Qs9 rfl) rfl ?_
 refine .val (.ld (.of rfl) hS (k:=0) rfl Qg9 rfl) rfl (.run 3 rfl ⟨Qu9,trivial⟩ ?_)
 refine WL.gval rfl rfl (fun hg1=>(by exact .fieldAddr 4 (.of rfl) X20 rfl rfl Qs9 rfl)) rfl ?_
 refine .gval rfl rfl (fun hg1=>(.ld (.gd hg1 rfl) hS (k:=0) rfl Qg9 rfl)) rfl (.gval rfl rfl (fun hg1=>(.len (.gd hg1 rfl) Qu9)) rfl (.gval rfl rfl (fun hg1=>(.leq (.gd hg1 rfl) (.of rfl))) rfl (.val (.pand (.of rfl) (.of rfl) (.of rfl)) rfl (.q 1 rfl ?_))))
 refine WL.gval rfl rfl (fun hg1=>(by exact .fieldAddr 5 (.of rfl) X20 rfl rfl Qs9 rfl)) rfl ?_
 refine .gval rfl rfl (fun hg1=>(.ld (.gd hg1 rfl) hS (k:=0) rfl Qg9 rfl)) rfl (.gval rfl rfl (fun hg1=>(.len (.gd hg1 rfl) Qu9)) rfl (.gval rfl rfl (fun hg1=>(.leq (.gd hg1 rfl) (.of rfl))) rfl (.val (.pand (.of rfl) (.of rfl) (.of rfl)) rfl (.q 1 rfl (.nil (.seq (.region ?_)))))))
 refine WL.val (.fieldAddr 6 (.of rfl) X20 rfl rfl Qs3 rfl) rfl ?_
 refine .val (.ld (.of rfl) hS (k:=0) rfl Qg3 rfl) rfl (.q 2 rfl ?_)
 refine WL.gval rfl rfl (fun hg1=>(by exact .fieldAddr 7 (.of rfl) X20 rfl rfl Qs3 rfl)) rfl ?_
 refine .gval rfl rfl (fun hg1=>(.ld (.gd hg1 rfl) hS (k:=0) rfl Qg3 rfl)) rfl ?_
 refine WL.gval rfl rfl (fun hg1=>(by exact .fieldAddr 6 (.of rfl) X20 rfl rfl Qs3 rfl)) rfl ?_
 refine .gval rfl rfl (fun hg1=>(.ld (.gd hg1 rfl) hS (k:=0) rfl Qg3 rfl)) rfl (.gval rfl rfl (fun hg1=>(.geq (.gd hg1 rfl) (.gd hg1 rfl))) rfl (.val (.pand (.of rfl) (.of rfl) (.of rfl)) rfl (.q 1 rfl ?_)))
 refine WL.gval rfl rfl (fun hg1=>(by exact .fieldAddr 7 (.of rfl) X20 rfl rfl Qs3 rfl)) rfl ?_
 refine .gval rfl rfl (fun hg1=>(.ld (.gd hg1 rfl) hS (k:=0) rfl Qg3 rfl)) rfl (.gval rfl rfl (fun hg1=>(.leq (.gd hg1 rfl) (.of rfl))) rfl (.val (.pand (.of rfl) (.of rfl) (.of rfl)) rfl (.q 1 rfl ?_)))
 refine WL.gval rfl rfl (fun hg1=>(by exact .fieldAddr 8 (.of rfl) X20 rfl rfl Qs3 rfl)) rfl ?_
 refine .gval rfl rfl (fun hg1=>(.ld (.gd hg1 rfl) hS (k:=0) rfl Qg3 rfl)) rfl (.gval rfl rfl (fun hg1=>(.geq (.gd hg1 rfl) (.of rfl))) rfl (.val (.pand (.of rfl) (.of rfl) (.of rfl)) rfl (.q 1 rfl ?_)))
 refine WL.gval rfl rfl (fun hg1=>(by exact .fieldAddr 8 (.of rfl) X20 rfl rfl Qs3 rfl)) rfl ?_
 refine .gval rfl rfl (fun hg1=>(.ld (.gd hg1 rfl) hS (k:=0) rfl Qg3 rfl)) rfl (.gval rfl rfl (fun hg1=>(.leq (.gd hg1 rfl) (.of rfl))) rfl (.val (.pand (.of rfl) (.of rfl) (.of rfl)) rfl (.q 1 rfl (.nil (.seq (.t 2 rfl (.gval rfl rfl (fun hg1=>(.move (.of rfl))) rfl (.val (.pand (.of rfl) (.of rfl) (.of rfl)) rfl (.q 1 rfl ?_)))))))))
 refine WL.gval rfl rfl (fun hg1=>(by exact .fieldAddr 1 (.of rfl) X20 rfl rfl Qs9 rfl)) rfl ?_
 refine .gval rfl rfl (fun hg1=>(.ld (.gd hg1 rfl) hS (k:=0) rfl Qg9 rfl)) rfl ?_
 refine WL.gval rfl rfl (fun hg1=>(by exact .fieldAddr 0 (.of rfl) X20 rfl rfl Qs3 rfl)) rfl ?_
 refine .gval rfl rfl (fun hg1=>(.ld (.gd hg1 rfl) hS (k:=0) rfl Qg3 rfl)) rfl (.gcall (T:=fun w=>Sat B w I (blk b1 [I64 r.kind,S r.name,S r.parent,S r.user,S r.service,S r.url,I64 r.made,I64 r.used,I64 r.uses,.bool r.fresh] 54::As)) rfl rfl rfl Tryz.func154 rfl (fun hg1=>(X0 (.gd hg1 rfl) (X0 (.gd hg1 rfl) X4))) rfl (fun hg1=>Is_any r.name r.kind hn B _ I hK hP _ hS) hS ?_)
 clear hS; rintro w hS
 refine .val (.pand (.of rfl) (.of rfl) (.of rfl)) rfl (.q 1 rfl ?_)
 refine WL.gval rfl rfl (fun hg1=>(by exact .fieldAddr 0 (.of rfl) X20 rfl rfl Qs3 rfl)) rfl ?_
 refine .gval rfl rfl (fun hg1=>(.ld (.gd hg1 rfl) hS (k:=0) rfl Qg3 rfl)) rfl ?_
 refine WL.gval rfl rfl (fun hg1=>(by exact .fieldAddr 2 (.of rfl) X20 rfl rfl Qs9 rfl)) rfl ?_
 refine .gval rfl rfl (fun hg1=>(.ld (.gd hg1 rfl) hS (k:=0) rfl Qg9 rfl)) rfl (.gcall (T:=fun w=>Sat B w I (blk b1 [I64 r.kind,S r.name,S r.parent,S r.user,S r.service,S r.url,I64 r.made,I64 r.used,I64 r.uses,.bool r.fresh] 54::As)) rfl rfl rfl Tryz.func155 rfl (fun hg1=>(X0 (.gd hg1 rfl) (X0 (.gd hg1 rfl) X4))) rfl (fun hg1=>Xgi r.kind r.parent hp B _ I hK hP _ hS) hS ?_)
 clear hS; rintro w hS
 refine .val (.pand (.of rfl) (.of rfl) (.of rfl)) rfl (.q 1 rfl (.nil (.ret (Xe Tryz.results107 rfl ?_))))
 exact ⟨_,rfl,rfl,hS.drop (k:=0) rfl⟩
end Go.Proofs.YtfibbpgikjggfaaGreatDoor
namespace Gk
open Go Go.RowKit Go.WideShapes Go.ChangeShapes
def im0 (W:World):Im:=fun b=>W.heap[b]?
theorem sat0 (W:World):Sat W W (im0 W) []:=⟨[],rfl,rfl,rfl,rfl,fun _ _ h=>h,fun _ _ h=>by simp at h,List.nodup_nil,fun _ _ h=>by simp at h⟩
theorem Sat.below {W w:World} {I:Im} {As:List X9} (hS:Sat W w I As) (hl:Le (im0 W) I):Below W.heap.size W w:=by
 obtain ⟨h,_,g⟩:=hS
 have hb:∀ k,k<W.heap.size→w.heap[k]?=W.heap[k]?:=fun k hk=>by
  rw [Y16 hk]
  exact g.imm k _ (hl k _ (Y16 hk))
 refine ⟨g.os,g.tape,g.output,?_,hb⟩
 rcases Y1k W.heap.size with h0 | h0
 ·omega
 ·have h1:=hb (W.heap.size - 1) (by omega)
  rw [Y16 (show W.heap.size - 1<W.heap.size by omega)] at h1
  have:=(Y19.1 h1).1
  omega
theorem Xhh {H:Type} {enc:TypeId×Value→H} {P:Program} {f:Func} {s:ChangeSpec} {apart fresh handsOn:Bool} {W W':World} {args:Array Value} {v:Value} {ds gs:List (DataW H)} {before pa pv:List MemPlace}
  (hW:DataW.Whole enc P f.params.toList s.vars apart W args.toList ds gs before) (hb:Below W.heap.size W W')
  (hres:∀ (b:Nat) (sp:Nat→Bool) (hd:Bool),DataW.TrodAll enc P W' b sp hd f.resultTypes.toList (v.resultList f.resultTypes.size) (s.fn H (ds ++ gs)).results [])
  (hargs:DataW.TrodAll enc P W' 0 (fun b=>decide (b<W.heap.size)) true f.params.toList args.toList (s.fn H (ds ++ gs)).args pa)
  (hvars:DataW.TrodVars enc P W' (fun b=>decide (b<W.heap.size)) s.vars (s.fn H (ds ++ gs)).vars pv) (hps:before=pa ++ pv) :
  s.post enc P f apart fresh handsOn false W args v W':=by
 refine ⟨ds,gs,before,[],pa,pv,hW,hres _ _ _,hargs,hvars,World.keptBut_mono (fun p hp=>⟨hp,?_⟩) (hb.frame (·∈before)),fun h=>(by cases h)⟩
 rw [hps,Y12] at hp
 exact Or.inr hp
theorem X5b {c:Nat}:∀ (L:List (List Value)),(∀ l∈L,l.length=c)→∀ (i r:Nat),r<c→L.flatten[i*c+r]?=(L[i]?).bind (·[r]?)
 | [],_,i,r,_=>by simp
 | a::L,h,0,r,hr=>by
  have ha:=h a (by simp)
  rw [Y1t,Y3c,Yf,Yi (by omega)]
  rfl
 | a::L,h,i+1,r,hr=>by
  have ha:=h a (by simp)
  rw [Y1t,Y2z,Yt (by omega),show i*c+c+r - a.length=i*c+r by omega,X5b L (fun l hl=>h l (by simp [hl])) i r hr]
  rfl
theorem X2h {c:Nat}:∀ (L:List (List Value)),(∀ l∈L,l.length=c)→∀ (i:Nat) (l:List Value),L[i]?=some l→(L.flatten.drop (i*c)).take c=l
 | [],_,i,l,h=>by simp at h
 | a::L,h,0,l,hl=>by
  have ha:=h a (by simp)
  simp at hl
  subst hl
  rw [Y1t,Y3c,Yl,← ha,Y3l]
 | a::L,h,i+1,l,hl=>by
  have ha:=h a (by simp)
  rw [Y1t,Y2z,Y43,← ha,← Y1l,List.drop_left,ha]
  exact X2h L (fun l hl=>h l (by simp [hl])) i l (by simpa using hl)
section
variable {H:Type} {enc:TypeId×Value→H} {P:Program} {W:World} {spare:Nat→Bool} {held:Bool}
theorem Xmg {a:Addr} {xs:List Value} (hn:0<xs.length) (h:∀ j v,xs[j]?=some v→W.cell? (a.add j)=some v):At (im0 W) a xs:=by
 obtain ⟨ab,ao,sp⟩:=a
 have h0:=h 0 xs[0] (Y7 hn)
 have hs:sp=none:=by simpa [Addr.add] using World.cell?_spot h0
 subst hs
 have e:∀ j,(⟨ab,ao,none⟩:Addr).add j=⟨ab,ao+j,none⟩:=Xt ab ao
 rw [e] at h0
 unfold World.cell? at h0
 split at h0
 ·rename_i arr E fr hb
  refine ⟨rfl,arr,E,fr,hb,fun j v hj=>?_⟩
  have hc2:=h j v hj
  rw [e] at hc2
  unfold World.cell? at hc2
  dsimp only at hb
  rw [hb] at hc2
  simpa using hc2
 ·cases h0
end
end Gk
namespace Go.Proofs.YtfibbpgikjggfaaGreatDoor
open Gk Go.RowKit Go.WideShapes Go.ChangeShapes
structure Sv where
 id:Int
 ord:Nat
 urls:List UInt8
 login:Bool
 proxy:Bool
 back:Bool
 calls:List UInt8
 rel:List (List UInt8)
def X2v (s:Sv) (a:Option Addr) (c:Nat):List Value:=[I64 s.id,F64 s.ord,S s.urls,.bool s.login,.bool s.proxy,.bool s.back,S s.calls,.slice a s.rel.length c]
def SvAt (I:Im) (s:Sv) (l:List Value):Prop:=∃ a c,l=X2v s a c∧s.rel.length≤c∧RS I a 1 s.rel.length (s.rel.map S)
theorem SvAt.mono {I J:Im} {s:Sv} {l:List Value} (h:SvAt I s l) (hl:Le I J):SvAt J s l:=by
 obtain ⟨a,c,e,h1,h2⟩:=h
 exact ⟨a,c,e,h1,h2.mono hl⟩
structure Sv.fits (s:Sv):Prop where
 id:-9223372036854775808≤s.id∧s.id≤9223372036854775807
 ord:s.ord<18446744073709551616
 urls:s.urls.length≤maxLen
 calls:s.calls.length≤maxLen
 rel:s.rel.length≤maxLen∧∀ x∈s.rel,x.length≤maxLen
def SvsAt (I:Im) (a:Option Addr) (l:List Sv):Prop:=∀ (i:Nat) (s:Sv),l[i]?=some s→∃ p ra rc,a=some p∧At I (p.add (i*8)) (X2v s ra rc)∧s.rel.length≤rc∧RS I ra 1 s.rel.length (s.rel.map S)
theorem SvsAt.mono {I J:Im} {a:Option Addr} {l:List Sv} (h:SvsAt I a l) (hl:Le I J):SvsAt J a l:=fun i s hs=>by
 obtain ⟨p,ra,rc,e,h1,h2,h3⟩:=h i s hs
 exact ⟨p,ra,rc,e,h1.mono hl,h2,h3.mono hl⟩
theorem X4q {I:Im} {p:Addr} {vs:List Value} (h:At I p vs) (n:Nat):At I p (vs.take n):=by
 obtain ⟨h1,arr,E,fr,h2,h3⟩:=h
 refine ⟨h1,arr,E,fr,h2,fun j v hj=>?_⟩
 rw [Y1v] at hj
 split at hj
 ·exact h3 j v hj
 ·cases hj
end Go.Proofs.YtfibbpgikjggfaaGreatDoor
namespace Go.Proofs.YtfibbpgikjggfaaGreatDoor
open Gk Pc Ul Pat
set_option maxHeartbeats 800000 in
theorem Xd4 (p:List UInt8) (hl:p.length≤1000000) (B w:World) (I:Im) (As:List X9) (hS:Sat B w I As) :
  Calls Tryz.prog 61 [S p].toArray w (Ret fun v w'=>v=S (X2z p)∧Sat B w' I As):=by
 refine calls Tryz.func61 rfl Tryz.ntmps61 rfl (.seq (.q 1 rfl (.seq (.seq (.t 3 rfl (.gval rfl rfl (fun hg1=>(.move (.of rfl))) rfl ?_))))))
 refine WL.gval rfl rfl (fun hg1=>.index (.gd hg1 rfl) (.of rfl) (by omega) (by cases p with | nil=>simp at hg1 | cons a b=>simp only [Y6]; omega) Qu9) rfl ?_
 refine .gval rfl rfl (fun hg1=>(.neq (.gd hg1 rfl) (.of rfl))) rfl (.val (.por (.of rfl) (.of rfl) (.of rfl)) rfl (.nil ?_))
 refine WC.cond rfl (fun hb15=>?_) (fun hb15=>?_)
 ·
  have hc15:=hb15; try simp only [Y5] at hc15
  refine .seq (.q 2 rfl (.ret (Xe Tryz.results61 rfl ?_)))
  refine ⟨_,rfl,?_,hS⟩
  cases p with
  | nil=>rfl
  | cons a b =>
   rw [X2z,if_neg (fun e=>?_)]
   subst e
   rcases hc15 with h | h
   ·cases h
   ·exact absurd (show (((47:UInt8).toNat:Nat):Int)=47 from rfl) h
 have hc15:=hb15; try simp only [Y5] at hc15
 refine .skip (.seq ?_)
 have hp1:1≤p.length:=by cases p with | nil=>simp at hb15 | cons a b=>simp
 have hpn:=X27 (spl (p.drop 1))
 rw [X2x,Yj] at hpn
 have hn1:0<(spl (p.drop 1)).length:=Y1q.2 (X7n _)
 refine .t 1 rfl (.val (.subFrom (.of rfl) (.of rfl) (by omega) (by omega) Qu9) rfl ?_)
 refine WL.call Qf96 rfl (X0 (.of rfl) (X0 (.of rfl) X4)) rfl (Xgo (p.drop 1) (by rw [Yj]; omega) B _ I _ hS) ?_
 clear hS
 rintro _ w hS
 obtain ⟨gl,cl,rl,rfl,_,_,_,_,hS⟩:=hS.vecOpen (k:=0) rfl hn1
 try dsimp only [List.set] at hS
 refine .q 1 rfl (.nil (.seq (.q 1 rfl (.seq (.seq (.q 1 rfl (.block ?_)))))))
 replace hS:=hS.vecNil 9 1
 refine .loop (σ:=Value×Nat) (fun ⟨kv,i⟩=>[(3,.slice (some (ad gl 0)) (spl (p.drop 1)).length cl),(4,kv),(5,I64 (i:Nat))]) (fun ⟨kv,i⟩ w=>i≤(spl (p.drop 1)).length∧Sat B w I (Vec 9 1 kv (List.foldl keep [] ((spl (p.drop 1)).take i)).length ((List.foldl keep [] ((spl (p.drop 1)).take i)).map S)::blk gl ((spl (p.drop 1)).map S ++ rl) 9::As)) (fun ⟨kv,i⟩=>(spl (p.drop 1)).length - i) (.slice none 0 0,0) ⟨rfl,rfl,rfl,trivial⟩ ⟨Yp _,hS⟩ ?_
 rintro ⟨kv,i⟩ w ⟨hi,hS⟩
 change WC _ _ _ _ [(3,.slice (some (ad gl 0)) (spl (p.drop 1)).length cl),(4,kv),(5,I64 (i:Nat))] w
 refine .seq (.seq (.region (.run 4 rfl ⟨⟨_,X1f⟩,trivial⟩ (.nil ?_))))
 refine WC.cond rfl (fun hb23=>?_) (fun hb23=>?_)
 ·
  have hc23:=hb23; try simp only [Y5] at hc23
  refine .skip (.seq (.block (.seq (.seq ?_))))
  obtain ⟨x,hx⟩:∃ x,(spl (p.drop 1))[i]?=some x:=⟨_,Y7 (by omega)⟩
  have hxb:((spl (p.drop 1)).map S ++ rl)[0+(i:Int).toNat*1]?=some (S x):=by rw [Yf,Yk,Y1i,Yi (by rw [Y13]; omega),Yx,hx]; rfl
  have hKn:(List.foldl keep [] ((spl (p.drop 1)).take (i+1)))=keep (List.foldl keep [] ((spl (p.drop 1)).take i)) x:=by rw [Y1a,hx,Y33]; rfl
  obtain ⟨ka,kc,rfl,hkc,_⟩:=hS.vecSlice (k:=0) (v:=kv) rfl
  have hKl:(List.foldl keep [] ((spl (p.drop 1)).take i)).length≤1000001:=by
   have h1:=X27 (List.foldl keep [] ((spl (p.drop 1)).take i))
   have h2:=X59 ((spl (p.drop 1)).take i) []
   have h3:tot (spl (p.drop 1))=tot ((spl (p.drop 1)).take i)+tot ((spl (p.drop 1)).drop i):=by rw [← X64,Yw]
   have h4:=X2x (p.drop 1)
   rw [Yj] at h4
   rw [show tot []=0 from rfl] at h2
   omega
  refine .t 2 rfl (.val (.indexAddr (.of rfl) (.of rfl) (by omega) (by omega) X1f Qs9) rfl (.val (.ld (v:=S x) (.of rfl) hS (k:=1) rfl Qg9 hxb) rfl (.q 2 rfl (.gval rfl rfl (fun hg1=>(.move (.of rfl))) rfl (.gval rfl rfl (fun hg1=>(.lenSlice (.gd hg1 rfl) X1f)) rfl (.gval rfl rfl (fun hg1=>(.gtr (.gd hg1 rfl) (.of rfl))) rfl (.val (.pand (.of rfl) (.of rfl) (.of rfl)) rfl (.nil ?_))))))))
  refine WC.cond rfl (fun hb35=>?_) (fun hb35=>?_)
  ·
   have hc35:=hb35; try simp only [Y5] at hc35
   have hx2:x=[46,46]∧0<(List.foldl keep [] ((spl (p.drop 1)).take i)).length:=by
    simp only [Yn,beq_iff_eq,decide_eq_true_eq] at hb35
    exact ⟨hb35.1,by omega⟩
   obtain ⟨gk,ck,rk,hvv,_,_,_,_,hS⟩:=hS.vecOpen (k:=0) rfl hx2.2
   injection hvv with hv1 hv2 hv3
   subst hv1; subst hv3
   try dsimp only [List.set] at hS
   refine .region (.buildSlice (cs:=[]) hS X6 X1f Qs9 Qz9 rfl rfl rfl rfl ?_)
   clear hS; intro b36 w hS
   refine .run 4 rfl ⟨⟨_,X1f⟩,⟨by omega,by omega⟩,trivial⟩ (.val (.slcTo (.of rfl) (.of rfl) (by omega) (by omega) X1f Qs9) rfl ?_)
   rw [X89]
   refine WL.append0p (bytes:=16) (news:=(List.foldl keep [] ((spl (p.drop 1)).take i)).map S) (rest':=rk) hS (.of rfl) (.of rfl) (k:=0) rfl (by rw [Y13]; omega) X1f X1h rfl rfl rfl rfl (fun u hu=>by obtain ⟨y,_,rfl⟩:=Y2c.1 hu; rfl) ⟨by omega,by unfold maxLen; omega⟩ rfl ?_
   clear hS; intro v42 w hS
   replace hS:Sat B w I (Vec 9 1 v42 ((List.foldl keep [] ((spl (p.drop 1)).take i)).take ((List.foldl keep [] ((spl (p.drop 1)).take i)).length - 1)).length (((List.foldl keep [] ((spl (p.drop 1)).take i)).take ((List.foldl keep [] ((spl (p.drop 1)).take i)).length - 1)).map S)::blk gl ((spl (p.drop 1)).map S ++ rl) 9::As):=by
    have h:=hS.drop (k:=1) rfl
    rw [show (((List.foldl keep [] ((spl (p.drop 1)).take i)).length:Int) - 1).toNat=(List.foldl keep [] ((spl (p.drop 1)).take i)).length - 1 by omega,← List.map_take] at h
    rw [show ((List.foldl keep [] ((spl (p.drop 1)).take i)).take ((List.foldl keep [] ((spl (p.drop 1)).take i)).length - 1)).length=(List.foldl keep [] ((spl (p.drop 1)).take i)).length - 1 by rw [Yq]; omega]
    exact h
   refine .q 1 rfl (.nil (.seq (.t 2 rfl (.val (.indexAddr (.of rfl) (.of rfl) (by omega) (by omega) X1f Qs9) rfl (.val (.ld (v:=S x) (.of rfl) hS (k:=1) rfl Qg9 hxb) rfl (.q 2 rfl (.gval rfl rfl (fun hg1=>(.move (.of rfl))) rfl (.gval rfl rfl (fun hg1=>(.move (.of rfl))) rfl ?_))))))))
   refine WL.gval rfl rfl (fun hg1=>(.indexAddr (.gd hg1 rfl) (.gd hg1 rfl) (by (try simp only [Y5] at hg1); omega) (by (try simp only [Y5] at hg1); omega) X1f Qs9)) rfl ?_
   refine .gval rfl rfl (fun hg1=>.ld (v:=S x) (.gd hg1 rfl) hS (k:=1) rfl Qg9 hxb) rfl (.gval rfl rfl (fun hg1=>(.nes (.gd hg1 rfl) (.of rfl))) rfl (.val (.pand (.of rfl) (.of rfl) (.of rfl)) rfl (.nil ?_)))
   refine WC.condF (by show some (Value.bool (x != [46] && x != [46,46]))=_; rw [hx2.1]; rfl) ?_
   refine .skip (.region (.run 3 rfl ⟨⟨by omega,by omega⟩,trivial⟩ (.nil ?_)))
   refine ⟨(_,i+1),⟨rfl,rfl,rfl,trivial⟩,⟨by (try dsimp only); omega,?_⟩,by (try dsimp only); omega⟩
   rw [hKn,keep,if_neg (by rw [hx2.1]; decide),if_pos hx2.1,List.dropLast_eq_take]
   exact hS
  have hc35:=hb35; try simp only [Y5] at hc35
  refine .skip (.seq (.t 2 rfl (.val (.indexAddr (.of rfl) (.of rfl) (by omega) (by omega) X1f Qs9) rfl (.val (.ld (v:=S x) (.of rfl) hS (k:=1) rfl Qg9 hxb) rfl (.q 2 rfl (.gval rfl rfl (fun hg1=>(.move (.of rfl))) rfl (.gval rfl rfl (fun hg1=>(.move (.of rfl))) rfl ?_)))))))
  refine WL.gval rfl rfl (fun hg1=>(.indexAddr (.gd hg1 rfl) (.gd hg1 rfl) (by (try simp only [Y5] at hg1); omega) (by (try simp only [Y5] at hg1); omega) X1f Qs9)) rfl ?_
  refine .gval rfl rfl (fun hg1=>.ld (v:=S x) (.gd hg1 rfl) hS (k:=1) rfl Qg9 hxb) rfl (.gval rfl rfl (fun hg1=>(.nes (.gd hg1 rfl) (.of rfl))) rfl (.val (.pand (.of rfl) (.of rfl) (.of rfl)) rfl (.nil ?_)))
  refine WC.cond rfl (fun hb54=>?_) (fun hb54=>?_)
  ·
   have hc54:=hb54; try simp only [Y5] at hc54
   refine .t 3 rfl (.val (.indexAddr (.of rfl) (.of rfl) (by omega) (by omega) X1f Qs9) rfl (.val (.ld (v:=S x) (.of rfl) hS (k:=1) rfl Qg9 hxb) rfl (.buildSlice (cs:=[_]) hS (X5 (.of rfl) X6) X1f Qs9 Qz9 rfl rfl rfl rfl ?_)))
   clear hS; intro b60 w hS
   refine WL.append (size:=1) (bytes:=16) hS (.of rfl) (.of rfl) (k:=0) rfl X1f X1h rfl rfl rfl rfl rfl rfl rfl ⟨by omega,by unfold maxLen; omega⟩ rfl ?_
   clear hS; intro v61 w hS; try dsimp only [List.set] at hS
   obtain ⟨a61,c61,rfl,hcap61,_⟩:=hS.vecSlice (k:=0) (v:=v61) rfl
   refine .q 1 rfl (.nil (.region (.run 3 rfl ⟨⟨by omega,by omega⟩,trivial⟩ (.nil ?_))))
   refine ⟨(_,i+1),⟨rfl,rfl,rfl,trivial⟩,⟨by (try dsimp only); omega,?_⟩,by (try dsimp only); omega⟩
   rw [hKn,keep,if_neg hc54.1,if_neg hc54.2,Yy,Y0]
   exact hS
  have hc54:=hb54; try simp only [Y5] at hc54
  refine .skip (.region (.run 3 rfl ⟨⟨by omega,by omega⟩,trivial⟩ (.nil ?_)))
  refine ⟨(_,i+1),⟨rfl,rfl,rfl,trivial⟩,⟨by (try dsimp only); omega,?_⟩,by (try dsimp only); omega⟩
  have hke:=Xh6 (k:=(List.foldl keep [] ((spl (p.drop 1)).take i))) hc54 (fun e=>Ye (by rcases hc35 with h | h; exact absurd e h; omega))
  rw [hKn,hke]
  exact hS
 have hc23:=hb23; try simp only [Y5] at hc23
 refine .exit (.seq ?_)
 have hin:i=(spl (p.drop 1)).length:=by omega
 subst hin
 rw [Y1b] at hS
 obtain ⟨ka,kc,rfl,hkc,_⟩:=hS.vecSlice (k:=0) (v:=kv) rfl
 have htot:=X59 (spl (p.drop 1)) []
 rw [X2x,show tot []=0 from rfl,Yf,Yj] at htot
 have hkt:=X27 (List.foldl keep [] (spl (p.drop 1)))
 refine .q 1 rfl (.seq (.seq (.q 1 rfl (.block (.loop (σ:=Nat) (fun j=>[(3,.slice (some (ad gl 0)) (spl (p.drop 1)).length cl),(4,.slice ka (List.foldl keep [] (spl (p.drop 1))).length kc),(6,S (Xf ((List.foldl keep [] (spl (p.drop 1))).take j))),(7,I64 (j:Nat))]) (fun j w=>j≤(List.foldl keep [] (spl (p.drop 1))).length∧Sat B w I (Vec 9 1 (.slice ka (List.foldl keep [] (spl (p.drop 1))).length kc) (List.foldl keep [] (spl (p.drop 1))).length ((List.foldl keep [] (spl (p.drop 1))).map S)::blk gl ((spl (p.drop 1)).map S ++ rl) 9::As)) (fun j=>(List.foldl keep [] (spl (p.drop 1))).length - j) 0 ⟨rfl,rfl,rfl,rfl,trivial⟩ ⟨Yp _,hS⟩ ?_)))))
 rintro j w ⟨hj,hS⟩
 change WC _ _ _ _ [(3,.slice (some (ad gl 0)) (spl (p.drop 1)).length cl),(4,.slice ka (List.foldl keep [] (spl (p.drop 1))).length kc),(6,S (Xf ((List.foldl keep [] (spl (p.drop 1))).take j))),(7,I64 (j:Nat))] w
 refine .seq (.seq (.region (.run 4 rfl ⟨⟨_,X1f⟩,trivial⟩ (.nil ?_))))
 refine WC.cond rfl (fun hb65=>?_) (fun hb65=>?_)
 ·
  have hc65:=hb65; try simp only [Y5] at hc65
  refine .skip (.seq (.block ?_))
  obtain ⟨x,hx⟩:∃ x,(List.foldl keep [] (spl (p.drop 1)))[j]?=some x:=⟨_,Y7 (by omega)⟩
  have hsn:Xf ((List.foldl keep [] (spl (p.drop 1))).take (j+1))=Xf ((List.foldl keep [] (spl (p.drop 1))).take j) ++ 47::x:=by rw [Y1a,hx]; exact X3d _ _
  have hsl:(Xf ((List.foldl keep [] (spl (p.drop 1))).take j)).length+(x.length+1)≤tot (List.foldl keep [] (spl (p.drop 1))):=by
   rw [show x.length+1=(47::x).length from rfl,← Y0,← hsn,X2p]
   have:tot (List.foldl keep [] (spl (p.drop 1)))=tot ((List.foldl keep [] (spl (p.drop 1))).take (j+1))+tot ((List.foldl keep [] (spl (p.drop 1))).drop (j+1)):=by rw [← X64,Yw]
   omega
  obtain ⟨g19,rest19,hS19⟩:∃ g rest,ka=some (ad g 0)∧Sat B w I (blk g ((List.foldl keep [] (spl (p.drop 1))).map S ++ rest) 9::blk gl ((spl (p.drop 1)).map S ++ rl) 9::As):=by
   obtain ⟨g,c,rest,hv,_,_,_,_,hs⟩:=hS.vecOpen (k:=0) rfl (by omega)
   injection hv with hv1 hv2 hv3
   exact ⟨g,rest,hv1,hs⟩
  obtain ⟨rfl,hS19⟩:=hS19
  refine .region ?_
  refine WL.run 4 rfl ⟨by (try simp only [Y0,Y6,Yh]); omega,trivial⟩ ?_
  refine .val (.indexAddr (b:=g19) (o:=0) (.of rfl) (.of rfl) (by omega) (by omega) X1f Qs9) rfl ?_
  refine WL.val (.ld (v:=S x) (.of rfl) hS19 (k:=0) rfl Qg9 (by rw [Yf,Yk,Y1i,Yi (by rw [Y13]; omega),Yx,hx]; rfl)) rfl ?_
  clear hS19
  refine WL.run 2 rfl ⟨by (try simp only [Y0,Y6,Yh]); omega,trivial⟩ ?_
  refine .nil (.region (.run 3 rfl ⟨⟨by omega,by omega⟩,trivial⟩ (.nil ?_)))
  refine ⟨j+1,⟨rfl,rfl,by show some (S _)=some _; rw [hsn]; simp,rfl,trivial⟩,⟨by omega,hS⟩,by omega⟩
 have hc65:=hb65; try simp only [Y5] at hc65
 refine .exit (.seq ?_)
 have hjn:(List.foldl keep [] (spl (p.drop 1))).take j=(List.foldl keep [] (spl (p.drop 1))):=Y11 (by omega)
 have hsl2:(Xf ((List.foldl keep [] (spl (p.drop 1))).take j)).length≤tot (List.foldl keep [] (spl (p.drop 1))):=by rw [hjn,X2p]; exact Ys _
 have hn1:1≤(spl (p.drop 1)).length:=Y1q.2 (X7n _)
 obtain ⟨x,hx⟩:∃ x,(spl (p.drop 1))[(spl (p.drop 1)).length - 1]?=some x:=⟨_,Y7 (by omega)⟩
 have hxb:((spl (p.drop 1)).map S ++ rl)[0+(((spl (p.drop 1)).length:Int) - 1).toNat*1]?=some (S x):=by rw [Yf,show (((spl (p.drop 1)).length:Int) - 1).toNat=(spl (p.drop 1)).length - 1 by omega,Y1i,Yi (by rw [Y13]; omega),Yx,hx]; rfl
 have hlast:(spl (p.drop 1)).getLastD []=x:=by rw [Y2p,Y37,hx]; rfl
 have hpc:p=47::p.drop 1:=by
  cases p with
  | nil=>simp at hb15
  | cons a b =>
   have h:=hb15
   rw [show ((a::b:List UInt8) == [])=false from rfl,Y3i] at h
   have:a=47:=Yz.1 (by
    have h2:(((a.toNat:Int)) != 47)=false:=h
    simp only [bne_eq_false_iff_eq] at h2
    show a.toNat=47
    omega)
   rw [this]; rfl
 have hall:X2z p=Xf (List.foldl keep [] (spl (p.drop 1))) ++ (if X1w ((spl (p.drop 1)).getLastD []) || (List.foldl keep [] (spl (p.drop 1))).length == 0 then [47] else []):=by rw [hpc,X2z,if_pos rfl]; rfl
 refine .region (.run 4 rfl ⟨⟨_,X1f⟩,⟨by omega,by omega⟩,trivial⟩ (.val (.indexAddr (.of rfl) (.of rfl) (by omega) (by omega) X1f Qs9) rfl (.val (.ld (v:=S x) (.of rfl) hS (k:=1) rfl Qg9 hxb) rfl (.q 1 rfl (.nil (.seq (.seq (.t 3 rfl (.gval rfl rfl (fun hg1=>(.move (.of rfl))) rfl (.gval rfl rfl (fun hg1=>(.eqs (.gd hg1 rfl) (.of rfl))) rfl (.val (.por (.of rfl) (.of rfl) (.of rfl)) rfl (.q 1 rfl (.gval rfl rfl (fun hg1=>(.move (.of rfl))) rfl (.gval rfl rfl (fun hg1=>(.lenSlice (.gd hg1 rfl) X1f)) rfl (.gval rfl rfl (fun hg1=>(.eql (.gd hg1 rfl) (.of rfl))) rfl (.val (.por (.of rfl) (.of rfl) (.of rfl)) rfl (.nil ?_)))))))))))))))))
 refine WC.cond rfl (fun hb91=>?_) (fun hb91=>?_)
 ·
  have hc91:=hb91; try simp only [Y5] at hc91
  refine .region ?_
  refine WL.run 3 rfl ⟨by (try simp only [Y0,Y6,Yh]); omega,trivial⟩ ?_
  refine .nil (.seq (.q 2 rfl (.ret (Xe Tryz.results61 rfl ?_))))
  refine ⟨_,rfl,?_,(hS.drop (k:=0) rfl).drop (k:=0) rfl⟩
  rw [hall,hjn,hlast]
  rw [if_pos (by simpa [X1w] using hb91)]
 have hc91:=hb91; try simp only [Y5] at hc91
 refine .skip (.seq (.q 2 rfl (.ret (Xe Tryz.results61 rfl ?_))))
 refine ⟨_,rfl,?_,(hS.drop (k:=0) rfl).drop (k:=0) rfl⟩
 rw [hall,hjn,hlast]
 rw [if_neg (by rw [Y2g]; simpa [X1w] using hb91),Yg]
theorem X9v (u:U) (hu:X39 u) (B w:World) (I:Im) (As:List X9) (hS:Sat B w I As) :
  Calls Tryz.prog 40 [.agg [S u.sch,S u.host,I64 (u.port:Nat),S u.path,S u.query,.bool u.ask].toArray].toArray w (Ret fun v w'=>v=S (X30 u)∧Sat B w' I As):=by
 refine calls Tryz.func40 rfl Tryz.ntmps40 rfl (.seq (.region (.boxA (cs:=[_,_,_,_,_,_]) hS (.of rfl) rfl ?_)))
 clear hS; intro b1 w hS
 refine .q 1 rfl (.nil (.seq ?_))
 obtain ⟨hs1,hs2,hp,hs4,hs5⟩:=hu
 have hd5:=X52 u.port hp
 refine .region (.val (.fieldAddr 0 (.of rfl) X3r rfl rfl Qs9 rfl) rfl (.val (.ld (.of rfl) hS (k:=0) rfl Qg9 rfl) rfl ?_))
 refine WL.run 1 rfl ⟨by (try simp only [Y0,Y6,Yh]); omega,trivial⟩ ?_
 refine .val (.fieldAddr 1 (.of rfl) X3r rfl rfl Qs9 rfl) rfl (.val (.ld (.of rfl) hS (k:=0) rfl Qg9 rfl) rfl ?_)
 refine WL.run 2 rfl ⟨by (try simp only [Y0,Y6,Yh]); omega,trivial⟩ ?_
 refine .nil (.seq (.seq (.region (.val (.fieldAddr 2 (.of rfl) X3r rfl rfl Qs3 rfl) rfl (.val (.ld (.of rfl) hS (k:=0) rfl Qg3 rfl) rfl (.q 1 rfl (.nil ?_)))))))
 refine WC.cond rfl (fun hb12=>?_) (fun hb12=>?_)
 ·
  have hc12:=hb12; try simp only [Y5] at hc12
  refine .region ?_
  refine WL.run 2 rfl ⟨by (try simp only [Y0,Y6,Yh]); omega,trivial⟩ ?_
  refine .val (.fieldAddr 2 (.of rfl) X3r rfl rfl Qs3 rfl) rfl (.val (.ld (.of rfl) hS (k:=0) rfl Qg3 rfl) rfl (.call Tryz.func95 rfl (X0 (.of rfl) X4) rfl (Xfe u.port hp B _ I _ hS) ?_))
  clear hS
  rintro _ w ⟨rfl,hS⟩
  refine WL.run 2 rfl ⟨by (try simp only [Y0,Y6,Yh]); omega,trivial⟩ ?_
  refine .nil (.seq (.q 2 rfl (.ret (Xe Tryz.results40 rfl ?_))))
  refine ⟨_,rfl,?_,hS.drop (k:=0) rfl⟩
  rw [X30,if_neg (by omega)]
  simp [Y8]
 have hc12:=hb12; try simp only [Y5] at hc12
 refine .skip (.seq (.q 2 rfl (.ret (Xe Tryz.results40 rfl ?_))))
 refine ⟨_,rfl,?_,hS.drop (k:=0) rfl⟩
 rw [X30,if_pos (by omega)]
 simp [Y8]
end Go.Proofs.YtfibbpgikjggfaaGreatDoor
namespace Go.Proofs.YtfibbpgikjggfaaGreatDoor
open Gk Pc Ul Pat
set_option maxHeartbeats 1000000 in
theorem Xc6 (s:List UInt8) (hl:s.length≤1000000) (B w:World) (I:Im) (As:List X9) (hS:Sat B w I As) :
  Calls Tryz.prog 17 [S s].toArray w (Ret fun v w'=>v=.tuple #[.agg (uc (pU s).1).toArray,I64 ((pU s).2:Nat)]∧Sat B w' I As):=by
 refine calls Tryz.func17 rfl Tryz.ntmps17 rfl (.seq (.region (.allocA (cs:=[_,_,_,_,_,_]) hS Xjx rfl ?_)))
 clear hS; intro b2 w hS
 refine .q 1 rfl (.nil (.seq (.seq (.region (.run 3 rfl ⟨Qu9,trivial⟩ (.nil ?_))))))
 refine WC.cond rfl (fun hb20=>?_) (fun hb20=>?_)
 ·
  have hc20:=hb20; try simp only [Y5] at hc20
  refine .seq (.region (.val (.build (cs:=[_,_,_,_,_,_]) X6 Xw rfl) rfl (.stA hS (k:=0) rfl (.of rfl) (.of rfl) rfl X1r rfl (by simp) ?_)))
  clear hS; intro w hS; try dsimp only [List.set] at hS
  try simp only [Ym,Yc,Yg,Y9,Yl,Yo,Yf] at hS
  refine .q 1 rfl (.nil (.ret (X1j (b:=_) (cs:=[_,_,_,_,_,_]) Xjv hS (k:=0) rfl X58 X1r rfl rfl rfl ?_)))
  exact ⟨_,rfl,by rw [pU,if_pos (by omega)]; rfl,(hS.drop (k:=0) rfl)⟩
 have hc20:=hb20; try simp only [Y5] at hc20
 refine .skip (.seq (.q 1 rfl (.seq (.q 1 rfl ?_))))
 refine WC.cutS (σ:=List UInt8×Nat) (fun ⟨sc0,k0⟩=>[(0,S s),(2,ptr b2 0),(4,I64 (k0:Nat)),(5,S sc0)]) (fun ⟨sc0,k0⟩ w=>(sc0=[]∧k0=0∧¬ low (s.take 7)=[104,116,116,112,58,47,47]∨sc0=Xcj∧k0=7∧low (s.take 7)=[104,116,116,112,58,47,47])∧Sat B w I (blk b2 [S [],S [],I64 0,S [],S [],.bool false] 63::As)) ?_ ?_
 ·
  refine .seq (.region (.run 4 rfl ⟨Qu9,trivial⟩ (.gval rfl rfl (fun hg1=>(.move (.of rfl))) rfl ?_)))
  refine WL.gval rfl rfl (fun hg1=>(.subTo (.gd hg1 rfl) (.of rfl) (by (try simp only [Y5] at hg1); omega) (by (try simp only [Y5] at hg1); omega) Qu9)) rfl ?_
  refine WL.gcall (T:=fun w=>Sat B w I (blk b2 [S [],S [],I64 0,S [],S [],.bool false] 63::As)) rfl rfl rfl Qf58 rfl (fun hg1=>(X0 (.gd hg1 rfl) X4)) rfl (fun hg1=>X8q _ (by rw [Yq]; omega) B _ I _ hS) hS ?_
  clear hS; rintro w hS
  refine .gval rfl rfl (fun hg1=>(.eqs (.gd hg1 rfl) (.of rfl))) rfl (.val (.pand (.of rfl) (.of rfl) (.of rfl)) rfl (.nil ?_))
  refine WC.cond rfl (fun hb30=>?_) (fun hb30=>?_)
  ·
   have hc30:=hb30; try simp only [Y5] at hc30
   refine .seq (.q 1 rfl (.q 1 rfl ?_))
   exact ⟨(Xcj,7),⟨rfl,rfl,rfl,rfl,trivial⟩,.inr ⟨rfl,rfl,(Xeq (n:=7) rfl).1 hb30⟩,hS⟩
  have hc30:=hb30; try simp only [Y5] at hc30
  refine .skip ?_
  exact ⟨([],0),⟨rfl,rfl,rfl,rfl,trivial⟩,.inl ⟨rfl,rfl,fun e=>by have:=(Xeq (n:=7) (X:=[104,116,116,112,58,47,47]) rfl).2 e; exact absurd (this.symm.trans hb30) (by decide)⟩,hS⟩
 rintro ⟨sc0,k0⟩ w ⟨hs7,hS⟩
 change WC _ _ _ _ [(0,S s),(2,ptr b2 0),(4,I64 (k0:Nat)),(5,S sc0)] w
 refine WC.cutS (σ:=List UInt8×Nat) (fun ⟨sch,k⟩=>[(0,S s),(2,ptr b2 0),(4,I64 (k:Nat)),(5,S sch)]) (fun ⟨sch,k⟩ w=>(k=0∧Xv s=none∨Xv s=some (sch,s.drop k)∧0<k∧k≤s.length∧sch.length≤5∧(sch=Xcj∨sch=X3t))∧Sat B w I (blk b2 [S [],S [],I64 0,S [],S [],.bool false] 63::As)) ?_ ?_
 ·
  refine .seq (.region (.run 4 rfl ⟨Qu9,trivial⟩ (.gval rfl rfl (fun hg1=>(.move (.of rfl))) rfl ?_)))
  refine WL.gval rfl rfl (fun hg1=>(.subTo (.gd hg1 rfl) (.of rfl) (by (try simp only [Y5] at hg1); omega) (by (try simp only [Y5] at hg1); omega) Qu9)) rfl ?_
  refine WL.gcall (T:=fun w=>Sat B w I (blk b2 [S [],S [],I64 0,S [],S [],.bool false] 63::As)) rfl rfl rfl Qf58 rfl (fun hg1=>(X0 (.gd hg1 rfl) X4)) rfl (fun hg1=>X8q _ (by rw [Yq]; omega) B _ I _ hS) hS ?_
  clear hS; rintro w hS
  refine .gval rfl rfl (fun hg1=>(.eqs (.gd hg1 rfl) (.of rfl))) rfl (.val (.pand (.of rfl) (.of rfl) (.of rfl)) rfl (.nil ?_))
  refine WC.cond rfl (fun hb39=>?_) (fun hb39=>?_)
  ·
   have hc39:=hb39; try simp only [Y5] at hc39
   refine .seq (.q 1 rfl (.q 1 rfl ?_))
   have h8:low (s.take 8)=[104,116,116,112,115,58,47,47]:=(Xeq (n:=8) rfl).1 hb39
   rcases hs7 with ⟨_,_,h7⟩ | ⟨_,_,h7⟩
   ·refine ⟨(X3t,8),⟨rfl,rfl,rfl,rfl,trivial⟩,.inr ⟨?_,by decide,?_,by decide,.inr rfl⟩,hS⟩
    ·rw [Xv,if_neg h7,if_pos h8]
    ·have:=congrArg List.length h8
     rw [X1k,Yq] at this; simp at this; (try dsimp only); omega
   ·exact (Xkv h7 h8).elim
  have hc39:=hb39; try simp only [Y5] at hc39
  refine .skip ?_
  have h8:¬ low (s.take 8)=[104,116,116,112,115,58,47,47]:=fun e=>by have:=(Xeq (n:=8) (X:=[104,116,116,112,115,58,47,47]) rfl).2 e; exact absurd (this.symm.trans hb39) (by decide)
  rcases hs7 with ⟨rfl,rfl,h7⟩ | ⟨rfl,rfl,h7⟩
  ·refine ⟨([],0),⟨rfl,rfl,rfl,rfl,trivial⟩,.inl ⟨rfl,?_⟩,hS⟩
   rw [Xv,if_neg h7,if_neg h8]
  ·refine ⟨(Xcj,7),⟨rfl,rfl,rfl,rfl,trivial⟩,.inr ⟨?_,by decide,?_,by decide,.inl rfl⟩,hS⟩
   ·rw [Xv,if_pos h7]
   ·have:=congrArg List.length h7
    rw [X1k,Yq] at this; simp at this; (try dsimp only); omega
 rintro ⟨sch,k⟩ w ⟨hst,hS⟩
 change WC _ _ _ _ [(0,S s),(2,ptr b2 0),(4,I64 (k:Nat)),(5,S sch)] w
 refine .seq (.seq (.q 2 rfl ?_))
 refine WC.cond rfl (fun hb41=>?_) (fun hb41=>?_)
 ·
  have hc41:=hb41; try simp only [Y5] at hc41
  refine .seq (.region (.val (.build (cs:=[_,_,_,_,_,_]) X6 Xw rfl) rfl (.stA hS (k:=0) rfl (.of rfl) (.of rfl) rfl X1r rfl (by simp) ?_)))
  clear hS; intro w hS; try dsimp only [List.set] at hS
  try simp only [Ym,Yc,Yg,Y9,Yl,Yo,Yf] at hS
  refine .q 1 rfl (.nil (.ret (X1j (b:=_) (cs:=[_,_,_,_,_,_]) Xjv hS (k:=0) rfl X58 X1r rfl rfl rfl ?_)))
  refine ⟨_,rfl,?_,(hS.drop (k:=0) rfl)⟩
  have hnone:Xv s=none:=by
   rcases hst with h | h
   ·exact h.2
   ·exact absurd hc41 (by omega)
  rw [pU,if_neg (by omega),hnone]; rfl
 have hc41:=hb41; try simp only [Y5] at hc41
 refine .skip (.seq ?_)
 obtain ⟨hsome,hk1,hkl,hsl5,hsch⟩:Xv s=some (sch,s.drop k)∧0<k∧k≤s.length∧sch.length≤5∧(sch=Xcj∨sch=X3t):=by
  rcases hst with h | h
  ·exact absurd (by rw [h.1]; rfl) hc41
  ·exact h
 have hul:=X2d [47,63,35,58] (s.drop k)
 rw [Yj] at hul
 have hlow:=X1k (upto [47,63,35,58] (s.drop k))
 refine .t 2 rfl (.call Qf59 rfl (X0 (.of rfl) (X0 (.of rfl) (X0 (.of rfl) X4))) rfl (Xar s [47,63,35,58] k hkl (by omega) (by decide) B _ I _ hS) ?_)
 clear hS
 rintro _ w ⟨rfl,hS⟩
 refine .q 1 rfl (.nil (.seq (.t 3 rfl (.val (.sub3 (.of rfl) (.of rfl) (.of rfl) (by omega) (by omega) (by omega) Qu9) rfl ?_))))
 simp only [Yk]
 have hup:(s.drop k).take (k+(upto [47,63,35,58] (s.drop k)).length - k)=(upto [47,63,35,58] (s.drop k)):=by rw [Y29,X85]
 refine WL.call Qf58 rfl (X0 (.of rfl) X4) rfl (X8q _ (by rw [hup]; omega) B _ I _ hS) ?_
 clear hS
 rintro _ w ⟨rfl,hS⟩
 rw [hup]
 refine .q 1 rfl (.nil (.seq (.seq (.t 4 rfl (.gval rfl rfl (fun hg1=>(.move (.of rfl))) rfl (.gval rfl rfl (fun hg1=>(.move (.of rfl))) rfl (.gval rfl rfl (fun hg1=>(.sub (.gd hg1 rfl) (.gd hg1 rfl) ⟨by omega,by omega⟩)) rfl (.gval rfl rfl (fun hg1=>(.gtr (.gd hg1 rfl) (.of rfl))) rfl (.val (.por (.of rfl) (.of rfl) (.of rfl)) rfl (.nil ?_))))))))))
 refine WC.cond rfl (fun hb59=>?_) (fun hb59=>?_)
 ·
  have hc59:=hb59; try simp only [Y5] at hc59
  refine .seq (.region (.val (.build (cs:=[_,_,_,_,_,_]) X6 Xw rfl) rfl (.stA hS (k:=0) rfl (.of rfl) (.of rfl) rfl X1r rfl (by simp) ?_)))
  clear hS; intro w hS; try dsimp only [List.set] at hS
  try simp only [Ym,Yc,Yg,Y9,Yl,Yo,Yf] at hS
  refine .q 1 rfl (.nil (.ret (X1j (b:=_) (cs:=[_,_,_,_,_,_]) Xjv hS (k:=0) rfl X58 X1r rfl rfl rfl ?_)))
  refine ⟨_,rfl,?_,(hS.drop (k:=0) rfl)⟩
  rw [pU,if_neg (by omega),hsome]
  simp only
  rw [X16,if_neg]
  ·rfl
  ·rw [X25]
   rcases Y22.1 hb59 with h | h
   ·simp only [beq_iff_eq] at h
    have:(low (upto [47,63,35,58] (s.drop k)))=[]:=Ye (by rw [hlow]; omega)
    rw [this]; decide
   ·simp only [decide_eq_true_eq] at h
    rw [show decide (64<(low (upto [47,63,35,58] (s.drop k))).length)=true from decide_eq_true (by rw [hlow]; omega)]
    simp
 have hc59:=hb59; try simp only [Y5] at hc59
 refine .skip (.seq (.seq (.q 1 rfl (.block (.loop (σ:=Nat) (fun i=>[(0,S s),(2,ptr b2 0),(4,I64 (k:Nat)),(5,S sch),(6,I64 ((k+(upto [47,63,35,58] (s.drop k)).length:Nat):Int)),(7,S (low (upto [47,63,35,58] (s.drop k)))),(8,I64 (i:Nat))]) (fun i w=>i≤(low (upto [47,63,35,58] (s.drop k))).length∧(∀ j,j<i→j<(low (upto [47,63,35,58] (s.drop k))).length→X73 (at_ (low (upto [47,63,35,58] (s.drop k))) (j:Int))=true)∧Sat B w I (blk b2 [S [],S [],I64 0,S [],S [],.bool false] 63::As)) (fun i=>(low (upto [47,63,35,58] (s.drop k))).length - i) 0 ⟨rfl,rfl,rfl,rfl,rfl,rfl,rfl,trivial⟩ ⟨Yp _,fun _ h=>absurd h (by omega),hS⟩ ?_)))))
 rintro i w ⟨hi,hok,hS⟩
 change WC _ _ _ _ [(0,S s),(2,ptr b2 0),(4,I64 (k:Nat)),(5,S sch),(6,I64 ((k+(upto [47,63,35,58] (s.drop k)).length:Nat):Int)),(7,S (low (upto [47,63,35,58] (s.drop k)))),(8,I64 (i:Nat))] w
 refine .seq (.seq (.region (.run 4 rfl ⟨Qu9,trivial⟩ (.nil ?_))))
 refine WC.cond rfl (fun hb64=>?_) (fun hb64=>?_)
 ·
  have hc64:=hb64; try simp only [Y5] at hc64
  refine .skip (.seq (.block (.seq (.region (.run 4 rfl ⟨⟨⟨by omega,by omega⟩,Qu9⟩,trivial⟩ (.nil (.seq (.t 3 rfl (.gval rfl rfl (fun hg1=>(.move (.of rfl))) rfl (.gval rfl rfl (fun hg1=>(.gtr (.gd hg1 rfl) (.of rfl))) rfl (.val (.por (.of rfl) (.of rfl) (.of rfl)) rfl (.q 1 rfl (.gval rfl rfl (fun hg1=>(.move (.of rfl))) rfl (.gval rfl rfl (fun hg1=>(.lss (.gd hg1 rfl) (.of rfl))) rfl (.gval rfl rfl (fun hg1=>(.move (.gd hg1 rfl))) rfl (.gval2 rfl rfl rfl (fun hg1 hg2=>(.move (.of rfl))) rfl (.gval2 rfl rfl rfl (fun hg1 hg2=>(.gtr (.gd2 hg1 hg2 rfl) (.of rfl))) rfl (.gval rfl rfl (fun hg1=>(.por (.gd hg1 rfl) (.of rfl) (.gd hg1 rfl))) rfl (.val (.pand (.of rfl) (.of rfl) (.of rfl)) rfl (.q 1 rfl (.gval rfl rfl (fun hg1=>(.move (.of rfl))) rfl (.gval rfl rfl (fun hg1=>(.neq (.gd hg1 rfl) (.of rfl))) rfl (.val (.pand (.of rfl) (.of rfl) (.of rfl)) rfl (.q 1 rfl (.gval rfl rfl (fun hg1=>(.move (.of rfl))) rfl (.gval rfl rfl (fun hg1=>(.neq (.gd hg1 rfl) (.of rfl))) rfl (.val (.pand (.of rfl) (.of rfl) (.of rfl)) rfl (.nil ?_))))))))))))))))))))))))))))
  refine WC.cond rfl (fun hb91=>?_) (fun hb91=>?_)
  ·
   have hc91:=hb91; try simp only [Y5] at hc91
   refine .seq (.region (.val (.build (cs:=[_,_,_,_,_,_]) X6 Xw rfl) rfl (.stA hS (k:=0) rfl (.of rfl) (.of rfl) rfl X1r rfl (by simp) ?_)))
   clear hS; intro w hS; try dsimp only [List.set] at hS
   try simp only [Ym,Yc,Yg,Y9,Yl,Yo,Yf] at hS
   refine .q 1 rfl (.nil (.ret (X1j (b:=_) (cs:=[_,_,_,_,_,_]) Xjv hS (k:=0) rfl X58 X1r rfl rfl rfl ?_)))
   refine ⟨_,rfl,?_,(hS.drop (k:=0) rfl)⟩
   rw [pU,if_neg (by omega),hsome]
   simp only
   rw [X16,if_neg]
   ·rfl
   ·rw [Xho _ _ (by omega),Xax] at hb91
    rw [X25,X69 (p:=X73) (i:=i) (by omega) (by rw [Xho _ _ (by omega)]; simpa using hb91),Y4j]; decide
  have hc91:=hb91; try simp only [Y5] at hc91
  refine .skip (.region (.run 3 rfl ⟨⟨by omega,by omega⟩,trivial⟩ (.nil ?_)))
  refine ⟨i+1,⟨rfl,rfl,rfl,rfl,rfl,rfl,rfl,trivial⟩,⟨by omega,fun j hj hjl=>?_,hS⟩,by omega⟩
  rcases Yv j i with h1 | h1
  ·exact hok j h1 hjl
  ·have e:j=i:=by omega
   subst e
   rw [Xho _ _ (by omega)] at hb91 ⊢
   rw [Xax] at hb91
   simpa using hb91
 have hc64:=hb64; try simp only [Y5] at hc64
 refine .exit (.seq (.t 2 rfl (.val (.build (cs:=[_,_,_,_,_,_]) (X5 (.of rfl) (X5 (.of rfl) X6)) Xw rfl) rfl (.allocA (cs:=[_,_,_,_,_,_]) hS Xjx rfl ?_))))
 clear hS; intro b10 w hS
 refine .stA hS (k:=0) rfl (.of rfl) (.of rfl) rfl X1r rfl (by simp) ?_
 clear hS; intro w hS; try dsimp only [List.set] at hS
 try simp only [Ym,Yc,Yg,Y9,Yl,Yo,Yf] at hS
 refine .nil ?_
 refine WC.cutS (σ:=Nat×Nat) (fun ⟨port,te⟩=>[(0,S s),(2,ptr b2 0),(6,I64 (te:Nat)),(10,ptr b10 0)]) (fun ⟨port,te⟩ w=>pU s=X2k sch (low (upto [47,63,35,58] (s.drop k))) port (s.drop te)∧te≤s.length∧port≤65535∧Sat B w I (blk b10 [S sch,S (low (upto [47,63,35,58] (s.drop k))),I64 (port:Nat),S [],S [],.bool false] 63::blk b2 [S [],S [],I64 0,S [],S [],.bool false] 63::As)) ?_ ?_
 ·
  refine .seq ?_
  have hhost:X25 (low (upto [47,63,35,58] (s.drop k)))=true:=by
   rw [X25,X6w hok (by omega),Y4b]
   rw [show decide (64<(low (upto [47,63,35,58] (s.drop k))).length)=false from decide_eq_false (by omega)]
   cases hh:(low (upto [47,63,35,58] (s.drop k))) with
   | nil=>have:=congrArg List.length hh; rw [hlow,Yh] at this; omega
   | cons a b=>rfl
  have hfd:s.drop (k+(upto [47,63,35,58] (s.drop k)).length)=(X7 [47,63,35,58] (s.drop k)):=by rw [← X5n [47,63,35,58] (s.drop k),Y1l]
  refine .region (.run 5 rfl ⟨Qu9,trivial⟩ (.gval rfl rfl (fun hg1=>(.move (.of rfl))) rfl (.gval rfl rfl (fun hg1=>(.move (.of rfl))) rfl ?_)))
  refine WL.gval rfl rfl (fun hg1=>.index (.gd hg1 rfl) (.gd hg1 rfl) (by omega) (by have hg1x:=of_decide_eq_true hg1; omega) Qu9) rfl ?_
  refine .gval rfl rfl (fun hg1=>(.eql (.gd hg1 rfl) (.of rfl))) rfl (.val (.pand (.of rfl) (.of rfl) (.of rfl)) rfl (.nil ?_))
  refine WC.cond rfl (fun hb105=>?_) (fun hb105=>?_)
  ·
   have hc105:=hb105; try simp only [Y5] at hc105
   refine .seq ?_
   have htk:(X7 [47,63,35,58] (s.drop k)).take 1=[58]:=by
    have h:=hb105
    simp only [Yn,beq_iff_eq,decide_eq_true_eq] at h
    rw [← hfd,Xc s (show k+(upto [47,63,35,58] (s.drop k)).length<s.length by omega)]
    show [at_ s ((k+(upto [47,63,35,58] (s.drop k)).length:Nat):Int)]=[58]
    congr 1
    exact Yz.1 (by show (at_ s _).toNat=58; omega)
   have hlt:k+(upto [47,63,35,58] (s.drop k)).length<s.length:=by
    have h:=hb105
    simp only [Yn,beq_iff_eq,decide_eq_true_eq] at h
    omega
   have hfd1:s.drop (k+(upto [47,63,35,58] (s.drop k)).length+1)=(X7 [47,63,35,58] (s.drop k)).drop 1:=by rw [← hfd,Y1l]
   have hdl:=X2d [47,63,35] ((X7 [47,63,35,58] (s.drop k)).drop 1)
   have hr1l:((X7 [47,63,35,58] (s.drop k)).drop 1).length=s.length - (k+(upto [47,63,35,58] (s.drop k)).length+1):=by rw [← hfd1,Yj]
   rw [hr1l] at hdl
   refine .t 2 rfl (.val (.add (.of rfl) (.of rfl) ⟨by omega,by omega⟩) rfl ?_)
   rw [show (((k+(upto [47,63,35,58] (s.drop k)).length:Nat):Int)+1)=((k+(upto [47,63,35,58] (s.drop k)).length+1:Nat):Int) by omega]
   refine .call Qf59 rfl (X0 (.of rfl) (X0 (.of rfl) (X0 (.of rfl) X4))) rfl (Xar s [47,63,35] (k+(upto [47,63,35,58] (s.drop k)).length+1) (by omega) (by omega) (by decide) B _ I _ hS) ?_
   clear hS
   rintro _ w ⟨rfl,hS⟩
   rw [hfd1]
   refine .q 1 rfl (.nil (.seq (.t 2 rfl (.val (.add (.of rfl) (.of rfl) ⟨by omega,by omega⟩) rfl ?_))))
   rw [show (((k+(upto [47,63,35,58] (s.drop k)).length:Nat):Int)+1)=((k+(upto [47,63,35,58] (s.drop k)).length+1:Nat):Int) by omega]
   refine .q 1 rfl (.val (.sub3 (.of rfl) (.of rfl) (.of rfl) (by omega) (by omega) (by omega) Qu9) rfl ?_)
   simp only [Yk]
   rw [show (s.drop (k+(upto [47,63,35,58] (s.drop k)).length+1)).take (k+(upto [47,63,35,58] (s.drop k)).length+1+(upto [47,63,35] ((X7 [47,63,35,58] (s.drop k)).drop 1)).length - (k+(upto [47,63,35,58] (s.drop k)).length+1))=(upto [47,63,35] ((X7 [47,63,35,58] (s.drop k)).drop 1)) by rw [Y29,hfd1,X85]]
   refine .q 1 rfl (.nil (.seq (.q 1 rfl (.seq (.seq (.q 1 rfl (.block (.loop (σ:=Nat) (fun i=>[(0,S s),(2,ptr b2 0),(5,S sch),(10,ptr b10 0),(11,I64 ((k+(upto [47,63,35,58] (s.drop k)).length+1+(upto [47,63,35] ((X7 [47,63,35,58] (s.drop k)).drop 1)).length:Nat):Int)),(12,S (upto [47,63,35] ((X7 [47,63,35,58] (s.drop k)).drop 1))),(13,I64 (val ((upto [47,63,35] ((X7 [47,63,35,58] (s.drop k)).drop 1)).take i):Nat)),(14,I64 (i:Nat))]) (fun i w=>i≤(upto [47,63,35] ((X7 [47,63,35,58] (s.drop k)).drop 1)).length∧(∀ j,j<i→j<(upto [47,63,35] ((X7 [47,63,35,58] (s.drop k)).drop 1)).length→X8u (at_ (upto [47,63,35] ((X7 [47,63,35,58] (s.drop k)).drop 1)) (j:Int))=true)∧val ((upto [47,63,35] ((X7 [47,63,35,58] (s.drop k)).drop 1)).take i)≤655359∧Sat B w I (blk b10 [S sch,S (low (upto [47,63,35,58] (s.drop k))),I64 0,S [],S [],.bool false] 63::blk b2 [S [],S [],I64 0,S [],S [],.bool false] 63::As)) (fun i=>(upto [47,63,35] ((X7 [47,63,35,58] (s.drop k)).drop 1)).length - i) 0 ⟨rfl,rfl,rfl,rfl,rfl,rfl,rfl,rfl,trivial⟩ ⟨Yp _,fun _ h=>absurd h (by omega),by simp [val],hS⟩ ?_))))))))
   rintro i w ⟨hi,hok2,hvl,hS⟩
   change WC _ _ _ _ [(0,S s),(2,ptr b2 0),(5,S sch),(10,ptr b10 0),(11,I64 ((k+(upto [47,63,35,58] (s.drop k)).length+1+(upto [47,63,35] ((X7 [47,63,35,58] (s.drop k)).drop 1)).length:Nat):Int)),(12,S (upto [47,63,35] ((X7 [47,63,35,58] (s.drop k)).drop 1))),(13,I64 (val ((upto [47,63,35] ((X7 [47,63,35,58] (s.drop k)).drop 1)).take i):Nat)),(14,I64 (i:Nat))] w
   refine .seq (.seq (.region (.run 4 rfl ⟨Qu9,trivial⟩ (.nil ?_))))
   refine WC.cond rfl (fun hb118=>?_) (fun hb118=>?_)
   ·
    have hc118:=hb118; try simp only [Y5] at hc118
    refine .skip (.seq (.block (.seq (.seq (.region (.run 5 rfl ⟨⟨⟨by omega,by omega⟩,Qu9⟩,trivial⟩ (.gval rfl rfl (fun hg1=>(.move (.of rfl))) rfl (.gval rfl rfl (fun hg1=>(.move (.of rfl))) rfl ?_))))))))
    refine WL.gval rfl rfl (fun hg1=>(.index (.gd hg1 rfl) (.gd hg1 rfl) (by (try simp only [Y5] at hg1); omega) (by (try simp only [Y5] at hg1); omega) Qu9)) rfl ?_
    refine .gval rfl rfl (fun hg1=>(.gtr (.gd hg1 rfl) (.of rfl))) rfl (.val (.por (.of rfl) (.of rfl) (.of rfl)) rfl (.q 1 rfl (.gval rfl rfl (fun hg1=>(.move (.of rfl))) rfl (.gval rfl rfl (fun hg1=>(.gtr (.gd hg1 rfl) (.of rfl))) rfl (.val (.por (.of rfl) (.of rfl) (.of rfl)) rfl (.nil ?_))))))
    refine WC.cond rfl (fun hb134=>?_) (fun hb134=>?_)
    ·
     have hc134:=hb134; try simp only [Y5] at hc134
     refine .seq (.region (.val (.build (cs:=[_,_,_,_,_,_]) X6 Xw rfl) rfl (.stA hS (k:=1) rfl (.of rfl) (.of rfl) rfl X1r rfl (by simp) ?_)))
     clear hS; intro w hS; try dsimp only [List.set] at hS
     try simp only [Ym,Yc,Yg,Y9,Yl,Yo,Yf] at hS
     refine .q 1 rfl (.nil (.ret (X1j (b:=_) (cs:=[_,_,_,_,_,_]) Xjv hS (k:=1) rfl X58 X1r rfl rfl rfl ?_)))
     refine ⟨_,rfl,?_,((hS.drop (k:=0) rfl).drop (k:=0) rfl)⟩
     rw [pU,if_neg (by omega),hsome]
     simp only
     rw [X16,if_pos hhost,behind,if_pos htk,if_neg]
     ·rfl
     ·rw [Y2g]
      unfold Xu
      rcases Y22.1 hb134 with h | h
      ·rw [X77] at h
       rw [X69 (p:=X8u) (i:=i) (by omega) (by simpa using h)]; rfl
      ·simp only [decide_eq_true_eq] at h
       have hm:=Xe9 (upto [47,63,35] ((X7 [47,63,35,58] (s.drop k)).drop 1)) i (upto [47,63,35] ((X7 [47,63,35,58] (s.drop k)).drop 1)).length (by omega)
       rw [Y1b] at hm
       rw [decide_eq_false (show ¬ val (upto [47,63,35] ((X7 [47,63,35,58] (s.drop k)).drop 1))≤65535 by omega)]; simp
    have hc134:=hb134; try simp only [Y5] at hc134
    refine .skip ?_
    have hdig:X8u (at_ (upto [47,63,35] ((X7 [47,63,35,58] (s.drop k)).drop 1)) (i:Int))=true:=by
     cases hd:X8u (at_ (upto [47,63,35] ((X7 [47,63,35,58] (s.drop k)).drop 1)) (i:Int)) with
     | true=>rfl
     | false =>
      have h:=X77 (at_ (upto [47,63,35] ((X7 [47,63,35,58] (s.drop k)).drop 1)) (i:Int))
      rw [hd] at h
      rw [h] at hb134
      exact absurd hb134 (by simp)
    have hrg:=Xfn hdig
    have hv65:val ((upto [47,63,35] ((X7 [47,63,35,58] (s.drop k)).drop 1)).take i)≤65535:=by have:=hc134.2; omega
    refine .region (.run 5 rfl ⟨⟨by omega,by omega⟩,⟨⟨by omega,by omega⟩,Qu9⟩,trivial⟩ ?_)
    refine WL.val (.subx (.of rfl) (.of rfl) (by rw [IntKind.wrap_u8]; omega)) rfl ?_
    refine WL.val (.cvi (.of rfl) Qu5 Qu3 (by rw [IntKind.wrap_i64]; omega)) rfl ?_
    refine .run 2 rfl ⟨⟨by omega,by omega⟩,trivial⟩ (.nil (.region (.run 3 rfl ⟨⟨by omega,by omega⟩,trivial⟩ (.nil ?_))))
    refine ⟨i+1,⟨rfl,rfl,rfl,rfl,rfl,rfl,?_,rfl,trivial⟩,⟨by omega,fun j hj hjl=>?_,?_,hS⟩,by omega⟩
    ·rw [X3o _ i (by omega)]
     show some (I64 _)=some (I64 _)
     congr 2
     omega
    ·rcases Yv j i with h1 | h1
     ·exact hok2 j h1 hjl
     ·have e:j=i:=by omega
      rw [e]; exact hdig
    ·rw [X3o _ i (by omega)]; omega
   have hc118:=hb118; try simp only [Y5] at hc118
   refine .exit (.seq (.seq (.t 3 rfl (.gval rfl rfl (fun hg1=>(.move (.of rfl))) rfl (.gval rfl rfl (fun hg1=>(.gtr (.gd hg1 rfl) (.of rfl))) rfl (.val (.por (.of rfl) (.of rfl) (.of rfl)) rfl (.q 1 rfl (.gval rfl rfl (fun hg1=>(.move (.of rfl))) rfl ?_))))))))
   refine WL.gval rfl rfl (fun hg1=>.index (.gd hg1 rfl) (.of rfl) (by omega) (by rcases Y1k ((upto [47,63,35] ((X7 [47,63,35,58] (s.drop k)).drop 1))).length with h0 | h0; (have hnil:=Ye h0; rw [hnil] at hg1; simp [val] at hg1); omega) Qu9) rfl ?_
   refine .gval rfl rfl (fun hg1=>(.eql (.gd hg1 rfl) (.of rfl))) rfl (.val (.por (.of rfl) (.of rfl) (.of rfl)) rfl (.nil ?_))
   refine WC.cond rfl (fun hb154=>?_) (fun hb154=>?_)
   ·
    have hc154:=hb154; try simp only [Y5] at hc154
    refine .seq (.region (.val (.build (cs:=[_,_,_,_,_,_]) X6 Xw rfl) rfl (.stA hS (k:=1) rfl (.of rfl) (.of rfl) rfl X1r rfl (by simp) ?_)))
    clear hS; intro w hS; try dsimp only [List.set] at hS
    try simp only [Ym,Yc,Yg,Y9,Yl,Yo,Yf] at hS
    refine .q 1 rfl (.nil (.ret (X1j (b:=_) (cs:=[_,_,_,_,_,_]) Xjv hS (k:=1) rfl X58 X1r rfl rfl rfl ?_)))
    refine ⟨_,rfl,?_,((hS.drop (k:=0) rfl).drop (k:=0) rfl)⟩
    have hdlen:(upto [47,63,35] ((X7 [47,63,35,58] (s.drop k)).drop 1)).length=i:=by omega
    have hb154':=hb154
    rw [← hdlen,Y1b] at hb154'
    rw [pU,if_neg (by omega),hsome]
    simp only
    rw [X16,if_pos hhost,behind,if_pos htk,if_neg]
    ·rfl
    ·rw [Y2g]
     unfold Xu
     rcases Y22.1 hb154' with h | h
     ·rcases Y22.1 h with h | h
      ·simp only [decide_eq_true_eq] at h
       rw [decide_eq_false (show ¬ 1≤val (upto [47,63,35] ((X7 [47,63,35,58] (s.drop k)).drop 1)) by omega)]; simp
      ·simp only [decide_eq_true_eq] at h
       rw [decide_eq_false (show ¬ val (upto [47,63,35] ((X7 [47,63,35,58] (s.drop k)).drop 1))≤65535 by omega)]; simp
     ·simp only [beq_iff_eq] at h
      have:(upto [47,63,35] ((X7 [47,63,35,58] (s.drop k)).drop 1)).headD 0=48:=by
       have h2:(at_ (upto [47,63,35] ((X7 [47,63,35,58] (s.drop k)).drop 1)) 0).toNat=48:=by omega
       have h3:at_ (upto [47,63,35] ((X7 [47,63,35,58] (s.drop k)).drop 1)) 0=48:=Yz.1 h2
       cases hh:(upto [47,63,35] ((X7 [47,63,35,58] (s.drop k)).drop 1)) with
       | nil=>rw [hh] at h3; simp [at_] at h3
       | cons a b=>rw [hh] at h3; exact h3
      rw [this]; simp
   have hc154:=hb154; try simp only [Y5] at hc154
   refine .skip (.seq (.seq (.t 3 rfl (.gval rfl rfl (fun hg1=>(.move (.of rfl))) rfl (.gval rfl rfl (fun hg1=>(.eql (.gd hg1 rfl) (.of rfl))) rfl (.val (.pand (.of rfl) (.of rfl) (.of rfl)) rfl (.q 1 rfl (.gval rfl rfl (fun hg1=>(.move (.of rfl))) rfl (.gval rfl rfl (fun hg1=>(.eqs (.gd hg1 rfl) (.of rfl))) rfl (.gval rfl rfl (fun hg1=>(.move (.gd hg1 rfl))) rfl (.gval2 rfl rfl rfl (fun hg1 hg2=>(.move (.of rfl))) rfl (.gval2 rfl rfl rfl (fun hg1 hg2=>(.eql (.gd2 hg1 hg2 rfl) (.of rfl))) rfl (.gval rfl rfl (fun hg1=>(.pand (.gd hg1 rfl) (.gd hg1 rfl) (.of rfl))) rfl (.val (.por (.of rfl) (.of rfl) (.of rfl)) rfl (.q 1 rfl (.nil ?_))))))))))))))))
   refine WC.cond rfl (fun hb170=>?_) (fun hb170=>?_)
   ·
    have hc170:=hb170; try simp only [Y5] at hc170
    refine .t 1 rfl (.val (.fieldAddr 2 (.of rfl) X3r rfl rfl Qs3 rfl) rfl (.st1 hS (k:=0) rfl (.of rfl) (.of rfl) rfl Qs3 (by simp) ?_))
    clear hS; intro w hS; try dsimp only [List.set] at hS
    refine .nil (.q 2 rfl ?_)
    have hdlen:(upto [47,63,35] ((X7 [47,63,35,58] (s.drop k)).drop 1)).length=i:=by omega
    have hb154':=hb154
    rw [← hdlen,Y1b] at hb154'
    obtain ⟨h12,h3⟩:=Y1g.1 hb154'
    obtain ⟨h1,h2⟩:=Y1g.1 h12
    simp only [decide_eq_false_iff_not] at h1 h2
    have hne:(upto [47,63,35] ((X7 [47,63,35,58] (s.drop k)).drop 1))≠[]:=fun e=>by rw [e] at h1; simp [val] at h1
    have hgood:Xu (upto [47,63,35] ((X7 [47,63,35,58] (s.drop k)).drop 1))=true:=by
     unfold Xu
     have e:(upto [47,63,35] ((X7 [47,63,35,58] (s.drop k)).drop 1)).headD 0=at_ (upto [47,63,35] ((X7 [47,63,35,58] (s.drop k)).drop 1)) 0:=by cases hh:(upto [47,63,35] ((X7 [47,63,35,58] (s.drop k)).drop 1)) with | nil=>exact absurd hh hne | cons a b=>rfl
     rw [X6w hok2 (by omega),decide_eq_true (show 1≤val (upto [47,63,35] ((X7 [47,63,35,58] (s.drop k)).drop 1)) by omega),decide_eq_true (show val (upto [47,63,35] ((X7 [47,63,35,58] (s.drop k)).drop 1))≤65535 by omega),e]
     simp only [beq_eq_false_iff_ne] at h3
     have:at_ (upto [47,63,35] ((X7 [47,63,35,58] (s.drop k)).drop 1)) 0≠48:=fun e=>h3 (by rw [e]; rfl)
     rw [beq_eq_false_iff_ne.2 this]; rfl
    have hfe:s.drop (k+(upto [47,63,35,58] (s.drop k)).length+1+(upto [47,63,35] ((X7 [47,63,35,58] (s.drop k)).drop 1)).length)=(X7 [47,63,35] ((X7 [47,63,35,58] (s.drop k)).drop 1)):=by rw [← X5n [47,63,35] ((X7 [47,63,35,58] (s.drop k)).drop 1),← hfd1,Y1l]
    have hc170':=hc170
    rw [← hdlen,Y1b] at hc170'
    have hpv:X3k (upto [47,63,35] ((X7 [47,63,35,58] (s.drop k)).drop 1)) sch=val (upto [47,63,35] ((X7 [47,63,35,58] (s.drop k)).drop 1)):=by
     unfold X3k Xju
     rw [if_neg]
     intro e
     rcases hsch with e1 | e1
     ·rw [e1,if_neg (by decide)] at e
      rcases hc170'.1 with h | h
      ·exact h e1
      ·omega
     ·rw [e1,if_pos (by decide)] at e
      rcases hc170'.2 with h | h
      ·exact h e1
      ·omega
    refine ⟨(val (upto [47,63,35] ((X7 [47,63,35,58] (s.drop k)).drop 1)),_),⟨rfl,rfl,rfl,rfl,trivial⟩,?_,by (try dsimp only); omega,by (try dsimp only); omega,by rw [← hdlen,Y1b] at hS; exact hS⟩
    ·rw [pU,if_neg (by omega),hsome]
     simp only
     rw [X16,if_pos hhost,behind,if_pos htk,if_pos hgood,hpv,hfe]
   have hc170:=hb170; try simp only [Y5] at hc170
   refine .skip (.q 2 rfl ?_)
   have hdlen:(upto [47,63,35] ((X7 [47,63,35,58] (s.drop k)).drop 1)).length=i:=by omega
   have hb154':=hb154
   rw [← hdlen,Y1b] at hb154'
   obtain ⟨h12,h3⟩:=Y1g.1 hb154'
   obtain ⟨h1,h2⟩:=Y1g.1 h12
   simp only [decide_eq_false_iff_not] at h1 h2
   have hne:(upto [47,63,35] ((X7 [47,63,35,58] (s.drop k)).drop 1))≠[]:=fun e=>by rw [e] at h1; simp [val] at h1
   have hgood:Xu (upto [47,63,35] ((X7 [47,63,35,58] (s.drop k)).drop 1))=true:=by
    unfold Xu
    have e:(upto [47,63,35] ((X7 [47,63,35,58] (s.drop k)).drop 1)).headD 0=at_ (upto [47,63,35] ((X7 [47,63,35,58] (s.drop k)).drop 1)) 0:=by cases hh:(upto [47,63,35] ((X7 [47,63,35,58] (s.drop k)).drop 1)) with | nil=>exact absurd hh hne | cons a b=>rfl
    rw [X6w hok2 (by omega),decide_eq_true (show 1≤val (upto [47,63,35] ((X7 [47,63,35,58] (s.drop k)).drop 1)) by omega),decide_eq_true (show val (upto [47,63,35] ((X7 [47,63,35,58] (s.drop k)).drop 1))≤65535 by omega),e]
    simp only [beq_eq_false_iff_ne] at h3
    have:at_ (upto [47,63,35] ((X7 [47,63,35,58] (s.drop k)).drop 1)) 0≠48:=fun e=>h3 (by rw [e]; rfl)
    rw [beq_eq_false_iff_ne.2 this]; rfl
   have hfe:s.drop (k+(upto [47,63,35,58] (s.drop k)).length+1+(upto [47,63,35] ((X7 [47,63,35,58] (s.drop k)).drop 1)).length)=(X7 [47,63,35] ((X7 [47,63,35,58] (s.drop k)).drop 1)):=by rw [← X5n [47,63,35] ((X7 [47,63,35,58] (s.drop k)).drop 1),← hfd1,Y1l]
   have hc170':=hc170
   rw [← hdlen,Y1b] at hc170'
   have hpv:X3k (upto [47,63,35] ((X7 [47,63,35,58] (s.drop k)).drop 1)) sch=0:=by
    unfold X3k Xju
    rw [if_pos]
    rcases hc170' with ⟨e1,e2⟩ | ⟨e1,e2⟩
    ·rw [e1,if_neg (by decide)]; omega
    ·rw [e1,if_pos (by decide)]; omega
   refine ⟨(0,_),⟨rfl,rfl,rfl,rfl,trivial⟩,?_,by (try dsimp only); omega,by (try dsimp only); omega,hS⟩
   ·rw [pU,if_neg (by omega),hsome]
    simp only
    rw [X16,if_pos hhost,behind,if_pos htk,if_pos hgood,hpv,hfe]
  have hc105:=hb105; try simp only [Y5] at hc105
  refine .skip ?_
  have htk:¬ (X7 [47,63,35,58] (s.drop k)).take 1=[58]:=fun e=>by
   have hlt:k+(upto [47,63,35,58] (s.drop k)).length<s.length:=by
    rcases Yv (k+(upto [47,63,35,58] (s.drop k)).length) s.length with h | h
    ·exact h
    ·rw [← hfd,Y15 h] at e; cases e
   rw [← hfd,Xc s hlt] at e
   have e1:at_ s ((k+(upto [47,63,35,58] (s.drop k)).length:Nat):Int)=58:=by injection e
   rw [e1,decide_eq_true (by omega)] at hb105
   exact absurd hb105 (by decide)
  refine ⟨(0,_),⟨rfl,rfl,rfl,rfl,trivial⟩,?_,by (try dsimp only); omega,by decide,hS⟩
  ·rw [pU,if_neg (by omega),hsome]
   simp only
   rw [X16,if_pos hhost,behind,if_neg htk,hfd]
 rintro ⟨port,te⟩ w ⟨hpu,htl,hport,hS⟩
 change WC _ _ _ _ [(0,S s),(2,ptr b2 0),(6,I64 (te:Nat)),(10,ptr b10 0)] w
 refine .seq (.t 2 rfl (.call Qf59 rfl (X0 (.of rfl) (X0 (.of rfl) (X0 (.of rfl) X4))) rfl (Xar s [63] te htl (by omega) (by decide) B _ I _ hS) ?_))
 clear hS
 rintro _ w ⟨rfl,hS⟩
 refine .q 1 rfl (.nil (.seq (.t 3 rfl ?_)))
 refine WL.val (.sub3 (.of rfl) (.of rfl) (.of rfl) (by omega) (by omega) (by have:=X42 [63] (s.drop te); rw [Yj] at this; omega) Qu9) rfl ?_
 simp only [Yk]
 rw [show (s.drop te).take (te+(upto [63] (s.drop te)).length - te)=(upto [63] (s.drop te)) by rw [Y29,X85]]
 refine WL.call Tryz.func60 rfl (X0 (.of rfl) X4) rfl (Xee (upto [63] (s.drop te)) (by have:=X42 [63] (s.drop te); rw [Yj] at this; omega) B _ I _ hS) ?_
 clear hS
 rintro _ w ⟨p1,b1,rfl,hp1,hp1l,hS⟩
 refine .q 5 rfl (.nil (.seq (.seq ?_)))
 have hml:=X2d [63] (s.drop te)
 rw [Yj] at hml
 refine .q 2 rfl ?_
 refine WC.cond rfl (fun hb186=>?_) (fun hb186=>?_)
 ·
  have hc186:=hb186; try simp only [Y5] at hc186
  refine .seq (.region (.val (.build (cs:=[_,_,_,_,_,_]) X6 Xw rfl) rfl (.stA hS (k:=1) rfl (.of rfl) (.of rfl) rfl X1r rfl (by simp) ?_)))
  clear hS; intro w hS; try dsimp only [List.set] at hS
  try simp only [Ym,Yc,Yg,Y9,Yl,Yo,Yf] at hS
  refine .q 1 rfl (.nil (.ret (X1j (b:=_) (cs:=[_,_,_,_,_,_]) Xjv hS (k:=1) rfl X58 X1r rfl rfl rfl ?_)))
  refine ⟨_,rfl,?_,((hS.drop (k:=0) rfl).drop (k:=0) rfl)⟩
  rw [hpu,X2k]
  cases hp:Xy (upto [63] (s.drop te)) with
  | none=>rfl
  | some t=>rw [hp] at hp1; rw [hp1.2] at hc186; cases hc186
 have hc186:=hb186; try simp only [Y5] at hc186
 refine .skip ?_
 refine WC.cutS (σ:=List UInt8×Bool) (fun ⟨q,ask⟩=>[(2,ptr b2 0),(10,ptr b10 0),(16,S p1)]) (fun ⟨q,ask⟩ w=>X2k sch (low (upto [47,63,35,58] (s.drop k))) port (s.drop te)=(⟨sch,(low (upto [47,63,35,58] (s.drop k))),port,if p1=[] then [47] else X2z p1,q,ask⟩,0)∧Sat B w I (blk b10 [S sch,S (low (upto [47,63,35,58] (s.drop k))),I64 (port:Nat),S [],S q,.bool ask] 63::blk b2 [S [],S [],I64 0,S [],S [],.bool false] 63::As)) ?_ ?_
 ·
  refine .seq ?_
  have hpp:Xy (upto [63] (s.drop te))=some p1:=by
   cases hp:Xy (upto [63] (s.drop te)) with
   | none=>rw [hp] at hp1; rw [hp1] at hc186; cases hc186
   | some t=>rw [hp] at hp1; rw [hp1.1]
  refine .region (.run 4 rfl ⟨Qu9,trivial⟩ (.nil ?_))
  refine WC.cond rfl (fun hb191=>?_) (fun hb191=>?_)
  ·
   have hc191:=hb191; try simp only [Y5] at hc191
   refine .seq (.region (.val (.fieldAddr 5 (.of rfl) X3r rfl rfl Qs4 rfl) rfl (.st1 hS (k:=0) rfl (.of rfl) (.of rfl) rfl Qs4 (by simp) ?_)))
   clear hS; intro w hS; try dsimp only [List.set] at hS
   refine .nil (.seq (.t 2 rfl (.val (.add (.of rfl) (.of rfl) ⟨by omega,by omega⟩) rfl ?_)))
   rw [show (((te+(upto [63] (s.drop te)).length:Nat):Int)+1)=((te+(upto [63] (s.drop te)).length+1:Nat):Int) by omega]
   refine .val (.subFrom (.of rfl) (.of rfl) (by omega) (by omega) Qu9) rfl ?_
   simp only [Yk]
   refine WL.call Tryz.func60 rfl (X0 (.of rfl) X4) rfl (Xee _ (by rw [Yj]; omega) B _ I _ hS) ?_
   clear hS
   rintro _ w ⟨q1,b2x,rfl,hq1,hq1l,hS⟩
   have hfm:s.drop (te+(upto [63] (s.drop te)).length+1)=((X7 [63] (s.drop te)).drop 1):=by rw [← X5n [63] (s.drop te),Y1l,Y1l,Y2m]
   refine .q 3 rfl (.val (.fieldAddr 4 (.of rfl) X3r rfl rfl Qs9 rfl) rfl (.st1 hS (k:=0) rfl (.of rfl) (.of rfl) rfl Qs9 (by simp) ?_))
   clear hS; intro w hS; try dsimp only [List.set] at hS
   refine .q 1 rfl (.nil (.seq (.q 2 rfl ?_)))
   refine WC.cond rfl (fun hb203=>?_) (fun hb203=>?_)
   ·
    have hc203:=hb203; try simp only [Y5] at hc203
    refine .seq (.region (.val (.build (cs:=[_,_,_,_,_,_]) X6 Xw rfl) rfl (.stA hS (k:=1) rfl (.of rfl) (.of rfl) rfl X1r rfl (by simp) ?_)))
    clear hS; intro w hS; try dsimp only [List.set] at hS
    try simp only [Ym,Yc,Yg,Y9,Yl,Yo,Yf] at hS
    refine .q 1 rfl (.nil (.ret (X1j (b:=_) (cs:=[_,_,_,_,_,_]) Xjv hS (k:=1) rfl X58 X1r rfl rfl rfl ?_)))
    refine ⟨_,rfl,?_,((hS.drop (k:=0) rfl).drop (k:=0) rfl)⟩
    rw [hfm] at hq1
    rw [hpu,X2k,hpp]
    simp only
    cases hq:Xy ((X7 [63] (s.drop te)).drop 1) with
    | none=>rfl
    | some t=>rw [hq] at hq1; rw [hq1.2] at hc203; cases hc203
   have hc203:=hb203; try simp only [Y5] at hc203
   refine .skip ?_
   refine ⟨(q1,true),⟨rfl,rfl,rfl,trivial⟩,?_,hS⟩
   rw [hfm] at hq1
   have:(X7 [63] (s.drop te)).isEmpty=false:=by
    cases hh:X7 [63] (s.drop te) with
    | nil=>have:=congrArg List.length hh; rw [Yh] at this; omega
    | cons a b=>rfl
   rw [X2k,hpp]
   simp only
   cases hq:Xy ((X7 [63] (s.drop te)).drop 1) with
   | none=>rw [hq] at hq1; rw [hq1] at hc203; cases hc203
   | some q=>rw [hq] at hq1; obtain ⟨rfl,_⟩:=hq1; simp only; rw [this]; rfl
  have hc191:=hb191; try simp only [Y5] at hc191
  refine .skip ?_
  refine ⟨([],false),⟨rfl,rfl,rfl,trivial⟩,?_,hS⟩
  have:X7 [63] (s.drop te)=[]:=Ye (by omega)
  rw [X2k,hpp,this]
  rfl
 rintro ⟨q,ask⟩ w ⟨htu,hS⟩
 change WC _ _ _ _ [(2,ptr b2 0),(10,ptr b10 0),(16,S p1)] w
 refine .seq (.t 1 rfl ?_)
 refine WL.call Tryz.func61 rfl (X0 (.of rfl) X4) rfl (Xd4 p1 (by have:=X42 [63] (s.drop te); rw [Yj] at this; omega) B _ I _ hS) ?_
 clear hS
 rintro _ w ⟨rfl,hS⟩
 refine .val (.fieldAddr 3 (.of rfl) X3r rfl rfl Qs9 rfl) rfl (.st1 hS (k:=0) rfl (.of rfl) (.of rfl) rfl Qs9 (by simp) ?_)
 clear hS; intro w hS; try dsimp only [List.set] at hS
 refine .nil (.seq (.seq (.q 2 rfl ?_)))
 refine WC.cond rfl (fun hb209=>?_) (fun hb209=>?_)
 ·
  have hc209:=hb209; try simp only [Y5] at hc209
  refine .region (.val (.fieldAddr 3 (.of rfl) X3r rfl rfl Qs9 rfl) rfl (.st1 hS (k:=0) rfl (.of rfl) (.of rfl) rfl Qs9 (by simp) ?_))
  clear hS; intro w hS; try dsimp only [List.set] at hS
  refine .nil (.seq (.region (.val (.ldsW (cs:=[_,_,_,_,_,_]) (.of rfl) hS (k:=0) rfl X58 X1r rfl) rfl (.stA hS (k:=1) rfl (.of rfl) (.of rfl) rfl X1r rfl (by simp) ?_))))
  clear hS; intro w hS; try dsimp only [List.set] at hS
  try simp only [Ym,Yc,Yg,Y9,Yl,Yo,Yf] at hS
  refine .q 1 rfl (.nil (.ret (X1j (b:=_) (cs:=[_,_,_,_,_,_]) Xjv hS (k:=1) rfl X58 X1r rfl rfl rfl ?_)))
  refine ⟨_,rfl,?_,((hS.drop (k:=0) rfl).drop (k:=0) rfl)⟩
  rw [hpu,htu,if_pos hc209]
  rfl
 have hc209:=hb209; try simp only [Y5] at hc209
 refine .skip (.seq (.region (.val (.ldsW (cs:=[_,_,_,_,_,_]) (.of rfl) hS (k:=0) rfl X58 X1r rfl) rfl (.stA hS (k:=1) rfl (.of rfl) (.of rfl) rfl X1r rfl (by simp) ?_))))
 clear hS; intro w hS; try dsimp only [List.set] at hS
 try simp only [Ym,Yc,Yg,Y9,Yl,Yo,Yf] at hS
 refine .q 1 rfl (.nil (.ret (X1j (b:=_) (cs:=[_,_,_,_,_,_]) Xjv hS (k:=1) rfl X58 X1r rfl rfl rfl ?_)))
 refine ⟨_,rfl,?_,((hS.drop (k:=0) rfl).drop (k:=0) rfl)⟩
 rw [hpu,htu,if_neg hc209]
 rfl
end Go.Proofs.YtfibbpgikjggfaaGreatDoor
namespace Rk
open Flt
def keyN (b:Nat):Nat:=if 9223372036854775808≤b then 18446744073709551615 - b else b+9223372036854775808
theorem Xmi {b:Nat} (h:b<18446744073709551616):b &&& 9223372036854775808=if 9223372036854775808≤b then 9223372036854775808 else 0:=by
 apply Nat.eq_of_testBit_eq
 intro i
 have e63:b.testBit 63=decide (9223372036854775808≤b):=by
  rw [Nat.testBit_eq_decide_div_mod_eq,show (2:Nat) ^ 63=9223372036854775808 by decide]
  exact decide_eq_decide.2 (by omega)
 rw [Nat.testBit_and,show 9223372036854775808=2 ^ 63 by decide,Y3u]
 rw [show 9223372036854775808=2 ^ 63 by decide] at e63
 by_cases hi:63=i
 ·subst hi
  rw [e63]
  by_cases hb:2 ^ 63≤b
  ·rw [if_pos hb,Y3u]; simp [hb]
  ·rw [if_neg hb]; simp [hb]
 ·by_cases hb:2 ^ 63≤b
  ·rw [if_pos hb,Y3u]; simp [hi]
  ·rw [if_neg hb]; simp [hi]
theorem or_hi {b:Nat} (h:b<9223372036854775808):b ||| 9223372036854775808=b+9223372036854775808:=by
 have e:=Y3t (i:=63) (b:=b) (by rw [show (2:Nat) ^ 63=9223372036854775808 by decide]; exact h) 1
 rw [show (2:Nat) ^ 63*1=9223372036854775808 by decide,Nat.or_comm] at e
 rw [← e]; omega
def W (x y:Nat):Nat→Option Nat
 | 0=>nf x
 | k+1=>(W x y k).bind fun v=>Ieee.double.mul v y
end Rk
namespace Go.Proofs.YtfibbpgikjggfaaGreatDoor
open Gk Rk Flt
theorem Xix (b:Nat) (hb:b<18446744073709551616) (w:World) :
  Calls Tryz.prog 193 [F64 b].toArray w (Ret fun v w'=>v=U64 (keyN b:Nat)∧w=w'):=by
 refine calls Tryz.func193 rfl Tryz.ntmps193 rfl (.seq (.q 1 rfl (.seq (.t 1 rfl (.val (.extern Tryz.func228 (by kernel_rfl) (by kernel_rfl) (by kernel_rfl) (e:=Extern.MathFloatBits.float64bits) (by kernel_rfl) (X0 (.of rfl) X4) rfl) rfl (.q 1 rfl (.nil (.seq (.seq (.t 1 rfl (.val (.andHi hb (.of rfl) (.of rfl)) rfl (.q 1 rfl (.nil ?_)))))))))))))
 refine WC.cond rfl (fun hb8=>?_) (fun hb8=>?_)
 ·
  have hc8:=hb8; try simp only [Y5] at hc8
  refine .seq (.t 1 rfl (.val (.not64 (by omega) (.of rfl)) rfl (.q 1 rfl (.nil (.ret (Xe Tryz.results193 rfl ?_))))))
  have e:9223372036854775808≤b:=by
   rw [Xmi hb] at hc8
   split at hc8
   ·assumption
   ·simp at hc8
  exact ⟨_,rfl,by rw [keyN,if_pos e],rfl⟩
 have hc8:=hb8; try simp only [Y5] at hc8
 refine .skip (.seq (.t 1 rfl (.val (.orHi hb (.of rfl) (.of rfl)) rfl (.q 1 rfl (.nil (.ret (Xe Tryz.results193 rfl ?_)))))))
 have e:¬ 9223372036854775808≤b:=by
  rw [Xmi hb] at hc8
  split at hc8
  ·simp at hc8
  ·assumption
 exact ⟨_,rfl,by rw [keyN,if_neg e,or_hi (by omega)],rfl⟩
theorem X6p (a:Int) (w:World) :
  Calls Tryz.prog 227 [U64 a].toArray w (Ret fun v w'=>v=.bool false∧w=w'):=by
 refine calls Tryz.func227 rfl Tryz.ntmps227 rfl (.seq (.q 1 rfl (.seq (.q 4 rfl (.ret (Xe Tryz.results227 rfl ?_))))))
 exact ⟨_,rfl,by simp,rfl⟩
theorem Xcy (a b:Int) (w:World) :
  Calls Tryz.prog 192 [U64 a,U64 b].toArray w (Ret fun v w'=>v=I64 (if a<b then -1 else if b<a then 1 else 0)∧w=w'):=by
 refine calls Tryz.func192 rfl Tryz.ntmps192 rfl (.seq (.q 1 rfl (.seq (.t 1 rfl (.call Tryz.func227 rfl (X0 (.of rfl) X4) rfl (X6p _ _) ?_)))))
 rintro _ _ ⟨rfl,rfl⟩
 refine .q 1 rfl (.nil (.seq (.t 1 rfl (.call Tryz.func227 rfl (X0 (.of rfl) X4) rfl (X6p _ _) ?_))))
 rintro _ _ ⟨rfl,rfl⟩
 refine .q 1 rfl (.nil (.seq (.seq (.q 1 rfl (.condF (rfl) (.skip (.seq (.seq (.q 1 rfl (.condF (rfl) (.skip (.seq (.seq (.q 3 rfl ?_))))))))))))))
 refine WC.cond rfl (fun hb16=>?_) (fun hb16=>?_)
 ·
  have hc16:=hb16; try simp only [Y5] at hc16
  refine .seq (.q 1 rfl (.ret (Xe Xo9 rfl ?_)))
  exact ⟨_,rfl,by rw [if_pos hc16],rfl⟩
 have hc16:=hb16; try simp only [Y5] at hc16
 refine .skip (.seq (.seq (.q 3 rfl ?_)))
 refine WC.cond rfl (fun hb19=>?_) (fun hb19=>?_)
 ·
  have hc19:=hb19; try simp only [Y5] at hc19
  refine .seq (.q 1 rfl (.ret (Xe Xo9 rfl ?_)))
  exact ⟨_,rfl,by rw [if_neg (by omega),if_pos hc19],rfl⟩
 have hc19:=hb19; try simp only [Y5] at hc19
 refine .skip (.seq (.q 1 rfl (.ret (Xe Xo9 rfl ?_))))
 exact ⟨_,rfl,by rw [if_neg (by omega),if_neg (by omega)],rfl⟩
end Go.Proofs.YtfibbpgikjggfaaGreatDoor
namespace Srt
variable {k:Int→Nat}
def bef (k:Int→Nat) (x y:Int):Prop:=k x<k y∨(k x=k y∧x<y)
theorem X15 {x y z:Int} (h:bef k x y) (h2:bef k y z):bef k x z:=by unfold bef at *; omega
theorem Xfv {x:Int}:¬ bef k x x:=by unfold bef; omega
theorem bef_later {x y:Int} (h:x<y):bef k y x ↔ k y<k x:=by unfold bef; omega
theorem not_bef_later {x y:Int} (h:x<y) (h2:¬ k y<k x):bef k x y:=by unfold bef; omega
def cmpv (k:Int→Nat) (x y:Int):Int:=if k x<k y then -1 else if k y<k x then 1 else 0
theorem cmpv_neg {x y:Int}:cmpv k x y<0 ↔ k x<k y:=by unfold cmpv; split <;> (try split) <;> omega
abbrev So (k:Int→Nat) (l:List Int):Prop:=l.Pairwise (bef k)
def cross (A T:List Int):Prop:=∀ a∈A,∀ t∈T,a<t
def swp (D:List Int) (i j:Nat):List Int:=(D.set i (D.getD j 0)).set j (D.getD i 0)
theorem swp_comm {D:List Int} {i j:Nat} (h:i≠j):swp D i j=swp D j i:=by
 unfold swp; rw [List.set_comm _ _ h]
theorem at_app (A B:List Int) (x:Int):(A ++ x::B).getD A.length 0=x:=by simp [Yd]
theorem swp_eq (A M C:List Int) (p q:Int):swp (A ++ p::(M ++ q::C)) A.length (A.length+1+M.length)=A ++ q::(M ++ p::C):=by
 have h1:=at_app A (M ++ q::C) p
 have h2:(A ++ p::(M ++ q::C)).getD (A.length+1+M.length) 0=q:=by
  have:=at_app (A ++ p::M) C q
  rw [Y0,Y6,show A.length+(M.length+1)=A.length+1+M.length by omega] at this
  simpa using this
 unfold swp
 rw [h1,h2]
 have e1:(A ++ p::(M ++ q::C)).set A.length q=A ++ q::(M ++ q::C):=by
  rw [Y2f _ _ (Ys _),Y4h]; rfl
 rw [e1,Y2f _ _ (by omega),show A.length+1+M.length - A.length=M.length+1 by omega,Y2x,Y2f _ _ (Ys _),Y4h]
 rfl
theorem swp_adj (A C:List Int) (p q:Int):swp (A ++ p::q::C) A.length (A.length+1)=A ++ q::p::C:=by
 have:=swp_eq A [] C p q
 simpa using this
theorem so_insert {U1 U2:List Int} {x:Int} (h:So k (U1 ++ U2)) (h1:∀ u∈U1,bef k u x) (h2:∀ u∈U2,bef k x u):So k (U1 ++ x::U2):=by
 obtain ⟨a,b,c⟩:=Y1n.1 h
 refine Y1n.2 ⟨a,Y2n.2 ⟨h2,b⟩,fun u hu v hv=>?_⟩
 rcases Y17.1 hv with rfl | hv
 ·exact h1 u hu
 ·exact c u hu v hv
theorem so_last {U:List Int} {p x:Int} (h:So k (U ++ [p])) (hp:bef k p x):∀ u∈U ++ [p],bef k u x:=by
 intro u hu
 rcases Y12.1 hu with hu | hu
 ·exact X15 ((Y1n.1 h).2.2 u hu p (by simp)) hp
 ·simp at hu; subst hu; exact hp
theorem X7x {V:List Int} (h:So k V) {p q:Nat} (hpq:p<q) (hq:q<V.length):bef k (V.getD p 0) (V.getD q 0):=by
 have:=Y2q.1 h p q (by omega) hq hpq
 simpa [Yd,hq,(show p<V.length by omega)] using this
theorem getD_mem {V:List Int} {p:Nat} (h:p<V.length):V.getD p 0∈V:=by
 rw [Yd,Y7 h]; exact Y2k h
theorem Xir {V:List Int} {v:Int} (h:v∈V):∃ p,p<V.length∧V.getD p 0=v:=by
 obtain ⟨p,hp,e⟩:=Y3q.1 h
 exact ⟨p,hp,by rw [Yd,Y7 hp,← e]; rfl⟩
theorem X4e {V:List Int} {n:Nat} {v:Int} (h:v∈V.take n):∃ p,p<n∧p<V.length∧V.getD p 0=v:=by
 obtain ⟨p,hp,e⟩:=Xir h
 rw [Yq] at hp
 refine ⟨p,by omega,by omega,?_⟩
 rw [← e]
 simp [Yd,Y1v,show p<n by omega]
theorem X49 {V:List Int} {n:Nat} {v:Int} (h:v∈V.drop n):∃ p,n≤p∧p<V.length∧V.getD p 0=v:=by
 obtain ⟨p,hp,e⟩:=Xir h
 rw [Yj] at hp
 refine ⟨n+p,by omega,by omega,?_⟩
 rw [← e]
 simp [Yd,Y1d]
theorem get_app1 {A B:List Int} {i:Nat} (h:i<A.length):(A ++ B).getD i 0=A.getD i 0:=by
 simp [Yd,Y2b,h]
theorem get_app2 {A B:List Int} {i:Nat} (h:A.length≤i):(A ++ B).getD i 0=B.getD (i - A.length) 0:=by
 simp [Yd,Y2b,Nat.not_lt.2 h]
theorem get_mid {F G E:List Int} {i:Nat} (h1:F.length≤i) (h2:i<F.length+G.length):(F ++ (G ++ E)).getD i 0∈G:=by
 rw [get_app2 h1,get_app1 (by omega)]
 exact getD_mem (by omega)
theorem concat_of {U:List Int} (h:0<U.length):∃ V q,U=V ++ [q]:=by
 have hne:U≠[]:=fun e=>by rw [e] at h; simp at h
 exact ⟨U.dropLast,U.getLast hne,(Y2y hne).symm⟩
theorem cons_of {U:List Int} (h:0<U.length):∃ q V,U=q::V:=by
 cases U with
 | nil=>simp at h
 | cons q V=>exact ⟨q,V,rfl⟩
theorem Xes {V:List Int} (h:So k V) {p q:Nat} (hpq:p≤q) (hq:q<V.length):k (V.getD p 0)≤k (V.getD q 0):=by
 rcases Yv p q with h1 | h1
 ·have:=X7x h h1 hq
  unfold bef at this; omega
 ·rw [show p=q by omega]; exact Ys _
theorem so_left {V:List Int} {x:Int} {i:Nat} (h:So k V) (hx:∀ v∈V,x<v) (hi:i≤V.length) (h1:i=0∨k (V.getD (i - 1) 0)<k x) (h2:i=V.length∨¬ k (V.getD i 0)<k x):So k (V.take i ++ x::V.drop i):=by
 refine so_insert (by rw [Yw]; exact h) (fun u hu=>?_) (fun u hu=>?_)
 ·obtain ⟨p,p1,p2,rfl⟩:=X4e hu
  rcases h1 with h1 | h1
  ·omega
  ·have:=Xes h (show p≤i - 1 by omega) (by omega)
   exact .inl (by omega)
 ·obtain ⟨p,p1,p2,rfl⟩:=X49 hu
  rcases h2 with h2 | h2
  ·omega
  ·have:=Xes h p1 p2
   exact not_bef_later (hx _ (getD_mem p2)) (by omega)
theorem so_right {V:List Int} {x:Int} {i:Nat} (h:So k V) (hx:∀ v∈V,v<x) (hi:i≤V.length) (h1:i=0∨¬ k x<k (V.getD (i - 1) 0)) (h2:i=V.length∨k x<k (V.getD i 0)):So k (V.take i ++ x::V.drop i):=by
 refine so_insert (by rw [Yw]; exact h) (fun u hu=>?_) (fun u hu=>?_)
 ·obtain ⟨p,p1,p2,rfl⟩:=X4e hu
  rcases h1 with h1 | h1
  ·omega
  ·have:=Xes h (show p≤i - 1 by omega) (by omega)
   exact not_bef_later (hx _ (getD_mem p2)) (by omega)
 ·obtain ⟨p,p1,p2,rfl⟩:=X49 hu
  rcases h2 with h2 | h2
  ·omega
  ·have:=Xes h p1 p2
   exact .inl (by omega)
theorem so_app {X Y:List Int} (hx:So k X) (hy:So k Y) (h:∀ x∈X,∀ y∈Y,bef k x y):So k (X ++ Y):=Y1n.2 ⟨hx,hy,h⟩
theorem cross_sub {A T A' T':List Int} (h:cross A T) (ha:∀ x∈A',x∈A) (ht:∀ x∈T',x∈T):cross A' T':=fun a h1 t h2=>h a (ha a h1) t (ht t h2)
theorem split_lt {U V:List Int} (hU:So k U) (hV:So k V) (hc:cross U V) {s e:Nat} (hs:s≤U.length) (he:e≤V.length)
  (h1:s=0∨e=V.length∨bef k (U.getD (s - 1) 0) (V.getD e 0)) (h2:e=0∨s=U.length∨bef k (V.getD (e - 1) 0) (U.getD s 0)) :
  (∀ x∈U.take s ++ V.take e,∀ y∈U.drop s ++ V.drop e,bef k x y):=by
 intro x hx y hy
 rcases Y12.1 hx with hx | hx <;> rcases Y12.1 hy with hy | hy
 ·obtain ⟨p,p1,p2,rfl⟩:=X4e hx
  obtain ⟨q,q1,q2,rfl⟩:=X49 hy
  exact X7x hU (by omega) q2
 ·obtain ⟨p,p1,p2,rfl⟩:=X4e hx
  obtain ⟨q,q1,q2,rfl⟩:=X49 hy
  have hb:bef k (U.getD (s - 1) 0) (V.getD e 0):=by
   rcases h1 with h | h | h
   ·omega
   ·omega
   ·exact h
  have e1:U.getD p 0=U.getD (s - 1) 0∨bef k (U.getD p 0) (U.getD (s - 1) 0):=by
   rcases Yv p (s - 1) with h | h
   ·exact .inr (X7x hU h (by omega))
   ·exact .inl (by rw [show p=s - 1 by omega])
  have e2:V.getD e 0=V.getD q 0∨bef k (V.getD e 0) (V.getD q 0):=by
   rcases Yv e q with h | h
   ·exact .inr (X7x hV h q2)
   ·exact .inl (by rw [show e=q by omega])
  rcases e1 with e1 | e1 <;> rcases e2 with e2 | e2
  ·rw [e1,← e2]; exact hb
  ·rw [e1]; exact X15 hb e2
  ·rw [← e2]; exact X15 e1 hb
  ·exact X15 e1 (X15 hb e2)
 ·obtain ⟨p,p1,p2,rfl⟩:=X4e hx
  obtain ⟨q,q1,q2,rfl⟩:=X49 hy
  have hb:bef k (V.getD (e - 1) 0) (U.getD s 0):=by
   rcases h2 with h | h | h
   ·omega
   ·omega
   ·exact h
  have e1:V.getD p 0=V.getD (e - 1) 0∨bef k (V.getD p 0) (V.getD (e - 1) 0):=by
   rcases Yv p (e - 1) with h | h
   ·exact .inr (X7x hV h (by omega))
   ·exact .inl (by rw [show p=e - 1 by omega])
  have e2:U.getD s 0=U.getD q 0∨bef k (U.getD s 0) (U.getD q 0):=by
   rcases Yv s q with h | h
   ·exact .inr (X7x hU h q2)
   ·exact .inl (by rw [show s=q by omega])
  rcases e1 with e1 | e1 <;> rcases e2 with e2 | e2
  ·rw [e1,← e2]; exact hb
  ·rw [e1]; exact X15 hb e2
  ·rw [← e2]; exact X15 e1 hb
  ·exact X15 e1 (X15 hb e2)
 ·obtain ⟨p,p1,p2,rfl⟩:=X4e hx
  obtain ⟨q,q1,q2,rfl⟩:=X49 hy
  exact X7x hV (by omega) q2
theorem Xaz:∀ {X Y:List Int},So k X→So k Y→X.Perm Y→X=Y
 | [],Y,_,_,h=>(List.nil_perm.1 h).symm
 | x::X,[],_,_,h=>by have:=h.length_eq; simp at this
 | x::X,y::Y,hx,hy,h=>by
  obtain ⟨hx1,hx2⟩:=Y2n.1 hx
  obtain ⟨hy1,hy2⟩:=Y2n.1 hy
  have e:x=y:=by
   apply Classical.byContradiction
   intro hne
   have m1:x∈Y:=by
    rcases Y17.1 (h.mem_iff.1 (Y2o:x∈x::X)) with h | h
    ·exact absurd h hne
    ·exact h
   have m2:y∈X:=by
    rcases Y17.1 (h.mem_iff.2 (Y2o:y∈y::Y)) with h | h
    ·exact absurd h.symm hne
    ·exact h
   exact Xfv (X15 (hx1 y m2) (hy1 x m1))
  subst e
  rw [Xaz hx2 hy2 (List.Perm.cons_inv h)]
inductive Full (k:Int→Nat) (s:Nat):List Int→Prop
 | nil:Full k s []
 | cons {U T:List Int}:U.length=s→So k U→cross U T→Full k s T→Full k s (U ++ T)
theorem Full.append {s:Nat} {A B:List Int} (ha:Full k s A) (hb:Full k s B) (hc:cross A B):Full k s (A ++ B):=by
 induction ha with
 | nil=>simpa using hb
 | cons h1 h2 h3 h4 ih =>
  rename_i U T
  rw [Y8]
  refine .cons h1 h2 (fun a ha t ht=>?_) (ih (cross_sub hc (fun x hx=>Y1p _ hx) (fun x hx=>hx)))
  rcases Y12.1 ht with ht | ht
  ·exact h3 a ha t ht
  ·exact hc a (Y1m _ ha) t ht
theorem Full.one {s:Nat} {U:List Int} (h:U.length=s) (hs:So k U):Full k s U:=by
 have:=Full.cons (T:=[]) h hs (fun _ _ _ h=>by cases h) .nil
 simpa using this
def Runs (k:Int→Nat) (s:Nat) (D:List Int):Prop:=∃ A U,D=A ++ U∧Full k s A∧U.length<s∧So k U∧cross A U
theorem Runs.sorted {s:Nat} {D:List Int} (h:Runs k s D) (hl:D.length≤s) (h0:0<s):So k D:=by
 obtain ⟨A,U,rfl,hA,hU,hs,hc⟩:=h
 cases hA with
 | nil=>simpa using hs
 | cons h1 h2 h3 h4 =>
  rename_i V T
  simp only [Y0] at hl
  have hU0:U=[]:=Ye (by omega)
  have hT0:T=[]:=Ye (by omega)
  subst hU0; subst hT0
  simpa using h2
theorem Full.two {s:Nat} {A:List Int} (h:Full k s A) (hl:s<A.length):∃ U V T,A=U ++ (V ++ T)∧U.length=s∧V.length=s∧So k U∧So k V∧cross U V∧cross U T∧cross V T∧Full k s T:=by
 cases h with
 | nil=>simp at hl
 | cons h1 h2 h3 h4 =>
  rename_i U T
  cases h4 with
  | nil=>simp at hl; omega
  | cons g1 g2 g3 g4 =>
   rename_i V T
   exact ⟨U,V,T,rfl,h1,g1,h2,g2,cross_sub h3 (fun _ h=>h) (fun _ h=>Y1m _ h),cross_sub h3 (fun _ h=>h) (fun _ h=>Y1p _ h),g3,g4⟩
theorem Full.few {s:Nat} {A:List Int} (h:Full k s A) (hl:A.length<2*s):A=[]∨(A.length=s∧So k A):=by
 cases h with
 | nil=>exact .inl rfl
 | cons h1 h2 h3 h4 =>
  rename_i U T
  cases h4 with
  | nil=>exact .inr ⟨by simpa using h1,by simpa using h2⟩
  | cons g1 g2 g3 g4=>simp only [Y0] at hl; omega
theorem cross_perm {A T M:List Int} (h:cross A T) (hp:M.Perm A):cross M T:=fun a ha=>h a (hp.mem_iff.1 ha)
theorem cross_permr {A T M:List Int} (h:cross A T) (hp:M.Perm T):cross A M:=fun a ha t ht=>h a ha t (hp.mem_iff.1 ht)
theorem cross_app {A B T:List Int} (h:cross A T) (h2:cross B T):cross (A ++ B) T:=fun a ha t ht=>by
 rcases Y12.1 ha with ha | ha
 ·exact h a ha t ht
 ·exact h2 a ha t ht
theorem cross_appr {A B T:List Int} (h:cross A B) (h2:cross A T):cross A (B ++ T):=fun a ha t ht=>by
 rcases Y12.1 ht with ht | ht
 ·exact h a ha t ht
 ·exact h2 a ha t ht
def upto:Nat→List Int
 | 0=>[]
 | n+1=>upto n ++ [(n:Int)]
theorem upto_len:∀ n,(upto n).length=n
 | 0=>rfl
 | n+1=>by rw [upto,Y0,upto_len n]; rfl
theorem upto_mem:∀ {n:Nat} {x:Int},x∈upto n ↔ 0≤x∧x<n
 | 0,x=>by simp [upto] <;> omega
 | n+1,x=>by
  rw [upto,Y12,upto_mem]
  simp
  omega
theorem upto_lt:∀ n,(upto n).Pairwise (·<·)
 | 0=>.nil
 | n+1=>by
  rw [upto]
  refine Y1n.2 ⟨upto_lt n,by simp,fun a ha b hb=>?_⟩
  simp at hb
  have:=upto_mem.1 ha
  omega
def Ord (k:Int→Nat) (n:Nat) (D:List Int):Prop:=So k D∧D.Perm (upto n)
theorem Ord.unique {n:Nat} {D D':List Int} (h:Ord k n D) (h':Ord k n D'):D=D':=Xaz h.1 h'.1 (h.2.trans h'.2.symm)
theorem Ord.len {n:Nat} {D:List Int} (h:Ord k n D):D.length=n:=by rw [h.2.length_eq,upto_len]
instance (k:Int→Nat) (x y:Int):Decidable (bef k x y):=by unfold bef; infer_instance
structure Sel (k:Int→Nat) (n:Nat) (us:List Bool) (Os T:List Int):Prop where
 len:us.length=n
 perm:(Os ++ T).Perm (upto n)
 so:So k Os
 before:∀ o∈Os,∀ t∈T,bef k o t
 used:∀ o∈Os,us.getD o.toNat false=true
 free:∀ t∈T,us.getD t.toNat false=false
def Best (k:Int→Nat) (T:List Int) (i:Nat) (b:Int):Prop:=(b=-1∧∀ t∈T,(i:Int)≤t)∨(b∈T∧b<i∧∀ t∈T,t<i→t=b∨bef k b t)
theorem Sel.mem {n:Nat} {us:List Bool} {Os T:List Int} (h:Sel k n us Os T) {t:Int} (ht:t∈T):0≤t∧t<n:=upto_mem.1 (h.perm.mem_iff.1 (Y1p _ ht))
theorem Sel.lens {n:Nat} {us:List Bool} {Os T:List Int} (h:Sel k n us Os T):Os.length+T.length=n:=by
 have:=h.perm.length_eq
 rw [Y0,upto_len] at this
 exact this
theorem Best.lt {T:List Int} {i:Nat} {b:Int} (h:Best k T i b):b<i:=by
 rcases h with ⟨h,_⟩ | ⟨_,h,_⟩ <;> omega
theorem Best.is {T:List Int} {i:Nat} {b:Int} (h:Best k T i b) (h0:¬ b<0):b∈T:=by
 rcases h with ⟨h,_⟩ | ⟨h,_⟩
 ·omega
 ·exact h
theorem Best.take {n:Nat} {us:List Bool} {Os T:List Int} (h:Sel k n us Os T) {i:Nat} {b:Int} (hb:Best k T i b) (hi:i<n) (hu:us.getD i false=false) (hc:b<0∨k i<k b):Best k T (i+1) i:=by
 have hiT:(i:Int)∈T:=by
  rcases Y12.1 (h.perm.mem_iff.2 (upto_mem.2 ⟨by omega,by omega⟩:(i:Int)∈upto n)) with h1 | h1
  ·have:=h.used _ h1
   rw [Yk,hu] at this; cases this
  ·exact h1
 refine .inr ⟨hiT,by omega,fun t ht hti=>?_⟩
 rcases Int.lt_or_le t i with h1 | h1
 ·right
  rcases hb with ⟨_,h2⟩ | ⟨h2,h3,h4⟩
  ·have:=h2 t ht; omega
  ·have hk:k i<k b:=by
    rcases hc with hc | hc
    ·have:=h.mem h2; omega
    ·exact hc
   rcases h4 t ht h1 with rfl | h5
   ·exact .inl hk
   ·exact X15 (.inl hk) h5
 ·left; omega
theorem Best.keep {n:Nat} {us:List Bool} {Os T:List Int} (h:Sel k n us Os T) {i:Nat} {b:Int} (hb:Best k T i b) (hc:us.getD i false=true∨(¬ b<0∧¬ k i<k b)):Best k T (i+1) b:=by
 rcases hb with ⟨h1,h2⟩ | ⟨h2,h3,h4⟩
 ·refine .inl ⟨h1,fun t ht=>?_⟩
  have h5:=h2 t ht
  rcases Int.lt_or_le i t with h6 | h6
  ·omega
  ·have e:t=i:=by omega
   rcases hc with hc | hc
   ·have:=h.free t ht
    rw [e,Yk,hc] at this; cases this
   ·omega
 ·refine .inr ⟨h2,by omega,fun t ht hti=>?_⟩
  rcases Int.lt_or_le t i with h6 | h6
  ·exact h4 t ht h6
  ·have e:t=i:=by omega
   rcases hc with hc | hc
   ·have:=h.free t ht
    rw [e,Yk,hc] at this; cases this
   ·right
    subst e
    unfold bef; omega
theorem Sel.step {n:Nat} {us:List Bool} {Os T:List Int} (h:Sel k n us Os T) {b:Int} (hb:Best k T n b) (hT:0<T.length):0≤b∧b<n∧Sel k n (us.set b.toNat true) (Os ++ [b]) (T.erase b):=by
 obtain ⟨t0,ht0⟩:∃ t,t∈T:=by cases T with | nil=>simp at hT | cons t T=>exact ⟨t,Y2o⟩
 have h0:=h.mem ht0
 obtain ⟨h2,h3,h4⟩:b∈T∧b<n∧∀ t∈T,t<n→t=b∨bef k b t:=by
  rcases hb with ⟨_,h2⟩ | h2
  ·have:=h2 t0 ht0; omega
  ·exact h2
 have hb0:=h.mem h2
 have hp:T.Perm (b::T.erase b):=List.perm_cons_erase h2
 have hPn:(Os ++ (b::T.erase b)).Perm (upto n):=(List.Perm.append_left Os hp.symm).trans h.perm
 have hnd:(Os ++ (b::T.erase b)).Nodup:=hPn.nodup_iff.2 ((upto_lt n).imp fun h=>by omega)
 have hd2:=(Y49.1 hnd).2.1
 have hnb:b ∉ T.erase b:=(Y2r.1 hd2).1
 have hnO:b ∉ Os:=fun ho=>(Y49.1 hnd).2.2 b ho b Y2o rfl
 have sub:∀ t,t∈T.erase b→t∈T:=fun t ht=>List.mem_of_mem_erase ht
 refine ⟨hb0.1,h3,by simpa using h.len,by simpa using hPn,?_,?_,?_,?_⟩
 ·refine Y1n.2 ⟨h.so,by simp,fun o ho x hx=>?_⟩
  simp at hx; subst hx
  exact h.before o ho _ h2
 ·intro o ho t ht
  rcases Y12.1 ho with ho | ho
  ·exact h.before o ho t (sub t ht)
  ·simp at ho; subst ho
   have hm:=h.mem (sub t ht)
   rcases h4 t (sub t ht) (by omega) with e | e
   ·subst e; exact absurd ht hnb
   ·exact e
 ·intro o ho
  rcases Y12.1 ho with ho | ho
  ·have:=h.used o ho
   have hne:¬ b.toNat=o.toNat:=fun e=>by
    have hm:0≤o:=(upto_mem.1 (h.perm.mem_iff.1 (Y1m _ ho))).1
    have:b=o:=by omega
    subst this; exact hnO ho
   simpa [Yd,Y2e,hne] using this
  ·simp at ho; subst ho
   have hl:o.toNat<us.length:=by rw [h.len]; omega
   simp [Yd,Y2e,hl]
 ·intro t ht
  have:=h.free t (sub t ht)
  have hne:¬ b.toNat=t.toNat:=fun e=>by
   have hm:=h.mem (sub t ht)
   have:b=t:=by omega
   subst this; exact hnb ht
  simpa [Yd,Y2e,hne] using this
theorem Sel.done {n:Nat} {us:List Bool} {Os T:List Int} (h:Sel k n us Os T) (hl:n≤Os.length):Ord k n Os:=by
 have:=h.lens
 have hT:T=[]:=Ye (by omega)
 subst hT
 exact ⟨h.so,by simpa using h.perm⟩
end Srt
