/- Part 8 of what the proof stands on. -/
import Derived.Test.YtbciobiiejpdgaaGreatDoorMEG
import Derived.KernelRfl
import Derived.Lib.LaidTab
import Derived.Lib.LaidU8
import Derived.Lay
import Derived.Shelf.Vars
import Derived.HandedShaped
import Derived.MakeChecks
import Derived.Test.YtbciobiiejpdgaaGreatDoorRows
import Derived.OpenShut
set_option linter.unusedVariables false
set_option linter.unusedSimpArgs false
namespace Go.Proofs.YtbciobiiejpdgaaGreatDoor
open Gk Ul Pc Tk Tr
theorem Xtk (p:Nat->Int) {k:Nat} (h:k<21):(psL p).getD k 0=p k:=by
 rcases (by omega:k=0\/k=1\/k=2\/k=3\/k=4\/k=5\/k=6\/k=7\/k=8\/k=9\/k=10\/k=11\/k=12\/k=13\/k=14\/k=15\/k=16\/k=17\/k=18\/k=19\/k=20) with rfl | rfl | rfl | rfl | rfl | rfl | rfl | rfl | rfl | rfl | rfl | rfl | rfl | rfl | rfl | rfl | rfl | rfl | rfl | rfl | rfl <;> rfl
theorem X8k (p:Nat->Int) {o k:Nat} (e:o=k) (h:k<21):((psL p).map I64)[o]?=some (I64 (p k)):=by
 rw [Xx0 rfl e h,Xtk p h]
theorem X8m {p:Nat->Int} {k:Nat} (h:k<21) (hb:Xc3 (p k)=true):Xaq p=false:=by
 rcases (by omega:k=0\/k=1\/k=2\/k=3\/k=4\/k=5\/k=6\/k=7\/k=8\/k=9\/k=10\/k=11\/k=12\/k=13\/k=14\/k=15\/k=16\/k=17\/k=18\/k=19\/k=20) with rfl | rfl | rfl | rfl | rfl | rfl | rfl | rfl | rfl | rfl | rfl | rfl | rfl | rfl | rfl | rfl | rfl | rfl | rfl | rfl | rfl <;> simp [Xaq,psL,hb]
theorem Xi6 {p:Nat->Int} (h:∀ k,k<21->Xc3 (p k)=false):Xaq p=true:=by
 simp [Xaq,psL,h 0 (by decide),h 1 (by decide),h 2 (by decide),h 3 (by decide),h 4 (by decide),h 5 (by decide),h 6 (by decide),h 7 (by decide),h 8 (by decide),h 9 (by decide),h 10 (by decide),h 11 (by decide),h 12 (by decide),h 13 (by decide),h 14 (by decide),h 15 (by decide),h 16 (by decide),h 17 (by decide),h 18 (by decide),h 19 (by decide),h 20 (by decide)]
theorem Xdo (p:Nat->Int) (B w:World) (I:Im) (As:List X7) (hS:Sat B w I As) :
  Cz 80 [.agg ((psL p).map I64).toArray] w fun v w'=>v=.bool (Xaq p)/\Sat B w' I As:=by
 refine calls Tryz.func80 rfl Tryz.ntmps80 rfl (.seq (.region (.boxA (cs:=(psL p).map I64) hS (.of rfl) rfl ?_)));intro b1 w hS;refine .q 1 rfl (.nil (.seq (.seq (.q 1 rfl (.block (.loop (σ:=Nat) (fun i=>[(1,ptr b1 0),(3,I64 (i:Nat))]) (fun i w=>i<=7/\(∀ j,j<i->Xc3 (p j)=false/\Xc3 (p (7+j))=false/\Xc3 (p (14+j))=false)/\Sat B w I (blk b1 ((psL p).map I64) 26::As)) (fun i=>7 - i) 0 ⟨rfl,rfl,trivial⟩ ⟨Yo _,fun _ h=>absurd h (by omega),hS⟩ ?_))))));rintro i w ⟨hi,hno,hS⟩;refine .seq (.seq (.q 2 rfl ?_));refine .cond rfl (fun hb5=>?_) fun hb5=>?_
 ·have hc5:=hb5; simp only [Y6] at hc5;refine .skip (.seq (.block (.seq (.t 1 rfl ?_))));refine .val (.fo 0 rfl Xqe rfl rfl Xr6 rfl) rfl (.val (Ex.arrAddrO (i:=(i:Int)) (.of rfl) (.of rfl) (by omega) (by omega) Xqd Qs3) rfl (.val (.lo rfl hS (k:=0) rfl Qg3 (X8k p (o:=0+0+(i:Int).toNat*1) (k:=i) (by omega) (by omega))) rfl (.q 2 rfl (.gm rfl rfl rfl rfl ?_))));refine .gval rfl rfl (fun hg1=>(by exact .fo 7 rfl Xqe rfl rfl Xr6 rfl)) rfl ?_;refine .gval rfl rfl (fun hg1=>Ex.arrAddrO (i:=(i:Int)) (.gd hg1 rfl) (.gd hg1 rfl) (by omega) (by omega) Xqd Qs3) rfl (.gval rfl rfl (fun hg1=>.ld (.gd hg1 rfl) hS (k:=0) rfl Qg3 (X8k p (o:=0+7+(i:Int).toNat*1) (k:=7+i) (by omega) (by omega))) rfl (.gval rfl rfl (fun hg1=>(.lss (.gd hg1 rfl) (.of rfl))) rfl (.val (.po rfl rfl rfl) rfl (.q 1 rfl (.gm rfl rfl rfl rfl ?_)))));refine .gval rfl rfl (fun hg1=>(by exact .fo 14 rfl Xqe rfl rfl Xr6 rfl)) rfl ?_;refine .gval rfl rfl (fun hg1=>Ex.arrAddrO (i:=(i:Int)) (.gd hg1 rfl) (.gd hg1 rfl) (by omega) (by omega) Xqd Qs3) rfl (.gval rfl rfl (fun hg1=>.ld (.gd hg1 rfl) hS (k:=0) rfl Qg3 (X8k p (o:=0+14+(i:Int).toNat*1) (k:=14+i) (by omega) (by omega))) rfl (.gval rfl rfl (fun hg1=>(.lss (.gd hg1 rfl) (.of rfl))) rfl (.val (.po rfl rfl rfl) rfl (.q 1 rfl (.gm rfl rfl rfl rfl ?_)))));refine .gval rfl rfl (fun hg1=>(by exact .fo 0 rfl Xqe rfl rfl Xr6 rfl)) rfl ?_;refine .gval rfl rfl (fun hg1=>Ex.arrAddrO (i:=(i:Int)) (.gd hg1 rfl) (.gd hg1 rfl) (by omega) (by omega) Xqd Qs3) rfl (.gval rfl rfl (fun hg1=>.ld (.gd hg1 rfl) hS (k:=0) rfl Qg3 (X8k p (o:=0+0+(i:Int).toNat*1) (k:=i) (by omega) (by omega))) rfl (.gval rfl rfl (fun hg1=>(.gtr (.gd hg1 rfl) (.of rfl))) rfl (.val (.po rfl rfl rfl) rfl (.q 1 rfl (.gm rfl rfl rfl rfl ?_)))));refine .gval rfl rfl (fun hg1=>(by exact .fo 7 rfl Xqe rfl rfl Xr6 rfl)) rfl ?_;refine .gval rfl rfl (fun hg1=>Ex.arrAddrO (i:=(i:Int)) (.gd hg1 rfl) (.gd hg1 rfl) (by omega) (by omega) Xqd Qs3) rfl (.gval rfl rfl (fun hg1=>.ld (.gd hg1 rfl) hS (k:=0) rfl Qg3 (X8k p (o:=0+7+(i:Int).toNat*1) (k:=7+i) (by omega) (by omega))) rfl (.gval rfl rfl (fun hg1=>(.gtr (.gd hg1 rfl) (.of rfl))) rfl (.val (.po rfl rfl rfl) rfl (.q 1 rfl (.gm rfl rfl rfl rfl ?_)))));refine .gval rfl rfl (fun hg1=>(by exact .fo 14 rfl Xqe rfl rfl Xr6 rfl)) rfl ?_;refine .gval rfl rfl (fun hg1=>Ex.arrAddrO (i:=(i:Int)) (.gd hg1 rfl) (.gd hg1 rfl) (by omega) (by omega) Xqd Qs3) rfl (.gval rfl rfl (fun hg1=>.ld (.gd hg1 rfl) hS (k:=0) rfl Qg3 (X8k p (o:=0+14+(i:Int).toNat*1) (k:=14+i) (by omega) (by omega))) rfl (.gval rfl rfl (fun hg1=>(.gtr (.gd hg1 rfl) (.of rfl))) rfl (.val (.po rfl rfl rfl) rfl (.nil ?_))));refine .cond rfl (fun hb47=>?_) fun hb47=>?_
  ·have hc47:=hb47; simp only [Y6] at hc47;refine .seq (.q 1 rfl (.ret (Xc Tryz.results80 rfl ?_)));refine ⟨_,rfl,congrArg Value.bool ?_,hS.y 0 1⟩;have h3:Xc3 (p i)=true\/Xc3 (p (7+i))=true\/Xc3 (p (14+i))=true:=by
    unfold Xc3;simp at hb47 ⊢
    omega
   rcases h3 with h3 | h3 | h3
   ·exact (X8m (by omega) h3).symm
   ·exact (X8m (by omega) h3).symm
   ·exact (X8m (by omega) h3).symm
  have hc47:=hb47; simp only [Y6] at hc47;refine .skip (.region (.run 3 rfl ⟨⟨by omega,by omega⟩,trivial⟩ (.nil ?_)));have hb3:Xc3 (p i)=false/\Xc3 (p (7+i))=false/\Xc3 (p (14+i))=false:=by
   unfold Xc3;simp at hb47 ⊢
   omega
  refine ⟨i+1,⟨rfl,rfl,trivial⟩,⟨by (try dsimp only); omega,fun j hj=>?_,hS⟩,by (try dsimp only); omega⟩;rcases Yp j i with h1 | h1
  ·exact hno j h1
  ·have e:j=i:=by omega
   subst e;exact hb3
 have hc5:=hb5; simp only [Y6] at hc5;refine .exit (.seq (.q 1 rfl (.ret (Xc Tryz.results80 rfl ?_))));refine ⟨_,rfl,congrArg Value.bool (Xi6 fun k hk=>?_).symm,hS.y 0 1⟩;rcases Yp k 7 with h1 | h1
 ·exact (hno k (by omega)).1
 ·rcases Yp k 14 with h2 | h2
  ·have:=(hno (k - 7) (by omega)).2.1
   rwa [show 7+(k - 7)=k by omega] at this
  ·have:=(hno (k - 14) (by omega)).2.2
   rwa [show 14+(k - 14)=k by omega] at this
def X47 (s:List UInt8) (lo:Int):Bool:=s.all fun c=>!(decide ((c.toNat:Int)<lo) || decide ((126:Int)<(c.toNat:Int)))
theorem Xnp (i:Nat) (c:UInt8):badW i c=(!((decide ((97:Int)<=(c.toNat:Int)) && decide ((c.toNat:Int)<=122)) || (decide ((65:Int)<=(c.toNat:Int)) && decide ((c.toNat:Int)<=90))) && (((i:Int) == 0) || !(((decide ((48:Int)<=(c.toNat:Int)) && decide ((c.toNat:Int)<=57)) || ((c.toNat:Int) == 45)) || ((c.toNat:Int) == 95)))):=by
 unfold badW letC;rw [Y2u];simp only [Yn,Y1j,Y3h,Y10,Y2t,decide_eq_true_eq,decide_eq_false_iff_not,beq_iff_eq,bne_iff_ne,ne_eq,beq_eq_false_iff_ne]
 omega
theorem Xno (p:Pr):Xqf p=((!Xbz p.1 || decide ((60:Int)<(p.2.length:Int))) || !X47 p.2 32):=by
 unfold Xqf X6t;rw [show (p.2.all fun c=>!(decide ((c.toNat:Int)<32) || decide ((126:Int)<(c.toNat:Int))))=X47 p.2 32 from rfl];cases Xbz p.1 <;> cases X47 p.2 32 <;> simp
 rw [Y2u]
 simp
 try omega
theorem Xe3 (u:Us):X7u u=(!(((((u.name == []) || decide ((32:Int)<(u.name.length:Int))) || (u.pw == [])) || decide ((60:Int)<(u.pw.length:Int))) || decide ((8:Int)<(u.attrs.length:Int))) && X47 u.name 33 && !u.attrs.any Xqf):=by
 unfold X7u X6t;rw [show (u.name.all fun c=>!(decide ((c.toNat:Int)<33) || decide ((126:Int)<(c.toNat:Int))))=X47 u.name 33 from rfl];cases X47 u.name 33 <;> cases u.attrs.any Xqf <;> simp
 cases u.name <;> cases u.pw <;> simp
 rw [Y2u]
 simp
 omega
theorem X93 (s:List UInt8) (lo:Int) (hs:s.length<=9223372036854775807) (B w:World) (I:Im) (As:List X7) (hS:Sat B w I As) :
  Cz 171 [S s,.int .u8 lo] w fun v w'=>v=.bool (X47 s lo)/\Sat B w' I As:=by
 refine calls Tryz.func171 rfl Tryz.ntmps171 rfl (.seq (.q 1 rfl (.seq (.seq (.q 1 rfl (.block (.loop (σ:=Nat) (fun i=>[(0,S s),(1,.int .u8 lo),(5,I64 (i:Nat))]) (fun i w=>i<=s.length/\(∀ (j:Nat) c,j<i->s[j]?=some c->(decide ((c.toNat:Int)<lo) || decide ((126:Int)<(c.toNat:Int)))=false)/\Sat B w I As) (fun i=>s.length - i) 0 ⟨rfl,rfl,rfl,trivial⟩ ⟨Yo _,fun _ _ h=>absurd h (by omega),hS⟩ ?_)))))));rintro i w ⟨hi,hno,hS⟩;refine .seq (.seq (.region (.run 4 rfl ⟨Qu9,trivial⟩ (.nil ?_))));refine .cond rfl (fun hb9=>?_) fun hb9=>?_
 ·have hc9:=hb9; simp only [Y6] at hc9;refine .skip (.seq (.block (.seq (.region (.run 6 rfl ⟨⟨⟨by omega,by omega⟩,Qu9⟩,trivial⟩ (.gm rfl rfl rfl rfl (.gm rfl rfl rfl rfl ?_)))))));refine .gval rfl rfl (fun hg1=>(.index (.gd hg1 rfl) (.gd hg1 rfl) (by (try simp only [Y6] at hg1); omega) (by (try simp only [Y6] at hg1); omega) Qu9)) rfl ?_;refine .gval rfl rfl (fun hg1=>(.gtr (.gd hg1 rfl) (.of rfl))) rfl (.val (.po rfl rfl rfl) rfl (.nil ?_));refine .cond rfl (fun hb22=>?_) fun hb22=>?_
  ·have hc22:=hb22; simp only [Y6] at hc22;refine .seq (.q 1 rfl (.ret (Xc Tryz.results171 rfl ?_)));refine ⟨_,rfl,congrArg Value.bool ?_,hS⟩
   have:X47 s lo=false:=by
    unfold X47;rw [Y33];exact ⟨_,Yl (Xy (show i<s.length by omega)),by rw [hb22]; decide⟩
   rw [this]
  have hc22:=hb22; simp only [Y6] at hc22;refine .skip (.region (.run 3 rfl ⟨⟨by omega,by omega⟩,trivial⟩ (.nil ?_)));refine ⟨i+1,⟨rfl,rfl,rfl,trivial⟩,⟨by (try dsimp only); omega,fun j c hj hc=>?_,hS⟩,by (try dsimp only); omega⟩;rcases Yp j i with h1 | h1
  ·exact hno j c h1 hc
  ·have e:j=i:=by omega
   subst e;rw [Xy (show j<s.length by omega)] at hc; cases hc;exact hb22
 have hc9:=hb9; simp only [Y6] at hc9;refine .exit (.seq (.q 1 rfl (.ret (Xc Tryz.results171 rfl ?_))));refine ⟨_,rfl,congrArg Value.bool ?_,hS⟩
 have:X47 s lo=true:=by
  unfold X47;rw [Y1c];intro c hc;obtain ⟨j,hj,hjr⟩:=Y4b hc;rw [hno j c (by omega) (by rw [Y4 hj,hjr])];rfl
 rw [this]
theorem Xi2 (s:List UInt8) (hs:s.length<=9223372036854775807) (B w:World) (I:Im) (As:List X7) (hS:Sat B w I As) :
  Cz 172 [S s] w fun v w'=>v=.bool (Xbz s)/\Sat B w' I As:=by
 refine calls Tryz.func172 rfl Tryz.ntmps172 rfl (.seq (.q 1 rfl (.seq (.seq (.t 3 rfl (.gm rfl rfl rfl rfl (.gval rfl rfl (fun hg1=>(.len (.gd hg1 rfl) Qu9)) rfl (.gval rfl rfl (fun hg1=>(.gtr (.gd hg1 rfl) (.of rfl))) rfl (.val (.po rfl rfl rfl) rfl (.nil ?_))))))))));refine .cond rfl (fun hb13=>?_) fun hb13=>?_
 ·refine .seq (.q 1 rfl (.ret (Xc Xv5 rfl ?_)));refine ⟨_,rfl,congrArg Value.bool ?_,hS⟩;rw [Xbz];have h:=hb13;simp at h
  rcases h with h | h
  ·subst h; rfl
  ·rw [decide_eq_false (show ¬ (s.length:Int)<=60 by omega)]; simp
 have hc13:=hb13; simp only [Y6] at hc13;refine .skip (.seq (.seq (.q 1 rfl (.block (.loop (σ:=Nat) (fun i=>[(0,S s),(3,I64 (i:Nat))]) (fun i w=>i<=s.length/\(∀ (j:Nat) c,j<i->s[j]?=some c->badW j c=false)/\Sat B w I As) (fun i=>s.length - i) 0 ⟨rfl,rfl,trivial⟩ ⟨Yo _,fun _ _ h=>absurd h (by omega),hS⟩ ?_)))));rintro i w ⟨hi,hno,hS⟩;refine .seq (.seq (.region (.run 4 rfl ⟨Qu9,trivial⟩ (.nil ?_))));refine .cond rfl (fun hb17=>?_) fun hb17=>?_
 ·have hc17:=hb17; simp only [Y6] at hc17;refine .skip (.seq (.block (.seq (.region (.run 4 rfl ⟨⟨⟨by omega,by omega⟩,Qu9⟩,trivial⟩ (.nil (.seq (.t 3 rfl (.gm rfl rfl rfl rfl (.gval rfl rfl (fun hg1=>(.leq (.gd hg1 rfl) (.of rfl))) rfl (.val (.pa rfl rfl rfl) rfl (.q 1 rfl (.gm rfl rfl rfl rfl (.gval rfl rfl (fun hg1=>(.geq (.gd hg1 rfl) (.of rfl))) rfl (.gval rfl rfl (fun hg1=>(.move (.gd hg1 rfl))) rfl (.gval2 rfl rfl rfl (fun hg1 hg2=>(.mo rfl)) rfl (.gval2 rfl rfl rfl (fun hg1 hg2=>(.leq (.gd2 hg1 hg2 rfl) (.of rfl))) rfl (.gval rfl rfl (fun hg1=>(.pand (.gd hg1 rfl) (.gd hg1 rfl) (.of rfl))) rfl (.val (.po rfl rfl rfl) rfl (.q 1 rfl (.nil (.seq (.t 3 rfl (.gm rfl rfl rfl rfl (.gval rfl rfl (fun hg1=>(.leq (.gd hg1 rfl) (.of rfl))) rfl (.val (.pa rfl rfl rfl) rfl (.q 1 rfl (.gm rfl rfl rfl rfl (.gval rfl rfl (fun hg1=>(.eql (.gd hg1 rfl) (.of rfl))) rfl (.val (.po rfl rfl rfl) rfl (.q 1 rfl (.gm rfl rfl rfl rfl (.gval rfl rfl (fun hg1=>(.eql (.gd hg1 rfl) (.of rfl))) rfl (.val (.po rfl rfl rfl) rfl (.q 1 rfl (.nil (.seq (.t 3 rfl (.gm rfl rfl rfl rfl (.gval rfl rfl (fun hg1=>(.eql (.gd hg1 rfl) (.of rfl))) rfl (.gval rfl rfl (fun hg1=>(.move (.gd hg1 rfl))) rfl (.gval2 rfl rfl rfl (fun hg1 hg2=>(.mo rfl)) rfl (.gval2 rfl rfl rfl (fun hg1 hg2=>(.not (.gd2 hg1 hg2 rfl))) rfl (.gval rfl rfl (fun hg1=>(.por (.gd hg1 rfl) (.of rfl) (.gd hg1 rfl))) rfl (.val (.pa rfl rfl rfl) rfl (.nil ?_))))))))))))))))))))))))))))))))))))))))))))));refine .cond rfl (fun hb60=>?_) fun hb60=>?_
  ·have hc60:=hb60; simp only [Y6] at hc60;refine .seq (.q 1 rfl (.ret (Xc Xv5 rfl ?_)));refine ⟨_,rfl,congrArg Value.bool ?_,hS⟩
   have:Xbc s 0=false:=by
    cases h:Xbc s 0 with
    | false=>rfl
    | true =>
     have h1:=(X5j s 0).1 h i _ (Xy (show i<s.length by omega));rw [Yc,Xnp] at h1;exact absurd (hb60.symm.trans h1) (by decide)
   rw [Xbz,this]; rfl
  have hc60:=hb60; simp only [Y6] at hc60;refine .skip (.region (.run 3 rfl ⟨⟨by omega,by omega⟩,trivial⟩ (.nil ?_)));refine ⟨i+1,⟨rfl,rfl,trivial⟩,⟨by (try dsimp only); omega,fun j c hj hc=>?_,hS⟩,by (try dsimp only); omega⟩;rcases Yp j i with h1 | h1
  ·exact hno j c h1 hc
  ·have e:j=i:=by omega
   subst e;rw [Xy (show j<s.length by omega)] at hc; cases hc;rw [Xnp]; exact hb60
 have hc17:=hb17; simp only [Y6] at hc17;refine .exit (.seq (.q 1 rfl (.ret (Xc Xv5 rfl ?_))));refine ⟨_,rfl,congrArg Value.bool ?_,hS⟩
 have:Xbc s 0=true:=(X5j s 0).2 fun j c hc=>by
  have:=(Y5.1 hc).1
  rw [Yc]; exact hno j c (by omega) hc
 rw [Xbz,this];have h:=hb13;simp at h
 rw [decide_eq_true (show (s.length:Int)<=60 by omega)];simp [h.1]
theorem Xdr (u:Us) (a:Option Addr) (c:Nat) (hn:u.name.length<=9223372036854775807) (hpl:u.pw.length<=9223372036854775807) (hal:u.attrs.length<=9223372036854775807) (hA:∀ p∈u.attrs,X1n p) (B w:World) (I:Im) (hR:RS I a 2 u.attrs.length (X9 X1i u.attrs)) (As:List X7) (hS:Sat B w I As) :
  Cz 122 [.agg (X3t u a c).toArray] w fun v w'=>v=.bool (X7u u)/\Sat B w' I As:=by
 refine calls Tryz.func122 rfl Tryz.ntmps122 rfl (.seq (.region (.boxA (cs:=[_,_,_]) hS (.of rfl) rfl ?_)));intro b1 w hS;refine .q 1 rfl (.nil (.seq (.seq (.region ?_))));refine .val (.fo 0 rfl X2t rfl rfl Qs9 rfl) rfl (.val (.lo rfl hS (k:=0) rfl Qg9 rfl) rfl (.q 2 rfl (.gval rfl rfl (fun hg1=>(by exact .fo 0 rfl X2t rfl rfl Qs9 rfl)) rfl ?_)));refine .gval rfl rfl (fun hg1=>(by exact (.ld (.gd hg1 rfl) hS (k:=0) rfl Qg9 rfl))) rfl ?_;refine .gval rfl rfl (fun hg1=>(.len (.gd hg1 rfl) Qu9)) rfl (.gval rfl rfl (fun hg1=>(.gtr (.gd hg1 rfl) (.of rfl))) rfl (.val (.po rfl rfl rfl) rfl (.q 1 rfl ?_)));refine .gval rfl rfl (fun hg1=>(by exact .fo 1 rfl X2t rfl rfl Qs9 rfl)) rfl ?_;refine .gval rfl rfl (fun hg1=>(by exact (.ld (.gd hg1 rfl) hS (k:=0) rfl Qg9 rfl))) rfl ?_;refine .gval rfl rfl (fun hg1=>(.eqs (.gd hg1 rfl) (.of rfl))) rfl (.val (.po rfl rfl rfl) rfl (.q 1 rfl ?_));refine .gval rfl rfl (fun hg1=>(by exact .fo 1 rfl X2t rfl rfl Qs9 rfl)) rfl ?_;refine .gval rfl rfl (fun hg1=>(by exact (.ld (.gd hg1 rfl) hS (k:=0) rfl Qg9 rfl))) rfl ?_;refine .gval rfl rfl (fun hg1=>(.len (.gd hg1 rfl) Qu9)) rfl (.gval rfl rfl (fun hg1=>(.gtr (.gd hg1 rfl) (.of rfl))) rfl (.val (.po rfl rfl rfl) rfl (.q 1 rfl ?_)));refine .gval rfl rfl (fun hg1=>(by exact .fo 2 rfl X2t rfl rfl X4u rfl)) rfl ?_;refine .gval rfl rfl (fun hg1=>(by exact (.ld (.gd hg1 rfl) hS (k:=0) rfl X6x rfl))) rfl ?_;refine .gval rfl rfl (fun hg1=>(.lenSlice (.gd hg1 rfl) X2e)) rfl (.gval rfl rfl (fun hg1=>(.gtr (.gd hg1 rfl) (.of rfl))) rfl (.val (.po rfl rfl rfl) rfl (.q 1 rfl ?_)));refine .gval rfl rfl (fun hg1=>(by exact .fo 0 rfl X2t rfl rfl Qs9 rfl)) rfl ?_;refine .gval rfl rfl (fun hg1=>(by exact (.ld (.gd hg1 rfl) hS (k:=0) rfl Qg9 rfl))) rfl ?_;refine .gcall (T:=fun w=>Sat B w I _) rfl rfl rfl Tryz.func171 rfl (fun hg1=>(Xd (.gd hg1 rfl) (ec9 rfl X0))) rfl (fun hg1=>X93 u.name 33 hn B _ I _ hS) hS ?_;rintro w hS;refine .gval rfl rfl (fun hg1=>(.not (.gd hg1 rfl))) rfl (.val (.po rfl rfl rfl) rfl (.nil ?_));refine .cond rfl (fun hb36=>?_) fun hb36=>?_
 ·refine .seq (.q 1 rfl (.ret (Xc Xuz rfl ?_)));refine ⟨_,rfl,congrArg Value.bool ?_,hS.y 0 1⟩;rw [Xe3];rcases Y28.1 hb36 with h | h
  ·rw [h]; rfl
  ·rw [show X47 u.name 33=false by simpa using h]; simp
 have hc36:=hb36; simp only [Y6] at hc36;refine .skip (.seq (.seq (.q 1 rfl (.block (.loop (σ:=Nat) (fun i=>[(1,ptr b1 0),(3,I64 (i:Nat))]) (fun i w=>i<=u.attrs.length/\(∀ (j:Nat) y,j<i->u.attrs[j]?=some y->Xqf y=false)/\Sat B w I (blk b1 [S u.name,S u.pw,.slice a u.attrs.length c] 183::As)) (fun i=>u.attrs.length - i) 0 ⟨rfl,rfl,trivial⟩ ⟨Yo _,fun _ _ h=>absurd h (by omega),hS⟩ ?_)))));rintro i w ⟨hi,hno,hS⟩;refine .seq (.seq (.t 1 rfl ?_));refine .val (.fo 2 rfl X2t rfl rfl X4u rfl) rfl (.val (.lo rfl hS (k:=0) rfl X6x rfl) rfl (.run 2 rfl ⟨⟨_,X2e⟩,trivial⟩ (.nil ?_)));refine .cond rfl (fun hb41=>?_) fun hb41=>?_
 ·have hc41:=hb41; simp only [Y6] at hc41;refine .skip (.seq (.block (.seq ?_)));obtain ⟨x,hx0⟩:∃ x,u.attrs[i]?=some x:=⟨_,Y4 (by omega)⟩
  obtain ⟨q,hq9,hx⟩:=X9f (cells:=X1i) (s:=2) (fun _=>rfl) hR hx0;subst hq9;unfold X1i at hx;have hfx:=hA x (Yl hx0);have hf1:=hfx.1;have hf2:=hfx.2;unfold maxLen at hf1 hf2;refine .region (.val (.fo 2 rfl X2t rfl rfl X4u rfl) rfl (.val (.lo rfl hS (k:=0) rfl X6x rfl) rfl (.q 1 rfl (.val (.ii rfl rfl (by omega) (by omega) X2e X2i) rfl (.val (.ldsI (.of rfl) hS hx Xkd X2i rfl (fun _ _ h=>h)) rfl (.allocA (cs:=[_,_]) hS Xbr rfl ?_))))));intro b4 w hS;refine .so hS (k:=0) rfl rfl rfl rfl X2i rfl (by simp) ?_;intro w hS;try simp only [Yk,Ye,Y9,Y7,Yh,Ym,Yc] at hS
  refine .nil (.seq (.region ?_));refine .val (.fo 0 rfl X3j rfl rfl Qs9 rfl) rfl (.val (.lo rfl hS (k:=0) rfl Qg9 rfl) rfl (.call Tryz.func172 rfl (ec9 rfl X0) rfl (Xi2 x.1 (by omega) B _ I _ hS) ?_));rintro _ w ⟨rfl,hS⟩;refine .q 2 rfl (.gval rfl rfl (fun hg1=>(by exact .fo 1 rfl X3j rfl rfl Qs9 rfl)) rfl ?_);refine .gval rfl rfl (fun hg1=>(by exact (.ld (.gd hg1 rfl) hS (k:=0) rfl Qg9 rfl))) rfl ?_;refine .gval rfl rfl (fun hg1=>(.len (.gd hg1 rfl) Qu9)) rfl (.gval rfl rfl (fun hg1=>(.gtr (.gd hg1 rfl) (.of rfl))) rfl (.val (.po rfl rfl rfl) rfl (.q 1 rfl ?_)));refine .gval rfl rfl (fun hg1=>(by exact .fo 1 rfl X3j rfl rfl Qs9 rfl)) rfl ?_;refine .gval rfl rfl (fun hg1=>(by exact (.ld (.gd hg1 rfl) hS (k:=0) rfl Qg9 rfl))) rfl ?_;refine .gcall (T:=fun w=>Sat B w I _) rfl rfl rfl Tryz.func171 rfl (fun hg1=>(Xd (.gd hg1 rfl) (ec9 rfl X0))) rfl (fun hg1=>X93 x.2 32 (by omega) B _ I _ hS) hS ?_;rintro w hS;refine .gval rfl rfl (fun hg1=>(.not (.gd hg1 rfl))) rfl (.val (.po rfl rfl rfl) rfl (.nil ?_));refine .cond rfl (fun hb64=>?_) fun hb64=>?_
  ·refine .seq (.q 1 rfl (.ret (Xc Xuz rfl ?_)));refine ⟨_,rfl,congrArg Value.bool ?_,hS.y 0 2⟩
   have:u.attrs.any Xqf=true:=Y35.2 ⟨x,Yl hx0,by rw [Xno]; exact hb64⟩
   rw [Xe3,this]; simp
  have hc64:=hb64; simp only [Y6] at hc64;refine .skip (.region (.run 3 rfl ⟨⟨by omega,by omega⟩,trivial⟩ (.nil ?_)));refine ⟨i+1,⟨rfl,rfl,trivial⟩,⟨by (try dsimp only); omega,fun j y hj hy=>?_,hS.y 0 1⟩,by (try dsimp only); omega⟩;rcases Yp j i with h1 | h1
  ·exact hno j y h1 hy
  ·have e:j=i:=by omega
   subst e;rw [hx0] at hy; cases hy;rw [Xno]; exact hb64
 have hc41:=hb41; simp only [Y6] at hc41;refine .exit (.seq (.q 1 rfl (.ret (Xc Xuz rfl ?_))));refine ⟨_,rfl,congrArg Value.bool ?_,hS.y 0 1⟩
 have:u.attrs.any Xqf=false:=by
  rw [Y4j];intro y hy;obtain ⟨j,hj⟩:=Yy.1 hy
  have:=(Y5.1 hj).1
  rw [hno j y (by omega) hj]; decide
 obtain ⟨h1,h2⟩:=Y10.1 hb36;rw [Xe3,this,h1,show X47 u.name 33=true by simpa using h2]; rfl
theorem Xds (a:Option Addr) (cap:Nat) (l:List Us) (hln:l.length<=9223372036854775807) (hfit:∀ u∈l,u.fits) (B w:World) (I:Im) (hU:UsrsAt I a l) (As:List X7) (hS:Sat B w I As) :
  Cz 79 [.slice a l.length cap] w fun v w'=>v=.tuple #[I64 ((X59 l 0 []).1:Nat),I64 ((X59 l 0 []).2:Nat)]/\Sat B w' I As:=by
 refine calls Tryz.func79 rfl Tryz.ntmps79 rfl (.seq (.q 2 rfl (.seq (.seq (.q 1 rfl (.block (.loop (σ:=Nat) (fun i=>[(0,.slice a l.length cap),(4,I64 (i:Nat))]) (fun i w=>i<=l.length/\i<=16/\X59 (l.drop i) i (l.take i)=X59 l 0 []/\Sat B w I As) (fun i=>l.length - i) 0 ⟨rfl,rfl,trivial⟩ ⟨Yo _,Yo _,rfl,hS⟩ ?_)))))));rintro i w ⟨hi,hi6,hq,hS⟩;refine .seq (.seq (.region (.run 4 rfl ⟨⟨_,Xgs⟩,trivial⟩ (.nil ?_))));refine .cond rfl (fun hb10=>?_) fun hb10=>?_
 ·have hc10:=hb10; simp only [Y6] at hc10;refine .skip (.seq (.block (.seq (.seq ?_))));obtain ⟨u,hu⟩:∃ u,l[i]?=some u:=⟨_,Y4 (by omega)⟩
  obtain ⟨p,ra,rc,hap,hx,hrc,hRR⟩:=hU i u hu;have hfu:=hfit u (Yl hu);subst hap;unfold X3t at hx;have hstep:X59 (l.drop i) i (l.take i)=if 16<=i then (5,i) else if X7u u=false then (1,i) else if (l.take i).any (fun t=>t.name == u.name) then (7,i) else X59 (l.drop (i+1)) (i+1) (l.take (i+1)):=by
   rw [Y13 (by omega),(Y5.1 hu).2,X59];simp only [Yz,hu,Y1e]
  rw [hq] at hstep;refine .q 2 rfl (.cond rfl (fun hb14=>?_) fun hb14=>?_)
  ·refine .seq (.q 3 rfl (.ret (X1t Qr79 rfl rfl ?_)));have hE:X59 l 0 []=(5,i):=by rw [hstep]; exact if_pos (by have h:=hb14; simp at h; omega)
   rw [hE];exact ⟨_,rfl,rfl,hS⟩
  have hc14:=hb14; simp only [Y6] at hc14;refine .skip (.seq ?_);have hi16:i≠16:=by
   have h:=hb14;simp at h
   omega
  refine .t 2 rfl (.val (.ii rfl rfl (by omega) (by omega) Xgs X62) rfl (.val (.ldsI (.of rfl) hS hx Xqz X62 rfl (fun _ _ h=>h)) rfl (.call Tryz.func122 rfl (ec9 rfl X0) rfl (Xdr u ra rc hfu.name hfu.pw hfu.attrs.1 hfu.attrs.2 B _ I hRR _ hS) ?_)));rintro _ w ⟨rfl,hS⟩;refine .q 1 rfl (.nil (.seq (.seq (.q 2 rfl ?_))));refine .cond rfl (fun hb22=>?_) fun hb22=>?_
  ·refine .seq (.q 3 rfl (.ret (X1t Qr79 rfl rfl ?_)));have hE:X59 l 0 []=(1,i):=by rw [hstep]; rw [if_neg (by omega)]; exact if_pos (by simpa using hb22)
   rw [hE];exact ⟨_,rfl,rfl,hS⟩
  have hc22:=hb22; simp only [Y6] at hc22;refine .skip (.seq (.q 1 rfl (.block (.loop (σ:=Nat) (fun k=>[(0,.slice (some p) l.length cap),(4,I64 (i:Nat)),(6,I64 (k:Nat))]) (fun k w=>k<=i/\(∀ (q:Nat) (t:Us),q<k->l[q]?=some t->t.name≠u.name)/\Sat B w I As) (fun k=>i - k) 0 ⟨rfl,rfl,rfl,trivial⟩ ⟨Yo _,fun _ _ h=>absurd h (by omega),hS⟩ ?_))));rintro k w ⟨hk,hids,hS⟩;refine .seq (.seq (.q 3 rfl ?_));refine .cond rfl (fun hb26=>?_) fun hb26=>?_
  ·have hc26:=hb26; simp only [Y6] at hc26;refine .skip (.seq (.block (.seq ?_)));obtain ⟨z,hzk⟩:∃ z,l[k]?=some z:=⟨_,Y4 (by omega)⟩
   obtain ⟨p2,ra2,rc2,e2,hz,_,_⟩:=hU k z hzk;cases e2
   unfold X3t at hz;refine .qt hS (.val (fun w hS=>(.mo rfl)) rfl (.val (fun w hS=>(.mo rfl)) rfl ?_));refine .val (fun w hS=>(by exact .ii rfl rfl (by omega) (by omega) Xgs X62)) rfl ?_;refine .val (fun w hS=>(by exact .fi 0 rfl X2t rfl rfl Qs9 rfl)) rfl ?_;refine .val (fun w hS=>(by exact (.ldI (.of rfl) hS (At.add hz _) Qg9 rfl))) rfl ?_;refine .val (fun w hS=>(.mo rfl)) rfl (.val (fun w hS=>(.mo rfl)) rfl ?_);refine .val (fun w hS=>(by exact .ii rfl rfl (by omega) (by omega) Xgs X62)) rfl ?_;refine .val (fun w hS=>(by exact .fi 0 rfl X2t rfl rfl Qs9 rfl)) rfl ?_;refine .val (fun w hS=>(by exact (.ldI (.of rfl) hS (At.add hx _) Qg9 rfl))) rfl ?_;refine .val (fun w hS=>(.eqs (.of rfl) (.of rfl))) rfl (.nil ?_);intro w hS;refine .cond rfl (fun hb39=>?_) fun hb39=>?_
   ·have hc39:=hb39; simp only [Y6] at hc39;refine .seq (.q 3 rfl (.ret (X1t Qr79 rfl rfl ?_)));have hE:X59 l 0 []=(7,i):=by rw [hstep]; rw [if_neg (by omega)]; rw [if_neg (show ¬ X7u u=false by simpa using hb22)]; exact if_pos (Y35.2 ⟨z,Yl (i:=k) (by rw [Y1r,if_pos (by omega)]; exact hzk),by simpa using hb39⟩)
    rw [hE];exact ⟨_,rfl,rfl,hS⟩
   have hc39:=hb39; simp only [Y6] at hc39;refine .skip (.region (.run 3 rfl ⟨⟨by omega,by omega⟩,trivial⟩ (.nil ?_)));refine ⟨k+1,⟨rfl,rfl,rfl,trivial⟩,⟨by omega,fun q t hq2 hu2=>?_,hS⟩,by omega⟩;rcases Yp q k with h1 | h1
   ·exact hids q t h1 hu2
   ·have e:q=k:=by omega
    subst e;rw [hzk] at hu2; cases hu2;simpa using hb39
  have hc26:=hb26; simp only [Y6] at hc26;refine .exit (.region (.run 3 rfl ⟨⟨by omega,by omega⟩,trivial⟩ (.nil ?_)));refine ⟨i+1,⟨rfl,rfl,trivial⟩,⟨by (try dsimp only); omega,by (try dsimp only); omega,?_,hS⟩,by (try dsimp only); omega⟩;show X59 (l.drop (i+1)) (i+1) (l.take (i+1))=_
  rw [hstep,if_neg (by omega),if_neg (show ¬ X7u u=false by simpa using hb22),if_neg];rw [Y2q,Y4j];intro t ht;obtain ⟨q,hq2⟩:=Yy.1 ht;rw [Y1r] at hq2;split at hq2
  ·rename_i hqi
   have:=hids q t (by omega) hq2
   simpa using this
  ·cases hq2
 have hc10:=hb10; simp only [Y6] at hc10;refine .exit (.seq (.q 2 rfl (.ret (X1t Qr79 rfl rfl ?_))));have e:i=l.length:=by omega
 subst e;have hE:X59 l 0 []=(0,0):=by rw [<- hq,Y2x]; rfl
 rw [hE];exact ⟨_,rfl,rfl,hS⟩
theorem Xvx:Bld Tryz.prog 95 [(0,1),(1,1)] [.int .i64 0,.slice none 0 0]:=X23 Xe6 Tryz.zeroValue95 (fun w=>by simp [go_sem])
theorem Xvy:Bld Tryz.prog 99 [(0,28),(28,1),(29,1),(30,1)] [.slice none 0 0,.slice none 0 0,.int .i64 0,.int .i64 0,.int .i64 0,.int .i64 0,.int .i64 0,.int .i64 0,.int .i64 0,.int .i64 0,.int .i64 0,.int .i64 0,.int .i64 0,.int .i64 0,.int .i64 0,.int .i64 0,.int .i64 0,.int .i64 0,.int .i64 0,.int .i64 0,.int .i64 0,.int .i64 0,.int .i64 0,.int .i64 0,.float .f64 0,.float .f64 0,.float .f64 0,.int .i64 0,.pointer none,.slice none 0 0,.int .i64 0]:=X23 Xn5 Tryz.zeroValue99 (fun w=>by simp [go_sem])
structure Xp where
 xb:Nat
 tb:Nat
 c:Cf
 a:Option Addr
 cap:Nat
 ua:Option Addr
 ucap:Nat
 D:List Int
abbrev XC (x:Xp) (da:Option Addr) (n dc:Nat) (now:Int):List Value:=[.slice x.a x.c.svs.length x.cap,.slice x.ua x.c.us.length x.ucap,I64 (x.c.ps 0),I64 (x.c.ps 1),I64 (x.c.ps 2),I64 (x.c.ps 3),I64 (x.c.ps 4),I64 (x.c.ps 5),I64 (x.c.ps 6),I64 (x.c.ps 7),I64 (x.c.ps 8),I64 (x.c.ps 9),I64 (x.c.ps 10),I64 (x.c.ps 11),I64 (x.c.ps 12),I64 (x.c.ps 13),I64 (x.c.ps 14),I64 (x.c.ps 15),I64 (x.c.ps 16),I64 (x.c.ps 17),I64 (x.c.ps 18),I64 (x.c.ps 19),I64 (x.c.ps 20),I64 x.c.room,F64 x.c.base,F64 x.c.factor,F64 x.c.most,I64 x.c.tries,ptr x.tb 0,.slice da n dc,I64 now]
structure XpOk (I:Im) (x:Xp) (lo:List Sv) (us:List Us) (ps:Nat->Int):Prop where
 cf:CfAt I x.c x.a x.cap x.ua x.ucap
 fits:x.c.fits
 ok:X8g x.c=0
 D:Srt.Ord (kx (ords x.c.svs)) x.c.svs.length x.D
 lo:lo=X4w x.c.svs x.D
 us:us=x.c.us
 ps:ps=x.c.ps
theorem XpOk.mono {I J:Im} {x:Xp} {lo:List Sv} {us:List Us} {ps:Nat->Int} (h:XpOk I x lo us ps) (hl:Le I J):XpOk J x lo us ps:=⟨h.cf.mono hl,h.fits,h.ok,h.D,h.lo,h.us,h.ps⟩
def RwM (J:Im) (la da:Option Addr) (dc:Nat) (Z:Wd):Prop:=RS J la 10 Z.l.length (X9 X5 Z.l)/\RS J da 1 Z.D.length (Z.D.map fun d=>U64 (d:Nat))/\Z.D.length<=dc
theorem RwM.mono {I J:Im} {la da:Option Addr} {dc:Nat} {Z:Wd} (h:RwM I la da dc Z) (hl:Le I J):RwM J la da dc Z:=⟨h.1.mono hl,h.2.1.mono hl,h.2.2⟩
abbrev xlo (x:Xp):List Sv:=X4w x.c.svs x.D
theorem Xt6 {c:Cf} (h:X8g c=0):(X4a c.svs).1=0:=by
 unfold X8g at h;split at h
 ·exact h
 ·rename_i h1; exact Decidable.not_not.1 h1
theorem Xtr {I:Im} {a:Option Addr} {l:List Sv} (h:SvsAt I a l):∃ L,SvsIn I a L l:=by
 have key:∀ i:Nat,∃ c,∀ s,l[i]?=some s->∃ p,a=some p/\At I (p.add (i*8)) c/\SvAt I s c:=fun i=>by
  cases e:l[i]? with
  | none=>exact ⟨[],fun s h=>by cases h⟩
  | some s =>
   obtain ⟨p,ra,rc,h1,h2,h3,h4⟩:=h i s e;exact ⟨X1o s ra rc,fun t ht=>by cases ht; exact ⟨p,h1,h2,ra,rc,rfl,h3,h4⟩⟩
 refine ⟨(List.range l.length).map fun i=>Classical.choose (key i),by simp,fun i s hs=>?_⟩;have hi:=(Y5.1 hs).1;obtain ⟨p,h1,h2,h3⟩:=Classical.choose_spec (key i) s hs;refine ⟨p,_,h1,?_,h2,h3⟩;rw [Yu,Y50 hi]; rfl
theorem X91 (s:List UInt8) (hs:s.length<=1000000) (x:Xp) {lo:List Sv} {us:List Us} {ps:Nat->Int} (B w:World) (I:Im) (hX:XpOk I x lo us ps) (As:List X7) (hS:Sat B w I As) :
  Cz 48 [.slice x.a x.c.svs.length x.cap,S s] w fun v w'=>∃ ra rc,v=.tuple #[.agg (X1o (X20 lo s).1 ra rc).toArray,S (X20 lo s).2.1,I64 (((X20 lo s).2.2:Nat):Int)]/\Sat B w' I As:=by
 obtain rfl:=hX.lo;obtain ⟨L,hL⟩:=Xtr hX.cf.svs;refine (Xhv x.a x.cap L x.c.svs hX.fits.svs hX.fits.ords (Xtm (Xt6 hX.ok)) s hs B w I hL As hS).mono fun e w' ⟨v,he,J,u,cs,n,e2,hJ,hv,⟨ra,rc,hcs,_,_⟩,hf,hS⟩=>⟨v,he,ra,rc,?_,hS.weaken hJ⟩
 have h:=hf x.D hX.D;rw [Xwb] at h;rw [hv,h,hcs]
theorem Xi0 (n:Int) (x:Xp) {lo:List Sv} {us:List Us} {ps:Nat->Int} (Z:Wd) (hZ:Xc2 Z) (la:Option Addr) (lc:Nat) (da:Option Addr) (dc:Nat) (B w:World) (I:Im) (hX:XpOk I x lo us ps) (hM:RwM I la da dc Z) (As:List X7) (hS:Sat B w I (blk x.xb (XC x da Z.D.length dc Z.now) 99::blk x.tb [I64 Z.room,.slice la Z.l.length lc] 95::As)) :
  Cz 38 [ptr x.xb 0,I64 n] w fun v w'=>v=.tuple #[]/\Sat B w' I (blk x.xb (XC x da (Xun Z n).D.length dc (Xun Z n).now) 99::blk x.tb [I64 (Xun Z n).room,.slice la (Xun Z n).l.length lc] 95::As):=by
 obtain rfl:=hX.lo;obtain rfl:=hX.us;obtain rfl:=hX.ps;refine calls Tryz.func38 rfl Tryz.ntmps38 rfl ?_;have hnow:=hZ.now;refine .t 3 rfl (.val (.fo 30 rfl Xn5 rfl rfl Qs3 rfl) rfl (.val (.lo rfl hS (k:=0) rfl Qg3 rfl) rfl (.q 1 rfl (.val (.min2 (.of rfl) (.of rfl)) rfl (.val (.max2 (.of rfl) (.of rfl)) rfl (.run 1 rfl ⟨⟨by omega,by omega⟩,trivial⟩ (.val (.min2 (.of rfl) (.of rfl)) rfl (.q 1 rfl ?_))))))));refine .val (.fo 30 rfl Xn5 rfl rfl Qs3 rfl) rfl (.s1 hS (k:=0) rfl rfl rfl rfl Qs3 (by simp) ?_);intro w hS;refine .nil (X9d Tryz.results38 ?_);rw [show min (1099511627776:Int) (Z.now+max 0 (min n 1099511627776))=min (Z.now+max 0 (min n 1099511627776)) 1099511627776 from Int.min_comm _ _] at hS;exact ⟨_,rfl,rfl,hS⟩
theorem Xhz (n:Int) (B w:World) (I:Im) (As:List X7) (hS:Sat B w I As) :
  Cz 81 [I64 n] w fun v w'=>∃ tb,v=ptr tb 0/\Sat B w' I (blk tb [I64 (Xpk n),.slice none 0 0] 95::As):=by
 refine calls Tryz.func81 rfl Tryz.ntmps81 rfl (.seq (.q 1 rfl (.seq (.t 1 rfl (.val (.min2 (.of rfl) (.of rfl)) rfl (.val (.max2 (.of rfl) (.of rfl)) rfl (.val (.build (cs:=[_,_]) (pc9 rfl X4) Xvx rfl) rfl (.boxA (cs:=[_,_]) hS (.of rfl) rfl ?_))))))));intro b7 w hS;refine .q 1 rfl (.nil (.ret (Xc Tryz.results81 rfl ?_)));exact ⟨_,rfl,b7,rfl,hS⟩
theorem cf_pol {c:Cf} {a ua:Option Addr} {cap ucap:Nat} {j:Nat} {v:Value} (h:((psL c.ps).map I64)[j]?=some v):(X1v c a cap ua ucap)[0+2+j]?=some v:=by
 have h1:=(Y5.1 h).1;rw [show X1v c a cap ua ucap=[.slice a c.svs.length cap,.slice ua c.us.length ucap] ++ ((psL c.ps).map I64 ++ [I64 c.room,F64 c.base,F64 c.factor,F64 c.most,I64 c.tries]) from rfl,Yt (by simp),List.length_cons,List.length_cons,List.length_nil,show 0+2+j - (0+1+1)=j by omega,Yi h1];exact h
set_option maxRecDepth 20000 in
theorem Xao (c:Cf) (hc:c.fits) (a:Option Addr) (cap:Nat) (ua:Option Addr) (ucap:Nat) (B w:World) (I:Im) (hC:CfAt I c a cap ua ucap) (As:List X7) (hS:Sat B w I As) :
  Cz 33 [.agg (X1v c a cap ua ucap).toArray] w fun v w'=>(X8g c≠0/\v=.tuple #[.pointer none,I64 (X8g c:Nat)]/\Sat B w' I As)\/(X8g c=0/\∃ xb tb,v=.tuple #[ptr xb 0,I64 0]/\Sat B w' I (blk xb [.slice a c.svs.length cap,.slice ua c.us.length ucap,I64 (c.ps 0),I64 (c.ps 1),I64 (c.ps 2),I64 (c.ps 3),I64 (c.ps 4),I64 (c.ps 5),I64 (c.ps 6),I64 (c.ps 7),I64 (c.ps 8),I64 (c.ps 9),I64 (c.ps 10),I64 (c.ps 11),I64 (c.ps 12),I64 (c.ps 13),I64 (c.ps 14),I64 (c.ps 15),I64 (c.ps 16),I64 (c.ps 17),I64 (c.ps 18),I64 (c.ps 19),I64 (c.ps 20),I64 c.room,F64 c.base,F64 c.factor,F64 c.most,I64 c.tries,ptr tb 0,.slice none 0 0,I64 0] 99::blk tb [I64 (Xpk c.room),.slice none 0 0] 95::As)):=by
 refine calls Tryz.func33 rfl Tryz.ntmps33 rfl (.seq (.region (.boxA (cs:=[.slice a c.svs.length cap,.slice ua c.us.length ucap,I64 (c.ps 0),I64 (c.ps 1),I64 (c.ps 2),I64 (c.ps 3),I64 (c.ps 4),I64 (c.ps 5),I64 (c.ps 6),I64 (c.ps 7),I64 (c.ps 8),I64 (c.ps 9),I64 (c.ps 10),I64 (c.ps 11),I64 (c.ps 12),I64 (c.ps 13),I64 (c.ps 14),I64 (c.ps 15),I64 (c.ps 16),I64 (c.ps 17),I64 (c.ps 18),I64 (c.ps 19),I64 (c.ps 20),I64 c.room,F64 c.base,F64 c.factor,F64 c.most,I64 c.tries]) hS (.of rfl) rfl ?_)));intro b1 w hS;refine .q 2 rfl (.nil (.seq (.region ?_)));refine .val (.fo 0 rfl Xe5 rfl rfl Qs22 rfl) rfl (.val (.lo rfl hS (k:=0) rfl Qg22 rfl) rfl (.call Tryz.func78 rfl (ec9 rfl X0) rfl (Xnb a cap c.svs hc.svs (fun s hs=>⟨(hc.sfit s hs).1,(hc.sfit s hs).2.1⟩) B _ I hC.svs _ hS) ?_));rintro _ w ⟨rfl,hS⟩;refine .q 5 rfl (.nil (.seq (.seq (.q 2 rfl ?_))));refine .cond rfl (fun hb16=>?_) fun hb16=>?_
 ·refine .seq (.q 3 rfl (.ret (X1t Qr33 rfl rfl ?_)));have hE:X8g c=(X4a c.svs).1:=by rw [X8g,if_pos (by simpa using hb16)]
  exact ⟨_,rfl,.inl ⟨by rw [hE]; simpa using hb16,by rw [hE]; rfl,(hS.drop (k:=0) rfl)⟩⟩
 refine .skip (.seq (.region ?_));refine .val (.fo 1 rfl Xe5 rfl rfl Tryz.sizeOf23 rfl) rfl (.val (.lo rfl hS (k:=0) rfl Tryz.isAgg23 rfl) rfl (.call Tryz.func79 rfl (ec9 rfl X0) rfl (Xds ua ucap c.us hC.un hC.ufit B _ I hC.us _ hS) ?_));rintro _ w ⟨rfl,hS⟩;refine .q 5 rfl (.nil (.seq (.seq (.q 2 rfl ?_))));refine .cond rfl (fun hb25=>?_) fun hb25=>?_
 ·refine .seq (.q 3 rfl (.ret (X1t Qr33 rfl rfl ?_)));have hE:X8g c=(X59 c.us 0 []).1:=by rw [X8g,if_neg (by simpa using hb16),if_pos (by simpa using hb25)]
  exact ⟨_,rfl,.inl ⟨by rw [hE]; simpa using hb25,by rw [hE]; rfl,(hS.drop (k:=0) rfl)⟩⟩
 refine .skip (.seq (.region ?_));refine .val (.fo 2 rfl Xe5 rfl rfl Qs26 rfl) rfl (.val (.lds (vs:=(psL c.ps).map I64) (.of rfl) hS (k:=0) rfl Tryz.isAgg26 Qs26 rfl (fun j v hj=>cf_pol hj)) rfl (.call Tryz.func80 rfl (ec9 rfl X0) rfl (Xdo c.ps B _ I _ hS) ?_));rintro _ w ⟨rfl,hS⟩;refine .q 1 rfl (.nil (.seq (.seq (.q 2 rfl ?_))));refine .cond rfl (fun hb31=>?_) fun hb31=>?_
 ·refine .seq (.q 2 rfl (.ret (X1t Qr33 rfl rfl ?_)));have hE:X8g c=1:=by rw [X8g,if_neg (by simpa using hb16),if_neg (by simpa using hb25),if_pos (by simpa using hb31)]
  exact ⟨_,rfl,.inl ⟨by rw [hE]; decide,by rw [hE]; rfl,(hS.y 0 1)⟩⟩
 refine .skip (.seq (.dw (fun w=>∃ R,Sat B w I (blk b1 [.slice a c.svs.length cap,.slice ua c.us.length ucap,I64 (c.ps 0),I64 (c.ps 1),I64 (c.ps 2),I64 (c.ps 3),I64 (c.ps 4),I64 (c.ps 5),I64 (c.ps 6),I64 (c.ps 7),I64 (c.ps 8),I64 (c.ps 9),I64 (c.ps 10),I64 (c.ps 11),I64 (c.ps 12),I64 (c.ps 13),I64 (c.ps 14),I64 (c.ps 15),I64 (c.ps 16),I64 (c.ps 17),I64 (c.ps 18),I64 (c.ps 19),I64 (c.ps 20),I64 c.room,F64 c.base,F64 c.factor,F64 c.most,I64 c.tries] 29::R)) (fun j=>!([].contains j)) ?_));replace hS:=hS.drew; generalize w.drew=w at hS ⊢;have hH:=(hS.x [0])
 refine .tk 0 rfl ⟨_,hH⟩ (fun w ⟨R,hS⟩=>((.ldsW (cs:=[_,_,_,_,_,_,_,_,_,_,_,_,_,_,_,_,_,_,_,_,_,_,_,_,_,_,_,_]) (.of rfl) hS (k:=0) rfl Qg29 Xu2 rfl))) (.tp 1 rfl (fun w=>(.fo 23 rfl Xe5 rfl rfl Qs3 rfl)) (.tk 2 rfl ⟨_,hH⟩ (fun w ⟨R,hS⟩=>(.lo rfl hS (k:=0) rfl Qg3 rfl)) (.b1 3 rfl (.call Tryz.func81 rfl (ec9 rfl X0) rfl (Xhz c.room B _ I _ hS) ?_))));rintro _ w ⟨tb,rfl,hS⟩;refine .nil ?_;clear hH;have hH:=(hS.x [1])
 refine ⟨fun _ _=>⟨_,hH⟩,?_⟩;refine .tp 4 rfl (fun w=>(.build (cs:=[_,_,_,_,_,_,_,_,_,_,_,_,_,_,_,_,_,_,_,_,_,_,_,_,_,_,_,_,_,_,_]) (pc9 rfl (pc9 rfl X4)) Xvy rfl)) (.b1 5 rfl (.boxA (cs:=[_,_,_,_,_,_,_,_,_,_,_,_,_,_,_,_,_,_,_,_,_,_,_,_,_,_,_,_,_,_,_]) hS (.of rfl) rfl ?_));intro b37 w hS;refine .nil ?_;clear hH;have hH:=(hS.x [2])
 refine ⟨fun _ _=>⟨_,hH⟩,?_⟩;refine .tp 6 rfl (fun w=>(.ao rfl)) (.tp 7 rfl (fun w=>(.ao rfl)) (.dn (.ret (X1t Qr33 rfl rfl ?_))));have hE:X8g c=0:=by rw [X8g,if_neg (by simpa using hb16),if_neg (by simpa using hb25),if_neg (by simpa using hb31)]
 exact ⟨_,rfl,.inr ⟨hE,b37,tb,rfl,(hS.z [1,1] 2 1)⟩⟩
theorem Xfu (ra:Option Addr) (rc:Nat) (rl:List Rec) (hrll:rl.length<=9223372036854775807) (hsr:∀ r∈rl,r.name.length<=60/\r.parent.length<=60) (x:Xp) {lo:List Sv} {us:List Us} {ps:Nat->Int} (Z:Wd) (hZ:Xc2 Z) (la:Option Addr) (lc:Nat) (da:Option Addr) (dc:Nat) (B w:World) (I:Im) (hX:XpOk I x lo us ps) (hRr:RS I ra 10 rl.length (X9 X5 rl)) (hM:RwM I la da dc Z) (As:List X7) (hS:Sat B w I (blk x.xb (XC x da Z.D.length dc Z.now) 99::blk x.tb [I64 Z.room,.slice la Z.l.length lc] 95::As)) :
  Cz 36 [ptr x.xb 0,.slice ra rl.length rc] w fun v w'=>v=.tuple #[]/\∃ J la2 lc2 da2 dc2,Le I J/\RwM J la2 da2 dc2 (rl.foldl X4b Z)/\Sat B w' J (blk x.xb (XC x da2 (rl.foldl X4b Z).D.length dc2 (rl.foldl X4b Z).now) 99::blk x.tb [I64 (rl.foldl X4b Z).room,.slice la2 (rl.foldl X4b Z).l.length lc2] 95::As):=by
 refine calls Tryz.func36 rfl Tryz.ntmps36 rfl (.seq (.q 1 rfl (.block (.loop (σ:=Nat×Option Addr×Nat×Im) (fun ⟨i,la2,lc2,J2⟩=>[(0,ptr x.xb 0),(1,.slice ra rl.length rc),(4,I64 (i:Nat))]) (fun ⟨i,la2,lc2,J2⟩ w=>i<=rl.length/\Le I J2/\RwM J2 la2 da dc ((rl.take i).foldl X4b Z)/\Sat B w J2 (blk x.xb (XC x da ((rl.take i).foldl X4b Z).D.length dc ((rl.take i).foldl X4b Z).now) 99::blk x.tb [I64 ((rl.take i).foldl X4b Z).room,.slice la2 ((rl.take i).foldl X4b Z).l.length lc2] 95::As)) (fun ⟨i,la2,lc2,J2⟩=>rl.length - i) (0,la,lc,I) ⟨rfl,rfl,rfl,trivial⟩ ⟨Yo _,Le.refl _,hM,hS⟩ ?_))));rintro ⟨i,la2,lc2,J2⟩ w ⟨hi,hJ2,hM2,hS⟩;refine .seq (.seq (.region (.run 4 rfl ⟨⟨_,X2y⟩,trivial⟩ (.nil ?_))));refine .cond rfl (fun hb8=>?_) fun hb8=>?_
 ·have hc8:=hb8; simp only [Y6] at hc8;refine .skip (.seq (.block ?_));obtain ⟨r,hr⟩:∃ r,rl[i]?=some r:=⟨_,Y4 (by omega)⟩
  obtain ⟨q,hq9,hx⟩:=X9f (cells:=X5) (s:=10) (fun _=>rfl) (hRr.mono hJ2) hr;subst hq9;unfold X5 at hx;have hZi:=X5q (rl.take i) hZ;have hlen:=hZi.len;have hsx:=hsr r (Yl hr);refine .dw (fun w=>∃ J9 R,Le J2 J9/\Sat B w J9 (blk x.xb (XC x da ((rl.take i).foldl X4b Z).D.length dc ((rl.take i).foldl X4b Z).now) 99::R)) (fun j=>!([].contains j)) ?_;replace hS:=hS.drew; generalize w.drew=w at hS ⊢;have hH:∃ J9 R,Le J2 J9/\Sat B w J9 (blk x.xb (XC x da ((rl.take i).foldl X4b Z).D.length dc ((rl.take i).foldl X4b Z).now) 99::R):=⟨_,_,Le.refl _,(hS.x [0])⟩
  refine .tp 0 rfl (fun w=>(.mo rfl)) (.tp 1 rfl (fun w=>(.no rfl)) ?_);refine .tp 2 rfl (fun w=>(.fo 28 rfl Xn5 rfl rfl Qs96 rfl)) (.tk 3 rfl hH (fun w ⟨J9,R,hL9,hS⟩=>((.lo rfl hS (k:=0) rfl Qg96 rfl))) (.tp 4 rfl (fun w=>(.mo rfl)) (.tp 5 rfl (fun w=>(.mo rfl)) ?_)));refine .tp 6 rfl (fun w=>(.ii rfl rfl (by omega) (by omega) X2y X29)) (.tk 7 rfl hH (fun w ⟨J9,R,hL9,hS⟩=>((.ldsI (.of rfl) hS (hx.mono hL9) Xbn X29 rfl (fun _ _ h=>h)))) (.b1 8 rfl (.call Tryz.func84 rfl (ec9 rfl (ec9 rfl X0)) rfl (Xln x.tb ((rl.take i).foldl X4b Z).room la2 lc2 ((rl.take i).foldl X4b Z).l (by omega) r (by omega) (by omega) B _ J2 hM2.1 _ (hS.x [1])) ?_)));rintro _ w ⟨rfl,J3,la3,lc3,hJ3,hR3,hS⟩;try dsimp only [List.eraseIdx] at hS
  refine .nil ?_;clear hH;have hH:∃ J9 R,Le J2 J9/\Sat B w J9 (blk x.xb (XC x da ((rl.take i).foldl X4b Z).D.length dc ((rl.take i).foldl X4b Z).now) 99::R):=⟨_,_,hJ3,(hS.x [1])⟩
  refine ⟨fun _ _=>hH,?_⟩;refine .dn (.region (.run 3 rfl ⟨⟨by omega,by omega⟩,trivial⟩ (.nil ?_)));refine ⟨(i+1,la3,lc3,J3),⟨rfl,rfl,rfl,trivial⟩,?_,by (try dsimp only); omega⟩;try dsimp only
  rw [Yz,hr,Y1e,Y2r];exact ⟨by omega,hJ2.trans hJ3,⟨hR3,hM2.2.1.mono hJ3,hM2.2.2⟩,(hS.x [1])⟩
 have hc8:=hb8; simp only [Y6] at hc8;refine .exit (X9d Tryz.results36 ?_);have hin:i=rl.length:=by omega
 subst hin;rw [Y15] at hM2 hS;exact ⟨_,rfl,rfl,J2,la2,lc2,da,dc,hJ2,hM2,hS⟩
end Go.Proofs.YtbciobiiejpdgaaGreatDoor
namespace Go.Proofs.YtbciobiiejpdgaaGreatDoor
open Gk Ul Pc Pat Xm Tr Tk
set_option maxRecDepth 4000
theorem Xg9 {l:List Rec} (hw:Wf l) (name:List UInt8):(getD l name).service.length<=100:=by
 rcases Xag hw name with ⟨_,e⟩ | ⟨_,h2,_⟩
 ·rw [e]; decide
 ·unfold Xw at h2;simp only [Yn,decide_eq_true_eq] at h2
  omega
def X8i (lo:List Sv) (Z:Wd) (n:List UInt8):Bool:=(((getD Z.l n).kind == 2 || (getD Z.l n).kind == 3) && decide (0<(getD Z.l n).uses)) && ((X20 lo (getD Z.l n).service).2.2 == 0 && (X20 lo (getD Z.l n).service).1.back)
def Xuf (Z:Wd) (n:List UInt8):Nt:=⟨n,(getD Z.l n).service,0,Z.now⟩
def X31 (lo:List Sv) (Z:Wd) (ns:List (List UInt8)):List Nt:=(ns.filter (X8i lo Z)).map (Xuf Z)
def X3m (lo:List Sv) (Z:Wd) (tgt:List UInt8):List Nt:=X31 lo Z (below Z.l tgt)
theorem Xak {lo:List Sv} {Z:Wd} {ns:List (List UInt8)} {k:Nat} {x:List UInt8} (h:ns[k]?=some x):X31 lo Z (ns.take (k+1))=X31 lo Z (ns.take k) ++ (if X8i lo Z x=true then [Xuf Z x] else []):=by
 unfold X31;rw [Yz,h,Y1e,Y39,Yw,Y49];split <;> simp
theorem Xaj (lo:List Sv) (Z:Wd) (ns:List (List UInt8)):(X31 lo Z ns).length<=ns.length:=by unfold X31; rw [Y14]; exact Y4p _ _
theorem Xp4 {lo:List Sv} {Z:Wd} {n:List UInt8} (h:(((getD Z.l n).kind != 2 && (getD Z.l n).kind != 3) || (getD Z.l n).uses == 0)=true):X8i lo Z n=false:=by
 refine Y4i.2 fun hn=>?_
 unfold X8i at hn;simp only [Yn,Y1j,beq_iff_eq,bne_iff_ne,ne_eq,decide_eq_true_eq] at hn h
 omega
theorem Xjj {lo:List Sv} {Z:Wd} {n:List UInt8} (hw:Wf Z.l) (h:(((getD Z.l n).kind != 2 && (getD Z.l n).kind != 3) || (getD Z.l n).uses == 0)=false):X8i lo Z n=((((X20 lo (getD Z.l n).service).2.2:Nat):Int) == 0 && (X20 lo (getD Z.l n).service).1.back):=by
 have hu:=(Xl8 hw n).2.2.1;simp only [Y10,Y2t,bne_eq_false_iff_eq,beq_eq_false_iff_ne,ne_eq] at h
 unfold X8i;rw [show ((getD Z.l n).kind == 2 || (getD Z.l n).kind == 3)=true by simp only [Y1j,beq_iff_eq]; omega,decide_eq_true (by omega),Y2n,Y2n]
 congr 1
 rw [Y2u,beq_iff_eq,beq_iff_eq]; omega
theorem noteB_ref {lo:List Sv} {Z:Wd} {n:List UInt8}:((((((getD Z.l n).kind == 2 || (getD Z.l n).kind == 3) && decide (0<(getD Z.l n).uses)) && (((X20 lo (getD Z.l n).service).2.2:Nat):Int) == 0)) && (X20 lo (getD Z.l n).service).1.back)=X8i lo Z n:=by
 unfold X8i;rw [Bool.and_assoc]
 congr 2
 rw [Y2u,beq_iff_eq,beq_iff_eq]; omega
def Xj1 (lo:List Sv) (Z:Wd) (t:List UInt8):List Nt:=if (getD Z.l t).kind=1 then X3m lo Z t else []
def Xj0 (Z:Wd) (t:List UInt8):List (List UInt8):=if (getD Z.l t).kind=1 then below Z.l t else []
def X2p (Z:Wd) (t:List UInt8):Wd:=if (getD Z.l t).kind=1 then Xo6 Z t else Z
set_option maxHeartbeats 1000000 in
theorem Xeh (tgt:List UInt8) (p:Wp) (Z:Wd) (hZ:Xc2 Z) (B w:World) (I:Im) (hI:WpOk I p) (As:List X7) (hS:Sat B w I (wdA p Z::As)) :
  Cz 39 [ptr p.wb 0,S tgt] w fun v w'=>∃ J na nc,Le I J/\v=.slice na (X3m p.lo Z tgt).length nc/\(X3m p.lo Z tgt).length<=nc/\RS J na 4 (X3m p.lo Z tgt).length (X9 X8 (X3m p.lo Z tgt))/\Sat B w' J (wdA p Z::As):=by
 refine calls Tryz.func39 rfl Tryz.ntmps39 rfl (.seq (.q 1 rfl (.seq (.q 1 rfl (.seq (.seq ?_))))));obtain ⟨⟨a,c,ma,mc⟩,hS⟩:=Sat.unbox hS;replace hS:Sat B _ _ (blk p.wb (wdC p Z) 81::blk p.tb [I64 Z.room,.slice a Z.l.length c] 155::Vec 75 10 (.slice a Z.l.length c) Z.l.length (Xr Z.l)::blk p.mb [.slice ma Z.D.length mc] 203::Xna 62 (.slice ma Z.D.length mc) (Z.D.map fun d=>U64 (d:Nat))::_):=hS;have hlen:=hZ.len;have hbl:=X71 hZ.wf tgt;refine .t 2 rfl (.val (.fo 0 rfl Xn4 rfl rfl Qs76 rfl) rfl (.val (.lo rfl hS (k:=0) rfl Xu1 rfl) rfl (.q 1 rfl (.call Tryz.func49 rfl (ec9 rfl (ec9 rfl X0)) rfl (Xe8 p.tb Z.room a c Z.l (by omega) hZ.wf tgt B _ I _ (hS.x [2,2])) ?_))));rintro _ w ⟨J,ra,rc,rfl,hJ,hrc,hRB,hS⟩;try dsimp only [List.eraseIdx] at hS
 refine .run 2 rfl ⟨⟨_,X1u⟩,trivial⟩ (.nil (.block ?_));replace hS:=(((((hS.pick 4 rfl).pick 4 rfl).pick 3 rfl).pick 3 rfl).pick 4 rfl).vecNil 45 4;refine .loop (σ:=Nat×Value) (fun ⟨k,v⟩=>[(0,ptr p.wb 0),(5,v),(18,.slice ra (below Z.l tgt).length rc),(19,I64 ((below Z.l tgt).length:Nat)),(20,I64 (k:Nat))]) (fun ⟨k,v⟩ w=>k<=(below Z.l tgt).length/\Sat B w J (Vec 45 4 v (X31 p.lo Z ((below Z.l tgt).take k)).length (X9 X8 (X31 p.lo Z ((below Z.l tgt).take k)))::blk p.wb (wdC p Z) 81::blk p.tb [I64 Z.room,.slice a Z.l.length c] 155::Vec 75 10 (.slice a Z.l.length c) Z.l.length (Xr Z.l)::blk p.mb [.slice ma Z.D.length mc] 203::Xna 62 (.slice ma Z.D.length mc) (Z.D.map fun d=>U64 (d:Nat))::As)) (fun ⟨k,v⟩=>(below Z.l tgt).length - k) (0,.slice none 0 0) ⟨rfl,rfl,rfl,rfl,rfl,trivial⟩ ⟨Yo _,hS⟩ ?_;rintro ⟨k,v⟩ w ⟨hk,hS⟩;change WC _ _ _ _ [(0,ptr p.wb 0),(5,v),(18,.slice ra (below Z.l tgt).length rc),(19,I64 ((below Z.l tgt).length:Nat)),(20,I64 (k:Nat))] w;refine .seq (.q 1 rfl (.seq ?_));refine .cond rfl (fun hb21=>?_) fun hb21=>?_
 ·have hc21:=hb21; simp only [Y6] at hc21;refine .skip (.seq (.block (.seq ?_)));obtain ⟨x,hx0⟩:∃ x,(below Z.l tgt)[k]?=some x:=⟨_,Y4 (by omega)⟩
  obtain ⟨q,hq9,hx⟩:=X9f (cells:=Xb3) (s:=1) (fun _=>rfl) (by rw [Xx8]; exact hRB:RS J ra 1 (below Z.l tgt).length (X9 Xb3 (below Z.l tgt))) hx0;subst hq9;have hstep:=Xak (lo:=p.lo) (Z:=Z) hx0;have hsv:=Xg9 hZ.wf x;have hnl:=Xaj p.lo Z ((below Z.l tgt).take k);have htk:((below Z.l tgt).take k).length<=k:=by rw [Yr]; omega
  refine .region (.val (.ii rfl rfl (by omega) (by omega) X1u Qs9) rfl (.val (.ldI (.of rfl) hS hx Qg9 rfl) rfl (.q 1 rfl (.nil (.seq (.t 2 rfl ?_))))));refine .val (.fo 0 rfl Xn4 rfl rfl Qs76 rfl) rfl (.val (.lo rfl hS (k:=1) rfl Xu1 rfl) rfl (.q 1 rfl (.call Tryz.func85 rfl (ec9 rfl (ec9 rfl X0)) rfl (Xmd p.tb Z.room a c Z.l (by omega) x B _ J _ (hS.x [3,3])) ?_)));rintro _ w ⟨rfl,hS⟩;try dsimp only [List.eraseIdx] at hS
  refine .q 3 rfl (.allocA (cs:=[_,_,_,_,_,_,_,_,_,_]) hS Xcw rfl ?_);intro b8 w hS;refine .so hS (k:=0) rfl rfl rfl rfl X29 rfl (by simp) ?_;intro w hS; try dsimp only [List.set] at hS
  try simp only [Yk,Ye,Y9,Y7,Yh,Ym,Yc] at hS
  refine .q 1 rfl (.nil (.seq (.seq (.region ?_))));refine .val (.fo 0 rfl X27 rfl rfl Qs3 rfl) rfl (.val (.lo rfl hS (k:=0) rfl Qg3 rfl) rfl (.q 2 rfl (.gval rfl rfl (fun hg1=>(by exact .fo 0 rfl X27 rfl rfl Qs3 rfl)) rfl ?_)));refine .gval rfl rfl (fun hg1=>(by exact (.ld (.gd hg1 rfl) hS (k:=0) rfl Qg3 rfl))) rfl ?_;refine .gval rfl rfl (fun hg1=>(.neq (.gd hg1 rfl) (.of rfl))) rfl (.val (.pa rfl rfl rfl) rfl (.q 1 rfl ?_));refine .gval rfl rfl (fun hg1=>(by exact .fo 8 rfl X27 rfl rfl Qs3 rfl)) rfl ?_;refine .gval rfl rfl (fun hg1=>(by exact (.ld (.gd hg1 rfl) hS (k:=0) rfl Qg3 rfl))) rfl ?_;refine .gval rfl rfl (fun hg1=>(.eql (.gd hg1 rfl) (.of rfl))) rfl (.val (.po rfl rfl rfl) rfl (.nil ?_));refine .cond rfl (fun hb45=>?_) fun hb45=>?_
  ·have hc45:=hb45; simp only [Y6] at hc45;refine .exit (.region (.run 2 rfl ⟨⟨by omega,by omega⟩,trivial⟩ (.nil ?_)));have hnb:X8i p.lo Z x=false:=Xp4 hb45;rw [hnb] at hstep;refine ⟨(k+1,_),⟨rfl,rfl,rfl,rfl,rfl,trivial⟩,⟨by (try dsimp only); omega,?_⟩,by (try dsimp only); omega⟩;rw [hstep];rw [if_neg (by decide),Y9];exact (hS.z [6,6,4,4,6,6] 6 1)
  have hc45:=hb45; simp only [Y6] at hc45;refine .skip (.cutS (σ:=Nat×Option Addr×Nat) (fun ⟨b10,fa,fc⟩=>[(0,ptr p.wb 0),(5,v),(7,S x),(8,ptr b8 0),(10,ptr b10 0),(12,I64 (((X20 p.lo (getD Z.l x).service).2.2:Nat):Int)),(18,.slice (some q) (below Z.l tgt).length rc),(19,I64 ((below Z.l tgt).length:Nat)),(20,I64 (k:Nat))]) (fun ⟨b10,fa,fc⟩ w=>Sat B w J (blk b10 (X1o (X20 p.lo (getD Z.l x).service).1 fa fc) 105::blk b8 (X5 (getD Z.l x)) 75::Vec 45 4 v (X31 p.lo Z ((below Z.l tgt).take k)).length (X9 X8 (X31 p.lo Z ((below Z.l tgt).take k)))::blk p.wb (wdC p Z) 81::blk p.tb [I64 Z.room,.slice a Z.l.length c] 155::Vec 75 10 (.slice a Z.l.length c) Z.l.length (Xr Z.l)::blk p.mb [.slice ma Z.D.length mc] 203::Xna 62 (.slice ma Z.D.length mc) (Z.D.map fun d=>U64 (d:Nat))::As)) ?_ ?_)
  ·refine .dw (fun w=>∃ R,Sat B w J (blk b8 (X5 (getD Z.l x)) 75::blk p.wb (wdC p Z) 81::R)) (fun j=>!([].contains j)) ?_;replace hS:=hS.drew; generalize w.drew=w at hS ⊢;have hH:=(hS.x [4,1])
   refine .tp 0 rfl (fun w=>(.mo rfl)) (.tp 1 rfl (fun w=>(.no rfl)) ?_);refine .tp 2 rfl (fun w=>(.fo 2 rfl Xn4 rfl rfl Tryz.sizeOf78 rfl)) (.tk 3 rfl ⟨_,hH⟩ (fun w ⟨R,hS⟩=>((.lo rfl hS (k:=1) rfl Tryz.isAgg78 rfl))) (.tp 4 rfl (fun w=>(.fo 4 rfl X27 rfl rfl Qs9 rfl)) (.tk 5 rfl ⟨_,hH⟩ (fun w ⟨R,hS⟩=>((.lo rfl hS (k:=0) rfl Qg9 rfl))) (.branch [6,11] (by kernel_rfl) rfl (WO.cons rfl ?_ (WO.cons rfl ?_ (WO.nil)))))))
   ·refine .call Tryz.func86 rfl (ec9 rfl (ec9 rfl X0)) rfl (Xin (getD Z.l x).service (by omega) p B _ J (hI.mono hJ) _ hS) ?_;rintro _ w ⟨fa,fc,rfl,hS⟩;refine .nil ?_;clear hH;have hH:=(hS.x [4,1])
    refine ⟨fun _ _=>⟨_,hH⟩,?_⟩;refine .tp 7 rfl (fun w=>(.mo rfl)) (.tp 8 rfl (fun w=>(.extract (.of rfl) rfl)) (.tp 9 rfl (fun w=>(.extract (.of rfl) rfl)) (.tp 10 rfl (fun w=>(.extract (.of rfl) rfl)) ?_)));refine .b1 11 rfl (.allocA (cs:=[_,_,_,_,_,_,_,_]) hS Xbq rfl ?_);intro b10 w hS;refine .nil ?_;clear hH;have hH:=(hS.x [5,2])
    refine ⟨fun _ _=>⟨_,hH⟩,?_⟩;refine .b1 12 rfl (.so hS (k:=0) rfl rfl rfl rfl X10 rfl (by simp) ?_);intro w hS;try simp only [Yk,Ye,Y9,Y7,Yh,Ym,Yc] at hS
    refine .nil ?_;clear hH;have hH:=(hS.x [5,2])
    refine ⟨fun _ _=>⟨_,hH⟩,?_⟩;refine .tp 13 rfl (fun w=>(.ao rfl)) (.tp 14 rfl (fun w=>(.ao rfl)) (.dn ?_));exact ⟨(b10,fa,fc),⟨rfl,rfl,rfl,rfl,rfl,rfl,rfl,rfl,rfl,trivial⟩,(hS.x [7,7,5,5,7,7,7,7])⟩
   ·refine .allocA (cs:=[_,_,_,_,_,_,_,_]) hS Xbq rfl ?_;intro b10 w hS;refine .nil ?_;clear hH;have hH:=(hS.x [5,2])
    refine ⟨fun _ _=>⟨_,hH⟩,?_⟩;refine .b1 6 rfl (.call Tryz.func86 rfl (ec9 rfl (ec9 rfl X0)) rfl (Xin (getD Z.l x).service (by omega) p B _ J (hI.mono hJ) _ hS) ?_);rintro _ w ⟨fa,fc,rfl,hS⟩;refine .nil ?_;clear hH;have hH:=(hS.x [5,2])
    refine ⟨fun _ _=>⟨_,hH⟩,?_⟩;refine .tp 7 rfl (fun w=>(.mo rfl)) (.tp 8 rfl (fun w=>(.extract (.of rfl) rfl)) (.tp 9 rfl (fun w=>(.extract (.of rfl) rfl)) (.tp 10 rfl (fun w=>(.extract (.of rfl) rfl)) ?_)));refine .b1 12 rfl (.so hS (k:=0) rfl rfl rfl rfl X10 rfl (by simp) ?_);intro w hS;try simp only [Yk,Ye,Y9,Y7,Yh,Ym,Yc] at hS
    refine .nil ?_;clear hH;have hH:=(hS.x [5,2])
    refine ⟨fun _ _=>⟨_,hH⟩,?_⟩;refine .tp 13 rfl (fun w=>(.ao rfl)) (.tp 14 rfl (fun w=>(.ao rfl)) (.dn ?_));exact ⟨(b10,fa,fc),⟨rfl,rfl,rfl,rfl,rfl,rfl,rfl,rfl,rfl,trivial⟩,(hS.x [7,7,5,5,7,7,7,7])⟩
  rintro ⟨b10,fa,fc⟩ w hS;change WC _ _ _ _ [(0,ptr p.wb 0),(5,v),(7,S x),(8,ptr b8 0),(10,ptr b10 0),(12,I64 (((X20 p.lo (getD Z.l x).service).2.2:Nat):Int)),(18,.slice (some q) (below Z.l tgt).length rc),(19,I64 ((below Z.l tgt).length:Nat)),(20,I64 (k:Nat))] w;refine .seq (.t 3 rfl ?_);refine .gval rfl rfl (fun hg1=>(by exact .fo 5 rfl X2d rfl rfl Qs4 rfl)) rfl ?_;refine .gval rfl rfl (fun hg1=>(by exact (.ld (.gd hg1 rfl) hS (k:=0) rfl Qg4 rfl))) rfl ?_;refine .val (.pa rfl rfl rfl) rfl (.nil ?_);refine .cond rfl (fun hb62=>?_) fun hb62=>?_
  ·have hc62:=hb62; simp only [Y6] at hc62;refine .dw (fun w=>∃ R,Sat B w J (blk b8 (X5 (getD Z.l x)) 75::blk p.wb (wdC p Z) 81::R)) (fun j=>!([].contains j)) ?_;replace hS:=hS.drew; generalize w.drew=w at hS ⊢;have hH:=(hS.x [3,2])
   refine .tp 0 rfl (fun w=>(.mo rfl)) (.tp 1 rfl (fun w=>(.mo rfl)) ?_);refine .tp 2 rfl (fun w=>(.fo 4 rfl X27 rfl rfl Qs9 rfl)) (.tk 3 rfl ⟨_,hH⟩ (fun w ⟨R,hS⟩=>((.lo rfl hS (k:=0) rfl Qg9 rfl))) (.tp 4 rfl (fun w=>(.mo rfl)) (.tp 5 rfl (fun w=>(.no rfl)) ?_)));refine .tp 6 rfl (fun w=>(.fo 25 rfl Xn4 rfl rfl Qs3 rfl)) (.tk 7 rfl ⟨_,hH⟩ (fun w ⟨R,hS⟩=>((.lo rfl hS (k:=1) rfl Qg3 rfl))) (.tp 8 rfl (fun w=>(.build (cs:=[_,_,_,_]) (pc9 rfl (pc9 rfl (pc9 rfl X4))) X3z rfl)) (.b1 9 rfl (.buildSlice (cs:=[_,_,_,_]) hS (pc9 rfl X4) X64 X4e Xgw rfl rfl rfl rfl ?_))));intro b72 w hS;refine .nil ?_;clear hH;have hH:=(hS.x [4,3])
   refine ⟨fun _ _=>⟨_,hH⟩,?_⟩;refine .b1 10 rfl (.append (size:=4) (bytes:=48) hS (.of rfl) (.of rfl) (k:=2) rfl X64 X8d rfl rfl rfl rfl rfl rfl rfl ⟨by omega,by unfold maxLen; omega⟩ rfl ?_);intro v73 w hS; try dsimp only [List.set] at hS
   obtain ⟨a73,c73,rfl,hcap73,_⟩:=hS.vecSlice (k:=2) (v:=v73) rfl;refine .nil ?_;clear hH;have hH:=(hS.x [3,2])
   refine ⟨fun _ _=>⟨_,hH⟩,?_⟩;refine .tp 11 rfl (fun w=>(.ao rfl)) (.dn (.region (.run 2 rfl ⟨⟨by omega,by omega⟩,trivial⟩ (.nil ?_))));have hnb:X8i p.lo Z x=true:=(Xjj hZ.wf hb45).trans hb62;rw [hnb] at hstep;refine ⟨(k+1,_),⟨rfl,rfl,rfl,rfl,rfl,trivial⟩,⟨by (try dsimp only); omega,?_⟩,by (try dsimp only); omega⟩;rw [hstep];rw [if_pos rfl,Y0,Xcd];exact (hS.z [7,7,7,7,7,7] 6 2)
  have hc62:=hb62; simp only [Y6] at hc62;refine .skip (.region (.run 2 rfl ⟨⟨by omega,by omega⟩,trivial⟩ (.nil ?_)));have hnb:X8i p.lo Z x=false:=(Xjj hZ.wf hb45).trans hb62;rw [hnb] at hstep;refine ⟨(k+1,_),⟨rfl,rfl,rfl,rfl,rfl,trivial⟩,⟨by (try dsimp only); omega,?_⟩,by (try dsimp only); omega⟩;rw [hstep];rw [if_neg (by decide),Y9];exact (hS.z [7,7,7,7,7,7] 6 2)
 have hc21:=hb21; simp only [Y6] at hc21;refine .exit (.seq (.q 2 rfl (.ret (Xc Tryz.results39 rfl ?_))));have hk9:k=(below Z.l tgt).length:=by omega
 subst hk9;rw [Y15] at hS;obtain ⟨na,nc,rfl,hnc,_⟩:=hS.vecSlice (k:=0) rfl;obtain ⟨J3,hJ3,hRN,hS⟩:=hS.freezeVec (k:=0) rfl;replace hS:=Sat.box (T:=wdT p _) (a,c,ma,mc) (((((hS.pick 4 rfl).pick 4 rfl).pick 4 rfl).pick 4 rfl).pick 4 rfl);exact ⟨_,rfl,J3,na,nc,hJ.trans hJ3,rfl,hnc,hRN,hS⟩
theorem Xuv (tgt:List UInt8) (p:Wp) (Z:Wd) (hZ:Xc2 Z) (B w:World) (I:Im) (hI:WpOk I p) (As:List X7) (hS:Sat B w I (wdA p Z::As)) :
  Cz 41 [ptr p.wb 0,S tgt] w fun v w'=>∃ J na nc ga gc,Le I J/\v=.tuple #[.slice na (Xj1 p.lo Z tgt).length nc,.slice ga (Xj0 Z tgt).length gc]/\(Xj1 p.lo Z tgt).length<=nc/\RS J na 4 (Xj1 p.lo Z tgt).length (X9 X8 (Xj1 p.lo Z tgt))/\(Xj0 Z tgt).length<=gc/\RS J ga 1 (Xj0 Z tgt).length ((Xj0 Z tgt).map S)/\Sat B w' J (wdA p (X2p Z tgt)::As):=by
 refine calls Tryz.func41 rfl Tryz.ntmps41 rfl (.seq (.q 2 rfl (.seq (.seq ?_))));obtain ⟨⟨a,c,ma,mc⟩,hS⟩:=Sat.unbox hS;replace hS:Sat B _ _ (blk p.wb (wdC p Z) 81::blk p.tb [I64 Z.room,.slice a Z.l.length c] 155::Vec 75 10 (.slice a Z.l.length c) Z.l.length (Xr Z.l)::blk p.mb [.slice ma Z.D.length mc] 203::Xna 62 (.slice ma Z.D.length mc) (Z.D.map fun d=>U64 (d:Nat))::_):=hS;have hlen:=hZ.len;refine .t 2 rfl (.val (.fo 0 rfl Xn4 rfl rfl Qs76 rfl) rfl (.val (.lo rfl hS (k:=0) rfl Xu1 rfl) rfl (.q 1 rfl (.call Tryz.func85 rfl (ec9 rfl (ec9 rfl X0)) rfl (Xmd p.tb Z.room a c Z.l (by omega) tgt B _ I _ (hS.x [2,2])) ?_))));rintro _ w ⟨rfl,hS⟩;refine .q 3 rfl (.allocA (cs:=[_,_,_,_,_,_,_,_,_,_]) hS Xcw rfl ?_);intro b6 w hS;refine .so hS (k:=0) rfl rfl rfl rfl X29 rfl (by simp) ?_;intro w hS;try simp only [Yk,Ye,Y9,Y7,Yh,Ym,Yc] at hS
 refine .q 1 rfl (.nil (.seq (.region ?_)));refine .val (.fo 0 rfl X27 rfl rfl Qs3 rfl) rfl (.val (.lo rfl hS (k:=0) rfl Qg3 rfl) rfl (.q 1 rfl (.nil ?_)));refine .cond rfl (fun hb20=>?_) fun hb20=>?_
 ·refine .seq (.q 2 rfl (.ret (X1t Tryz.results41 rfl rfl ?_)));have hk1:¬ (getD Z.l tgt).kind=1:=by simpa using hb20
  have e1:Xj1 p.lo Z tgt=[]:=if_neg hk1;have e2:Xj0 Z tgt=[]:=if_neg hk1;have e3:X2p Z tgt=Z:=if_neg hk1;rw [e1,e2,e3];replace hS:=Sat.box (T:=wdT p _) (a,c,ma,mc) (((((hS.pick 5 rfl).pick 5 rfl).pick 4 rfl).pick 4 rfl).pick 5 rfl);exact ⟨_,rfl,I,none,0,none,0,Le.refl _,rfl,Yq _,RS.nil _ 4,Yq _,RS.nil _ 1,(hS.y 1 1)⟩
 refine .skip (.seq ?_);replace hS:=Sat.box (T:=wdT p _) (a,c,ma,mc) (((((hS.pick 5 rfl).pick 5 rfl).pick 4 rfl).pick 4 rfl).pick 5 rfl);refine .t 2 rfl (.call Tryz.func39 rfl (ec9 rfl (ec9 rfl X0)) rfl (Xeh tgt p Z hZ B _ I hI _ hS) ?_);rintro _ w ⟨J,na,nc,hJ,rfl,hnc,hRN,hS⟩;refine .q 1 rfl (.nil (.seq ?_));obtain ⟨⟨a,c,ma,mc⟩,hS⟩:=Sat.unbox hS;replace hS:Sat B _ _ (blk p.wb (wdC p Z) 81::blk p.tb [I64 Z.room,.slice a Z.l.length c] 155::Vec 75 10 (.slice a Z.l.length c) Z.l.length (Xr Z.l)::blk p.mb [.slice ma Z.D.length mc] 203::Xna 62 (.slice ma Z.D.length mc) (Z.D.map fun d=>U64 (d:Nat))::_):=hS;refine .t 3 rfl (.val (.fo 0 rfl Xn4 rfl rfl Qs76 rfl) rfl (.val (.lo rfl hS (k:=0) rfl Xu1 rfl) rfl (.q 1 rfl (.call Tryz.func89 rfl (ec9 rfl (ec9 rfl X0)) rfl (Xqm p.tb Z.room a c Z.l (by omega) hZ.wf tgt B _ J _ (hS.x [2,2])) ?_))));rintro _ w ⟨J5,ga,gc,rfl,hJ5,hgc,hRG,a5,c5,hS⟩;refine .q 2 rfl (.nil (.ret (X1t Tryz.results41 rfl rfl ?_)));have hk1:(getD Z.l tgt).kind=1:=by simpa using hb20
 have e1:Xj1 p.lo Z tgt=X3m p.lo Z tgt:=if_pos hk1;have e2:Xj0 Z tgt=(below Z.l tgt):=if_pos hk1;have e3:X2p Z tgt=Xo6 Z tgt:=if_pos hk1;rw [e1,e2,e3];replace hS:=Sat.box (T:=wdT p (Xo6 Z tgt)) (a5,c5,ma,mc) (((((hS.pick 4 rfl).pick 4 rfl).pick 3 rfl).pick 3 rfl).pick 4 rfl);exact ⟨_,rfl,J5,na,nc,ga,gc,hJ.trans hJ5,rfl,hnc,hRN.mono hJ5,hgc,hRG,(hS.y 1 1)⟩
set_option maxHeartbeats 1000000 in
theorem X92 (tgt:List UInt8) (x:Xp) {lo:List Sv} {us:List Us} {ps:Nat->Int} (Z:Wd) (hZ:Xc2 Z) (la:Option Addr) (lc:Nat) (da:Option Addr) (dc:Nat) (B w:World) (I:Im) (hX:XpOk I x lo us ps) (hM:RwM I la da dc Z) (As:List X7) (hS:Sat B w I (blk x.xb (XC x da Z.D.length dc Z.now) 99::blk x.tb [I64 Z.room,.slice la Z.l.length lc] 95::As)) :
  Cz 40 [ptr x.xb 0,S tgt] w fun v w'=>∃ J na nc,Le I J/\v=.slice na (X3m lo Z tgt).length nc/\(X3m lo Z tgt).length<=nc/\RS J na 4 (X3m lo Z tgt).length (X9 X8 (X3m lo Z tgt))/\Sat B w' J (blk x.xb (XC x da Z.D.length dc Z.now) 99::blk x.tb [I64 Z.room,.slice la Z.l.length lc] 95::As):=by
 obtain rfl:=hX.lo;obtain rfl:=hX.us;obtain rfl:=hX.ps;refine calls Tryz.func40 rfl Tryz.ntmps40 rfl (.seq (.q 1 rfl (.seq (.q 1 rfl (.seq ?_)))));have hlen:=hZ.len;have hbl:=X71 hZ.wf tgt;refine .t 2 rfl (.val (.fo 28 rfl Xn5 rfl rfl Qs96 rfl) rfl (.val (.lo rfl hS (k:=0) rfl Qg96 rfl) rfl (.q 1 rfl (.call Qf87 rfl (ec9 rfl (ec9 rfl X0)) rfl (X8z x.tb Z.room la lc Z.l (by omega) hZ.wf tgt B _ I hM.1 _ (hS.x [1])) ?_))));rintro _ w ⟨J,ra,rc,rfl,hJ,hrc,hRB,hS⟩;try dsimp only [List.eraseIdx] at hS
 refine .q 1 rfl (.nil (.seq (.seq (.q 1 rfl (.block ?_)))));replace hS:=(hS.pick 1 rfl).vecNil 45 4;refine .loop (σ:=Nat×Value) (fun ⟨k,v⟩=>[(0,ptr x.xb 0),(5,v),(6,.slice ra (below Z.l tgt).length rc),(7,I64 (k:Nat))]) (fun ⟨k,v⟩ w=>k<=(below Z.l tgt).length/\Sat B w J (Vec 45 4 v (X31 (xlo x) Z ((below Z.l tgt).take k)).length (X9 X8 (X31 (xlo x) Z ((below Z.l tgt).take k)))::blk x.xb (XC x da Z.D.length dc Z.now) 99::blk x.tb [I64 Z.room,.slice la Z.l.length lc] 95::As)) (fun ⟨k,v⟩=>(below Z.l tgt).length - k) (0,.slice none 0 0) ⟨rfl,rfl,rfl,rfl,trivial⟩ ⟨Yo _,hS⟩ ?_;rintro ⟨k,v⟩ w ⟨hk,hS⟩;change WC _ _ _ _ [(0,ptr x.xb 0),(5,v),(6,.slice ra (below Z.l tgt).length rc),(7,I64 (k:Nat))] w;refine .seq (.seq (.region (.run 4 rfl ⟨⟨_,X1u⟩,trivial⟩ (.nil ?_))));refine .cond rfl (fun hb22=>?_) fun hb22=>?_
 ·have hc22:=hb22; simp only [Y6] at hc22;refine .skip (.seq (.block ?_));obtain ⟨x9,hx0⟩:∃ x9,(below Z.l tgt)[k]?=some x9:=⟨_,Y4 (by omega)⟩
  obtain ⟨q,hq9,hx⟩:=X9f (cells:=Xb3) (s:=1) (fun _=>rfl) (by rw [Xx8]; exact hRB:RS J ra 1 (below Z.l tgt).length (X9 Xb3 (below Z.l tgt))) hx0;subst hq9;have hstep:=Xak (lo:=(xlo x)) (Z:=Z) hx0;have hsv:=Xg9 hZ.wf x9;have hnl:=Xaj (xlo x) Z ((below Z.l tgt).take k);have htk:((below Z.l tgt).take k).length<=k:=by rw [Yr]; omega
  refine .cutS (σ:=Nat) (fun b8=>[(0,ptr x.xb 0),(5,v),(6,.slice (some q) (below Z.l tgt).length rc),(7,I64 (k:Nat)),(8,ptr b8 0)]) (fun b8 w=>Sat B w J (blk b8 (X5 (getD Z.l x9)) 75::Vec 45 4 v (X31 (xlo x) Z ((below Z.l tgt).take k)).length (X9 X8 (X31 (xlo x) Z ((below Z.l tgt).take k)))::blk x.xb (XC x da Z.D.length dc Z.now) 99::blk x.tb [I64 Z.room,.slice la Z.l.length lc] 95::As)) ?_ ?_
  ·refine .dw (fun w=>∃ R,Sat B w J (blk x.xb (XC x da Z.D.length dc Z.now) 99::R)) (fun j=>!([].contains j)) ?_;replace hS:=hS.drew; generalize w.drew=w at hS ⊢;have hH:=(hS.x [1])
   refine .tp 0 rfl (fun w=>(.mo rfl)) (.tp 1 rfl (fun w=>(.no rfl)) ?_);refine .tp 2 rfl (fun w=>(.fo 28 rfl Xn5 rfl rfl Qs96 rfl)) (.tk 3 rfl ⟨_,hH⟩ (fun w ⟨R,hS⟩=>(.lo rfl hS (k:=0) rfl Qg96 rfl)) (.tp 4 rfl (fun w=>(.mo rfl)) (.tp 5 rfl (fun w=>(.mo rfl)) ?_)));refine .tp 6 rfl (fun w=>(.ii rfl rfl (by omega) (by omega) X1u Qs9)) (.tk 7 rfl ⟨_,hH⟩ (fun w ⟨R,hS⟩=>.ldI (.of rfl) hS hx Qg9 rfl) (.branch [8,12] (by kernel_rfl) rfl (WO.cons rfl ?_ (WO.cons rfl ?_ (WO.nil)))))
   ·refine .call Qf88 rfl (ec9 rfl (ec9 rfl X0)) rfl (X8l x.tb Z.room la lc Z.l (by omega) x9 B _ J (hM.1.mono hJ) _ (hS.x [2])) ?_;rintro _ w ⟨rfl,hS⟩;refine .nil ?_;clear hH;have hH:=(hS.x [2])
    refine ⟨fun _ _=>⟨_,hH⟩,?_⟩;refine .tp 9 rfl (fun w=>(.mo rfl)) (.tp 10 rfl (fun w=>(.extract (.of rfl) rfl)) (.tp 11 rfl (fun w=>(.extract (.of rfl) rfl)) ?_));refine .b1 12 rfl (.allocA (cs:=[_,_,_,_,_,_,_,_,_,_]) hS Xcw rfl ?_);intro b8 w hS;refine .nil ?_;clear hH;have hH:=(hS.x [3])
    refine ⟨fun _ _=>⟨_,hH⟩,?_⟩;refine .b1 13 rfl (.so hS (k:=0) rfl rfl rfl rfl X29 rfl (by simp) ?_);intro w hS;try simp only [Yk,Ye,Y9,Y7,Yh,Ym,Yc] at hS
    refine .nil ?_;clear hH;have hH:=(hS.x [3])
    refine ⟨fun _ _=>⟨_,hH⟩,?_⟩;refine .tp 14 rfl (fun w=>(.ao rfl)) (.dn ?_);exact ⟨b8,⟨rfl,rfl,rfl,rfl,rfl,trivial⟩,(hS.x [1,3,3,3])⟩
   ·refine .allocA (cs:=[_,_,_,_,_,_,_,_,_,_]) hS Xcw rfl ?_;intro b8 w hS;refine .nil ?_;clear hH;have hH:=(hS.x [2])
    refine ⟨fun _ _=>⟨_,hH⟩,?_⟩;refine .b1 8 rfl (.call Qf88 rfl (ec9 rfl (ec9 rfl X0)) rfl (X8l x.tb Z.room la lc Z.l (by omega) x9 B _ J (hM.1.mono hJ) _ (hS.x [3])) ?_);rintro _ w ⟨rfl,hS⟩;refine .nil ?_;clear hH;have hH:=(hS.x [3])
    refine ⟨fun _ _=>⟨_,hH⟩,?_⟩;refine .tp 9 rfl (fun w=>(.mo rfl)) (.tp 10 rfl (fun w=>(.extract (.of rfl) rfl)) (.tp 11 rfl (fun w=>(.extract (.of rfl) rfl)) ?_));refine .b1 13 rfl (.so hS (k:=1) rfl rfl rfl rfl X29 rfl (by simp) ?_);intro w hS;try simp only [Yk,Ye,Y9,Y7,Yh,Ym,Yc] at hS
    refine .nil ?_;clear hH;have hH:=(hS.x [3])
    refine ⟨fun _ _=>⟨_,hH⟩,?_⟩;refine .tp 14 rfl (fun w=>(.ao rfl)) (.dn ?_);exact ⟨b8,⟨rfl,rfl,rfl,rfl,rfl,trivial⟩,(hS.x [3,3,3])⟩
  rintro b8 w hS;change WC _ _ _ _ [(0,ptr x.xb 0),(5,v),(6,.slice (some q) (below Z.l tgt).length rc),(7,I64 (k:Nat)),(8,ptr b8 0)] w;refine .cutS (σ:=Nat×Option Addr×Nat) (fun ⟨b10,fa,fc⟩=>[(0,ptr x.xb 0),(5,v),(6,.slice (some q) (below Z.l tgt).length rc),(7,I64 (k:Nat)),(8,ptr b8 0),(10,ptr b10 0),(12,I64 (((X20 (xlo x) (getD Z.l x9).service).2.2:Nat):Int))]) (fun ⟨b10,fa,fc⟩ w=>Sat B w J (blk b10 (X1o (X20 (xlo x) (getD Z.l x9).service).1 fa fc) 105::blk b8 (X5 (getD Z.l x9)) 75::Vec 45 4 v (X31 (xlo x) Z ((below Z.l tgt).take k)).length (X9 X8 (X31 (xlo x) Z ((below Z.l tgt).take k)))::blk x.xb (XC x da Z.D.length dc Z.now) 99::blk x.tb [I64 Z.room,.slice la Z.l.length lc] 95::As)) ?_ ?_
  ·refine .dw (fun w=>∃ R,Sat B w J (blk b8 (X5 (getD Z.l x9)) 75::blk x.xb (XC x da Z.D.length dc Z.now) 99::R)) (fun j=>!([].contains j)) ?_;replace hS:=hS.drew; generalize w.drew=w at hS ⊢;have hH:=(hS.x [2,1])
   refine .tp 0 rfl (fun w=>(.mo rfl)) (.tp 1 rfl (fun w=>(.no rfl)) ?_);refine .tp 2 rfl (fun w=>(.fo 0 rfl Xn5 rfl rfl Xu2 rfl)) (.tp 3 rfl (fun w=>(.fo 0 rfl Xe5 rfl rfl Qs22 rfl)) (.tk 4 rfl ⟨_,hH⟩ (fun w ⟨R,hS⟩=>((.lo rfl hS (k:=1) rfl Qg22 rfl))) (.tp 5 rfl (fun w=>(.fo 4 rfl X27 rfl rfl Qs9 rfl)) (.tk 6 rfl ⟨_,hH⟩ (fun w ⟨R,hS⟩=>((.lo rfl hS (k:=0) rfl Qg9 rfl))) (.branch [7,12] (by kernel_rfl) rfl (WO.cons rfl ?_ (WO.cons rfl ?_ (WO.nil))))))))
   ·refine .call Tryz.func48 rfl (ec9 rfl (ec9 rfl X0)) rfl (X91 (getD Z.l x9).service (by omega) x B _ J (hX.mono hJ) _ hS) ?_;rintro _ w ⟨fa,fc,rfl,hS⟩;refine .nil ?_;clear hH;have hH:=(hS.x [2,1])
    refine ⟨fun _ _=>⟨_,hH⟩,?_⟩;refine .tp 8 rfl (fun w=>(.mo rfl)) (.tp 9 rfl (fun w=>(.extract (.of rfl) rfl)) (.tp 10 rfl (fun w=>(.extract (.of rfl) rfl)) (.tp 11 rfl (fun w=>(.extract (.of rfl) rfl)) ?_)));refine .b1 12 rfl (.allocA (cs:=[_,_,_,_,_,_,_,_]) hS Xbq rfl ?_);intro b10 w hS;refine .nil ?_;clear hH;have hH:=(hS.x [3,2])
    refine ⟨fun _ _=>⟨_,hH⟩,?_⟩;refine .b1 13 rfl (.so hS (k:=0) rfl rfl rfl rfl X10 rfl (by simp) ?_);intro w hS;try simp only [Yk,Ye,Y9,Y7,Yh,Ym,Yc] at hS
    refine .nil ?_;clear hH;have hH:=(hS.x [3,2])
    refine ⟨fun _ _=>⟨_,hH⟩,?_⟩;refine .tp 14 rfl (fun w=>(.ao rfl)) (.tp 15 rfl (fun w=>(.ao rfl)) (.dn ?_));exact ⟨(b10,fa,fc),⟨rfl,rfl,rfl,rfl,rfl,rfl,rfl,trivial⟩,(hS.x [4,4,4,4,4])⟩
   ·refine .allocA (cs:=[_,_,_,_,_,_,_,_]) hS Xbq rfl ?_;intro b10 w hS;refine .nil ?_;clear hH;have hH:=(hS.x [3,2])
    refine ⟨fun _ _=>⟨_,hH⟩,?_⟩;refine .b1 7 rfl (.call Tryz.func48 rfl (ec9 rfl (ec9 rfl X0)) rfl (X91 (getD Z.l x9).service (by omega) x B _ J (hX.mono hJ) _ hS) ?_);rintro _ w ⟨fa,fc,rfl,hS⟩;refine .nil ?_;clear hH;have hH:=(hS.x [3,2])
    refine ⟨fun _ _=>⟨_,hH⟩,?_⟩;refine .tp 8 rfl (fun w=>(.mo rfl)) (.tp 9 rfl (fun w=>(.extract (.of rfl) rfl)) (.tp 10 rfl (fun w=>(.extract (.of rfl) rfl)) (.tp 11 rfl (fun w=>(.extract (.of rfl) rfl)) ?_)));refine .b1 13 rfl (.so hS (k:=0) rfl rfl rfl rfl X10 rfl (by simp) ?_);intro w hS;try simp only [Yk,Ye,Y9,Y7,Yh,Ym,Yc] at hS
    refine .nil ?_;clear hH;have hH:=(hS.x [3,2])
    refine ⟨fun _ _=>⟨_,hH⟩,?_⟩;refine .tp 14 rfl (fun w=>(.ao rfl)) (.tp 15 rfl (fun w=>(.ao rfl)) (.dn ?_));exact ⟨(b10,fa,fc),⟨rfl,rfl,rfl,rfl,rfl,rfl,rfl,trivial⟩,(hS.x [4,4,4,4,4])⟩
  rintro ⟨b10,fa,fc⟩ w hS;change WC _ _ _ _ [(0,ptr x.xb 0),(5,v),(6,.slice (some q) (below Z.l tgt).length rc),(7,I64 (k:Nat)),(8,ptr b8 0),(10,ptr b10 0),(12,I64 (((X20 (xlo x) (getD Z.l x9).service).2.2:Nat):Int))] w;refine .seq (.region ?_);refine .val (.fo 0 rfl X27 rfl rfl Qs3 rfl) rfl (.val (.lo rfl hS (k:=1) rfl Qg3 rfl) rfl (.q 2 rfl (.gval rfl rfl (fun hg1=>(by exact .fo 0 rfl X27 rfl rfl Qs3 rfl)) rfl ?_)));refine .gval rfl rfl (fun hg1=>(by exact (.ld (.gd hg1 rfl) hS (k:=1) rfl Qg3 rfl))) rfl ?_;refine .gval rfl rfl (fun hg1=>(.eql (.gd hg1 rfl) (.of rfl))) rfl (.val (.po rfl rfl rfl) rfl (.q 1 rfl ?_));refine .gval rfl rfl (fun hg1=>(by exact .fo 8 rfl X27 rfl rfl Qs3 rfl)) rfl ?_;refine .gval rfl rfl (fun hg1=>(by exact (.ld (.gd hg1 rfl) hS (k:=1) rfl Qg3 rfl))) rfl ?_;refine .gval rfl rfl (fun hg1=>(.gtr (.gd hg1 rfl) (.of rfl))) rfl (.val (.pa rfl rfl rfl) rfl (.q 1 rfl (.gm rfl rfl rfl rfl (.gval rfl rfl (fun hg1=>(.eql (.gd hg1 rfl) (.of rfl))) rfl (.val (.pa rfl rfl rfl) rfl (.q 1 rfl ?_))))));refine .gval rfl rfl (fun hg1=>(by exact .fo 5 rfl X2d rfl rfl Qs4 rfl)) rfl ?_;refine .gval rfl rfl (fun hg1=>(by exact (.ld (.gd hg1 rfl) hS (k:=0) rfl Qg4 rfl))) rfl ?_;refine .val (.pa rfl rfl rfl) rfl (.nil ?_);refine .cond rfl (fun hb69=>?_) fun hb69=>?_
  ·have hc69:=hb69; simp only [Y6] at hc69;refine .dw (fun w=>∃ R,Sat B w J (blk b8 (X5 (getD Z.l x9)) 75::blk x.xb (XC x da Z.D.length dc Z.now) 99::R)) (fun j=>!([].contains j)) ?_;replace hS:=hS.drew; generalize w.drew=w at hS ⊢;have hH:=(hS.x [3,2])
   refine .tp 0 rfl (fun w=>(.mo rfl)) (.tp 1 rfl (fun w=>(.mo rfl)) (.tp 2 rfl (fun w=>(.mo rfl)) ?_));refine .tp 3 rfl (fun w=>(.ii rfl rfl (by omega) (by omega) X1u Qs9)) (.tk 4 rfl ⟨_,hH⟩ (fun w ⟨R,hS⟩=>.ldI (.of rfl) hS hx Qg9 rfl) (.tp 5 rfl (fun w=>(.fo 4 rfl X27 rfl rfl Qs9 rfl)) (.tk 6 rfl ⟨_,hH⟩ (fun w ⟨R,hS⟩=>((.lo rfl hS (k:=0) rfl Qg9 rfl))) (.tp 7 rfl (fun w=>(.mo rfl)) (.tp 8 rfl (fun w=>(.no rfl)) ?_)))));refine .tp 9 rfl (fun w=>(.fo 30 rfl Xn5 rfl rfl Qs3 rfl)) (.tk 10 rfl ⟨_,hH⟩ (fun w ⟨R,hS⟩=>((.lo rfl hS (k:=1) rfl Qg3 rfl))) (.tp 11 rfl (fun w=>(.build (cs:=[_,_,_,_]) (pc9 rfl (pc9 rfl (pc9 rfl X4))) X3z rfl)) (.b1 12 rfl (.buildSlice (cs:=[_,_,_,_]) hS (pc9 rfl X4) X64 X4e Xgw rfl rfl rfl rfl ?_))));intro b82 w hS;refine .nil ?_;clear hH;have hH:=(hS.x [4,3])
   refine ⟨fun _ _=>⟨_,hH⟩,?_⟩;refine .b1 13 rfl (.append (size:=4) (bytes:=48) hS (.of rfl) (.of rfl) (k:=2) rfl X64 X8d rfl rfl rfl rfl rfl rfl rfl ⟨by omega,by unfold maxLen; omega⟩ rfl ?_);intro v83 w hS; try dsimp only [List.set] at hS
   obtain ⟨a83,c83,rfl,hcap83,_⟩:=hS.vecSlice (k:=2) (v:=v83) rfl;refine .nil ?_;clear hH;have hH:=(hS.x [3,2])
   refine ⟨fun _ _=>⟨_,hH⟩,?_⟩;refine .tp 14 rfl (fun w=>(.ao rfl)) (.dn (.region (.run 3 rfl ⟨⟨by omega,by omega⟩,trivial⟩ (.nil ?_))));have hnb:X8i (xlo x) Z x9=true:=noteB_ref.symm.trans hb69;rw [hnb] at hstep;refine ⟨(k+1,_),⟨rfl,rfl,rfl,rfl,trivial⟩,⟨by (try dsimp only); omega,?_⟩,by (try dsimp only); omega⟩;rw [hstep];rw [if_pos rfl,Y0,Xcd];exact (hS.z [4,4,4] 3 2)
  have hc69:=hb69; simp only [Y6] at hc69;refine .skip (.region (.run 3 rfl ⟨⟨by omega,by omega⟩,trivial⟩ (.nil ?_)));have hnb:X8i (xlo x) Z x9=false:=noteB_ref.symm.trans hb69;rw [hnb] at hstep;refine ⟨(k+1,_),⟨rfl,rfl,rfl,rfl,trivial⟩,⟨by (try dsimp only); omega,?_⟩,by (try dsimp only); omega⟩;rw [hstep];rw [if_neg (by decide),Y9];exact (hS.z [4,4,4] 3 2)
 have hc22:=hb22; simp only [Y6] at hc22;refine .exit (.seq (.q 2 rfl (.ret (Xc Tryz.results40 rfl ?_))));have hk9:k=(below Z.l tgt).length:=by omega
 subst hk9;rw [Y15] at hS;obtain ⟨na,nc,rfl,hnc,_⟩:=hS.vecSlice (k:=0) rfl;obtain ⟨J3,hJ3,hRN,hS⟩:=hS.freezeVec (k:=0) rfl;exact ⟨_,rfl,J3,na,nc,hJ.trans hJ3,rfl,hnc,hRN,(hS.x [1,1])⟩
theorem Xlq (tgt:List UInt8) (x:Xp) {lo:List Sv} {us:List Us} {ps:Nat->Int} (Z:Wd) (hZ:Xc2 Z) (la:Option Addr) (lc:Nat) (da:Option Addr) (dc:Nat) (B w:World) (I:Im) (hX:XpOk I x lo us ps) (hM:RwM I la da dc Z) (As:List X7) (hS:Sat B w I (blk x.xb (XC x da Z.D.length dc Z.now) 99::blk x.tb [I64 Z.room,.slice la Z.l.length lc] 95::As)) :
  Cz 42 [ptr x.xb 0,S tgt] w fun v w'=>∃ J na nc ga gc,Le I J/\v=.tuple #[.slice na (Xj1 lo Z tgt).length nc,.slice ga (Xj0 Z tgt).length gc]/\(Xj1 lo Z tgt).length<=nc/\RS J na 4 (Xj1 lo Z tgt).length (X9 X8 (Xj1 lo Z tgt))/\(Xj0 Z tgt).length<=gc/\RS J ga 1 (Xj0 Z tgt).length ((Xj0 Z tgt).map S)/\∃ la2 lc2 da2 dc2,RwM J la2 da2 dc2 (X2p Z tgt)/\Sat B w' J (blk x.xb (XC x da2 (X2p Z tgt).D.length dc2 (X2p Z tgt).now) 99::blk x.tb [I64 (X2p Z tgt).room,.slice la2 (X2p Z tgt).l.length lc2] 95::As):=by
 obtain rfl:=hX.lo;obtain rfl:=hX.us;obtain rfl:=hX.ps;refine calls Tryz.func42 rfl Tryz.ntmps42 rfl (.seq (.q 2 rfl (.seq ?_)));have hlen:=hZ.len;refine .t 2 rfl (.val (.fo 28 rfl Xn5 rfl rfl Qs96 rfl) rfl (.val (.lo rfl hS (k:=0) rfl Qg96 rfl) rfl (.q 1 rfl (.call Qf88 rfl (ec9 rfl (ec9 rfl X0)) rfl (X8l x.tb Z.room la lc Z.l (by omega) tgt B _ I hM.1 _ (hS.x [1])) ?_))));rintro _ w ⟨rfl,hS⟩;refine .q 3 rfl (.allocA (cs:=[_,_,_,_,_,_,_,_,_,_]) hS Xcw rfl ?_);intro b6 w hS;refine .so hS (k:=0) rfl rfl rfl rfl X29 rfl (by simp) ?_;intro w hS;try simp only [Yk,Ye,Y9,Y7,Yh,Ym,Yc] at hS
 refine .q 1 rfl (.nil (.seq (.seq (.t 3 rfl ?_))));refine .gval rfl rfl (fun hg1=>(by exact .fo 0 rfl X27 rfl rfl Qs3 rfl)) rfl ?_;refine .gval rfl rfl (fun hg1=>(by exact (.ld (.gd hg1 rfl) hS (k:=0) rfl Qg3 rfl))) rfl ?_;refine .gval rfl rfl (fun hg1=>(.neq (.gd hg1 rfl) (.of rfl))) rfl (.val (.po rfl rfl rfl) rfl (.nil ?_));refine .cond rfl (fun hb25=>?_) fun hb25=>?_
 ·refine .seq (.q 2 rfl (.ret (X1t Tryz.results42 rfl rfl ?_)));have hk0:¬ (getD Z.l tgt).kind=1:=by
   intro e;rcases Xag hZ.wf tgt with ⟨h1,h2⟩ | ⟨h1,_⟩
   ·rw [h2] at e; cases e
   ·rw [h1,e] at hb25; simp at hb25
  have hk1:¬ (getD Z.l tgt).kind=1:=hk0;have e1:Xj1 (xlo x) Z tgt=[]:=if_neg hk1;have e2:Xj0 Z tgt=[]:=if_neg hk1;have e3:X2p Z tgt=Z:=if_neg hk1;rw [e1,e2,e3];exact ⟨_,rfl,I,none,0,none,0,Le.refl _,rfl,Yq _,RS.nil _ 4,Yq _,RS.nil _ 1,la,lc,da,dc,hM,(hS.z [1,2] 2 1)⟩
 refine .skip (.seq (.t 2 rfl (.call Tryz.func40 rfl (ec9 rfl (ec9 rfl X0)) rfl (X92 tgt x Z hZ la lc da dc B _ I hX hM _ (hS.x [1,2])) ?_)));rintro _ w ⟨J,na,nc,hJ,rfl,hnc,hRN,hS⟩;refine .q 1 rfl (.nil (.seq (.t 2 rfl ?_)));refine .val (.fo 28 rfl Xn5 rfl rfl Qs96 rfl) rfl (.val (.lo rfl hS (k:=0) rfl Qg96 rfl) rfl (.q 1 rfl (.call Tryz.func90 rfl (ec9 rfl (ec9 rfl X0)) rfl (Xfw x.tb Z.room la lc Z.l (by omega) hZ.wf tgt B _ J (hM.1.mono hJ) _ (hS.x [1])) ?_)));rintro _ w ⟨J5,oa,oc,ga,gc,rfl,hJ5,hgc,hRG,hRO,hS⟩;refine .q 1 rfl (.nil (.seq (.q 4 rfl (.ret (X1t Tryz.results42 rfl rfl ?_)))));have hk1:(getD Z.l tgt).kind=1:=by have h9:=hb25; simp at h9; exact h9.2
 have e1:Xj1 (xlo x) Z tgt=X3m (xlo x) Z tgt:=if_pos hk1;have e2:Xj0 Z tgt=(below Z.l tgt):=if_pos hk1;have e3:X2p Z tgt=Xo6 Z tgt:=if_pos hk1;rw [e1,e2,e3];exact ⟨_,rfl,J5,na,nc,ga,gc,hJ.trans hJ5,rfl,hnc,hRN.mono hJ5,hgc,hRG,oa,oc,da,dc,⟨hRO,hM.2.1.mono (hJ.trans hJ5),hM.2.2⟩,(hS.z [1] 2 1)⟩
theorem X7h (a b:Option Addr) (ca cb:Nat) (l:List Nt) (hl:l.length<=100000) (B w:World) (I:Im) (hA:RS I a 4 l.length (X9 X8 l)) (hB:RS I b 4 l.length (X9 X8 l)) (As:List X7) (hS:Sat B w I As) :
  Calls Tryz.prog 19 [.slice a l.length ca,.slice b l.length cb].toArray w (Ret fun v w'=>v=.bool true/\Sat B w' I As) :=
 (Xfx a b ca cb l l hl B w I hA hB As hS).mono fun e w' ⟨v,he,hv,hS⟩=>⟨v,he,by rw [hv,decide_eq_true rfl],hS⟩
theorem Xkk (a b:Option Addr) (ca cb:Nat) (l:List (List UInt8)) (hca:l.length<=ca) (hcb:l.length<=cb) (hl:l.length<=100000) (B w:World) (I:Im) (hA:RS I a 1 l.length (l.map S)) (hB:RS I b 1 l.length (l.map S)) (As:List X7) (hS:Sat B w I As) :
  Calls Tryz.prog 43 [.slice a l.length ca,.slice b l.length cb].toArray w (Ret fun v w'=>v=.bool true/\Sat B w' I As) :=
 (Xn9 a b ca cb l l hca hcb (by omega) B w I hA hB As hS).mono fun e w' ⟨v,he,hv,hS⟩=>⟨v,he,by rw [hv,decide_eq_true rfl],hS⟩
theorem Xer (a b:Option Addr) (ca cb:Nat) (l:List Rec) (hl:l.length<=100000) (B w:World) (I:Im) (hA:RS I a 10 l.length (X9 X5 l)) (hB:RS I b 10 l.length (X9 X5 l)) (As:List X7) (hS:Sat B w I As) :
  Calls Tryz.prog 44 [.slice a l.length ca,.slice b l.length cb].toArray w (Ret fun v w'=>v=.bool true/\Sat B w' I As) :=
 (Xeq a b ca cb l l (by omega) B w I hA hB As hS).mono fun e w' ⟨v,he,hv,hS⟩=>⟨v,he,by rw [hv,decide_eq_true rfl],hS⟩
theorem Xw7 {Z:Wd} (h:Xc2 Z) (t:List UInt8):Xc2 (X2p Z t):=by
 unfold X2p;split
 ·exact Xs1 h t
 ·exact h
theorem Xw6 {lo:List Sv} {Z:Wd} (h:Xc2 Z) (t:List UInt8):(Xj1 lo Z t).length<=100000/\(X3m lo Z t).length<=100000/\(Xj0 Z t).length<=100000:=by
 have h1:=X71 h.wf t;have h2:=Xaj lo Z (below Z.l t);have h3:=h.len;have h4:(X3m lo Z t).length<=100000:=by unfold X3m; omega
 refine ⟨?_,h4,?_⟩
 ·unfold Xj1; split
  ·exact h4
  ·simp
 ·unfold Xj0; split
  ·omega
  ·simp
set_option maxRecDepth 20000 in
set_option maxHeartbeats 1600000 in
theorem Xbm (c:Cf) (a:Option Addr) (cap:Nat) (ua:Option Addr) (ucap:Nat) (la:Option Addr) (lc:Nat) (l:List Rec) (hll:l.length<=9223372036854775807) (tgt:List UInt8) (now:Int) (B w:World) (I:Im) (hK:Known I) (hP:PreAt I) (hKx:Kx I) (hC:CfAt I c a cap ua ucap) (hR:RS I la 10 l.length (X9 X5 l)) (As:List X7) (hS:Sat B w I As) :
  Cz 6 [.agg (X1v c a cap ua ucap).toArray,.slice la l.length lc,S tgt,I64 now] w fun v w'=>v=.bool true/\∃ J,Le I J/\Sat B w' J As:=by
 refine calls Tryz.func6 rfl Tryz.ntmps6 rfl (.seq (.region (.boxA (cs:=X1v c a cap ua ucap) hS (.of rfl) rfl ?_)));intro b4 w hS;refine .q 1 rfl (.nil (.seq (.region (.call Tryz.func8 rfl X0 rfl (Xh0 B _ I hKx hP _ hS) ?_))));rintro _ w ⟨rfl,hS⟩;refine .q 1 rfl (.nil (.seq (.region ?_)));refine .val (.lds (vs:=X1v c a cap ua ucap) (.of rfl) hS (k:=0) rfl Qg29 Xu2 rfl (fun j v hj=>by rw [Yc]; exact hj)) rfl ?_;refine .call Tryz.func31 rfl (ec9 rfl X0) rfl (Xsc c a cap ua ucap hC.cap.1 hC.cap.2 hC.un hC.ufit B _ I hC.svs hC.us _ hS) ?_;rintro _ w ⟨rfl,hS⟩;refine .q 1 rfl (.nil (.seq (.seq (.t 3 rfl (.gm rfl rfl rfl rfl (.gval rfl rfl (fun hg1=>(.lenSlice (.gd hg1 rfl) X2y)) rfl (.gval rfl rfl (fun hg1=>(.gtr (.gd hg1 rfl) (.of rfl))) rfl (.val (.po rfl rfl rfl) rfl (.q 1 rfl (.gm rfl rfl rfl rfl (.gval rfl rfl (fun hg1=>(.len (.gd hg1 rfl) Qu9)) rfl (.gval rfl rfl (fun hg1=>(.gtr (.gd hg1 rfl) (.of rfl))) rfl (.val (.po rfl rfl rfl) rfl (.nil ?_))))))))))))));refine .cond rfl (fun hb35=>?_) fun hb35=>?_
 ·have hc35:=hb35; simp only [Y6] at hc35;refine .seq (.q 2 rfl (.ret (Xc Qr6 rfl ?_)));exact ⟨_,rfl,rfl,I,Le.refl _,(hS.y 0 1)⟩
 have hc35:=hb35; simp only [Y6] at hc35;refine .skip (.seq ?_);have hfw:fewC c=true/\l.length<=30/\tgt.length<=60:=by
  have h9:=hb35;simp only [Y10,decide_eq_false_iff_not,Y2m] at h9
  exact ⟨h9.1.1,by omega,by omega⟩
 obtain ⟨hfw1,hl30,htg⟩:=hfw;refine .region ?_;refine .val (.lds (vs:=X1v c a cap ua ucap) (.of rfl) hS (k:=0) rfl Qg29 Xu2 rfl (fun j v hj=>by rw [Yc]; exact hj)) rfl ?_;have hc0:=Xab hC hfw1;refine .call Tryz.func32 rfl (ec9 rfl X0) rfl (Xff c hc0 a cap ua ucap B _ I hK hP hC.svs hC.us _ hS) ?_;rintro v w ⟨J,hJ,hcase⟩;obtain ⟨pv,e9,rfl,hcs⟩:∃ (pv:Option Addr) (e9:Nat),v=.tuple #[.pointer pv,I64 (e9:Nat)]/\((X8g c≠0/\pv=none/\Sat B w J (blk b4 (X1v c a cap ua ucap) 29::As))\/(X8g c=0/\∃ p D,Srt.Ord (kx (ords c.svs)) c.svs.length D/\p.lo=X4w c.svs D/\p.us=c.us/\p.ps=c.ps/\pv=some (ad p.wb 0)/\WpOk J p/\Sat B w J (wdA p (w0 c)::blk b4 (X1v c a cap ua ucap) 29::As))):=by
  rcases hcase with ⟨h1,h2,h3⟩ | ⟨h1,p,D,h2,h3,h4,h5,h6,h7,h8⟩
  ·exact ⟨_,_,h2,.inl ⟨h1,rfl,h3⟩⟩
  ·exact ⟨_,0,h6,.inr ⟨h1,p,D,h2,h3,h4,h5,rfl,h7,h8⟩⟩
 rcases hcs with ⟨hne,rfl,hS⟩ | ⟨hz,p,D,hD,hlo,hus,hps,rfl,hI,hS⟩
 ·refine .vm rfl rfl (.q 4 rfl (.nil (.seq (.region ?_))));refine .val (.lds (vs:=X1v c a cap ua ucap) (.of rfl) hS (k:=0) rfl Qg29 Xu2 rfl (fun j v hj=>by rw [Yc]; exact hj)) rfl ?_;have hc:=Xab hC hfw1;refine .call Tryz.func33 rfl (ec9 rfl X0) rfl (Xao c hc a cap ua ucap B _ J (hC.mono hJ) _ hS) ?_;rintro v w hn;obtain ⟨_,rfl,hS⟩:=hn.resolve_right (fun h=>hne h.1);refine .q 5 rfl (.nil (.seq (.seq (.t 1 rfl (.val (.eqp (.of rfl) (.of rfl) Qu67) rfl (.q 1 rfl (.gm rfl rfl rfl rfl (.gval rfl rfl (fun hg1=>(.eqp (.gd hg1 rfl) (.of rfl) Qu70)) rfl (.val (.po rfl rfl rfl) rfl (.nil (.condT (congrArg (fun b=>some (Value.bool b)) (by simp)) (.seq (.t 2 rfl (.gm rfl rfl rfl rfl (.gval rfl rfl (fun hg1=>(.eqp (.gd hg1 rfl) (.of rfl) Qu67)) rfl (.val (.pa rfl rfl rfl) rfl (.q 1 rfl (.gm rfl rfl rfl rfl (.gval rfl rfl (fun hg1=>(.eqp (.gd hg1 rfl) (.of rfl) Qu70)) rfl (.val (.pa rfl rfl rfl) rfl (.q 1 rfl (.nil (.ret (Xc Qr6 rfl ?_))))))))))))))))))))))));exact ⟨_,rfl,by simp,J,hJ,(hS.y 0 1)⟩
 refine .vm rfl rfl (.q 4 rfl (.nil (.seq (.region ?_))));refine .val (.lds (vs:=X1v c a cap ua ucap) (.of rfl) hS (k:=1) rfl Qg29 Xu2 rfl (fun j v hj=>by rw [Yc]; exact hj)) rfl ?_;have hc:=Xab hC hfw1;refine .call Tryz.func33 rfl (ec9 rfl X0) rfl (Xao c hc a cap ua ucap B _ J (hC.mono hJ) _ hS) ?_;rintro v w hn;obtain ⟨_,xb,tb,rfl,hS⟩:=hn.resolve_left (fun h=>h.1 hz);obtain ⟨x,hx9⟩:∃ x:Xp,x=⟨xb,tb,c,a,cap,ua,ucap,D⟩:=⟨_,rfl⟩
 have hX:XpOk J x p.lo p.us p.ps:=by rw [hx9]; exact ⟨hC.mono hJ,hc,hz,hD,hlo,hus,hps⟩
 rw [show ptr xb 0=ptr x.xb 0 by rw [hx9]];replace hS:Sat B w J (blk x.xb (XC x none (w0 c).D.length 0 (w0 c).now) 99::blk x.tb [I64 (w0 c).room,.slice none (w0 c).l.length 0] 95::wdA p (w0 c)::blk b4 (X1v c a cap ua ucap) 29::As):=by rw [hx9]; exact hS
 have hM0:RwM J none none 0 (w0 c):=⟨RS.nil _ _,RS.nil _ _,Yq _⟩
 refine .q 5 rfl (.nil (.seq (.seq (.t 1 rfl (.val (.eqp (.of rfl) (.of rfl) Qu67) rfl (.q 1 rfl (.gm rfl rfl rfl rfl (.gval rfl rfl (fun hg1=>(.eqp (.gd hg1 rfl) (.of rfl) Qu70)) rfl (.val (.po rfl rfl rfl) rfl (.nil (.condF (congrArg (fun b=>some (Value.bool b)) (by simp)) (.skip (.seq (.seq (.q 1 rfl (.block ?_))))))))))))))));replace hS:=(hS.pick 2 rfl).drop (k:=3) rfl;try dsimp only [List.eraseIdx] at hS
 refine .loop (σ:=Nat) (fun i=>[(1,.slice la l.length lc),(2,S tgt),(3,I64 now),(9,.bool true),(11,ptr p.wb 0),(13,ptr x.xb 0),(15,I64 (i:Nat))]) (fun i w=>i<=l.length/\(∀ (j:Nat) r,j<i->l[j]?=some r->Xfa r=true)/\Sat B w J (wdA p ((l.take i).foldl X4b (w0 c))::blk x.xb (XC x none (w0 c).D.length 0 (w0 c).now) 99::blk x.tb [I64 (w0 c).room,.slice none (w0 c).l.length 0] 95::As)) (fun i=>l.length - i) 0 ⟨rfl,rfl,rfl,rfl,rfl,rfl,rfl,trivial⟩ ⟨Yo _,fun _ _ h=>absurd h (by omega),hS⟩ ?_;rintro i w ⟨hi,hno,hS⟩;refine .seq (.seq (.region (.run 4 rfl ⟨⟨_,X2y⟩,trivial⟩ (.nil ?_))));refine .cond rfl (fun hb65=>?_) fun hb65=>?_
 ·have hc65:=hb65; simp only [Y6] at hc65;refine .skip (.seq (.block (.seq ?_)));obtain ⟨r,hr⟩:∃ r,l[i]?=some r:=⟨_,Y4 (by omega)⟩
  obtain ⟨pp,hp9,hx⟩:=X9f (cells:=X5) (s:=10) (fun _=>rfl) hR hr;subst hp9;refine .t 2 rfl (.val (.ii rfl rfl (by omega) (by omega) X2y X29) rfl (.val (.ldsI (.of rfl) hS (hx.mono hJ) Xbn X29 rfl (fun _ _ h=>h)) rfl (.call Tryz.func34 rfl (ec9 rfl X0) rfl (Xl0 r B _ J _ hS) ?_)));rintro _ w ⟨rfl,hS⟩;refine .q 1 rfl (.nil (.seq (.seq (.q 2 rfl ?_))));refine .cond rfl (fun hb74=>?_) fun hb74=>?_
  ·have hc74:=hb74; simp only [Y6] at hc74;refine .seq (.q 2 rfl (.ret (Xc Qr6 rfl ?_)));exact ⟨_,rfl,rfl,J,hJ,(hS.y 0 3)⟩
  have hc74:=hb74; simp only [Y6] at hc74;refine .skip ?_;obtain ⟨⟨a9,c9,ma9,mc9⟩,hS⟩:=Sat.unbox hS;replace hS:Sat B _ _ (blk p.wb (wdC p ((l.take i).foldl X4b (w0 c))) 81::blk p.tb [I64 ((l.take i).foldl X4b (w0 c)).room,.slice a9 ((l.take i).foldl X4b (w0 c)).l.length c9] 155::Vec 75 10 (.slice a9 ((l.take i).foldl X4b (w0 c)).l.length c9) ((l.take i).foldl X4b (w0 c)).l.length (Xr ((l.take i).foldl X4b (w0 c)).l)::blk p.mb [.slice ma9 ((l.take i).foldl X4b (w0 c)).D.length mc9] 203::Xna 62 (.slice ma9 ((l.take i).foldl X4b (w0 c)).D.length mc9) (((l.take i).foldl X4b (w0 c)).D.map fun d=>U64 (d:Nat))::_):=hS;have hZ:=X5q (l.take i) (Xq7 c);have hlen:=hZ.len;have hrs:r.name.length<=60/\r.parent.length<=60:=by
   have h9:Xfa r=true:=by simpa using hb74
   unfold Xfa at h9;simp only [Yn,decide_eq_true_eq] at h9
   omega
  refine .dw (fun w=>∃ R,Sat B w J (blk p.wb (wdC p ((l.take i).foldl X4b (w0 c))) 81::R)) (fun j=>!([].contains j)) ?_;replace hS:=hS.drew; generalize w.drew=w at hS ⊢;have hH:∃ R,Sat B w J (blk p.wb (wdC p ((l.take i).foldl X4b (w0 c))) 81::R):=⟨_,(hS.x [0])⟩
  refine .tp 0 rfl (fun w=>(.mo rfl)) (.tp 1 rfl (fun w=>(.no rfl)) ?_);refine .tp 2 rfl (fun w=>(.fo 0 rfl Xn4 rfl rfl Qs76 rfl)) (.tk 3 rfl hH (fun w ⟨R,hS⟩=>(.lo rfl hS (k:=0) rfl Xu1 rfl)) (.tp 4 rfl (fun w=>(.mo rfl)) (.tp 5 rfl (fun w=>(.mo rfl)) ?_)));refine .tp 6 rfl (fun w=>(.ii rfl rfl (by omega) (by omega) X2y X29)) (.tk 7 rfl hH (fun w ⟨R,hS⟩=>.ldsI (.of rfl) hS (hx.mono hJ) Xbn X29 rfl (fun _ _ h=>h)) (.b1 8 rfl (.call Tryz.func35 rfl (ec9 rfl (ec9 rfl X0)) rfl (Xut p.tb ((l.take i).foldl X4b (w0 c)).room a9 c9 ((l.take i).foldl X4b (w0 c)).l (by omega) r (by omega) (by omega) B _ J hI.known hI.pre _ (hS.x [2,2])) ?_)));rintro _ w ⟨rfl,a2,c2,hS⟩;try dsimp only [List.eraseIdx] at hS
  refine .nil ?_;clear hH;have hH:∃ R,Sat B w J (blk p.wb (wdC p ((l.take i).foldl X4b (w0 c))) 81::R):=⟨_,(hS.x [2])⟩
  refine ⟨fun _ _=>hH,?_⟩;refine .dn (.region (.run 3 rfl ⟨⟨by omega,by omega⟩,trivial⟩ (.nil ?_)));replace hS:=Sat.box (T:=wdT p (X4b ((l.take i).foldl X4b (w0 c)) r)) (a2,c2,ma9,mc9) (((((hS.pick 4 rfl).pick 4 rfl).pick 3 rfl).pick 3 rfl).pick 4 rfl);try dsimp only [List.eraseIdx] at hS
  refine ⟨i+1,⟨rfl,rfl,rfl,rfl,rfl,rfl,rfl,trivial⟩,⟨by (try dsimp only); omega,fun j t9 hj ht=>?_,?_⟩,by (try dsimp only); omega⟩
  ·rcases Yp j i with h1 | h1
   ·exact hno j t9 h1 ht
   ·have e:j=i:=by omega
    subst e;rw [hr] at ht; cases ht;simpa using hb74
  show Sat B _ J (wdA p ((l.take (i+1)).foldl X4b (w0 c))::_)
  rw [Yz,hr,Y1e,Y2r];exact (hS.x [2,2,2])
 have hc65:=hb65; simp only [Y6] at hc65;refine .exit (.seq (.region ?_));have hil:i=l.length:=by omega
 rw [hil,Y15] at hS;have hfw2:∀ r∈l,r.name.length<=60/\r.parent.length<=60:=fun r hr=>by
  obtain ⟨j,hj⟩:=Yy.1 hr;have h9:=hno j r (by have:=(Y5.1 hj).1; omega) hj;unfold Xfa at h9;simp only [Yn,decide_eq_true_eq] at h9
  omega
 refine .vm rfl rfl (.q 1 rfl (.call Tryz.func36 rfl (ec9 rfl (ec9 rfl X0)) rfl (Xfu la lc l hll hfw2 x (w0 c) (Xq7 c) none 0 none 0 B _ J hX (hR.mono hJ) hM0 _ (hS.x [2,2])) ?_));rintro _ w ⟨rfl,J2,xa,xc,da,dc,hJ2,hM2,hS⟩;try dsimp only [List.eraseIdx] at hS
 refine .nil (.seq (.t 2 rfl (.call Tryz.func37 rfl (ec9 rfl (ec9 rfl X0)) rfl (Xre p _ now (X5q l (Xq7 c)) B _ J2 _ (hS.x [2])) ?_)));rintro _ w ⟨rfl,hS⟩;try dsimp only [List.eraseIdx] at hS
 refine .nil (.seq (.t 2 rfl (.call Tryz.func38 rfl (ec9 rfl (ec9 rfl X0)) rfl (Xi0 now x (l.foldl X4b (w0 c)) (X5q l (Xq7 c)) xa xc da dc B _ J2 (hX.mono hJ2) hM2 _ (hS.x [2,2])) ?_)));rintro _ w ⟨rfl,hS⟩;try dsimp only [List.eraseIdx] at hS
 refine .nil (.seq (.seq ?_));have hZ9:=Xsw c l now;have hle9:=Xw6 (lo:=p.lo) hZ9 tgt;refine .t 2 rfl (.call Tryz.func39 rfl (ec9 rfl (ec9 rfl X0)) rfl (Xeh tgt p (X17 c l now) hZ9 B _ J2 (hI.mono hJ2) _ (hS.x [2])) ?_);rintro _ w ⟨J3,na1,nc1,hJ3,rfl,hnc1,hRN1,hS⟩;try dsimp only [List.eraseIdx] at hS
 refine .q 2 rfl (.call Tryz.func40 rfl (ec9 rfl (ec9 rfl X0)) rfl (X92 tgt x (X17 c l now) hZ9 xa xc da dc B _ J3 (hX.mono (hJ2.trans hJ3)) (hM2.mono hJ3) _ (hS.x [2,2])) ?_);rintro _ w ⟨J4,na2,nc2,hJ4,rfl,hnc2,hRN2,hS⟩;try dsimp only [List.eraseIdx] at hS
 refine .call Tryz.func19 rfl (ec9 rfl (ec9 rfl X0)) rfl (X7h na1 na2 nc1 nc2 _ hle9.2.1 B _ J4 (hRN1.mono hJ4) hRN2 _ hS) ?_;rintro _ w ⟨rfl,hS⟩;refine .q 1 rfl (.nil (.condF (congrArg (fun b=>some (Value.bool b)) (by simp)) (.skip (.seq (.t 2 rfl (.call Tryz.func41 rfl (ec9 rfl (ec9 rfl X0)) rfl (Xuv tgt p (X17 c l now) hZ9 B _ J4 (hI.mono ((hJ2.trans hJ3).trans hJ4)) _ (hS.x [2])) ?_))))));rintro _ w ⟨J7,na3,nc3,ga3,gc3,hJ7,rfl,hnc3,hRN3,hgc3,hRG3,hS⟩;try dsimp only [List.eraseIdx] at hS
 refine .q 5 rfl (.nil (.seq (.t 2 rfl (.call Tryz.func42 rfl (ec9 rfl (ec9 rfl X0)) rfl (Xlq tgt x (X17 c l now) hZ9 xa xc da dc B _ J7 (hX.mono (((hJ2.trans hJ3).trans hJ4).trans hJ7)) (hM2.mono ((hJ3.trans hJ4).trans hJ7)) _ (hS.x [2,2])) ?_))));rintro _ w ⟨J8,na4,nc4,ga4,gc4,hJ8,rfl,hnc4,hRN4,hgc4,hRG4,xa7,xc7,da7,dc7,hM7,hS⟩;try dsimp only [List.eraseIdx] at hS
 refine .q 5 rfl (.nil (.seq ?_));replace hS:=(hS.pick 2 rfl)
 try dsimp only [List.eraseIdx] at hS
 obtain ⟨⟨a7,c7,ma7,mc7⟩,hS⟩:=Sat.unbox hS;replace hS:Sat B _ _ (blk p.wb (wdC p (X2p (X17 c l now) tgt)) 81::blk p.tb [I64 (X2p (X17 c l now) tgt).room,.slice a7 (X2p (X17 c l now) tgt).l.length c7] 155::Vec 75 10 (.slice a7 (X2p (X17 c l now) tgt).l.length c7) (X2p (X17 c l now) tgt).l.length (Xr (X2p (X17 c l now) tgt).l)::blk p.mb [.slice ma7 (X2p (X17 c l now) tgt).D.length mc7] 203::Xna 62 (.slice ma7 (X2p (X17 c l now) tgt).D.length mc7) ((X2p (X17 c l now) tgt).D.map fun d=>U64 (d:Nat))::_):=hS;have hZe:=Xw7 hZ9 tgt;have hlen:=hZe.len;refine .dw (fun w=>∃ J9 R,Le J8 J9/\Sat B w J9 (blk p.wb (wdC p (X2p (X17 c l now) tgt)) 81::blk x.xb (XC x da7 (X2p (X17 c l now) tgt).D.length dc7 (X2p (X17 c l now) tgt).now) 99::blk x.tb [I64 (X2p (X17 c l now) tgt).room,.slice xa7 (X2p (X17 c l now) tgt).l.length xc7] 95::R)) (fun j=>!([].contains j)) ?_;replace hS:=hS.drew; generalize w.drew=w at hS ⊢;have hH:∃ J9 R,Le J8 J9/\Sat B w J9 (blk p.wb (wdC p (X2p (X17 c l now) tgt)) 81::blk x.xb (XC x da7 (X2p (X17 c l now) tgt).D.length dc7 (X2p (X17 c l now) tgt).now) 99::blk x.tb [I64 (X2p (X17 c l now) tgt).room,.slice xa7 (X2p (X17 c l now) tgt).l.length xc7] 95::R):=⟨_,_,Le.refl _,(hS.x [6,6,2])⟩
 refine .tp 0 rfl (fun w=>(.mo rfl)) (.tp 1 rfl (fun w=>(.mo rfl)) (.tg 2 rfl hH rfl rfl (fun hg1 w ⟨J9,R,hL9,hS⟩=>(.mo rfl)) (.tg 3 rfl hH rfl rfl (fun hg1 w ⟨J9,R,hL9,hS⟩=>(.mo rfl)) ?_)));refine .b1 4 rfl (.opn rfl rfl rfl (.call Tryz.func19 rfl (Xd (.gd (b:=true) (want:=true) rfl rfl) (Xd (.gd (b:=true) (want:=true) rfl rfl) X0)) rfl (X7h na3 na4 nc3 nc4 _ hle9.1 B _ J8 (hRN3.mono hJ8) hRN4 _ hS) ?_));rintro _ w ⟨rfl,hS⟩;refine .nil ?_;clear hH;have hH:∃ J9 R,Le J8 J9/\Sat B w J9 (blk p.wb (wdC p (X2p (X17 c l now) tgt)) 81::blk x.xb (XC x da7 (X2p (X17 c l now) tgt).D.length dc7 (X2p (X17 c l now) tgt).now) 99::blk x.tb [I64 (X2p (X17 c l now) tgt).room,.slice xa7 (X2p (X17 c l now) tgt).l.length xc7] 95::R):=⟨_,_,Le.refl _,(hS.x [6,6,2])⟩
 refine ⟨fun _ _=>hH,?_⟩;refine .tp 5 rfl (fun w=>(.pa rfl rfl rfl)) (.tp 6 rfl (fun w=>(.mo rfl)) (.tg 7 rfl hH rfl rfl (fun hg1 w ⟨J9,R,hL9,hS⟩=>(.mo rfl)) (.tg 8 rfl hH rfl rfl (fun hg1 w ⟨J9,R,hL9,hS⟩=>(.mo rfl)) ?_)));refine .b1 9 rfl (.opn rfl rfl rfl (.call Tryz.func43 rfl (Xd (.gd (b:=true) (want:=true) rfl rfl) (Xd (.gd (b:=true) (want:=true) rfl rfl) X0)) rfl (Xkk ga3 ga4 gc3 gc4 _ hgc3 hgc4 hle9.2.2 B _ J8 (hRG3.mono hJ8) hRG4 _ hS) ?_));rintro _ w ⟨rfl,hS⟩;refine .nil ?_;clear hH;have hH:∃ J9 R,Le J8 J9/\Sat B w J9 (blk p.wb (wdC p (X2p (X17 c l now) tgt)) 81::blk x.xb (XC x da7 (X2p (X17 c l now) tgt).D.length dc7 (X2p (X17 c l now) tgt).now) 99::blk x.tb [I64 (X2p (X17 c l now) tgt).room,.slice xa7 (X2p (X17 c l now) tgt).l.length xc7] 95::R):=⟨_,_,Le.refl _,(hS.x [6,6,2])⟩
 refine ⟨fun _ _=>hH,?_⟩;refine .tp 10 rfl (fun w=>(.pa rfl rfl rfl)) (.tp 11 rfl (fun w=>(.mo rfl)) (.tg 12 rfl hH rfl rfl (fun hg1 w ⟨J9,R,hL9,hS⟩=>(.mo rfl)) (.tg 13 rfl hH rfl rfl (fun hg1 w ⟨J9,R,hL9,hS⟩=>(.nilCheck (.gd hg1 rfl))) ?_)));refine .tg 14 rfl hH rfl rfl (fun hg1 w ⟨J9,R,hL9,hS⟩=>(.fieldAddr 0 (.gd hg1 rfl) Xn4 rfl rfl Qs76 rfl)) (.tg 15 rfl hH rfl rfl (fun hg1 w ⟨J9,R,hL9,hS⟩=>((.ld (.gd hg1 rfl) hS (k:=0) rfl Xu1 rfl))) (.tg 17 rfl hH rfl rfl (fun hg1 w ⟨J9,R,hL9,hS⟩=>(.mo rfl)) (.tg 18 rfl hH rfl rfl (fun hg1 w ⟨J9,R,hL9,hS⟩=>(.nilCheck (.gd hg1 rfl))) ?_)));refine .tg 19 rfl hH rfl rfl (fun hg1 w ⟨J9,R,hL9,hS⟩=>(.fieldAddr 28 (.gd hg1 rfl) Xn5 rfl rfl Qs96 rfl)) (.tg 20 rfl hH rfl rfl (fun hg1 w ⟨J9,R,hL9,hS⟩=>((.ld (.gd hg1 rfl) hS (k:=1) rfl Qg96 rfl))) (.tg 21 rfl hH rfl rfl (fun hg1 w ⟨J9,R,hL9,hS⟩=>(.nilCheck (.gd hg1 rfl))) (.tg 22 rfl hH rfl rfl (fun hg1 w ⟨J9,R,hL9,hS⟩=>(.fieldAddr 1 (.gd hg1 rfl) Xe6 rfl rfl X6f rfl)) (.tg 23 rfl hH rfl rfl (fun hg1 w ⟨J9,R,hL9,hS⟩=>((.ld (.gd hg1 rfl) hS (k:=2) rfl Xcv rfl))) (.b1 16 rfl (.opn rfl rfl rfl (.call Tryz.func45 rfl (Xd (.gd (b:=true) (want:=true) rfl rfl) X0) rfl (Xgy p.tb (X2p (X17 c l now) tgt).room a7 c7 (X2p (X17 c l now) tgt).l (by omega) B _ J8 _ (hS.x [2,2])) ?_)))))));rintro _ w ⟨J9_,wa,wc,rfl,hJ9,hwc,hRW,hS⟩;refine .nil ?_;clear hH;have hH:∃ J9 R,Le J8 J9/\Sat B w J9 (blk p.wb (wdC p (X2p (X17 c l now) tgt)) 81::blk x.xb (XC x da7 (X2p (X17 c l now) tgt).D.length dc7 (X2p (X17 c l now) tgt).now) 99::blk x.tb [I64 (X2p (X17 c l now) tgt).room,.slice xa7 (X2p (X17 c l now) tgt).l.length xc7] 95::R):=⟨_,_,hJ9,(hS.x [6,6,4])⟩
 refine ⟨fun _ _=>hH,?_⟩;refine .b1 24 rfl (.opn rfl rfl rfl (.call Tryz.func44 rfl (ec9 rfl (Xd (.gd (b:=true) (want:=true) rfl rfl) X0)) rfl (Xer wa xa7 wc xc7 (X2p (X17 c l now) tgt).l (by omega) B _ J9_ hRW (hM7.1.mono hJ9) _ hS) ?_));rintro _ w ⟨rfl,hS⟩;refine .nil ?_;clear hH;have hH:∃ J9 R,Le J8 J9/\Sat B w J9 (blk p.wb (wdC p (X2p (X17 c l now) tgt)) 81::blk x.xb (XC x da7 (X2p (X17 c l now) tgt).D.length dc7 (X2p (X17 c l now) tgt).now) 99::blk x.tb [I64 (X2p (X17 c l now) tgt).room,.slice xa7 (X2p (X17 c l now) tgt).l.length xc7] 95::R):=⟨_,_,hJ9,(hS.x [6,6,4])⟩
 refine ⟨fun _ _=>hH,?_⟩;refine .tp 25 rfl (fun w=>(.pa rfl rfl rfl)) (.tp 26 rfl (fun w=>(.ao rfl)) (.dn (.ret (Xc Qr6 rfl ?_))));exact ⟨_,rfl,rfl,J9_,hJ.trans (hJ2.trans (hJ3.trans (hJ4.trans (hJ7.trans (hJ8.trans hJ9))))),(hS.y 0 7)⟩
end Go.Proofs.YtbciobiiejpdgaaGreatDoor
namespace Gk
open Go Go.RowKit Go.WideShapes Go.ChangeShapes
section
variable {H:Type} {enc:TypeId×Value->H}
def WitT (enc:TypeId×Value->H) (a:Assume) (C:Checked) (os:Os) (f:FuncId) (fn:Func) (s:ChangeSpec) (conds:List PathCond) (apart:Bool) (X:World->Array Value->Prop):Prop :=
  ∃ (w:World) (tape:Tape) (i:Input),w.os=os/\(w.forCall tape i).Shaped C.prog/\i.vars=[]/\Input.okWide C.prog (w.forCall tape i) .any w.heap.size f i /\
   ((s.pre enc C.prog fn conds apart (w.forCall tape i).memory i.args/\X (w.forCall tape i).memory i.args)/\sizedMet enc C.prog fn (OpenSpec.ofChange s) apart (w.forCall tape i).memory i.args)/\a.holds C.prog (lone (Frame.enter C.prog f i.args .normal) [] (w.forCall tape i))
theorem X7j {a:Assume} {C:Checked} {os:Os} {f:FuncId} {fn:Func} {s:ChangeSpec} {conds:List PathCond} {apart fresh handsOn again:Bool} {X:World->Array Value->Prop}
  (hX:∀ (w w':World) (args:Array Value),w.heap=w'.heap->X w args->X w' args)
  (own:ownKnob C.prog.godebug=none) (started:os.Started) (noInit:C.prog.inits.idxOf? f=none) (hfn:C.prog.funcs[f]?=some fn)
  (witness:WitT enc a C os f fn s conds apart X)
  (contract:∀ (W:World) (base:Nat) (args:Array Value) (ds gs:List (DataW H)) (before:List MemPlace),
   (∀ (j:Nat) t v,fn.params[j]?=some t->args[j]?=some v->Value.okWide C.prog W .any base t v) ->
   DataW.Whole enc C.prog fn.params.toList s.vars apart W args.toList ds gs before->X W args->W.ShapedOpen C.prog ->
   Calls C.prog f args W fun e W'=>∃ v,e=.returned v/\s.post enc C.prog fn apart fresh handsOn again W args v W') :
  ReturnsInHanded a C os f .any (fun w args=>(s.pre enc C.prog fn conds apart w args/\X w args)/\sizedMet enc C.prog fn (OpenSpec.ofChange s) apart w args) (s.post enc C.prog fn apart fresh handsOn again):=by
 refine returnsInHanded_of_calls own started noInit witness ?_;intro w tape i _ hsh _ hok hpre _;obtain ⟨_,_,_,fn',hfn',_,_,_,_,hval⟩:=hok;have e:fn'=fn:=Option.some.inj (hfn'.symm.trans hfn);subst e;obtain ⟨⟨⟨ds,gs,before,hw,hc⟩,hx⟩,hz⟩:=hpre;have hw':=DataW.Whole.of_heap (w':=w.forCall tape i) (by rfl) hw;refine (contract (w.forCall tape i) w.heap.size i.args ds gs before hval hw' (hX _ _ _ (by rfl) hx) hsh).mono fun e W' ⟨v,he,hp⟩=>?_
 subst he;exact ChangeSpec.post_blind hp
end
section
variable {P:Program} {W:World}
theorem X3s {name:String} {k:IntKind} {zs:List Int} {g:Nat} {t e:TypeId} {n:Nat}
  (hg:P.globalNamed name=some g) (hty:(P.globals[g]?).map (·.type)=some t) (ht:P.underlying t=some (.array n e)) (he:P.underlying e=some (.int k)) (hce:P.cellsOf e=1) (hct:P.cellsOf t=n)
  (h:Lib.VarReads P W name (Lib.tabData k zs)):Lib.TabIs P W name k zs:=by
 obtain ⟨g',t',cs,fuel,p,hg',ht',hvar,hd⟩:=h;obtain rfl:=Option.some.inj (hg.symm.trans hg');obtain rfl:=Option.some.inj (hty.symm.trans ht');unfold Lib.TabIs;rw [hvar,<- Lib.cells_of_tab ht he hce hct hd]
theorem tab_at {name:String} {k:IntKind} {zs:List Int} {g:Nat} (hg:P.globalNamed name=some g) (h:Lib.TabIs P W name k zs) (h0:0<zs.length):At (im0 W) (ad g 0) (zs.map fun z=>.int k z):=by
 refine Xis (by rw [Y14]; exact h0) fun j v hj=>?_
 rw [Yu] at hj;cases hz:zs[j]? with
 | none=>rw [hz] at hj; cases hj
 | some z =>
  rw [hz] at hj;have hjl:=(Y5.1 hz).1;have hc:=h.cell hg j hjl;rw [X15,Yc,hc,Y8,hz,<- hj];rfl
variable {B w:World} {As:List X7}
theorem Xey {b:Nat} {o:Obj} (h:W.heap[b]?=some o) (hS:Sat B w (im0 W) As):w.heap[b]?=some o:=by
 obtain ⟨_,_,hg⟩:=hS;exact hg.imm b o h
theorem Xpw {name:String} {k:IntKind} {zs:List Int} (h:Lib.TabIs P W name k zs) (hS:Sat B w (im0 W) As):Lib.TabIs P w name k zs:=by
 unfold Lib.TabIs World.var? at h ⊢;cases hg:P.globalNamed name with
 | none=>rw [hg] at h; cases h
 | some g =>
  rw [hg] at h;simp only [Y38] at h ⊢
  cases hb:W.heap[g]? with
  | none=>rw [hb] at h; cases h
  | some o =>
   rw [Xey hb hS];rw [hb] at h;exact h
theorem X9g {a:Addr} {v:Value} (h:W.cell? a=some v) (hS:Sat B w (im0 W) As):w.cell? a=some v:=by
 unfold World.cell? at h ⊢;cases hb:W.heap[a.block]? with
 | none=>rw [hb] at h; cases h
 | some o=>rw [Xey hb hS]; rw [hb] at h; exact h
end
end Gk
namespace Go.Proofs.YtbciobiiejpdgaaGreatDoor
open Gk Pc
theorem Xkx:Rows.laid_matricula_pct_digits (H:=Unit)=Lib.tabData .u8 (HIGH.map fun c=>(c.toNat:Int)):=by kernel_rfl
theorem Xpf:Rows.laid_internal_strconv_uint64pow10 (H:=Unit)=Lib.tabData .u64 Lib.pow10Tab:=by kernel_rfl
def Xdy {H:Type} (zs:List (List UInt8)):DataW H:=.agg (zs.map fun z=>.lit (.string z))
theorem Xx2:Rows.laid_matricula_ticket_prefixes (H:=Unit)=Xdy PREV:=by kernel_rfl
theorem Xbt {H:Type} {enc:TypeId×Value->H} {P:Program} {w:World} {base:Nat} {sp:Nat->Bool} {held:Bool} {fuel:Nat} {t e:TypeId} {n:Nat} {cs:List Value} {zs:List (List UInt8)} {p:List MemPlace}
  (ht:P.underlying t=some (.array n e)) (he:P.underlying e=some .string) (hce:P.cellsOf e=1) (hct:P.cellsOf t=n)
  (h:DataW.trod enc P w base sp held fuel t cs=some (Xdy zs,p)):cs=zs.map S:=by
 cases fuel with
 | zero=>simp [DataW.trod] at h
 | succ fuel =>
  simp only [DataW.trod,ht,hce,hct,Y1n] at h
  split at h
  ·rename_i hl
   obtain ⟨xs,hm,hx⟩:=Y1f.1 h;have hxs:xs.map (·.1)=zs.map fun z=>(DataW.lit (.string z):DataW H):=by
    have:=congrArg Prod.fst hx
    simpa [Xdy] using this
   have hxl:xs.length=n:=by simpa using Lib.mapM_length hm
   have hzl:zs.length=n:=by
    have:=congrArg List.length hxs
    simp at this
    omega
   apply Y1x
   intro i
   by_cases hi:i<n
   ·obtain ⟨b,hb,hf⟩:=Lib.mapM_at hm i i (by simp [hi]);obtain ⟨z,hc,rfl,_⟩:=DataW.trod_string he hf;have h1:cs[i]?=some (.string z):=by
     have:=congrArg (·[0]?) hc
     simpa [Y1r,Y1d] using this
    have h2:(xs.map (·.1))[i]?=some (DataW.lit (.string z.data.toList):DataW H):=by simp [hb]
    rw [hxs] at h2;simp only [Yu,Y1f,DataW.lit.injEq,Lit.string.injEq] at h2
    obtain ⟨z',hz',e'⟩:=h2;rw [h1,Yu,hz',e'];rfl
   ·rw [Y1g (by omega),Y1g (by simp; omega)]
  ·cases h
theorem Xuj {W : World} (h : Lib.VarReads Tryz.prog W "matricula/ticket.prefixes" Rows.laid_matricula_ticket_prefixes) : PreAt (im0 W) := by
 rw [Xx2] at h;obtain ⟨g',t',cs,fuel,p,hg',ht',hvar,hd⟩:=h;obtain rfl := Option.some.inj ((show Tryz.prog.globalNamed "matricula/ticket.prefixes" = some 1 by kernel_rfl).symm.trans hg');obtain rfl:=Option.some.inj ((show (Tryz.prog.globals[1]?).map (·.type)=some 254 by kernel_rfl).symm.trans ht');have hcs:=Xbt Xn0 Qu9 (by kernel_rfl) (by kernel_rfl) hd;refine Xis (by decide) fun j v hj=>?_
 have h2:=World.var?_cell hg' hvar j;rw [X15,Yc];rw [<- Y4m,hcs,hj] at h2;exact h2
theorem Xsq {W : World} (h1 : Lib.VarReads Tryz.prog W "matricula/pct.digits" Rows.laid_matricula_pct_digits) (h2 : Lib.VarReads Tryz.prog W "internal/strconv.uint64pow10" Rows.laid_internal_strconv_uint64pow10) (h3 : Lib.VarReads Tryz.prog W "matricula/ticket.prefixes" Rows.laid_matricula_ticket_prefixes) (hsh : W.ShapedOpen Tryz.prog) : Known (im0 W) ∧ PreAt (im0 W) := by
 refine ⟨?_,Xuj h3⟩;rw [Xkx] at h1;rw [Xpf] at h2;have t1:=X3s (g:=9) (by kernel_rfl) (by kernel_rfl) Xr9 Qu5 (by kernel_rfl) (by kernel_rfl) h1;have t2:=X3s (g:=5) (by kernel_rfl) (by kernel_rfl) Xr8 Xn3 (by kernel_rfl) (by kernel_rfl) h2;refine ⟨tab_at (g:=9) (by kernel_rfl) t1 (by decide),fun B w As hS=>Xpw t2 hS,fun B w As hS=>?_⟩;obtain ⟨m,hm⟩:=Go.Proofs.cell_of_shapedOpen_int (g:=6) (t:=3) (zero:=#[.int .i64 0]) (k:=.i64) hsh (by decide +kernel) (by kernel_rfl) (by kernel_rfl) (by kernel_rfl) (by kernel_rfl) Qu3;exact ⟨m,X9g hm hS⟩
end Go.Proofs.YtbciobiiejpdgaaGreatDoor
namespace Go.Proofs.YtbciobiiejpdgaaGreatDoor
open Gk Pc Xm Pat Tk Go.ChangeMaps Go.ChangeShapes Go.RowKit
theorem Xla {H:Type} {enc:TypeId×Value->H} {P:Program} {w:World} {base:Nat} {sp:Nat->Bool} {held:Bool} {fuel:Nat} {t:TypeId} {cs:List Value} {nm:String} {d:DataW H} {p:List MemPlace} {ms:Array (String×TypeId)} (ht:P.underlying t=some (.interface ms)) (h:DataW.trod enc P w base sp held fuel t cs=some (.iface nm d,p)):∃ u v,cs=[.iface u v]:=by
 cases fuel with
 | zero=>simp [DataW.trod] at h
 | succ fuel =>
  unfold DataW.trod at h;rw [ht] at h;split at h <;> simp_all
theorem X44 {W:World} {sp:Nat->Bool} {held:Bool} {fuel:Nat} {cs:List Value} {y:DataW Unit×List MemPlace} {a b:List UInt8} (h:DataW.trod (fun _=>()) Tryz.prog W 0 sp held fuel 136 cs=some y) (hy:y.1=.agg [.lit (.string a),.lit (.string b)]):cs=[S a,S b]:=by
 obtain ⟨xs,n,_,hx,hcl,hxl,hf⟩:=DataW.trod_struct X3j h;rw [show Tryz.prog.cellsOf 136=2 from by kernel_rfl] at hcl;have h0:DataW.trod (fun _=>()) Tryz.prog W 0 sp held n 9 ((cs.drop 0).take (Tryz.prog.cellsOf 9))=xs[0]?:=hf 0 _ rfl;have h1:DataW.trod (fun _=>()) Tryz.prog W 0 sp held n 9 ((cs.drop 1).take (Tryz.prog.cellsOf 9))=xs[1]?:=hf 1 _ rfl;rw [show Tryz.prog.cellsOf 9=1 from by kernel_rfl] at h0 h1;have hxl2:xs.length=2:=hxl;clear hf hxl h;obtain ⟨u,v,rfl⟩:∃ u v,cs=[u,v]:=by
  match cs,hcl with
  | [u,v],_=>exact ⟨u,v,rfl⟩
 obtain ⟨x0,x1,rfl⟩:∃ u v,xs=[u,v]:=by
  match xs,hxl2 with
  | [u,v],_=>exact ⟨u,v,rfl⟩
 simp only [Y7,Yh,Y1l,Yk] at h0 h1
 obtain ⟨s0,e0,ex0,_⟩:=DataW.trod_string Qu9 (h0.trans rfl);obtain ⟨s1,e1,ex1,_⟩:=DataW.trod_string Qu9 (h1.trans rfl);subst hx;simp only [Y1b,Y3a,DataW.agg.injEq,List.cons.injEq,and_true] at hy
 rw [ex0,ex1] at hy;simp only [DataW.lit.injEq,Lit.string.injEq] at hy
 obtain ⟨rfl,rfl⟩:=hy;injection e0 with e0; injection e1 with e1
 rw [e0,e1]
theorem Xhk {W:World} {sp:Nat->Bool} {held:Bool} {fuel:Nat} {cs:List Value} {p:List MemPlace} (h:DataW.trod (fun _=>()) Tryz.prog W 0 sp held fuel 258 cs=some (Rows.laid_matricula_xml_marks,p)):cs=MKC:=by
 obtain ⟨xs,n,_,hx,hcl,hxl,hf⟩:=DataW.trod_array Xn1 h;rw [show Tryz.prog.cellsOf 258=10 from by kernel_rfl] at hcl;rw [show Tryz.prog.cellsOf 136=2 from by kernel_rfl] at hf;have hm:=congrArg Prod.fst hx;unfold Rows.laid_matricula_xml_marks at hm
 match cs,hcl,xs,hxl with
 | [v0,v1,v2,v3,v4,v5,v6,v7,v8,v9],_,[x0,x1,x2,x3,x4],_ =>
  simp only [Y1b,Y3a,DataW.agg.injEq,List.cons.injEq,and_true] at hm
  obtain ⟨m0,m1,m2,m3,m4⟩:=hm;have f0:=X44 ((hf 0 (by decide)).trans rfl) m0.symm;have f1:=X44 ((hf 1 (by decide)).trans rfl) m1.symm;have f2:=X44 ((hf 2 (by decide)).trans rfl) m2.symm;have f3:=X44 ((hf 3 (by decide)).trans rfl) m3.symm;have f4:=X44 ((hf 4 (by decide)).trans rfl) m4.symm;simp at f0 f1 f2 f3 f4
  obtain ⟨rfl,rfl⟩:=f0;obtain ⟨rfl,rfl⟩:=f1;obtain ⟨rfl,rfl⟩:=f2;obtain ⟨rfl,rfl⟩:=f3;obtain ⟨rfl,rfl⟩:=f4;rfl
theorem Xsy {W : World} (h : Lib.VarReads Tryz.prog W "matricula/xml.marks" Rows.laid_matricula_xml_marks) : At (im0 W) (ad 2 0) MKC := by
 obtain ⟨g',t',cs,fuel,p,hg',ht',hvar,hd⟩:=h;obtain rfl := Option.some.inj ((show Tryz.prog.globalNamed "matricula/xml.marks" = some 2 by kernel_rfl).symm.trans hg');obtain rfl:=Option.some.inj ((show (Tryz.prog.globals[2]?).map (·.type)=some 258 by kernel_rfl).symm.trans ht');have hcs:=Xhk hd;refine Xis (by decide) fun j v hj=>?_
 have h2:=World.var?_cell hg' hvar j;rw [X15,Yc];rw [<- Y4m,hcs,hj] at h2;exact h2
theorem Xj2 {W:World} {nm:String} {gi:Nat} {ty:String} {d:DataW Unit} (hg:Tryz.prog.globalNamed nm=some gi) (ht:(Tryz.prog.globals[gi]?).map (·.type)=some 132) (h:Lib.VarReads Tryz.prog W nm (.iface ty d)):∃ te pe,W.cell? ⟨gi,0,none⟩=some (.iface te pe):=by
 obtain ⟨g',t',cs,fuel,p,hg',ht',hvar,hd⟩:=h;obtain rfl:=Option.some.inj (hg.symm.trans hg');obtain rfl:=Option.some.inj (ht.symm.trans ht');obtain ⟨u,v,hcs⟩:=Xla Xvg hd;have h2:=World.var?_cell hg' hvar 0;rw [<- Y4m,hcs] at h2;exact ⟨u,v,h2⟩
theorem Xle {W : World} (h2 : Lib.VarReads Tryz.prog W "internal/strconv.uint64pow10" Rows.laid_internal_strconv_uint64pow10) (h3 : Lib.VarReads Tryz.prog W "matricula/ticket.prefixes" Rows.laid_matricula_ticket_prefixes) (h4 : Lib.VarReads Tryz.prog W "matricula/xml.marks" Rows.laid_matricula_xml_marks) (h5 : Lib.VarReads Tryz.prog W "strconv.ErrSyntax" Rows.laid_strconv_ErrSyntax) (h6 : Lib.VarReads Tryz.prog W "strconv.ErrRange" Rows.laid_strconv_ErrRange) (hsh : W.ShapedOpen Tryz.prog) : Kx (im0 W) ∧ PreAt (im0 W) := by
 refine ⟨?_,Xuj h3⟩;rw [Xpf] at h2;have t2:=X3s (g:=5) (by kernel_rfl) (by kernel_rfl) Xr8 Xn3 (by kernel_rfl) (by kernel_rfl) h2;refine ⟨Xsy h4,fun B w As hS=>Xpw t2 hS,fun B w As hS=>?_,fun B w As hS=>?_,fun B w As hS=>?_⟩
 ·obtain ⟨m,hm⟩:=Go.Proofs.cell_of_shapedOpen_int (g:=6) (t:=3) (zero:=#[.int .i64 0]) (k:=.i64) hsh (by decide +kernel) (by kernel_rfl) (by kernel_rfl) (by kernel_rfl) (by kernel_rfl) Qu3;exact ⟨m,X9g hm hS⟩
 ·obtain ⟨te,pe,h⟩:=Xj2 (gi:=3) (by kernel_rfl) (by kernel_rfl) h5;exact ⟨te,pe,X9g h hS⟩
 ·obtain ⟨te,pe,h⟩:=Xj2 (gi:=4) (by kernel_rfl) (by kernel_rfl) h6;exact ⟨te,pe,X9g h hS⟩
end Go.Proofs.YtbciobiiejpdgaaGreatDoor
namespace Go.Proofs.YtbciobiiejpdgaaGreatDoor
open Gk Pc Xm Tk
theorem Xos {W : World} (h1 : Lib.VarReads Tryz.prog W "matricula/pct.digits" Rows.laid_matricula_pct_digits) (h2 : Lib.VarReads Tryz.prog W "internal/strconv.uint64pow10" Rows.laid_internal_strconv_uint64pow10) (h3 : Lib.VarReads Tryz.prog W "matricula/ticket.prefixes" Rows.laid_matricula_ticket_prefixes) (h4 : Lib.VarReads Tryz.prog W "matricula/xml.marks" Rows.laid_matricula_xml_marks) (h5 : Lib.VarReads Tryz.prog W "strconv.ErrSyntax" Rows.laid_strconv_ErrSyntax) (h6 : Lib.VarReads Tryz.prog W "strconv.ErrRange" Rows.laid_strconv_ErrRange) (hsh : W.ShapedOpen Tryz.prog) : (Known (im0 W) ∧ PreAt (im0 W)) ∧ Kx (im0 W) := ⟨Xsq h1 h2 h3 hsh, (Xle h2 h3 h4 h5 h6 hsh).1⟩
end Go.Proofs.YtbciobiiejpdgaaGreatDoor
