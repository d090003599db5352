/- Part 7 of what the proof stands on: W20e, W20i, W20j, W20k, W20d, W20l. -/
import Derived.Test.YtadhiihnnkcagaaGreatDoorM2GF
set_option linter.unusedVariables false
set_option linter.unusedSimpArgs false
namespace Go.Proofs.YtadhiihnnkcagaaGreatDoor
open Gk Ul Pc Tk Tr
theorem Xcs (a b:Option Addr) (ca cb:Nat) (la lb:List Rec) (hla:la.length≤9223372036854775807) (B w:World) (I:Im) (hA:RS I a 10 la.length (X1c X7 la)) (hB:RS I b 10 lb.length (X1c X7 lb)) (As:List X8) (hS:Sat B w I As) :
  Calls Tryz.prog 28 [.slice a la.length ca,.slice b lb.length cb].toArray w (Ret fun v w'=>v=.bool (decide (la=lb))∧Sat B w' I As):=by
 refine calls Tryz.func28 rfl Tryz.ntmps28 rfl (.seq (.q 1 rfl (.seq (.seq (.region (.run 5 rfl ⟨⟨_,X29⟩,⟨_,X29⟩,trivial⟩ (.nil ?_)))))))
 refine WC.cond rfl (fun hb10=>?_) (fun hb10=>?_)
 ·
  refine .seq (.q 1 rfl (.ret (X9 Tryz.results28 rfl ?_)))
  refine ⟨_,rfl,congrArg Value.bool (decide_eq_false fun e=>?_).symm,hS⟩
  subst e
  simp at hb10
 have hc10:=hb10; try simp only [Y6] at hc10
 refine .skip (.seq (.seq (.q 1 rfl (.block (.loop (σ:=Nat) (fun i=>[(0,.slice a la.length ca),(1,.slice b lb.length cb),(5,I64 (i:Nat))]) (fun i w=>i≤la.length∧(∀ (j:Nat),j<i→la[j]?=lb[j]?)∧Sat B w I As) (fun i=>la.length - i) 0 ⟨rfl,rfl,rfl,trivial⟩ ⟨Yp _,fun _ h=>absurd h (by omega),hS⟩ ?_)))))
 rintro i w ⟨hi,hsm,hS⟩
 refine .seq (.seq (.region (.run 4 rfl ⟨⟨_,X29⟩,trivial⟩ (.nil ?_))))
 refine WC.cond rfl (fun hb14=>?_) (fun hb14=>?_)
 ·
  have hc14:=hb14; try simp only [Y6] at hc14
  refine .skip (.seq (.block (.seq ?_)))
  obtain ⟨x,hx0⟩:∃ x,la[i]?=some x:=⟨_,Y4 (by omega)⟩
  obtain ⟨y,hy0⟩:∃ y,lb[i]?=some y:=⟨_,Y4 (by omega)⟩
  obtain ⟨p,hp9,hx⟩:=Xab (cells:=X7) (s:=10) (fun _=>rfl) hA hx0
  obtain ⟨p2,hp8,hy⟩:=Xab (cells:=X7) (s:=10) (fun _=>rfl) hB hy0
  subst hp9
  subst hp8
  refine .quiet (by kernel_rfl) (by kernel_rfl) hS (.val (fun w hS=>(.move (.of rfl))) rfl (.val (fun w hS=>(.move (.of rfl))) rfl ?_))
  refine WQ.val (fun w hS=>(by exact .indexAddrI (.of rfl) (.of rfl) (by omega) (by omega) X29 Xw)) rfl ?_
  refine .val (fun w hS=>.ldsI (.of rfl) hS hx X36 Xw rfl (fun _ _ h=>h)) rfl (.val (fun w hS=>(.move (.of rfl))) rfl (.val (fun w hS=>(.move (.of rfl))) rfl ?_))
  refine WQ.val (fun w hS=>(by exact .indexAddrI (.of rfl) (.of rfl) (by omega) (by omega) X29 Xw)) rfl ?_
  refine .val (fun w hS=>.ldsI (.of rfl) hS hy X36 Xw rfl (fun _ _ h=>h)) rfl (.val (fun w hS=>Ex.neRec (r:=x) (s:=y) (.of rfl) (.of rfl)) rfl (.nil ?_))
  clear hS; intro w hS
  refine WC.cond rfl (fun hb25=>?_) (fun hb25=>?_)
  ·
   refine .seq (.q 1 rfl (.ret (X9 Tryz.results28 rfl ?_)))
   refine ⟨_,rfl,congrArg Value.bool (decide_eq_false fun e=>?_).symm,hS⟩
   subst e
   rw [hx0] at hy0
   cases hy0
   simp at hb25
  have hc25:=hb25; try simp only [Y6] at hc25
  refine .skip (.region (.run 3 rfl ⟨⟨by omega,by omega⟩,trivial⟩ (.nil ?_)))
  refine ⟨i+1,⟨rfl,rfl,rfl,trivial⟩,⟨by (try dsimp only); omega,fun j hj=>?_,hS⟩,by (try dsimp only); omega⟩
  rcases Yr j i with h1 | h1
  ·exact hsm j h1
  ·have e:j=i:=by omega
   subst e
   rw [hx0,hy0,show x=y by simpa using hb25]
 have hc14:=hb14; try simp only [Y6] at hc14
 refine .exit (.seq (.q 1 rfl (.ret (X9 Tryz.results28 rfl ?_))))
 refine ⟨_,rfl,congrArg Value.bool (decide_eq_true ?_).symm,hS⟩
 refine Y25 fun j=>?_
 rcases Yr j i with h1 | h1
 ·exact hsm j h1
 ·rw [Y1x (by omega),Y1x (by omega)]
theorem Xb1 {α:Type} {pr:α→Bool}:∀ {l:List α} {i:Nat} {u:α},l[i]?=some u→pr u=true→(∀ (j:Nat) s,j<i→l[j]?=some s→pr s=false)→l.find? pr=some u
 | [],i,u,h,_,_=>by simp at h
 | x::l,0,u,h,hp,_=>by simp at h; subst h; rw [Y2x,hp]
 | x::l,i+1,u,h,hp,hno=>by
  rw [Y2x,hno 0 x (by omega) rfl]
  exact Xb1 (by simpa using h) hp fun j s hj hs=>hno (j+1) s (by omega) (by simpa using hs)
theorem Xhp (a:Option Addr) (cap:Nat) (l:List Us) (hln:l.length≤9223372036854775807) (name:List UInt8) (B w:World) (I:Im) (hU:UsrsAt I a l) (As:List X8) (hS:Sat B w I As) :
  Calls Tryz.prog 94 [.slice a l.length cap,S name].toArray w (Ret fun v w'=>∃ k:Int,v=I64 k∧((k=-1∧l.find? (fun t=>t.name == name)=none)∨∃ (i:Nat) (u:Us),k=(i:Int)∧l[i]?=some u∧l.find? (fun t=>t.name == name)=some u)∧Sat B w' I As):=by
 refine calls Tryz.func94 rfl Tryz.ntmps94 rfl (.seq (.q 1 rfl (.seq (.seq (.q 1 rfl (.block (.loop (σ:=Nat) (fun i=>[(0,.slice a l.length cap),(1,S name),(5,I64 (i:Nat))]) (fun i w=>i≤l.length∧(∀ (j:Nat) u,j<i→l[j]?=some u→(u.name == name)=false)∧Sat B w I As) (fun i=>l.length - i) 0 ⟨rfl,rfl,rfl,trivial⟩ ⟨Yp _,fun _ _ h=>absurd h (by omega),hS⟩ ?_)))))))
 rintro i w ⟨hi,hno,hS⟩
 refine .seq (.seq (.region (.run 4 rfl ⟨⟨_,Xbs⟩,trivial⟩ (.nil ?_))))
 refine WC.cond rfl (fun hb9=>?_) (fun hb9=>?_)
 ·
  have hc9:=hb9; try simp only [Y6] at hc9
  refine .skip (.seq (.block (.seq ?_)))
  obtain ⟨u,hu⟩:∃ u,l[i]?=some u:=⟨_,Y4 (by omega)⟩
  obtain ⟨p,ra,rc,hap,hx,hrc,hRR⟩:=hU i u hu
  subst hap
  unfold X2p at hx
  refine .t 2 rfl (WL.val (.indexAddrI (.of rfl) (.of rfl) (by omega) (by omega) Xbs Xb4) rfl (WL.val (.fieldAddrI 0 (.of rfl) X66 rfl rfl Qs9 rfl) rfl (.val (.ldI (.of rfl) hS (At.add hx _) Qg9 rfl) rfl (.q 2 rfl (.nil ?_)))))
  refine WC.cond rfl (fun hb18=>?_) (fun hb18=>?_)
  ·
   refine .seq (.q 2 rfl (.ret (X9 Tryz.results94 rfl ?_)))
   exact ⟨_,rfl,_,rfl,.inr ⟨i,u,rfl,hu,Xb1 hu hb18 hno⟩,hS⟩
  have hc18:=hb18; try simp only [Y6] at hc18
  refine .skip (.region (.run 3 rfl ⟨⟨by omega,by omega⟩,trivial⟩ (.nil ?_)))
  refine ⟨i+1,⟨rfl,rfl,rfl,trivial⟩,⟨by (try dsimp only); omega,fun j t hj ht=>?_,hS⟩,by (try dsimp only); omega⟩
  rcases Yr j i with h1 | h1
  ·exact hno j t h1 ht
  ·have e:j=i:=by omega
   subst e
   rw [hu] at ht; cases ht
   exact hb18
 have hc9:=hb9; try simp only [Y6] at hc9
 refine .exit (.seq (.q 1 rfl (.ret (X9 Tryz.results94 rfl ?_))))
 refine ⟨_,rfl,_,rfl,.inl ⟨rfl,?_⟩,hS⟩
 rw [Y4o]
 intro u hu
 obtain ⟨q,hq⟩:=Y11.1 hu
 have:=(Y5.1 hq).1
 rw [hno q u (by omega) hq]; decide
theorem Xbm (a:Option Addr) (cap:Nat) (l:List Us) (hln:l.length≤9223372036854775807) (name pw:List UInt8) (B w:World) (I:Im) (hU:UsrsAt I a l) (As:List X8) (hS:Sat B w I As) :
  Calls Tryz.prog 44 [.slice a l.length cap,S name,S pw].toArray w (Ret fun v w'=>v=.bool (X7w l name pw)∧Sat B w' I As):=by
 refine calls Tryz.func44 rfl Tryz.ntmps44 rfl (.seq (.q 1 rfl (.seq (.t 2 rfl (.call Tryz.func94 rfl (X0 (.of rfl) (X0 (.of rfl) X4)) rfl (Xhp a cap l hln name B _ I hU _ hS) ?_)))))
 clear hS
 rintro _ w ⟨k,rfl,hk,hS⟩
 refine .q 1 rfl (.nil (.seq (.region ?_)))
 rcases hk with ⟨rfl,hf⟩ | ⟨i,u,rfl,hu,hf⟩
 ·
  refine .val (.move (.of rfl)) rfl (.q 2 rfl (.gval rfl rfl (fun hg1=>(.move (.of rfl))) rfl (.gval rfl rfl (fun hg1=>(.move (.of rfl))) rfl (.gval (v:=.pointer none) rfl rfl (fun hg1=>absurd hg1 (by decide)) rfl (.gval (v:=.pointer none) rfl rfl (fun hg1=>absurd hg1 (by decide)) rfl (.gval (v:=S []) rfl rfl (fun hg1=>absurd hg1 (by decide)) rfl (.gval rfl rfl (fun hg1=>(.move (.of rfl))) rfl (.gval rfl rfl (fun hg1=>(.eqs (.gd hg1 rfl) (.gd hg1 rfl))) rfl (.val (.pand (.of rfl) (.of rfl) (.of rfl)) rfl (.q 1 rfl (.nil (.ret (X9 Tryz.results44 rfl ?_)))))))))))))
  refine ⟨_,rfl,congrArg Value.bool ?_,hS⟩
  rw [X7w,hf]
  rfl
 have hil:=(Y5.1 hu).1
 obtain ⟨p,ra,rc,hap,hx,hrc,hRR⟩:=hU i u hu
 subst hap
 unfold X2p at hx
 refine .val (.move (.of rfl)) rfl (.q 2 rfl (.gval rfl rfl (fun hg1=>(.move (.of rfl))) rfl (.gval rfl rfl (fun hg1=>(.move (.of rfl))) rfl ?_)))
 refine WL.gval rfl rfl (fun hg1=>(by exact .indexAddrI (.gd hg1 rfl) (.gd hg1 rfl) (by (try simp only [Y6] at hg1); omega) (by (try simp only [Y6] at hg1); omega) Xbs Xb4)) rfl ?_
 refine WL.gval rfl rfl (fun hg1=>(by exact .fieldAddrI 1 (.gd hg1 rfl) X66 rfl rfl Qs9 rfl)) rfl ?_
 refine .gval rfl rfl (fun hg1=>(.ldI (.gd hg1 rfl) hS (At.add hx _) Qg9 rfl)) rfl (.gval rfl rfl (fun hg1=>(.move (.of rfl))) rfl (.gval rfl rfl (fun hg1=>(.eqs (.gd hg1 rfl) (.gd hg1 rfl))) rfl (.val (.pand (.of rfl) (.of rfl) (.of rfl)) rfl (.q 1 rfl (.nil (.ret (X9 Tryz.results44 rfl ?_)))))))
 refine ⟨_,rfl,congrArg Value.bool ?_,hS⟩
 rw [X7w,hf]
 rfl
theorem Xbq (s:List UInt8) (c:UInt8) (n:Nat):hxS n (s ++ [c])=(hxS n s).bind fun m=>(hx c).map fun d=>16*m+d:=by
 rw [Xef]
 congr 1
 funext m
 rw [hxS]
 cases hx c with
 | none=>rfl
 | some d=>rfl
theorem X93 {c:UInt8} {r:List UInt8}:∀ {s:List UInt8},Xe [45] s=c::r→c=45
 | [],h=>by simp [Xe] at h
 | x::s,h=>by
  unfold Xe at h
  rw [Y3m] at h
  split at h
  ·exact X93 h
  ·rename_i h1
   cases h
   simpa using h1
theorem X23 (cs s:List UInt8):upto cs s ++ Xe cs s=s:=Y3v
theorem Xpu {s t:List UInt8} {k:Nat} (hs:s=pre k ++ 45::t) (hl:t.length=16):s.length=(pre k).length+1+16∧s.take ((pre k).length+1)=pre k ++ [45]∧s.drop ((pre k).length+1)=t:=by
 have e:s=(pre k ++ [45]) ++ t:=by rw [hs]; simp
 have e2:(pre k).length+1=(pre k ++ [45]).length:=by simp
 refine ⟨by rw [hs]; simp [hl],?_,?_⟩
 ·rw [e,e2,Y2u]
 ·rw [e,e2,Y3x]
theorem Xgk {s:List UInt8} {k d:Nat} (h:X10 s=some (k,d)):∃ t,s=pre k ++ 45::t∧t.length=16∧hxS 0 t=some d:=by
 unfold X10 at h
 split at h
 ·cases h
 ·rename_i hk
  obtain ⟨x,hx,e⟩:=Y1t.1 h
  simp only [Prod.mk.injEq] at e
  obtain ⟨e1,rfl⟩:=e
  have h1:=Xl8 hk
  rw [e1] at h1
  unfold X4c at hx
  split at hx
  ·rename_i hl
   have h2:=X23 [45] s
   cases e3:Xe [45] s with
   | nil=>rw [e3] at hl; cases hl
   | cons c r =>
    rw [e3] at hl hx
    have h3:c=45:=X93 e3
    subst h3
    exact ⟨r,by rw [← h1]; rw [e3] at h2; exact h2.symm,hl,hx⟩
  ·cases hx
theorem Xm5 {k d:Nat} {t:List UInt8} (h1:1≤k) (h2:k≤6) (hl:t.length=16) (hd:hxS 0 t=some d):X10 (pre k ++ 45::t)=some (k,d):=by
 unfold X10
 obtain ⟨e1,e2⟩:=Xon (p:=pre k) (r:=t) Xmt
 rw [e1,e2,Xop h1 h2,if_neg (by omega),Y9,Yj,X4c,if_pos hl,hd]
 rfl
theorem Xmk {k:Nat} (h1:1≤k) (h2:k≤6):X42 (k:Int)=pre k:=by
 unfold X42
 rw [if_neg (by omega),Yi]
theorem hx_num {c:UInt8} (h1:48≤c.toNat) (h2:c.toNat≤57):hx c=some (c.toNat - 48):=by
 unfold hx
 rw [if_pos]
 simp only [Yq,decide_eq_true_eq,Y1m]
 exact ⟨h1,h2⟩
theorem hx_let {c:UInt8} (h1:97≤c.toNat) (h2:c.toNat≤102):hx c=some (c.toNat - 87):=by
 unfold hx
 rw [if_neg,if_pos]
 ·simp only [Yq,decide_eq_true_eq,Y1m]
  exact ⟨h1,h2⟩
 ·simp only [Yq,decide_eq_true_eq,Y1m]
  intro h
  have:c.toNat≤57:=h.2
  omega
theorem hx_no {c:UInt8} (h1:¬(48≤c.toNat∧c.toNat≤57)) (h2:¬(97≤c.toNat∧c.toNat≤102)):hx c=none:=by
 unfold hx
 rw [if_neg,if_neg]
 ·simp only [Yq,decide_eq_true_eq,Y1m]; exact h2
 ·simp only [Yq,decide_eq_true_eq,Y1m]; exact h1
theorem X95 {s:List UInt8} {n i:Nat} (h1:n≤i) (h2:i<s.length):(s.drop n).take (i+1 - n)=(s.drop n).take (i - n) ++ [at_ s (i:Int)]:=by
 have e:i+1 - n=(i - n)+1:=by omega
 rw [e,Y15,Y1g,show n+(i - n)=i by omega,Xz h2]
 rfl
theorem Xbe (s:List UInt8) (hsl:s.length≤9223372036854775000) (B w:World) (I:Im) (As:List X8) (hS:Sat B w I As) :
  Calls Tryz.prog 74 [S s].toArray w (Ret fun v w'=>v=(match X10 s with | some (k,d)=>.tuple #[I64 (k:Nat),U64 (d:Nat),.bool true] | none=>.tuple #[I64 0,U64 0,.bool false])∧Sat B w' I As):=by
 refine calls Tryz.func74 rfl Tryz.ntmps74 rfl (.seq (.q 3 rfl (.seq (.seq (.q 1 rfl (.block ?_))))))
 refine WC.loop (σ:=Nat) (fun k=>[(0,S s),(5,I64 (k:Nat))]) (fun k w=>1≤k∧k≤7∧(∀ (j d:Nat),j<k→X10 s≠some (j,d))∧Sat B w I As) (fun k=>7 - k) 1 ⟨rfl,rfl,trivial⟩ ⟨Yt _,by decide,fun j d hj h=>by have:=(X3k h).1; omega,hS⟩ ?_
 rintro k w ⟨hk0,hk7,hno,hS⟩
 refine .seq (.seq (.q 2 rfl ?_))
 refine WC.cond rfl (fun hb13=>?_) (fun hb13=>?_)
 ·
  have hc13:=hb13; try simp only [Y6] at hc13
  refine .skip (.seq (.block (.seq ?_)))
  have hk1:1≤k∧k≤6:=by omega
  have hpr:=Xmk hk1.1 hk1.2
  have hp6:(pre k).length≤6:=by rw [← hpr]; exact X8n _
  have hn9:(pre k ++ [45]).length=(pre k).length+1:=by simp
  refine .t 1 rfl (.call Qf97 rfl (X0 (.of rfl) X4) rfl (X43 (k:Int) B _ I _ hS) ?_)
  clear hS
  rintro _ w ⟨rfl,hS⟩
  rw [hpr]
  refine WL.run 2 rfl ⟨by (try simp only [Y0,Y8,Yk]); omega,trivial⟩ (.nil (.seq (.region (.run 3 rfl ⟨Qu9,trivial⟩ (.nil (.seq (.seq ?_)))))))
  rw [hn9]
  refine .region (.run 6 rfl ⟨Qu9,⟨by omega,by omega⟩,trivial⟩ (.gval rfl rfl (fun hg1=>(.move (.of rfl))) rfl (.gval rfl rfl (fun hg1=>(.move (.of rfl))) rfl ?_)))
  refine WL.gval rfl rfl (fun hg1=>(.subTo (.gd hg1 rfl) (.gd hg1 rfl) (by (try simp only [Y6] at hg1); omega) (by (try simp only [Y6] at hg1); omega) Qu9)) rfl ?_
  refine .gval rfl rfl (fun hg1=>(.move (.of rfl))) rfl (.gval rfl rfl (fun hg1=>(.nes (.gd hg1 rfl) (.gd hg1 rfl))) rfl (.val (.por (.of rfl) (.of rfl) (.of rfl)) rfl (.nil ?_)))
  refine WC.cond rfl (fun hb32=>?_) (fun hb32=>?_)
  ·
   refine .exit (.region (.run 3 rfl ⟨⟨by omega,by omega⟩,trivial⟩ (.nil ?_)))
   refine ⟨k+1,⟨rfl,rfl,trivial⟩,⟨by (try dsimp only); omega,by (try dsimp only); omega,fun j d hj h=>?_,hS⟩,by (try dsimp only); omega⟩
   rcases Yr j k with h1 | h1
   ·exact hno j d h1 h
   ·have e:k=j:=by omega
    subst e
    obtain ⟨t,ht,htl,hth⟩:=Xgk h
    obtain ⟨g1,g2,g3⟩:=Xpu ht htl
    first
    | (have h3:=hb32; simp [g1,g2] at h3; done)
    | (have h3:=hb32; simp [g1,g2] at h3; omega)
    | (have h3:hxS 0 ((s.drop ((pre k).length+1)).take (s.length - ((pre k).length+1)))=some d:=(by (rw [g3,Yx (by omega)]; exact hth)); rw [show i=s.length by omega] at hhx; rw [hhx] at h3; simp [hb70] at h3)
  have hc32:=hb32; try simp only [Y6] at hc32
  refine .skip (.seq ?_)
  obtain ⟨hle,hpf⟩:s.length=(pre k).length+1+16∧s.take ((pre k).length+1)=pre k ++ [45]:=by
   have h:=hb32
   simp at h
   refine ⟨by omega,?_⟩
   simpa using h.2
  refine .q 1 rfl (.seq (.q 1 rfl (.seq (.seq (.q 2 rfl (.block ?_))))))
  refine WC.loop (σ:=Nat×Nat×Bool) (fun ⟨i,d,b⟩=>[(0,S s),(5,I64 (k:Nat)),(8,U64 (d:Nat)),(9,.bool b),(10,I64 (i:Nat))]) (fun ⟨i,d,b⟩ w=>((pre k).length+1)≤i∧i≤s.length∧d<16 ^ (i - ((pre k).length+1))∧hxS 0 ((s.drop ((pre k).length+1)).take (i - ((pre k).length+1)))=(if b=true then some d else none)∧Sat B w I As) (fun ⟨i,d,b⟩=>s.length - i) (((pre k).length+1),0,true) ⟨rfl,rfl,rfl,rfl,rfl,trivial⟩ ⟨Yt _,by (try dsimp only); omega,by (try dsimp only); exact Nat.pow_pos (by decide),by (try dsimp only); rw [Y3z]; rfl,hS⟩ ?_
  rintro ⟨i,d,b⟩ w ⟨hni,hi,hdp,hhx,hS⟩
  refine .seq (.seq (.region (.run 4 rfl ⟨Qu9,trivial⟩ (.nil ?_))))
  refine WC.cond rfl (fun hb37=>?_) (fun hb37=>?_)
  ·
   have hc37:=hb37; try simp only [Y6] at hc37
   refine .skip (.seq (.block (.seq ?_)))
   have hp15:d<1152921504606846976:=Y2q hdp (Y27 (Y3g (by decide) (show i - ((pre k).length+1)≤15 by omega)) (by decide))
   refine .region (.run 4 rfl ⟨⟨⟨by omega,by omega⟩,Qu9⟩,trivial⟩ (.nil (.block (.seq (.t 3 rfl (.gval rfl rfl (fun hg1=>(.move (.of rfl))) rfl (.gval rfl rfl (fun hg1=>(.leq (.gd hg1 rfl) (.of rfl))) rfl (.val (.pand (.of rfl) (.of rfl) (.of rfl)) rfl (.q 1 rfl (.nil ?_))))))))))
   refine WC.cond rfl (fun hb43=>?_) (fun hb43=>?_)
   ·
    have hc43:=hb43; try simp only [Y6] at hc43
    refine .t 1 rfl (WL.val (.mulx (.of rfl) (.of rfl) (by rw [IntKind.wrap_u64]; omega)) rfl (.q 1 rfl ?_))
    refine WL.val (.subx (.of rfl) (.of rfl) (by rw [IntKind.wrap_u8]; simp at hb43; omega)) rfl ?_
    refine WL.val (.cvi (.of rfl) Qu5 Xad (by rw [IntKind.wrap_u64]; omega)) rfl (WL.val (.addx (.of rfl) (.of rfl) (by rw [IntKind.wrap_u64]; omega)) rfl ?_)
    rw [show (16*(d:Int)+(((at_ s (i:Int)).toNat:Int) - 48))=((16*d+((at_ s (i:Int)).toNat - 48):Nat):Int) by simp at hb43; omega]
    refine .q 1 rfl (.nil (.region (.run 3 rfl ⟨⟨by omega,by omega⟩,trivial⟩ (.nil ?_))))
    refine ⟨(i+1,16*d+((at_ s (i:Int)).toNat - 48),b),⟨rfl,rfl,rfl,rfl,rfl,trivial⟩,⟨by (try dsimp only); omega,by (try dsimp only); omega,by (try dsimp only); exact Y2q (show 16*d+((at_ s (i:Int)).toNat - 48)<16*16 ^ (i - ((pre k).length+1)) by have h9:(at_ s (i:Int)).toNat≤57:=(by simp at hb43; omega); omega) (by rw [show i+1 - ((pre k).length+1)=(i - ((pre k).length+1))+1 by omega,Y2b]; omega),?_,hS⟩,by (try dsimp only); omega⟩
    try dsimp only
    rw [X95 hni (by omega),Xbq,hhx,hx_num (by simp at hb43; omega) (by simp at hb43; omega)]
    cases b with
     | true=>simp
     | false=>simp
   have hc43:=hb43; try simp only [Y6] at hc43
   refine .seq (.t 3 rfl (.gval rfl rfl (fun hg1=>(.move (.of rfl))) rfl (.gval rfl rfl (fun hg1=>(.leq (.gd hg1 rfl) (.of rfl))) rfl (.val (.pand (.of rfl) (.of rfl) (.of rfl)) rfl (.q 1 rfl (.nil ?_))))))
   refine WC.cond rfl (fun hb56=>?_) (fun hb56=>?_)
   ·
    have hc56:=hb56; try simp only [Y6] at hc56
    refine .t 1 rfl (WL.val (.mulx (.of rfl) (.of rfl) (by rw [IntKind.wrap_u64]; omega)) rfl (.q 1 rfl ?_))
    refine WL.val (.subx (.of rfl) (.of rfl) (by rw [IntKind.wrap_u8]; simp at hb56; omega)) rfl ?_
    refine WL.val (.cvi (.of rfl) Qu5 Xad (by rw [IntKind.wrap_u64]; omega)) rfl (WL.val (.addx (.of rfl) (.of rfl) (by rw [IntKind.wrap_u64]; omega)) rfl (WL.val (.addx (.of rfl) (.of rfl) (by rw [IntKind.wrap_u64]; omega)) rfl ?_))
    rw [show (16*(d:Int)+(((at_ s (i:Int)).toNat:Int) - 97)+10)=((16*d+((at_ s (i:Int)).toNat - 97)+10:Nat):Int) by simp at hb56; omega]
    refine .q 1 rfl (.nil (.region (.run 3 rfl ⟨⟨by omega,by omega⟩,trivial⟩ (.nil ?_))))
    refine ⟨(i+1,16*d+((at_ s (i:Int)).toNat - 97)+10,b),⟨rfl,rfl,rfl,rfl,rfl,trivial⟩,⟨by (try dsimp only); omega,by (try dsimp only); omega,by (try dsimp only); exact Y2q (show 16*d+((at_ s (i:Int)).toNat - 97)+10<16*16 ^ (i - ((pre k).length+1)) by have h9:(at_ s (i:Int)).toNat≤102:=(by simp at hb56; omega); have h8:97≤(at_ s (i:Int)).toNat:=(by simp at hb56; omega); omega) (by rw [show i+1 - ((pre k).length+1)=(i - ((pre k).length+1))+1 by omega,Y2b]; omega),?_,hS⟩,by (try dsimp only); omega⟩
    try dsimp only
    rw [X95 hni (by omega),Xbq,hhx,hx_let (by simp at hb56; omega) (by simp at hb56; omega)]
    cases b with
     | true=>simp; omega
     | false=>simp
   have hc56:=hb56; try simp only [Y6] at hc56
   refine .q 1 rfl (.region (.run 3 rfl ⟨⟨by omega,by omega⟩,trivial⟩ (.nil ?_)))
   refine ⟨(i+1,d,false),⟨rfl,rfl,rfl,rfl,rfl,trivial⟩,⟨by (try dsimp only); omega,by (try dsimp only); omega,by (try dsimp only); exact Y2q (show d<16*16 ^ (i - ((pre k).length+1)) by omega) (by rw [show i+1 - ((pre k).length+1)=(i - ((pre k).length+1))+1 by omega,Y2b]; omega),?_,hS⟩,by (try dsimp only); omega⟩
   try dsimp only
   rw [X95 hni (by omega),Xbq,hhx,hx_no (fun h=>by have h1:=h.1; have h2:=h.2; simp at hb43; omega) (fun h=>by have h1:=h.1; have h2:=h.2; simp at hb56; omega)]
   cases b <;> simp
  have hc37:=hb37; try simp only [Y6] at hc37
  refine .exit (.seq (.q 1 rfl ?_))
  refine WC.cond rfl (fun hb70=>?_) (fun hb70=>?_)
  ·
   have hc70:=hb70; try simp only [Y6] at hc70
   refine .seq (.q 5 rfl (.ret (X6r Tryz.results74 rfl rfl rfl ?_)))
   have hs9:s=pre k ++ 45::s.drop ((pre k).length+1):=by
    have h:=Y10 ((pre k).length+1) s
    rw [hpf,Ye] at h
    exact h.symm
   have hil:i=s.length:=by omega
   have hh:hxS 0 (s.drop ((pre k).length+1))=some d:=by
    rw [hil,Yx (by rw [Yn]; omega),hb70] at hhx
    exact hhx
   have hP:X10 s=some (k,d):=by
    rw [hs9]
    exact Xm5 hk1.1 hk1.2 (by rw [Yn]; omega) hh
   rw [hP]
   exact ⟨_,rfl,rfl,hS⟩
  have hc70:=hb70; try simp only [Y6] at hc70
  refine .skip (.region (.run 3 rfl ⟨⟨by omega,by omega⟩,trivial⟩ (.nil ?_)))
  refine ⟨k+1,⟨rfl,rfl,trivial⟩,⟨by (try dsimp only); omega,by (try dsimp only); omega,fun j d hj h=>?_,hS⟩,by (try dsimp only); omega⟩
  rcases Yr j k with h1 | h1
  ·exact hno j d h1 h
  ·have e:k=j:=by omega
   subst e
   obtain ⟨t,ht,htl,hth⟩:=Xgk h
   obtain ⟨g1,g2,g3⟩:=Xpu ht htl
   first
   | (have h3:=hb32; simp [g1,g2] at h3; done)
   | (have h3:=hb32; simp [g1,g2] at h3; omega)
   | (have h3:hxS 0 ((s.drop ((pre k).length+1)).take (s.length - ((pre k).length+1)))=some d:=(by (rw [g3,Yx (by omega)]; exact hth)); rw [show i=s.length by omega] at hhx; rw [hhx] at h3; simp [hb70] at h3)
 have hc13:=hb13; try simp only [Y6] at hc13
 refine .exit (.seq (.q 3 rfl (.ret (X6r Tryz.results74 rfl rfl rfl ?_))))
 have hP:X10 s=none:=by
  cases h:X10 s with
  | none=>rfl
  | some x =>
   obtain ⟨j,d⟩:=x
   have:=X3k h
   exact absurd h (hno j d (by omega))
 rw [hP]
 exact ⟨_,rfl,rfl,hS⟩
def PL:List (Int×Int):=[(1,0),(6,0),(2,1),(3,4),(4,2),(4,3),(5,4)]
set_option maxRecDepth 20000 in
theorem Xe5 (kind of9:Int) (B w:World) (I:Im) (As:List X8) (hS:Sat B w I As) :
  Calls Tryz.prog 162 [I64 kind,I64 of9].toArray w (Ret fun v w'=>v=.bool (X6a kind of9)∧Sat B w' I As):=by
 refine calls Tryz.func162 rfl Tryz.ntmps162 rfl (.seq (.q 1 rfl (.seq (.region (.buildSlice (cs:=[_,_]) hS (X5 (.of rfl) (X5 (.of rfl) X6)) Xd Qs3 Qz3 rfl rfl rfl rfl ?_)))))
 clear hS; intro b7 w hS
 refine .buildSlice (cs:=[_,_]) hS (X5 (.of rfl) (X5 (.of rfl) X6)) Xd Qs3 Qz3 rfl rfl rfl rfl ?_
 clear hS; intro b8 w hS
 refine .buildSlice (cs:=[_,_]) hS (X5 (.of rfl) (X5 (.of rfl) X6)) Xd Qs3 Qz3 rfl rfl rfl rfl ?_
 clear hS; intro b9 w hS
 refine .buildSlice (cs:=[_,_]) hS (X5 (.of rfl) (X5 (.of rfl) X6)) Xd Qs3 Qz3 rfl rfl rfl rfl ?_
 clear hS; intro b10 w hS
 refine .buildSlice (cs:=[_,_]) hS (X5 (.of rfl) (X5 (.of rfl) X6)) Xd Qs3 Qz3 rfl rfl rfl rfl ?_
 clear hS; intro b11 w hS
 refine .buildSlice (cs:=[_,_]) hS (X5 (.of rfl) (X5 (.of rfl) X6)) Xd Qs3 Qz3 rfl rfl rfl rfl ?_
 clear hS; intro b12 w hS
 refine .buildSlice (cs:=[_,_]) hS (X5 (.of rfl) (X5 (.of rfl) X6)) Xd Qs3 Qz3 rfl rfl rfl rfl ?_
 clear hS; intro b13 w hS
 refine .buildSlice (cs:=[_,_,_,_,_,_,_]) hS (X5 (.of rfl) (X5 (.of rfl) (X5 (.of rfl) (X5 (.of rfl) (X5 (.of rfl) (X5 (.of rfl) (X5 (.of rfl) X6))))))) X25 X1a Xoh rfl rfl rfl rfl ?_
 clear hS; intro b14 w hS
 refine .q 1 rfl (.nil (.seq (.seq (.q 1 rfl (.block (.loop (σ:=Nat) (fun i=>[(0,I64 kind),(1,I64 of9),(5,.slice (some (ad b14 0)) 7 7),(6,I64 (i:Nat))]) (fun i w=>i≤7∧(∀ (j:Nat) p,j<i→PL[j]?=some p→(p.1 == kind && p.2 == of9)=false)∧Sat B w I (blk b14 [.slice (some (ad b7 0)) 2 2,.slice (some (ad b8 0)) 2 2,.slice (some (ad b9 0)) 2 2,.slice (some (ad b10 0)) 2 2,.slice (some (ad b11 0)) 2 2,.slice (some (ad b12 0)) 2 2,.slice (some (ad b13 0)) 2 2] 195::blk b13 [I64 5,I64 4] 3::blk b12 [I64 4,I64 3] 3::blk b11 [I64 4,I64 2] 3::blk b10 [I64 3,I64 4] 3::blk b9 [I64 2,I64 1] 3::blk b8 [I64 6,I64 0] 3::blk b7 [I64 1,I64 0] 3::As)) (fun i=>7 - i) 0 ⟨rfl,rfl,rfl,rfl,trivial⟩ ⟨Yp _,fun _ _ h=>absurd h (by omega),hS⟩ ?_))))))
 rintro i w ⟨hi,hno,hS⟩
 refine .seq (.seq (.region (.run 4 rfl ⟨⟨_,X25⟩,trivial⟩ (.nil ?_))))
 refine WC.cond rfl (fun hb18=>?_) (fun hb18=>?_)
 ·
  have hc18:=hb18; try simp only [Y6] at hc18
  refine .skip (.seq (.block (.seq (.region ?_))))
  rcases (by omega:i=0∨i=1∨i=2∨i=3∨i=4∨i=5∨i=6) with rfl | rfl | rfl | rfl | rfl | rfl | rfl
  ·
   refine .val (.move (.of rfl)) rfl (.q 1 rfl ?_)
   refine WL.val (.indexAddr (.of rfl) (.of rfl) (by omega) (by omega) X25 X1a) rfl (WL.val (.ld (.of rfl) hS (k:=0) rfl X33 rfl) rfl (WL.val (.indexAddr (.of rfl) (.of rfl) (by omega) (by omega) Xd Qs3) rfl (WL.val (.ld (.of rfl) hS (k:=7) rfl Qg3 rfl) rfl (.q 3 rfl (.gval rfl rfl (fun hg1=>(.move (.of rfl))) rfl (.gval rfl rfl (fun hg1=>(.move (.of rfl))) rfl ?_))))))
   refine WL.gval rfl rfl (fun hg1=>(by exact .indexAddr (.gd hg1 rfl) (.gd hg1 rfl) (by (try simp only [Y6] at hg1); omega) (by (try simp only [Y6] at hg1); omega) X25 X1a)) rfl ?_
   refine WL.gval rfl rfl (fun hg1=>(by exact (.ld (.gd hg1 rfl) hS (k:=0) rfl X33 rfl))) rfl ?_
   refine WL.gval rfl rfl (fun hg1=>(by exact .indexAddr (.gd hg1 rfl) (.of rfl) (by (try simp only [Y6] at hg1); omega) (by (try simp only [Y6] at hg1); omega) Xd Qs3)) rfl ?_
   refine WL.gval rfl rfl (fun hg1=>(by exact (.ld (.gd hg1 rfl) hS (k:=7) rfl Qg3 rfl))) rfl ?_
   refine .gval rfl rfl (fun hg1=>(.move (.of rfl))) rfl (.gval rfl rfl (fun hg1=>(.eql (.gd hg1 rfl) (.gd hg1 rfl))) rfl (.val (.pand (.of rfl) (.of rfl) (.of rfl)) rfl (.nil ?_)))
   refine WC.cond rfl (fun hb38=>?_) (fun hb38=>?_)
   ·
    refine .seq (.q 1 rfl (.ret (X9 Xd1 rfl ?_)))
    refine ⟨_,rfl,congrArg Value.bool ?_,((((((((hS.drop (k:=0) rfl).drop (k:=0) rfl).drop (k:=0) rfl).drop (k:=0) rfl).drop (k:=0) rfl).drop (k:=0) rfl).drop (k:=0) rfl).drop (k:=0) rfl)⟩
    simp at hb38
    obtain ⟨h1,h2⟩:=hb38
    subst h1 h2
    rfl
   refine .skip (.region (.run 3 rfl ⟨⟨by omega,by omega⟩,trivial⟩ (.nil ?_)))
   refine ⟨1,⟨rfl,rfl,rfl,rfl,trivial⟩,⟨by decide,fun j p hj hp=>?_,hS⟩,by decide⟩
   rcases Yr j 0 with h1 | h1
   ·exact hno j p h1 hp
   ·have e:j=0:=by omega
    subst e
    cases hp
    simpa using hb38
  ·
   refine .val (.move (.of rfl)) rfl (.q 1 rfl ?_)
   refine WL.val (.indexAddr (.of rfl) (.of rfl) (by omega) (by omega) X25 X1a) rfl (WL.val (.ld (.of rfl) hS (k:=0) rfl X33 rfl) rfl (WL.val (.indexAddr (.of rfl) (.of rfl) (by omega) (by omega) Xd Qs3) rfl (WL.val (.ld (.of rfl) hS (k:=6) rfl Qg3 rfl) rfl (.q 3 rfl (.gval rfl rfl (fun hg1=>(.move (.of rfl))) rfl (.gval rfl rfl (fun hg1=>(.move (.of rfl))) rfl ?_))))))
   refine WL.gval rfl rfl (fun hg1=>(by exact .indexAddr (.gd hg1 rfl) (.gd hg1 rfl) (by (try simp only [Y6] at hg1); omega) (by (try simp only [Y6] at hg1); omega) X25 X1a)) rfl ?_
   refine WL.gval rfl rfl (fun hg1=>(by exact (.ld (.gd hg1 rfl) hS (k:=0) rfl X33 rfl))) rfl ?_
   refine WL.gval rfl rfl (fun hg1=>(by exact .indexAddr (.gd hg1 rfl) (.of rfl) (by (try simp only [Y6] at hg1); omega) (by (try simp only [Y6] at hg1); omega) Xd Qs3)) rfl ?_
   refine WL.gval rfl rfl (fun hg1=>(by exact (.ld (.gd hg1 rfl) hS (k:=6) rfl Qg3 rfl))) rfl ?_
   refine .gval rfl rfl (fun hg1=>(.move (.of rfl))) rfl (.gval rfl rfl (fun hg1=>(.eql (.gd hg1 rfl) (.gd hg1 rfl))) rfl (.val (.pand (.of rfl) (.of rfl) (.of rfl)) rfl (.nil ?_)))
   refine WC.cond rfl (fun hb38=>?_) (fun hb38=>?_)
   ·
    refine .seq (.q 1 rfl (.ret (X9 Xd1 rfl ?_)))
    refine ⟨_,rfl,congrArg Value.bool ?_,((((((((hS.drop (k:=0) rfl).drop (k:=0) rfl).drop (k:=0) rfl).drop (k:=0) rfl).drop (k:=0) rfl).drop (k:=0) rfl).drop (k:=0) rfl).drop (k:=0) rfl)⟩
    simp at hb38
    obtain ⟨h1,h2⟩:=hb38
    subst h1 h2
    rfl
   refine .skip (.region (.run 3 rfl ⟨⟨by omega,by omega⟩,trivial⟩ (.nil ?_)))
   refine ⟨2,⟨rfl,rfl,rfl,rfl,trivial⟩,⟨by decide,fun j p hj hp=>?_,hS⟩,by decide⟩
   rcases Yr j 1 with h1 | h1
   ·exact hno j p h1 hp
   ·have e:j=1:=by omega
    subst e
    cases hp
    simpa using hb38
  ·
   refine .val (.move (.of rfl)) rfl (.q 1 rfl ?_)
   refine WL.val (.indexAddr (.of rfl) (.of rfl) (by omega) (by omega) X25 X1a) rfl (WL.val (.ld (.of rfl) hS (k:=0) rfl X33 rfl) rfl (WL.val (.indexAddr (.of rfl) (.of rfl) (by omega) (by omega) Xd Qs3) rfl (WL.val (.ld (.of rfl) hS (k:=5) rfl Qg3 rfl) rfl (.q 3 rfl (.gval rfl rfl (fun hg1=>(.move (.of rfl))) rfl (.gval rfl rfl (fun hg1=>(.move (.of rfl))) rfl ?_))))))
   refine WL.gval rfl rfl (fun hg1=>(by exact .indexAddr (.gd hg1 rfl) (.gd hg1 rfl) (by (try simp only [Y6] at hg1); omega) (by (try simp only [Y6] at hg1); omega) X25 X1a)) rfl ?_
   refine WL.gval rfl rfl (fun hg1=>(by exact (.ld (.gd hg1 rfl) hS (k:=0) rfl X33 rfl))) rfl ?_
   refine WL.gval rfl rfl (fun hg1=>(by exact .indexAddr (.gd hg1 rfl) (.of rfl) (by (try simp only [Y6] at hg1); omega) (by (try simp only [Y6] at hg1); omega) Xd Qs3)) rfl ?_
   refine WL.gval rfl rfl (fun hg1=>(by exact (.ld (.gd hg1 rfl) hS (k:=5) rfl Qg3 rfl))) rfl ?_
   refine .gval rfl rfl (fun hg1=>(.move (.of rfl))) rfl (.gval rfl rfl (fun hg1=>(.eql (.gd hg1 rfl) (.gd hg1 rfl))) rfl (.val (.pand (.of rfl) (.of rfl) (.of rfl)) rfl (.nil ?_)))
   refine WC.cond rfl (fun hb38=>?_) (fun hb38=>?_)
   ·
    refine .seq (.q 1 rfl (.ret (X9 Xd1 rfl ?_)))
    refine ⟨_,rfl,congrArg Value.bool ?_,((((((((hS.drop (k:=0) rfl).drop (k:=0) rfl).drop (k:=0) rfl).drop (k:=0) rfl).drop (k:=0) rfl).drop (k:=0) rfl).drop (k:=0) rfl).drop (k:=0) rfl)⟩
    simp at hb38
    obtain ⟨h1,h2⟩:=hb38
    subst h1 h2
    rfl
   refine .skip (.region (.run 3 rfl ⟨⟨by omega,by omega⟩,trivial⟩ (.nil ?_)))
   refine ⟨3,⟨rfl,rfl,rfl,rfl,trivial⟩,⟨by decide,fun j p hj hp=>?_,hS⟩,by decide⟩
   rcases Yr j 2 with h1 | h1
   ·exact hno j p h1 hp
   ·have e:j=2:=by omega
    subst e
    cases hp
    simpa using hb38
  ·
   refine .val (.move (.of rfl)) rfl (.q 1 rfl ?_)
   refine WL.val (.indexAddr (.of rfl) (.of rfl) (by omega) (by omega) X25 X1a) rfl (WL.val (.ld (.of rfl) hS (k:=0) rfl X33 rfl) rfl (WL.val (.indexAddr (.of rfl) (.of rfl) (by omega) (by omega) Xd Qs3) rfl (WL.val (.ld (.of rfl) hS (k:=4) rfl Qg3 rfl) rfl (.q 3 rfl (.gval rfl rfl (fun hg1=>(.move (.of rfl))) rfl (.gval rfl rfl (fun hg1=>(.move (.of rfl))) rfl ?_))))))
   refine WL.gval rfl rfl (fun hg1=>(by exact .indexAddr (.gd hg1 rfl) (.gd hg1 rfl) (by (try simp only [Y6] at hg1); omega) (by (try simp only [Y6] at hg1); omega) X25 X1a)) rfl ?_
   refine WL.gval rfl rfl (fun hg1=>(by exact (.ld (.gd hg1 rfl) hS (k:=0) rfl X33 rfl))) rfl ?_
   refine WL.gval rfl rfl (fun hg1=>(by exact .indexAddr (.gd hg1 rfl) (.of rfl) (by (try simp only [Y6] at hg1); omega) (by (try simp only [Y6] at hg1); omega) Xd Qs3)) rfl ?_
   refine WL.gval rfl rfl (fun hg1=>(by exact (.ld (.gd hg1 rfl) hS (k:=4) rfl Qg3 rfl))) rfl ?_
   refine .gval rfl rfl (fun hg1=>(.move (.of rfl))) rfl (.gval rfl rfl (fun hg1=>(.eql (.gd hg1 rfl) (.gd hg1 rfl))) rfl (.val (.pand (.of rfl) (.of rfl) (.of rfl)) rfl (.nil ?_)))
   refine WC.cond rfl (fun hb38=>?_) (fun hb38=>?_)
   ·
    refine .seq (.q 1 rfl (.ret (X9 Xd1 rfl ?_)))
    refine ⟨_,rfl,congrArg Value.bool ?_,((((((((hS.drop (k:=0) rfl).drop (k:=0) rfl).drop (k:=0) rfl).drop (k:=0) rfl).drop (k:=0) rfl).drop (k:=0) rfl).drop (k:=0) rfl).drop (k:=0) rfl)⟩
    simp at hb38
    obtain ⟨h1,h2⟩:=hb38
    subst h1 h2
    rfl
   refine .skip (.region (.run 3 rfl ⟨⟨by omega,by omega⟩,trivial⟩ (.nil ?_)))
   refine ⟨4,⟨rfl,rfl,rfl,rfl,trivial⟩,⟨by decide,fun j p hj hp=>?_,hS⟩,by decide⟩
   rcases Yr j 3 with h1 | h1
   ·exact hno j p h1 hp
   ·have e:j=3:=by omega
    subst e
    cases hp
    simpa using hb38
  ·
   refine .val (.move (.of rfl)) rfl (.q 1 rfl ?_)
   refine WL.val (.indexAddr (.of rfl) (.of rfl) (by omega) (by omega) X25 X1a) rfl (WL.val (.ld (.of rfl) hS (k:=0) rfl X33 rfl) rfl (WL.val (.indexAddr (.of rfl) (.of rfl) (by omega) (by omega) Xd Qs3) rfl (WL.val (.ld (.of rfl) hS (k:=3) rfl Qg3 rfl) rfl (.q 3 rfl (.gval rfl rfl (fun hg1=>(.move (.of rfl))) rfl (.gval rfl rfl (fun hg1=>(.move (.of rfl))) rfl ?_))))))
   refine WL.gval rfl rfl (fun hg1=>(by exact .indexAddr (.gd hg1 rfl) (.gd hg1 rfl) (by (try simp only [Y6] at hg1); omega) (by (try simp only [Y6] at hg1); omega) X25 X1a)) rfl ?_
   refine WL.gval rfl rfl (fun hg1=>(by exact (.ld (.gd hg1 rfl) hS (k:=0) rfl X33 rfl))) rfl ?_
   refine WL.gval rfl rfl (fun hg1=>(by exact .indexAddr (.gd hg1 rfl) (.of rfl) (by (try simp only [Y6] at hg1); omega) (by (try simp only [Y6] at hg1); omega) Xd Qs3)) rfl ?_
   refine WL.gval rfl rfl (fun hg1=>(by exact (.ld (.gd hg1 rfl) hS (k:=3) rfl Qg3 rfl))) rfl ?_
   refine .gval rfl rfl (fun hg1=>(.move (.of rfl))) rfl (.gval rfl rfl (fun hg1=>(.eql (.gd hg1 rfl) (.gd hg1 rfl))) rfl (.val (.pand (.of rfl) (.of rfl) (.of rfl)) rfl (.nil ?_)))
   refine WC.cond rfl (fun hb38=>?_) (fun hb38=>?_)
   ·
    refine .seq (.q 1 rfl (.ret (X9 Xd1 rfl ?_)))
    refine ⟨_,rfl,congrArg Value.bool ?_,((((((((hS.drop (k:=0) rfl).drop (k:=0) rfl).drop (k:=0) rfl).drop (k:=0) rfl).drop (k:=0) rfl).drop (k:=0) rfl).drop (k:=0) rfl).drop (k:=0) rfl)⟩
    simp at hb38
    obtain ⟨h1,h2⟩:=hb38
    subst h1 h2
    rfl
   refine .skip (.region (.run 3 rfl ⟨⟨by omega,by omega⟩,trivial⟩ (.nil ?_)))
   refine ⟨5,⟨rfl,rfl,rfl,rfl,trivial⟩,⟨by decide,fun j p hj hp=>?_,hS⟩,by decide⟩
   rcases Yr j 4 with h1 | h1
   ·exact hno j p h1 hp
   ·have e:j=4:=by omega
    subst e
    cases hp
    simpa using hb38
  ·
   refine .val (.move (.of rfl)) rfl (.q 1 rfl ?_)
   refine WL.val (.indexAddr (.of rfl) (.of rfl) (by omega) (by omega) X25 X1a) rfl (WL.val (.ld (.of rfl) hS (k:=0) rfl X33 rfl) rfl (WL.val (.indexAddr (.of rfl) (.of rfl) (by omega) (by omega) Xd Qs3) rfl (WL.val (.ld (.of rfl) hS (k:=2) rfl Qg3 rfl) rfl (.q 3 rfl (.gval rfl rfl (fun hg1=>(.move (.of rfl))) rfl (.gval rfl rfl (fun hg1=>(.move (.of rfl))) rfl ?_))))))
   refine WL.gval rfl rfl (fun hg1=>(by exact .indexAddr (.gd hg1 rfl) (.gd hg1 rfl) (by (try simp only [Y6] at hg1); omega) (by (try simp only [Y6] at hg1); omega) X25 X1a)) rfl ?_
   refine WL.gval rfl rfl (fun hg1=>(by exact (.ld (.gd hg1 rfl) hS (k:=0) rfl X33 rfl))) rfl ?_
   refine WL.gval rfl rfl (fun hg1=>(by exact .indexAddr (.gd hg1 rfl) (.of rfl) (by (try simp only [Y6] at hg1); omega) (by (try simp only [Y6] at hg1); omega) Xd Qs3)) rfl ?_
   refine WL.gval rfl rfl (fun hg1=>(by exact (.ld (.gd hg1 rfl) hS (k:=2) rfl Qg3 rfl))) rfl ?_
   refine .gval rfl rfl (fun hg1=>(.move (.of rfl))) rfl (.gval rfl rfl (fun hg1=>(.eql (.gd hg1 rfl) (.gd hg1 rfl))) rfl (.val (.pand (.of rfl) (.of rfl) (.of rfl)) rfl (.nil ?_)))
   refine WC.cond rfl (fun hb38=>?_) (fun hb38=>?_)
   ·
    refine .seq (.q 1 rfl (.ret (X9 Xd1 rfl ?_)))
    refine ⟨_,rfl,congrArg Value.bool ?_,((((((((hS.drop (k:=0) rfl).drop (k:=0) rfl).drop (k:=0) rfl).drop (k:=0) rfl).drop (k:=0) rfl).drop (k:=0) rfl).drop (k:=0) rfl).drop (k:=0) rfl)⟩
    simp at hb38
    obtain ⟨h1,h2⟩:=hb38
    subst h1 h2
    rfl
   refine .skip (.region (.run 3 rfl ⟨⟨by omega,by omega⟩,trivial⟩ (.nil ?_)))
   refine ⟨6,⟨rfl,rfl,rfl,rfl,trivial⟩,⟨by decide,fun j p hj hp=>?_,hS⟩,by decide⟩
   rcases Yr j 5 with h1 | h1
   ·exact hno j p h1 hp
   ·have e:j=5:=by omega
    subst e
    cases hp
    simpa using hb38
  refine .val (.move (.of rfl)) rfl (.q 1 rfl ?_)
  refine WL.val (.indexAddr (.of rfl) (.of rfl) (by omega) (by omega) X25 X1a) rfl (WL.val (.ld (.of rfl) hS (k:=0) rfl X33 rfl) rfl (WL.val (.indexAddr (.of rfl) (.of rfl) (by omega) (by omega) Xd Qs3) rfl (WL.val (.ld (.of rfl) hS (k:=1) rfl Qg3 rfl) rfl (.q 3 rfl (.gval rfl rfl (fun hg1=>(.move (.of rfl))) rfl (.gval rfl rfl (fun hg1=>(.move (.of rfl))) rfl ?_))))))
  refine WL.gval rfl rfl (fun hg1=>(by exact .indexAddr (.gd hg1 rfl) (.gd hg1 rfl) (by (try simp only [Y6] at hg1); omega) (by (try simp only [Y6] at hg1); omega) X25 X1a)) rfl ?_
  refine WL.gval rfl rfl (fun hg1=>(by exact (.ld (.gd hg1 rfl) hS (k:=0) rfl X33 rfl))) rfl ?_
  refine WL.gval rfl rfl (fun hg1=>(by exact .indexAddr (.gd hg1 rfl) (.of rfl) (by (try simp only [Y6] at hg1); omega) (by (try simp only [Y6] at hg1); omega) Xd Qs3)) rfl ?_
  refine WL.gval rfl rfl (fun hg1=>(by exact (.ld (.gd hg1 rfl) hS (k:=1) rfl Qg3 rfl))) rfl ?_
  refine .gval rfl rfl (fun hg1=>(.move (.of rfl))) rfl (.gval rfl rfl (fun hg1=>(.eql (.gd hg1 rfl) (.gd hg1 rfl))) rfl (.val (.pand (.of rfl) (.of rfl) (.of rfl)) rfl (.nil ?_)))
  refine WC.cond rfl (fun hb38=>?_) (fun hb38=>?_)
  ·
   refine .seq (.q 1 rfl (.ret (X9 Xd1 rfl ?_)))
   refine ⟨_,rfl,congrArg Value.bool ?_,((((((((hS.drop (k:=0) rfl).drop (k:=0) rfl).drop (k:=0) rfl).drop (k:=0) rfl).drop (k:=0) rfl).drop (k:=0) rfl).drop (k:=0) rfl).drop (k:=0) rfl)⟩
   simp at hb38
   obtain ⟨h1,h2⟩:=hb38
   subst h1 h2
   rfl
  refine .skip (.region (.run 3 rfl ⟨⟨by omega,by omega⟩,trivial⟩ (.nil ?_)))
  refine ⟨7,⟨rfl,rfl,rfl,rfl,trivial⟩,⟨by decide,fun j p hj hp=>?_,hS⟩,by decide⟩
  rcases Yr j 6 with h1 | h1
  ·exact hno j p h1 hp
  ·have e:j=6:=by omega
   subst e
   cases hp
   simpa using hb38
 have hc18:=hb18; try simp only [Y6] at hc18
 refine .exit (.seq (.q 1 rfl (.ret (X9 Xd1 rfl ?_))))
 have e7:i=7:=by omega
 subst e7
 refine ⟨_,rfl,congrArg Value.bool ?_,((((((((hS.drop (k:=0) rfl).drop (k:=0) rfl).drop (k:=0) rfl).drop (k:=0) rfl).drop (k:=0) rfl).drop (k:=0) rfl).drop (k:=0) rfl).drop (k:=0) rfl)⟩
 cases h:X6a kind of9 with
 | false=>rfl
 | true =>
  exfalso
  have h0:=hno 0 _ (by decide) rfl
  have h1:=hno 1 _ (by decide) rfl
  have h2:=hno 2 _ (by decide) rfl
  have h3:=hno 3 _ (by decide) rfl
  have h4:=hno 4 _ (by decide) rfl
  have h5:=hno 5 _ (by decide) rfl
  have h6:=hno 6 _ (by decide) rfl
  simp at h0 h1 h2 h3 h4 h5 h6
  simp [X6a] at h
  omega
def kdT (s:List UInt8):Int:=match X10 s with
 | some (k,_)=>(k:Nat)
 | none=>0
def drT (s:List UInt8):Nat:=match X10 s with
 | some (_,d)=>d
 | none=>0
theorem Xjg (s:List UInt8):(match X10 s with | some (k,d)=>Value.tuple #[I64 (k:Nat),U64 (d:Nat),.bool true] | none=>.tuple #[I64 0,U64 0,.bool false])=.tuple #[I64 (kdT s),U64 (drT s:Nat),.bool (X10 s).isSome]:=by
 unfold kdT drT
 cases X10 s with
 | none=>rfl
 | some x=>rfl
theorem Xj0 (s:List UInt8) (k:Int):isT s k=((X10 s).isSome && decide (kdT s=k)):=by
 unfold isT kdT
 cases X10 s with
 | none=>rfl
 | some x=>obtain ⟨a,b⟩:=x; rfl
theorem Xfj (k:Int) (s:List UInt8):X34 k s=(((X10 s).isSome || decide (s=[])) && X6a k (kdT s)):=by
 unfold X34
 by_cases h:s=[]
 ·subst h; rfl
 ·rw [if_neg h]
  unfold kdT
  cases X10 s with
  | none=>simp [h]
  | some x=>obtain ⟨a,b⟩:=x; simp
theorem X5n (s:List UInt8) (hsl:s.length≤9223372036854775000) (B w:World) (I:Im) (As:List X8) (hS:Sat B w I As) :
  Calls Tryz.prog 74 [S s].toArray w (Ret fun v w'=>v=.tuple #[I64 (kdT s),U64 (drT s:Nat),.bool (X10 s).isSome]∧Sat B w' I As) :=
 (Xbe s hsl B w I As hS).mono fun e w' ⟨v,he,hv,hS⟩=>⟨v,he,by rw [hv,Xjg],hS⟩
theorem X82 (r:Rec) (hn:r.name.length≤9223372036854775000) (hp:r.parent.length≤9223372036854775000) (B w:World) (I:Im) (As:List X8) (hS:Sat B w I As) :
  Calls Tryz.prog 123 [.agg (X7 r).toArray].toArray w (Ret fun v w'=>v=.bool (Xr r)∧Sat B w' I As):=by
 refine calls Tryz.func123 rfl Tryz.ntmps123 rfl (.seq (.region (.boxA (cs:=[_,_,_,_,_,_,_,_,_,_]) hS (.of rfl) rfl ?_)))
 clear hS; intro b1 w hS
 refine .q 1 rfl (.nil (.seq (.region ?_)))
 refine WL.val (.fieldAddr 1 (.of rfl) X15 rfl rfl Qs9 rfl) rfl (.val (.ld (.of rfl) hS (k:=0) rfl Qg9 rfl) rfl (.call Tryz.func74 rfl (X0 (.of rfl) X4) rfl (X5n r.name hn B _ I _ hS) ?_))
 clear hS
 rintro _ w ⟨rfl,hS⟩
 refine .q 7 rfl (.nil (.seq (.seq (.t 3 rfl (.gval rfl rfl (fun hg1=>(.move (.of rfl))) rfl ?_)))))
 refine WL.gval rfl rfl (fun hg1=>(by exact .fieldAddr 0 (.of rfl) X15 rfl rfl Qs3 rfl)) rfl ?_
 refine .gval rfl rfl (fun hg1=>(.ld (.gd hg1 rfl) hS (k:=0) rfl Qg3 rfl)) rfl (.gval rfl rfl (fun hg1=>(.neq (.gd hg1 rfl) (.gd hg1 rfl))) rfl (.val (.por (.of rfl) (.of rfl) (.of rfl)) rfl (.q 1 rfl ?_)))
 refine WL.gval rfl rfl (fun hg1=>(by exact .fieldAddr 3 (.of rfl) X15 rfl rfl Qs9 rfl)) rfl ?_
 refine .gval rfl rfl (fun hg1=>(.ld (.gd hg1 rfl) hS (k:=0) rfl Qg9 rfl)) rfl (.gval rfl rfl (fun hg1=>(.len (.gd hg1 rfl) Qu9)) rfl (.gval rfl rfl (fun hg1=>(.gtr (.gd hg1 rfl) (.of rfl))) rfl (.val (.por (.of rfl) (.of rfl) (.of rfl)) rfl (.q 1 rfl ?_))))
 refine WL.gval rfl rfl (fun hg1=>(by exact .fieldAddr 4 (.of rfl) X15 rfl rfl Qs9 rfl)) rfl ?_
 refine .gval rfl rfl (fun hg1=>(.ld (.gd hg1 rfl) hS (k:=0) rfl Qg9 rfl)) rfl (.gval rfl rfl (fun hg1=>(.len (.gd hg1 rfl) Qu9)) rfl (.gval rfl rfl (fun hg1=>(.gtr (.gd hg1 rfl) (.of rfl))) rfl (.val (.por (.of rfl) (.of rfl) (.of rfl)) rfl (.q 1 rfl ?_))))
 refine WL.gval rfl rfl (fun hg1=>(by exact .fieldAddr 5 (.of rfl) X15 rfl rfl Qs9 rfl)) rfl ?_
 refine .gval rfl rfl (fun hg1=>(.ld (.gd hg1 rfl) hS (k:=0) rfl Qg9 rfl)) rfl (.gval rfl rfl (fun hg1=>(.len (.gd hg1 rfl) Qu9)) rfl (.gval rfl rfl (fun hg1=>(.gtr (.gd hg1 rfl) (.of rfl))) rfl (.val (.por (.of rfl) (.of rfl) (.of rfl)) rfl (.nil ?_))))
 refine WC.cond rfl (fun hb41=>?_) (fun hb41=>?_)
 ·
  refine .seq (.q 1 rfl (.ret (X9 Xry rfl ?_)))
  refine ⟨_,rfl,congrArg Value.bool ?_,hS.drop (k:=0) rfl⟩
  cases h:Xr r with
  | false=>rfl
  | true =>
   exfalso
   unfold Xr at h
   simp only [Yq,decide_eq_true_eq,Xj0] at h
   obtain ⟨⟨⟨⟨⟨h1,h2⟩,h3⟩,_⟩,h4,h5⟩,_⟩:=h
   simp [h4,h5] at hb41
   omega
 refine .skip (.seq (.seq (.region ?_)))
 refine WL.val (.fieldAddr 6 (.of rfl) X15 rfl rfl Qs3 rfl) rfl (.val (.ld (.of rfl) hS (k:=0) rfl Qg3 rfl) rfl (.q 2 rfl ?_))
 refine WL.gval rfl rfl (fun hg1=>(by exact .fieldAddr 7 (.of rfl) X15 rfl rfl Qs3 rfl)) rfl ?_
 refine .gval rfl rfl (fun hg1=>(.ld (.gd hg1 rfl) hS (k:=0) rfl Qg3 rfl)) rfl (WL.gval rfl rfl (fun hg1=>(by exact .fieldAddr 6 (.of rfl) X15 rfl rfl Qs3 rfl)) rfl ?_)
 refine .gval rfl rfl (fun hg1=>(.ld (.gd hg1 rfl) hS (k:=0) rfl Qg3 rfl)) rfl (.gval rfl rfl (fun hg1=>(.lss (.gd hg1 rfl) (.gd hg1 rfl))) rfl (.val (.por (.of rfl) (.of rfl) (.of rfl)) rfl (.q 1 rfl ?_)))
 refine WL.gval rfl rfl (fun hg1=>(by exact .fieldAddr 7 (.of rfl) X15 rfl rfl Qs3 rfl)) rfl ?_
 refine .gval rfl rfl (fun hg1=>(.ld (.gd hg1 rfl) hS (k:=0) rfl Qg3 rfl)) rfl (.gval rfl rfl (fun hg1=>(.gtr (.gd hg1 rfl) (.of rfl))) rfl (.val (.por (.of rfl) (.of rfl) (.of rfl)) rfl (.q 1 rfl ?_)))
 refine WL.gval rfl rfl (fun hg1=>(by exact .fieldAddr 8 (.of rfl) X15 rfl rfl Qs3 rfl)) rfl ?_
 refine .gval rfl rfl (fun hg1=>(.ld (.gd hg1 rfl) hS (k:=0) rfl Qg3 rfl)) rfl (.gval rfl rfl (fun hg1=>(.lss (.gd hg1 rfl) (.of rfl))) rfl (.val (.por (.of rfl) (.of rfl) (.of rfl)) rfl (.q 1 rfl ?_)))
 refine WL.gval rfl rfl (fun hg1=>(by exact .fieldAddr 8 (.of rfl) X15 rfl rfl Qs3 rfl)) rfl ?_
 refine .gval rfl rfl (fun hg1=>(.ld (.gd hg1 rfl) hS (k:=0) rfl Qg3 rfl)) rfl (.gval rfl rfl (fun hg1=>(.gtr (.gd hg1 rfl) (.of rfl))) rfl (.val (.por (.of rfl) (.of rfl) (.of rfl)) rfl (.nil ?_)))
 refine WC.cond rfl (fun hb66=>?_) (fun hb66=>?_)
 ·
  refine .seq (.q 1 rfl (.ret (X9 Xry rfl ?_)))
  refine ⟨_,rfl,congrArg Value.bool ?_,hS.drop (k:=0) rfl⟩
  cases h:Xr r with
  | false=>rfl
  | true =>
   exfalso
   unfold Xr at h
   simp only [Yq,decide_eq_true_eq,Xj0] at h
   obtain ⟨⟨⟨_,⟨⟨⟨h1,h2⟩,h3⟩,h4⟩,h5⟩,_⟩,_⟩:=h
   simp at hb66
   omega
 refine .skip (.seq (.region ?_))
 refine WL.val (.fieldAddr 2 (.of rfl) X15 rfl rfl Qs9 rfl) rfl (.val (.ld (.of rfl) hS (k:=0) rfl Qg9 rfl) rfl (.call Tryz.func74 rfl (X0 (.of rfl) X4) rfl (X5n r.parent hp B _ I _ hS) ?_))
 clear hS
 rintro _ w ⟨rfl,hS⟩
 refine .q 7 rfl (.nil (.seq (.t 2 rfl ?_)))
 refine WL.gval rfl rfl (fun hg1=>(by exact .fieldAddr 2 (.of rfl) X15 rfl rfl Qs9 rfl)) rfl ?_
 refine .gval rfl rfl (fun hg1=>(.ld (.gd hg1 rfl) hS (k:=0) rfl Qg9 rfl)) rfl (.gval rfl rfl (fun hg1=>(.eqs (.gd hg1 rfl) (.of rfl))) rfl (.val (.por (.of rfl) (.of rfl) (.of rfl)) rfl (.q 1 rfl ?_)))
 refine WL.gval rfl rfl (fun hg1=>(by exact .fieldAddr 0 (.of rfl) X15 rfl rfl Qs3 rfl)) rfl ?_
 refine .gval rfl rfl (fun hg1=>(.ld (.gd hg1 rfl) hS (k:=0) rfl Qg3 rfl)) rfl (.gval rfl rfl (fun hg1=>(.move (.of rfl))) rfl (.gcall (T:=fun w=>Sat B w I _) rfl rfl rfl Tryz.func162 rfl (fun hg1=>(X0 (.gd hg1 rfl) (X0 (.gd hg1 rfl) X4))) rfl (fun hg1=>Xe5 r.kind (kdT r.parent) B _ I _ hS) hS ?_))
 clear hS; rintro w hS
 refine .val (.pand (.of rfl) (.of rfl) (.of rfl)) rfl (.q 1 rfl (.nil (.ret (X9 Xry rfl ?_))))
 refine ⟨_,rfl,congrArg Value.bool ?_,hS.drop (k:=0) rfl⟩
 rw [Xr,Xj0,Xfj]
 simp at hb41 hb66
 obtain ⟨⟨⟨⟨g1,g2⟩,g3⟩,g4⟩,g5⟩:=hb41
 obtain ⟨⟨⟨⟨f1,f2⟩,f3⟩,f4⟩,f5⟩:=hb66
 simp [g1,g2,f1,f2,f3,f4,f5]
 have e1:((r.user.length:Nat):Int)≤32:=by omega
 have e2:((r.service.length:Nat):Int)≤100:=by omega
 have e3:((r.url.length:Nat):Int)≤100:=by omega
 simp [e1,e2,e3]
 rw [show r.parent.isEmpty=decide (r.parent=[]) by cases r.parent <;> simp]
theorem at_hit {l:List Rec} {name:List UInt8} {i:Nat} {r:Rec} (h:l[i]?=some r) (hn:r.name=name) (hno:∀ (j:Nat) t,j<i→l[j]?=some t→t.name≠name):at0 l name=(i:Int):=by
 rw [at0,← X8b]
 exact X54 (fun j t hj ht=>decide_eq_false (hno j t hj ht)) h (decide_eq_true hn)
theorem Xr2 {l:List Rec} {name:List UInt8} (hno:∀ (j:Nat) t,l[j]?=some t→t.name≠name):at0 l name=-1:=by
 rw [at0,← X8b]
 exact X3o (fun j t ht=>decide_eq_false (hno j t ht))
theorem X2x (tb:Nat) (room:Int) (la:Option Addr) (lc:Nat) (l:List Rec) (hl:l.length≤100000) (name:List UInt8) (B w:World) (I:Im) (hR:RS I la 10 l.length (X1c X7 l)) (As:List X8) (hS:Sat B w I (blk tb [I64 room,.slice la l.length lc] 79::As)) :
  Calls Tryz.prog 124 [ptr tb 0,S name].toArray w (Ret fun v w'=>v=I64 (at0 l name)∧Sat B w' I (blk tb [I64 room,.slice la l.length lc] 79::As)):=by
 refine calls Xcl rfl Tryz.ntmps124 rfl (.seq (.q 1 rfl (.seq (.seq (.q 1 rfl (.block (.loop (σ:=Nat) (fun i=>[(0,ptr tb 0),(1,S name),(5,I64 (i:Nat))]) (fun i w=>i≤l.length∧(∀ (j:Nat) r,j<i→l[j]?=some r→r.name≠name)∧Sat B w I (blk tb [I64 room,.slice la l.length lc] 79::As)) (fun i=>l.length - i) 0 ⟨rfl,rfl,rfl,trivial⟩ ⟨Yp _,fun _ _ h=>absurd h (by omega),hS⟩ ?_)))))))
 rintro i w ⟨hi,hno,hS⟩
 refine .seq (.seq (.t 3 rfl ?_))
 refine WL.val (.fieldAddr 1 (.of rfl) X9t rfl rfl X3i rfl) rfl (WL.val (.ld (.of rfl) hS (k:=0) rfl X7l rfl) rfl (.run 2 rfl ⟨⟨_,X29⟩,trivial⟩ (.nil ?_)))
 refine WC.cond rfl (fun hb12=>?_) (fun hb12=>?_)
 ·
  have hc12:=hb12; try simp only [Y6] at hc12
  refine .skip (.seq (.block (.seq ?_)))
  obtain ⟨r,hr⟩:∃ r,l[i]?=some r:=⟨_,Y4 (by omega)⟩
  obtain ⟨q,hq9,hx⟩:=Xab (cells:=X7) (s:=10) (fun _=>rfl) (hR) hr
  subst hq9
  unfold X7 at hx
  refine .t 2 rfl (WL.val (.fieldAddr 1 (.of rfl) X9t rfl rfl X3i rfl) rfl (WL.val (.ld (.of rfl) hS (k:=0) rfl X7l rfl) rfl (.q 1 rfl (WL.val (.indexAddrI (.of rfl) (.of rfl) (by omega) (by omega) X29 Xw) rfl (WL.val (.fieldAddrI 1 (.of rfl) X15 rfl rfl Qs9 rfl) rfl (WL.val (.ldI (.of rfl) hS (At.add hx _) Qg9 rfl) rfl (.q 2 rfl (.nil ?_))))))))
  refine WC.cond rfl (fun hb24=>?_) (fun hb24=>?_)
  ·
   refine .seq (.q 2 rfl (.ret (X9 Tryz.results124 rfl ?_)))
   exact ⟨_,rfl,congrArg I64 (at_hit hr (by simpa using hb24) hno).symm,hS⟩
  have hc24:=hb24; try simp only [Y6] at hc24
  refine .skip (.region (.run 3 rfl ⟨⟨by omega,by omega⟩,trivial⟩ (.nil ?_)))
  refine ⟨i+1,⟨rfl,rfl,rfl,trivial⟩,⟨by (try dsimp only); omega,fun j t hj ht=>?_,hS⟩,by (try dsimp only); omega⟩
  rcases Yr j i with h1 | h1
  ·exact hno j t h1 ht
  ·have e:j=i:=by omega
   subst e
   rw [hr] at ht; cases ht
   simpa using hb24
 have hc12:=hb12; try simp only [Y6] at hc12
 refine .exit (.seq (.q 1 rfl (.ret (X9 Tryz.results124 rfl ?_))))
 refine ⟨_,rfl,congrArg I64 (Xr2 fun j t ht=>?_).symm,hS⟩
 have:=(Y5.1 ht).1
 exact hno j t (by omega) ht
theorem Xaj (tb:Nat) (room:Int) (la:Option Addr) (lc:Nat) (l:List Rec) (hl:l.length≤100000) (name:List UInt8) (B w:World) (I:Im) (hR:RS I la 10 l.length (X1c X7 l)) (As:List X8) (hS:Sat B w I (blk tb [I64 room,.slice la l.length lc] 79::As)) :
  Calls Tryz.prog 124 [ptr tb 0,S name].toArray w (Ret fun v w'=>(∃ k:Int,v=I64 k∧((k=-1∧get l name=none∧at0 l name=-1)∨∃ (j:Nat) (r:Rec),k=(j:Int)∧l[j]?=some r∧r.name=name∧get l name=some r∧at0 l name=(j:Int)))∧Sat B w' I (blk tb [I64 room,.slice la l.length lc] 79::As)) :=
 (X2x tb room la lc l hl name B w I hR As hS).mono fun e w' ⟨v,he,hv,hS⟩=>⟨v,he,by
  rcases Tr.get_at l name with ⟨h1,h2⟩ | ⟨j,r,h1,h2,h3,h4⟩
  ·exact ⟨⟨-1,by rw [hv,h1],.inl ⟨rfl,h2,h1⟩⟩,hS⟩
  ·exact ⟨⟨j,by rw [hv,h1],.inr ⟨j,r,rfl,h2,h3,h4,h1⟩⟩,hS⟩⟩
theorem Xak (tb:Nat) (room:Int) (la:Option Addr) (lc:Nat) (l:List Rec) (hl:l.length≤100000) (name:List UInt8) (B w:World) (I:Im) (hR:RS I la 10 l.length (X1c X7 l)) (As:List X8) (hS:Sat B w I (blk tb [I64 room,.slice la l.length lc] 79::As)) :
  Calls Tryz.prog 82 [ptr tb 0,S name].toArray w (Ret fun v w'=>v=.tuple #[.agg (X7 (getD l name)).toArray,.bool (get l name).isSome]∧Sat B w' I (blk tb [I64 room,.slice la l.length lc] 79::As)):=by
 refine calls Tryz.func82 rfl Tryz.ntmps82 rfl (.seq (.region (.allocA (cs:=[_,_,_,_,_,_,_,_,_,_]) hS X5q rfl ?_)))
 clear hS; intro b4 w hS
 refine .q 1 rfl (.nil (.seq (.t 2 rfl (.call Xcl rfl (X0 (.of rfl) (X0 (.of rfl) X4)) rfl (Xaj tb room la lc l hl name B _ I hR _ (hS.pick 1 rfl)) ?_))))
 clear hS
 rintro _ w ⟨⟨k,rfl,hk⟩,hS⟩
 refine .q 1 rfl (.nil (.seq (.seq (.region ?_))))
 rcases hk with ⟨rfl,hg,_⟩ | ⟨j,r,rfl,hr,hn9,hg,_⟩
 ·
  refine .val (.move (.of rfl)) rfl (.q 1 rfl (.nil (.condT (congrArg (fun b=>some (Value.bool b)) (decide_eq_true (by decide))) (.seq (.region (.val (.build (cs:=[_,_,_,_,_,_,_,_,_,_]) X6 X2e rfl) rfl ?_))))))
  refine WL.stA hS (k:=1) rfl (.of rfl) (.of rfl) rfl Xw rfl (by simp) ?_
  clear hS; intro w hS
  try simp only [Yl,Yf,Yc,Y9,Yj,Yo,Yd] at hS
  refine .q 1 rfl (.nil (.ret ?_))
  refine X1v (b:=_) (cs:=[_,_,_,_,_,_,_,_,_,_]) Tryz.results82 hS (k:=1) rfl X36 Xw rfl rfl rfl ?_
  exact ⟨_,rfl,by rw [getD,hg]; rfl,hS.drop (k:=1) rfl⟩
 obtain ⟨q,hq9,hx⟩:=Xab (cells:=X7) (s:=10) (fun _=>rfl) hR hr
 subst hq9
 unfold X7 at hx
 have hjl:=(Y5.1 hr).1
 refine .val (.move (.of rfl)) rfl (.q 1 rfl (.nil (.condF (congrArg (fun b=>some (Value.bool b)) (decide_eq_false (by omega))) (.skip (.seq (.t 2 rfl ?_))))))
 refine WL.val (.fieldAddr 1 (.of rfl) X9t rfl rfl X3i rfl) rfl (WL.val (.ld (.of rfl) hS (k:=0) rfl X7l rfl) rfl (.q 1 rfl (WL.val (.indexAddrI (.of rfl) (.of rfl) (by omega) (by omega) X29 Xw) rfl (WL.val (.ldsI (.of rfl) hS hx X36 Xw rfl (fun _ _ h=>h)) rfl (WL.stA hS (k:=1) rfl (.of rfl) (.of rfl) rfl Xw rfl (by simp) ?_)))))
 clear hS; intro w hS
 try simp only [Yl,Yf,Yc,Y9,Yj,Yo,Yd] at hS
 refine .q 1 rfl (.nil (.ret ?_))
 refine X1v (b:=_) (cs:=[_,_,_,_,_,_,_,_,_,_]) Tryz.results82 hS (k:=1) rfl X36 Xw rfl rfl rfl ?_
 exact ⟨_,rfl,by rw [getD,hg]; rfl,hS.drop (k:=1) rfl⟩
theorem Xeg (tb:Nat) (room:Int) (la:Option Addr) (lc:Nat) (l:List Rec) (hl:l.length≤100000) (name:List UInt8) (B w:World) (I:Im) (hR:RS I la 10 l.length (X1c X7 l)) (As:List X8) (hS:Sat B w I (blk tb [I64 room,.slice la l.length lc] 79::As)) :
  Calls Tryz.prog 142 [ptr tb 0,S name].toArray w (Ret fun v w'=>∃ J ra rc,v=.slice ra (X2h l name).length rc∧Le I J∧(X2h l name).length≤rc∧RS J ra 1 (X2h l name).length ((X2h l name).map S)∧Sat B w' J (blk tb [I64 room,.slice la l.length lc] 79::As)):=by
 refine calls Tryz.func142 rfl Tryz.ntmps142 rfl (.seq (.q 1 rfl (.seq ?_)))
 replace hS:=hS.vecNil 9 1
 refine .q 1 rfl (.seq (.seq (.q 1 rfl (.block (.loop (σ:=Value×Nat) (fun ⟨kv,i⟩=>[(0,ptr tb 0),(1,S name),(5,kv),(6,I64 (i:Nat))]) (fun ⟨kv,i⟩ w=>i≤l.length∧Sat B w I (Vec 9 1 kv (X2h (l.take i) name).length ((X2h (l.take i) name).map S)::blk tb [I64 room,.slice la l.length lc] 79::As)) (fun ⟨kv,i⟩=>l.length - i) (.slice none 0 0,0) ⟨rfl,rfl,rfl,rfl,trivial⟩ ⟨Yp _,hS⟩ ?_)))))
 rintro ⟨kv,i⟩ w ⟨hi,hS⟩
 refine .seq (.seq (.t 3 rfl ?_))
 refine WL.val (.fieldAddr 1 (.of rfl) X9t rfl rfl X3i rfl) rfl (WL.val (.ld (.of rfl) hS (k:=1) rfl X7l rfl) rfl (.run 2 rfl ⟨⟨_,X29⟩,trivial⟩ (.nil ?_)))
 refine WC.cond rfl (fun hb13=>?_) (fun hb13=>?_)
 ·
  have hc13:=hb13; try simp only [Y6] at hc13
  refine .skip (.seq (.block (.seq ?_)))
  obtain ⟨r,hr⟩:∃ r,l[i]?=some r:=⟨_,Y4 (by omega)⟩
  obtain ⟨q,hq9,hx⟩:=Xab (cells:=X7) (s:=10) (fun _=>rfl) (hR) hr
  subst hq9
  unfold X7 at hx
  have hkl:=Xbd (l.take i) name
  rw [Yu] at hkl
  refine .t 2 rfl (WL.val (.fieldAddr 1 (.of rfl) X9t rfl rfl X3i rfl) rfl (WL.val (.ld (.of rfl) hS (k:=1) rfl X7l rfl) rfl (.q 1 rfl (WL.val (.indexAddrI (.of rfl) (.of rfl) (by omega) (by omega) X29 Xw) rfl (WL.val (.fieldAddrI 2 (.of rfl) X15 rfl rfl Qs9 rfl) rfl (WL.val (.ldI (.of rfl) hS (At.add hx _) Qg9 rfl) rfl (.q 3 rfl (.gval rfl rfl (fun hg1=>(.move (.of rfl))) rfl (.gval rfl rfl (fun hg1=>(.nes (.gd hg1 rfl) (.of rfl))) rfl (.val (.pand (.of rfl) (.of rfl) (.of rfl)) rfl (.nil ?_)))))))))))
  refine WC.cond rfl (fun hb29=>?_) (fun hb29=>?_)
  ·
   have hc29:=hb29; try simp only [Y6] at hc29
   refine .t 3 rfl (WL.val (.fieldAddr 1 (.of rfl) X9t rfl rfl X3i rfl) rfl (WL.val (.ld (.of rfl) hS (k:=1) rfl X7l rfl) rfl (.q 1 rfl (WL.val (.indexAddrI (.of rfl) (.of rfl) (by omega) (by omega) X29 Xw) rfl (WL.val (.fieldAddrI 1 (.of rfl) X15 rfl rfl Qs9 rfl) rfl (WL.val (.ldI (.of rfl) hS (At.add hx _) Qg9 rfl) rfl (.buildSlice (cs:=[_]) hS (X5 (.of rfl) X6) X1p Qs9 Qz9 rfl rfl rfl rfl ?_)))))))
   clear hS; intro b39 w hS
   refine WL.append (size:=1) (bytes:=16) hS (.of rfl) (.of rfl) (k:=0) rfl X1p X1o rfl rfl rfl rfl rfl rfl rfl ⟨by omega,by unfold maxLen; omega⟩ rfl ?_
   clear hS; intro v40 w hS
   obtain ⟨a40,c40,rfl,hcap40,_⟩:=hS.vecSlice (k:=0) (v:=v40) rfl
   refine .q 1 rfl (.nil (.region (.run 3 rfl ⟨⟨by omega,by omega⟩,trivial⟩ (.nil ?_))))
   have e:=X6b hr name
   rw [if_pos (by simpa [and_comm] using hb29)] at e
   refine ⟨(.slice a40 ((X2h (l.take i) name).length+1) c40,i+1),⟨rfl,rfl,rfl,rfl,trivial⟩,⟨by (try dsimp only); omega,?_⟩,by (try dsimp only); omega⟩
   rw [e,Y0,Yw]
   exact hS
  have hc29:=hb29; try simp only [Y6] at hc29
  refine .skip (.region (.run 3 rfl ⟨⟨by omega,by omega⟩,trivial⟩ (.nil ?_)))
  have e:=X6b hr name
  rw [if_neg (by simpa [and_comm] using hb29),Yc] at e
  refine ⟨(kv,i+1),⟨rfl,rfl,rfl,rfl,trivial⟩,⟨by (try dsimp only); omega,?_⟩,by (try dsimp only); omega⟩
  rw [e]
  exact hS
 have hc13:=hb13; try simp only [Y6] at hc13
 refine .exit (.seq (.q 2 rfl (.ret (X9 Tryz.results142 rfl ?_))))
 have hin:i=l.length:=by omega
 subst hin
 rw [Y1b] at hS
 obtain ⟨ka,kc,rfl,hkc,_⟩:=hS.vecSlice (k:=0) rfl
 obtain ⟨J,hJ,hRS,hS⟩:=hS.freezeVec (k:=0) rfl
 exact ⟨_,rfl,J,ka,kc,rfl,hJ,hkc,hRS,hS⟩
theorem Xeh (tb:Nat) (room:Int) (la:Option Addr) (lc:Nat) (l:List Rec) (hl:l.length≤100000) (hwf:Wf l) (name:List UInt8) (B w:World) (I:Im) (hR:RS I la 10 l.length (X1c X7 l)) (As:List X8) (hS:Sat B w I (blk tb [I64 room,.slice la l.length lc] 79::As)) :
  Calls Tryz.prog 81 [ptr tb 0,S name].toArray w (Ret fun v w'=>∃ J ra rc,v=.slice ra (path l name).length rc∧Le I J∧(path l name).length≤rc∧RS J ra 1 (path l name).length ((path l name).map fun r=>S r.name)∧Sat B w' J (blk tb [I64 room,.slice la l.length lc] 79::As)):=by
 refine calls Tryz.func81 rfl Tryz.ntmps81 rfl (.seq (.q 1 rfl (.seq (.q 1 rfl (.seq (.t 2 rfl (.call Xcl rfl (X0 (.of rfl) (X0 (.of rfl) X4)) rfl (X2x tb room la lc l hl name B _ I hR _ hS) ?_)))))))
 clear hS
 rintro _ w ⟨rfl,hS⟩
 replace hS:=hS.vecNil 9 1
 refine .q 1 rfl (.nil (.seq (.block (.loop (σ:=Value×Int×List Rec) (fun ⟨kv,i,D⟩=>[(0,ptr tb 0),(1,S name),(5,kv),(6,I64 i)]) (fun ⟨kv,i,D⟩ w=>path l name=D ++ Xdo l i∧-1≤i∧i<l.length∧Sat B w I (Vec 9 1 kv D.length (D.map fun r=>S r.name)::blk tb [I64 room,.slice la l.length lc] 79::As)) (fun ⟨kv,i,D⟩=>(i+1).toNat) (.slice none 0 0,at0 l name,[]) ⟨rfl,rfl,rfl,rfl,trivial⟩ ⟨rfl,Xkr l name,Xck l name,hS⟩ ?_))))
 rintro ⟨kv,i,D⟩ w ⟨hp2,hi1,hi2,hS⟩
 refine .seq (.seq (.q 2 rfl ?_))
 refine WC.cond rfl (fun hb11=>?_) (fun hb11=>?_)
 ·
  refine .skip (.block (.seq ?_))
  obtain ⟨n9,rfl⟩:∃ q:Nat,i=(q:Int):=⟨i.toNat,by simp at hb11; omega⟩
  obtain ⟨r,hr⟩:∃ r,l[n9]?=some r:=⟨_,Y4 (by omega)⟩
  obtain ⟨q,hq9,hx⟩:=Xab (cells:=X7) (s:=10) (fun _=>rfl) hR hr
  subst hq9
  unfold X7 at hx
  have hql:n9<l.length:=by omega
  have hup:=(hwf.up n9 r hr).2
  have hDl:D.length≤l.length:=by have h1:=Xcj hwf name; rw [hp2,Y0] at h1; omega
  refine .t 3 rfl (WL.val (.fieldAddr 1 (.of rfl) X9t rfl rfl X3i rfl) rfl (WL.val (.ld (.of rfl) hS (k:=1) rfl X7l rfl) rfl (.q 1 rfl (WL.val (.indexAddrI (.of rfl) (.of rfl) (by omega) (by omega) X29 Xw) rfl (WL.val (.fieldAddrI 1 (.of rfl) X15 rfl rfl Qs9 rfl) rfl (WL.val (.ldI (.of rfl) hS (At.add hx _) Qg9 rfl) rfl (.buildSlice (cs:=[_]) hS (X5 (.of rfl) X6) X1p Qs9 Qz9 rfl rfl rfl rfl ?_)))))))
  clear hS; intro b21 w hS
  refine WL.append (size:=1) (bytes:=16) hS (.of rfl) (.of rfl) (k:=0) rfl X1p X1o rfl rfl rfl rfl rfl rfl rfl ⟨by omega,by unfold maxLen; omega⟩ rfl ?_
  clear hS; intro v22 w hS
  obtain ⟨a22,c22,rfl,hcap22,_⟩:=hS.vecSlice (k:=0) (v:=v22) rfl
  refine .q 1 rfl (.nil (.t 3 rfl ?_))
  refine WL.val (.fieldAddr 1 (.of rfl) X9t rfl rfl X3i rfl) rfl (WL.val (.ld (.of rfl) hS (k:=1) rfl X7l rfl) rfl (.q 1 rfl (WL.val (.indexAddrI (.of rfl) (.of rfl) (by omega) (by omega) X29 Xw) rfl (WL.val (.fieldAddrI 2 (.of rfl) X15 rfl rfl Qs9 rfl) rfl (WL.val (.ldI (.of rfl) hS (At.add hx _) Qg9 rfl) rfl (.call Xcl rfl (X0 (.of rfl) (X0 (.of rfl) X4)) rfl (X2x tb room (some q) lc l hl r.parent B _ I hR _ (hS.pick 1 rfl)) ?_))))))
  clear hS
  rintro _ w ⟨rfl,hS⟩
  refine .q 1 rfl (.nil ?_)
  refine ⟨(.slice a22 (D.length+1) c22,at0 l r.parent,D ++ [r]),⟨rfl,rfl,rfl,rfl,trivial⟩,⟨by (try dsimp only); rw [hp2,Xc1 hwf hr,Ye]; rfl,Xkr l _,Xck l _,?_⟩,by (try dsimp only); omega⟩
  rw [Y0,Yw]
  exact (hS.pick 1 rfl)
 refine .exit (.seq (.q 2 rfl (.ret (X9 Tryz.results81 rfl ?_))))
 have hin:i<0:=by simp at hb11; omega
 rw [X6t l hin,Yc] at hp2
 subst hp2
 obtain ⟨ka,kc,rfl,hkc,_⟩:=hS.vecSlice (k:=0) rfl
 obtain ⟨J,hJ,hRS,hS⟩:=hS.freezeVec (k:=0) rfl
 exact ⟨_,rfl,J,ka,kc,rfl,hJ,hkc,hRS,hS⟩
theorem Xkv (l:List (List UInt8)):(l.map S).all Value.oneCell'=true:=by
 rw [List.all_map,Y1a]; intro x _; rfl
theorem Xc5 (tb:Nat) (room:Int) (la:Option Addr) (lc:Nat) (l:List Rec) (hl:l.length≤100000) (hwf:Wf l):∀ (n:Nat) (name:List UInt8) (B w:World) (I:Im) (hR:RS I la 10 l.length (X1c X7 l)) (As:List X8) (h0:0≤at0 l name) (hn:(l.length:Int) - at0 l name≤n) (hob:(Xl l n name).length≤1000000) (hS:Sat B w I (blk tb [I64 room,.slice la l.length lc] 79::As)),
  Calls Tryz.prog 104 [ptr tb 0,S name].toArray w (Ret fun v w'=>∃ J ra rc,v=.slice ra (Xl l n name).length rc∧Le I J∧(Xl l n name).length≤rc∧RS J ra 1 (Xl l n name).length ((Xl l n name).map S)∧Sat B w' J (blk tb [I64 room,.slice la l.length lc] 79::As)):=by
 intro n
 induction n with
 | zero=>intro name B w I hR As h0 hn; have:=Xck l name; omega
 | succ n ih =>
  intro name B w I hR As h0 hn hob hS
  rw [Xl,Y8] at hob
  refine calls Xm4 rfl Tryz.ntmps104 rfl (.seq (.q 1 rfl (.seq (.seq (.t 2 rfl (.call Xcl rfl (X0 (.of rfl) (X0 (.of rfl) X4)) rfl (X2x tb room la lc l hl name B _ I hR _ hS) ?_))))))
  clear hS
  rintro _ w ⟨rfl,hS⟩
  refine .q 1 rfl (.nil (.condF (congrArg (fun b=>some (Value.bool b)) (decide_eq_false (by omega))) (.skip (.seq (.t 1 rfl (.buildSlice (cs:=[_]) hS (X5 (.of rfl) X6) X1p Qs9 Qz9 rfl rfl rfl rfl ?_))))))
  clear hS; intro b13 w hS
  refine .q 1 rfl (.nil (.seq ?_))
  replace hS:=hS.vecOf (k:=0) (E:=9) (size:=1) (n:=1) rfl rfl (by decide)
  try dsimp only [List.set] at hS
  refine .t 2 rfl (.call Tryz.func142 rfl (X0 (.of rfl) (X0 (.of rfl) X4)) rfl (Xeg tb room la lc l hl name B _ I hR _ (hS.pick 1 rfl)) ?_)
  clear hS
  rintro _ w ⟨J,ra,rc,rfl,hJ,hrc,hRS,hS⟩
  try dsimp only [List.eraseIdx] at hS
  have hkl:=Xbd l name
  refine .q 1 rfl (.nil (.seq (.seq (.q 1 rfl (.block (.loop (σ:=Nat×Value×Im) (fun ⟨i,v,J2⟩=>[(0,ptr tb 0),(1,S name),(5,v),(6,.slice ra (X2h l name).length rc),(7,I64 (i:Nat))]) (fun ⟨i,v,J2⟩ w=>i≤(X2h l name).length∧Le J J2∧Sat B w J2 (blk tb [I64 room,.slice la l.length lc] 79::Vec 9 1 v (name::((X2h l name).take i).flatMap (Xl l n)).length ((name::((X2h l name).take i).flatMap (Xl l n)).map S)::As)) (fun ⟨i,v,J2⟩=>(X2h l name).length - i) (0,_,J) ⟨rfl,rfl,rfl,rfl,rfl,trivial⟩ ⟨Yp _,Le.refl _,hS⟩ ?_))))))
  rintro ⟨i,v,J2⟩ w ⟨hi,hJ2,hS⟩
  refine .seq (.seq (.region (.run 4 rfl ⟨⟨_,X1p⟩,trivial⟩ (.nil ?_))))
  refine WC.cond rfl (fun hb20=>?_) (fun hb20=>?_)
  ·
   have hc20:=hb20; try simp only [Y6] at hc20
   refine .skip (.seq (.block ?_))
   obtain ⟨k,hk⟩:∃ k,(X2h l name)[i]?=some k:=⟨_,Y4 (by omega)⟩
   have hkm:=Xcp hwf (Ym hk)
   have hnm:((X2h l name).map S)[i]?=some (S k):=by rw [Yy,hk]; rfl
   have hfl:(((X2h l name).take i).flatMap (Xl l n)).length+(Xl l n k).length≤((X2h l name).flatMap (Xl l n)).length:=by
    have e:=Y10 i (X2h l name)
    have e2:=Y1d (l:=X2h l name) (i:=i) (by omega)
    rw [(Y5.1 hk).2] at e2
    rw [e2] at e
    have e3:=congrArg (fun x=>(List.flatMap (Xl l n) x).length) e
    simp only [Y1p,Y2c,Y0] at e3
    omega
   obtain ⟨p,rfl,hA⟩:=hRS.2 (by omega)
   refine .t 4 rfl (WL.val (.indexAddrI (.of rfl) (.of rfl) (by omega) (by omega) X1p Qs9) rfl ?_)
   refine WL.val (ldC (.of rfl) (by have h9:=X2o hS (hA.mono hJ2) hnm; simpa using h9) Qg9) rfl ?_
   refine .call Xm4 rfl (X0 (.of rfl) (X0 (.of rfl) X4)) rfl (ih k B _ J2 (hR.mono (hJ.trans hJ2)) _ hkm.2.1 (by omega) (by omega) hS) ?_
   clear hS
   rintro _ w ⟨J3,ra3,rc3,rfl,hJ3,hrc3,hRS3,hS⟩
   refine WL.appendF (size:=1) (bytes:=16) hS (.of rfl) (.of rfl) hRS3 (k:=1) rfl X1p (i:=Tryz.t9) (by kernel_rfl) rfl rfl rfl rfl (Xkv _) ⟨by (try simp only [Y8]); omega,by unfold maxLen; (try simp only [Y8]); omega⟩ rfl ?_
   clear hS; intro v30 w hS
   try dsimp only [List.set] at hS
   refine .q 1 rfl (.nil (.region (.run 3 rfl ⟨⟨by omega,by omega⟩,trivial⟩ (.nil ?_))))
   refine ⟨(i+1,v30,J3),⟨rfl,rfl,rfl,rfl,rfl,trivial⟩,⟨by (try dsimp only); omega,hJ2.trans hJ3,?_⟩,by (try dsimp only); omega⟩
   rw [Y15,hk,Y20,Y1p,Y2c,List.flatMap_nil,Yc,← Ys,Y0,Yw]
   exact hS
  have hc20:=hb20; try simp only [Y6] at hc20
  refine .exit (.seq (.q 2 rfl (.ret (X9 Tryz.results104 rfl ?_))))
  have hin:i=(X2h l name).length:=by omega
  subst hin
  rw [Y1b] at hS
  obtain ⟨ka,kc,rfl,hkc,_⟩:=hS.vecSlice (k:=1) rfl
  obtain ⟨J4,hJ4,hRS4,hS⟩:=hS.freezeVec (k:=1) rfl
  exact ⟨_,rfl,J4,ka,kc,rfl,hJ.trans (hJ2.trans hJ4),hkc,hRS4,hS⟩
theorem Xdb (tb:Nat) (room:Int) (la:Option Addr) (lc:Nat) (l:List Rec) (hl:l.length≤100000) (hwf:Wf l) (name:List UInt8) (B w:World) (I:Im) (hR:RS I la 10 l.length (X1c X7 l)) (As:List X8) (hS:Sat B w I (blk tb [I64 room,.slice la l.length lc] 79::As)) :
  Calls Tryz.prog 104 [ptr tb 0,S name].toArray w (Ret fun v w'=>∃ J ra rc,v=.slice ra (below l name).length rc∧Le I J∧(below l name).length≤rc∧RS J ra 1 (below l name).length ((below l name).map S)∧Sat B w' J (blk tb [I64 room,.slice la l.length lc] 79::As)):=by
 by_cases h0:0≤at0 l name
 ·rw [show below l name=Xl l l.length name from if_pos h0]
  exact Xc5 tb room la lc l hl hwf l.length name B w I hR As h0 (by omega) (by have:=Xd5 hwf l.length name; omega) hS
 ·have h0:at0 l name<0:=by omega
  refine calls Xm4 rfl Tryz.ntmps104 rfl (.seq (.q 1 rfl (.seq (.seq (.t 2 rfl (.call Xcl rfl (X0 (.of rfl) (X0 (.of rfl) X4)) rfl (X2x tb room la lc l hl name B _ I hR _ hS) ?_))))))
  clear hS
  rintro _ w ⟨rfl,hS⟩
  refine .q 1 rfl (.nil (.condT (congrArg (fun b=>some (Value.bool b)) (decide_eq_true (by omega))) (.seq (.q 1 rfl (.ret (X9 Tryz.results104 rfl ?_))))))
  rw [show below l name=[] from if_neg (by omega)]
  exact ⟨_,rfl,I,none,0,rfl,Le.refl _,Yt _,⟨rfl,fun h=>absurd h (by simp)⟩,hS⟩
theorem X5x (tb:Nat) (room:Int) (la:Option Addr) (lc:Nat) (l:List Rec) (hl:l.length≤100000) (hwf:Wf l) (name:List UInt8) (B w:World) (I:Im) (hR:RS I la 10 l.length (X1c X7 l)) (As:List X8) (hS:Sat B w I (blk tb [I64 room,.slice la l.length lc] 79::As)) :
  Calls Tryz.prog 51 [ptr tb 0,S name].toArray w (Ret fun v w'=>∃ J oa oc,Le I J∧RS J oa 10 (drop l name).length (X1c X7 (drop l name))∧Sat B w' J (blk tb [I64 room,.slice oa (drop l name).length oc] 79::As)):=by
 refine calls Qf51 rfl Tryz.ntmps51 rfl (.seq (.q 1 rfl (.seq (.t 2 rfl (.call Xm4 rfl (X0 (.of rfl) (X0 (.of rfl) X4)) rfl (Xdb tb room la lc l hl hwf name B _ I hR _ hS) ?_)))))
 clear hS
 rintro _ w ⟨J,ra,rc,rfl,hJ,hrc,hRS,hS⟩
 have hbl:=Xgn hwf name
 refine .q 1 rfl (.nil (.seq (.q 1 rfl (.seq (.seq ?_)))))
 replace hS:=hS.vecNil 45 10
 refine .q 1 rfl (.block (.loop (σ:=Value×Nat) (fun ⟨ov,i⟩=>[(0,ptr tb 0),(5,.slice ra (below l name).length rc),(6,ov),(7,I64 (i:Nat))]) (fun ⟨ov,i⟩ w=>i≤l.length∧Sat B w J (Vec 45 10 ov ((l.take i).filter fun r=>!(below l name).contains r.name).length (Xf ((l.take i).filter fun r=>!(below l name).contains r.name))::blk tb [I64 room,.slice la l.length lc] 79::As)) (fun ⟨ov,i⟩=>l.length - i) (.slice none 0 0,0) ⟨rfl,rfl,rfl,rfl,trivial⟩ ⟨Yp _,hS⟩ ?_))
 rintro ⟨ov,i⟩ w ⟨hi,hS⟩
 refine .seq (.seq (.t 3 rfl ?_))
 refine WL.val (.fieldAddr 1 (.of rfl) X9t rfl rfl X3i rfl) rfl (WL.val (.ld (.of rfl) hS (k:=1) rfl X7l rfl) rfl (.run 2 rfl ⟨⟨_,X29⟩,trivial⟩ (.nil ?_)))
 refine WC.cond rfl (fun hb18=>?_) (fun hb18=>?_)
 ·
  have hc18:=hb18; try simp only [Y6] at hc18
  refine .skip (.seq (.block (.seq ?_)))
  obtain ⟨r,hr⟩:∃ r,l[i]?=some r:=⟨_,Y4 (by omega)⟩
  obtain ⟨q,hq9,hx⟩:=Xab (cells:=X7) (s:=10) (fun _=>rfl) (hR.mono hJ) hr
  subst hq9
  unfold X7 at hx
  have hfl:((l.take i).filter fun r=>!(below l name).contains r.name).length≤l.length:=Y27 (List.length_filter_le _ _) (by rw [Yu]; omega)
  refine .t 3 rfl (WL.val (.fieldAddr 1 (.of rfl) X9t rfl rfl X3i rfl) rfl (WL.val (.ld (.of rfl) hS (k:=1) rfl X7l rfl) rfl (.q 1 rfl (WL.val (.indexAddrI (.of rfl) (.of rfl) (by omega) (by omega) X29 Xw) rfl (WL.val (.fieldAddrI 1 (.of rfl) X15 rfl rfl Qs9 rfl) rfl (WL.val (.ldI (.of rfl) hS (At.add hx _) Qg9 rfl) rfl ?_))))))
  refine WL.call Tryz.func19 rfl (X0 (.of rfl) (X0 (.of rfl) X4)) rfl (In_any ra rc (below l name) (by omega) r.name B _ J _ (fun w h=>Xk2 (cells:=Xdj) (s:=1) (fun _=>rfl) h (by rw [rowsT]; exact hRS)) hS) ?_
  clear hS
  rintro _ w ⟨rfl,hS⟩
  refine .q 1 rfl (.nil (.seq (.q 2 rfl ?_)))
  refine WC.cond rfl (fun hb32=>?_) (fun hb32=>?_)
  ·
   have hc32:=hb32; try simp only [Y6] at hc32
   refine .t 3 rfl (WL.val (.fieldAddr 1 (.of rfl) X9t rfl rfl X3i rfl) rfl (WL.val (.ld (.of rfl) hS (k:=1) rfl X7l rfl) rfl (.q 1 rfl (WL.val (.indexAddrI (.of rfl) (.of rfl) (by omega) (by omega) X29 Xw) rfl (WL.val (.ldsI (.of rfl) hS hx X36 Xw rfl (fun _ _ h=>h)) rfl (.buildSlice (cs:=[_,_,_,_,_,_,_,_,_,_]) hS (X5 (.of rfl) X6) X29 Xw X5q rfl rfl rfl rfl ?_))))))
   clear hS; intro b41 w hS
   refine WL.append (size:=10) (bytes:=120) hS (.of rfl) (.of rfl) (k:=0) rfl X29 X4l rfl rfl rfl rfl rfl rfl rfl ⟨by omega,by unfold maxLen; omega⟩ rfl ?_
   clear hS; intro v42 w hS
   obtain ⟨a42,c42,rfl,hcap42,_⟩:=hS.vecSlice (k:=0) (v:=v42) rfl
   refine .q 1 rfl (.nil (.region (.run 3 rfl ⟨⟨by omega,by omega⟩,trivial⟩ (.nil ?_))))
   refine ⟨(.slice a42 (((l.take i).filter fun r=>!(below l name).contains r.name).length+1) c42,i+1),⟨rfl,rfl,rfl,rfl,trivial⟩,⟨by (try dsimp only); omega,?_⟩,by (try dsimp only); omega⟩
   rw [Y15,hr,Y20,Y3a,Y42,if_pos (by simpa using hb32),List.filter_nil,Y0,Y1f,X3a]
   exact hS
  have hc32:=hb32; try simp only [Y6] at hc32
  refine .skip (.region (.run 3 rfl ⟨⟨by omega,by omega⟩,trivial⟩ (.nil ?_)))
  refine ⟨(ov,i+1),⟨rfl,rfl,rfl,rfl,trivial⟩,⟨by (try dsimp only); omega,?_⟩,by (try dsimp only); omega⟩
  rw [Y15,hr,Y20,Y3a,Y42,if_neg (by simpa using hb32),List.filter_nil,Yc]
  exact hS
 have hc18:=hb18; try simp only [Y6] at hc18
 refine .exit (.seq ?_)
 obtain ⟨oa,oc,hov,hoc,_⟩:=hS.vecSlice (k:=0) rfl
 subst hov
 refine .t 3 rfl (WL.val (.fieldAddr 1 (.of rfl) X9t rfl rfl X3i rfl) rfl (WL.st1 hS (k:=1) rfl (.of rfl) (.of rfl) rfl X3i (by simp) ?_))
 clear hS; intro w hS
 refine .nil (.seq (.q 2 rfl (.ret (X9 Tryz.results51 rfl ?_))))
 have hin:i=l.length:=by omega
 subst hin
 rw [Y1b] at hS
 obtain ⟨J2,hJ2,hR2,hS⟩:=hS.freezeVec (k:=0) rfl
 exact ⟨_,rfl,J2,oa,oc,hJ.trans hJ2,hR2,hS⟩
theorem Xib (tb:Nat) (room:Int) (la:Option Addr) (lc:Nat) (l:List Rec) (hl:l.length≤100000) (r:Rec) (hn:r.name.length≤9223372036854775000) (hp:r.parent.length≤9223372036854775000) (B w:World) (I:Im) (hR:RS I la 10 l.length (X1c X7 l)) (As:List X8) (hS:Sat B w I (blk tb [I64 room,.slice la l.length lc] 79::As)) :
  Calls Tryz.prog 73 [ptr tb 0,.agg (X7 r).toArray].toArray w (Ret fun v w'=>v=I64 (X5e room l r:Nat)∧∃ J oa oc,Le I J∧RS J oa 10 (add room l r).length (X1c X7 (add room l r))∧Sat B w' J (blk tb [I64 room,.slice oa (add room l r).length oc] 79::As)):=by
 refine calls Tryz.func73 rfl Tryz.ntmps73 rfl (.seq (.region (.boxA (cs:=[_,_,_,_,_,_,_,_,_,_]) hS (.of rfl) rfl ?_)))
 clear hS; intro b3 w hS
 refine .q 1 rfl (.nil (.seq (.region ?_)))
 refine WL.val (.ldsW (cs:=[_,_,_,_,_,_,_,_,_,_]) (.of rfl) hS (k:=0) rfl X36 Xw rfl) rfl (.call Tryz.func123 rfl (X0 (.of rfl) X4) rfl (X82 r hn hp B _ I _ hS) ?_)
 clear hS
 rintro _ w ⟨rfl,hS⟩
 refine .q 1 rfl (.nil (.seq (.seq (.q 2 rfl ?_))))
 refine WC.cond rfl (fun hb9=>?_) (fun hb9=>?_)
 ·
  refine .seq (.q 1 rfl (.ret (X9 Xsh rfl ?_)))
  have h1:Xr r=false:=by simpa using hb9
  have hE:X5e room l r=1:=by rw [X5e,if_pos h1]
  have hQ:add room l r=l:=by rw [add,if_neg (by rw [hE]; decide)]
  rw [hE,hQ]
  exact ⟨_,rfl,rfl,I,la,lc,Le.refl _,hR,((hS.pick 1 rfl).drop (k:=1) rfl)⟩
 refine .skip (.seq (.seq (.t 1 rfl ?_)))
 refine WL.val (.fieldAddr 1 (.of rfl) X15 rfl rfl Qs9 rfl) rfl (WL.val (.ld (.of rfl) hS (k:=0) rfl Qg9 rfl) rfl (.call Xcl rfl (X0 (.of rfl) (X0 (.of rfl) X4)) rfl (X2x tb room la lc l hl r.name B _ I hR _ (hS.pick 1 rfl)) ?_))
 clear hS
 rintro _ w ⟨rfl,hS⟩
 refine .q 1 rfl (.nil ?_)
 refine WC.cond rfl (fun hb14=>?_) (fun hb14=>?_)
 ·
  refine .seq (.q 1 rfl (.ret (X9 Xsh rfl ?_)))
  have h1:¬ Xr r=false:=by simpa using hb9
  have h2:0≤at0 l r.name:=by simpa using hb14
  have hE:X5e room l r=7:=by rw [X5e,if_neg h1,if_pos h2]
  have hQ:add room l r=l:=by rw [add,if_neg (by rw [hE]; decide)]
  rw [hE,hQ]
  exact ⟨_,rfl,rfl,I,la,lc,Le.refl _,hR,(hS.drop (k:=1) rfl)⟩
 refine .skip (.seq (.seq (.region ?_)))
 refine WL.val (.fieldAddr 2 (.of rfl) X15 rfl rfl Qs9 rfl) rfl (WL.val (.ld (.of rfl) hS (k:=1) rfl Qg9 rfl) rfl (.q 2 rfl (.gval rfl rfl (fun hg1=>(.move (.of rfl))) rfl ?_)))
 refine WL.gval rfl rfl (fun hg1=>(by exact .fieldAddr 2 (.of rfl) X15 rfl rfl Qs9 rfl)) rfl ?_
 refine WL.gval rfl rfl (fun hg1=>(by exact (.ld (.gd hg1 rfl) hS (k:=1) rfl Qg9 rfl))) rfl ?_
 refine .gcall (T:=fun w=>Sat B w I _) rfl rfl rfl Xcl rfl (fun hg1=>(X0 (.gd hg1 rfl) (X0 (.gd hg1 rfl) X4))) rfl (fun hg1=>X2x tb room la lc l hl r.parent B _ I hR _ hS) hS ?_
 clear hS; rintro w hS
 refine .gval rfl rfl (fun hg1=>(.lss (.gd hg1 rfl) (.of rfl))) rfl (.val (.pand (.of rfl) (.of rfl) (.of rfl)) rfl (.nil ?_))
 refine WC.cond rfl (fun hb24=>?_) (fun hb24=>?_)
 ·
  refine .seq (.q 1 rfl (.ret (X9 Xsh rfl ?_)))
  have h1:¬ Xr r=false:=by simpa using hb9
  have h2:¬ 0≤at0 l r.name:=by simpa using hb14
  have h3:r.parent≠[]∧at0 l r.parent<0:=by simpa using hb24
  have hE:X5e room l r=6:=by rw [X5e,if_neg h1,if_neg h2,if_pos h3]
  have hQ:add room l r=l:=by rw [add,if_neg (by rw [hE]; decide)]
  rw [hE,hQ]
  exact ⟨_,rfl,rfl,I,la,lc,Le.refl _,hR,(hS.drop (k:=1) rfl)⟩
 refine .skip (.seq (.seq (.drawn (fun w=>∃ R,Sat B w I (blk tb [I64 room,.slice la l.length lc] 79::R)) (fun j=>!([].contains j)) (by kernel_rfl) ?_)))
 replace hS:=hS.drew; generalize w.drew=w at hS ⊢
 have hH:=(hS.pick 0 rfl)
 refine .tp (i:=0) rfl (by kernel_rfl) (fun w=>(.move (.of rfl))) rfl (.tp (i:=1) rfl (by kernel_rfl) (fun w=>(.nilCheck (.of rfl))) rfl ?_)
 refine WD.tp (i:=2) rfl (by kernel_rfl) (fun w=>(.fieldAddr 1 (.of rfl) X9t rfl rfl X3i rfl)) rfl (.tk (i:=3) rfl (by kernel_rfl) ⟨_,hH⟩ (fun w ⟨R,hS⟩=>(.ld (.of rfl) hS (k:=0) rfl X7l rfl)) rfl (.tp (i:=4) rfl (by kernel_rfl) (fun w=>(.lenSlice (.of rfl) X29)) rfl (.tp (i:=5) rfl (by kernel_rfl) (fun w=>(.move (.of rfl))) rfl (.tp (i:=6) rfl (by kernel_rfl) (fun w=>(.nilCheck (.of rfl))) rfl ?_))))
 refine WD.tp (i:=7) rfl (by kernel_rfl) (fun w=>(.fieldAddr 0 (.of rfl) X9t rfl rfl Qs3 rfl)) rfl (.tk (i:=8) rfl (by kernel_rfl) ⟨_,hH⟩ (fun w ⟨R,hS⟩=>(.ld (.of rfl) hS (k:=0) rfl Qg3 rfl)) rfl (.tp (i:=9) rfl (by kernel_rfl) (fun w=>(.geq (.of rfl) (.of rfl))) rfl (.done (by kernel_rfl) ?_)))
 refine WC.cond rfl (fun hb34=>?_) (fun hb34=>?_)
 ·
  refine .seq (.q 1 rfl (.ret (X9 Xsh rfl ?_)))
  have h1:¬ Xr r=false:=by simpa using hb9
  have h2:¬ 0≤at0 l r.name:=by simpa using hb14
  have h3:¬ (r.parent≠[]∧at0 l r.parent<0):=by simpa using hb24
  have h4:room≤l.length:=by simpa using hb34
  have hE:X5e room l r=5:=by rw [X5e,if_neg h1,if_neg h2,if_neg h3,if_pos h4]
  have hQ:add room l r=l:=by rw [add,if_neg (by rw [hE]; decide)]
  rw [hE,hQ]
  exact ⟨_,rfl,rfl,I,la,lc,Le.refl _,hR,(hS.drop (k:=1) rfl)⟩
 refine .skip (.seq (.drawn (fun w=>∃ R,Sat B w I (blk tb [I64 room,.slice la l.length lc] 79::blk b3 [I64 r.kind,S r.name,S r.parent,S r.user,S r.service,S r.url,I64 r.made,I64 r.used,I64 r.uses,.bool r.fresh] 45::R)) (fun j=>!([12].contains j)) (by kernel_rfl) ?_))
 replace hS:=hS.drew; generalize w.drew=w at hS ⊢
 have hH:=((hS.pick 1 rfl).pick 1 rfl)
 refine .tp (i:=0) rfl (by kernel_rfl) (fun w=>(.move (.of rfl))) rfl (.tp (i:=2) rfl (by kernel_rfl) (fun w=>(.move (.of rfl))) rfl (.tp (i:=3) rfl (by kernel_rfl) (fun w=>(.nilCheck (.of rfl))) rfl ?_))
 refine WD.tp (i:=4) rfl (by kernel_rfl) (fun w=>(.fieldAddr 1 (.of rfl) X9t rfl rfl X3i rfl)) rfl (WD.tk (i:=5) rfl (by kernel_rfl) ⟨_,hH⟩ (fun w ⟨R,hS⟩=>((.ld (.of rfl) hS (k:=0) rfl X7l rfl))) rfl (WD.tk (i:=7) rfl (by kernel_rfl) ⟨_,hH⟩ (fun w ⟨R,hS⟩=>((.ldsW (cs:=[_,_,_,_,_,_,_,_,_,_]) (.of rfl) hS (k:=1) rfl X36 Xw rfl))) rfl (WD.branch [1,8] (by kernel_rfl) rfl (WO.cons rfl ?_ (WO.cons rfl ?_ (WO.nil))))))
 ·
  refine .buildSlice (cs:=[]) hS X6 X29 Xw X5q rfl rfl rfl rfl ?_
  clear hS; intro b36 w hS
  refine .nil ?_
  clear hH
  have hH:=((hS.pick 2 rfl).pick 2 rfl)
  refine And.intro (by intro _ _; exact ⟨_,hH⟩) ?_
  refine WD.branch [6,8] (by kernel_rfl) rfl (WO.cons rfl ?_ (WO.cons rfl ?_ (WO.nil)))
  ·
   replace hS:=hS.vecOf (k:=0) (E:=45) (size:=10) (n:=0) rfl rfl (by decide)
   refine WL.appendF (size:=10) (bytes:=120) hS (.of rfl) (.of rfl) hR (k:=0) rfl X29 (i:=Tryz.t45) (by kernel_rfl) rfl rfl rfl rfl (X50 l) ⟨by omega,by unfold maxLen; omega⟩ rfl ?_
   clear hS; intro v41 w hS
   rw [Yd,Yf] at hS
   refine .nil ?_
   clear hH
   have hH:=((hS.pick 2 rfl).pick 2 rfl)
   refine And.intro (by intro _ _; exact ⟨_,hH⟩) ?_
   refine WD.branch [8] (by kernel_rfl) rfl (WO.cons rfl ?_ (WO.nil))
   refine .buildSlice (cs:=[_,_,_,_,_,_,_,_,_,_]) hS (X5 (.of rfl) X6) X29 Xw X5q rfl rfl rfl rfl ?_
   clear hS; intro b43 w hS
   refine .nil ?_
   clear hH
   have hH:=((hS.pick 3 rfl).pick 3 rfl)
   refine And.intro (by intro _ _; exact ⟨_,hH⟩) ?_
   refine WD.branch [9] (by kernel_rfl) rfl (WO.cons rfl ?_ (WO.nil))
   refine WL.append (size:=10) (bytes:=120) hS (.of rfl) (.of rfl) (k:=0) rfl X29 X4l rfl rfl rfl rfl rfl rfl rfl ⟨by omega,by unfold maxLen; omega⟩ rfl ?_
   clear hS; intro v44 w hS
   obtain ⟨a44,c44,rfl,hcap44,_⟩:=hS.vecSlice (k:=0) (v:=v44) rfl
   refine .nil ?_
   clear hH
   have hH:=((hS.pick 2 rfl).pick 2 rfl)
   refine And.intro (by intro _ _; exact ⟨_,hH⟩) ?_
   refine .tp (i:=10) rfl (by kernel_rfl) (fun w=>(.nilCheck (.of rfl))) rfl (WD.tp (i:=11) rfl (by kernel_rfl) (fun w=>(.fieldAddr 1 (.of rfl) X9t rfl rfl X3i rfl)) rfl (WD.branch [12] (by kernel_rfl) rfl (WO.cons rfl ?_ (WO.nil))))
   refine WL.st1 hS (k:=1) rfl (.of rfl) (.of rfl) rfl X3i (by simp) ?_
   clear hS; intro w hS
   refine .nil ?_
   refine And.intro (by intro h; cases h) ?_
   refine .done (by kernel_rfl) (.seq (.q 1 rfl (.ret (X9 Xsh rfl ?_))))
   have h1:¬ Xr r=false:=by simpa using hb9
   replace hS:=(((hS.pick 1 rfl).pick 1 rfl).drop (k:=2) rfl)
   obtain ⟨oa,oc,ho9,hoc,_⟩:=hS.vecSlice (k:=0) rfl
   rw [ho9] at hS
   obtain ⟨J2,hJ2,hR2,hS⟩:=hS.freezeVec (k:=0) rfl
   have h2:¬ 0≤at0 l r.name:=by simpa using hb14
   have h3:¬ (r.parent≠[]∧at0 l r.parent<0):=by simpa using hb24
   have h4:¬ room≤l.length:=by simpa using hb34
   have hE:X5e room l r=0:=by rw [X5e,if_neg h1,if_neg h2,if_neg h3,if_neg h4]
   have hQ:add room l r=l ++ [r]:=by rw [add,if_pos hE]
   rw [hE,hQ,show (l ++ [r]).length=l.length+1 from Y0,show X1c X7 (l ++ [r])=Xf l ++ X7 r from X3a l r]
   exact ⟨_,rfl,rfl,J2,oa,oc,hJ2,hR2,hS⟩
  ·
   refine .buildSlice (cs:=[_,_,_,_,_,_,_,_,_,_]) hS (X5 (.of rfl) X6) X29 Xw X5q rfl rfl rfl rfl ?_
   clear hS; intro b43 w hS
   refine .nil ?_
   clear hH
   have hH:=((hS.pick 3 rfl).pick 3 rfl)
   refine And.intro (by intro _ _; exact ⟨_,hH⟩) ?_
   refine WD.branch [6] (by kernel_rfl) rfl (WO.cons rfl ?_ (WO.nil))
   replace hS:=hS.vecOf (k:=1) (E:=45) (size:=10) (n:=0) rfl rfl (by decide)
   refine WL.appendF (size:=10) (bytes:=120) hS (.of rfl) (.of rfl) hR (k:=1) rfl X29 (i:=Tryz.t45) (by kernel_rfl) rfl rfl rfl rfl (X50 l) ⟨by omega,by unfold maxLen; omega⟩ rfl ?_
   clear hS; intro v41 w hS
   rw [Yd,Yf] at hS
   refine .nil ?_
   clear hH
   have hH:=((hS.pick 3 rfl).pick 3 rfl)
   refine And.intro (by intro _ _; exact ⟨_,hH⟩) ?_
   refine WD.branch [9] (by kernel_rfl) rfl (WO.cons rfl ?_ (WO.nil))
   refine WL.append (size:=10) (bytes:=120) hS (.of rfl) (.of rfl) (k:=0) rfl X29 X4l rfl rfl rfl rfl rfl rfl rfl ⟨by omega,by unfold maxLen; omega⟩ rfl ?_
   clear hS; intro v44 w hS
   obtain ⟨a44,c44,rfl,hcap44,_⟩:=hS.vecSlice (k:=0) (v:=v44) rfl
   refine .nil ?_
   clear hH
   have hH:=((hS.pick 2 rfl).pick 2 rfl)
   refine And.intro (by intro _ _; exact ⟨_,hH⟩) ?_
   refine .tp (i:=10) rfl (by kernel_rfl) (fun w=>(.nilCheck (.of rfl))) rfl (WD.tp (i:=11) rfl (by kernel_rfl) (fun w=>(.fieldAddr 1 (.of rfl) X9t rfl rfl X3i rfl)) rfl (WD.branch [12] (by kernel_rfl) rfl (WO.cons rfl ?_ (WO.nil))))
   refine WL.st1 hS (k:=1) rfl (.of rfl) (.of rfl) rfl X3i (by simp) ?_
   clear hS; intro w hS
   refine .nil ?_
   refine And.intro (by intro h; cases h) ?_
   refine .done (by kernel_rfl) (.seq (.q 1 rfl (.ret (X9 Xsh rfl ?_))))
   have h1:¬ Xr r=false:=by simpa using hb9
   replace hS:=(((hS.pick 1 rfl).pick 1 rfl).drop (k:=2) rfl)
   obtain ⟨oa,oc,ho9,hoc,_⟩:=hS.vecSlice (k:=0) rfl
   rw [ho9] at hS
   obtain ⟨J2,hJ2,hR2,hS⟩:=hS.freezeVec (k:=0) rfl
   have h2:¬ 0≤at0 l r.name:=by simpa using hb14
   have h3:¬ (r.parent≠[]∧at0 l r.parent<0):=by simpa using hb24
   have h4:¬ room≤l.length:=by simpa using hb34
   have hE:X5e room l r=0:=by rw [X5e,if_neg h1,if_neg h2,if_neg h3,if_neg h4]
   have hQ:add room l r=l ++ [r]:=by rw [add,if_pos hE]
   rw [hE,hQ,show (l ++ [r]).length=l.length+1 from Y0,show X1c X7 (l ++ [r])=Xf l ++ X7 r from X3a l r]
   exact ⟨_,rfl,rfl,J2,oa,oc,hJ2,hR2,hS⟩
 ·
  refine .buildSlice (cs:=[_,_,_,_,_,_,_,_,_,_]) hS (X5 (.of rfl) X6) X29 Xw X5q rfl rfl rfl rfl ?_
  clear hS; intro b43 w hS
  refine .nil ?_
  clear hH
  have hH:=((hS.pick 2 rfl).pick 2 rfl)
  refine And.intro (by intro _ _; exact ⟨_,hH⟩) ?_
  refine WD.branch [1] (by kernel_rfl) rfl (WO.cons rfl ?_ (WO.nil))
  refine .buildSlice (cs:=[]) hS X6 X29 Xw X5q rfl rfl rfl rfl ?_
  clear hS; intro b36 w hS
  refine .nil ?_
  clear hH
  have hH:=((hS.pick 3 rfl).pick 3 rfl)
  refine And.intro (by intro _ _; exact ⟨_,hH⟩) ?_
  refine WD.branch [6] (by kernel_rfl) rfl (WO.cons rfl ?_ (WO.nil))
  replace hS:=hS.vecOf (k:=0) (E:=45) (size:=10) (n:=0) rfl rfl (by decide)
  refine WL.appendF (size:=10) (bytes:=120) hS (.of rfl) (.of rfl) hR (k:=0) rfl X29 (i:=Tryz.t45) (by kernel_rfl) rfl rfl rfl rfl (X50 l) ⟨by omega,by unfold maxLen; omega⟩ rfl ?_
  clear hS; intro v41 w hS
  rw [Yd,Yf] at hS
  refine .nil ?_
  clear hH
  have hH:=((hS.pick 3 rfl).pick 3 rfl)
  refine And.intro (by intro _ _; exact ⟨_,hH⟩) ?_
  refine WD.branch [9] (by kernel_rfl) rfl (WO.cons rfl ?_ (WO.nil))
  replace hS:=hS.pick 1 rfl
  refine WL.append (size:=10) (bytes:=120) hS (.of rfl) (.of rfl) (k:=0) rfl X29 X4l rfl rfl rfl rfl rfl rfl rfl ⟨by omega,by unfold maxLen; omega⟩ rfl ?_
  clear hS; intro v44 w hS
  obtain ⟨a44,c44,rfl,hcap44,_⟩:=hS.vecSlice (k:=0) (v:=v44) rfl
  refine .nil ?_
  clear hH
  have hH:=((hS.pick 2 rfl).pick 2 rfl)
  refine And.intro (by intro _ _; exact ⟨_,hH⟩) ?_
  refine .tp (i:=10) rfl (by kernel_rfl) (fun w=>(.nilCheck (.of rfl))) rfl (WD.tp (i:=11) rfl (by kernel_rfl) (fun w=>(.fieldAddr 1 (.of rfl) X9t rfl rfl X3i rfl)) rfl (WD.branch [12] (by kernel_rfl) rfl (WO.cons rfl ?_ (WO.nil))))
  refine WL.st1 hS (k:=1) rfl (.of rfl) (.of rfl) rfl X3i (by simp) ?_
  clear hS; intro w hS
  refine .nil ?_
  refine And.intro (by intro h; cases h) ?_
  refine .done (by kernel_rfl) (.seq (.q 1 rfl (.ret (X9 Xsh rfl ?_))))
  have h1:¬ Xr r=false:=by simpa using hb9
  replace hS:=(((hS.pick 1 rfl).pick 1 rfl).drop (k:=2) rfl)
  obtain ⟨oa,oc,ho9,hoc,_⟩:=hS.vecSlice (k:=0) rfl
  rw [ho9] at hS
  obtain ⟨J2,hJ2,hR2,hS⟩:=hS.freezeVec (k:=0) rfl
  have h2:¬ 0≤at0 l r.name:=by simpa using hb14
  have h3:¬ (r.parent≠[]∧at0 l r.parent<0):=by simpa using hb24
  have h4:¬ room≤l.length:=by simpa using hb34
  have hE:X5e room l r=0:=by rw [X5e,if_neg h1,if_neg h2,if_neg h3,if_neg h4]
  have hQ:add room l r=l ++ [r]:=by rw [add,if_pos hE]
  rw [hE,hQ,show (l ++ [r]).length=l.length+1 from Y0,show X1c X7 (l ++ [r])=Xf l ++ X7 r from X3a l r]
  exact ⟨_,rfl,rfl,J2,oa,oc,hJ2,hR2,hS⟩
theorem Xhj (tb:Nat) (room:Int) (la:Option Addr) (lc:Nat) (l:List Rec) (hl:l.length≤100000) (r:Rec) (hn:r.name.length≤9223372036854775000) (hp:r.parent.length≤9223372036854775000) (B w:World) (I:Im) (hR:RS I la 10 l.length (X1c X7 l)) (As:List X8) (hS:Sat B w I (blk tb [I64 room,.slice la l.length lc] 79::As)) :
  Calls Tryz.prog 75 [ptr tb 0,.agg (X7 r).toArray].toArray w (Ret fun v w'=>v=I64 (Xa2 l r:Nat)∧∃ J oa oc,Le I J∧RS J oa 10 (put l r).length (X1c X7 (put l r))∧Sat B w' J (blk tb [I64 room,.slice oa (put l r).length oc] 79::As)):=by
 refine calls Tryz.func75 rfl Tryz.ntmps75 rfl (.seq (.region (.boxA (cs:=[_,_,_,_,_,_,_,_,_,_]) hS (.of rfl) rfl ?_)))
 clear hS; intro b3 w hS
 refine .q 1 rfl (.nil (.seq (.region ?_)))
 refine WL.val (.ldsW (cs:=[_,_,_,_,_,_,_,_,_,_]) (.of rfl) hS (k:=0) rfl X36 Xw rfl) rfl (.call Tryz.func123 rfl (X0 (.of rfl) X4) rfl (X82 r hn hp B _ I _ hS) ?_)
 clear hS
 rintro _ w ⟨rfl,hS⟩
 refine .q 1 rfl (.nil (.seq (.seq (.q 2 rfl ?_))))
 refine WC.cond rfl (fun hb11=>?_) (fun hb11=>?_)
 ·
  refine .seq (.q 1 rfl (.ret (X9 Qr75 rfl ?_)))
  have h1:Xr r=false:=by simpa using hb11
  have hE:Xa2 l r=1:=by rw [Xa2,if_pos h1]
  have hQ:put l r=l:=by rw [put,if_neg (by rw [hE]; decide)]
  rw [hE,hQ]
  exact ⟨_,rfl,rfl,I,_,lc,Le.refl _,hR,((hS.pick 1 rfl).drop (k:=1) rfl)⟩
 refine .skip (.seq (.t 1 rfl ?_))
 refine WL.val (.fieldAddr 1 (.of rfl) X15 rfl rfl Qs9 rfl) rfl (WL.val (.ld (.of rfl) hS (k:=0) rfl Qg9 rfl) rfl (.call Xcl rfl (X0 (.of rfl) (X0 (.of rfl) X4)) rfl (Xaj tb room la lc l hl r.name B _ I hR _ (hS.pick 1 rfl)) ?_))
 clear hS
 rintro _ w ⟨⟨k,rfl,hk⟩,hS⟩
 refine .q 1 rfl (.nil (.seq (.seq (.region ?_))))
 rcases hk with ⟨rfl,hg,_⟩ | ⟨j,t,rfl,hr,hn9,hg,hj⟩
 ·
  refine .val (.move (.of rfl)) rfl (.q 1 rfl (.nil (.condT (congrArg (fun b=>some (Value.bool b)) (decide_eq_true (by decide))) (.seq (.q 1 rfl (.ret (X9 Qr75 rfl ?_)))))))
  have h1:¬ Xr r=false:=by simpa using hb11
  have hE:Xa2 l r=6:=by rw [Xa2,if_neg h1,hg]
  have hQ:put l r=l:=by rw [put,if_neg (by rw [hE]; decide)]
  rw [hE,hQ]
  exact ⟨_,rfl,rfl,I,_,lc,Le.refl _,hR,(hS.drop (k:=1) rfl)⟩
 obtain ⟨q,hq9,hx⟩:=Xab (cells:=X7) (s:=10) (fun _=>rfl) hR hr
 subst hq9
 unfold X7 at hx
 have hjl:=(Y5.1 hr).1
 refine .val (.move (.of rfl)) rfl (.q 1 rfl (.nil (.condF (congrArg (fun b=>some (Value.bool b)) (decide_eq_false (by omega))) (.skip (.seq (.seq (.drawn (fun w=>∃ R,Sat B w I (blk tb [I64 room,.slice (some q) l.length lc] 79::blk b3 [I64 r.kind,S r.name,S r.parent,S r.user,S r.service,S r.url,I64 r.made,I64 r.used,I64 r.uses,.bool r.fresh] 45::R)) (fun j=>!([].contains j)) (by kernel_rfl) ?_)))))))
 replace hS:=hS.drew; generalize w.drew=w at hS ⊢
 have hH:=((hS.pick 1 rfl).pick 1 rfl)
 refine .tp (i:=0) rfl (by kernel_rfl) (fun w=>(.move (.of rfl))) rfl (.tp (i:=1) rfl (by kernel_rfl) (fun w=>(.nilCheck (.of rfl))) rfl ?_)
 refine WD.tp (i:=2) rfl (by kernel_rfl) (fun w=>(.fieldAddr 1 (.of rfl) X9t rfl rfl X3i rfl)) rfl (WD.tk (i:=3) rfl (by kernel_rfl) ⟨_,hH⟩ (fun w ⟨R,hS⟩=>((.ld (.of rfl) hS (k:=0) rfl X7l rfl))) rfl (.tp (i:=4) rfl (by kernel_rfl) (fun w=>(.move (.of rfl))) rfl (WD.tp (i:=5) rfl (by kernel_rfl) (fun w=>(.indexAddrI (.of rfl) (.of rfl) (by omega) (by omega) X29 Xw)) rfl (WD.tp (i:=6) rfl (by kernel_rfl) (fun w=>(.fieldAddrI 2 (.of rfl) X15 rfl rfl Qs9 rfl)) rfl (WD.tk (i:=7) rfl (by kernel_rfl) ⟨_,hH⟩ (fun w ⟨R,hS⟩=>((.ldI (.of rfl) hS (At.add hx _) Qg9 rfl))) rfl (WD.tp (i:=8) rfl (by kernel_rfl) (fun w=>(.fieldAddr 2 (.of rfl) X15 rfl rfl Qs9 rfl)) rfl (WD.tk (i:=9) rfl (by kernel_rfl) ⟨_,hH⟩ (fun w ⟨R,hS⟩=>((.ld (.of rfl) hS (k:=1) rfl Qg9 rfl))) rfl (.tp (i:=10) rfl (by kernel_rfl) (fun w=>(.nes (.of rfl) (.of rfl))) rfl (.done (by kernel_rfl) ?_)))))))))
 refine WC.cond rfl (fun hb28=>?_) (fun hb28=>?_)
 ·
  refine .seq (.q 1 rfl (.ret (X9 Qr75 rfl ?_)))
  have h1:¬ Xr r=false:=by simpa using hb11
  have h2:t.parent≠r.parent:=by simpa using hb28
  have hE:Xa2 l r=8:=by rw [Xa2,if_neg h1,hg]; exact if_pos h2
  have hQ:put l r=l:=by rw [put,if_neg (by rw [hE]; decide)]
  rw [hE,hQ]
  exact ⟨_,rfl,rfl,I,_,lc,Le.refl _,hR,(hS.drop (k:=1) rfl)⟩
 refine .skip (.seq (.region (.buildSlice (cs:=[]) hS X6 X29 Xw X5q rfl rfl rfl rfl ?_)))
 clear hS; intro b29 w hS
 refine .q 2 rfl (WL.val (.fieldAddr 1 (.of rfl) X9t rfl rfl X3i rfl) rfl (WL.val (.ld (.of rfl) hS (k:=1) rfl X7l rfl) rfl ?_))
 replace hS:=hS.vecOf (k:=0) (E:=45) (size:=10) (n:=0) rfl rfl (by decide)
 refine WL.appendF (size:=10) (bytes:=120) hS (.of rfl) (.of rfl) hR (k:=0) rfl X29 (i:=Tryz.t45) (by kernel_rfl) rfl rfl rfl rfl (X50 l) ⟨by omega,by unfold maxLen; omega⟩ rfl ?_
 clear hS; intro v34 w hS
 rw [Yd,Yf] at hS
 refine .q 1 rfl (.nil (.seq ?_))
 obtain ⟨gb,cap9,rest9,hv9,hc1,hc2,hl1,hl2,hS⟩:=hS.vecOpen (k:=0) rfl (by omega)
 subst hv9
 refine .t 2 rfl (WL.val (.ldsW (cs:=[_,_,_,_,_,_,_,_,_,_]) (.of rfl) hS (k:=2) rfl X36 Xw rfl) rfl (WL.val (.indexAddr (.of rfl) (.of rfl) (by omega) (by omega) X29 Xw) rfl (WL.stA hS (k:=0) rfl (.of rfl) (.of rfl) rfl Xw rfl (by simp only [Y0]; omega) ?_)))
 clear hS; intro w hS
 rw [Yd,Y1y (by omega),Y28 (by omega),← Ye] at hS
 replace hS:=hS.vecShut (n:=l.length) (size:=10) (k:=0) rfl hc1 hc2 (by simp only [Y0,Yu,Yn,Y8,Yk]; omega) (by simp only [Y0,Yu,Yn,Y8,Yk]; omega)
 refine .nil (.seq (.t 3 rfl ?_))
 refine WL.val (.fieldAddr 1 (.of rfl) X9t rfl rfl X3i rfl) rfl (WL.st1 hS (k:=1) rfl (.of rfl) (.of rfl) rfl X3i (by simp) ?_)
 clear hS; intro w hS
 refine .nil (.seq (.q 1 rfl (.ret (X9 Qr75 rfl ?_))))
 have h1:¬ Xr r=false:=by simpa using hb11
 have h2:¬ t.parent≠r.parent:=by simpa using hb28
 have hE:Xa2 l r=0:=by rw [Xa2,if_neg h1,hg]; exact if_neg h2
 have hQ:put l r=l.set j r:=by rw [put,if_pos hE,hj,Yi]
 replace hS:=((hS.pick 1 rfl).pick 1 rfl)
 obtain ⟨J2,hJ2,hR2,hS⟩:=hS.freezeVec (k:=0) rfl
 rw [hE,hQ,Y24,show X1c X7 (l.set j r)=_ from X6c hjl]
 exact ⟨_,rfl,rfl,J2,_,_,hJ2,hR2,hS.drop (k:=1) rfl⟩
theorem Xgf (p:Nat→Int) {k:Nat} (h:k<21):(psL p).getD k 0=p k:=by
 rcases (by omega:k=0∨k=1∨k=2∨k=3∨k=4∨k=5∨k=6∨k=7∨k=8∨k=9∨k=10∨k=11∨k=12∨k=13∨k=14∨k=15∨k=16∨k=17∨k=18∨k=19∨k=20) with rfl | rfl | rfl | rfl | rfl | rfl | rfl | rfl | rfl | rfl | rfl | rfl | rfl | rfl | rfl | rfl | rfl | rfl | rfl | rfl | rfl <;> rfl
theorem X79 (p:Nat→Int) {o k:Nat} (e:o=k) (h:k<21):((psL p).map I64)[o]?=some (I64 (p k)):=by
 rw [X38 rfl e h,Xgf p h]
theorem X4z {p:Nat→Int} {k:Nat} (h:k<21) (hb:X9x (p k)=true):X69 p=false:=by
 rcases (by omega:k=0∨k=1∨k=2∨k=3∨k=4∨k=5∨k=6∨k=7∨k=8∨k=9∨k=10∨k=11∨k=12∨k=13∨k=14∨k=15∨k=16∨k=17∨k=18∨k=19∨k=20) with rfl | rfl | rfl | rfl | rfl | rfl | rfl | rfl | rfl | rfl | rfl | rfl | rfl | rfl | rfl | rfl | rfl | rfl | rfl | rfl | rfl <;> simp [X69,psL,hb]
theorem Xf9 {p:Nat→Int} (h:∀ k,k<21→X9x (p k)=false):X69 p=true:=by
 simp [X69,psL,h 0 (by decide),h 1 (by decide),h 2 (by decide),h 3 (by decide),h 4 (by decide),h 5 (by decide),h 6 (by decide),h 7 (by decide),h 8 (by decide),h 9 (by decide),h 10 (by decide),h 11 (by decide),h 12 (by decide),h 13 (by decide),h 14 (by decide),h 15 (by decide),h 16 (by decide),h 17 (by decide),h 18 (by decide),h 19 (by decide),h 20 (by decide)]
theorem Xi3 {p:Nat→Int} (h:X69 p=true) (k:Nat) (hk:k<21):0≤p k:=by
 cases e:X9x (p k) with
 | true=>rw [X4z hk e] at h; cases h
 | false=>unfold X9x at e; simp at e; omega
theorem Xc3 (p:Nat→Int) (B w:World) (I:Im) (As:List X8) (hS:Sat B w I As) :
  Calls Tryz.prog 71 [.agg ((psL p).map I64).toArray].toArray w (Ret fun v w'=>v=.bool (X69 p)∧Sat B w' I As):=by
 refine calls Tryz.func71 rfl Tryz.ntmps71 rfl (.seq (.region (.boxA (cs:=(psL p).map I64) hS (.of rfl) rfl ?_)))
 clear hS; intro b1 w hS
 refine .q 1 rfl (.nil (.seq (.seq (.q 1 rfl (.block (.loop (σ:=Nat) (fun i=>[(1,ptr b1 0),(3,I64 (i:Nat))]) (fun i w=>i≤7∧(∀ j,j<i→X9x (p j)=false∧X9x (p (7+j))=false∧X9x (p (14+j))=false)∧Sat B w I (blk b1 ((psL p).map I64) 31::As)) (fun i=>7 - i) 0 ⟨rfl,rfl,trivial⟩ ⟨Yp _,fun _ h=>absurd h (by omega),hS⟩ ?_))))))
 rintro i w ⟨hi,hno,hS⟩
 refine .seq (.seq (.q 2 rfl ?_))
 refine WC.cond rfl (fun hb5=>?_) (fun hb5=>?_)
 ·
  have hc5:=hb5; try simp only [Y6] at hc5
  refine .skip (.seq (.block (.seq (.t 1 rfl ?_))))
  refine WL.val (.fieldAddr 0 (.of rfl) Xcf rfl rfl Xco rfl) rfl (.val (Ex.arrAddrO (i:=(i:Int)) (.of rfl) (.of rfl) (by omega) (by omega) Xcb Qs3) rfl (.val (.ld (.of rfl) hS (k:=0) rfl Qg3 (X79 p (o:=0+0+(i:Int).toNat*1) (k:=i) (by omega) (by omega))) rfl (.q 2 rfl (.gval rfl rfl (fun hg1=>(.move (.of rfl))) rfl ?_))))
  refine WL.gval rfl rfl (fun hg1=>(by exact .fieldAddr 7 (.of rfl) Xcf rfl rfl Xco rfl)) rfl ?_
  refine .gval rfl rfl (fun hg1=>Ex.arrAddrO (i:=(i:Int)) (.gd hg1 rfl) (.gd hg1 rfl) (by omega) (by omega) Xcb Qs3) rfl (.gval rfl rfl (fun hg1=>.ld (.gd hg1 rfl) hS (k:=0) rfl Qg3 (X79 p (o:=0+7+(i:Int).toNat*1) (k:=7+i) (by omega) (by omega))) rfl (.gval rfl rfl (fun hg1=>(.lss (.gd hg1 rfl) (.of rfl))) rfl (.val (.por (.of rfl) (.of rfl) (.of rfl)) rfl (.q 1 rfl (.gval rfl rfl (fun hg1=>(.move (.of rfl))) rfl ?_)))))
  refine WL.gval rfl rfl (fun hg1=>(by exact .fieldAddr 14 (.of rfl) Xcf rfl rfl Xco rfl)) rfl ?_
  refine .gval rfl rfl (fun hg1=>Ex.arrAddrO (i:=(i:Int)) (.gd hg1 rfl) (.gd hg1 rfl) (by omega) (by omega) Xcb Qs3) rfl (.gval rfl rfl (fun hg1=>.ld (.gd hg1 rfl) hS (k:=0) rfl Qg3 (X79 p (o:=0+14+(i:Int).toNat*1) (k:=14+i) (by omega) (by omega))) rfl (.gval rfl rfl (fun hg1=>(.lss (.gd hg1 rfl) (.of rfl))) rfl (.val (.por (.of rfl) (.of rfl) (.of rfl)) rfl (.q 1 rfl (.gval rfl rfl (fun hg1=>(.move (.of rfl))) rfl ?_)))))
  refine WL.gval rfl rfl (fun hg1=>(by exact .fieldAddr 0 (.of rfl) Xcf rfl rfl Xco rfl)) rfl ?_
  refine .gval rfl rfl (fun hg1=>Ex.arrAddrO (i:=(i:Int)) (.gd hg1 rfl) (.gd hg1 rfl) (by omega) (by omega) Xcb Qs3) rfl (.gval rfl rfl (fun hg1=>.ld (.gd hg1 rfl) hS (k:=0) rfl Qg3 (X79 p (o:=0+0+(i:Int).toNat*1) (k:=i) (by omega) (by omega))) rfl (.gval rfl rfl (fun hg1=>(.gtr (.gd hg1 rfl) (.of rfl))) rfl (.val (.por (.of rfl) (.of rfl) (.of rfl)) rfl (.q 1 rfl (.gval rfl rfl (fun hg1=>(.move (.of rfl))) rfl ?_)))))
  refine WL.gval rfl rfl (fun hg1=>(by exact .fieldAddr 7 (.of rfl) Xcf rfl rfl Xco rfl)) rfl ?_
  refine .gval rfl rfl (fun hg1=>Ex.arrAddrO (i:=(i:Int)) (.gd hg1 rfl) (.gd hg1 rfl) (by omega) (by omega) Xcb Qs3) rfl (.gval rfl rfl (fun hg1=>.ld (.gd hg1 rfl) hS (k:=0) rfl Qg3 (X79 p (o:=0+7+(i:Int).toNat*1) (k:=7+i) (by omega) (by omega))) rfl (.gval rfl rfl (fun hg1=>(.gtr (.gd hg1 rfl) (.of rfl))) rfl (.val (.por (.of rfl) (.of rfl) (.of rfl)) rfl (.q 1 rfl (.gval rfl rfl (fun hg1=>(.move (.of rfl))) rfl ?_)))))
  refine WL.gval rfl rfl (fun hg1=>(by exact .fieldAddr 14 (.of rfl) Xcf rfl rfl Xco rfl)) rfl ?_
  refine .gval rfl rfl (fun hg1=>Ex.arrAddrO (i:=(i:Int)) (.gd hg1 rfl) (.gd hg1 rfl) (by omega) (by omega) Xcb Qs3) rfl (.gval rfl rfl (fun hg1=>.ld (.gd hg1 rfl) hS (k:=0) rfl Qg3 (X79 p (o:=0+14+(i:Int).toNat*1) (k:=14+i) (by omega) (by omega))) rfl (.gval rfl rfl (fun hg1=>(.gtr (.gd hg1 rfl) (.of rfl))) rfl (.val (.por (.of rfl) (.of rfl) (.of rfl)) rfl (.nil ?_))))
  refine WC.cond rfl (fun hb47=>?_) (fun hb47=>?_)
  ·
   have hc47:=hb47; try simp only [Y6] at hc47
   refine .seq (.q 1 rfl (.ret (X9 Tryz.results71 rfl ?_)))
   refine ⟨_,rfl,congrArg Value.bool ?_,hS.drop (k:=0) rfl⟩
   have h3:X9x (p i)=true∨X9x (p (7+i))=true∨X9x (p (14+i))=true:=by
    unfold X9x
    simp at hb47 ⊢
    omega
   rcases h3 with h3 | h3 | h3
   ·exact (X4z (by omega) h3).symm
   ·exact (X4z (by omega) h3).symm
   ·exact (X4z (by omega) h3).symm
  have hc47:=hb47; try simp only [Y6] at hc47
  refine .skip (.region (.run 3 rfl ⟨⟨by omega,by omega⟩,trivial⟩ (.nil ?_)))
  have hb3:X9x (p i)=false∧X9x (p (7+i))=false∧X9x (p (14+i))=false:=by
   unfold X9x
   simp at hb47 ⊢
   omega
  refine ⟨i+1,⟨rfl,rfl,trivial⟩,⟨by (try dsimp only); omega,fun j hj=>?_,hS⟩,by (try dsimp only); omega⟩
  rcases Yr j i with h1 | h1
  ·exact hno j h1
  ·have e:j=i:=by omega
   subst e
   exact hb3
 have hc5:=hb5; try simp only [Y6] at hc5
 refine .exit (.seq (.q 1 rfl (.ret (X9 Tryz.results71 rfl ?_))))
 refine ⟨_,rfl,congrArg Value.bool (Xf9 fun k hk=>?_).symm,hS.drop (k:=0) rfl⟩
 rcases Yr k 7 with h1 | h1
 ·exact (hno k (by omega)).1
 ·rcases Yr k 14 with h2 | h2
  ·have:=(hno (k - 7) (by omega)).2.1
   rwa [show 7+(k - 7)=k by omega] at this
  ·have:=(hno (k - 14) (by omega)).2.2
   rwa [show 14+(k - 14)=k by omega] at this
theorem Xel (ps:List Int) (hps:ps.length=21) (hpos:∀ k,k<21→0≤ps.getD k 0) (r:Rec) (now:Int) (hm:0≤r.made∧r.made≤1099511627776) (hu:0≤r.used∧r.used≤1099511627776) (hn:0≤now∧now≤1099511627776) (B w:World) (I:Im) (As:List X8) (hS:Sat B w I As) :
  Calls Tryz.prog 143 [.agg (ps.map I64).toArray,.agg (X7 r).toArray,I64 now].toArray w (Ret fun v w'=>v=.bool (X6f ps r now)∧Sat B w' I As):=by
 refine calls Tryz.func143 rfl Tryz.ntmps143 rfl (.seq (.region (.boxA (cs:=ps.map I64) hS (.of rfl) rfl ?_)))
 clear hS; intro b3 w hS
 refine .boxA (cs:=[_,_,_,_,_,_,_,_,_,_]) hS (.of rfl) rfl ?_
 clear hS; intro b4 w hS
 refine .q 1 rfl (.nil (.seq (.region ?_)))
 refine WL.val (.fieldAddr 0 (.of rfl) X15 rfl rfl Qs3 rfl) rfl (.val (.ld (.of rfl) hS (k:=0) rfl Qg3 rfl) rfl (.q 1 rfl (.nil (.seq (.seq (.t 3 rfl (.gval rfl rfl (fun hg1=>(.move (.of rfl))) rfl (.gval rfl rfl (fun hg1=>(.gtr (.gd hg1 rfl) (.of rfl))) rfl (.val (.por (.of rfl) (.of rfl) (.of rfl)) rfl (.nil ?_))))))))))
 refine WC.cond rfl (fun hb15=>?_) (fun hb15=>?_)
 ·
  refine .seq (.q 1 rfl (.ret (X9 Xoi rfl ?_)))
  refine ⟨_,rfl,congrArg Value.bool ?_,(hS.drop (k:=0) rfl).drop (k:=0) rfl⟩
  cases h:X6f ps r now with
  | false=>rfl
  | true =>
   exfalso
   unfold X6f X4e at h
   simp only [Yq,Y1j,decide_eq_true_eq,beq_iff_eq] at h hb15
   omega
 refine .skip (.seq (.seq ?_))
 have hk1:1≤r.kind∧r.kind≤6:=by
  have h:=hb15
  simp at h
  omega
 have hp0:=hpos (r.kind.toNat) (by omega)
 have hp1:=hpos (7+r.kind.toNat) (by omega)
 have hp2:=hpos (14+r.kind.toNat) (by omega)
 refine .quiet (by kernel_rfl) (by kernel_rfl) hS (.val (fun w hS=>(.move (.of rfl))) rfl ?_)
 refine WQ.val (fun w hS=>(by exact .fieldAddr 0 (.of rfl) Xcf rfl rfl Xco rfl)) rfl ?_
 refine .val (fun w hS=>Ex.arrAddrO (i:=r.kind) (.of rfl) (.of rfl) (by omega) (by omega) Xcb Qs3) rfl (.val (fun w hS=>.ld (.of rfl) hS (k:=1) rfl Qg3 (X38 hps (o:=0+0+r.kind.toNat*1) (k:=r.kind.toNat) (by omega) (by omega))) rfl (.val (fun w hS=>(.gtr (.of rfl) (.of rfl))) rfl (.val (fun w hS=>(.move (.of rfl))) rfl (.gval rfl rfl rfl (fun hg1 w hS=>(.move (.of rfl))) rfl ?_))))
 refine WQ.gval rfl rfl rfl (fun hg1 w hS=>(by exact .fieldAddr 6 (.of rfl) X15 rfl rfl Qs3 rfl)) rfl ?_
 refine .gval rfl rfl rfl (fun hg1 w hS=>(.ld (.gd hg1 rfl) hS (k:=0) rfl Qg3 rfl)) rfl (.gval rfl rfl rfl (fun hg1 w hS=>(.sub (.gd hg1 rfl) (.gd hg1 rfl) ⟨by omega,by omega⟩)) rfl (.gval rfl rfl rfl (fun hg1 w hS=>(.move (.of rfl))) rfl ?_))
 refine WQ.gval rfl rfl rfl (fun hg1 w hS=>(by exact .fieldAddr 0 (.of rfl) Xcf rfl rfl Xco rfl)) rfl ?_
 refine .gval rfl rfl rfl (fun hg1 w hS=>Ex.arrAddrO (i:=r.kind) (.gd hg1 rfl) (.gd hg1 rfl) (by omega) (by omega) Xcb Qs3) rfl (.gval rfl rfl rfl (fun hg1 w hS=>.ld (.gd hg1 rfl) hS (k:=1) rfl Qg3 (X38 hps (o:=0+0+r.kind.toNat*1) (k:=r.kind.toNat) (by omega) (by omega))) rfl (.gval rfl rfl rfl (fun hg1 w hS=>(.geq (.gd hg1 rfl) (.gd hg1 rfl))) rfl (.val (fun w hS=>(.pand (.of rfl) (.of rfl) (.of rfl))) rfl (.nil ?_))))
 clear hS; intro w hS
 refine WC.cond rfl (fun hb31=>?_) (fun hb31=>?_)
 ·
  refine .seq (.q 1 rfl (.ret (X9 Xoi rfl ?_)))
  refine ⟨_,rfl,congrArg Value.bool ?_,(hS.drop (k:=0) rfl).drop (k:=0) rfl⟩
  cases h:X6f ps r now with
  | false=>rfl
  | true =>
   exfalso
   unfold X6f X4e at h
   simp only [Yq,Y1j,decide_eq_true_eq,beq_iff_eq] at h hb31
   omega
 refine .skip (.seq (.seq (.quiet (by kernel_rfl) (by kernel_rfl) hS (.val (fun w hS=>(.move (.of rfl))) rfl ?_))))
 refine WQ.val (fun w hS=>(by exact .fieldAddr 7 (.of rfl) Xcf rfl rfl Xco rfl)) rfl ?_
 refine .val (fun w hS=>Ex.arrAddrO (i:=r.kind) (.of rfl) (.of rfl) (by omega) (by omega) Xcb Qs3) rfl (.val (fun w hS=>.ld (.of rfl) hS (k:=1) rfl Qg3 (X38 hps (o:=0+7+r.kind.toNat*1) (k:=7+r.kind.toNat) (by omega) (by omega))) rfl (.val (fun w hS=>(.gtr (.of rfl) (.of rfl))) rfl (.val (fun w hS=>(.move (.of rfl))) rfl (.gval rfl rfl rfl (fun hg1 w hS=>(.move (.of rfl))) rfl ?_))))
 refine WQ.gval rfl rfl rfl (fun hg1 w hS=>(by exact .fieldAddr 7 (.of rfl) X15 rfl rfl Qs3 rfl)) rfl ?_
 refine .gval rfl rfl rfl (fun hg1 w hS=>(.ld (.gd hg1 rfl) hS (k:=0) rfl Qg3 rfl)) rfl (.gval rfl rfl rfl (fun hg1 w hS=>(.sub (.gd hg1 rfl) (.gd hg1 rfl) ⟨by omega,by omega⟩)) rfl (.gval rfl rfl rfl (fun hg1 w hS=>(.move (.of rfl))) rfl ?_))
 refine WQ.gval rfl rfl rfl (fun hg1 w hS=>(by exact .fieldAddr 7 (.of rfl) Xcf rfl rfl Xco rfl)) rfl ?_
 refine .gval rfl rfl rfl (fun hg1 w hS=>Ex.arrAddrO (i:=r.kind) (.gd hg1 rfl) (.gd hg1 rfl) (by omega) (by omega) Xcb Qs3) rfl (.gval rfl rfl rfl (fun hg1 w hS=>.ld (.gd hg1 rfl) hS (k:=1) rfl Qg3 (X38 hps (o:=0+7+r.kind.toNat*1) (k:=7+r.kind.toNat) (by omega) (by omega))) rfl (.gval rfl rfl rfl (fun hg1 w hS=>(.geq (.gd hg1 rfl) (.gd hg1 rfl))) rfl (.val (fun w hS=>(.pand (.of rfl) (.of rfl) (.of rfl))) rfl (.nil ?_))))
 clear hS; intro w hS
 refine WC.cond rfl (fun hb47=>?_) (fun hb47=>?_)
 ·
  refine .seq (.q 1 rfl (.ret (X9 Xoi rfl ?_)))
  refine ⟨_,rfl,congrArg Value.bool ?_,(hS.drop (k:=0) rfl).drop (k:=0) rfl⟩
  cases h:X6f ps r now with
  | false=>rfl
  | true =>
   exfalso
   unfold X6f X4e at h
   simp only [Yq,Y1j,decide_eq_true_eq,beq_iff_eq] at h hb47
   omega
 refine .skip (.seq (.quiet (by kernel_rfl) (by kernel_rfl) hS (.val (fun w hS=>(.move (.of rfl))) rfl ?_)))
 refine WQ.val (fun w hS=>(by exact .fieldAddr 14 (.of rfl) Xcf rfl rfl Xco rfl)) rfl ?_
 refine .val (fun w hS=>Ex.arrAddrO (i:=r.kind) (.of rfl) (.of rfl) (by omega) (by omega) Xcb Qs3) rfl (.val (fun w hS=>.ld (.of rfl) hS (k:=1) rfl Qg3 (X38 hps (o:=0+14+r.kind.toNat*1) (k:=14+r.kind.toNat) (by omega) (by omega))) rfl (.val (fun w hS=>(.eql (.of rfl) (.of rfl))) rfl (.val (fun w hS=>(.move (.of rfl))) rfl ?_)))
 refine WQ.gval rfl rfl rfl (fun hg1 w hS=>(by exact .fieldAddr 8 (.of rfl) X15 rfl rfl Qs3 rfl)) rfl ?_
 refine .gval rfl rfl rfl (fun hg1 w hS=>(.ld (.gd hg1 rfl) hS (k:=0) rfl Qg3 rfl)) rfl (.gval rfl rfl rfl (fun hg1 w hS=>(.move (.of rfl))) rfl ?_)
 refine WQ.gval rfl rfl rfl (fun hg1 w hS=>(by exact .fieldAddr 14 (.of rfl) Xcf rfl rfl Xco rfl)) rfl ?_
 refine .gval rfl rfl rfl (fun hg1 w hS=>Ex.arrAddrO (i:=r.kind) (.gd hg1 rfl) (.gd hg1 rfl) (by omega) (by omega) Xcb Qs3) rfl (.gval rfl rfl rfl (fun hg1 w hS=>.ld (.gd hg1 rfl) hS (k:=1) rfl Qg3 (X38 hps (o:=0+14+r.kind.toNat*1) (k:=14+r.kind.toNat) (by omega) (by omega))) rfl (.gval rfl rfl rfl (fun hg1 w hS=>(.lss (.gd hg1 rfl) (.gd hg1 rfl))) rfl (.val (fun w hS=>(.por (.of rfl) (.of rfl) (.of rfl))) rfl (.val (fun w hS=>(.assign (.of rfl))) rfl (.nil ?_)))))
 clear hS; intro w hS
 refine .ret (X9 Xoi rfl ?_)
 refine ⟨_,rfl,congrArg Value.bool ?_,(hS.drop (k:=0) rfl).drop (k:=0) rfl⟩
 have e1:X4e (now - r.made) (ps.getD r.kind.toNat 0)=true:=by
  simp only [Y2k,decide_eq_false_iff_not] at hb31
  unfold X4e
  simp only [Y1j,decide_eq_true_eq,beq_iff_eq]
  omega
 have e2:X4e (now - r.used) (ps.getD (7+r.kind.toNat) 0)=true:=by
  simp only [Y2k,decide_eq_false_iff_not] at hb47
  unfold X4e
  simp only [Y1j,decide_eq_true_eq,beq_iff_eq]
  omega
 rw [X6f,e1,e2,decide_eq_true hk1.1,decide_eq_true hk1.2]
 rfl
theorem Xg5 (l:List Rec) (hw:Wf l):∀ (f:Nat) (i:Int) (r:Rec),r∈X49 l f i→∃ j:Nat,(j:Int)≤i∧l[j]?=some r
 | 0,_,r,h=>by simp [X49] at h
 | f+1,i,r,h=>by
  rw [X49] at h
  split at h
  ·simp at h
  ·rename_i hi
   split at h
   ·rename_i t ht
    rcases Y17.1 h with e | e
    ·subst e; exact ⟨i.toNat,by omega,ht⟩
    ·obtain ⟨j,h1,h2⟩:=Xg5 l hw f _ r e
     have:=(hw.up _ _ ht).2
     exact ⟨j,by omega,h2⟩
   ·simp at h
theorem Xi5 {l:List Rec} (hw:Wf l) {name:List UInt8} {i:Nat} {r:Rec} (h:(path l name)[i]?=some r):(r.name == name)=decide (i=0):=by
 rcases X2r l name with ⟨h1,_⟩ | ⟨j,t,h1,h2,h3,_⟩
 ·rw [path,h1,X6t l (by omega)] at h; simp at h
 ·rw [path,h1,Xc1 hw h2] at h
  cases i with
  | zero=>simp at h; subst h; simp [h3]
  | succ i =>
   simp at h
   obtain ⟨q,hq1,hq2⟩:=Xg5 l hw _ _ r (Ym h)
   have h4:=(hw.up _ _ h2).2
   have h5:=hw.at_ hq2
   rw [show decide (i+1=0)=false by simp]
   refine beq_eq_false_iff_ne.2 fun e=>?_
   rw [e,h1] at h5
   omega
theorem Xaa (tb:Nat) (room:Int) (la:Option Addr) (lc:Nat) (l:List Rec) (hl:l.length≤100000) (hwf:Wf l) (ps:List Int) (hps:ps.length=21) (hpos:∀ k,k<21→0≤ps.getD k 0) (name:List UInt8) (now:Int) (hn:0≤now∧now≤1099511627776) (B w:World) (I:Im) (hR:RS I la 10 l.length (X1c X7 l)) (As:List X8) (hS:Sat B w I (blk tb [I64 room,.slice la l.length lc] 79::As)) :
  Calls Tryz.prog 105 [ptr tb 0,.agg (ps.map I64).toArray,S name,I64 now].toArray w (Ret fun v w'=>v=.bool (X44 ps l name now)∧Sat B w' I (blk tb [I64 room,.slice la l.length lc] 79::As)):=by
 refine calls Tryz.func105 rfl Tryz.ntmps105 rfl (.seq (.region (.boxA (cs:=ps.map I64) hS (.of rfl) rfl ?_)))
 clear hS; intro b5 w hS
 refine .q 1 rfl (.nil (.seq (.t 2 rfl (.call Tryz.func81 rfl (X0 (.of rfl) (X0 (.of rfl) X4)) rfl (Xeh tb room la lc l hl hwf name B _ I hR _ (hS.pick 1 rfl)) ?_))))
 clear hS
 rintro _ w ⟨J,pa,pc,rfl,hJ,hpc,hRS,hS⟩
 try dsimp only [List.eraseIdx] at hS
 have hpl:=Xcj hwf name
 refine .q 1 rfl (.nil (.seq (.seq (.q 1 rfl (.block (.loop (σ:=Nat) (fun i=>[(0,ptr tb 0),(2,S name),(3,I64 now),(5,ptr b5 0),(9,.slice pa (path l name).length pc),(10,I64 (i:Nat))]) (fun i w=>i≤(path l name).length∧(∀ (j:Nat) r,j<i→(path l name)[j]?=some r→Xm1 ps name now r=false)∧Sat B w J (blk tb [I64 room,.slice la l.length lc] 79::blk b5 (ps.map I64) 31::As)) (fun i=>(path l name).length - i) 0 ⟨rfl,rfl,rfl,rfl,rfl,rfl,trivial⟩ ⟨Yp _,fun _ _ h=>absurd h (by omega),hS⟩ ?_))))))
 rintro i w ⟨hi,hno,hS⟩
 refine .seq (.seq (.region (.run 4 rfl ⟨⟨_,X1p⟩,trivial⟩ (.nil ?_))))
 refine WC.cond rfl (fun hb20=>?_) (fun hb20=>?_)
 ·
  have hc20:=hb20; try simp only [Y6] at hc20
  refine .skip (.seq (.block (.seq ?_)))
  obtain ⟨r,hr⟩:∃ r,(path l name)[i]?=some r:=⟨_,Y4 (by omega)⟩
  obtain ⟨q,hq⟩:=Xgb (Ym hr)
  have hgd:getD l r.name=r:=by rw [getD,hwf.get_ hq]; rfl
  obtain ⟨ht1,ht2,_⟩:=X5w (hwf.right r (Ym hq))
  have hpf:=Xi5 hwf hr
  obtain ⟨p,rfl,hA⟩:=hRS.2 (by omega)
  have hnm:((path l name).map fun r=>S r.name)[i]?=some (S r.name):=by rw [Yy,hr]; rfl
  refine .t 3 rfl (WL.val (.indexAddrI (.of rfl) (.of rfl) (by omega) (by omega) X1p Qs9) rfl ?_)
  refine WL.val (ldC (.of rfl) (by have h9:=X2o hS hA hnm; simpa using h9) Qg9) rfl ?_
  refine .call Tryz.func82 rfl (X0 (.of rfl) (X0 (.of rfl) X4)) rfl (Xak tb room la lc l hl r.name B _ J (hR.mono hJ) _ hS) ?_
  clear hS
  rintro _ w ⟨rfl,hS⟩
  rw [hgd]
  refine .q 3 rfl (.allocA (cs:=[_,_,_,_,_,_,_,_,_,_]) hS X5q rfl ?_)
  clear hS; intro b11 w hS
  refine WL.stA hS (k:=0) rfl (.of rfl) (.of rfl) rfl Xw rfl (by simp) ?_
  clear hS; intro w hS
  try simp only [Yl,Yf,Yc,Y9,Yj,Yo,Yd] at hS
  refine .q 1 rfl (.nil (.seq (.region ?_)))
  refine WL.val (.lds (vs:=ps.map I64) (.of rfl) hS (k:=2) rfl Xqn Xim (by rw [Yz]; exact hps) (fun j v hj=>by rw [Yd]; exact hj)) rfl ?_
  refine WL.val (.ldsW (cs:=[_,_,_,_,_,_,_,_,_,_]) (.of rfl) hS (k:=0) rfl X36 Xw rfl) rfl (.q 1 rfl (.call Tryz.func143 rfl (X0 (.of rfl) (X0 (.of rfl) (X0 (.of rfl) X4))) rfl (Xel ps hps hpos r now ht1 ht2 hn B _ J _ hS) ?_))
  clear hS
  rintro _ w ⟨rfl,hS⟩
  refine .q 1 rfl (.nil (.seq (.t 3 rfl (.gval rfl rfl (fun hg1=>(.move (.of rfl))) rfl (.gval rfl rfl (fun hg1=>(.eql (.gd hg1 rfl) (.of rfl))) rfl (.gval rfl rfl (fun hg1=>(.move (.gd hg1 rfl))) rfl ?_))))))
  refine WL.gval2 rfl rfl rfl (fun hg1 hg2=>(by exact .fieldAddr 0 (.of rfl) X15 rfl rfl Qs3 rfl)) rfl ?_
  refine WL.gval2 rfl rfl rfl (fun hg1 hg2=>(by exact (.ld (.gd2 hg1 hg2 rfl) hS (k:=0) rfl Qg3 rfl))) rfl ?_
  refine .gval2 rfl rfl rfl (fun hg1 hg2=>(.eql (.gd2 hg1 hg2 rfl) (.of rfl))) rfl (.gval rfl rfl (fun hg1=>(.por (.gd hg1 rfl) (.of rfl) (.gd hg1 rfl))) rfl (.gval rfl rfl (fun hg1=>(.move (.gd hg1 rfl))) rfl ?_))
  refine WL.gval2 rfl rfl rfl (fun hg1 hg2=>(by exact .fieldAddr 0 (.of rfl) X15 rfl rfl Qs3 rfl)) rfl ?_
  refine WL.gval2 rfl rfl rfl (fun hg1 hg2=>(by exact (.ld (.gd2 hg1 hg2 rfl) hS (k:=0) rfl Qg3 rfl))) rfl ?_
  refine .gval2 rfl rfl rfl (fun hg1 hg2=>(.eql (.gd2 hg1 hg2 rfl) (.of rfl))) rfl (.gval rfl rfl (fun hg1=>(.por (.gd hg1 rfl) (.of rfl) (.gd hg1 rfl))) rfl (.val (.pand (.of rfl) (.of rfl) (.of rfl)) rfl (.nil ?_)))
  refine WC.cond rfl (fun hb51=>?_) (fun hb51=>?_)
  ·
   refine .seq (.q 1 rfl (.ret (X9 Tryz.results105 rfl ?_)))
   replace hS:=hS.weaken hJ
   refine ⟨_,rfl,congrArg Value.bool ?_,(hS.drop (k:=0) rfl).drop (k:=1) rfl⟩
   have hbd:Xm1 ps name now r=true:=by
    rw [Xm1,hpf,Xgl]
    cases hl:X6f ps r now with
    | true=>rw [hl] at hb51; simp at hb51
    | false =>
     rw [hl] at hb51
     simp at hb51 ⊢
     omega
   have:(path l name).any (Xm1 ps name now)=true:=Y2l.2 ⟨r,Ym hr,hbd⟩
   rw [X44,this]; rfl
  have hc51:=hb51; try simp only [Y6] at hc51
  refine .skip (.region (.run 3 rfl ⟨⟨by omega,by omega⟩,trivial⟩ (.nil ?_)))
  refine ⟨i+1,⟨rfl,rfl,rfl,rfl,rfl,rfl,trivial⟩,⟨by (try dsimp only); omega,fun j t hj ht=>?_,hS.drop (k:=0) rfl⟩,by (try dsimp only); omega⟩
  rcases Yr j i with h1 | h1
  ·exact hno j t h1 ht
  ·have e:j=i:=by omega
   subst e
   rw [hr] at ht; cases ht
   rw [Xm1,hpf,Xgl]
   cases hl:X6f ps r now with
   | true=>simp
   | false =>
    rw [hl] at hb51
    simp at hb51 ⊢
    omega
 have hc20:=hb20; try simp only [Y6] at hc20
 refine .exit (.seq (.region (.run 4 rfl ⟨⟨_,X1p⟩,trivial⟩ (.nil (.ret (X9 Tryz.results105 rfl ?_))))))
 replace hS:=hS.weaken hJ
 refine ⟨_,rfl,congrArg Value.bool ?_,hS.drop (k:=1) rfl⟩
 have:(path l name).any (Xm1 ps name now)=false:=by
  rw [Y3e]
  intro r hr
  obtain ⟨j,hj⟩:=Y11.1 hr
  have:=(Y5.1 hj).1
  rw [hno j r (by omega) hj]; decide
 rw [X44,this]
 simp
theorem Xe3 (r:Rec) (now:Int) (hu:0≤r.uses) (hu2:r.uses≤255) (B w:World) (I:Im) (As:List X8) (hS:Sat B w I As) :
  Calls Tryz.prog 76 [.agg (X7 r).toArray,I64 now].toArray w (Ret fun v w'=>v=.agg (X7 (X45 r now)).toArray∧Sat B w' I As):=by
 refine calls Tryz.func76 rfl Tryz.ntmps76 rfl (.seq (.region (.boxA (cs:=[_,_,_,_,_,_,_,_,_,_]) hS (.of rfl) rfl ?_)))
 clear hS; intro b2 w hS
 refine .allocA (cs:=[_,_,_,_,_,_,_,_,_,_]) hS X5q rfl ?_
 clear hS; intro b4 w hS
 refine .nil (.seq (.region ?_))
 refine WL.val (.fieldAddr 8 (.of rfl) X15 rfl rfl Qs3 rfl) rfl (WL.val (.ld (.of rfl) hS (k:=1) rfl Qg3 rfl) rfl (.run 1 rfl ⟨⟨by omega,by omega⟩,trivial⟩ (.val (.min2 (.of rfl) (.of rfl)) rfl ?_)))
 refine WL.val (.fieldAddr 8 (.of rfl) X15 rfl rfl Qs3 rfl) rfl (WL.st1 hS (k:=1) rfl (.of rfl) (.of rfl) rfl Qs3 (by simp) ?_)
 clear hS; intro w hS
 refine .nil (.seq (.seq (.region ?_)))
 refine WL.val (.fieldAddr 7 (.of rfl) X15 rfl rfl Qs3 rfl) rfl (WL.val (.ld (.of rfl) hS (k:=1) rfl Qg3 rfl) rfl (.q 2 rfl (.nil ?_)))
 refine WC.cond rfl (fun hb13=>?_) (fun hb13=>?_)
 ·
  refine .t 1 rfl (WL.val (.fieldAddr 7 (.of rfl) X15 rfl rfl Qs3 rfl) rfl (WL.st1 hS (k:=1) rfl (.of rfl) (.of rfl) rfl Qs3 (by simp) ?_))
  clear hS; intro w hS
  refine .nil (.seq (.region ?_))
  refine WL.val (.ldsW (cs:=[_,_,_,_,_,_,_,_,_,_]) (.of rfl) hS (k:=1) rfl X36 Xw rfl) rfl (WL.stA hS (k:=0) rfl (.of rfl) (.of rfl) rfl Xw rfl (by simp) ?_)
  clear hS; intro w hS
  try simp only [Yl,Yf,Yc,Y9,Yj,Yo,Yd] at hS
  refine .nil (.ret ?_)
  refine Xlj (b:=_) (cs:=[_,_,_,_,_,_,_,_,_,_]) Tryz.results76 hS (k:=0) rfl X36 Xw rfl rfl (⟨_,rfl,?_,(hS.drop (k:=0) rfl).drop (k:=0) rfl⟩)
  have e1:min (255:Int) (r.uses+1)=min (r.uses+1) 255:=Int.min_comm _ _
  rw [e1]
  first
  | (have e2:max r.used now=now:=(by simp at hb13; omega); unfold X45 X7; dsimp only; rw [e2]; done)
  | (have e2:max r.used now=r.used:=(by simp at hb13; omega); unfold X45 X7; dsimp only; rw [e2])
 refine .skip (.seq (.region ?_))
 refine WL.val (.ldsW (cs:=[_,_,_,_,_,_,_,_,_,_]) (.of rfl) hS (k:=1) rfl X36 Xw rfl) rfl (WL.stA hS (k:=0) rfl (.of rfl) (.of rfl) rfl Xw rfl (by simp) ?_)
 clear hS; intro w hS
 try simp only [Yl,Yf,Yc,Y9,Yj,Yo,Yd] at hS
 refine .nil (.ret ?_)
 refine Xlj (b:=_) (cs:=[_,_,_,_,_,_,_,_,_,_]) Tryz.results76 hS (k:=0) rfl X36 Xw rfl rfl (⟨_,rfl,?_,(hS.drop (k:=0) rfl).drop (k:=0) rfl⟩)
 have e1:min (255:Int) (r.uses+1)=min (r.uses+1) 255:=Int.min_comm _ _
 rw [e1]
 first
 | (have e2:max r.used now=now:=(by simp at hb13; omega); unfold X45 X7; dsimp only; rw [e2]; done)
 | (have e2:max r.used now=r.used:=(by simp at hb13; omega); unfold X45 X7; dsimp only; rw [e2])
def X3m (s:List UInt8) (lo:Int):Bool:=s.all fun c=>!(decide ((c.toNat:Int)<lo) || decide ((126:Int)<(c.toNat:Int)))
theorem Xlh (i:Nat) (c:UInt8):badW i c=(!((decide ((97:Int)≤(c.toNat:Int)) && decide ((c.toNat:Int)≤122)) || (decide ((65:Int)≤(c.toNat:Int)) && decide ((c.toNat:Int)≤90))) && (((i:Int) == 0) || !(((decide ((48:Int)≤(c.toNat:Int)) && decide ((c.toNat:Int)≤57)) || ((c.toNat:Int) == 45)) || ((c.toNat:Int) == 95)))):=by
 unfold badW letC
 rw [Y2y]
 simp only [Yq,Y1j,Y3d,Y1c,Y2k,decide_eq_true_eq,decide_eq_false_iff_not,beq_iff_eq,bne_iff_ne,ne_eq,beq_eq_false_iff_ne]
 omega
theorem Xj5 (p:Pr):Xlv p=((!Xah p.1 || decide ((60:Int)<(p.2.length:Int))) || !X3m p.2 32):=by
 unfold Xlv X5z
 rw [show (p.2.all fun c=>!(decide ((c.toNat:Int)<32) || decide ((126:Int)<(c.toNat:Int))))=X3m p.2 32 from rfl]
 cases Xah p.1 <;> cases X3m p.2 32 <;> simp
 rw [Y2y]
 simp
 try omega
theorem Xbu (u:Us):X6s u=(!(((((u.name == []) || decide ((32:Int)<(u.name.length:Int))) || (u.pw == [])) || decide ((60:Int)<(u.pw.length:Int))) || decide ((8:Int)<(u.attrs.length:Int))) && X3m u.name 33 && !u.attrs.any Xlv):=by
 unfold X6s X5z
 rw [show (u.name.all fun c=>!(decide ((c.toNat:Int)<33) || decide ((126:Int)<(c.toNat:Int))))=X3m u.name 33 from rfl]
 cases X3m u.name 33 <;> cases u.attrs.any Xlv <;> simp
 cases u.name <;> cases u.pw <;> simp
 rw [Y2y]
 simp
 omega
theorem X83 (s:List UInt8) (lo:Int) (hs:s.length≤9223372036854775807) (B w:World) (I:Im) (As:List X8) (hS:Sat B w I As) :
  Calls Tryz.prog 160 [S s,.int .u8 lo].toArray w (Ret fun v w'=>v=.bool (X3m s lo)∧Sat B w' I As):=by
 refine calls Tryz.func160 rfl Tryz.ntmps160 rfl (.seq (.q 1 rfl (.seq (.seq (.q 1 rfl (.block (.loop (σ:=Nat) (fun i=>[(0,S s),(1,.int .u8 lo),(5,I64 (i:Nat))]) (fun i w=>i≤s.length∧(∀ (j:Nat) c,j<i→s[j]?=some c→(decide ((c.toNat:Int)<lo) || decide ((126:Int)<(c.toNat:Int)))=false)∧Sat B w I As) (fun i=>s.length - i) 0 ⟨rfl,rfl,rfl,trivial⟩ ⟨Yp _,fun _ _ h=>absurd h (by omega),hS⟩ ?_)))))))
 rintro i w ⟨hi,hno,hS⟩
 refine .seq (.seq (.region (.run 4 rfl ⟨Qu9,trivial⟩ (.nil ?_))))
 refine WC.cond rfl (fun hb9=>?_) (fun hb9=>?_)
 ·
  have hc9:=hb9; try simp only [Y6] at hc9
  refine .skip (.seq (.block (.seq (.region (.run 6 rfl ⟨⟨⟨by omega,by omega⟩,Qu9⟩,trivial⟩ (.gval rfl rfl (fun hg1=>(.move (.of rfl))) rfl (.gval rfl rfl (fun hg1=>(.move (.of rfl))) rfl ?_)))))))
  refine WL.gval rfl rfl (fun hg1=>(.index (.gd hg1 rfl) (.gd hg1 rfl) (by (try simp only [Y6] at hg1); omega) (by (try simp only [Y6] at hg1); omega) Qu9)) rfl ?_
  refine .gval rfl rfl (fun hg1=>(.gtr (.gd hg1 rfl) (.of rfl))) rfl (.val (.por (.of rfl) (.of rfl) (.of rfl)) rfl (.nil ?_))
  refine WC.cond rfl (fun hb22=>?_) (fun hb22=>?_)
  ·
   have hc22:=hb22; try simp only [Y6] at hc22
   refine .seq (.q 1 rfl (.ret (X9 Tryz.results160 rfl ?_)))
   refine ⟨_,rfl,congrArg Value.bool ?_,hS⟩
   have:X3m s lo=false:=by
    unfold X3m
    rw [Y2j]
    exact ⟨_,Ym (Xz (show i<s.length by omega)),by rw [hb22]; decide⟩
   rw [this]
  have hc22:=hb22; try simp only [Y6] at hc22
  refine .skip (.region (.run 3 rfl ⟨⟨by omega,by omega⟩,trivial⟩ (.nil ?_)))
  refine ⟨i+1,⟨rfl,rfl,rfl,trivial⟩,⟨by (try dsimp only); omega,fun j c hj hc=>?_,hS⟩,by (try dsimp only); omega⟩
  rcases Yr j i with h1 | h1
  ·exact hno j c h1 hc
  ·have e:j=i:=by omega
   subst e
   rw [Xz (show j<s.length by omega)] at hc; cases hc
   exact hb22
 have hc9:=hb9; try simp only [Y6] at hc9
 refine .exit (.seq (.q 1 rfl (.ret (X9 Tryz.results160 rfl ?_))))
 refine ⟨_,rfl,congrArg Value.bool ?_,hS⟩
 have:X3m s lo=true:=by
  unfold X3m
  rw [Y1a]
  intro c hc
  obtain ⟨j,hj,hjr⟩:=Y32 hc
  rw [hno j c (by omega) (by rw [Y4 hj,hjr])]
  rfl
 rw [this]
theorem Xeo (s:List UInt8) (hs:s.length≤9223372036854775807) (B w:World) (I:Im) (As:List X8) (hS:Sat B w I As) :
  Calls Tryz.prog 161 [S s].toArray w (Ret fun v w'=>v=.bool (Xah s)∧Sat B w' I As):=by
 refine calls Tryz.func161 rfl Tryz.ntmps161 rfl (.seq (.q 1 rfl (.seq (.seq (.t 3 rfl (.gval rfl rfl (fun hg1=>(.move (.of rfl))) rfl (.gval rfl rfl (fun hg1=>(.len (.gd hg1 rfl) Qu9)) rfl (.gval rfl rfl (fun hg1=>(.gtr (.gd hg1 rfl) (.of rfl))) rfl (.val (.por (.of rfl) (.of rfl) (.of rfl)) rfl (.nil ?_))))))))))
 refine WC.cond rfl (fun hb13=>?_) (fun hb13=>?_)
 ·
  refine .seq (.q 1 rfl (.ret (X9 Xrb rfl ?_)))
  refine ⟨_,rfl,congrArg Value.bool ?_,hS⟩
  rw [Xah]
  have h:=hb13
  simp at h
  rcases h with h | h
  ·subst h; rfl
  ·rw [decide_eq_false (show ¬ (s.length:Int)≤60 by omega)]; simp
 have hc13:=hb13; try simp only [Y6] at hc13
 refine .skip (.seq (.seq (.q 1 rfl (.block (.loop (σ:=Nat) (fun i=>[(0,S s),(3,I64 (i:Nat))]) (fun i w=>i≤s.length∧(∀ (j:Nat) c,j<i→s[j]?=some c→badW j c=false)∧Sat B w I As) (fun i=>s.length - i) 0 ⟨rfl,rfl,trivial⟩ ⟨Yp _,fun _ _ h=>absurd h (by omega),hS⟩ ?_)))))
 rintro i w ⟨hi,hno,hS⟩
 refine .seq (.seq (.region (.run 4 rfl ⟨Qu9,trivial⟩ (.nil ?_))))
 refine WC.cond rfl (fun hb17=>?_) (fun hb17=>?_)
 ·
  have hc17:=hb17; try simp only [Y6] at hc17
  refine .skip (.seq (.block (.seq (.region (.run 4 rfl ⟨⟨⟨by omega,by omega⟩,Qu9⟩,trivial⟩ (.nil (.seq (.t 3 rfl (.gval rfl rfl (fun hg1=>(.move (.of rfl))) rfl (.gval rfl rfl (fun hg1=>(.leq (.gd hg1 rfl) (.of rfl))) rfl (.val (.pand (.of rfl) (.of rfl) (.of rfl)) rfl (.q 1 rfl (.gval rfl rfl (fun hg1=>(.move (.of rfl))) rfl (.gval rfl rfl (fun hg1=>(.geq (.gd hg1 rfl) (.of rfl))) rfl (.gval rfl rfl (fun hg1=>(.move (.gd hg1 rfl))) rfl (.gval2 rfl rfl rfl (fun hg1 hg2=>(.move (.of rfl))) rfl (.gval2 rfl rfl rfl (fun hg1 hg2=>(.leq (.gd2 hg1 hg2 rfl) (.of rfl))) rfl (.gval rfl rfl (fun hg1=>(.pand (.gd hg1 rfl) (.gd hg1 rfl) (.of rfl))) rfl (.val (.por (.of rfl) (.of rfl) (.of rfl)) rfl (.q 1 rfl (.nil (.seq (.t 3 rfl (.gval rfl rfl (fun hg1=>(.move (.of rfl))) rfl (.gval rfl rfl (fun hg1=>(.leq (.gd hg1 rfl) (.of rfl))) rfl (.val (.pand (.of rfl) (.of rfl) (.of rfl)) rfl (.q 1 rfl (.gval rfl rfl (fun hg1=>(.move (.of rfl))) rfl (.gval rfl rfl (fun hg1=>(.eql (.gd hg1 rfl) (.of rfl))) rfl (.val (.por (.of rfl) (.of rfl) (.of rfl)) rfl (.q 1 rfl (.gval rfl rfl (fun hg1=>(.move (.of rfl))) rfl (.gval rfl rfl (fun hg1=>(.eql (.gd hg1 rfl) (.of rfl))) rfl (.val (.por (.of rfl) (.of rfl) (.of rfl)) rfl (.q 1 rfl (.nil (.seq (.t 3 rfl (.gval rfl rfl (fun hg1=>(.move (.of rfl))) rfl (.gval rfl rfl (fun hg1=>(.eql (.gd hg1 rfl) (.of rfl))) rfl (.gval rfl rfl (fun hg1=>(.move (.gd hg1 rfl))) rfl (.gval2 rfl rfl rfl (fun hg1 hg2=>(.move (.of rfl))) rfl (.gval2 rfl rfl rfl (fun hg1 hg2=>(.not (.gd2 hg1 hg2 rfl))) rfl (.gval rfl rfl (fun hg1=>(.por (.gd hg1 rfl) (.of rfl) (.gd hg1 rfl))) rfl (.val (.pand (.of rfl) (.of rfl) (.of rfl)) rfl (.nil ?_))))))))))))))))))))))))))))))))))))))))))))))
  refine WC.cond rfl (fun hb60=>?_) (fun hb60=>?_)
  ·
   have hc60:=hb60; try simp only [Y6] at hc60
   refine .seq (.q 1 rfl (.ret (X9 Xrb rfl ?_)))
   refine ⟨_,rfl,congrArg Value.bool ?_,hS⟩
   have:X8t s 0=false:=by
    cases h:X8t s 0 with
    | false=>rfl
    | true =>
     have h1:=(X4g s 0).1 h i _ (Xz (show i<s.length by omega))
     rw [Yd,Xlh] at h1
     exact absurd (hb60.symm.trans h1) (by decide)
   rw [Xah,this]; rfl
  have hc60:=hb60; try simp only [Y6] at hc60
  refine .skip (.region (.run 3 rfl ⟨⟨by omega,by omega⟩,trivial⟩ (.nil ?_)))
  refine ⟨i+1,⟨rfl,rfl,trivial⟩,⟨by (try dsimp only); omega,fun j c hj hc=>?_,hS⟩,by (try dsimp only); omega⟩
  rcases Yr j i with h1 | h1
  ·exact hno j c h1 hc
  ·have e:j=i:=by omega
   subst e
   rw [Xz (show j<s.length by omega)] at hc; cases hc
   rw [Xlh]; exact hb60
 have hc17:=hb17; try simp only [Y6] at hc17
 refine .exit (.seq (.q 1 rfl (.ret (X9 Xrb rfl ?_))))
 refine ⟨_,rfl,congrArg Value.bool ?_,hS⟩
 have:X8t s 0=true:=(X4g s 0).2 fun j c hc=>by
  have:=(Y5.1 hc).1
  rw [Yd]; exact hno j c (by omega) hc
 rw [Xah,this]
 have h:=hb13
 simp at h
 rw [decide_eq_true (show (s.length:Int)≤60 by omega)]
 simp [h.1]
theorem Xci (u:Us) (a:Option Addr) (c:Nat) (hn:u.name.length≤9223372036854775807) (hpl:u.pw.length≤9223372036854775807) (hal:u.attrs.length≤9223372036854775807) (hA:∀ p∈u.attrs,X1k p) (B w:World) (I:Im) (hR:RS I a 2 u.attrs.length (X1c X1h u.attrs)) (As:List X8) (hS:Sat B w I As) :
  Calls Tryz.prog 122 [.agg (X2p u a c).toArray].toArray w (Ret fun v w'=>v=.bool (X6s u)∧Sat B w' I As):=by
 refine calls Tryz.func122 rfl Tryz.ntmps122 rfl (.seq (.region (.boxA (cs:=[_,_,_]) hS (.of rfl) rfl ?_)))
 clear hS; intro b1 w hS
 refine .q 1 rfl (.nil (.seq (.seq (.region ?_))))
 refine WL.val (.fieldAddr 0 (.of rfl) X66 rfl rfl Qs9 rfl) rfl (WL.val (.ld (.of rfl) hS (k:=0) rfl Qg9 rfl) rfl (.q 2 rfl (WL.gval rfl rfl (fun hg1=>(by exact .fieldAddr 0 (.of rfl) X66 rfl rfl Qs9 rfl)) rfl ?_)))
 refine WL.gval rfl rfl (fun hg1=>(by exact (.ld (.gd hg1 rfl) hS (k:=0) rfl Qg9 rfl))) rfl ?_
 refine .gval rfl rfl (fun hg1=>(.len (.gd hg1 rfl) Qu9)) rfl (.gval rfl rfl (fun hg1=>(.gtr (.gd hg1 rfl) (.of rfl))) rfl (.val (.por (.of rfl) (.of rfl) (.of rfl)) rfl (.q 1 rfl ?_)))
 refine WL.gval rfl rfl (fun hg1=>(by exact .fieldAddr 1 (.of rfl) X66 rfl rfl Qs9 rfl)) rfl ?_
 refine WL.gval rfl rfl (fun hg1=>(by exact (.ld (.gd hg1 rfl) hS (k:=0) rfl Qg9 rfl))) rfl ?_
 refine .gval rfl rfl (fun hg1=>(.eqs (.gd hg1 rfl) (.of rfl))) rfl (.val (.por (.of rfl) (.of rfl) (.of rfl)) rfl (.q 1 rfl ?_))
 refine WL.gval rfl rfl (fun hg1=>(by exact .fieldAddr 1 (.of rfl) X66 rfl rfl Qs9 rfl)) rfl ?_
 refine WL.gval rfl rfl (fun hg1=>(by exact (.ld (.gd hg1 rfl) hS (k:=0) rfl Qg9 rfl))) rfl ?_
 refine .gval rfl rfl (fun hg1=>(.len (.gd hg1 rfl) Qu9)) rfl (.gval rfl rfl (fun hg1=>(.gtr (.gd hg1 rfl) (.of rfl))) rfl (.val (.por (.of rfl) (.of rfl) (.of rfl)) rfl (.q 1 rfl ?_)))
 refine WL.gval rfl rfl (fun hg1=>(by exact .fieldAddr 2 (.of rfl) X66 rfl rfl Xin rfl)) rfl ?_
 refine WL.gval rfl rfl (fun hg1=>(by exact (.ld (.gd hg1 rfl) hS (k:=0) rfl Xlx rfl))) rfl ?_
 refine .gval rfl rfl (fun hg1=>(.lenSlice (.gd hg1 rfl) Xgh)) rfl (.gval rfl rfl (fun hg1=>(.gtr (.gd hg1 rfl) (.of rfl))) rfl (.val (.por (.of rfl) (.of rfl) (.of rfl)) rfl (.q 1 rfl ?_)))
 refine WL.gval rfl rfl (fun hg1=>(by exact .fieldAddr 0 (.of rfl) X66 rfl rfl Qs9 rfl)) rfl ?_
 refine WL.gval rfl rfl (fun hg1=>(by exact (.ld (.gd hg1 rfl) hS (k:=0) rfl Qg9 rfl))) rfl ?_
 refine .gcall (T:=fun w=>Sat B w I _) rfl rfl rfl Tryz.func160 rfl (fun hg1=>(X0 (.gd hg1 rfl) (X0 (.of rfl) X4))) rfl (fun hg1=>X83 u.name 33 hn B _ I _ hS) hS ?_
 clear hS; rintro w hS
 refine .gval rfl rfl (fun hg1=>(.not (.gd hg1 rfl))) rfl (.val (.por (.of rfl) (.of rfl) (.of rfl)) rfl (.nil ?_))
 refine WC.cond rfl (fun hb36=>?_) (fun hb36=>?_)
 ·
  refine .seq (.q 1 rfl (.ret (X9 Xro rfl ?_)))
  refine ⟨_,rfl,congrArg Value.bool ?_,hS.drop (k:=0) rfl⟩
  rw [Xbu]
  rcases Y23.1 hb36 with h | h
  ·rw [h]; rfl
  ·rw [show X3m u.name 33=false by simpa using h]; simp
 have hc36:=hb36; try simp only [Y6] at hc36
 refine .skip (.seq (.seq (.q 1 rfl (.block (.loop (σ:=Nat) (fun i=>[(1,ptr b1 0),(3,I64 (i:Nat))]) (fun i w=>i≤u.attrs.length∧(∀ (j:Nat) y,j<i→u.attrs[j]?=some y→Xlv y=false)∧Sat B w I (blk b1 [S u.name,S u.pw,.slice a u.attrs.length c] 67::As)) (fun i=>u.attrs.length - i) 0 ⟨rfl,rfl,trivial⟩ ⟨Yp _,fun _ _ h=>absurd h (by omega),hS⟩ ?_)))))
 rintro i w ⟨hi,hno,hS⟩
 refine .seq (.seq (.t 1 rfl ?_))
 refine WL.val (.fieldAddr 2 (.of rfl) X66 rfl rfl Xin rfl) rfl (WL.val (.ld (.of rfl) hS (k:=0) rfl Xlx rfl) rfl (.run 2 rfl ⟨⟨_,Xgh⟩,trivial⟩ (.nil ?_)))
 refine WC.cond rfl (fun hb41=>?_) (fun hb41=>?_)
 ·
  have hc41:=hb41; try simp only [Y6] at hc41
  refine .skip (.seq (.block (.seq ?_)))
  obtain ⟨x,hx0⟩:∃ x,u.attrs[i]?=some x:=⟨_,Y4 (by omega)⟩
  obtain ⟨q,hq9,hx⟩:=Xab (cells:=X1h) (s:=2) (fun _=>rfl) hR hx0
  subst hq9
  unfold X1h at hx
  have hfx:=hA x (Ym hx0)
  have hf1:=hfx.1
  have hf2:=hfx.2
  unfold maxLen at hf1 hf2
  refine .region (WL.val (.fieldAddr 2 (.of rfl) X66 rfl rfl Xin rfl) rfl (WL.val (.ld (.of rfl) hS (k:=0) rfl Xlx rfl) rfl (.q 1 rfl (WL.val (.indexAddrI (.of rfl) (.of rfl) (by omega) (by omega) Xgh Xps) rfl (WL.val (.ldsI (.of rfl) hS hx Tryz.isAgg69 Xps rfl (fun _ _ h=>h)) rfl (.allocA (cs:=[_,_]) hS Tryz.zeroValue69 rfl ?_))))))
  clear hS; intro b4 w hS
  refine WL.stA hS (k:=0) rfl (.of rfl) (.of rfl) rfl Xps rfl (by simp) ?_
  clear hS; intro w hS
  try simp only [Yl,Yf,Yc,Y9,Yj,Yo,Yd] at hS
  refine .nil (.seq (.region ?_))
  refine WL.val (.fieldAddr 0 (.of rfl) Xpi rfl rfl Qs9 rfl) rfl (WL.val (.ld (.of rfl) hS (k:=0) rfl Qg9 rfl) rfl (.call Tryz.func161 rfl (X0 (.of rfl) X4) rfl (Xeo x.1 (by omega) B _ I _ hS) ?_))
  clear hS
  rintro _ w ⟨rfl,hS⟩
  refine .q 2 rfl (WL.gval rfl rfl (fun hg1=>(by exact .fieldAddr 1 (.of rfl) Xpi rfl rfl Qs9 rfl)) rfl ?_)
  refine WL.gval rfl rfl (fun hg1=>(by exact (.ld (.gd hg1 rfl) hS (k:=0) rfl Qg9 rfl))) rfl ?_
  refine .gval rfl rfl (fun hg1=>(.len (.gd hg1 rfl) Qu9)) rfl (.gval rfl rfl (fun hg1=>(.gtr (.gd hg1 rfl) (.of rfl))) rfl (.val (.por (.of rfl) (.of rfl) (.of rfl)) rfl (.q 1 rfl ?_)))
  refine WL.gval rfl rfl (fun hg1=>(by exact .fieldAddr 1 (.of rfl) Xpi rfl rfl Qs9 rfl)) rfl ?_
  refine WL.gval rfl rfl (fun hg1=>(by exact (.ld (.gd hg1 rfl) hS (k:=0) rfl Qg9 rfl))) rfl ?_
  refine .gcall (T:=fun w=>Sat B w I _) rfl rfl rfl Tryz.func160 rfl (fun hg1=>(X0 (.gd hg1 rfl) (X0 (.of rfl) X4))) rfl (fun hg1=>X83 x.2 32 (by omega) B _ I _ hS) hS ?_
  clear hS; rintro w hS
  refine .gval rfl rfl (fun hg1=>(.not (.gd hg1 rfl))) rfl (.val (.por (.of rfl) (.of rfl) (.of rfl)) rfl (.nil ?_))
  refine WC.cond rfl (fun hb64=>?_) (fun hb64=>?_)
  ·
   refine .seq (.q 1 rfl (.ret (X9 Xro rfl ?_)))
   refine ⟨_,rfl,congrArg Value.bool ?_,(hS.drop (k:=0) rfl).drop (k:=0) rfl⟩
   have:u.attrs.any Xlv=true:=Y2l.2 ⟨x,Ym hx0,by rw [Xj5]; exact hb64⟩
   rw [Xbu,this]; simp
  have hc64:=hb64; try simp only [Y6] at hc64
  refine .skip (.region (.run 3 rfl ⟨⟨by omega,by omega⟩,trivial⟩ (.nil ?_)))
  refine ⟨i+1,⟨rfl,rfl,trivial⟩,⟨by (try dsimp only); omega,fun j y hj hy=>?_,hS.drop (k:=0) rfl⟩,by (try dsimp only); omega⟩
  rcases Yr j i with h1 | h1
  ·exact hno j y h1 hy
  ·have e:j=i:=by omega
   subst e
   rw [hx0] at hy; cases hy
   rw [Xj5]; exact hb64
 have hc41:=hb41; try simp only [Y6] at hc41
 refine .exit (.seq (.q 1 rfl (.ret (X9 Xro rfl ?_))))
 refine ⟨_,rfl,congrArg Value.bool ?_,hS.drop (k:=0) rfl⟩
 have:u.attrs.any Xlv=false:=by
  rw [Y3e]
  intro y hy
  obtain ⟨j,hj⟩:=Y11.1 hy
  have:=(Y5.1 hj).1
  rw [hno j y (by omega) hj]; decide
 obtain ⟨h1,h2⟩:=Y1c.1 hb36
 rw [Xbu,this,h1,show X3m u.name 33=true by simpa using h2]; rfl
theorem Xbw (a:Option Addr) (cap:Nat) (l:List Us) (hln:l.length≤9223372036854775807) (hfit:∀ u∈l,u.fits) (B w:World) (I:Im) (hU:UsrsAt I a l) (As:List X8) (hS:Sat B w I As) :
  Calls Tryz.prog 70 [.slice a l.length cap].toArray w (Ret fun v w'=>v=.tuple #[I64 ((X4i l 0 []).1:Nat),I64 ((X4i l 0 []).2:Nat)]∧Sat B w' I As):=by
 refine calls Tryz.func70 rfl Tryz.ntmps70 rfl (.seq (.q 2 rfl (.seq (.seq (.q 1 rfl (.block (.loop (σ:=Nat) (fun i=>[(0,.slice a l.length cap),(4,I64 (i:Nat))]) (fun i w=>i≤l.length∧i≤16∧X4i (l.drop i) i (l.take i)=X4i l 0 []∧Sat B w I As) (fun i=>l.length - i) 0 ⟨rfl,rfl,trivial⟩ ⟨Yp _,Yp _,rfl,hS⟩ ?_)))))))
 rintro i w ⟨hi,hi6,hq,hS⟩
 refine .seq (.seq (.region (.run 4 rfl ⟨⟨_,Xbs⟩,trivial⟩ (.nil ?_))))
 refine WC.cond rfl (fun hb10=>?_) (fun hb10=>?_)
 ·
  have hc10:=hb10; try simp only [Y6] at hc10
  refine .skip (.seq (.block (.seq (.seq ?_))))
  obtain ⟨u,hu⟩:∃ u,l[i]?=some u:=⟨_,Y4 (by omega)⟩
  obtain ⟨p,ra,rc,hap,hx,hrc,hRR⟩:=hU i u hu
  have hfu:=hfit u (Ym hu)
  subst hap
  unfold X2p at hx
  have hstep:X4i (l.drop i) i (l.take i)=if 16≤i then (5,i) else if X6s u=false then (1,i) else if (l.take i).any (fun t=>t.name == u.name) then (7,i) else X4i (l.drop (i+1)) (i+1) (l.take (i+1)):=by
   rw [Y1d (by omega),(Y5.1 hu).2,X4i]
   simp only [Y15,hu,Y20]
  rw [hq] at hstep
  refine .q 2 rfl (WC.cond rfl (fun hb14=>?_) (fun hb14=>?_))
  ·
   refine .seq (.q 3 rfl (.ret (X1m Qr70 rfl rfl ?_)))
   have hE:X4i l 0 []=(5,i):=by rw [hstep]; exact if_pos (by have h:=hb14; simp at h; omega)
   rw [hE]
   exact ⟨_,rfl,rfl,hS⟩
  have hc14:=hb14; try simp only [Y6] at hc14
  refine .skip (.seq ?_)
  have hi16:i≠16:=by
   have h:=hb14
   simp at h
   omega
  refine .t 2 rfl (WL.val (.indexAddrI (.of rfl) (.of rfl) (by omega) (by omega) Xbs Xb4) rfl (WL.val (.ldsI (.of rfl) hS hx Qg67 Xb4 rfl (fun _ _ h=>h)) rfl (.call Tryz.func122 rfl (X0 (.of rfl) X4) rfl (Xci u ra rc hfu.name hfu.pw hfu.attrs.1 hfu.attrs.2 B _ I hRR _ hS) ?_)))
  clear hS
  rintro _ w ⟨rfl,hS⟩
  refine .q 1 rfl (.nil (.seq (.seq (.q 2 rfl ?_))))
  refine WC.cond rfl (fun hb22=>?_) (fun hb22=>?_)
  ·
   refine .seq (.q 3 rfl (.ret (X1m Qr70 rfl rfl ?_)))
   have hE:X4i l 0 []=(1,i):=by rw [hstep]; rw [if_neg (by omega)]; exact if_pos (by simpa using hb22)
   rw [hE]
   exact ⟨_,rfl,rfl,hS⟩
  have hc22:=hb22; try simp only [Y6] at hc22
  refine .skip (.seq (.q 1 rfl (.block (.loop (σ:=Nat) (fun k=>[(0,.slice (some p) l.length cap),(4,I64 (i:Nat)),(6,I64 (k:Nat))]) (fun k w=>k≤i∧(∀ (q:Nat) (t:Us),q<k→l[q]?=some t→t.name≠u.name)∧Sat B w I As) (fun k=>i - k) 0 ⟨rfl,rfl,rfl,trivial⟩ ⟨Yp _,fun _ _ h=>absurd h (by omega),hS⟩ ?_))))
  rintro k w ⟨hk,hids,hS⟩
  refine .seq (.seq (.q 3 rfl ?_))
  refine WC.cond rfl (fun hb26=>?_) (fun hb26=>?_)
  ·
   have hc26:=hb26; try simp only [Y6] at hc26
   refine .skip (.seq (.block (.seq ?_)))
   obtain ⟨z,hzk⟩:∃ z,l[k]?=some z:=⟨_,Y4 (by omega)⟩
   obtain ⟨p2,ra2,rc2,e2,hz,_,_⟩:=hU k z hzk
   cases e2
   unfold X2p at hz
   refine .quiet (by kernel_rfl) (by kernel_rfl) hS (.val (fun w hS=>(.move (.of rfl))) rfl (.val (fun w hS=>(.move (.of rfl))) rfl ?_))
   refine WQ.val (fun w hS=>(by exact .indexAddrI (.of rfl) (.of rfl) (by omega) (by omega) Xbs Xb4)) rfl ?_
   refine WQ.val (fun w hS=>(by exact .fieldAddrI 0 (.of rfl) X66 rfl rfl Qs9 rfl)) rfl ?_
   refine WQ.val (fun w hS=>(by exact (.ldI (.of rfl) hS (At.add hz _) Qg9 rfl))) rfl ?_
   refine .val (fun w hS=>(.move (.of rfl))) rfl (.val (fun w hS=>(.move (.of rfl))) rfl ?_)
   refine WQ.val (fun w hS=>(by exact .indexAddrI (.of rfl) (.of rfl) (by omega) (by omega) Xbs Xb4)) rfl ?_
   refine WQ.val (fun w hS=>(by exact .fieldAddrI 0 (.of rfl) X66 rfl rfl Qs9 rfl)) rfl ?_
   refine WQ.val (fun w hS=>(by exact (.ldI (.of rfl) hS (At.add hx _) Qg9 rfl))) rfl ?_
   refine .val (fun w hS=>(.eqs (.of rfl) (.of rfl))) rfl (.nil ?_)
   clear hS; intro w hS
   refine WC.cond rfl (fun hb39=>?_) (fun hb39=>?_)
   ·
    have hc39:=hb39; try simp only [Y6] at hc39
    refine .seq (.q 3 rfl (.ret (X1m Qr70 rfl rfl ?_)))
    have hE:X4i l 0 []=(7,i):=by rw [hstep]; rw [if_neg (by omega)]; rw [if_neg (show ¬ X6s u=false by simpa using hb22)]; exact if_pos (Y2l.2 ⟨z,Ym (i:=k) (by rw [Y1w,if_pos (by omega)]; exact hzk),by simpa using hb39⟩)
    rw [hE]
    exact ⟨_,rfl,rfl,hS⟩
   have hc39:=hb39; try simp only [Y6] at hc39
   refine .skip (.region (.run 3 rfl ⟨⟨by omega,by omega⟩,trivial⟩ (.nil ?_)))
   refine ⟨k+1,⟨rfl,rfl,rfl,trivial⟩,⟨by omega,fun q t hq2 hu2=>?_,hS⟩,by omega⟩
   rcases Yr q k with h1 | h1
   ·exact hids q t h1 hu2
   ·have e:q=k:=by omega
    subst e
    rw [hzk] at hu2; cases hu2
    simpa using hb39
  have hc26:=hb26; try simp only [Y6] at hc26
  refine .exit (.region (.run 3 rfl ⟨⟨by omega,by omega⟩,trivial⟩ (.nil ?_)))
  refine ⟨i+1,⟨rfl,rfl,trivial⟩,⟨by (try dsimp only); omega,by (try dsimp only); omega,?_,hS⟩,by (try dsimp only); omega⟩
  show X4i (l.drop (i+1)) (i+1) (l.take (i+1))=_
  rw [hstep,if_neg (by omega),if_neg (show ¬ X6s u=false by simpa using hb22),if_neg]
  rw [Y2i,Y3e]
  intro t ht
  obtain ⟨q,hq2⟩:=Y11.1 ht
  rw [Y1w] at hq2
  split at hq2
  ·rename_i hqi
   have:=hids q t (by omega) hq2
   simpa using this
  ·cases hq2
 have hc10:=hb10; try simp only [Y6] at hc10
 refine .exit (.seq (.q 2 rfl (.ret (X1m Qr70 rfl rfl ?_))))
 have e:i=l.length:=by omega
 subst e
 have hE:X4i l 0 []=(0,0):=by rw [← hq,Y34]; rfl
 rw [hE]
 exact ⟨_,rfl,rfl,hS⟩
theorem Xs5 {ω:Wd} {r:Rec} (h:(mkW ω r).1.2≠0):(mkW ω r).2.l=ω.l∧(mkW ω r).2.now=ω.now∧(mkW ω r).1.2=39∧(mkW ω r).1.1=[]:=by
 unfold mkW at h ⊢
 split
 ·exact ⟨rfl,rfl,rfl,rfl⟩
 ·rename_i h1
  rw [if_neg h1] at h
  dsimp only at h ⊢
  split
  ·rename_i h2
   exact ⟨by rw [add,if_neg h2],rfl,rfl,rfl⟩
  ·rename_i h2
   rw [if_neg h2] at h
   exact absurd rfl h
theorem Xq8:Bld Tryz.prog 79 [(0,1),(1,1)] [.int .i64 0,.slice none 0 0]:=X2l X9t Tryz.zeroValue79 (fun w=>by simp [go_sem])
theorem Xq0:Bld Tryz.prog 83 [(0,28),(28,1),(29,1),(30,1)] [.slice none 0 0,.slice none 0 0,.int .i64 0,.int .i64 0,.int .i64 0,.int .i64 0,.int .i64 0,.int .i64 0,.int .i64 0,.int .i64 0,.int .i64 0,.int .i64 0,.int .i64 0,.int .i64 0,.int .i64 0,.int .i64 0,.int .i64 0,.int .i64 0,.int .i64 0,.int .i64 0,.int .i64 0,.int .i64 0,.int .i64 0,.int .i64 0,.float .f64 0,.float .f64 0,.float .f64 0,.int .i64 0,.pointer none,.slice none 0 0,.int .i64 0]:=X2l X7f Tryz.zeroValue83 (fun w=>by simp [go_sem])
structure Xp where
 xb:Nat
 tb:Nat
 c:Cf
 a:Option Addr
 cap:Nat
 ua:Option Addr
 ucap:Nat
 D:List Int
abbrev XC (x:Xp) (da:Option Addr) (n dc:Nat) (now:Int):List Value:=[.slice x.a x.c.svs.length x.cap,.slice x.ua x.c.us.length x.ucap,I64 (x.c.ps 0),I64 (x.c.ps 1),I64 (x.c.ps 2),I64 (x.c.ps 3),I64 (x.c.ps 4),I64 (x.c.ps 5),I64 (x.c.ps 6),I64 (x.c.ps 7),I64 (x.c.ps 8),I64 (x.c.ps 9),I64 (x.c.ps 10),I64 (x.c.ps 11),I64 (x.c.ps 12),I64 (x.c.ps 13),I64 (x.c.ps 14),I64 (x.c.ps 15),I64 (x.c.ps 16),I64 (x.c.ps 17),I64 (x.c.ps 18),I64 (x.c.ps 19),I64 (x.c.ps 20),I64 x.c.room,F64 x.c.base,F64 x.c.factor,F64 x.c.most,I64 x.c.tries,ptr x.tb 0,.slice da n dc,I64 now]
structure XpOk (I:Im) (x:Xp) (lo:List Sv) (us:List Us) (ps:Nat→Int):Prop where
 cf:CfAt I x.c x.a x.cap x.ua x.ucap
 fits:x.c.fits
 ok:X5p x.c=0
 D:Srt.Ord (kx (ords x.c.svs)) x.c.svs.length x.D
 lo:lo=X48 x.c.svs x.D
 us:us=x.c.us
 ps:ps=x.c.ps
theorem XpOk.mono {I J:Im} {x:Xp} {lo:List Sv} {us:List Us} {ps:Nat→Int} (h:XpOk I x lo us ps) (hl:Le I J):XpOk J x lo us ps:=⟨h.cf.mono hl,h.fits,h.ok,h.D,h.lo,h.us,h.ps⟩
def RwM (J:Im) (la da:Option Addr) (dc:Nat) (ω:Wd):Prop:=RS J la 10 ω.l.length (X1c X7 ω.l)∧RS J da 1 ω.D.length (ω.D.map fun d=>U64 (d:Nat))∧ω.D.length≤dc
theorem RwM.mono {I J:Im} {la da:Option Addr} {dc:Nat} {ω:Wd} (h:RwM I la da dc ω) (hl:Le I J):RwM J la da dc ω:=⟨h.1.mono hl,h.2.1.mono hl,h.2.2⟩
abbrev xlo (x:Xp):List Sv:=X48 x.c.svs x.D
theorem Xov {c:Cf} (h:X5p c=0):(X3l c.svs).1=0:=by
 unfold X5p at h
 split at h
 ·exact h
 ·rename_i h1; exact Decidable.not_not.1 h1
theorem Xmo {c:Cf} (h:X5p c=0):X69 c.ps=true:=by
 unfold X5p at h
 split at h
 ·rename_i h1; exact absurd h h1
 ·split at h
  ·rename_i h1; exact absurd h h1
  ·split at h
   ·cases h
   ·rename_i h1; simpa using h1
theorem Xn4 {c:Cf} (h:X5p c=0) (k:Nat) (hk:k<21):0≤(psL c.ps).getD k 0:=by
 rw [Xgf c.ps hk]
 exact Xi3 (Xmo h) k hk
theorem Xpb {I:Im} {a:Option Addr} {l:List Sv} (h:SvsAt I a l):∃ L,SvsIn I a L l:=by
 have key:∀ i:Nat,∃ c,∀ s,l[i]?=some s→∃ p,a=some p∧At I (p.add (i*8)) c∧SvAt I s c:=fun i=>by
  cases e:l[i]? with
  | none=>exact ⟨[],fun s h=>by cases h⟩
  | some s =>
   obtain ⟨p,ra,rc,h1,h2,h3,h4⟩:=h i s e
   exact ⟨X1q s ra rc,fun t ht=>by cases ht; exact ⟨p,h1,h2,ra,rc,rfl,h3,h4⟩⟩
 refine ⟨(List.range l.length).map fun i=>Classical.choose (key i),by simp,fun i s hs=>?_⟩
 have hi:=(Y5.1 hs).1
 obtain ⟨p,h1,h2,h3⟩:=Classical.choose_spec (key i) s hs
 refine ⟨p,_,h1,?_,h2,h3⟩
 rw [Yy,Y4c hi]; rfl
theorem X4h (s:List UInt8) (hs:s.length≤1000000) (x:Xp) {lo:List Sv} {us:List Us} {ps:Nat→Int} (B w:World) (I:Im) (hX:XpOk I x lo us ps) (As:List X8) (hS:Sat B w I As) :
  Calls Tryz.prog 77 [.slice x.a x.c.svs.length x.cap,S s].toArray w (Ret fun v w'=>∃ ra rc,v=.tuple #[.agg (X1q (Xt lo s).1 ra rc).toArray,S (Xt lo s).2.1,I64 (((Xt lo s).2.2:Nat):Int)]∧Sat B w' I As):=by
 obtain rfl:=hX.lo
 obtain ⟨L,hL⟩:=Xpb hX.cf.svs
 refine (Xej x.a x.cap L x.c.svs hX.fits.svs hX.fits.ords (Xn2 (Xov hX.ok)) s hs B w I hL As hS).mono fun e w' ⟨v,he,J,u,cs,n,e2,hJ,hv,⟨ra,rc,hcs,_,_⟩,hf,hS⟩=>⟨v,he,ra,rc,?_,hS.weaken hJ⟩
 have h:=hf x.D hX.D
 rw [Xqx] at h
 rw [hv,h,hcs]
theorem x_pol {x:Xp} {da:Option Addr} {n dc:Nat} {now:Int} {j:Nat} {v:Value} (h:((psL x.c.ps).map I64)[j]?=some v):((.slice x.a x.c.svs.length x.cap::.slice x.ua x.c.us.length x.ucap::((psL x.c.ps).map I64 ++ [I64 x.c.room,F64 x.c.base,F64 x.c.factor,F64 x.c.most,I64 x.c.tries,ptr x.tb 0,.slice da n dc,I64 now])):List Value)[0+2+j]?=some v:=by
 have h1:=(Y5.1 h).1
 rw [show ((.slice x.a x.c.svs.length x.cap::.slice x.ua x.c.us.length x.ucap::((psL x.c.ps).map I64 ++ [I64 x.c.room,F64 x.c.base,F64 x.c.factor,F64 x.c.most,I64 x.c.tries,ptr x.tb 0,.slice da n dc,I64 now])):List Value)=[.slice x.a x.c.svs.length x.cap,.slice x.ua x.c.us.length x.ucap] ++ ((psL x.c.ps).map I64 ++ [I64 x.c.room,F64 x.c.base,F64 x.c.factor,F64 x.c.most,I64 x.c.tries,ptr x.tb 0,.slice da n dc,I64 now]) from rfl,Yv (by simp),Y8,Y8,Yk,show 0+2+j - (0+1+1)=j by omega,Yg h1]
 exact h
theorem Xff (n:Int) (x:Xp) {lo:List Sv} {us:List Us} {ps:Nat→Int} (ω:Wd) (hω:X46 ω) (la:Option Addr) (lc:Nat) (da:Option Addr) (dc:Nat) (B w:World) (I:Im) (hX:XpOk I x lo us ps) (hM:RwM I la da dc ω) (As:List X8) (hS:Sat B w I (blk x.xb (XC x da ω.D.length dc ω.now) 83::blk x.tb [I64 ω.room,.slice la ω.l.length lc] 79::As)) :
  Calls Tryz.prog 26 [ptr x.xb 0,I64 n].toArray w (Ret fun v w'=>v=.tuple #[]∧Sat B w' I (blk x.xb (XC x da (Xp9 ω n).D.length dc (Xp9 ω n).now) 83::blk x.tb [I64 (Xp9 ω n).room,.slice la (Xp9 ω n).l.length lc] 79::As)):=by
 obtain rfl:=hX.lo
 obtain rfl:=hX.us
 obtain rfl:=hX.ps
 refine calls Tryz.func26 rfl Tryz.ntmps26 rfl ?_
 have hnow:=hω.now
 refine .t 3 rfl (WL.val (.fieldAddr 30 (.of rfl) X7f rfl rfl Qs3 rfl) rfl (WL.val (.ld (.of rfl) hS (k:=0) rfl Qg3 rfl) rfl (.q 1 rfl (.val (.min2 (.of rfl) (.of rfl)) rfl (.val (.max2 (.of rfl) (.of rfl)) rfl (.run 1 rfl ⟨⟨by omega,by omega⟩,trivial⟩ (.val (.min2 (.of rfl) (.of rfl)) rfl (.q 1 rfl ?_))))))))
 refine WL.val (.fieldAddr 30 (.of rfl) X7f rfl rfl Qs3 rfl) rfl (WL.st1 hS (k:=0) rfl (.of rfl) (.of rfl) rfl Qs3 (by simp) ?_)
 clear hS; intro w hS
 refine .nil (X8g Tryz.results26 ?_)
 rw [show min (1099511627776:Int) (ω.now+max 0 (min n 1099511627776))=min (ω.now+max 0 (min n 1099511627776)) 1099511627776 from Int.min_comm _ _] at hS
 exact ⟨_,rfl,rfl,hS⟩
theorem Xoo {ω:Wd} {r:Rec} (h:X42 r.kind=[]∨ω.D=[]):mkW ω r=(([],39),ω):=by
 unfold mkW mkN X32
 by_cases h1:X42 r.kind=[]
 ·rw [if_pos h1]; rfl
 ·rw [if_neg h1]
  rcases h with h | h
  ·exact absurd h h1
  ·cases ω with
   | mk room l D now =>
    simp only at h
    subst h; rfl
theorem Xiy {ω:Wd} {r:Rec} {d:Nat} {D':List Nat} (h0:X42 r.kind≠[]) (h:ω.D=d::D'):mkW ω r=((if X5e ω.room ω.l ({ r with name:=(X42 r.kind ++ 45::X5d 16 d),made:=ω.now,used:=ω.now }:Rec)≠0 then ([],39) else ((X42 r.kind ++ 45::X5d 16 d),0)),{ ω with D:=D',l:=add ω.room ω.l ({ r with name:=(X42 r.kind ++ 45::X5d 16 d),made:=ω.now,used:=ω.now }:Rec) }):=by
 by_cases hc:(get ω.l (X42 r.kind ++ 45::X5d 16 d)).isSome=true
 ·have e:mkN ω r=(([],7),D'):=by
   unfold mkN X32
   rw [if_neg h0,h]
   exact if_pos hc
  have h2:X5e ω.room ω.l ({ r with name:=(X42 r.kind ++ 45::X5d 16 d),made:=ω.now,used:=ω.now }:Rec)≠0:=fun h3=>by
   have h4:=(Xl9 h3).2.1
   rcases Tr.get_at ω.l (X42 r.kind ++ 45::X5d 16 d) with ⟨_,h5⟩ | ⟨j,t,h5,_⟩
   ·rw [h5] at hc; cases hc
   ·have h6:at0 ω.l (X42 r.kind ++ 45::X5d 16 d)=-1:=h4
    rw [h5] at h6; omega
  unfold mkW
  rw [e,if_pos (show (7:Nat)≠0 by decide),if_pos h2,add,if_neg h2]
 ·have e:mkN ω r=(((X42 r.kind ++ 45::X5d 16 d),0),D'):=by
   unfold mkN X32
   rw [if_neg h0,h]
   exact if_neg hc
  unfold mkW mkR
  rw [e,if_neg (by simp)]
theorem Xlp {I:Im} {q:Addr} {v:Value} {vs:List Value} {ao:Option Addr} (h:At I q (v::vs)) (hao:0<vs.length→ao=some (q.add 1)):RS I ao 1 vs.length vs:=⟨by simp,fun h0=>⟨q.add 1,hao h0,h.add 1⟩⟩
theorem X3s (r:Rec) (hrp:r.parent.length≤1000000) (x:Xp) {lo:List Sv} {us:List Us} {ps:Nat→Int} (ω:Wd) (hω:X46 ω) (la:Option Addr) (lc:Nat) (da:Option Addr) (dc:Nat) (B w:World) (I:Im) (hX:XpOk I x lo us ps) (hM:RwM I la da dc ω) (As:List X8) (hS:Sat B w I (blk x.xb (XC x da ω.D.length dc ω.now) 83::blk x.tb [I64 ω.room,.slice la ω.l.length lc] 79::As)) :
  Calls Tryz.prog 46 [ptr x.xb 0,.agg (X7 r).toArray].toArray w (Ret fun v w'=>v=.tuple #[S (mkW ω r).1.1,I64 ((mkW ω r).1.2:Nat)]∧∃ J la2 lc2 da2 dc2,Le I J∧RwM J la2 da2 dc2 (mkW ω r).2∧Sat B w' J (blk x.xb (XC x da2 (mkW ω r).2.D.length dc2 (mkW ω r).2.now) 83::blk x.tb [I64 (mkW ω r).2.room,.slice la2 (mkW ω r).2.l.length lc2] 79::As)):=by
 obtain rfl:=hX.lo
 obtain rfl:=hX.us
 obtain rfl:=hX.ps
 refine calls Qf46 rfl Tryz.ntmps46 rfl (.seq (.region (.boxA (cs:=[_,_,_,_,_,_,_,_,_,_]) hS (.of rfl) rfl ?_)))
 clear hS; intro b3 w hS
 refine .q 2 rfl (.nil (.seq (.seq (.region ?_))))
 refine WL.val (.fieldAddr 0 (.of rfl) X15 rfl rfl Qs3 rfl) rfl (WL.val (.ld (.of rfl) hS (k:=0) rfl Qg3 rfl) rfl (.call Qf97 rfl (X0 (.of rfl) X4) rfl (X43 r.kind B _ I _ hS) ?_))
 clear hS
 rintro _ w ⟨rfl,hS⟩
 refine .q 2 rfl (.gval rfl rfl (fun hg1=>(.move (.of rfl))) rfl (.gval rfl rfl (fun hg1=>(.nilCheck (.gd hg1 rfl))) rfl ?_))
 refine WL.gval rfl rfl (fun hg1=>(by exact .fieldAddr 29 (.gd hg1 rfl) X7f rfl rfl X9z rfl)) rfl ?_
 refine WL.gval rfl rfl (fun hg1=>(by exact (.ld (.gd hg1 rfl) hS (k:=1) rfl Xhz rfl))) rfl ?_
 refine .gval rfl rfl (fun hg1=>(.lenSlice (.gd hg1 rfl) Xeb)) rfl (.gval rfl rfl (fun hg1=>(.eql (.gd hg1 rfl) (.of rfl))) rfl (.val (.por (.of rfl) (.of rfl) (.of rfl)) rfl (.nil ?_)))
 refine WC.cond rfl (fun hb20=>?_) (fun hb20=>?_)
 ·
  have hc20:=hb20; try simp only [Y6] at hc20
  refine .seq (.q 2 rfl (.ret (X1m Tryz.results46 rfl rfl ?_)))
  rw [Xoo (by have h:=hb20; simp at h; exact h)]
  exact ⟨_,rfl,rfl,I,la,lc,da,dc,Le.refl _,hM,(((hS.pick 2 rfl).pick 2 rfl).drop (k:=2) rfl)⟩
 have hc20:=hb20; try simp only [Y6] at hc20
 refine .skip (.seq ?_)
 have hk0:¬ X42 r.kind=[]:=by
  have h:=hb20
  simp at h
  exact h.1
 obtain ⟨d,D',hD9⟩:∃ d D',ω.D=d::D':=by
  cases h:ω.D with
  | nil=>simp [h] at hb20
  | cons d D'=>exact ⟨d,D',rfl⟩
 have hd:=hω.D d (by rw [hD9]; simp)
 have hDl:ω.D.length=D'.length+1:=by rw [hD9]; rfl
 have hdc:=hM.2.2
 obtain ⟨q,hq9,hx⟩:=hM.2.1.2 (by omega)
 subst hq9
 rw [hD9,Y1e] at hx
 have hpl:=X8n r.kind
 have hdg:=X41 16 d
 have hll:=hω.len
 refine .drawn (fun w=>∃ R,Sat B w I (blk b3 [I64 r.kind,S r.name,S r.parent,S r.user,S r.service,S r.url,I64 r.made,I64 r.used,I64 r.uses,.bool r.fresh] 45::blk x.xb (XC x (some q) ω.D.length dc ω.now) 83::R)) (fun j=>!([].contains j)) (by kernel_rfl) ?_
 replace hS:=hS.drew; generalize w.drew=w at hS ⊢
 have hH:∃ R,Sat B w I (blk b3 [I64 r.kind,S r.name,S r.parent,S r.user,S r.service,S r.url,I64 r.made,I64 r.used,I64 r.uses,.bool r.fresh] 45::blk x.xb (XC x (some q) ω.D.length dc ω.now) 83::R):=⟨_,((hS.pick 1 rfl).pick 1 rfl)⟩
 refine WD.tp (i:=0) rfl (by kernel_rfl) (fun w=>(.fieldAddr 0 (.of rfl) X15 rfl rfl Qs3 rfl)) rfl (WD.tk (i:=1) rfl (by kernel_rfl) hH (fun w ⟨R,hS⟩=>((.ld (.of rfl) hS (k:=0) rfl Qg3 rfl))) rfl (.tp (i:=2) rfl (by kernel_rfl) (fun w=>(.move (.of rfl))) rfl (.tp (i:=3) rfl (by kernel_rfl) (fun w=>(.nilCheck (.of rfl))) rfl ?_)))
 refine WD.tp (i:=4) rfl (by kernel_rfl) (fun w=>(.fieldAddr 29 (.of rfl) X7f rfl rfl X9z rfl)) rfl (WD.tk (i:=5) rfl (by kernel_rfl) hH (fun w ⟨R,hS⟩=>((.ld (.of rfl) hS (k:=1) rfl Xhz rfl))) rfl (WD.tp (i:=6) rfl (by kernel_rfl) (fun w=>(.indexAddrI (.of rfl) (.of rfl) (by omega) (by omega) Xeb Xfy)) rfl (WD.tk (i:=7) rfl (by kernel_rfl) hH (fun w ⟨R,hS⟩=>((.ldI (.of rfl) hS (At.add hx _) Tryz.isAgg118 rfl))) rfl (WD.branch [8] (by kernel_rfl) rfl (WO.cons rfl ?_ (WO.nil))))))
 refine .call Tryz.func56 rfl (X0 (.of rfl) (X0 (.of rfl) X4)) rfl (X9l r.kind d hd B _ I _ hS) ?_
 clear hS
 rintro _ w ⟨rfl,hS⟩
 rw [if_neg hk0]
 refine .nil ?_
 clear hH
 have hH:∃ R,Sat B w I (blk b3 [I64 r.kind,S r.name,S r.parent,S r.user,S r.service,S r.url,I64 r.made,I64 r.used,I64 r.uses,.bool r.fresh] 45::blk x.xb (XC x (some q) ω.D.length dc ω.now) 83::R):=⟨_,((hS.pick 1 rfl).pick 1 rfl)⟩
 refine And.intro (by intro _ _; exact hH) ?_
 refine .tp (i:=9) rfl (by kernel_rfl) (fun w=>(.move (.of rfl))) rfl (.tp (i:=10) rfl (by kernel_rfl) (fun w=>(.extract (.of rfl) rfl)) rfl (.tp (i:=11) rfl (by kernel_rfl) (fun w=>(.extract (.of rfl) rfl)) rfl (.tp (i:=12) rfl (by kernel_rfl) (fun w=>(.assign (.of rfl))) rfl (.tp (i:=13) rfl (by kernel_rfl) (fun w=>(.assign (.of rfl))) rfl (.done (by kernel_rfl) (.seq (.t 3 rfl ?_)))))))
 refine WL.val (.fieldAddr 29 (.of rfl) X7f rfl rfl X9z rfl) rfl (WL.val (.ld (.of rfl) hS (k:=1) rfl Xhz rfl) rfl (.val (.slcFrom (.of rfl) (.of rfl) (by omega) (by omega) Xeb Xfy) rfl ?_))
 obtain ⟨ao,hao,e38⟩:∃ ao,(0<D'.length→ao=some (q.add 1))∧sliced (some q) (1:Int).toNat ω.D.length dc 1=.slice ao D'.length (dc - 1):=⟨if dc=1 then some q else some (q.add 1),fun h=>if_neg (by omega),by simp [sliced,hDl]⟩
 rw [e38]
 refine .q 1 rfl (WL.val (.fieldAddr 29 (.of rfl) X7f rfl rfl X9z rfl) rfl (WL.st1 hS (k:=1) rfl (.of rfl) (.of rfl) rfl X9z (by simp) ?_))
 clear hS; intro w hS
 refine .nil (.seq (.t 1 rfl ?_))
 refine WL.val (.fieldAddr 1 (.of rfl) X15 rfl rfl Qs9 rfl) rfl (WL.st1 hS (k:=0) rfl (.of rfl) (.of rfl) rfl Qs9 (by simp) ?_)
 clear hS; intro w hS
 refine .nil (.seq (.t 2 rfl ?_))
 refine WL.val (.fieldAddr 30 (.of rfl) X7f rfl rfl Qs3 rfl) rfl (WL.val (.ld (.of rfl) hS (k:=1) rfl Qg3 rfl) rfl (WL.val (.fieldAddr 6 (.of rfl) X15 rfl rfl Qs3 rfl) rfl (WL.st1 hS (k:=0) rfl (.of rfl) (.of rfl) rfl Qs3 (by simp) ?_)))
 clear hS; intro w hS
 refine .nil (.seq (.t 2 rfl ?_))
 refine WL.val (.fieldAddr 30 (.of rfl) X7f rfl rfl Qs3 rfl) rfl (WL.val (.ld (.of rfl) hS (k:=1) rfl Qg3 rfl) rfl (WL.val (.fieldAddr 7 (.of rfl) X15 rfl rfl Qs3 rfl) rfl (WL.st1 hS (k:=0) rfl (.of rfl) (.of rfl) rfl Qs3 (by simp) ?_)))
 clear hS; intro w hS
 refine .nil (.seq (.drawn (fun w=>∃ J9 R,Le I J9∧Sat B w J9 (blk b3 [I64 r.kind,S (X42 r.kind ++ 45::X5d 16 d),S r.parent,S r.user,S r.service,S r.url,I64 ω.now,I64 ω.now,I64 r.uses,.bool r.fresh] 45::blk x.xb (XC x ao D'.length (dc - 1) ω.now) 83::R)) (fun j=>!([].contains j)) (by kernel_rfl) ?_))
 replace hS:=hS.drew; generalize w.drew=w at hS ⊢
 have hH:∃ J9 R,Le I J9∧Sat B w J9 (blk b3 [I64 r.kind,S (X42 r.kind ++ 45::X5d 16 d),S r.parent,S r.user,S r.service,S r.url,I64 ω.now,I64 ω.now,I64 r.uses,.bool r.fresh] 45::blk x.xb (XC x ao D'.length (dc - 1) ω.now) 83::R):=⟨_,_,Le.refl _,((hS.pick 1 rfl).pick 1 rfl)⟩
 refine .tp (i:=0) rfl (by kernel_rfl) (fun w=>(.move (.of rfl))) rfl (.tp (i:=1) rfl (by kernel_rfl) (fun w=>(.nilCheck (.of rfl))) rfl ?_)
 refine WD.tp (i:=2) rfl (by kernel_rfl) (fun w=>(.fieldAddr 28 (.of rfl) X7f rfl rfl Xph rfl)) rfl (WD.tk (i:=3) rfl (by kernel_rfl) hH (fun w ⟨J9,R,hL9,hS⟩=>((.ld (.of rfl) hS (k:=1) rfl Xpv rfl))) rfl (WD.tk (i:=4) rfl (by kernel_rfl) hH (fun w ⟨J9,R,hL9,hS⟩=>((.ldsW (cs:=[_,_,_,_,_,_,_,_,_,_]) (.of rfl) hS (k:=0) rfl X36 Xw rfl))) rfl (WD.branch [5] (by kernel_rfl) rfl (WO.cons rfl ?_ (WO.nil)))))
 refine WL.call Tryz.func73 rfl (X0 (.of rfl) (X0 (.of rfl) X4)) rfl (Xib x.tb ω.room la lc ω.l (by omega) ({ r with name:=(X42 r.kind ++ 45::X5d 16 d),made:=ω.now,used:=ω.now }:Rec) (by show (X42 r.kind ++ 45::X5d 16 d).length≤_; simp only [Y0,Y8]; omega) (by show r.parent.length≤_; omega) B _ I hM.1 _ (hS.pick 2 rfl)) ?_
 clear hS
 rintro _ w ⟨rfl,J,la2,lc2,hJ,hR2,hS⟩
 try dsimp only [List.eraseIdx] at hS
 refine .nil ?_
 clear hH
 have hH:∃ J9 R,Le I J9∧Sat B w J9 (blk b3 [I64 r.kind,S (X42 r.kind ++ 45::X5d 16 d),S r.parent,S r.user,S r.service,S r.url,I64 ω.now,I64 ω.now,I64 r.uses,.bool r.fresh] 45::blk x.xb (XC x ao D'.length (dc - 1) ω.now) 83::R):=⟨_,_,hJ,((hS.pick 2 rfl).pick 2 rfl)⟩
 refine And.intro (by intro _ _; exact hH) ?_
 refine .tp (i:=6) rfl (by kernel_rfl) (fun w=>(.assign (.of rfl))) rfl (.done (by kernel_rfl) (.seq (.seq (.q 2 rfl ?_))))
 refine WC.cond rfl (fun hb60=>?_) (fun hb60=>?_)
 ·
  have hc60:=hb60; try simp only [Y6] at hc60
  refine .seq (.q 2 rfl (.ret (X1m Tryz.results46 rfl rfl ?_)))
  rw [Xiy hk0 hD9,if_pos (show X5e ω.room ω.l ({ r with name:=(X42 r.kind ++ 45::X5d 16 d),made:=ω.now,used:=ω.now }:Rec)≠0 by simpa using hb60)]
  exact ⟨_,rfl,rfl,J,la2,lc2,ao,dc - 1,hJ,⟨hR2,(Xlp hx (by simpa using hao)).mono hJ |> fun h=>by simpa using h,by show D'.length≤dc - 1; omega⟩,((hS.pick 2 rfl).drop (k:=2) rfl)⟩
 have hc60:=hb60; try simp only [Y6] at hc60
 refine .skip (.seq (.q 3 rfl (.ret (X1m Tryz.results46 rfl rfl ?_))))
 rw [Xiy hk0 hD9,if_neg (show ¬ X5e ω.room ω.l ({ r with name:=(X42 r.kind ++ 45::X5d 16 d),made:=ω.now,used:=ω.now }:Rec)≠0 by simpa using hb60)]
 exact ⟨_,rfl,rfl,J,la2,lc2,ao,dc - 1,hJ,⟨hR2,(Xlp hx (by simpa using hao)).mono hJ |> fun h=>by simpa using h,by show D'.length≤dc - 1; omega⟩,((hS.pick 2 rfl).drop (k:=2) rfl)⟩
theorem Xfs {ps:List Int} {l:List Rec} {name:List UInt8} {now:Int} (h:get l name=none):X44 ps l name now=false:=by
 rcases Tr.get_at l name with ⟨h1,_⟩ | ⟨j,r,_,_,_,h2⟩
 ·unfold X44 path
  rw [h1,X6t l (by omega)]; rfl
 ·rw [h] at h2; cases h2
theorem Xj6 {ps:Nat→Int} {ω:Wd} {name:List UInt8} {kind:Int} (h:(((!(get ω.l name).isSome || !X44 (psL ps) ω.l name ω.now) || ((getD ω.l name).kind != kind)))=true):Xh ps ω name kind=(r0,false):=by
 unfold Xh
 rw [if_pos]
 cases hg:get ω.l name with
 | none=>rw [Xfs hg]; simp
 | some r=>rw [hg] at h; simp at h ⊢; rcases h with h | h <;> simp [h]
theorem Xia {ps:Nat→Int} {ω:Wd} {name:List UInt8} {kind:Int} (h:(((!(get ω.l name).isSome || !X44 (psL ps) ω.l name ω.now) || ((getD ω.l name).kind != kind)))=false):Xh ps ω name kind=(getD ω.l name,true):=by
 unfold Xh
 rw [if_neg]
 simp at h ⊢
 exact ⟨h.2,h.1.2⟩
theorem X2t (name:List UInt8) (kind:Int) (x:Xp) {lo:List Sv} {us:List Us} {ps:Nat→Int} (ω:Wd) (hω:X46 ω) (la:Option Addr) (lc:Nat) (da:Option Addr) (dc:Nat) (B w:World) (I:Im) (hX:XpOk I x lo us ps) (hM:RwM I la da dc ω) (As:List X8) (hS:Sat B w I (blk x.xb (XC x da ω.D.length dc ω.now) 83::blk x.tb [I64 ω.room,.slice la ω.l.length lc] 79::As)) :
  Calls Tryz.prog 54 [ptr x.xb 0,S name,I64 kind].toArray w (Ret fun v w'=>v=.tuple #[.agg (X7 (Xh ps ω name kind).1).toArray,.bool (Xh ps ω name kind).2]∧Sat B w' I (blk x.xb (XC x da ω.D.length dc ω.now) 83::blk x.tb [I64 ω.room,.slice la ω.l.length lc] 79::As)):=by
 obtain rfl:=hX.lo
 obtain rfl:=hX.us
 obtain rfl:=hX.ps
 refine calls Qf54 rfl Tryz.ntmps54 rfl (.seq (.region (.allocA (cs:=[_,_,_,_,_,_,_,_,_,_]) hS X5q rfl ?_)))
 clear hS; intro b6 w hS
 refine .q 1 rfl (.nil (.seq ?_))
 have hlen:=hω.len
 refine .t 2 rfl (WL.val (.fieldAddr 28 (.of rfl) X7f rfl rfl Xph rfl) rfl (WL.val (.ld (.of rfl) hS (k:=1) rfl Xpv rfl) rfl (.q 1 rfl (.call Tryz.func82 rfl (X0 (.of rfl) (X0 (.of rfl) X4)) rfl (Xak x.tb ω.room la lc ω.l (by omega) name B _ I hM.1 _ (hS.pick 2 rfl)) ?_))))
 clear hS
 rintro _ w ⟨rfl,hS⟩
 refine .q 3 rfl (.allocA (cs:=[_,_,_,_,_,_,_,_,_,_]) hS X5q rfl ?_)
 clear hS; intro b8 w hS
 refine WL.stA hS (k:=0) rfl (.of rfl) (.of rfl) rfl Xw rfl (by simp) ?_
 clear hS; intro w hS
 try simp only [Yl,Yf,Yc,Y9,Yj,Yo,Yd] at hS
 refine .q 1 rfl (.nil (.seq (.drawn (fun w=>∃ R,Sat B w I (blk x.xb (XC x da ω.D.length dc ω.now) 83::R)) (fun j=>!([].contains j)) (by kernel_rfl) ?_)))
 replace hS:=hS.drew; generalize w.drew=w at hS ⊢
 have hH:=(hS.pick 3 rfl)
 refine .tp (i:=0) rfl (by kernel_rfl) (fun w=>(.move (.of rfl))) rfl (.tp (i:=1) rfl (by kernel_rfl) (fun w=>(.nilCheck (.of rfl))) rfl ?_)
 refine WD.tp (i:=2) rfl (by kernel_rfl) (fun w=>(.fieldAddr 28 (.of rfl) X7f rfl rfl Xph rfl)) rfl (.tk (i:=3) rfl (by kernel_rfl) ⟨_,hH⟩ (fun w ⟨R,hS⟩=>(.ld (.of rfl) hS (k:=0) rfl Xpv rfl)) rfl (.tp (i:=4) rfl (by kernel_rfl) (fun w=>(.move (.of rfl))) rfl (.tp (i:=5) rfl (by kernel_rfl) (fun w=>(.nilCheck (.of rfl))) rfl ?_)))
 refine WD.tp (i:=6) rfl (by kernel_rfl) (fun w=>(.fieldAddr 0 (.of rfl) X7f rfl rfl Xij rfl)) rfl (WD.tp (i:=7) rfl (by kernel_rfl) (fun w=>(.fieldAddr 2 (.of rfl) Xdk rfl rfl Xim rfl)) rfl (.tk (i:=8) rfl (by kernel_rfl) ⟨_,hH⟩ (fun w ⟨R,hS⟩=>.lds (vs:=(psL x.c.ps).map I64) (.of rfl) hS (k:=0) rfl Xqn Xim rfl (fun j v hj=>x_pol hj)) rfl (.tp (i:=9) rfl (by kernel_rfl) (fun w=>(.move (.of rfl))) rfl (.tp (i:=10) rfl (by kernel_rfl) (fun w=>(.move (.of rfl))) rfl (.tp (i:=11) rfl (by kernel_rfl) (fun w=>(.nilCheck (.of rfl))) rfl ?_)))))
 refine WD.tp (i:=12) rfl (by kernel_rfl) (fun w=>(.fieldAddr 30 (.of rfl) X7f rfl rfl Qs3 rfl)) rfl (.tk (i:=13) rfl (by kernel_rfl) ⟨_,hH⟩ (fun w ⟨R,hS⟩=>(.ld (.of rfl) hS (k:=0) rfl Qg3 rfl)) rfl (WD.branch [14] (by kernel_rfl) rfl (WO.cons rfl ?_ (WO.nil))))
 refine .call Tryz.func105 rfl (X0 (.of rfl) (X0 (.of rfl) (X0 (.of rfl) (X0 (.of rfl) X4)))) rfl (Xaa x.tb ω.room la lc ω.l (by omega) hω.wf (psL x.c.ps) rfl (Xn4 hX.ok) name ω.now hω.now B _ I hM.1 _ (hS.pick 1 rfl)) ?_
 clear hS
 rintro _ w ⟨rfl,hS⟩
 refine .nil ?_
 clear hH
 have hH:=(hS.pick 3 rfl)
 refine And.intro (by intro _ _; exact ⟨_,hH⟩) ?_
 refine .tp (i:=15) rfl (by kernel_rfl) (fun w=>(.assign (.of rfl))) rfl (.done (by kernel_rfl) (.seq (.seq (.t 3 rfl (.gval rfl rfl (fun hg1=>(.move (.of rfl))) rfl (.gval rfl rfl (fun hg1=>(.not (.gd hg1 rfl))) rfl (.val (.por (.of rfl) (.of rfl) (.of rfl)) rfl (.q 1 rfl ?_))))))))
 refine WL.gval rfl rfl (fun hg1=>(by exact .fieldAddr 0 (.of rfl) X15 rfl rfl Qs3 rfl)) rfl ?_
 refine WL.gval rfl rfl (fun hg1=>(by exact (.ld (.gd hg1 rfl) hS (k:=1) rfl Qg3 rfl))) rfl ?_
 refine .gval rfl rfl (fun hg1=>(.move (.of rfl))) rfl (.gval rfl rfl (fun hg1=>(.neq (.gd hg1 rfl) (.gd hg1 rfl))) rfl (.val (.por (.of rfl) (.of rfl) (.of rfl)) rfl (.nil ?_)))
 refine WC.cond rfl (fun hb46=>?_) (fun hb46=>?_)
 ·
  refine .seq (.region (.val (.build (cs:=[_,_,_,_,_,_,_,_,_,_]) X6 X2e rfl) rfl ?_))
  refine WL.stA hS (k:=2) rfl (.of rfl) (.of rfl) rfl Xw rfl (by simp) ?_
  clear hS; intro w hS
  try simp only [Yl,Yf,Yc,Y9,Yj,Yo,Yd] at hS
  refine .q 1 rfl (.nil (.ret ?_))
  refine X1v (b:=_) (cs:=[_,_,_,_,_,_,_,_,_,_]) Tryz.results54 hS (k:=2) rfl X36 Xw rfl rfl rfl ?_
  rw [Xj6 hb46]
  exact ⟨_,rfl,rfl,(((hS.pick 3 rfl).drop (k:=2) rfl).drop (k:=2) rfl)⟩
 refine .skip (.seq (.region ?_))
 refine WL.val (.ldsW (cs:=[_,_,_,_,_,_,_,_,_,_]) (.of rfl) hS (k:=1) rfl X36 Xw rfl) rfl (WL.stA hS (k:=2) rfl (.of rfl) (.of rfl) rfl Xw rfl (by simp) ?_)
 clear hS; intro w hS
 try simp only [Yl,Yf,Yc,Y9,Yj,Yo,Yd] at hS
 refine .q 1 rfl (.nil (.ret ?_))
 refine X1v (b:=_) (cs:=[_,_,_,_,_,_,_,_,_,_]) Tryz.results54 hS (k:=2) rfl X36 Xw rfl rfl rfl ?_
 rw [Xia hb46]
 exact ⟨_,rfl,rfl,(((hS.pick 3 rfl).drop (k:=2) rfl).drop (k:=2) rfl)⟩
theorem Xdn (lt user pw:List UInt8) (x:Xp) {lo:List Sv} {us:List Us} {ps:Nat→Int} (ω:Wd) (hω:X46 ω) (la:Option Addr) (lc:Nat) (da:Option Addr) (dc:Nat) (B w:World) (I:Im) (hX:XpOk I x lo us ps) (hM:RwM I la da dc ω) (As:List X8) (hS:Sat B w I (blk x.xb (XC x da ω.D.length dc ω.now) 83::blk x.tb [I64 ω.room,.slice la ω.l.length lc] 79::As)) :
  Calls Tryz.prog 47 [ptr x.xb 0,S lt,S user,S pw].toArray w (Ret fun v w'=>v=.tuple #[S (Xq us ps ω lt user pw).1.1,I64 ((Xq us ps ω lt user pw).1.2:Nat)]∧∃ J la2 lc2 da2 dc2,Le I J∧RwM J la2 da2 dc2 (Xq us ps ω lt user pw).2∧Sat B w' J (blk x.xb (XC x da2 (Xq us ps ω lt user pw).2.D.length dc2 (Xq us ps ω lt user pw).2.now) 83::blk x.tb [I64 (Xq us ps ω lt user pw).2.room,.slice la2 (Xq us ps ω lt user pw).2.l.length lc2] 79::As)):=by
 obtain rfl:=hX.lo
 obtain rfl:=hX.us
 obtain rfl:=hX.ps
 refine calls Tryz.func47 rfl Tryz.ntmps47 rfl (.seq (.q 2 rfl (.seq (.t 2 rfl (.call Qf54 rfl (X0 (.of rfl) (X0 (.of rfl) (X0 (.of rfl) X4))) rfl (X2t lt 6 x ω hω la lc da dc B _ I hX hM _ ((hS.pick 1 rfl).pick 1 rfl)) ?_)))))
 clear hS
 rintro _ w ⟨rfl,hS⟩
 refine .q 3 rfl (.allocA (cs:=[_,_,_,_,_,_,_,_,_,_]) hS X5q rfl ?_)
 clear hS; intro b10 w hS
 refine WL.stA hS (k:=0) rfl (.of rfl) (.of rfl) rfl Xw rfl (by simp) ?_
 clear hS; intro w hS
 try simp only [Yl,Yf,Yc,Y9,Yj,Yo,Yd] at hS
 refine .q 1 rfl (.nil (.seq (.seq (.q 2 rfl ?_))))
 refine WC.cond rfl (fun hb22=>?_) (fun hb22=>?_)
 ·
  refine .seq (.q 2 rfl (.ret (X1m Qr47 rfl rfl ?_)))
  have hE:Xq x.c.us x.c.ps ω lt user pw=(([],38),ω):=by rw [Xq,if_pos (by simpa using hb22)]
  rw [hE]
  exact ⟨_,rfl,rfl,I,la,lc,da,dc,Le.refl _,hM,(((hS.pick 2 rfl).pick 2 rfl).drop (k:=2) rfl)⟩
 refine .skip (.seq ?_)
 have hlen:=hω.len
 refine .t 2 rfl (WL.val (.fieldAddr 0 (.of rfl) X7f rfl rfl Xij rfl) rfl (WL.val (.fieldAddr 1 (.of rfl) Xdk rfl rfl Qs28 rfl) rfl (WL.val (.ld (.of rfl) hS (k:=1) rfl Qg28 rfl) rfl (.q 2 rfl (.call Tryz.func44 rfl (X0 (.of rfl) (X0 (.of rfl) (X0 (.of rfl) X4))) rfl (Xbm x.ua x.ucap x.c.us hX.cf.un user pw B _ I hX.cf.us _ hS) ?_)))))
 clear hS
 rintro _ w ⟨rfl,hS⟩
 refine .q 1 rfl (.nil (.seq (.seq (.q 2 rfl ?_))))
 refine WC.cond rfl (fun hb32=>?_) (fun hb32=>?_)
 ·
  refine .seq (.t 2 rfl ?_)
  refine WL.val (.fieldAddr 28 (.of rfl) X7f rfl rfl Xph rfl) rfl (WL.val (.ld (.of rfl) hS (k:=1) rfl Xpv rfl) rfl (.q 1 rfl (.call Qf51 rfl (X0 (.of rfl) (X0 (.of rfl) X4)) rfl (X5x x.tb ω.room la lc ω.l (by omega) hω.wf lt B _ I hM.1 _ (hS.pick 2 rfl)) ?_)))
  clear hS
  rintro v9 w ⟨J,la3,lc3,hJ,hR3,hS⟩
  refine .nil (.seq (.q 2 rfl (.ret (X1m Qr47 rfl rfl ?_))))
  have hE:Xq x.c.us x.c.ps ω lt user pw=(([],37),X84 ω lt):=by rw [Xq,if_neg (by simpa using hb22),if_pos (by simpa using hb32)]
  rw [hE]
  exact ⟨_,rfl,rfl,J,la3,lc3,da,dc,hJ,⟨hR3,hM.2.1.mono hJ,hM.2.2⟩,((hS.pick 2 rfl).drop (k:=2) rfl)⟩
 refine .skip (.seq (.t 2 rfl (.val (.build (cs:=[_,_,_,_,_,_,_,_,_,_]) (X5 (.of rfl) (X5 (.of rfl) (X5 (.of rfl) X6))) X2e rfl) rfl (.call Qf46 rfl (X0 (.of rfl) (X0 (.of rfl) X4)) rfl (X3s (⟨1,[],[],user,[],[],0,0,0,true⟩:Rec) (by simp) x ω hω la lc da dc B _ I hX hM _ ((hS.pick 2 rfl).pick 2 rfl)) ?_))))
 clear hS
 rintro _ w ⟨rfl,J,la2,lc2,da2,dc2,hJ,hM2,hS⟩
 refine .q 5 rfl (.nil (.seq (.seq ?_)))
 have hω2:=X3b hω (⟨1,[],[],user,[],[],0,0,0,true⟩:Rec)
 have hlen2:=hω2.len
 refine .q 2 rfl (WC.cond rfl (fun hb47=>?_) (fun hb47=>?_))
 ·
  refine .seq (.q 3 rfl (.ret (X1m Qr47 rfl rfl ?_)))
  have hne:(mkW ω (⟨1,[],[],user,[],[],0,0,0,true⟩:Rec)).1.2≠0:=by simpa using hb47
  have hE:Xq x.c.us x.c.ps ω lt user pw=(([],(mkW ω (⟨1,[],[],user,[],[],0,0,0,true⟩:Rec)).1.2),(mkW ω (⟨1,[],[],user,[],[],0,0,0,true⟩:Rec)).2):=by
   rw [Xq,if_neg (by simpa using hb22),if_neg (by simpa using hb32),if_neg hne]
   exact Prod.ext (Prod.ext (Xs5 hne).2.2.2 rfl) rfl
  rw [hE]
  exact ⟨_,rfl,rfl,J,la2,lc2,da2,dc2,hJ,hM2,(((hS.pick 1 rfl).pick 1 rfl).drop (k:=2) rfl)⟩
 refine .skip (.seq (.t 2 rfl ?_))
 refine WL.val (.fieldAddr 28 (.of rfl) X7f rfl rfl Xph rfl) rfl (WL.val (.ld (.of rfl) hS (k:=0) rfl Xpv rfl) rfl (.q 1 rfl (.call Qf51 rfl (X0 (.of rfl) (X0 (.of rfl) X4)) rfl (X5x x.tb (mkW ω (⟨1,[],[],user,[],[],0,0,0,true⟩:Rec)).2.room la2 lc2 (mkW ω (⟨1,[],[],user,[],[],0,0,0,true⟩:Rec)).2.l (by omega) hω2.wf lt B _ J hM2.1 _ (hS.pick 1 rfl)) ?_)))
 clear hS
 rintro v9 w ⟨J3,la3,lc3,hJ3,hR3,hS⟩
 refine .nil (.seq (.q 3 rfl (.ret (X1m Qr47 rfl rfl ?_))))
 have hz:(mkW ω (⟨1,[],[],user,[],[],0,0,0,true⟩:Rec)).1.2=0:=by simpa using hb47
 have hE:Xq x.c.us x.c.ps ω lt user pw=(((mkW ω (⟨1,[],[],user,[],[],0,0,0,true⟩:Rec)).1.1,0),X84 (mkW ω (⟨1,[],[],user,[],[],0,0,0,true⟩:Rec)).2 lt):=by
  rw [Xq,if_neg (by simpa using hb22),if_neg (by simpa using hb32),if_pos hz]
  exact Prod.ext (Prod.ext rfl hz) rfl
 rw [hE]
 exact ⟨_,rfl,rfl,J3,la3,lc3,da2,dc2,hJ.trans hJ3,⟨hR3,hM2.2.1.mono hJ3,hM2.2.2⟩,((hS.pick 1 rfl).drop (k:=2) rfl)⟩
theorem Xc8 (q:Ak) (hqs:q.service.length≤1000000) (x:Xp) {lo:List Sv} {us:List Us} {ps:Nat→Int} (ω:Wd) (hω:X46 ω) (la:Option Addr) (lc:Nat) (da:Option Addr) (dc:Nat) (B w:World) (I:Im) (hX:XpOk I x lo us ps) (hM:RwM I la da dc ω) (As:List X8) (hS:Sat B w I (blk x.xb (XC x da ω.D.length dc ω.now) 83::blk x.tb [I64 ω.room,.slice la ω.l.length lc] 79::As)) :
  Calls Tryz.prog 53 [ptr x.xb 0,.agg (X9n q).toArray].toArray w (Ret fun v w'=>v=I64 ((Xn lo ps ω q:Nat):Int)∧Sat B w' I (blk x.xb (XC x da ω.D.length dc ω.now) 83::blk x.tb [I64 ω.room,.slice la ω.l.length lc] 79::As)):=by
 obtain rfl:=hX.lo
 obtain rfl:=hX.us
 obtain rfl:=hX.ps
 refine calls Tryz.func53 rfl Tryz.ntmps53 rfl (.seq (.region (.boxA (cs:=[_,_,_,_,_,_]) hS (.of rfl) rfl ?_)))
 clear hS; intro b3 w hS
 refine .q 1 rfl (.nil (.seq (.t 1 rfl ?_)))
 refine WL.val (.fieldAddr 1 (.of rfl) Xb9 rfl rfl Qs9 rfl) rfl (WL.val (.ld (.of rfl) hS (k:=0) rfl Qg9 rfl) rfl (.call Qf54 rfl (X0 (.of rfl) (X0 (.of rfl) (X0 (.of rfl) X4))) rfl (X2t q.cookie 1 x ω hω la lc da dc B _ I hX hM _ ((hS.pick 2 rfl).pick 2 rfl)) ?_))
 clear hS
 rintro _ w ⟨rfl,hS⟩
 try dsimp only [List.eraseIdx] at hS
 refine .q 3 rfl (.allocA (cs:=[_,_,_,_,_,_,_,_,_,_]) hS X5q rfl ?_)
 clear hS; intro b5 w hS
 refine WL.stA hS (k:=0) rfl (.of rfl) (.of rfl) rfl Xw rfl (by simp) ?_
 clear hS; intro w hS
 try simp only [Yl,Yf,Yc,Y9,Yj,Yo,Yd] at hS
 refine .q 1 rfl (.nil ?_)
 refine WC.cutS (σ:=Nat×Option Addr×Nat) (fun ⟨b7,ra,rc⟩=>[(0,ptr x.xb 0),(3,ptr b3 0),(6,.bool (Xh x.c.ps ω q.cookie 1).2),(7,ptr b7 0),(9,I64 (((Xt (xlo x) q.service).2.2:Nat):Int))]) (fun ⟨b7,ra,rc⟩ w=>Sat B w I (blk b7 [I64 (Xt (xlo x) q.service).1.id,F64 (Xt (xlo x) q.service).1.ord,S (Xt (xlo x) q.service).1.urls,.bool (Xt (xlo x) q.service).1.login,.bool (Xt (xlo x) q.service).1.proxy,.bool (Xt (xlo x) q.service).1.back,S (Xt (xlo x) q.service).1.calls,.slice ra (Xt (xlo x) q.service).1.rel.length rc] 101::blk b3 [S q.service,S q.cookie,.bool q.has,.bool q.renew,.bool q.gateway,.bool q.warn] 95::blk x.xb (XC x da ω.D.length dc ω.now) 83::blk x.tb [I64 ω.room,.slice la ω.l.length lc] 79::As)) ?_ ?_
 ·
  refine .drawn (fun w=>∃ R,Sat B w I (blk b3 [S q.service,S q.cookie,.bool q.has,.bool q.renew,.bool q.gateway,.bool q.warn] 95::blk x.xb (XC x da ω.D.length dc ω.now) 83::R)) (fun j=>!([].contains j)) (by kernel_rfl) ?_
  replace hS:=hS.drew; generalize w.drew=w at hS ⊢
  have hH:=((hS.pick 1 rfl).pick 3 rfl)
  refine .tp (i:=0) rfl (by kernel_rfl) (fun w=>(.move (.of rfl))) rfl (.tp (i:=1) rfl (by kernel_rfl) (fun w=>(.nilCheck (.of rfl))) rfl ?_)
  refine WD.tp (i:=2) rfl (by kernel_rfl) (fun w=>(.fieldAddr 0 (.of rfl) X7f rfl rfl Xij rfl)) rfl (WD.tp (i:=3) rfl (by kernel_rfl) (fun w=>(.fieldAddr 0 (.of rfl) Xdk rfl rfl Qs27 rfl)) rfl (WD.tk (i:=4) rfl (by kernel_rfl) ⟨_,hH⟩ (fun w ⟨R,hS⟩=>((.ld (.of rfl) hS (k:=1) rfl Qg27 rfl))) rfl (WD.tp (i:=5) rfl (by kernel_rfl) (fun w=>(.fieldAddr 0 (.of rfl) Xb9 rfl rfl Qs9 rfl)) rfl (WD.tk (i:=6) rfl (by kernel_rfl) ⟨_,hH⟩ (fun w ⟨R,hS⟩=>((.ld (.of rfl) hS (k:=0) rfl Qg9 rfl))) rfl (WD.branch [7,12] (by kernel_rfl) rfl (WO.cons rfl ?_ (WO.cons rfl ?_ (WO.nil))))))))
  ·
   refine .call Qf77 rfl (X0 (.of rfl) (X0 (.of rfl) X4)) rfl (X4h q.service hqs x B _ I hX _ hS) ?_
   clear hS
   rintro _ w ⟨ra,rc,rfl,hS⟩
   refine .nil ?_
   clear hH
   have hH:=((hS.pick 1 rfl).pick 3 rfl)
   refine And.intro (by intro _ _; exact ⟨_,hH⟩) ?_
   refine .tp (i:=8) rfl (by kernel_rfl) (fun w=>(.move (.of rfl))) rfl (.tp (i:=9) rfl (by kernel_rfl) (fun w=>(.extract (.of rfl) rfl)) rfl (.tp (i:=10) rfl (by kernel_rfl) (fun w=>(.extract (.of rfl) rfl)) rfl (.tp (i:=11) rfl (by kernel_rfl) (fun w=>(.extract (.of rfl) rfl)) rfl ?_)))
   refine WD.branch [12] (by kernel_rfl) rfl (WO.cons rfl ?_ (WO.nil))
   refine .allocA (cs:=[_,_,_,_,_,_,_,_]) hS X7d rfl ?_
   clear hS; intro b7 w hS
   refine .nil ?_
   clear hH
   have hH:=((hS.pick 2 rfl).pick 4 rfl)
   refine And.intro (by intro _ _; exact ⟨_,hH⟩) ?_
   refine WD.branch [13] (by kernel_rfl) rfl (WO.cons rfl ?_ (WO.nil))
   refine WL.stA hS (k:=0) rfl (.of rfl) (.of rfl) rfl Xy rfl (by simp) ?_
   clear hS; intro w hS
   try simp only [Yl,Yf,Yc,Y9,Yj,Yo,Yd] at hS
   refine .nil ?_
   clear hH
   have hH:=((hS.pick 2 rfl).pick 4 rfl)
   refine And.intro (by intro _ _; exact ⟨_,hH⟩) ?_
   refine .tp (i:=14) rfl (by kernel_rfl) (fun w=>(.assign (.of rfl))) rfl (.tp (i:=15) rfl (by kernel_rfl) (fun w=>(.assign (.of rfl))) rfl (.done (by kernel_rfl) ?_))
   exact ⟨(b7,ra,rc),⟨rfl,rfl,rfl,rfl,rfl,trivial⟩,(((((hS.pick 3 rfl).pick 3 rfl).pick 4 rfl).pick 3 rfl).drop (k:=4) rfl)⟩
  ·
   refine .allocA (cs:=[_,_,_,_,_,_,_,_]) hS X7d rfl ?_
   clear hS; intro b7 w hS
   refine .nil ?_
   clear hH
   have hH:=((hS.pick 2 rfl).pick 4 rfl)
   refine And.intro (by intro _ _; exact ⟨_,hH⟩) ?_
   refine WD.branch [7] (by kernel_rfl) rfl (WO.cons rfl ?_ (WO.nil))
   refine .call Qf77 rfl (X0 (.of rfl) (X0 (.of rfl) X4)) rfl (X4h q.service hqs x B _ I hX _ hS) ?_
   clear hS
   rintro _ w ⟨ra,rc,rfl,hS⟩
   refine .nil ?_
   clear hH
   have hH:=((hS.pick 2 rfl).pick 4 rfl)
   refine And.intro (by intro _ _; exact ⟨_,hH⟩) ?_
   refine .tp (i:=8) rfl (by kernel_rfl) (fun w=>(.move (.of rfl))) rfl (.tp (i:=9) rfl (by kernel_rfl) (fun w=>(.extract (.of rfl) rfl)) rfl (.tp (i:=10) rfl (by kernel_rfl) (fun w=>(.extract (.of rfl) rfl)) rfl (.tp (i:=11) rfl (by kernel_rfl) (fun w=>(.extract (.of rfl) rfl)) rfl ?_)))
   refine WD.branch [13] (by kernel_rfl) rfl (WO.cons rfl ?_ (WO.nil))
   refine WL.stA hS (k:=0) rfl (.of rfl) (.of rfl) rfl Xy rfl (by simp) ?_
   clear hS; intro w hS
   try simp only [Yl,Yf,Yc,Y9,Yj,Yo,Yd] at hS
   refine .nil ?_
   clear hH
   have hH:=((hS.pick 2 rfl).pick 4 rfl)
   refine And.intro (by intro _ _; exact ⟨_,hH⟩) ?_
   refine .tp (i:=14) rfl (by kernel_rfl) (fun w=>(.assign (.of rfl))) rfl (.tp (i:=15) rfl (by kernel_rfl) (fun w=>(.assign (.of rfl))) rfl (.done (by kernel_rfl) ?_))
   exact ⟨(b7,ra,rc),⟨rfl,rfl,rfl,rfl,rfl,trivial⟩,(((((hS.pick 3 rfl).pick 3 rfl).pick 4 rfl).pick 3 rfl).drop (k:=4) rfl)⟩
 rintro ⟨b7,ra,rc⟩ w hS
 refine .seq (.seq (.region ?_))
 refine WL.val (.fieldAddr 2 (.of rfl) Xb9 rfl rfl Qs4 rfl) rfl (WL.val (.ld (.of rfl) hS (k:=1) rfl Qg4 rfl) rfl (.q 1 rfl (.gval rfl rfl (fun hg1=>(.move (.of rfl))) rfl (.gval rfl rfl (fun hg1=>(.neq (.gd hg1 rfl) (.of rfl))) rfl (.val (.pand (.of rfl) (.of rfl) (.of rfl)) rfl (.nil ?_))))))
 refine WC.cond rfl (fun hb34=>?_) (fun hb34=>?_)
 ·
  have hc34:=hb34; try simp only [Y6] at hc34
  refine .seq (.q 1 rfl (.ret (X9 Xpo rfl ?_)))
  clear hc34
  refine ⟨_,rfl,congrArg (fun n:Nat=>I64 (n:Int)) (show (6:Nat)=Xn (xlo x) x.c.ps ω q from ?_),((((hS.pick 3 rfl).pick 3 rfl).drop (k:=2) rfl).drop (k:=2) rfl)⟩
  clear hS
  unfold Xn
  revert hb34
  generalize (Xh x.c.ps ω q.cookie 1).2=al
  generalize (Xt (xlo x) q.service).1.login=lg
  generalize (Xt (xlo x) q.service).2.2=e
  rcases q with ⟨qs,qc,x1,x2,x3,x4⟩
  dsimp only
  cases al <;> cases lg <;> cases x1 <;> cases x2 <;> cases x3 <;> cases x4 <;> simp
 have hc34:=hb34; try simp only [Y6] at hc34
 refine .skip (.seq (.seq (.region ?_)))
 refine WL.val (.fieldAddr 2 (.of rfl) Xb9 rfl rfl Qs4 rfl) rfl (WL.val (.ld (.of rfl) hS (k:=1) rfl Qg4 rfl) rfl (.q 1 rfl (.nil ?_)))
 refine WC.cond rfl (fun hb37=>?_) (fun hb37=>?_)
 ·
  have hc37:=hb37; try simp only [Y6] at hc37
  refine .seq (.seq (.q 1 rfl ?_))
  refine WC.cond rfl (fun hb38=>?_) (fun hb38=>?_)
  ·
   have hc38:=hb38; try simp only [Y6] at hc38
   refine .seq (.q 1 rfl (.ret (X9 Xpo rfl ?_)))
   clear hc34 hc37 hc38
   refine ⟨_,rfl,congrArg (fun n:Nat=>I64 (n:Int)) (show (5:Nat)=Xn (xlo x) x.c.ps ω q from ?_),((((hS.pick 3 rfl).pick 3 rfl).drop (k:=2) rfl).drop (k:=2) rfl)⟩
   clear hS
   unfold Xn
   revert hb34 hb37 hb38
   generalize (Xh x.c.ps ω q.cookie 1).2=al
   generalize (Xt (xlo x) q.service).1.login=lg
   generalize (Xt (xlo x) q.service).2.2=e
   rcases q with ⟨qs,qc,x1,x2,x3,x4⟩
   dsimp only
   cases al <;> cases lg <;> cases x1 <;> cases x2 <;> cases x3 <;> cases x4 <;> simp
  have hc38:=hb38; try simp only [Y6] at hc38
  refine .skip (.seq (.q 1 rfl (.ret (X9 Xpo rfl ?_))))
  clear hc34 hc37 hc38
  refine ⟨_,rfl,congrArg (fun n:Nat=>I64 (n:Int)) (show (1:Nat)=Xn (xlo x) x.c.ps ω q from ?_),((((hS.pick 3 rfl).pick 3 rfl).drop (k:=2) rfl).drop (k:=2) rfl)⟩
  clear hS
  unfold Xn
  revert hb34 hb37 hb38
  generalize (Xh x.c.ps ω q.cookie 1).2=al
  generalize (Xt (xlo x) q.service).1.login=lg
  generalize (Xt (xlo x) q.service).2.2=e
  rcases q with ⟨qs,qc,x1,x2,x3,x4⟩
  dsimp only
  cases al <;> cases lg <;> cases x1 <;> cases x2 <;> cases x3 <;> cases x4 <;> simp
 have hc37:=hb37; try simp only [Y6] at hc37
 refine .skip (.seq (.seq (.region ?_)))
 refine WL.val (.fieldAddr 3 (.of rfl) Xb9 rfl rfl Qs4 rfl) rfl (WL.val (.ld (.of rfl) hS (k:=1) rfl Qg4 rfl) rfl (.nil (WC.cond rfl (fun hb40=>?_) (fun hb40=>?_))))
 ·
  have hc40:=hb40; try simp only [Y6] at hc40
  refine .seq (.q 1 rfl (.ret (X9 Xpo rfl ?_)))
  clear hc34 hc37 hc40
  refine ⟨_,rfl,congrArg (fun n:Nat=>I64 (n:Int)) (show (1:Nat)=Xn (xlo x) x.c.ps ω q from ?_),((((hS.pick 3 rfl).pick 3 rfl).drop (k:=2) rfl).drop (k:=2) rfl)⟩
  clear hS
  unfold Xn
  revert hb34 hb37 hb40
  generalize (Xh x.c.ps ω q.cookie 1).2=al
  generalize (Xt (xlo x) q.service).1.login=lg
  generalize (Xt (xlo x) q.service).2.2=e
  rcases q with ⟨qs,qc,x1,x2,x3,x4⟩
  dsimp only
  cases al <;> cases lg <;> cases x1 <;> cases x2 <;> cases x3 <;> cases x4 <;> simp
 have hc40:=hb40; try simp only [Y6] at hc40
 refine .skip (.seq (.seq (.t 2 rfl ?_)))
 refine WL.gval rfl rfl (fun hg1=>(by exact .fieldAddr 3 (.of rfl) X1t rfl rfl Qs4 rfl)) rfl ?_
 refine WL.gval rfl rfl (fun hg1=>(by exact (.ld (.gd hg1 rfl) hS (k:=0) rfl Qg4 rfl))) rfl ?_
 refine .val (.pand (.of rfl) (.of rfl) (.of rfl)) rfl (.nil ?_)
 refine WC.cond rfl (fun hb45=>?_) (fun hb45=>?_)
 ·
  have hc45:=hb45; try simp only [Y6] at hc45
  refine .seq (.seq (.region ?_))
  refine WL.val (.fieldAddr 5 (.of rfl) Xb9 rfl rfl Qs4 rfl) rfl (WL.val (.ld (.of rfl) hS (k:=1) rfl Qg4 rfl) rfl (.nil (WC.cond rfl (fun hb47=>?_) (fun hb47=>?_))))
  ·
   have hc47:=hb47; try simp only [Y6] at hc47
   refine .seq (.q 1 rfl (.ret (X9 Xpo rfl ?_)))
   clear hc34 hc37 hc40 hc45 hc47
   refine ⟨_,rfl,congrArg (fun n:Nat=>I64 (n:Int)) (show (4:Nat)=Xn (xlo x) x.c.ps ω q from ?_),((((hS.pick 3 rfl).pick 3 rfl).drop (k:=2) rfl).drop (k:=2) rfl)⟩
   clear hS
   unfold Xn
   revert hb34 hb37 hb40 hb45 hb47
   generalize (Xh x.c.ps ω q.cookie 1).2=al
   generalize (Xt (xlo x) q.service).1.login=lg
   generalize (Xt (xlo x) q.service).2.2=e
   rcases q with ⟨qs,qc,x1,x2,x3,x4⟩
   dsimp only
   cases al <;> cases lg <;> cases x1 <;> cases x2 <;> cases x3 <;> cases x4 <;> simp
  have hc47:=hb47; try simp only [Y6] at hc47
  refine .skip (.seq (.q 1 rfl (.ret (X9 Xpo rfl ?_))))
  clear hc34 hc37 hc40 hc45 hc47
  refine ⟨_,rfl,congrArg (fun n:Nat=>I64 (n:Int)) (show (2:Nat)=Xn (xlo x) x.c.ps ω q from ?_),((((hS.pick 3 rfl).pick 3 rfl).drop (k:=2) rfl).drop (k:=2) rfl)⟩
  clear hS
  unfold Xn
  revert hb34 hb37 hb40 hb45 hb47
  generalize (Xh x.c.ps ω q.cookie 1).2=al
  generalize (Xt (xlo x) q.service).1.login=lg
  generalize (Xt (xlo x) q.service).2.2=e
  rcases q with ⟨qs,qc,x1,x2,x3,x4⟩
  dsimp only
  cases al <;> cases lg <;> cases x1 <;> cases x2 <;> cases x3 <;> cases x4 <;> simp
 have hc45:=hb45; try simp only [Y6] at hc45
 refine .skip (.seq (.seq (.region ?_)))
 refine WL.val (.fieldAddr 4 (.of rfl) Xb9 rfl rfl Qs4 rfl) rfl (WL.val (.ld (.of rfl) hS (k:=1) rfl Qg4 rfl) rfl (.nil (WC.cond rfl (fun hb49=>?_) (fun hb49=>?_))))
 ·
  have hc49:=hb49; try simp only [Y6] at hc49
  refine .seq (.q 1 rfl (.ret (X9 Xpo rfl ?_)))
  clear hc34 hc37 hc40 hc45 hc49
  refine ⟨_,rfl,congrArg (fun n:Nat=>I64 (n:Int)) (show (3:Nat)=Xn (xlo x) x.c.ps ω q from ?_),((((hS.pick 3 rfl).pick 3 rfl).drop (k:=2) rfl).drop (k:=2) rfl)⟩
  clear hS
  unfold Xn
  revert hb34 hb37 hb40 hb45 hb49
  generalize (Xh x.c.ps ω q.cookie 1).2=al
  generalize (Xt (xlo x) q.service).1.login=lg
  generalize (Xt (xlo x) q.service).2.2=e
  rcases q with ⟨qs,qc,x1,x2,x3,x4⟩
  dsimp only
  cases al <;> cases lg <;> cases x1 <;> cases x2 <;> cases x3 <;> cases x4 <;> simp
 have hc49:=hb49; try simp only [Y6] at hc49
 refine .skip (.seq (.q 1 rfl (.ret (X9 Xpo rfl ?_))))
 clear hc34 hc37 hc40 hc45 hc49
 refine ⟨_,rfl,congrArg (fun n:Nat=>I64 (n:Int)) (show (1:Nat)=Xn (xlo x) x.c.ps ω q from ?_),((((hS.pick 3 rfl).pick 3 rfl).drop (k:=2) rfl).drop (k:=2) rfl)⟩
 clear hS
 unfold Xn
 revert hb34 hb37 hb40 hb45 hb49
 generalize (Xh x.c.ps ω q.cookie 1).2=al
 generalize (Xt (xlo x) q.service).1.login=lg
 generalize (Xt (xlo x) q.service).2.2=e
 rcases q with ⟨qs,qc,x1,x2,x3,x4⟩
 dsimp only
 cases al <;> cases lg <;> cases x1 <;> cases x2 <;> cases x3 <;> cases x4 <;> simp
theorem Xdd (tgt service:List UInt8) (fresh:Bool) (htg:tgt.length≤1000000) (hqs:service.length≤1000000) (x:Xp) {lo:List Sv} {us:List Us} {ps:Nat→Int} (ω:Wd) (hω:X46 ω) (la:Option Addr) (lc:Nat) (da:Option Addr) (dc:Nat) (B w:World) (I:Im) (hX:XpOk I x lo us ps) (hM:RwM I la da dc ω) (As:List X8) (hS:Sat B w I (blk x.xb (XC x da ω.D.length dc ω.now) 83::blk x.tb [I64 ω.room,.slice la ω.l.length lc] 79::As)) :
  Calls Tryz.prog 48 [ptr x.xb 0,S tgt,S service,.bool fresh].toArray w (Ret fun v w'=>v=.tuple #[S (Xu lo ps ω tgt service fresh).1.1.1,S (Xu lo ps ω tgt service fresh).1.1.2,I64 ((Xu lo ps ω tgt service fresh).1.2:Nat)]∧∃ J la2 lc2 da2 dc2,Le I J∧RwM J la2 da2 dc2 (Xu lo ps ω tgt service fresh).2∧Sat B w' J (blk x.xb (XC x da2 (Xu lo ps ω tgt service fresh).2.D.length dc2 (Xu lo ps ω tgt service fresh).2.now) 83::blk x.tb [I64 (Xu lo ps ω tgt service fresh).2.room,.slice la2 (Xu lo ps ω tgt service fresh).2.l.length lc2] 79::As)):=by
 obtain rfl:=hX.lo
 obtain rfl:=hX.us
 obtain rfl:=hX.ps
 refine calls Tryz.func48 rfl Tryz.ntmps48 rfl (.seq (.q 3 rfl (.seq (.t 2 rfl (.call Qf54 rfl (X0 (.of rfl) (X0 (.of rfl) (X0 (.of rfl) X4))) rfl (X2t tgt 1 x ω hω la lc da dc B _ I hX hM _ ((hS.pick 1 rfl).pick 1 rfl)) ?_)))))
 clear hS
 rintro _ w ⟨rfl,hS⟩
 try dsimp only [List.eraseIdx] at hS
 refine .q 3 rfl (.allocA (cs:=[_,_,_,_,_,_,_,_,_,_]) hS X5q rfl ?_)
 clear hS; intro b11 w hS
 refine WL.stA hS (k:=0) rfl (.of rfl) (.of rfl) rfl Xw rfl (by simp) ?_
 clear hS; intro w hS
 try simp only [Yl,Yf,Yc,Y9,Yj,Yo,Yd] at hS
 refine .q 1 rfl (.nil (.seq (.seq (.q 2 rfl ?_))))
 refine WC.cond rfl (fun hb25=>?_) (fun hb25=>?_)
 ·
  have hc25:=hb25; try simp only [Y6] at hc25
  refine .seq (.q 3 rfl (.ret (X6r Qr48 rfl rfl rfl ?_)))
  have hE:Xu (xlo x) x.c.ps ω tgt service fresh=((([],[]),30),ω):=by rw [Xu,if_pos (by simpa using hb25)]
  rw [hE]
  exact ⟨_,rfl,rfl,I,la,lc,da,dc,Le.refl _,hM,(((hS.pick 2 rfl).pick 2 rfl).drop (k:=2) rfl)⟩
 have hc25:=hb25; try simp only [Y6] at hc25
 refine .skip (.seq ?_)
 have hlen:=hω.len
 refine .t 2 rfl (WL.val (.fieldAddr 0 (.of rfl) X7f rfl rfl Xij rfl) rfl (WL.val (.fieldAddr 0 (.of rfl) Xdk rfl rfl Qs27 rfl) rfl (WL.val (.ld (.of rfl) hS (k:=1) rfl Qg27 rfl) rfl (.q 1 rfl (.call Qf77 rfl (X0 (.of rfl) (X0 (.of rfl) X4)) rfl (X4h service hqs x B _ I hX _ hS) ?_)))))
 clear hS
 rintro _ w ⟨ra,rc,rfl,hS⟩
 refine .q 4 rfl (.allocA (cs:=[_,_,_,_,_,_,_,_]) hS X7d rfl ?_)
 clear hS; intro b13 w hS
 refine WL.stA hS (k:=0) rfl (.of rfl) (.of rfl) rfl Xy rfl (by simp) ?_
 clear hS; intro w hS
 try simp only [Yl,Yf,Yc,Y9,Yj,Yo,Yd] at hS
 refine .q 2 rfl (.nil (.seq (.seq (.q 2 rfl ?_))))
 refine WC.cond rfl (fun hb38=>?_) (fun hb38=>?_)
 ·
  have hc38:=hb38; try simp only [Y6] at hc38
  refine .seq (.q 3 rfl (.ret (X6r Qr48 rfl rfl rfl ?_)))
  have hE:Xu (xlo x) x.c.ps ω tgt service fresh=((([],[]),31),ω):=by rw [Xu,if_neg (by rw [show (Xh x.c.ps ω tgt 1).2=true from by simpa using hb25]; decide),if_pos (by simpa using hb38)]
  rw [hE]
  exact ⟨_,rfl,rfl,I,la,lc,da,dc,Le.refl _,hM,((((hS.pick 3 rfl).pick 3 rfl).drop (k:=2) rfl).drop (k:=2) rfl)⟩
 have hc38:=hb38; try simp only [Y6] at hc38
 refine .skip (.seq (.seq (.t 3 rfl ?_)))
 refine WL.gval rfl rfl (fun hg1=>(by exact .fieldAddr 3 (.of rfl) X1t rfl rfl Qs4 rfl)) rfl ?_
 refine WL.gval rfl rfl (fun hg1=>(by exact (.ld (.gd hg1 rfl) hS (k:=0) rfl Qg4 rfl))) rfl ?_
 refine .gval rfl rfl (fun hg1=>(.not (.gd hg1 rfl))) rfl (.val (.pand (.of rfl) (.of rfl) (.of rfl)) rfl (.nil ?_))
 refine WC.cond rfl (fun hb45=>?_) (fun hb45=>?_)
 ·
  have hc45:=hb45; try simp only [Y6] at hc45
  refine .seq (.q 3 rfl (.ret (X6r Qr48 rfl rfl rfl ?_)))
  have hE:Xu (xlo x) x.c.ps ω tgt service fresh=((([],[]),36),ω):=by rw [Xu,if_neg (by rw [show (Xh x.c.ps ω tgt 1).2=true from by simpa using hb25]; decide),if_neg (by simpa using hb38),if_pos hb45]
  rw [hE]
  exact ⟨_,rfl,rfl,I,la,lc,da,dc,Le.refl _,hM,((((hS.pick 3 rfl).pick 3 rfl).drop (k:=2) rfl).drop (k:=2) rfl)⟩
 have hc45:=hb45; try simp only [Y6] at hc45
 refine .skip (.seq (.t 2 rfl ?_))
 refine WL.val (.fieldAddr 3 (.of rfl) X15 rfl rfl Qs9 rfl) rfl (WL.val (.ld (.of rfl) hS (k:=1) rfl Qg9 rfl) rfl (.q 2 rfl (.val (.build (cs:=[_,_,_,_,_,_,_,_,_,_]) (X5 (.of rfl) (X5 (.of rfl) (X5 (.of rfl) (X5 (.of rfl) (X5 (.of rfl) X6))))) X2e rfl) rfl (.call Qf46 rfl (X0 (.of rfl) (X0 (.of rfl) X4)) rfl (X3s (Xm (xlo x) x.c.ps ω tgt service fresh) htg x ω hω la lc da dc B _ I hX hM _ ((hS.pick 3 rfl).pick 3 rfl)) ?_))))
 clear hS
 rintro _ w ⟨rfl,J,la2,lc2,da2,dc2,hJ,hM2,hS⟩
 try dsimp only [List.eraseIdx] at hS
 refine .q 5 rfl (.nil (.seq (.seq ?_)))
 have hω2:=X3b hω (Xm (xlo x) x.c.ps ω tgt service fresh)
 have hlen2:=hω2.len
 have hsh:=X80 (ps:=x.c.ps) hω tgt 1
 refine .q 2 rfl (WC.cond rfl (fun hb58=>?_) (fun hb58=>?_))
 ·
  have hc58:=hb58; try simp only [Y6] at hc58
  refine .seq (.q 4 rfl (.ret (X6r Qr48 rfl rfl rfl ?_)))
  have hE:Xu (xlo x) x.c.ps ω tgt service fresh=((([],[]),(mkW ω (Xm (xlo x) x.c.ps ω tgt service fresh)).1.2),(mkW ω (Xm (xlo x) x.c.ps ω tgt service fresh)).2):=by rw [Xu,if_neg (by rw [show (Xh x.c.ps ω tgt 1).2=true from by simpa using hb25]; decide),if_neg (by simpa using hb38),if_neg (by rw [hb45]; decide),if_pos (by simpa using hb58)]
  rw [hE]
  exact ⟨_,rfl,rfl,J,la2,lc2,da2,dc2,hJ,hM2,((((hS.pick 1 rfl).pick 1 rfl).drop (k:=2) rfl).drop (k:=2) rfl)⟩
 have hc58:=hb58; try simp only [Y6] at hc58
 refine .skip (.seq (.drawn (fun w=>∃ J9 R,Le J J9∧Sat B w J9 (blk b11 (X7 (Xh x.c.ps ω tgt 1).1) 45::blk x.xb (XC x da2 (mkW ω (Xm (xlo x) x.c.ps ω tgt service fresh)).2.D.length dc2 (mkW ω (Xm (xlo x) x.c.ps ω tgt service fresh)).2.now) 83::R)) (fun j=>!([].contains j)) (by kernel_rfl) ?_))
 replace hS:=hS.drew; generalize w.drew=w at hS ⊢
 have hH:∃ J9 R,Le J J9∧Sat B w J9 (blk b11 (X7 (Xh x.c.ps ω tgt 1).1) 45::blk x.xb (XC x da2 (mkW ω (Xm (xlo x) x.c.ps ω tgt service fresh)).2.D.length dc2 (mkW ω (Xm (xlo x) x.c.ps ω tgt service fresh)).2.now) 83::R):=⟨_,_,Le.refl _,((hS.pick 0 rfl).pick 3 rfl)⟩
 refine .tp (i:=0) rfl (by kernel_rfl) (fun w=>(.move (.of rfl))) rfl (.tp (i:=1) rfl (by kernel_rfl) (fun w=>(.nilCheck (.of rfl))) rfl ?_)
 refine WD.tp (i:=2) rfl (by kernel_rfl) (fun w=>(.fieldAddr 28 (.of rfl) X7f rfl rfl Xph rfl)) rfl (WD.tk (i:=3) rfl (by kernel_rfl) hH (fun w ⟨J9,R,hL9,hS⟩=>((.ld (.of rfl) hS (k:=1) rfl Xpv rfl))) rfl (WD.tk (i:=4) rfl (by kernel_rfl) hH (fun w ⟨J9,R,hL9,hS⟩=>((.ldsW (cs:=[_,_,_,_,_,_,_,_,_,_]) (.of rfl) hS (k:=0) rfl X36 Xw rfl))) rfl (.tp (i:=5) rfl (by kernel_rfl) (fun w=>(.move (.of rfl))) rfl (.tp (i:=6) rfl (by kernel_rfl) (fun w=>(.nilCheck (.of rfl))) rfl ?_))))
 refine WD.tp (i:=7) rfl (by kernel_rfl) (fun w=>(.fieldAddr 30 (.of rfl) X7f rfl rfl Qs3 rfl)) rfl (WD.tk (i:=8) rfl (by kernel_rfl) hH (fun w ⟨J9,R,hL9,hS⟩=>((.ld (.of rfl) hS (k:=1) rfl Qg3 rfl))) rfl (WD.branch [9] (by kernel_rfl) rfl (WO.cons rfl ?_ (WO.nil))))
 refine .call Tryz.func76 rfl (X0 (.of rfl) (X0 (.of rfl) X4)) rfl (Xe3 (Xh x.c.ps ω tgt 1).1 (mkW ω (Xm (xlo x) x.c.ps ω tgt service fresh)).2.now hsh.2.2.1 hsh.2.2.2 B _ J _ hS) ?_
 clear hS
 rintro _ w ⟨rfl,hS⟩
 refine .nil ?_
 clear hH
 have hH:∃ J9 R,Le J J9∧Sat B w J9 (blk b11 (X7 (Xh x.c.ps ω tgt 1).1) 45::blk x.xb (XC x da2 (mkW ω (Xm (xlo x) x.c.ps ω tgt service fresh)).2.D.length dc2 (mkW ω (Xm (xlo x) x.c.ps ω tgt service fresh)).2.now) 83::R):=⟨_,_,Le.refl _,((hS.pick 0 rfl).pick 3 rfl)⟩
 refine And.intro (by intro _ _; exact hH) ?_
 refine WD.branch [10] (by kernel_rfl) rfl (WO.cons rfl ?_ (WO.nil))
 refine .call Tryz.func75 rfl (X0 (.of rfl) (X0 (.of rfl) X4)) rfl (Xhj x.tb (mkW ω (Xm (xlo x) x.c.ps ω tgt service fresh)).2.room la2 lc2 (mkW ω (Xm (xlo x) x.c.ps ω tgt service fresh)).2.l (by omega) (X45 (Xh x.c.ps ω tgt 1).1 (mkW ω (Xm (xlo x) x.c.ps ω tgt service fresh)).2.now) (Y27 hsh.1 (by decide)) (Y27 hsh.2.1 (by decide)) B _ J hM2.1 _ (hS.pick 1 rfl)) ?_
 clear hS
 rintro _ w ⟨rfl,J3,la3,lc3,hJ3,hR3,hS⟩
 try dsimp only [List.eraseIdx] at hS
 refine .nil ?_
 clear hH
 have hH:∃ J9 R,Le J J9∧Sat B w J9 (blk b11 (X7 (Xh x.c.ps ω tgt 1).1) 45::blk x.xb (XC x da2 (mkW ω (Xm (xlo x) x.c.ps ω tgt service fresh)).2.D.length dc2 (mkW ω (Xm (xlo x) x.c.ps ω tgt service fresh)).2.now) 83::R):=⟨_,_,hJ3,((hS.pick 1 rfl).pick 3 rfl)⟩
 refine And.intro (by intro _ _; exact hH) ?_
 refine .done (by kernel_rfl) (.seq (.q 5 rfl (.ret (X6r Qr48 rfl rfl rfl ?_))))
 have hE:Xu (xlo x) x.c.ps ω tgt service fresh=((((mkW ω (Xm (xlo x) x.c.ps ω tgt service fresh)).1.1,(Xt (xlo x) service).2.1),0),putW (mkW ω (Xm (xlo x) x.c.ps ω tgt service fresh)).2 (X45 (Xh x.c.ps ω tgt 1).1 (mkW ω (Xm (xlo x) x.c.ps ω tgt service fresh)).2.now)):=by rw [Xu,if_neg (by rw [show (Xh x.c.ps ω tgt 1).2=true from by simpa using hb25]; decide),if_neg (by simpa using hb38),if_neg (by rw [hb45]; decide),if_neg (by simpa using hb58)]
 rw [hE]
 exact ⟨_,rfl,rfl,J3,la3,lc3,da2,dc2,hJ.trans hJ3,⟨hR3,hM2.2.1.mono hJ3,hM2.2.2⟩,(((hS.pick 1 rfl).drop (k:=2) rfl).drop (k:=2) rfl)⟩
theorem Xey (n:Int) (B w:World) (I:Im) (As:List X8) (hS:Sat B w I As) :
  Calls Tryz.prog 72 [I64 n].toArray w (Ret fun v w'=>∃ tb,v=ptr tb 0∧Sat B w' I (blk tb [I64 (Xl0 n),.slice none 0 0] 79::As)):=by
 refine calls Tryz.func72 rfl Tryz.ntmps72 rfl (.seq (.q 1 rfl (.seq (.t 1 rfl (.val (.min2 (.of rfl) (.of rfl)) rfl (.val (.max2 (.of rfl) (.of rfl)) rfl (.val (.build (cs:=[_,_]) (X5 (.of rfl) X6) Xq8 rfl) rfl (.boxA (cs:=[_,_]) hS (.of rfl) rfl ?_))))))))
 clear hS; intro b7 w hS
 refine .q 1 rfl (.nil (.ret (X9 Tryz.results72 rfl ?_)))
 exact ⟨_,rfl,b7,rfl,hS⟩
theorem cf_pol {c:Cf} {a ua:Option Addr} {cap ucap:Nat} {j:Nat} {v:Value} (h:((psL c.ps).map I64)[j]?=some v):(X12 c a cap ua ucap)[0+2+j]?=some v:=by
 have h1:=(Y5.1 h).1
 rw [show X12 c a cap ua ucap=[.slice a c.svs.length cap,.slice ua c.us.length ucap] ++ ((psL c.ps).map I64 ++ [I64 c.room,F64 c.base,F64 c.factor,F64 c.most,I64 c.tries]) from rfl,Yv (by simp),Y8,Y8,Yk,show 0+2+j - (0+1+1)=j by omega,Yg h1]
 exact h
set_option maxRecDepth 20000 in
theorem X9s (c:Cf) (hc:c.fits) (a:Option Addr) (cap:Nat) (ua:Option Addr) (ucap:Nat) (B w:World) (I:Im) (hC:CfAt I c a cap ua ucap) (As:List X8) (hS:Sat B w I As) :
  Calls Tryz.prog 24 [.agg (X12 c a cap ua ucap).toArray].toArray w (Ret fun v w'=>(X5p c≠0∧v=.tuple #[.pointer none,I64 (X5p c:Nat)]∧Sat B w' I As)∨(X5p c=0∧∃ xb tb,v=.tuple #[ptr xb 0,I64 0]∧Sat B w' I (blk xb [.slice a c.svs.length cap,.slice ua c.us.length ucap,I64 (c.ps 0),I64 (c.ps 1),I64 (c.ps 2),I64 (c.ps 3),I64 (c.ps 4),I64 (c.ps 5),I64 (c.ps 6),I64 (c.ps 7),I64 (c.ps 8),I64 (c.ps 9),I64 (c.ps 10),I64 (c.ps 11),I64 (c.ps 12),I64 (c.ps 13),I64 (c.ps 14),I64 (c.ps 15),I64 (c.ps 16),I64 (c.ps 17),I64 (c.ps 18),I64 (c.ps 19),I64 (c.ps 20),I64 c.room,F64 c.base,F64 c.factor,F64 c.most,I64 c.tries,ptr tb 0,.slice none 0 0,I64 0] 83::blk tb [I64 (Xl0 c.room),.slice none 0 0] 79::As))):=by
 refine calls Tryz.func24 rfl Tryz.ntmps24 rfl (.seq (.region (.boxA (cs:=[.slice a c.svs.length cap,.slice ua c.us.length ucap,I64 (c.ps 0),I64 (c.ps 1),I64 (c.ps 2),I64 (c.ps 3),I64 (c.ps 4),I64 (c.ps 5),I64 (c.ps 6),I64 (c.ps 7),I64 (c.ps 8),I64 (c.ps 9),I64 (c.ps 10),I64 (c.ps 11),I64 (c.ps 12),I64 (c.ps 13),I64 (c.ps 14),I64 (c.ps 15),I64 (c.ps 16),I64 (c.ps 17),I64 (c.ps 18),I64 (c.ps 19),I64 (c.ps 20),I64 c.room,F64 c.base,F64 c.factor,F64 c.most,I64 c.tries]) hS (.of rfl) rfl ?_)))
 clear hS; intro b1 w hS
 refine .q 2 rfl (.nil (.seq (.region ?_)))
 refine WL.val (.fieldAddr 0 (.of rfl) Xdk rfl rfl Qs27 rfl) rfl (.val (.ld (.of rfl) hS (k:=0) rfl Qg27 rfl) rfl (.call Tryz.func69 rfl (X0 (.of rfl) X4) rfl (Xj7 a cap c.svs hc.svs (fun s hs=>⟨(hc.sfit s hs).1,(hc.sfit s hs).2.1⟩) B _ I hC.svs _ hS) ?_))
 clear hS
 rintro _ w ⟨rfl,hS⟩
 refine .q 5 rfl (.nil (.seq (.seq (.q 2 rfl ?_))))
 refine WC.cond rfl (fun hb16=>?_) (fun hb16=>?_)
 ·
  refine .seq (.q 3 rfl (.ret (X1m Qr24 rfl rfl ?_)))
  have hE:X5p c=(X3l c.svs).1:=by rw [X5p,if_pos (by simpa using hb16)]
  exact ⟨_,rfl,.inl ⟨by rw [hE]; simpa using hb16,by rw [hE]; rfl,(hS.drop (k:=0) rfl)⟩⟩
 refine .skip (.seq (.region ?_))
 refine WL.val (.fieldAddr 1 (.of rfl) Xdk rfl rfl Qs28 rfl) rfl (.val (.ld (.of rfl) hS (k:=0) rfl Qg28 rfl) rfl (.call Tryz.func70 rfl (X0 (.of rfl) X4) rfl (Xbw ua ucap c.us hC.un hC.ufit B _ I hC.us _ hS) ?_))
 clear hS
 rintro _ w ⟨rfl,hS⟩
 refine .q 5 rfl (.nil (.seq (.seq (.q 2 rfl ?_))))
 refine WC.cond rfl (fun hb25=>?_) (fun hb25=>?_)
 ·
  refine .seq (.q 3 rfl (.ret (X1m Qr24 rfl rfl ?_)))
  have hE:X5p c=(X4i c.us 0 []).1:=by rw [X5p,if_neg (by simpa using hb16),if_pos (by simpa using hb25)]
  exact ⟨_,rfl,.inl ⟨by rw [hE]; simpa using hb25,by rw [hE]; rfl,(hS.drop (k:=0) rfl)⟩⟩
 refine .skip (.seq (.region ?_))
 refine WL.val (.fieldAddr 2 (.of rfl) Xdk rfl rfl Xim rfl) rfl (.val (.lds (vs:=(psL c.ps).map I64) (.of rfl) hS (k:=0) rfl Xqn Xim rfl (fun j v hj=>cf_pol hj)) rfl (.call Tryz.func71 rfl (X0 (.of rfl) X4) rfl (Xc3 c.ps B _ I _ hS) ?_))
 clear hS
 rintro _ w ⟨rfl,hS⟩
 refine .q 1 rfl (.nil (.seq (.seq (.q 2 rfl ?_))))
 refine WC.cond rfl (fun hb31=>?_) (fun hb31=>?_)
 ·
  refine .seq (.q 2 rfl (.ret (X1m Qr24 rfl rfl ?_)))
  have hE:X5p c=1:=by rw [X5p,if_neg (by simpa using hb16),if_neg (by simpa using hb25),if_pos (by simpa using hb31)]
  exact ⟨_,rfl,.inl ⟨by rw [hE]; decide,by rw [hE]; rfl,(hS.drop (k:=0) rfl)⟩⟩
 refine .skip (.seq (.drawn (fun w=>∃ R,Sat B w I (blk b1 [.slice a c.svs.length cap,.slice ua c.us.length ucap,I64 (c.ps 0),I64 (c.ps 1),I64 (c.ps 2),I64 (c.ps 3),I64 (c.ps 4),I64 (c.ps 5),I64 (c.ps 6),I64 (c.ps 7),I64 (c.ps 8),I64 (c.ps 9),I64 (c.ps 10),I64 (c.ps 11),I64 (c.ps 12),I64 (c.ps 13),I64 (c.ps 14),I64 (c.ps 15),I64 (c.ps 16),I64 (c.ps 17),I64 (c.ps 18),I64 (c.ps 19),I64 (c.ps 20),I64 c.room,F64 c.base,F64 c.factor,F64 c.most,I64 c.tries] 34::R)) (fun j=>!([].contains j)) (by kernel_rfl) ?_))
 replace hS:=hS.drew; generalize w.drew=w at hS ⊢
 have hH:=(hS.pick 0 rfl)
 refine WD.tk (i:=0) rfl (by kernel_rfl) ⟨_,hH⟩ (fun w ⟨R,hS⟩=>((.ldsW (cs:=[_,_,_,_,_,_,_,_,_,_,_,_,_,_,_,_,_,_,_,_,_,_,_,_,_,_,_,_]) (.of rfl) hS (k:=0) rfl Xqa Xij rfl))) rfl (WD.tp (i:=1) rfl (by kernel_rfl) (fun w=>(.fieldAddr 23 (.of rfl) Xdk rfl rfl Qs3 rfl)) rfl (.tk (i:=2) rfl (by kernel_rfl) ⟨_,hH⟩ (fun w ⟨R,hS⟩=>(.ld (.of rfl) hS (k:=0) rfl Qg3 rfl)) rfl (WD.branch [3] (by kernel_rfl) rfl (WO.cons rfl ?_ (WO.nil)))))
 refine .call Tryz.func72 rfl (X0 (.of rfl) X4) rfl (Xey c.room B _ I _ hS) ?_
 clear hS
 rintro _ w ⟨tb,rfl,hS⟩
 refine .nil ?_
 clear hH
 have hH:=(hS.pick 1 rfl)
 refine And.intro (by intro _ _; exact ⟨_,hH⟩) ?_
 refine .tp (i:=4) rfl (by kernel_rfl) (fun w=>(.build (cs:=[_,_,_,_,_,_,_,_,_,_,_,_,_,_,_,_,_,_,_,_,_,_,_,_,_,_,_,_,_,_,_]) (X5 (.of rfl) (X5 (.of rfl) X6)) Xq0 rfl)) rfl (WD.branch [5] (by kernel_rfl) rfl (WO.cons rfl ?_ (WO.nil)))
 refine .boxA (cs:=[_,_,_,_,_,_,_,_,_,_,_,_,_,_,_,_,_,_,_,_,_,_,_,_,_,_,_,_,_,_,_]) hS (.of rfl) rfl ?_
 clear hS; intro b37 w hS
 refine .nil ?_
 clear hH
 have hH:=(hS.pick 2 rfl)
 refine And.intro (by intro _ _; exact ⟨_,hH⟩) ?_
 refine .tp (i:=6) rfl (by kernel_rfl) (fun w=>(.assign (.of rfl))) rfl (.tp (i:=7) rfl (by kernel_rfl) (fun w=>(.assign (.of rfl))) rfl (.done (by kernel_rfl) (.ret (X1m Qr24 rfl rfl ?_))))
 have hE:X5p c=0:=by rw [X5p,if_neg (by simpa using hb16),if_neg (by simpa using hb25),if_neg (by simpa using hb31)]
 exact ⟨_,rfl,.inr ⟨hE,b37,tb,rfl,(((hS.pick 1 rfl).pick 1 rfl).drop (k:=2) rfl)⟩⟩
end Go.Proofs.YtadhiihnnkcagaaGreatDoor
