/- Part 4 of what the proof stands on: W23g, W23h, W23i, GkK, Kn3, Op23. -/
import Derived.Test.YtbciobiiejpdgaaGreatDoorM23C
import Derived.Lib.LaidTab
import Derived.Lib.LaidU8
import Derived.Lay
import Derived.Shelf.Vars
import Derived.HandedShaped
import Derived.MakeChecks
import Derived.OpenShut
import Derived.Test.YtbciobiiejpdgaaGreatDoorRows
import Derived.KernelRfl
set_option linter.unusedVariables false
set_option linter.unusedSimpArgs false
namespace Go.Proofs.YtbciobiiejpdgaaGreatDoor
open Gk Ul Pc Pat Xm Tr Tk
set_option maxRecDepth 4000
theorem Xbi:Bld Tryz.prog 51 [(0,1),(1,1),(2,1),(3,1),(4,1)] [.float .f64 0,.float .f64 0,.float .f64 0,.int .i64 0,.slice none 0 0]:=X4d X1v Tryz.zeroValue51 (fun w=>by simp [go_sem])
theorem Ex.sub3U {P:Program} {n:Nat} {L:Env} {w:World} {d:Option Nat} {ty t:TypeId} {pos:String} {af:Array Edge} {g:Option (Nat×Bool)} {x y z:Operand} {l:List UInt8} {i j:Int} (hx:Ev n L x (S l)) (hy:Ev n L y (U64 i)) (hz:Ev n L z (U64 j)) (h0:0≤i) (h1:i≤j) (h2:j≤(l.length:Int)) (hT:P.underlying t=some .string) :
  Ex P n L w ⟨d,.slice t x (some y) (some z) none,ty,pos,af,g⟩ (S ((l.drop i.toNat).take (j.toNat - i.toNat))) w:=fun a ha=>by
 have h:=run_slice_string (P:=P) w t ⟨l.toArray⟩ .u64 .u64 i j hT h0 h1 h2
 rw [X87] at h
 simp [execOp,hx a ha,hy a ha,hz a ha,run_sliceAt_string w t _ _ _ _ hT,h]
theorem Xad (k:Int):(X6p k).length≤6:=by
 unfold X6p
 split
 ·simp
 ·rename_i h
  have:k=1∨k=2∨k=3∨k=4∨k=5∨k=6:=by omega
  rcases this with e | e | e | e | e | e <;> (subst e; decide)
def dg (n:Nat):UInt8:=if n<10 then UInt8.ofNat (48+n) else UInt8.ofNat (87+n)
theorem X6y:∀ (k n:Nat),X8z (k+1) n=dg (n / 16 ^ k % 16)::X8z k n
 | 0,n=>by simp [X8z,dg]
 | k+1,n=>by
  rw [X8z,X6y k (n / 16),Y3g,← Nat.pow_succ',Y1o,X8z]
theorem X3a (k:Int) (B w:World) (I:Im) (As:List Xe) (hS:Sat B w I As) :
  Calls Tryz.prog 70 [I64 k].toArray w (Ret fun v w'=>v=S (X6p k)∧Sat B w' I As):=by
 refine calls Tryz.func70 rfl Tryz.ntmps70 rfl (.seq (.q 1 rfl (.seq (.seq (.q 1 rfl (.block (.seq (.q 2 rfl ?_))))))))
 refine WC.cond rfl (fun hb4=>?_) (fun hb4=>?_)
 ·
  have hc4:=hb4; try simp only [Y4] at hc4
  refine .seq (.q 1 rfl (.ret (Xg Xf0 rfl ?_)))
  refine ⟨_,rfl,congrArg S ?_,hS⟩
  simp only [beq_iff_eq,beq_eq_false_iff_ne] at *
  first | subst_vars; rfl | (rw [X6p,if_pos (by omega)])
 have hc4:=hb4; try simp only [Y4] at hc4
 refine .seq (.q 2 rfl ?_)
 refine WC.cond rfl (fun hb6=>?_) (fun hb6=>?_)
 ·
  have hc6:=hb6; try simp only [Y4] at hc6
  refine .seq (.q 1 rfl (.ret (Xg Xf0 rfl ?_)))
  refine ⟨_,rfl,congrArg S ?_,hS⟩
  simp only [beq_iff_eq,beq_eq_false_iff_ne] at *
  first | subst_vars; rfl | (rw [X6p,if_pos (by omega)])
 have hc6:=hb6; try simp only [Y4] at hc6
 refine .seq (.q 2 rfl ?_)
 refine WC.cond rfl (fun hb8=>?_) (fun hb8=>?_)
 ·
  have hc8:=hb8; try simp only [Y4] at hc8
  refine .seq (.q 1 rfl (.ret (Xg Xf0 rfl ?_)))
  refine ⟨_,rfl,congrArg S ?_,hS⟩
  simp only [beq_iff_eq,beq_eq_false_iff_ne] at *
  first | subst_vars; rfl | (rw [X6p,if_pos (by omega)])
 have hc8:=hb8; try simp only [Y4] at hc8
 refine .seq (.q 2 rfl ?_)
 refine WC.cond rfl (fun hb10=>?_) (fun hb10=>?_)
 ·
  have hc10:=hb10; try simp only [Y4] at hc10
  refine .seq (.q 1 rfl (.ret (Xg Xf0 rfl ?_)))
  refine ⟨_,rfl,congrArg S ?_,hS⟩
  simp only [beq_iff_eq,beq_eq_false_iff_ne] at *
  first | subst_vars; rfl | (rw [X6p,if_pos (by omega)])
 have hc10:=hb10; try simp only [Y4] at hc10
 refine .seq (.q 2 rfl ?_)
 refine WC.cond rfl (fun hb12=>?_) (fun hb12=>?_)
 ·
  have hc12:=hb12; try simp only [Y4] at hc12
  refine .seq (.q 1 rfl (.ret (Xg Xf0 rfl ?_)))
  refine ⟨_,rfl,congrArg S ?_,hS⟩
  simp only [beq_iff_eq,beq_eq_false_iff_ne] at *
  first | subst_vars; rfl | (rw [X6p,if_pos (by omega)])
 have hc12:=hb12; try simp only [Y4] at hc12
 refine .seq (.q 2 rfl ?_)
 refine WC.cond rfl (fun hb14=>?_) (fun hb14=>?_)
 ·
  have hc14:=hb14; try simp only [Y4] at hc14
  refine .seq (.q 1 rfl (.ret (Xg Xf0 rfl ?_)))
  refine ⟨_,rfl,congrArg S ?_,hS⟩
  simp only [beq_iff_eq,beq_eq_false_iff_ne] at *
  first | subst_vars; rfl | (rw [X6p,if_pos (by omega)])
 have hc14:=hb14; try simp only [Y4] at hc14
 refine .skip (.seq (.q 1 rfl (.ret (Xg Xf0 rfl ?_))))
 refine ⟨_,rfl,congrArg S ?_,hS⟩
 simp only [beq_iff_eq,beq_eq_false_iff_ne] at *
 first | subst_vars; rfl | (rw [X6p,if_pos (by omega)])
theorem Xcj {n:Nat} (h:n<16):(HEXD.drop n).take 1=[dg n]:=(by decide:∀ n:Fin 16,(HEXD.drop n.val).take 1=[dg n.val]) ⟨n,h⟩
theorem X89 (kind:Int) (d:Nat) (hd:d<18446744073709551616) (B w:World) (I:Im) (As:List Xe) (hS:Sat B w I As) :
  Calls Tryz.prog 92 [I64 kind,U64 (d:Nat)].toArray w (Ret fun v w'=>v=(if X6p kind=[] then .tuple #[S [],I64 8] else .tuple #[S (X6p kind ++ 45::X8z 16 d),I64 0])∧Sat B w' I As):=by
 refine calls Tryz.func92 rfl Tryz.ntmps92 rfl (.seq (.q 2 rfl (.seq (.t 1 rfl (.call Tryz.func70 rfl (X0 (.of rfl) X1) rfl (X3a kind B _ I _ hS) ?_)))))
 clear hS
 rintro _ w ⟨rfl,hS⟩
 refine .q 1 rfl (.nil (.seq (.seq (.q 2 rfl ?_))))
 refine WC.cond rfl (fun hb13=>?_) (fun hb13=>?_)
 ·
  have hc13:=hb13; try simp only [Y4] at hc13
  refine .seq (.q 2 rfl (.ret (X6f Tryz.results92 rfl rfl ?_)))
  exact ⟨_,rfl,by rw [if_pos (by simpa using hb13)],hS⟩
 have hc13:=hb13; try simp only [Y4] at hc13
 refine .skip (.seq (.q 1 rfl (.seq (.q 1 rfl (.seq (.seq (.q 1 rfl (.block (.loop (σ:=Nat×Nat) (fun ⟨i,e⟩=>[(1,U64 (e:Nat)),(6,S (X6p kind)),(7,S HEXD),(8,S (X8z i d)),(9,I64 (i:Nat))]) (fun ⟨i,e⟩ w=>i≤16∧e=d / 16 ^ i∧Sat B w I As) (fun ⟨i,e⟩=>16 - i) (0,d) ⟨rfl,rfl,rfl,rfl,rfl,trivial⟩ ⟨Yk _,by simp,hS⟩ ?_)))))))))
 rintro ⟨i,e⟩ w ⟨hi,he,hS⟩
 change WC _ _ _ _ [(1,U64 (e:Nat)),(6,S (X6p kind)),(7,S HEXD),(8,S (X8z i d)),(9,I64 (i:Nat))] w
 refine .seq (.seq (.q 2 rfl ?_))
 refine WC.cond rfl (fun hb15=>?_) (fun hb15=>?_)
 ·
  have hc15:=hb15; try simp only [Y4] at hc15
  refine .skip (.seq (.block (.seq ?_)))
  have hed:e<18446744073709551616:=by rw [he]; exact Nat.lt_of_le_of_lt (Nat.div_le_self _ _) hd
  have hdl:=X65 i d
  have hm16:=Y2d e (show 0<16 by decide)
  have hcast:((e:Nat):Int) % 16=((e % 16:Nat):Int):=by omega
  have htk:=Xcj hm16
  have hsl:(HEXD.drop ((e:Int) % 16).toNat).take (((e:Int) % 16+1).toNat - ((e:Int) % 16).toNat)=[dg (e % 16)]:=by
   rw [hcast,Y9,show (((e % 16:Nat):Int)+1).toNat - e % 16=1 by omega]; exact htk
  have hcons:[dg (e % 16)] ++ X8z i d=X8z (i+1) d:=by rw [X6y,he]; rfl
  have hquo:((e:Nat):Int) / 16=((e / 16:Nat):Int):=by omega
  have hee:e / 16=d / 16 ^ (i+1):=by rw [he,Y3g,Y1q]
  refine .t 2 rfl (.val (.rem (.of rfl) (.of rfl) (by omega) (by omega)) rfl (.q 1 rfl (.val (.rem (.of rfl) (.of rfl) (by omega) (by omega)) rfl ?_)))
  first | refine WL.val (.addx (.of rfl) (.of rfl) (by rw [IntKind.wrap_u64]; omega)) rfl ?_ | refine WL.val (.addw (.of rfl) (.of rfl)) rfl ?_
  refine WL.val (Ex.sub3U (.of rfl) (.of rfl) (.of rfl) (by omega) (by omega) (by show _≤(16:Int); omega) Qu9) rfl ?_
  rw [hsl]
  refine .q 1 rfl ?_
  refine WL.val (.cat (.of rfl) (.of rfl) (by (try simp only [Y2,List.length_cons,List.length_nil]); omega)) rfl ?_
  rw [hcons]
  refine .q 1 rfl (.nil (.t 1 rfl ?_))
  refine WL.val (.quo (.of rfl) (.of rfl) (by omega) (by omega) (by rw [IntKind.wrap_u64]; omega)) rfl ?_
  rw [hquo]
  refine .q 1 rfl (.nil (.region (.run 3 rfl ⟨⟨by omega,by omega⟩,trivial⟩ (.nil ?_))))
  refine ⟨(i+1,e / 16),⟨rfl,rfl,rfl,rfl,rfl,trivial⟩,⟨by (try dsimp only); omega,hee,hS⟩,by (try dsimp only); omega⟩
 have hc15:=hb15; try simp only [Y4] at hc15
 refine .exit (.seq ?_)
 have hpl:=Xad kind
 have hdl:=X65 i d
 refine .region ?_
 refine WL.run 6 rfl ⟨by (try simp only [Y2,List.length_cons,List.length_nil]); omega,by (try simp only [Y2,List.length_cons,List.length_nil]); omega,trivial⟩ ?_
 refine .nil (.ret (X6f Tryz.results92 rfl rfl ?_))
 have e16:i=16:=by omega
 subst e16
 refine ⟨_,rfl,by rw [if_neg (by simpa using hb13),Yg]; rfl,hS⟩
theorem X5r (s:List UInt8) (c:UInt8) (n:Nat):hxS n (s ++ [c])=(hxS n s).bind fun m=>(hx c).map fun d=>16*m+d:=by
 rw [X85]
 congr 1
 funext m
 rw [hxS]
 cases hx c with
 | none=>rfl
 | some d=>rfl
theorem X4l {c:UInt8} {r:List UInt8}:∀ {s:List UInt8},Xb [45] s=c::r→c=45
 | [],h=>by simp [Xb] at h
 | x::s,h=>by
  unfold Xb at h
  rw [Y1r] at h
  split at h
  ·exact X4l h
  ·rename_i h1
   cases h
   simpa using h1
theorem X1o (cs s:List UInt8):upto cs s ++ Xb cs s=s:=Y2m
theorem X79 {s t:List UInt8} {k:Nat} (hs:s=pre k ++ 45::t) (hl:t.length=16):s.length=(pre k).length+1+16∧s.take ((pre k).length+1)=pre k ++ [45]∧s.drop ((pre k).length+1)=t:=by
 have e:s=(pre k ++ [45]) ++ t:=by rw [hs]; simp
 have e2:(pre k).length+1=(pre k ++ [45]).length:=by simp
 refine ⟨by rw [hs]; simp [hl],?_,?_⟩
 ·rw [e,e2,Y1j]
 ·rw [e,e2,Y3o]
theorem X95 {s:List UInt8} {k d:Nat} (h:Xy s=some (k,d)):∃ t,s=pre k ++ 45::t∧t.length=16∧hxS 0 t=some d:=by
 unfold Xy at h
 split at h
 ·cases h
 ·rename_i hk
  obtain ⟨x,hx,e⟩:=Y12.1 h
  simp only [Prod.mk.injEq] at e
  obtain ⟨e1,rfl⟩:=e
  have h1:=X7r hk
  rw [e1] at h1
  unfold X2c at hx
  split at hx
  ·rename_i hl
   have h2:=X1o [45] s
   cases e3:Xb [45] s with
   | nil=>rw [e3] at hl; cases hl
   | cons c r =>
    rw [e3] at hl hx
    have h3:c=45:=X4l e3
    subst h3
    exact ⟨r,by rw [← h1]; rw [e3] at h2; exact h2.symm,hl,hx⟩
  ·cases hx
theorem Xct {k d:Nat} {t:List UInt8} (h1:1≤k) (h2:k≤6) (hl:t.length=16) (hd:hxS 0 t=some d):Xy (pre k ++ 45::t)=some (k,d):=by
 unfold Xy
 obtain ⟨e1,e2⟩:=Xch (p:=pre k) (r:=t) Xca
 rw [e1,e2,Xby h1 h2,if_neg (by omega),Y3,Y7,X2c,if_pos hl,hd]
 rfl
theorem Xcc {k:Nat} (h1:1≤k) (h2:k≤6):X6p (k:Int)=pre k:=by
 unfold X6p
 rw [if_neg (by omega),Y9]
theorem hx_num {c:UInt8} (h1:48≤c.toNat) (h2:c.toNat≤57):hx c=some (c.toNat - 48):=by
 unfold hx
 rw [if_pos]
 simp only [Yh,decide_eq_true_eq,Y1v]
 exact ⟨h1,h2⟩
theorem hx_let {c:UInt8} (h1:97≤c.toNat) (h2:c.toNat≤102):hx c=some (c.toNat - 87):=by
 unfold hx
 rw [if_neg,if_pos]
 ·simp only [Yh,decide_eq_true_eq,Y1v]
  exact ⟨h1,h2⟩
 ·simp only [Yh,decide_eq_true_eq,Y1v]
  intro h
  have:c.toNat≤57:=h.2
  omega
theorem hx_no {c:UInt8} (h1:¬(48≤c.toNat∧c.toNat≤57)) (h2:¬(97≤c.toNat∧c.toNat≤102)):hx c=none:=by
 unfold hx
 rw [if_neg,if_neg]
 ·simp only [Yh,decide_eq_true_eq,Y1v]; exact h2
 ·simp only [Yh,decide_eq_true_eq,Y1v]; exact h1
theorem X4p {s:List UInt8} {n i:Nat} (h1:n≤i) (h2:i<s.length):(s.drop n).take (i+1 - n)=(s.drop n).take (i - n) ++ [at_ s (i:Int)]:=by
 have e:i+1 - n=(i - n)+1:=by omega
 rw [e,Y19,Y22,show n+(i - n)=i by omega,X2y h2]
 rfl
theorem X5p (s:List UInt8) (hsl:s.length≤9223372036854775000) (B w:World) (I:Im) (As:List Xe) (hS:Sat B w I As) :
  Calls Tryz.prog 30 [S s].toArray w (Ret fun v w'=>v=(match Xy s with | some (k,d)=>.tuple #[I64 (k:Nat),U64 (d:Nat),.bool true] | none=>.tuple #[I64 0,U64 0,.bool false])∧Sat B w' I As):=by
 refine calls Tryz.func30 rfl Tryz.ntmps30 rfl (.seq (.q 3 rfl (.seq (.seq (.q 1 rfl (.block ?_))))))
 refine WC.loop (σ:=Nat) (fun k=>[(0,S s),(5,I64 (k:Nat))]) (fun k w=>1≤k∧k≤7∧(∀ (j d:Nat),j<k→Xy s≠some (j,d))∧Sat B w I As) (fun k=>7 - k) 1 ⟨rfl,rfl,trivial⟩ ⟨Yi _,by decide,fun j d hj h=>by have:=(X2t h).1; omega,hS⟩ ?_
 rintro k w ⟨hk0,hk7,hno,hS⟩
 change WC _ _ _ _ [(0,S s),(5,I64 (k:Nat))] w
 refine .seq (.seq (.q 2 rfl ?_))
 refine WC.cond rfl (fun hb13=>?_) (fun hb13=>?_)
 ·
  have hc13:=hb13; try simp only [Y4] at hc13
  refine .skip (.seq (.block (.seq ?_)))
  have hk1:1≤k∧k≤6:=by omega
  have hpr:=Xcc hk1.1 hk1.2
  have hp6:(pre k).length≤6:=by rw [← hpr]; exact Xad _
  have hn9:(pre k ++ [45]).length=(pre k).length+1:=by simp
  refine .t 1 rfl (.call Tryz.func70 rfl (X0 (.of rfl) X1) rfl (X3a (k:Int) B _ I _ hS) ?_)
  clear hS
  rintro _ w ⟨rfl,hS⟩
  rw [hpr]
  refine WL.run 2 rfl ⟨by (try simp only [Y2,List.length_cons,List.length_nil]); omega,trivial⟩ ?_
  refine .nil (.seq (.region (.run 3 rfl ⟨Qu9,trivial⟩ (.nil (.seq (.seq ?_))))))
  rw [hn9]
  refine .region (.run 6 rfl ⟨Qu9,⟨by omega,by omega⟩,trivial⟩ (.gval rfl rfl (fun hg1=>(.move (.of rfl))) rfl (.gval rfl rfl (fun hg1=>(.move (.of rfl))) rfl ?_)))
  refine WL.gval rfl rfl (fun hg1=>(.subTo (.gd hg1 rfl) (.gd hg1 rfl) (by (try simp only [Y4] at hg1); omega) (by (try simp only [Y4] at hg1); omega) Qu9)) rfl ?_
  refine .gval rfl rfl (fun hg1=>(.move (.of rfl))) rfl (.gval rfl rfl (fun hg1=>(.nes (.gd hg1 rfl) (.gd hg1 rfl))) rfl (.val (.por (.of rfl) (.of rfl) (.of rfl)) rfl (.nil ?_)))
  refine WC.cond rfl (fun hb32=>?_) (fun hb32=>?_)
  ·
   have hc32:=hb32; try simp only [Y4] at hc32
   refine .exit (.region (.run 3 rfl ⟨⟨by omega,by omega⟩,trivial⟩ (.nil ?_)))
   refine ⟨k+1,⟨rfl,rfl,trivial⟩,⟨by (try dsimp only); omega,by (try dsimp only); omega,fun j d hj h=>?_,hS⟩,by (try dsimp only); omega⟩
   rcases Yl j k with h1 | h1
   ·exact hno j d h1 h
   ·have e:k=j:=by omega
    subst e
    obtain ⟨t,ht,htl,hth⟩:=X95 h
    obtain ⟨g1,g2,g3⟩:=X79 ht htl
    first
    | (have h3:=hb32; simp [g1,g2] at h3; done)
    | (have h3:=hb32; simp [g1,g2] at h3; omega)
    | (have h3:hxS 0 ((s.drop ((pre k).length+1)).take (s.length - ((pre k).length+1)))=some d:=(by (rw [g3,Y1d (by omega)]; exact hth)); rw [show i=s.length by omega] at hhx; rw [hhx] at h3; simp [hb70] at h3)
  have hc32:=hb32; try simp only [Y4] at hc32
  refine .skip (.seq ?_)
  obtain ⟨hle,hpf⟩:s.length=(pre k).length+1+16∧s.take ((pre k).length+1)=pre k ++ [45]:=by
   have h:=hb32
   simp at h
   refine ⟨by omega,?_⟩
   simpa using h.2
  refine .q 1 rfl (.seq (.q 1 rfl (.seq (.seq (.q 2 rfl (.block ?_))))))
  refine WC.loop (σ:=Nat×Nat×Bool) (fun ⟨i,d,b⟩=>[(0,S s),(5,I64 (k:Nat)),(8,U64 (d:Nat)),(9,.bool b),(10,I64 (i:Nat))]) (fun ⟨i,d,b⟩ w=>((pre k).length+1)≤i∧i≤s.length∧d<16 ^ (i - ((pre k).length+1))∧hxS 0 ((s.drop ((pre k).length+1)).take (i - ((pre k).length+1)))=(if b=true then some d else none)∧Sat B w I As) (fun ⟨i,d,b⟩=>s.length - i) (((pre k).length+1),0,true) ⟨rfl,rfl,rfl,rfl,rfl,trivial⟩ ⟨Yi _,by (try dsimp only); omega,by (try dsimp only); exact Nat.pow_pos (by decide),by (try dsimp only); rw [Y3m]; rfl,hS⟩ ?_
  rintro ⟨i,d,b⟩ w ⟨hni,hi,hdp,hhx,hS⟩
  change WC _ _ _ _ [(0,S s),(5,I64 (k:Nat)),(8,U64 (d:Nat)),(9,.bool b),(10,I64 (i:Nat))] w
  refine .seq (.seq (.region (.run 4 rfl ⟨Qu9,trivial⟩ (.nil ?_))))
  refine WC.cond rfl (fun hb37=>?_) (fun hb37=>?_)
  ·
   have hc37:=hb37; try simp only [Y4] at hc37
   refine .skip (.seq (.block (.seq ?_)))
   have hp15:d<1152921504606846976:=Y1b hdp (Y34 (Y11 (by decide) (show i - ((pre k).length+1)≤15 by omega)) (by decide))
   refine .region (.run 4 rfl ⟨⟨⟨by omega,by omega⟩,Qu9⟩,trivial⟩ (.nil (.block (.seq (.t 3 rfl (.gval rfl rfl (fun hg1=>(.move (.of rfl))) rfl (.gval rfl rfl (fun hg1=>(.leq (.gd hg1 rfl) (.of rfl))) rfl (.val (.pand (.of rfl) (.of rfl) (.of rfl)) rfl (.q 1 rfl (.nil ?_))))))))))
   refine WC.cond rfl (fun hb43=>?_) (fun hb43=>?_)
   ·
    have hc43:=hb43; try simp only [Y4] at hc43
    refine .t 1 rfl ?_
    first | refine WL.val (.mulx (.of rfl) (.of rfl) (by rw [IntKind.wrap_u64]; omega)) rfl ?_ | refine WL.val (.mulw (.of rfl) (.of rfl)) rfl ?_
    refine .q 1 rfl ?_
    refine WL.val (.subx (.of rfl) (.of rfl) (by rw [IntKind.wrap_u8]; simp at hb43; omega)) rfl ?_
    refine WL.val (.cvi (.of rfl) Qu5 Qu62 (by rw [IntKind.wrap_u64]; omega)) rfl ?_
    first | refine WL.val (.addx (.of rfl) (.of rfl) (by rw [IntKind.wrap_u64]; omega)) rfl ?_ | refine WL.val (.addw (.of rfl) (.of rfl)) rfl ?_
    rw [show (16*(d:Int)+(((at_ s (i:Int)).toNat:Int) - 48))=((16*d+((at_ s (i:Int)).toNat - 48):Nat):Int) by simp at hb43; omega]
    refine .q 1 rfl (.nil (.region (.run 3 rfl ⟨⟨by omega,by omega⟩,trivial⟩ (.nil ?_))))
    refine ⟨(i+1,16*d+((at_ s (i:Int)).toNat - 48),b),⟨rfl,rfl,rfl,rfl,rfl,trivial⟩,⟨by (try dsimp only); omega,by (try dsimp only); omega,by (try dsimp only); exact Y1b (show 16*d+((at_ s (i:Int)).toNat - 48)<16*16 ^ (i - ((pre k).length+1)) by have h9:(at_ s (i:Int)).toNat≤57:=(by simp at hb43; omega); omega) (by rw [show i+1 - ((pre k).length+1)=(i - ((pre k).length+1))+1 by omega,Y1q]; omega),?_,hS⟩,by (try dsimp only); omega⟩
    try dsimp only
    rw [X4p hni (by omega),X5r,hhx,hx_num (by simp at hb43; omega) (by simp at hb43; omega)]
    cases b with
     | true=>simp
     | false=>simp
   have hc43:=hb43; try simp only [Y4] at hc43
   refine .seq (.t 3 rfl (.gval rfl rfl (fun hg1=>(.move (.of rfl))) rfl (.gval rfl rfl (fun hg1=>(.leq (.gd hg1 rfl) (.of rfl))) rfl (.val (.pand (.of rfl) (.of rfl) (.of rfl)) rfl (.q 1 rfl (.nil ?_))))))
   refine WC.cond rfl (fun hb56=>?_) (fun hb56=>?_)
   ·
    have hc56:=hb56; try simp only [Y4] at hc56
    refine .t 1 rfl ?_
    first | refine WL.val (.mulx (.of rfl) (.of rfl) (by rw [IntKind.wrap_u64]; omega)) rfl ?_ | refine WL.val (.mulw (.of rfl) (.of rfl)) rfl ?_
    refine .q 1 rfl ?_
    refine WL.val (.subx (.of rfl) (.of rfl) (by rw [IntKind.wrap_u8]; simp at hb56; omega)) rfl ?_
    refine WL.val (.cvi (.of rfl) Qu5 Qu62 (by rw [IntKind.wrap_u64]; omega)) rfl ?_
    first | refine WL.val (.addx (.of rfl) (.of rfl) (by rw [IntKind.wrap_u64]; omega)) rfl ?_ | refine WL.val (.addw (.of rfl) (.of rfl)) rfl ?_
    first | refine WL.val (.addx (.of rfl) (.of rfl) (by rw [IntKind.wrap_u64]; omega)) rfl ?_ | refine WL.val (.addw (.of rfl) (.of rfl)) rfl ?_
    rw [show (16*(d:Int)+(((at_ s (i:Int)).toNat:Int) - 97)+10)=((16*d+((at_ s (i:Int)).toNat - 97)+10:Nat):Int) by simp at hb56; omega]
    refine .q 1 rfl (.nil (.region (.run 3 rfl ⟨⟨by omega,by omega⟩,trivial⟩ (.nil ?_))))
    refine ⟨(i+1,16*d+((at_ s (i:Int)).toNat - 97)+10,b),⟨rfl,rfl,rfl,rfl,rfl,trivial⟩,⟨by (try dsimp only); omega,by (try dsimp only); omega,by (try dsimp only); exact Y1b (show 16*d+((at_ s (i:Int)).toNat - 97)+10<16*16 ^ (i - ((pre k).length+1)) by have h9:(at_ s (i:Int)).toNat≤102:=(by simp at hb56; omega); have h8:97≤(at_ s (i:Int)).toNat:=(by simp at hb56; omega); omega) (by rw [show i+1 - ((pre k).length+1)=(i - ((pre k).length+1))+1 by omega,Y1q]; omega),?_,hS⟩,by (try dsimp only); omega⟩
    try dsimp only
    rw [X4p hni (by omega),X5r,hhx,hx_let (by simp at hb56; omega) (by simp at hb56; omega)]
    cases b with
     | true=>simp; omega
     | false=>simp
   have hc56:=hb56; try simp only [Y4] at hc56
   refine .q 1 rfl (.region (.run 3 rfl ⟨⟨by omega,by omega⟩,trivial⟩ (.nil ?_)))
   refine ⟨(i+1,d,false),⟨rfl,rfl,rfl,rfl,rfl,trivial⟩,⟨by (try dsimp only); omega,by (try dsimp only); omega,by (try dsimp only); exact Y1b (show d<16*16 ^ (i - ((pre k).length+1)) by omega) (by rw [show i+1 - ((pre k).length+1)=(i - ((pre k).length+1))+1 by omega,Y1q]; omega),?_,hS⟩,by (try dsimp only); omega⟩
   try dsimp only
   rw [X4p hni (by omega),X5r,hhx,hx_no (fun h=>by have h1:=h.1; have h2:=h.2; simp at hb43; omega) (fun h=>by have h1:=h.1; have h2:=h.2; simp at hb56; omega)]
   cases b <;> simp
  have hc37:=hb37; try simp only [Y4] at hc37
  refine .exit (.seq (.q 1 rfl ?_))
  refine WC.cond rfl (fun hb70=>?_) (fun hb70=>?_)
  ·
   have hc70:=hb70; try simp only [Y4] at hc70
   refine .seq (.q 5 rfl (.ret (ret3 Tryz.results30 rfl rfl rfl ?_)))
   have hs9:s=pre k ++ 45::s.drop ((pre k).length+1):=by
    have h:=Y1l ((pre k).length+1) s
    rw [hpf,Yg] at h
    exact h.symm
   have hil:i=s.length:=by omega
   have hh:hxS 0 (s.drop ((pre k).length+1))=some d:=by
    rw [hil,Y1d (by rw [Ya]; omega),hb70] at hhx
    exact hhx
   have hP:Xy s=some (k,d):=by
    rw [hs9]
    exact Xct hk1.1 hk1.2 (by rw [Ya]; omega) hh
   rw [hP]
   exact ⟨_,rfl,rfl,hS⟩
  have hc70:=hb70; try simp only [Y4] at hc70
  refine .skip (.region (.run 3 rfl ⟨⟨by omega,by omega⟩,trivial⟩ (.nil ?_)))
  refine ⟨k+1,⟨rfl,rfl,trivial⟩,⟨by (try dsimp only); omega,by (try dsimp only); omega,fun j d hj h=>?_,hS⟩,by (try dsimp only); omega⟩
  rcases Yl j k with h1 | h1
  ·exact hno j d h1 h
  ·have e:k=j:=by omega
   subst e
   obtain ⟨t,ht,htl,hth⟩:=X95 h
   obtain ⟨g1,g2,g3⟩:=X79 ht htl
   first
   | (have h3:=hb32; simp [g1,g2] at h3; done)
   | (have h3:=hb32; simp [g1,g2] at h3; omega)
   | (have h3:hxS 0 ((s.drop ((pre k).length+1)).take (s.length - ((pre k).length+1)))=some d:=(by (rw [g3,Y1d (by omega)]; exact hth)); rw [show i=s.length by omega] at hhx; rw [hhx] at h3; simp [hb70] at h3)
 have hc13:=hb13; try simp only [Y4] at hc13
 refine .exit (.seq (.q 3 rfl (.ret (ret3 Tryz.results30 rfl rfl rfl ?_))))
 have hP:Xy s=none:=by
  cases h:Xy s with
  | none=>rfl
  | some x =>
   obtain ⟨j,d⟩:=x
   have:=X2t h
   exact absurd h (hno j d (by omega))
 rw [hP]
 exact ⟨_,rfl,rfl,hS⟩
theorem X72 (n:Nt) (hn:n.ticket.length≤1000000) (hu:n.url.length≤9223372036854775807) (B w:World) (I:Im) (As:List Xe) (hS:Sat B w I As) :
  Calls Tryz.prog 27 [.agg (X3 n).toArray].toArray w (Ret fun v w'=>v=.bool (Xp n)∧Sat B w' I As):=by
 refine calls Tryz.func27 rfl Tryz.ntmps27 rfl (.seq (.region (.boxA (cs:=[_,_,_,_]) hS (.of rfl) rfl ?_)))
 clear hS; intro b1 w hS
 refine .q 1 rfl (.nil (.seq (.region ?_)))
 first | refine WL.val (.fieldAddr 0 (.of rfl) Xj rfl rfl Qs9 rfl) rfl ?_ | refine WL.val (.fieldAddrI 0 (.of rfl) Xj rfl rfl Qs9 rfl) rfl ?_
 refine .val (.ld (.of rfl) hS (k:=0) rfl Qg9 rfl) rfl (.call Tryz.func30 rfl (X0 (.of rfl) X1) rfl (X5p n.ticket (by omega) B _ I _ hS) ?_)
 clear hS
 rintro _ w ⟨rfl,hS⟩
 generalize hps:Xy n.ticket=pt
 rcases pt with _ | ⟨k,d⟩
 ·
  refine .val (.move (.of rfl)) rfl (.q 6 rfl (.nil (.seq (.seq (.t 3 rfl (.gval rfl rfl (fun hg1=>(.move (.of rfl))) rfl (.gval rfl rfl (fun hg1=>(.neq (.gd hg1 rfl) (.of rfl))) rfl (.gval rfl rfl (fun hg1=>(.move (.gd hg1 rfl))) rfl (.gval2 rfl rfl rfl (fun hg1 hg2=>(.move (.of rfl))) rfl (.gval2 rfl rfl rfl (fun hg1 hg2=>(.neq (.gd2 hg1 hg2 rfl) (.of rfl))) rfl (.gval rfl rfl (fun hg1=>(.pand (.gd hg1 rfl) (.gd hg1 rfl) (.of rfl))) rfl (.val (.por (.of rfl) (.of rfl) (.of rfl)) rfl (.nil ?_)))))))))))))
  refine WC.cond rfl (fun hb22=>?_) (fun hb22=>?_)
  ·
   have hc22:=hb22; try simp only [Y4] at hc22
   refine .seq (.q 1 rfl (.ret (Xg Qr27 rfl ?_)))
   refine ⟨_,rfl,congrArg Value.bool ?_,hS.drop (k:=0) rfl⟩
   unfold Xp X1y isT
   rw [hps]; rfl
  have hc22:=hb22; try simp only [Y4] at hc22
  refine .skip (.seq (.region ?_))
  first | refine WL.val (.fieldAddr 1 (.of rfl) Xj rfl rfl Qs9 rfl) rfl ?_ | refine WL.val (.fieldAddrI 1 (.of rfl) Xj rfl rfl Qs9 rfl) rfl ?_
  refine .val (.ld (.of rfl) hS (k:=0) rfl Qg9 rfl) rfl (.run 3 rfl ⟨Qu9,trivial⟩ ?_)
  refine WL.gval rfl rfl (fun hg1=>(by first | exact .fieldAddr 2 (.of rfl) Xj rfl rfl Qs3 rfl | exact .fieldAddrI 2 (.of rfl) Xj rfl rfl Qs3 rfl)) rfl ?_
  refine .gval rfl rfl (fun hg1=>(.ld (.gd hg1 rfl) hS (k:=0) rfl Qg3 rfl)) rfl (.gval rfl rfl (fun hg1=>(.geq (.gd hg1 rfl) (.of rfl))) rfl (.val (.pand (.of rfl) (.of rfl) (.of rfl)) rfl (.q 1 rfl ?_)))
  refine WL.gval rfl rfl (fun hg1=>(by first | exact .fieldAddr 2 (.of rfl) Xj rfl rfl Qs3 rfl | exact .fieldAddrI 2 (.of rfl) Xj rfl rfl Qs3 rfl)) rfl ?_
  refine .gval rfl rfl (fun hg1=>(.ld (.gd hg1 rfl) hS (k:=0) rfl Qg3 rfl)) rfl (.gval rfl rfl (fun hg1=>(.leq (.gd hg1 rfl) (.of rfl))) rfl (.val (.pand (.of rfl) (.of rfl) (.of rfl)) rfl (.q 1 rfl ?_)))
  refine WL.gval rfl rfl (fun hg1=>(by first | exact .fieldAddr 3 (.of rfl) Xj rfl rfl Qs3 rfl | exact .fieldAddrI 3 (.of rfl) Xj rfl rfl Qs3 rfl)) rfl ?_
  refine .gval rfl rfl (fun hg1=>(.ld (.gd hg1 rfl) hS (k:=0) rfl Qg3 rfl)) rfl (.gval rfl rfl (fun hg1=>(.geq (.gd hg1 rfl) (.of rfl))) rfl (.val (.pand (.of rfl) (.of rfl) (.of rfl)) rfl (.q 1 rfl ?_)))
  refine WL.gval rfl rfl (fun hg1=>(by first | exact .fieldAddr 3 (.of rfl) Xj rfl rfl Qs3 rfl | exact .fieldAddrI 3 (.of rfl) Xj rfl rfl Qs3 rfl)) rfl ?_
  refine .gval rfl rfl (fun hg1=>(.ld (.gd hg1 rfl) hS (k:=0) rfl Qg3 rfl)) rfl (.gval rfl rfl (fun hg1=>(.leq (.gd hg1 rfl) (.of rfl))) rfl (.val (.pand (.of rfl) (.of rfl) (.of rfl)) rfl (.q 1 rfl (.nil (.ret (Xg Qr27 rfl ?_))))))
  exfalso; simp at hb22
 refine .val (.move (.of rfl)) rfl (.q 6 rfl (.nil (.seq (.seq (.t 3 rfl (.gval rfl rfl (fun hg1=>(.move (.of rfl))) rfl (.gval rfl rfl (fun hg1=>(.neq (.gd hg1 rfl) (.of rfl))) rfl (.gval rfl rfl (fun hg1=>(.move (.gd hg1 rfl))) rfl (.gval2 rfl rfl rfl (fun hg1 hg2=>(.move (.of rfl))) rfl (.gval2 rfl rfl rfl (fun hg1 hg2=>(.neq (.gd2 hg1 hg2 rfl) (.of rfl))) rfl (.gval rfl rfl (fun hg1=>(.pand (.gd hg1 rfl) (.gd hg1 rfl) (.of rfl))) rfl (.val (.por (.of rfl) (.of rfl) (.of rfl)) rfl (.nil ?_)))))))))))))
 refine WC.cond rfl (fun hb22=>?_) (fun hb22=>?_)
 ·
  have hc22:=hb22; try simp only [Y4] at hc22
  refine .seq (.q 1 rfl (.ret (Xg Qr27 rfl ?_)))
  refine ⟨_,rfl,congrArg Value.bool ?_,hS.drop (k:=0) rfl⟩
  unfold Xp X1y isT
  rw [hps]
  have h9:=hb22
  simp at h9
  have h2:((k:Int) == 2)=false:=by simpa using h9.1
  have h3:((k:Int) == 3)=false:=by simpa using h9.2
  simp [h2,h3]
 have hc22:=hb22; try simp only [Y4] at hc22
 refine .skip (.seq (.region ?_))
 first | refine WL.val (.fieldAddr 1 (.of rfl) Xj rfl rfl Qs9 rfl) rfl ?_ | refine WL.val (.fieldAddrI 1 (.of rfl) Xj rfl rfl Qs9 rfl) rfl ?_
 refine .val (.ld (.of rfl) hS (k:=0) rfl Qg9 rfl) rfl (.run 3 rfl ⟨Qu9,trivial⟩ ?_)
 refine WL.gval rfl rfl (fun hg1=>(by first | exact .fieldAddr 2 (.of rfl) Xj rfl rfl Qs3 rfl | exact .fieldAddrI 2 (.of rfl) Xj rfl rfl Qs3 rfl)) rfl ?_
 refine .gval rfl rfl (fun hg1=>(.ld (.gd hg1 rfl) hS (k:=0) rfl Qg3 rfl)) rfl (.gval rfl rfl (fun hg1=>(.geq (.gd hg1 rfl) (.of rfl))) rfl (.val (.pand (.of rfl) (.of rfl) (.of rfl)) rfl (.q 1 rfl ?_)))
 refine WL.gval rfl rfl (fun hg1=>(by first | exact .fieldAddr 2 (.of rfl) Xj rfl rfl Qs3 rfl | exact .fieldAddrI 2 (.of rfl) Xj rfl rfl Qs3 rfl)) rfl ?_
 refine .gval rfl rfl (fun hg1=>(.ld (.gd hg1 rfl) hS (k:=0) rfl Qg3 rfl)) rfl (.gval rfl rfl (fun hg1=>(.leq (.gd hg1 rfl) (.of rfl))) rfl (.val (.pand (.of rfl) (.of rfl) (.of rfl)) rfl (.q 1 rfl ?_)))
 refine WL.gval rfl rfl (fun hg1=>(by first | exact .fieldAddr 3 (.of rfl) Xj rfl rfl Qs3 rfl | exact .fieldAddrI 3 (.of rfl) Xj rfl rfl Qs3 rfl)) rfl ?_
 refine .gval rfl rfl (fun hg1=>(.ld (.gd hg1 rfl) hS (k:=0) rfl Qg3 rfl)) rfl (.gval rfl rfl (fun hg1=>(.geq (.gd hg1 rfl) (.of rfl))) rfl (.val (.pand (.of rfl) (.of rfl) (.of rfl)) rfl (.q 1 rfl ?_)))
 refine WL.gval rfl rfl (fun hg1=>(by first | exact .fieldAddr 3 (.of rfl) Xj rfl rfl Qs3 rfl | exact .fieldAddrI 3 (.of rfl) Xj rfl rfl Qs3 rfl)) rfl ?_
 refine .gval rfl rfl (fun hg1=>(.ld (.gd hg1 rfl) hS (k:=0) rfl Qg3 rfl)) rfl (.gval rfl rfl (fun hg1=>(.leq (.gd hg1 rfl) (.of rfl))) rfl (.val (.pand (.of rfl) (.of rfl) (.of rfl)) rfl (.q 1 rfl (.nil (.ret (Xg Qr27 rfl ?_))))))
 refine ⟨_,rfl,congrArg Value.bool ?_,hS.drop (k:=0) rfl⟩
 unfold Xp X1y isT
 rw [hps]
 have h9:((k:Int) == 2 || (k:Int) == 3)=true:=by
  have h9:=hb22
  simp at h9
  by_cases e:(k:Int)=2
  ·simp [e]
  ·have:=h9 e; simp [this]
 dsimp only
 rw [h9,Y3d]
theorem X9s (cs:List Value) (x y z:Nat) (tr:Int) (h24:cs[24]?=some (F64 x)) (h25:cs[25]?=some (F64 y)) (h26:cs[26]?=some (F64 z)) (h27:cs[27]?=some (I64 tr)) (B w:World) (I:Im) (As:List Xe) (hS:Sat B w I As) :
  Calls Tryz.prog 12 [.agg cs.toArray].toArray w (Ret fun v w'=>∃ xb,v=ptr xb 0∧Sat B w' I (blk xb [F64 x,F64 y,F64 z,I64 tr,.slice none 0 0] 51::As)):=by
 refine calls Tryz.func12 rfl Tryz.ntmps12 rfl (.seq (.region (.boxA (cs:=cs) hS (.of rfl) rfl ?_)))
 clear hS; intro b1 w hS
 refine .q 1 rfl (.nil (.seq (.region ?_)))
 first | refine WL.val (.fieldAddr 24 (.of rfl) X6d rfl rfl X45 rfl) rfl ?_ | refine WL.val (.fieldAddrI 24 (.of rfl) X6d rfl rfl X45 rfl) rfl ?_
 refine .val (.ld (v:=F64 x) (.of rfl) hS (k:=0) rfl X6e h24) rfl ?_
 first | refine WL.val (.fieldAddr 25 (.of rfl) X6d rfl rfl X45 rfl) rfl ?_ | refine WL.val (.fieldAddrI 25 (.of rfl) X6d rfl rfl X45 rfl) rfl ?_
 refine .val (.ld (v:=F64 y) (.of rfl) hS (k:=0) rfl X6e h25) rfl ?_
 first | refine WL.val (.fieldAddr 26 (.of rfl) X6d rfl rfl X45 rfl) rfl ?_ | refine WL.val (.fieldAddrI 26 (.of rfl) X6d rfl rfl X45 rfl) rfl ?_
 refine .val (.ld (v:=F64 z) (.of rfl) hS (k:=0) rfl X6e h26) rfl ?_
 first | refine WL.val (.fieldAddr 27 (.of rfl) X6d rfl rfl Qs3 rfl) rfl ?_ | refine WL.val (.fieldAddrI 27 (.of rfl) X6d rfl rfl Qs3 rfl) rfl ?_
 refine .val (.ld (v:=I64 tr) (.of rfl) hS (k:=0) rfl Qg3 h27) rfl (.val (.build (cs:=[_,_,_,_,_]) (X2 (.of rfl) (X2 (.of rfl) (X2 (.of rfl) (X2 (.of rfl) X5)))) Xbi rfl) rfl (.boxA (cs:=[_,_,_,_,_]) hS (.of rfl) rfl ?_))
 clear hS; intro b12 w hS
 refine .q 1 rfl (.nil (.ret (Xg Tryz.results12 rfl ?_)))
 exact ⟨_,rfl,b12,rfl,(hS.drop (k:=1) rfl)⟩
theorem X4y (a:Option Addr) (c:Nat) (l:List Nt) (hl:l.length≤100000) (t:List UInt8) (B w:World) (I:Im) (hR:RS I a 4 l.length (X6 X3 l)) (As:List Xe) (hS:Sat B w I As) :
  Calls Tryz.prog 57 [.slice a l.length c,S t].toArray w (Ret fun v w'=>v=I64 (ixN l t)∧Sat B w' I As):=by
 refine calls Qf57 rfl Tryz.ntmps57 rfl (.seq (.q 1 rfl (.seq (.seq (.q 1 rfl (.block (.loop (σ:=Nat) (fun i=>[(0,.slice a l.length c),(1,S t),(5,I64 (i:Nat))]) (fun i w=>i≤l.length∧(∀ (j:Nat) n,j<i→l[j]?=some n→(n.ticket == t)=false)∧Sat B w I As) (fun i=>l.length - i) 0 ⟨rfl,rfl,rfl,trivial⟩ ⟨Yk _,fun _ _ h=>absurd h (by omega),hS⟩ ?_)))))))
 rintro i w ⟨hi,hno,hS⟩
 change WC _ _ _ _ [(0,.slice a l.length c),(1,S t),(5,I64 (i:Nat))] w
 refine .seq (.seq (.region (.run 4 rfl ⟨⟨_,Xt⟩,trivial⟩ (.nil ?_))))
 refine WC.cond rfl (fun hb9=>?_) (fun hb9=>?_)
 ·
  have hc9:=hb9; try simp only [Y4] at hc9
  refine .skip (.seq (.block (.seq ?_)))
  obtain ⟨n,hn⟩:∃ n,l[i]?=some n:=⟨_,Y1 (by omega)⟩
  obtain ⟨p,hp9,hx⟩:=X1n (cells:=X3) (s:=4) (fun _=>rfl) hR hn
  subst hp9
  refine .t 2 rfl ?_
  first | refine WL.val (.indexAddr (.of rfl) (.of rfl) (by omega) (by omega) Xt X7) rfl ?_ | refine WL.val (.indexAddrI (.of rfl) (.of rfl) (by omega) (by omega) Xt X7) rfl ?_
  first | refine WL.val (.fieldAddr 0 (.of rfl) Xj rfl rfl Qs9 rfl) rfl ?_ | refine WL.val (.fieldAddrI 0 (.of rfl) Xj rfl rfl Qs9 rfl) rfl ?_
  refine .val (.ldI (.of rfl) hS hx Qg9 rfl) rfl (.q 2 rfl (.nil ?_))
  refine WC.cond rfl (fun hb18=>?_) (fun hb18=>?_)
  ·
   have hc18:=hb18; try simp only [Y4] at hc18
   refine .seq (.q 2 rfl (.ret (Xg Tryz.results57 rfl ?_)))
   exact ⟨_,rfl,by unfold ixN; rw [X2u hno hn hb18],hS⟩
  have hc18:=hb18; try simp only [Y4] at hc18
  refine .skip (.region (.run 3 rfl ⟨⟨by omega,by omega⟩,trivial⟩ (.nil ?_)))
  refine ⟨i+1,⟨rfl,rfl,rfl,trivial⟩,⟨by (try dsimp only); omega,fun j m hj hm=>?_,hS⟩,by (try dsimp only); omega⟩
  rcases Yl j i with h1 | h1
  ·exact hno j m h1 hm
  ·have e:j=i:=by omega
   subst e
   rw [hn] at hm; cases hm
   exact hb18
 have hc9:=hb9; try simp only [Y4] at hc9
 refine .exit (.seq (.q 1 rfl (.ret (Xg Tryz.results57 rfl ?_))))
 exact ⟨_,rfl,by unfold ixN; rw [X28 (fun j m hm=>hno j m (by have:=(Y0.1 hm).1; omega) hm)],hS⟩
theorem X9o (p q:Nt) (w:World):(Op.equalIn 10000 45 (.agg (X3 p).toArray) (.agg (X3 q).toArray)).run Tryz.prog w=.ok (decide (p=q)) w:=by
 have hS:Tryz.prog.underlying 45=some (.struct (Tryz.prog.fieldsOf 45)):=by kernel_rfl
 have hp:Tryz.prog.stoodInHeld 45=false:=by kernel_rfl
 have us:=Qu9
 have as9:=Qg9
 have ui:=Qu3
 have ai:=Qg3
 rw [show (10000:Nat)=9999+1 from rfl,run_equalIn_agg w 9999 45 _ _ hS hp]
 simp only [Program.fieldsOf,Xj]
 obtain ⟨a,b,e,f⟩:=p
 obtain ⟨c,d,g,h⟩:=q
 unfold X3
 go_simp
 repeat' split
 all_goals simp_all
theorem Ex.neNt {n:Nat} {L:Env} {w:World} {d:Option Nat} {ty t':TypeId} {pos:String} {af:Array Edge} {g:Option (Nat×Bool)} {x y:Operand} {r s:Nt} (hx:Ev n L x (.agg (X3 r).toArray)) (hy:Ev n L y (.agg (X3 s).toArray)):Ex Tryz.prog n L w ⟨d,.binOp .neq 45 x y t',ty,pos,af,g⟩ (.bool (!decide (r=s))) w :=
 Xk hx hy (fun p q=>run_eqGuard_agg w _ _ _ _ _ _ (by kernel_rfl)) (by rw [run_neq_struct,X9o]; rfl)
theorem X7a (a b:Option Addr) (ca cb:Nat) (la lb:List Nt) (hla:la.length≤100000) (B w:World) (I:Im) (hA:RS I a 4 la.length (X6 X3 la)) (hB:RS I b 4 lb.length (X6 X3 lb)) (As:List Xe) (hS:Sat B w I As) :
  Calls Tryz.prog 19 [.slice a la.length ca,.slice b lb.length cb].toArray w (Ret fun v w'=>v=.bool (decide (la=lb))∧Sat B w' I As):=by
 refine calls Tryz.func19 rfl Tryz.ntmps19 rfl (.seq (.q 1 rfl (.seq (.seq (.region (.run 5 rfl ⟨⟨_,Xt⟩,⟨_,Xt⟩,trivial⟩ (.nil ?_)))))))
 refine WC.cond rfl (fun hb10=>?_) (fun hb10=>?_)
 ·
  have hc10:=hb10; try simp only [Y4] at hc10
  refine .seq (.q 1 rfl (.ret (Xg Tryz.results19 rfl ?_)))
  refine ⟨_,rfl,congrArg Value.bool (decide_eq_false fun e=>?_).symm,hS⟩
  subst e
  simp at hb10
 have hc10:=hb10; try simp only [Y4] at hc10
 refine .skip (.seq (.seq (.q 1 rfl (.block (.loop (σ:=Nat) (fun i=>[(0,.slice a la.length ca),(1,.slice b lb.length cb),(5,I64 (i:Nat))]) (fun i w=>i≤la.length∧(∀ (j:Nat),j<i→la[j]?=lb[j]?)∧Sat B w I As) (fun i=>la.length - i) 0 ⟨rfl,rfl,rfl,trivial⟩ ⟨Yk _,fun _ h=>absurd h (by omega),hS⟩ ?_)))))
 rintro i w ⟨hi,hsm,hS⟩
 change WC _ _ _ _ [(0,.slice a la.length ca),(1,.slice b lb.length cb),(5,I64 (i:Nat))] w
 refine .seq (.seq (.region (.run 4 rfl ⟨⟨_,Xt⟩,trivial⟩ (.nil ?_))))
 refine WC.cond rfl (fun hb14=>?_) (fun hb14=>?_)
 ·
  have hc14:=hb14; try simp only [Y4] at hc14
  refine .skip (.seq (.block (.seq ?_)))
  obtain ⟨x,hx0⟩:∃ x,la[i]?=some x:=⟨_,Y1 (by omega)⟩
  obtain ⟨y,hy0⟩:∃ y,lb[i]?=some y:=⟨_,Y1 (by omega)⟩
  obtain ⟨p,hp9,hx⟩:=X1n (cells:=X3) (s:=4) (fun _=>rfl) hA hx0
  obtain ⟨p2,hp8,hy⟩:=X1n (cells:=X3) (s:=4) (fun _=>rfl) hB hy0
  subst hp9
  subst hp8
  refine .quiet (by kernel_rfl) (by kernel_rfl) hS (.val (fun w hS=>(.move (.of rfl))) rfl (.val (fun w hS=>(.move (.of rfl))) rfl ?_))
  refine WQ.val (fun w hS=>(by first | exact .indexAddr (.of rfl) (.of rfl) (by omega) (by omega) Xt X7 | exact .indexAddrI (.of rfl) (.of rfl) (by omega) (by omega) Xt X7)) rfl ?_
  refine .val (fun w hS=>.ldsI (us:=X3 x) (.of rfl) hS hx Xh X7 rfl (fun _ _ h=>h)) rfl (.val (fun w hS=>(.move (.of rfl))) rfl (.val (fun w hS=>(.move (.of rfl))) rfl ?_))
  refine WQ.val (fun w hS=>(by first | exact .indexAddr (.of rfl) (.of rfl) (by omega) (by omega) Xt X7 | exact .indexAddrI (.of rfl) (.of rfl) (by omega) (by omega) Xt X7)) rfl ?_
  refine .val (fun w hS=>.ldsI (us:=X3 y) (.of rfl) hS hy Xh X7 rfl (fun _ _ h=>h)) rfl (.val (fun w hS=>Ex.neNt (r:=x) (s:=y) (.of rfl) (.of rfl)) rfl (.nil ?_))
  clear hS; intro w hS
  refine WC.cond rfl (fun hb25=>?_) (fun hb25=>?_)
  ·
   have hc25:=hb25; try simp only [Y4] at hc25
   refine .seq (.q 1 rfl (.ret (Xg Tryz.results19 rfl ?_)))
   refine ⟨_,rfl,congrArg Value.bool (decide_eq_false fun e=>?_).symm,hS⟩
   subst e
   rw [hx0] at hy0
   cases hy0
   simp at hb25
  have hc25:=hb25; try simp only [Y4] at hc25
  refine .skip (.region (.run 3 rfl ⟨⟨by omega,by omega⟩,trivial⟩ (.nil ?_)))
  refine ⟨i+1,⟨rfl,rfl,rfl,trivial⟩,⟨by (try dsimp only); omega,fun j hj=>?_,hS⟩,by (try dsimp only); omega⟩
  rcases Yl j i with h1 | h1
  ·exact hsm j h1
  ·have e:j=i:=by omega
   subst e
   rw [hx0,hy0,show x=y by simpa using hb25]
 have hc14:=hb14; try simp only [Y4] at hc14
 refine .exit (.seq (.q 1 rfl (.ret (Xg Tryz.results19 rfl ?_))))
 refine ⟨_,rfl,congrArg Value.bool (decide_eq_true ?_).symm,hS⟩
 refine Y26 fun j=>?_
 rcases Yl j i with h1 | h1
 ·exact hsm j h1
 ·rw [Y1m (by omega),Y1m (by omega)]
theorem X8t {I:Im} {a:Option Addr} {l:List Nt} (h:RS I a 4 l.length (X6 X3 l)) (k:Nat) (hk:k≤l.length):RS I a 4 (l.take k).length (X6 X3 (l.take k)):=by
 refine ⟨Xu (cells:=X3) (s:=4) (fun _=>rfl) _,fun h0=>?_⟩
 obtain ⟨p,rfl,hA⟩:=h.2 (by rw [Y10] at h0; omega)
 refine ⟨p,rfl,?_⟩
 have h9:=X2n hA (k*4)
 have e:=X7f (cells:=X3) (s:=4) (fun _=>rfl) l [] (k:=k) hk
 rw [Y8] at e
 rw [e] at h9; exact h9
theorem Xcr {I:Im} {p:Addr} {l:List Nt} (h:RS I (some p) 4 l.length (X6 X3 l)) (k c:Nat) (hk:k≤l.length) (hc:l.length≤c):∃ q,sliced (some p) k l.length c 4=.slice (some q) (l.drop k).length (c - k)∧RS I (some q) 4 (l.drop k).length (X6 X3 (l.drop k)):=by
 have hlen:=Xu (cells:=X3) (s:=4) (fun _=>rfl) (l.drop k)
 unfold sliced
 rw [Ya] at *
 by_cases e:c=k
 ·refine ⟨p,by rw [if_pos e],hlen,fun h0=>by omega⟩
 ·refine ⟨p.add (k*4),by rw [if_neg e]; rfl,hlen,fun h0=>⟨_,rfl,?_⟩⟩
  obtain ⟨p',hp',hA⟩:=h.2 (by omega)
  cases hp'
  have h9:=hA.add (k*4)
  have e2:=X6w (cells:=X3) (s:=4) (fun _=>rfl) l [] (k:=k) hk
  rw [Y8,Y8] at e2
  rw [e2] at h9; exact h9
theorem X9y (xb:Nat) (x y z:Nat) (tr:Int) (a:Option Addr) (c:Nat) (q:List Nt) (hq:q.length≤64) (B w:World) (I:Im) (hR:RS I a 4 q.length (X6 X3 q)) (hc:q.length≤c) (la:Option Addr) (lc:Nat) (l:List Nt) (hl:l.length≤70) (hls:∀ n∈l,n.ticket.length≤60∧n.url.length≤120) (hlc:l.length≤lc) (hRl:RS I la 4 l.length (X6 X3 l)) (As:List Xe) (hS:Sat B w I (blk xb [F64 x,F64 y,F64 z,I64 tr,.slice a q.length c] 51::As)) :
  Calls Tryz.prog 14 [ptr xb 0,.slice la l.length lc].toArray w (Ret fun v w'=>∃ J a2 c2,v=I64 ((X2z q l).2:Nat)∧Le I J∧RS J a2 4 (X2z q l).1.length (X6 X3 (X2z q l).1)∧(X2z q l).1.length≤c2∧Sat B w' J (blk xb [F64 x,F64 y,F64 z,I64 tr,.slice a2 (X2z q l).1.length c2] 51::As)):=by
 refine calls Tryz.func14 rfl Tryz.ntmps14 rfl (.seq (.q 1 rfl (.seq (.seq (.q 1 rfl (.block ?_))))))
 have hS0:=hS; clear hS
 refine .loop (σ:=Nat) (fun i=>[(0,ptr xb 0),(1,.slice la l.length lc),(5,I64 (i:Nat))]) (fun i w=>i≤l.length∧(∀ (j:Nat) n,j<i→l[j]?=some n→Xp n=true)∧Sat B w I (blk xb [F64 x,F64 y,F64 z,I64 tr,.slice a q.length c] 51::As)) (fun i=>l.length - i) 0 ⟨rfl,rfl,rfl,trivial⟩ ⟨Yk _,fun _ _ h=>absurd h (by omega),hS0⟩ ?_
 rintro i w ⟨hi,hri,hS⟩
 change WC _ _ _ _ [(0,ptr xb 0),(1,.slice la l.length lc),(5,I64 (i:Nat))] w
 clear hS0
 refine .seq (.seq (.region (.run 4 rfl ⟨⟨_,Xt⟩,trivial⟩ (.nil ?_))))
 refine WC.cond rfl (fun hb11=>?_) (fun hb11=>?_)
 ·
  have hc11:=hb11; try simp only [Y4] at hc11
  refine .skip (.seq (.block (.seq ?_)))
  obtain ⟨n,hn⟩:∃ n,l[i]?=some n:=⟨_,Y1 (by omega)⟩
  obtain ⟨p,hp9,hx⟩:=X1n (cells:=X3) (s:=4) (fun _=>rfl) hRl hn
  have hns:=hls n (Yc hn)
  subst hp9
  have hdr:l.drop i=n::l.drop (i+1):=by rw [Yo (by omega),(Y0.1 hn).2]
  refine .t 2 rfl ?_
  first | refine WL.val (.indexAddr (.of rfl) (.of rfl) (by omega) (by omega) Xt X7) rfl ?_ | refine WL.val (.indexAddrI (.of rfl) (.of rfl) (by omega) (by omega) Xt X7) rfl ?_
  refine .val (.ldsI (us:=X3 n) (.of rfl) hS hx Xh X7 rfl (fun _ _ h=>h)) rfl (.call Tryz.func27 rfl (X0 (.of rfl) X1) rfl (X72 n (by omega) (by omega) B _ I _ hS) ?_)
  clear hS
  rintro _ w ⟨rfl,hS⟩
  refine .q 1 rfl (.nil (.seq (.q 2 rfl ?_)))
  refine WC.cond rfl (fun hb20=>?_) (fun hb20=>?_)
  ·
   have hc20:=hb20; try simp only [Y4] at hc20
   refine .seq (.q 1 rfl (.ret (Xg Qr14 rfl ?_)))
   have hp:X2z q l=(q,1):=by
    unfold X2z
    rw [if_pos]
    exact List.any_eq_true.2 ⟨n,Yc hn,by simpa using hb20⟩
   rw [hp]
   exact ⟨_,rfl,I,a,c,rfl,Le.refl _,hR,hc,hS⟩
  have hc20:=hb20; try simp only [Y4] at hc20
  refine .skip (.region (.run 3 rfl ⟨⟨by omega,by omega⟩,trivial⟩ (.nil ?_)))
  refine ⟨i+1,⟨rfl,rfl,rfl,trivial⟩,⟨by (try dsimp only); omega,fun j m hj hm=>?_,hS⟩,by (try dsimp only); omega⟩
  rcases Yl j i with h1 | h1
  ·exact hri j m h1 hm
  ·have e:j=i:=by omega
   subst e
   rw [hn] at hm; cases hm
   simpa using hb20
 have hc11:=hb11; try simp only [Y4] at hc11
 refine .exit (.seq (.seq (.q 1 rfl (.block ?_))))
 have hil:i=l.length:=by omega
 rw [hil] at hri
 have hS0:=hS; clear hS
 refine .loop (σ:=Nat) (fun i=>[(0,ptr xb 0),(1,.slice la l.length lc),(7,I64 (i:Nat))]) (fun i w=>i≤l.length∧Xa0 q l=Xa0 (q ++ l.take i) (l.drop i)∧Sat B w I (blk xb [F64 x,F64 y,F64 z,I64 tr,.slice a q.length c] 51::As)) (fun i=>l.length - i) 0 ⟨rfl,rfl,rfl,trivial⟩ ⟨Yk _,by simp,hS0⟩ ?_
 rintro i w ⟨hi,hdup,hS⟩
 change WC _ _ _ _ [(0,ptr xb 0),(1,.slice la l.length lc),(7,I64 (i:Nat))] w
 clear hS0
 refine .seq (.seq (.region (.run 4 rfl ⟨⟨_,Xt⟩,trivial⟩ (.nil ?_))))
 refine WC.cond rfl (fun hb24=>?_) (fun hb24=>?_)
 ·
  have hc24:=hb24; try simp only [Y4] at hc24
  refine .skip (.seq (.block (.seq ?_)))
  obtain ⟨n,hn⟩:∃ n,l[i]?=some n:=⟨_,Y1 (by omega)⟩
  obtain ⟨p,hp9,hx⟩:=X1n (cells:=X3) (s:=4) (fun _=>rfl) hRl hn
  have hns:=hls n (Yc hn)
  subst hp9
  have hdr:l.drop i=n::l.drop (i+1):=by rw [Yo (by omega),(Y0.1 hn).2]
  have htl:(l.take i).length=i:=by rw [Y10]; omega
  have hRt:=X8t hRl i (by omega)
  refine .drawn (fun w=>∃ R,Sat B w I (blk xb [F64 x,F64 y,F64 z,I64 tr,.slice a q.length c] 51::R)) (fun j=>!([].contains j)) (by kernel_rfl) ?_
  replace hS:=hS.drew; generalize w.drew=w at hS ⊢
  have hH:∃ R,Sat B w I (blk xb [F64 x,F64 y,F64 z,I64 tr,.slice a q.length c] 51::R):=⟨_,(hS.pick 0 rfl)⟩
  refine .tp (i:=0) rfl (by kernel_rfl) (fun w=>(.move (.of rfl))) rfl (.tp (i:=1) rfl (by kernel_rfl) (fun w=>(.nilCheck (.of rfl))) rfl ?_)
  refine WD.tp (i:=2) rfl (by kernel_rfl) (fun w=>(by first | exact .fieldAddr 4 (.of rfl) X1v rfl rfl Xv rfl | exact .fieldAddrI 4 (.of rfl) X1v rfl rfl Xv rfl)) rfl ?_
  refine .tk (i:=3) rfl (by kernel_rfl) hH (fun w ⟨R,hS⟩=>(.ld (.of rfl) hS (k:=0) rfl X1r rfl)) rfl (.tp (i:=4) rfl (by kernel_rfl) (fun w=>(.move (.of rfl))) rfl (.tp (i:=5) rfl (by kernel_rfl) (fun w=>(.move (.of rfl))) rfl ?_))
  refine WD.tp (i:=6) rfl (by kernel_rfl) (fun w=>(by first | exact .indexAddr (.of rfl) (.of rfl) (by omega) (by omega) Xt X7 | exact .indexAddrI (.of rfl) (.of rfl) (by omega) (by omega) Xt X7)) rfl ?_
  refine WD.tp (i:=7) rfl (by kernel_rfl) (fun w=>(by first | exact .fieldAddr 0 (.of rfl) Xj rfl rfl Qs9 rfl | exact .fieldAddrI 0 (.of rfl) Xj rfl rfl Qs9 rfl)) rfl ?_
  refine .tk (i:=8) rfl (by kernel_rfl) hH (fun w ⟨R,hS⟩=>.ldI (.of rfl) hS hx Qg9 rfl) rfl ?_
  refine WD.branch [9] (by kernel_rfl) rfl (WO.cons rfl ?_ (WO.nil))
  refine .call Qf57 rfl (X0 (.of rfl) (X0 (.of rfl) X1)) rfl (X4y a c q (by omega) n.ticket B _ I hR _ hS) ?_
  clear hS
  rintro _ w ⟨rfl,hS⟩
  refine .nil ?_
  clear hH
  have hH:∃ R,Sat B w I (blk xb [F64 x,F64 y,F64 z,I64 tr,.slice a q.length c] 51::R):=⟨_,(hS.pick 0 rfl)⟩
  refine And.intro (by intro _ _; exact hH) ?_
  refine .tp (i:=10) rfl (by kernel_rfl) (fun w=>(.geq (.of rfl) (.of rfl))) rfl (.tp (i:=11) rfl (by kernel_rfl) (fun w=>(.move (.of rfl))) rfl (.tg (i:=12) rfl (by kernel_rfl) hH rfl rfl (fun hg1 w ⟨R,hS⟩=>(.move (.of rfl))) rfl (.tg (i:=13) rfl (by kernel_rfl) hH rfl rfl (fun hg1 w ⟨R,hS⟩=>(.move (.of rfl))) rfl (.tg (i:=14) rfl (by kernel_rfl) hH rfl rfl (fun hg1 w ⟨R,hS⟩=>.slcTo (.gd hg1 rfl) (.gd hg1 rfl) (by omega) (by omega) Xt X7) rfl ?_))))
  rw [show ((i:Nat):Int).toNat=(l.take i).length by rw [htl,Y9],X2b]
  refine .tg (i:=15) rfl (by kernel_rfl) hH rfl rfl (fun hg1 w ⟨R,hS⟩=>(.move (.of rfl))) rfl (.tg (i:=16) rfl (by kernel_rfl) hH rfl rfl (fun hg1 w ⟨R,hS⟩=>(.move (.of rfl))) rfl ?_)
  refine WD.tg (i:=17) rfl (by kernel_rfl) hH rfl rfl (fun hg1 w ⟨R,hS⟩=>(by first | exact .indexAddr (.gd hg1 rfl) (.gd hg1 rfl) (by (try simp only [Y4] at hg1); omega) (by (try simp only [Y4] at hg1); omega) Xt X7 | exact .indexAddrI (.gd hg1 rfl) (.gd hg1 rfl) (by (try simp only [Y4] at hg1); omega) (by (try simp only [Y4] at hg1); omega) Xt X7)) rfl ?_
  refine WD.tg (i:=18) rfl (by kernel_rfl) hH rfl rfl (fun hg1 w ⟨R,hS⟩=>(by first | exact .fieldAddr 0 (.gd hg1 rfl) Xj rfl rfl Qs9 rfl | exact .fieldAddrI 0 (.gd hg1 rfl) Xj rfl rfl Qs9 rfl)) rfl ?_
  refine .tg (i:=19) rfl (by kernel_rfl) hH rfl rfl (fun hg1 w ⟨R,hS⟩=>.ldI (.gd hg1 rfl) hS hx Qg9 rfl) rfl ?_
  refine WD.branch [20] (by kernel_rfl) rfl (WO.cons rfl ?_ (WO.nil))
  refine .gcall (T:=fun w=>Sat B w I _) rfl rfl rfl Qf57 rfl (fun hg1=>(X0 (.gd hg1 rfl) (X0 (.gd hg1 rfl) X1))) rfl (fun hg1=>X4y (some p) lc (l.take i) (by omega) n.ticket B _ I hRt _ hS) hS ?_
  clear hS; rintro w hS
  refine .nil ?_
  clear hH
  have hH:∃ R,Sat B w I (blk xb [F64 x,F64 y,F64 z,I64 tr,.slice a q.length c] 51::R):=⟨_,(hS.pick 0 rfl)⟩
  refine And.intro (by intro _ _; exact hH) ?_
  refine .tg (i:=21) rfl (by kernel_rfl) hH rfl rfl (fun hg1 w ⟨R,hS⟩=>(.geq (.gd hg1 rfl) (.of rfl))) rfl (.tp (i:=22) rfl (by kernel_rfl) (fun w=>(.por (.of rfl) (.of rfl) (.of rfl))) rfl (.done (by kernel_rfl) ?_))
  refine WC.cond rfl (fun hb49=>?_) (fun hb49=>?_)
  ·
   have hc49:=hb49; try simp only [Y4] at hc49
   refine .seq (.q 1 rfl (.ret (Xg Qr14 rfl ?_)))
   have hyes:((q ++ l.take i).any fun x=>x.ticket == n.ticket)=true:=by
    have h9:=hb49
    unfold ixN at h9
    rw [List.any_append,← Xw _ q 0,← Xw _ (l.take i) 0]
    exact h9
   have hany0:(l.any fun n=>!Xp n)=false:=Y2n.2 (fun n hn=>by
    obtain ⟨j,hj⟩:=Yp.1 hn
    have:=hri j n (Y0.1 hj).1 hj
    simp [this])
   have hp:X2z q l=(q,7):=by unfold X2z; rw [if_neg (by rw [hany0]; decide),if_pos (by rw [hdup,hdr,Xa0,hyes,Bool.true_or])]
   rw [hp]
   exact ⟨_,rfl,I,a,c,rfl,Le.refl _,hR,hc,hS⟩
  have hc49:=hb49; try simp only [Y4] at hc49
  refine .skip (.region (.run 3 rfl ⟨⟨by omega,by omega⟩,trivial⟩ (.nil ?_)))
  have hno:((q ++ l.take i).any fun x=>x.ticket == n.ticket)=false:=by
   have h9:=hb49
   unfold ixN at h9
   rw [Yj] at h9
   rw [List.any_append,← Xw _ q 0,← Xw _ (l.take i) 0]
   rw [h9.1,h9.2]; rfl
  refine ⟨i+1,⟨rfl,rfl,rfl,trivial⟩,⟨by (try dsimp only); omega,?_,hS⟩,by (try dsimp only); omega⟩
  rw [hdup,hdr,Xa0,hno,Y2i,Y19,hn,Y1c,Yg]
 have hc24:=hb24; try simp only [Y4] at hc24
 refine .exit (.seq (.seq ?_))
 have hil:i=l.length:=by omega
 subst hil
 have hany0:(l.any fun n=>!Xp n)=false:=Y2n.2 (fun n hn=>by
  obtain ⟨j,hj⟩:=Yp.1 hn
  have:=hri j n (Y0.1 hj).1 hj
  simp [this])
 have hdup0:Xa0 q l=false:=by rw [hdup,Y2a]; rfl
 refine .t 2 rfl ?_
 first | refine WL.val (.fieldAddr 4 (.of rfl) X1v rfl rfl Xv rfl) rfl ?_ | refine WL.val (.fieldAddrI 4 (.of rfl) X1v rfl rfl Xv rfl) rfl ?_
 refine .val (.ld (.of rfl) hS (k:=0) rfl X1r rfl) rfl (.run 5 rfl ⟨⟨_,Xt⟩,⟨_,Xt⟩,⟨by omega,by omega⟩,trivial⟩ (.nil ?_))
 refine WC.cond rfl (fun hb58=>?_) (fun hb58=>?_)
 ·
  have hc58:=hb58; try simp only [Y4] at hc58
  refine .seq (.q 1 rfl (.ret (Xg Qr14 rfl ?_)))
  have hp:X2z q l=(q,5):=by unfold X2z; rw [if_neg (by rw [hany0]; decide),if_neg (by rw [hdup0]; decide),if_pos (by have h9:=hc58; omega)]
  rw [hp]
  exact ⟨_,rfl,I,a,c,rfl,Le.refl _,hR,hc,hS⟩
 have hc58:=hb58; try simp only [Y4] at hc58
 refine .skip (.seq (.t 1 rfl (.buildSlice (cs:=[]) hS X5 Xt X7 X50 rfl rfl rfl rfl ?_)))
 clear hS; intro b60 w hS
 refine .q 2 rfl ?_
 first | refine WL.val (.fieldAddr 4 (.of rfl) X1v rfl rfl Xv rfl) rfl ?_ | refine WL.val (.fieldAddrI 4 (.of rfl) X1v rfl rfl Xv rfl) rfl ?_
 first | refine WL.val (.ld (.of rfl) hS (k:=0) rfl X1r rfl) rfl ?_ | refine WL.val (.ld (.of rfl) hS (k:=1) rfl X1r rfl) rfl ?_
 replace hS:=hS.vecOf (k:=0) (E:=45) (size:=4) (n:=0) rfl rfl (Yk _)
 try dsimp only [List.set] at hS
 refine WL.appendF (size:=4) (bytes:=48) hS (.of rfl) (.of rfl) hR (k:=0) rfl Xt (i:=Tryz.t45) (by kernel_rfl) rfl rfl rfl rfl (X1a (fun r=>rfl) q) ⟨by omega,by unfold maxLen; omega⟩ rfl ?_
 clear hS; intro v65 w hS
 rw [Y5,Y6] at hS
 try dsimp only [List.set] at hS
 refine .q 1 rfl ?_
 refine WL.appendF (size:=4) (bytes:=48) hS (.of rfl) (.of rfl) hRl (k:=0) rfl Xt (i:=Tryz.t45) (by kernel_rfl) rfl rfl rfl rfl (X1a (fun r=>rfl) l) ⟨by omega,by unfold maxLen; omega⟩ rfl ?_
 clear hS; intro v67 w hS
 try dsimp only [List.set] at hS
 obtain ⟨va,vc,rfl,hvc,_⟩:=hS.vecSlice (k:=0) rfl
 refine .q 1 rfl ?_
 first | refine WL.val (.fieldAddr 4 (.of rfl) X1v rfl rfl Xv rfl) rfl ?_ | refine WL.val (.fieldAddrI 4 (.of rfl) X1v rfl rfl Xv rfl) rfl ?_
 first | refine WL.st1 hS (k:=0) rfl (.of rfl) (.of rfl) rfl Xv (by simp) ?_ | refine WL.st1 hS (k:=1) rfl (.of rfl) (.of rfl) rfl Xv (by simp) ?_
 clear hS; intro w hS; try dsimp only [List.set] at hS
 refine .nil (.seq (.q 1 rfl (.ret (Xg Qr14 rfl ?_))))
 have hp:X2z q l=(q ++ l,0):=by unfold X2z; rw [if_neg (by rw [hany0]; decide),if_neg (by rw [hdup0]; decide),if_neg (by have h9:=hc58; omega)]
 rw [hp]
 have er:X6 X3 q ++ X6 X3 l=X6 X3 (q ++ l):=by simp [X6]
 have el:q.length+l.length=(q ++ l).length:=by simp
 rw [er,el] at hS
 rw [el] at hvc
 obtain ⟨J,hJ,hRS,hS⟩:=hS.freezeVec (k:=0) rfl
 exact ⟨_,rfl,J,va,vc,rfl,hJ,hRS,hvc,hS⟩
theorem X3w (xb:Nat) (x y z:Nat) (tr:Int) (a:Option Addr) (c:Nat) (q:List Nt) (hq:q.length≤64) (B w:World) (I:Im) (hR:RS I a 4 q.length (X6 X3 q)) (hc:q.length≤c) (now:Int) (As:List Xe) (hS:Sat B w I (blk xb [F64 x,F64 y,F64 z,I64 tr,.slice a q.length c] 51::As)) :
  Calls Tryz.prog 18 [ptr xb 0,I64 now].toArray w (Ret fun v w'=>v=.tuple #[.agg (X3 (X9 q now).1).toArray,.bool (X9 q now).2]∧Sat B w' I (blk xb [F64 x,F64 y,F64 z,I64 tr,.slice a q.length c] 51::As)):=by
 refine calls Tryz.func18 rfl Tryz.ntmps18 rfl (.seq (.region (.allocA (cs:=[_,_,_,_]) hS X50 rfl ?_)))
 clear hS; intro b4 w hS
 refine .q 1 rfl (.nil (.seq (.q 1 rfl (.seq (.seq (.q 1 rfl (.block ?_)))))))
 have hS0:=hS; clear hS
 refine .loop (σ:=Nat×Int×Nt) (fun ⟨i,b,m⟩=>[(0,ptr xb 0),(1,I64 now),(4,ptr b4 0),(6,I64 b),(7,I64 (i:Nat))]) (fun ⟨i,b,m⟩ w=>i≤q.length∧(b=-1∧X21 none (q.take i)=none∨0≤b∧q[b.toNat]?=some m∧X21 none (q.take i)=some m)∧Sat B w I (blk b4 [S [],S [],I64 0,I64 0] 45::blk xb [F64 x,F64 y,F64 z,I64 tr,.slice a q.length c] 51::As)) (fun ⟨i,b,m⟩=>q.length - i) (0,-1,nt0) ⟨rfl,rfl,rfl,rfl,rfl,trivial⟩ ⟨Yk _,.inl ⟨rfl,rfl⟩,hS0⟩ ?_
 rintro ⟨i,b,m⟩ w ⟨hi,hbb,hS⟩
 change WC _ _ _ _ [(0,ptr xb 0),(1,I64 now),(4,ptr b4 0),(6,I64 b),(7,I64 (i:Nat))] w
 clear hS0
 refine .seq (.seq (.t 3 rfl ?_))
 first | refine WL.val (.fieldAddr 4 (.of rfl) X1v rfl rfl Xv rfl) rfl ?_ | refine WL.val (.fieldAddrI 4 (.of rfl) X1v rfl rfl Xv rfl) rfl ?_
 first | refine WL.val (.ld (.of rfl) hS (k:=0) rfl X1r rfl) rfl ?_ | refine WL.val (.ld (.of rfl) hS (k:=1) rfl X1r rfl) rfl ?_
 refine .run 2 rfl ⟨⟨_,Xt⟩,trivial⟩ (.nil ?_)
 refine WC.cond rfl (fun hb14=>?_) (fun hb14=>?_)
 ·
  have hc14:=hb14; try simp only [Y4] at hc14
  refine .skip (.seq (.block (.seq ?_)))
  obtain ⟨n,hn⟩:∃ n,q[i]?=some n:=⟨_,Y1 (by omega)⟩
  have hxb:0≤b→At I ((a.getD (ad 0 0)).add (b.toNat*4)) [S m.ticket,S m.url,I64 m.tries,I64 m.next]:=fun h0=>by
   rcases hbb with ⟨h1,_⟩ | ⟨_,h2,_⟩
   ·omega
   ·obtain ⟨p,hp9,hx⟩:=X1n (cells:=X3) (s:=4) (fun _=>rfl) hR h2
    subst hp9
    exact hx
  have hbl:b<q.length:=by
   rcases hbb with ⟨h1,_⟩ | ⟨_,h2,_⟩
   ·omega
   ·have:=(Y0.1 h2).1; omega
  obtain ⟨p,hp9,hx⟩:=X1n (cells:=X3) (s:=4) (fun _=>rfl) hR hn
  subst hp9
  have hst:X21 none (q.take (i+1))=X21 (X21 none (q.take i)) [n]:=by rw [Y19,hn,Y1c,X37]
  refine .quiet (by kernel_rfl) (by kernel_rfl) hS (.val (fun w hS=>(.move (.of rfl))) rfl (.val (fun w hS=>(.lss (.of rfl) (.of rfl))) rfl (.val (fun w hS=>(.move (.of rfl))) rfl (.gval rfl rfl rfl (fun hg1 w hS=>(.move (.of rfl))) rfl (.gval rfl rfl rfl (fun hg1 w hS=>(.nilCheck (.gd hg1 rfl))) rfl ?_)))))
  refine WQ.gval rfl rfl rfl (fun hg1 w hS=>(by first | exact .fieldAddr 4 (.gd hg1 rfl) X1v rfl rfl Xv rfl | exact .fieldAddrI 4 (.gd hg1 rfl) X1v rfl rfl Xv rfl)) rfl ?_
  refine WQ.gval rfl rfl rfl (fun hg1 w hS=>(by first | exact (.ld (.gd hg1 rfl) hS (k:=0) rfl X1r rfl) | exact (.ld (.gd hg1 rfl) hS (k:=1) rfl X1r rfl))) rfl ?_
  refine .gval rfl rfl rfl (fun hg1 w hS=>(.move (.of rfl))) rfl ?_
  refine WQ.gval rfl rfl rfl (fun hg1 w hS=>(by first | exact .indexAddr (.gd hg1 rfl) (.gd hg1 rfl) (by (try simp only [Y4] at hg1); omega) (by (try simp only [Y4] at hg1); omega) Xt X7 | exact .indexAddrI (.gd hg1 rfl) (.gd hg1 rfl) (by (try simp only [Y4] at hg1); omega) (by (try simp only [Y4] at hg1); omega) Xt X7)) rfl ?_
  refine WQ.gval rfl rfl rfl (fun hg1 w hS=>(by first | exact .fieldAddr 3 (.gd hg1 rfl) Xj rfl rfl Qs3 rfl | exact .fieldAddrI 3 (.gd hg1 rfl) Xj rfl rfl Qs3 rfl)) rfl ?_
  refine .gval rfl rfl rfl (fun hg1 w hS=>.ldI (.gd hg1 rfl) hS (At.add hx 3) Qg3 rfl) rfl (.gval rfl rfl rfl (fun hg1 w hS=>(.move (.of rfl))) rfl (.gval rfl rfl rfl (fun hg1 w hS=>(.nilCheck (.gd hg1 rfl))) rfl ?_))
  refine WQ.gval rfl rfl rfl (fun hg1 w hS=>(by first | exact .fieldAddr 4 (.gd hg1 rfl) X1v rfl rfl Xv rfl | exact .fieldAddrI 4 (.gd hg1 rfl) X1v rfl rfl Xv rfl)) rfl ?_
  refine WQ.gval rfl rfl rfl (fun hg1 w hS=>(by first | exact (.ld (.gd hg1 rfl) hS (k:=0) rfl X1r rfl) | exact (.ld (.gd hg1 rfl) hS (k:=1) rfl X1r rfl))) rfl ?_
  refine .gval rfl rfl rfl (fun hg1 w hS=>(.move (.of rfl))) rfl ?_
  refine WQ.gval rfl rfl rfl (fun hg1 w hS=>(by first | exact .indexAddr (.gd hg1 rfl) (.gd hg1 rfl) (by (try simp only [Y4] at hg1); omega) (by (try simp only [Y4] at hg1); omega) Xt X7 | exact .indexAddrI (.gd hg1 rfl) (.gd hg1 rfl) (by (try simp only [Y4] at hg1); omega) (by (try simp only [Y4] at hg1); omega) Xt X7)) rfl ?_
  refine WQ.gval rfl rfl rfl (fun hg1 w hS=>(by first | exact .fieldAddr 3 (.gd hg1 rfl) Xj rfl rfl Qs3 rfl | exact .fieldAddrI 3 (.gd hg1 rfl) Xj rfl rfl Qs3 rfl)) rfl ?_
  refine WQ.gval rfl rfl rfl (fun hg1 w hS=>.ldI (.gd hg1 rfl) hS (At.add (hxb (by simp at hg1; omega)) 3) Qg3 rfl) rfl ?_
  refine .gval rfl rfl rfl (fun hg1 w hS=>(.lss (.gd hg1 rfl) (.gd hg1 rfl))) rfl (.val (fun w hS=>(.por (.of rfl) (.of rfl) (.of rfl))) rfl (.nil ?_))
  clear hS; intro w hS
  refine WC.cond rfl (fun hb37=>?_) (fun hb37=>?_)
  ·
   have hc37:=hb37; try simp only [Y4] at hc37
   refine .q 2 rfl (.region (.run 3 rfl ⟨⟨by omega,by omega⟩,trivial⟩ (.nil ?_)))
   refine ⟨(i+1,(i:Int),n),⟨rfl,rfl,rfl,rfl,rfl,trivial⟩,⟨by (try dsimp only); omega,.inr ⟨by (try dsimp only); omega,by (try dsimp only); rw [Y9]; exact hn,?_⟩,((hS.pick 1 rfl).pick 1 rfl)⟩,by (try dsimp only); omega⟩
   rw [hst]
   rcases hbb with ⟨h1,h2⟩ | ⟨h1,h2,h3⟩
   ·rw [h2]; rfl
   ·rw [h3]
    show X21 (some (if n.next<m.next then n else m)) []=_
    have h9:=hb37
    simp only [Y1a,decide_eq_true_eq] at h9
    rw [if_pos (by omega)]; rfl
  have hc37:=hb37; try simp only [Y4] at hc37
  refine .skip (.region (.run 3 rfl ⟨⟨by omega,by omega⟩,trivial⟩ (.nil ?_)))
  refine ⟨(i+1,b,m),⟨rfl,rfl,rfl,rfl,rfl,trivial⟩,⟨by (try dsimp only); omega,.inr ?_,((hS.pick 1 rfl).pick 1 rfl)⟩,by (try dsimp only); omega⟩
  have h9:=hb37
  simp only [Yj,decide_eq_false_iff_not] at h9
  rcases hbb with ⟨h1,h2⟩ | ⟨h1,h2,h3⟩
  ·omega
  ·refine ⟨h1,h2,?_⟩
   rw [hst,h3]
   show X21 (some (if n.next<m.next then n else m)) []=_
   rw [if_neg h9.2]; rfl
 have hc14:=hb14; try simp only [Y4] at hc14
 refine .exit (.seq (.seq ?_))
 have hxb:0≤b→At I ((a.getD (ad 0 0)).add (b.toNat*4)) [S m.ticket,S m.url,I64 m.tries,I64 m.next]:=fun h0=>by
  rcases hbb with ⟨h1,_⟩ | ⟨_,h2,_⟩
  ·omega
  ·obtain ⟨p,hp9,hx⟩:=X1n (cells:=X3) (s:=4) (fun _=>rfl) hR h2
   subst hp9
   exact hx
 have hbl:b<q.length:=by
  rcases hbb with ⟨h1,_⟩ | ⟨_,h2,_⟩
  ·omega
  ·have:=(Y0.1 h2).1; omega
 refine .t 3 rfl (.gval rfl rfl (fun hg1=>(.move (.of rfl))) rfl (.gval rfl rfl (fun hg1=>(.nilCheck (.gd hg1 rfl))) rfl ?_))
 refine WL.gval rfl rfl (fun hg1=>(by first | exact .fieldAddr 4 (.gd hg1 rfl) X1v rfl rfl Xv rfl | exact .fieldAddrI 4 (.gd hg1 rfl) X1v rfl rfl Xv rfl)) rfl ?_
 refine WL.gval rfl rfl (fun hg1=>(by first | exact (.ld (.gd hg1 rfl) hS (k:=0) rfl X1r rfl) | exact (.ld (.gd hg1 rfl) hS (k:=1) rfl X1r rfl))) rfl ?_
 refine .gval rfl rfl (fun hg1=>(.move (.of rfl))) rfl ?_
 refine WL.gval (v:=.pointer (some ((a.getD (ad 0 0)).add (b.toNat*4)))) rfl rfl (fun hg1=>by
  cases a with
  | none=>exfalso; obtain ⟨p,h9,_⟩:=hR.2 (by simp at hg1; omega); cases h9
  | some p=>exact .indexAddrI (.gd hg1 rfl) (.gd hg1 rfl) (by simp at hg1; omega) (by omega) Xt X7) rfl ?_
 refine WL.gval rfl rfl (fun hg1=>(by first | exact .fieldAddr 3 (.gd hg1 rfl) Xj rfl rfl Qs3 rfl | exact .fieldAddrI 3 (.gd hg1 rfl) Xj rfl rfl Qs3 rfl)) rfl ?_
 refine WL.gval rfl rfl (fun hg1=>.ldI (.gd hg1 rfl) hS (At.add (hxb (by simp at hg1; omega)) 3) Qg3 rfl) rfl ?_
 refine .gval rfl rfl (fun hg1=>(.move (.of rfl))) rfl (.gval rfl rfl (fun hg1=>(.gtr (.gd hg1 rfl) (.gd hg1 rfl))) rfl (.val (.por (.of rfl) (.of rfl) (.of rfl)) rfl (.nil ?_)))
 refine WC.cond rfl (fun hb52=>?_) (fun hb52=>?_)
 ·
  have hc52:=hb52; try simp only [Y4] at hc52
  refine .seq (.region (.val (.build (cs:=[_,_,_,_]) X5 X2l rfl) rfl ?_))
  first | refine WL.stA hS (k:=0) rfl (.of rfl) (.of rfl) rfl X7 rfl (by simp) ?_ | refine WL.stA hS (k:=1) rfl (.of rfl) (.of rfl) rfl X7 rfl (by simp) ?_
  clear hS; intro w hS; try dsimp only [List.set] at hS
  try simp only [Yb,Y6,Y8,Y3,Y7,Yd,Y5] at hS
  refine .q 1 rfl (.nil (.ret ?_))
  first | refine Xs (b:=_) (cs:=[_,_,_,_]) Qr18 hS (k:=0) rfl Xh X7 rfl rfl rfl ?_ | refine Xs (b:=_) (cs:=[_,_,_,_]) Qr18 hS (k:=1) rfl Xh X7 rfl rfl rfl ?_
  refine ⟨_,rfl,?_,((hS.pick 1 rfl).drop (k:=1) rfl)⟩
  have hiq:i=q.length:=by omega
  rw [hiq,Y20] at hbb
  have h9:=hb52
  simp only [Y1a,decide_eq_true_eq] at h9
  unfold X9
  rcases hbb with ⟨h1,h2⟩ | ⟨h1,h2,h3⟩
  ·rw [h2]; rfl
  ·rw [h3]
   dsimp only
   rw [if_pos (by omega)]; rfl
 have hc52:=hb52; try simp only [Y4] at hc52
 refine .skip (.seq ?_)
 obtain ⟨hb0,hqm⟩:0≤b∧q[b.toNat]?=some m:=by
  have h9:=hb52
  simp only [Yj,decide_eq_false_iff_not] at h9
  rcases hbb with ⟨h1,_⟩ | ⟨h1,h2,_⟩
  ·omega
  ·exact ⟨h1,h2⟩
 obtain ⟨p,hp9,hx⟩:=X1n (cells:=X3) (s:=4) (fun _=>rfl) hR hqm
 subst hp9
 refine .t 2 rfl ?_
 first | refine WL.val (.fieldAddr 4 (.of rfl) X1v rfl rfl Xv rfl) rfl ?_ | refine WL.val (.fieldAddrI 4 (.of rfl) X1v rfl rfl Xv rfl) rfl ?_
 first | refine WL.val (.ld (.of rfl) hS (k:=0) rfl X1r rfl) rfl ?_ | refine WL.val (.ld (.of rfl) hS (k:=1) rfl X1r rfl) rfl ?_
 refine .q 1 rfl ?_
 first | refine WL.val (.indexAddr (.of rfl) (.of rfl) (by omega) (by omega) Xt X7) rfl ?_ | refine WL.val (.indexAddrI (.of rfl) (.of rfl) (by omega) (by omega) Xt X7) rfl ?_
 refine .val (.ldsI (us:=X3 m) (.of rfl) hS hx Xh X7 rfl (fun _ _ h=>h)) rfl ?_
 first | refine WL.stA hS (k:=0) rfl (.of rfl) (.of rfl) rfl X7 rfl (by simp) ?_ | refine WL.stA hS (k:=1) rfl (.of rfl) (.of rfl) rfl X7 rfl (by simp) ?_
 clear hS; intro w hS; try dsimp only [List.set] at hS
 try simp only [Yb,Y6,Y8,Y3,Y7,Yd,Y5] at hS
 refine .q 1 rfl (.nil (.ret ?_))
 first | refine Xs (b:=_) (cs:=[_,_,_,_]) Qr18 hS (k:=0) rfl Xh X7 rfl rfl rfl ?_ | refine Xs (b:=_) (cs:=[_,_,_,_]) Qr18 hS (k:=1) rfl Xh X7 rfl rfl rfl ?_
 refine ⟨_,rfl,?_,((hS.pick 1 rfl).drop (k:=1) rfl)⟩
 have hiq:i=q.length:=by omega
 rw [hiq,Y20] at hbb
 have h9:=hb52
 simp only [Yj,decide_eq_false_iff_not] at h9
 unfold X9
 rcases hbb with ⟨h1,h2⟩ | ⟨h1,h2,h3⟩
 ·omega
 ·rw [h3]
  dsimp only
  rw [if_neg (by omega)]; rfl
theorem X4u (xb:Nat) (x y z:Nat) (tr:Int) (a:Option Addr) (c:Nat) (q:List Nt) (hq:q.length≤64) (B w:World) (I:Im) (hR:RS I a 4 q.length (X6 X3 q)) (hc:q.length≤c) (hqr:∀ n∈q,Xp n=true) (t:List UInt8) (ok:Bool) (now:Int) (hn0:0≤now) (hn1:now≤1099511627776) (As:List Xe) (hS:Sat B w I (blk xb [F64 x,F64 y,F64 z,I64 tr,.slice a q.length c] 51::As)) :
  Calls Tryz.prog 16 [ptr xb 0,S t,.bool ok,I64 now].toArray w (Ret fun v w'=>∃ J a2 c2,v=I64 ((X12 ⟨x,y,z,tr⟩ q t ok now).2:Nat)∧Le I J∧RS J a2 4 (X12 ⟨x,y,z,tr⟩ q t ok now).1.length (X6 X3 (X12 ⟨x,y,z,tr⟩ q t ok now).1)∧(X12 ⟨x,y,z,tr⟩ q t ok now).1.length≤c2∧Sat B w' J (blk xb [F64 x,F64 y,F64 z,I64 tr,.slice a2 (X12 ⟨x,y,z,tr⟩ q t ok now).1.length c2] 51::As)):=by
 refine calls Tryz.func16 rfl Tryz.ntmps16 rfl (.seq (.q 1 rfl (.seq (.t 2 rfl ?_))))
 first | refine WL.val (.fieldAddr 4 (.of rfl) X1v rfl rfl Xv rfl) rfl ?_ | refine WL.val (.fieldAddrI 4 (.of rfl) X1v rfl rfl Xv rfl) rfl ?_
 refine .val (.ld (.of rfl) hS (k:=0) rfl X1r rfl) rfl (.q 1 rfl (.call Qf57 rfl (X0 (.of rfl) (X0 (.of rfl) X1)) rfl (X4y a c q (by omega) t B _ I hR _ hS) ?_))
 clear hS
 rintro _ w ⟨rfl,hS⟩
 refine .q 1 rfl (.nil (.seq (.seq (.q 2 rfl ?_))))
 refine WC.cond rfl (fun hb20=>?_) (fun hb20=>?_)
 ·
  have hc20:=hb20; try simp only [Y4] at hc20
  refine .seq (.q 1 rfl (.ret (Xg Tryz.results16 rfl ?_)))
  have hd:X12 ⟨x,y,z,tr⟩ q t ok now=(q,6):=by
   unfold X12
   split
   ·rfl
   ·rw [if_pos (by have h9:=hc20; omega)]
  rw [hd]
  exact ⟨_,rfl,I,a,c,rfl,Le.refl _,hR,hc,hS⟩
 have hc20:=hb20; try simp only [Y4] at hc20
 refine .skip (.seq ?_)
 obtain ⟨j,n,hix,hnj⟩:∃ (j:Nat) (n:Nt),ixN q t=(j:Int)∧q[j]?=some n:=by
  rcases X2q (fun n:Nt=>n.ticket == t) q 0 with ⟨h,_⟩ | ⟨j,n,h1,h2,_⟩
  ·exfalso; have h9:=hc20; unfold ixN at h9; rw [h] at h9; omega
  ·exact ⟨j,n,by unfold ixN; rw [h1]; simp,h2⟩
 rw [hix]
 have hjl:=(Y0.1 hnj).1
 have hrn:=X1l (hqr n (Yc hnj))
 have hdq:X12 ⟨x,y,z,tr⟩ q t ok now=if ok=true∨Xbv ⟨x,y,z,tr⟩≤n.tries+1 then (q.eraseIdx j,0) else (q.set j (X13 ⟨x,y,z,tr⟩ n now),0):=by
  unfold X12
  rw [hix,Y9,hnj]
  dsimp only
  rw [if_neg (by omega)]
 obtain ⟨p,hp9,hx⟩:=X1n (cells:=X3) (s:=4) (fun _=>rfl) hR hnj
 subst hp9
 have hRt:=X8t hR j (by omega)
 have htl:(q.take j).length=j:=by rw [Y10]; omega
 obtain ⟨q3,hsl,hRd⟩:=Xcr hR (j+1) c (by omega) hc
 have hdl:(q.drop (j+1)).length=q.length - (j+1):=Ya ..
 refine .t 2 rfl ?_
 first | refine WL.val (.fieldAddr 4 (.of rfl) X1v rfl rfl Xv rfl) rfl ?_ | refine WL.val (.fieldAddrI 4 (.of rfl) X1v rfl rfl Xv rfl) rfl ?_
 refine .val (.ld (.of rfl) hS (k:=0) rfl X1r rfl) rfl (.q 1 rfl ?_)
 first | refine WL.val (.indexAddr (.of rfl) (.of rfl) (by omega) (by omega) Xt X7) rfl ?_ | refine WL.val (.indexAddrI (.of rfl) (.of rfl) (by omega) (by omega) Xt X7) rfl ?_
 rw [Y9]
 refine .val (.ldsI (us:=[S n.ticket,S n.url,I64 n.tries,I64 n.next]) (.of rfl) hS hx Xh X7 rfl (fun _ _ h=>h)) rfl (.allocA (cs:=[_,_,_,_]) hS X50 rfl ?_)
 clear hS; intro b10 w hS
 first | refine WL.stA hS (k:=0) rfl (.of rfl) (.of rfl) rfl X7 rfl (by simp) ?_ | refine WL.stA hS (k:=1) rfl (.of rfl) (.of rfl) rfl X7 rfl (by simp) ?_
 clear hS; intro w hS; try dsimp only [List.set] at hS
 try simp only [Yb,Y6,Y8,Y3,Y7,Yd,Y5] at hS
 refine .nil (.seq (.region (.buildSlice (cs:=[]) hS X5 Xt X7 X50 rfl rfl rfl rfl ?_)))
 clear hS; intro b28 w hS
 refine .q 2 rfl ?_
 first | refine WL.val (.fieldAddr 4 (.of rfl) X1v rfl rfl Xv rfl) rfl ?_ | refine WL.val (.fieldAddrI 4 (.of rfl) X1v rfl rfl Xv rfl) rfl ?_
 first | refine WL.val (.ld (.of rfl) hS (k:=0) rfl X1r rfl) rfl ?_ | refine WL.val (.ld (.of rfl) hS (k:=1) rfl X1r rfl) rfl ?_ | refine WL.val (.ld (.of rfl) hS (k:=2) rfl X1r rfl) rfl ?_
 refine .q 1 rfl (.val (.slcTo (.of rfl) (.of rfl) (by omega) (by omega) Xt X7) rfl ?_)
 rw [show ((j:Nat):Int).toNat=(q.take j).length by rw [htl,Y9],X2b]
 replace hS:=hS.vecOf (k:=0) (E:=45) (size:=4) (n:=0) rfl rfl (Yk _)
 try dsimp only [List.set] at hS
 refine WL.appendF (size:=4) (bytes:=48) hS (.of rfl) (.of rfl) hRt (k:=0) rfl Xt (i:=Tryz.t45) (by kernel_rfl) rfl rfl rfl rfl (X1a (fun r=>rfl) _) ⟨by omega,by unfold maxLen; omega⟩ rfl ?_
 clear hS; intro v35 w hS
 rw [Y5,Y6] at hS
 try dsimp only [List.set] at hS
 refine .q 1 rfl (.nil (.seq (.seq (.quiet (by kernel_rfl) (by kernel_rfl) hS (.val (fun w hS=>(.move (.of rfl))) rfl (.val (fun w hS=>(.move (.of rfl))) rfl ?_))))))
 refine WQ.gval rfl rfl rfl (fun hg1 w hS=>(by first | exact .fieldAddr 2 (.of rfl) Xj rfl rfl Qs3 rfl | exact .fieldAddrI 2 (.of rfl) Xj rfl rfl Qs3 rfl)) rfl ?_
 refine WQ.gval rfl rfl rfl (fun hg1 w hS=>(by first | exact (.ld (.gd hg1 rfl) hS (k:=0) rfl Qg3 rfl) | exact (.ld (.gd hg1 rfl) hS (k:=1) rfl Qg3 rfl) | exact (.ld (.gd hg1 rfl) hS (k:=2) rfl Qg3 rfl))) rfl ?_
 refine .gval rfl rfl rfl (fun hg1 w hS=>(.add (.gd hg1 rfl) (.of rfl) ⟨by omega,by omega⟩)) rfl (.gval rfl rfl rfl (fun hg1 w hS=>(.move (.of rfl))) rfl (.gval rfl rfl rfl (fun hg1 w hS=>(.nilCheck (.gd hg1 rfl))) rfl ?_))
 refine WQ.gval rfl rfl rfl (fun hg1 w hS=>(by first | exact .fieldAddr 3 (.gd hg1 rfl) X1v rfl rfl Qs3 rfl | exact .fieldAddrI 3 (.gd hg1 rfl) X1v rfl rfl Qs3 rfl)) rfl ?_
 refine WQ.gval rfl rfl rfl (fun hg1 w hS=>(by first | exact (.ld (.gd hg1 rfl) hS (k:=0) rfl Qg3 rfl) | exact (.ld (.gd hg1 rfl) hS (k:=1) rfl Qg3 rfl) | exact (.ld (.gd hg1 rfl) hS (k:=2) rfl Qg3 rfl))) rfl ?_
 refine .gval rfl rfl rfl (fun hg1 w hS=>(.min2 (.of rfl) (.gd hg1 rfl))) rfl (.gval rfl rfl rfl (fun hg1 w hS=>(.max2 (.of rfl) (.gd hg1 rfl))) rfl (.gval rfl rfl rfl (fun hg1 w hS=>(.geq (.gd hg1 rfl) (.gd hg1 rfl))) rfl (.val (fun w hS=>(.por (.of rfl) (.of rfl) (.of rfl))) rfl (.nil ?_))))
 clear hS; intro w hS
 refine WC.cond rfl (fun hb48=>?_) (fun hb48=>?_)
 ·
  have hc48:=hb48; try simp only [Y4] at hc48
  refine .seq (.t 4 rfl ?_)
  first | refine WL.val (.fieldAddr 4 (.of rfl) X1v rfl rfl Xv rfl) rfl ?_ | refine WL.val (.fieldAddrI 4 (.of rfl) X1v rfl rfl Xv rfl) rfl ?_
  first | refine WL.val (.ld (.of rfl) hS (k:=0) rfl X1r rfl) rfl ?_ | refine WL.val (.ld (.of rfl) hS (k:=1) rfl X1r rfl) rfl ?_ | refine WL.val (.ld (.of rfl) hS (k:=2) rfl X1r rfl) rfl ?_
  refine .run 2 rfl ⟨⟨by omega,by omega⟩,trivial⟩ (.val (.slcFrom (.of rfl) (.of rfl) (by omega) (by omega) Xt X7) rfl ?_)
  rw [show ((j:Int)+1).toNat=j+1 by omega,hsl]
  refine WL.appendF (size:=4) (bytes:=48) hS (.of rfl) (.of rfl) hRd (k:=0) rfl Xt (i:=Tryz.t45) (by kernel_rfl) rfl rfl rfl rfl (X1a (fun r=>rfl) _) ⟨by omega,by unfold maxLen; omega⟩ rfl ?_
  clear hS; intro v9 w hS
  try dsimp only [List.set] at hS
  obtain ⟨va,vc,rfl,hvc,_⟩:=hS.vecSlice (k:=0) rfl
  refine .q 1 rfl ?_
  first | refine WL.val (.fieldAddr 4 (.of rfl) X1v rfl rfl Xv rfl) rfl ?_ | refine WL.val (.fieldAddrI 4 (.of rfl) X1v rfl rfl Xv rfl) rfl ?_
  first | refine WL.st1 hS (k:=0) rfl (.of rfl) (.of rfl) rfl Xv (by simp) ?_ | refine WL.st1 hS (k:=1) rfl (.of rfl) (.of rfl) rfl Xv (by simp) ?_ | refine WL.st1 hS (k:=2) rfl (.of rfl) (.of rfl) rfl Xv (by simp) ?_
  clear hS; intro w hS; try dsimp only [List.set] at hS
  refine .nil (.seq (.q 1 rfl (.ret (Xg Tryz.results16 rfl ?_))))
  have hd:X12 ⟨x,y,z,tr⟩ q t ok now=(q.eraseIdx j,0):=by
   rw [hdq,if_pos]
   have h9:=hb48
   simp only [Y1a,decide_eq_true_eq] at h9
   rcases h9 with h | h
   ·exact .inl h
   ·exact .inr (by unfold Xbv; (try dsimp only); omega)
  rw [hd]
  have er:X6 X3 (q.take j) ++ X6 X3 (q.drop (j+1))=X6 X3 (q.eraseIdx j):=by rw [Y1y]; simp [X6]
  have el:(q.take j).length+(q.drop (j+1)).length=(q.eraseIdx j).length:=by rw [Y1y,Y2]
  rw [er,el] at hS
  rw [el] at hvc
  replace hS:=(((hS.pick 2 rfl).pick 1 rfl).drop (k:=2) rfl)
  obtain ⟨J,hJ,hRS,hS⟩:=hS.freezeVec (k:=0) rfl
  exact ⟨_,rfl,J,va,vc,rfl,hJ,hRS,hvc,hS⟩
 have hc48:=hb48; try simp only [Y4] at hc48
 refine .skip (.seq (.drawn (fun w=>∃ R,Sat B w I (blk xb [F64 x,F64 y,F64 z,I64 tr,.slice (some p) q.length c] 51::blk b10 [S n.ticket,S n.url,I64 (n.tries),I64 (n.next)] 45::R)) (fun j=>!([].contains j)) (by kernel_rfl) ?_))
 replace hS:=hS.drew; generalize w.drew=w at hS ⊢
 have hH:∃ R,Sat B w I (blk xb [F64 x,F64 y,F64 z,I64 tr,.slice (some p) q.length c] 51::blk b10 [S n.ticket,S n.url,I64 (n.tries),I64 (n.next)] 45::R):=⟨_,((hS.pick 1 rfl).pick 2 rfl)⟩
 refine .tp (i:=0) rfl (by kernel_rfl) (fun w=>(.move (.of rfl))) rfl (.tp (i:=1) rfl (by kernel_rfl) (fun w=>(.nilCheck (.of rfl))) rfl ?_)
 refine WD.tp (i:=2) rfl (by kernel_rfl) (fun w=>(by first | exact .fieldAddr 0 (.of rfl) X1v rfl rfl X45 rfl | exact .fieldAddrI 0 (.of rfl) X1v rfl rfl X45 rfl)) rfl ?_
 refine WD.tk (i:=3) rfl (by kernel_rfl) hH (fun w ⟨R,hS⟩=>(by first | exact (.ld (.of rfl) hS (k:=0) rfl X6e rfl) | exact (.ld (.of rfl) hS (k:=1) rfl X6e rfl))) rfl ?_
 refine .tp (i:=4) rfl (by kernel_rfl) (fun w=>(.move (.of rfl))) rfl (.tp (i:=5) rfl (by kernel_rfl) (fun w=>(.nilCheck (.of rfl))) rfl ?_)
 refine WD.tp (i:=6) rfl (by kernel_rfl) (fun w=>(by first | exact .fieldAddr 1 (.of rfl) X1v rfl rfl X45 rfl | exact .fieldAddrI 1 (.of rfl) X1v rfl rfl X45 rfl)) rfl ?_
 refine WD.tk (i:=7) rfl (by kernel_rfl) hH (fun w ⟨R,hS⟩=>(by first | exact (.ld (.of rfl) hS (k:=0) rfl X6e rfl) | exact (.ld (.of rfl) hS (k:=1) rfl X6e rfl))) rfl ?_
 refine WD.tp (i:=8) rfl (by kernel_rfl) (fun w=>(by first | exact .fieldAddr 2 (.of rfl) Xj rfl rfl Qs3 rfl | exact .fieldAddrI 2 (.of rfl) Xj rfl rfl Qs3 rfl)) rfl ?_
 refine WD.tk (i:=9) rfl (by kernel_rfl) hH (fun w ⟨R,hS⟩=>(by first | exact (.ld (.of rfl) hS (k:=0) rfl Qg3 rfl) | exact (.ld (.of rfl) hS (k:=1) rfl Qg3 rfl))) rfl ?_
 refine .tp (i:=10) rfl (by kernel_rfl) (fun w=>(.move (.of rfl))) rfl (.tp (i:=11) rfl (by kernel_rfl) (fun w=>(.nilCheck (.of rfl))) rfl ?_)
 refine WD.tp (i:=12) rfl (by kernel_rfl) (fun w=>(by first | exact .fieldAddr 2 (.of rfl) X1v rfl rfl X45 rfl | exact .fieldAddrI 2 (.of rfl) X1v rfl rfl X45 rfl)) rfl ?_
 refine WD.tk (i:=13) rfl (by kernel_rfl) hH (fun w ⟨R,hS⟩=>(by first | exact (.ld (.of rfl) hS (k:=0) rfl X6e rfl) | exact (.ld (.of rfl) hS (k:=1) rfl X6e rfl))) rfl ?_
 refine WD.branch [14] (by kernel_rfl) rfl (WO.cons rfl ?_ (WO.nil))
 refine .call Tryz.func62 rfl (X0 (.of rfl) (X0 (.of rfl) (X0 (.of rfl) (X0 (.of rfl) X1)))) rfl (X88 x y n.tries z B _ I _ hS) ?_
 clear hS
 rintro _ w ⟨rfl,hS⟩
 refine .nil ?_
 clear hH
 have hH:∃ R,Sat B w I (blk xb [F64 x,F64 y,F64 z,I64 tr,.slice (some p) q.length c] 51::blk b10 [S n.ticket,S n.url,I64 (n.tries),I64 (n.next)] 45::R):=⟨_,((hS.pick 1 rfl).pick 2 rfl)⟩
 refine And.intro (by intro _ _; exact hH) ?_
 refine WD.branch [15] (by kernel_rfl) rfl (WO.cons rfl ?_ (WO.nil))
 refine .call Tryz.func61 rfl (X0 (.of rfl) (X0 (.of rfl) X1)) rfl (X6z _ _ _) ?_
 rintro _ _ ⟨rfl,rfl⟩
 refine .nil ?_
 clear hH
 have hH:∃ R,Sat B w I (blk xb [F64 x,F64 y,F64 z,I64 tr,.slice (some p) q.length c] 51::blk b10 [S n.ticket,S n.url,I64 (n.tries),I64 (n.next)] 45::R):=⟨_,((hS.pick 1 rfl).pick 2 rfl)⟩
 refine And.intro (by intro _ _; exact hH) ?_
 refine .tp (i:=16) rfl (by kernel_rfl) (fun w=>(.assign (.of rfl))) rfl (.done (by kernel_rfl) (.seq ?_))
 have hct:=X7u (Rk.waitV x y n.tries z)
 refine .region (.run 3 rfl ⟨⟨by omega,by omega⟩,trivial⟩ (.val (.min2 (.of rfl) (.of rfl)) rfl ?_))
 first | refine WL.val (.fieldAddr 3 (.of rfl) Xj rfl rfl Qs3 rfl) rfl ?_ | refine WL.val (.fieldAddrI 3 (.of rfl) Xj rfl rfl Qs3 rfl) rfl ?_
 first | refine WL.st1 hS (k:=0) rfl (.of rfl) (.of rfl) rfl Qs3 (by simp) ?_ | refine WL.st1 hS (k:=1) rfl (.of rfl) (.of rfl) rfl Qs3 (by simp) ?_ | refine WL.st1 hS (k:=2) rfl (.of rfl) (.of rfl) rfl Qs3 (by simp) ?_
 clear hS; intro w hS; try dsimp only [List.set] at hS
 refine .nil (.seq (.region ?_))
 first | refine WL.val (.fieldAddr 2 (.of rfl) Xj rfl rfl Qs3 rfl) rfl ?_ | refine WL.val (.fieldAddrI 2 (.of rfl) Xj rfl rfl Qs3 rfl) rfl ?_
 first | refine WL.val (.ld (.of rfl) hS (k:=0) rfl Qg3 rfl) rfl ?_ | refine WL.val (.ld (.of rfl) hS (k:=1) rfl Qg3 rfl) rfl ?_ | refine WL.val (.ld (.of rfl) hS (k:=2) rfl Qg3 rfl) rfl ?_
 refine .run 1 rfl ⟨⟨by omega,by omega⟩,trivial⟩ ?_
 first | refine WL.val (.fieldAddr 2 (.of rfl) Xj rfl rfl Qs3 rfl) rfl ?_ | refine WL.val (.fieldAddrI 2 (.of rfl) Xj rfl rfl Qs3 rfl) rfl ?_
 first | refine WL.st1 hS (k:=0) rfl (.of rfl) (.of rfl) rfl Qs3 (by simp) ?_ | refine WL.st1 hS (k:=1) rfl (.of rfl) (.of rfl) rfl Qs3 (by simp) ?_ | refine WL.st1 hS (k:=2) rfl (.of rfl) (.of rfl) rfl Qs3 (by simp) ?_
 clear hS; intro w hS; try dsimp only [List.set] at hS
 refine .nil (.seq (.drawn (fun w=>∃ R,Sat B w I (blk xb [F64 x,F64 y,F64 z,I64 tr,.slice (some p) q.length c] 51::blk b10 [S n.ticket,S n.url,I64 (n.tries+1),I64 (min 1099511627776 (now+Rk.cnt (Rk.waitV x y n.tries z) 1099511627776))] 45::R)) (fun j=>!([15].contains j)) (by kernel_rfl) ?_))
 replace hS:=hS.drew; generalize w.drew=w at hS ⊢
 have hH:∃ R,Sat B w I (blk xb [F64 x,F64 y,F64 z,I64 tr,.slice (some p) q.length c] 51::blk b10 [S n.ticket,S n.url,I64 (n.tries+1),I64 (min 1099511627776 (now+Rk.cnt (Rk.waitV x y n.tries z) 1099511627776))] 45::R):=⟨_,((hS.pick 1 rfl).pick 2 rfl)⟩
 refine .tp (i:=0) rfl (by kernel_rfl) (fun w=>(.move (.of rfl))) rfl (.tp (i:=1) rfl (by kernel_rfl) (fun w=>(.move (.of rfl))) rfl ?_)
 refine WD.tk (i:=2) rfl (by kernel_rfl) hH (fun w ⟨R,hS⟩=>(by first | exact (.ldsW (cs:=[_,_,_,_]) (.of rfl) hS (k:=0) rfl Xh X7 rfl) | exact (.lds (vs:=[_,_,_,_]) (.of rfl) hS (k:=0) rfl Xh X7 rfl (fun _ _ h=>h)) | exact (.ldsW (cs:=[_,_,_,_]) (.of rfl) hS (k:=1) rfl Xh X7 rfl) | exact (.lds (vs:=[_,_,_,_]) (.of rfl) hS (k:=1) rfl Xh X7 rfl (fun _ _ h=>h)))) rfl ?_
 refine .tp (i:=5) rfl (by kernel_rfl) (fun w=>(.move (.of rfl))) rfl (.tp (i:=6) rfl (by kernel_rfl) (fun w=>(.nilCheck (.of rfl))) rfl ?_)
 refine WD.tp (i:=7) rfl (by kernel_rfl) (fun w=>(by first | exact .fieldAddr 4 (.of rfl) X1v rfl rfl Xv rfl | exact .fieldAddrI 4 (.of rfl) X1v rfl rfl Xv rfl)) rfl ?_
 refine WD.tk (i:=8) rfl (by kernel_rfl) hH (fun w ⟨R,hS⟩=>(by first | exact (.ld (.of rfl) hS (k:=0) rfl X1r rfl) | exact (.ld (.of rfl) hS (k:=1) rfl X1r rfl))) rfl ?_
 refine .tp (i:=9) rfl (by kernel_rfl) (fun w=>(.move (.of rfl))) rfl (.tp (i:=10) rfl (by kernel_rfl) (fun w=>(.add (.of rfl) (.of rfl) ⟨by omega,by omega⟩)) rfl (.tp (i:=11) rfl (by kernel_rfl) (fun w=>.slcFrom (.of rfl) (.of rfl) (by omega) (by omega) Xt X7) rfl ?_))
 rw [show ((j:Int)+1).toNat=j+1 by omega,hsl]
 refine WD.branch [3] (by kernel_rfl) rfl (WO.cons rfl ?_ (WO.nil))
 refine .buildSlice (cs:=[_,_,_,_]) hS (X2 (.of rfl) X5) Xt X7 X50 rfl rfl rfl rfl ?_
 clear hS; intro b89 w hS
 refine .nil ?_
 clear hH
 have hH:∃ R,Sat B w I (blk xb [F64 x,F64 y,F64 z,I64 tr,.slice (some p) q.length c] 51::blk b10 [S n.ticket,S n.url,I64 (n.tries+1),I64 (min 1099511627776 (now+Rk.cnt (Rk.waitV x y n.tries z) 1099511627776))] 45::R):=⟨_,((hS.pick 2 rfl).pick 3 rfl)⟩
 refine And.intro (by intro _ _; exact hH) ?_
 refine WD.branch [4] (by kernel_rfl) rfl (WO.cons rfl ?_ (WO.nil))
 first | refine WL.append (size:=4) (bytes:=48) hS (.of rfl) (.of rfl) (k:=0) rfl Xt X1g rfl rfl rfl rfl rfl rfl rfl ⟨by omega,by unfold maxLen; omega⟩ rfl ?_ | refine WL.append (size:=4) (bytes:=48) hS (.of rfl) (.of rfl) (k:=1) rfl Xt X1g rfl rfl rfl rfl rfl rfl rfl ⟨by omega,by unfold maxLen; omega⟩ rfl ?_ | refine WL.append (size:=4) (bytes:=48) hS (.of rfl) (.of rfl) (k:=2) rfl Xt X1g rfl rfl rfl rfl rfl rfl rfl ⟨by omega,by unfold maxLen; omega⟩ rfl ?_
 clear hS; intro v90 w hS; try dsimp only [List.set] at hS
 first | obtain ⟨a90,c90,rfl,hcap90,_⟩:=hS.vecSlice (k:=0) (v:=v90) rfl | obtain ⟨a90,c90,rfl,hcap90,_⟩:=hS.vecSlice (k:=1) (v:=v90) rfl | obtain ⟨a90,c90,rfl,hcap90,_⟩:=hS.vecSlice (k:=2) (v:=v90) rfl
 refine .nil ?_
 clear hH
 have hH:∃ R,Sat B w I (blk xb [F64 x,F64 y,F64 z,I64 tr,.slice (some p) q.length c] 51::blk b10 [S n.ticket,S n.url,I64 (n.tries+1),I64 (min 1099511627776 (now+Rk.cnt (Rk.waitV x y n.tries z) 1099511627776))] 45::R):=⟨_,((hS.pick 1 rfl).pick 2 rfl)⟩
 refine And.intro (by intro _ _; exact hH) ?_
 refine WD.branch [12] (by kernel_rfl) rfl (WO.cons rfl ?_ (WO.nil))
 refine WL.appendF (size:=4) (bytes:=48) hS (.of rfl) (.of rfl) hRd (k:=0) rfl Xt (i:=Tryz.t45) (by kernel_rfl) rfl rfl rfl rfl (X1a (fun r=>rfl) _) ⟨by omega,by unfold maxLen; omega⟩ rfl ?_
 clear hS; intro v9 w hS
 try dsimp only [List.set] at hS
 obtain ⟨va,vc,rfl,hvc,_⟩:=hS.vecSlice (k:=0) rfl
 refine .nil ?_
 clear hH
 have hH:∃ R,Sat B w I (blk xb [F64 x,F64 y,F64 z,I64 tr,.slice (some p) q.length c] 51::blk b10 [S n.ticket,S n.url,I64 (n.tries+1),I64 (min 1099511627776 (now+Rk.cnt (Rk.waitV x y n.tries z) 1099511627776))] 45::R):=⟨_,((hS.pick 1 rfl).pick 2 rfl)⟩
 refine And.intro (by intro _ _; exact hH) ?_
 refine .tp (i:=13) rfl (by kernel_rfl) (fun w=>(.nilCheck (.of rfl))) rfl ?_
 refine WD.tp (i:=14) rfl (by kernel_rfl) (fun w=>(by first | exact .fieldAddr 4 (.of rfl) X1v rfl rfl Xv rfl | exact .fieldAddrI 4 (.of rfl) X1v rfl rfl Xv rfl)) rfl ?_
 refine WD.branch [15] (by kernel_rfl) rfl (WO.cons rfl ?_ (WO.nil))
 first | refine WL.st1 hS (k:=0) rfl (.of rfl) (.of rfl) rfl Xv (by simp) ?_ | refine WL.st1 hS (k:=1) rfl (.of rfl) (.of rfl) rfl Xv (by simp) ?_ | refine WL.st1 hS (k:=2) rfl (.of rfl) (.of rfl) rfl Xv (by simp) ?_
 clear hS; intro w hS; try dsimp only [List.set] at hS
 refine .nil ?_
 refine And.intro (by intro h; cases h) ?_
 refine .done (by kernel_rfl) (.seq (.q 1 rfl (.ret (Xg Tryz.results16 rfl ?_))))
 have hd:X12 ⟨x,y,z,tr⟩ q t ok now=(q.set j (X13 ⟨x,y,z,tr⟩ n now),0):=by
  rw [hdq,if_neg]
  have h9:=hb48
  simp only [Yj,decide_eq_false_iff_not] at h9
  rintro (h | h)
  ·rw [h9.1] at h; cases h
  ·unfold Xbv at h; (try dsimp only at h); omega
 rw [hd]
 have ea:(⟨n.ticket,n.url,n.tries+1,min 1099511627776 (now+Rk.cnt (Rk.waitV x y n.tries z) 1099511627776)⟩:Nt)=X13 ⟨x,y,z,tr⟩ n now:=by unfold X13; dsimp only; rw [Int.min_comm]
 have es:q.set j (X13 ⟨x,y,z,tr⟩ n now)=q.take j ++ [X13 ⟨x,y,z,tr⟩ n now] ++ q.drop (j+1):=by rw [List.set_eq_take_append_cons_drop,if_pos hjl]; simp
 have er:X6 X3 (q.take j) ++ [S n.ticket,S n.url,I64 (n.tries+1),I64 (min 1099511627776 (now+Rk.cnt (Rk.waitV x y n.tries z) 1099511627776))] ++ X6 X3 (q.drop (j+1))=X6 X3 (q.set j (X13 ⟨x,y,z,tr⟩ n now)):=by rw [es,← ea]; simp [X6,X3]
 have el:(q.take j).length+1+(q.drop (j+1)).length=(q.set j (X13 ⟨x,y,z,tr⟩ n now)).length:=by rw [es]; simp only [Y2,List.length_cons,List.length_nil]
 rw [er,el] at hS
 rw [el] at hvc
 replace hS:=(((hS.pick 2 rfl).pick 1 rfl).drop (k:=2) rfl)
 obtain ⟨J,hJ,hRS,hS⟩:=hS.freezeVec (k:=0) rfl
 exact ⟨_,rfl,J,va,vc,rfl,hJ,hRS,hvc,hS⟩
theorem Xb7:Bld Tryz.prog 29 [(0,1),(1,1),(2,21),(23,1),(24,1),(25,1),(26,1),(27,1)] [.slice none 0 0,.slice none 0 0,.int .i64 0,.int .i64 0,.int .i64 0,.int .i64 0,.int .i64 0,.int .i64 0,.int .i64 0,.int .i64 0,.int .i64 0,.int .i64 0,.int .i64 0,.int .i64 0,.int .i64 0,.int .i64 0,.int .i64 0,.int .i64 0,.int .i64 0,.int .i64 0,.int .i64 0,.int .i64 0,.int .i64 0,.int .i64 0,.float .f64 0,.float .f64 0,.float .f64 0,.int .i64 0]:=X4d X6d Tryz.zeroValue29 (fun w=>by simp [go_sem])
structure Op3 where
 act:Int
 l:List Nt
 a:List UInt8
 f:Bool
 n:Int
def Xeb (I:Im) (o:Op3) (cs:List Value):Prop:=∃ la lc,cs=[I64 o.act,.slice la o.l.length lc,S o.a,.bool o.f,I64 o.n]∧o.l.length≤lc∧RS I la 4 o.l.length (X6 X3 o.l)
def OpsAt3 (I:Im) (a:Option Addr) (l:List Op3):Prop:=∃ L:List (List Value),L.length=l.length∧(∀ c∈L,c.length=5)∧RS I a 5 l.length L.flatten∧∀ (i:Nat) o,l[i]?=some o→∃ cs,L[i]?=some cs∧Xeb I o cs
theorem OpsAt3.at {I:Im} {a:Option Addr} {l:List Op3} (h:OpsAt3 I a l) {i:Nat} {u:Op3} (hu:l[i]?=some u):∃ p la lc,a=some p∧At I (p.add (i*5)) [I64 u.act,.slice la u.l.length lc,S u.a,.bool u.f,I64 u.n]∧u.l.length≤lc∧RS I la 4 u.l.length (X6 X3 u.l):=by
 obtain ⟨L,h1,h2,h3,h4⟩:=h
 obtain ⟨cs,h5,la,lc,rfl,h7,h8⟩:=h4 i u hu
 obtain ⟨q,rfl,hq⟩:=h3.2 (by have:=(Y0.1 hu).1; omega)
 have h9:=X2n (hq.add (i*5)) 5
 rw [X2s L h2 i _ h5] at h9
 exact ⟨q,la,lc,rfl,h9,h7,h8⟩
def Xal (n:Int):Bool:=decide (0≤n) && decide (n≤1099511627776)
def Xeh (n:Nt):Bool:=decide (n.ticket.length≤60) && decide (n.url.length≤120)
def Xdj (o:Op3):Bool:=decide (o.l.length≤70) && decide (o.a.length≤60) && Xal o.n && o.l.all Xeh
def Xen (l:List Op3):Bool:=l.all Xdj && decide (l.length≤40)
theorem Xae {l:List Op3} {i:Nat} {u:Op3} (h:l[i]?=some u) (hf:Xdj u=false):Xen l=false:=by
 unfold Xen
 rw [Y1u]
 exact .inl (Y3b.2 ⟨u,Yc h,by rw [hf]; decide⟩)
theorem X8y (n:Int) (B w:World) (I:Im) (As:List Xe) (hS:Sat B w I As) :
  Calls Tryz.prog 10 [I64 n].toArray w (Ret fun v w'=>v=.bool (Xal n)∧Sat B w' I As):=by
 refine calls Tryz.func10 rfl Tryz.ntmps10 rfl (.seq (.q 1 rfl (.seq (.t 3 rfl (.gval rfl rfl (fun hg1=>(.move (.of rfl))) rfl (.gval rfl rfl (fun hg1=>(.leq (.gd hg1 rfl) (.of rfl))) rfl (.val (.pand (.of rfl) (.of rfl) (.of rfl)) rfl (.q 1 rfl (.nil (.ret (Xg Tryz.results10 rfl ?_)))))))))))
 exact ⟨_,rfl,rfl,hS⟩
theorem Xck (a:Option Addr) (c:Nat) (l:List Op3) (hll:l.length≤9223372036854775807) (B w:World) (I:Im) (hO:OpsAt3 I a l) (As:List Xe) (hS:Sat B w I As) :
  Calls Tryz.prog 9 [.slice a l.length c].toArray w (Ret fun v w'=>v=.bool (Xen l)∧Sat B w' I As):=by
 refine calls Tryz.func9 rfl Tryz.ntmps9 rfl (.seq (.q 1 rfl (.seq (.seq (.q 1 rfl (.block ?_))))))
 have hS0:=hS; clear hS
 refine .loop (σ:=Nat) (fun i=>[(0,.slice a l.length c),(3,I64 (i:Nat))]) (fun i w=>i≤l.length∧(∀ (j:Nat) u,j<i→l[j]?=some u→Xdj u=true)∧Sat B w I As) (fun i=>l.length - i) 0 ⟨rfl,rfl,trivial⟩ ⟨Yk _,fun _ _ h=>absurd h (by omega),hS0⟩ ?_
 rintro i w ⟨hi,hno,hS⟩
 change WC _ _ _ _ [(0,.slice a l.length c),(3,I64 (i:Nat))] w
 clear hS0
 refine .seq (.seq (.region (.run 4 rfl ⟨⟨_,X6c⟩,trivial⟩ (.nil ?_))))
 refine WC.cond rfl (fun hb8=>?_) (fun hb8=>?_)
 ·
  have hc8:=hb8; try simp only [Y4] at hc8
  refine .skip (.seq (.block (.seq (.seq ?_))))
  obtain ⟨u,hu⟩:∃ u,l[i]?=some u:=⟨_,Y1 (by omega)⟩
  obtain ⟨p,la,lc,hp9,hx,hlc,hRl⟩:=hO.at hu
  subst hp9
  refine .t 2 rfl ?_
  first | refine WL.val (.indexAddr (.of rfl) (.of rfl) (by omega) (by omega) X6c X6g) rfl ?_ | refine WL.val (.indexAddrI (.of rfl) (.of rfl) (by omega) (by omega) X6c X6g) rfl ?_
  first | refine WL.val (.fieldAddr 1 (.of rfl) X1u rfl rfl Xv rfl) rfl ?_ | refine WL.val (.fieldAddrI 1 (.of rfl) X1u rfl rfl Xv rfl) rfl ?_
  refine .val (.ldI (.of rfl) hS (At.add hx 1) X1r rfl) rfl (.run 3 rfl ⟨⟨_,Xt⟩,trivial⟩ (.gval rfl rfl (fun hg1=>(.move (.of rfl))) rfl (.gval rfl rfl (fun hg1=>(.move (.of rfl))) rfl ?_)))
  refine WL.gval rfl rfl (fun hg1=>(by first | exact .indexAddr (.gd hg1 rfl) (.gd hg1 rfl) (by (try simp only [Y4] at hg1); omega) (by (try simp only [Y4] at hg1); omega) X6c X6g | exact .indexAddrI (.gd hg1 rfl) (.gd hg1 rfl) (by (try simp only [Y4] at hg1); omega) (by (try simp only [Y4] at hg1); omega) X6c X6g)) rfl ?_
  refine WL.gval rfl rfl (fun hg1=>(by first | exact .fieldAddr 2 (.gd hg1 rfl) X1u rfl rfl Qs9 rfl | exact .fieldAddrI 2 (.gd hg1 rfl) X1u rfl rfl Qs9 rfl)) rfl ?_
  refine .gval rfl rfl (fun hg1=>.ldI (.gd hg1 rfl) hS (At.add hx 2) Qg9 rfl) rfl (.gval rfl rfl (fun hg1=>(.len (.gd hg1 rfl) Qu9)) rfl (.gval rfl rfl (fun hg1=>(.gtr (.gd hg1 rfl) (.of rfl))) rfl (.val (.por (.of rfl) (.of rfl) (.of rfl)) rfl (.q 1 rfl (.gval rfl rfl (fun hg1=>(.move (.of rfl))) rfl (.gval rfl rfl (fun hg1=>(.move (.of rfl))) rfl ?_))))))
  refine WL.gval rfl rfl (fun hg1=>(by first | exact .indexAddr (.gd hg1 rfl) (.gd hg1 rfl) (by (try simp only [Y4] at hg1); omega) (by (try simp only [Y4] at hg1); omega) X6c X6g | exact .indexAddrI (.gd hg1 rfl) (.gd hg1 rfl) (by (try simp only [Y4] at hg1); omega) (by (try simp only [Y4] at hg1); omega) X6c X6g)) rfl ?_
  refine WL.gval rfl rfl (fun hg1=>(by first | exact .fieldAddr 4 (.gd hg1 rfl) X1u rfl rfl Qs3 rfl | exact .fieldAddrI 4 (.gd hg1 rfl) X1u rfl rfl Qs3 rfl)) rfl ?_
  refine .gval rfl rfl (fun hg1=>.ldI (.gd hg1 rfl) hS (At.add hx 4) Qg3 rfl) rfl (.gcall (T:=fun w=>Sat B w I _) rfl rfl rfl Tryz.func10 rfl (fun hg1=>(X0 (.gd hg1 rfl) X1)) rfl (fun hg1=>X8y u.n B _ I _ hS) hS ?_)
  clear hS; rintro w hS
  refine .gval rfl rfl (fun hg1=>(.not (.gd hg1 rfl))) rfl (.val (.por (.of rfl) (.of rfl) (.of rfl)) rfl (.nil ?_))
  refine WC.cond rfl (fun hb35=>?_) (fun hb35=>?_)
  ·
   have hc35:=hb35; try simp only [Y4] at hc35
   refine .seq (.q 1 rfl (.ret (Xg Tryz.results9 rfl ?_)))
   refine ⟨_,rfl,congrArg Value.bool ?_,hS⟩
   symm
   refine Xae hu ?_
   unfold Xdj
   have h9:=hb35
   simp only [Y1a,Bool.not_eq_true',decide_eq_true_eq] at h9
   rcases h9 with (h | h) | h
   ·rw [decide_eq_false (by omega)]; rfl
   ·rw [decide_eq_false (by omega:¬ u.a.length≤60),Y21]; rfl
   ·rw [h,Y21]; rfl
  have hc35:=hb35; try simp only [Y4] at hc35
  refine .skip (.seq (.q 1 rfl (.block ?_)))
  have hS0:=hS; clear hS
  refine .loop (σ:=Nat) (fun k=>[(0,.slice (some p) l.length c),(3,I64 (i:Nat)),(4,I64 (k:Nat))]) (fun k w=>k≤u.l.length∧(∀ (j:Nat) n,j<k→u.l[j]?=some n→Xeh n=true)∧Sat B w I As) (fun k=>u.l.length - k) 0 ⟨rfl,rfl,rfl,trivial⟩ ⟨Yk _,fun _ _ h=>absurd h (by omega),hS0⟩ ?_
  rintro k w ⟨hk,hkk,hS⟩
  change WC _ _ _ _ [(0,.slice (some p) l.length c),(3,I64 (i:Nat)),(4,I64 (k:Nat))] w
  clear hS0
  refine .seq (.seq (.t 3 rfl ?_))
  first | refine WL.val (.indexAddr (.of rfl) (.of rfl) (by omega) (by omega) X6c X6g) rfl ?_ | refine WL.val (.indexAddrI (.of rfl) (.of rfl) (by omega) (by omega) X6c X6g) rfl ?_
  first | refine WL.val (.fieldAddr 1 (.of rfl) X1u rfl rfl Xv rfl) rfl ?_ | refine WL.val (.fieldAddrI 1 (.of rfl) X1u rfl rfl Xv rfl) rfl ?_
  refine .val (.ldI (.of rfl) hS (At.add hx 1) X1r rfl) rfl (.run 2 rfl ⟨⟨_,Xt⟩,trivial⟩ (.nil ?_))
  refine WC.cond rfl (fun hb43=>?_) (fun hb43=>?_)
  ·
   have hc43:=hb43; try simp only [Y4] at hc43
   refine .skip (.seq (.block (.seq ?_)))
   obtain ⟨n,hn⟩:∃ n,u.l[k]?=some n:=⟨_,Y1 (by omega)⟩
   obtain ⟨pn,hp8,hy⟩:=X1n (cells:=X3) (s:=4) (fun _=>rfl) hRl hn
   subst hp8
   refine .t 2 rfl ?_
   first | refine WL.val (.indexAddr (.of rfl) (.of rfl) (by omega) (by omega) X6c X6g) rfl ?_ | refine WL.val (.indexAddrI (.of rfl) (.of rfl) (by omega) (by omega) X6c X6g) rfl ?_
   first | refine WL.val (.fieldAddr 1 (.of rfl) X1u rfl rfl Xv rfl) rfl ?_ | refine WL.val (.fieldAddrI 1 (.of rfl) X1u rfl rfl Xv rfl) rfl ?_
   refine .val (.ldI (.of rfl) hS (At.add hx 1) X1r rfl) rfl (.q 1 rfl ?_)
   first | refine WL.val (.indexAddr (.of rfl) (.of rfl) (by omega) (by omega) Xt X7) rfl ?_ | refine WL.val (.indexAddrI (.of rfl) (.of rfl) (by omega) (by omega) Xt X7) rfl ?_
   first | refine WL.val (.fieldAddr 0 (.of rfl) Xj rfl rfl Qs9 rfl) rfl ?_ | refine WL.val (.fieldAddrI 0 (.of rfl) Xj rfl rfl Qs9 rfl) rfl ?_
   refine .val (.ldI (.of rfl) hS (At.add hy 0) Qg9 rfl) rfl (.run 3 rfl ⟨Qu9,trivial⟩ (.gval rfl rfl (fun hg1=>(.move (.of rfl))) rfl (.gval rfl rfl (fun hg1=>(.move (.of rfl))) rfl ?_)))
   refine WL.gval rfl rfl (fun hg1=>(by first | exact .indexAddr (.gd hg1 rfl) (.gd hg1 rfl) (by (try simp only [Y4] at hg1); omega) (by (try simp only [Y4] at hg1); omega) X6c X6g | exact .indexAddrI (.gd hg1 rfl) (.gd hg1 rfl) (by (try simp only [Y4] at hg1); omega) (by (try simp only [Y4] at hg1); omega) X6c X6g)) rfl ?_
   refine WL.gval rfl rfl (fun hg1=>(by first | exact .fieldAddr 1 (.gd hg1 rfl) X1u rfl rfl Xv rfl | exact .fieldAddrI 1 (.gd hg1 rfl) X1u rfl rfl Xv rfl)) rfl ?_
   refine .gval rfl rfl (fun hg1=>.ldI (.gd hg1 rfl) hS (At.add hx 1) X1r rfl) rfl (.gval rfl rfl (fun hg1=>(.move (.of rfl))) rfl ?_)
   refine WL.gval rfl rfl (fun hg1=>(by first | exact .indexAddr (.gd hg1 rfl) (.gd hg1 rfl) (by (try simp only [Y4] at hg1); omega) (by (try simp only [Y4] at hg1); omega) Xt X7 | exact .indexAddrI (.gd hg1 rfl) (.gd hg1 rfl) (by (try simp only [Y4] at hg1); omega) (by (try simp only [Y4] at hg1); omega) Xt X7)) rfl ?_
   refine WL.gval rfl rfl (fun hg1=>(by first | exact .fieldAddr 1 (.gd hg1 rfl) Xj rfl rfl Qs9 rfl | exact .fieldAddrI 1 (.gd hg1 rfl) Xj rfl rfl Qs9 rfl)) rfl ?_
   refine .gval rfl rfl (fun hg1=>.ldI (.gd hg1 rfl) hS (At.add hy 1) Qg9 rfl) rfl (.gval rfl rfl (fun hg1=>(.len (.gd hg1 rfl) Qu9)) rfl (.gval rfl rfl (fun hg1=>(.gtr (.gd hg1 rfl) (.of rfl))) rfl (.val (.por (.of rfl) (.of rfl) (.of rfl)) rfl (.nil ?_))))
   refine WC.cond rfl (fun hb69=>?_) (fun hb69=>?_)
   ·
    have hc69:=hb69; try simp only [Y4] at hc69
    refine .seq (.q 1 rfl (.ret (Xg Tryz.results9 rfl ?_)))
    refine ⟨_,rfl,congrArg Value.bool ?_,hS⟩
    symm
    refine Xae hu ?_
    unfold Xdj
    have h9:=hb69
    simp only [Y1a,decide_eq_true_eq] at h9
    have:u.l.all Xeh=false:=Y3b.2 ⟨n,Yc hn,by
     unfold Xeh
     rcases h9 with h | h
     ·rw [decide_eq_false (by omega)]; simp
     ·rw [decide_eq_false (by omega:¬ n.url.length≤120),Y21]; simp⟩
    rw [this,Y21]
   have hc69:=hb69; try simp only [Y4] at hc69
   refine .skip (.region (.run 3 rfl ⟨⟨by omega,by omega⟩,trivial⟩ (.nil ?_)))
   refine ⟨k+1,⟨rfl,rfl,rfl,trivial⟩,⟨by (try dsimp only); omega,fun j m hj hm=>?_,hS⟩,by (try dsimp only); omega⟩
   rcases Yl j k with h1 | h1
   ·exact hkk j m h1 hm
   ·have e:j=k:=by omega
    subst e
    rw [hn] at hm; cases hm
    have h9:=hb69
    simp only [Yj,decide_eq_false_iff_not] at h9
    unfold Xeh
    rw [decide_eq_true (by omega),decide_eq_true (by omega)]; rfl
  have hc43:=hb43; try simp only [Y4] at hc43
  refine .exit (.region (.run 3 rfl ⟨⟨by omega,by omega⟩,trivial⟩ (.nil ?_)))
  have hki:k=u.l.length:=by omega
  refine ⟨i+1,⟨rfl,rfl,trivial⟩,⟨by (try dsimp only); omega,fun j m hj hm=>?_,hS⟩,by (try dsimp only); omega⟩
  rcases Yl j i with h1 | h1
  ·exact hno j m h1 hm
  ·have e:j=i:=by omega
   subst e
   rw [hu] at hm; cases hm
   have h9:=hb35
   simp only [Yj,Y1n,decide_eq_false_iff_not] at h9
   unfold Xdj
   rw [h9.2,decide_eq_true (by omega),decide_eq_true (by omega)]
   show u.l.all Xeh=true
   rw [Yt]
   intro x hx
   obtain ⟨q,hq⟩:=Yp.1 hx
   exact hkk q x (by have:=(Y0.1 hq).1; omega) hq
 have hc8:=hb8; try simp only [Y4] at hc8
 refine .exit (.seq (.region (.run 4 rfl ⟨⟨_,X6c⟩,trivial⟩ (.nil (.ret (Xg Tryz.results9 rfl ?_))))))
 refine ⟨_,rfl,congrArg Value.bool ?_,hS⟩
 have:l.all Xdj=true:=by
  rw [Yt]
  intro u hu
  obtain ⟨q,hq⟩:=Yp.1 hu
  exact hno q u (by have:=(Y0.1 hq).1; omega) hq
 unfold Xen
 rw [this,Y3d]
 exact decide_eq_decide.2 (by omega)
def CFG:List Value:=[.slice none 0 0,.slice none 0 0,I64 0,I64 0,I64 0,I64 0,I64 0,I64 0,I64 0,I64 0,I64 0,I64 0,I64 0,I64 0,I64 0,I64 0,I64 0,I64 0,I64 0,I64 0,I64 0,I64 0,I64 0,I64 0,F64 4607182418800017408,F64 4611686018427387904,F64 4621819117588971520,I64 3]
def NM:List UInt8:=pre 2 ++ 45::X8z 16 1
def EX0:Nt:=⟨NM,[104,116,116,112,58,47,47,97,47],0,5⟩
def EX1:Nt:=⟨NM,[104,116,116,112,58,47,47,97,47],1,6⟩
def EX2:Nt:=⟨NM,[104,116,116,112,58,47,47,97,47],2,8⟩
def QC0:Qc:=⟨4607182418800017408,4611686018427387904,4621819117588971520,3⟩
theorem ex_put:X2z [] [EX0]=([EX0],0):=by decide +kernel
theorem Xc6:X12 QC0 [EX0] NM false 5=([EX1],0):=by decide +kernel
theorem Xcu:X12 QC0 [EX1] NM false 6=([EX2],0):=by decide +kernel
theorem Xcs:X12 QC0 [EX2] NM false 8=([],0):=by decide +kernel
theorem Xbl:X9 [EX1] 6=(EX1,true):=by decide +kernel
theorem Xbq:X9 [EX2] 7=(nt0,false):=by decide +kernel
theorem Xb8:X9 [EX2] 8=(EX2,true):=by decide +kernel
theorem Xa7:(max 1 (min (3:Int) 9))=Xbv QC0:=by decide +kernel
theorem ex_right:Xp EX0=true∧Xp EX1=true∧Xp EX2=true:=by decide +kernel
theorem Xdw:X4e (MSG NM 6)=some NM:=X6m (by decide +kernel) (by decide)
theorem X1x {n:Nt} (h:Xp n=true):∀ m∈[n],Xp m=true:=fun m hm=>by rw [Y2j.1 hm]; exact h
theorem X86 (B w:World) (I:Im) (As:List Xe) (hS:Sat B w I As) :
  Calls Tryz.prog 51 [].toArray w (Ret fun v w'=>v=.agg CFG.toArray∧Sat B w' I As):=by
 refine calls Tryz.func51 rfl Tryz.ntmps51 rfl (.seq (.region (.allocA (cs:=[_,_,_,_,_,_,_,_,_,_,_,_,_,_,_,_,_,_,_,_,_,_,_,_,_,_,_,_]) hS Tryz.zeroValue29 rfl ?_)))
 clear hS; intro b0 w hS
 refine .nil (.seq (.region (.val (.build (cs:=[_,_,_,_,_,_,_,_,_,_,_,_,_,_,_,_,_,_,_,_,_,_,_,_,_,_,_,_]) (X2 (.of rfl) (X2 (.of rfl) (X2 (.of rfl) (X2 (.of rfl) X5)))) Xb7 rfl) rfl (.stA hS (k:=0) rfl (.of rfl) (.of rfl) rfl Qs29 rfl (by simp) ?_))))
 clear hS; intro w hS; try dsimp only [List.set] at hS
 try simp only [Yb,Y6,Y8,Y3,Y7,Yd,Y5] at hS
 refine .nil (.ret (ret1c (b:=_) (cs:=[_,_,_,_,_,_,_,_,_,_,_,_,_,_,_,_,_,_,_,_,_,_,_,_,_,_,_,_]) Tryz.results51 hS (k:=0) rfl Tryz.isAgg29 Qs29 rfl rfl ?_))
 exact ⟨_,rfl,rfl,(hS.drop (k:=0) rfl)⟩
theorem Xb0 (B w:World) (I:Im) (As:List Xe) (hS:Sat B w I As) :
  Calls Tryz.prog 46 [I64 2,U64 ((1:Nat):Int)].toArray w (Ret fun v w'=>v=S NM∧Sat B w' I As):=by
 refine calls Tryz.func46 rfl Tryz.ntmps46 rfl (.seq (.q 1 rfl (.seq (.t 2 rfl (.call Tryz.func92 rfl (X0 (.of rfl) (X0 (.of rfl) X1)) rfl (X89 2 1 (by decide) B _ I _ hS) ?_)))))
 clear hS
 rintro _ w ⟨rfl,hS⟩
 rw [if_neg (show ¬ X6p 2=[] by decide +kernel)]
 refine .q 5 rfl (.nil (.seq (.q 2 rfl (.ret (Xg Tryz.results46 rfl ?_)))))
 exact ⟨_,rfl,rfl,hS⟩
set_option maxHeartbeats 400000 in
theorem X8b (B w:World) (I:Im) (hK:Kx I) (hP:PreAt I) (As:List Xe) (hS:Sat B w I As) :
  Calls Tryz.prog 8 [].toArray w (Ret fun v w'=>v=.bool true∧Sat B w' I As):=by
 refine calls Tryz.func8 rfl Tryz.ntmps8 rfl (.seq (.q 1 rfl (.seq (.region (.call Tryz.func51 rfl X1 rfl (X86 B _ I _ hS) ?_)))))
 clear hS
 rintro _ w ⟨rfl,hS⟩
 refine .call Tryz.func11 rfl (X0 (.of rfl) X1) rfl (Xay CFG 4607182418800017408 4611686018427387904 4621819117588971520 3 rfl rfl rfl rfl B _ I _ hS) ?_
 clear hS
 rintro _ w ⟨qb,rfl,hS⟩
 refine .q 1 rfl (.nil (.seq (.seq (.t 1 rfl (.val (.eqp (.of rfl) (.of rfl) Tryz.underlying34) rfl (.nil (.condF (rfl) (.skip (.seq (.region (.call Tryz.func46 rfl (X0 (.of rfl) (X0 (.of rfl) X1)) rfl (Xb0 B _ I _ hS) ?_)))))))))))
 clear hS
 rintro _ w ⟨rfl,hS⟩
 refine .q 1 rfl (.nil (.seq (.t 2 rfl (.val (.build (cs:=[_,_,_,_]) (X2 (.of rfl) (X2 (.of rfl) (X2 (.of rfl) X5))) X2l rfl) rfl (.buildSlice (cs:=[_,_,_,_]) hS (X2 (.of rfl) X5) Xt X7 X50 rfl rfl rfl rfl ?_)))))
 clear hS; intro b23 w hS
 replace hS:=((hS.pick 1 rfl).pick 1 rfl); try dsimp only [List.eraseIdx] at hS
 obtain ⟨J0,hJ0,hj23,hS⟩:=hS.freeze (k:=0) rfl
 try dsimp only [List.eraseIdx] at hS
 have hRl:RS J0 (some (ad b23 0)) 4 [EX0].length (X6 X3 [EX0]):=⟨rfl,fun _=>⟨_,rfl,X5k hj23⟩⟩
 refine WL.call Tryz.func13 rfl (X0 (.of rfl) (X0 (.of rfl) X1)) rfl (Xb2 qb _ _ _ _ none 0 [] (by decide) B _ J0 (RS.nil _ 4) (Yi _) (some (ad b23 0)) 1 [EX0] (by decide) (fun n hn=>by rw [Y2j.1 hn]; exact (by decide +kernel:EX0.ticket.length≤60∧EX0.url.length≤120)) hRl (hK.mono hJ0) (hP.mono hJ0) _ hS) ?_
 clear hS
 rintro _ w ⟨J1,a1,c1,rfl,hJ1,hR1,hc1,hS⟩
 rw [ex_put] at hS hR1 hc1 ⊢
 dsimp only at hS hR1 hc1
 refine .q 1 rfl (.nil (.seq (.t 2 rfl (.call Qf15 rfl (X0 (.of rfl) (X0 (.of rfl) (X0 (.of rfl) (X0 (.of rfl) X1)))) rfl (X36 qb _ _ _ _ a1 c1 [EX0] (by decide) B _ J1 hR1 hc1 (X1x ex_right.1) 3 Xa7 NM false 5 (by decide) (by decide) _ hS) ?_))))
 clear hS
 rintro _ w ⟨J2,a2,c2,rfl,hJ2,hR2,hc2,hS⟩
 try dsimp only [List.eraseIdx] at hS
 replace hS:=hS
 rw [show (⟨4607182418800017408,4611686018427387904,4621819117588971520,3⟩:Qc)=QC0 from rfl,Xc6] at hS hR2 hc2 ⊢
 dsimp only at hS hR2 hc2
 refine .q 1 rfl (.nil (.seq (.t 1 rfl (.call Qf17 rfl (X0 (.of rfl) (X0 (.of rfl) X1)) rfl (X2g qb _ _ _ _ a2 c2 [EX1] (by decide) B _ J2 hR2 hc2 (X1x ex_right.2.1) 6 (by decide) (by decide) _ hS) ?_))))
 clear hS
 rintro _ w ⟨rfl,hS⟩
 try dsimp only [List.eraseIdx] at hS
 rw [Xbl]
 refine .q 3 rfl (.allocA (cs:=[_,_,_,_]) hS X50 rfl ?_)
 clear hS; intro b5 w hS
 first | refine WL.stA hS (k:=0) rfl (.of rfl) (.of rfl) rfl X7 rfl (by simp) ?_ | refine WL.stA hS (k:=1) rfl (.of rfl) (.of rfl) rfl X7 rfl (by simp) ?_
 clear hS; intro w hS; try dsimp only [List.set] at hS
 try simp only [Yb,Y6,Y8,Y3,Y7,Yd,Y5] at hS
 refine .q 1 rfl (.nil (.seq (.t 2 rfl (.call Qf15 rfl (X0 (.of rfl) (X0 (.of rfl) (X0 (.of rfl) (X0 (.of rfl) X1)))) rfl (X36 qb _ _ _ _ a2 c2 [EX1] (by decide) B _ J2 hR2 hc2 (X1x ex_right.2.1) 3 Xa7 NM false 6 (by decide) (by decide) _ (hS.pick 1 rfl)) ?_))))
 clear hS
 rintro _ w ⟨J3,a3,c3,rfl,hJ3,hR3,hc3,hS⟩
 try dsimp only [List.eraseIdx] at hS
 replace hS:=hS
 rw [show (⟨4607182418800017408,4611686018427387904,4621819117588971520,3⟩:Qc)=QC0 from rfl,Xcu] at hS hR3 hc3 ⊢
 dsimp only at hS hR3 hc3
 refine .q 1 rfl (.nil (.seq (.t 1 rfl (.call Qf17 rfl (X0 (.of rfl) (X0 (.of rfl) X1)) rfl (X2g qb _ _ _ _ a3 c3 [EX2] (by decide) B _ J3 hR3 hc3 (X1x ex_right.2.2) 7 (by decide) (by decide) _ hS) ?_))))
 clear hS
 rintro _ w ⟨rfl,hS⟩
 try dsimp only [List.eraseIdx] at hS
 rw [Xbq]
 refine .q 3 rfl (.allocA (cs:=[_,_,_,_]) hS X50 rfl ?_)
 clear hS; intro b8 w hS
 first | refine WL.stA hS (k:=0) rfl (.of rfl) (.of rfl) rfl X7 rfl (by simp) ?_ | refine WL.stA hS (k:=1) rfl (.of rfl) (.of rfl) rfl X7 rfl (by simp) ?_ | refine WL.stA hS (k:=2) rfl (.of rfl) (.of rfl) rfl X7 rfl (by simp) ?_
 clear hS; intro w hS; try dsimp only [List.set] at hS
 try simp only [Yb,Y6,Y8,Y3,Y7,Yd,Y5] at hS
 refine .q 1 rfl (.nil (.seq (.t 1 rfl (.call Qf17 rfl (X0 (.of rfl) (X0 (.of rfl) X1)) rfl (X2g qb _ _ _ _ a3 c3 [EX2] (by decide) B _ J3 hR3 hc3 (X1x ex_right.2.2) 8 (by decide) (by decide) _ (hS.pick 1 rfl)) ?_))))
 clear hS
 rintro _ w ⟨rfl,hS⟩
 try dsimp only [List.eraseIdx] at hS
 rw [Xb8]
 refine .q 3 rfl (.allocA (cs:=[_,_,_,_]) hS X50 rfl ?_)
 clear hS; intro b10 w hS
 first | refine WL.stA hS (k:=0) rfl (.of rfl) (.of rfl) rfl X7 rfl (by simp) ?_ | refine WL.stA hS (k:=1) rfl (.of rfl) (.of rfl) rfl X7 rfl (by simp) ?_ | refine WL.stA hS (k:=2) rfl (.of rfl) (.of rfl) rfl X7 rfl (by simp) ?_ | refine WL.stA hS (k:=3) rfl (.of rfl) (.of rfl) rfl X7 rfl (by simp) ?_
 clear hS; intro w hS; try dsimp only [List.set] at hS
 try simp only [Yb,Y6,Y8,Y3,Y7,Yd,Y5] at hS
 refine .q 1 rfl (.nil (.seq (.t 2 rfl (.call Qf15 rfl (X0 (.of rfl) (X0 (.of rfl) (X0 (.of rfl) (X0 (.of rfl) X1)))) rfl (X36 qb _ _ _ _ a3 c3 [EX2] (by decide) B _ J3 hR3 hc3 (X1x ex_right.2.2) 3 Xa7 NM false 8 (by decide) (by decide) _ (hS.pick 1 rfl)) ?_))))
 clear hS
 rintro _ w ⟨J4,a4,c4,rfl,hJ4,hR4,hc4,hS⟩
 try dsimp only [List.eraseIdx] at hS
 replace hS:=hS
 rw [show (⟨4607182418800017408,4611686018427387904,4621819117588971520,3⟩:Qc)=QC0 from rfl,Xcs] at hS hR4 hc4 ⊢
 dsimp only at hS hR4 hc4
 refine .q 1 rfl (.nil (.seq (.region ?_)))
 first | refine WL.val (.ldsW (cs:=[_,_,_,_]) (.of rfl) hS (k:=0) rfl Xh X7 rfl) rfl ?_ | refine WL.val (.lds (vs:=[_,_,_,_]) (.of rfl) hS (k:=0) rfl Xh X7 rfl (fun _ _ h=>h)) rfl ?_ | refine WL.val (.ldsW (cs:=[_,_,_,_]) (.of rfl) hS (k:=1) rfl Xh X7 rfl) rfl ?_ | refine WL.val (.lds (vs:=[_,_,_,_]) (.of rfl) hS (k:=1) rfl Xh X7 rfl (fun _ _ h=>h)) rfl ?_ | refine WL.val (.ldsW (cs:=[_,_,_,_]) (.of rfl) hS (k:=2) rfl Xh X7 rfl) rfl ?_ | refine WL.val (.lds (vs:=[_,_,_,_]) (.of rfl) hS (k:=2) rfl Xh X7 rfl (fun _ _ h=>h)) rfl ?_ | refine WL.val (.ldsW (cs:=[_,_,_,_]) (.of rfl) hS (k:=3) rfl Xh X7 rfl) rfl ?_ | refine WL.val (.lds (vs:=[_,_,_,_]) (.of rfl) hS (k:=3) rfl Xh X7 rfl (fun _ _ h=>h)) rfl ?_
 refine .call Tryz.func28 rfl (X0 (.of rfl) X1) rfl (X6s EX1 ex_right.2.1 B _ J4 (hK.mono (hJ0.trans (hJ1.trans (hJ2.trans (hJ3.trans hJ4))))) _ hS) ?_
 clear hS
 rintro _ w ⟨rfl,hS⟩
 refine .call Tryz.func25 rfl (X0 (.of rfl) X1) rfl (Xcf (MSG NM 6) (by decide +kernel) B _ J4 (hK.mono (hJ0.trans (hJ1.trans (hJ2.trans (hJ3.trans hJ4))))) (hP.mono (hJ0.trans (hJ1.trans (hJ2.trans (hJ3.trans hJ4))))) _ hS) ?_
 clear hS
 rintro _ w ⟨rfl,hS⟩
 rw [Xdw]
 refine .q 5 rfl (.nil (.seq (.t 3 rfl (.gval rfl rfl (fun hg1=>(.move (.of rfl))) rfl (.gval rfl rfl (fun hg1=>(.eql (.gd hg1 rfl) (.of rfl))) rfl (.val (.pand (.of rfl) (.of rfl) (.of rfl)) rfl (.q 1 rfl (.gval rfl rfl (fun hg1=>(.move (.of rfl))) rfl (.gval rfl rfl (fun hg1=>(.eql (.gd hg1 rfl) (.of rfl))) rfl (.val (.pand (.of rfl) (.of rfl) (.of rfl)) rfl (.q 1 rfl (.gval rfl rfl (fun hg1=>(.move (.of rfl))) rfl (.gval rfl rfl (fun hg1=>(.eql (.gd hg1 rfl) (.of rfl))) rfl (.val (.pand (.of rfl) (.of rfl) (.of rfl)) rfl (.q 1 rfl (.gval rfl rfl (fun hg1=>(.move (.of rfl))) rfl (.val (.pand (.of rfl) (.of rfl) (.of rfl)) rfl (.q 1 rfl ?_))))))))))))))))))
 refine WL.gval rfl rfl (fun hg1=>(by first | exact .fieldAddr 3 (.of rfl) Xj rfl rfl Qs3 rfl | exact .fieldAddrI 3 (.of rfl) Xj rfl rfl Qs3 rfl)) rfl ?_
 refine WL.gval rfl rfl (fun hg1=>(by first | exact (.ld (.gd hg1 rfl) hS (k:=0) rfl Qg3 rfl) | exact (.ld (.gd hg1 rfl) hS (k:=1) rfl Qg3 rfl) | exact (.ld (.gd hg1 rfl) hS (k:=2) rfl Qg3 rfl) | exact (.ld (.gd hg1 rfl) hS (k:=3) rfl Qg3 rfl))) rfl ?_
 refine .gval rfl rfl (fun hg1=>(.eql (.gd hg1 rfl) (.of rfl))) rfl (.val (.pand (.of rfl) (.of rfl) (.of rfl)) rfl (.q 1 rfl ?_))
 refine WL.gval rfl rfl (fun hg1=>(by first | exact .fieldAddr 2 (.of rfl) Xj rfl rfl Qs3 rfl | exact .fieldAddrI 2 (.of rfl) Xj rfl rfl Qs3 rfl)) rfl ?_
 refine WL.gval rfl rfl (fun hg1=>(by first | exact (.ld (.gd hg1 rfl) hS (k:=0) rfl Qg3 rfl) | exact (.ld (.gd hg1 rfl) hS (k:=1) rfl Qg3 rfl) | exact (.ld (.gd hg1 rfl) hS (k:=2) rfl Qg3 rfl) | exact (.ld (.gd hg1 rfl) hS (k:=3) rfl Qg3 rfl))) rfl ?_
 refine .gval rfl rfl (fun hg1=>(.eql (.gd hg1 rfl) (.of rfl))) rfl (.val (.pand (.of rfl) (.of rfl) (.of rfl)) rfl (.q 1 rfl (.gval rfl rfl (fun hg1=>(.move (.of rfl))) rfl (.gval rfl rfl (fun hg1=>(.not (.gd hg1 rfl))) rfl (.val (.pand (.of rfl) (.of rfl) (.of rfl)) rfl (.q 1 rfl (.gval rfl rfl (fun hg1=>(.move (.of rfl))) rfl (.val (.pand (.of rfl) (.of rfl) (.of rfl)) rfl (.q 1 rfl ?_)))))))))
 refine WL.gval rfl rfl (fun hg1=>(by first | exact .fieldAddr 3 (.of rfl) Xj rfl rfl Qs3 rfl | exact .fieldAddrI 3 (.of rfl) Xj rfl rfl Qs3 rfl)) rfl ?_
 refine WL.gval rfl rfl (fun hg1=>(by first | exact (.ld (.gd hg1 rfl) hS (k:=0) rfl Qg3 rfl) | exact (.ld (.gd hg1 rfl) hS (k:=1) rfl Qg3 rfl) | exact (.ld (.gd hg1 rfl) hS (k:=2) rfl Qg3 rfl) | exact (.ld (.gd hg1 rfl) hS (k:=3) rfl Qg3 rfl))) rfl ?_
 refine .gval rfl rfl (fun hg1=>(.eql (.gd hg1 rfl) (.of rfl))) rfl (.val (.pand (.of rfl) (.of rfl) (.of rfl)) rfl (.q 1 rfl (.opn rfl rfl rfl (.val (.move (.of rfl)) rfl (.opn rfl rfl rfl (.call Tryz.func20 rfl (X0 (.of rfl) X1) rfl (Xa5 qb _ _ _ _ a4 c4 [] (by decide) B _ J4 hR4 hc4 _ hS) ?_))))))
 clear hS
 rintro _ w ⟨J5,a5,c5,rfl,hJ5,_,_,hS⟩
 refine .opn rfl rfl rfl (.val (.lenSlice (.of rfl) Xt) rfl (.opn rfl rfl rfl (.val (.eql (.of rfl) (.of rfl)) rfl (.val (.pand (.of rfl) (.of rfl) (.of rfl)) rfl (.q 1 rfl (.gval rfl rfl (fun hg1=>(.move (.of rfl))) rfl (.gval rfl rfl (fun hg1=>(.move (.of rfl))) rfl (.gval rfl rfl (fun hg1=>(.eqs (.gd hg1 rfl) (.gd hg1 rfl))) rfl (.val (.pand (.of rfl) (.of rfl) (.of rfl)) rfl (.q 1 rfl (.gval rfl rfl (fun hg1=>(.move (.of rfl))) rfl (.val (.pand (.of rfl) (.of rfl) (.of rfl)) rfl (.q 1 rfl (.nil (.ret (Xg Tryz.results8 rfl ?_))))))))))))))))
 refine ⟨_,rfl,?_,X2e ((hJ0.trans (hJ1.trans (hJ2.trans (hJ3.trans hJ4)))).trans hJ5) ((((hS.drop (k:=0) rfl).drop (k:=0) rfl).drop (k:=0) rfl).drop (k:=0) rfl)⟩
 exact congrArg Value.bool (by decide +kernel)
theorem Xey {l:List Op3} {i:Nat} {u:Op3} (h:Xen l=true) (hu:l[i]?=some u):u.l.length≤70∧u.a.length≤60∧0≤u.n∧u.n≤1099511627776∧∀ n∈u.l,n.ticket.length≤60∧n.url.length≤120:=by
 unfold Xen at h
 rw [Yh] at h
 have h1:=Yt.1 h.1 u (Yc hu)
 unfold Xdj Xal at h1
 simp only [Yh,decide_eq_true_eq] at h1
 refine ⟨h1.1.1.1,h1.1.1.2,h1.1.2.1,h1.1.2.2,fun n hn=>?_⟩
 have h2:=Yt.1 h1.2 n hn
 unfold Xeh at h2
 simpa using h2
set_option maxHeartbeats 800000 in
theorem X4n (cs:List Value) (hcl:cs.length=28) (x y z:Nat) (tr:Int) (h24:cs[24]?=some (F64 x)) (h25:cs[25]?=some (F64 y)) (h26:cs[26]?=some (F64 z)) (h27:cs[27]?=some (I64 tr)) (la:Option Addr) (lc:Nat) (l:List Op3) (hll:l.length≤9223372036854775807) (now:Int) (B w:World) (I:Im) (hK:Kx I) (hP:PreAt I) (hO:OpsAt3 I la l) (As:List Xe) (hS:Sat B w I As) :
  Calls Tryz.prog 3 [.agg cs.toArray,.slice la l.length lc,I64 now].toArray w (Ret fun v w'=>v=.bool true∧∃ J,Le I J∧Sat B w' J As):=by
 refine calls Tryz.func3 rfl Tryz.ntmps3 rfl (.seq (.region (.boxA (cs:=cs) hS (.of rfl) rfl ?_)))
 clear hS; intro b3 w hS
 refine .q 1 rfl (.nil (.seq (.region (.call Tryz.func8 rfl X1 rfl (X8b B _ I hK hP _ hS) ?_))))
 clear hS
 rintro _ w ⟨rfl,hS⟩
 refine .q 1 rfl (.nil (.seq (.t 1 rfl (.call Tryz.func9 rfl (X0 (.of rfl) X1) rfl (Xck la lc l hll B _ I hO _ hS) ?_))))
 clear hS
 rintro _ w ⟨rfl,hS⟩
 refine .q 1 rfl (.nil (.seq (.seq (.t 3 rfl (.gval rfl rfl (fun hg1=>(.move (.of rfl))) rfl (.gcall (T:=fun w=>Sat B w I _) rfl rfl rfl Tryz.func10 rfl (fun hg1=>(X0 (.gd hg1 rfl) X1)) rfl (fun hg1=>X8y now B _ I _ hS) hS ?_))))))
 clear hS; rintro w hS
 refine .gval rfl rfl (fun hg1=>(.not (.gd hg1 rfl))) rfl (.val (.por (.of rfl) (.of rfl) (.of rfl)) rfl (.nil ?_))
 refine WC.cond rfl (fun hb32=>?_) (fun hb32=>?_)
 ·
  have hc32:=hb32; try simp only [Y4] at hc32
  refine .seq (.q 2 rfl (.ret (Xg Tryz.results3 rfl ?_)))
  exact ⟨_,rfl,rfl,I,Le.refl _,(hS.drop (k:=0) rfl)⟩
 have hc32:=hb32; try simp only [Y4] at hc32
 refine .skip (.seq ?_)
 have hfw:Xen l=true∧Xal now=true:=by simpa using hb32
 obtain ⟨hfw,htm⟩:=hfw
 have htm:0≤now∧now≤1099511627776:=by unfold Xal at htm; simpa using htm
 refine .region ?_
 refine WL.val (.lds (vs:=cs) (.of rfl) hS (k:=0) rfl Tryz.isAgg29 Qs29 hcl (fun j v hj=>by rw [Y5]; exact hj)) rfl ?_
 refine .call Tryz.func11 rfl (X0 (.of rfl) X1) rfl (Xay cs x y z tr h24 h25 h26 h27 B _ I _ hS) ?_
 clear hS
 rintro _ w ⟨qb,rfl,hS⟩
 refine .q 1 rfl (.nil (.seq (.region ?_)))
 refine WL.val (.lds (vs:=cs) (.of rfl) hS (k:=1) rfl Tryz.isAgg29 Qs29 hcl (fun j v hj=>by rw [Y5]; exact hj)) rfl ?_
 refine .call Tryz.func12 rfl (X0 (.of rfl) X1) rfl (X9s cs x y z tr h24 h25 h26 h27 B _ I _ hS) ?_
 clear hS
 rintro _ w ⟨xb,rfl,hS⟩
 refine .q 1 rfl (.nil (.seq (.seq (.t 1 rfl (.val (.eqp (.of rfl) (.of rfl) Tryz.underlying34) rfl (.nil (.condF (rfl) (.skip (.seq (.seq (.q 1 rfl (.block ?_))))))))))))
 have hS0:=(hS.pick 1 rfl).drop (k:=2) rfl; clear hS; try dsimp only [List.eraseIdx] at hS0
 refine .loop (σ:=Nat×List Nt×Im×Option Addr×Nat×Option Addr×Nat) (fun ⟨i,q,M,a1,c1,a2,c2⟩=>[(1,.slice la l.length lc),(2,I64 now),(7,.bool true),(9,ptr qb 0),(10,ptr xb 0),(11,I64 (i:Nat))]) (fun ⟨i,q,M,a1,c1,a2,c2⟩ w=>i≤l.length∧Le I M∧QOk q∧RS M a1 4 q.length (X6 X3 q)∧q.length≤c1∧RS M a2 4 q.length (X6 X3 q)∧q.length≤c2∧Sat B w M (blk qb [I64 (max 1 (min tr 9)),F64 x,F64 y,F64 z,.slice a1 q.length c1] 113::blk xb [F64 x,F64 y,F64 z,I64 tr,.slice a2 q.length c2] 51::As)) (fun ⟨i,q,M,a1,c1,a2,c2⟩=>l.length - i) (0,[],I,none,0,none,0) ⟨rfl,rfl,rfl,rfl,rfl,rfl,trivial⟩ ⟨Yk _,Le.refl _,⟨Yk _,fun n h=>by simp at h⟩,RS.nil _ 4,Yi _,RS.nil _ 4,Yi _,hS0⟩ ?_
 rintro ⟨i,q,M,a1,c1,a2,c2⟩ w ⟨hi,hIM,hQ,hR1,hc1,hR2,hc2,hS⟩
 change WC _ _ _ _ [(1,.slice la l.length lc),(2,I64 now),(7,.bool true),(9,ptr qb 0),(10,ptr xb 0),(11,I64 (i:Nat))] w
 clear hS0
 refine .seq (.seq (.region (.run 4 rfl ⟨⟨_,X6c⟩,trivial⟩ (.nil ?_))))
 refine WC.cond rfl (fun hb43=>?_) (fun hb43=>?_)
 ·
  have hc43:=hb43; try simp only [Y4] at hc43
  refine .skip (.seq (.block (.seq ?_)))
  obtain ⟨u,hu⟩:∃ u,l[i]?=some u:=⟨_,Y1 (by omega)⟩
  obtain ⟨p,ola,olc,hp9,hx,hlc,hRl⟩:=hO.at hu
  subst hp9
  replace hx:=hx.mono hIM
  replace hRl:=hRl.mono hIM
  have hfo:=Xey hfw hu
  obtain ⟨hf1,hf2,hf3,hf4,hf5⟩:=hfo
  have hq:=hQ.1
  refine .t 2 rfl ?_
  first | refine WL.val (.indexAddr (.of rfl) (.of rfl) (by omega) (by omega) X6c X6g) rfl ?_ | refine WL.val (.indexAddrI (.of rfl) (.of rfl) (by omega) (by omega) X6c X6g) rfl ?_
  rw [Y9]
  refine .val (.ldsI (us:=[I64 u.act,.slice ola u.l.length olc,S u.a,.bool u.f,I64 u.n]) (.of rfl) hS hx Tryz.isAgg40 X6g rfl (fun _ _ h=>h)) rfl (.allocA (cs:=[_,_,_,_,_]) hS Tryz.zeroValue40 rfl ?_)
  clear hS; intro b12 w hS
  first | refine WL.stA hS (k:=0) rfl (.of rfl) (.of rfl) rfl X6g rfl (by simp) ?_ | refine WL.stA hS (k:=1) rfl (.of rfl) (.of rfl) rfl X6g rfl (by simp) ?_ | refine WL.stA hS (k:=2) rfl (.of rfl) (.of rfl) rfl X6g rfl (by simp) ?_
  clear hS; intro w hS; try dsimp only [List.set] at hS
  try simp only [Yb,Y6,Y8,Y3,Y7,Yd,Y5] at hS
  refine .nil (.seq (.q 1 rfl (.seq (.q 1 rfl ?_))))
  refine WC.cutS (σ:=Nat×List Nt×Im×Option Addr×Nat×Option Addr×Nat) (fun ⟨e,q,M,a1,c1,a2,c2⟩=>[(1,.slice (some p) l.length lc),(2,I64 now),(7,.bool true),(9,ptr qb 0),(10,ptr xb 0),(11,I64 (i:Nat)),(13,I64 (e:Nat)),(14,I64 (e:Nat))]) (fun ⟨e,q,M,a1,c1,a2,c2⟩ w=>Le I M∧QOk q∧RS M a1 4 q.length (X6 X3 q)∧q.length≤c1∧RS M a2 4 q.length (X6 X3 q)∧q.length≤c2∧Sat B w M (blk qb [I64 (max 1 (min tr 9)),F64 x,F64 y,F64 z,.slice a1 q.length c1] 113::blk xb [F64 x,F64 y,F64 z,I64 tr,.slice a2 q.length c2] 51::As)) ?_ ?_
  ·
   refine .seq (.region ?_)
   first | refine WL.val (.fieldAddr 0 (.of rfl) X1u rfl rfl Qs3 rfl) rfl ?_ | refine WL.val (.fieldAddrI 0 (.of rfl) X1u rfl rfl Qs3 rfl) rfl ?_
   first | refine WL.val (.ld (.of rfl) hS (k:=0) rfl Qg3 rfl) rfl ?_ | refine WL.val (.ld (.of rfl) hS (k:=1) rfl Qg3 rfl) rfl ?_ | refine WL.val (.ld (.of rfl) hS (k:=2) rfl Qg3 rfl) rfl ?_
   refine .nil (.block (.seq (.q 2 rfl ?_)))
   refine WC.cond rfl (fun hb52=>?_) (fun hb52=>?_)
   ·
    have hc52:=hb52; try simp only [Y4] at hc52
    refine .seq (.t 1 rfl ?_)
    first | refine WL.val (.fieldAddr 1 (.of rfl) X1u rfl rfl Xv rfl) rfl ?_ | refine WL.val (.fieldAddrI 1 (.of rfl) X1u rfl rfl Xv rfl) rfl ?_
    first | refine WL.val (.ld (.of rfl) hS (k:=0) rfl X1r rfl) rfl ?_ | refine WL.val (.ld (.of rfl) hS (k:=1) rfl X1r rfl) rfl ?_ | refine WL.val (.ld (.of rfl) hS (k:=2) rfl X1r rfl) rfl ?_
    refine .call Tryz.func13 rfl (X0 (.of rfl) (X0 (.of rfl) X1)) rfl (Xb2 qb _ x y z a1 c1 q hq B _ M hR1 hc1 ola olc u.l hf1 hf5 hRl (hK.mono hIM) (hP.mono hIM) _ (hS.pick 1 rfl)) ?_
    clear hS
    rintro _ w ⟨J,a3,c3,rfl,hJ,hR3,hc3,hS⟩
    try dsimp only [List.eraseIdx] at hS
    refine .q 1 rfl (.nil (.t 1 rfl ?_))
    first | refine WL.val (.fieldAddr 1 (.of rfl) X1u rfl rfl Xv rfl) rfl ?_ | refine WL.val (.fieldAddrI 1 (.of rfl) X1u rfl rfl Xv rfl) rfl ?_
    first | refine WL.val (.ld (.of rfl) hS (k:=0) rfl X1r rfl) rfl ?_ | refine WL.val (.ld (.of rfl) hS (k:=1) rfl X1r rfl) rfl ?_ | refine WL.val (.ld (.of rfl) hS (k:=2) rfl X1r rfl) rfl ?_
    refine .call Tryz.func14 rfl (X0 (.of rfl) (X0 (.of rfl) X1)) rfl (X9y xb x y z tr a2 c2 q hq B _ J (hR2.mono hJ) hc2 ola olc u.l hf1 hf5 hlc (hRl.mono hJ) _ (hS.pick 2 rfl)) ?_
    clear hS
    rintro _ w ⟨J2,a4,c4,rfl,hJ2,hR4,hc4,hS⟩
    try dsimp only [List.eraseIdx] at hS
    refine .q 1 rfl (.nil ?_)
    exact ⟨((X2z q u.l).2,(X2z q u.l).1,J2,a3,c3,a4,c4),⟨rfl,rfl,rfl,rfl,rfl,rfl,rfl,rfl,trivial⟩,hIM.trans (hJ.trans hJ2),Xea hQ,hR3.mono hJ2,hc3,hR4,hc4,((hS.pick 1 rfl).drop (k:=2) rfl)⟩
   have hc52:=hb52; try simp only [Y4] at hc52
   refine .seq (.q 2 rfl ?_)
   refine WC.cond rfl (fun hb62=>?_) (fun hb62=>?_)
   ·
    have hc62:=hb62; try simp only [Y4] at hc62
    refine .seq (.t 1 rfl ?_)
    first | refine WL.val (.fieldAddr 2 (.of rfl) X1u rfl rfl Qs9 rfl) rfl ?_ | refine WL.val (.fieldAddrI 2 (.of rfl) X1u rfl rfl Qs9 rfl) rfl ?_
    first | refine WL.val (.ld (.of rfl) hS (k:=0) rfl Qg9 rfl) rfl ?_ | refine WL.val (.ld (.of rfl) hS (k:=1) rfl Qg9 rfl) rfl ?_ | refine WL.val (.ld (.of rfl) hS (k:=2) rfl Qg9 rfl) rfl ?_
    first | refine WL.val (.fieldAddr 3 (.of rfl) X1u rfl rfl Qs4 rfl) rfl ?_ | refine WL.val (.fieldAddrI 3 (.of rfl) X1u rfl rfl Qs4 rfl) rfl ?_
    first | refine WL.val (.ld (.of rfl) hS (k:=0) rfl Qg4 rfl) rfl ?_ | refine WL.val (.ld (.of rfl) hS (k:=1) rfl Qg4 rfl) rfl ?_ | refine WL.val (.ld (.of rfl) hS (k:=2) rfl Qg4 rfl) rfl ?_
    first | refine WL.val (.fieldAddr 4 (.of rfl) X1u rfl rfl Qs3 rfl) rfl ?_ | refine WL.val (.fieldAddrI 4 (.of rfl) X1u rfl rfl Qs3 rfl) rfl ?_
    first | refine WL.val (.ld (.of rfl) hS (k:=0) rfl Qg3 rfl) rfl ?_ | refine WL.val (.ld (.of rfl) hS (k:=1) rfl Qg3 rfl) rfl ?_ | refine WL.val (.ld (.of rfl) hS (k:=2) rfl Qg3 rfl) rfl ?_
    refine .call Qf15 rfl (X0 (.of rfl) (X0 (.of rfl) (X0 (.of rfl) (X0 (.of rfl) X1)))) rfl (X36 qb _ x y z a1 c1 q hq B _ M hR1 hc1 hQ.2 tr rfl u.a u.f u.n hf3 hf4 _ (hS.pick 1 rfl)) ?_
    clear hS
    rintro _ w ⟨J,a3,c3,rfl,hJ,hR3,hc3,hS⟩
    try dsimp only [List.eraseIdx] at hS
    refine .q 1 rfl (.nil (.t 1 rfl ?_))
    first | refine WL.val (.fieldAddr 2 (.of rfl) X1u rfl rfl Qs9 rfl) rfl ?_ | refine WL.val (.fieldAddrI 2 (.of rfl) X1u rfl rfl Qs9 rfl) rfl ?_
    first | refine WL.val (.ld (.of rfl) hS (k:=0) rfl Qg9 rfl) rfl ?_ | refine WL.val (.ld (.of rfl) hS (k:=1) rfl Qg9 rfl) rfl ?_ | refine WL.val (.ld (.of rfl) hS (k:=2) rfl Qg9 rfl) rfl ?_
    first | refine WL.val (.fieldAddr 3 (.of rfl) X1u rfl rfl Qs4 rfl) rfl ?_ | refine WL.val (.fieldAddrI 3 (.of rfl) X1u rfl rfl Qs4 rfl) rfl ?_
    first | refine WL.val (.ld (.of rfl) hS (k:=0) rfl Qg4 rfl) rfl ?_ | refine WL.val (.ld (.of rfl) hS (k:=1) rfl Qg4 rfl) rfl ?_ | refine WL.val (.ld (.of rfl) hS (k:=2) rfl Qg4 rfl) rfl ?_
    first | refine WL.val (.fieldAddr 4 (.of rfl) X1u rfl rfl Qs3 rfl) rfl ?_ | refine WL.val (.fieldAddrI 4 (.of rfl) X1u rfl rfl Qs3 rfl) rfl ?_
    first | refine WL.val (.ld (.of rfl) hS (k:=0) rfl Qg3 rfl) rfl ?_ | refine WL.val (.ld (.of rfl) hS (k:=1) rfl Qg3 rfl) rfl ?_ | refine WL.val (.ld (.of rfl) hS (k:=2) rfl Qg3 rfl) rfl ?_
    refine .call Tryz.func16 rfl (X0 (.of rfl) (X0 (.of rfl) (X0 (.of rfl) (X0 (.of rfl) X1)))) rfl (X4u xb x y z tr a2 c2 q hq B _ J (hR2.mono hJ) hc2 hQ.2 u.a u.f u.n hf3 hf4 _ (hS.pick 2 rfl)) ?_
    clear hS
    rintro _ w ⟨J2,a4,c4,rfl,hJ2,hR4,hc4,hS⟩
    try dsimp only [List.eraseIdx] at hS
    refine .q 1 rfl (.nil ?_)
    exact ⟨((X12 ⟨x,y,z,tr⟩ q u.a u.f u.n).2,(X12 ⟨x,y,z,tr⟩ q u.a u.f u.n).1,J2,a3,c3,a4,c4),⟨rfl,rfl,rfl,rfl,rfl,rfl,rfl,rfl,trivial⟩,hIM.trans (hJ.trans hJ2),X91 hQ hf3,hR3.mono hJ2,hc3,hR4,hc4,((hS.pick 1 rfl).drop (k:=2) rfl)⟩
   have hc62:=hb62; try simp only [Y4] at hc62
   refine .seq (.q 2 rfl ?_)
   refine WC.cond rfl (fun hb80=>?_) (fun hb80=>?_)
   ·
    have hc80:=hb80; try simp only [Y4] at hc80
    refine .seq (.t 1 rfl ?_)
    first | refine WL.val (.fieldAddr 4 (.of rfl) X1u rfl rfl Qs3 rfl) rfl ?_ | refine WL.val (.fieldAddrI 4 (.of rfl) X1u rfl rfl Qs3 rfl) rfl ?_
    first | refine WL.val (.ld (.of rfl) hS (k:=0) rfl Qg3 rfl) rfl ?_ | refine WL.val (.ld (.of rfl) hS (k:=1) rfl Qg3 rfl) rfl ?_ | refine WL.val (.ld (.of rfl) hS (k:=2) rfl Qg3 rfl) rfl ?_
    refine .call Qf17 rfl (X0 (.of rfl) (X0 (.of rfl) X1)) rfl (X2g qb _ x y z a1 c1 q hq B _ M hR1 hc1 hQ.2 u.n hf3 hf4 _ (hS.pick 1 rfl)) ?_
    clear hS
    rintro _ w ⟨rfl,hS⟩
    try dsimp only [List.eraseIdx] at hS
    refine .q 3 rfl (.allocA (cs:=[_,_,_,_]) hS X50 rfl ?_)
    clear hS; intro b15 w hS
    first | refine WL.stA hS (k:=0) rfl (.of rfl) (.of rfl) rfl X7 rfl (by simp) ?_ | refine WL.stA hS (k:=1) rfl (.of rfl) (.of rfl) rfl X7 rfl (by simp) ?_ | refine WL.stA hS (k:=2) rfl (.of rfl) (.of rfl) rfl X7 rfl (by simp) ?_ | refine WL.stA hS (k:=3) rfl (.of rfl) (.of rfl) rfl X7 rfl (by simp) ?_
    clear hS; intro w hS; try dsimp only [List.set] at hS
    try simp only [Yb,Y6,Y8,Y3,Y7,Yd,Y5] at hS
    refine .q 1 rfl (.nil (.seq (.t 1 rfl ?_)))
    first | refine WL.val (.fieldAddr 4 (.of rfl) X1u rfl rfl Qs3 rfl) rfl ?_ | refine WL.val (.fieldAddrI 4 (.of rfl) X1u rfl rfl Qs3 rfl) rfl ?_
    first | refine WL.val (.ld (.of rfl) hS (k:=0) rfl Qg3 rfl) rfl ?_ | refine WL.val (.ld (.of rfl) hS (k:=1) rfl Qg3 rfl) rfl ?_ | refine WL.val (.ld (.of rfl) hS (k:=2) rfl Qg3 rfl) rfl ?_ | refine WL.val (.ld (.of rfl) hS (k:=3) rfl Qg3 rfl) rfl ?_
    refine .call Tryz.func18 rfl (X0 (.of rfl) (X0 (.of rfl) X1)) rfl (X3w xb x y z tr a2 c2 q hq B _ M hR2 hc2 u.n _ (hS.pick 3 rfl)) ?_
    clear hS
    rintro _ w ⟨rfl,hS⟩
    try dsimp only [List.eraseIdx] at hS
    refine .q 3 rfl (.allocA (cs:=[_,_,_,_]) hS X50 rfl ?_)
    clear hS; intro b17 w hS
    first | refine WL.stA hS (k:=0) rfl (.of rfl) (.of rfl) rfl X7 rfl (by simp) ?_ | refine WL.stA hS (k:=1) rfl (.of rfl) (.of rfl) rfl X7 rfl (by simp) ?_ | refine WL.stA hS (k:=2) rfl (.of rfl) (.of rfl) rfl X7 rfl (by simp) ?_ | refine WL.stA hS (k:=3) rfl (.of rfl) (.of rfl) rfl X7 rfl (by simp) ?_ | refine WL.stA hS (k:=4) rfl (.of rfl) (.of rfl) rfl X7 rfl (by simp) ?_
    clear hS; intro w hS; try dsimp only [List.set] at hS
    try simp only [Yb,Y6,Y8,Y3,Y7,Yd,Y5] at hS
    refine .q 1 rfl (.nil (.seq (.seq (.region ?_))))
    first | refine WL.val (.ldsW (cs:=[_,_,_,_]) (.of rfl) hS (k:=0) rfl Xh X7 rfl) rfl ?_ | refine WL.val (.lds (vs:=[_,_,_,_]) (.of rfl) hS (k:=0) rfl Xh X7 rfl (fun _ _ h=>h)) rfl ?_ | refine WL.val (.ldsW (cs:=[_,_,_,_]) (.of rfl) hS (k:=1) rfl Xh X7 rfl) rfl ?_ | refine WL.val (.lds (vs:=[_,_,_,_]) (.of rfl) hS (k:=1) rfl Xh X7 rfl (fun _ _ h=>h)) rfl ?_ | refine WL.val (.ldsW (cs:=[_,_,_,_]) (.of rfl) hS (k:=2) rfl Xh X7 rfl) rfl ?_ | refine WL.val (.lds (vs:=[_,_,_,_]) (.of rfl) hS (k:=2) rfl Xh X7 rfl (fun _ _ h=>h)) rfl ?_ | refine WL.val (.ldsW (cs:=[_,_,_,_]) (.of rfl) hS (k:=3) rfl Xh X7 rfl) rfl ?_ | refine WL.val (.lds (vs:=[_,_,_,_]) (.of rfl) hS (k:=3) rfl Xh X7 rfl (fun _ _ h=>h)) rfl ?_ | refine WL.val (.ldsW (cs:=[_,_,_,_]) (.of rfl) hS (k:=4) rfl Xh X7 rfl) rfl ?_ | refine WL.val (.lds (vs:=[_,_,_,_]) (.of rfl) hS (k:=4) rfl Xh X7 rfl (fun _ _ h=>h)) rfl ?_
    first | refine WL.val (.ldsW (cs:=[_,_,_,_]) (.of rfl) hS (k:=0) rfl Xh X7 rfl) rfl ?_ | refine WL.val (.lds (vs:=[_,_,_,_]) (.of rfl) hS (k:=0) rfl Xh X7 rfl (fun _ _ h=>h)) rfl ?_ | refine WL.val (.ldsW (cs:=[_,_,_,_]) (.of rfl) hS (k:=1) rfl Xh X7 rfl) rfl ?_ | refine WL.val (.lds (vs:=[_,_,_,_]) (.of rfl) hS (k:=1) rfl Xh X7 rfl (fun _ _ h=>h)) rfl ?_ | refine WL.val (.ldsW (cs:=[_,_,_,_]) (.of rfl) hS (k:=2) rfl Xh X7 rfl) rfl ?_ | refine WL.val (.lds (vs:=[_,_,_,_]) (.of rfl) hS (k:=2) rfl Xh X7 rfl (fun _ _ h=>h)) rfl ?_ | refine WL.val (.ldsW (cs:=[_,_,_,_]) (.of rfl) hS (k:=3) rfl Xh X7 rfl) rfl ?_ | refine WL.val (.lds (vs:=[_,_,_,_]) (.of rfl) hS (k:=3) rfl Xh X7 rfl (fun _ _ h=>h)) rfl ?_ | refine WL.val (.ldsW (cs:=[_,_,_,_]) (.of rfl) hS (k:=4) rfl Xh X7 rfl) rfl ?_ | refine WL.val (.lds (vs:=[_,_,_,_]) (.of rfl) hS (k:=4) rfl Xh X7 rfl (fun _ _ h=>h)) rfl ?_
    refine .val (Ex.neNt (r:=(X9 q u.n).1) (s:=(X9 q u.n).1) (.of rfl) (.of rfl)) rfl (.q 1 rfl (.gval rfl rfl (fun hg1=>(.move (.of rfl))) rfl (.gval rfl rfl (fun hg1=>(.move (.of rfl))) rfl (.gval rfl rfl (fun hg1=>(.neb (.gd hg1 rfl) (.gd hg1 rfl) Qu4)) rfl (.val (.por (.of rfl) (.of rfl) (.of rfl)) rfl (.nil (.condF (congrArg (fun b=>some (Value.bool b)) (by simp:(!decide ((X9 q u.n).1=(X9 q u.n).1) || ((X9 q u.n).2 != (X9 q u.n).2))=false)) (.skip (.seq (.t 1 rfl ?_))))))))))
    first | refine WL.val (.fieldAddr 0 (.of rfl) Xj rfl rfl Qs9 rfl) rfl ?_ | refine WL.val (.fieldAddrI 0 (.of rfl) Xj rfl rfl Qs9 rfl) rfl ?_
    first | refine WL.val (.ld (.of rfl) hS (k:=0) rfl Qg9 rfl) rfl ?_ | refine WL.val (.ld (.of rfl) hS (k:=1) rfl Qg9 rfl) rfl ?_ | refine WL.val (.ld (.of rfl) hS (k:=2) rfl Qg9 rfl) rfl ?_ | refine WL.val (.ld (.of rfl) hS (k:=3) rfl Qg9 rfl) rfl ?_ | refine WL.val (.ld (.of rfl) hS (k:=4) rfl Qg9 rfl) rfl ?_
    first | refine WL.val (.fieldAddr 3 (.of rfl) X1u rfl rfl Qs4 rfl) rfl ?_ | refine WL.val (.fieldAddrI 3 (.of rfl) X1u rfl rfl Qs4 rfl) rfl ?_
    first | refine WL.val (.ld (.of rfl) hS (k:=0) rfl Qg4 rfl) rfl ?_ | refine WL.val (.ld (.of rfl) hS (k:=1) rfl Qg4 rfl) rfl ?_ | refine WL.val (.ld (.of rfl) hS (k:=2) rfl Qg4 rfl) rfl ?_ | refine WL.val (.ld (.of rfl) hS (k:=3) rfl Qg4 rfl) rfl ?_ | refine WL.val (.ld (.of rfl) hS (k:=4) rfl Qg4 rfl) rfl ?_
    first | refine WL.val (.fieldAddr 4 (.of rfl) X1u rfl rfl Qs3 rfl) rfl ?_ | refine WL.val (.fieldAddrI 4 (.of rfl) X1u rfl rfl Qs3 rfl) rfl ?_
    first | refine WL.val (.ld (.of rfl) hS (k:=0) rfl Qg3 rfl) rfl ?_ | refine WL.val (.ld (.of rfl) hS (k:=1) rfl Qg3 rfl) rfl ?_ | refine WL.val (.ld (.of rfl) hS (k:=2) rfl Qg3 rfl) rfl ?_ | refine WL.val (.ld (.of rfl) hS (k:=3) rfl Qg3 rfl) rfl ?_ | refine WL.val (.ld (.of rfl) hS (k:=4) rfl Qg3 rfl) rfl ?_
    refine .call Qf15 rfl (X0 (.of rfl) (X0 (.of rfl) (X0 (.of rfl) (X0 (.of rfl) X1)))) rfl (X36 qb _ x y z a1 c1 q hq B _ M hR1 hc1 hQ.2 tr rfl (X9 q u.n).1.ticket u.f u.n hf3 hf4 _ (hS.pick 3 rfl)) ?_
    clear hS
    rintro _ w ⟨J,a3,c3,rfl,hJ,hR3,hc3,hS⟩
    try dsimp only [List.eraseIdx] at hS
    refine .q 1 rfl (.nil (.t 1 rfl ?_))
    first | refine WL.val (.fieldAddr 0 (.of rfl) Xj rfl rfl Qs9 rfl) rfl ?_ | refine WL.val (.fieldAddrI 0 (.of rfl) Xj rfl rfl Qs9 rfl) rfl ?_
    first | refine WL.val (.ld (.of rfl) hS (k:=0) rfl Qg9 rfl) rfl ?_ | refine WL.val (.ld (.of rfl) hS (k:=1) rfl Qg9 rfl) rfl ?_ | refine WL.val (.ld (.of rfl) hS (k:=2) rfl Qg9 rfl) rfl ?_ | refine WL.val (.ld (.of rfl) hS (k:=3) rfl Qg9 rfl) rfl ?_ | refine WL.val (.ld (.of rfl) hS (k:=4) rfl Qg9 rfl) rfl ?_
    first | refine WL.val (.fieldAddr 3 (.of rfl) X1u rfl rfl Qs4 rfl) rfl ?_ | refine WL.val (.fieldAddrI 3 (.of rfl) X1u rfl rfl Qs4 rfl) rfl ?_
    first | refine WL.val (.ld (.of rfl) hS (k:=0) rfl Qg4 rfl) rfl ?_ | refine WL.val (.ld (.of rfl) hS (k:=1) rfl Qg4 rfl) rfl ?_ | refine WL.val (.ld (.of rfl) hS (k:=2) rfl Qg4 rfl) rfl ?_ | refine WL.val (.ld (.of rfl) hS (k:=3) rfl Qg4 rfl) rfl ?_ | refine WL.val (.ld (.of rfl) hS (k:=4) rfl Qg4 rfl) rfl ?_
    first | refine WL.val (.fieldAddr 4 (.of rfl) X1u rfl rfl Qs3 rfl) rfl ?_ | refine WL.val (.fieldAddrI 4 (.of rfl) X1u rfl rfl Qs3 rfl) rfl ?_
    first | refine WL.val (.ld (.of rfl) hS (k:=0) rfl Qg3 rfl) rfl ?_ | refine WL.val (.ld (.of rfl) hS (k:=1) rfl Qg3 rfl) rfl ?_ | refine WL.val (.ld (.of rfl) hS (k:=2) rfl Qg3 rfl) rfl ?_ | refine WL.val (.ld (.of rfl) hS (k:=3) rfl Qg3 rfl) rfl ?_ | refine WL.val (.ld (.of rfl) hS (k:=4) rfl Qg3 rfl) rfl ?_
    refine .call Tryz.func16 rfl (X0 (.of rfl) (X0 (.of rfl) (X0 (.of rfl) (X0 (.of rfl) X1)))) rfl (X4u xb x y z tr a2 c2 q hq B _ J (hR2.mono hJ) hc2 hQ.2 (X9 q u.n).1.ticket u.f u.n hf3 hf4 _ (hS.pick 2 rfl)) ?_
    clear hS
    rintro _ w ⟨J2,a4,c4,rfl,hJ2,hR4,hc4,hS⟩
    try dsimp only [List.eraseIdx] at hS
    refine .q 1 rfl (.nil ?_)
    exact ⟨((X12 ⟨x,y,z,tr⟩ q (X9 q u.n).1.ticket u.f u.n).2,(X12 ⟨x,y,z,tr⟩ q (X9 q u.n).1.ticket u.f u.n).1,J2,a3,c3,a4,c4),⟨rfl,rfl,rfl,rfl,rfl,rfl,rfl,rfl,trivial⟩,hIM.trans (hJ.trans hJ2),X91 hQ hf3,hR3.mono hJ2,hc3,hR4,hc4,((((hS.pick 1 rfl).drop (k:=2) rfl).drop (k:=2) rfl).drop (k:=2) rfl)⟩
   have hc80:=hb80; try simp only [Y4] at hc80
   refine .skip ?_
   exact ⟨(0,q,M,a1,c1,a2,c2),⟨rfl,rfl,rfl,rfl,rfl,rfl,rfl,rfl,trivial⟩,hIM,hQ,hR1,hc1,hR2,hc2,(((hS.pick 2 rfl).pick 2 rfl).drop (k:=2) rfl)⟩
  rintro ⟨e,q,M,a1,c1,a2,c2⟩ w ⟨hIM,hQ,hR1,hc1,hR2,hc2,hS⟩
  change WC _ _ _ _ [(1,.slice (some p) l.length lc),(2,I64 now),(7,.bool true),(9,ptr qb 0),(10,ptr xb 0),(11,I64 (i:Nat)),(13,I64 (e:Nat)),(14,I64 (e:Nat))] w
  refine .seq ?_
  have hq:=hQ.1
  refine .t 2 rfl (.call Qf17 rfl (X0 (.of rfl) (X0 (.of rfl) X1)) rfl (X2g qb _ x y z a1 c1 q hq B _ M hR1 hc1 hQ.2 now htm.1 htm.2 _ hS) ?_)
  clear hS
  rintro _ w ⟨rfl,hS⟩
  try dsimp only [List.eraseIdx] at hS
  refine .q 3 rfl (.allocA (cs:=[_,_,_,_]) hS X50 rfl ?_)
  clear hS; intro b19 w hS
  first | refine WL.stA hS (k:=0) rfl (.of rfl) (.of rfl) rfl X7 rfl (by simp) ?_ | refine WL.stA hS (k:=1) rfl (.of rfl) (.of rfl) rfl X7 rfl (by simp) ?_ | refine WL.stA hS (k:=2) rfl (.of rfl) (.of rfl) rfl X7 rfl (by simp) ?_
  clear hS; intro w hS; try dsimp only [List.set] at hS
  try simp only [Yb,Y6,Y8,Y3,Y7,Yd,Y5] at hS
  refine .q 1 rfl (.nil (.seq (.t 2 rfl (.call Tryz.func18 rfl (X0 (.of rfl) (X0 (.of rfl) X1)) rfl (X3w xb x y z tr a2 c2 q hq B _ M hR2 hc2 now _ (hS.pick 2 rfl)) ?_))))
  clear hS
  rintro _ w ⟨rfl,hS⟩
  try dsimp only [List.eraseIdx] at hS
  refine .q 3 rfl (.allocA (cs:=[_,_,_,_]) hS X50 rfl ?_)
  clear hS; intro b21 w hS
  first | refine WL.stA hS (k:=0) rfl (.of rfl) (.of rfl) rfl X7 rfl (by simp) ?_ | refine WL.stA hS (k:=1) rfl (.of rfl) (.of rfl) rfl X7 rfl (by simp) ?_ | refine WL.stA hS (k:=2) rfl (.of rfl) (.of rfl) rfl X7 rfl (by simp) ?_ | refine WL.stA hS (k:=3) rfl (.of rfl) (.of rfl) rfl X7 rfl (by simp) ?_
  clear hS; intro w hS; try dsimp only [List.set] at hS
  try simp only [Yb,Y6,Y8,Y3,Y7,Yd,Y5] at hS
  refine .q 1 rfl (.nil (.seq (.drawn (fun w=>∃ J9 R,Le M J9∧Sat B w J9 (blk b19 [S (X9 q now).1.ticket,S (X9 q now).1.url,I64 (X9 q now).1.tries,I64 (X9 q now).1.next] 45::blk b21 [S (X9 q now).1.ticket,S (X9 q now).1.url,I64 (X9 q now).1.tries,I64 (X9 q now).1.next] 45::blk xb [F64 x,F64 y,F64 z,I64 tr,.slice a2 q.length c2] 51::R)) (fun j=>!([].contains j)) (by kernel_rfl) ?_)))
  replace hS:=hS.drew; generalize w.drew=w at hS ⊢
  have hH:∃ J9 R,Le M J9∧Sat B w J9 (blk b19 [S (X9 q now).1.ticket,S (X9 q now).1.url,I64 (X9 q now).1.tries,I64 (X9 q now).1.next] 45::blk b21 [S (X9 q now).1.ticket,S (X9 q now).1.url,I64 (X9 q now).1.tries,I64 (X9 q now).1.next] 45::blk xb [F64 x,F64 y,F64 z,I64 tr,.slice a2 q.length c2] 51::R):=⟨_,_,Le.refl _,(((hS.pick 1 rfl).pick 1 rfl).pick 2 rfl)⟩
  refine .tp (i:=0) rfl (by kernel_rfl) (fun w=>(.move (.of rfl))) rfl (.tp (i:=1) rfl (by kernel_rfl) (fun w=>(.move (.of rfl))) rfl (.tp (i:=2) rfl (by kernel_rfl) (fun w=>(.neq (.of rfl) (.of rfl))) rfl ?_))
  rw [show (((e:Nat):Int) != ((e:Nat):Int))=false by simp]
  refine .tp (i:=3) rfl (by kernel_rfl) (fun w=>(.move (.of rfl))) rfl ?_
  refine WD.tg (i:=4) rfl (by kernel_rfl) hH rfl rfl (fun hg1 w ⟨J9,R,hL9,hS⟩=>(by first | exact (.ldsW (cs:=[_,_,_,_]) (.of rfl) hS (k:=0) rfl Xh X7 rfl) | exact (.lds (vs:=[_,_,_,_]) (.of rfl) hS (k:=0) rfl Xh X7 rfl (fun _ _ h=>h)) | exact (.ldsW (cs:=[_,_,_,_]) (.of rfl) hS (k:=1) rfl Xh X7 rfl) | exact (.lds (vs:=[_,_,_,_]) (.of rfl) hS (k:=1) rfl Xh X7 rfl (fun _ _ h=>h)) | exact (.ldsW (cs:=[_,_,_,_]) (.of rfl) hS (k:=2) rfl Xh X7 rfl) | exact (.lds (vs:=[_,_,_,_]) (.of rfl) hS (k:=2) rfl Xh X7 rfl (fun _ _ h=>h)))) rfl ?_
  refine WD.tg (i:=5) rfl (by kernel_rfl) hH rfl rfl (fun hg1 w ⟨J9,R,hL9,hS⟩=>(by first | exact (.ldsW (cs:=[_,_,_,_]) (.of rfl) hS (k:=0) rfl Xh X7 rfl) | exact (.lds (vs:=[_,_,_,_]) (.of rfl) hS (k:=0) rfl Xh X7 rfl (fun _ _ h=>h)) | exact (.ldsW (cs:=[_,_,_,_]) (.of rfl) hS (k:=1) rfl Xh X7 rfl) | exact (.lds (vs:=[_,_,_,_]) (.of rfl) hS (k:=1) rfl Xh X7 rfl (fun _ _ h=>h)) | exact (.ldsW (cs:=[_,_,_,_]) (.of rfl) hS (k:=2) rfl Xh X7 rfl) | exact (.lds (vs:=[_,_,_,_]) (.of rfl) hS (k:=2) rfl Xh X7 rfl (fun _ _ h=>h)))) rfl ?_
  refine .tg (i:=6) rfl (by kernel_rfl) hH rfl rfl (fun hg1 w ⟨J9,R,hL9,hS⟩=>Ex.neNt (r:=(X9 q now).1) (s:=(X9 q now).1) (.gd hg1 rfl) (.gd hg1 rfl)) rfl ?_
  rw [show (!decide ((X9 q now).1=(X9 q now).1))=false by simp]
  refine .tp (i:=7) rfl (by kernel_rfl) (fun w=>(.por (.of rfl) (.of rfl) (.of rfl))) rfl (.tp (i:=8) rfl (by kernel_rfl) (fun w=>(.move (.of rfl))) rfl (.tg (i:=9) rfl (by kernel_rfl) hH rfl rfl (fun hg1 w ⟨J9,R,hL9,hS⟩=>(.move (.of rfl))) rfl (.tg (i:=10) rfl (by kernel_rfl) hH rfl rfl (fun hg1 w ⟨J9,R,hL9,hS⟩=>(.move (.of rfl))) rfl (.tg (i:=11) rfl (by kernel_rfl) hH rfl rfl (fun hg1 w ⟨J9,R,hL9,hS⟩=>.neb (.gd hg1 rfl) (.gd hg1 rfl) Qu4) rfl ?_))))
  rw [show ((X9 q now).2 != (X9 q now).2)=false by simp]
  refine .tp (i:=12) rfl (by kernel_rfl) (fun w=>(.por (.of rfl) (.of rfl) (.of rfl))) rfl (.tp (i:=13) rfl (by kernel_rfl) (fun w=>(.move (.of rfl))) rfl (.tg (i:=14) rfl (by kernel_rfl) hH rfl rfl (fun hg1 w ⟨J9,R,hL9,hS⟩=>(.move (.of rfl))) rfl (.tg (i:=16) rfl (by kernel_rfl) hH rfl rfl (fun hg1 w ⟨J9,R,hL9,hS⟩=>(.move (.of rfl))) rfl (.tg (i:=17) rfl (by kernel_rfl) hH rfl rfl (fun hg1 w ⟨J9,R,hL9,hS⟩=>(.nilCheck (.gd hg1 rfl))) rfl ?_))))
  refine WD.tg (i:=18) rfl (by kernel_rfl) hH rfl rfl (fun hg1 w ⟨J9,R,hL9,hS⟩=>(by first | exact .fieldAddr 4 (.gd hg1 rfl) X1v rfl rfl Xv rfl | exact .fieldAddrI 4 (.gd hg1 rfl) X1v rfl rfl Xv rfl)) rfl ?_
  refine WD.tg (i:=19) rfl (by kernel_rfl) hH rfl rfl (fun hg1 w ⟨J9,R,hL9,hS⟩=>(by first | exact (.ld (.gd hg1 rfl) hS (k:=0) rfl X1r rfl) | exact (.ld (.gd hg1 rfl) hS (k:=1) rfl X1r rfl) | exact (.ld (.gd hg1 rfl) hS (k:=2) rfl X1r rfl))) rfl ?_
  refine WD.branch [15] (by kernel_rfl) rfl (WO.cons rfl ?_ (WO.nil))
  replace hS:=(hS.pick 3 rfl); try dsimp only [List.eraseIdx] at hS
  refine .opn rfl rfl rfl (.call Tryz.func20 rfl (X0 (.gd (b:=false) (want:=false) rfl rfl) X1) rfl (Xa5 qb _ x y z a1 c1 q hQ.1 B _ M hR1 hc1 _ hS) ?_)
  clear hS
  rintro _ w ⟨J5,a5,c5,rfl,hJa,hc5,hR5,hS⟩
  refine .nil ?_
  clear hH
  have hH:∃ J9 R,Le M J9∧Sat B w J9 (blk b19 [S (X9 q now).1.ticket,S (X9 q now).1.url,I64 (X9 q now).1.tries,I64 (X9 q now).1.next] 45::blk b21 [S (X9 q now).1.ticket,S (X9 q now).1.url,I64 (X9 q now).1.tries,I64 (X9 q now).1.next] 45::blk xb [F64 x,F64 y,F64 z,I64 tr,.slice a2 q.length c2] 51::R):=⟨_,_,hJa,(((hS.pick 2 rfl).pick 2 rfl).pick 3 rfl)⟩
  refine And.intro (by intro _ _; exact hH) ?_
  refine WD.branch [20] (by kernel_rfl) rfl (WO.cons rfl ?_ (WO.nil))
  refine .opn rfl rfl rfl ?_
  refine WL.call Tryz.func19 rfl (X0 (.of rfl) (X0 (.gd (b:=false) (want:=false) rfl rfl) X1)) rfl (X7a a5 a2 c5 c2 q q (by have:=hQ.1; omega) B _ J5 hR5 (hR2.mono hJa) _ hS) ?_
  clear hS
  rintro _ w ⟨rfl,hS⟩
  refine .nil ?_
  clear hH
  have hH:∃ J9 R,Le M J9∧Sat B w J9 (blk b19 [S (X9 q now).1.ticket,S (X9 q now).1.url,I64 (X9 q now).1.tries,I64 (X9 q now).1.next] 45::blk b21 [S (X9 q now).1.ticket,S (X9 q now).1.url,I64 (X9 q now).1.tries,I64 (X9 q now).1.next] 45::blk xb [F64 x,F64 y,F64 z,I64 tr,.slice a2 q.length c2] 51::R):=⟨_,_,hJa,(((hS.pick 2 rfl).pick 2 rfl).pick 3 rfl)⟩
  refine And.intro (by intro _ _; exact hH) ?_
  refine .tg (i:=21) rfl (by kernel_rfl) hH rfl rfl (fun hg1 w ⟨J9,R,hL9,hS⟩=>(.not (.of rfl))) rfl (.tp (i:=22) rfl (by kernel_rfl) (fun w=>(.por (.of rfl) (.of rfl) (.of rfl))) rfl (.done (by kernel_rfl) (.condF (congrArg (fun b=>some (Value.bool b)) (by simp:(false || !decide (q=q))=false)) (.skip (.region (.run 3 rfl ⟨⟨by omega,by omega⟩,trivial⟩ (.nil ?_)))))))
  exact ⟨(i+1,q,J5,a1,c1,a2,c2),⟨rfl,rfl,rfl,rfl,rfl,rfl,trivial⟩,⟨by (try dsimp only); omega,hIM.trans hJa,hQ,hR1.mono hJa,hc1,hR2.mono hJa,hc2,((((hS.pick 2 rfl).pick 1 rfl).drop (k:=2) rfl).drop (k:=2) rfl)⟩,by (try dsimp only); omega⟩
 have hc43:=hb43; try simp only [Y4] at hc43
 refine .exit (.seq (.q 2 rfl (.ret (Xg Tryz.results3 rfl ?_))))
 exact ⟨_,rfl,rfl,M,hIM,((hS.drop (k:=0) rfl).drop (k:=0) rfl)⟩
end Go.Proofs.YtbciobiiejpdgaaGreatDoor
namespace Gk
open Go Go.RowKit Go.WideShapes Go.ChangeShapes
section
variable {H:Type} {enc:TypeId×Value→H}
def WitT (enc:TypeId×Value→H) (a:Assume) (C:Checked) (os:Os) (f:FuncId) (fn:Func) (s:ChangeSpec) (conds:List PathCond) (apart:Bool) (X:World→Array Value→Prop):Prop :=
  ∃ (w:World) (tape:Tape) (i:Input),w.os=os∧(w.forCall tape i).Shaped C.prog∧i.vars=[]∧Input.okWide C.prog (w.forCall tape i) .any w.heap.size f i ∧
   ((s.pre enc C.prog fn conds apart (w.forCall tape i).memory i.args∧X (w.forCall tape i).memory i.args)∧sizedMet enc C.prog fn (OpenSpec.ofChange s) apart (w.forCall tape i).memory i.args)∧a.holds C.prog (lone (Frame.enter C.prog f i.args .normal) [] (w.forCall tape i))
theorem X3c {a:Assume} {C:Checked} {os:Os} {f:FuncId} {fn:Func} {s:ChangeSpec} {conds:List PathCond} {apart fresh handsOn again:Bool} {X:World→Array Value→Prop}
  (hX:∀ (w w':World) (args:Array Value),w.heap=w'.heap→X w args→X w' args)
  (own:ownKnob C.prog.godebug=none) (started:os.Started) (noInit:C.prog.inits.idxOf? f=none) (hfn:C.prog.funcs[f]?=some fn)
  (witness:WitT enc a C os f fn s conds apart X)
  (contract:∀ (W:World) (base:Nat) (args:Array Value) (ds gs:List (DataW H)) (before:List MemPlace),
   (∀ (j:Nat) t v,fn.params[j]?=some t→args[j]?=some v→Value.okWide C.prog W .any base t v) →
   DataW.Whole enc C.prog fn.params.toList s.vars apart W args.toList ds gs before→X W args→W.ShapedOpen C.prog →
   Calls C.prog f args W fun e W'=>∃ v,e=.returned v∧s.post enc C.prog fn apart fresh handsOn again W args v W') :
  ReturnsInHanded a C os f .any (fun w args=>(s.pre enc C.prog fn conds apart w args∧X w args)∧sizedMet enc C.prog fn (OpenSpec.ofChange s) apart w args) (s.post enc C.prog fn apart fresh handsOn again):=by
 refine returnsInHanded_of_calls own started noInit witness ?_
 intro w tape i _ hsh _ hok hpre _
 obtain ⟨_,_,_,fn',hfn',_,_,_,_,hval⟩:=hok
 have e:fn'=fn:=Option.some.inj (hfn'.symm.trans hfn)
 subst e
 obtain ⟨⟨⟨ds,gs,before,hw,hc⟩,hx⟩,hz⟩:=hpre
 have hw':=DataW.Whole.of_heap (w':=w.forCall tape i) (by rfl) hw
 refine (contract (w.forCall tape i) w.heap.size i.args ds gs before hval hw' (hX _ _ _ (by rfl) hx) hsh).mono fun e W' ⟨v,he,hp⟩=>?_
 subst he
 exact ChangeSpec.post_blind hp
end
section
variable {P:Program} {W:World}
theorem X53 {name:String} {k:IntKind} {zs:List Int} {g:Nat} {t e:TypeId} {n:Nat}
  (hg:P.globalNamed name=some g) (hty:(P.globals[g]?).map (·.type)=some t) (ht:P.underlying t=some (.array n e)) (he:P.underlying e=some (.int k)) (hce:P.cellsOf e=1) (hct:P.cellsOf t=n)
  (h:Lib.VarReads P W name (Lib.tabData k zs)):Lib.TabIs P W name k zs:=by
 obtain ⟨g',t',cs,fuel,p,hg',ht',hvar,hd⟩:=h
 obtain rfl:=Option.some.inj (hg.symm.trans hg')
 obtain rfl:=Option.some.inj (hty.symm.trans ht')
 unfold Lib.TabIs
 rw [hvar,← Lib.cells_of_tab ht he hce hct hd]
variable {B w:World} {As:List Xe}
theorem X7h {b:Nat} {o:Obj} (h:W.heap[b]?=some o) (hS:Sat B w (im0 W) As):w.heap[b]?=some o:=by
 obtain ⟨_,_,hg⟩:=hS
 exact hg.imm b o h
theorem Xeg {name:String} {k:IntKind} {zs:List Int} (h:Lib.TabIs P W name k zs) (hS:Sat B w (im0 W) As):Lib.TabIs P w name k zs:=by
 unfold Lib.TabIs World.var? at h ⊢
 cases hg:P.globalNamed name with
 | none=>rw [hg] at h; cases h
 | some g =>
  rw [hg] at h
  simp only [Y1t] at h ⊢
  cases hb:W.heap[g]? with
  | none=>rw [hb] at h; cases h
  | some o =>
   rw [X7h hb hS]
   rw [hb] at h
   exact h
theorem X60 {a:Addr} {v:Value} (h:W.cell? a=some v) (hS:Sat B w (im0 W) As):w.cell? a=some v:=by
 unfold World.cell? at h ⊢
 cases hb:W.heap[a.block]? with
 | none=>rw [hb] at h; cases h
 | some o=>rw [X7h hb hS]; rw [hb] at h; exact h
end
end Gk
namespace Go.Proofs.YtbciobiiejpdgaaGreatDoor
open Gk Pc Xm Pat Tk Go.ChangeMaps Go.ChangeShapes Go.RowKit
theorem Xed:Rows.laid_internal_strconv_uint64pow10 (H:=Unit)=Lib.tabData .u64 Lib.pow10Tab:=by kernel_rfl
def X5s {H:Type} (zs:List (List UInt8)):DataW H:=.agg (zs.map fun z=>.lit (.string z))
theorem Xew:Rows.laid_matricula_ticket_prefixes (H:=Unit)=X5s PREV:=by kernel_rfl
theorem X56 {H:Type} {enc:TypeId×Value→H} {P:Program} {w:World} {base:Nat} {sp:Nat→Bool} {held:Bool} {fuel:Nat} {t e:TypeId} {n:Nat} {cs:List Value} {zs:List (List UInt8)} {p:List MemPlace}
  (ht:P.underlying t=some (.array n e)) (he:P.underlying e=some .string) (hce:P.cellsOf e=1) (hct:P.cellsOf t=n)
  (h:DataW.trod enc P w base sp held fuel t cs=some (X5s zs,p)):cs=zs.map S:=by
 cases fuel with
 | zero=>simp [DataW.trod] at h
 | succ fuel =>
  simp only [DataW.trod,ht,hce,hct,Y2l] at h
  split at h
  ·rename_i hl
   obtain ⟨xs,hm,hx⟩:=Y12.1 h
   have hxs:xs.map (·.1)=zs.map fun z=>(DataW.lit (.string z):DataW H):=by
    have:=congrArg Prod.fst hx
    simpa [X5s] using this
   have hxl:xs.length=n:=by simpa using Lib.mapM_length hm
   have hzl:zs.length=n:=by
    have:=congrArg List.length hxs
    simp at this
    omega
   apply Y26
   intro i
   by_cases hi:i<n
   ·obtain ⟨b,hb,hf⟩:=Lib.mapM_at hm i i (by simp [hi])
    obtain ⟨z,hc,rfl,_⟩:=DataW.trod_string he hf
    have h1:cs[i]?=some (.string z):=by
     have:=congrArg (·[0]?) hc
     simpa [Y2g,Y22] using this
    have h2:(xs.map (·.1))[i]?=some (DataW.lit (.string z.data.toList):DataW H):=by simp [hb]
    rw [hxs] at h2
    simp only [Y18,Y12,DataW.lit.injEq,Lit.string.injEq] at h2
    obtain ⟨z',hz',e'⟩:=h2
    rw [h1,Y18,hz',e']
    rfl
   ·rw [Y1m (by omega),Y1m (by simp; omega)]
  ·cases h
theorem pre_at {W : World} (h : Lib.VarReads Tryz.prog W "matricula/ticket.prefixes" Rows.laid_matricula_ticket_prefixes) : PreAt (im0 W) := by
 rw [Xew] at h
 obtain ⟨g',t',cs,fuel,p,hg',ht',hvar,hd⟩:=h
 obtain rfl := Option.some.inj ((show Tryz.prog.globalNamed "matricula/ticket.prefixes" = some 1 by kernel_rfl).symm.trans hg')
 obtain rfl:=Option.some.inj ((show (Tryz.prog.globals[1]?).map (·.type)=some 254 by kernel_rfl).symm.trans ht')
 have hcs:=X56 Xel Qu9 (by kernel_rfl) (by kernel_rfl) hd
 refine Xb5 (by decide) fun j v hj=>?_
 have h2:=World.var?_cell hg' hvar j
 rw [X1e,Y5]
 rw [← Y2t,hcs,hj] at h2
 exact h2
theorem X9v {H:Type} {enc:TypeId×Value→H} {P:Program} {w:World} {base:Nat} {sp:Nat→Bool} {held:Bool} {fuel:Nat} {t:TypeId} {cs:List Value} {nm:String} {d:DataW H} {p:List MemPlace} {ms:Array (String×TypeId)} (ht:P.underlying t=some (.interface ms)) (h:DataW.trod enc P w base sp held fuel t cs=some (.iface nm d,p)):∃ u v,cs=[.iface u v]:=by
 cases fuel with
 | zero=>simp [DataW.trod] at h
 | succ fuel =>
  unfold DataW.trod at h
  rw [ht] at h
  split at h <;> simp_all
theorem X20 {W:World} {sp:Nat→Bool} {held:Bool} {fuel:Nat} {cs:List Value} {y:DataW Unit×List MemPlace} {a b:List UInt8} (h:DataW.trod (fun _=>()) Tryz.prog W 0 sp held fuel 136 cs=some y) (hy:y.1=.agg [.lit (.string a),.lit (.string b)]):cs=[S a,S b]:=by
 obtain ⟨xs,n,_,hx,hcl,hxl,hf⟩:=DataW.trod_struct X1b h
 rw [show Tryz.prog.cellsOf 136=2 from by kernel_rfl] at hcl
 have h0:DataW.trod (fun _=>()) Tryz.prog W 0 sp held n 9 ((cs.drop 0).take (Tryz.prog.cellsOf 9))=xs[0]?:=hf 0 _ rfl
 have h1:DataW.trod (fun _=>()) Tryz.prog W 0 sp held n 9 ((cs.drop 1).take (Tryz.prog.cellsOf 9))=xs[1]?:=hf 1 _ rfl
 rw [show Tryz.prog.cellsOf 9=1 from by kernel_rfl] at h0 h1
 have hxl2:xs.length=2:=hxl
 clear hf hxl h
 obtain ⟨u,v,rfl⟩:∃ u v,cs=[u,v]:=by
  match cs,hcl with
  | [u,v],_=>exact ⟨u,v,rfl⟩
 obtain ⟨x0,x1,rfl⟩:∃ u v,xs=[u,v]:=by
  match xs,hxl2 with
  | [u,v],_=>exact ⟨u,v,rfl⟩
 simp only [Y3,Y7,Y1h,Yb] at h0 h1
 obtain ⟨s0,e0,ex0,_⟩:=DataW.trod_string Qu9 (h0.trans rfl)
 obtain ⟨s1,e1,ex1,_⟩:=DataW.trod_string Qu9 (h1.trans rfl)
 subst hx
 simp only [Y1i,List.map_nil,DataW.agg.injEq,List.cons.injEq,and_true] at hy
 rw [ex0,ex1] at hy
 simp only [DataW.lit.injEq,Lit.string.injEq] at hy
 obtain ⟨rfl,rfl⟩:=hy
 injection e0 with e0; injection e1 with e1
 rw [e0,e1]
theorem X7s {W:World} {sp:Nat→Bool} {held:Bool} {fuel:Nat} {cs:List Value} {p:List MemPlace} (h:DataW.trod (fun _=>()) Tryz.prog W 0 sp held fuel 258 cs=some (Rows.laid_matricula_xml_marks,p)):cs=MKC:=by
 obtain ⟨xs,n,_,hx,hcl,hxl,hf⟩:=DataW.trod_array Xbg h
 rw [show Tryz.prog.cellsOf 258=10 from by kernel_rfl] at hcl
 rw [show Tryz.prog.cellsOf 136=2 from by kernel_rfl] at hf
 have hm:=congrArg Prod.fst hx
 unfold Rows.laid_matricula_xml_marks at hm
 match cs,hcl,xs,hxl with
 | [v0,v1,v2,v3,v4,v5,v6,v7,v8,v9],_,[x0,x1,x2,x3,x4],_ =>
  simp only [Y1i,List.map_nil,DataW.agg.injEq,List.cons.injEq,and_true] at hm
  obtain ⟨m0,m1,m2,m3,m4⟩:=hm
  have f0:=X20 ((hf 0 (by decide)).trans rfl) m0.symm
  have f1:=X20 ((hf 1 (by decide)).trans rfl) m1.symm
  have f2:=X20 ((hf 2 (by decide)).trans rfl) m2.symm
  have f3:=X20 ((hf 3 (by decide)).trans rfl) m3.symm
  have f4:=X20 ((hf 4 (by decide)).trans rfl) m4.symm
  simp at f0 f1 f2 f3 f4
  obtain ⟨rfl,rfl⟩:=f0
  obtain ⟨rfl,rfl⟩:=f1
  obtain ⟨rfl,rfl⟩:=f2
  obtain ⟨rfl,rfl⟩:=f3
  obtain ⟨rfl,rfl⟩:=f4
  rfl
theorem Xcd {W : World} (h : Lib.VarReads Tryz.prog W "matricula/xml.marks" Rows.laid_matricula_xml_marks) : At (im0 W) (ad 2 0) MKC := by
 obtain ⟨g',t',cs,fuel,p,hg',ht',hvar,hd⟩:=h
 obtain rfl := Option.some.inj ((show Tryz.prog.globalNamed "matricula/xml.marks" = some 2 by kernel_rfl).symm.trans hg')
 obtain rfl:=Option.some.inj ((show (Tryz.prog.globals[2]?).map (·.type)=some 258 by kernel_rfl).symm.trans ht')
 have hcs:=X7s hd
 refine Xb5 (by decide) fun j v hj=>?_
 have h2:=World.var?_cell hg' hvar j
 rw [X1e,Y5]
 rw [← Y2t,hcs,hj] at h2
 exact h2
theorem X8l {W:World} {nm:String} {gi:Nat} {ty:String} {d:DataW Unit} (hg:Tryz.prog.globalNamed nm=some gi) (ht:(Tryz.prog.globals[gi]?).map (·.type)=some 132) (h:Lib.VarReads Tryz.prog W nm (.iface ty d)):∃ te pe,W.cell? ⟨gi,0,none⟩=some (.iface te pe):=by
 obtain ⟨g',t',cs,fuel,p,hg',ht',hvar,hd⟩:=h
 obtain rfl:=Option.some.inj (hg.symm.trans hg')
 obtain rfl:=Option.some.inj (ht.symm.trans ht')
 obtain ⟨u,v,hcs⟩:=X9v Xe0 hd
 have h2:=World.var?_cell hg' hvar 0
 rw [← Y2t,hcs] at h2
 exact ⟨u,v,h2⟩
theorem Xc9 {W : World} (h2 : Lib.VarReads Tryz.prog W "internal/strconv.uint64pow10" Rows.laid_internal_strconv_uint64pow10) (h3 : Lib.VarReads Tryz.prog W "matricula/ticket.prefixes" Rows.laid_matricula_ticket_prefixes) (h4 : Lib.VarReads Tryz.prog W "matricula/xml.marks" Rows.laid_matricula_xml_marks) (h5 : Lib.VarReads Tryz.prog W "strconv.ErrSyntax" Rows.laid_strconv_ErrSyntax) (h6 : Lib.VarReads Tryz.prog W "strconv.ErrRange" Rows.laid_strconv_ErrRange) (hsh : W.ShapedOpen Tryz.prog) : Kx (im0 W) ∧ PreAt (im0 W) := by
 refine ⟨?_,pre_at h3⟩
 rw [Xed] at h2
 have t2:=X53 (g:=5) (by kernel_rfl) (by kernel_rfl) Xdx Qu62 (by kernel_rfl) (by kernel_rfl) h2
 refine ⟨Xcd h4,fun B w As hS=>Xeg t2 hS,fun B w As hS=>?_,fun B w As hS=>?_,fun B w As hS=>?_⟩
 ·obtain ⟨m,hm⟩:=Go.Proofs.cell_of_shapedOpen_int (g:=6) (t:=3) (zero:=#[.int .i64 0]) (k:=.i64) hsh (by decide +kernel) (by kernel_rfl) (by kernel_rfl) (by kernel_rfl) (by kernel_rfl) Qu3
  exact ⟨m,X60 hm hS⟩
 ·obtain ⟨te,pe,h⟩:=X8l (gi:=3) (by kernel_rfl) (by kernel_rfl) h5
  exact ⟨te,pe,X60 h hS⟩
 ·obtain ⟨te,pe,h⟩:=X8l (gi:=4) (by kernel_rfl) (by kernel_rfl) h6
  exact ⟨te,pe,X60 h hS⟩
end Go.Proofs.YtbciobiiejpdgaaGreatDoor
namespace Go.Proofs.YtbciobiiejpdgaaGreatDoor
open Gk Ul Pc Pat Xm Tr Tk Go.ChangeMaps Go.ChangeShapes Go.RowKit Go.WideShapes
set_option maxRecDepth 100000
theorem Xat {α:Type} {cells:α→List Value} {c:Nat} {fit:α→Prop} {t e:TypeId} {H:Type} {enc:TypeId×Value→H} {W:World} {spare:Nat→Bool} {held:Bool} {fuel:Nat} {cs:List Value} {x:DataW H×List MemPlace} (ht:Tryz.prog.underlying t=some (.slice e)) (hc:Tryz.prog.cellsOf e=c) (hc0:0<c)
  (one:∀ n cs y,DataW.trod enc Tryz.prog W 0 spare held n e cs=some y→∃ z:α,cs=cells z∧fit z) (h:DataW.trod enc Tryz.prog W 0 spare held fuel t cs=some x) :
  ∃ (a:Option Addr) (cap:Nat) (l:List α),cs=[.slice a l.length cap]∧l.length≤cap∧cap≤maxLen∧RS (im0 W) a c l.length (X6 cells l)∧∀ z∈l,fit z:=by
 obtain ⟨a,cap,L,n,rfl,h1,h2,h3,h4,h5⟩:=X6q ht hc hc0 h
 have key:∀ L:List (List Value),(∀ l∈L,∃ y,DataW.trod enc Tryz.prog W 0 spare held n e l=some y)→∃ l:List α,L=l.map cells∧∀ z∈l,fit z:=by
  intro L
  induction L with
  | nil=>intro _; exact ⟨[],rfl,fun z h=>by simp at h⟩
  | cons c L ih =>
   intro h
   obtain ⟨y,hy⟩:=h c (by simp)
   obtain ⟨z,rfl,hf⟩:=one n c y hy
   obtain ⟨l,rfl,e2⟩:=ih (fun c hc=>h c (by simp [hc]))
   exact ⟨z::l,rfl,fun u hu=>by
    rcases Yy.1 hu with e | hu
    ·subst e; exact hf
    ·exact e2 u hu⟩
 obtain ⟨l,rfl,hfit⟩:=key L h5
 rw [Y1x] at h1 h4
 exact ⟨a,cap,l,by rw [Y1x],h1,h2,h4,hfit⟩
theorem X32 {H:Type} {enc:TypeId×Value→H} {P:Program} {w:World} {base:Nat} {spare:Nat→Bool} {held:Bool} {fuel:Nat} {t:TypeId} {cs:List Value} {x:DataW H×List MemPlace} (ht:P.underlying t=some (.float .f64)) (h:DataW.trod enc P w base spare held fuel t cs=some x):∃ b,cs=[.float .f64 b]∧(Lit.float .f64 b).wf=true:=by
 cases fuel with
 | zero=>simp [DataW.trod] at h
 | succ n =>
  unfold DataW.trod at h
  rw [ht] at h
  split at h <;> simp_all
def ntFit (n:Nt):Prop:=n.ticket.length≤maxLen∧n.url.length≤maxLen
theorem Xba {H:Type} {enc:TypeId×Value→H} {W:World} {spare:Nat→Bool} {held:Bool} {fuel:Nat} {cs:List Value} {x:DataW H×List MemPlace} (h:DataW.trod enc Tryz.prog W 0 spare held fuel 45 cs=some x):∃ z:Nt,cs=X3 z∧ntFit z:=by
 obtain ⟨xs,n,_,_,hcl,hxl,hf⟩:=DataW.trod_struct Xj h
 rw [show Tryz.prog.cellsOf 45=4 from by kernel_rfl] at hcl
 obtain ⟨y0,hy0⟩:∃ y,DataW.trod enc Tryz.prog W 0 spare held n 9 ((cs.drop 0).take (Tryz.prog.cellsOf 9))=some y:=⟨_,(hf 0 _ rfl).trans (Y1 (by rw [hxl]; decide))⟩
 rw [show Tryz.prog.cellsOf 9=1 from by kernel_rfl] at hy0
 obtain ⟨y1,hy1⟩:∃ y,DataW.trod enc Tryz.prog W 0 spare held n 9 ((cs.drop 1).take (Tryz.prog.cellsOf 9))=some y:=⟨_,(hf 1 _ rfl).trans (Y1 (by rw [hxl]; decide))⟩
 rw [show Tryz.prog.cellsOf 9=1 from by kernel_rfl] at hy1
 obtain ⟨y2,hy2⟩:∃ y,DataW.trod enc Tryz.prog W 0 spare held n 3 ((cs.drop 2).take (Tryz.prog.cellsOf 3))=some y:=⟨_,(hf 2 _ rfl).trans (Y1 (by rw [hxl]; decide))⟩
 rw [show Tryz.prog.cellsOf 3=1 from by kernel_rfl] at hy2
 obtain ⟨y3,hy3⟩:∃ y,DataW.trod enc Tryz.prog W 0 spare held n 3 ((cs.drop 3).take (Tryz.prog.cellsOf 3))=some y:=⟨_,(hf 3 _ rfl).trans (Y1 (by rw [hxl]; decide))⟩
 rw [show Tryz.prog.cellsOf 3=1 from by kernel_rfl] at hy3
 obtain ⟨v0,v1,v2,v3,rfl⟩:∃ v0 v1 v2 v3,cs=[v0,v1,v2,v3]:=by
  match cs,hcl with
  | [v0,v1,v2,v3],_=>exact ⟨v0,v1,v2,v3,rfl⟩
 simp only [Y3,Y7,Y1h,Yb] at hy0 hy1 hy2 hy3
 obtain ⟨z0,e0,_,w0⟩:=DataW.trod_string Qu9 hy0
 obtain ⟨z1,e1,_,w1⟩:=DataW.trod_string Qu9 hy1
 obtain ⟨z2,e2,_,w2⟩:=DataW.trod_int Qu3 hy2
 obtain ⟨z3,e3,_,w3⟩:=DataW.trod_int Qu3 hy3
 simp only [List.cons.injEq,and_true] at e0 e1 e2 e3
 subst e0 e1 e2 e3
 exact ⟨⟨z0.data.toList,z1.data.toList,z2,z3⟩,rfl,⟨w0,w1⟩⟩
set_option maxRecDepth 20000 in
theorem Xa4 {H:Type} {enc:TypeId×Value→H} {W:World} {spare:Nat→Bool} {held:Bool} {fuel:Nat} {cs:List Value} {x:DataW H×List MemPlace} (h:DataW.trod enc Tryz.prog W 0 spare held fuel 29 cs=some x):∃ (x y z:Nat) (tr:Int),cs.length=28∧cs[24]?=some (F64 x)∧cs[25]?=some (F64 y)∧cs[26]?=some (F64 z)∧cs[27]?=some (I64 tr):=by
 obtain ⟨xs,n,_,_,hcl,hxl,hf⟩:=DataW.trod_struct X6d h
 rw [show Tryz.prog.cellsOf 29=28 from by kernel_rfl] at hcl
 obtain ⟨y0,hy0⟩:∃ y,DataW.trod enc Tryz.prog W 0 spare held n 22 ((cs.drop 0).take (Tryz.prog.cellsOf 22))=some y:=⟨_,(hf 0 _ rfl).trans (Y1 (by rw [hxl]; decide))⟩
 rw [show Tryz.prog.cellsOf 22=1 from by kernel_rfl] at hy0
 obtain ⟨y1,hy1⟩:∃ y,DataW.trod enc Tryz.prog W 0 spare held n 23 ((cs.drop 1).take (Tryz.prog.cellsOf 23))=some y:=⟨_,(hf 1 _ rfl).trans (Y1 (by rw [hxl]; decide))⟩
 rw [show Tryz.prog.cellsOf 23=1 from by kernel_rfl] at hy1
 obtain ⟨y2,hy2⟩:∃ y,DataW.trod enc Tryz.prog W 0 spare held n 26 ((cs.drop 2).take (Tryz.prog.cellsOf 26))=some y:=⟨_,(hf 2 _ rfl).trans (Y1 (by rw [hxl]; decide))⟩
 rw [show Tryz.prog.cellsOf 26=21 from by kernel_rfl] at hy2
 obtain ⟨y3,hy3⟩:∃ y,DataW.trod enc Tryz.prog W 0 spare held n 3 ((cs.drop 23).take (Tryz.prog.cellsOf 3))=some y:=⟨_,(hf 3 _ rfl).trans (Y1 (by rw [hxl]; decide))⟩
 rw [show Tryz.prog.cellsOf 3=1 from by kernel_rfl] at hy3
 obtain ⟨y4,hy4⟩:∃ y,DataW.trod enc Tryz.prog W 0 spare held n 27 ((cs.drop 24).take (Tryz.prog.cellsOf 27))=some y:=⟨_,(hf 4 _ rfl).trans (Y1 (by rw [hxl]; decide))⟩
 rw [show Tryz.prog.cellsOf 27=1 from by kernel_rfl] at hy4
 obtain ⟨y5,hy5⟩:∃ y,DataW.trod enc Tryz.prog W 0 spare held n 27 ((cs.drop 25).take (Tryz.prog.cellsOf 27))=some y:=⟨_,(hf 5 _ rfl).trans (Y1 (by rw [hxl]; decide))⟩
 rw [show Tryz.prog.cellsOf 27=1 from by kernel_rfl] at hy5
 obtain ⟨y6,hy6⟩:∃ y,DataW.trod enc Tryz.prog W 0 spare held n 27 ((cs.drop 26).take (Tryz.prog.cellsOf 27))=some y:=⟨_,(hf 6 _ rfl).trans (Y1 (by rw [hxl]; decide))⟩
 rw [show Tryz.prog.cellsOf 27=1 from by kernel_rfl] at hy6
 obtain ⟨y7,hy7⟩:∃ y,DataW.trod enc Tryz.prog W 0 spare held n 3 ((cs.drop 27).take (Tryz.prog.cellsOf 3))=some y:=⟨_,(hf 7 _ rfl).trans (Y1 (by rw [hxl]; decide))⟩
 rw [show Tryz.prog.cellsOf 3=1 from by kernel_rfl] at hy7
 obtain ⟨v0,v1,v2,v3,v4,v5,v6,v7,v8,v9,v10,v11,v12,v13,v14,v15,v16,v17,v18,v19,v20,v21,v22,v23,v24,v25,v26,v27,rfl⟩:∃ v0 v1 v2 v3 v4 v5 v6 v7 v8 v9 v10 v11 v12 v13 v14 v15 v16 v17 v18 v19 v20 v21 v22 v23 v24 v25 v26 v27,cs=[v0,v1,v2,v3,v4,v5,v6,v7,v8,v9,v10,v11,v12,v13,v14,v15,v16,v17,v18,v19,v20,v21,v22,v23,v24,v25,v26,v27]:=by
  match cs,hcl with
  | [v0,v1,v2,v3,v4,v5,v6,v7,v8,v9,v10,v11,v12,v13,v14,v15,v16,v17,v18,v19,v20,v21,v22,v23,v24,v25,v26,v27],_=>exact ⟨v0,v1,v2,v3,v4,v5,v6,v7,v8,v9,v10,v11,v12,v13,v14,v15,v16,v17,v18,v19,v20,v21,v22,v23,v24,v25,v26,v27,rfl⟩
 simp only [Y3,Y7,Y1h,Yb] at hy0 hy1 hy2 hy3 hy4 hy5 hy6 hy7
 obtain ⟨z4,e4,_⟩:=X32 Qu27 hy4
 obtain ⟨z5,e5,_⟩:=X32 Qu27 hy5
 obtain ⟨z6,e6,_⟩:=X32 Qu27 hy6
 obtain ⟨z7,e7,_⟩:=DataW.trod_int Qu3 hy7
 simp only [List.cons.injEq,and_true] at e4 e5 e6 e7
 subst e4 e5 e6 e7
 exact ⟨_,_,_,_,rfl,rfl,rfl,rfl,rfl⟩
set_option maxRecDepth 20000 in
theorem Xcz {H:Type} {enc:TypeId×Value→H} {W:World} {spare:Nat→Bool} {held:Bool} {fuel:Nat} {cs:List Value} {x:DataW H×List MemPlace} (h:DataW.trod enc Tryz.prog W 0 spare held fuel 40 cs=some x):∃ o:Op3,Xeb (im0 W) o cs:=by
 obtain ⟨xs,n,_,_,hcl,hxl,hf⟩:=DataW.trod_struct X1u h
 rw [show Tryz.prog.cellsOf 40=5 from by kernel_rfl] at hcl
 obtain ⟨y0,hy0⟩:∃ y,DataW.trod enc Tryz.prog W 0 spare held n 3 ((cs.drop 0).take (Tryz.prog.cellsOf 3))=some y:=⟨_,(hf 0 _ rfl).trans (Y1 (by rw [hxl]; decide))⟩
 rw [show Tryz.prog.cellsOf 3=1 from by kernel_rfl] at hy0
 obtain ⟨y1,hy1⟩:∃ y,DataW.trod enc Tryz.prog W 0 spare held n 38 ((cs.drop 1).take (Tryz.prog.cellsOf 38))=some y:=⟨_,(hf 1 _ rfl).trans (Y1 (by rw [hxl]; decide))⟩
 rw [show Tryz.prog.cellsOf 38=1 from by kernel_rfl] at hy1
 obtain ⟨y2,hy2⟩:∃ y,DataW.trod enc Tryz.prog W 0 spare held n 9 ((cs.drop 2).take (Tryz.prog.cellsOf 9))=some y:=⟨_,(hf 2 _ rfl).trans (Y1 (by rw [hxl]; decide))⟩
 rw [show Tryz.prog.cellsOf 9=1 from by kernel_rfl] at hy2
 obtain ⟨y3,hy3⟩:∃ y,DataW.trod enc Tryz.prog W 0 spare held n 4 ((cs.drop 3).take (Tryz.prog.cellsOf 4))=some y:=⟨_,(hf 3 _ rfl).trans (Y1 (by rw [hxl]; decide))⟩
 rw [show Tryz.prog.cellsOf 4=1 from by kernel_rfl] at hy3
 obtain ⟨y4,hy4⟩:∃ y,DataW.trod enc Tryz.prog W 0 spare held n 3 ((cs.drop 4).take (Tryz.prog.cellsOf 3))=some y:=⟨_,(hf 4 _ rfl).trans (Y1 (by rw [hxl]; decide))⟩
 rw [show Tryz.prog.cellsOf 3=1 from by kernel_rfl] at hy4
 obtain ⟨v0,v1,v2,v3,v4,rfl⟩:∃ v0 v1 v2 v3 v4,cs=[v0,v1,v2,v3,v4]:=by
  match cs,hcl with
  | [v0,v1,v2,v3,v4],_=>exact ⟨v0,v1,v2,v3,v4,rfl⟩
 simp only [Y3,Y7,Y1h,Yb] at hy0 hy1 hy2 hy3 hy4
 obtain ⟨z0,e0,_,_⟩:=DataW.trod_int Qu3 hy0
 obtain ⟨a,c,l,e1,h1,h2,h3,h4⟩:=Xat (cells:=X3) (c:=4) (fit:=ntFit) Xt (by kernel_rfl) (by decide) (fun n cs y h=>Xba h) hy1
 obtain ⟨z2,e2,_,_⟩:=DataW.trod_string Qu9 hy2
 obtain ⟨z3,e3,_⟩:=DataW.trod_bool Qu4 hy3
 obtain ⟨z4,e4,_,_⟩:=DataW.trod_int Qu3 hy4
 simp only [List.cons.injEq,and_true] at e0 e1 e2 e3 e4
 subst e0 e1 e2 e3 e4
 exact ⟨⟨z0,l,z2.data.toList,z3,z4⟩,a,c,rfl,h1,h3⟩
set_option maxRecDepth 20000 in
theorem Xap {H:Type} {enc:TypeId×Value→H} {W:World} {spare:Nat→Bool} {held:Bool} {fuel:Nat} {cs:List Value} {x:DataW H×List MemPlace} (h:DataW.trod enc Tryz.prog W 0 spare held fuel 30 cs=some x):∃ (a:Option Addr) (cap:Nat) (l:List Op3),cs=[.slice a l.length cap]∧l.length≤cap∧cap≤maxLen∧OpsAt3 (im0 W) a l:=by
 obtain ⟨a,cap,L,n,rfl,h1,h2,h3,h4,h5⟩:=X6q (c:=5) X6c (by kernel_rfl) (by decide) h
 have key:∀ L:List (List Value),(∀ l∈L,∃ y,DataW.trod enc Tryz.prog W 0 spare held n 40 l=some y)→∃ l:List Op3,L.length=l.length∧∀ (i:Nat) (u:Op3),l[i]?=some u→∃ c,L[i]?=some c∧Xeb (im0 W) u c:=by
  intro L
  induction L with
  | nil=>intro _; exact ⟨[],rfl,fun i s h=>by simp at h⟩
  | cons c L ih =>
   intro h
   obtain ⟨y,hy⟩:=h c (by simp)
   obtain ⟨s,hs⟩:=Xcz hy
   obtain ⟨l,e1,e2⟩:=ih (fun c hc=>h c (by simp [hc]))
   refine ⟨s::l,by simp [e1],fun i u hu=>?_⟩
   cases i with
   | zero=>simp at hu; subst hu; exact ⟨c,rfl,hs⟩
   | succ i=>simpa using e2 i u (by simpa using hu)
 obtain ⟨l,e1,e2⟩:=key L h5
 exact ⟨a,cap,l,by rw [e1],by rw [← e1]; exact h1,h2,⟨L,e1,h3,by rw [← e1]; exact h4,fun i u hu=>e2 i u hu⟩⟩
end Go.Proofs.YtbciobiiejpdgaaGreatDoor
