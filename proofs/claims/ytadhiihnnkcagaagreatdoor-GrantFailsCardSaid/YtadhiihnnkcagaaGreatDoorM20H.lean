/- Part 8 of what the proof stands on: W20f, W20g. -/
import Derived.Test.YtadhiihnnkcagaaGreatDoorM20G
namespace Go.Proofs.YtadhiihnnkcagaaGreatDoor
open Gk Ul Pc Tk Tr
set_option linter.unusedVariables false
set_option linter.unusedSimpArgs false
theorem bld97_F : Bld Tryz.prog 97 [(0, 1), (1, 1), (2, 1), (3, 1), (4, 1), (5, 1), (6, 1), (7, 10), (17, 6)] [.int .i64 0, .int .i64 0, .slice none 0 0, .int .i64 0, S [], S [], .bool false, .int .i64 0, S [], S [], S [], S [], S [], .int .i64 0, .int .i64 0, .int .i64 0, .bool false, S [], S [], .bool false, .bool false, .bool false, .bool false] := bld_of Tryz.underlying97 Tryz.zeroValue97 (fun w => by simp [go_sem])
theorem few20_tail {c : Cf} {o : Op} {l : List Op} (h : few20 c (o :: l) = true) : few20 c l = true ∧ bigO o = false := by
 unfold few20 at h ⊢
 simp only [List.all_cons, Bool.and_eq_true, decide_eq_true_eq, List.length_cons, Bool.not_eq_true'] at h ⊢
 exact ⟨⟨h.1.2, h.2.1, by omega⟩, h.1.1⟩
set_option maxRecDepth 20000 in
theorem GrantChooses_any (c : Cf) (a : Option Addr) (cap : Nat) (ua : Option Addr) (ucap : Nat) (oa : Option Addr) (oc : Nat) (l : List Op) (hol8 : l.length * 248 ≤ 140737488351232) (hfit : ∀ o ∈ l, o.fits) (q : Ak) (at9 : Int) (B w : World) (I : Im) (hK : Known I) (hP : PreAt I) (hC : CfAt I c a cap ua ucap) (hO : OpsAt I oa l) (As : List Assn) (hS : Sat B w I As) :
  Calls Tryz.prog 9 [.agg (cfCells c a cap ua ucap).toArray, .slice oa l.length oc, .agg (akCells q).toArray, I64 at9].toArray w (Ret fun v w' => v = .bool true ∧ ∃ J, Le I J ∧ Sat B w' J As) := by
 refine calls Tryz.func9 rfl Tryz.ntmps9 rfl (.seq (.region (.boxA (cs := cfCells c a cap ua ucap) hS (.of rfl) rfl ?_)))
 clear hS; intro b4 w hS
 refine .boxA (cs := [S q.service, S q.cookie, .bool q.has, .bool q.renew, .bool q.gateway, .bool q.warn]) hS (.of rfl) rfl ?_
 clear hS; intro b6 w hS
 refine .run 1 rfl trivial (.nil (.seq (.region (.call Tryz.func34 rfl evs_nil rfl (awake20_any B _ I hK hP _ hS) ?_))))
 clear hS
 rintro _ w ⟨rfl, hS⟩
 refine .run 1 rfl trivial (.nil (.seq ?_))
 have hol : l.length ≤ 9223372036854775807 := by omega
 refine .drawn (fun w => ∃ J9 R, Le I J9 ∧ Sat B w J9 (blk b6 [S q.service, S q.cookie, .bool q.has, .bool q.renew, .bool q.gateway, .bool q.warn] 95 :: blk b4 (cfCells c a cap ua ucap) 34 :: R)) (fun j => !([].contains j)) (by kernel_rfl) ?_
 replace hS := hS.drew; generalize w.drew = w at hS ⊢
 have hH : ∃ J9 R, Le I J9 ∧ Sat B w J9 (blk b6 [S q.service, S q.cookie, .bool q.has, .bool q.renew, .bool q.gateway, .bool q.warn] 95 :: blk b4 (cfCells c a cap ua ucap) 34 :: R) := ⟨_, _, Le.refl _, ((hS.pick 1 rfl).pick 1 rfl)⟩
 refine WD.take (i := 0) rfl (by kernel_rfl) (by kernel_rfl) (by kernel_rfl) (by kernel_rfl) hH (fun w ⟨J9, R, hL9, hS⟩ => (by first | exact (.ldsW (cs := [_, _, _, _, _, _, _, _, _, _, _, _, _, _, _, _, _, _, _, _, _, _, _, _, _, _, _, _]) (.of rfl) hS (k := 0) rfl Tryz.isAgg34 Tryz.sizeOf34 rfl) | exact (.lds (vs := [_, _, _, _, _, _, _, _, _, _, _, _, _, _, _, _, _, _, _, _, _, _, _, _, _, _, _, _]) (.of rfl) hS (k := 0) rfl Tryz.isAgg34 Tryz.sizeOf34 rfl (fun _ _ h => h)) | exact (.ldsW (cs := [_, _, _, _, _, _, _, _, _, _, _, _, _, _, _, _, _, _, _, _, _, _, _, _, _, _, _, _]) (.of rfl) hS (k := 1) rfl Tryz.isAgg34 Tryz.sizeOf34 rfl) | exact (.lds (vs := [_, _, _, _, _, _, _, _, _, _, _, _, _, _, _, _, _, _, _, _, _, _, _, _, _, _, _, _]) (.of rfl) hS (k := 1) rfl Tryz.isAgg34 Tryz.sizeOf34 rfl (fun _ _ h => h)))) rfl ?_
 refine WD.take (i := 1) rfl (by kernel_rfl) (by kernel_rfl) (by kernel_rfl) (by kernel_rfl) hH (fun w ⟨J9, R, hL9, hS⟩ => (by first | exact (.ldsW (cs := [_, _, _, _, _, _]) (.of rfl) hS (k := 0) rfl Tryz.isAgg95 Tryz.sizeOf95 rfl) | exact (.lds (vs := [_, _, _, _, _, _]) (.of rfl) hS (k := 0) rfl Tryz.isAgg95 Tryz.sizeOf95 rfl (fun _ _ h => h)) | exact (.ldsW (cs := [_, _, _, _, _, _]) (.of rfl) hS (k := 1) rfl Tryz.isAgg95 Tryz.sizeOf95 rfl) | exact (.lds (vs := [_, _, _, _, _, _]) (.of rfl) hS (k := 1) rfl Tryz.isAgg95 Tryz.sizeOf95 rfl (fun _ _ h => h)))) rfl ?_
 refine .takeP (i := 2) rfl (by kernel_rfl) (by kernel_rfl) (by kernel_rfl) (fun w => (.build (cs := [_, _, _, _, _, _, _, _, _, _, _, _, _, _, _, _, _, _, _, _, _, _, _]) (parts_cons (.of rfl) parts_nil) bld97_F rfl)) rfl (.takeP (i := 4) rfl (by kernel_rfl) (by kernel_rfl) (by kernel_rfl) (fun w => (.move (.of rfl))) rfl ?_)
 refine WD.branch [3] (by kernel_rfl) rfl (WO.cons rfl ?_ (WO.nil))
 refine .buildSlice (cs := [I64 0, I64 0, .slice none 0 0, I64 0, S [], S [], .bool false, I64 0, S [], S [], S [], S [], S [], I64 0, I64 0, I64 0, .bool false, S q.service, S q.cookie, .bool q.has, .bool q.renew, .bool q.gateway, .bool q.warn]) hS (parts_cons (.of rfl) parts_nil) Tryz.underlying88 Tryz.sizeOf97 Tryz.zeroValue97 rfl rfl rfl rfl ?_
 clear hS; intro b25 w hS
 refine .nil ?_
 clear hH
 have hH : ∃ J9 R, Le I J9 ∧ Sat B w J9 (blk b6 [S q.service, S q.cookie, .bool q.has, .bool q.renew, .bool q.gateway, .bool q.warn] 95 :: blk b4 (cfCells c a cap ua ucap) 34 :: R) := ⟨_, _, Le.refl _, ((hS.pick 2 rfl).pick 2 rfl)⟩
 refine And.intro (by intro _ _; exact hH) ?_
 refine WD.branch [5] (by kernel_rfl) rfl (WO.cons rfl ?_ (WO.nil))
 obtain ⟨L9, hL1, hL2, hL3, hL4⟩ := id hO
 have hL5 := ops_one hL1 hL4
 replace hS := hS.vecOf (k := 0) (E := 97) (size := 23) (n := 1) rfl rfl (by decide)
 try dsimp only [List.set] at hS
 refine WL.appendF (size := 23) (bytes := 248) hS (.of rfl) (.of rfl) hL3 (k := 0) rfl Tryz.underlying88 (i := Tryz.t97) (by kernel_rfl) rfl rfl rfl rfl hL5 ⟨by omega, by unfold maxLen; omega⟩ rfl ?_
 clear hS; intro v27 w hS
 try dsimp only [List.set] at hS
 refine .nil ?_
 clear hH
 have hH : ∃ J9 R, Le I J9 ∧ Sat B w J9 (blk b6 [S q.service, S q.cookie, .bool q.has, .bool q.renew, .bool q.gateway, .bool q.warn] 95 :: blk b4 (cfCells c a cap ua ucap) 34 :: R) := ⟨_, _, Le.refl _, ((hS.pick 2 rfl).pick 2 rfl)⟩
 refine And.intro (by intro _ _; exact hH) ?_
 refine WD.branch [6] (by kernel_rfl) rfl (WO.cons rfl ?_ (WO.nil))
 obtain ⟨ra9, rc9, hv9, _, _⟩ := hS.vecSlice (k := 0) rfl
 subst hv9
 obtain ⟨J1, hJ1, hR9, hS⟩ := hS.freezeVec (k := 0) rfl
 try dsimp only [List.eraseIdx] at hS
 have hO1 : OpsAt J1 ra9 ((⟨0, 0, [], 0, [], [], false, r0, q⟩ : Op) :: l) := opsAt_cons hL1 hL2 hL4 hJ1 (⟨none, 0, rfl, Nat.le_refl _, by decide, RS.nil _ _⟩) hR9
 rw [show 1 + l.length = ((⟨0, 0, [], 0, [], [], false, r0, q⟩ : Op) :: l).length from Nat.add_comm _ _]
 refine WL.call Tryz.func35 rfl (evs_cons (.of rfl) (evs_cons (.of rfl) evs_nil)) rfl (few20_any c a cap ua ucap ra9 rc9 ((⟨0, 0, [], 0, [], [], false, r0, q⟩ : Op) :: l) (by rw [List.length_cons]; omega) B _ J1 (hC.mono hJ1) hO1 _ hS) ?_
 clear hS
 rintro _ w ⟨rfl, hS⟩
 refine .nil ?_
 clear hH
 have hH : ∃ J9 R, Le I J9 ∧ Sat B w J9 (blk b6 [S q.service, S q.cookie, .bool q.has, .bool q.renew, .bool q.gateway, .bool q.warn] 95 :: blk b4 (cfCells c a cap ua ucap) 34 :: R) := ⟨_, _, hJ1, ((hS.pick 1 rfl).pick 1 rfl)⟩
 refine And.intro (by intro _ _; exact hH) ?_
 refine .takeP (i := 7) rfl (by kernel_rfl) (by kernel_rfl) (by kernel_rfl) (fun w => (.assign (.of rfl))) rfl (.done (by kernel_rfl) (.seq (.seq (.region (.run 2 rfl trivial (.nil ?_))))))
 refine WC.cond rfl (fun hb30 => ?_) (fun hb30 => ?_)
 ·
  have hc30 := hb30; try simp only [Gk.cs0] at hc30
  refine .seq (.region (.run 2 rfl trivial (.nil (.ret (ret1 Tryz.results9 rfl ?_)))))
  exact ⟨_, rfl, rfl, J1, hJ1, (hS.drop (k := 0) rfl).drop (k := 0) rfl⟩
 have hc30 := hb30; try simp only [Gk.cs0] at hc30
 refine .skip (.seq ?_)
 have hf0 : few20 c ((⟨0, 0, [], 0, [], [], false, r0, q⟩ : Op) :: l) = true := by simpa using hb30
 have hf := (few20_tail hf0).1
 refine .region ?_
 refine WL.val (.lds (vs := cfCells c a cap ua ucap) (.of rfl) hS (k := 1) rfl Tryz.isAgg34 Tryz.sizeOf34 rfl (fun j v hj => by rw [Nat.zero_add]; exact hj)) rfl ?_
 refine .run 1 rfl trivial (.call Tryz.func36 rfl (evs_cons (.of rfl) (evs_cons (.of rfl) evs_nil)) rfl (walked_any c a cap ua ucap oa oc l hol hf hfit B _ J1 (hK.mono hJ1) (hP.mono hJ1) (hC.mono hJ1) (hO.mono hJ1) _ hS) ?_)
 clear hS
 rintro _ w ⟨J, pv, dv, hJ, rfl, hcs⟩
 refine .run 5 rfl trivial (.nil (.seq (.seq (.region (.run 1 rfl trivial (.val (.eqp (.of rfl) (.of rfl) Tryz.underlying39) rfl (.nil ?_)))))))
 refine WC.cond rfl (fun hb39 => ?_) (fun hb39 => ?_)
 ·
  have hc39 := hb39; try simp only [Gk.cs0] at hc39
  refine .seq (.region (.run 2 rfl trivial (.nil (.ret (ret1 Tryz.results9 rfl ?_)))))
  rcases hcs with ⟨_, rfl, hS⟩ | ⟨_, p, D, _, _, _, _, h9, _⟩
  ·exact ⟨_, rfl, rfl, J, hJ1.trans hJ, (hS.drop (k := 0) rfl).drop (k := 0) rfl⟩
  ·exfalso; rw [h9] at hb39; cases hb39
 have hc39 := hb39; try simp only [Gk.cs0] at hc39
 refine .skip (.seq ?_)
 rcases hcs with ⟨_, h9, _⟩ | ⟨hz, p, D, hD, hlo, hus, hps, hpv, hI, hS⟩
 ·exfalso; rw [h9] at hb39; cases hb39
 subst hpv
 have hwk := walkW_ok (lo := p.lo) (us := p.us) (ps := p.ps) hf hfit
 generalize hs9 : walkW p.lo p.us p.ps (w0 c) l = s at hwk hS
 obtain ⟨va, vc, hdv, hvc, _⟩ := hS.vecSlice (k := 0) rfl
 subst hdv
 have hqs : q.service.length ≤ 120 := by
  have h := (few20_tail hf0).2
  simp [bigO] at h
  omega
 refine .region (.run 2 rfl trivial ?_)
 refine WL.call Tryz.func38 rfl (evs_cons (.of rfl) (evs_cons (.of rfl) evs_nil)) rfl (toldN_any va vc s.2 (by have := hwk.nl; omega) at9 B _ J _ (fun w h => rows_own (cells := tCells) (s := 1) (fun _ => rfl) h (k := 0) (by rw [rowsT]; rfl)) hS) ?_
 clear hS
 rintro _ w ⟨rfl, hS⟩
 first | refine WL.val (.fieldAddr 1 (.of rfl) Tryz.underlying95 rfl rfl Tryz.sizeOf9 rfl) rfl ?_ | refine WL.val (.fieldAddrI 1 (.of rfl) Tryz.underlying95 rfl rfl Tryz.sizeOf9 rfl) rfl ?_
 first | refine WL.st1 hS (k := 0) rfl (.of rfl) (.of rfl) rfl Tryz.sizeOf9 (by simp) ?_ | refine WL.st1 hS (k := 1) rfl (.of rfl) (.of rfl) rfl Tryz.sizeOf9 (by simp) ?_ | refine WL.st1 hS (k := 2) rfl (.of rfl) (.of rfl) rfl Tryz.sizeOf9 (by simp) ?_ | refine WL.st1 hS (k := 3) rfl (.of rfl) (.of rfl) rfl Tryz.sizeOf9 (by simp) ?_
 clear hS; intro w hS; try dsimp only [List.set] at hS
 refine .nil (.seq (.region (.run 1 rfl trivial ?_)))
 first | refine WL.val (.ldsW (cs := [_, _, _, _, _, _]) (.of rfl) hS (k := 0) rfl Tryz.isAgg95 Tryz.sizeOf95 rfl) rfl ?_ | refine WL.val (.lds (vs := [_, _, _, _, _, _]) (.of rfl) hS (k := 0) rfl Tryz.isAgg95 Tryz.sizeOf95 rfl (fun _ _ h => h)) rfl ?_ | refine WL.val (.ldsW (cs := [_, _, _, _, _, _]) (.of rfl) hS (k := 1) rfl Tryz.isAgg95 Tryz.sizeOf95 rfl) rfl ?_ | refine WL.val (.lds (vs := [_, _, _, _, _, _]) (.of rfl) hS (k := 1) rfl Tryz.isAgg95 Tryz.sizeOf95 rfl (fun _ _ h => h)) rfl ?_ | refine WL.val (.ldsW (cs := [_, _, _, _, _, _]) (.of rfl) hS (k := 2) rfl Tryz.isAgg95 Tryz.sizeOf95 rfl) rfl ?_ | refine WL.val (.lds (vs := [_, _, _, _, _, _]) (.of rfl) hS (k := 2) rfl Tryz.isAgg95 Tryz.sizeOf95 rfl (fun _ _ h => h)) rfl ?_ | refine WL.val (.ldsW (cs := [_, _, _, _, _, _]) (.of rfl) hS (k := 3) rfl Tryz.isAgg95 Tryz.sizeOf95 rfl) rfl ?_ | refine WL.val (.lds (vs := [_, _, _, _, _, _]) (.of rfl) hS (k := 3) rfl Tryz.isAgg95 Tryz.sizeOf95 rfl (fun _ _ h => h)) rfl ?_
 refine WL.call Tryz.func39 rfl (evs_cons (.of rfl) (evs_cons (.of rfl) evs_nil)) rfl (Choose_any (⟨q.service, (toldN s.2 at9), q.has, q.renew, q.gateway, q.warn⟩ : Ak) (by show q.service.length ≤ 1000000; omega) p s.1 hwk.ok B _ J hI _ (hS.pick 1 rfl)) ?_
 clear hS
 rintro _ w ⟨rfl, hS⟩
 try dsimp only [List.eraseIdx] at hS
 refine .run 1 rfl trivial (.nil (.seq (.region (.run 1 rfl trivial ?_))))
 first | refine WL.val (.fieldAddr 1 (.of rfl) Tryz.underlying95 rfl rfl Tryz.sizeOf9 rfl) rfl ?_ | refine WL.val (.fieldAddrI 1 (.of rfl) Tryz.underlying95 rfl rfl Tryz.sizeOf9 rfl) rfl ?_
 first | refine WL.val (.ld (.of rfl) hS (k := 0) rfl Tryz.isAgg9 rfl) rfl ?_ | refine WL.val (.ld (.of rfl) hS (k := 1) rfl Tryz.isAgg9 rfl) rfl ?_ | refine WL.val (.ld (.of rfl) hS (k := 2) rfl Tryz.isAgg9 rfl) rfl ?_ | refine WL.val (.ld (.of rfl) hS (k := 3) rfl Tryz.isAgg9 rfl) rfl ?_
 refine .call Tryz.func21 rfl (evs_cons (.of rfl) (evs_cons (.of rfl) (evs_cons (.of rfl) evs_nil))) rfl (Alive_any (toldN s.2 at9) 1 p s.1 hwk.ok B _ J _ hS) ?_
 clear hS
 rintro _ w ⟨rfl, hS⟩
 try dsimp only [List.eraseIdx] at hS
 refine .run 3 rfl trivial (.allocA (cs := [_, _, _, _, _, _, _, _, _, _]) hS Tryz.zeroValue45 rfl ?_)
 clear hS; intro b14 w hS
 first | refine WL.stA hS (k := 0) rfl (.of rfl) (.of rfl) rfl Tryz.sizeOf45 rfl (by simp) ?_ | refine WL.stA hS (k := 1) rfl (.of rfl) (.of rfl) rfl Tryz.sizeOf45 rfl (by simp) ?_ | refine WL.stA hS (k := 2) rfl (.of rfl) (.of rfl) rfl Tryz.sizeOf45 rfl (by simp) ?_ | refine WL.stA hS (k := 3) rfl (.of rfl) (.of rfl) rfl Tryz.sizeOf45 rfl (by simp) ?_ | refine WL.stA hS (k := 4) rfl (.of rfl) (.of rfl) rfl Tryz.sizeOf45 rfl (by simp) ?_
 clear hS; intro w hS; try dsimp only [List.set] at hS
 try simp only [List.take_zero, List.nil_append, List.append_nil, List.drop_succ_cons, List.drop_zero, List.drop_nil, Nat.zero_add] at hS
 refine .run 1 rfl trivial (.nil ?_)
 refine WC.cutS (σ := Nat × Option Addr × Nat) (fun ⟨b16, ra, rc⟩ => [(6, ptr b6 0), (9, .bool true), (13, I64 ((chooseW p.lo p.ps s.1 (⟨q.service, (toldN s.2 at9), q.has, q.renew, q.gateway, q.warn⟩ : Ak) : Nat) : Int)), (15, .bool (aliveW p.ps s.1 (toldN s.2 at9) 1).2), (16, ptr b16 0), (18, I64 ((findR p.lo q.service).2.2 : Nat))]) (fun ⟨b16, ra, rc⟩ w => Sat B w J (blk b16 (svCells (findR p.lo q.service).1 ra rc) 101 :: wdA p s.1 :: blk b14 (recCells (aliveW p.ps s.1 (toldN s.2 at9) 1).1) 45 :: blk b6 [S q.service, S (toldN s.2 at9), .bool q.has, .bool q.renew, .bool q.gateway, .bool q.warn] 95 :: blk b4 (cfCells c a cap ua ucap) 34 :: As)) ?_ ?_
 ·
  replace hS := (hS.pick 1 rfl)
  try dsimp only [List.eraseIdx] at hS
  obtain ⟨⟨a5, c5, ma5, mc5⟩, hS⟩ := Sat.unbox hS
  replace hS : Sat B _ _ (blk p.wb (wdC p s.1) 52 :: blk p.tb [I64 s.1.room, .slice a5 s.1.l.length c5] 127 :: Vec 45 10 (.slice a5 s.1.l.length c5) s.1.l.length (rowsR s.1.l) :: blk p.mb [.slice ma5 s.1.D.length mc5] 168 :: VecO 118 (.slice ma5 s.1.D.length mc5) (s.1.D.map fun d => U64 (d : Nat)) :: _) := hS
  refine .drawn (fun w => ∃ R, Sat B w J (blk b6 [S q.service, S (toldN s.2 at9), .bool q.has, .bool q.renew, .bool q.gateway, .bool q.warn] 95 :: blk p.wb (wdC p s.1) 52 :: R)) (fun j => !([].contains j)) (by kernel_rfl) ?_
  replace hS := hS.drew; generalize w.drew = w at hS ⊢
  have hH : ∃ R, Sat B w J (blk b6 [S q.service, S (toldN s.2 at9), .bool q.has, .bool q.renew, .bool q.gateway, .bool q.warn] 95 :: blk p.wb (wdC p s.1) 52 :: R) := ⟨_, ((hS.pick 0 rfl).pick 7 rfl)⟩
  refine .takeP (i := 0) rfl (by kernel_rfl) (by kernel_rfl) (by kernel_rfl) (fun w => (.move (.of rfl))) rfl (.takeP (i := 1) rfl (by kernel_rfl) (by kernel_rfl) (by kernel_rfl) (fun w => (.nilCheck (.of rfl))) rfl ?_)
  refine WD.takeP (i := 2) rfl (by kernel_rfl) (by kernel_rfl) (by kernel_rfl) (fun w => (by first | exact .fieldAddr 2 (.of rfl) Tryz.underlying52 rfl rfl Tryz.sizeOf49 rfl | exact .fieldAddrI 2 (.of rfl) Tryz.underlying52 rfl rfl Tryz.sizeOf49 rfl)) rfl ?_
  refine WD.take (i := 3) rfl (by kernel_rfl) (by kernel_rfl) (by kernel_rfl) (by kernel_rfl) hH (fun w ⟨R, hS⟩ => (by first | exact (.ld (.of rfl) hS (k := 0) rfl Tryz.isAgg49 rfl) | exact (.ld (.of rfl) hS (k := 1) rfl Tryz.isAgg49 rfl))) rfl ?_
  refine WD.takeP (i := 4) rfl (by kernel_rfl) (by kernel_rfl) (by kernel_rfl) (fun w => (by first | exact .fieldAddr 0 (.of rfl) Tryz.underlying95 rfl rfl Tryz.sizeOf9 rfl | exact .fieldAddrI 0 (.of rfl) Tryz.underlying95 rfl rfl Tryz.sizeOf9 rfl)) rfl ?_
  refine WD.take (i := 5) rfl (by kernel_rfl) (by kernel_rfl) (by kernel_rfl) (by kernel_rfl) hH (fun w ⟨R, hS⟩ => (by first | exact (.ld (.of rfl) hS (k := 0) rfl Tryz.isAgg9 rfl) | exact (.ld (.of rfl) hS (k := 1) rfl Tryz.isAgg9 rfl))) rfl ?_
  refine WD.branch [6, 11] (by kernel_rfl) rfl (WO.cons rfl ?_ (WO.cons rfl ?_ (WO.nil)))
  ·
   refine .call Tryz.func40 rfl (evs_cons (.of rfl) (evs_cons (.of rfl) evs_nil)) rfl (Find_any q.service (by omega) p B _ J hI _ hS) ?_
   clear hS
   rintro _ w ⟨ra, rc, rfl, hS⟩
   refine .nil ?_
   clear hH
   have hH : ∃ R, Sat B w J (blk b6 [S q.service, S (toldN s.2 at9), .bool q.has, .bool q.renew, .bool q.gateway, .bool q.warn] 95 :: blk p.wb (wdC p s.1) 52 :: R) := ⟨_, ((hS.pick 0 rfl).pick 7 rfl)⟩
   refine And.intro (by intro _ _; exact hH) ?_
   refine .takeP (i := 7) rfl (by kernel_rfl) (by kernel_rfl) (by kernel_rfl) (fun w => (.move (.of rfl))) rfl (.takeP (i := 8) rfl (by kernel_rfl) (by kernel_rfl) (by kernel_rfl) (fun w => (.extract (.of rfl) rfl)) rfl (.takeP (i := 9) rfl (by kernel_rfl) (by kernel_rfl) (by kernel_rfl) (fun w => (.extract (.of rfl) rfl)) rfl (.takeP (i := 10) rfl (by kernel_rfl) (by kernel_rfl) (by kernel_rfl) (fun w => (.extract (.of rfl) rfl)) rfl ?_)))
   refine WD.branch [11] (by kernel_rfl) rfl (WO.cons rfl ?_ (WO.nil))
   refine .allocA (cs := [_, _, _, _, _, _, _, _]) hS Tryz.zeroValue101 rfl ?_
   clear hS; intro b16 w hS
   refine .nil ?_
   clear hH
   have hH : ∃ R, Sat B w J (blk b6 [S q.service, S (toldN s.2 at9), .bool q.has, .bool q.renew, .bool q.gateway, .bool q.warn] 95 :: blk p.wb (wdC p s.1) 52 :: R) := ⟨_, ((hS.pick 1 rfl).pick 8 rfl)⟩
   refine And.intro (by intro _ _; exact hH) ?_
   refine WD.branch [12] (by kernel_rfl) rfl (WO.cons rfl ?_ (WO.nil))
   first | refine WL.stA hS (k := 0) rfl (.of rfl) (.of rfl) rfl Tryz.sizeOf101 rfl (by simp) ?_ | refine WL.stA hS (k := 1) rfl (.of rfl) (.of rfl) rfl Tryz.sizeOf101 rfl (by simp) ?_ | refine WL.stA hS (k := 2) rfl (.of rfl) (.of rfl) rfl Tryz.sizeOf101 rfl (by simp) ?_ | refine WL.stA hS (k := 3) rfl (.of rfl) (.of rfl) rfl Tryz.sizeOf101 rfl (by simp) ?_ | refine WL.stA hS (k := 4) rfl (.of rfl) (.of rfl) rfl Tryz.sizeOf101 rfl (by simp) ?_ | refine WL.stA hS (k := 5) rfl (.of rfl) (.of rfl) rfl Tryz.sizeOf101 rfl (by simp) ?_ | refine WL.stA hS (k := 6) rfl (.of rfl) (.of rfl) rfl Tryz.sizeOf101 rfl (by simp) ?_ | refine WL.stA hS (k := 7) rfl (.of rfl) (.of rfl) rfl Tryz.sizeOf101 rfl (by simp) ?_ | refine WL.stA hS (k := 8) rfl (.of rfl) (.of rfl) rfl Tryz.sizeOf101 rfl (by simp) ?_ | refine WL.stA hS (k := 9) rfl (.of rfl) (.of rfl) rfl Tryz.sizeOf101 rfl (by simp) ?_
   clear hS; intro w hS; try dsimp only [List.set] at hS
   try simp only [List.take_zero, List.nil_append, List.append_nil, List.drop_succ_cons, List.drop_zero, List.drop_nil, Nat.zero_add] at hS
   refine .nil ?_
   clear hH
   have hH : ∃ R, Sat B w J (blk b6 [S q.service, S (toldN s.2 at9), .bool q.has, .bool q.renew, .bool q.gateway, .bool q.warn] 95 :: blk p.wb (wdC p s.1) 52 :: R) := ⟨_, ((hS.pick 1 rfl).pick 8 rfl)⟩
   refine And.intro (by intro _ _; exact hH) ?_
   refine .takeP (i := 13) rfl (by kernel_rfl) (by kernel_rfl) (by kernel_rfl) (fun w => (.assign (.of rfl))) rfl (.takeP (i := 14) rfl (by kernel_rfl) (by kernel_rfl) (by kernel_rfl) (fun w => (.assign (.of rfl))) rfl (.done (by kernel_rfl) ?_))
   replace hS := Sat.box (T := wdT p s.1) (a5, c5, ma5, mc5) (((((hS.pick 5 rfl).pick 5 rfl).pick 5 rfl).pick 5 rfl).pick 5 rfl)
   try dsimp only [List.eraseIdx] at hS
   exact ⟨(b16, ra, rc), ⟨rfl, rfl, rfl, rfl, rfl, rfl, trivial⟩, ((((((hS.drop (k := 3) rfl).pick 4 rfl).pick 4 rfl).pick 4 rfl).pick 3 rfl).pick 4 rfl)⟩
  ·
   refine .allocA (cs := [_, _, _, _, _, _, _, _]) hS Tryz.zeroValue101 rfl ?_
   clear hS; intro b16 w hS
   refine .nil ?_
   clear hH
   have hH : ∃ R, Sat B w J (blk b6 [S q.service, S (toldN s.2 at9), .bool q.has, .bool q.renew, .bool q.gateway, .bool q.warn] 95 :: blk p.wb (wdC p s.1) 52 :: R) := ⟨_, ((hS.pick 1 rfl).pick 8 rfl)⟩
   refine And.intro (by intro _ _; exact hH) ?_
   refine WD.branch [6] (by kernel_rfl) rfl (WO.cons rfl ?_ (WO.nil))
   refine .call Tryz.func40 rfl (evs_cons (.of rfl) (evs_cons (.of rfl) evs_nil)) rfl (Find_any q.service (by omega) p B _ J hI _ hS) ?_
   clear hS
   rintro _ w ⟨ra, rc, rfl, hS⟩
   refine .nil ?_
   clear hH
   have hH : ∃ R, Sat B w J (blk b6 [S q.service, S (toldN s.2 at9), .bool q.has, .bool q.renew, .bool q.gateway, .bool q.warn] 95 :: blk p.wb (wdC p s.1) 52 :: R) := ⟨_, ((hS.pick 1 rfl).pick 8 rfl)⟩
   refine And.intro (by intro _ _; exact hH) ?_
   refine .takeP (i := 7) rfl (by kernel_rfl) (by kernel_rfl) (by kernel_rfl) (fun w => (.move (.of rfl))) rfl (.takeP (i := 8) rfl (by kernel_rfl) (by kernel_rfl) (by kernel_rfl) (fun w => (.extract (.of rfl) rfl)) rfl (.takeP (i := 9) rfl (by kernel_rfl) (by kernel_rfl) (by kernel_rfl) (fun w => (.extract (.of rfl) rfl)) rfl (.takeP (i := 10) rfl (by kernel_rfl) (by kernel_rfl) (by kernel_rfl) (fun w => (.extract (.of rfl) rfl)) rfl ?_)))
   refine WD.branch [12] (by kernel_rfl) rfl (WO.cons rfl ?_ (WO.nil))
   first | refine WL.stA hS (k := 0) rfl (.of rfl) (.of rfl) rfl Tryz.sizeOf101 rfl (by simp) ?_ | refine WL.stA hS (k := 1) rfl (.of rfl) (.of rfl) rfl Tryz.sizeOf101 rfl (by simp) ?_ | refine WL.stA hS (k := 2) rfl (.of rfl) (.of rfl) rfl Tryz.sizeOf101 rfl (by simp) ?_ | refine WL.stA hS (k := 3) rfl (.of rfl) (.of rfl) rfl Tryz.sizeOf101 rfl (by simp) ?_ | refine WL.stA hS (k := 4) rfl (.of rfl) (.of rfl) rfl Tryz.sizeOf101 rfl (by simp) ?_ | refine WL.stA hS (k := 5) rfl (.of rfl) (.of rfl) rfl Tryz.sizeOf101 rfl (by simp) ?_ | refine WL.stA hS (k := 6) rfl (.of rfl) (.of rfl) rfl Tryz.sizeOf101 rfl (by simp) ?_ | refine WL.stA hS (k := 7) rfl (.of rfl) (.of rfl) rfl Tryz.sizeOf101 rfl (by simp) ?_ | refine WL.stA hS (k := 8) rfl (.of rfl) (.of rfl) rfl Tryz.sizeOf101 rfl (by simp) ?_ | refine WL.stA hS (k := 9) rfl (.of rfl) (.of rfl) rfl Tryz.sizeOf101 rfl (by simp) ?_
   clear hS; intro w hS; try dsimp only [List.set] at hS
   try simp only [List.take_zero, List.nil_append, List.append_nil, List.drop_succ_cons, List.drop_zero, List.drop_nil, Nat.zero_add] at hS
   refine .nil ?_
   clear hH
   have hH : ∃ R, Sat B w J (blk b6 [S q.service, S (toldN s.2 at9), .bool q.has, .bool q.renew, .bool q.gateway, .bool q.warn] 95 :: blk p.wb (wdC p s.1) 52 :: R) := ⟨_, ((hS.pick 1 rfl).pick 8 rfl)⟩
   refine And.intro (by intro _ _; exact hH) ?_
   refine .takeP (i := 13) rfl (by kernel_rfl) (by kernel_rfl) (by kernel_rfl) (fun w => (.assign (.of rfl))) rfl (.takeP (i := 14) rfl (by kernel_rfl) (by kernel_rfl) (by kernel_rfl) (fun w => (.assign (.of rfl))) rfl (.done (by kernel_rfl) ?_))
   replace hS := Sat.box (T := wdT p s.1) (a5, c5, ma5, mc5) (((((hS.pick 5 rfl).pick 5 rfl).pick 5 rfl).pick 5 rfl).pick 5 rfl)
   try dsimp only [List.eraseIdx] at hS
   exact ⟨(b16, ra, rc), ⟨rfl, rfl, rfl, rfl, rfl, rfl, trivial⟩, ((((((hS.drop (k := 3) rfl).pick 4 rfl).pick 4 rfl).pick 4 rfl).pick 3 rfl).pick 4 rfl)⟩
 rintro ⟨b16, ra, rc⟩ w hS
 change WC _ _ _ _ [(6, ptr b6 0), (9, .bool true), (13, I64 ((chooseW p.lo p.ps s.1 (⟨q.service, (toldN s.2 at9), q.has, q.renew, q.gateway, q.warn⟩ : Ak) : Nat) : Int)), (15, .bool (aliveW p.ps s.1 (toldN s.2 at9) 1).2), (16, ptr b16 0), (18, I64 ((findR p.lo q.service).2.2 : Nat))] w
 refine .seq (.region ?_)
 first | refine WL.val (.fieldAddr 2 (.of rfl) Tryz.underlying95 rfl rfl Tryz.sizeOf4 rfl) rfl ?_ | refine WL.val (.fieldAddrI 2 (.of rfl) Tryz.underlying95 rfl rfl Tryz.sizeOf4 rfl) rfl ?_
 first | refine WL.val (.ld (.of rfl) hS (k := 0) rfl Tryz.isAgg4 rfl) rfl ?_ | refine WL.val (.ld (.of rfl) hS (k := 1) rfl Tryz.isAgg4 rfl) rfl ?_ | refine WL.val (.ld (.of rfl) hS (k := 2) rfl Tryz.isAgg4 rfl) rfl ?_ | refine WL.val (.ld (.of rfl) hS (k := 3) rfl Tryz.isAgg4 rfl) rfl ?_ | refine WL.val (.ld (.of rfl) hS (k := 4) rfl Tryz.isAgg4 rfl) rfl ?_
 refine .run 1 rfl trivial (.gval rfl rfl (fun hg1 => (.move (.of rfl))) rfl (.gval rfl rfl (fun hg1 => (.eql (.gd hg1 rfl) (.of rfl))) rfl (.val (.pand (.of rfl) (.of rfl) (.of rfl)) rfl (.run 1 rfl trivial (.nil (.seq (.region (.run 3 rfl trivial (.gval rfl rfl (fun hg1 => (.move (.of rfl))) rfl (.gval rfl rfl (fun hg1 => (.eql (.gd hg1 rfl) (.of rfl))) rfl (.val (.por (.of rfl) (.of rfl) (.of rfl)) rfl (.run 1 rfl trivial (.nil (.seq (.seq (.region (.run 3 rfl trivial (.gval rfl rfl (fun hg1 => (.move (.of rfl))) rfl (.gval rfl rfl (fun hg1 => (.gtr (.gd hg1 rfl) (.of rfl))) rfl (.val (.por (.of rfl) (.of rfl) (.of rfl)) rfl (.run 1 rfl trivial (.gval rfl rfl (fun hg1 => (.move (.of rfl))) rfl (.gval rfl rfl (fun hg1 => (.move (.gd hg1 rfl))) rfl (.gval2 rfl rfl rfl (fun hg1 hg2 => (.move (.of rfl))) rfl (.gval2 rfl rfl rfl (fun hg1 hg2 => (.not (.gd2 hg1 hg2 rfl))) rfl (.gval2 rfl rfl rfl (fun hg1 hg2 => (.move (.gd2 hg1 hg2 rfl))) rfl ?_))))))))))))))))))))))))))
 refine WL.gval3 rfl rfl rfl (fun hg1 hg2 hg3 => (by first | exact .fieldAddr 3 (.of rfl) Tryz.underlying95 rfl rfl Tryz.sizeOf4 rfl | exact .fieldAddrI 3 (.of rfl) Tryz.underlying95 rfl rfl Tryz.sizeOf4 rfl)) rfl ?_
 refine WL.gval3 rfl rfl rfl (fun hg1 hg2 hg3 => (by first | exact (.ld (.gd3 hg1 hg2 hg3 rfl) hS (k := 0) rfl Tryz.isAgg4 rfl) | exact (.ld (.gd3 hg1 hg2 hg3 rfl) hS (k := 1) rfl Tryz.isAgg4 rfl) | exact (.ld (.gd3 hg1 hg2 hg3 rfl) hS (k := 2) rfl Tryz.isAgg4 rfl) | exact (.ld (.gd3 hg1 hg2 hg3 rfl) hS (k := 3) rfl Tryz.isAgg4 rfl) | exact (.ld (.gd3 hg1 hg2 hg3 rfl) hS (k := 4) rfl Tryz.isAgg4 rfl))) rfl ?_
 refine .gval2 rfl rfl rfl (fun hg1 hg2 => (.por (.gd2 hg1 hg2 rfl) (.of rfl) (.gd2 hg1 hg2 rfl))) rfl (.gval2 rfl rfl rfl (fun hg1 hg2 => (.move (.gd2 hg1 hg2 rfl))) rfl (.gval3 rfl rfl rfl (fun hg1 hg2 hg3 => (.move (.of rfl))) rfl (.gval3 rfl rfl rfl (fun hg1 hg2 hg3 => (.not (.gd3 hg1 hg2 hg3 rfl))) rfl (.gval2 rfl rfl rfl (fun hg1 hg2 => (.por (.gd2 hg1 hg2 rfl) (.of rfl) (.gd2 hg1 hg2 rfl))) rfl (.gval2 rfl rfl rfl (fun hg1 hg2 => (.move (.gd2 hg1 hg2 rfl))) rfl ?_)))))
 refine WL.gval3 rfl rfl rfl (fun hg1 hg2 hg3 => (by first | exact .fieldAddr 3 (.of rfl) Tryz.underlying101 rfl rfl Tryz.sizeOf4 rfl | exact .fieldAddrI 3 (.of rfl) Tryz.underlying101 rfl rfl Tryz.sizeOf4 rfl)) rfl ?_
 refine WL.gval3 rfl rfl rfl (fun hg1 hg2 hg3 => (by first | exact (.ld (.gd3 hg1 hg2 hg3 rfl) hS (k := 0) rfl Tryz.isAgg4 rfl) | exact (.ld (.gd3 hg1 hg2 hg3 rfl) hS (k := 1) rfl Tryz.isAgg4 rfl) | exact (.ld (.gd3 hg1 hg2 hg3 rfl) hS (k := 2) rfl Tryz.isAgg4 rfl) | exact (.ld (.gd3 hg1 hg2 hg3 rfl) hS (k := 3) rfl Tryz.isAgg4 rfl) | exact (.ld (.gd3 hg1 hg2 hg3 rfl) hS (k := 4) rfl Tryz.isAgg4 rfl))) rfl ?_
 refine .gval3 rfl rfl rfl (fun hg1 hg2 hg3 => (.not (.gd3 hg1 hg2 hg3 rfl))) rfl (.gval2 rfl rfl rfl (fun hg1 hg2 => (.por (.gd2 hg1 hg2 rfl) (.of rfl) (.gd2 hg1 hg2 rfl))) rfl (.gval rfl rfl (fun hg1 => (.pand (.gd hg1 rfl) (.gd hg1 rfl) (.of rfl))) rfl (.val (.por (.of rfl) (.of rfl) (.of rfl)) rfl (.run 1 rfl trivial (.gval rfl rfl (fun hg1 => (.move (.of rfl))) rfl (.gval rfl rfl (fun hg1 => (.eql (.gd hg1 rfl) (.of rfl))) rfl ?_))))))
 refine WL.gval rfl rfl (fun hg1 => (by first | exact .fieldAddr 2 (.of rfl) Tryz.underlying95 rfl rfl Tryz.sizeOf4 rfl | exact .fieldAddrI 2 (.of rfl) Tryz.underlying95 rfl rfl Tryz.sizeOf4 rfl)) rfl ?_
 refine WL.gval rfl rfl (fun hg1 => (by first | exact (.ld (.gd hg1 rfl) hS (k := 0) rfl Tryz.isAgg4 rfl) | exact (.ld (.gd hg1 rfl) hS (k := 1) rfl Tryz.isAgg4 rfl) | exact (.ld (.gd hg1 rfl) hS (k := 2) rfl Tryz.isAgg4 rfl) | exact (.ld (.gd hg1 rfl) hS (k := 3) rfl Tryz.isAgg4 rfl) | exact (.ld (.gd hg1 rfl) hS (k := 4) rfl Tryz.isAgg4 rfl))) rfl ?_
 refine .gval rfl rfl (fun hg1 => (.move (.gd hg1 rfl))) rfl (.gval2 rfl rfl rfl (fun hg1 hg2 => (.move (.of rfl))) rfl (.gval2 rfl rfl rfl (fun hg1 hg2 => (.not (.gd2 hg1 hg2 rfl))) rfl (.gval rfl rfl (fun hg1 => (.pand (.gd hg1 rfl) (.gd hg1 rfl) (.of rfl))) rfl (.gval rfl rfl (fun hg1 => (.neb (.gd hg1 rfl) (.gd hg1 rfl) Tryz.underlying4)) rfl (.val (.por (.of rfl) (.of rfl) (.of rfl)) rfl (.nil ?_))))))
 refine WC.cond rfl (fun hb114 => ?_) (fun hb114 => ?_)
 ·
  have hc114 := hb114; try simp only [Gk.cs0] at hc114
  refine .seq (.region (.run 1 rfl trivial (.nil (.ret (ret1 Tryz.results9 rfl ?_)))))
  exfalso
  revert hb114
  clear hS hb30
  rcases q with ⟨qs, qc, x1, x2, x3, x4⟩
  unfold chooseW
  dsimp only
  generalize (aliveW p.ps s.1 (toldN s.2 at9) 1).2 = al
  generalize (findR p.lo qs).1.login = lg
  generalize (findR p.lo qs).2.2 = e
  rcases e with _ | e
  ·cases al <;> cases lg <;> cases x1 <;> cases x2 <;> cases x3 <;> cases x4 <;> simp
  ·have h1 : ((e + 1 : Nat) : Int) ≠ 0 := by omega
   have h2 : (e : Int) + 1 ≠ 0 := by omega
   cases al <;> cases lg <;> cases x1 <;> cases x2 <;> cases x3 <;> cases x4 <;> simp [h1, h2]
 have hc114 := hb114; try simp only [Gk.cs0] at hc114
 refine .skip (.seq (.region (.run 2 rfl trivial ?_)))
 refine WL.gval rfl rfl (fun hg1 => (by first | exact .fieldAddr 4 (.of rfl) Tryz.underlying95 rfl rfl Tryz.sizeOf4 rfl | exact .fieldAddrI 4 (.of rfl) Tryz.underlying95 rfl rfl Tryz.sizeOf4 rfl)) rfl ?_
 refine WL.gval rfl rfl (fun hg1 => (by first | exact (.ld (.gd hg1 rfl) hS (k := 0) rfl Tryz.isAgg4 rfl) | exact (.ld (.gd hg1 rfl) hS (k := 1) rfl Tryz.isAgg4 rfl) | exact (.ld (.gd hg1 rfl) hS (k := 2) rfl Tryz.isAgg4 rfl) | exact (.ld (.gd hg1 rfl) hS (k := 3) rfl Tryz.isAgg4 rfl) | exact (.ld (.gd hg1 rfl) hS (k := 4) rfl Tryz.isAgg4 rfl))) rfl ?_
 refine .gval rfl rfl (fun hg1 => (.not (.gd hg1 rfl))) rfl (.gval rfl rfl (fun hg1 => (.move (.gd hg1 rfl))) rfl (.gval2 rfl rfl rfl (fun hg1 hg2 => (.move (.of rfl))) rfl (.gval2 rfl rfl rfl (fun hg1 hg2 => (.not (.gd2 hg1 hg2 rfl))) rfl (.gval rfl rfl (fun hg1 => (.por (.gd hg1 rfl) (.of rfl) (.gd hg1 rfl))) rfl (.gval rfl rfl (fun hg1 => (.move (.gd hg1 rfl))) rfl ?_)))))
 refine WL.gval2 rfl rfl rfl (fun hg1 hg2 => (by first | exact .fieldAddr 3 (.of rfl) Tryz.underlying95 rfl rfl Tryz.sizeOf4 rfl | exact .fieldAddrI 3 (.of rfl) Tryz.underlying95 rfl rfl Tryz.sizeOf4 rfl)) rfl ?_
 refine WL.gval2 rfl rfl rfl (fun hg1 hg2 => (by first | exact (.ld (.gd2 hg1 hg2 rfl) hS (k := 0) rfl Tryz.isAgg4 rfl) | exact (.ld (.gd2 hg1 hg2 rfl) hS (k := 1) rfl Tryz.isAgg4 rfl) | exact (.ld (.gd2 hg1 hg2 rfl) hS (k := 2) rfl Tryz.isAgg4 rfl) | exact (.ld (.gd2 hg1 hg2 rfl) hS (k := 3) rfl Tryz.isAgg4 rfl) | exact (.ld (.gd2 hg1 hg2 rfl) hS (k := 4) rfl Tryz.isAgg4 rfl))) rfl ?_
 refine .gval rfl rfl (fun hg1 => (.por (.gd hg1 rfl) (.of rfl) (.gd hg1 rfl))) rfl (.gval rfl rfl (fun hg1 => (.move (.gd hg1 rfl))) rfl (.gval2 rfl rfl rfl (fun hg1 hg2 => (.move (.of rfl))) rfl (.gval2 rfl rfl rfl (fun hg1 hg2 => (.neq (.gd2 hg1 hg2 rfl) (.of rfl))) rfl (.gval rfl rfl (fun hg1 => (.por (.gd hg1 rfl) (.of rfl) (.gd hg1 rfl))) rfl (.val (.pand (.of rfl) (.of rfl) (.of rfl)) rfl (.run 1 rfl trivial (.gval rfl rfl (fun hg1 => (.move (.of rfl))) rfl (.gval rfl rfl (fun hg1 => (.neq (.gd hg1 rfl) (.of rfl))) rfl (.gval rfl rfl (fun hg1 => (.move (.gd hg1 rfl))) rfl ?_)))))))))
 refine WL.gval2 rfl rfl rfl (fun hg1 hg2 => (by first | exact .fieldAddr 4 (.of rfl) Tryz.underlying95 rfl rfl Tryz.sizeOf4 rfl | exact .fieldAddrI 4 (.of rfl) Tryz.underlying95 rfl rfl Tryz.sizeOf4 rfl)) rfl ?_
 refine WL.gval2 rfl rfl rfl (fun hg1 hg2 => (by first | exact (.ld (.gd2 hg1 hg2 rfl) hS (k := 0) rfl Tryz.isAgg4 rfl) | exact (.ld (.gd2 hg1 hg2 rfl) hS (k := 1) rfl Tryz.isAgg4 rfl) | exact (.ld (.gd2 hg1 hg2 rfl) hS (k := 2) rfl Tryz.isAgg4 rfl) | exact (.ld (.gd2 hg1 hg2 rfl) hS (k := 3) rfl Tryz.isAgg4 rfl) | exact (.ld (.gd2 hg1 hg2 rfl) hS (k := 4) rfl Tryz.isAgg4 rfl))) rfl ?_
 refine .gval2 rfl rfl rfl (fun hg1 hg2 => (.move (.gd2 hg1 hg2 rfl))) rfl (.gval3 rfl rfl rfl (fun hg1 hg2 hg3 => (.move (.of rfl))) rfl (.gval2 rfl rfl rfl (fun hg1 hg2 => (.pand (.gd2 hg1 hg2 rfl) (.gd2 hg1 hg2 rfl) (.of rfl))) rfl (.gval rfl rfl (fun hg1 => (.por (.gd hg1 rfl) (.of rfl) (.gd hg1 rfl))) rfl (.val (.pand (.of rfl) (.of rfl) (.of rfl)) rfl (.run 1 rfl trivial (.gval rfl rfl (fun hg1 => (.move (.of rfl))) rfl (.gval rfl rfl (fun hg1 => (.neq (.gd hg1 rfl) (.of rfl))) rfl (.gval rfl rfl (fun hg1 => (.move (.gd hg1 rfl))) rfl (.gval2 rfl rfl rfl (fun hg1 hg2 => (.move (.of rfl))) rfl (.gval2 rfl rfl rfl (fun hg1 hg2 => (.move (.gd2 hg1 hg2 rfl))) rfl ?_))))))))))
 refine WL.gval3 rfl rfl rfl (fun hg1 hg2 hg3 => (by first | exact .fieldAddr 2 (.of rfl) Tryz.underlying95 rfl rfl Tryz.sizeOf4 rfl | exact .fieldAddrI 2 (.of rfl) Tryz.underlying95 rfl rfl Tryz.sizeOf4 rfl)) rfl ?_
 refine WL.gval3 rfl rfl rfl (fun hg1 hg2 hg3 => (by first | exact (.ld (.gd3 hg1 hg2 hg3 rfl) hS (k := 0) rfl Tryz.isAgg4 rfl) | exact (.ld (.gd3 hg1 hg2 hg3 rfl) hS (k := 1) rfl Tryz.isAgg4 rfl) | exact (.ld (.gd3 hg1 hg2 hg3 rfl) hS (k := 2) rfl Tryz.isAgg4 rfl) | exact (.ld (.gd3 hg1 hg2 hg3 rfl) hS (k := 3) rfl Tryz.isAgg4 rfl) | exact (.ld (.gd3 hg1 hg2 hg3 rfl) hS (k := 4) rfl Tryz.isAgg4 rfl))) rfl ?_
 refine .gval3 rfl rfl rfl (fun hg1 hg2 hg3 => (.not (.gd3 hg1 hg2 hg3 rfl))) rfl (.gval2 rfl rfl rfl (fun hg1 hg2 => (.pand (.gd2 hg1 hg2 rfl) (.gd2 hg1 hg2 rfl) (.of rfl))) rfl (.gval rfl rfl (fun hg1 => (.por (.gd hg1 rfl) (.of rfl) (.gd hg1 rfl))) rfl (.val (.pand (.of rfl) (.of rfl) (.of rfl)) rfl (.run 1 rfl trivial (.nil (.ret (ret1 Tryz.results9 rfl ?_)))))))
 refine ⟨_, rfl, congrArg Value.bool ?_, J, hJ1.trans hJ, (((((hS.drop (k := 0) rfl).drop (k := 0) rfl).drop (k := 0) rfl).drop (k := 0) rfl).drop (k := 0) rfl)⟩
 clear hS hb30
 rcases q with ⟨qs, qc, x1, x2, x3, x4⟩
 unfold chooseW
 dsimp only
 generalize (aliveW p.ps s.1 (toldN s.2 at9) 1).2 = al
 generalize (findR p.lo qs).1.login = lg
 generalize (findR p.lo qs).2.2 = e
 rcases e with _ | e
 ·cases al <;> cases lg <;> cases x1 <;> cases x2 <;> cases x3 <;> cases x4 <;> simp
 ·have h1 : ((e + 1 : Nat) : Int) ≠ 0 := by omega
  have h2 : (e : Int) + 1 ≠ 0 := by omega
  cases al <;> cases lg <;> cases x1 <;> cases x2 <;> cases x3 <;> cases x4 <;> simp [h1, h2]
end Go.Proofs.YtadhiihnnkcagaaGreatDoor
namespace Go.Proofs.YtadhiihnnkcagaaGreatDoor
open Gk Ul Pc Tk Tr
set_option linter.unusedVariables false
set_option linter.unusedSimpArgs false
theorem mkW_errD {ω : Wd} {r : Rec} (h : (mkW ω r).1.2 ≠ 0) : (mkW ω r).2.D.length = ω.D.length ∨ (mkW ω r).2.D.length + 1 = ω.D.length := by
 have key : (mkN ω r).2.length = ω.D.length ∨ (mkN ω r).2.length + 1 = ω.D.length := by
  unfold mkN nextT
  split
  ·exact .inl rfl
  ·cases ω.D with
   | nil => exact .inl rfl
   | cons d D => dsimp only; split <;> exact .inr (by simp)
 unfold mkW
 split
 ·exact key
 ·exact key
theorem grant_fails {lo : List Sv} {ps : Nat → Int} {ω : Wd} {t s : List UInt8} {f : Bool} (h : (grantW lo ps ω t s f).1.2 ≠ 0) : (grantW lo ps ω t s f).1.1.1 = [] ∧ (grantW lo ps ω t s f).1.1.2 = [] ∧ (grantW lo ps ω t s f).2.l = ω.l ∧ ((grantW lo ps ω t s f).2.D.length = ω.D.length ∨ ((grantW lo ps ω t s f).1.2 = 39 ∧ (grantW lo ps ω t s f).2.D.length + 1 = ω.D.length)) := by
 unfold grantW at h ⊢
 split
 ·exact ⟨rfl, rfl, rfl, .inl rfl⟩
 ·split
  ·exact ⟨rfl, rfl, rfl, .inl rfl⟩
  ·split
   ·exact ⟨rfl, rfl, rfl, .inl rfl⟩
   ·rename_i h1 h2 h3
    rw [if_neg h1, if_neg h2, if_neg h3] at h
    split
    ·rename_i h4
     obtain ⟨e1, e2, e3, _⟩ := mkW_err h4
     refine ⟨rfl, rfl, e1, ?_⟩
     rcases mkW_errD h4 with e | e
     ·exact .inl e
     ·exact .inr ⟨e3, e⟩
    ·rename_i h4
     rw [if_neg h4] at h
     exact absurd rfl h
theorem put_name {l : List Rec} {r x : Rec} {i : Nat} (h : (put l r)[i]? = some x) : ∃ y, l[i]? = some y ∧ y.name = x.name := by
 unfold put at h
 split at h
 ·rename_i hp
  obtain ⟨_, j, t, h1, h2, h3, _, _⟩ := put_ok hp
  rw [h1, Int.toNat_natCast] at h
  by_cases e : j = i
  ·subst e
   rw [List.getElem?_set_self (List.getElem?_eq_some_iff.1 h2).1] at h
   cases h
   exact ⟨t, h2, h3⟩
  ·rw [List.getElem?_set_ne e] at h
   exact ⟨x, h, rfl⟩
 ·exact ⟨x, h, rfl⟩
theorem alive_case (ps : Nat → Int) (ω : Wd) (t : List UInt8) (k : Int) : aliveW ps ω t k = (r0, false) ∨ (aliveW ps ω t k = (getD ω.l t, true) ∧ (getD ω.l t).kind = k) := by
 unfold aliveW
 split
 ·exact .inl rfl
 ·rename_i h
  simp only [Bool.or_eq_true, not_or, bne_iff_ne, ne_eq, Decidable.not_not] at h
  exact .inr ⟨rfl, h.1⟩
theorem grant_okay {lo : List Sv} {ps : Nat → Int} {ω : Wd} (hω : WdOk ω) {t s : List UInt8} {f : Bool} (h : (grantW lo ps ω t s f).1.2 = 0) : (grantW lo ps ω t s f).2.l.length = ω.l.length + 1 ∧ (∀ x, (grantW lo ps ω t s f).2.l[ω.l.length]? = some x → x.name = (grantW lo ps ω t s f).1.1.1) ∧ (grantW lo ps ω t s f).2.D.length + 1 = ω.D.length ∧ ((aliveW ps (grantW lo ps ω t s f).2 t 1).2 = true → 1 ≤ (aliveW ps (grantW lo ps ω t s f).2 t 1).1.uses) := by
 unfold grantW at h ⊢
 split at h
 ·cases h
 ·split at h
  ·cases h
  ·split at h
   ·cases h
   ·split at h
    ·rename_i h4; exact absurd h h4
    ·rename_i h1 h2 h3 h4
     rw [if_neg h1, if_neg h2, if_neg h3, if_neg h4]
     obtain ⟨m1, m2, m3, m4⟩ := mkW_okay (Decidable.not_not.1 h4)
     have hal := alive_case ps ω t 1
     rw [show aliveW ps ω t 1 = (getD ω.l t, true) from by
      rcases hal with e | e
      ·rw [e] at h1; exact absurd rfl h1
      ·exact e.1]
     have hk : (getD ω.l t).kind = 1 := by
      rcases hal with e | e
      ·rw [e] at h1; exact absurd rfl h1
      ·exact e.2
     obtain ⟨g1, g2, g3⟩ : get ω.l t = some (getD ω.l t) ∧ rightR (getD ω.l t) = true ∧ (getD ω.l t).name = t := by
      rcases getD_case hω.wf t with ⟨_, e⟩ | e
      ·rw [e] at hk
       have : (r0.kind : Int) = 0 := rfl
       omega
      ·exact e
     have hl : (putW (mkW ω (grantR lo ps ω t s f)).2 (touchR (getD ω.l t) (mkW ω (grantR lo ps ω t s f)).2.now)).l = put (ω.l ++ [mkR ω (grantR lo ps ω t s f)]) (touchR (getD ω.l t) ω.now) := by
      show put (mkW ω (grantR lo ps ω t s f)).2.l _ = _
      rw [m2, mkW_now]
     refine ⟨?_, fun x hx => ?_, m4, fun ha => ?_⟩
     ·show (putW _ _).l.length = _
      rw [hl, put_length, List.length_append]; rfl
     ·change (putW _ _).l[_]? = _ at hx
      rw [hl] at hx
      obtain ⟨y, hy, e⟩ := put_name hx
      rw [List.getElem?_append_right (Nat.le_refl _), Nat.sub_self] at hy
      cases hy
      rw [← e]; exact m3.symm
     ·have hput : putE (ω.l ++ [mkR ω (grantR lo ps ω t s f)]) (touchR (getD ω.l t) ω.now) = 0 := by
       have hr := right_touch g2 hω.now.2
       have hg : get (ω.l ++ [mkR ω (grantR lo ps ω t s f)]) t = some (getD ω.l t) := by
        have g5 := g1
        unfold Tr.get at g5 ⊢
        rw [List.find?_append, g5]; rfl
       rw [putE, if_neg (by rw [hr]; decide), show (touchR (getD ω.l t) ω.now).name = t from g3, hg]
       exact if_neg (fun hh => hh rfl)
      rcases alive_case ps (putW (mkW ω (grantR lo ps ω t s f)).2 (touchR (getD ω.l t) (mkW ω (grantR lo ps ω t s f)).2.now)) t 1 with e | e
      ·rw [e] at ha; cases ha
      ·rw [e.1, hl, getD_put hput, if_pos (show t = (touchR (getD ω.l t) ω.now).name from g3.symm)]
       have := (right_times g2).2.2.1
       show 1 ≤ min ((getD ω.l t).uses + 1) 255
       omega
set_option maxRecDepth 20000 in
theorem GrantFails_any (c : Cf) (a : Option Addr) (cap : Nat) (ua : Option Addr) (ucap : Nat) (oa : Option Addr) (oc : Nat) (l : List Op) (hol8 : l.length * 248 ≤ 140737488351232) (hfit : ∀ o ∈ l, o.fits) (o : Op) (da : Option Addr) (dc : Nat) (hof : o.fits) (B w : World) (I : Im) (hK : Known I) (hP : PreAt I) (hC : CfAt I c a cap ua ucap) (hO : OpsAt I oa l) (hoa : OpAt I o (opCells o da dc)) (As : List Assn) (hS : Sat B w I As) :
  Calls Tryz.prog 12 [.agg (cfCells c a cap ua ucap).toArray, .slice oa l.length oc, .agg (opCells o da dc).toArray].toArray w (Ret fun v w' => v = .bool true ∧ ∃ J, Le I J ∧ Sat B w' J As) := by
 refine calls Tryz.func12 rfl Tryz.ntmps12 rfl (.seq (.region (.boxA (cs := cfCells c a cap ua ucap) hS (.of rfl) rfl ?_)))
 clear hS; intro b3 w hS
 refine .boxA (cs := [I64 o.act, I64 o.n, .slice da o.d.length dc, I64 o.a, S o.b, S o.c, .bool o.f, I64 o.r.kind, S o.r.name, S o.r.parent, S o.r.user, S o.r.service, S o.r.url, I64 o.r.made, I64 o.r.used, I64 o.r.uses, .bool o.r.fresh, S o.q.service, S o.q.cookie, .bool o.q.has, .bool o.q.renew, .bool o.q.gateway, .bool o.q.warn]) hS (.of rfl) rfl ?_
 clear hS; intro b5 w hS
 refine .run 1 rfl trivial (.nil (.seq (.region (.call Tryz.func34 rfl evs_nil rfl (awake20_any B _ I hK hP _ hS) ?_))))
 clear hS
 rintro _ w ⟨rfl, hS⟩
 refine .run 1 rfl trivial (.nil (.seq ?_))
 have hol : l.length ≤ 9223372036854775807 := by omega
 refine .drawn (fun w => ∃ J9 R, Le I J9 ∧ Sat B w J9 (blk b5 [I64 o.act, I64 o.n, .slice da o.d.length dc, I64 o.a, S o.b, S o.c, .bool o.f, I64 o.r.kind, S o.r.name, S o.r.parent, S o.r.user, S o.r.service, S o.r.url, I64 o.r.made, I64 o.r.used, I64 o.r.uses, .bool o.r.fresh, S o.q.service, S o.q.cookie, .bool o.q.has, .bool o.q.renew, .bool o.q.gateway, .bool o.q.warn] 97 :: blk b3 (cfCells c a cap ua ucap) 34 :: R)) (fun j => !([].contains j)) (by kernel_rfl) ?_
 replace hS := hS.drew; generalize w.drew = w at hS ⊢
 have hH : ∃ J9 R, Le I J9 ∧ Sat B w J9 (blk b5 [I64 o.act, I64 o.n, .slice da o.d.length dc, I64 o.a, S o.b, S o.c, .bool o.f, I64 o.r.kind, S o.r.name, S o.r.parent, S o.r.user, S o.r.service, S o.r.url, I64 o.r.made, I64 o.r.used, I64 o.r.uses, .bool o.r.fresh, S o.q.service, S o.q.cookie, .bool o.q.has, .bool o.q.renew, .bool o.q.gateway, .bool o.q.warn] 97 :: blk b3 (cfCells c a cap ua ucap) 34 :: R) := ⟨_, _, Le.refl _, ((hS.pick 1 rfl).pick 1 rfl)⟩
 refine WD.take (i := 0) rfl (by kernel_rfl) (by kernel_rfl) (by kernel_rfl) (by kernel_rfl) hH (fun w ⟨J9, R, hL9, hS⟩ => (by first | exact (.ldsW (cs := [_, _, _, _, _, _, _, _, _, _, _, _, _, _, _, _, _, _, _, _, _, _, _, _, _, _, _, _]) (.of rfl) hS (k := 0) rfl Tryz.isAgg34 Tryz.sizeOf34 rfl) | exact (.lds (vs := [_, _, _, _, _, _, _, _, _, _, _, _, _, _, _, _, _, _, _, _, _, _, _, _, _, _, _, _]) (.of rfl) hS (k := 0) rfl Tryz.isAgg34 Tryz.sizeOf34 rfl (fun _ _ h => h)) | exact (.ldsW (cs := [_, _, _, _, _, _, _, _, _, _, _, _, _, _, _, _, _, _, _, _, _, _, _, _, _, _, _, _]) (.of rfl) hS (k := 1) rfl Tryz.isAgg34 Tryz.sizeOf34 rfl) | exact (.lds (vs := [_, _, _, _, _, _, _, _, _, _, _, _, _, _, _, _, _, _, _, _, _, _, _, _, _, _, _, _]) (.of rfl) hS (k := 1) rfl Tryz.isAgg34 Tryz.sizeOf34 rfl (fun _ _ h => h)) | exact (.ldsI (.of rfl) hS (hxn.mono hL9) Tryz.isAgg34 Tryz.sizeOf34 rfl (fun _ _ h => h)) | exact (.ldsI (.of rfl) hS (At.add (hxn.mono hL9) _) Tryz.isAgg34 Tryz.sizeOf34 rfl (fun _ _ h => h)))) rfl ?_
 refine WD.take (i := 1) rfl (by kernel_rfl) (by kernel_rfl) (by kernel_rfl) (by kernel_rfl) hH (fun w ⟨J9, R, hL9, hS⟩ => (by first | exact (.ldsW (cs := [_, _, _, _, _, _, _, _, _, _, _, _, _, _, _, _, _, _, _, _, _, _, _]) (.of rfl) hS (k := 0) rfl Tryz.isAgg97 Tryz.sizeOf97 rfl) | exact (.lds (vs := [_, _, _, _, _, _, _, _, _, _, _, _, _, _, _, _, _, _, _, _, _, _, _]) (.of rfl) hS (k := 0) rfl Tryz.isAgg97 Tryz.sizeOf97 rfl (fun _ _ h => h)) | exact (.ldsW (cs := [_, _, _, _, _, _, _, _, _, _, _, _, _, _, _, _, _, _, _, _, _, _, _]) (.of rfl) hS (k := 1) rfl Tryz.isAgg97 Tryz.sizeOf97 rfl) | exact (.lds (vs := [_, _, _, _, _, _, _, _, _, _, _, _, _, _, _, _, _, _, _, _, _, _, _]) (.of rfl) hS (k := 1) rfl Tryz.isAgg97 Tryz.sizeOf97 rfl (fun _ _ h => h)) | exact (.ldsI (.of rfl) hS (hxn.mono hL9) Tryz.isAgg97 Tryz.sizeOf97 rfl (fun _ _ h => h)) | exact (.ldsI (.of rfl) hS (At.add (hxn.mono hL9) _) Tryz.isAgg97 Tryz.sizeOf97 rfl (fun _ _ h => h)))) rfl ?_
 refine .takeP (i := 3) rfl (by kernel_rfl) (by kernel_rfl) (by kernel_rfl) (fun w => (.move (.of rfl))) rfl ?_
 refine WD.branch [2] (by kernel_rfl) rfl (WO.cons rfl ?_ (WO.nil))
 refine .buildSlice (cs := [I64 o.act, I64 o.n, .slice da o.d.length dc, I64 o.a, S o.b, S o.c, .bool o.f, I64 o.r.kind, S o.r.name, S o.r.parent, S o.r.user, S o.r.service, S o.r.url, I64 o.r.made, I64 o.r.used, I64 o.r.uses, .bool o.r.fresh, S o.q.service, S o.q.cookie, .bool o.q.has, .bool o.q.renew, .bool o.q.gateway, .bool o.q.warn]) hS (parts_cons (.of rfl) parts_nil) Tryz.underlying88 Tryz.sizeOf97 Tryz.zeroValue97 rfl rfl rfl rfl ?_
 clear hS; intro b22 w hS
 refine .nil ?_
 clear hH
 have hH : ∃ J9 R, Le I J9 ∧ Sat B w J9 (blk b5 [I64 o.act, I64 o.n, .slice da o.d.length dc, I64 o.a, S o.b, S o.c, .bool o.f, I64 o.r.kind, S o.r.name, S o.r.parent, S o.r.user, S o.r.service, S o.r.url, I64 o.r.made, I64 o.r.used, I64 o.r.uses, .bool o.r.fresh, S o.q.service, S o.q.cookie, .bool o.q.has, .bool o.q.renew, .bool o.q.gateway, .bool o.q.warn] 97 :: blk b3 (cfCells c a cap ua ucap) 34 :: R) := ⟨_, _, Le.refl _, ((hS.pick 2 rfl).pick 2 rfl)⟩
 refine And.intro (by intro _ _; exact hH) ?_
 refine WD.branch [4] (by kernel_rfl) rfl (WO.cons rfl ?_ (WO.nil))
 obtain ⟨L9, hL1, hL2, hL3, hL4⟩ := id hO
 have hL5 := ops_one hL1 hL4
 replace hS := hS.vecOf (k := 0) (E := 97) (size := 23) (n := 1) rfl rfl (by decide)
 try dsimp only [List.set] at hS
 refine WL.appendF (size := 23) (bytes := 248) hS (.of rfl) (.of rfl) hL3 (k := 0) rfl Tryz.underlying88 (i := Tryz.t97) (by kernel_rfl) rfl rfl rfl rfl hL5 ⟨by omega, by unfold maxLen; omega⟩ rfl ?_
 clear hS; intro v24 w hS
 try dsimp only [List.set] at hS
 refine .nil ?_
 clear hH
 have hH : ∃ J9 R, Le I J9 ∧ Sat B w J9 (blk b5 [I64 o.act, I64 o.n, .slice da o.d.length dc, I64 o.a, S o.b, S o.c, .bool o.f, I64 o.r.kind, S o.r.name, S o.r.parent, S o.r.user, S o.r.service, S o.r.url, I64 o.r.made, I64 o.r.used, I64 o.r.uses, .bool o.r.fresh, S o.q.service, S o.q.cookie, .bool o.q.has, .bool o.q.renew, .bool o.q.gateway, .bool o.q.warn] 97 :: blk b3 (cfCells c a cap ua ucap) 34 :: R) := ⟨_, _, Le.refl _, ((hS.pick 2 rfl).pick 2 rfl)⟩
 refine And.intro (by intro _ _; exact hH) ?_
 refine WD.branch [5] (by kernel_rfl) rfl (WO.cons rfl ?_ (WO.nil))
 obtain ⟨ra9, rc9, hv9, _, _⟩ := hS.vecSlice (k := 0) rfl
 subst hv9
 obtain ⟨J1, hJ1, hR9, hS⟩ := hS.freezeVec (k := 0) rfl
 try dsimp only [List.eraseIdx] at hS
 have hO1 : OpsAt J1 ra9 (o :: l) := opsAt_cons hL1 hL2 hL4 hJ1 (hoa.mono hJ1) hR9
 rw [show 1 + l.length = (o :: l).length from Nat.add_comm _ _]
 refine WL.call Tryz.func35 rfl (evs_cons (.of rfl) (evs_cons (.of rfl) evs_nil)) rfl (few20_any c a cap ua ucap ra9 rc9 (o :: l) (by rw [List.length_cons]; omega) B _ J1 (hC.mono hJ1) hO1 _ hS) ?_
 clear hS
 rintro _ w ⟨rfl, hS⟩
 refine .nil ?_
 clear hH
 have hH : ∃ J9 R, Le I J9 ∧ Sat B w J9 (blk b5 [I64 o.act, I64 o.n, .slice da o.d.length dc, I64 o.a, S o.b, S o.c, .bool o.f, I64 o.r.kind, S o.r.name, S o.r.parent, S o.r.user, S o.r.service, S o.r.url, I64 o.r.made, I64 o.r.used, I64 o.r.uses, .bool o.r.fresh, S o.q.service, S o.q.cookie, .bool o.q.has, .bool o.q.renew, .bool o.q.gateway, .bool o.q.warn] 97 :: blk b3 (cfCells c a cap ua ucap) 34 :: R) := ⟨_, _, hJ1, ((hS.pick 1 rfl).pick 1 rfl)⟩
 refine And.intro (by intro _ _; exact hH) ?_
 refine .takeP (i := 6) rfl (by kernel_rfl) (by kernel_rfl) (by kernel_rfl) (fun w => (.assign (.of rfl))) rfl (.done (by kernel_rfl) (.seq (.seq (.region (.run 2 rfl trivial (.nil ?_))))))
 refine WC.cond rfl (fun hb27 => ?_) (fun hb27 => ?_)
 ·
  have hc27 := hb27; try simp only [Gk.cs0] at hc27
  refine .seq (.region (.run 2 rfl trivial (.nil (.ret (ret1 Tryz.results12 rfl ?_)))))
  exact ⟨_, rfl, rfl, J1, hJ1, (hS.drop (k := 0) rfl).drop (k := 0) rfl⟩
 have hc27 := hb27; try simp only [Gk.cs0] at hc27
 refine .skip (.seq ?_)
 have hf0 : few20 c (o :: l) = true := by simpa using hb27
 have hf := (few20_tail hf0).1
 refine .region ?_
 refine WL.val (.lds (vs := cfCells c a cap ua ucap) (.of rfl) hS (k := 1) rfl Tryz.isAgg34 Tryz.sizeOf34 rfl (fun j v hj => by rw [Nat.zero_add]; exact hj)) rfl ?_
 refine .run 1 rfl trivial (.call Tryz.func36 rfl (evs_cons (.of rfl) (evs_cons (.of rfl) evs_nil)) rfl (walked_any c a cap ua ucap oa oc l hol hf hfit B _ J1 (hK.mono hJ1) (hP.mono hJ1) (hC.mono hJ1) (hO.mono hJ1) _ hS) ?_)
 clear hS
 rintro _ w ⟨J, pv, dv, hJ, rfl, hcs⟩
 refine .run 5 rfl trivial (.nil (.seq (.seq (.region (.run 1 rfl trivial (.val (.eqp (.of rfl) (.of rfl) Tryz.underlying39) rfl (.nil ?_)))))))
 refine WC.cond rfl (fun hb36 => ?_) (fun hb36 => ?_)
 ·
  have hc36 := hb36; try simp only [Gk.cs0] at hc36
  refine .seq (.region (.run 2 rfl trivial (.nil (.ret (ret1 Tryz.results12 rfl ?_)))))
  rcases hcs with ⟨_, rfl, hS⟩ | ⟨_, p, D, _, _, _, _, h9, _⟩
  ·exact ⟨_, rfl, rfl, J, hJ1.trans hJ, (hS.drop (k := 0) rfl).drop (k := 0) rfl⟩
  ·exfalso; rw [h9] at hb36; cases hb36
 have hc36 := hb36; try simp only [Gk.cs0] at hc36
 refine .skip (.seq ?_)
 rcases hcs with ⟨_, h9, _⟩ | ⟨hz, p, D, hD, hlo, hus, hps, hpv, hI, hS⟩
 ·exfalso; rw [h9] at hb36; cases hb36
 subst hpv
 have hwk := walkW_ok (lo := p.lo) (us := p.us) (ps := p.ps) hf hfit
 generalize hs9 : walkW p.lo p.us p.ps (w0 c) l = s at hwk hS
 obtain ⟨va, vc, hdv, hvc, _⟩ := hS.vecSlice (k := 0) rfl
 subst hdv
 have hlen := hwk.ok.len
 have hdl9 := hwk.dl
 have hob : o.b.length ≤ 120 := by
  have h := (few20_tail hf0).2
  simp [bigO] at h
  omega
 have htn := toldN_len hwk.nm o.a
 replace hS := (hS.pick 1 rfl)
 try dsimp only [List.eraseIdx] at hS
 obtain ⟨⟨a5, c5, ma5, mc5⟩, hS⟩ := Sat.unbox hS
 replace hS : Sat B _ _ (blk p.wb (wdC p s.1) 52 :: blk p.tb [I64 s.1.room, .slice a5 s.1.l.length c5] 127 :: Vec 45 10 (.slice a5 s.1.l.length c5) s.1.l.length (rowsR s.1.l) :: blk p.mb [.slice ma5 s.1.D.length mc5] 168 :: VecO 118 (.slice ma5 s.1.D.length mc5) (s.1.D.map fun d => U64 (d : Nat)) :: _) := hS
 refine .region (.run 2 rfl trivial ?_)
 first | refine WL.val (.fieldAddr 0 (.of rfl) Tryz.underlying52 rfl rfl Tryz.sizeOf47 rfl) rfl ?_ | refine WL.val (.fieldAddrI 0 (.of rfl) Tryz.underlying52 rfl rfl Tryz.sizeOf47 rfl) rfl ?_
 first | refine WL.val (.ld (.of rfl) hS (k := 0) rfl Tryz.isAgg47 rfl) rfl ?_ | refine WL.val (.ld (.of rfl) hS (k := 1) rfl Tryz.isAgg47 rfl) rfl ?_ | refine WL.val (.ld (.of rfl) hS (k := 2) rfl Tryz.isAgg47 rfl) rfl ?_ | refine WL.val (.ld (.of rfl) hS (k := 3) rfl Tryz.isAgg47 rfl) rfl ?_ | refine WL.val (.ld (.of rfl) hS (k := 4) rfl Tryz.isAgg47 rfl) rfl ?_ | refine WL.val (.ld (.of rfl) hS (k := 5) rfl Tryz.isAgg47 rfl) rfl ?_ | refine WL.val (.ld (.of rfl) hS (k := 6) rfl Tryz.isAgg47 rfl) rfl ?_ | refine WL.val (.ld (.of rfl) hS (k := 7) rfl Tryz.isAgg47 rfl) rfl ?_ | refine WL.val (.ldI (.of rfl) hS (At.add hxn _) Tryz.isAgg47 rfl) rfl ?_
 refine .call Tryz.func29 rfl (evs_cons (.of rfl) evs_nil) rfl (TreeAll_any p.tb s.1.room a5 c5 s.1.l (by omega) B _ J _ ((hS.pick 2 rfl).pick 2 rfl)) ?_
 clear hS
 rintro _ w ⟨J2, wa, wc, rfl, hJ2, hwc, hRw, hS⟩
 try dsimp only [List.eraseIdx] at hS
 refine .run 1 rfl trivial (.nil (.seq (.region (.run 2 rfl trivial ?_))))
 first | refine WL.val (.fieldAddr 1 (.of rfl) Tryz.underlying52 rfl rfl Tryz.sizeOf48 rfl) rfl ?_ | refine WL.val (.fieldAddrI 1 (.of rfl) Tryz.underlying52 rfl rfl Tryz.sizeOf48 rfl) rfl ?_
 first | refine WL.val (.ld (.of rfl) hS (k := 0) rfl Tryz.isAgg48 rfl) rfl ?_ | refine WL.val (.ld (.of rfl) hS (k := 1) rfl Tryz.isAgg48 rfl) rfl ?_ | refine WL.val (.ld (.of rfl) hS (k := 2) rfl Tryz.isAgg48 rfl) rfl ?_ | refine WL.val (.ld (.of rfl) hS (k := 3) rfl Tryz.isAgg48 rfl) rfl ?_ | refine WL.val (.ld (.of rfl) hS (k := 4) rfl Tryz.isAgg48 rfl) rfl ?_ | refine WL.val (.ld (.of rfl) hS (k := 5) rfl Tryz.isAgg48 rfl) rfl ?_ | refine WL.val (.ld (.of rfl) hS (k := 6) rfl Tryz.isAgg48 rfl) rfl ?_ | refine WL.val (.ld (.of rfl) hS (k := 7) rfl Tryz.isAgg48 rfl) rfl ?_ | refine WL.val (.ldI (.of rfl) hS (At.add hxn _) Tryz.isAgg48 rfl) rfl ?_
 refine .call Tryz.func55 rfl (evs_cons (.of rfl) evs_nil) rfl (Left_any p.mb ma5 mc5 s.1.D B _ J2 _ ((hS.pick 4 rfl).pick 4 rfl)) ?_
 clear hS
 rintro _ w ⟨rfl, hS⟩
 try dsimp only [List.eraseIdx] at hS
 refine .run 1 rfl trivial (.nil (.seq ?_))
 replace hS := Sat.box (T := wdT p s.1) (a5, c5, ma5, mc5) (((((hS.pick 1 rfl).pick 1 rfl).pick 3 rfl).pick 3 rfl).pick 4 rfl)
 try dsimp only [List.eraseIdx] at hS
 refine .drawn (fun w => ∃ R, Sat B w J2 (blk b5 [I64 o.act, I64 o.n, .slice da o.d.length dc, I64 o.a, S o.b, S o.c, .bool o.f, I64 o.r.kind, S o.r.name, S o.r.parent, S o.r.user, S o.r.service, S o.r.url, I64 o.r.made, I64 o.r.used, I64 o.r.uses, .bool o.r.fresh, S o.q.service, S o.q.cookie, .bool o.q.has, .bool o.q.renew, .bool o.q.gateway, .bool o.q.warn] 97 :: R)) (fun j => !([].contains j)) (by kernel_rfl) ?_
 replace hS := hS.drew; generalize w.drew = w at hS ⊢
 have hH : ∃ R, Sat B w J2 (blk b5 [I64 o.act, I64 o.n, .slice da o.d.length dc, I64 o.a, S o.b, S o.c, .bool o.f, I64 o.r.kind, S o.r.name, S o.r.parent, S o.r.user, S o.r.service, S o.r.url, I64 o.r.made, I64 o.r.used, I64 o.r.uses, .bool o.r.fresh, S o.q.service, S o.q.cookie, .bool o.q.has, .bool o.q.renew, .bool o.q.gateway, .bool o.q.warn] 97 :: R) := ⟨_, (hS.pick 2 rfl)⟩
 refine .takeP (i := 0) rfl (by kernel_rfl) (by kernel_rfl) (by kernel_rfl) (fun w => (.move (.of rfl))) rfl (.takeP (i := 1) rfl (by kernel_rfl) (by kernel_rfl) (by kernel_rfl) (fun w => (.move (.of rfl))) rfl ?_)
 refine WD.takeP (i := 2) rfl (by kernel_rfl) (by kernel_rfl) (by kernel_rfl) (fun w => (by first | exact .fieldAddr 3 (.of rfl) Tryz.underlying97 rfl rfl Tryz.sizeOf3 rfl | exact .fieldAddrI 3 (.of rfl) Tryz.underlying97 rfl rfl Tryz.sizeOf3 rfl)) rfl ?_
 refine WD.take (i := 3) rfl (by kernel_rfl) (by kernel_rfl) (by kernel_rfl) (by kernel_rfl) hH (fun w ⟨R, hS⟩ => (by first | exact (.ld (.of rfl) hS (k := 0) rfl Tryz.isAgg3 rfl) | exact (.ldI (.of rfl) hS (At.add hxn _) Tryz.isAgg3 rfl))) rfl ?_
 refine WD.takeP (i := 5) rfl (by kernel_rfl) (by kernel_rfl) (by kernel_rfl) (fun w => (by first | exact .fieldAddr 4 (.of rfl) Tryz.underlying97 rfl rfl Tryz.sizeOf9 rfl | exact .fieldAddrI 4 (.of rfl) Tryz.underlying97 rfl rfl Tryz.sizeOf9 rfl)) rfl ?_
 refine WD.take (i := 6) rfl (by kernel_rfl) (by kernel_rfl) (by kernel_rfl) (by kernel_rfl) hH (fun w ⟨R, hS⟩ => (by first | exact (.ld (.of rfl) hS (k := 0) rfl Tryz.isAgg9 rfl) | exact (.ldI (.of rfl) hS (At.add hxn _) Tryz.isAgg9 rfl))) rfl ?_
 refine WD.takeP (i := 7) rfl (by kernel_rfl) (by kernel_rfl) (by kernel_rfl) (fun w => (by first | exact .fieldAddr 6 (.of rfl) Tryz.underlying97 rfl rfl Tryz.sizeOf4 rfl | exact .fieldAddrI 6 (.of rfl) Tryz.underlying97 rfl rfl Tryz.sizeOf4 rfl)) rfl ?_
 refine WD.take (i := 8) rfl (by kernel_rfl) (by kernel_rfl) (by kernel_rfl) (by kernel_rfl) hH (fun w ⟨R, hS⟩ => (by first | exact (.ld (.of rfl) hS (k := 0) rfl Tryz.isAgg4 rfl) | exact (.ldI (.of rfl) hS (At.add hxn _) Tryz.isAgg4 rfl))) rfl ?_
 refine WD.branch [4] (by kernel_rfl) rfl (WO.cons rfl ?_ (WO.nil))
 refine WL.call Tryz.func38 rfl (evs_cons (.of rfl) (evs_cons (.of rfl) evs_nil)) rfl (toldN_any va vc s.2 (by have := hwk.nl; omega) o.a B _ J2 _ (fun w h => rows_own (cells := tCells) (s := 1) (fun _ => rfl) h (k := 1) (by rw [rowsT]; rfl)) hS) ?_
 clear hS
 rintro _ w ⟨rfl, hS⟩
 refine .nil ?_
 clear hH
 have hH : ∃ R, Sat B w J2 (blk b5 [I64 o.act, I64 o.n, .slice da o.d.length dc, I64 o.a, S o.b, S o.c, .bool o.f, I64 o.r.kind, S o.r.name, S o.r.parent, S o.r.user, S o.r.service, S o.r.url, I64 o.r.made, I64 o.r.used, I64 o.r.uses, .bool o.r.fresh, S o.q.service, S o.q.cookie, .bool o.q.has, .bool o.q.renew, .bool o.q.gateway, .bool o.q.warn] 97 :: R) := ⟨_, (hS.pick 2 rfl)⟩
 refine And.intro (by intro _ _; exact hH) ?_
 refine WD.branch [9] (by kernel_rfl) rfl (WO.cons rfl ?_ (WO.nil))
 refine .call Tryz.func45 rfl (evs_cons (.of rfl) (evs_cons (.of rfl) (evs_cons (.of rfl) (evs_cons (.of rfl) evs_nil)))) rfl (Grant_any (toldN s.2 o.a) o.b o.f (by omega) (by omega) p s.1 hwk.ok B _ J2 (hI.mono hJ2) _ hS) ?_
 clear hS
 rintro _ w ⟨rfl, hS⟩
 try dsimp only [List.eraseIdx] at hS
 refine .nil ?_
 clear hH
 have hH : ∃ R, Sat B w J2 (blk b5 [I64 o.act, I64 o.n, .slice da o.d.length dc, I64 o.a, S o.b, S o.c, .bool o.f, I64 o.r.kind, S o.r.name, S o.r.parent, S o.r.user, S o.r.service, S o.r.url, I64 o.r.made, I64 o.r.used, I64 o.r.uses, .bool o.r.fresh, S o.q.service, S o.q.cookie, .bool o.q.has, .bool o.q.renew, .bool o.q.gateway, .bool o.q.warn] 97 :: R) := ⟨_, (hS.pick 2 rfl)⟩
 refine And.intro (by intro _ _; exact hH) ?_
 refine .takeP (i := 10) rfl (by kernel_rfl) (by kernel_rfl) (by kernel_rfl) (fun w => (.move (.of rfl))) rfl (.takeP (i := 11) rfl (by kernel_rfl) (by kernel_rfl) (by kernel_rfl) (fun w => (.extract (.of rfl) rfl)) rfl (.takeP (i := 12) rfl (by kernel_rfl) (by kernel_rfl) (by kernel_rfl) (fun w => (.extract (.of rfl) rfl)) rfl (.takeP (i := 13) rfl (by kernel_rfl) (by kernel_rfl) (by kernel_rfl) (fun w => (.extract (.of rfl) rfl)) rfl (.takeP (i := 14) rfl (by kernel_rfl) (by kernel_rfl) (by kernel_rfl) (fun w => (.assign (.of rfl))) rfl (.takeP (i := 15) rfl (by kernel_rfl) (by kernel_rfl) (by kernel_rfl) (fun w => (.assign (.of rfl))) rfl (.takeP (i := 16) rfl (by kernel_rfl) (by kernel_rfl) (by kernel_rfl) (fun w => (.assign (.of rfl))) rfl (.done (by kernel_rfl) (.seq ?_))))))))
 obtain ⟨⟨a6, c6, ma6, mc6⟩, hS⟩ := Sat.unbox hS
 replace hS : Sat B _ _ (blk p.wb (wdC p (grantW p.lo p.ps s.1 (toldN s.2 o.a) o.b o.f).2) 52 :: blk p.tb [I64 (grantW p.lo p.ps s.1 (toldN s.2 o.a) o.b o.f).2.room, .slice a6 (grantW p.lo p.ps s.1 (toldN s.2 o.a) o.b o.f).2.l.length c6] 127 :: Vec 45 10 (.slice a6 (grantW p.lo p.ps s.1 (toldN s.2 o.a) o.b o.f).2.l.length c6) (grantW p.lo p.ps s.1 (toldN s.2 o.a) o.b o.f).2.l.length (rowsR (grantW p.lo p.ps s.1 (toldN s.2 o.a) o.b o.f).2.l) :: blk p.mb [.slice ma6 (grantW p.lo p.ps s.1 (toldN s.2 o.a) o.b o.f).2.D.length mc6] 168 :: VecO 118 (.slice ma6 (grantW p.lo p.ps s.1 (toldN s.2 o.a) o.b o.f).2.D.length mc6) ((grantW p.lo p.ps s.1 (toldN s.2 o.a) o.b o.f).2.D.map fun d => U64 (d : Nat)) :: _) := hS
 have hω2 := grantW_ok (lo := p.lo) (ps := p.ps) hwk.ok (toldN s.2 o.a) o.b o.f
 have hlen2 := hω2.len
 have hgd := grantW_D (lo := p.lo) (ps := p.ps) (ω := s.1) (t := (toldN s.2 o.a)) (s := o.b) (f := o.f)
 refine .region (.run 2 rfl trivial ?_)
 first | refine WL.val (.fieldAddr 0 (.of rfl) Tryz.underlying52 rfl rfl Tryz.sizeOf47 rfl) rfl ?_ | refine WL.val (.fieldAddrI 0 (.of rfl) Tryz.underlying52 rfl rfl Tryz.sizeOf47 rfl) rfl ?_
 first | refine WL.val (.ld (.of rfl) hS (k := 0) rfl Tryz.isAgg47 rfl) rfl ?_ | refine WL.val (.ld (.of rfl) hS (k := 1) rfl Tryz.isAgg47 rfl) rfl ?_ | refine WL.val (.ld (.of rfl) hS (k := 2) rfl Tryz.isAgg47 rfl) rfl ?_ | refine WL.val (.ld (.of rfl) hS (k := 3) rfl Tryz.isAgg47 rfl) rfl ?_ | refine WL.val (.ld (.of rfl) hS (k := 4) rfl Tryz.isAgg47 rfl) rfl ?_ | refine WL.val (.ld (.of rfl) hS (k := 5) rfl Tryz.isAgg47 rfl) rfl ?_ | refine WL.val (.ld (.of rfl) hS (k := 6) rfl Tryz.isAgg47 rfl) rfl ?_ | refine WL.val (.ld (.of rfl) hS (k := 7) rfl Tryz.isAgg47 rfl) rfl ?_ | refine WL.val (.ldI (.of rfl) hS (At.add hxn _) Tryz.isAgg47 rfl) rfl ?_
 refine .call Tryz.func29 rfl (evs_cons (.of rfl) evs_nil) rfl (TreeAll_any p.tb (grantW p.lo p.ps s.1 (toldN s.2 o.a) o.b o.f).2.room a6 c6 (grantW p.lo p.ps s.1 (toldN s.2 o.a) o.b o.f).2.l (by omega) B _ J2 _ ((hS.pick 2 rfl).pick 2 rfl)) ?_
 clear hS
 rintro _ w ⟨J3, na, nc, rfl, hJ3, hnc, hRn, hS⟩
 try dsimp only [List.eraseIdx] at hS
 refine .run 1 rfl trivial (.nil (.seq (.seq (.region (.run 2 rfl trivial (.nil ?_))))))
 refine WC.cond rfl (fun hb68 => ?_) (fun hb68 => ?_)
 ·
  have hc68 := hb68; try simp only [Gk.cs0] at hc68
  refine .seq ?_
  have hRw1 : RS J3 wa 10 s.1.l.length (rowsC recCells s.1.l) := hRw.mono hJ3
  have hRn1 : RS J3 na 10 (grantW p.lo p.ps s.1 (toldN s.2 o.a) o.b o.f).2.l.length (rowsC recCells (grantW p.lo p.ps s.1 (toldN s.2 o.a) o.b o.f).2.l) := hRn
  replace hS := ((hS.pick 4 rfl).pick 4 rfl)
  try dsimp only [List.eraseIdx] at hS
  refine .region (.run 2 rfl trivial (.gval rfl rfl (fun hg1 => (.move (.of rfl))) rfl (.gval rfl rfl (fun hg1 => (.eqs (.gd hg1 rfl) (.of rfl))) rfl (.val (.pand (.of rfl) (.of rfl) (.of rfl)) rfl (.run 1 rfl trivial (.gval rfl rfl (fun hg1 => (.move (.of rfl))) rfl (.gval rfl rfl (fun hg1 => (.eqs (.gd hg1 rfl) (.of rfl))) rfl (.val (.pand (.of rfl) (.of rfl) (.of rfl)) rfl (.run 1 rfl trivial (.gval rfl rfl (fun hg1 => (.move (.of rfl))) rfl (.gval rfl rfl (fun hg1 => (.move (.of rfl))) rfl (.gcall (T := fun w => Sat B w J3 _) rfl rfl rfl Tryz.func28 rfl (fun hg1 => (evs_cons (.gd hg1 rfl) (evs_cons (.gd hg1 rfl) evs_nil))) rfl (fun hg1 => RecordsR_any wa na wc nc s.1.l (grantW p.lo p.ps s.1 (toldN s.2 o.a) o.b o.f).2.l (by omega) B _ J3 hRw1 hRn1 _ hS) hS ?_))))))))))))
  clear hS; rintro w hS
  refine .val (.pand (.of rfl) (.of rfl) (.of rfl)) rfl (.run 1 rfl trivial (.gval rfl rfl (fun hg1 => (.move (.of rfl))) rfl (.gval rfl rfl (fun hg1 => (.nilCheck (.gd hg1 rfl))) rfl ?_)))
  refine WL.gval rfl rfl (fun hg1 => (by first | exact .fieldAddr 1 (.gd hg1 rfl) Tryz.underlying52 rfl rfl Tryz.sizeOf48 rfl | exact .fieldAddrI 1 (.gd hg1 rfl) Tryz.underlying52 rfl rfl Tryz.sizeOf48 rfl)) rfl ?_
  refine WL.gval rfl rfl (fun hg1 => (by first | exact (.ld (.gd hg1 rfl) hS (k := 0) rfl Tryz.isAgg48 rfl) | exact (.ld (.gd hg1 rfl) hS (k := 1) rfl Tryz.isAgg48 rfl) | exact (.ld (.gd hg1 rfl) hS (k := 2) rfl Tryz.isAgg48 rfl) | exact (.ld (.gd hg1 rfl) hS (k := 3) rfl Tryz.isAgg48 rfl) | exact (.ld (.gd hg1 rfl) hS (k := 4) rfl Tryz.isAgg48 rfl) | exact (.ld (.gd hg1 rfl) hS (k := 5) rfl Tryz.isAgg48 rfl) | exact (.ld (.gd hg1 rfl) hS (k := 6) rfl Tryz.isAgg48 rfl) | exact (.ld (.gd hg1 rfl) hS (k := 7) rfl Tryz.isAgg48 rfl) | exact (.ldI (.gd hg1 rfl) hS (At.add hxn _) Tryz.isAgg48 rfl))) rfl ?_
  refine .gcall (T := fun w => Sat B w J3 _) rfl rfl rfl Tryz.func55 rfl (fun hg1 => (evs_cons (.gd hg1 rfl) evs_nil)) rfl (fun hg1 => Left_any p.mb ma6 mc6 (grantW p.lo p.ps s.1 (toldN s.2 o.a) o.b o.f).2.D B _ J3 _ hS) hS ?_
  clear hS; rintro w hS
  refine .gval rfl rfl (fun hg1 => (.move (.of rfl))) rfl (.gval rfl rfl (fun hg1 => (.eql (.gd hg1 rfl) (.gd hg1 rfl))) rfl (.gval rfl rfl (fun hg1 => (.move (.gd hg1 rfl))) rfl (.gval2 rfl rfl rfl (fun hg1 hg2 => (.move (.of rfl))) rfl (.gval2 rfl rfl rfl (fun hg1 hg2 => (.eql (.gd2 hg1 hg2 rfl) (.of rfl))) rfl (.gval2 rfl rfl rfl (fun hg1 hg2 => (.move (.gd2 hg1 hg2 rfl))) rfl (.gval3 rfl rfl rfl (fun hg1 hg2 hg3 => (.move (.of rfl))) rfl (.gval3 rfl rfl rfl (fun hg1 hg2 hg3 => (.nilCheck (.gd3 hg1 hg2 hg3 rfl))) rfl ?_)))))))
  refine WL.gval3 rfl rfl rfl (fun hg1 hg2 hg3 => (by first | exact .fieldAddr 1 (.gd3 hg1 hg2 hg3 rfl) Tryz.underlying52 rfl rfl Tryz.sizeOf48 rfl | exact .fieldAddrI 1 (.gd3 hg1 hg2 hg3 rfl) Tryz.underlying52 rfl rfl Tryz.sizeOf48 rfl)) rfl ?_
  refine WL.gval3 rfl rfl rfl (fun hg1 hg2 hg3 => (by first | exact (.ld (.gd3 hg1 hg2 hg3 rfl) hS (k := 0) rfl Tryz.isAgg48 rfl) | exact (.ld (.gd3 hg1 hg2 hg3 rfl) hS (k := 1) rfl Tryz.isAgg48 rfl) | exact (.ld (.gd3 hg1 hg2 hg3 rfl) hS (k := 2) rfl Tryz.isAgg48 rfl) | exact (.ld (.gd3 hg1 hg2 hg3 rfl) hS (k := 3) rfl Tryz.isAgg48 rfl) | exact (.ld (.gd3 hg1 hg2 hg3 rfl) hS (k := 4) rfl Tryz.isAgg48 rfl) | exact (.ld (.gd3 hg1 hg2 hg3 rfl) hS (k := 5) rfl Tryz.isAgg48 rfl) | exact (.ld (.gd3 hg1 hg2 hg3 rfl) hS (k := 6) rfl Tryz.isAgg48 rfl) | exact (.ld (.gd3 hg1 hg2 hg3 rfl) hS (k := 7) rfl Tryz.isAgg48 rfl) | exact (.ldI (.gd3 hg1 hg2 hg3 rfl) hS (At.add hxn _) Tryz.isAgg48 rfl))) rfl ?_
  refine .gcall3 (T := fun w => Sat B w J3 _) rfl rfl rfl Tryz.func55 rfl (fun hg1 hg2 hg3 => (evs_cons (.gd3 hg1 hg2 hg3 rfl) evs_nil)) rfl (fun hg1 hg2 hg3 => Left_any p.mb ma6 mc6 (grantW p.lo p.ps s.1 (toldN s.2 o.a) o.b o.f).2.D B _ J3 _ hS) hS ?_
  clear hS; rintro w hS
  refine .gval3 rfl rfl rfl (fun hg1 hg2 hg3 => (.move (.of rfl))) rfl (.gval3 rfl rfl rfl (fun hg1 hg2 hg3 => (.sub (.gd3 hg1 hg2 hg3 rfl) (.of rfl) ⟨by omega, by omega⟩)) rfl (.gval3 rfl rfl rfl (fun hg1 hg2 hg3 => (.eql (.gd3 hg1 hg2 hg3 rfl) (.gd3 hg1 hg2 hg3 rfl))) rfl (.gval2 rfl rfl rfl (fun hg1 hg2 => (.pand (.gd2 hg1 hg2 rfl) (.gd2 hg1 hg2 rfl) (.of rfl))) rfl (.gval rfl rfl (fun hg1 => (.por (.gd hg1 rfl) (.of rfl) (.gd hg1 rfl))) rfl (.val (.pand (.of rfl) (.of rfl) (.of rfl)) rfl (.run 1 rfl trivial (.nil (.ret (ret1 Tryz.results12 rfl ?_)))))))))
  have hgf := grant_fails (lo := p.lo) (ps := p.ps) (ω := s.1) (t := (toldN s.2 o.a)) (s := o.b) (f := o.f) (by simpa using hb68)
  refine ⟨_, rfl, congrArg Value.bool ?_, J3, hJ1.trans (hJ.trans (hJ2.trans hJ3)), ((((((((hS.drop (k := 0) rfl).drop (k := 0) rfl).drop (k := 0) rfl).drop (k := 0) rfl).drop (k := 0) rfl).drop (k := 0) rfl).drop (k := 0) rfl).drop (k := 0) rfl)⟩
  obtain ⟨g1, g2, g3, g4⟩ := hgf
  rw [g1, g2, g3]
  rcases g4 with g4 | ⟨g4, g5⟩
  ·rw [g4]; simp
  ·rw [g4]
   have : (((grantW p.lo p.ps s.1 (toldN s.2 o.a) o.b o.f).2.D.length : Nat) : Int) = (s.1.D.length : Int) - 1 := by omega
   simp [this]
 have hc68 := hb68; try simp only [Gk.cs0] at hc68
 refine .skip (.seq ?_)
 replace hS := Sat.box (T := wdT p (grantW p.lo p.ps s.1 (toldN s.2 o.a) o.b o.f).2) (a6, c6, ma6, mc6) (((((hS.pick 4 rfl).pick 4 rfl).pick 3 rfl).pick 3 rfl).pick 4 rfl)
 try dsimp only [List.eraseIdx] at hS
 refine .region (.run 2 rfl trivial ?_)
 first | refine WL.val (.fieldAddr 3 (.of rfl) Tryz.underlying97 rfl rfl Tryz.sizeOf3 rfl) rfl ?_ | refine WL.val (.fieldAddrI 3 (.of rfl) Tryz.underlying97 rfl rfl Tryz.sizeOf3 rfl) rfl ?_
 first | refine WL.val (.ld (.of rfl) hS (k := 0) rfl Tryz.isAgg3 rfl) rfl ?_ | refine WL.val (.ld (.of rfl) hS (k := 1) rfl Tryz.isAgg3 rfl) rfl ?_ | refine WL.val (.ld (.of rfl) hS (k := 2) rfl Tryz.isAgg3 rfl) rfl ?_ | refine WL.val (.ld (.of rfl) hS (k := 3) rfl Tryz.isAgg3 rfl) rfl ?_ | refine WL.val (.ldI (.of rfl) hS (At.add hxn _) Tryz.isAgg3 rfl) rfl ?_
 refine WL.call Tryz.func38 rfl (evs_cons (.of rfl) (evs_cons (.of rfl) evs_nil)) rfl (toldN_any va vc s.2 (by have := hwk.nl; omega) o.a B _ J3 _ (fun w h => rows_own (cells := tCells) (s := 1) (fun _ => rfl) h (k := 1) (by rw [rowsT]; rfl)) hS) ?_
 clear hS
 rintro _ w ⟨rfl, hS⟩
 refine .call Tryz.func21 rfl (evs_cons (.of rfl) (evs_cons (.of rfl) (evs_cons (.of rfl) evs_nil))) rfl (Alive_any (toldN s.2 o.a) 1 p (grantW p.lo p.ps s.1 (toldN s.2 o.a) o.b o.f).2 (grantW_ok hwk.ok _ _ _) B _ J3 _ hS) ?_
 clear hS
 rintro _ w ⟨rfl, hS⟩
 try dsimp only [List.eraseIdx] at hS
 refine .run 3 rfl trivial (.allocA (cs := [_, _, _, _, _, _, _, _, _, _]) hS Tryz.zeroValue45 rfl ?_)
 clear hS; intro b17 w hS
 first | refine WL.stA hS (k := 0) rfl (.of rfl) (.of rfl) rfl Tryz.sizeOf45 rfl (by simp) ?_ | refine WL.stA hS (k := 1) rfl (.of rfl) (.of rfl) rfl Tryz.sizeOf45 rfl (by simp) ?_ | refine WL.stA hS (k := 2) rfl (.of rfl) (.of rfl) rfl Tryz.sizeOf45 rfl (by simp) ?_ | refine WL.stA hS (k := 3) rfl (.of rfl) (.of rfl) rfl Tryz.sizeOf45 rfl (by simp) ?_ | refine WL.stA hS (k := 4) rfl (.of rfl) (.of rfl) rfl Tryz.sizeOf45 rfl (by simp) ?_
 clear hS; intro w hS; try dsimp only [List.set] at hS
 try simp only [List.take_zero, List.nil_append, List.append_nil, List.drop_succ_cons, List.drop_zero, List.drop_nil, Nat.zero_add] at hS
 refine .run 1 rfl trivial (.nil (.seq ?_))
 have hgo := grant_okay (lo := p.lo) (ps := p.ps) (f := o.f) (s := o.b) (t := (toldN s.2 o.a)) hwk.ok (by simpa using hb68)
 obtain ⟨x, hx0⟩ : ∃ x, (grantW p.lo p.ps s.1 (toldN s.2 o.a) o.b o.f).2.l[s.1.l.length]? = some x := ⟨_, List.getElem?_eq_getElem (by omega)⟩
 have hRn1 : RS J3 na 10 (grantW p.lo p.ps s.1 (toldN s.2 o.a) o.b o.f).2.l.length (rowsC recCells (grantW p.lo p.ps s.1 (toldN s.2 o.a) o.b o.f).2.l) := hRn
 obtain ⟨np, hn9, hxn⟩ := rs_at (cells := recCells) (s := 10) (fun _ => rfl) hRn1 hx0
 have hgl := hgo.1
 subst hn9
 unfold recCells at hxn
 replace hS := (hS.pick 1 rfl)
 try dsimp only [List.eraseIdx] at hS
 obtain ⟨⟨a7, c7, ma7, mc7⟩, hS⟩ := Sat.unbox hS
 replace hS : Sat B _ _ (blk p.wb (wdC p (grantW p.lo p.ps s.1 (toldN s.2 o.a) o.b o.f).2) 52 :: blk p.tb [I64 (grantW p.lo p.ps s.1 (toldN s.2 o.a) o.b o.f).2.room, .slice a7 (grantW p.lo p.ps s.1 (toldN s.2 o.a) o.b o.f).2.l.length c7] 127 :: Vec 45 10 (.slice a7 (grantW p.lo p.ps s.1 (toldN s.2 o.a) o.b o.f).2.l.length c7) (grantW p.lo p.ps s.1 (toldN s.2 o.a) o.b o.f).2.l.length (rowsR (grantW p.lo p.ps s.1 (toldN s.2 o.a) o.b o.f).2.l) :: blk p.mb [.slice ma7 (grantW p.lo p.ps s.1 (toldN s.2 o.a) o.b o.f).2.D.length mc7] 168 :: VecO 118 (.slice ma7 (grantW p.lo p.ps s.1 (toldN s.2 o.a) o.b o.f).2.D.length mc7) ((grantW p.lo p.ps s.1 (toldN s.2 o.a) o.b o.f).2.D.map fun d => U64 (d : Nat)) :: _) := hS
 replace hS := ((hS.pick 4 rfl).pick 4 rfl)
 try dsimp only [List.eraseIdx] at hS
 refine .region (.run 2 rfl trivial (.gval rfl rfl (fun hg1 => (.move (.of rfl))) rfl (.gval rfl rfl (fun hg1 => (.lenSlice (.gd hg1 rfl) Tryz.underlying35)) rfl (.gval rfl rfl (fun hg1 => (.move (.of rfl))) rfl (.gval rfl rfl (fun hg1 => (.lenSlice (.gd hg1 rfl) Tryz.underlying35)) rfl (.gval rfl rfl (fun hg1 => (.add (.gd hg1 rfl) (.of rfl) ⟨by omega, by omega⟩)) rfl (.gval rfl rfl (fun hg1 => (.eql (.gd hg1 rfl) (.gd hg1 rfl))) rfl (.val (.pand (.of rfl) (.of rfl) (.of rfl)) rfl (.run 1 rfl trivial (.gval rfl rfl (fun hg1 => (.move (.of rfl))) rfl (.gval rfl rfl (fun hg1 => (.move (.of rfl))) rfl (.gval rfl rfl (fun hg1 => (.lenSlice (.gd hg1 rfl) Tryz.underlying35)) rfl ?_))))))))))))
 refine WL.gval rfl rfl (fun hg1 => (by first | exact .indexAddr (.gd hg1 rfl) (.gd hg1 rfl) (by (try simp only [Gk.cs0] at hg1); omega) (by (try simp only [Gk.cs0] at hg1); omega) Tryz.underlying35 Tryz.sizeOf45 | exact .indexAddrI (.gd hg1 rfl) (.gd hg1 rfl) (by (try simp only [Gk.cs0] at hg1); omega) (by (try simp only [Gk.cs0] at hg1); omega) Tryz.underlying35 Tryz.sizeOf45)) rfl ?_
 refine WL.gval rfl rfl (fun hg1 => (by first | exact .fieldAddr 1 (.gd hg1 rfl) Tryz.underlying45 rfl rfl Tryz.sizeOf9 rfl | exact .fieldAddrI 1 (.gd hg1 rfl) Tryz.underlying45 rfl rfl Tryz.sizeOf9 rfl)) rfl ?_
 refine WL.gval rfl rfl (fun hg1 => (by first | exact (.ld (.gd hg1 rfl) hS (k := 0) rfl Tryz.isAgg9 rfl) | exact (.ld (.gd hg1 rfl) hS (k := 1) rfl Tryz.isAgg9 rfl) | exact (.ld (.gd hg1 rfl) hS (k := 2) rfl Tryz.isAgg9 rfl) | exact (.ld (.gd hg1 rfl) hS (k := 3) rfl Tryz.isAgg9 rfl) | exact (.ld (.gd hg1 rfl) hS (k := 4) rfl Tryz.isAgg9 rfl) | exact (.ld (.gd hg1 rfl) hS (k := 5) rfl Tryz.isAgg9 rfl) | exact (.ld (.gd hg1 rfl) hS (k := 6) rfl Tryz.isAgg9 rfl) | exact (.ld (.gd hg1 rfl) hS (k := 7) rfl Tryz.isAgg9 rfl) | exact (.ld (.gd hg1 rfl) hS (k := 8) rfl Tryz.isAgg9 rfl) | exact (.ldI (.gd hg1 rfl) hS (At.add hxn _) Tryz.isAgg9 rfl))) rfl ?_
 refine .gval rfl rfl (fun hg1 => (.move (.of rfl))) rfl (.gval rfl rfl (fun hg1 => (.eqs (.gd hg1 rfl) (.gd hg1 rfl))) rfl (.val (.pand (.of rfl) (.of rfl) (.of rfl)) rfl (.run 1 rfl trivial (.gval rfl rfl (fun hg1 => (.move (.of rfl))) rfl (.gval rfl rfl (fun hg1 => (.nilCheck (.gd hg1 rfl))) rfl ?_)))))
 refine WL.gval rfl rfl (fun hg1 => (by first | exact .fieldAddr 1 (.gd hg1 rfl) Tryz.underlying52 rfl rfl Tryz.sizeOf48 rfl | exact .fieldAddrI 1 (.gd hg1 rfl) Tryz.underlying52 rfl rfl Tryz.sizeOf48 rfl)) rfl ?_
 refine WL.gval rfl rfl (fun hg1 => (by first | exact (.ld (.gd hg1 rfl) hS (k := 0) rfl Tryz.isAgg48 rfl) | exact (.ld (.gd hg1 rfl) hS (k := 1) rfl Tryz.isAgg48 rfl) | exact (.ld (.gd hg1 rfl) hS (k := 2) rfl Tryz.isAgg48 rfl) | exact (.ld (.gd hg1 rfl) hS (k := 3) rfl Tryz.isAgg48 rfl) | exact (.ld (.gd hg1 rfl) hS (k := 4) rfl Tryz.isAgg48 rfl) | exact (.ld (.gd hg1 rfl) hS (k := 5) rfl Tryz.isAgg48 rfl) | exact (.ld (.gd hg1 rfl) hS (k := 6) rfl Tryz.isAgg48 rfl) | exact (.ld (.gd hg1 rfl) hS (k := 7) rfl Tryz.isAgg48 rfl) | exact (.ld (.gd hg1 rfl) hS (k := 8) rfl Tryz.isAgg48 rfl) | exact (.ldI (.gd hg1 rfl) hS (At.add hxn _) Tryz.isAgg48 rfl))) rfl ?_
 refine .gcall (T := fun w => Sat B w J3 _) rfl rfl rfl Tryz.func55 rfl (fun hg1 => (evs_cons (.gd hg1 rfl) evs_nil)) rfl (fun hg1 => Left_any p.mb ma7 mc7 (grantW p.lo p.ps s.1 (toldN s.2 o.a) o.b o.f).2.D B _ J3 _ hS) hS ?_
 clear hS; rintro w hS
 refine .gval rfl rfl (fun hg1 => (.move (.of rfl))) rfl (.gval rfl rfl (fun hg1 => (.sub (.gd hg1 rfl) (.of rfl) ⟨by omega, by omega⟩)) rfl (.gval rfl rfl (fun hg1 => (.eql (.gd hg1 rfl) (.gd hg1 rfl))) rfl (.val (.pand (.of rfl) (.of rfl) (.of rfl)) rfl (.run 1 rfl trivial (.gval rfl rfl (fun hg1 => (.move (.of rfl))) rfl (.gval rfl rfl (fun hg1 => (.not (.gd hg1 rfl))) rfl (.gval rfl rfl (fun hg1 => (.move (.gd hg1 rfl))) rfl ?_)))))))
 refine WL.gval2 rfl rfl rfl (fun hg1 hg2 => (by first | exact .fieldAddr 8 (.of rfl) Tryz.underlying45 rfl rfl Tryz.sizeOf3 rfl | exact .fieldAddrI 8 (.of rfl) Tryz.underlying45 rfl rfl Tryz.sizeOf3 rfl)) rfl ?_
 refine WL.gval2 rfl rfl rfl (fun hg1 hg2 => (by first | exact (.ld (.gd2 hg1 hg2 rfl) hS (k := 0) rfl Tryz.isAgg3 rfl) | exact (.ld (.gd2 hg1 hg2 rfl) hS (k := 1) rfl Tryz.isAgg3 rfl) | exact (.ld (.gd2 hg1 hg2 rfl) hS (k := 2) rfl Tryz.isAgg3 rfl) | exact (.ld (.gd2 hg1 hg2 rfl) hS (k := 3) rfl Tryz.isAgg3 rfl) | exact (.ld (.gd2 hg1 hg2 rfl) hS (k := 4) rfl Tryz.isAgg3 rfl) | exact (.ld (.gd2 hg1 hg2 rfl) hS (k := 5) rfl Tryz.isAgg3 rfl) | exact (.ld (.gd2 hg1 hg2 rfl) hS (k := 6) rfl Tryz.isAgg3 rfl) | exact (.ld (.gd2 hg1 hg2 rfl) hS (k := 7) rfl Tryz.isAgg3 rfl) | exact (.ld (.gd2 hg1 hg2 rfl) hS (k := 8) rfl Tryz.isAgg3 rfl) | exact (.ldI (.gd2 hg1 hg2 rfl) hS (At.add hxn _) Tryz.isAgg3 rfl))) rfl ?_
 refine .gval2 rfl rfl rfl (fun hg1 hg2 => (.geq (.gd2 hg1 hg2 rfl) (.of rfl))) rfl (.gval rfl rfl (fun hg1 => (.por (.gd hg1 rfl) (.of rfl) (.gd hg1 rfl))) rfl (.val (.pand (.of rfl) (.of rfl) (.of rfl)) rfl (.run 1 rfl trivial (.nil (.ret (ret1 Tryz.results12 rfl ?_))))))
 refine ⟨_, rfl, congrArg Value.bool ?_, J3, hJ1.trans (hJ.trans (hJ2.trans hJ3)), (((((((((hS.drop (k := 0) rfl).drop (k := 0) rfl).drop (k := 0) rfl).drop (k := 0) rfl).drop (k := 0) rfl).drop (k := 0) rfl).drop (k := 0) rfl).drop (k := 0) rfl).drop (k := 0) rfl)⟩
 obtain ⟨g1, g2, g3, g4⟩ := hgo
 rw [g2 x hx0, g1]
 have : (((grantW p.lo p.ps s.1 (toldN s.2 o.a) o.b o.f).2.D.length : Nat) : Int) = (s.1.D.length : Int) - 1 := by omega
 rw [this]
 cases hal : (aliveW p.ps (grantW p.lo p.ps s.1 (toldN s.2 o.a) o.b o.f).2 (toldN s.2 o.a) 1).2 with
 | false => simp
 | true =>
  have := g4 hal
  simp [this]
end Go.Proofs.YtadhiihnnkcagaaGreatDoor
