/- Chapter 16: the sort by insertion. -/
import Derived.Test.YtfmdhpgfbojjaaaW16c
namespace Go.Proofs.Ytfmdhpgfbojjaaa
open Gk Rk
set_option linter.unusedVariables false
set_option linter.unusedSimpArgs false

set_option maxHeartbeats 400000 in
theorem ins_any {l : List Nat} {p : Addr} {I : Im} (hx : Cx I l p) (F R C : List Int) (hR : R.Pairwise (· < ·)) (hin : ∀ x ∈ R, 0 ≤ x ∧ x < (l.length : Int)) (b0 n c : Nat) (r : List Value) (ib : Int) (hib : ib = F.length + R.length) (hn : ib ≤ n) (hbb : F.length + R.length + C.length ≤ 1000000) (B w : World) (As : List Assn) (hS : Sat B w I (blk b0 ((F ++ (R ++ C)).map I64 ++ r) 3 :: As)) :
    Calls Try.prog 35 [.slice (some (ad b0 0)) n c, I64 (F.length : Nat), I64 ib, CF p].toArray w (Ret fun v w' => v = .tuple #[] ∧ ∃ M, M.Perm R ∧ Srt.So (kx l) M ∧ Sat B w' I (blk b0 ((F ++ (M ++ C)).map I64 ++ r) 3 :: As)) := by
  refine calls Try.func35 rfl Try.ntmps35 rfl ?_
  refine WC.seq ?_
  refine WC.region ?_
  refine WL.val (.move (.of rfl)) rfl ?_
  refine WL.val (.add (.of rfl) (.of rfl) ⟨by omega, by omega⟩) rfl ?_
  refine WL.val (.assign (.of rfl)) rfl ?_
  refine WL.nil ?_
  refine WC.block ?_
  have hst : (F.length : Int) + 1 = max ((F.length : Int) + (R.take 1).length) (F.length + 1) ∧ (R.take 1 = [] → R.drop 1 = []) ∧ Srt.So (kx l) (R.take 1) ∧ Srt.cross (R.take 1) (R.drop 1) ∧ (R.drop 1).Pairwise (· < ·) ∧ (R.take 1 ++ R.drop 1).Perm R ∧ Sat B w I (blk b0 ((F ++ (R.take 1 ++ (R.drop 1 ++ C))).map I64 ++ r) 3 :: As) := by
    refine ⟨?_, ?_, ?_, ?_, ?_, by rw [List.take_append_drop], ?_⟩
    · cases R <;> simp <;> omega
    · intro h; cases R with
      | nil => rfl
      | cons a R => simp at h
    · cases R with
      | nil => exact .nil
      | cons a R => simp
    · cases R with
      | nil => intro _ h; simp at h
      | cons a R => intro u hu t ht; simp at hu ht; subst hu; exact (List.pairwise_cons.1 hR).1 t ht
    · exact hR.sublist (List.drop_sublist 1 R)
    · have e : F ++ (R.take 1 ++ (R.drop 1 ++ C)) = F ++ (R ++ C) := by rw [← List.append_assoc (R.take 1), List.take_append_drop]
      rw [e]; exact hS
  refine WC.loop (σ := Int × List Int × List Int) (fun ⟨i, M, T⟩ => [(0, .slice (some (ad b0 0)) n c), (1, I64 (F.length : Nat)), (2, I64 ib), (3, CF p), (8, I64 i)]) (fun ⟨i, M, T⟩ w => i = max ((F.length : Int) + M.length) (F.length + 1) ∧ (M = [] → T = []) ∧ Srt.So (kx l) M ∧ Srt.cross M T ∧ T.Pairwise (· < ·) ∧ (M ++ T).Perm R ∧ Sat B w I (blk b0 ((F ++ (M ++ (T ++ C))).map I64 ++ r) 3 :: As)) (fun ⟨i, M, T⟩ => T.length) ((F.length : Int) + 1, R.take 1, R.drop 1) ⟨rfl, rfl, rfl, rfl, rfl, trivial⟩ hst ?_
  rintro ⟨i, M, T⟩ w ⟨hi, hMT, hM, hc, hT, hP, hS⟩
  change WC _ _ _ _ [(0, .slice (some (ad b0 0)) n c), (1, I64 (F.length : Nat)), (2, I64 ib), (3, CF p), (8, I64 i)] w
  have hPl := hP.length_eq
  rw [List.length_append] at hPl
  refine WC.seq ?_
  refine WC.seq ?_
  refine WC.region ?_
  refine WL.val (.move (.of rfl)) rfl ?_
  refine WL.val (.move (.of rfl)) rfl ?_
  refine WL.val (.lss (.of rfl) (.of rfl)) rfl ?_
  refine WL.nil ?_
  refine WC.cond rfl (fun hb14 => ?_) (fun hb14 => ?_)
  ·
    have hc14 := hb14; try simp only [decide_eq_true_eq, decide_eq_false_iff_not, beq_iff_eq, beq_eq_false_iff_ne, bne_iff_ne, Bool.not_eq_true', Bool.not_eq_false', Bool.or_eq_true, Bool.and_eq_true, Bool.or_eq_false_iff, Bool.and_eq_false_iff, ne_eq, Int.not_lt, Int.not_le, bne_eq_false_iff_eq, Bool.not_eq_true, Bool.not_eq_false] at hc14
    refine WC.skip ?_
    refine WC.seq ?_
    refine WC.block ?_
    refine WC.seq ?_
    have hMn : 0 < M.length := by
      rcases Nat.eq_zero_or_pos M.length with h | h
      · have h2 := hMT (List.eq_nil_of_length_eq_zero h); rw [h2] at hPl; simp at hPl; omega
      · exact h
    obtain ⟨x, T, rfl⟩ := Srt.cons_of (U := T) (by omega)
    simp only [List.length_cons] at hPl
    refine WC.region ?_
    refine WL.val (.move (.of rfl)) rfl ?_
    refine WL.val (.assign (.of rfl)) rfl ?_
    refine WL.nil ?_
    refine WC.block ?_
    refine WC.loop (σ := Int × List Int × List Int) (fun ⟨j, U1, U2⟩ => [(0, .slice (some (ad b0 0)) n c), (1, I64 (F.length : Nat)), (2, I64 ib), (3, CF p), (8, I64 i), (9, I64 j)]) (fun ⟨j, U1, U2⟩ w => j = (F.length : Int) + U1.length ∧ Srt.So (kx l) (U1 ++ U2) ∧ (∀ u ∈ U2, Srt.bef (kx l) x u) ∧ (U1 ++ U2).Perm M ∧ Sat B w I (blk b0 ((F ++ (U1 ++ x :: (U2 ++ (T ++ C)))).map I64 ++ r) 3 :: As)) (fun ⟨j, U1, U2⟩ => U1.length) (i, M, []) ⟨rfl, rfl, rfl, rfl, rfl, rfl, trivial⟩ ⟨by (try dsimp only); omega, by rw [List.append_nil]; exact hM, (fun _ h => by cases h), by rw [List.append_nil], hS⟩ ?_
    rintro ⟨j, U1, U2⟩ w ⟨hj, hs, hb2, hp2, hS⟩
    change WC _ _ _ _ [(0, .slice (some (ad b0 0)) n c), (1, I64 (F.length : Nat)), (2, I64 ib), (3, CF p), (8, I64 i), (9, I64 j)] w
    obtain ⟨D, hD⟩ : ∃ D, D = F ++ (U1 ++ x :: (U2 ++ (T ++ C))) := ⟨_, rfl⟩
    rw [← hD] at hS
    have hp3 := hp2.length_eq
    rw [List.length_append] at hp3
    have hDl : D.length = F.length + (U1.length + 1 + U2.length + (T.length + C.length)) := by rw [hD]; simp only [List.length_append, List.length_cons]; omega
    have hinR : ∀ v ∈ U1 ++ x :: U2, 0 ≤ v ∧ v < (l.length : Int) := fun v hv => by
      refine hin v (hP.mem_iff.1 ?_)
      rcases List.mem_append.1 hv with h | h
      · exact List.mem_append_left _ (hp2.mem_iff.1 (List.mem_append_left _ h))
      · rcases List.mem_cons.1 h with rfl | h
        · exact List.mem_append_right _ List.mem_cons_self
        · exact List.mem_append_left _ (hp2.mem_iff.1 (List.mem_append_right _ h))
    have hin2 : ∀ q : Nat, F.length ≤ q → q < F.length + (U1.length + 1 + U2.length) → 0 ≤ D.getD q 0 ∧ D.getD q 0 < (l.length : Int) := fun q h1 h2 => by
      refine hinR _ ?_
      have e : D = F ++ ((U1 ++ x :: U2) ++ (T ++ C)) := by rw [hD]; simp only [List.append_assoc, List.cons_append]
      rw [e]
      exact Srt.get_mid h1 (by simp only [List.length_append, List.length_cons]; omega)
    have hx1 : D.getD j.toNat 0 = x := by
      have := Srt.at_app (F ++ U1) (U2 ++ (T ++ C)) x
      rw [show (F ++ U1).length = j.toNat by rw [List.length_append]; omega] at this
      rw [hD, ← List.append_assoc]
      exact this
    have hlt : ∀ u ∈ U1 ++ U2, u < x := fun u hu => hc u (hp2.mem_iff.1 hu) x List.mem_cons_self
    refine WC.seq ?_
    refine WC.seq ?_
    refine WC.quiet (by kernel_rfl) (by kernel_rfl) hS ?_
    refine WQ.val (fun w hS => (.move (.of rfl))) rfl ?_
    refine WQ.val (fun w hS => (.move (.of rfl))) rfl ?_
    refine WQ.val (fun w hS => (.gtr (.of rfl) (.of rfl))) rfl ?_
    refine WQ.val (fun w hS => (.move (.of rfl))) rfl ?_
    refine WQ.gval rfl rfl rfl (fun hg1 w hS => (.move (.of rfl))) rfl ?_
    refine WQ.gval rfl rfl rfl (fun hg1 w hS => (.move (.of rfl))) rfl ?_
    refine WQ.gval rfl rfl rfl (fun hg1 w hS => (.move (.of rfl))) rfl ?_
    refine WQ.gval rfl rfl rfl (fun hg1 w hS => (by first | exact .indexAddr (.gd hg1 rfl) (.gd hg1 rfl) (by (try simp only [decide_eq_true_eq, decide_eq_false_iff_not, beq_iff_eq, beq_eq_false_iff_ne, bne_iff_ne, Bool.not_eq_true', Bool.not_eq_false', Bool.or_eq_true, Bool.and_eq_true, Bool.or_eq_false_iff, Bool.and_eq_false_iff, ne_eq, Int.not_lt, Int.not_le, bne_eq_false_iff_eq, Bool.not_eq_true, Bool.not_eq_false] at hg1); omega) (by (try simp only [decide_eq_true_eq, decide_eq_false_iff_not, beq_iff_eq, beq_eq_false_iff_ne, bne_iff_ne, Bool.not_eq_true', Bool.not_eq_false', Bool.or_eq_true, Bool.and_eq_true, Bool.or_eq_false_iff, Bool.and_eq_false_iff, ne_eq, Int.not_lt, Int.not_le, bne_eq_false_iff_eq, Bool.not_eq_true, Bool.not_eq_false] at hg1); omega) Try.underlying28 Try.sizeOf3 | exact .indexAddrI (.gd hg1 rfl) (.gd hg1 rfl) (by (try simp only [decide_eq_true_eq, decide_eq_false_iff_not, beq_iff_eq, beq_eq_false_iff_ne, bne_iff_ne, Bool.not_eq_true', Bool.not_eq_false', Bool.or_eq_true, Bool.and_eq_true, Bool.or_eq_false_iff, Bool.and_eq_false_iff, ne_eq, Int.not_lt, Int.not_le, bne_eq_false_iff_eq, Bool.not_eq_true, Bool.not_eq_false] at hg1); omega) (by (try simp only [decide_eq_true_eq, decide_eq_false_iff_not, beq_iff_eq, beq_eq_false_iff_ne, bne_iff_ne, Bool.not_eq_true', Bool.not_eq_false', Bool.or_eq_true, Bool.and_eq_true, Bool.or_eq_false_iff, Bool.and_eq_false_iff, ne_eq, Int.not_lt, Int.not_le, bne_eq_false_iff_eq, Bool.not_eq_true, Bool.not_eq_false] at hg1); omega) Try.underlying28 Try.sizeOf3)) rfl ?_
    refine WQ.gval rfl rfl rfl (fun hg1 w hS => .ldE I64 D 0 r (i := j) (.gd hg1 rfl) hS (k := 0) rfl rfl Try.isAgg3 (by (try simp only [decide_eq_true_eq, decide_eq_false_iff_not, beq_iff_eq, beq_eq_false_iff_ne, bne_iff_ne, Bool.not_eq_true', Bool.not_eq_false', Bool.or_eq_true, Bool.and_eq_true, Bool.or_eq_false_iff, Bool.and_eq_false_iff, ne_eq, Int.not_lt, Int.not_le, bne_eq_false_iff_eq, Bool.not_eq_true, Bool.not_eq_false] at hg1); omega) (by (try simp only [decide_eq_true_eq, decide_eq_false_iff_not, beq_iff_eq, beq_eq_false_iff_ne, bne_iff_ne, Bool.not_eq_true', Bool.not_eq_false', Bool.or_eq_true, Bool.and_eq_true, Bool.or_eq_false_iff, Bool.and_eq_false_iff, ne_eq, Int.not_lt, Int.not_le, bne_eq_false_iff_eq, Bool.not_eq_true, Bool.not_eq_false] at hg1); omega)) rfl ?_
    refine WQ.gval rfl rfl rfl (fun hg1 w hS => (.move (.of rfl))) rfl ?_
    refine WQ.gval rfl rfl rfl (fun hg1 w hS => (.move (.of rfl))) rfl ?_
    refine WQ.gval rfl rfl rfl (fun hg1 w hS => (.sub (.gd hg1 rfl) (.of rfl) ⟨by omega, by omega⟩)) rfl ?_
    refine WQ.gval rfl rfl rfl (fun hg1 w hS => (by first | exact .indexAddr (.gd hg1 rfl) (.gd hg1 rfl) (by (try simp only [decide_eq_true_eq, decide_eq_false_iff_not, beq_iff_eq, beq_eq_false_iff_ne, bne_iff_ne, Bool.not_eq_true', Bool.not_eq_false', Bool.or_eq_true, Bool.and_eq_true, Bool.or_eq_false_iff, Bool.and_eq_false_iff, ne_eq, Int.not_lt, Int.not_le, bne_eq_false_iff_eq, Bool.not_eq_true, Bool.not_eq_false] at hg1); omega) (by (try simp only [decide_eq_true_eq, decide_eq_false_iff_not, beq_iff_eq, beq_eq_false_iff_ne, bne_iff_ne, Bool.not_eq_true', Bool.not_eq_false', Bool.or_eq_true, Bool.and_eq_true, Bool.or_eq_false_iff, Bool.and_eq_false_iff, ne_eq, Int.not_lt, Int.not_le, bne_eq_false_iff_eq, Bool.not_eq_true, Bool.not_eq_false] at hg1); omega) Try.underlying28 Try.sizeOf3 | exact .indexAddrI (.gd hg1 rfl) (.gd hg1 rfl) (by (try simp only [decide_eq_true_eq, decide_eq_false_iff_not, beq_iff_eq, beq_eq_false_iff_ne, bne_iff_ne, Bool.not_eq_true', Bool.not_eq_false', Bool.or_eq_true, Bool.and_eq_true, Bool.or_eq_false_iff, Bool.and_eq_false_iff, ne_eq, Int.not_lt, Int.not_le, bne_eq_false_iff_eq, Bool.not_eq_true, Bool.not_eq_false] at hg1); omega) (by (try simp only [decide_eq_true_eq, decide_eq_false_iff_not, beq_iff_eq, beq_eq_false_iff_ne, bne_iff_ne, Bool.not_eq_true', Bool.not_eq_false', Bool.or_eq_true, Bool.and_eq_true, Bool.or_eq_false_iff, Bool.and_eq_false_iff, ne_eq, Int.not_lt, Int.not_le, bne_eq_false_iff_eq, Bool.not_eq_true, Bool.not_eq_false] at hg1); omega) Try.underlying28 Try.sizeOf3)) rfl ?_
    refine WQ.gval rfl rfl rfl (fun hg1 w hS => .ldE I64 D 0 r (i := j - 1) (.gd hg1 rfl) hS (k := 0) rfl rfl Try.isAgg3 (by (try simp only [decide_eq_true_eq, decide_eq_false_iff_not, beq_iff_eq, beq_eq_false_iff_ne, bne_iff_ne, Bool.not_eq_true', Bool.not_eq_false', Bool.or_eq_true, Bool.and_eq_true, Bool.or_eq_false_iff, Bool.and_eq_false_iff, ne_eq, Int.not_lt, Int.not_le, bne_eq_false_iff_eq, Bool.not_eq_true, Bool.not_eq_false] at hg1); omega) (by (try simp only [decide_eq_true_eq, decide_eq_false_iff_not, beq_iff_eq, beq_eq_false_iff_ne, bne_iff_ne, Bool.not_eq_true', Bool.not_eq_false', Bool.or_eq_true, Bool.and_eq_true, Bool.or_eq_false_iff, Bool.and_eq_false_iff, ne_eq, Int.not_lt, Int.not_le, bne_eq_false_iff_eq, Bool.not_eq_true, Bool.not_eq_false] at hg1); omega)) rfl ?_
    refine WQ.gvcall rfl rfl rfl Try.func25 rfl (fun hg1 => .gd hg1 rfl) (fun hg1 => evs_cons (.gd hg1 rfl) (evs_cons (.gd hg1 rfl) evs_nil)) rfl (fun hg1 w hS => by have hj1 := hin2 j.toNat (by (try simp only [decide_eq_true_eq, decide_eq_false_iff_not, beq_iff_eq, beq_eq_false_iff_ne, bne_iff_ne, Bool.not_eq_true', Bool.not_eq_false', Bool.or_eq_true, Bool.and_eq_true, Bool.or_eq_false_iff, Bool.and_eq_false_iff, ne_eq, Int.not_lt, Int.not_le, bne_eq_false_iff_eq, Bool.not_eq_true, Bool.not_eq_false] at hg1); omega) (by (try simp only [decide_eq_true_eq, decide_eq_false_iff_not, beq_iff_eq, beq_eq_false_iff_ne, bne_iff_ne, Bool.not_eq_true', Bool.not_eq_false', Bool.or_eq_true, Bool.and_eq_true, Bool.or_eq_false_iff, Bool.and_eq_false_iff, ne_eq, Int.not_lt, Int.not_le, bne_eq_false_iff_eq, Bool.not_eq_true, Bool.not_eq_false] at hg1); omega); have hj2 := hin2 (j - 1).toNat (by (try simp only [decide_eq_true_eq, decide_eq_false_iff_not, beq_iff_eq, beq_eq_false_iff_ne, bne_iff_ne, Bool.not_eq_true', Bool.not_eq_false', Bool.or_eq_true, Bool.and_eq_true, Bool.or_eq_false_iff, Bool.and_eq_false_iff, ne_eq, Int.not_lt, Int.not_le, bne_eq_false_iff_eq, Bool.not_eq_true, Bool.not_eq_false] at hg1); omega) (by (try simp only [decide_eq_true_eq, decide_eq_false_iff_not, beq_iff_eq, beq_eq_false_iff_ne, bne_iff_ne, Bool.not_eq_true', Bool.not_eq_false', Bool.or_eq_true, Bool.and_eq_true, Bool.or_eq_false_iff, Bool.and_eq_false_iff, ne_eq, Int.not_lt, Int.not_le, bne_eq_false_iff_eq, Bool.not_eq_true, Bool.not_eq_false] at hg1); omega); exact cmp_any hx _ _ hj1.1 hj1.2 hj2.1 hj2.2 B w _ hS) ?_
    refine WQ.gval rfl rfl rfl (fun hg1 w hS => (.lss (.gd hg1 rfl) (.of rfl))) rfl ?_
    refine WQ.val (fun w hS => (.pand (.of rfl) (.of rfl) (.of rfl))) rfl ?_
    refine WQ.nil ?_
    clear hS; intro w hS
    refine WC.cond rfl (fun hb34 => ?_) (fun hb34 => ?_)
    ·
      have hc34 := hb34; try simp only [decide_eq_true_eq, decide_eq_false_iff_not, beq_iff_eq, beq_eq_false_iff_ne, bne_iff_ne, Bool.not_eq_true', Bool.not_eq_false', Bool.or_eq_true, Bool.and_eq_true, Bool.or_eq_false_iff, Bool.and_eq_false_iff, ne_eq, Int.not_lt, Int.not_le, bne_eq_false_iff_eq, Bool.not_eq_true, Bool.not_eq_false] at hc34
      refine WC.skip ?_
      refine WC.seq ?_
      refine WC.block ?_
      refine WC.drawn (fun w => ∃ R, Sat B w I (blk b0 ((D).map I64 ++ r) 3 :: R)) (fun j => !([15, 17].contains j)) (by kernel_rfl) ?_
      replace hS := hS.drew; generalize w.drew = w at hS ⊢
      have hH : ∃ R, Sat B w I (blk b0 ((D).map I64 ++ r) 3 :: R) := ⟨_, (hS.pick 0 rfl)⟩
      refine WD.takeP (i := 0) rfl (by kernel_rfl) (by kernel_rfl) (by kernel_rfl) (fun w => (.move (.of rfl))) rfl ?_
      refine WD.takeP (i := 1) rfl (by kernel_rfl) (by kernel_rfl) (by kernel_rfl) (fun w => (.move (.of rfl))) rfl ?_
      refine WD.takeP (i := 2) rfl (by kernel_rfl) (by kernel_rfl) (by kernel_rfl) (fun w => (.move (.of rfl))) rfl ?_
      refine WD.takeP (i := 3) rfl (by kernel_rfl) (by kernel_rfl) (by kernel_rfl) (fun w => (.move (.of rfl))) rfl ?_
      refine WD.takeP (i := 4) rfl (by kernel_rfl) (by kernel_rfl) (by kernel_rfl) (fun w => (.sub (.of rfl) (.of rfl) ⟨by omega, by omega⟩)) rfl ?_
      refine WD.takeP (i := 5) rfl (by kernel_rfl) (by kernel_rfl) (by kernel_rfl) (fun w => (.move (.of rfl))) rfl ?_
      refine WD.takeP (i := 6) rfl (by kernel_rfl) (by kernel_rfl) (by kernel_rfl) (fun w => (.move (.of rfl))) rfl ?_
      refine WD.takeP (i := 7) rfl (by kernel_rfl) (by kernel_rfl) (by kernel_rfl) (fun w => (.sub (.of rfl) (.of rfl) ⟨by omega, by omega⟩)) rfl ?_
      refine WD.takeP (i := 8) rfl (by kernel_rfl) (by kernel_rfl) (by kernel_rfl) (fun w => (by first | exact .indexAddr (.of rfl) (.of rfl) (by omega) (by omega) Try.underlying28 Try.sizeOf3 | exact .indexAddrI (.of rfl) (.of rfl) (by omega) (by omega) Try.underlying28 Try.sizeOf3)) rfl ?_
      refine WD.take (i := 9) rfl (by kernel_rfl) (by kernel_rfl) (by kernel_rfl) (by kernel_rfl) hH (fun w ⟨R, hS⟩ => .ldE I64 D 0 r (i := j - 1) (.of rfl) hS (k := 0) rfl rfl Try.isAgg3 (by omega) (by omega)) rfl ?_
      refine WD.takeP (i := 10) rfl (by kernel_rfl) (by kernel_rfl) (by kernel_rfl) (fun w => (.move (.of rfl))) rfl ?_
      refine WD.takeP (i := 11) rfl (by kernel_rfl) (by kernel_rfl) (by kernel_rfl) (fun w => (.move (.of rfl))) rfl ?_
      refine WD.takeP (i := 12) rfl (by kernel_rfl) (by kernel_rfl) (by kernel_rfl) (fun w => (by first | exact .indexAddr (.of rfl) (.of rfl) (by omega) (by omega) Try.underlying28 Try.sizeOf3 | exact .indexAddrI (.of rfl) (.of rfl) (by omega) (by omega) Try.underlying28 Try.sizeOf3)) rfl ?_
      refine WD.take (i := 13) rfl (by kernel_rfl) (by kernel_rfl) (by kernel_rfl) (by kernel_rfl) hH (fun w ⟨R, hS⟩ => .ldE I64 D 0 r (i := j) (.of rfl) hS (k := 0) rfl rfl Try.isAgg3 (by omega) (by omega)) rfl ?_
      refine WD.takeP (i := 14) rfl (by kernel_rfl) (by kernel_rfl) (by kernel_rfl) (fun w => (by first | exact .indexAddr (.of rfl) (.of rfl) (by omega) (by omega) Try.underlying28 Try.sizeOf3 | exact .indexAddrI (.of rfl) (.of rfl) (by omega) (by omega) Try.underlying28 Try.sizeOf3)) rfl ?_
      refine WD.branch [15] (by kernel_rfl) rfl (WO.cons rfl ?_ (WO.nil))
      refine WL.stE I64 _ r hS (k := 0) rfl (.of rfl) (.of rfl) rfl rfl Try.sizeOf3 (by omega) (by (try rw [List.length_set]); omega) ?_
      clear hS; intro w hS; dsimp only [List.set] at hS
      refine WL.nil ?_
      refine And.intro (by intro h; cases h) ?_
      refine WD.takeP (i := 16) rfl (by kernel_rfl) (by kernel_rfl) (by kernel_rfl) (fun w => (by first | exact .indexAddr (.of rfl) (.of rfl) (by omega) (by omega) Try.underlying28 Try.sizeOf3 | exact .indexAddrI (.of rfl) (.of rfl) (by omega) (by omega) Try.underlying28 Try.sizeOf3)) rfl ?_
      refine WD.branch [17] (by kernel_rfl) rfl (WO.cons rfl ?_ (WO.nil))
      refine WL.stE I64 _ r hS (k := 0) rfl (.of rfl) (.of rfl) rfl rfl Try.sizeOf3 (by omega) (by (try rw [List.length_set]); omega) ?_
      clear hS; intro w hS; dsimp only [List.set] at hS
      refine WL.nil ?_
      refine And.intro (by intro h; cases h) ?_
      refine WD.done (by kernel_rfl) ?_
      refine WC.region ?_
      refine WL.val (.move (.of rfl)) rfl ?_
      refine WL.val (.sub (.of rfl) (.of rfl) ⟨by omega, by omega⟩) rfl ?_
      refine WL.val (.assign (.of rfl)) rfl ?_
      refine WL.nil ?_
      obtain ⟨U3, q, rfl⟩ := Srt.concat_of (U := U1) (by omega)
      have e1 : D = (F ++ U3) ++ q :: x :: (U2 ++ (T ++ C)) := by rw [hD]; simp only [List.append_assoc, List.cons_append, List.nil_append]
      have hq : D.getD (j - 1).toNat 0 = q := by
        have := Srt.at_app (F ++ U3) (x :: (U2 ++ (T ++ C))) q
        rw [show (F ++ U3).length = (j - 1).toNat by rw [List.length_append]; simp only [List.length_append, List.length_cons, List.length_nil] at hj; omega] at this
        rw [e1]; exact this
      have hbq : Srt.bef (kx l) x q := by
        have h := Srt.cmpv_neg.1 hc34.2
        rw [hx1, hq] at h
        exact (Srt.bef_later (hlt q (by simp))).2 h
      have e := Srt.swp_adj (F ++ U3) (U2 ++ (T ++ C)) q x
      rw [← e1, show (F ++ U3).length = (j - 1).toNat by rw [List.length_append]; simp only [List.length_append, List.length_cons, List.length_nil] at hj; omega, show (j - 1).toNat + 1 = j.toNat by omega, Srt.swp_comm (by omega)] at e
      unfold Srt.swp at e
      rw [e] at hS
      refine ⟨(j - 1, U3, q :: U2), ⟨rfl, rfl, rfl, rfl, rfl, rfl, trivial⟩, ⟨by simp only [List.length_append, List.length_cons, List.length_nil] at hj; (try dsimp only); omega, by simpa using hs, ?_, by simpa using hp2, ?_⟩, by simp⟩
      · intro u hu
        rcases List.mem_cons.1 hu with rfl | hu
        · exact hbq
        · exact hb2 u hu
      · rw [List.append_assoc] at hS; exact hS
    ·
      have hc34 := hb34; try simp only [decide_eq_true_eq, decide_eq_false_iff_not, beq_iff_eq, beq_eq_false_iff_ne, bne_iff_ne, Bool.not_eq_true', Bool.not_eq_false', Bool.or_eq_true, Bool.and_eq_true, Bool.or_eq_false_iff, Bool.and_eq_false_iff, ne_eq, Int.not_lt, Int.not_le, bne_eq_false_iff_eq, Bool.not_eq_true, Bool.not_eq_false] at hc34
      refine WC.exit ?_
      refine WC.region ?_
      refine WL.val (.move (.of rfl)) rfl ?_
      refine WL.val (.add (.of rfl) (.of rfl) ⟨by omega, by omega⟩) rfl ?_
      refine WL.val (.assign (.of rfl)) rfl ?_
      refine WL.nil ?_
      have hLQ : ∀ u ∈ U1, Srt.bef (kx l) u x := by
        intro u hu
        obtain ⟨U3, q, rfl⟩ := Srt.concat_of (U := U1) (List.length_pos_of_mem hu)
        have e1 : D = (F ++ U3) ++ q :: x :: (U2 ++ (T ++ C)) := by rw [hD]; simp only [List.append_assoc, List.cons_append, List.nil_append]
        have hq : D.getD (j - 1).toNat 0 = q := by
          have := Srt.at_app (F ++ U3) (x :: (U2 ++ (T ++ C))) q
          rw [show (F ++ U3).length = (j - 1).toNat by rw [List.length_append]; simp only [List.length_append, List.length_cons, List.length_nil] at hj; omega] at this
          rw [e1]; exact this
        simp only [List.length_append, List.length_cons, List.length_nil] at hj
        have h34 : ¬ (Srt.cmpv (kx l) (D.getD j.toNat 0) (D.getD (j - 1).toNat 0) < 0) := by
          rcases hc34 with h | h
          · omega
          · omega
        rw [Srt.cmpv_neg, hx1, hq] at h34
        exact Srt.so_last (List.pairwise_append.1 hs).1 (Srt.not_bef_later (hlt q (by simp)) h34) u hu
      have hU : Srt.So (kx l) (U1 ++ x :: U2) := Srt.so_insert hs (hLQ) hb2
      refine ⟨(i + 1, U1 ++ x :: U2, T), ⟨rfl, rfl, rfl, rfl, rfl, trivial⟩, ⟨by simp only [List.length_append, List.length_cons]; have := hp2.length_eq; rw [List.length_append] at this; omega, fun h => by simp at h, hU, ?_, (List.pairwise_cons.1 hT).2, ?_, ?_⟩, by simp⟩
      · intro u hu t ht
        have h1 : u ∈ U1 ++ U2 ∨ u = x := by
          rcases List.mem_append.1 hu with h | h
          · exact .inl (List.mem_append_left _ h)
          · rcases List.mem_cons.1 h with h | h
            · exact .inr h
            · exact .inl (List.mem_append_right _ h)
        rcases h1 with h1 | rfl
        · exact hc u (hp2.mem_iff.1 h1) t (List.mem_cons_of_mem _ ht)
        · exact (List.pairwise_cons.1 hT).1 t ht
      · refine List.Perm.trans ?_ hP
        refine List.Perm.trans (List.Perm.append_right T List.perm_middle) ?_
        rw [List.cons_append]
        refine List.Perm.trans (List.Perm.cons x (hp2.append_right T)) ?_
        exact List.perm_middle.symm
      · rw [hD] at hS
        have e : F ++ (U1 ++ x :: (U2 ++ (T ++ C))) = F ++ ((U1 ++ x :: U2) ++ (T ++ C)) := by simp only [List.append_assoc, List.cons_append]
        rw [e] at hS; exact hS
  ·
    have hc14 := hb14; try simp only [decide_eq_true_eq, decide_eq_false_iff_not, beq_iff_eq, beq_eq_false_iff_ne, bne_iff_ne, Bool.not_eq_true', Bool.not_eq_false', Bool.or_eq_true, Bool.and_eq_true, Bool.or_eq_false_iff, Bool.and_eq_false_iff, ne_eq, Int.not_lt, Int.not_le, bne_eq_false_iff_eq, Bool.not_eq_true, Bool.not_eq_false] at hc14
    refine WC.exit ?_
    refine end0 Try.results35 ?_
    have hT0 : T = [] := by
      refine List.eq_nil_of_length_eq_zero ?_
      rcases Nat.eq_zero_or_pos M.length with h | h
      · have := hMT (List.eq_nil_of_length_eq_zero h); rw [this]; rfl
      · omega
    subst hT0
    rw [List.append_nil] at hP
    exact ⟨_, rfl, rfl, M, hP, hM, by simpa using hS⟩
theorem ins_at {l : List Nat} {p : Addr} {I : Im} (hx : Cx I l p) (F R C : List Int) (hR : R.Pairwise (· < ·)) (hin : ∀ x ∈ R, 0 ≤ x ∧ x < (l.length : Int)) (b0 n c : Nat) (r : List Value) (ia ib : Int) (hia : ia = F.length) (hib : ib = F.length + R.length) (hn : ib ≤ n) (hbb : F.length + R.length + C.length ≤ 1000000) (B w : World) (As : List Assn) (hS : Sat B w I (blk b0 ((F ++ (R ++ C)).map I64 ++ r) 3 :: As)) :
    Calls Try.prog 35 [.slice (some (ad b0 0)) n c, I64 ia, I64 ib, CF p].toArray w (Ret fun v w' => v = .tuple #[] ∧ ∃ M, M.Perm R ∧ Srt.So (kx l) M ∧ Sat B w' I (blk b0 ((F ++ (M ++ C)).map I64 ++ r) 3 :: As)) := by
  subst hia
  exact ins_any hx F R C hR hin b0 n c r ib hib hn hbb B w As hS
end Go.Proofs.Ytfmdhpgfbojjaaa
