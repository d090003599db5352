/- Chapter 16: waits and counts. -/
import Derived.Test.YtfmdhpgfbojjaaaW16a
namespace Go.Proofs.Ytfmdhpgfbojjaaa
open Gk Rk Flt
set_option linter.unusedVariables false
set_option linter.unusedSimpArgs false

theorem NaN_sat (a : Nat) (B w : World) (I : Im) (As : List Assn) (hS : Sat B w I As) :
    Calls Try.prog 15 [F64 a].toArray w (Ret fun v w' => v = .bool (Flt.nan a) ∧ Sat B w' I As) := by
  refine calls Try.func15 rfl Try.ntmps15 rfl ?_
  refine WC.seq ?_
  refine WC.region ?_
  refine WL.val (.assign (.of rfl)) rfl ?_
  refine WL.nil ?_
  refine WC.seq ?_
  refine WC.region ?_
  refine WL.val (.move (.of rfl)) rfl ?_
  refine WL.val (.move (.of rfl)) rfl ?_
  refine WL.val (.fneq (.of rfl) (.of rfl)) rfl ?_
  refine WL.val (.assign (.of rfl)) rfl ?_
  refine WL.nil ?_
  refine WC.ret ?_
  refine ret1 Try.results15 rfl ?_
  exact ⟨_, rfl, by rw [feq_self], hS⟩
theorem Wait_any (x y : Nat) (n : Int) (z : Nat) (B w : World) (I : Im) (As : List Assn) (hS : Sat B w I As) :
    Calls Try.prog 14 [F64 x, F64 y, I64 n, F64 z].toArray w (Ret fun v w' => v = F64 (waitV x y n z) ∧ Sat B w' I As) := by
  refine calls Try.func14 rfl Try.ntmps14 rfl ?_
  refine WC.seq ?_
  refine WC.region ?_
  refine WL.val (.assign (.of rfl)) rfl ?_
  refine WL.nil ?_
  refine WC.seq ?_
  refine WC.seq ?_
  refine WC.region ?_
  refine WL.val (.move (.of rfl)) rfl ?_
  refine WL.val (.fgtr (.of rfl) (.of rfl)) rfl ?_
  refine WL.val (.not (.of rfl)) rfl ?_
  refine WL.nil ?_
  refine WC.cond rfl (fun hb11 => ?_) (fun hb11 => ?_)
  ·
    have hc11 := hb11; try simp only [decide_eq_true_eq, decide_eq_false_iff_not, beq_iff_eq, beq_eq_false_iff_ne, bne_iff_ne, Bool.not_eq_true', Bool.not_eq_false', Bool.or_eq_true, Bool.and_eq_true, Bool.or_eq_false_iff, Bool.and_eq_false_iff, ne_eq, Int.not_lt, Int.not_le, bne_eq_false_iff_eq, Bool.not_eq_true, Bool.not_eq_false] at hc11
    refine WC.seq ?_
    refine WC.region ?_
    refine WL.val (.assign (.of rfl)) rfl ?_
    refine WL.nil ?_
    refine WC.ret ?_
    refine ret1 Try.results14 rfl ?_
    exact ⟨_, rfl, by rw [waitV, waitK_no (by simpa using hb11)], hS⟩
  ·
    have hc11 := hb11; try simp only [decide_eq_true_eq, decide_eq_false_iff_not, beq_iff_eq, beq_eq_false_iff_ne, bne_iff_ne, Bool.not_eq_true', Bool.not_eq_false', Bool.or_eq_true, Bool.and_eq_true, Bool.or_eq_false_iff, Bool.and_eq_false_iff, ne_eq, Int.not_lt, Int.not_le, bne_eq_false_iff_eq, Bool.not_eq_true, Bool.not_eq_false] at hc11
    refine WC.skip ?_
    refine WC.seq ?_
    refine WC.seq ?_
    refine WC.region ?_
    refine WL.val (.move (.of rfl)) rfl ?_
    refine WL.val (.min2 (.of rfl) (.of rfl)) rfl ?_
    refine WL.val (.max2 (.of rfl) (.of rfl)) rfl ?_
    refine WL.val (.move (.of rfl)) rfl ?_
    refine WL.nil ?_
    refine WC.block ?_
    refine WC.loop (σ := Nat × Nat) (fun ⟨r, j⟩ => [(0, F64 r), (1, F64 y), (3, F64 z), (14, I64 (max 0 (min n 64))), (15, I64 (j : Nat))]) (fun ⟨r, j⟩ w => nf r = W x y j ∧ (j : Int) ≤ max 0 (min n 64) ∧ Sat B w I As) (fun ⟨r, j⟩ => (max 0 (min n 64)).toNat - j) (x, 0) ⟨rfl, rfl, rfl, rfl, rfl, trivial⟩ ⟨rfl, by (try dsimp only); omega, hS⟩ ?_
    rintro ⟨r, j⟩ w ⟨hr, hj, hS⟩
    change WC _ _ _ _ [(0, F64 r), (1, F64 y), (3, F64 z), (14, I64 (max 0 (min n 64))), (15, I64 (j : Nat))] w
    refine WC.seq ?_
    refine WC.region ?_
    refine WL.val (.lss (.of rfl) (.of rfl)) rfl ?_
    refine WL.nil ?_
    refine WC.seq ?_
    refine WC.cond rfl (fun hb16 => ?_) (fun hb16 => ?_)
    ·
      have hc16 := hb16; try simp only [decide_eq_true_eq, decide_eq_false_iff_not, beq_iff_eq, beq_eq_false_iff_ne, bne_iff_ne, Bool.not_eq_true', Bool.not_eq_false', Bool.or_eq_true, Bool.and_eq_true, Bool.or_eq_false_iff, Bool.and_eq_false_iff, ne_eq, Int.not_lt, Int.not_le, bne_eq_false_iff_eq, Bool.not_eq_true, Bool.not_eq_false] at hc16
      refine WC.skip ?_
      refine WC.seq ?_
      refine WC.block ?_
      refine WC.region ?_
      refine WL.val (.move (.of rfl)) rfl ?_
      refine WL.val (.move (.of rfl)) rfl ?_
      refine WL.fmul hS (.of rfl) (.of rfl) rfl ?_
      clear hS; intro fr19 w hr19 hn19 hS
      refine WL.val (.assign (.of rfl)) rfl ?_
      refine WL.nil ?_
      refine WC.region ?_
      refine WL.val (.add (.of rfl) (.of rfl) ⟨by omega, by omega⟩) rfl ?_
      refine WL.val (.move (.of rfl)) rfl ?_
      refine WL.nil ?_
      refine ⟨(fr19, j + 1), ⟨rfl, rfl, rfl, rfl, rfl, trivial⟩, ⟨W_step hr hn19, by (try dsimp only); omega, hS⟩, by (try dsimp only); omega⟩
    ·
      have hc16 := hb16; try simp only [decide_eq_true_eq, decide_eq_false_iff_not, beq_iff_eq, beq_eq_false_iff_ne, bne_iff_ne, Bool.not_eq_true', Bool.not_eq_false', Bool.or_eq_true, Bool.and_eq_true, Bool.or_eq_false_iff, Bool.and_eq_false_iff, ne_eq, Int.not_lt, Int.not_le, bne_eq_false_iff_eq, Bool.not_eq_true, Bool.not_eq_false] at hc16
      refine WC.exit ?_
      refine WC.seq ?_
      refine WC.block ?_
      refine WC.seq ?_
      refine WC.region ?_
      refine WL.val (.move (.of rfl)) rfl ?_
      refine WL.call Try.func27 rfl (evs_cons (.of rfl) evs_nil) rfl (IsNaN_any _ _) ?_
      rintro _ _ ⟨rfl, rfl⟩
      refine WL.val (.move (.of rfl)) rfl ?_
      refine WL.gval rfl rfl (fun hg1 => (.move (.of rfl))) rfl ?_
      refine WL.gval rfl rfl (fun hg1 => (.move (.of rfl))) rfl ?_
      refine WL.gval rfl rfl (fun hg1 => (.fgtr (.gd hg1 rfl) (.gd hg1 rfl))) rfl ?_
      refine WL.val (.por (.of rfl) (.of rfl) (.of rfl)) rfl ?_
      refine WL.val (.assign (.of rfl)) rfl ?_
      refine WL.nil ?_
      refine WC.cond rfl (fun hb21 => ?_) (fun hb21 => ?_)
      ·
        have hc21 := hb21; try simp only [decide_eq_true_eq, decide_eq_false_iff_not, beq_iff_eq, beq_eq_false_iff_ne, bne_iff_ne, Bool.not_eq_true', Bool.not_eq_false', Bool.or_eq_true, Bool.and_eq_true, Bool.or_eq_false_iff, Bool.and_eq_false_iff, ne_eq, Int.not_lt, Int.not_le, bne_eq_false_iff_eq, Bool.not_eq_true, Bool.not_eq_false] at hc21
        refine WC.seq ?_
        refine WC.region ?_
        refine WL.val (.move (.of rfl)) rfl ?_
        refine WL.val (.assign (.of rfl)) rfl ?_
        refine WL.nil ?_
        refine WC.ret ?_
        refine ret1 Try.results14 rfl ?_
        have ht : j = turns n := by unfold turns; omega
        subst ht
        have hz : lt 0 z = true := by simpa using hb11
        exact ⟨_, rfl, by rw [waitV, waitK_eq hz hr, if_pos hb21], hS⟩
      ·
        have hc21 := hb21; try simp only [decide_eq_true_eq, decide_eq_false_iff_not, beq_iff_eq, beq_eq_false_iff_ne, bne_iff_ne, Bool.not_eq_true', Bool.not_eq_false', Bool.or_eq_true, Bool.and_eq_true, Bool.or_eq_false_iff, Bool.and_eq_false_iff, ne_eq, Int.not_lt, Int.not_le, bne_eq_false_iff_eq, Bool.not_eq_true, Bool.not_eq_false] at hc21
        refine WC.seq ?_
        refine WC.region ?_
        refine WL.val (.move (.of rfl)) rfl ?_
        refine WL.val (.fgtr (.of rfl) (.of rfl)) rfl ?_
        refine WL.val (.assign (.of rfl)) rfl ?_
        refine WL.nil ?_
        refine WC.cond rfl (fun hb30 => ?_) (fun hb30 => ?_)
        ·
          have hc30 := hb30; try simp only [decide_eq_true_eq, decide_eq_false_iff_not, beq_iff_eq, beq_eq_false_iff_ne, bne_iff_ne, Bool.not_eq_true', Bool.not_eq_false', Bool.or_eq_true, Bool.and_eq_true, Bool.or_eq_false_iff, Bool.and_eq_false_iff, ne_eq, Int.not_lt, Int.not_le, bne_eq_false_iff_eq, Bool.not_eq_true, Bool.not_eq_false] at hc30
          refine WC.seq ?_
          refine WC.region ?_
          refine WL.val (.move (.of rfl)) rfl ?_
          refine WL.val (.assign (.of rfl)) rfl ?_
          refine WL.nil ?_
          refine WC.ret ?_
          refine ret1 Try.results14 rfl ?_
          have ht : j = turns n := by unfold turns; omega
          subst ht
          have hz : lt 0 z = true := by simpa using hb11
          exact ⟨_, rfl, by rw [waitV, waitK_eq hz hr, if_neg (by rw [hb21]; simp), if_pos hb30], hS⟩
        ·
          have hc30 := hb30; try simp only [decide_eq_true_eq, decide_eq_false_iff_not, beq_iff_eq, beq_eq_false_iff_ne, bne_iff_ne, Bool.not_eq_true', Bool.not_eq_false', Bool.or_eq_true, Bool.and_eq_true, Bool.or_eq_false_iff, Bool.and_eq_false_iff, ne_eq, Int.not_lt, Int.not_le, bne_eq_false_iff_eq, Bool.not_eq_true, Bool.not_eq_false] at hc30
          refine WC.skip ?_
          refine WC.seq ?_
          refine WC.region ?_
          refine WL.val (.assign (.of rfl)) rfl ?_
          refine WL.nil ?_
          refine WC.ret ?_
          refine ret1 Try.results14 rfl ?_
          have ht : j = turns n := by unfold turns; omega
          subst ht
          have hz : lt 0 z = true := by simpa using hb11
          exact ⟨_, rfl, by rw [waitV, waitK_eq hz hr, if_neg (by rw [hb21]; simp), if_neg (by rw [hb30]; simp)], hS⟩
theorem refWait_any (x y : Nat) (n : Int) (z : Nat) (B w : World) (I : Im) (As : List Assn) (hS : Sat B w I As) :
    Calls Try.prog 21 [F64 x, F64 y, I64 n, F64 z].toArray w (Ret fun v w' => v = F64 (waitV x y n z) ∧ Sat B w' I As) := by
  refine calls Try.func21 rfl Try.ntmps21 rfl ?_
  refine WC.seq ?_
  refine WC.region ?_
  refine WL.val (.assign (.of rfl)) rfl ?_
  refine WL.nil ?_
  refine WC.seq ?_
  refine WC.seq ?_
  refine WC.region ?_
  refine WL.val (.move (.of rfl)) rfl ?_
  refine WL.val (.fleq (.of rfl) (.of rfl)) rfl ?_
  refine WL.val (.move (.of rfl)) rfl ?_
  refine WL.gval rfl rfl (fun hg1 => (.move (.of rfl))) rfl ?_
  refine WL.gcall (T := fun w => Sat B w I As) rfl rfl rfl Try.func15 rfl (fun hg1 => (evs_cons (.gd hg1 rfl) evs_nil)) rfl (fun hg1 => NaN_sat _ _ _ _ _ hS) hS ?_
  clear hS; rintro w hS
  refine WL.val (.por (.of rfl) (.of rfl) (.of rfl)) rfl ?_
  refine WL.nil ?_
  refine WC.cond rfl (fun hb16 => ?_) (fun hb16 => ?_)
  ·
    have hc16 := hb16; try simp only [decide_eq_true_eq, decide_eq_false_iff_not, beq_iff_eq, beq_eq_false_iff_ne, bne_iff_ne, Bool.not_eq_true', Bool.not_eq_false', Bool.or_eq_true, Bool.and_eq_true, Bool.or_eq_false_iff, Bool.and_eq_false_iff, ne_eq, Int.not_lt, Int.not_le, bne_eq_false_iff_eq, Bool.not_eq_true, Bool.not_eq_false] at hc16
    refine WC.seq ?_
    refine WC.region ?_
    refine WL.val (.assign (.of rfl)) rfl ?_
    refine WL.nil ?_
    refine WC.ret ?_
    refine ret1 Try.results21 rfl ?_
    exact ⟨_, rfl, by rw [waitV, waitK_no (by rw [not_pos] at hb16; simpa using hb16)], hS⟩
  ·
    have hc16 := hb16; try simp only [decide_eq_true_eq, decide_eq_false_iff_not, beq_iff_eq, beq_eq_false_iff_ne, bne_iff_ne, Bool.not_eq_true', Bool.not_eq_false', Bool.or_eq_true, Bool.and_eq_true, Bool.or_eq_false_iff, Bool.and_eq_false_iff, ne_eq, Int.not_lt, Int.not_le, bne_eq_false_iff_eq, Bool.not_eq_true, Bool.not_eq_false] at hc16
    refine WC.skip ?_
    refine WC.seq ?_
    refine WC.region ?_
    refine WL.val (.move (.of rfl)) rfl ?_
    refine WL.val (.assign (.of rfl)) rfl ?_
    refine WL.nil ?_
    refine WC.seq ?_
    refine WC.seq ?_
    refine WC.region ?_
    refine WL.val (.assign (.of rfl)) rfl ?_
    refine WL.nil ?_
    refine WC.block ?_
    refine WC.loop (σ := Nat × Nat) (fun ⟨r, j⟩ => [(1, F64 y), (2, I64 n), (3, F64 z), (9, F64 r), (10, I64 (j : Nat))]) (fun ⟨r, j⟩ w => nf r = W x y j ∧ (j : Int) ≤ max 0 (min n 64) ∧ Sat B w I As) (fun ⟨r, j⟩ => (max 0 (min n 64)).toNat - j) (x, 0) ⟨rfl, rfl, rfl, rfl, rfl, trivial⟩ ⟨rfl, by (try dsimp only); omega, hS⟩ ?_
    rintro ⟨r, j⟩ w ⟨hr, hj, hS⟩
    change WC _ _ _ _ [(1, F64 y), (2, I64 n), (3, F64 z), (9, F64 r), (10, I64 (j : Nat))] w
    refine WC.seq ?_
    refine WC.seq ?_
    refine WC.region ?_
    refine WL.val (.move (.of rfl)) rfl ?_
    refine WL.val (.move (.of rfl)) rfl ?_
    refine WL.val (.lss (.of rfl) (.of rfl)) rfl ?_
    refine WL.val (.move (.of rfl)) rfl ?_
    refine WL.gval rfl rfl (fun hg1 => (.move (.of rfl))) rfl ?_
    refine WL.gval rfl rfl (fun hg1 => (.lss (.gd hg1 rfl) (.of rfl))) rfl ?_
    refine WL.val (.pand (.of rfl) (.of rfl) (.of rfl)) rfl ?_
    refine WL.nil ?_
    refine WC.cond rfl (fun hb24 => ?_) (fun hb24 => ?_)
    ·
      have hc24 := hb24; try simp only [decide_eq_true_eq, decide_eq_false_iff_not, beq_iff_eq, beq_eq_false_iff_ne, bne_iff_ne, Bool.not_eq_true', Bool.not_eq_false', Bool.or_eq_true, Bool.and_eq_true, Bool.or_eq_false_iff, Bool.and_eq_false_iff, ne_eq, Int.not_lt, Int.not_le, bne_eq_false_iff_eq, Bool.not_eq_true, Bool.not_eq_false] at hc24
      refine WC.skip ?_
      refine WC.seq ?_
      refine WC.block ?_
      refine WC.region ?_
      refine WL.val (.move (.of rfl)) rfl ?_
      refine WL.val (.move (.of rfl)) rfl ?_
      refine WL.fmul hS (.of rfl) (.of rfl) rfl ?_
      clear hS; intro fr29 w hr29 hn29 hS
      refine WL.val (.assign (.of rfl)) rfl ?_
      refine WL.nil ?_
      refine WC.region ?_
      refine WL.val (.move (.of rfl)) rfl ?_
      refine WL.val (.add (.of rfl) (.of rfl) ⟨by omega, by omega⟩) rfl ?_
      refine WL.val (.assign (.of rfl)) rfl ?_
      refine WL.nil ?_
      refine ⟨(fr29, j + 1), ⟨rfl, rfl, rfl, rfl, rfl, trivial⟩, ⟨W_step hr hn29, by (try dsimp only); omega, hS⟩, by (try dsimp only); omega⟩
    ·
      have hc24 := hb24; try simp only [decide_eq_true_eq, decide_eq_false_iff_not, beq_iff_eq, beq_eq_false_iff_ne, bne_iff_ne, Bool.not_eq_true', Bool.not_eq_false', Bool.or_eq_true, Bool.and_eq_true, Bool.or_eq_false_iff, Bool.and_eq_false_iff, ne_eq, Int.not_lt, Int.not_le, bne_eq_false_iff_eq, Bool.not_eq_true, Bool.not_eq_false] at hc24
      refine WC.exit ?_
      refine WC.seq ?_
      refine WC.seq ?_
      refine WC.region ?_
      refine WL.val (.move (.of rfl)) rfl ?_
      refine WL.call Try.func15 rfl (evs_cons (.of rfl) evs_nil) rfl (NaN_any _ _) ?_
      rintro _ _ ⟨rfl, rfl⟩
      refine WL.val (.move (.of rfl)) rfl ?_
      refine WL.gval rfl rfl (fun hg1 => (.move (.of rfl))) rfl ?_
      refine WL.gval rfl rfl (fun hg1 => (.move (.of rfl))) rfl ?_
      refine WL.gval rfl rfl (fun hg1 => (.fgtr (.gd hg1 rfl) (.gd hg1 rfl))) rfl ?_
      refine WL.val (.por (.of rfl) (.of rfl) (.of rfl)) rfl ?_
      refine WL.nil ?_
      refine WC.cond rfl (fun hb36 => ?_) (fun hb36 => ?_)
      ·
        have hc36 := hb36; try simp only [decide_eq_true_eq, decide_eq_false_iff_not, beq_iff_eq, beq_eq_false_iff_ne, bne_iff_ne, Bool.not_eq_true', Bool.not_eq_false', Bool.or_eq_true, Bool.and_eq_true, Bool.or_eq_false_iff, Bool.and_eq_false_iff, ne_eq, Int.not_lt, Int.not_le, bne_eq_false_iff_eq, Bool.not_eq_true, Bool.not_eq_false] at hc36
        refine WC.seq ?_
        refine WC.region ?_
        refine WL.val (.move (.of rfl)) rfl ?_
        refine WL.val (.assign (.of rfl)) rfl ?_
        refine WL.nil ?_
        refine WC.ret ?_
        refine ret1 Try.results21 rfl ?_
        have ht : j = turns n := by unfold turns; simp only [Bool.and_eq_false_iff, decide_eq_false_iff_not] at hb24; omega
        subst ht
        have hz : lt 0 z = true := by rw [not_pos] at hb16; simpa using hb16
        exact ⟨_, rfl, by rw [waitV, waitK_eq hz hr, if_pos hb36], hS⟩
      ·
        have hc36 := hb36; try simp only [decide_eq_true_eq, decide_eq_false_iff_not, beq_iff_eq, beq_eq_false_iff_ne, bne_iff_ne, Bool.not_eq_true', Bool.not_eq_false', Bool.or_eq_true, Bool.and_eq_true, Bool.or_eq_false_iff, Bool.and_eq_false_iff, ne_eq, Int.not_lt, Int.not_le, bne_eq_false_iff_eq, Bool.not_eq_true, Bool.not_eq_false] at hc36
        refine WC.skip ?_
        refine WC.seq ?_
        refine WC.seq ?_
        refine WC.region ?_
        refine WL.val (.move (.of rfl)) rfl ?_
        refine WL.val (.fleq (.of rfl) (.of rfl)) rfl ?_
        refine WL.nil ?_
        refine WC.cond rfl (fun hb39 => ?_) (fun hb39 => ?_)
        ·
          have hc39 := hb39; try simp only [decide_eq_true_eq, decide_eq_false_iff_not, beq_iff_eq, beq_eq_false_iff_ne, bne_iff_ne, Bool.not_eq_true', Bool.not_eq_false', Bool.or_eq_true, Bool.and_eq_true, Bool.or_eq_false_iff, Bool.and_eq_false_iff, ne_eq, Int.not_lt, Int.not_le, bne_eq_false_iff_eq, Bool.not_eq_true, Bool.not_eq_false] at hc39
          refine WC.seq ?_
          refine WC.region ?_
          refine WL.val (.assign (.of rfl)) rfl ?_
          refine WL.nil ?_
          refine WC.ret ?_
          refine ret1 Try.results21 rfl ?_
          have ht : j = turns n := by unfold turns; simp only [Bool.and_eq_false_iff, decide_eq_false_iff_not] at hb24; omega
          subst ht
          have hz : lt 0 z = true := by rw [not_pos] at hb16; simpa using hb16
          have hnr : Flt.nan r = false := by cases h : Flt.nan r <;> simp [h] at hb36 ⊢
          rw [le_not hnr] at hb39
          exact ⟨_, rfl, by rw [waitV, waitK_eq hz hr, if_neg (by rw [hb36]; simp), if_neg (by simpa using hb39)], hS⟩
        ·
          have hc39 := hb39; try simp only [decide_eq_true_eq, decide_eq_false_iff_not, beq_iff_eq, beq_eq_false_iff_ne, bne_iff_ne, Bool.not_eq_true', Bool.not_eq_false', Bool.or_eq_true, Bool.and_eq_true, Bool.or_eq_false_iff, Bool.and_eq_false_iff, ne_eq, Int.not_lt, Int.not_le, bne_eq_false_iff_eq, Bool.not_eq_true, Bool.not_eq_false] at hc39
          refine WC.skip ?_
          refine WC.seq ?_
          refine WC.region ?_
          refine WL.val (.move (.of rfl)) rfl ?_
          refine WL.val (.assign (.of rfl)) rfl ?_
          refine WL.nil ?_
          refine WC.ret ?_
          refine ret1 Try.results21 rfl ?_
          have ht : j = turns n := by unfold turns; simp only [Bool.and_eq_false_iff, decide_eq_false_iff_not] at hb24; omega
          subst ht
          have hz : lt 0 z = true := by rw [not_pos] at hb16; simpa using hb16
          have hnr : Flt.nan r = false := by cases h : Flt.nan r <;> simp [h] at hb36 ⊢
          rw [le_not hnr] at hb39
          exact ⟨_, rfl, by rw [waitV, waitK_eq hz hr, if_neg (by rw [hb36]; simp), if_pos (by simpa using hb39)], hS⟩
theorem ceil_run {P : Program} (w : World) {x : Nat} (hn : Flt.nan x = false) : (Extern.MathFloor.toIntegral "math.archCeil" .up [F64 x].toArray).run P w = .ok (F64 (ceilB x)) w := by
  have hx : Ieee.double.read x = FloatKind.f64.decode x := rfl
  have hd : (∃ s m i, FloatKind.f64.decode x = .number s m i) ∨ ∃ s, FloatKind.f64.decode x = .infinity s := by
    have h1 : ¬ 9218868437227405312 < rg x := by simpa [Flt.nan] using hn
    rcases Nat.lt_or_ge (rg x) 9218868437227405312 with h | h
    · obtain ⟨m, i, e, _⟩ := read_num h
      exact .inl ⟨_, m, i, e⟩
    · exact .inr ⟨_, read_inf (by omega)⟩
  have e : ceilB x = FloatKind.f64.encode ((FloatKind.f64.decode x).integral .up) := rfl
  rw [e]
  rcases hd with ⟨s, m, i, hd⟩ | ⟨s, hd⟩
  · delta Extern.MathFloor.toIntegral
    conv => lhs; arg 2; whnf
    rw [hd]
    rfl
  · delta Extern.MathFloor.toIntegral
    conv => lhs; arg 2; whnf
    rw [hd]
    rfl
theorem Ceil_any (x : Nat) (hn : Flt.nan x = false) (w : World) :
    Calls Try.prog 29 [F64 x].toArray w (Ret fun v w' => v = F64 (ceilB x) ∧ w = w') := by
  refine calls Try.func29 rfl Try.ntmps29 rfl ?_
  refine WC.seq ?_
  refine WC.region ?_
  refine WL.val (.assign (.of rfl)) rfl ?_
  refine WL.nil ?_
  refine WC.seq ?_
  refine WC.condT (rfl) ?_
  refine WC.seq ?_
  refine WC.region ?_
  refine WL.val (.move (.of rfl)) rfl ?_
  refine WL.val (.extern Try.func33 (by kernel_rfl) (by kernel_rfl) (by kernel_rfl) (e := Extern.MathFloor.toIntegral "math.archCeil" .up) (by kernel_rfl) (evs_cons (.of rfl) evs_nil) (ceil_run w hn)) rfl ?_
  refine WL.val (.assign (.of rfl)) rfl ?_
  refine WL.nil ?_
  refine WC.ret ?_
  refine ret1 Try.results29 rfl ?_
  exact ⟨_, rfl, rfl, rfl⟩
theorem Count_any (x : Nat) (most : Int) (w : World) :
    Calls Try.prog 17 [F64 x, I64 most].toArray w (Ret fun v w' => v = I64 (cnt x most) ∧ w = w') := by
  refine calls Try.func17 rfl Try.ntmps17 rfl ?_
  refine WC.seq ?_
  refine WC.region ?_
  refine WL.val (.assign (.of rfl)) rfl ?_
  refine WL.nil ?_
  refine WC.seq ?_
  refine WC.region ?_
  refine WL.val (.move (.of rfl)) rfl ?_
  refine WL.val (.min2 (.of rfl) (.of rfl)) rfl ?_
  refine WL.val (.max2 (.of rfl) (.of rfl)) rfl ?_
  refine WL.val (.assign (.of rfl)) rfl ?_
  refine WL.nil ?_
  refine WC.seq ?_
  refine WC.block ?_
  refine WC.seq ?_
  refine WC.region ?_
  refine WL.val (.move (.of rfl)) rfl ?_
  refine WL.call Try.func27 rfl (evs_cons (.of rfl) evs_nil) rfl (IsNaN_any _ _) ?_
  rintro _ _ ⟨rfl, rfl⟩
  refine WL.val (.move (.of rfl)) rfl ?_
  refine WL.gval rfl rfl (fun hg1 => (.move (.of rfl))) rfl ?_
  refine WL.gval rfl rfl (fun hg1 => (.move (.of rfl))) rfl ?_
  refine WL.gval rfl rfl (fun hg1 => (.toF (.gd hg1 rfl) rfl Try.underlying25)) rfl ?_
  refine WL.gval rfl rfl (fun hg1 => (.fgtr (.gd hg1 rfl) (.gd hg1 rfl))) rfl ?_
  refine WL.val (.por (.of rfl) (.of rfl) (.of rfl)) rfl ?_
  refine WL.val (.assign (.of rfl)) rfl ?_
  refine WL.nil ?_
  refine WC.cond rfl (fun hb8 => ?_) (fun hb8 => ?_)
  ·
    have hc8 := hb8; try simp only [decide_eq_true_eq, decide_eq_false_iff_not, beq_iff_eq, beq_eq_false_iff_ne, bne_iff_ne, Bool.not_eq_true', Bool.not_eq_false', Bool.or_eq_true, Bool.and_eq_true, Bool.or_eq_false_iff, Bool.and_eq_false_iff, ne_eq, Int.not_lt, Int.not_le, bne_eq_false_iff_eq, Bool.not_eq_true, Bool.not_eq_false] at hc8
    refine WC.seq ?_
    refine WC.region ?_
    refine WL.val (.move (.of rfl)) rfl ?_
    refine WL.val (.assign (.of rfl)) rfl ?_
    refine WL.nil ?_
    refine WC.ret ?_
    refine ret1 Try.results17 rfl ?_
    exact ⟨_, rfl, by rw [cnt, if_pos (show (Flt.nan x || lt (ofI (top most)) x) = true from hb8)]; rfl, rfl⟩
  ·
    have hc8 := hb8; try simp only [decide_eq_true_eq, decide_eq_false_iff_not, beq_iff_eq, beq_eq_false_iff_ne, bne_iff_ne, Bool.not_eq_true', Bool.not_eq_false', Bool.or_eq_true, Bool.and_eq_true, Bool.or_eq_false_iff, Bool.and_eq_false_iff, ne_eq, Int.not_lt, Int.not_le, bne_eq_false_iff_eq, Bool.not_eq_true, Bool.not_eq_false] at hc8
    refine WC.seq ?_
    refine WC.region ?_
    refine WL.val (.move (.of rfl)) rfl ?_
    refine WL.val (.fgtr (.of rfl) (.of rfl)) rfl ?_
    refine WL.val (.assign (.of rfl)) rfl ?_
    refine WL.nil ?_
    refine WC.cond rfl (fun hb18 => ?_) (fun hb18 => ?_)
    ·
      have hc18 := hb18; try simp only [decide_eq_true_eq, decide_eq_false_iff_not, beq_iff_eq, beq_eq_false_iff_ne, bne_iff_ne, Bool.not_eq_true', Bool.not_eq_false', Bool.or_eq_true, Bool.and_eq_true, Bool.or_eq_false_iff, Bool.and_eq_false_iff, ne_eq, Int.not_lt, Int.not_le, bne_eq_false_iff_eq, Bool.not_eq_true, Bool.not_eq_false] at hc18
      refine WC.seq ?_
      have hnx : Flt.nan x = false := by cases h : Flt.nan x <;> simp [h] at hb8 ⊢
      have hcs := cei_spec (x := x) (most := most) hb8 hb18
      have htp := top_in most
      refine WC.region ?_
      refine WL.val (.move (.of rfl)) rfl ?_
      refine WL.call Try.func29 rfl (evs_cons (.of rfl) evs_nil) rfl (Ceil_any x hnx _) ?_
      rintro _ _ ⟨rfl, rfl⟩
      refine WL.val (.ofF (.of rfl) rfl Try.underlying3 hcs.1 hcs.2.1 (by omega)) rfl ?_
      refine WL.val (.assign (.of rfl)) rfl ?_
      refine WL.nil ?_
      refine WC.ret ?_
      refine ret1 Try.results17 rfl ?_
      exact ⟨_, rfl, by rw [cnt, if_neg (show ¬ _ by rw [show (Flt.nan x || lt (ofI (top most)) x) = false from hb8]; simp), if_pos hb18], rfl⟩
    ·
      have hc18 := hb18; try simp only [decide_eq_true_eq, decide_eq_false_iff_not, beq_iff_eq, beq_eq_false_iff_ne, bne_iff_ne, Bool.not_eq_true', Bool.not_eq_false', Bool.or_eq_true, Bool.and_eq_true, Bool.or_eq_false_iff, Bool.and_eq_false_iff, ne_eq, Int.not_lt, Int.not_le, bne_eq_false_iff_eq, Bool.not_eq_true, Bool.not_eq_false] at hc18
      refine WC.skip ?_
      refine WC.seq ?_
      refine WC.region ?_
      refine WL.val (.assign (.of rfl)) rfl ?_
      refine WL.nil ?_
      refine WC.ret ?_
      refine ret1 Try.results17 rfl ?_
      exact ⟨_, rfl, by rw [cnt, if_neg (show ¬ _ by rw [show (Flt.nan x || lt (ofI (top most)) x) = false from hb8]; simp), if_neg (by rw [hb18]; simp)], rfl⟩
theorem refCount_any (x : Nat) (most : Int) (w : World) :
    Calls Try.prog 22 [F64 x, I64 most].toArray w (Ret fun v w' => v = I64 (cnt x most) ∧ w = w') := by
  obtain ⟨w0, hw0⟩ : ∃ w0, w = w0 := ⟨_, rfl⟩
  rw [show (fun (v : Value) (w' : World) => v = I64 (cnt x most) ∧ w = w') = (fun v w' => v = I64 (cnt x most) ∧ w0 = w') by rw [hw0]]
  refine calls Try.func22 rfl Try.ntmps22 rfl ?_
  refine WC.seq ?_
  refine WC.region ?_
  refine WL.val (.assign (.of rfl)) rfl ?_
  refine WL.nil ?_
  refine WC.seq ?_
  refine WC.region ?_
  refine WL.val (.move (.of rfl)) rfl ?_
  refine WL.val (.min2 (.of rfl) (.of rfl)) rfl ?_
  refine WL.val (.max2 (.of rfl) (.of rfl)) rfl ?_
  refine WL.val (.assign (.of rfl)) rfl ?_
  refine WL.nil ?_
  refine WC.seq ?_
  refine WC.seq ?_
  refine WC.region ?_
  refine WL.val (.move (.of rfl)) rfl ?_
  refine WL.call Try.func15 rfl (evs_cons (.of rfl) evs_nil) rfl (NaN_any _ _) ?_
  rintro _ _ ⟨rfl, rfl⟩
  refine WL.val (.move (.of rfl)) rfl ?_
  refine WL.gval rfl rfl (fun hg1 => (.move (.of rfl))) rfl ?_
  refine WL.gval rfl rfl (fun hg1 => (.move (.of rfl))) rfl ?_
  refine WL.gval rfl rfl (fun hg1 => (.toF (.gd hg1 rfl) rfl Try.underlying25)) rfl ?_
  refine WL.gval rfl rfl (fun hg1 => (.fgtr (.gd hg1 rfl) (.gd hg1 rfl))) rfl ?_
  refine WL.val (.por (.of rfl) (.of rfl) (.of rfl)) rfl ?_
  refine WL.nil ?_
  refine WC.cond rfl (fun hb19 => ?_) (fun hb19 => ?_)
  ·
    have hc19 := hb19; try simp only [decide_eq_true_eq, decide_eq_false_iff_not, beq_iff_eq, beq_eq_false_iff_ne, bne_iff_ne, Bool.not_eq_true', Bool.not_eq_false', Bool.or_eq_true, Bool.and_eq_true, Bool.or_eq_false_iff, Bool.and_eq_false_iff, ne_eq, Int.not_lt, Int.not_le, bne_eq_false_iff_eq, Bool.not_eq_true, Bool.not_eq_false] at hc19
    refine WC.seq ?_
    refine WC.region ?_
    refine WL.val (.move (.of rfl)) rfl ?_
    refine WL.val (.assign (.of rfl)) rfl ?_
    refine WL.nil ?_
    refine WC.ret ?_
    refine ret1 Try.results22 rfl ?_
    exact ⟨_, rfl, by rw [cnt, if_pos (show (Flt.nan x || lt (ofI (top most)) x) = true from hb19)]; rfl, hw0.symm⟩
  ·
    have hc19 := hb19; try simp only [decide_eq_true_eq, decide_eq_false_iff_not, beq_iff_eq, beq_eq_false_iff_ne, bne_iff_ne, Bool.not_eq_true', Bool.not_eq_false', Bool.or_eq_true, Bool.and_eq_true, Bool.or_eq_false_iff, Bool.and_eq_false_iff, ne_eq, Int.not_lt, Int.not_le, bne_eq_false_iff_eq, Bool.not_eq_true, Bool.not_eq_false] at hc19
    refine WC.skip ?_
    refine WC.seq ?_
    have htp := top_in most
    have hnx : Flt.nan x = false := by cases h : Flt.nan x <;> simp [h] at hb19 ⊢
    have hlx : lt (ofI (top most)) x = false := by have h := hb19; rw [hnx] at h; exact h
    refine WC.region ?_
    refine WL.val (.assign (.of rfl)) rfl ?_
    refine WL.nil ?_
    refine WC.seq ?_
    refine WC.region ?_
    refine WL.val (.move (.of rfl)) rfl ?_
    refine WL.val (.assign (.of rfl)) rfl ?_
    refine WL.nil ?_
    refine WC.seq ?_
    refine WC.block ?_
    refine WC.loop (σ := Int × Int) (fun ⟨lo, hi⟩ => [(0, F64 x), (6, I64 lo), (7, I64 hi)]) (fun ⟨lo, hi⟩ w => 0 ≤ lo ∧ lo ≤ hi ∧ hi ≤ top most ∧ Flt.sv x ≤ hi * one ∧ (lo = 0 ∨ (lo - 1) * one < Flt.sv x) ∧ w = w0) (fun ⟨lo, hi⟩ => (hi - lo).toNat) (0, max 0 (min most 1099511627776)) ⟨rfl, rfl, rfl, trivial⟩ ⟨by (try dsimp only); omega, htp.1, Int.le_refl _, by rw [top_lt hnx] at hlx; simp at hlx; exact hlx, .inl rfl, hw0⟩ ?_
    rintro ⟨lo, hi⟩ w ⟨h0, h1, h2, h3, h4, hw⟩
    change WC _ _ _ _ [(0, F64 x), (6, I64 lo), (7, I64 hi)] w
    refine WC.seq ?_
    refine WC.seq ?_
    refine WC.region ?_
    refine WL.val (.move (.of rfl)) rfl ?_
    refine WL.val (.move (.of rfl)) rfl ?_
    refine WL.val (.lss (.of rfl) (.of rfl)) rfl ?_
    refine WL.nil ?_
    refine WC.cond rfl (fun hb24 => ?_) (fun hb24 => ?_)
    ·
      have hc24 := hb24; try simp only [decide_eq_true_eq, decide_eq_false_iff_not, beq_iff_eq, beq_eq_false_iff_ne, bne_iff_ne, Bool.not_eq_true', Bool.not_eq_false', Bool.or_eq_true, Bool.and_eq_true, Bool.or_eq_false_iff, Bool.and_eq_false_iff, ne_eq, Int.not_lt, Int.not_le, bne_eq_false_iff_eq, Bool.not_eq_true, Bool.not_eq_false] at hc24
      refine WC.skip ?_
      refine WC.block ?_
      refine WC.seq ?_
      refine WC.region ?_
      refine WL.val (.move (.of rfl)) rfl ?_
      refine WL.val (.move (.of rfl)) rfl ?_
      refine WL.val (.add (.of rfl) (.of rfl) ⟨by omega, by omega⟩) rfl ?_
      refine WL.val (.quo (.of rfl) (.of rfl) (by omega) (by omega) (by rw [IntKind.wrap_i64]; omega)) rfl ?_
      refine WL.val (.assign (.of rfl)) rfl ?_
      refine WL.nil ?_
      refine WC.seq ?_
      refine WC.region ?_
      refine WL.val (.move (.of rfl)) rfl ?_
      refine WL.val (.toF (.of rfl) rfl Try.underlying25) rfl ?_
      refine WL.val (.move (.of rfl)) rfl ?_
      refine WL.val (.fgeq (.of rfl) (.of rfl)) rfl ?_
      refine WL.nil ?_
      refine WC.cond rfl (fun hb32 => ?_) (fun hb32 => ?_)
      ·
        have hc32 := hb32; try simp only [decide_eq_true_eq, decide_eq_false_iff_not, beq_iff_eq, beq_eq_false_iff_ne, bne_iff_ne, Bool.not_eq_true', Bool.not_eq_false', Bool.or_eq_true, Bool.and_eq_true, Bool.or_eq_false_iff, Bool.and_eq_false_iff, ne_eq, Int.not_lt, Int.not_le, bne_eq_false_iff_eq, Bool.not_eq_true, Bool.not_eq_false] at hc32
        refine WC.region ?_
        refine WL.val (.move (.of rfl)) rfl ?_
        refine WL.val (.assign (.of rfl)) rfl ?_
        refine WL.nil ?_
        have hm := ofI_spec (c := (lo + hi) / 2) (by omega) (by omega)
        have hle : Flt.sv x ≤ (lo + hi) / 2 * one := by
          have h := hb32
          unfold Flt.le at h
          rw [hnx, hm.1, hm.2] at h
          simpa using h
        exact ⟨(lo, (lo + hi) / 2), ⟨rfl, rfl, rfl, trivial⟩, ⟨h0, by (try dsimp only); omega, by (try dsimp only); omega, hle, h4, hw⟩, by (try dsimp only); omega⟩
      ·
        have hc32 := hb32; try simp only [decide_eq_true_eq, decide_eq_false_iff_not, beq_iff_eq, beq_eq_false_iff_ne, bne_iff_ne, Bool.not_eq_true', Bool.not_eq_false', Bool.or_eq_true, Bool.and_eq_true, Bool.or_eq_false_iff, Bool.and_eq_false_iff, ne_eq, Int.not_lt, Int.not_le, bne_eq_false_iff_eq, Bool.not_eq_true, Bool.not_eq_false] at hc32
        refine WC.region ?_
        refine WL.val (.move (.of rfl)) rfl ?_
        refine WL.val (.add (.of rfl) (.of rfl) ⟨by omega, by omega⟩) rfl ?_
        refine WL.val (.assign (.of rfl)) rfl ?_
        refine WL.nil ?_
        have hm := ofI_spec (c := (lo + hi) / 2) (by omega) (by omega)
        have hle : (lo + hi) / 2 * one < Flt.sv x := by
          have h := hb32
          unfold Flt.le at h
          rw [hnx, hm.1, hm.2] at h
          simpa using h
        exact ⟨((lo + hi) / 2 + 1, hi), ⟨rfl, rfl, rfl, trivial⟩, ⟨by (try dsimp only); omega, by (try dsimp only); omega, h2, h3, .inr (by (try dsimp only); rw [show (lo + hi) / 2 + 1 - 1 = (lo + hi) / 2 by omega]; exact hle), hw⟩, by (try dsimp only); omega⟩
    ·
      have hc24 := hb24; try simp only [decide_eq_true_eq, decide_eq_false_iff_not, beq_iff_eq, beq_eq_false_iff_ne, bne_iff_ne, Bool.not_eq_true', Bool.not_eq_false', Bool.or_eq_true, Bool.and_eq_true, Bool.or_eq_false_iff, Bool.and_eq_false_iff, ne_eq, Int.not_lt, Int.not_le, bne_eq_false_iff_eq, Bool.not_eq_true, Bool.not_eq_false] at hc24
      refine WC.exit ?_
      refine WC.seq ?_
      refine WC.region ?_
      refine WL.val (.move (.of rfl)) rfl ?_
      refine WL.val (.assign (.of rfl)) rfl ?_
      refine WL.nil ?_
      refine WC.ret ?_
      refine ret1 Try.results22 rfl ?_
      have e : lo = hi := by omega
      subst e
      exact ⟨_, rfl, by rw [cnt_least hnx hlx h0 h3 h4], hw.symm⟩
end Go.Proofs.Ytfmdhpgfbojjaaa
