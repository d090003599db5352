/- Chapter 16: the laws on single numbers. -/
import Derived.Test.YtfmdhpgfbojjaaaW16g
namespace Go.Proofs.Ytfmdhpgfbojjaaa
open Gk Rk
set_option linter.unusedVariables false
set_option linter.unusedSimpArgs false

theorem u64_wf {a : Int} (h : (Lit.int .u64 a).wf = true) : 0 ≤ a ∧ a < 18446744073709551616 := by
  simp only [Lit.wf, Bool.and_eq_true, decide_eq_true_eq] at h
  have h1 : IntKind.u64.min = 0 := by decide
  have h2 : IntKind.u64.max = 18446744073709551615 := by decide
  rw [h1, h2] at h
  omega
theorem u8_wf {a : Int} (h : (Lit.int .u8 a).wf = true) : 0 ≤ a ∧ a < 256 := by
  simp only [Lit.wf, Bool.and_eq_true, decide_eq_true_eq] at h
  have h1 : IntKind.u8.min = 0 := by decide
  have h2 : IntKind.u8.max = 255 := by decide
  rw [h1, h2] at h
  omega
theorem sv_one : Flt.sv 4607182418800017408 = (Flt.one : Int) ∧ Flt.nan 4607182418800017408 = false := by decide +kernel
theorem turns_step {k : Int} (h : 0 ≤ k) : turns (k + 1) = turns k + 1 ∨ turns (k + 1) = turns k := by unfold turns; omega
theorem RankTells_any (a b n c most : Int) (B w : World) (I : Im) (As : List Assn) (hS : Sat B w I As) (ha : (Lit.int .u64 a).wf = true) (hb : (Lit.int .u64 b).wf = true) (hc : (Lit.int .u64 c).wf = true) :
    Calls Try.prog 6 [.int .u64 a, .int .u64 b, .int .i64 n, .int .u64 c, .int .i64 most].toArray w (Ret fun v w' => v = .bool true ∧ ∃ J, Le I J ∧ Sat B w' J As) := by
  obtain ⟨ha0, ha1⟩ := u64_wf ha
  obtain ⟨hb0, hb1⟩ := u64_wf hb
  obtain ⟨hc0, hc1⟩ := u64_wf hc
  refine calls Try.func6 rfl Try.ntmps6 rfl ?_
  refine WC.seq ?_
  refine WC.region ?_
  refine WL.val (.assign (.of rfl)) rfl ?_
  refine WL.nil ?_
  refine WC.seq ?_
  refine WC.region ?_
  refine WL.call Try.func10 rfl evs_nil rfl (awake_any B w I As hS) ?_
  clear hS
  rintro _ w ⟨rfl, hS⟩
  refine WL.val (.assign (.of rfl)) rfl ?_
  refine WL.nil ?_
  refine WC.seq ?_
  refine WC.region ?_
  refine WL.val (.move (.of rfl)) rfl ?_
  refine WL.call Try.func11 rfl (evs_cons (.of rfl) evs_nil) rfl (number_any _ w) ?_
  rintro _ _ ⟨rfl, rfl⟩
  refine WL.val (.assign (.of rfl)) rfl ?_
  refine WL.nil ?_
  refine WC.seq ?_
  refine WC.region ?_
  refine WL.val (.move (.of rfl)) rfl ?_
  refine WL.call Try.func11 rfl (evs_cons (.of rfl) evs_nil) rfl (number_any _ w) ?_
  rintro _ _ ⟨rfl, rfl⟩
  refine WL.val (.assign (.of rfl)) rfl ?_
  refine WL.nil ?_
  refine WC.seq ?_
  refine WC.region ?_
  refine WL.val (.move (.of rfl)) rfl ?_
  refine WL.call Try.func11 rfl (evs_cons (.of rfl) evs_nil) rfl (number_any _ w) ?_
  rintro _ _ ⟨rfl, rfl⟩
  refine WL.val (.assign (.of rfl)) rfl ?_
  refine WL.nil ?_
  refine WC.seq ?_
  refine WC.seq ?_
  refine WC.region ?_
  refine WL.val (.move (.of rfl)) rfl ?_
  refine WL.call Try.func18 rfl (evs_cons (.of rfl) evs_nil) rfl (Key_any _ (by omega) w) ?_
  rintro _ _ ⟨rfl, rfl⟩
  refine WL.val (.move (.of rfl)) rfl ?_
  refine WL.call Try.func19 rfl (evs_cons (.of rfl) evs_nil) rfl (refKey_any _ (by omega) B w I As hS) ?_
  clear hS
  rintro _ w ⟨rfl, hS⟩
  refine WL.val (.neq (.of rfl) (.of rfl)) rfl ?_
  refine WL.val (.move (.of rfl)) rfl ?_
  refine WL.gval rfl rfl (fun hg1 => (.move (.of rfl))) rfl ?_
  refine WL.gval rfl rfl (fun hg1 => (.move (.of rfl))) rfl ?_
  refine WL.gcall (T := fun w => Sat B w I As) rfl rfl rfl Try.func20 rfl (fun hg1 => (evs_cons (.gd hg1 rfl) (evs_cons (.gd hg1 rfl) evs_nil))) rfl (fun hg1 => quiet_of (Less_any _ _ (by omega) (by omega) w) hS) hS ?_
  clear hS; rintro w hS
  refine WL.gval rfl rfl (fun hg1 => (.move (.of rfl))) rfl ?_
  refine WL.gcall (T := fun w => Sat B w I As) rfl rfl rfl Try.func19 rfl (fun hg1 => (evs_cons (.gd hg1 rfl) evs_nil)) rfl (fun hg1 => refKey_any _ (by omega) B w I As hS) hS ?_
  clear hS; rintro w hS
  refine WL.gval rfl rfl (fun hg1 => (.move (.of rfl))) rfl ?_
  refine WL.gcall (T := fun w => Sat B w I As) rfl rfl rfl Try.func19 rfl (fun hg1 => (evs_cons (.gd hg1 rfl) evs_nil)) rfl (fun hg1 => refKey_any _ (by omega) B w I As hS) hS ?_
  clear hS; rintro w hS
  refine WL.gval rfl rfl (fun hg1 => (.lss (.gd hg1 rfl) (.gd hg1 rfl))) rfl ?_
  refine WL.gval rfl rfl (fun hg1 => (.neb (.gd hg1 rfl) (.gd hg1 rfl) Try.underlying4)) rfl ?_
  refine WL.val (.por (.of rfl) (.of rfl) (.of rfl)) rfl ?_
  refine WL.nil ?_
  refine WC.cond rfl (fun hb37 => ?_) (fun hb37 => ?_)
  ·
    have hc37 := hb37; try simp only [decide_eq_true_eq, decide_eq_false_iff_not, beq_iff_eq, beq_eq_false_iff_ne, bne_iff_ne, Bool.not_eq_true', Bool.not_eq_false', Bool.or_eq_true, Bool.and_eq_true, Bool.or_eq_false_iff, Bool.and_eq_false_iff, ne_eq, Int.not_lt, Int.not_le, bne_eq_false_iff_eq, Bool.not_eq_true, Bool.not_eq_false] at hc37
    refine WC.seq ?_
    refine WC.region ?_
    refine WL.val (.assign (.of rfl)) rfl ?_
    refine WL.nil ?_
    refine WC.ret ?_
    refine ret1 Try.results6 rfl ?_
    exfalso; simp at hb37
  ·
    have hc37 := hb37; try simp only [decide_eq_true_eq, decide_eq_false_iff_not, beq_iff_eq, beq_eq_false_iff_ne, bne_iff_ne, Bool.not_eq_true', Bool.not_eq_false', Bool.or_eq_true, Bool.and_eq_true, Bool.or_eq_false_iff, Bool.and_eq_false_iff, ne_eq, Int.not_lt, Int.not_le, bne_eq_false_iff_eq, Bool.not_eq_true, Bool.not_eq_false] at hc37
    refine WC.skip ?_
    refine WC.seq ?_
    refine WC.region ?_
    refine WL.val (.move (.of rfl)) rfl ?_
    refine WL.val (.move (.of rfl)) rfl ?_
    refine WL.gval rfl rfl (fun hg1 => (.move (.of rfl))) rfl ?_
    refine WL.gval rfl rfl (fun hg1 => (.move (.of rfl))) rfl ?_
    refine WL.gval rfl rfl (fun hg1 => (.move (.of rfl))) rfl ?_
    refine WL.gval rfl rfl (fun hg1 => (.move (.of rfl))) rfl ?_
    refine WL.gcall (T := fun w => Sat B w I As) rfl rfl rfl Try.func14 rfl (fun hg1 => (evs_cons (.gd hg1 rfl) (evs_cons (.gd hg1 rfl) (evs_cons (.gd hg1 rfl) (evs_cons (.gd hg1 rfl) evs_nil))))) rfl (fun hg1 => Wait_any _ _ _ _ B w I As hS) hS ?_
    clear hS; rintro w hS
    refine WL.gval rfl rfl (fun hg1 => (.move (.of rfl))) rfl ?_
    refine WL.gval rfl rfl (fun hg1 => (.move (.of rfl))) rfl ?_
    refine WL.gval rfl rfl (fun hg1 => (.move (.of rfl))) rfl ?_
    refine WL.gval rfl rfl (fun hg1 => (.move (.of rfl))) rfl ?_
    refine WL.gcall (T := fun w => Sat B w I As) rfl rfl rfl Try.func21 rfl (fun hg1 => (evs_cons (.gd hg1 rfl) (evs_cons (.gd hg1 rfl) (evs_cons (.gd hg1 rfl) (evs_cons (.gd hg1 rfl) evs_nil))))) rfl (fun hg1 => refWait_any _ _ _ _ B w I As hS) hS ?_
    clear hS; rintro w hS
    refine WL.gcall (T := fun w => Sat B w I As) rfl rfl rfl Try.func16 rfl (fun hg1 => (evs_cons (.gd hg1 rfl) (evs_cons (.gd hg1 rfl) evs_nil))) rfl (fun hg1 => quiet_of (Same_any _ _ w) hS) hS ?_
    clear hS; rintro w hS
    refine WL.val (.pand (.of rfl) (.of rfl) (.of rfl)) rfl ?_
    refine WL.val (.move (.of rfl)) rfl ?_
    refine WL.gval rfl rfl (fun hg1 => (.move (.of rfl))) rfl ?_
    refine WL.gval rfl rfl (fun hg1 => (.move (.of rfl))) rfl ?_
    refine WL.gcall (T := fun w => Sat B w I As) rfl rfl rfl Try.func17 rfl (fun hg1 => (evs_cons (.gd hg1 rfl) (evs_cons (.gd hg1 rfl) evs_nil))) rfl (fun hg1 => quiet_of (Count_any _ _ w) hS) hS ?_
    clear hS; rintro w hS
    refine WL.gval rfl rfl (fun hg1 => (.move (.of rfl))) rfl ?_
    refine WL.gval rfl rfl (fun hg1 => (.move (.of rfl))) rfl ?_
    refine WL.gcall (T := fun w => Sat B w I As) rfl rfl rfl Try.func22 rfl (fun hg1 => (evs_cons (.gd hg1 rfl) (evs_cons (.gd hg1 rfl) evs_nil))) rfl (fun hg1 => quiet_of (refCount_any _ _ w) hS) hS ?_
    clear hS; rintro w hS
    refine WL.gval rfl rfl (fun hg1 => (.eql (.gd hg1 rfl) (.gd hg1 rfl))) rfl ?_
    refine WL.val (.pand (.of rfl) (.of rfl) (.of rfl)) rfl ?_
    refine WL.val (.assign (.of rfl)) rfl ?_
    refine WL.nil ?_
    refine WC.ret ?_
    refine ret1 Try.results6 rfl ?_
    exact ⟨_, rfl, by simp, I, Le.refl _, hS⟩
theorem RankWaits_any (x y z n : Int) (B w : World) (I : Im) (As : List Assn) (hS : Sat B w I As) (hx : (Lit.int .u64 x).wf = true) (hy : (Lit.int .u64 y).wf = true) (hz : (Lit.int .u64 z).wf = true) (hn : (Lit.int .u8 n).wf = true) :
    Calls Try.prog 4 [.int .u64 x, .int .u64 y, .int .u64 z, .int .u8 n].toArray w (Ret fun v w' => v = .bool true ∧ ∃ J, Le I J ∧ Sat B w' J As) := by
  obtain ⟨hx0, hx1⟩ := u64_wf hx
  obtain ⟨hy0, hy1⟩ := u64_wf hy
  obtain ⟨hz0, hz1⟩ := u64_wf hz
  obtain ⟨hn0, hn1⟩ := u8_wf hn
  refine calls Try.func4 rfl Try.ntmps4 rfl ?_
  refine WC.seq ?_
  refine WC.region ?_
  refine WL.val (.assign (.of rfl)) rfl ?_
  refine WL.nil ?_
  refine WC.seq ?_
  refine WC.region ?_
  refine WL.call Try.func10 rfl evs_nil rfl (awake_any B w I As hS) ?_
  clear hS
  rintro _ w ⟨rfl, hS⟩
  refine WL.val (.assign (.of rfl)) rfl ?_
  refine WL.nil ?_
  refine WC.seq ?_
  refine WC.region ?_
  refine WL.val (.move (.of rfl)) rfl ?_
  refine WL.call Try.func11 rfl (evs_cons (.of rfl) evs_nil) rfl (number_any _ w) ?_
  rintro _ _ ⟨rfl, rfl⟩
  refine WL.val (.assign (.of rfl)) rfl ?_
  refine WL.nil ?_
  refine WC.seq ?_
  refine WC.region ?_
  refine WL.val (.move (.of rfl)) rfl ?_
  refine WL.call Try.func11 rfl (evs_cons (.of rfl) evs_nil) rfl (number_any _ w) ?_
  rintro _ _ ⟨rfl, rfl⟩
  refine WL.val (.assign (.of rfl)) rfl ?_
  refine WL.nil ?_
  refine WC.seq ?_
  refine WC.region ?_
  refine WL.val (.move (.of rfl)) rfl ?_
  refine WL.call Try.func11 rfl (evs_cons (.of rfl) evs_nil) rfl (number_any _ w) ?_
  rintro _ _ ⟨rfl, rfl⟩
  refine WL.val (.assign (.of rfl)) rfl ?_
  refine WL.nil ?_
  refine WC.seq ?_
  refine WC.region ?_
  refine WL.val (.move (.of rfl)) rfl ?_
  refine WL.val (.rem (.of rfl) (.of rfl) (by omega) (by omega)) rfl ?_
  refine WL.val (.cvi (.of rfl) Try.underlying5 Try.underlying3 (by rw [IntKind.wrap_i64]; omega)) rfl ?_
  refine WL.val (.assign (.of rfl)) rfl ?_
  refine WL.nil ?_
  refine WC.seq ?_
  refine WC.region ?_
  refine WL.val (.move (.of rfl)) rfl ?_
  refine WL.val (.move (.of rfl)) rfl ?_
  refine WL.val (.move (.of rfl)) rfl ?_
  refine WL.val (.move (.of rfl)) rfl ?_
  refine WL.call Try.func14 rfl (evs_cons (.of rfl) (evs_cons (.of rfl) (evs_cons (.of rfl) (evs_cons (.of rfl) evs_nil)))) rfl (Wait_any _ _ _ _ B w I As hS) ?_
  clear hS
  rintro _ w ⟨rfl, hS⟩
  refine WL.val (.assign (.of rfl)) rfl ?_
  refine WL.nil ?_
  refine WC.seq ?_
  refine WC.region ?_
  refine WL.val (.move (.of rfl)) rfl ?_
  refine WL.val (.move (.of rfl)) rfl ?_
  refine WL.val (.move (.of rfl)) rfl ?_
  refine WL.val (.add (.of rfl) (.of rfl) ⟨by omega, by omega⟩) rfl ?_
  refine WL.val (.move (.of rfl)) rfl ?_
  refine WL.call Try.func14 rfl (evs_cons (.of rfl) (evs_cons (.of rfl) (evs_cons (.of rfl) (evs_cons (.of rfl) evs_nil)))) rfl (Wait_any _ _ _ _ B w I As hS) ?_
  clear hS
  rintro _ w ⟨rfl, hS⟩
  refine WL.val (.assign (.of rfl)) rfl ?_
  refine WL.nil ?_
  refine WC.seq ?_
  refine WC.seq ?_
  have wl := wait_laws x.toNat y.toNat (turns (n % 70)) z.toNat
  change Flt.nan (waitV x.toNat y.toNat (n % 70) z.toNat) = false ∧ 0 ≤ Flt.sv (waitV x.toNat y.toNat (n % 70) z.toNat) ∧ waitV x.toNat y.toNat (n % 70) z.toNat ≠ 9223372036854775808 ∧ (Flt.lt 0 z.toNat = true → Flt.sv (waitV x.toNat y.toNat (n % 70) z.toNat) ≤ Flt.sv z.toNat) ∧ (Flt.lt 0 z.toNat = false → waitV x.toNat y.toNat (n % 70) z.toNat = 0) at wl
  refine WC.region ?_
  refine WL.val (.move (.of rfl)) rfl ?_
  refine WL.call Try.func15 rfl (evs_cons (.of rfl) evs_nil) rfl (NaN_any _ w) ?_
  rintro _ _ ⟨rfl, rfl⟩
  refine WL.val (.move (.of rfl)) rfl ?_
  refine WL.gval rfl rfl (fun hg1 => (.move (.of rfl))) rfl ?_
  refine WL.gval rfl rfl (fun hg1 => (.flss (.gd hg1 rfl) (.of rfl))) rfl ?_
  refine WL.val (.por (.of rfl) (.of rfl) (.of rfl)) rfl ?_
  refine WL.val (.move (.of rfl)) rfl ?_
  refine WL.gval rfl rfl (fun hg1 => (.move (.of rfl))) rfl ?_
  refine WL.gcall (T := fun w => Sat B w I As) rfl rfl rfl Try.func11 rfl (fun hg1 => (evs_cons (.of rfl) evs_nil)) rfl (fun hg1 => quiet_of (number_any _ w) hS) hS ?_
  clear hS; rintro w hS
  refine WL.gcall (T := fun w => Sat B w I As) rfl rfl rfl Try.func16 rfl (fun hg1 => (evs_cons (.gd hg1 rfl) (evs_cons (.gd hg1 rfl) evs_nil))) rfl (fun hg1 => quiet_of (Same_any _ _ w) hS) hS ?_
  clear hS; rintro w hS
  refine WL.val (.por (.of rfl) (.of rfl) (.of rfl)) rfl ?_
  refine WL.nil ?_
  refine WC.cond rfl (fun hb47 => ?_) (fun hb47 => ?_)
  ·
    have hc47 := hb47; try simp only [decide_eq_true_eq, decide_eq_false_iff_not, beq_iff_eq, beq_eq_false_iff_ne, bne_iff_ne, Bool.not_eq_true', Bool.not_eq_false', Bool.or_eq_true, Bool.and_eq_true, Bool.or_eq_false_iff, Bool.and_eq_false_iff, ne_eq, Int.not_lt, Int.not_le, bne_eq_false_iff_eq, Bool.not_eq_true, Bool.not_eq_false] at hc47
    refine WC.seq ?_
    refine WC.region ?_
    refine WL.val (.assign (.of rfl)) rfl ?_
    refine WL.nil ?_
    refine WC.ret ?_
    refine ret1 Try.results4 rfl ?_
    exfalso
    rw [wl.1] at hb47
    have e1 : Flt.lt (waitV x.toNat y.toNat (n % 70) z.toNat) 0 = false := by
      unfold Flt.lt; rw [wl.1, nan_zero, sv_zero]; simp; exact wl.2.1
    rw [e1] at hb47
    simp only [Bool.false_or, beq_iff_eq] at hb47
    have := wl.2.2.1
    omega
  ·
    have hc47 := hb47; try simp only [decide_eq_true_eq, decide_eq_false_iff_not, beq_iff_eq, beq_eq_false_iff_ne, bne_iff_ne, Bool.not_eq_true', Bool.not_eq_false', Bool.or_eq_true, Bool.and_eq_true, Bool.or_eq_false_iff, Bool.and_eq_false_iff, ne_eq, Int.not_lt, Int.not_le, bne_eq_false_iff_eq, Bool.not_eq_true, Bool.not_eq_false] at hc47
    refine WC.skip ?_
    refine WC.seq ?_
    refine WC.seq ?_
    refine WC.region ?_
    refine WL.val (.move (.of rfl)) rfl ?_
    refine WL.val (.fgtr (.of rfl) (.of rfl)) rfl ?_
    refine WL.val (.move (.of rfl)) rfl ?_
    refine WL.gval rfl rfl (fun hg1 => (.move (.of rfl))) rfl ?_
    refine WL.gval rfl rfl (fun hg1 => (.move (.of rfl))) rfl ?_
    refine WL.gval rfl rfl (fun hg1 => (.fgtr (.gd hg1 rfl) (.gd hg1 rfl))) rfl ?_
    refine WL.val (.pand (.of rfl) (.of rfl) (.of rfl)) rfl ?_
    refine WL.val (.move (.of rfl)) rfl ?_
    refine WL.gval rfl rfl (fun hg1 => (.move (.of rfl))) rfl ?_
    refine WL.gval rfl rfl (fun hg1 => (.fgtr (.gd hg1 rfl) (.of rfl))) rfl ?_
    refine WL.gval rfl rfl (fun hg1 => (.not (.gd hg1 rfl))) rfl ?_
    refine WL.gval rfl rfl (fun hg1 => (.move (.gd hg1 rfl))) rfl ?_
    refine WL.gval2 rfl rfl rfl (fun hg1 hg2 => (.move (.of rfl))) rfl ?_
    refine WL.gval2 rfl rfl rfl (fun hg1 hg2 => (.fneq (.gd2 hg1 hg2 rfl) (.of rfl))) rfl ?_
    refine WL.gval rfl rfl (fun hg1 => (.pand (.gd hg1 rfl) (.gd hg1 rfl) (.of rfl))) rfl ?_
    refine WL.val (.por (.of rfl) (.of rfl) (.of rfl)) rfl ?_
    refine WL.nil ?_
    refine WC.cond rfl (fun hb63 => ?_) (fun hb63 => ?_)
    ·
      have hc63 := hb63; try simp only [decide_eq_true_eq, decide_eq_false_iff_not, beq_iff_eq, beq_eq_false_iff_ne, bne_iff_ne, Bool.not_eq_true', Bool.not_eq_false', Bool.or_eq_true, Bool.and_eq_true, Bool.or_eq_false_iff, Bool.and_eq_false_iff, ne_eq, Int.not_lt, Int.not_le, bne_eq_false_iff_eq, Bool.not_eq_true, Bool.not_eq_false] at hc63
      refine WC.seq ?_
      refine WC.region ?_
      refine WL.val (.assign (.of rfl)) rfl ?_
      refine WL.nil ?_
      refine WC.ret ?_
      refine ret1 Try.results4 rfl ?_
      exfalso
      cases hz : Flt.lt 0 z.toNat
      · rw [hz, wl.2.2.2.2 hz] at hb63
        have : Flt.feq 0 0 = true := by decide
        rw [this] at hb63; simp at hb63
      · rw [hz] at hb63
        simp only [Bool.true_and, Bool.not_true, Bool.false_and, Bool.or_false] at hb63
        have h1 := wl.2.2.2.1 hz
        unfold Flt.lt at hb63
        simp only [Bool.and_eq_true, decide_eq_true_eq] at hb63
        omega
    ·
      have hc63 := hb63; try simp only [decide_eq_true_eq, decide_eq_false_iff_not, beq_iff_eq, beq_eq_false_iff_ne, bne_iff_ne, Bool.not_eq_true', Bool.not_eq_false', Bool.or_eq_true, Bool.and_eq_true, Bool.or_eq_false_iff, Bool.and_eq_false_iff, ne_eq, Int.not_lt, Int.not_le, bne_eq_false_iff_eq, Bool.not_eq_true, Bool.not_eq_false] at hc63
      refine WC.skip ?_
      refine WC.seq ?_
      refine WC.region ?_
      refine WL.val (.move (.of rfl)) rfl ?_
      refine WL.val (.move (.of rfl)) rfl ?_
      refine WL.gval rfl rfl (fun hg1 => (.move (.of rfl))) rfl ?_
      refine WL.gval rfl rfl (fun hg1 => (.fgtr (.gd hg1 rfl) (.of rfl))) rfl ?_
      refine WL.gval rfl rfl (fun hg1 => (.not (.gd hg1 rfl))) rfl ?_
      refine WL.gval rfl rfl (fun hg1 => (.move (.gd hg1 rfl))) rfl ?_
      refine WL.gval2 rfl rfl rfl (fun hg1 hg2 => (.move (.of rfl))) rfl ?_
      refine WL.gval2 rfl rfl rfl (fun hg1 hg2 => (.fgeq (.gd2 hg1 hg2 rfl) (.of rfl))) rfl ?_
      refine WL.gval2 rfl rfl rfl (fun hg1 hg2 => (.not (.gd2 hg1 hg2 rfl))) rfl ?_
      refine WL.gval rfl rfl (fun hg1 => (.por (.gd hg1 rfl) (.of rfl) (.gd hg1 rfl))) rfl ?_
      refine WL.gval rfl rfl (fun hg1 => (.move (.gd hg1 rfl))) rfl ?_
      refine WL.gval2 rfl rfl rfl (fun hg1 hg2 => (.move (.of rfl))) rfl ?_
      refine WL.gval2 rfl rfl rfl (fun hg1 hg2 => (.move (.of rfl))) rfl ?_
      refine WL.gval2 rfl rfl rfl (fun hg1 hg2 => (.fgeq (.gd2 hg1 hg2 rfl) (.gd2 hg1 hg2 rfl))) rfl ?_
      refine WL.gval rfl rfl (fun hg1 => (.por (.gd hg1 rfl) (.of rfl) (.gd hg1 rfl))) rfl ?_
      refine WL.val (.pand (.of rfl) (.of rfl) (.of rfl)) rfl ?_
      refine WL.val (.assign (.of rfl)) rfl ?_
      refine WL.nil ?_
      refine WC.ret ?_
      refine ret1 Try.results4 rfl ?_
      refine ⟨_, rfl, ?_, I, Le.refl _, hS⟩
      refine congrArg Value.bool ?_
      have mono : Flt.lt 0 x.toNat = true → Flt.le 4607182418800017408 y.toNat = true → Flt.le (waitV x.toNat y.toNat (n % 70) z.toNat) (waitV x.toNat y.toNat (n % 70 + 1) z.toNat) = true := fun hx hy => by
        have hy' : Flt.nan y.toNat = false ∧ (Flt.one : Int) ≤ Flt.sv y.toNat := by
          unfold Flt.le at hy
          rw [sv_one.1, sv_one.2] at hy
          simpa using hy
        have wl2 := wait_laws x.toNat y.toNat (turns (n % 70 + 1)) z.toNat
        have hm : Flt.sv (waitK x.toNat y.toNat (turns (n % 70)) z.toNat) ≤ Flt.sv (waitK x.toNat y.toNat (turns (n % 70 + 1)) z.toNat) := by
          rcases turns_step (show 0 ≤ n % 70 by omega) with e | e
          · rw [e]; exact wait_mono hx hy'.1 hy'.2
          · rw [e]; exact Int.le_refl _
        unfold Flt.le
        rw [wl.1, show Flt.nan (waitV x.toNat y.toNat (n % 70 + 1) z.toNat) = false from wl2.1]
        have hm2 : Flt.sv (waitV x.toNat y.toNat (n % 70) z.toNat) ≤ Flt.sv (waitV x.toNat y.toNat (n % 70 + 1) z.toNat) := hm
        simpa using hm2
      cases hx : Flt.lt 0 x.toNat <;> cases hy : Flt.le 4607182418800017408 y.toNat <;> simp
      exact mono hx hy
theorem RankCounts_any (a b most : Int) (B w : World) (I : Im) (As : List Assn) (hS : Sat B w I As) (ha : (Lit.int .u64 a).wf = true) (hb : (Lit.int .u64 b).wf = true) (hmost : (Lit.int .u64 most).wf = true) :
    Calls Try.prog 5 [.int .u64 a, .int .u64 b, .int .u64 most].toArray w (Ret fun v w' => v = .bool true ∧ ∃ J, Le I J ∧ Sat B w' J As) := by
  obtain ⟨ha0, ha1⟩ := u64_wf ha
  obtain ⟨hb0, hb1⟩ := u64_wf hb
  obtain ⟨hmost0, hmost1⟩ := u64_wf hmost
  refine calls Try.func5 rfl Try.ntmps5 rfl ?_
  refine WC.seq ?_
  refine WC.region ?_
  refine WL.val (.assign (.of rfl)) rfl ?_
  refine WL.nil ?_
  refine WC.seq ?_
  refine WC.region ?_
  refine WL.call Try.func10 rfl evs_nil rfl (awake_any B w I As hS) ?_
  clear hS
  rintro _ w ⟨rfl, hS⟩
  refine WL.val (.assign (.of rfl)) rfl ?_
  refine WL.nil ?_
  refine WC.seq ?_
  refine WC.region ?_
  refine WL.val (.move (.of rfl)) rfl ?_
  refine WL.call Try.func11 rfl (evs_cons (.of rfl) evs_nil) rfl (number_any _ w) ?_
  rintro _ _ ⟨rfl, rfl⟩
  refine WL.val (.assign (.of rfl)) rfl ?_
  refine WL.nil ?_
  refine WC.seq ?_
  refine WC.region ?_
  refine WL.val (.move (.of rfl)) rfl ?_
  refine WL.call Try.func11 rfl (evs_cons (.of rfl) evs_nil) rfl (number_any _ w) ?_
  rintro _ _ ⟨rfl, rfl⟩
  refine WL.val (.assign (.of rfl)) rfl ?_
  refine WL.nil ?_
  refine WC.seq ?_
  refine WC.region ?_
  refine WL.val (.move (.of rfl)) rfl ?_
  refine WL.val (.rem (.of rfl) (.of rfl) (by omega) (by omega)) rfl ?_
  refine WL.val (.cvi (.of rfl) Try.underlying27 Try.underlying3 (by rw [IntKind.wrap_i64]; omega)) rfl ?_
  refine WL.val (.assign (.of rfl)) rfl ?_
  refine WL.nil ?_
  refine WC.seq ?_
  refine WC.region ?_
  refine WL.val (.move (.of rfl)) rfl ?_
  refine WL.val (.move (.of rfl)) rfl ?_
  refine WL.call Try.func17 rfl (evs_cons (.of rfl) (evs_cons (.of rfl) evs_nil)) rfl (Count_any _ _ w) ?_
  rintro _ _ ⟨rfl, rfl⟩
  refine WL.val (.assign (.of rfl)) rfl ?_
  refine WL.nil ?_
  refine WC.seq ?_
  refine WC.seq ?_
  have hm0 : 0 ≤ most % 1099511627777 ∧ most % 1099511627777 ≤ 1099511627776 := by omega
  have htop : top (most % 1099511627777) = most % 1099511627777 := by unfold top; omega
  have cl := cnt_laws a.toNat (most % 1099511627777)
  rw [htop] at cl
  obtain ⟨c, hc⟩ : ∃ c, c = cnt a.toNat (most % 1099511627777) := ⟨_, rfl⟩
  rw [← hc] at cl
  refine WC.region ?_
  refine WL.val (.move (.of rfl)) rfl ?_
  refine WL.val (.lss (.of rfl) (.of rfl)) rfl ?_
  refine WL.val (.move (.of rfl)) rfl ?_
  refine WL.gval rfl rfl (fun hg1 => (.move (.of rfl))) rfl ?_
  refine WL.gval rfl rfl (fun hg1 => (.move (.of rfl))) rfl ?_
  refine WL.gval rfl rfl (fun hg1 => (.gtr (.gd hg1 rfl) (.gd hg1 rfl))) rfl ?_
  refine WL.val (.por (.of rfl) (.of rfl) (.of rfl)) rfl ?_
  refine WL.nil ?_
  refine WC.cond rfl (fun hb29 => ?_) (fun hb29 => ?_)
  ·
    have hc29 := hb29; try simp only [decide_eq_true_eq, decide_eq_false_iff_not, beq_iff_eq, beq_eq_false_iff_ne, bne_iff_ne, Bool.not_eq_true', Bool.not_eq_false', Bool.or_eq_true, Bool.and_eq_true, Bool.or_eq_false_iff, Bool.and_eq_false_iff, ne_eq, Int.not_lt, Int.not_le, bne_eq_false_iff_eq, Bool.not_eq_true, Bool.not_eq_false] at hc29
    refine WC.seq ?_
    refine WC.region ?_
    refine WL.val (.assign (.of rfl)) rfl ?_
    refine WL.nil ?_
    refine WC.ret ?_
    refine ret1 Try.results5 rfl ?_
    exfalso; rw [← hc] at hb29; simp at hb29; omega
  ·
    have hc29 := hb29; try simp only [decide_eq_true_eq, decide_eq_false_iff_not, beq_iff_eq, beq_eq_false_iff_ne, bne_iff_ne, Bool.not_eq_true', Bool.not_eq_false', Bool.or_eq_true, Bool.and_eq_true, Bool.or_eq_false_iff, Bool.and_eq_false_iff, ne_eq, Int.not_lt, Int.not_le, bne_eq_false_iff_eq, Bool.not_eq_true, Bool.not_eq_false] at hc29
    refine WC.skip ?_
    refine WC.seq ?_
    refine WC.seq ?_
    refine WC.region ?_
    refine WL.val (.move (.of rfl)) rfl ?_
    refine WL.call Try.func15 rfl (evs_cons (.of rfl) evs_nil) rfl (NaN_any _ w) ?_
    rintro _ _ ⟨rfl, rfl⟩
    refine WL.val (.not (.of rfl)) rfl ?_
    refine WL.val (.move (.of rfl)) rfl ?_
    refine WL.gval rfl rfl (fun hg1 => (.move (.of rfl))) rfl ?_
    refine WL.gval rfl rfl (fun hg1 => (.move (.of rfl))) rfl ?_
    refine WL.gval rfl rfl (fun hg1 => (.lss (.gd hg1 rfl) (.gd hg1 rfl))) rfl ?_
    refine WL.val (.pand (.of rfl) (.of rfl) (.of rfl)) rfl ?_
    refine WL.val (.move (.of rfl)) rfl ?_
    refine WL.gval rfl rfl (fun hg1 => (.move (.of rfl))) rfl ?_
    refine WL.gval rfl rfl (fun hg1 => (.toF (.gd hg1 rfl) rfl Try.underlying25)) rfl ?_
    refine WL.gval rfl rfl (fun hg1 => (.move (.of rfl))) rfl ?_
    refine WL.gval rfl rfl (fun hg1 => (.flss (.gd hg1 rfl) (.gd hg1 rfl))) rfl ?_
    refine WL.val (.pand (.of rfl) (.of rfl) (.of rfl)) rfl ?_
    refine WL.val (.move (.of rfl)) rfl ?_
    refine WL.gval rfl rfl (fun hg1 => (.move (.of rfl))) rfl ?_
    refine WL.gval rfl rfl (fun hg1 => (.gtr (.gd hg1 rfl) (.of rfl))) rfl ?_
    refine WL.gval rfl rfl (fun hg1 => (.move (.gd hg1 rfl))) rfl ?_
    refine WL.gval2 rfl rfl rfl (fun hg1 hg2 => (.move (.of rfl))) rfl ?_
    refine WL.gcall2 (T := fun w => Sat B w I As) rfl rfl rfl Try.func15 rfl (fun hg1 hg2 => (evs_cons (.gd2 hg1 hg2 rfl) evs_nil)) rfl (fun hg1 hg2 => quiet_of (NaN_any _ w) hS) hS ?_
    clear hS; rintro w hS
    refine WL.gval2 rfl rfl rfl (fun hg1 hg2 => (.not (.gd2 hg1 hg2 rfl))) rfl ?_
    refine WL.gval rfl rfl (fun hg1 => (.pand (.gd hg1 rfl) (.gd hg1 rfl) (.of rfl))) rfl ?_
    refine WL.gval rfl rfl (fun hg1 => (.move (.gd hg1 rfl))) rfl ?_
    refine WL.gval2 rfl rfl rfl (fun hg1 hg2 => (.move (.of rfl))) rfl ?_
    refine WL.gval2 rfl rfl rfl (fun hg1 hg2 => (.sub (.gd2 hg1 hg2 rfl) (.of rfl) ⟨by omega, by omega⟩)) rfl ?_
    refine WL.gval2 rfl rfl rfl (fun hg1 hg2 => (.toF (.gd2 hg1 hg2 rfl) rfl Try.underlying25)) rfl ?_
    refine WL.gval2 rfl rfl rfl (fun hg1 hg2 => (.move (.of rfl))) rfl ?_
    refine WL.gval2 rfl rfl rfl (fun hg1 hg2 => (.fgeq (.gd2 hg1 hg2 rfl) (.gd2 hg1 hg2 rfl))) rfl ?_
    refine WL.gval rfl rfl (fun hg1 => (.pand (.gd hg1 rfl) (.gd hg1 rfl) (.of rfl))) rfl ?_
    refine WL.val (.por (.of rfl) (.of rfl) (.of rfl)) rfl ?_
    refine WL.nil ?_
    refine WC.cond rfl (fun hb59 => ?_) (fun hb59 => ?_)
    ·
      have hc59 := hb59; try simp only [decide_eq_true_eq, decide_eq_false_iff_not, beq_iff_eq, beq_eq_false_iff_ne, bne_iff_ne, Bool.not_eq_true', Bool.not_eq_false', Bool.or_eq_true, Bool.and_eq_true, Bool.or_eq_false_iff, Bool.and_eq_false_iff, ne_eq, Int.not_lt, Int.not_le, bne_eq_false_iff_eq, Bool.not_eq_true, Bool.not_eq_false] at hc59
      refine WC.seq ?_
      refine WC.region ?_
      refine WL.val (.assign (.of rfl)) rfl ?_
      refine WL.nil ?_
      refine WC.ret ?_
      refine ret1 Try.results5 rfl ?_
      exfalso
      rw [← hc] at hb59
      have o1 := Flt.ofI_spec (c := c) (by omega) (by omega)
      cases hna : Flt.nan a.toNat
      · rw [hna] at hb59
        have e1 : (decide (c < most % 1099511627777) && Flt.lt (Flt.ofI c) a.toNat) = false := by
          by_cases h : c < most % 1099511627777
          · have := cl.2.2.1 hna h
            unfold Flt.lt; rw [o1.1, o1.2, hna]; simp; omega
          · simp [h]
        have e2 : (decide (0 < c) && Flt.le a.toNat (Flt.ofI (c - 1))) = false := by
          by_cases h : 0 < c
          · have o2 := Flt.ofI_spec (c := c - 1) (by omega) (by omega)
            have := cl.2.2.2 h hna
            unfold Flt.le; rw [o2.1, o2.2, hna]; simp; omega
          · simp [h]
        simp only [Bool.not_false, Bool.true_and, Bool.and_true, e1, e2] at hb59
        simp at hb59
      · rw [hna] at hb59; simp at hb59
    ·
      have hc59 := hb59; try simp only [decide_eq_true_eq, decide_eq_false_iff_not, beq_iff_eq, beq_eq_false_iff_ne, bne_iff_ne, Bool.not_eq_true', Bool.not_eq_false', Bool.or_eq_true, Bool.and_eq_true, Bool.or_eq_false_iff, Bool.and_eq_false_iff, ne_eq, Int.not_lt, Int.not_le, bne_eq_false_iff_eq, Bool.not_eq_true, Bool.not_eq_false] at hc59
      refine WC.skip ?_
      refine WC.seq ?_
      refine WC.region ?_
      refine WL.val (.move (.of rfl)) rfl ?_
      refine WL.val (.move (.of rfl)) rfl ?_
      refine WL.gval rfl rfl (fun hg1 => (.move (.of rfl))) rfl ?_
      refine WL.gval rfl rfl (fun hg1 => (.move (.of rfl))) rfl ?_
      refine WL.gval rfl rfl (fun hg1 => (.fleq (.gd hg1 rfl) (.gd hg1 rfl))) rfl ?_
      refine WL.gval rfl rfl (fun hg1 => (.not (.gd hg1 rfl))) rfl ?_
      refine WL.gval rfl rfl (fun hg1 => (.move (.gd hg1 rfl))) rfl ?_
      refine WL.gval2 rfl rfl rfl (fun hg1 hg2 => (.move (.of rfl))) rfl ?_
      refine WL.gval2 rfl rfl rfl (fun hg1 hg2 => (.move (.of rfl))) rfl ?_
      refine WL.gval2 rfl rfl rfl (fun hg1 hg2 => (.move (.of rfl))) rfl ?_
      refine WL.gcall2 (T := fun w => Sat B w I As) rfl rfl rfl Try.func17 rfl (fun hg1 hg2 => (evs_cons (.gd2 hg1 hg2 rfl) (evs_cons (.gd2 hg1 hg2 rfl) evs_nil))) rfl (fun hg1 hg2 => quiet_of (Count_any _ _ w) hS) hS ?_
      clear hS; rintro w hS
      refine WL.gval2 rfl rfl rfl (fun hg1 hg2 => (.leq (.gd2 hg1 hg2 rfl) (.gd2 hg1 hg2 rfl))) rfl ?_
      refine WL.gval rfl rfl (fun hg1 => (.por (.gd hg1 rfl) (.of rfl) (.gd hg1 rfl))) rfl ?_
      refine WL.val (.pand (.of rfl) (.of rfl) (.of rfl)) rfl ?_
      refine WL.val (.assign (.of rfl)) rfl ?_
      refine WL.nil ?_
      refine WC.ret ?_
      refine ret1 Try.results5 rfl ?_
      refine ⟨_, rfl, ?_, I, Le.refl _, hS⟩
      refine congrArg Value.bool ?_
      cases hl : Flt.le a.toNat b.toNat
      · simp
      · have h := hl
        unfold Flt.le at h
        simp only [Bool.and_eq_true, Bool.not_eq_true', decide_eq_true_eq] at h
        have := cnt_mono (most := most % 1099511627777) h.1.1 h.1.2 h.2
        simp [this]
theorem RankOne_any (a b c : Int) (B w : World) (I : Im) (As : List Assn) (hS : Sat B w I As) (ha : (Lit.int .u64 a).wf = true) (hb : (Lit.int .u64 b).wf = true) (hc : (Lit.int .u64 c).wf = true) :
    Calls Try.prog 7 [.int .u64 a, .int .u64 b, .int .u64 c].toArray w (Ret fun v w' => v = .bool true ∧ ∃ J, Le I J ∧ Sat B w' J As) := by
  obtain ⟨ha0, ha1⟩ := u64_wf ha
  obtain ⟨hb0, hb1⟩ := u64_wf hb
  obtain ⟨hc0, hc1⟩ := u64_wf hc
  refine calls Try.func7 rfl Try.ntmps7 rfl ?_
  refine WC.seq ?_
  refine WC.region ?_
  refine WL.val (.assign (.of rfl)) rfl ?_
  refine WL.nil ?_
  refine WC.seq ?_
  refine WC.region ?_
  refine WL.call Try.func10 rfl evs_nil rfl (awake_any B w I As hS) ?_
  clear hS
  rintro _ w ⟨rfl, hS⟩
  refine WL.val (.assign (.of rfl)) rfl ?_
  refine WL.nil ?_
  refine WC.seq ?_
  refine WC.region ?_
  refine WL.val (.move (.of rfl)) rfl ?_
  refine WL.call Try.func11 rfl (evs_cons (.of rfl) evs_nil) rfl (number_any _ w) ?_
  rintro _ _ ⟨rfl, rfl⟩
  refine WL.val (.assign (.of rfl)) rfl ?_
  refine WL.nil ?_
  refine WC.seq ?_
  refine WC.region ?_
  refine WL.val (.move (.of rfl)) rfl ?_
  refine WL.call Try.func11 rfl (evs_cons (.of rfl) evs_nil) rfl (number_any _ w) ?_
  rintro _ _ ⟨rfl, rfl⟩
  refine WL.val (.assign (.of rfl)) rfl ?_
  refine WL.nil ?_
  refine WC.seq ?_
  refine WC.region ?_
  refine WL.val (.move (.of rfl)) rfl ?_
  refine WL.call Try.func11 rfl (evs_cons (.of rfl) evs_nil) rfl (number_any _ w) ?_
  rintro _ _ ⟨rfl, rfl⟩
  refine WL.val (.assign (.of rfl)) rfl ?_
  refine WL.nil ?_
  refine WC.seq ?_
  refine WC.seq ?_
  refine WC.region ?_
  refine WL.val (.move (.of rfl)) rfl ?_
  refine WL.call Try.func15 rfl (evs_cons (.of rfl) evs_nil) rfl (NaN_any _ w) ?_
  rintro _ _ ⟨rfl, rfl⟩
  refine WL.val (.move (.of rfl)) rfl ?_
  refine WL.gval rfl rfl (fun hg1 => (.move (.of rfl))) rfl ?_
  refine WL.gcall (T := fun w => Sat B w I As) rfl rfl rfl Try.func15 rfl (fun hg1 => (evs_cons (.gd hg1 rfl) evs_nil)) rfl (fun hg1 => quiet_of (NaN_any _ w) hS) hS ?_
  clear hS; rintro w hS
  refine WL.val (.por (.of rfl) (.of rfl) (.of rfl)) rfl ?_
  refine WL.nil ?_
  refine WC.cond rfl (fun hb25 => ?_) (fun hb25 => ?_)
  ·
    have hc25 := hb25; try simp only [decide_eq_true_eq, decide_eq_false_iff_not, beq_iff_eq, beq_eq_false_iff_ne, bne_iff_ne, Bool.not_eq_true', Bool.not_eq_false', Bool.or_eq_true, Bool.and_eq_true, Bool.or_eq_false_iff, Bool.and_eq_false_iff, ne_eq, Int.not_lt, Int.not_le, bne_eq_false_iff_eq, Bool.not_eq_true, Bool.not_eq_false] at hc25
    refine WC.seq ?_
    have ki : keyN a.toNat = keyN b.toNat → a.toNat = b.toNat := key_inj (by omega) (by omega)
    refine WC.region ?_
    refine WL.val (.move (.of rfl)) rfl ?_
    refine WL.val (.move (.of rfl)) rfl ?_
    refine WL.gval rfl rfl (fun hg1 => (.move (.of rfl))) rfl ?_
    refine WL.gval rfl rfl (fun hg1 => (.move (.of rfl))) rfl ?_
    refine WL.gcall (T := fun w => Sat B w I As) rfl rfl rfl Try.func16 rfl (fun hg1 => (evs_cons (.gd hg1 rfl) (evs_cons (.gd hg1 rfl) evs_nil))) rfl (fun hg1 => quiet_of (Same_any _ _ w) hS) hS ?_
    clear hS; rintro w hS
    refine WL.gval rfl rfl (fun hg1 => (.move (.of rfl))) rfl ?_
    refine WL.gcall (T := fun w => Sat B w I As) rfl rfl rfl Try.func18 rfl (fun hg1 => (evs_cons (.gd hg1 rfl) evs_nil)) rfl (fun hg1 => quiet_of (Key_any _ (by omega) w) hS) hS ?_
    clear hS; rintro w hS
    refine WL.gval rfl rfl (fun hg1 => (.move (.of rfl))) rfl ?_
    refine WL.gcall (T := fun w => Sat B w I As) rfl rfl rfl Try.func18 rfl (fun hg1 => (evs_cons (.gd hg1 rfl) evs_nil)) rfl (fun hg1 => quiet_of (Key_any _ (by omega) w) hS) hS ?_
    clear hS; rintro w hS
    refine WL.gval rfl rfl (fun hg1 => (.eql (.gd hg1 rfl) (.gd hg1 rfl))) rfl ?_
    refine WL.gval rfl rfl (fun hg1 => (.eqb (.gd hg1 rfl) (.gd hg1 rfl) Try.underlying4)) rfl ?_
    refine WL.val (.pand (.of rfl) (.of rfl) (.of rfl)) rfl ?_
    refine WL.val (.assign (.of rfl)) rfl ?_
    refine WL.nil ?_
    refine WC.ret ?_
    refine ret1 Try.results7 rfl ?_
    refine ⟨_, rfl, ?_, I, Le.refl _, hS⟩
    refine congrArg Value.bool ?_
    by_cases h : a.toNat = b.toNat
    · simp [h]
    · have h2 : ¬ keyN a.toNat = keyN b.toNat := fun e => h (ki e)
      have h3 : ¬ ((a.toNat : Nat) : Int) = ((b.toNat : Nat) : Int) := by omega
      have h4 : ¬ ((keyN a.toNat : Nat) : Int) = ((keyN b.toNat : Nat) : Int) := by omega
      rw [beq_eq_false_iff_ne.2 h3, beq_eq_false_iff_ne.2 h4]; rfl
  ·
    have hc25 := hb25; try simp only [decide_eq_true_eq, decide_eq_false_iff_not, beq_iff_eq, beq_eq_false_iff_ne, bne_iff_ne, Bool.not_eq_true', Bool.not_eq_false', Bool.or_eq_true, Bool.and_eq_true, Bool.or_eq_false_iff, Bool.and_eq_false_iff, ne_eq, Int.not_lt, Int.not_le, bne_eq_false_iff_eq, Bool.not_eq_true, Bool.not_eq_false] at hc25
    refine WC.skip ?_
    refine WC.seq ?_
    have ki : keyN a.toNat = keyN b.toNat → a.toNat = b.toNat := key_inj (by omega) (by omega)
    refine WC.region ?_
    refine WL.val (.move (.of rfl)) rfl ?_
    refine WL.val (.move (.of rfl)) rfl ?_
    refine WL.call Try.func20 rfl (evs_cons (.of rfl) (evs_cons (.of rfl) evs_nil)) rfl (Less_any _ _ (by omega) (by omega) w) ?_
    rintro _ _ ⟨rfl, rfl⟩
    refine WL.val (.assign (.of rfl)) rfl ?_
    refine WL.nil ?_
    refine WC.seq ?_
    refine WC.region ?_
    refine WL.val (.move (.of rfl)) rfl ?_
    refine WL.val (.move (.of rfl)) rfl ?_
    refine WL.call Try.func20 rfl (evs_cons (.of rfl) (evs_cons (.of rfl) evs_nil)) rfl (Less_any _ _ (by omega) (by omega) w) ?_
    rintro _ _ ⟨rfl, rfl⟩
    refine WL.val (.assign (.of rfl)) rfl ?_
    refine WL.nil ?_
    refine WC.seq ?_
    refine WC.seq ?_
    refine WC.region ?_
    refine WL.val (.move (.of rfl)) rfl ?_
    refine WL.val (.move (.of rfl)) rfl ?_
    refine WL.gval rfl rfl (fun hg1 => (.move (.of rfl))) rfl ?_
    refine WL.val (.pand (.of rfl) (.of rfl) (.of rfl)) rfl ?_
    refine WL.val (.move (.of rfl)) rfl ?_
    refine WL.gval rfl rfl (fun hg1 => (.move (.of rfl))) rfl ?_
    refine WL.gval rfl rfl (fun hg1 => (.move (.gd hg1 rfl))) rfl ?_
    refine WL.gval2 rfl rfl rfl (fun hg1 hg2 => (.move (.of rfl))) rfl ?_
    refine WL.gval rfl rfl (fun hg1 => (.por (.gd hg1 rfl) (.of rfl) (.gd hg1 rfl))) rfl ?_
    refine WL.gval rfl rfl (fun hg1 => (.move (.of rfl))) rfl ?_
    refine WL.gval rfl rfl (fun hg1 => (.move (.of rfl))) rfl ?_
    refine WL.gcall (T := fun w => Sat B w I As) rfl rfl rfl Try.func16 rfl (fun hg1 => (evs_cons (.gd hg1 rfl) (evs_cons (.gd hg1 rfl) evs_nil))) rfl (fun hg1 => quiet_of (Same_any _ _ w) hS) hS ?_
    clear hS; rintro w hS
    refine WL.gval rfl rfl (fun hg1 => (.eqb (.gd hg1 rfl) (.gd hg1 rfl) Try.underlying4)) rfl ?_
    refine WL.val (.por (.of rfl) (.of rfl) (.of rfl)) rfl ?_
    refine WL.nil ?_
    refine WC.cond rfl (fun hb57 => ?_) (fun hb57 => ?_)
    ·
      have hc57 := hb57; try simp only [decide_eq_true_eq, decide_eq_false_iff_not, beq_iff_eq, beq_eq_false_iff_ne, bne_iff_ne, Bool.not_eq_true', Bool.not_eq_false', Bool.or_eq_true, Bool.and_eq_true, Bool.or_eq_false_iff, Bool.and_eq_false_iff, ne_eq, Int.not_lt, Int.not_le, bne_eq_false_iff_eq, Bool.not_eq_true, Bool.not_eq_false] at hc57
      refine WC.seq ?_
      refine WC.region ?_
      refine WL.val (.assign (.of rfl)) rfl ?_
      refine WL.nil ?_
      refine WC.ret ?_
      refine ret1 Try.results7 rfl ?_
      exfalso
      rcases Nat.lt_trichotomy (keyN a.toNat) (keyN b.toNat) with h | h | h
      · have h1 : ((keyN a.toNat : Nat) : Int) < ((keyN b.toNat : Nat) : Int) := by omega
        have h2 : ¬ ((keyN b.toNat : Nat) : Int) < ((keyN a.toNat : Nat) : Int) := by omega
        have h3 : ¬ ((a.toNat : Nat) : Int) = ((b.toNat : Nat) : Int) := fun e => by rw [show a.toNat = b.toNat by omega] at h; omega
        rw [beq_eq_false_iff_ne.2 h3] at hb57
        simp [h1, h2] at hb57
      · have e := ki h
        rw [e] at hb57
        simp at hb57
      · have h1 : ((keyN b.toNat : Nat) : Int) < ((keyN a.toNat : Nat) : Int) := by omega
        have h2 : ¬ ((keyN a.toNat : Nat) : Int) < ((keyN b.toNat : Nat) : Int) := by omega
        have h3 : ¬ ((a.toNat : Nat) : Int) = ((b.toNat : Nat) : Int) := fun e => by rw [show a.toNat = b.toNat by omega] at h; omega
        rw [beq_eq_false_iff_ne.2 h3] at hb57
        simp [h1, h2] at hb57
    ·
      have hc57 := hb57; try simp only [decide_eq_true_eq, decide_eq_false_iff_not, beq_iff_eq, beq_eq_false_iff_ne, bne_iff_ne, Bool.not_eq_true', Bool.not_eq_false', Bool.or_eq_true, Bool.and_eq_true, Bool.or_eq_false_iff, Bool.and_eq_false_iff, ne_eq, Int.not_lt, Int.not_le, bne_eq_false_iff_eq, Bool.not_eq_true, Bool.not_eq_false] at hc57
      refine WC.skip ?_
      refine WC.seq ?_
      refine WC.seq ?_
      refine WC.region ?_
      refine WL.val (.move (.of rfl)) rfl ?_
      refine WL.val (.move (.of rfl)) rfl ?_
      refine WL.val (.flss (.of rfl) (.of rfl)) rfl ?_
      refine WL.val (.move (.of rfl)) rfl ?_
      refine WL.gval rfl rfl (fun hg1 => (.move (.of rfl))) rfl ?_
      refine WL.gval rfl rfl (fun hg1 => (.not (.gd hg1 rfl))) rfl ?_
      refine WL.val (.pand (.of rfl) (.of rfl) (.of rfl)) rfl ?_
      refine WL.val (.move (.of rfl)) rfl ?_
      refine WL.gval rfl rfl (fun hg1 => (.move (.of rfl))) rfl ?_
      refine WL.gval rfl rfl (fun hg1 => (.move (.of rfl))) rfl ?_
      refine WL.gval rfl rfl (fun hg1 => (.fgtr (.gd hg1 rfl) (.gd hg1 rfl))) rfl ?_
      refine WL.gval rfl rfl (fun hg1 => (.move (.gd hg1 rfl))) rfl ?_
      refine WL.gval2 rfl rfl rfl (fun hg1 hg2 => (.move (.of rfl))) rfl ?_
      refine WL.gval2 rfl rfl rfl (fun hg1 hg2 => (.not (.gd2 hg1 hg2 rfl))) rfl ?_
      refine WL.gval rfl rfl (fun hg1 => (.pand (.gd hg1 rfl) (.gd hg1 rfl) (.of rfl))) rfl ?_
      refine WL.val (.por (.of rfl) (.of rfl) (.of rfl)) rfl ?_
      refine WL.nil ?_
      refine WC.cond rfl (fun hb73 => ?_) (fun hb73 => ?_)
      ·
        have hc73 := hb73; try simp only [decide_eq_true_eq, decide_eq_false_iff_not, beq_iff_eq, beq_eq_false_iff_ne, bne_iff_ne, Bool.not_eq_true', Bool.not_eq_false', Bool.or_eq_true, Bool.and_eq_true, Bool.or_eq_false_iff, Bool.and_eq_false_iff, ne_eq, Int.not_lt, Int.not_le, bne_eq_false_iff_eq, Bool.not_eq_true, Bool.not_eq_false] at hc73
        refine WC.seq ?_
        refine WC.region ?_
        refine WL.val (.assign (.of rfl)) rfl ?_
        refine WL.nil ?_
        refine WC.ret ?_
        refine ret1 Try.results7 rfl ?_
        exfalso
        have hna : Flt.nan a.toNat = false ∧ Flt.nan b.toNat = false := by
          cases h1 : Flt.nan a.toNat <;> cases h2 : Flt.nan b.toNat <;> simp [h1, h2] at hb25 ⊢
        have q1 : Flt.lt a.toNat b.toNat = true → ((keyN a.toNat : Nat) : Int) < ((keyN b.toNat : Nat) : Int) := fun h => by
          unfold Flt.lt at h; rw [hna.1, hna.2] at h; simp at h
          have := key_order (a := a.toNat) (b := b.toNat) (by omega) (by omega) hna.1 hna.2 h
          omega
        have q2 : Flt.lt b.toNat a.toNat = true → ((keyN b.toNat : Nat) : Int) < ((keyN a.toNat : Nat) : Int) := fun h => by
          unfold Flt.lt at h; rw [hna.1, hna.2] at h; simp at h
          have := key_order (a := b.toNat) (b := a.toNat) (by omega) (by omega) hna.2 hna.1 h
          omega
        cases h1 : Flt.lt a.toNat b.toNat <;> cases h2 : Flt.lt b.toNat a.toNat <;> rw [h1, h2] at hb73 <;> simp at hb73
        · have := q2 h2; omega
        · have := q1 h1; omega
        · have := q1 h1; have := q2 h2; omega
      ·
        have hc73 := hb73; try simp only [decide_eq_true_eq, decide_eq_false_iff_not, beq_iff_eq, beq_eq_false_iff_ne, bne_iff_ne, Bool.not_eq_true', Bool.not_eq_false', Bool.or_eq_true, Bool.and_eq_true, Bool.or_eq_false_iff, Bool.and_eq_false_iff, ne_eq, Int.not_lt, Int.not_le, bne_eq_false_iff_eq, Bool.not_eq_true, Bool.not_eq_false] at hc73
        refine WC.skip ?_
        refine WC.seq ?_
        refine WC.seq ?_
        refine WC.region ?_
        refine WL.val (.move (.of rfl)) rfl ?_
        refine WL.val (.move (.of rfl)) rfl ?_
        refine WL.gval rfl rfl (fun hg1 => (.move (.of rfl))) rfl ?_
        refine WL.gval rfl rfl (fun hg1 => (.move (.of rfl))) rfl ?_
        refine WL.gcall (T := fun w => Sat B w I As) rfl rfl rfl Try.func20 rfl (fun hg1 => (evs_cons (.gd hg1 rfl) (evs_cons (.gd hg1 rfl) evs_nil))) rfl (fun hg1 => quiet_of (Less_any _ _ (by omega) (by omega) w) hS) hS ?_
        clear hS; rintro w hS
        refine WL.val (.pand (.of rfl) (.of rfl) (.of rfl)) rfl ?_
        refine WL.val (.move (.of rfl)) rfl ?_
        refine WL.gval rfl rfl (fun hg1 => (.move (.of rfl))) rfl ?_
        refine WL.gval rfl rfl (fun hg1 => (.move (.of rfl))) rfl ?_
        refine WL.gcall (T := fun w => Sat B w I As) rfl rfl rfl Try.func20 rfl (fun hg1 => (evs_cons (.gd hg1 rfl) (evs_cons (.gd hg1 rfl) evs_nil))) rfl (fun hg1 => quiet_of (Less_any _ _ (by omega) (by omega) w) hS) hS ?_
        clear hS; rintro w hS
        refine WL.gval rfl rfl (fun hg1 => (.not (.gd hg1 rfl))) rfl ?_
        refine WL.val (.pand (.of rfl) (.of rfl) (.of rfl)) rfl ?_
        refine WL.nil ?_
        refine WC.cond rfl (fun hb85 => ?_) (fun hb85 => ?_)
        ·
          have hc85 := hb85; try simp only [decide_eq_true_eq, decide_eq_false_iff_not, beq_iff_eq, beq_eq_false_iff_ne, bne_iff_ne, Bool.not_eq_true', Bool.not_eq_false', Bool.or_eq_true, Bool.and_eq_true, Bool.or_eq_false_iff, Bool.and_eq_false_iff, ne_eq, Int.not_lt, Int.not_le, bne_eq_false_iff_eq, Bool.not_eq_true, Bool.not_eq_false] at hc85
          refine WC.seq ?_
          refine WC.region ?_
          refine WL.val (.assign (.of rfl)) rfl ?_
          refine WL.nil ?_
          refine WC.ret ?_
          refine ret1 Try.results7 rfl ?_
          exfalso
          simp only [Bool.and_eq_true, decide_eq_true_eq, Bool.not_eq_true', decide_eq_false_iff_not] at hb85
          omega
        ·
          have hc85 := hb85; try simp only [decide_eq_true_eq, decide_eq_false_iff_not, beq_iff_eq, beq_eq_false_iff_ne, bne_iff_ne, Bool.not_eq_true', Bool.not_eq_false', Bool.or_eq_true, Bool.and_eq_true, Bool.or_eq_false_iff, Bool.and_eq_false_iff, ne_eq, Int.not_lt, Int.not_le, bne_eq_false_iff_eq, Bool.not_eq_true, Bool.not_eq_false] at hc85
          refine WC.skip ?_
          refine WC.seq ?_
          refine WC.region ?_
          refine WL.val (.move (.of rfl)) rfl ?_
          refine WL.val (.move (.of rfl)) rfl ?_
          refine WL.gcall (T := fun w => Sat B w I As) rfl rfl rfl Try.func11 rfl (fun hg1 => (evs_cons (.of rfl) evs_nil)) rfl (fun hg1 => quiet_of (number_any _ w) hS) hS ?_
          clear hS; rintro w hS
          refine WL.gcall (T := fun w => Sat B w I As) rfl rfl rfl Try.func20 rfl (fun hg1 => (evs_cons (.gd hg1 rfl) (evs_cons (.of rfl) evs_nil))) rfl (fun hg1 => quiet_of (Less_any _ _ (by omega) (by omega) w) hS) hS ?_
          clear hS; rintro w hS
          refine WL.val (.pand (.of rfl) (.of rfl) (.of rfl)) rfl ?_
          refine WL.val (.assign (.of rfl)) rfl ?_
          refine WL.nil ?_
          refine WC.ret ?_
          refine ret1 Try.results7 rfl ?_
          refine ⟨_, rfl, ?_, I, Le.refl _, hS⟩
          exact congrArg Value.bool (by decide +kernel)
end Go.Proofs.Ytfmdhpgfbojjaaa
