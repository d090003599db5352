/- Chapter 17: the law on matches. -/
import Derived.Test.YtigmejjkmoaimaaW17g
namespace Go.Proofs.Ytigmejjkmoaimaa
open Gk Pat
set_option linter.unusedVariables false
set_option linter.unusedSimpArgs false

theorem Check_all (l : List UInt8) (B w : World) (I : Im) (As : List Assn) (hS : Sat B w I As) :
    Calls Try.prog 12 [S l].toArray w (Ret fun v w' => v = .tuple #[I64 (chk l).1, I64 (chk l).2] ∧ Sat B w' I As) := by
  by_cases hb : l.length ≤ 140737488351232
  · exact Check_any l B w I As hS hb
  · have hb2 : 200 < l.length := by omega
    refine calls Try.func12 rfl Try.ntmps12 rfl ?_
    refine WC.seq ?_
    refine WC.region ?_
    refine WL.val (.assign (.of rfl)) rfl ?_
    refine WL.val (.assign (.of rfl)) rfl ?_
    refine WL.nil ?_
    refine WC.seq ?_
    refine WC.seq ?_
    refine WC.region ?_
    refine WL.val (.move (.of rfl)) rfl ?_
    refine WL.val (.len (.of rfl) Try.underlying9) rfl ?_
    refine WL.val (.gtr (.of rfl) (.of rfl)) rfl ?_
    refine WL.nil ?_
    refine WC.cond rfl (fun hb8 => ?_) (fun hb8 => by exfalso; simp only [decide_eq_true_eq, decide_eq_false_iff_not, beq_iff_eq, beq_eq_false_iff_ne, bne_iff_ne, Bool.not_eq_true', Bool.not_eq_false', Bool.or_eq_true, Bool.and_eq_true, Bool.or_eq_false_iff, Bool.and_eq_false_iff, ne_eq, Int.not_lt, Int.not_le, bne_eq_false_iff_eq, Bool.not_eq_true, Bool.not_eq_false] at hb8; omega)
    have hc8 := hb8; try simp only [decide_eq_true_eq, decide_eq_false_iff_not, beq_iff_eq, beq_eq_false_iff_ne, bne_iff_ne, Bool.not_eq_true', Bool.not_eq_false', Bool.or_eq_true, Bool.and_eq_true, Bool.or_eq_false_iff, Bool.and_eq_false_iff, ne_eq, Int.not_lt, Int.not_le, bne_eq_false_iff_eq, Bool.not_eq_true, Bool.not_eq_false] at hc8
    refine WC.seq ?_
    refine WC.region ?_
    refine WL.val (.assign (.of rfl)) rfl ?_
    refine WL.val (.assign (.of rfl)) rfl ?_
    refine WL.nil ?_
    refine WC.ret ?_
    refine ret2 Try.results12 rfl rfl ?_
    exact ⟨_, rfl, by rw [chk, if_pos (by omega)], hS⟩
theorem cmp_some {l : List UInt8} (h : (chk l).1 = 0) : ∃ Q, cmp l = .ok Q := by
  cases hq : cmp l with
  | ok Q => exact ⟨Q, rfl⟩
  | error e =>
    obtain ⟨h1, h2⟩ := (cmp_chk l).1 e hq
    rw [h1] at h
    exact absurd h h2
theorem Matches_any (l s : List UInt8) (B w : World) (I : Im) (As : List Assn) (hS : Sat B w I As) (hm1 : l.length ≤ maxLen) (hm2 : s.length ≤ maxLen) :
    Calls Try.prog 6 [S l, S s].toArray w (Ret fun v w' => v = .bool true ∧ ∃ J, Le I J ∧ Sat B w' J As) := by
  refine calls Try.func6 rfl Try.ntmps6 rfl ?_
  refine WC.seq ?_
  refine WC.region ?_
  refine WL.val (.assign (.of rfl)) rfl ?_
  refine WL.nil ?_
  refine WC.seq ?_
  refine WC.region ?_
  refine WL.call Try.func9 rfl evs_nil rfl (awake_any B w I As hS) ?_
  clear hS
  rintro _ w ⟨rfl, J0, hJ0, hS⟩
  refine WL.val (.assign (.of rfl)) rfl ?_
  refine WL.nil ?_
  refine WC.seq ?_
  refine WC.region ?_
  refine WL.val (.move (.of rfl)) rfl ?_
  refine WL.call Try.func12 rfl (evs_cons (.of rfl) evs_nil) rfl (Check_all l B w J0 As hS) ?_
  clear hS
  rintro _ w ⟨rfl, hS⟩
  refine WL.val (.move (.of rfl)) rfl ?_
  refine WL.val (.extract (.of rfl) rfl) rfl ?_
  refine WL.val (.extract (.of rfl) rfl) rfl ?_
  refine WL.val (.assign (.of rfl)) rfl ?_
  refine WL.val (.assign (.of rfl)) rfl ?_
  refine WL.nil ?_
  refine WC.seq ?_
  refine WC.seq ?_
  refine WC.region ?_
  refine WL.val (.move (.of rfl)) rfl ?_
  refine WL.val (.len (.of rfl) Try.underlying9) rfl ?_
  refine WL.val (.gtr (.of rfl) (.of rfl)) rfl ?_
  refine WL.val (.move (.of rfl)) rfl ?_
  refine WL.gval rfl rfl (fun hg1 => (.move (.of rfl))) rfl ?_
  refine WL.gval rfl rfl (fun hg1 => (.len (.gd hg1 rfl) Try.underlying9)) rfl ?_
  refine WL.gval rfl rfl (fun hg1 => (.gtr (.gd hg1 rfl) (.of rfl))) rfl ?_
  refine WL.val (.por (.of rfl) (.of rfl) (.of rfl)) rfl ?_
  refine WL.val (.move (.of rfl)) rfl ?_
  refine WL.gval rfl rfl (fun hg1 => (.move (.of rfl))) rfl ?_
  refine WL.gval rfl rfl (fun hg1 => (.neq (.gd hg1 rfl) (.of rfl))) rfl ?_
  refine WL.val (.por (.of rfl) (.of rfl) (.of rfl)) rfl ?_
  refine WL.nil ?_
  refine WC.cond rfl (fun hb29 => ?_) (fun hb29 => ?_)
  ·
    have hc29 := hb29; try simp only [decide_eq_true_eq, decide_eq_false_iff_not, beq_iff_eq, beq_eq_false_iff_ne, bne_iff_ne, Bool.not_eq_true', Bool.not_eq_false', Bool.or_eq_true, Bool.and_eq_true, Bool.or_eq_false_iff, Bool.and_eq_false_iff, ne_eq, Int.not_lt, Int.not_le, bne_eq_false_iff_eq, Bool.not_eq_true, Bool.not_eq_false] at hc29
    refine WC.seq ?_
    refine WC.region ?_
    refine WL.val (.move (.of rfl)) rfl ?_
    refine WL.val (.assign (.of rfl)) rfl ?_
    refine WL.nil ?_
    refine WC.ret ?_
    refine ret1 Try.results6 rfl ?_
    exact ⟨_, rfl, rfl, J0, hJ0, hS⟩
  ·
    have hc29 := hb29; try simp only [decide_eq_true_eq, decide_eq_false_iff_not, beq_iff_eq, beq_eq_false_iff_ne, bne_iff_ne, Bool.not_eq_true', Bool.not_eq_false', Bool.or_eq_true, Bool.and_eq_true, Bool.or_eq_false_iff, Bool.and_eq_false_iff, ne_eq, Int.not_lt, Int.not_le, bne_eq_false_iff_eq, Bool.not_eq_true, Bool.not_eq_false] at hc29
    refine WC.skip ?_
    refine WC.seq ?_
    refine WC.region ?_
    refine WL.val (.move (.of rfl)) rfl ?_
    obtain ⟨Q, hQ⟩ := cmp_some (l := l) (by simpa using hc29.2)
    refine WL.call Try.func11 rfl (evs_cons (.of rfl) evs_nil) rfl (Compile_ok hQ B w J0 As hS (by omega)) ?_
    clear hS
    rintro _ w ⟨p, J1, rfl, hJ1, hP, hS⟩
    refine WL.val (.move (.of rfl)) rfl ?_
    refine WL.val (.extract (.of rfl) rfl) rfl ?_
    refine WL.val (.extract (.of rfl) rfl) rfl ?_
    refine WL.val (.extract (.of rfl) rfl) rfl ?_
    refine WL.val (.assign (.of rfl)) rfl ?_
    refine WL.val (.assign (.of rfl)) rfl ?_
    refine WL.val (.assign (.of rfl)) rfl ?_
    refine WL.nil ?_
    refine WC.seq ?_
    refine WC.seq ?_
    refine WC.region ?_
    refine WL.val (.move (.of rfl)) rfl ?_
    refine WL.val (.eqp (.of rfl) (.of rfl) Try.underlying26) rfl ?_
    refine WL.val (.move (.of rfl)) rfl ?_
    refine WL.gval rfl rfl (fun hg1 => (.move (.of rfl))) rfl ?_
    refine WL.gval rfl rfl (fun hg1 => (.neq (.gd hg1 rfl) (.of rfl))) rfl ?_
    refine WL.val (.por (.of rfl) (.of rfl) (.of rfl)) rfl ?_
    refine WL.nil ?_
    refine WC.cond rfl (fun hb42 => ?_) (fun hb42 => ?_)
    ·
      have hc42 := hb42; try simp only [decide_eq_true_eq, decide_eq_false_iff_not, beq_iff_eq, beq_eq_false_iff_ne, bne_iff_ne, Bool.not_eq_true', Bool.not_eq_false', Bool.or_eq_true, Bool.and_eq_true, Bool.or_eq_false_iff, Bool.and_eq_false_iff, ne_eq, Int.not_lt, Int.not_le, bne_eq_false_iff_eq, Bool.not_eq_true, Bool.not_eq_false] at hc42
      refine WC.seq ?_
      refine WC.region ?_
      refine WL.val (.assign (.of rfl)) rfl ?_
      refine WL.nil ?_
      refine WC.ret ?_
      refine ret1 Try.results6 rfl ?_
      exfalso; simp at hb42
    ·
      have hc42 := hb42; try simp only [decide_eq_true_eq, decide_eq_false_iff_not, beq_iff_eq, beq_eq_false_iff_ne, bne_iff_ne, Bool.not_eq_true', Bool.not_eq_false', Bool.or_eq_true, Bool.and_eq_true, Bool.or_eq_false_iff, Bool.and_eq_false_iff, ne_eq, Int.not_lt, Int.not_le, bne_eq_false_iff_eq, Bool.not_eq_true, Bool.not_eq_false] at hc42
      refine WC.skip ?_
      refine WC.seq ?_
      refine WC.region ?_
      refine WL.val (.move (.of rfl)) rfl ?_
      refine WL.val (.move (.of rfl)) rfl ?_
      refine WL.call Try.func14 rfl (evs_cons (.of rfl) (evs_cons (.of rfl) evs_nil)) rfl (Steps_any hQ p s (by omega) B w J1 As hS hP) ?_
      clear hS
      rintro _ w ⟨rfl, hS⟩
      refine WL.val (.assign (.of rfl)) rfl ?_
      refine WL.nil ?_
      refine WC.seq ?_
      have hm1 : ((l.length : Int) + 1) * ((s.length : Int) + 1) ≤ 101 * 201 := Int.mul_le_mul (by omega) (by omega) (by omega) (by omega)
      have hm0 : 1 * 1 ≤ ((l.length : Int) + 1) * ((s.length : Int) + 1) := Int.mul_le_mul (by omega) (by omega) (by omega) (by omega)
      have hst := run_steps Q s
      refine WC.region ?_
      refine WL.val (.move (.of rfl)) rfl ?_
      refine WL.val (.move (.of rfl)) rfl ?_
      refine WL.gval rfl rfl (fun hg1 => (.move (.of rfl))) rfl ?_
      refine WL.gval rfl rfl (fun hg1 => (.move (.of rfl))) rfl ?_
      refine WL.gcall (T := fun w => Sat B w J1 As) rfl rfl rfl Try.func15 rfl (fun hg1 => (evs_cons (.gd hg1 rfl) (evs_cons (.gd hg1 rfl) evs_nil))) rfl (fun hg1 => Match_any hQ p s (by omega) B w J1 As hS hP) hS ?_
      clear hS; rintro w hS
      refine WL.gval rfl rfl (fun hg1 => (.move (.of rfl))) rfl ?_
      refine WL.gval rfl rfl (fun hg1 => (.move (.of rfl))) rfl ?_
      refine WL.gcall (T := fun w => ∃ J, Le J1 J ∧ Sat B w J As) rfl rfl rfl Try.func16 rfl (fun hg1 => (evs_cons (.gd hg1 rfl) (evs_cons (.gd hg1 rfl) evs_nil))) rfl (fun hg1 => RefMatch_m hQ s (by omega) B w J1 As hS) ⟨J1, Le.refl _, hS⟩ ?_
      clear hS; rintro w ⟨J2, hJ2, hS⟩
      refine WL.gval rfl rfl (fun hg1 => (.eqb (.gd hg1 rfl) (.gd hg1 rfl) Try.underlying4)) rfl ?_
      refine WL.val (.pand (.of rfl) (.of rfl) (.of rfl)) rfl ?_
      refine WL.val (.move (.of rfl)) rfl ?_
      refine WL.gval rfl rfl (fun hg1 => (.move (.of rfl))) rfl ?_
      refine WL.gval rfl rfl (fun hg1 => (.geq (.gd hg1 rfl) (.of rfl))) rfl ?_
      refine WL.val (.pand (.of rfl) (.of rfl) (.of rfl)) rfl ?_
      refine WL.val (.move (.of rfl)) rfl ?_
      refine WL.gval rfl rfl (fun hg1 => (.move (.of rfl))) rfl ?_
      refine WL.gval rfl rfl (fun hg1 => (.move (.of rfl))) rfl ?_
      refine WL.gval rfl rfl (fun hg1 => (.len (.gd hg1 rfl) Try.underlying9)) rfl ?_
      refine WL.gval rfl rfl (fun hg1 => (.add (.gd hg1 rfl) (.of rfl) ⟨by omega, by omega⟩)) rfl ?_
      refine WL.gval rfl rfl (fun hg1 => (.move (.of rfl))) rfl ?_
      refine WL.gval rfl rfl (fun hg1 => (.len (.gd hg1 rfl) Try.underlying9)) rfl ?_
      refine WL.gval rfl rfl (fun hg1 => (.add (.gd hg1 rfl) (.of rfl) ⟨by omega, by omega⟩)) rfl ?_
      refine WL.gval rfl rfl (fun hg1 => .mul (.gd hg1 rfl) (.gd hg1 rfl) ⟨by omega, by omega⟩) rfl ?_
      refine WL.gval rfl rfl (fun hg1 => (.leq (.gd hg1 rfl) (.gd hg1 rfl))) rfl ?_
      refine WL.val (.pand (.of rfl) (.of rfl) (.of rfl)) rfl ?_
      refine WL.val (.assign (.of rfl)) rfl ?_
      refine WL.nil ?_
      refine WC.ret ?_
      refine ret1 Try.results6 rfl ?_
      refine ⟨_, rfl, ?_, J2, (hJ0.trans hJ1).trans hJ2, hS⟩
      simp; omega
end Go.Proofs.Ytigmejjkmoaimaa
