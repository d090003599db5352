/- Chapter 17: the laws on literals and stars. -/
import Derived.Test.YtigmejjkmoaimaaW17h
namespace Go.Proofs.Ytigmejjkmoaimaa
open Gk Pat
set_option linter.unusedVariables false
set_option linter.unusedSimpArgs false

theorem LitLaw_any (s t : List UInt8) (B w : World) (I : Im) (As : List Assn) (hS : Sat B w I As) (hm1 : s.length ≤ maxLen) (hm2 : t.length ≤ maxLen) :
    Calls Try.prog 7 [S s, S t].toArray w (Ret fun v w' => v = .bool true ∧ ∃ J, Le I J ∧ Sat B w' J As) := by
  refine calls Try.func7 rfl Try.ntmps7 rfl ?_
  refine WC.seq ?_
  refine WC.region ?_
  refine WL.val (.assign (.of rfl)) rfl ?_
  refine WL.nil ?_
  refine WC.seq ?_
  refine WC.region ?_
  refine WL.call Try.func9 rfl evs_nil rfl (awake_any B w I As hS) ?_
  clear hS
  rintro _ w ⟨rfl, J0, hJ0, hS⟩
  refine WL.val (.assign (.of rfl)) rfl ?_
  refine WL.nil ?_
  refine WC.seq ?_
  refine WC.seq ?_
  refine WC.region ?_
  refine WL.val (.move (.of rfl)) rfl ?_
  refine WL.val (.len (.of rfl) Try.underlying9) rfl ?_
  refine WL.val (.gtr (.of rfl) (.of rfl)) rfl ?_
  refine WL.val (.move (.of rfl)) rfl ?_
  refine WL.gval rfl rfl (fun hg1 => (.move (.of rfl))) rfl ?_
  refine WL.gval rfl rfl (fun hg1 => (.len (.gd hg1 rfl) Try.underlying9)) rfl ?_
  refine WL.gval rfl rfl (fun hg1 => (.gtr (.gd hg1 rfl) (.of rfl))) rfl ?_
  refine WL.val (.por (.of rfl) (.of rfl) (.of rfl)) rfl ?_
  refine WL.nil ?_
  refine WC.cond rfl (fun hb19 => ?_) (fun hb19 => ?_)
  ·
    have hc19 := hb19; try simp only [decide_eq_true_eq, decide_eq_false_iff_not, beq_iff_eq, beq_eq_false_iff_ne, bne_iff_ne, Bool.not_eq_true', Bool.not_eq_false', Bool.or_eq_true, Bool.and_eq_true, Bool.or_eq_false_iff, Bool.and_eq_false_iff, ne_eq, Int.not_lt, Int.not_le, bne_eq_false_iff_eq, Bool.not_eq_true, Bool.not_eq_false] at hc19
    refine WC.seq ?_
    refine WC.region ?_
    refine WL.val (.move (.of rfl)) rfl ?_
    refine WL.val (.assign (.of rfl)) rfl ?_
    refine WL.nil ?_
    refine WC.ret ?_
    refine ret1 Try.results7 rfl ?_
    exact ⟨_, rfl, rfl, J0, hJ0, hS⟩
  ·
    have hc19 := hb19; try simp only [decide_eq_true_eq, decide_eq_false_iff_not, beq_iff_eq, beq_eq_false_iff_ne, bne_iff_ne, Bool.not_eq_true', Bool.not_eq_false', Bool.or_eq_true, Bool.and_eq_true, Bool.or_eq_false_iff, Bool.and_eq_false_iff, ne_eq, Int.not_lt, Int.not_le, bne_eq_false_iff_eq, Bool.not_eq_true, Bool.not_eq_false] at hc19
    refine WC.skip ?_
    refine WC.seq ?_
    refine WC.region ?_
    refine WL.val (.move (.of rfl)) rfl ?_
    refine WL.call Try.func17 rfl (evs_cons (.of rfl) evs_nil) rfl (Literal_any s (by omega) B w J0 As hS) ?_
    clear hS
    rintro _ w ⟨rfl, hS⟩
    refine WL.val (.assign (.of rfl)) rfl ?_
    refine WL.nil ?_
    refine WC.seq ?_
    have hl := lit_len s
    refine WC.region ?_
    refine WL.val (.move (.of rfl)) rfl ?_
    refine WL.val (.move (.of rfl)) rfl ?_
    refine WL.call Try.func10 rfl (evs_cons (.of rfl) (evs_cons (.of rfl) evs_nil)) rfl (matches_any (lit s) s (by (try simp only [List.length_append, List.length_cons, List.length_nil]); omega) (by omega) B w J0 As hS) ?_
    clear hS
    rintro _ w ⟨rfl, J1, hJ1, hS⟩
    refine WL.val (.move (.of rfl)) rfl ?_
    refine WL.val (.extract (.of rfl) rfl) rfl ?_
    refine WL.val (.extract (.of rfl) rfl) rfl ?_
    refine WL.val (.assign (.of rfl)) rfl ?_
    refine WL.val (.assign (.of rfl)) rfl ?_
    refine WL.nil ?_
    refine WC.seq ?_
    refine WC.region ?_
    refine WL.val (.move (.of rfl)) rfl ?_
    refine WL.val (.move (.of rfl)) rfl ?_
    refine WL.call Try.func10 rfl (evs_cons (.of rfl) (evs_cons (.of rfl) evs_nil)) rfl (matches_any (lit s) t (by (try simp only [List.length_append, List.length_cons, List.length_nil]); omega) (by omega) B w J1 As hS) ?_
    clear hS
    rintro _ w ⟨rfl, J2, hJ2, hS⟩
    refine WL.val (.move (.of rfl)) rfl ?_
    refine WL.val (.extract (.of rfl) rfl) rfl ?_
    refine WL.val (.extract (.of rfl) rfl) rfl ?_
    refine WL.val (.assign (.of rfl)) rfl ?_
    refine WL.val (.assign (.of rfl)) rfl ?_
    refine WL.nil ?_
    refine WC.seq ?_
    refine WC.region ?_
    refine WL.val (.move (.of rfl)) rfl ?_
    refine WL.val (.move (.of rfl)) rfl ?_
    refine WL.gval rfl rfl (fun hg1 => (.move (.of rfl))) rfl ?_
    refine WL.gval rfl rfl (fun hg1 => (.move (.of rfl))) rfl ?_
    refine WL.gcall (T := fun w => Sat B w J2 As) rfl rfl rfl Try.func18 rfl (fun hg1 => (evs_cons (.gd hg1 rfl) evs_nil)) rfl (fun hg1 => RefLiteral_any s (by omega) B w J2 As hS) hS ?_
    clear hS; intro w hS
    refine WL.gval rfl rfl (fun hg1 => (.eqs (.gd hg1 rfl) (.gd hg1 rfl))) rfl ?_
    refine WL.val (.pand (.of rfl) (.of rfl) (.of rfl)) rfl ?_
    refine WL.val (.move (.of rfl)) rfl ?_
    refine WL.gval rfl rfl (fun hg1 => (.move (.of rfl))) rfl ?_
    refine WL.val (.pand (.of rfl) (.of rfl) (.of rfl)) rfl ?_
    refine WL.val (.move (.of rfl)) rfl ?_
    refine WL.gval rfl rfl (fun hg1 => (.move (.of rfl))) rfl ?_
    refine WL.val (.pand (.of rfl) (.of rfl) (.of rfl)) rfl ?_
    refine WL.val (.move (.of rfl)) rfl ?_
    refine WL.gval rfl rfl (fun hg1 => (.move (.of rfl))) rfl ?_
    refine WL.val (.pand (.of rfl) (.of rfl) (.of rfl)) rfl ?_
    refine WL.val (.move (.of rfl)) rfl ?_
    refine WL.gval rfl rfl (fun hg1 => (.move (.of rfl))) rfl ?_
    refine WL.gval rfl rfl (fun hg1 => (.move (.of rfl))) rfl ?_
    refine WL.gval rfl rfl (fun hg1 => (.move (.of rfl))) rfl ?_
    refine WL.gval rfl rfl (fun hg1 => (.eqs (.gd hg1 rfl) (.gd hg1 rfl))) rfl ?_
    refine WL.gval rfl rfl (fun hg1 => (.eqb (.gd hg1 rfl) (.gd hg1 rfl) Try.underlying4)) rfl ?_
    refine WL.val (.pand (.of rfl) (.of rfl) (.of rfl)) rfl ?_
    refine WL.val (.assign (.of rfl)) rfl ?_
    refine WL.nil ?_
    refine WC.ret ?_
    refine ret1 Try.results7 rfl ?_
    refine ⟨_, rfl, ?_, J2, (hJ0.trans hJ1).trans hJ2, hS⟩
    obtain ⟨k1, k2⟩ := literal s s (by omega)
    obtain ⟨k3, k4⟩ := literal s t (by omega)
    rw [k1, k2, k3, k4]; simp
theorem StarsLaw_any (a b s : List UInt8) (B w : World) (I : Im) (As : List Assn) (hS : Sat B w I As) (hm1 : a.length ≤ maxLen) (hm2 : b.length ≤ maxLen) (hm3 : s.length ≤ maxLen) :
    Calls Try.prog 8 [S a, S b, S s].toArray w (Ret fun v w' => v = .bool true ∧ ∃ J, Le I J ∧ Sat B w' J As) := by
  refine calls Try.func8 rfl Try.ntmps8 rfl ?_
  refine WC.seq ?_
  refine WC.region ?_
  refine WL.val (.assign (.of rfl)) rfl ?_
  refine WL.nil ?_
  refine WC.seq ?_
  refine WC.region ?_
  refine WL.call Try.func9 rfl evs_nil rfl (awake_any B w I As hS) ?_
  clear hS
  rintro _ w ⟨rfl, J0, hJ0, hS⟩
  refine WL.val (.assign (.of rfl)) rfl ?_
  refine WL.nil ?_
  refine WC.seq ?_
  refine WC.seq ?_
  refine WC.region ?_
  refine WL.val (.move (.of rfl)) rfl ?_
  refine WL.val (.len (.of rfl) Try.underlying9) rfl ?_
  refine WL.val (.gtr (.of rfl) (.of rfl)) rfl ?_
  refine WL.val (.move (.of rfl)) rfl ?_
  refine WL.gval rfl rfl (fun hg1 => (.move (.of rfl))) rfl ?_
  refine WL.gval rfl rfl (fun hg1 => (.len (.gd hg1 rfl) Try.underlying9)) rfl ?_
  refine WL.gval rfl rfl (fun hg1 => (.gtr (.gd hg1 rfl) (.of rfl))) rfl ?_
  refine WL.val (.por (.of rfl) (.of rfl) (.of rfl)) rfl ?_
  refine WL.val (.move (.of rfl)) rfl ?_
  refine WL.gval rfl rfl (fun hg1 => (.move (.of rfl))) rfl ?_
  refine WL.gval rfl rfl (fun hg1 => (.len (.gd hg1 rfl) Try.underlying9)) rfl ?_
  refine WL.gval rfl rfl (fun hg1 => (.gtr (.gd hg1 rfl) (.of rfl))) rfl ?_
  refine WL.val (.por (.of rfl) (.of rfl) (.of rfl)) rfl ?_
  refine WL.nil ?_
  refine WC.cond rfl (fun hb30 => ?_) (fun hb30 => ?_)
  ·
    have hc30 := hb30; try simp only [decide_eq_true_eq, decide_eq_false_iff_not, beq_iff_eq, beq_eq_false_iff_ne, bne_iff_ne, Bool.not_eq_true', Bool.not_eq_false', Bool.or_eq_true, Bool.and_eq_true, Bool.or_eq_false_iff, Bool.and_eq_false_iff, ne_eq, Int.not_lt, Int.not_le, bne_eq_false_iff_eq, Bool.not_eq_true, Bool.not_eq_false] at hc30
    refine WC.seq ?_
    refine WC.region ?_
    refine WL.val (.move (.of rfl)) rfl ?_
    refine WL.val (.assign (.of rfl)) rfl ?_
    refine WL.nil ?_
    refine WC.ret ?_
    refine ret1 Try.results8 rfl ?_
    exact ⟨_, rfl, rfl, J0, hJ0, hS⟩
  ·
    have hc30 := hb30; try simp only [decide_eq_true_eq, decide_eq_false_iff_not, beq_iff_eq, beq_eq_false_iff_ne, bne_iff_ne, Bool.not_eq_true', Bool.not_eq_false', Bool.or_eq_true, Bool.and_eq_true, Bool.or_eq_false_iff, Bool.and_eq_false_iff, ne_eq, Int.not_lt, Int.not_le, bne_eq_false_iff_eq, Bool.not_eq_true, Bool.not_eq_false] at hc30
    refine WC.skip ?_
    refine WC.seq ?_
    refine WC.region ?_
    refine WL.val (.move (.of rfl)) rfl ?_
    refine WL.call Try.func17 rfl (evs_cons (.of rfl) evs_nil) rfl (Literal_any a (by omega) B w J0 As hS) ?_
    clear hS
    rintro _ w ⟨rfl, hS⟩
    refine WL.val (.assign (.of rfl)) rfl ?_
    refine WL.nil ?_
    refine WC.seq ?_
    refine WC.region ?_
    refine WL.val (.move (.of rfl)) rfl ?_
    refine WL.call Try.func17 rfl (evs_cons (.of rfl) evs_nil) rfl (Literal_any b (by omega) B w J0 As hS) ?_
    clear hS
    rintro _ w ⟨rfl, hS⟩
    refine WL.val (.assign (.of rfl)) rfl ?_
    refine WL.nil ?_
    refine WC.seq ?_
    have hla := lit_len a
    have hlb := lit_len b
    refine WC.region ?_
    refine WL.val (.move (.of rfl)) rfl ?_
    refine WL.val (.cat (.of rfl) (.of rfl) (by (try simp only [List.length_append, List.length_cons, List.length_nil]); omega)) rfl ?_
    refine WL.val (.move (.of rfl)) rfl ?_
    refine WL.val (.cat (.of rfl) (.of rfl) (by (try simp only [List.length_append, List.length_cons, List.length_nil]); omega)) rfl ?_
    refine WL.val (.move (.of rfl)) rfl ?_
    refine WL.call Try.func10 rfl (evs_cons (.of rfl) (evs_cons (.of rfl) evs_nil)) rfl (matches_any (lit a ++ [42] ++ lit b) s (by (try simp only [List.length_append, List.length_cons, List.length_nil]); omega) (by omega) B w J0 As hS) ?_
    clear hS
    rintro _ w ⟨rfl, J1, hJ1, hS⟩
    refine WL.val (.move (.of rfl)) rfl ?_
    refine WL.val (.extract (.of rfl) rfl) rfl ?_
    refine WL.val (.extract (.of rfl) rfl) rfl ?_
    refine WL.val (.assign (.of rfl)) rfl ?_
    refine WL.val (.assign (.of rfl)) rfl ?_
    refine WL.nil ?_
    refine WC.seq ?_
    refine WC.region ?_
    refine WL.val (.move (.of rfl)) rfl ?_
    refine WL.val (.cat (.of rfl) (.of rfl) (by (try simp only [List.length_append, List.length_cons, List.length_nil]); omega)) rfl ?_
    refine WL.val (.move (.of rfl)) rfl ?_
    refine WL.val (.cat (.of rfl) (.of rfl) (by (try simp only [List.length_append, List.length_cons, List.length_nil]); omega)) rfl ?_
    refine WL.val (.move (.of rfl)) rfl ?_
    refine WL.call Try.func10 rfl (evs_cons (.of rfl) (evs_cons (.of rfl) evs_nil)) rfl (matches_any (lit a ++ [42, 42] ++ lit b) s (by (try simp only [List.length_append, List.length_cons, List.length_nil]); omega) (by omega) B w J1 As hS) ?_
    clear hS
    rintro _ w ⟨rfl, J2, hJ2, hS⟩
    refine WL.val (.move (.of rfl)) rfl ?_
    refine WL.val (.extract (.of rfl) rfl) rfl ?_
    refine WL.val (.extract (.of rfl) rfl) rfl ?_
    refine WL.val (.assign (.of rfl)) rfl ?_
    refine WL.val (.assign (.of rfl)) rfl ?_
    refine WL.nil ?_
    refine WC.seq ?_
    refine WC.region ?_
    refine WL.val (.move (.of rfl)) rfl ?_
    refine WL.val (.len (.of rfl) Try.underlying9) rfl ?_
    refine WL.val (.move (.of rfl)) rfl ?_
    refine WL.val (.len (.of rfl) Try.underlying9) rfl ?_
    refine WL.val (.move (.of rfl)) rfl ?_
    refine WL.val (.len (.of rfl) Try.underlying9) rfl ?_
    refine WL.val (.add (.of rfl) (.of rfl) ⟨by omega, by omega⟩) rfl ?_
    refine WL.val (.geq (.of rfl) (.of rfl)) rfl ?_
    refine WL.val (.move (.of rfl)) rfl ?_
    refine WL.gval rfl rfl (fun hg1 => (.move (.of rfl))) rfl ?_
    refine WL.gval rfl rfl (fun hg1 => (.move (.of rfl))) rfl ?_
    refine WL.gval rfl rfl (fun hg1 => (.len (.gd hg1 rfl) Try.underlying9)) rfl ?_
    refine WL.gval rfl rfl (fun hg1 => (.subTo (.gd hg1 rfl) (.gd hg1 rfl) (by (try simp only [decide_eq_true_eq, decide_eq_false_iff_not, beq_iff_eq, beq_eq_false_iff_ne, bne_iff_ne, Bool.not_eq_true', Bool.not_eq_false', Bool.or_eq_true, Bool.and_eq_true, Bool.or_eq_false_iff, Bool.and_eq_false_iff, ne_eq, Int.not_lt, Int.not_le, bne_eq_false_iff_eq, Bool.not_eq_true, Bool.not_eq_false] at hg1); omega) (by (try simp only [decide_eq_true_eq, decide_eq_false_iff_not, beq_iff_eq, beq_eq_false_iff_ne, bne_iff_ne, Bool.not_eq_true', Bool.not_eq_false', Bool.or_eq_true, Bool.and_eq_true, Bool.or_eq_false_iff, Bool.and_eq_false_iff, ne_eq, Int.not_lt, Int.not_le, bne_eq_false_iff_eq, Bool.not_eq_true, Bool.not_eq_false] at hg1); omega) Try.underlying9)) rfl ?_
    refine WL.gval rfl rfl (fun hg1 => (.move (.of rfl))) rfl ?_
    refine WL.gval rfl rfl (fun hg1 => (.eqs (.gd hg1 rfl) (.gd hg1 rfl))) rfl ?_
    refine WL.val (.pand (.of rfl) (.of rfl) (.of rfl)) rfl ?_
    refine WL.val (.move (.of rfl)) rfl ?_
    refine WL.gval rfl rfl (fun hg1 => (.move (.of rfl))) rfl ?_
    refine WL.gval rfl rfl (fun hg1 => (.move (.of rfl))) rfl ?_
    refine WL.gval rfl rfl (fun hg1 => (.len (.gd hg1 rfl) Try.underlying9)) rfl ?_
    refine WL.gval rfl rfl (fun hg1 => (.move (.of rfl))) rfl ?_
    refine WL.gval rfl rfl (fun hg1 => (.len (.gd hg1 rfl) Try.underlying9)) rfl ?_
    refine WL.gval rfl rfl (fun hg1 => (.sub (.gd hg1 rfl) (.gd hg1 rfl) ⟨by omega, by omega⟩)) rfl ?_
    refine WL.gval rfl rfl (fun hg1 => (.subFrom (.gd hg1 rfl) (.gd hg1 rfl) (by (try simp only [decide_eq_true_eq, decide_eq_false_iff_not, beq_iff_eq, beq_eq_false_iff_ne, bne_iff_ne, Bool.not_eq_true', Bool.not_eq_false', Bool.or_eq_true, Bool.and_eq_true, Bool.or_eq_false_iff, Bool.and_eq_false_iff, ne_eq, Int.not_lt, Int.not_le, bne_eq_false_iff_eq, Bool.not_eq_true, Bool.not_eq_false] at hg1); omega) (by (try simp only [decide_eq_true_eq, decide_eq_false_iff_not, beq_iff_eq, beq_eq_false_iff_ne, bne_iff_ne, Bool.not_eq_true', Bool.not_eq_false', Bool.or_eq_true, Bool.and_eq_true, Bool.or_eq_false_iff, Bool.and_eq_false_iff, ne_eq, Int.not_lt, Int.not_le, bne_eq_false_iff_eq, Bool.not_eq_true, Bool.not_eq_false] at hg1); omega) Try.underlying9)) rfl ?_
    refine WL.gval rfl rfl (fun hg1 => (.move (.of rfl))) rfl ?_
    refine WL.gval rfl rfl (fun hg1 => (.eqs (.gd hg1 rfl) (.gd hg1 rfl))) rfl ?_
    refine WL.val (.pand (.of rfl) (.of rfl) (.of rfl)) rfl ?_
    refine WL.val (.assign (.of rfl)) rfl ?_
    refine WL.nil ?_
    refine WC.seq ?_
    refine WC.region ?_
    refine WL.val (.move (.of rfl)) rfl ?_
    refine WL.val (.assign (.of rfl)) rfl ?_
    refine WL.nil ?_
    refine WC.seq ?_
    refine WC.seq ?_
    refine WC.region ?_
    refine WL.val (.move (.of rfl)) rfl ?_
    refine WL.val (.len (.of rfl) Try.underlying9) rfl ?_
    refine WL.val (.assign (.of rfl)) rfl ?_
    refine WL.nil ?_
    refine WC.block ?_
    refine WC.loop (σ := Nat) (fun k => [(0, S a), (1, S b), (2, S s), (7, .bool true), (10, .bool (mtch (lit a ++ [42] ++ lit b) s).1), (11, .bool (mtch (lit a ++ [42] ++ lit b) s).2), (12, .bool (mtch (lit a ++ [42, 42] ++ lit b) s).1), (13, .bool (mtch (lit a ++ [42, 42] ++ lit b) s).2), (14, .bool (fitsAB a b s)), (15, .bool (iter (flatAt s a.length) (fitsAB a b s) k)), (16, I64 ((a.length + k : Nat)))]) (fun k w => (fitsAB a b s = true → a.length + k ≤ s.length - b.length) ∧ (fitsAB a b s = false → k = 0) ∧ Sat B w J2 As) (fun k => s.length - (a.length + k)) 0 ⟨rfl, rfl, rfl, rfl, rfl, rfl, rfl, rfl, rfl, rfl, rfl, trivial⟩ ⟨fun h => by simp [fitsAB] at h; omega, fun _ => rfl, hS⟩ ?_
    rintro k w ⟨hk1, hk2, hS⟩
    change WC _ _ _ _ [(0, S a), (1, S b), (2, S s), (7, .bool true), (10, .bool (mtch (lit a ++ [42] ++ lit b) s).1), (11, .bool (mtch (lit a ++ [42] ++ lit b) s).2), (12, .bool (mtch (lit a ++ [42, 42] ++ lit b) s).1), (13, .bool (mtch (lit a ++ [42, 42] ++ lit b) s).2), (14, .bool (fitsAB a b s)), (15, .bool (iter (flatAt s a.length) (fitsAB a b s) k)), (16, I64 ((a.length + k : Nat)))] w
    refine WC.seq ?_
    refine WC.seq ?_
    refine WC.region ?_
    refine WL.val (.move (.of rfl)) rfl ?_
    refine WL.val (.move (.of rfl)) rfl ?_
    refine WL.gval rfl rfl (fun hg1 => (.move (.of rfl))) rfl ?_
    refine WL.gval rfl rfl (fun hg1 => (.move (.of rfl))) rfl ?_
    refine WL.gval rfl rfl (fun hg1 => (.len (.gd hg1 rfl) Try.underlying9)) rfl ?_
    refine WL.gval rfl rfl (fun hg1 => (.move (.of rfl))) rfl ?_
    refine WL.gval rfl rfl (fun hg1 => (.len (.gd hg1 rfl) Try.underlying9)) rfl ?_
    refine WL.gval rfl rfl (fun hg1 => (.sub (.gd hg1 rfl) (.gd hg1 rfl) ⟨by omega, by omega⟩)) rfl ?_
    refine WL.gval rfl rfl (fun hg1 => (.lss (.gd hg1 rfl) (.gd hg1 rfl))) rfl ?_
    refine WL.val (.pand (.of rfl) (.of rfl) (.of rfl)) rfl ?_
    refine WL.nil ?_
    refine WC.cond rfl (fun hb93 => ?_) (fun hb93 => ?_)
    ·
      have hc93 := hb93; try simp only [decide_eq_true_eq, decide_eq_false_iff_not, beq_iff_eq, beq_eq_false_iff_ne, bne_iff_ne, Bool.not_eq_true', Bool.not_eq_false', Bool.or_eq_true, Bool.and_eq_true, Bool.or_eq_false_iff, Bool.and_eq_false_iff, ne_eq, Int.not_lt, Int.not_le, bne_eq_false_iff_eq, Bool.not_eq_true, Bool.not_eq_false] at hc93
      refine WC.skip ?_
      refine WC.seq ?_
      refine WC.block ?_
      refine WC.region ?_
      refine WL.val (.move (.of rfl)) rfl ?_
      refine WL.val (.move (.of rfl)) rfl ?_
      refine WL.gval rfl rfl (fun hg1 => (.move (.of rfl))) rfl ?_
      refine WL.gval rfl rfl (fun hg1 => (.move (.of rfl))) rfl ?_
      refine WL.gval rfl rfl (fun hg1 => (.index (.gd hg1 rfl) (.gd hg1 rfl) (by (try simp only [decide_eq_true_eq, decide_eq_false_iff_not, beq_iff_eq, beq_eq_false_iff_ne, bne_iff_ne, Bool.not_eq_true', Bool.not_eq_false', Bool.or_eq_true, Bool.and_eq_true, Bool.or_eq_false_iff, Bool.and_eq_false_iff, ne_eq, Int.not_lt, Int.not_le, bne_eq_false_iff_eq, Bool.not_eq_true, Bool.not_eq_false] at hg1); omega) (by (try simp only [decide_eq_true_eq, decide_eq_false_iff_not, beq_iff_eq, beq_eq_false_iff_ne, bne_iff_ne, Bool.not_eq_true', Bool.not_eq_false', Bool.or_eq_true, Bool.and_eq_true, Bool.or_eq_false_iff, Bool.and_eq_false_iff, ne_eq, Int.not_lt, Int.not_le, bne_eq_false_iff_eq, Bool.not_eq_true, Bool.not_eq_false] at hg1); omega) Try.underlying9)) rfl ?_
      refine WL.gval rfl rfl (fun hg1 => (.neq (.gd hg1 rfl) (.of rfl))) rfl ?_
      refine WL.val (.pand (.of rfl) (.of rfl) (.of rfl)) rfl ?_
      refine WL.val (.assign (.of rfl)) rfl ?_
      refine WL.nil ?_
      refine WC.region ?_
      refine WL.val (.move (.of rfl)) rfl ?_
      refine WL.val (.add (.of rfl) (.of rfl) ⟨by omega, by omega⟩) rfl ?_
      refine WL.val (.assign (.of rfl)) rfl ?_
      refine WL.nil ?_
      refine ⟨k + 1, ⟨rfl, rfl, rfl, rfl, rfl, rfl, rfl, rfl, rfl, rfl, rfl, trivial⟩, ⟨fun _ => by omega, fun h => (by rw [hc93.1] at h; cases h), hS⟩, by omega⟩
    ·
      have hc93 := hb93; try simp only [decide_eq_true_eq, decide_eq_false_iff_not, beq_iff_eq, beq_eq_false_iff_ne, bne_iff_ne, Bool.not_eq_true', Bool.not_eq_false', Bool.or_eq_true, Bool.and_eq_true, Bool.or_eq_false_iff, Bool.and_eq_false_iff, ne_eq, Int.not_lt, Int.not_le, bne_eq_false_iff_eq, Bool.not_eq_true, Bool.not_eq_false] at hc93
      refine WC.exit ?_
      refine WC.seq ?_
      refine WC.region ?_
      refine WL.val (.move (.of rfl)) rfl ?_
      refine WL.val (.move (.of rfl)) rfl ?_
      refine WL.gval rfl rfl (fun hg1 => (.move (.of rfl))) rfl ?_
      refine WL.val (.pand (.of rfl) (.of rfl) (.of rfl)) rfl ?_
      refine WL.val (.move (.of rfl)) rfl ?_
      refine WL.gval rfl rfl (fun hg1 => (.move (.of rfl))) rfl ?_
      refine WL.val (.pand (.of rfl) (.of rfl) (.of rfl)) rfl ?_
      refine WL.val (.move (.of rfl)) rfl ?_
      refine WL.gval rfl rfl (fun hg1 => (.move (.of rfl))) rfl ?_
      refine WL.gval rfl rfl (fun hg1 => (.move (.of rfl))) rfl ?_
      refine WL.gval rfl rfl (fun hg1 => (.eqb (.gd hg1 rfl) (.gd hg1 rfl) Try.underlying4)) rfl ?_
      refine WL.val (.pand (.of rfl) (.of rfl) (.of rfl)) rfl ?_
      refine WL.val (.move (.of rfl)) rfl ?_
      refine WL.gval rfl rfl (fun hg1 => (.move (.of rfl))) rfl ?_
      refine WL.gval rfl rfl (fun hg1 => (.move (.of rfl))) rfl ?_
      refine WL.gval rfl rfl (fun hg1 => (.eqb (.gd hg1 rfl) (.gd hg1 rfl) Try.underlying4)) rfl ?_
      refine WL.val (.pand (.of rfl) (.of rfl) (.of rfl)) rfl ?_
      refine WL.val (.assign (.of rfl)) rfl ?_
      refine WL.nil ?_
      refine WC.ret ?_
      refine ret1 Try.results8 rfl ?_
      refine ⟨_, rfl, ?_, J2, (hJ0.trans hJ1).trans hJ2, hS⟩
      obtain ⟨k1, k2⟩ := stars_one a b s (by omega) (by omega) k (fun hf => by have h1 := hk1 hf; rw [hf] at hb93; simp at hb93; omega) hk2
      obtain ⟨k3, k4⟩ := stars_two a b s (by omega) (by omega)
      rw [k1, k2, k3, k4]; simp
end Go.Proofs.Ytigmejjkmoaimaa
