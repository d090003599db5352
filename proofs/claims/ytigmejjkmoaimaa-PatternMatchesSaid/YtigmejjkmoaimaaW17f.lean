/- Chapter 17: brackets, and patterns side by side. -/
import Derived.Test.YtigmejjkmoaimaaW17e
import Derived.Test.YtigmejjkmoaimaaPatY
namespace Go.Proofs.Ytigmejjkmoaimaa
open Gk Pat
set_option linter.unusedVariables false
set_option linter.unusedSimpArgs false

theorem CompT_ok {I : Im} {l : List UInt8} {po : Option Addr} {e a : Int} (h : CompT I l po e a) (h0 : po.isNone = false) : ∃ Q p, cmp l = .ok Q ∧ po = some p ∧ PatI I p Q l.length := by
  unfold CompT at h
  cases hq : cmp l with
  | error x => rw [hq] at h; obtain ⟨rfl, _⟩ := h; cases h0
  | ok Q => rw [hq] at h; obtain ⟨p, rfl, _, _, h4⟩ := h; exact ⟨Q, p, rfl, rfl, h4⟩
theorem CompT_mt {I : Im} {l : List UInt8} {po : Option Addr} {e a : Int} (h : CompT I l po e a) {s : List UInt8} : mtch l s = bif e != 0 then (false, false) else mtch l s := by
  obtain ⟨k1, k2, k3, k4⟩ := CompT_chk h
  cases he : (e != 0) with
  | false => rfl
  | true =>
    unfold CompT at h
    unfold mtch
    cases hq : cmp l with
    | error x => rfl
    | ok Q => rw [hq] at h; obtain ⟨p, rfl, rfl, rfl, h4⟩ := h; cases he
theorem matches_any (l s : List UInt8) (hl : l.length ≤ 140737488351232) (hs : s.length ≤ 1000000) (B w : World) (I : Im) (As : List Assn) (hS : Sat B w I As) :
    Calls Try.prog 10 [S l, S s].toArray w (Ret fun v w' => v = .tuple #[.bool (mtch l s).1, .bool (mtch l s).2] ∧ ∃ J, Le I J ∧ Sat B w' J As) := by
  refine calls Try.func10 rfl Try.ntmps10 rfl ?_
  refine WC.seq ?_
  refine WC.region ?_
  refine WL.val (.assign (.of rfl)) rfl ?_
  refine WL.val (.assign (.of rfl)) rfl ?_
  refine WL.nil ?_
  refine WC.seq ?_
  refine WC.region ?_
  refine WL.val (.move (.of rfl)) rfl ?_
  refine WL.call Try.func11 rfl (evs_cons (.of rfl) evs_nil) rfl (Compile_t l B w I As hS hl) ?_
  clear hS
  rintro _ w ⟨po, e, a, J1, rfl, hJ1, hc, hS⟩
  refine WL.val (.move (.of rfl)) rfl ?_
  refine WL.val (.extract (.of rfl) rfl) rfl ?_
  refine WL.val (.extract (.of rfl) rfl) rfl ?_
  refine WL.val (.extract (.of rfl) rfl) rfl ?_
  refine WL.val (.assign (.of rfl)) rfl ?_
  refine WL.val (.assign (.of rfl)) rfl ?_
  refine WL.val (.assign (.of rfl)) rfl ?_
  refine WL.nil ?_
  refine WC.seq ?_
  refine WC.seq ?_
  refine WC.region ?_
  refine WL.val (.move (.of rfl)) rfl ?_
  refine WL.val (.neq (.of rfl) (.of rfl)) rfl ?_
  refine WL.val (.move (.of rfl)) rfl ?_
  refine WL.gval rfl rfl (fun hg1 => (.move (.of rfl))) rfl ?_
  refine WL.gval rfl rfl (fun hg1 => (.eqp (.gd hg1 rfl) (.of rfl) Try.underlying26)) rfl ?_
  refine WL.val (.por (.of rfl) (.of rfl) (.of rfl)) rfl ?_
  refine WL.nil ?_
  refine WC.cond rfl (fun hb20 => ?_) (fun hb20 => ?_)
  ·
    have hc20 := hb20; try simp only [decide_eq_true_eq, decide_eq_false_iff_not, beq_iff_eq, beq_eq_false_iff_ne, bne_iff_ne, Bool.not_eq_true', Bool.not_eq_false', Bool.or_eq_true, Bool.and_eq_true, Bool.or_eq_false_iff, Bool.and_eq_false_iff, ne_eq, Int.not_lt, Int.not_le, bne_eq_false_iff_eq, Bool.not_eq_true, Bool.not_eq_false] at hc20
    refine WC.seq ?_
    refine WC.region ?_
    refine WL.val (.assign (.of rfl)) rfl ?_
    refine WL.val (.assign (.of rfl)) rfl ?_
    refine WL.nil ?_
    refine WC.ret ?_
    refine ret2 Try.results10 rfl rfl ?_
    obtain ⟨k1, k2, k3, k4⟩ := CompT_chk hc
    refine ⟨_, rfl, ?_, J1, hJ1, hS⟩
    rw [CompT_mt hc]; simp only [k3] at hb20; cases he : (e != 0)
    · simp [he] at hb20
    · rfl
  ·
    have hc20 := hb20; try simp only [decide_eq_true_eq, decide_eq_false_iff_not, beq_iff_eq, beq_eq_false_iff_ne, bne_iff_ne, Bool.not_eq_true', Bool.not_eq_false', Bool.or_eq_true, Bool.and_eq_true, Bool.or_eq_false_iff, Bool.and_eq_false_iff, ne_eq, Int.not_lt, Int.not_le, bne_eq_false_iff_eq, Bool.not_eq_true, Bool.not_eq_false] at hc20
    refine WC.skip ?_
    refine WC.seq ?_
    refine WC.region ?_
    refine WL.val (.move (.of rfl)) rfl ?_
    refine WL.val (.move (.of rfl)) rfl ?_
    obtain ⟨Q, p, hQ, hpo, hp⟩ := CompT_ok hc (by cases po <;> simp at hb20 ⊢)
    subst hpo
    refine WL.call Try.func15 rfl (evs_cons (.of rfl) (evs_cons (.of rfl) evs_nil)) rfl (Match_any hQ p s hs B w J1 As hS hp) ?_
    clear hS
    rintro _ w ⟨rfl, hS⟩
    refine WL.val (.assign (.of rfl)) rfl ?_
    refine WL.val (.assign (.of rfl)) rfl ?_
    refine WL.nil ?_
    refine WC.ret ?_
    refine ret2 Try.results10 rfl rfl ?_
    refine ⟨_, rfl, ?_, J1, hJ1, hS⟩
    unfold mtch; rw [hQ]
theorem Brackets_any (p q s : List UInt8) (B w : World) (I : Im) (As : List Assn) (hS : Sat B w I As) (hm1 : p.length ≤ maxLen) (hm2 : q.length ≤ maxLen) (hm3 : s.length ≤ maxLen) :
    Calls Try.prog 3 [S p, S q, S s].toArray w (Ret fun v w' => v = .bool true ∧ ∃ J, Le I J ∧ Sat B w' J As) := by
  refine calls Try.func3 rfl Try.ntmps3 rfl ?_
  refine WC.seq ?_
  refine WC.region ?_
  refine WL.val (.assign (.of rfl)) rfl ?_
  refine WL.nil ?_
  refine WC.seq ?_
  refine WC.region ?_
  refine WL.call Try.func9 rfl evs_nil rfl (awake_any B w I As hS) ?_
  clear hS
  rintro _ w ⟨rfl, J0, hJ0, hS⟩
  refine WL.val (.assign (.of rfl)) rfl ?_
  refine WL.nil ?_
  refine WC.seq ?_
  refine WC.seq ?_
  refine WC.region ?_
  refine WL.val (.move (.of rfl)) rfl ?_
  refine WL.val (.len (.of rfl) Try.underlying9) rfl ?_
  refine WL.val (.gtr (.of rfl) (.of rfl)) rfl ?_
  refine WL.val (.move (.of rfl)) rfl ?_
  refine WL.gval rfl rfl (fun hg1 => (.move (.of rfl))) rfl ?_
  refine WL.gval rfl rfl (fun hg1 => (.len (.gd hg1 rfl) Try.underlying9)) rfl ?_
  refine WL.gval rfl rfl (fun hg1 => (.gtr (.gd hg1 rfl) (.of rfl))) rfl ?_
  refine WL.val (.por (.of rfl) (.of rfl) (.of rfl)) rfl ?_
  refine WL.val (.move (.of rfl)) rfl ?_
  refine WL.gval rfl rfl (fun hg1 => (.move (.of rfl))) rfl ?_
  refine WL.gval rfl rfl (fun hg1 => (.len (.gd hg1 rfl) Try.underlying9)) rfl ?_
  refine WL.gval rfl rfl (fun hg1 => (.gtr (.gd hg1 rfl) (.of rfl))) rfl ?_
  refine WL.val (.por (.of rfl) (.of rfl) (.of rfl)) rfl ?_
  refine WL.nil ?_
  refine WC.cond rfl (fun hb29 => ?_) (fun hb29 => ?_)
  ·
    have hc29 := hb29; try simp only [decide_eq_true_eq, decide_eq_false_iff_not, beq_iff_eq, beq_eq_false_iff_ne, bne_iff_ne, Bool.not_eq_true', Bool.not_eq_false', Bool.or_eq_true, Bool.and_eq_true, Bool.or_eq_false_iff, Bool.and_eq_false_iff, ne_eq, Int.not_lt, Int.not_le, bne_eq_false_iff_eq, Bool.not_eq_true, Bool.not_eq_false] at hc29
    refine WC.seq ?_
    refine WC.region ?_
    refine WL.val (.move (.of rfl)) rfl ?_
    refine WL.val (.assign (.of rfl)) rfl ?_
    refine WL.nil ?_
    refine WC.ret ?_
    refine ret1 Try.results3 rfl ?_
    exact ⟨_, rfl, rfl, J0, hJ0, hS⟩
  ·
    have hc29 := hb29; try simp only [decide_eq_true_eq, decide_eq_false_iff_not, beq_iff_eq, beq_eq_false_iff_ne, bne_iff_ne, Bool.not_eq_true', Bool.not_eq_false', Bool.or_eq_true, Bool.and_eq_true, Bool.or_eq_false_iff, Bool.and_eq_false_iff, ne_eq, Int.not_lt, Int.not_le, bne_eq_false_iff_eq, Bool.not_eq_true, Bool.not_eq_false] at hc29
    refine WC.skip ?_
    refine WC.seq ?_
    refine WC.region ?_
    refine WL.val (.move (.of rfl)) rfl ?_
    refine WL.val (.move (.of rfl)) rfl ?_
    refine WL.call Try.func10 rfl (evs_cons (.of rfl) (evs_cons (.of rfl) evs_nil)) rfl (matches_any _ s (by (try simp only [List.length_append, List.length_cons, List.length_nil]); omega) (by (try simp only [List.length_take, List.length_drop]); omega) B w J0 As hS) ?_
    clear hS
    rintro _ w ⟨rfl, J1, hJ1, hS⟩
    refine WL.val (.move (.of rfl)) rfl ?_
    refine WL.val (.extract (.of rfl) rfl) rfl ?_
    refine WL.val (.extract (.of rfl) rfl) rfl ?_
    refine WL.val (.assign (.of rfl)) rfl ?_
    refine WL.val (.assign (.of rfl)) rfl ?_
    refine WL.nil ?_
    refine WC.seq ?_
    refine WC.region ?_
    refine WL.val (.move (.of rfl)) rfl ?_
    refine WL.val (.move (.of rfl)) rfl ?_
    refine WL.call Try.func10 rfl (evs_cons (.of rfl) (evs_cons (.of rfl) evs_nil)) rfl (matches_any _ s (by (try simp only [List.length_append, List.length_cons, List.length_nil]); omega) (by (try simp only [List.length_take, List.length_drop]); omega) B w J1 As hS) ?_
    clear hS
    rintro _ w ⟨rfl, J2, hJ2, hS⟩
    refine WL.val (.move (.of rfl)) rfl ?_
    refine WL.val (.extract (.of rfl) rfl) rfl ?_
    refine WL.val (.extract (.of rfl) rfl) rfl ?_
    refine WL.val (.assign (.of rfl)) rfl ?_
    refine WL.val (.assign (.of rfl)) rfl ?_
    refine WL.nil ?_
    refine WC.seq ?_
    refine WC.region ?_
    refine WL.val (.move (.of rfl)) rfl ?_
    refine WL.val (.cat (.of rfl) (.of rfl) (by (try simp only [List.length_append, List.length_cons, List.length_nil]); omega)) rfl ?_
    refine WL.val (.cat (.of rfl) (.of rfl) (by (try simp only [List.length_append, List.length_cons, List.length_nil]); omega)) rfl ?_
    refine WL.val (.move (.of rfl)) rfl ?_
    refine WL.val (.cat (.of rfl) (.of rfl) (by (try simp only [List.length_append, List.length_cons, List.length_nil]); omega)) rfl ?_
    refine WL.val (.cat (.of rfl) (.of rfl) (by (try simp only [List.length_append, List.length_cons, List.length_nil]); omega)) rfl ?_
    refine WL.val (.move (.of rfl)) rfl ?_
    refine WL.call Try.func10 rfl (evs_cons (.of rfl) (evs_cons (.of rfl) evs_nil)) rfl (matches_any _ s (by (try simp only [List.length_append, List.length_cons, List.length_nil]); omega) (by (try simp only [List.length_take, List.length_drop]); omega) B w J2 As hS) ?_
    clear hS
    rintro _ w ⟨rfl, J3, hJ3, hS⟩
    refine WL.val (.move (.of rfl)) rfl ?_
    refine WL.val (.extract (.of rfl) rfl) rfl ?_
    refine WL.val (.extract (.of rfl) rfl) rfl ?_
    refine WL.val (.assign (.of rfl)) rfl ?_
    refine WL.val (.assign (.of rfl)) rfl ?_
    refine WL.nil ?_
    refine WC.seq ?_
    refine WC.region ?_
    refine WL.val (.move (.of rfl)) rfl ?_
    refine WL.val (.cat (.of rfl) (.of rfl) (by (try simp only [List.length_append, List.length_cons, List.length_nil]); omega)) rfl ?_
    refine WL.val (.cat (.of rfl) (.of rfl) (by (try simp only [List.length_append, List.length_cons, List.length_nil]); omega)) rfl ?_
    refine WL.val (.move (.of rfl)) rfl ?_
    refine WL.call Try.func10 rfl (evs_cons (.of rfl) (evs_cons (.of rfl) evs_nil)) rfl (matches_any _ s (by (try simp only [List.length_append, List.length_cons, List.length_nil]); omega) (by (try simp only [List.length_take, List.length_drop]); omega) B w J3 As hS) ?_
    clear hS
    rintro _ w ⟨rfl, J4, hJ4, hS⟩
    refine WL.val (.move (.of rfl)) rfl ?_
    refine WL.val (.extract (.of rfl) rfl) rfl ?_
    refine WL.val (.extract (.of rfl) rfl) rfl ?_
    refine WL.val (.assign (.of rfl)) rfl ?_
    refine WL.val (.assign (.of rfl)) rfl ?_
    refine WL.nil ?_
    refine WC.seq ?_
    refine WC.seq ?_
    refine WC.region ?_
    refine WL.val (.move (.of rfl)) rfl ?_
    refine WL.val (.not (.of rfl)) rfl ?_
    refine WL.val (.move (.of rfl)) rfl ?_
    refine WL.gval rfl rfl (fun hg1 => (.move (.of rfl))) rfl ?_
    refine WL.gval rfl rfl (fun hg1 => (.not (.gd hg1 rfl))) rfl ?_
    refine WL.val (.por (.of rfl) (.of rfl) (.of rfl)) rfl ?_
    refine WL.nil ?_
    refine WC.cond rfl (fun hb67 => ?_) (fun hb67 => ?_)
    ·
      have hc67 := hb67; try simp only [decide_eq_true_eq, decide_eq_false_iff_not, beq_iff_eq, beq_eq_false_iff_ne, bne_iff_ne, Bool.not_eq_true', Bool.not_eq_false', Bool.or_eq_true, Bool.and_eq_true, Bool.or_eq_false_iff, Bool.and_eq_false_iff, ne_eq, Int.not_lt, Int.not_le, bne_eq_false_iff_eq, Bool.not_eq_true, Bool.not_eq_false] at hc67
      refine WC.seq ?_
      refine WC.region ?_
      refine WL.val (.move (.of rfl)) rfl ?_
      refine WL.val (.assign (.of rfl)) rfl ?_
      refine WL.nil ?_
      refine WC.ret ?_
      refine ret1 Try.results3 rfl ?_
      exact ⟨_, rfl, rfl, J4, ((((hJ0.trans hJ1).trans hJ2).trans hJ3).trans hJ4), hS⟩
    ·
      have hc67 := hb67; try simp only [decide_eq_true_eq, decide_eq_false_iff_not, beq_iff_eq, beq_eq_false_iff_ne, bne_iff_ne, Bool.not_eq_true', Bool.not_eq_false', Bool.or_eq_true, Bool.and_eq_true, Bool.or_eq_false_iff, Bool.and_eq_false_iff, ne_eq, Int.not_lt, Int.not_le, bne_eq_false_iff_eq, Bool.not_eq_true, Bool.not_eq_false] at hc67
      refine WC.skip ?_
      refine WC.seq ?_
      refine WC.region ?_
      refine WL.val (.move (.of rfl)) rfl ?_
      refine WL.val (.move (.of rfl)) rfl ?_
      refine WL.gval rfl rfl (fun hg1 => (.move (.of rfl))) rfl ?_
      refine WL.gval rfl rfl (fun hg1 => (.not (.gd hg1 rfl))) rfl ?_
      refine WL.gval rfl rfl (fun hg1 => (.move (.gd hg1 rfl))) rfl ?_
      refine WL.gval2 rfl rfl rfl (fun hg1 hg2 => (.move (.of rfl))) rfl ?_
      refine WL.gval2 rfl rfl rfl (fun hg1 hg2 => (.move (.of rfl))) rfl ?_
      refine WL.gval2 rfl rfl rfl (fun hg1 hg2 => (.move (.gd2 hg1 hg2 rfl))) rfl ?_
      refine WL.gval3 rfl rfl rfl (fun hg1 hg2 hg3 => (.move (.of rfl))) rfl ?_
      refine WL.gval2 rfl rfl rfl (fun hg1 hg2 => (.por (.gd2 hg1 hg2 rfl) (.of rfl) (.gd2 hg1 hg2 rfl))) rfl ?_
      refine WL.gval2 rfl rfl rfl (fun hg1 hg2 => (.eqb (.gd2 hg1 hg2 rfl) (.gd2 hg1 hg2 rfl) Try.underlying4)) rfl ?_
      refine WL.gval rfl rfl (fun hg1 => (.por (.gd hg1 rfl) (.of rfl) (.gd hg1 rfl))) rfl ?_
      refine WL.val (.pand (.of rfl) (.of rfl) (.of rfl)) rfl ?_
      refine WL.val (.move (.of rfl)) rfl ?_
      refine WL.gval rfl rfl (fun hg1 => (.move (.of rfl))) rfl ?_
      refine WL.gval rfl rfl (fun hg1 => (.not (.gd hg1 rfl))) rfl ?_
      refine WL.gval rfl rfl (fun hg1 => (.move (.gd hg1 rfl))) rfl ?_
      refine WL.gval2 rfl rfl rfl (fun hg1 hg2 => (.move (.of rfl))) rfl ?_
      refine WL.gval2 rfl rfl rfl (fun hg1 hg2 => (.move (.of rfl))) rfl ?_
      refine WL.gval2 rfl rfl rfl (fun hg1 hg2 => (.eqb (.gd2 hg1 hg2 rfl) (.gd2 hg1 hg2 rfl) Try.underlying4)) rfl ?_
      refine WL.gval rfl rfl (fun hg1 => (.por (.gd hg1 rfl) (.of rfl) (.gd hg1 rfl))) rfl ?_
      refine WL.val (.pand (.of rfl) (.of rfl) (.of rfl)) rfl ?_
      refine WL.val (.assign (.of rfl)) rfl ?_
      refine WL.nil ?_
      refine WC.ret ?_
      refine ret1 Try.results3 rfl ?_
      refine ⟨_, rfl, ?_, J4, ((((hJ0.trans hJ1).trans hJ2).trans hJ3).trans hJ4), hS⟩
      simp only [Bool.or_eq_false_iff, Bool.not_eq_false'] at hb67
      have e1 := brackets_two hb67.1 hb67.2
      have e2 := brackets_one hb67.1
      generalize mtch ([40] ++ p ++ [124] ++ q ++ [41]) s = c at *
      generalize mtch ([40] ++ p ++ [41]) s = d at *
      generalize mtch p s = a at *
      generalize mtch q s = b at *
      obtain ⟨c1, c2⟩ := c; obtain ⟨d1, d2⟩ := d; obtain ⟨a1, a2⟩ := a; obtain ⟨b1, b2⟩ := b
      simp only at e1 e2 hb67 ⊢
      obtain ⟨rfl, rfl⟩ := hb67
      cases c2 <;> cases d2 <;> simp at e1 e2 ⊢ <;> simp [*, gd]
theorem Side_any (p q s : List UInt8) (B w : World) (I : Im) (As : List Assn) (hS : Sat B w I As) (hm1 : p.length ≤ maxLen) (hm2 : q.length ≤ maxLen) (hm3 : s.length ≤ maxLen) :
    Calls Try.prog 4 [S p, S q, S s].toArray w (Ret fun v w' => v = .bool true ∧ ∃ J, Le I J ∧ Sat B w' J As) := by
  refine calls Try.func4 rfl Try.ntmps4 rfl ?_
  refine WC.seq ?_
  refine WC.region ?_
  refine WL.val (.assign (.of rfl)) rfl ?_
  refine WL.nil ?_
  refine WC.seq ?_
  refine WC.region ?_
  refine WL.call Try.func9 rfl evs_nil rfl (awake_any B w I As hS) ?_
  clear hS
  rintro _ w ⟨rfl, J0, hJ0, hS⟩
  refine WL.val (.assign (.of rfl)) rfl ?_
  refine WL.nil ?_
  refine WC.seq ?_
  refine WC.seq ?_
  refine WC.region ?_
  refine WL.val (.move (.of rfl)) rfl ?_
  refine WL.val (.len (.of rfl) Try.underlying9) rfl ?_
  refine WL.val (.gtr (.of rfl) (.of rfl)) rfl ?_
  refine WL.val (.move (.of rfl)) rfl ?_
  refine WL.gval rfl rfl (fun hg1 => (.move (.of rfl))) rfl ?_
  refine WL.gval rfl rfl (fun hg1 => (.len (.gd hg1 rfl) Try.underlying9)) rfl ?_
  refine WL.gval rfl rfl (fun hg1 => (.gtr (.gd hg1 rfl) (.of rfl))) rfl ?_
  refine WL.val (.por (.of rfl) (.of rfl) (.of rfl)) rfl ?_
  refine WL.val (.move (.of rfl)) rfl ?_
  refine WL.gval rfl rfl (fun hg1 => (.move (.of rfl))) rfl ?_
  refine WL.gval rfl rfl (fun hg1 => (.len (.gd hg1 rfl) Try.underlying9)) rfl ?_
  refine WL.gval rfl rfl (fun hg1 => (.gtr (.gd hg1 rfl) (.of rfl))) rfl ?_
  refine WL.val (.por (.of rfl) (.of rfl) (.of rfl)) rfl ?_
  refine WL.nil ?_
  refine WC.cond rfl (fun hb33 => ?_) (fun hb33 => ?_)
  ·
    have hc33 := hb33; try simp only [decide_eq_true_eq, decide_eq_false_iff_not, beq_iff_eq, beq_eq_false_iff_ne, bne_iff_ne, Bool.not_eq_true', Bool.not_eq_false', Bool.or_eq_true, Bool.and_eq_true, Bool.or_eq_false_iff, Bool.and_eq_false_iff, ne_eq, Int.not_lt, Int.not_le, bne_eq_false_iff_eq, Bool.not_eq_true, Bool.not_eq_false] at hc33
    refine WC.seq ?_
    refine WC.region ?_
    refine WL.val (.move (.of rfl)) rfl ?_
    refine WL.val (.assign (.of rfl)) rfl ?_
    refine WL.nil ?_
    refine WC.ret ?_
    refine ret1 Try.results4 rfl ?_
    exact ⟨_, rfl, rfl, J0, hJ0, hS⟩
  ·
    have hc33 := hb33; try simp only [decide_eq_true_eq, decide_eq_false_iff_not, beq_iff_eq, beq_eq_false_iff_ne, bne_iff_ne, Bool.not_eq_true', Bool.not_eq_false', Bool.or_eq_true, Bool.and_eq_true, Bool.or_eq_false_iff, Bool.and_eq_false_iff, ne_eq, Int.not_lt, Int.not_le, bne_eq_false_iff_eq, Bool.not_eq_true, Bool.not_eq_false] at hc33
    refine WC.skip ?_
    refine WC.seq ?_
    refine WC.region ?_
    refine WL.val (.move (.of rfl)) rfl ?_
    refine WL.val (.move (.of rfl)) rfl ?_
    refine WL.call Try.func10 rfl (evs_cons (.of rfl) (evs_cons (.of rfl) evs_nil)) rfl (matches_any _ s (by (try simp only [List.length_append, List.length_cons, List.length_nil]); omega) (by (try simp only [List.length_take, List.length_drop]); omega) B w J0 As hS) ?_
    clear hS
    rintro _ w ⟨rfl, J1, hJ1, hS⟩
    refine WL.val (.move (.of rfl)) rfl ?_
    refine WL.val (.extract (.of rfl) rfl) rfl ?_
    refine WL.val (.extract (.of rfl) rfl) rfl ?_
    refine WL.val (.assign (.of rfl)) rfl ?_
    refine WL.val (.assign (.of rfl)) rfl ?_
    refine WL.nil ?_
    refine WC.seq ?_
    refine WC.region ?_
    refine WL.val (.move (.of rfl)) rfl ?_
    refine WL.val (.move (.of rfl)) rfl ?_
    refine WL.call Try.func10 rfl (evs_cons (.of rfl) (evs_cons (.of rfl) evs_nil)) rfl (matches_any _ s (by (try simp only [List.length_append, List.length_cons, List.length_nil]); omega) (by (try simp only [List.length_take, List.length_drop]); omega) B w J1 As hS) ?_
    clear hS
    rintro _ w ⟨rfl, J2, hJ2, hS⟩
    refine WL.val (.move (.of rfl)) rfl ?_
    refine WL.val (.extract (.of rfl) rfl) rfl ?_
    refine WL.val (.extract (.of rfl) rfl) rfl ?_
    refine WL.val (.assign (.of rfl)) rfl ?_
    refine WL.val (.assign (.of rfl)) rfl ?_
    refine WL.nil ?_
    refine WC.seq ?_
    refine WC.seq ?_
    refine WC.region ?_
    refine WL.val (.move (.of rfl)) rfl ?_
    refine WL.val (.not (.of rfl)) rfl ?_
    refine WL.val (.move (.of rfl)) rfl ?_
    refine WL.gval rfl rfl (fun hg1 => (.move (.of rfl))) rfl ?_
    refine WL.gval rfl rfl (fun hg1 => (.not (.gd hg1 rfl))) rfl ?_
    refine WL.val (.por (.of rfl) (.of rfl) (.of rfl)) rfl ?_
    refine WL.val (.move (.of rfl)) rfl ?_
    refine WL.gval rfl rfl (fun hg1 => (.move (.of rfl))) rfl ?_
    refine WL.gval rfl rfl (fun hg1 => (.len (.gd hg1 rfl) Try.underlying9)) rfl ?_
    refine WL.gval rfl rfl (fun hg1 => (.gtr (.gd hg1 rfl) (.of rfl))) rfl ?_
    refine WL.gval rfl rfl (fun hg1 => (.move (.gd hg1 rfl))) rfl ?_
    refine WL.gval2 rfl rfl rfl (fun hg1 hg2 => (.move (.of rfl))) rfl ?_
    refine WL.gval2 rfl rfl rfl (fun hg1 hg2 => (.move (.of rfl))) rfl ?_
    refine WL.gval2 rfl rfl rfl (fun hg1 hg2 => (.len (.gd2 hg1 hg2 rfl) Try.underlying9)) rfl ?_
    refine WL.gval2 rfl rfl rfl (fun hg1 hg2 => (.sub (.gd2 hg1 hg2 rfl) (.of rfl) ⟨by omega, by omega⟩)) rfl ?_
    refine WL.gval2 rfl rfl rfl (fun hg1 hg2 => (.index (.gd2 hg1 hg2 rfl) (.gd2 hg1 hg2 rfl) (by (try simp only [decide_eq_true_eq, decide_eq_false_iff_not, beq_iff_eq, beq_eq_false_iff_ne, bne_iff_ne, Bool.not_eq_true', Bool.not_eq_false', Bool.or_eq_true, Bool.and_eq_true, Bool.or_eq_false_iff, Bool.and_eq_false_iff, ne_eq, Int.not_lt, Int.not_le, bne_eq_false_iff_eq, Bool.not_eq_true, Bool.not_eq_false] at hg1 hg2); omega) (by (try simp only [decide_eq_true_eq, decide_eq_false_iff_not, beq_iff_eq, beq_eq_false_iff_ne, bne_iff_ne, Bool.not_eq_true', Bool.not_eq_false', Bool.or_eq_true, Bool.and_eq_true, Bool.or_eq_false_iff, Bool.and_eq_false_iff, ne_eq, Int.not_lt, Int.not_le, bne_eq_false_iff_eq, Bool.not_eq_true, Bool.not_eq_false] at hg1 hg2); omega) Try.underlying9)) rfl ?_
    refine WL.gval2 rfl rfl rfl (fun hg1 hg2 => (.eql (.gd2 hg1 hg2 rfl) (.of rfl))) rfl ?_
    refine WL.gval rfl rfl (fun hg1 => (.pand (.gd hg1 rfl) (.gd hg1 rfl) (.of rfl))) rfl ?_
    refine WL.gval rfl rfl (fun hg1 => (.move (.gd hg1 rfl))) rfl ?_
    refine WL.gval2 rfl rfl rfl (fun hg1 hg2 => (.move (.of rfl))) rfl ?_
    refine WL.gval2 rfl rfl rfl (fun hg1 hg2 => (.len (.gd2 hg1 hg2 rfl) Try.underlying9)) rfl ?_
    refine WL.gval2 rfl rfl rfl (fun hg1 hg2 => (.gtr (.gd2 hg1 hg2 rfl) (.of rfl))) rfl ?_
    refine WL.gval rfl rfl (fun hg1 => (.pand (.gd hg1 rfl) (.gd hg1 rfl) (.of rfl))) rfl ?_
    refine WL.gval rfl rfl (fun hg1 => (.move (.gd hg1 rfl))) rfl ?_
    refine WL.gval2 rfl rfl rfl (fun hg1 hg2 => (.move (.of rfl))) rfl ?_
    refine WL.gval2 rfl rfl rfl (fun hg1 hg2 => (.index (.gd2 hg1 hg2 rfl) (.of rfl) (by (try simp only [decide_eq_true_eq, decide_eq_false_iff_not, beq_iff_eq, beq_eq_false_iff_ne, bne_iff_ne, Bool.not_eq_true', Bool.not_eq_false', Bool.or_eq_true, Bool.and_eq_true, Bool.or_eq_false_iff, Bool.and_eq_false_iff, ne_eq, Int.not_lt, Int.not_le, bne_eq_false_iff_eq, Bool.not_eq_true, Bool.not_eq_false] at hg1 hg2); omega) (by (try simp only [decide_eq_true_eq, decide_eq_false_iff_not, beq_iff_eq, beq_eq_false_iff_ne, bne_iff_ne, Bool.not_eq_true', Bool.not_eq_false', Bool.or_eq_true, Bool.and_eq_true, Bool.or_eq_false_iff, Bool.and_eq_false_iff, ne_eq, Int.not_lt, Int.not_le, bne_eq_false_iff_eq, Bool.not_eq_true, Bool.not_eq_false] at hg1 hg2); omega) Try.underlying9)) rfl ?_
    refine WL.gval2 rfl rfl rfl (fun hg1 hg2 => (.eql (.gd2 hg1 hg2 rfl) (.of rfl))) rfl ?_
    refine WL.gval rfl rfl (fun hg1 => (.pand (.gd hg1 rfl) (.gd hg1 rfl) (.of rfl))) rfl ?_
    refine WL.val (.por (.of rfl) (.of rfl) (.of rfl)) rfl ?_
    refine WL.nil ?_
    refine WC.cond rfl (fun hb75 => ?_) (fun hb75 => ?_)
    ·
      have hc75 := hb75; try simp only [decide_eq_true_eq, decide_eq_false_iff_not, beq_iff_eq, beq_eq_false_iff_ne, bne_iff_ne, Bool.not_eq_true', Bool.not_eq_false', Bool.or_eq_true, Bool.and_eq_true, Bool.or_eq_false_iff, Bool.and_eq_false_iff, ne_eq, Int.not_lt, Int.not_le, bne_eq_false_iff_eq, Bool.not_eq_true, Bool.not_eq_false] at hc75
      refine WC.seq ?_
      refine WC.region ?_
      refine WL.val (.move (.of rfl)) rfl ?_
      refine WL.val (.assign (.of rfl)) rfl ?_
      refine WL.nil ?_
      refine WC.ret ?_
      refine ret1 Try.results4 rfl ?_
      exact ⟨_, rfl, rfl, J2, (hJ0.trans hJ1).trans hJ2, hS⟩
    ·
      have hc75 := hb75; try simp only [decide_eq_true_eq, decide_eq_false_iff_not, beq_iff_eq, beq_eq_false_iff_ne, bne_iff_ne, Bool.not_eq_true', Bool.not_eq_false', Bool.or_eq_true, Bool.and_eq_true, Bool.or_eq_false_iff, Bool.and_eq_false_iff, ne_eq, Int.not_lt, Int.not_le, bne_eq_false_iff_eq, Bool.not_eq_true, Bool.not_eq_false] at hc75
      refine WC.skip ?_
      refine WC.seq ?_
      refine WC.region ?_
      refine WL.val (.assign (.of rfl)) rfl ?_
      refine WL.nil ?_
      refine WC.seq ?_
      refine WC.seq ?_
      refine WC.region ?_
      refine WL.val (.assign (.of rfl)) rfl ?_
      refine WL.nil ?_
      refine WC.block ?_
      refine WC.loop (σ := Nat × Im) (fun ⟨i, J⟩ => [(0, S p), (1, S q), (2, S s), (7, .bool true), (12, .bool (iter (sideAt p q s) false i)), (13, I64 (i : Nat))]) (fun ⟨i, J⟩ w => i ≤ s.length + 1 ∧ Le J2 J ∧ Sat B w J As) (fun ⟨i, J⟩ => s.length + 1 - i) (0, J2) ⟨rfl, rfl, rfl, rfl, rfl, rfl, trivial⟩ ⟨Nat.zero_le _, Le.refl _, hS⟩ ?_
      rintro ⟨i, J⟩ w ⟨hi, hJ, hS⟩
      change WC _ _ _ _ [(0, S p), (1, S q), (2, S s), (7, .bool true), (12, .bool (iter (sideAt p q s) false i)), (13, I64 (i : Nat))] w
      refine WC.seq ?_
      refine WC.seq ?_
      refine WC.region ?_
      refine WL.val (.move (.of rfl)) rfl ?_
      refine WL.val (.move (.of rfl)) rfl ?_
      refine WL.val (.len (.of rfl) Try.underlying9) rfl ?_
      refine WL.val (.leq (.of rfl) (.of rfl)) rfl ?_
      refine WL.nil ?_
      refine WC.cond rfl (fun hb80 => ?_) (fun hb80 => ?_)
      ·
        have hc80 := hb80; try simp only [decide_eq_true_eq, decide_eq_false_iff_not, beq_iff_eq, beq_eq_false_iff_ne, bne_iff_ne, Bool.not_eq_true', Bool.not_eq_false', Bool.or_eq_true, Bool.and_eq_true, Bool.or_eq_false_iff, Bool.and_eq_false_iff, ne_eq, Int.not_lt, Int.not_le, bne_eq_false_iff_eq, Bool.not_eq_true, Bool.not_eq_false] at hc80
        refine WC.skip ?_
        refine WC.seq ?_
        refine WC.block ?_
        refine WC.seq ?_
        refine WC.region ?_
        refine WL.val (.move (.of rfl)) rfl ?_
        refine WL.val (.move (.of rfl)) rfl ?_
        refine WL.val (.move (.of rfl)) rfl ?_
        refine WL.val (.subTo (.of rfl) (.of rfl) (by omega) (by omega) Try.underlying9) rfl ?_
        refine WL.call Try.func10 rfl (evs_cons (.of rfl) (evs_cons (.of rfl) evs_nil)) rfl (matches_any p (s.take ((i : Int)).toNat) (by omega) (by simp; omega) B w J As hS) ?_
        clear hS
        rintro _ w ⟨rfl, J4, hJ4, hS⟩
        refine WL.val (.move (.of rfl)) rfl ?_
        refine WL.val (.extract (.of rfl) rfl) rfl ?_
        refine WL.val (.extract (.of rfl) rfl) rfl ?_
        refine WL.val (.assign (.of rfl)) rfl ?_
        refine WL.val (.assign (.of rfl)) rfl ?_
        refine WL.nil ?_
        refine WC.seq ?_
        refine WC.region ?_
        refine WL.val (.move (.of rfl)) rfl ?_
        refine WL.val (.move (.of rfl)) rfl ?_
        refine WL.val (.move (.of rfl)) rfl ?_
        refine WL.val (.subFrom (.of rfl) (.of rfl) (by omega) (by omega) Try.underlying9) rfl ?_
        refine WL.call Try.func10 rfl (evs_cons (.of rfl) (evs_cons (.of rfl) evs_nil)) rfl (matches_any q (s.drop ((i : Int)).toNat) (by omega) (by simp; omega) B w J4 As hS) ?_
        clear hS
        rintro _ w ⟨rfl, J5, hJ5, hS⟩
        refine WL.val (.move (.of rfl)) rfl ?_
        refine WL.val (.extract (.of rfl) rfl) rfl ?_
        refine WL.val (.extract (.of rfl) rfl) rfl ?_
        refine WL.val (.assign (.of rfl)) rfl ?_
        refine WL.val (.assign (.of rfl)) rfl ?_
        refine WL.nil ?_
        refine WC.region ?_
        refine WL.val (.move (.of rfl)) rfl ?_
        refine WL.val (.move (.of rfl)) rfl ?_
        refine WL.gval rfl rfl (fun hg1 => (.move (.of rfl))) rfl ?_
        refine WL.gval rfl rfl (fun hg1 => (.move (.gd hg1 rfl))) rfl ?_
        refine WL.gval2 rfl rfl rfl (fun hg1 hg2 => (.move (.of rfl))) rfl ?_
        refine WL.gval rfl rfl (fun hg1 => (.pand (.gd hg1 rfl) (.gd hg1 rfl) (.of rfl))) rfl ?_
        refine WL.val (.por (.of rfl) (.of rfl) (.of rfl)) rfl ?_
        refine WL.val (.assign (.of rfl)) rfl ?_
        refine WL.nil ?_
        refine WC.region ?_
        refine WL.val (.move (.of rfl)) rfl ?_
        refine WL.val (.add (.of rfl) (.of rfl) ⟨by omega, by omega⟩) rfl ?_
        refine WL.val (.assign (.of rfl)) rfl ?_
        refine WL.nil ?_
        refine ⟨(i + 1, J5), ⟨rfl, rfl, rfl, rfl, ?_, rfl, trivial⟩, ⟨by omega, (hJ.trans hJ4).trans hJ5, hS⟩, by dsimp only; omega⟩
        show _ = _
        rw [iter, sideAt]; rfl
      ·
        have hc80 := hb80; try simp only [decide_eq_true_eq, decide_eq_false_iff_not, beq_iff_eq, beq_eq_false_iff_ne, bne_iff_ne, Bool.not_eq_true', Bool.not_eq_false', Bool.or_eq_true, Bool.and_eq_true, Bool.or_eq_false_iff, Bool.and_eq_false_iff, ne_eq, Int.not_lt, Int.not_le, bne_eq_false_iff_eq, Bool.not_eq_true, Bool.not_eq_false] at hc80
        refine WC.exit ?_
        refine WC.seq ?_
        refine WC.region ?_
        refine WL.val (.move (.of rfl)) rfl ?_
        refine WL.val (.move (.of rfl)) rfl ?_
        refine WL.val (.cat (.of rfl) (.of rfl) (by (try simp only [List.length_append, List.length_cons, List.length_nil]); omega)) rfl ?_
        refine WL.val (.move (.of rfl)) rfl ?_
        refine WL.call Try.func10 rfl (evs_cons (.of rfl) (evs_cons (.of rfl) evs_nil)) rfl (matches_any (p ++ q) s (by simp; omega) (by omega) B w J As hS) ?_
        clear hS
        rintro _ w ⟨rfl, J3, hJ3, hS⟩
        refine WL.val (.move (.of rfl)) rfl ?_
        refine WL.val (.extract (.of rfl) rfl) rfl ?_
        refine WL.val (.extract (.of rfl) rfl) rfl ?_
        refine WL.val (.assign (.of rfl)) rfl ?_
        refine WL.val (.assign (.of rfl)) rfl ?_
        refine WL.nil ?_
        refine WC.seq ?_
        refine WC.region ?_
        refine WL.val (.move (.of rfl)) rfl ?_
        refine WL.val (.move (.of rfl)) rfl ?_
        refine WL.gval rfl rfl (fun hg1 => (.move (.of rfl))) rfl ?_
        refine WL.val (.pand (.of rfl) (.of rfl) (.of rfl)) rfl ?_
        refine WL.val (.move (.of rfl)) rfl ?_
        refine WL.gval rfl rfl (fun hg1 => (.move (.of rfl))) rfl ?_
        refine WL.gval rfl rfl (fun hg1 => (.move (.of rfl))) rfl ?_
        refine WL.gval rfl rfl (fun hg1 => (.eqb (.gd hg1 rfl) (.gd hg1 rfl) Try.underlying4)) rfl ?_
        refine WL.val (.pand (.of rfl) (.of rfl) (.of rfl)) rfl ?_
        refine WL.val (.assign (.of rfl)) rfl ?_
        refine WL.nil ?_
        refine WC.ret ?_
        refine ret1 Try.results4 rfl ?_
        obtain rfl : i = s.length + 1 := by omega
        refine ⟨_, rfl, ?_, J3, (((hJ0.trans hJ1).trans hJ2).trans hJ).trans hJ3, hS⟩
        obtain ⟨k1, k2⟩ := side hc75.1.1 hc75.1.2 (fun e h => by
          have hp : 0 < p.length := by cases p; simp at e; simp
          have hq : 0 < q.length := by cases q; simp at h; simp
          rw [last_at hp] at e; rw [head_at hq] at h
          injection e with e; injection h with h
          have h2 := hc75.2; rw [e, h] at h2; simp at h2; rcases h2 with h2 | h2 <;> subst h2 <;> simp at hp hq) (by omega)
        rw [k1, k2]; simp
end Go.Proofs.Ytigmejjkmoaimaa
