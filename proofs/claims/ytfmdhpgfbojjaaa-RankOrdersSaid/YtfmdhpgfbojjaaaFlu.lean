/- Numbers with a point: the nearest word, whole numbers, what is rounded up, products. -/
import Derived.Test.YtfmdhpgfbojjaaaFlt
namespace Flt
set_option linter.unusedVariables false
set_option linter.unusedSimpArgs false
open Ieee

theorem cut_gap (n drop : Nat) : (drop ≤ n.log2 + 2 ∧ 1 <<< min drop (n.log2 + 2) = 2 ^ drop) ∨ (2 * n < 1 <<< min drop (n.log2 + 2) ∧ 2 * n < 2 ^ drop ∧ 1 <<< min drop (n.log2 + 2) = 2 ^ (n.log2 + 2)) := by
  have h2 : n < 2 ^ (n.log2 + 1) := Nat.lt_log2_self
  rcases Nat.lt_or_ge (n.log2 + 2) drop with h | h
  · right
    rw [Nat.min_eq_right (Nat.le_of_lt h), Nat.shiftLeft_eq, Nat.one_mul]
    have e : 2 ^ (n.log2 + 2) = 2 * 2 ^ (n.log2 + 1) := by rw [Nat.pow_succ, Nat.mul_comm]
    have e2 : 2 ^ (n.log2 + 2) ≤ 2 ^ drop := Nat.pow_le_pow_right (by decide) (Nat.le_of_lt h)
    exact ⟨by omega, by omega, rfl⟩
  · left
    rw [Nat.min_eq_left h, Nat.shiftLeft_eq, Nat.one_mul]
    exact ⟨h, rfl⟩

theorem cutE (neg : Bool) (n drop : Nat) : 2 * n ≤ (2 * Toward.even.cut neg n drop + 1) * 2 ^ drop ∧ n / 2 ^ drop ≤ Toward.even.cut neg n drop ∧ Toward.even.cut neg n drop ≤ n / 2 ^ drop + 1 ∧ 2 * (Toward.even.cut neg n drop * 2 ^ drop) ≤ 2 * n + 2 ^ drop := by
  unfold Toward.cut
  dsimp only
  rcases cut_gap n drop with ⟨_, e⟩ | ⟨h1, h2, e⟩
  · rw [e]
    generalize hg : 2 ^ drop = g
    have hg0 : 0 < g := by rw [← hg]; exact Nat.two_pow_pos _
    have h1 := Nat.div_add_mod n g
    have h3 := Nat.mod_lt n hg0
    generalize n / g = low at *
    generalize n % g = rest at *
    by_cases hm : (decide (g < 2 * rest) || (g == 2 * rest && low % 2 == 1)) = true
    · rw [hm]
      simp only [Bool.or_eq_true, decide_eq_true_eq, Bool.and_eq_true, beq_iff_eq] at hm
      have h9 : g ≤ 2 * rest := by omega
      have : (2 * (low + 1) + 1) * g = 2 * (g * low) + 3 * g := by rw [Nat.add_mul, Nat.mul_assoc, Nat.add_mul, Nat.mul_comm low g]; omega
      have h8 : (low + 1) * g = g * low + g := by rw [Nat.add_mul, Nat.mul_comm low g]; omega
      simp only [Bool.toNat_true]
      exact ⟨by omega, by omega, by omega, by rw [h8]; omega⟩
    · have hm' : (decide (g < 2 * rest) || (g == 2 * rest && low % 2 == 1)) = false := by simpa using hm
      rw [hm']
      simp only [Bool.or_eq_false_iff, decide_eq_false_iff_not] at hm'
      have : (2 * low + 1) * g = 2 * (g * low) + g := by rw [Nat.add_mul, Nat.mul_assoc, Nat.mul_comm low g]; omega
      simp only [Bool.toNat_false, Nat.add_zero]
      exact ⟨by omega, by omega, by omega, by rw [Nat.mul_comm low g]; omega⟩
  · rw [Nat.div_eq_of_lt (by omega : n < 1 <<< min drop (n.log2 + 2)), Nat.mod_eq_of_lt (by omega : n < 1 <<< min drop (n.log2 + 2)), Nat.div_eq_of_lt (by omega : n < 2 ^ drop)]
    have hm : (decide (1 <<< min drop (n.log2 + 2) < 2 * n) || (1 <<< min drop (n.log2 + 2) == 2 * n && 0 % 2 == 1)) = false := by
      simp only [Bool.or_eq_false_iff, decide_eq_false_iff_not]
      exact ⟨by omega, by simp⟩
    rw [hm]
    simp only [Bool.toNat_false, Nat.add_zero, Nat.mul_zero, Nat.zero_add, Nat.one_mul, Nat.zero_mul]
    exact ⟨by omega, Nat.le_refl _, by omega, by omega⟩
theorem cutUp (n drop : Nat) : n ≤ Toward.up.cut false n drop * 2 ^ drop ∧ (Toward.up.cut false n drop * 2 ^ drop < n + 2 ^ drop) := by
  unfold Toward.cut
  dsimp only
  rcases cut_gap n drop with ⟨_, e⟩ | ⟨h1, h2, e⟩
  · rw [e]
    generalize hg : 2 ^ drop = g
    have hg0 : 0 < g := by rw [← hg]; exact Nat.two_pow_pos _
    have h1 := Nat.div_add_mod n g
    have h3 := Nat.mod_lt n hg0
    generalize n / g = low at *
    generalize n % g = rest at *
    by_cases hr : rest = 0
    · subst hr
      simp
      rw [Nat.mul_comm]; omega
    · have hb : (rest != 0) = true := by simpa using hr
      simp only [Bool.not_false, Bool.true_and, hb, Bool.toNat_true]
      rw [Nat.add_mul, Nat.mul_comm low g]; omega
  · rw [Nat.div_eq_of_lt (by omega : n < 1 <<< min drop (n.log2 + 2)), Nat.mod_eq_of_lt (by omega : n < 1 <<< min drop (n.log2 + 2))]
    by_cases hr : n = 0
    · subst hr
      simp
      exact Nat.two_pow_pos _
    · have hb : (n != 0) = true := by simpa using hr
      simp only [Bool.not_false, Bool.true_and, hb, Bool.toNat_true]
      omega
theorem cutZero (s : Bool) (n drop : Nat) : Toward.zero.cut s n drop * 2 ^ drop ≤ n ∧ n < (Toward.zero.cut s n drop + 1) * 2 ^ drop := by
  unfold Toward.cut
  dsimp only
  rcases cut_gap n drop with ⟨_, e⟩ | ⟨h1, h2, e⟩
  · rw [e]
    generalize hg : 2 ^ drop = g
    have hg0 : 0 < g := by rw [← hg]; exact Nat.two_pow_pos _
    have h1 := Nat.div_add_mod n g
    have h3 := Nat.mod_lt n hg0
    generalize n / g = low at *
    generalize n % g = rest at *
    simp only [Bool.toNat_false, Nat.add_zero, Nat.add_mul, Nat.one_mul, Nat.mul_comm low g]
    omega
  · rw [Nat.div_eq_of_lt (by omega : n < 1 <<< min drop (n.log2 + 2))]
    simp; omega

/-- The nearest word: its rung by a place and a significand. -/
theorem near (neg : Bool) {m : Nat} {place : Int} (hm : m ≠ 0) : ∃ E k : Nat, double.nearest neg m place = double.word neg (min (E * 4503599627370496 + k) 9218868437227405312) ∧ k ≤ 2 * 4503599627370496 ∧ (0 < E → 4503599627370496 ≤ k) ∧
    (∀ a b : Nat, place + 1074 = (b : Int) - a → m * 2 ^ b < (k + 1) * 2 ^ (E + a)) ∧ (m < 9007199254740992 → -1074 ≤ place → k * 2 ^ E = m * 2 ^ (place + 1074).toNat ∧ (E : Int) ≤ max 0 (place + 1075)) := by
  have hl1 : 2 ^ m.log2 ≤ m := Nat.log2_self_le hm
  have hl2 : m < 2 ^ (m.log2 + 1) := Nat.lt_log2_self
  unfold Format.nearest
  rw [if_neg hm, ir, lp, bn]
  dsimp only
  rw [show ((double.fractionBits : Nat) : Int) = 52 from rfl]
  generalize hlast : max (place + (m.log2 : Int) - 52) (-1074) = last
  refine ⟨(last - -1074).toNat, Toward.even.cut neg (m <<< (place - last).toNat) (last - place).toNat, rfl, ?_⟩
  have c := cutE neg (m <<< (place - last).toNat) (last - place).toNat
  generalize hk : Toward.even.cut neg (m <<< (place - last).toNat) (last - place).toNat = k at c ⊢
  rw [Nat.shiftLeft_eq] at c
  rcases Int.lt_or_le place last with hp | hp
  · have e0 : (place - last).toNat = 0 := by omega
    rw [e0, Nat.pow_zero, Nat.mul_one] at c
    generalize hd : (last - place).toNat = drop at c
    obtain ⟨c1, c2, c3, _⟩ := c
    have hdp : 0 < 2 ^ drop := Nat.two_pow_pos _
    have up : m / 2 ^ drop < 2 ^ 53 := by
      rw [Nat.div_lt_iff_lt_mul hdp, ← Nat.pow_add]
      exact Nat.lt_of_lt_of_le hl2 (Nat.pow_le_pow_right (by decide) (by omega))
    refine ⟨by omega, fun hE => ?_, fun a b hab => ?_, fun hm53 hpl => ?_⟩
    · refine Nat.le_trans ?_ c2
      rw [Nat.le_div_iff_mul_le hdp, show (4503599627370496 : Nat) = 2 ^ 52 by decide, ← Nat.pow_add]
      exact Nat.le_trans (Nat.pow_le_pow_right (by decide) (by omega)) hl1
    · have e : (last - -1074).toNat + a = drop + b := by omega
      rw [e, Nat.pow_add, ← Nat.mul_assoc]
      refine Nat.mul_lt_mul_of_pos_right ?_ (Nat.two_pow_pos _)
      have : (2 * k + 1) * 2 ^ drop < 2 * ((k + 1) * 2 ^ drop) := by rw [← Nat.mul_assoc]; exact Nat.mul_lt_mul_of_pos_right (by omega) hdp
      omega
    · exfalso
      have : m.log2 < 53 := by
        refine (Nat.pow_lt_pow_iff_right (a := 2) (by decide)).1 (Nat.lt_of_le_of_lt hl1 ?_)
        exact Nat.lt_of_lt_of_eq hm53 (by decide)
      omega
  · have e0 : (last - place).toNat = 0 := by omega
    rw [e0, Nat.pow_zero, Nat.mul_one, Nat.div_one, Nat.mul_one] at c
    generalize hu : (place - last).toNat = u at c hk
    have ek : k = m * 2 ^ u := by omega
    clear c
    have up : m * 2 ^ u < 2 ^ 53 := by
      refine Nat.lt_of_lt_of_le (Nat.mul_lt_mul_of_pos_right hl2 (Nat.two_pow_pos _)) ?_
      rw [← Nat.pow_add]
      exact Nat.pow_le_pow_right (by decide) (by omega)
    refine ⟨by omega, fun hE => ?_, fun a b hab => ?_, fun hm53 hpl => ⟨?_, by omega⟩⟩
    · rw [ek, show (4503599627370496 : Nat) = 2 ^ 52 by decide]
      refine Nat.le_trans ?_ (Nat.mul_le_mul_right _ hl1)
      rw [← Nat.pow_add]
      exact Nat.pow_le_pow_right (by decide) (by omega)
    · have e : b = u + ((last - -1074).toNat + a) := by omega
      rw [e, ek, Nat.pow_add, ← Nat.mul_assoc]
      exact Nat.mul_lt_mul_of_pos_right (by omega) (Nat.two_pow_pos _)
    · rw [ek, Nat.mul_assoc, ← Nat.pow_add]
      congr 2
      omega

theorem rg_word (s : Bool) {r : Nat} (h : r ≤ 9218868437227405312) : rg (double.word s r) = r ∧ sg (double.word s r) = s := by
  unfold Format.word rg sg
  rw [sw]
  cases s
  · simp; omega
  · simp; omega
theorem nan_word (s : Bool) {r : Nat} (h : r ≤ 9218868437227405312) : nan (double.word s r) = false := by
  unfold nan
  rw [(rg_word s h).1]
  simp; omega
theorem nan_near (s : Bool) (m : Nat) (p : Int) : nan (double.nearest s m p) = false := by
  by_cases hm : m = 0
  · unfold Format.nearest
    rw [if_pos hm]
    exact nan_word s (by decide)
  · obtain ⟨E, k, e, _⟩ := near s hm (place := p)
    rw [e]
    exact nan_word s (by omega)

/-- One. -/
def e0 : Nat := 1074
def one : Nat := 2 ^ e0
theorem one_pos : 0 < one := Nat.two_pow_pos _
theorem one_eq : one = 2 ^ e0 := rfl
/-- A whole number as a number with a point. -/
theorem whole {c : Nat} (h : c ≤ 1099511627776) : ∃ r, double.nearest false c 0 = r ∧ r < 9218868437227405312 ∧ mag r = c * one := by
  by_cases h0 : c = 0
  · subst h0
    exact ⟨0, by decide, by decide, by simp [mag_zero]⟩
  · obtain ⟨E, k, e, h1, h2, _, h4⟩ := near false h0 (place := 0)
    obtain ⟨h5, h6⟩ := h4 (by omega) (by omega)
    have hE : E ≤ 1075 := by omega
    have hr : E * 4503599627370496 + k < 9218868437227405312 := by omega
    refine ⟨_, rfl, ?_, ?_⟩
    · rw [e, Nat.min_eq_left (by omega)]
      unfold Format.word
      simp only [Bool.false_eq_true, if_false]
      exact hr
    · rw [e, Nat.min_eq_left (by omega)]
      unfold Format.word
      simp only [Bool.false_eq_true, if_false]
      rw [mag_at h1 h2, h5, show ((0 : Int) + 1074).toNat = e0 from rfl, ← one_eq]
theorem sv_small {r : Nat} (h : r ≤ 9218868437227405312) : sv r = mag r ∧ nan r = false ∧ rg r = r ∧ sg r = false := by
  have h1 : rg r = r := by unfold rg; omega
  have h2 : sg r = false := by unfold sg; simp; omega
  refine ⟨by unfold sv; rw [h1, h2]; simp, by unfold nan; rw [h1]; simp; omega, h1, h2⟩
def ofI (n : Int) : Nat := double.write (.number (decide (n < 0)) n.natAbs 0)
theorem ofI_spec {c : Int} (h0 : 0 ≤ c) (h : c ≤ 1099511627776) : nan (ofI c) = false ∧ sv (ofI c) = c * (one : Int) := by
  have e : ofI c = double.nearest false c.natAbs 0 := by
    unfold ofI Format.write
    rw [decide_eq_false (by omega)]
  obtain ⟨r, hr, h1, h2⟩ := whole (c := c.natAbs) (by omega)
  rw [e, hr]
  have := sv_small (Nat.le_of_lt h1)
  refine ⟨this.2.1, ?_⟩
  rw [this.1, h2, Int.natCast_mul]
  congr 1
  omega
def ceilB (x : Nat) : Nat := double.write ((double.read x).integral .up)
theorem pos_sg {x : Nat} (h : 0 < sv x) : sg x = false := by
  cases hs : sg x
  · rfl
  · unfold sv at h
    rw [hs] at h
    simp at h
    omega
theorem pow_split {i : Int} (h1 : -1074 ≤ i) : i.toNat + (1074 - (-i).toNat) = (i + 1074).toNat ∧ (-i).toNat + (1074 - (-i).toNat) = e0 := by unfold e0; omega
theorem ceil_spec {x : Nat} (hn : nan x = false) (h0 : 0 < sv x) (h : sv x ≤ 1099511627776 * (one : Int)) :
    ∃ c : Nat, (double.read (ceilB x)).toInt .zero = some (c : Int) ∧ c ≤ 1099511627776 ∧ sv x ≤ (c : Int) * one ∧ ((c : Int) - 1) * one < sv x := by
  have hs := pos_sg h0
  have ho : (0 : Int) < (one : Int) := Int.ofNat_lt.2 one_pos
  have hx : rg x < 9218868437227405312 := by
    obtain ⟨r, hr, h1, h2⟩ := whole (c := 1099511627776) (by omega)
    have : mag (rg x) ≤ mag r := by
      rw [h2]
      unfold sv at h
      rw [hs] at h
      simp only [Bool.false_eq_true, if_false] at h
      have h' : (mag (rg x) : Int) ≤ ((1099511627776 * one : Nat) : Int) := by rw [Int.natCast_mul]; exact h
      exact Int.ofNat_le.1 h'
    rcases Nat.lt_or_ge (rg x) 9218868437227405312 with h9 | h9
    · exact h9
    · have := mag_lt (Nat.lt_of_lt_of_le h1 h9); omega
  obtain ⟨m, i, e, h1, _, h3, _⟩ := read_num hx
  have svx : sv x = ((m * 2 ^ (i + 1074).toNat : Nat) : Int) := by
    unfold sv; rw [hs, ← h3]; simp
  obtain ⟨q1, q2⟩ := pow_split h1
  have cu := cutUp (m <<< i.toNat) (-i).toNat
  have ec : ceilB x = double.nearest false (Toward.up.cut false (m <<< i.toNat) (-i).toNat) 0 := by
    unfold ceilB
    rw [e, hs]
    rfl
  generalize Toward.up.cut false (m <<< i.toNat) (-i).toNat = c at cu ec
  rw [Nat.shiftLeft_eq] at cu
  have hp : 0 < 2 ^ (1074 - (-i).toNat) := Nat.two_pow_pos _
  have u1 : sv x ≤ (c : Int) * one := by
    rw [svx, ← Int.natCast_mul]
    refine Int.ofNat_le.2 ?_
    have := Nat.mul_le_mul_right (2 ^ (1074 - (-i).toNat)) cu.1
    rw [Nat.mul_assoc, Nat.mul_assoc, ← Nat.pow_add, ← Nat.pow_add, q1, q2] at this
    exact this
  have u2 : ((c : Int) - 1) * one < sv x := by
    have := Nat.mul_lt_mul_of_pos_right cu.2 hp
    rw [Nat.mul_assoc, Nat.add_mul, Nat.mul_assoc, ← Nat.pow_add, ← Nat.pow_add, q1, q2, ← one_eq] at this
    rw [svx, Int.sub_mul, ← Int.natCast_mul, Int.one_mul]
    have := Int.ofNat_lt.2 this
    rw [Int.natCast_add] at this
    omega
  have hc : c ≤ 1099511627776 := by
    have : ((c : Int) - 1) * one < 1099511627776 * (one : Int) := Int.lt_of_lt_of_le u2 h
    have := Int.lt_of_mul_lt_mul_right this (Int.le_of_lt ho)
    omega
  refine ⟨c, ?_, hc, u1, u2⟩
  obtain ⟨r, hr, r1, r2⟩ := whole hc
  rw [ec, hr]
  have rr := sv_small (Nat.le_of_lt r1)
  obtain ⟨m', i', e', h1', _, h3', _⟩ := read_num (b := r) (by rw [rr.2.2.1]; exact r1)
  rw [rr.2.2.1, r2] at h3'
  rw [rr.2.2.2] at e'
  unfold Datum.toInt
  rw [e']
  simp only [Datum.integral]
  have cz := cutZero false (m' <<< i'.toNat) (-i').toNat
  generalize Toward.zero.cut false (m' <<< i'.toNat) (-i').toNat = k at cz
  rw [Nat.shiftLeft_eq] at cz
  obtain ⟨q1', q2'⟩ := pow_split h1'
  have em : m' * 2 ^ i'.toNat = c * 2 ^ (-i').toNat := by
    refine Nat.eq_of_mul_eq_mul_right (Nat.two_pow_pos (1074 - (-i').toNat)) ?_
    rw [Nat.mul_assoc, Nat.mul_assoc, ← Nat.pow_add, ← Nat.pow_add, q1', q2', ← h3']
    rfl
  rw [em] at cz
  have hd : 0 < 2 ^ (-i').toNat := Nat.two_pow_pos _
  have k1 : k ≤ c := Nat.le_of_mul_le_mul_right cz.1 hd
  have k2 : c < k + 1 := Nat.lt_of_mul_lt_mul_right cz.2
  have : k = c := by omega
  subst this
  simp [signed]

theorem mul_nan {x y r : Nat} (h : double.mul x y = some r) : nan r = false := by
  unfold Format.mul at h
  obtain ⟨d, hd, rfl⟩ := Option.map_eq_some_iff.1 h
  cases d with
  | number s m p => exact nan_near s m p
  | infinity s => exact nan_word s (Nat.le_refl _)
  | nan s t =>
    exfalso
    generalize double.read x = a at hd
    generalize double.read y = b at hd
    cases a <;> cases b <;> simp [Datum.product] at hd
theorem mul_none {x y : Nat} (h : nan x = true ∨ nan y = true) : double.mul x y = none := by
  unfold Format.mul
  rcases h with h | h
  · obtain ⟨s, t, e⟩ := read_nan (b := x) (by simpa [nan] using h)
    rw [e]; simp [Datum.product]
  · obtain ⟨s, t, e⟩ := read_nan (b := y) (by simpa [nan] using h)
    rw [e]; cases double.read x <;> simp [Datum.product]
theorem mul_num {x y : Nat} {s t : Bool} {m n : Nat} {i j : Int} (hx : double.read x = .number s m i) (hy : double.read y = .number t n j) : double.mul x y = some (double.nearest (s ^^ t) (m * n) (i + j)) := by
  unfold Format.mul
  rw [hx, hy]
  simp only [Datum.product, Option.map_some, Format.write]
theorem word_false (r : Nat) : double.word false r = r := rfl
/-- What grows by a factor that is not below one never grows less. -/
theorem mul_ge {x y : Nat} (hx : nan x = false) (hy : nan y = false) (h0 : 0 < sv x) (h1 : (one : Int) ≤ sv y) : ∃ r, double.mul x y = some r ∧ nan r = false ∧ sv x ≤ sv r := by
  have ho : (0 : Int) < (one : Int) := Int.ofNat_lt.2 one_pos
  have sx := pos_sg h0
  have sy := pos_sg (Int.lt_of_lt_of_le ho h1)
  have vx : sv x = mag (rg x) := by unfold sv; rw [sx]; simp
  have vy : sv y = mag (rg y) := by unfold sv; rw [sy]; simp
  have nx : rg x ≤ 9218868437227405312 := by unfold nan at hx; simpa using hx
  have ny : rg y ≤ 9218868437227405312 := by unfold nan at hy; simpa using hy
  have big : ∀ r, r ≤ 9218868437227405312 → rg x ≤ r → nan r = false ∧ sv x ≤ sv r := fun r hr hxr => by
    have := sv_small hr
    refine ⟨this.2.1, ?_⟩
    rw [vx, this.1]
    exact Int.ofNat_le.2 (mag_le hxr)
  have y0 : rg y ≠ 0 := fun h => by rw [h, mag_zero] at vy; omega
  have x0 : rg x ≠ 0 := fun h => by rw [h, mag_zero] at vx; omega
  rcases Nat.lt_or_ge (rg x) 9218868437227405312 with hx1 | hx1
  · obtain ⟨m, i, e, i1, _, h3, hm⟩ := read_num hx1
    rcases Nat.lt_or_ge (rg y) 9218868437227405312 with hy1 | hy1
    · obtain ⟨n, j, e', j1, _, h3', hn⟩ := read_num hy1
      rw [sx] at e
      rw [sy] at e'
      have hmn : m * n ≠ 0 := Nat.mul_ne_zero (fun h => x0 (hm.1 h)) (fun h => y0 (hn.1 h))
      obtain ⟨E, k, en, k1, k2, k3, _⟩ := near false hmn (place := i + j)
      have hmul := mul_num e e'
      rw [Bool.xor_false, en, word_false] at hmul
      refine ⟨_, hmul, big _ (Nat.min_le_right _ _) ?_⟩
      clear hmul en
      refine Nat.le_min.2 ⟨?_, nx⟩
      refine Nat.le_of_not_lt fun hlt => ?_
      have h5 := mag_above k1 k2 hlt
      rw [h3] at h5
      have hone : 2 ^ e0 ≤ n * 2 ^ (j + 1074).toNat := by
        rw [vy, h3'] at h1
        exact Int.ofNat_le.1 h1
      have h6 := k3 (-j).toNat ((i + 1074).toNat + j.toNat) (by omega)
      rw [Nat.pow_add 2 E, ← Nat.mul_assoc] at h6
      have h7 := Nat.lt_of_lt_of_le h6 (Nat.mul_le_mul_right (2 ^ (-j).toNat) h5)
      have h8 : 2 ^ (-j).toNat ≤ n * 2 ^ j.toNat := by
        obtain ⟨q1, q2⟩ := pow_split j1
        refine Nat.le_of_mul_le_mul_right ?_ (Nat.two_pow_pos (1074 - (-j).toNat))
        rw [Nat.mul_assoc, ← Nat.pow_add, ← Nat.pow_add, q1, q2]
        exact hone
      have h9 : m * 2 ^ (i + 1074).toNat * 2 ^ (-j).toNat ≤ m * n * 2 ^ ((i + 1074).toNat + j.toNat) := by
        rw [Nat.pow_add]
        have := Nat.mul_le_mul_left (m * 2 ^ (i + 1074).toNat) h8
        refine Nat.le_trans this (Nat.le_of_eq ?_)
        simp only [Nat.mul_assoc, Nat.mul_left_comm, Nat.mul_comm]
      omega
    · have hy2 : rg y = 9218868437227405312 := by omega
      unfold Format.mul
      rw [e, read_inf hy2, sx, sy]
      have hm0 : ¬ m = 0 := fun h => x0 (hm.1 h)
      simp only [Datum.product, if_neg hm0, Option.map_some, Format.write, ir]
      exact ⟨_, rfl, big _ (by decide) nx⟩
  · have hx2 : rg x = 9218868437227405312 := by omega
    unfold Format.mul
    rw [read_inf hx2]
    rcases Nat.lt_or_ge (rg y) 9218868437227405312 with hy1 | hy1
    · obtain ⟨n, j, e', j1, _, h3', hn⟩ := read_num hy1
      rw [e', sx, sy]
      have hn0 : ¬ n = 0 := fun h => y0 (hn.1 h)
      simp only [Datum.product, if_neg hn0, Option.map_some, Format.write, ir]
      exact ⟨_, rfl, big _ (by decide) nx⟩
    · have hy2 : rg y = 9218868437227405312 := by omega
      rw [read_inf hy2, sx, sy]
      simp only [Datum.product, Option.map_some, Format.write, ir]
      exact ⟨_, rfl, big _ (by decide) nx⟩
end Flt
