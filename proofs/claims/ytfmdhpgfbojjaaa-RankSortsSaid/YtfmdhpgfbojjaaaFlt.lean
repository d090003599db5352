/- Numbers with a point of 64 bits, by their rungs: their order, a whole number's, what is rounded up, a product. Nothing of a program stands here. -/
import Ieee.Arith
namespace Flt
set_option linter.unusedVariables false
set_option linter.unusedSimpArgs false
open Ieee

def rg (b : Nat) : Nat := b % 9223372036854775808
def sg (b : Nat) : Bool := b / 9223372036854775808 % 2 == 1
def nan (b : Nat) : Bool := decide (9218868437227405312 < rg b)
def mag (r : Nat) : Nat := if r < 4503599627370496 then r else (4503599627370496 + r % 4503599627370496) * 2 ^ (r / 4503599627370496 - 1)
def sv (b : Nat) : Int := if sg b then -(mag (rg b) : Int) else (mag (rg b) : Int)

theorem mag_lt {r s : Nat} (h : r < s) : mag r < mag s := by
  unfold mag
  by_cases h1 : s < 4503599627370496
  · rw [if_pos h1, if_pos (by omega)]; exact h
  · rw [if_neg h1]
    have hp : 0 < 2 ^ (s / 4503599627370496 - 1) := Nat.two_pow_pos _
    by_cases h2 : r < 4503599627370496
    · rw [if_pos h2]
      have : 4503599627370496 * 1 ≤ (4503599627370496 + s % 4503599627370496) * 2 ^ (s / 4503599627370496 - 1) := Nat.mul_le_mul (by omega) hp
      omega
    · rw [if_neg h2]
      rcases Nat.lt_or_ge (r / 4503599627370496) (s / 4503599627370496) with hq | hq
      · have e1 : (4503599627370496 + r % 4503599627370496) * 2 ^ (r / 4503599627370496 - 1) < (2 * 4503599627370496) * 2 ^ (r / 4503599627370496 - 1) := by
          apply Nat.mul_lt_mul_of_pos_right (by have := Nat.mod_lt r (show 0 < 4503599627370496 by decide); omega) (Nat.two_pow_pos _)
        have e2 : (2 * 4503599627370496) * 2 ^ (r / 4503599627370496 - 1) = 4503599627370496 * 2 ^ (r / 4503599627370496) := by
          have : r / 4503599627370496 = (r / 4503599627370496 - 1) + 1 := by have := (Nat.le_div_iff_mul_le (show 0 < 4503599627370496 by decide) (x := 1) (y := r)).2 (by omega); omega
          rw [this, Nat.pow_succ, show r / 4503599627370496 - 1 + 1 - 1 = r / 4503599627370496 - 1 by omega, Nat.mul_comm 2 4503599627370496, Nat.mul_assoc, Nat.mul_comm 2]
        have e3 : 2 ^ (r / 4503599627370496) ≤ 2 ^ (s / 4503599627370496 - 1) := Nat.pow_le_pow_right (by decide) (by omega)
        have e4 : 4503599627370496 * 2 ^ (r / 4503599627370496) ≤ (4503599627370496 + s % 4503599627370496) * 2 ^ (s / 4503599627370496 - 1) := Nat.mul_le_mul (by omega) e3
        omega
      · have hq2 : r / 4503599627370496 = s / 4503599627370496 := Nat.le_antisymm (Nat.div_le_div_right (Nat.le_of_lt h)) hq
        rw [hq2]
        refine Nat.mul_lt_mul_of_pos_right ?_ hp
        have a1 := Nat.div_add_mod r 4503599627370496; have a2 := Nat.div_add_mod s 4503599627370496
        rw [hq2] at a1
        omega
theorem mag_le {r s : Nat} (h : r ≤ s) : mag r ≤ mag s := by
  rcases Nat.lt_or_ge r s with h1 | h1
  · exact Nat.le_of_lt (mag_lt h1)
  · have : r = s := by omega
    rw [this]; exact Nat.le_refl _
theorem mag_zero : mag 0 = 0 := rfl
theorem mag_pos {r : Nat} (h : 0 < r) : 0 < mag r := by have := mag_lt h; rw [mag_zero] at this; exact this
theorem lt_of_mag {r s : Nat} (h : mag r < mag s) : r < s := by
  rcases Nat.lt_or_ge r s with h1 | h1
  · exact h1
  · have := mag_le h1; omega
/-- A significand at a place. -/
theorem mag_at {E k : Nat} (h1 : k ≤ 2 * 4503599627370496) (h2 : 0 < E → 4503599627370496 ≤ k) : mag (E * 4503599627370496 + k) = k * 2 ^ E := by
  unfold mag
  by_cases hk : k < 4503599627370496
  · have : E = 0 := by omega
    subst this
    simp only [Nat.zero_mul, Nat.zero_add, Nat.pow_zero, Nat.mul_one]
    rw [if_pos hk]
  · rw [if_neg (by omega)]
    by_cases hk2 : k < 2 * 4503599627370496
    · have e1 : (E * 4503599627370496 + k) / 4503599627370496 = E + 1 := by
        rw [show E * 4503599627370496 + k = (k - 4503599627370496) + (E + 1) * 4503599627370496 by omega, Nat.add_mul_div_right _ _ (by decide), Nat.div_eq_of_lt (by omega)]; omega
      have e2 : (E * 4503599627370496 + k) % 4503599627370496 = k - 4503599627370496 := by
        rw [show E * 4503599627370496 + k = (k - 4503599627370496) + (E + 1) * 4503599627370496 by omega, Nat.add_mul_mod_self_right, Nat.mod_eq_of_lt (by omega)]
      rw [e1, e2, show 4503599627370496 + (k - 4503599627370496) = k by omega, show E + 1 - 1 = E by omega]
    · have : k = 2 * 4503599627370496 := by omega
      subst this
      have e1 : (E * 4503599627370496 + 2 * 4503599627370496) / 4503599627370496 = E + 2 := by rw [← Nat.add_mul, Nat.mul_div_cancel _ (by decide)]
      have e2 : (E * 4503599627370496 + 2 * 4503599627370496) % 4503599627370496 = 0 := by rw [← Nat.add_mul, Nat.mul_mod_left]
      rw [e1, e2, show E + 2 - 1 = E + 1 by omega, Nat.pow_succ]
      have : 4503599627370496 * (2 ^ E * 2) = 2 * 4503599627370496 * 2 ^ E := by rw [Nat.mul_comm (2 ^ E) 2, ← Nat.mul_assoc, Nat.mul_comm 4503599627370496 2]
      simpa using this
theorem mag_above {E k r : Nat} (h1 : k ≤ 2 * 4503599627370496) (h2 : 0 < E → 4503599627370496 ≤ k) (h : E * 4503599627370496 + k < r) : (k + 1) * 2 ^ E ≤ mag r := by
  by_cases hk : k + 1 ≤ 2 * 4503599627370496
  · rw [← mag_at hk (fun h => by have := h2 h; omega)]
    exact mag_le (by omega)
  · have hk2 : k = 2 * 4503599627370496 := by omega
    subst hk2
    have e := mag_at (E := E + 1) (k := 4503599627370496 + 1) (by decide) (fun _ => by decide)
    have h3 : mag ((E + 1) * 4503599627370496 + (4503599627370496 + 1)) ≤ mag r := mag_le (by rw [Nat.add_mul]; omega)
    rw [e, Nat.pow_succ] at h3
    refine Nat.le_trans ?_ h3
    rw [Nat.mul_comm (2 ^ E) 2, ← Nat.mul_assoc]
    exact Nat.mul_le_mul_right _ (by decide)

theorem sw : double.signWeight = 9223372036854775808 := by decide
theorem bn : double.binade = 4503599627370496 := by decide
theorem ir : double.infRung = 9218868437227405312 := by decide
theorem lp : double.leastPlace = -1074 := by decide

/-- What a word stands for. -/
theorem read_num {b : Nat} (h : rg b < 9218868437227405312) : ∃ m i, double.read b = .number (sg b) m i ∧ -1074 ≤ i ∧ i ≤ 971 ∧ mag (rg b) = m * 2 ^ (i + 1074).toNat ∧ (m = 0 ↔ rg b = 0) := by
  unfold Format.read
  rw [sw, bn, ir, lp]
  dsimp only
  show ∃ m i, (if rg b < 4503599627370496 then _ else _) = _ ∧ _
  by_cases h1 : rg b < 4503599627370496
  · rw [if_pos h1]
    refine ⟨rg b, -1074, rfl, by omega, by omega, ?_, Iff.rfl⟩
    unfold mag
    rw [if_pos h1]; simp
  · rw [if_neg h1]
    show ∃ m i, (if rg b < 9218868437227405312 then _ else _) = _ ∧ _
    rw [if_pos h]
    refine ⟨4503599627370496 + rg b % 4503599627370496, -1074 + (rg b / 4503599627370496 - 1 : Nat), rfl, by omega, ?_, ?_, ?_⟩
    · have : rg b / 4503599627370496 ≤ 2046 := by
        have := Nat.div_lt_of_lt_mul (m := rg b) (n := 4503599627370496) (k := 2047) (by omega)
        omega
      omega
    · unfold mag
      rw [if_neg h1]
      congr 2
      omega
    · omega
theorem read_inf {b : Nat} (h : rg b = 9218868437227405312) : double.read b = .infinity (sg b) := by
  unfold Format.read
  rw [sw, bn, ir, lp]
  dsimp only
  show (if rg b < 4503599627370496 then _ else _) = _
  rw [if_neg (by omega)]
  show (if rg b < 9218868437227405312 then _ else if rg b = 9218868437227405312 then _ else _) = _
  rw [if_neg (by omega), if_pos h]
  rfl
theorem read_nan {b : Nat} (h : 9218868437227405312 < rg b) : ∃ s t, double.read b = .nan s t := by
  unfold Format.read
  rw [sw, bn, ir, lp]
  dsimp only
  refine ⟨sg b, rg b - 9218868437227405312, ?_⟩
  show (if rg b < 4503599627370496 then _ else _) = _
  rw [if_neg (by omega)]
  show (if rg b < 9218868437227405312 then _ else if rg b = 9218868437227405312 then _ else _) = _
  rw [if_neg (by omega), if_neg (by omega)]
  rfl

theorem signed_eq (s : Bool) (m k : Nat) : signed s m k = if s then -((m * 2 ^ k : Nat) : Int) else ((m * 2 ^ k : Nat) : Int) := by
  unfold signed
  rw [Nat.shiftLeft_eq]
theorem cmp_scale {a b c : Int} (h : 0 < c) : compare (a * c) (b * c) = compare a b := by
  have h1 : (a * c < b * c) ↔ a < b := ⟨fun h' => Int.lt_of_mul_lt_mul_right h' (Int.le_of_lt h), fun h' => Int.mul_lt_mul_of_pos_right h' h⟩
  have h2 : (a * c = b * c) ↔ a = b := ⟨fun h' => Int.eq_of_mul_eq_mul_right (by omega) h', fun h' => by rw [h']⟩
  show compareOfLessAndEq _ _ = compareOfLessAndEq _ _
  unfold compareOfLessAndEq
  simp only [h1, h2]
theorem signed_scale (s : Bool) (m k j : Nat) : signed s m (k + j) = signed s m k * ((2 ^ j : Nat) : Int) := by
  rw [signed_eq, signed_eq, Nat.pow_add, ← Nat.mul_assoc]
  cases s <;> simp [Int.neg_mul]
theorem cmp_lt {a b : Int} (h : a < b) : compare a b = .lt := by
  show compareOfLessAndEq _ _ = _
  unfold compareOfLessAndEq; rw [if_pos h]
theorem cmp_gt {a b : Int} (h : b < a) : compare a b = .gt := by
  show compareOfLessAndEq _ _ = _
  unfold compareOfLessAndEq; rw [if_neg (by omega), if_neg (by omega)]
theorem cmp_eq {a b : Int} (h : a = b) : compare a b = .eq := by
  show compareOfLessAndEq _ _ = _
  unfold compareOfLessAndEq; rw [if_neg (by omega), if_pos h]

theorem order_eq (x y : Nat) : double.order x y = if nan x || nan y then none else some (compare (sv x) (sv y)) := by
  unfold Format.order nan
  by_cases hx : 9218868437227405312 < rg x
  · obtain ⟨s, t, e⟩ := read_nan hx
    rw [e, decide_eq_true hx]
    simp [Datum.order]
  · rw [decide_eq_false hx]
    by_cases hy : 9218868437227405312 < rg y
    · obtain ⟨s, t, e⟩ := read_nan hy
      rw [e, decide_eq_true hy]
      cases double.read x <;> simp [Datum.order]
    · rw [decide_eq_false hy]
      simp only [Bool.or_self, Bool.false_eq_true, if_false]
      have M : ∀ {r}, r < 9218868437227405312 → mag r < mag 9218868437227405312 := fun h => mag_lt h
      rcases Nat.lt_or_ge (rg x) 9218868437227405312 with hx1 | hx1
      · obtain ⟨m, i, e, h1, _, h3, _⟩ := read_num hx1
        rcases Nat.lt_or_ge (rg y) 9218868437227405312 with hy1 | hy1
        · obtain ⟨n, j, e', h1', _, h3', _⟩ := read_num hy1
          rw [e, e']
          simp only [Datum.order, Option.some.injEq]
          have sx : sv x = signed (sg x) m (i + 1074).toNat := by rw [signed_eq, ← h3]; rfl
          have sy : sv y = signed (sg y) n (j + 1074).toNat := by rw [signed_eq, ← h3']; rfl
          rw [sx, sy, show (i + 1074).toNat = (i - min i j).toNat + (min i j + 1074).toNat by omega, show (j + 1074).toNat = (j - min i j).toNat + (min i j + 1074).toNat by omega, signed_scale, signed_scale]
          exact (cmp_scale (Int.ofNat_lt.2 (Nat.two_pow_pos _))).symm
        · have hy2 : rg y = 9218868437227405312 := by omega
          rw [e, read_inf hy2]
          have hm := M hx1
          simp only [Datum.order, Option.some.injEq]
          unfold sv
          rw [hy2]
          cases hs : sg y
          · simp only [Bool.false_eq_true, if_false]
            refine (cmp_lt ?_).symm
            split <;> omega
          · simp only [if_true]
            refine (cmp_gt ?_).symm
            split <;> omega
      · have hx2 : rg x = 9218868437227405312 := by omega
        rw [read_inf hx2]
        rcases Nat.lt_or_ge (rg y) 9218868437227405312 with hy1 | hy1
        · obtain ⟨n, j, e', h1', _, h3', _⟩ := read_num hy1
          rw [e']
          have hm := M hy1
          simp only [Datum.order, Option.some.injEq]
          unfold sv
          rw [hx2]
          cases hs : sg x
          · simp only [Bool.false_eq_true, if_false]
            refine (cmp_gt ?_).symm
            split <;> omega
          · simp only [if_true]
            refine (cmp_lt ?_).symm
            split <;> omega
        · have hy2 : rg y = 9218868437227405312 := by omega
          rw [read_inf hy2]
          have hm : 0 < mag 9218868437227405312 := mag_pos (by decide)
          simp only [Datum.order, Option.some.injEq]
          unfold sv
          rw [hx2, hy2]
          cases sg x <;> cases sg y <;> simp only [if_true, Bool.false_eq_true, if_false]
          · exact (cmp_eq rfl).symm
          · exact (cmp_gt (by omega)).symm
          · exact (cmp_lt (by omega)).symm
          · exact (cmp_eq rfl).symm

/- The six comparisons. -/
theorem lt_iff (x y : Nat) : (double.order x y == some .lt) = (!nan x && !nan y && decide (sv x < sv y)) := by
  rw [order_eq]
  cases nan x <;> cases nan y <;> simp
  rcases Int.lt_trichotomy (sv x) (sv y) with h | h | h
  · rw [cmp_lt h]; simp [h]
  · rw [cmp_eq h]; simp; omega
  · rw [cmp_gt h]; simp; omega
theorem gt_iff (x y : Nat) : (double.order x y == some .gt) = (!nan x && !nan y && decide (sv y < sv x)) := by
  rw [order_eq]
  cases nan x <;> cases nan y <;> simp
  rcases Int.lt_trichotomy (sv x) (sv y) with h | h | h
  · rw [cmp_lt h]; simp; omega
  · rw [cmp_eq h]; simp; omega
  · rw [cmp_gt h]; simp [h]
theorem eq_iff (x y : Nat) : (double.order x y == some .eq) = (!nan x && !nan y && decide (sv x = sv y)) := by
  rw [order_eq]
  cases nan x <;> cases nan y <;> simp
  rcases Int.lt_trichotomy (sv x) (sv y) with h | h | h
  · rw [cmp_lt h]; simp; omega
  · rw [cmp_eq h]; simp [h]
  · rw [cmp_gt h]; simp; omega
theorem le_iff (x y : Nat) : (double.order x y == some .lt || double.order x y == some .eq) = (!nan x && !nan y && decide (sv x ≤ sv y)) := by
  rw [lt_iff, eq_iff]
  cases nan x <;> cases nan y <;> simp
  rw [← Bool.decide_or]
  exact decide_eq_decide.2 (by omega)
theorem ge_iff (x y : Nat) : (double.order x y == some .gt || double.order x y == some .eq) = (!nan x && !nan y && decide (sv y ≤ sv x)) := by
  rw [gt_iff, eq_iff]
  cases nan x <;> cases nan y <;> simp
  rw [← Bool.decide_or]
  exact decide_eq_decide.2 (by omega)
theorem ne_self (x : Nat) : (double.order x x != some .eq) = nan x := by
  have h := eq_iff x x
  cases hn : nan x <;> simp [hn] at h ⊢ <;> exact h
end Flt
