/- Chapter 16: keys, waits and counts, as plain functions, and what the statements say of them. -/
import Derived.Test.YtfmdhpgfbojjaaaGkR
namespace Rk
set_option linter.unusedVariables false
set_option linter.unusedSimpArgs false
open Flt

def keyN (b : Nat) : Nat := if 9223372036854775808 ≤ b then 18446744073709551615 - b else b + 9223372036854775808
theorem keyN_lt {b : Nat} (h : b < 18446744073709551616) : keyN b < 18446744073709551616 := by unfold keyN; split <;> omega
theorem key_inj {a b : Nat} (ha : a < 18446744073709551616) (hb : b < 18446744073709551616) (h : keyN a = keyN b) : a = b := by
  unfold keyN at h
  split at h <;> split at h <;> omega
theorem and_hi {b : Nat} (h : b < 18446744073709551616) : b &&& 9223372036854775808 = if 9223372036854775808 ≤ b then 9223372036854775808 else 0 := by
  apply Nat.eq_of_testBit_eq
  intro i
  have e63 : b.testBit 63 = decide (9223372036854775808 ≤ b) := by
    rw [Nat.testBit_eq_decide_div_mod_eq, show (2 : Nat) ^ 63 = 9223372036854775808 by decide]
    exact decide_eq_decide.2 (by omega)
  rw [Nat.testBit_and, show 9223372036854775808 = 2 ^ 63 by decide, Nat.testBit_two_pow]
  rw [show 9223372036854775808 = 2 ^ 63 by decide] at e63
  by_cases hi : 63 = i
  · subst hi
    rw [e63]
    by_cases hb : 2 ^ 63 ≤ b
    · rw [if_pos hb, Nat.testBit_two_pow]; simp [hb]
    · rw [if_neg hb]; simp [hb]
  · by_cases hb : 2 ^ 63 ≤ b
    · rw [if_pos hb, Nat.testBit_two_pow]; simp [hi]
    · rw [if_neg hb]; simp [hi]
theorem or_hi {b : Nat} (h : b < 9223372036854775808) : b ||| 9223372036854775808 = b + 9223372036854775808 := by
  have e := Nat.two_pow_add_eq_or_of_lt (i := 63) (b := b) (by rw [show (2 : Nat) ^ 63 = 9223372036854775808 by decide]; exact h) 1
  rw [show (2 : Nat) ^ 63 * 1 = 9223372036854775808 by decide, Nat.or_comm] at e
  rw [← e]; omega
theorem xor_hi {b : Nat} (h : b < 18446744073709551616) : b ^^^ 9223372036854775808 = if 9223372036854775808 ≤ b then b - 9223372036854775808 else b + 9223372036854775808 := by
  have low : ∀ c : Nat, c < 9223372036854775808 → c ^^^ 9223372036854775808 = c + 9223372036854775808 := fun c hc => by
    rw [← or_hi hc]
    apply Nat.eq_of_testBit_eq
    intro i
    rw [Nat.testBit_xor, Nat.testBit_or, show 9223372036854775808 = 2 ^ 63 by decide, Nat.testBit_two_pow]
    by_cases hi : 63 = i
    · subst hi
      rw [Nat.testBit_lt_two_pow (by rw [show (2 : Nat) ^ 63 = 9223372036854775808 by decide]; exact hc)]
      rfl
    · simp [hi]
  split
  · rename_i hb
    have e := low (b - 9223372036854775808) (by omega)
    rw [show b - 9223372036854775808 + 9223372036854775808 = b by omega] at e
    rw [← e, Nat.xor_assoc, Nat.xor_self, Nat.xor_zero]
    omega
  · exact low b (by omega)

/- Bit by bit. -/
def sl : Nat → Nat → List Int
  | 0, _ => []
  | k + 1, b => ((b / 2 ^ k % 2 : Nat) : Int) :: sl k b
theorem sl_len : ∀ k b, (sl k b).length = k
  | 0, _ => rfl
  | k + 1, b => by rw [sl, List.length_cons, sl_len k b]
theorem sl_get : ∀ {k b i : Nat}, i < k → (sl k b).getD i 0 = ((b / 2 ^ (k - 1 - i) % 2 : Nat) : Int)
  | 0, _, _, h => by omega
  | k + 1, b, 0, _ => by simp [sl]
  | k + 1, b, i + 1, h => by
    rw [sl, List.getD_cons_succ, sl_get (by omega : i < k), show k - 1 - i = k + 1 - 1 - (i + 1) by omega]
def bt (b i : Nat) : Nat := if 9223372036854775808 ≤ b then 1 - b / 2 ^ (63 - i) % 2 else if i = 0 then 1 else b / 2 ^ (63 - i) % 2
theorem bt_le (b i : Nat) : bt b i ≤ 1 := by
  unfold bt
  split
  · omega
  · split
    · omega
    · have := Nat.mod_lt (b / 2 ^ (63 - i)) (show 0 < 2 by decide); omega
def kf (b : Nat) : Nat → Nat
  | 0 => 0
  | i + 1 => 2 * kf b i + bt b i
theorem kf_lt (b : Nat) : ∀ i, kf b i < 2 ^ i
  | 0 => by simp [kf]
  | i + 1 => by
    have h1 := kf_lt b i
    have h2 := bt_le b i
    rw [kf, Nat.pow_succ]; omega
theorem kf_small (b : Nat) {i : Nat} (h : i < 64) : kf b i < 9223372036854775808 := by
  refine Nat.lt_of_lt_of_le (kf_lt b i) ?_
  rw [show 9223372036854775808 = 2 ^ 63 by decide]
  exact Nat.pow_le_pow_right (by decide) (by omega)
theorem div_step (b : Nat) {i : Nat} (h : i < 64) : b / 2 ^ (63 - i) = 2 * (b / 2 ^ (64 - i)) + b / 2 ^ (63 - i) % 2 := by
  have e : b / 2 ^ (64 - i) = b / 2 ^ (63 - i) / 2 := by
    rw [Nat.div_div_eq_div_mul, ← Nat.pow_succ, show (63 - i).succ = 64 - i by omega]
  rw [e]; omega
theorem kf_hi {b : Nat} (h : 9223372036854775808 ≤ b) (hb : b < 18446744073709551616) : ∀ i, i ≤ 64 → kf b i + b / 2 ^ (64 - i) + 1 = 2 ^ i
  | 0, _ => by
    have : b / 2 ^ 64 = 0 := Nat.div_eq_of_lt (by rw [show (2 : Nat) ^ 64 = 18446744073709551616 by decide]; exact hb)
    simp [kf, this]
  | i + 1, hi => by
    have ih := kf_hi h hb i (by omega)
    have d := div_step b (show i < 64 by omega)
    have m := Nat.mod_lt (b / 2 ^ (63 - i)) (show 0 < 2 by decide)
    rw [kf, bt, if_pos h, Nat.pow_succ, show 64 - (i + 1) = 63 - i by omega]
    omega
theorem kf_lo {b : Nat} (h : b < 9223372036854775808) : ∀ i, i < 64 → kf b (i + 1) = 2 ^ i + b / 2 ^ (63 - i)
  | 0, _ => by
    have : b / 2 ^ 63 = 0 := Nat.div_eq_of_lt (by rw [show (2 : Nat) ^ 63 = 9223372036854775808 by decide]; exact h)
    simp only [kf, bt]
    rw [if_neg (by omega), if_pos trivial, show 63 - 0 = 63 from rfl, this]
  | i + 1, hi => by
    have ih := kf_lo h i (by omega)
    have d := div_step b (show i + 1 < 64 by omega)
    rw [kf, bt, if_neg (by omega), if_neg (by omega), ih, Nat.pow_succ]
    rw [show 64 - (i + 1) = 63 - i by omega] at d
    omega
theorem kf_key {b : Nat} (h : b < 18446744073709551616) : kf b 64 = keyN b := by
  unfold keyN
  split
  · rename_i hb
    have := kf_hi hb h 64 (by omega)
    rw [show (2 : Nat) ^ 64 = 18446744073709551616 by decide] at this
    simp at this
    omega
  · rename_i hb
    have := kf_lo (b := b) (by omega) 63 (by omega)
    rw [show (2 : Nat) ^ 63 = 9223372036854775808 by decide] at this
    simp at this
    omega

/- Waits. -/
def W (x y : Nat) : Nat → Option Nat
  | 0 => nf x
  | k + 1 => (W x y k).bind fun v => Ieee.double.mul v y
theorem W_step {x y k r r' : Nat} (h : nf r = W x y k) (h' : nf r' = Ieee.double.mul r y) : nf r' = W x y (k + 1) := by
  rw [W, ← h, h']
  unfold nf
  cases hn : nan r
  · rfl
  · simp [mul_none (.inl hn)]
def turns (n : Int) : Nat := (max 0 (min n 64)).toNat
def waitK (x y : Nat) (k : Nat) (z : Nat) : Nat := if lt 0 z then match W x y k with | none => z | some v => if lt z v then z else if lt 0 v then v else 0 else 0
def waitV (x y : Nat) (n : Int) (z : Nat) : Nat := waitK x y (turns n) z
theorem waitK_no {x y k z : Nat} (h : lt 0 z = false) : waitK x y k z = 0 := by unfold waitK; rw [h]; rfl
theorem waitK_eq {x y k z r : Nat} (h : lt 0 z = true) (hr : nf r = W x y k) : waitK x y k z = if nan r || lt z r then z else if lt 0 r then r else 0 := by
  unfold waitK
  rw [h, if_pos rfl, ← hr]
  unfold nf
  cases nan r <;> simp
theorem nan_zero : nan 0 = false := by decide
theorem sv_zero : sv 0 = 0 := by decide
theorem lt0 (v : Nat) : lt 0 v = (!nan v && decide (0 < sv v)) := by unfold lt; rw [nan_zero, sv_zero]; simp
theorem le0 (v : Nat) : le v 0 = (!nan v && decide (sv v ≤ 0)) := by unfold le; rw [nan_zero, sv_zero]; simp
theorem not_pos (v : Nat) : (le v 0 || nan v) = !lt 0 v := by
  rw [lt0, le0]
  cases nan v <;> simp
  rw [← decide_not]
  exact decide_eq_decide.2 (by omega)
theorem le_not {v : Nat} (h : nan v = false) : le v 0 = !lt 0 v := by rw [← not_pos, h]; simp
theorem feq_self (v : Nat) : (!feq v v) = nan v := by unfold feq; cases nan v <;> simp
/-- What a wait is. -/
theorem wait_cases (x y k z : Nat) : waitK x y k z = 0 ∨ (waitK x y k z = z ∧ lt 0 z = true) ∨ (lt 0 z = true ∧ nan (waitK x y k z) = false ∧ 0 < sv (waitK x y k z) ∧ sv (waitK x y k z) ≤ sv z) := by
  cases h : lt 0 z
  · exact .inl (waitK_no h)
  · have hz : nan z = false := by rw [lt0] at h; cases hn : nan z <;> simp [hn] at h ⊢
    unfold waitK
    rw [h, if_pos rfl]
    cases W x y k with
    | none => exact .inr (.inl ⟨rfl, rfl⟩)
    | some v =>
      dsimp only
      by_cases h1 : lt z v = true
      · rw [if_pos h1]; exact .inr (.inl ⟨rfl, rfl⟩)
      · rw [if_neg h1]
        by_cases h2 : lt 0 v = true
        · rw [if_pos h2]
          rw [lt0] at h2
          simp only [Bool.and_eq_true, Bool.not_eq_true', decide_eq_true_eq] at h2
          refine .inr (.inr ⟨rfl, h2.1, h2.2, ?_⟩)
          unfold lt at h1
          rw [hz, h2.1] at h1
          simpa using h1
        · rw [if_neg h2]; exact .inl rfl
theorem wait_laws (x y k z : Nat) : nan (waitK x y k z) = false ∧ 0 ≤ sv (waitK x y k z) ∧ waitK x y k z ≠ 9223372036854775808 ∧ (lt 0 z = true → sv (waitK x y k z) ≤ sv z) ∧ (lt 0 z = false → waitK x y k z = 0) := by
  have z63 : sv 9223372036854775808 = 0 := by decide
  suffices h : nan (waitK x y k z) = false ∧ 0 ≤ sv (waitK x y k z) ∧ waitK x y k z ≠ 9223372036854775808 ∧ (lt 0 z = true → sv (waitK x y k z) ≤ sv z) from ⟨h.1, h.2.1, h.2.2.1, h.2.2.2, waitK_no⟩
  rcases wait_cases x y k z with h | ⟨h, hz⟩ | ⟨hz, h1, h2, h3⟩
  · rw [h, nan_zero, sv_zero]
    refine ⟨rfl, by omega, by omega, fun hz => ?_⟩
    rw [lt0] at hz
    simp only [Bool.and_eq_true, Bool.not_eq_true', decide_eq_true_eq] at hz
    omega
  · rw [h]
    have hz' := hz
    rw [lt0] at hz'
    simp only [Bool.and_eq_true, Bool.not_eq_true', decide_eq_true_eq] at hz'
    exact ⟨hz'.1, by omega, fun e => by rw [e, z63] at hz'; omega, fun _ => by omega⟩
  · exact ⟨h1, by omega, fun e => by rw [e, z63] at h2; omega, fun _ => h3⟩
theorem W_pos {x y : Nat} (hx : lt 0 x = true) (hy : nan y = false) (h1 : (one : Int) ≤ sv y) : ∀ k, ∃ v, W x y k = some v ∧ nan v = false ∧ 0 < sv v
  | 0 => by
    rw [lt0] at hx
    simp only [Bool.and_eq_true, Bool.not_eq_true', decide_eq_true_eq] at hx
    exact ⟨x, by rw [W, nf, hx.1]; rfl, hx.1, hx.2⟩
  | k + 1 => by
    obtain ⟨v, hv, hn, hp⟩ := W_pos hx hy h1 k
    obtain ⟨r, hr, hn', hge⟩ := mul_ge hn hy hp h1
    exact ⟨r, by rw [W, hv]; exact hr, hn', by omega⟩
theorem wait_mono {x y k z : Nat} (hx : lt 0 x = true) (hy : nan y = false) (h1 : (one : Int) ≤ sv y) : sv (waitK x y k z) ≤ sv (waitK x y (k + 1) z) := by
  cases h : lt 0 z
  · rw [waitK_no h, waitK_no h]; exact Int.le_refl _
  · have hz := h
    rw [lt0] at hz
    simp only [Bool.and_eq_true, Bool.not_eq_true', decide_eq_true_eq] at hz
    obtain ⟨v, hv, hn, hp⟩ := W_pos hx hy h1 k
    obtain ⟨r, hr, hn', hge⟩ := mul_ge hn hy hp h1
    have hr' : W x y (k + 1) = some r := by rw [W, hv]; exact hr
    unfold waitK
    rw [h, if_pos rfl, if_pos rfl, hv, hr']
    dsimp only
    have e : ∀ a, nan a = false → lt z a = decide (sv z < sv a) := fun a ha => by unfold lt; rw [hz.1, ha]; simp
    have e0 : ∀ a, nan a = false → lt 0 a = decide (0 < sv a) := fun a ha => by rw [lt0, ha]; simp
    rw [e v hn, e r hn', e0 v hn, e0 r hn']
    simp only [decide_eq_true_eq]
    rw [if_pos hp, if_pos (show 0 < sv r by omega)]
    split <;> split <;> omega

/- Counts. -/
def top (most : Int) : Int := max 0 (min most 1099511627776)
def cei (x : Nat) : Int := ((Ieee.double.read (ceilB x)).toInt .zero).getD 0
def cnt (x : Nat) (most : Int) : Int := if nan x || lt (ofI (top most)) x then top most else if lt 0 x then cei x else 0
theorem top_in (most : Int) : 0 ≤ top most ∧ top most ≤ 1099511627776 := by unfold top; omega
theorem top_lt {x : Nat} {most : Int} (h : nan x = false) : lt (ofI (top most)) x = decide (top most * (one : Int) < sv x) := by
  obtain ⟨h1, h2⟩ := ofI_spec (top_in most).1 (top_in most).2
  unfold lt; rw [h1, h, h2]; simp
theorem cei_spec {x : Nat} {most : Int} (h : (nan x || lt (ofI (top most)) x) = false) (h0 : lt 0 x = true) :
    (Ieee.double.read (ceilB x)).toInt .zero = some (cei x) ∧ 0 ≤ cei x ∧ cei x ≤ top most ∧ sv x ≤ cei x * one ∧ (cei x - 1) * one < sv x := by
  simp only [Bool.or_eq_false_iff] at h
  obtain ⟨hn, hl⟩ := h
  rw [top_lt hn] at hl
  simp only [decide_eq_false_iff_not] at hl
  rw [lt0, hn] at h0
  simp at h0
  have ho : (0 : Int) < (one : Int) := Int.ofNat_lt.2 one_pos
  have ht := (top_in most).2
  have hmul : top most * (one : Int) ≤ 1099511627776 * (one : Int) := Int.mul_le_mul_of_nonneg_right ht (by omega)
  obtain ⟨c, hc, h1, h2, h3⟩ := ceil_spec hn h0 (by omega)
  have e : cei x = c := by unfold cei; rw [hc]; rfl
  rw [e]
  refine ⟨hc, by omega, ?_, h2, h3⟩
  have : ((c : Int) - 1) * one < top most * one := by omega
  have := Int.lt_of_mul_lt_mul_right this (Int.le_of_lt ho)
  omega
/-- The least one that is not below. -/
theorem cnt_least {x : Nat} {most c : Int} (hn : nan x = false) (hl : lt (ofI (top most)) x = false) (h0 : 0 ≤ c) (h1 : sv x ≤ c * one) (h2 : c = 0 ∨ (c - 1) * one < sv x) : cnt x most = c := by
  have ho : (0 : Int) < (one : Int) := Int.ofNat_lt.2 one_pos
  have hh : (nan x || lt (ofI (top most)) x) = false := by rw [hn, hl]; rfl
  unfold cnt
  rw [hh]
  simp only [Bool.false_eq_true, if_false]
  cases hp : lt 0 x
  · simp only [Bool.false_eq_true, if_false]
    rw [lt0, hn] at hp
    simp at hp
    rcases h2 with h2 | h2
    · exact h2.symm
    · have : (c - 1) * (one : Int) < 0 * (one : Int) := by omega
      have := Int.lt_of_mul_lt_mul_right this (Int.le_of_lt ho)
      omega
  · simp only [if_true]
    obtain ⟨_, g1, g2, g3, g4⟩ := cei_spec hh hp
    rw [lt0, hn] at hp
    simp at hp
    have k1 : (cei x - 1) * (one : Int) < c * one := by omega
    have k1 := Int.lt_of_mul_lt_mul_right k1 (Int.le_of_lt ho)
    rcases h2 with h2 | h2
    · subst h2; omega
    · have k2 : (c - 1) * (one : Int) < cei x * one := by omega
      have k2 := Int.lt_of_mul_lt_mul_right k2 (Int.le_of_lt ho)
      omega
theorem cnt_laws (x : Nat) (most : Int) : 0 ≤ cnt x most ∧ cnt x most ≤ top most ∧ (nan x = false → cnt x most < top most → sv x ≤ cnt x most * one) ∧ (0 < cnt x most → nan x = false → (cnt x most - 1) * one < sv x) := by
  have ho : (0 : Int) < (one : Int) := Int.ofNat_lt.2 one_pos
  have ht := top_in most
  unfold cnt
  cases hh : (nan x || lt (ofI (top most)) x)
  · simp only [Bool.false_eq_true, if_false]
    cases hp : lt 0 x
    · simp only [Bool.false_eq_true, if_false]
      refine ⟨by omega, ht.1, fun hn _ => ?_, by omega⟩
      rw [lt0, hn] at hp
      simp at hp
      omega
    · simp only [if_true]
      obtain ⟨_, g1, g2, g3, g4⟩ := cei_spec hh hp
      exact ⟨g1, g2, fun _ _ => g3, fun _ _ => g4⟩
  · simp only [if_true]
    refine ⟨ht.1, Int.le_refl _, fun _ h => by omega, fun h hn => ?_⟩
    rw [hn, top_lt hn] at hh
    simp at hh
    have : (top most - 1) * (one : Int) ≤ top most * one := Int.mul_le_mul_of_nonneg_right (by omega) (by omega)
    omega
theorem cnt_mono {x y : Nat} {most : Int} (hx : nan x = false) (hy : nan y = false) (h : sv x ≤ sv y) : cnt x most ≤ cnt y most := by
  have ho : (0 : Int) < (one : Int) := Int.ofNat_lt.2 one_pos
  obtain ⟨a1, a2, a3, a4⟩ := cnt_laws x most
  obtain ⟨b1, b2, b3, b4⟩ := cnt_laws y most
  rcases Int.lt_or_le (cnt y most) (cnt x most) with h9 | h9
  · exfalso
    have c1 := b3 hy (by omega)
    have c2 := a4 (by omega) hx
    have : (cnt x most - 1) * (one : Int) < cnt y most * one := by omega
    have := Int.lt_of_mul_lt_mul_right this (Int.le_of_lt ho)
    omega
  · exact h9

/- Keys and the order of numbers. -/
theorem key_order {a b : Nat} (ha : a < 18446744073709551616) (hb : b < 18446744073709551616) (na : nan a = false) (nb : nan b = false) (h : sv a < sv b) : keyN a < keyN b := by
  have dec : ∀ {c : Nat}, c < 18446744073709551616 → sv c = if 9223372036854775808 ≤ c then -(mag (c - 9223372036854775808) : Int) else (mag c : Int) := fun {c} hc => by
    unfold sv sg rg
    by_cases h1 : 9223372036854775808 ≤ c
    · have e1 : c / 9223372036854775808 % 2 = 1 := by omega
      have e2 : c % 9223372036854775808 = c - 9223372036854775808 := by omega
      rw [if_pos h1, e1, e2]; simp
    · have e1 : c / 9223372036854775808 % 2 = 0 := by omega
      have e2 : c % 9223372036854775808 = c := by omega
      rw [if_neg h1, e1, e2]; simp
  rw [dec ha, dec hb] at h
  unfold keyN
  by_cases h1 : 9223372036854775808 ≤ a <;> by_cases h2 : 9223372036854775808 ≤ b
  · rw [if_pos h1, if_pos h2] at h ⊢
    have := lt_of_mag (r := b - 9223372036854775808) (s := a - 9223372036854775808) (by omega)
    omega
  · rw [if_pos h1, if_neg h2] ; omega
  · rw [if_neg h1, if_pos h2] at h; omega
  · rw [if_neg h1, if_neg h2] at h ⊢
    have := lt_of_mag (r := a) (s := b) (by omega)
    omega
end Rk
