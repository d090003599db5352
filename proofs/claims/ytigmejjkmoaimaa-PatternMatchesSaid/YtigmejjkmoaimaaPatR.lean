/- Chapter 17: what the reference's walk computes: ends of matches. -/
import Derived.Test.YtigmejjkmoaimaaPatY
namespace Pat
set_option linter.unusedVariables false
set_option linter.unusedSimpArgs false
open Go Gk Pt
def seg (s : List UInt8) (i j : Nat) : List UInt8 := (s.drop i).take (j - i)
theorem seg_self (s : List UInt8) (i : Nat) : seg s i i = [] := by simp [seg]
theorem seg_succ (s : List UInt8) {i j : Nat} (hi : i ≤ j) (hj : j < s.length) : seg s i (j + 1) = seg s i j ++ [at_ s (j : Int)] := by
  unfold seg
  rw [show j + 1 - i = (j - i) + 1 by omega, List.take_succ_eq_append_getElem (by simp; omega)]
  congr 1
  simp [at_, List.getD_eq_getElem?_getD, show i + (j - i) = j by omega, hj]
theorem seg_split (s : List UInt8) {i m j : Nat} (h1 : i ≤ m) (h2 : m ≤ j) (hj : j ≤ s.length) : seg s i j = seg s i m ++ seg s m j := by
  unfold seg
  rw [show j - i = (m - i) + (j - m) by omega, List.take_add, List.drop_drop, show i + (m - i) = m by omega]
theorem seg_len (s : List UInt8) {i j : Nat} (hi : i ≤ j) (hj : j ≤ s.length) : (seg s i j).length = j - i := by simp [seg]; omega
theorem seg_cut (s : List UInt8) {i j : Nat} {u v : List UInt8} (hi : i ≤ j) (hj : j ≤ s.length) (h : seg s i j = u ++ v) : u = seg s i (i + u.length) ∧ v = seg s (i + u.length) j ∧ i + u.length ≤ j := by
  have hl := congrArg List.length h
  rw [seg_len s hi hj, List.length_append] at hl
  have hm : i + u.length ≤ j := by omega
  rw [seg_split s (Nat.le_add_right i u.length) hm hj] at h
  have := List.append_inj h (by rw [seg_len s (by omega) (by omega)]; omega)
  exact ⟨this.1.symm, this.2.symm, hm⟩
/-- All ends of matches that begin at some places. -/
def EndsAt (s : List UInt8) (fr : List Bool) (L : Lang) (R : List Bool) : Prop := R.length = s.length + 1 ∧ ∀ j, j ≤ s.length → (R.getD j false = true ↔ ∃ i, i ≤ j ∧ fr.getD i false = true ∧ L (seg s i j))
theorem EndsAt.congr {s : List UInt8} {fr R : List Bool} {L M : Lang} (h : EndsAt s fr L R) (e : ∀ u, L u ↔ M u) : EndsAt s fr M R :=
  ⟨h.1, fun j hj => (h.2 j hj).trans ⟨fun ⟨i, a, b, c⟩ => ⟨i, a, b, (e _).1 c⟩, fun ⟨i, a, b, c⟩ => ⟨i, a, b, (e _).2 c⟩⟩⟩
theorem EndsAt.nil {s : List UInt8} {fr : List Bool} (h : fr.length = s.length + 1) : EndsAt s fr (fun u => u = []) fr := by
  refine ⟨h, fun j hj => ⟨fun h => ⟨j, Nat.le_refl _, h, seg_self s j⟩, ?_⟩⟩
  rintro ⟨i, h1, h2, h3⟩
  have := seg_len s h1 hj
  rw [h3] at this
  have e : i = j := by simp at this; omega
  subst e; exact h2
theorem EndsAt.cat {s : List UInt8} {fr R1 R2 : List Bool} {A B : Lang} (h : EndsAt s fr A R1) (k : EndsAt s R1 B R2) : EndsAt s fr (cat A B) R2 := by
  refine ⟨k.1, fun j hj => ?_⟩
  rw [k.2 j hj]
  constructor
  · rintro ⟨m, h1, h2, h3⟩
    obtain ⟨i, h4, h5, h6⟩ := (h.2 m (by omega)).1 h2
    exact ⟨i, by omega, h5, _, _, seg_split s h4 h1 hj, h6, h3⟩
  · rintro ⟨i, h1, h2, u, v, h3, h4, h5⟩
    obtain ⟨e1, e2, e3⟩ := seg_cut s h1 hj h3
    refine ⟨i + u.length, e3, (h.2 _ (by omega)).2 ⟨i, by omega, h2, ?_⟩, ?_⟩
    · rw [← e1]; exact h4
    · rw [← e2]; exact h5
def orAt (R1 : List Bool) (out : List Bool) (k : Nat) : List Bool := out.set k (out.getD k false || R1.getD k false)
theorem orAt_iter (R1 out : List Bool) : ∀ k, (iter (orAt R1) out k).length = out.length ∧ ∀ j, j < out.length → (iter (orAt R1) out k).getD j false = (out.getD j false || (decide (j < k) && R1.getD j false))
  | 0 => ⟨rfl, fun j _ => by simp [iter]⟩
  | k + 1 => by
    obtain ⟨h1, h2⟩ := orAt_iter R1 out k
    rw [iter]
    unfold orAt at h1 h2 ⊢
    refine ⟨by rw [List.length_set]; exact h1, fun j hj => ?_⟩
    rw [List.getD_eq_getElem?_getD, List.getElem?_set]
    by_cases e : k = j
    · subst e
      simp only [if_true, h1, hj, Option.getD_some]
      rw [h2 k hj]
      simp
    · simp only [e, if_false]
      rw [← List.getD_eq_getElem?_getD, h2 j hj]
      have : decide (j < k + 1) = decide (j < k) := by simp; omega
      rw [this]
theorem EndsAt.or {s : List UInt8} {fr R1 R2 : List Bool} {A B : Lang} (h : EndsAt s fr A R1) (k : EndsAt s fr B R2) : EndsAt s fr (fun u => A u ∨ B u) (iter (orAt R2) R1 (s.length + 1)) := by
  obtain ⟨h1, h2⟩ := orAt_iter R2 R1 (s.length + 1)
  refine ⟨h1.trans h.1, fun j hj => ?_⟩
  rw [h2 j (by rw [h.1]; omega), Bool.or_eq_true, Bool.and_eq_true, decide_eq_true_eq, h.2 j hj, k.2 j hj]
  constructor
  · rintro (⟨i, a, b, c⟩ | ⟨_, i, a, b, c⟩)
    · exact ⟨i, a, b, .inl c⟩
    · exact ⟨i, a, b, .inr c⟩
  · rintro ⟨i, a, b, c | c⟩
    · exact .inl ⟨i, a, b, c⟩
    · exact .inr ⟨by omega, i, a, b, c⟩
theorem EndsAt.none (s : List UInt8) (fr : List Bool) : EndsAt s fr (fun _ => False) (List.replicate (s.length + 1) false) :=
  ⟨by simp, fun j hj => ⟨fun h => (by rw [getD_rep] at h; cases h), fun ⟨_, _, _, h⟩ => h.elim⟩⟩
/-- 'ends'. -/
def pj (s : List UInt8) (fr : List Bool) (kind : Int) (own : UInt8) (many : Bool) : Nat → Bool
  | 0 => many && fr.getD 0 false
  | j + 1 => (many && fr.getD (j + 1) false) || (takes kind own (at_ s (j : Int)) && (fr.getD j false || (many && pj s fr kind own many j)))
theorem getD_set_b (l : List Bool) (i j : Nat) (b : Bool) (hj : j < l.length) : (l.set i b).getD j false = bif i == j then b else l.getD j false := by
  rw [List.getD_eq_getElem?_getD, List.getElem?_set, List.getD_eq_getElem?_getD]
  by_cases e : i = j
  · subst e; simp [hj]
  · have e2 : (i == j) = false := by simpa using e
    rw [e2]; simp [e]
theorem ends_iter (s : List UInt8) (fr : List Bool) (kind : Int) (own : UInt8) (many : Bool) : ∀ k, k ≤ s.length + 1 → ∀ j, j ≤ s.length → (iter (endAt s fr kind own many) (List.replicate (s.length + 1) false) k).getD j false = (decide (j < k) && pj s fr kind own many j)
  | 0, _, j, _ => by rw [iter, getD_rep]; simp
  | k + 1, hk, j, hj => by
    have ih := ends_iter s fr kind own many k (by omega)
    have hl := endIter_length s fr kind own many (List.replicate (s.length + 1) false) k
    rw [List.length_replicate] at hl
    rw [iter, endAt]
    generalize iter (endAt s fr kind own many) (List.replicate (s.length + 1) false) k = o at ih hl
    have h1 : ∀ j, j ≤ s.length → (end1 fr many o k).getD j false = bif k == j then (many && fr.getD k false) else o.getD j false := fun j hj => by
      unfold end1
      rw [Int.toNat_natCast]
      cases hc : many && fr.getD k false with
      | true => simp only [cond_true]; rw [getD_set_b _ _ _ _ (by omega)]
      | false =>
        simp only [cond_false]
        by_cases e : k = j
        · subst e; rw [ih k hj]; simp
        · simp [e]
    have hl1 := end1_length fr many o k
    generalize end1 fr many o k = o1 at h1 hl1
    have hne : ∀ j, k ≠ j → (k == j) = false := fun j e => by simpa using e
    have hrest : ∀ j, j ≤ s.length → k ≠ j → (end2 s fr kind own many o1 k).getD j false = o.getD j false := fun j hj e => by
      unfold end2
      generalize (decide (0 < (k : Int)) && _) = c
      cases c
      · simp only [cond_false]; rw [h1 j hj, hne j e]; rfl
      · simp only [cond_true]; rw [getD_set_b _ _ _ _ (by omega), h1 j hj, Int.toNat_natCast, hne j e]; rfl
    by_cases e : k = j
    · subst e
      have hself : (end2 s fr kind own many o1 k).getD k false = (o1.getD k false || (decide (0 < (k : Int)) && (takes kind own (at_ s ((k : Int) - 1)) && (fr.getD ((k : Int) - 1).toNat false || (many && o1.getD ((k : Int) - 1).toNat false))))) := by
        unfold end2
        rw [Int.toNat_natCast]
        generalize (decide (0 < (k : Int)) && _) = c
        cases c
        · simp
        · simp only [cond_true]; rw [getD_set_b _ _ _ _ (by omega)]; simp
      rw [hself, h1 k hj]
      cases k with
      | zero => simp [pj]
      | succ m =>
        have e1 : (((m + 1 : Nat) : Int) - 1) = (m : Int) := by omega
        rw [e1, Int.toNat_natCast, h1 m (by omega), ih m (by omega)]
        have hp : (0 : Int) < ((m + 1 : Nat) : Int) := by omega
        rw [hne m (by omega)]
        simp [pj]
    · rw [hrest j hj e, ih j hj]
      have : decide (j < k + 1) = decide (j < k) := by simp; omega
      rw [this]
theorem ends_unit {s : List UInt8} {fr : List Bool} {kind k c : Int} {own : UInt8} {many : Bool} (hu : ∀ x, takes kind own x = fitsP k c x) (hm : many = true ↔ (k = 2 ∨ k = 3)) : EndsAt s fr (unit k c) (ends s fr kind own many) := by
  refine ⟨ends_length s fr kind own many, fun j hj => ?_⟩
  unfold ends
  rw [ends_iter s fr kind own many (s.length + 1) (Nat.le_refl _) j hj]
  have hd : decide (j < s.length + 1) = true := by simp; omega
  rw [hd, Bool.true_and]
  cases many with
  | true =>
    have hk := hm.1 rfl
    unfold unit
    simp only [hk, if_true]
    induction j with
    | zero =>
      simp only [pj, Bool.true_and]
      constructor
      · intro h; exact ⟨0, Nat.le_refl _, h, by rw [seg_self]; simp⟩
      · rintro ⟨i, h1, h2, _⟩
        obtain rfl : i = 0 := by omega
        exact h2
    | succ j ih =>
      have ih : pj s fr kind own true j = true ↔ ∃ i, i ≤ j ∧ fr.getD i false = true ∧ ∀ x, x ∈ seg s i j → fitsP k c x = true := ih (by omega) (by simp; omega)
      rw [pj, Bool.or_eq_true, Bool.and_eq_true, Bool.and_eq_true, Bool.or_eq_true, Bool.and_eq_true, ih, hu]
      constructor
      · rintro (⟨_, h⟩ | ⟨h1, h2 | ⟨_, i, h3, h4, h5⟩⟩)
        · exact ⟨j + 1, Nat.le_refl _, h, by rw [seg_self]; simp⟩
        · refine ⟨j, by omega, h2, ?_⟩
          rw [seg_succ s (Nat.le_refl _) (by omega), seg_self]
          simpa using h1
        · refine ⟨i, by omega, h4, ?_⟩
          rw [seg_succ s h3 (by omega)]
          intro x hx
          rcases List.mem_append.1 hx with hx | hx
          · exact h5 x hx
          · simp at hx; subst hx; exact h1
      · rintro ⟨i, h1, h2, h3⟩
        by_cases e : i = j + 1
        · subst e; exact .inl ⟨rfl, h2⟩
        · rw [seg_succ s (by omega) (by omega)] at h3
          exact .inr ⟨h3 _ (by simp), .inr ⟨rfl, i, by omega, h2, fun x hx => h3 x (by simp [hx])⟩⟩
  | false =>
    have hk : ¬ (k = 2 ∨ k = 3) := fun h => by have := hm.2 h; cases this
    unfold unit
    simp only [hk, if_false]
    cases j with
    | zero =>
      simp only [pj, Bool.false_and]
      constructor
      · intro h; cases h
      · rintro ⟨i, h1, h2, x, h3, _⟩
        have := seg_len s h1 hj
        rw [h3] at this
        simp at this
    | succ j =>
      rw [pj]
      simp only [Bool.false_and, Bool.or_false, Bool.false_or, Bool.and_eq_true, hu]
      constructor
      · rintro ⟨h1, h2⟩
        exact ⟨j, by omega, h2, at_ s (j : Int), by rw [seg_succ s (Nat.le_refl _) (by omega), seg_self]; rfl, h1⟩
      · rintro ⟨i, h1, h2, x, h3, h4⟩
        have hl := seg_len s h1 hj
        rw [h3] at hl
        obtain rfl : i = j := by simp at hl; omega
        rw [seg_succ s (Nat.le_refl _) (by omega), seg_self] at h3
        simp at h3
        subst h3
        exact ⟨h4, h2⟩
end Pat
