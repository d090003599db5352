/- Chapter 17: what stands at a place of a tree's text. -/
import Derived.Test.YtigmejjkmoaimaaPatQ
import Derived.Test.YtigmejjkmoaimaaPatL
namespace Pat
set_option linter.unusedVariables false
set_option linter.unusedSimpArgs false
open Go Gk Pt
section
variable {l : List UInt8} {k : Nat} {r : Pt}
theorem drop_split (hk : k < l.length) {c : UInt8} {t : List UInt8} (h : l.drop k = c :: t) : c = at_ l (k : Int) ∧ t = l.drop (k + 1) := by
  rw [drop_at l hk] at h
  injection h with h1 h2
  exact ⟨h1.symm, h2.symm⟩
theorem at_eq {n : UInt8} {m : Nat} (hn : n.toNat = m) (h : (at_ l (k : Int)).toNat = m) : at_ l (k : Int) = n := UInt8.toNat_inj.1 (by omega)
theorem inv_one (h : Rep (l.drop k) r) (hk : k < l.length) (hc : (at_ l (k : Int)).toNat = 63) : ∃ r', r = .lit 1 0 r' ∧ Rep (l.drop (k + 1)) r' := by
  have e := at_eq (n := 63) rfl hc
  rw [drop_at l hk, e] at h
  generalize l.drop (k + 1) = t at h
  generalize hx : (63 :: t : List UInt8) = x at h
  cases h with
  | nil => cases hx
  | one h => injection hx with _ h2; subst h2; exact ⟨_, rfl, h⟩
  | all => injection hx with h1; exact absurd h1 (by decide)
  | few => injection hx with h1; exact absurd h1 (by decide)
  | grp => injection hx with h1; exact absurd h1 (by decide)
  | bar => injection hx with h1; exact absurd h1 (by decide)
  | esc => injection hx with h1; exact absurd h1 (by decide)
  | byte c h1 => injection hx with h2; exact absurd h2.symm h1
theorem inv_star (h : Rep (l.drop k) r) (hk : k < l.length) (hc : (at_ l (k : Int)).toNat = 42) :
    (k + 1 < l.length ∧ at_ l ((k : Int) + 1) = 42 ∧ ∃ r', r = .lit 2 0 r' ∧ Rep (l.drop (k + 2)) r') ∨ ((k + 1 < l.length → at_ l ((k : Int) + 1) ≠ 42) ∧ ∃ r', r = .lit 3 0 r' ∧ Rep (l.drop (k + 1)) r') := by
  have e := at_eq (n := 42) rfl hc
  rw [drop_at l hk, e] at h
  generalize ht : l.drop (k + 1) = t at h
  generalize hx : (42 :: t : List UInt8) = x at h
  cases h with
  | nil => cases hx
  | one => injection hx with h1; exact absurd h1 (by decide)
  | @all t' r' h =>
    injection hx with _ h2; subst h2
    have hk1 : k + 1 < l.length := by
      apply Classical.byContradiction
      intro hn
      rw [List.drop_of_length_le (by omega)] at ht
      cases ht
    obtain ⟨a, b⟩ := drop_split hk1 ht
    subst b
    exact .inl ⟨hk1, a.symm, r', rfl, h⟩
  | @few t' r' hh h =>
    injection hx with _ h2; subst h2
    refine .inr ⟨fun hk1 => ?_, r', rfl, h⟩
    rw [← ht, drop_at l hk1] at hh
    intro e2
    exact hh (by rw [List.head?_cons]; exact congrArg _ e2)
  | grp => injection hx with h1; exact absurd h1 (by decide)
  | bar => injection hx with h1; exact absurd h1 (by decide)
  | esc => injection hx with h1; exact absurd h1 (by decide)
  | byte c _ h1 => injection hx with h2; exact absurd h2.symm h1
theorem inv_all (h : Rep (l.drop k) r) (hk : k < l.length) (hc : (at_ l (k : Int)).toNat = 42) (h2 : k + 1 < l.length ∧ (at_ l ((k : Int) + 1)).toNat = 42) : ∃ r', r = .lit 2 0 r' ∧ Rep (l.drop (k + 2)) r' := by
  rcases inv_star h hk hc with ⟨_, _, h⟩ | ⟨h3, _⟩
  · exact h
  · exact absurd (UInt8.toNat_inj.1 h2.2) (h3 h2.1)
theorem inv_few (h : Rep (l.drop k) r) (hk : k < l.length) (hc : (at_ l (k : Int)).toNat = 42) (h2 : ¬ (k + 1 < l.length ∧ (at_ l ((k : Int) + 1)).toNat = 42)) : ∃ r', r = .lit 3 0 r' ∧ Rep (l.drop (k + 1)) r' := by
  rcases inv_star h hk hc with ⟨h3, h4, _⟩ | ⟨_, h⟩
  · exact absurd ⟨h3, by rw [h4]; rfl⟩ h2
  · exact h
theorem rep_nil (h : Rep [] r) : r = .nil := by cases h; rfl
theorem inv_esc (h : Rep (l.drop k) r) (hk : k < l.length) (hc : (at_ l (k : Int)).toNat = 92) : k + 1 < l.length ∧ ∃ r', r = .lit 0 ((at_ l ((k : Int) + 1)).toNat : Int) r' ∧ Rep (l.drop (k + 2)) r' := by
  have e := at_eq (n := 92) rfl hc
  rw [drop_at l hk, e] at h
  generalize ht : l.drop (k + 1) = t at h
  generalize hx : (92 :: t : List UInt8) = x at h
  cases h with
  | nil => cases hx
  | one => injection hx with h1; exact absurd h1 (by decide)
  | all => injection hx with h1; exact absurd h1 (by decide)
  | few => injection hx with h1; exact absurd h1 (by decide)
  | grp => injection hx with h1; exact absurd h1 (by decide)
  | bar => injection hx with h1; exact absurd h1 (by decide)
  | @esc t' r' d h =>
    injection hx with _ h2; subst h2
    have hk1 : k + 1 < l.length := by
      apply Classical.byContradiction
      intro hn
      rw [List.drop_of_length_le (by omega)] at ht
      cases ht
    obtain ⟨a, b⟩ := drop_split hk1 ht
    subst b
    refine ⟨hk1, r', ?_, h⟩
    rw [a]; rfl
  | byte c _ _ _ _ _ h1 => injection hx with h2; exact absurd h2.symm h1
theorem inv_grp (h : Rep (l.drop k) r) (hk : k < l.length) (hc : (at_ l (k : Int)).toNat = 40) : ∃ t1 t2 b r', l.drop k = 40 :: (t1 ++ 41 :: t2) ∧ r = .grp b r' ∧ Rep t1 b ∧ Rep t2 r' ∧ l.drop (k + 1) = t1 ++ 41 :: t2 ∧ l.drop (k + 1 + t1.length + 1) = t2 ∧ k + 1 + t1.length < l.length := by
  have e := at_eq (n := 40) rfl hc
  have h0 := drop_at l hk
  rw [e] at h0
  rw [h0] at h ⊢
  generalize ht : l.drop (k + 1) = t at h
  generalize hx : (40 :: t : List UInt8) = x at h
  cases h with
  | nil => cases hx
  | one => injection hx with h1; exact absurd h1 (by decide)
  | all => injection hx with h1; exact absurd h1 (by decide)
  | few => injection hx with h1; exact absurd h1 (by decide)
  | @grp t1 t2 b r' h1 h2 =>
    injection hx with _ h3; subst h3
    have hl := congrArg List.length ht
    simp at hl
    refine ⟨t1, t2, b, r', rfl, rfl, h1, h2, rfl, ?_, by omega⟩
    rw [show k + 1 + t1.length + 1 = (k + 1) + (t1.length + 1) by omega, ← List.drop_drop, ht, ← List.drop_drop, List.drop_left]; rfl
  | bar => injection hx with h1; exact absurd h1 (by decide)
  | esc => injection hx with h1; exact absurd h1 (by decide)
  | byte c _ _ h1 => injection hx with h2; exact absurd h2.symm h1
theorem inv_byte (h : Rep (l.drop k) r) (hf : r.flat) (hk : k < l.length) (h1 : ¬ (at_ l (k : Int)).toNat = 63) (h2 : ¬ (at_ l (k : Int)).toNat = 42) (h3 : ¬ (at_ l (k : Int)).toNat = 92) (h4 : ¬ (at_ l (k : Int)).toNat = 40) : ∃ r', r = .lit 0 ((at_ l (k : Int)).toNat : Int) r' ∧ Rep (l.drop (k + 1)) r' := by
  rw [drop_at l hk] at h
  generalize l.drop (k + 1) = t at h
  generalize at_ l (k : Int) = c at h h1 h2 h3 h4
  generalize hx : (c :: t : List UInt8) = x at h
  cases h with
  | nil => cases hx
  | one => injection hx with e; subst e; exact absurd rfl h1
  | all => injection hx with e; subst e; exact absurd rfl h2
  | few => injection hx with e; subst e; exact absurd rfl h2
  | grp => injection hx with e; subst e; exact absurd rfl h4
  | bar => exact hf.elim
  | esc => injection hx with e; subst e; exact absurd rfl h3
  | byte c' _ _ _ _ _ _ h => injection hx with e e2; subst e; subst e2; exact ⟨_, rfl, h⟩
end
/-- Where the walk through a bracket's alternatives stands. -/
def AltInv (l t2 : List UInt8) (b : Pt) (all : List Int) (close : Int) (m at0 : Nat) (D : Lang) : Prop :=
  (m < all.length → ∃ tr br psr, all.drop m = psr ++ [close] ∧ Alts tr br (at0 : Int) psr ∧ l.drop at0 = tr ++ 41 :: t2 ∧ (at0 : Int) + tr.length = close ∧ ∀ u, ((sem b).1 u ∨ (sem b).2 u) ↔ (D u ∨ ((sem br).1 u ∨ (sem br).2 u))) ∧ (m = all.length → ∀ u, ((sem b).1 u ∨ (sem b).2 u) ↔ D u)
theorem alt_step {l t2 : List UInt8} {b : Pt} {all : List Int} {close : Int} {m at0 : Nat} {D : Lang} (h : AltInv l t2 b all close m at0 D) (hm : m < all.length) : ∃ (q : Nat) (b1 : Pt), all[m]? = some (q : Int) ∧ at0 ≤ q ∧ q < l.length ∧ (q : Int) ≤ close ∧ Rep ((l.drop at0).take (q - at0)) b1 ∧ b1.flat ∧ AltInv l t2 b all close (m + 1) (q + 1) (fun u => D u ∨ (sem b1).1 u) := by
  obtain ⟨tr, br, psr, h1, h2, h3, h4, h5⟩ := h.1 hm
  have hlen := congrArg List.length h3
  have hall := congrArg List.length h1
  simp at hlen hall
  have hget : all[m]? = (psr ++ [close])[0]? := by rw [← h1]; simp
  cases h2 with
  | last _ k1 k2 =>
    refine ⟨at0 + tr.length, br, by rw [hget]; simp; omega, by omega, by omega, by omega, ?_, k2, ?_, ?_⟩
    · rw [h3, show at0 + tr.length - at0 = tr.length by omega, List.take_left]; exact k1
    · intro hm2; simp at hall; omega
    · intro _ u
      rw [h5 u]
      have := sem_flat2 br k2 u
      simp [this]
  | @more t1 b1 t2' b2 ps _ k1 k2 k3 =>
    simp at hlen
    refine ⟨at0 + t1.length, b1, by rw [hget]; simp, by omega, by omega, ?_, ?_, k2, ?_, ?_⟩
    · simp at h4; omega
    · rw [h3, show at0 + t1.length - at0 = t1.length by omega, List.append_assoc, List.take_left]; exact k1
    · intro hm2
      refine ⟨t2', b2, ps, ?_, by simpa using k3, ?_, by simp at h4; omega, fun u => ?_⟩
      · rw [← List.drop_drop, h1]; rfl
      · rw [show at0 + t1.length + 1 = at0 + (t1.length + 1) by omega, ← List.drop_drop, h3, List.append_assoc, ← List.drop_drop, List.drop_left]; rfl
      · rw [h5 u, sem_app _ _ k2, sem_app2 _ _ k2]
        have hc : cat (sem b1).1 (sem (.bar b2)).1 u ↔ (sem b1).1 u := cat_end _ u
        rw [hc]
        simp only [sem]
        constructor
        · rintro (a | a | a)
          · exact .inl (.inl a)
          · exact .inl (.inr a)
          · exact .inr a
        · rintro ((a | a) | a)
          · exact .inl a
          · exact .inr (.inl a)
          · exact .inr (.inr a)
    · intro hm2; simp at hall; omega
end Pat
