/- Chapter 17: brackets, and patterns side by side: plain laws. -/
import Derived.Test.YtigmejjkmoaimaaPatX
namespace Pat
set_option linter.unusedVariables false
set_option linter.unusedSimpArgs false
open Go Gk Pt
/-- Does a text match a pattern; and is it one. -/
def mtch (l s : List UInt8) : Bool × Bool := match cmp l with
  | .ok Q => (mat Q s, true)
  | .error _ => (false, false)
theorem mt_ok {l s : List UInt8} (h : (mtch l s).2 = true) : ∃ p, Rep l p ∧ p.flat ∧ p.dep ≤ 4 ∧ l.length ≤ 200 ∧ ∀ t, (mtch l t).2 = true ∧ ((mtch l t).1 = true ↔ (sem p).1 t) := by
  unfold mtch at h
  cases hq : cmp l with
  | error e => rw [hq] at h; cases h
  | ok Q =>
    obtain ⟨hl, p, h1, h2, h3, _⟩ := cmp_ok hq
    refine ⟨p, h1, h2, h3, hl, fun t => ?_⟩
    unfold mtch
    rw [hq]
    exact ⟨rfl, mat_sem hq h1 h2 t⟩
theorem mt_of {l : List UInt8} {p : Pt} (h : Rep l p) (hf : p.flat) {s : List UInt8} (hok : (mtch l s).2 = true) : (mtch l s).1 = true ↔ (sem p).1 s := by
  unfold mtch at hok ⊢
  cases hq : cmp l with
  | error e => rw [hq] at hok; cases hok
  | ok Q => exact mat_sem hq h hf s
theorem mt_is {l : List UInt8} {p : Pt} (h : Rep l p) (hf : p.flat) (hl : l.length ≤ 200) (hd : p.dep ≤ 4) (s : List UInt8) : (mtch l s).2 = true := by
  unfold mtch
  rw [cmp_of h hf hl hd]
theorem sem_app2 : ∀ (p q : Pt), p.flat → (sem (p.app q)).2 = (sem q).2
  | .nil, _, _ => rfl
  | .lit _ _ r, q, h => sem_app2 r q h
  | .bar _, _, h => h.elim
  | .grp _ r, q, h => sem_app2 r q h
theorem cat_end (A : Lang) (s : List UInt8) : cat A (fun u => u = []) s ↔ A s := by
  constructor
  · rintro ⟨u, v, rfl, h, rfl⟩; rw [List.append_nil]; exact h
  · intro h; exact ⟨s, [], by simp, h, rfl⟩
theorem brackets_two {p q s : List UInt8} (h1 : (mtch p s).2 = true) (h2 : (mtch q s).2 = true) (h3 : (mtch ([40] ++ p ++ [124] ++ q ++ [41]) s).2 = true) : (mtch ([40] ++ p ++ [124] ++ q ++ [41]) s).1 = ((mtch p s).1 || (mtch q s).1) := by
  obtain ⟨P, r1, f1, d1, _, m1⟩ := mt_ok h1
  obtain ⟨R, r2, f2, d2, _, m2⟩ := mt_ok h2
  have hr : Rep ([40] ++ p ++ [124] ++ q ++ [41]) (.grp (P.app (.bar R)) .nil) := by
    have h := Rep.grp (r1.app (.bar r2) (fun _ => by simp)) .nil
    simpa using h
  have e := mt_of hr trivial h3
  have e2 : (sem (.grp (P.app (.bar R)) .nil)).1 s ↔ ((mtch p s).1 = true ∨ (mtch q s).1 = true) := by
    refine (cat_end _ s).trans ?_
    simp only [sem_app2 P _ f1, sem_app P _ f1, (m1 s).2, (m2 s).2]
    have hf := sem_flat2 R f2 s
    have hc : cat (sem P).1 (sem (.bar R)).1 s ↔ (sem P).1 s := cat_end _ s
    rw [hc]
    simp only [sem, hf, or_false]
  rw [e2] at e
  cases h5 : (mtch ([40] ++ p ++ [124] ++ q ++ [41]) s).1 <;> cases h6 : (mtch p s).1 <;> cases h7 : (mtch q s).1 <;> rw [h5, h6, h7] at e <;> simp at e ⊢
theorem brackets_one {p s : List UInt8} (h1 : (mtch p s).2 = true) (h3 : (mtch ([40] ++ p ++ [41]) s).2 = true) : (mtch ([40] ++ p ++ [41]) s).1 = (mtch p s).1 := by
  obtain ⟨P, r1, f1, d1, _, m1⟩ := mt_ok h1
  have hr : Rep ([40] ++ p ++ [41]) (.grp P .nil) := by
    have h := Rep.grp r1 .nil
    simpa using h
  have e := mt_of hr trivial h3
  have e2 : (sem (.grp P .nil)).1 s ↔ (mtch p s).1 = true := by
    refine (cat_end _ s).trans ?_
    have hf := sem_flat2 P f1 s
    simp only [hf, or_false, (m1 s).2]
  rw [e2] at e
  cases h5 : (mtch ([40] ++ p ++ [41]) s).1 <;> cases h6 : (mtch p s).1 <;> rw [h5, h6] at e <;> simp at e ⊢
def sideAt (p q s : List UInt8) (b : Bool) (i : Nat) : Bool := b || ((mtch p (s.take i)).1 && (mtch q (s.drop i)).1)
theorem side_iter (p q s : List UInt8) : ∀ k, iter (sideAt p q s) false k = true ↔ ∃ i, i < k ∧ (mtch p (s.take i)).1 = true ∧ (mtch q (s.drop i)).1 = true
  | 0 => by simp [iter]
  | k + 1 => by
    rw [iter, sideAt, Bool.or_eq_true, side_iter p q s k, Bool.and_eq_true]
    constructor
    · rintro (⟨i, h1, h2⟩ | h)
      · exact ⟨i, by omega, h2⟩
      · exact ⟨k, by omega, h⟩
    · rintro ⟨i, h1, h2⟩
      by_cases e : i = k
      · subst e; exact .inr h2
      · exact .inl ⟨i, by omega, h2⟩
theorem side {p q s : List UInt8} (h1 : (mtch p s).2 = true) (h2 : (mtch q s).2 = true) (hs : p.getLast? = some 42 → q.head? ≠ some 42) (hl : p.length + q.length ≤ 200) :
    (mtch (p ++ q) s).2 = true ∧ (mtch (p ++ q) s).1 = iter (sideAt p q s) false (s.length + 1) := by
  obtain ⟨P, r1, f1, d1, _, m1⟩ := mt_ok h1
  obtain ⟨R, r2, f2, d2, _, m2⟩ := mt_ok h2
  have hr := r1.app r2 hs
  have hf := app_flat f1 f2
  have h3 := mt_is hr hf (by simp; omega) (by rw [app_dep]; omega) s
  refine ⟨h3, ?_⟩
  have e := mt_of hr hf h3
  rw [sem_app P R f1] at e
  have e2 : cat (sem P).1 (sem R).1 s ↔ iter (sideAt p q s) false (s.length + 1) = true := by
    rw [side_iter]
    constructor
    · rintro ⟨u, v, rfl, k1, k2⟩
      refine ⟨u.length, by simp; omega, ?_, ?_⟩
      · rw [(m1 _).2]; simpa using k1
      · rw [(m2 _).2]; simpa using k2
    · rintro ⟨i, _, k1, k2⟩
      exact ⟨s.take i, s.drop i, by simp, (m1 _).2.1 k1, (m2 _).2.1 k2⟩
  rw [e2] at e
  cases h5 : (mtch (p ++ q) s).1 <;> cases h6 : iter (sideAt p q s) false (s.length + 1) <;> rw [h5, h6] at e <;> simp at e ⊢
theorem last_at {p : List UInt8} (h : 0 < p.length) : p.getLast? = some (at_ p ((p.length : Int) - 1)) := by
  rw [List.getLast?_eq_getElem?, at_]
  have e : ((p.length : Int) - 1).toNat = p.length - 1 := by omega
  rw [e]
  simp [List.getElem?_eq_getElem, show p.length - 1 < p.length by omega]
theorem head_at {p : List UInt8} (h : 0 < p.length) : p.head? = some (at_ p 0) := by
  cases p with
  | nil => simp at h
  | cons x p => rfl
end Pat
