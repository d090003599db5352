/- Chapter 17: what compiles is a tree's text; what is wrong is what the reference tells. -/
import Derived.Test.YtigmejjkmoaimaaPatT
namespace Pat
set_option linter.unusedVariables false
set_option linter.unusedSimpArgs false
open Go Gk Pt

/-- A text in which some brackets close that are not opened in it. -/
inductive Splits : Nat → List UInt8 → Prop
  | last {l p} : Rep l p → p.flat → p.dep ≤ 4 → Splits 0 l
  | more {d t l p} : Rep t p → p.dep + (d + 1) ≤ 4 → Splits d l → Splits (d + 1) (t ++ 41 :: l)
theorem Splits.lit {d : Nat} {l pre : List UInt8} {k c : Int} (h : Splits d l) (hp : ∀ {t p}, (t.head? = some 42 → l.head? = some 42) → Rep t p → Rep (pre ++ t) (.lit k c p)) : Splits d (pre ++ l) := by
  cases h with
  | last h1 h2 h3 => exact .last (hp (fun h => h) h1) h2 h3
  | @more d t l p h1 h2 h3 =>
    rw [← List.append_assoc]
    refine .more (hp ?_ h1) h2 h3
    intro e
    cases t with
    | nil => simp at e
    | cons x t => simpa using e
theorem Splits.grp {d : Nat} {t l : List UInt8} {b : Pt} (h : Splits d l) (h1 : Rep t b) (h2 : b.dep + (d + 1) ≤ 4) : Splits d (40 :: (t ++ 41 :: l)) := by
  cases h with
  | @last _ p k1 k2 k3 => exact .last (.grp h1 k1) k2 (by simp [dep]; omega)
  | @more d t2 l2 p k1 k2 k3 =>
    have := Splits.more (.grp h1 k1) (by simp [dep]; omega) k3
    simpa using this
theorem splits : ∀ (n : Nat) (l : List UInt8) (i : Int) (Q : List Pl) (stk : List PFr) (ats : List Int) (X : List Pl), l.length ≤ n → ats.length = stk.length → stk.length ≤ 4 → cmpGo l i Q stk ats = .ok X → Splits stk.length l
  | n, [], i, Q, stk, ats, X, _, ha, h4, h => by
    rw [cmpGo_nil] at h
    split at h
    · cases h
    · have e : stk.length = 0 := by omega
      rw [e]; exact .last .nil trivial (by simp [dep])
  | 0, c :: l, _, _, _, _, _, hn, _, _, _ => by simp at hn
  | n + 1, c :: l, i, Q, stk, ats, X, hn, ha, h4, h => by
    have hn' : l.length ≤ n := by simpa using hn
    rw [cmpGo_cons] at h
    split at h
    · rename_i e
      have e : c = 63 := UInt8.toNat_inj.1 e
      subst e
      exact (splits n l _ _ stk ats X hn' ha h4 h).lit (pre := [63]) fun _ hr => .one hr
    split at h
    · rename_i e
      have e : c = 42 := UInt8.toNat_inj.1 e
      subst e
      cases l with
      | nil => exact (splits n [] _ _ stk ats X hn' ha h4 h).lit (pre := [42]) fun {t p} hd hr => .few (fun e => by have := hd e; simp at this) hr
      | cons d r =>
        simp only at h
        split at h
        · rename_i e2
          have e2 : d = 42 := UInt8.toNat_inj.1 e2
          subst e2
          exact (splits n r _ _ stk ats X (by simp at hn'; omega) ha h4 h).lit (pre := [42, 42]) fun _ hr => .all hr
        · rename_i e2
          exact (splits n (d :: r) _ _ stk ats X hn' ha h4 h).lit (pre := [42]) fun {t p} hd hr => .few (fun e => by have := hd e; simp at this; subst this; exact e2 (by decide)) hr
    split at h
    · rename_i e
      have e : c = 40 := UInt8.toNat_inj.1 e
      subst e
      split at h
      · cases h
      · rename_i h5
        have hs := splits n l _ _ ((Q.length, []) :: stk) (ats ++ [i]) X hn' (by simp [ha]) (by simp; omega) h
        generalize hm : ((Q.length, []) :: stk : List PFr).length = m at hs
        simp only [List.length_cons] at hm
        cases hs with
        | last => omega
        | @more d t l b h1 h2 h3 =>
          have hd : d = stk.length := by omega
          subst hd
          exact h3.grp h1 h2
    split at h
    · rename_i e
      have e : c = 124 := UInt8.toNat_inj.1 e
      subst e
      cases stk with
      | nil => cases h
      | cons f stk =>
        obtain ⟨o, bs⟩ := f
        have hs := splits n l _ _ ((o, bs ++ [Q.length]) :: stk) ats X hn' ha h4 h
        cases hs with
        | more h1 h2 h3 => exact Splits.more (t := 124 :: _) (.bar h1) h2 h3
    split at h
    · rename_i e
      have e : c = 41 := UInt8.toNat_inj.1 e
      subst e
      cases stk with
      | nil => cases h
      | cons f stk =>
        obtain ⟨o, bs⟩ := f
        have hs := splits n l _ _ stk _ X hn' (by simp at ha; simp; omega) (by simp at h4; omega) h
        exact Splits.more (t := []) .nil (by simp [dep] at *; omega) hs
    split at h
    · rename_i e
      have e : c = 92 := UInt8.toNat_inj.1 e
      subst e
      cases l with
      | nil => cases h
      | cons d r => exact (splits n r _ _ stk ats X (by simp at hn'; omega) ha h4 h).lit (pre := [92, d]) fun _ hr => .esc d hr
    · rename_i h1 h2 h3 h4' h5 h6
      have ne : ∀ {n : UInt8}, ¬ c.toNat = n.toNat → c ≠ n := fun h e => h (by rw [e])
      exact (splits n l _ _ stk ats X hn' ha h4 h).lit (pre := [c]) fun _ hr => .byte c (ne h1) (ne h2) (ne h3) (ne h4') (ne h5) (ne h6) hr
/-- What compiles, compiles to its tree's places. -/
theorem cmp_ok {l : List UInt8} {Q : List Pl} (h : cmp l = .ok Q) : l.length ≤ 200 ∧ ∃ p, Rep l p ∧ p.flat ∧ p.dep ≤ 4 ∧ Q = pls [] p 0 ++ [(7, 0, [])] := by
  unfold cmp at h
  split at h
  · cases h
  · rename_i hl
    refine ⟨by omega, ?_⟩
    have hs := splits l.length l 0 [] [] [] Q (Nat.le_refl _) rfl (by simp) h
    cases hs with
    | @last _ p h1 h2 h3 =>
      refine ⟨p, h1, h2, h3, ?_⟩
      have h5 := (cmpGo_rep h1 [] 0 [] [] [] (fun _ => by simp) (.inl h2) rfl (by simp)).1 (by simpa using h3)
      rw [List.append_nil, h, cmpGo_nil] at h5
      simpa using h5
theorem cmp_of {l : List UInt8} {p : Pt} (h : Rep l p) (hf : p.flat) (hl : l.length ≤ 200) (hd : p.dep ≤ 4) : cmp l = .ok (pls [] p 0 ++ [(7, 0, [])]) := by
  have h5 := (cmpGo_rep h [] 0 [] [] [] (fun _ => by simp) (.inl hf) rfl (by simp)).1 (by simpa using hd)
  rw [cmp, if_neg (by omega)]
  rw [List.append_nil, cmpGo_nil] at h5
  simpa using h5
theorem cmp_deep {l : List UInt8} {p : Pt} (h : Rep l p) (hf : p.flat) (hd : 4 < p.dep) (X : List Pl) : cmp l ≠ .ok X := by
  have h5 := (cmpGo_rep h [] 0 [] [] [] (fun _ => by simp) (.inl hf) rfl (by simp)).2 (by simpa using hd) X
  rw [List.append_nil] at h5
  unfold cmp
  split
  · intro e; cases e
  · exact h5
/-- Errors are the reference's. -/
theorem cmpGo_chk : ∀ (n : Nat) (l : List UInt8) (i : Int) (Q : List Pl) (stk : List PFr) (o : List Int), l.length ≤ n → o.length = stk.length →
    (∀ e, cmpGo l i Q stk o = .error e → chkGo l i o = e ∧ e.1 ≠ 0) ∧ (∀ X, cmpGo l i Q stk o = .ok X → chkGo l i o = (0, 0))
  | n, [], i, Q, stk, o, _, ho => by
    rw [cmpGo_nil, chkGo_nil]
    split
    · exact ⟨fun e h => by injection h with h; subst h; exact ⟨rfl, by simp⟩, fun X h => by cases h⟩
    · exact ⟨fun e h => (by cases h), fun X h => rfl⟩
  | 0, c :: l, _, _, _, _, hn, _ => by simp at hn
  | n + 1, c :: l, i, Q, stk, o, hn, ho => by
    have hn' : l.length ≤ n := by simpa using hn
    rw [cmpGo_cons, chkGo_cons]
    by_cases h63 : c.toNat = 63
    · rw [if_pos h63, if_neg (by omega), if_neg (by omega), if_neg (by omega), if_neg (by omega)]
      exact cmpGo_chk n l _ _ stk o hn' ho
    rw [if_neg h63]
    by_cases h42 : c.toNat = 42
    · rw [if_pos h42, if_neg (by omega), if_neg (by omega), if_neg (by omega), if_neg (by omega)]
      cases l with
      | nil => exact cmpGo_chk n [] _ _ stk o hn' ho
      | cons d r =>
        simp only
        by_cases hd : d.toNat = 42
        · rw [if_pos hd, chkGo_cons, if_neg (by omega), if_neg (by omega), if_neg (by omega), if_neg (by omega), show i + 1 + 1 = i + 2 by omega]
          exact cmpGo_chk n r _ _ stk o (by simp at hn'; omega) ho
        · rw [if_neg hd]
          exact cmpGo_chk n (d :: r) _ _ stk o hn' ho
    rw [if_neg h42]
    by_cases h40 : c.toNat = 40
    · rw [if_pos h40, if_pos h40, ← ho]
      by_cases h4 : o.length = 4
      · rw [if_pos h4, if_pos h4]
        exact ⟨fun e h => by injection h with h; subst h; exact ⟨rfl, by simp⟩, fun X h => by cases h⟩
      · rw [if_neg h4, if_neg h4]
        exact cmpGo_chk n l _ _ _ (o ++ [i]) hn' (by simp [ho])
    rw [if_neg h40, if_neg h40]
    by_cases h124 : c.toNat = 124
    · rw [if_pos h124, if_neg (by omega), if_pos h124]
      cases stk with
      | nil => rw [if_pos (by simpa using ho)]; exact ⟨fun e h => by injection h with h; subst h; exact ⟨rfl, by simp⟩, fun X h => by cases h⟩
      | cons f stk =>
        rw [if_neg (by simp at ho; omega)]
        exact cmpGo_chk n l _ _ _ o hn' ho
    rw [if_neg h124, if_neg h124]
    by_cases h41 : c.toNat = 41
    · rw [if_pos h41, if_pos h41]
      cases stk with
      | nil => rw [if_pos (by simpa using ho)]; exact ⟨fun e h => by injection h with h; subst h; exact ⟨rfl, by simp⟩, fun X h => by cases h⟩
      | cons f stk =>
        obtain ⟨fo, fb⟩ := f
        simp only [List.length_cons] at ho ⊢
        rw [if_neg (by omega), show stk.length = o.length - 1 by omega]
        exact cmpGo_chk n l _ _ _ _ hn' (by simp; omega)
    rw [if_neg h41, if_neg h41]
    by_cases h92 : c.toNat = 92
    · rw [if_pos h92, if_pos h92]
      cases l with
      | nil => exact ⟨fun e h => by injection h with h; subst h; exact ⟨rfl, by simp⟩, fun X h => by cases h⟩
      | cons d r => exact cmpGo_chk n r _ _ stk o (by simp at hn'; omega) ho
    rw [if_neg h92, if_neg h92]
    exact cmpGo_chk n l _ _ stk o hn' ho
theorem cmp_chk (l : List UInt8) : (∀ e, cmp l = .error e → chk l = e ∧ e.1 ≠ 0) ∧ (∀ X, cmp l = .ok X → chk l = (0, 0)) := by
  unfold cmp chk
  split
  · exact ⟨fun e h => by injection h with h; subst h; exact ⟨rfl, by simp⟩, fun X h => by cases h⟩
  · exact cmpGo_chk l.length l 0 [] [] [] (Nat.le_refl _) rfl
end Pat
