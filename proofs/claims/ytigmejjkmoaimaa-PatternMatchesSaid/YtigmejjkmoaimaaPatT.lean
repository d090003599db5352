/- Chapter 17: patterns as trees, in plain Lean. -/
import Derived.Test.YtigmejjkmoaimaaPatN
namespace Pat
set_option linter.unusedVariables false
set_option linter.unusedSimpArgs false
open Go Gk

/-- A pattern's tree: a part and what comes behind it; a bar parts what is ahead of it from what is behind. -/
inductive Pt
  | nil
  | lit (k c : Int) (r : Pt)
  | bar (r : Pt)
  | grp (b r : Pt)
namespace Pt
def len : Pt → Nat
  | nil => 0
  | lit _ _ r => len r + 1
  | bar r => len r + 1
  | grp b r => len b + len r + 2
def dep : Pt → Nat
  | nil => 0
  | lit _ _ r => dep r
  | bar r => dep r
  | grp b r => max (dep b + 1) (dep r)
def flat : Pt → Prop
  | nil => True
  | lit _ _ r => flat r
  | bar _ => False
  | grp _ r => flat r
def app : Pt → Pt → Pt
  | nil, q => q
  | lit k c r, q => lit k c (app r q)
  | bar r, q => bar (app r q)
  | grp b r, q => grp b (app r q)
/-- Behind each bar. -/
def tos : Pt → Nat → List Int
  | nil, _ => []
  | lit _ _ r, n => tos r (n + 1)
  | bar r, n => ((n : Int) + 1) :: tos r (n + 1)
  | grp b r, n => tos r (n + 2 + len b)
def marks : Pt → Nat → List Nat
  | nil, _ => []
  | lit _ _ r, n => marks r (n + 1)
  | bar r, n => n :: marks r (n + 1)
  | grp b r, n => marks r (n + 2 + len b)
/-- The places of a tree that stands at a place; where its own bars go on. -/
def pls (es : List Int) : Pt → Nat → List Pl
  | nil, _ => []
  | lit k c r, n => (k, c, []) :: pls es r (n + 1)
  | bar r, n => (5, 0, es) :: pls es r (n + 1)
  | grp b r, n => (4, 0, tos b (n + 1)) :: (pls [((n + 1 + len b : Nat) : Int)] b (n + 1) ++ (6, 0, []) :: pls es r (n + 2 + len b))
theorem pls_len : ∀ (p : Pt) (es : List Int) (n : Nat), (pls es p n).length = p.len
  | nil, _, _ => rfl
  | lit _ _ r, es, n => by simp [pls, len, pls_len r]
  | bar r, es, n => by simp [pls, len, pls_len r]
  | grp b r, es, n => by simp [pls, len, pls_len b, pls_len r]; omega
theorem pls_flat : ∀ (p : Pt) (es fs : List Int) (n : Nat), p.flat → pls es p n = pls fs p n
  | nil, _, _, _, _ => rfl
  | lit _ _ r, es, fs, n, h => by rw [pls, pls, pls_flat r es fs (n + 1) h]
  | bar r, _, _, _, h => h.elim
  | grp b r, es, fs, n, h => by rw [pls, pls, pls_flat r es fs _ h]
theorem app_len : ∀ (p q : Pt), (p.app q).len = p.len + q.len
  | nil, q => by simp [app, len]
  | lit _ _ r, q => by simp [app, len, app_len r q]; omega
  | bar r, q => by simp [app, len, app_len r q]; omega
  | grp b r, q => by simp [app, len, app_len r q]; omega
theorem app_flat : ∀ {p q : Pt}, p.flat → q.flat → (p.app q).flat
  | nil, _, _, h => h
  | lit _ _ r, _, h, k => app_flat (p := r) h k
  | bar _, _, h, _ => h.elim
  | grp _ r, _, h, k => app_flat (p := r) h k
theorem app_dep : ∀ (p q : Pt), (p.app q).dep = max p.dep q.dep
  | nil, q => by simp [app, dep]
  | lit _ _ r, q => by simp [app, dep, app_dep r q]
  | bar r, q => by simp [app, dep, app_dep r q]
  | grp b r, q => by simp [app, dep, app_dep r q, Nat.max_assoc]
end Pt
open Pt

/-- A text that is a tree's. -/
inductive Rep : List UInt8 → Pt → Prop
  | nil : Rep [] .nil
  | one {l p} : Rep l p → Rep (63 :: l) (.lit 1 0 p)
  | all {l p} : Rep l p → Rep (42 :: 42 :: l) (.lit 2 0 p)
  | few {l p} : l.head? ≠ some 42 → Rep l p → Rep (42 :: l) (.lit 3 0 p)
  | grp {t l b p} : Rep t b → Rep l p → Rep (40 :: (t ++ 41 :: l)) (.grp b p)
  | bar {l p} : Rep l p → Rep (124 :: l) (.bar p)
  | esc {l p} (c : UInt8) : Rep l p → Rep (92 :: c :: l) (.lit 0 (c.toNat : Int) p)
  | byte {l p} (c : UInt8) : c ≠ 63 → c ≠ 42 → c ≠ 40 → c ≠ 124 → c ≠ 41 → c ≠ 92 → Rep l p → Rep (c :: l) (.lit 0 (c.toNat : Int) p)
theorem Rep.app {l m : List UInt8} {p q : Pt} (h : Rep l p) (k : Rep m q) (hs : l.getLast? = some 42 → m.head? ≠ some 42) : Rep (l ++ m) (p.app q) := by
  have sub : ∀ {x : UInt8} {l : List UInt8}, ((x :: l).getLast? = some 42 → m.head? ≠ some 42) → l.getLast? = some 42 → m.head? ≠ some 42 := by
    intro x l h1 h2
    refine h1 ?_
    cases l with
    | nil => simp at h2
    | cons y l => simpa using h2
  have suba : ∀ {t l : List UInt8}, ((t ++ 41 :: l).getLast? = some 42 → m.head? ≠ some 42) → l.getLast? = some 42 → m.head? ≠ some 42 := by
    intro t l h1 h2
    refine h1 ?_
    rw [List.getLast?_append]
    cases l with
    | nil => simp at h2
    | cons y l => simp at h2 ⊢; simp [h2]
  induction h with
  | nil => exact k
  | one _ ih => exact .one (ih (sub hs))
  | all _ ih => exact .all (ih (sub (sub hs)))
  | @few l p h1 _ ih =>
    refine .few ?_ (ih (sub hs))
    cases l with
    | nil => exact hs rfl
    | cons y l => exact h1
  | @grp t l b p hb _ _ ih =>
    have := Rep.grp hb (ih (suba (sub hs)))
    simpa [Pt.app] using this
  | bar _ ih => exact .bar (ih (sub hs))
  | esc c _ ih => exact .esc c (ih (sub (sub hs)))
  | byte c h1 h2 h3 h4 h5 h6 _ ih => exact .byte c h1 h2 h3 h4 h5 h6 (ih (sub hs))

def addm : List PFr → List Nat → List PFr
  | [], _ => []
  | (o, bs) :: r, ms => (o, bs ++ ms) :: r
theorem addm_cons (o : Nat) (bs : List Nat) (r : List PFr) (ms : List Nat) : addm ((o, bs) :: r) ms = (o, bs ++ ms) :: r := rfl
theorem addm_nil (s : List PFr) : addm s [] = s := by cases s <;> simp [addm]
theorem addm_add (s : List PFr) (a b : List Nat) : addm (addm s a) b = addm s (a ++ b) := by cases s <;> simp [addm]
theorem addm_len (s : List PFr) (a : List Nat) : (addm s a).length = s.length := by cases s <;> simp [addm]
theorem setToL_left {A B : List Pl} {o : Nat} (h : o < A.length) (xs : List Int) : setToL (A ++ B) o xs = setToL A o xs ++ B := by
  unfold setToL
  refine List.ext_getElem? fun i => ?_
  rw [List.getElem?_modify, List.getElem?_append, List.getElem?_append, List.length_modify, List.getElem?_modify]
  by_cases e : o = i
  · subst e; simp [h]
  · simp [e]
theorem setToL_last (A : List Pl) (k c : Int) (d xs : List Int) (B : List Pl) : setToL (A ++ (k, c, d) :: B) A.length xs = A ++ (k, c, xs) :: B := by
  unfold setToL
  refine List.ext_getElem? fun i => ?_
  rw [List.getElem?_modify]
  by_cases e : A.length = i
  · subst e; simp
  · simp [e]
    rcases Nat.lt_or_ge i A.length with hi | hi
    · rw [List.getElem?_append_left hi, List.getElem?_append_left hi]
    · obtain ⟨j, rfl⟩ : ∃ j, i = A.length + (j + 1) := ⟨i - A.length - 1, by omega⟩
      rw [List.getElem?_append_right (by omega), List.getElem?_append_right (by omega)]
      simp
theorem setToL_self {A : List Pl} {o : Nat} {k c : Int} {d : List Int} (h : A[o]? = some (k, c, d)) : setToL A o d = A := by
  unfold setToL
  refine List.ext_getElem? fun i => ?_
  rw [List.getElem?_modify]
  by_cases e : o = i
  · subst e; simp [h]
  · simp [e]
theorem setToL_twice (A : List Pl) (o : Nat) (x y : List Int) : setToL (setToL A o x) o y = setToL A o y := by
  unfold setToL
  refine List.ext_getElem? fun i => ?_
  rw [List.getElem?_modify, List.getElem?_modify, List.getElem?_modify]
  by_cases e : o = i
  · subst e; simp [Option.map_map, Function.comp_def]
  · simp [e]
theorem setToL_len (A : List Pl) (o : Nat) (x : List Int) : (setToL A o x).length = A.length := by simp [setToL]
theorem closeGo_pls (n o : Nat) : ∀ (p : Pt) (A : List Pl) (k c : Int) (d : List Int), A[o]? = some (k, c, d) →
    closeGo n o (A ++ pls [] p A.length) d (marks p A.length) = setToL A o (d ++ tos p A.length) ++ pls [(n : Int)] p A.length
  | .nil, A, k, c, d, h => by simp [pls, marks, closeGo, tos, setToL_self h]
  | .lit k' c' r, A, k, c, d, h => by
    have ho : o < A.length := (List.getElem?_eq_some_iff.1 h).1
    have ih := closeGo_pls n o r (A ++ [(k', c', [])]) k c d (by rw [List.getElem?_append_left ho]; exact h)
    rw [List.length_append, setToL_left ho] at ih
    simpa [pls, marks, tos] using ih
  | .bar r, A, k, c, d, h => by
    have ho : o < A.length := (List.getElem?_eq_some_iff.1 h).1
    have ih := closeGo_pls n o r (setToL A o (d ++ [(A.length : Int) + 1]) ++ [(5, 0, [(n : Int)])]) k c (d ++ [(A.length : Int) + 1]) (by
      rw [List.getElem?_append_left (by rw [setToL_len]; exact ho)]; simp [setToL, h])
    rw [List.length_append, setToL_len, setToL_left (by rw [setToL_len]; exact ho), setToL_twice] at ih
    rw [marks, closeGo, pls, setToL_left ho]
    have e := setToL_last (setToL A o (d ++ [(A.length : Int) + 1])) 5 0 [] [(n : Int)] (pls [] r (A.length + 1))
    rw [setToL_len] at e
    rw [e]
    simpa [pls, tos] using ih
  | .grp b r, A, k, c, d, h => by
    have ho : o < A.length := (List.getElem?_eq_some_iff.1 h).1
    have ih := closeGo_pls n o r (A ++ ((4, 0, tos b (A.length + 1)) :: (pls [((A.length + 1 + len b : Nat) : Int)] b (A.length + 1) ++ [(6, 0, [])]))) k c d (by rw [List.getElem?_append_left ho]; exact h)
    have e : (A ++ ((4, 0, tos b (A.length + 1)) :: (pls [((A.length + 1 + len b : Nat) : Int)] b (A.length + 1) ++ [(6, 0, [])]))).length = A.length + 2 + len b := by
      simp [pls_len]; omega
    rw [e, setToL_left ho] at ih
    simpa [pls, marks, tos] using ih

theorem hd_app {l rest : List UInt8} (h : l.head? ≠ some 42) (h2 : l = [] → rest.head? ≠ some 42) : (l ++ rest).head? ≠ some 42 := by
  cases l with
  | nil => exact h2 rfl
  | cons y l => exact h
theorem cmpGo_star {l : List UInt8} (h : l.head? ≠ some 42) (i : Int) (Q : List Pl) (stk : List PFr) (ats : List Int) : cmpGo (42 :: l) i Q stk ats = cmpGo l (i + 1) (Q ++ [(3, 0, [])]) stk ats := by
  rw [cmpGo_cons, if_neg (by decide), if_pos (by decide)]
  cases l with
  | nil => rfl
  | cons d r =>
    have hd : ¬ d.toNat = 42 := fun e => h (by rw [List.head?_cons]; exact congrArg _ (UInt8.toNat_inj.1 e))
    simp only [hd, if_false]
theorem ne_toNat {c : UInt8} {n : UInt8} (h : c ≠ n) : ¬ c.toNat = n.toNat := fun e => h (UInt8.toNat_inj.1 e)
/-- Compiling a tree's text: its places are laid, or it nests too deep. -/
theorem cmpGo_rep {l : List UInt8} {p : Pt} (h : Rep l p) : ∀ (rest : List UInt8) (i : Int) (Q : List Pl) (stk : List PFr) (ats : List Int), (l.getLast? = some 42 → rest.head? ≠ some 42) → (p.flat ∨ stk ≠ []) → ats.length = stk.length → stk.length ≤ 4 →
    (p.dep + stk.length ≤ 4 → cmpGo (l ++ rest) i Q stk ats = cmpGo rest (i + l.length) (Q ++ pls [] p Q.length) (addm stk (marks p Q.length)) ats) ∧ (4 < p.dep + stk.length → ∀ X, cmpGo (l ++ rest) i Q stk ats ≠ .ok X) := by
  have sub : ∀ {x : UInt8} {l rest : List UInt8}, ((x :: l).getLast? = some 42 → rest.head? ≠ some 42) → l.getLast? = some 42 → rest.head? ≠ some 42 := by
    intro x l rest h1 h2
    refine h1 ?_
    cases l with
    | nil => simp at h2
    | cons y l => simpa using h2
  have suba : ∀ {t l rest : List UInt8}, ((t ++ 41 :: l).getLast? = some 42 → rest.head? ≠ some 42) → l.getLast? = some 42 → rest.head? ≠ some 42 := by
    intro t l rest h1 h2
    refine h1 ?_
    rw [List.getLast?_append]
    cases l with
    | nil => simp at h2
    | cons y l => simp at h2 ⊢; simp [h2]
  induction h with
  | nil => intro rest i Q stk ats _ _ _ h4; simp [pls, marks, addm_nil, dep]; intro hh; omega
  | @one l p _ ih =>
    intro rest i Q stk ats hs hf ha h4
    have := ih rest (i + 1) (Q ++ [(1, 0, [])]) stk ats (sub hs) hf ha h4
    rw [List.cons_append, cmpGo_cons, if_pos (show (63 : UInt8).toNat = 63 by decide)]
    simpa [pls, marks, dep, Int.add_assoc, Int.add_comm, Int.add_left_comm] using this
  | @all l p _ ih =>
    intro rest i Q stk ats hs hf ha h4
    have := ih rest (i + 2) (Q ++ [(2, 0, [])]) stk ats (sub (sub hs)) hf ha h4
    rw [List.cons_append, cmpGo_cons, if_neg (show ¬ (42 : UInt8).toNat = 63 by decide), if_pos (show (42 : UInt8).toNat = 42 by decide)]
    simp only [List.cons_append]
    rw [if_pos (show (42 : UInt8).toNat = 42 by decide)]
    rw [show i + ((42 :: 42 :: l).length : Nat) = i + 2 + (l.length : Int) by simp; omega]
    simpa [pls, marks, dep] using this
  | @few l p h1 _ ih =>
    intro rest i Q stk ats hs hf ha h4
    have := ih rest (i + 1) (Q ++ [(3, 0, [])]) stk ats (sub hs) hf ha h4
    rw [List.cons_append, cmpGo_star (hd_app h1 fun e => by subst e; exact hs rfl)]
    rw [show i + ((42 :: l).length : Nat) = i + 1 + (l.length : Int) by simp; omega]
    simpa [pls, marks, dep] using this
  | @bar l p _ ih =>
    intro rest i Q stk ats hs hf ha h4
    cases stk with
    | nil => rcases hf with hf | hf; exact hf.elim; exact absurd rfl hf
    | cons f stk =>
      obtain ⟨o, bs⟩ := f
      have := ih rest (i + 1) (Q ++ [(5, 0, [])]) ((o, bs ++ [Q.length]) :: stk) ats (sub hs) (.inr (by simp)) ha h4
      rw [List.cons_append, cmpGo_cons, if_neg (show ¬ (124 : UInt8).toNat = 63 by decide), if_neg (show ¬ (124 : UInt8).toNat = 42 by decide), if_neg (show ¬ (124 : UInt8).toNat = 40 by decide), if_pos (show (124 : UInt8).toNat = 124 by decide)]
      simp only []
      rw [show i + ((124 :: l).length : Nat) = i + 1 + (l.length : Int) by simp; omega]
      simpa [pls, marks, dep, addm] using this
  | @esc l p c _ ih =>
    intro rest i Q stk ats hs hf ha h4
    have := ih rest (i + 2) (Q ++ [(0, (c.toNat : Int), [])]) stk ats (sub (sub hs)) hf ha h4
    rw [List.cons_append, cmpGo_cons, if_neg (show ¬ (92 : UInt8).toNat = 63 by decide), if_neg (show ¬ (92 : UInt8).toNat = 42 by decide), if_neg (show ¬ (92 : UInt8).toNat = 40 by decide), if_neg (show ¬ (92 : UInt8).toNat = 124 by decide), if_neg (show ¬ (92 : UInt8).toNat = 41 by decide), if_pos (show (92 : UInt8).toNat = 92 by decide)]
    simp only [List.cons_append]
    rw [show i + ((92 :: c :: l).length : Nat) = i + 2 + (l.length : Int) by simp; omega]
    simpa [pls, marks, dep] using this
  | @byte l p c h1 h2 h3 h4' h5 h6 _ ih =>
    intro rest i Q stk ats hs hf ha h4
    have := ih rest (i + 1) (Q ++ [(0, (c.toNat : Int), [])]) stk ats (sub hs) hf ha h4
    rw [List.cons_append, cmpGo_cons, if_neg (show ¬ c.toNat = 63 from ne_toNat h1), if_neg (show ¬ c.toNat = 42 from ne_toNat h2), if_neg (show ¬ c.toNat = 40 from ne_toNat h3), if_neg (show ¬ c.toNat = 124 from ne_toNat h4'), if_neg (show ¬ c.toNat = 41 from ne_toNat h5), if_neg (show ¬ c.toNat = 92 from ne_toNat h6)]
    rw [show i + ((c :: l).length : Nat) = i + 1 + (l.length : Int) by simp; omega]
    simpa [pls, marks, dep] using this
  | @grp t l b p _ _ ihb ih =>
    intro rest i Q stk ats hs hf ha h4
    rw [List.cons_append, List.append_assoc, List.cons_append, cmpGo_cons, if_neg (show ¬ (40 : UInt8).toNat = 63 by decide), if_neg (show ¬ (40 : UInt8).toNat = 42 by decide), if_pos (show (40 : UInt8).toNat = 40 by decide)]
    by_cases h5 : stk.length = 4
    · rw [if_pos h5]
      refine ⟨fun h => ?_, fun _ X h => by cases h⟩
      simp [dep] at h
      omega
    · rw [if_neg h5]
      have h1 := ihb (41 :: (l ++ rest)) (i + 1) (Q ++ [(4, 0, [])]) ((Q.length, []) :: stk) (ats ++ [i]) (fun _ => by simp) (.inr (by simp)) (by simp [ha]) (by simp; omega)
      by_cases h6 : b.dep + (stk.length + 1) ≤ 4
      · have h7 := h1.1 (by simpa using h6)
        rw [h7]
        have h8 := ih rest (i + 1 + t.length + 1) (Q ++ ((4, 0, tos b (Q.length + 1)) :: (pls [((Q.length + 1 + len b : Nat) : Int)] b (Q.length + 1) ++ [(6, 0, [])]))) stk ats (suba (sub hs)) hf ha h4
        have hc := closeGo_pls (Q.length + 1 + len b) Q.length b (Q ++ [(4, 0, [])]) 4 0 [] (by simp)
        have hl := setToL_last Q 4 0 [] (tos b (Q.length + 1)) []
        simp only [List.length_append, List.length_singleton, List.nil_append] at hc
        rw [hl] at hc
        rw [cmpGo_cons, if_neg (show ¬ (41 : UInt8).toNat = 63 by decide), if_neg (show ¬ (41 : UInt8).toNat = 42 by decide), if_neg (show ¬ (41 : UInt8).toNat = 40 by decide), if_neg (show ¬ (41 : UInt8).toNat = 124 by decide), if_pos (show (41 : UInt8).toNat = 41 by decide)]
        simp only [addm_cons, List.length_append, List.length_singleton, List.nil_append, pls_len]
        rw [hc]
        have ht : (ats ++ [i]).take stk.length = ats := by rw [← ha]; simp
        rw [ht]
        have e1 : (Q ++ ((4, 0, tos b (Q.length + 1)) :: (pls [((Q.length + 1 + len b : Nat) : Int)] b (Q.length + 1) ++ [(6, 0, [])]))).length = Q.length + 2 + len b := by simp [pls_len]; omega
        rw [e1] at h8
        have e2 : i + ((40 :: (t ++ 41 :: l)).length : Nat) = i + 1 + t.length + 1 + l.length := by simp; omega
        rw [e2]
        have e3 : 4 < (Pt.grp b p).dep + stk.length ↔ 4 < p.dep + stk.length := by simp [dep]; omega
        have e4 : (Pt.grp b p).dep + stk.length ≤ 4 ↔ p.dep + stk.length ≤ 4 := by simp [dep]; omega
        rw [e3, e4]
        simpa [pls, marks] using h8
      · refine ⟨fun h => ?_, fun _ => h1.2 (by simp; omega)⟩
        simp [dep] at h
        omega
end Pat
