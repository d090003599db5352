/- Chapter 17: literals, and stars between them: plain laws. -/
import Derived.Test.YtigmejjkmoaimaaPatY
namespace Pat
set_option linter.unusedVariables false
set_option linter.unusedSimpArgs false
open Go Gk Pt
/-- A byte that means something. -/
def spc (c : UInt8) : Bool := ((((((c.toNat : Int) == 63) || ((c.toNat : Int) == 42)) || ((c.toNat : Int) == 40)) || ((c.toNat : Int) == 41)) || ((c.toNat : Int) == 124)) || ((c.toNat : Int) == 92)
def lit : List UInt8 → List UInt8
  | [] => []
  | c :: l => (bif spc c then [92, c] else [c]) ++ lit l
def lits : List UInt8 → Pt
  | [] => .nil
  | c :: l => .lit 0 (c.toNat : Int) (lits l)
theorem lit_snoc (l : List UInt8) (c : UInt8) : lit (l ++ [c]) = lit l ++ (bif spc c then [92, c] else [c]) := by
  induction l with
  | nil => simp [lit]
  | cons x l ih => simp [lit, ih]
theorem lit_len : ∀ l : List UInt8, (lit l).length ≤ 2 * l.length
  | [] => Nat.le_refl _
  | c :: l => by
    have := lit_len l
    rw [lit]
    cases spc c <;> simp <;> omega
theorem lits_flat : ∀ l, (lits l).flat
  | [] => trivial
  | _ :: l => lits_flat l
theorem lits_dep : ∀ l, (lits l).dep = 0
  | [] => rfl
  | _ :: l => lits_dep l
theorem spc_no {c : UInt8} (h : spc c = false) : c ≠ 63 ∧ c ≠ 42 ∧ c ≠ 40 ∧ c ≠ 124 ∧ c ≠ 41 ∧ c ≠ 92 := by
  refine ⟨?_, ?_, ?_, ?_, ?_, ?_⟩ <;> (intro e; subst e; revert h; decide)
theorem lit_rep {m : List UInt8} {p : Pt} (h : Rep m p) : ∀ l : List UInt8, Rep (lit l ++ m) ((lits l).app p)
  | [] => h
  | c :: l => by
    have ih := lit_rep h l
    rw [lit]
    cases hc : spc c with
    | true => exact .esc c ih
    | false =>
      obtain ⟨h1, h2, h3, h4, h5, h6⟩ := spc_no hc
      exact .byte c h1 h2 h3 h4 h5 h6 ih
theorem lit_rep0 (l : List UInt8) : Rep (lit l) (lits l) := by
  have h := lit_rep .nil l
  have e : ∀ l, (lits l).app .nil = lits l := by
    intro l
    induction l with
    | nil => rfl
    | cons c l ih => simp [lits, Pt.app, ih]
  rw [List.append_nil, e] at h
  exact h
theorem lit_head (l : List UInt8) : (lit l).head? ≠ some 42 := by
  cases l with
  | nil => simp [lit]
  | cons c l =>
    rw [lit]
    cases hc : spc c with
    | true => simp
    | false => simpa using (spc_no hc).2.1
theorem unit_byte (c : UInt8) (u : List UInt8) : unit 0 (c.toNat : Int) u ↔ u = [c] := by
  unfold unit
  rw [if_neg (by decide)]
  constructor
  · rintro ⟨x, rfl, h⟩
    have h2 : (c.toNat : Int) = (x.toNat : Int) := by simpa [fitsP] using h
    have h3 : c = x := UInt8.toNat_inj.1 (by omega)
    rw [h3]
  · rintro rfl
    exact ⟨c, rfl, by simp [fitsP]⟩
theorem lits_sem : ∀ (l s : List UInt8), (sem (lits l)).1 s ↔ s = l
  | [], s => Iff.rfl
  | c :: l, s => by
    constructor
    · rintro ⟨u, v, rfl, h1, h2⟩
      rw [(unit_byte c u).1 h1, (lits_sem l v).1 h2]; rfl
    · rintro rfl
      exact ⟨[c], l, rfl, (unit_byte c _).2 rfl, (lits_sem l l).2 rfl⟩
/-- A literal matches its text alone. -/
theorem literal (s t : List UInt8) (hl : s.length ≤ 100) : (mtch (lit s) t).2 = true ∧ ((mtch (lit s) t).1 = (s == t)) := by
  have h2 := mt_is (lit_rep0 s) (lits_flat s) (by have := lit_len s; omega) (by rw [lits_dep]; omega) t
  refine ⟨h2, ?_⟩
  have e := mt_of (lit_rep0 s) (lits_flat s) h2
  rw [lits_sem] at e
  by_cases h : t = s
  · subst h; rw [e.2 rfl]; simp
  · have : (mtch (lit s) t).1 = false := by
      cases h9 : (mtch (lit s) t).1 with
      | false => rfl
      | true => exact absurd (e.1 h9) h
    rw [this]
    symm
    simpa using fun e => h e.symm
/-- Between two texts. -/
def fitsAB (a b s : List UInt8) : Bool := decide ((a.length : Int) + (b.length : Int) ≤ (s.length : Int)) && (s.take (a.length : Int).toNat == a) && (s.drop ((s.length : Int) - (b.length : Int)).toNat == b)
theorem fits_iff (a b s : List UInt8) : fitsAB a b s = true ↔ ∃ m, s = a ++ (m ++ b) := by
  unfold fitsAB
  simp only [Bool.and_eq_true, decide_eq_true_eq, beq_iff_eq, Int.toNat_natCast]
  constructor
  · rintro ⟨⟨h1, h2⟩, h3⟩
    have e : ((s.length : Int) - (b.length : Int)).toNat = s.length - b.length := by omega
    rw [e] at h3
    refine ⟨(s.drop a.length).take (s.length - b.length - a.length), ?_⟩
    have h4 : s.drop a.length = (s.drop a.length).take (s.length - b.length - a.length) ++ b := by
      conv => lhs; rw [← List.take_append_drop (s.length - b.length - a.length) (s.drop a.length)]
      rw [List.drop_drop, show a.length + (s.length - b.length - a.length) = s.length - b.length by omega, h3]
    rw [← h4]
    conv => lhs; rw [← List.take_append_drop a.length s]
    rw [h2]
  · rintro ⟨m, rfl⟩
    refine ⟨⟨by simp; omega, by simp⟩, ?_⟩
    have e : (((a ++ (m ++ b)).length : Int) - (b.length : Int)).toNat = (a ++ m).length := by simp; omega
    rw [e, ← List.append_assoc, List.drop_left]
theorem star_sem (k : Int) (a b s : List UInt8) : (sem ((lits a).app (.lit k 0 (lits b)))).1 s ↔ ∃ m, s = a ++ (m ++ b) ∧ unit k 0 m := by
  rw [sem_app _ _ (lits_flat a)]
  constructor
  · rintro ⟨u, v, rfl, h1, m, w, rfl, h2, h3⟩
    rw [(lits_sem a u).1 h1, (lits_sem b w).1 h3]
    exact ⟨m, rfl, h2⟩
  · rintro ⟨m, rfl, h⟩
    exact ⟨a, m ++ b, rfl, (lits_sem a a).2 rfl, m, b, rfl, h, (lits_sem b b).2 rfl⟩
def flatAt (s : List UInt8) (n : Nat) (x : Bool) (k : Nat) : Bool := x && ((at_ s (((n + k : Nat)) : Int)).toNat : Int) != 47
theorem flat_iter (s : List UInt8) (n : Nat) (b : Bool) : ∀ k, iter (flatAt s n) b k = true ↔ b = true ∧ ∀ i, i < k → ((at_ s (((n + i : Nat)) : Int)).toNat : Int) ≠ 47
  | 0 => by simp [iter]
  | k + 1 => by
    rw [iter, flatAt, Bool.and_eq_true, flat_iter s n b k, bne_iff_ne]
    constructor
    · rintro ⟨⟨h1, h2⟩, h3⟩
      refine ⟨h1, fun i hi => ?_⟩
      by_cases e : i = k
      · subst e; exact h3
      · exact h2 i (by omega)
    · rintro ⟨h1, h2⟩
      exact ⟨⟨h1, fun i hi => h2 i (by omega)⟩, h2 k (by omega)⟩
theorem stars_two (a b s : List UInt8) (ha : a.length ≤ 40) (hb : b.length ≤ 40) : (mtch (lit a ++ [42, 42] ++ lit b) s).2 = true ∧ (mtch (lit a ++ [42, 42] ++ lit b) s).1 = fitsAB a b s := by
  have hr : Rep (lit a ++ [42, 42] ++ lit b) ((lits a).app (.lit 2 0 (lits b))) := by
    rw [List.append_assoc]; exact lit_rep (.all (lit_rep0 b)) a
  have hf : ((lits a).app (.lit 2 0 (lits b))).flat := app_flat (lits_flat a) (show (Pt.lit 2 0 (lits b)).flat from lits_flat b)
  have h2 := mt_is hr hf (by have h1 := lit_len a; have h2 := lit_len b; simp; omega) (by rw [app_dep, lits_dep]; simp [dep, lits_dep]) s
  refine ⟨h2, ?_⟩
  have e := mt_of hr hf h2
  rw [star_sem] at e
  have e2 : (∃ m, s = a ++ (m ++ b) ∧ unit 2 0 m) ↔ fitsAB a b s = true := by
    rw [fits_iff]
    constructor
    · rintro ⟨m, h, _⟩; exact ⟨m, h⟩
    · rintro ⟨m, h⟩; exact ⟨m, h, by unfold unit; rw [if_pos (.inl rfl)]; intro x _; rfl⟩
  rw [e2] at e
  cases h5 : (mtch (lit a ++ [42, 42] ++ lit b) s).1 <;> cases h6 : fitsAB a b s <;> rw [h5, h6] at e <;> simp at e ⊢
theorem stars_one (a b s : List UInt8) (ha : a.length ≤ 40) (hb : b.length ≤ 40) (K : Nat) (hK : fitsAB a b s = true → a.length + K = s.length - b.length) (hK0 : fitsAB a b s = false → K = 0) :
    (mtch (lit a ++ [42] ++ lit b) s).2 = true ∧ (mtch (lit a ++ [42] ++ lit b) s).1 = iter (flatAt s a.length) (fitsAB a b s) K := by
  have hr : Rep (lit a ++ [42] ++ lit b) ((lits a).app (.lit 3 0 (lits b))) := by
    rw [List.append_assoc]; exact lit_rep (.few (lit_head b) (lit_rep0 b)) a
  have hf : ((lits a).app (.lit 3 0 (lits b))).flat := app_flat (lits_flat a) (show (Pt.lit 3 0 (lits b)).flat from lits_flat b)
  have h2 := mt_is hr hf (by have h1 := lit_len a; have h2 := lit_len b; simp; omega) (by rw [app_dep, lits_dep]; simp [dep, lits_dep]) s
  refine ⟨h2, ?_⟩
  have e := mt_of hr hf h2
  rw [star_sem] at e
  have e2 : (∃ m, s = a ++ (m ++ b) ∧ unit 3 0 m) ↔ iter (flatAt s a.length) (fitsAB a b s) K = true := by
    rw [flat_iter]
    constructor
    · rintro ⟨m, h, hu⟩
      have hfit := (fits_iff a b s).2 ⟨m, h⟩
      refine ⟨hfit, fun i hi => ?_⟩
      have hk := hK hfit
      unfold unit at hu
      rw [if_pos (.inr rfl)] at hu
      have hm : m.length = K := by rw [h] at hk; simp at hk; omega
      have hx := hu (m.getD i 0) (by rw [List.getD_eq_getElem?_getD, List.getElem?_eq_getElem (by omega)]; exact List.getElem_mem _)
      have e3 : at_ s (((a.length + i : Nat)) : Int) = m.getD i 0 := by
        rw [h, at_, Int.toNat_natCast, List.getD_eq_getElem?_getD, List.getElem?_append_right (by omega), show a.length + i - a.length = i by omega, List.getElem?_append_left (by omega), List.getD_eq_getElem?_getD]
      rw [e3]
      simpa [fitsP] using hx
    · rintro ⟨hfit, hall⟩
      obtain ⟨m, h⟩ := (fits_iff a b s).1 hfit
      have hk := hK hfit
      refine ⟨m, h, ?_⟩
      unfold unit
      rw [if_pos (.inr rfl)]
      intro x hx
      obtain ⟨i, hi, rfl⟩ := List.getElem_of_mem hx
      have hm : m.length = K := by rw [h] at hk; simp at hk; omega
      have h9 := hall i (by omega)
      have e3 : at_ s (((a.length + i : Nat)) : Int) = m[i] := by
        rw [h, at_, Int.toNat_natCast, List.getD_eq_getElem?_getD, List.getElem?_append_right (by omega), show a.length + i - a.length = i by omega, List.getElem?_append_left hi, List.getElem?_eq_getElem hi]; rfl
      rw [e3] at h9
      simpa [fitsP] using h9
  rw [e2] at e
  cases h5 : (mtch (lit a ++ [42] ++ lit b) s).1 <;> cases h6 : iter (flatAt s a.length) (fitsAB a b s) K <;> rw [h5, h6] at e <;> simp at e ⊢
end Pat
