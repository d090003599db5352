/- Chapter 17: what a tree matches, and that its places take just that. -/
import Derived.Test.YtigmejjkmoaimaaPatV
namespace Pat
set_option linter.unusedVariables false
set_option linter.unusedSimpArgs false
open Go Gk Pt

abbrev Lang := List UInt8 → Prop
def unit (k c : Int) : Lang := fun u => if k = 2 ∨ k = 3 then ∀ x ∈ u, fitsP k c x = true else ∃ x, u = [x] ∧ fitsP k c x = true
def cat (A B : Lang) : Lang := fun s => ∃ u v, s = u ++ v ∧ A u ∧ B v
theorem cat_assoc (A B C : Lang) (s : List UInt8) : cat (cat A B) C s ↔ cat A (cat B C) s := by
  constructor
  · rintro ⟨u, v, rfl, ⟨a, b, rfl, h1, h2⟩, h3⟩
    exact ⟨a, b ++ v, by simp, h1, b, v, rfl, h2, h3⟩
  · rintro ⟨a, w, rfl, h1, b, v, rfl, h2, h3⟩
    exact ⟨a ++ b, v, by simp, ⟨a, b, rfl, h1, h2⟩, h3⟩
theorem cat_congr {A A' B B' : Lang} (h : ∀ s, A s ↔ A' s) (k : ∀ s, B s ↔ B' s) (s : List UInt8) : cat A B s ↔ cat A' B' s := by
  constructor
  · rintro ⟨u, v, e, h1, h2⟩; exact ⟨u, v, e, (h u).1 h1, (k v).1 h2⟩
  · rintro ⟨u, v, e, h1, h2⟩; exact ⟨u, v, e, (h u).2 h1, (k v).2 h2⟩
theorem cat_or (A B C : Lang) (s : List UInt8) : cat (fun s => A s ∨ B s) C s ↔ cat A C s ∨ cat B C s := by
  constructor
  · rintro ⟨u, v, e, h | h, h2⟩
    · exact .inl ⟨u, v, e, h, h2⟩
    · exact .inr ⟨u, v, e, h, h2⟩
  · rintro (⟨u, v, e, h, h2⟩ | ⟨u, v, e, h, h2⟩)
    · exact ⟨u, v, e, .inl h, h2⟩
    · exact ⟨u, v, e, .inr h, h2⟩
theorem cat_nil (B : Lang) (s : List UInt8) : cat (fun u => u = []) B s ↔ B s := by
  constructor
  · rintro ⟨u, v, rfl, rfl, h⟩; exact h
  · intro h; exact ⟨[], s, rfl, rfl, h⟩
/-- What matches ahead of a tree's first bar, and what matches one of the others. -/
def sem : Pt → Lang × Lang
  | .nil => (fun s => s = [], fun _ => False)
  | .lit k c r => (cat (unit k c) (sem r).1, (sem r).2)
  | .bar r => (fun s => s = [], fun s => (sem r).1 s ∨ (sem r).2 s)
  | .grp b r => (cat (fun s => (sem b).1 s ∨ (sem b).2 s) (sem r).1, (sem r).2)
theorem sem_app : ∀ (p q : Pt), p.flat → ∀ s, (sem (p.app q)).1 s ↔ cat (sem p).1 (sem q).1 s
  | .nil, q, _, s => (cat_nil _ s).symm
  | .lit k c r, q, h, s => (cat_congr (fun _ => Iff.rfl) (sem_app r q h) s).trans (cat_assoc _ _ _ s).symm
  | .bar _, _, h, _ => h.elim
  | .grp b r, q, h, s => (cat_congr (fun _ => Iff.rfl) (sem_app r q h) s).trans (cat_assoc _ _ _ s).symm
theorem sem_flat2 : ∀ (p : Pt), p.flat → ∀ s, ¬ (sem p).2 s
  | .nil, _, _ => id
  | .lit _ _ r, h, s => sem_flat2 r h s
  | .bar _, h, _ => h.elim
  | .grp _ r, h, s => sem_flat2 r h s

namespace Pt
def ok : Pt → Prop
  | nil => True
  | lit k _ r => (0 ≤ k ∧ k ≤ 3) ∧ ok r
  | bar r => ok r
  | grp b r => ok b ∧ ok r
end Pt
theorem Rep.ok {l : List UInt8} {p : Pt} (h : Rep l p) : p.ok := by
  induction h with
  | nil => trivial
  | one _ ih => exact ⟨⟨by decide, by decide⟩, ih⟩
  | all _ ih => exact ⟨⟨by decide, by decide⟩, ih⟩
  | few _ _ ih => exact ⟨⟨by decide, by decide⟩, ih⟩
  | grp _ _ h1 h2 => exact ⟨h1, h2⟩
  | bar _ ih => exact ih
  | esc c _ ih => exact ⟨⟨by decide, by decide⟩, ih⟩
  | byte c _ _ _ _ _ _ _ ih => exact ⟨⟨by decide, by decide⟩, ih⟩
theorem Rep.len {l : List UInt8} {p : Pt} (h : Rep l p) : p.len ≤ l.length := by
  induction h <;> simp [Pt.len] at * <;> omega
theorem tos_len : ∀ (p : Pt) (n : Nat), (tos p n).length ≤ p.len
  | .nil, _ => by simp [tos]
  | .lit _ _ r, n => by have := tos_len r (n + 1); simp [tos, len]; omega
  | .bar r, n => by have := tos_len r (n + 1); simp [tos, len]; omega
  | .grp b r, n => by have := tos_len r (n + 2 + len b); simp [tos, len]; omega
theorem tos_in : ∀ (p : Pt) (n : Nat) (t : Int), t ∈ tos p n → (n : Int) < t ∧ t ≤ n + p.len
  | .nil, _, _, h => by simp [tos] at h
  | .lit _ _ r, n, t, h => by have := tos_in r (n + 1) t h; simp [len]; omega
  | .bar r, n, t, h => by
    simp only [tos, List.mem_cons] at h
    rcases h with rfl | h
    · simp [len]; omega
    · have := tos_in r (n + 1) t h; simp [len]; omega
  | .grp b r, n, t, h => by have := tos_in r (n + 2 + len b) t h; simp [len]; omega
theorem pls_all : ∀ (p : Pt) (es : List Int) (n N : Nat), p.ok → n + p.len < N → (∀ t ∈ es, 0 ≤ t ∧ t < (N : Int)) → es.length ≤ N → ∀ q ∈ pls es p n, (∀ t ∈ q.2.2, 0 ≤ t ∧ t < (N : Int)) ∧ (0 ≤ q.1 ∧ q.1 ≤ 6) ∧ q.2.2.length ≤ N
  | .nil, _, _, _, _, _, _, _, q, h => by simp [pls] at h
  | .lit k c r, es, n, N, ho, hl, he, hc, q, h => by
    simp only [len] at hl
    simp only [pls, List.mem_cons] at h
    rcases h with rfl | h
    · exact ⟨by simp, ⟨ho.1.1, by have := ho.1.2; simp only; omega⟩, by simp⟩
    · exact pls_all r es (n + 1) N ho.2 (by omega) he hc q h
  | .bar r, es, n, N, ho, hl, he, hc, q, h => by
    simp only [len] at hl
    simp only [pls, List.mem_cons] at h
    rcases h with rfl | h
    · exact ⟨he, ⟨by simp, by simp⟩, hc⟩
    · exact pls_all r es (n + 1) N ho (by omega) he hc q h
  | .grp b r, es, n, N, ho, hl, he, hc, q, h => by
    simp only [len] at hl
    simp only [pls, List.mem_cons, List.mem_append] at h
    rcases h with rfl | h | rfl | h
    · exact ⟨fun t ht => by have := tos_in b (n + 1) t ht; omega, ⟨by simp, by simp⟩, by have := tos_len b (n + 1); simp only; omega⟩
    · exact pls_all b _ (n + 1) N ho.1 (by omega) (fun t ht => by simp at ht; omega) (by simp; omega) q h
    · exact ⟨by simp, ⟨by simp, by simp⟩, by simp⟩
    · exact pls_all r es (n + 2 + len b) N ho.2 (by omega) he hc q h
def placesOf (p : Pt) : List Pl := pls [] p 0 ++ [(7, 0, [])]
theorem placesOf_len (p : Pt) : (placesOf p).length = p.len + 1 := by simp [placesOf, pls_len]
theorem placesOf_wf {p : Pt} (ho : p.ok) : WF (placesOf p) ∧ End7 (placesOf p) := by
  have hl := placesOf_len p
  have hall : ∀ (i : Nat) (q : Pl), (placesOf p)[i]? = some q → (i < p.len ∧ q ∈ pls [] p 0) ∨ (i = p.len ∧ q = (7, 0, [])) := by
    intro i q h
    unfold placesOf at h
    rcases Nat.lt_or_ge i p.len with hi | hi
    · rw [List.getElem?_append_left (by rw [pls_len]; exact hi)] at h
      exact .inl ⟨hi, List.mem_of_getElem? h⟩
    · rw [List.getElem?_append_right (by rw [pls_len]; exact hi), pls_len] at h
      by_cases e : i = p.len
      · subst e; simp at h; exact .inr ⟨rfl, h.symm⟩
      · rw [List.getElem?_eq_none (by simp; omega)] at h; cases h
  refine ⟨fun i q h => ?_, by omega, fun j hj => ?_⟩
  · rw [hl]
    rcases hall i q h with ⟨hi, hm⟩ | ⟨hi, rfl⟩
    · obtain ⟨h1, h2, h3⟩ := pls_all p [] 0 (p.len + 1) ho (by omega) (by simp) (by simp) q hm
      exact ⟨h1, fun _ => by omega, ⟨h2.1, by omega⟩, fun _ => by omega, h3⟩
    · exact ⟨by simp, by simp [skips], ⟨by simp, by simp⟩, by simp, by simp⟩
  · have e : (placesOf p)[j]? = some ((placesOf p).getD j (7, 0, [])) := by simp [List.getD_eq_getElem?_getD, hj]
    rcases hall j _ e with ⟨hi, hm⟩ | ⟨hi, e2⟩
    · obtain ⟨h1, h2, h3⟩ := pls_all p [] 0 (p.len + 1) ho (by omega) (by simp) (by simp) _ hm
      constructor
      · intro h; omega
      · intro h; omega
    · rw [e2]; simp; omega

def Seg (Q : List Pl) (n : Nat) (L : List Pl) : Prop := ∀ (i : Nat) (q : Pl), L[i]? = some q → Q[n + i]? = some q
theorem Seg.head {Q : List Pl} {n : Nat} {q : Pl} {L : List Pl} (h : Seg Q n (q :: L)) : Q[n]? = some q := h 0 q rfl
theorem Seg.tail {Q : List Pl} {n : Nat} {q : Pl} {L : List Pl} (h : Seg Q n (q :: L)) : Seg Q (n + 1) L := fun i x hx => by
  rw [show n + 1 + i = n + (i + 1) by omega]; exact h (i + 1) x (by simpa using hx)
theorem Seg.left {Q : List Pl} {n : Nat} {L M : List Pl} (h : Seg Q n (L ++ M)) : Seg Q n L := fun i x hx => h i x (by rw [List.getElem?_append_left (List.getElem?_eq_some_iff.1 hx).1]; exact hx)
theorem Seg.right {Q : List Pl} {n : Nat} {L M : List Pl} (h : Seg Q n (L ++ M)) : Seg Q (n + L.length) M := fun i x hx => by
  rw [Nat.add_assoc]; exact h (L.length + i) x (by rw [List.getElem?_append_right (by omega)]; simpa using hx)
theorem acc_at {Q : List Pl} {i : Nat} {k c : Int} {to : List Int} (h : Q[i]? = some (k, c, to)) (s : List UInt8) :
    Acc Q i s ↔ (k = 7 ∧ s = []) ∨ (skips k = true ∧ Acc Q (i + 1) s) ∨ (∃ t ∈ to, Acc Q t.toNat s) ∨ (∃ x r, s = x :: r ∧ fitsP k c x = true ∧ Acc Q (bif (k == 2) || (k == 3) then i else i + 1) r) := by
  have hi : i < Q.length := (List.getElem?_eq_some_iff.1 h).1
  have e : Q.getD i (7, 0, []) = (k, c, to) := by rw [List.getD_eq_getElem?_getD, h]; rfl
  constructor
  · intro ha
    cases ha with
    | fin _ h7 => rw [e] at h7; exact .inl ⟨h7, rfl⟩
    | go _ hs ha =>
      rcases hs with ⟨h1, rfl⟩ | ⟨t, ht, rfl⟩
      · rw [e] at h1; exact .inr (.inl ⟨h1, ha⟩)
      · rw [e] at ht; exact .inr (.inr (.inl ⟨t, ht, ha⟩))
    | eat _ hf ha => rw [e] at hf ha; exact .inr (.inr (.inr ⟨_, _, rfl, hf, ha⟩))
  · rintro (⟨h7, rfl⟩ | ⟨h1, ha⟩ | ⟨t, ht, ha⟩ | ⟨x, r, rfl, hf, ha⟩)
    · exact .fin hi (by rw [e]; exact h7)
    · exact .go hi (.inl ⟨by rw [e]; exact h1, rfl⟩) ha
    · exact .go hi (.inr ⟨t, by rw [e]; exact ht, rfl⟩) ha
    · exact .eat hi (by rw [e]; exact hf) (by rw [e]; exact ha)
theorem acc_lit {Q : List Pl} {n : Nat} {k c : Int} (h : Q[n]? = some (k, c, [])) (hk : 0 ≤ k ∧ k ≤ 3) : ∀ s, Acc Q n s ↔ cat (unit k c) (Acc Q (n + 1)) s := by
  have h7 : ¬ k = 7 := by omega
  by_cases h23 : k = 2 ∨ k = 3
  · have hs : skips k = true := by rcases h23 with rfl | rfl <;> rfl
    have hb : ((k == 2) || (k == 3)) = true := by rcases h23 with rfl | rfl <;> rfl
    intro s
    induction s with
    | nil =>
      rw [acc_at h]
      constructor
      · rintro (⟨h, _⟩ | ⟨_, ha⟩ | ⟨t, ht, _⟩ | ⟨x, r, e, _⟩)
        · exact absurd h h7
        · exact ⟨[], [], rfl, by simp [unit, h23], ha⟩
        · simp at ht
        · cases e
      · rintro ⟨u, v, e, _, ha⟩
        obtain ⟨rfl, rfl⟩ := List.append_eq_nil_iff.1 e.symm
        exact .inr (.inl ⟨hs, ha⟩)
    | cons y s ih =>
      rw [acc_at h, hb]
      simp only [cond_true]
      constructor
      · rintro (⟨h, _⟩ | ⟨_, ha⟩ | ⟨t, ht, _⟩ | ⟨x, r, e, hf, ha⟩)
        · exact absurd h h7
        · exact ⟨[], y :: s, rfl, by simp [unit, h23], ha⟩
        · simp at ht
        · injection e with e1 e2
          subst e1; subst e2
          obtain ⟨u, v, rfl, hu, hv⟩ := ih.1 ha
          refine ⟨y :: u, v, rfl, ?_, hv⟩
          unfold unit at hu ⊢
          rw [if_pos h23] at hu ⊢
          intro z hz
          rcases List.mem_cons.1 hz with rfl | hz
          · exact hf
          · exact hu z hz
      · rintro ⟨u, v, e, hu, ha⟩
        cases u with
        | nil => exact .inr (.inl ⟨hs, by rw [e]; exact ha⟩)
        | cons z u =>
          injection e with e1 e2
          subst e1; subst e2
          unfold unit at hu
          rw [if_pos h23] at hu
          refine .inr (.inr (.inr ⟨y, u ++ v, rfl, hu y (by simp), ih.2 ⟨u, v, rfl, ?_, ha⟩⟩))
          unfold unit
          rw [if_pos h23]
          exact fun z hz => hu z (by simp [hz])
  · have hs : skips k = false := by
      have h2 : k = 0 ∨ k = 1 := by omega
      rcases h2 with rfl | rfl <;> rfl
    have hb : ((k == 2) || (k == 3)) = false := by
      have h2 : k = 0 ∨ k = 1 := by omega
      rcases h2 with rfl | rfl <;> rfl
    intro s
    rw [acc_at h, hb, hs]
    simp only [cond_false]
    constructor
    · rintro (⟨h, _⟩ | ⟨h, _⟩ | ⟨t, ht, _⟩ | ⟨x, r, rfl, hf, ha⟩)
      · exact absurd h h7
      · cases h
      · simp at ht
      · exact ⟨[x], r, rfl, by unfold unit; rw [if_neg h23]; exact ⟨x, rfl, hf⟩, ha⟩
    · rintro ⟨u, v, rfl, hu, ha⟩
      unfold unit at hu
      rw [if_neg h23] at hu
      obtain ⟨x, rfl, hf⟩ := hu
      exact .inr (.inr (.inr ⟨x, v, rfl, hf, ha⟩))
theorem acc_sem {Q : List Pl} : ∀ (p : Pt) (es : List Int) (n : Nat), p.ok → Seg Q n (pls es p n) → (p.flat ∨ es = [((n + p.len : Nat) : Int)]) →
    (∀ s, Acc Q n s ↔ cat (sem p).1 (Acc Q (n + p.len)) s) ∧ (∀ s, (∃ t ∈ tos p n, Acc Q t.toNat s) ↔ cat (sem p).2 (Acc Q (n + p.len)) s)
  | .nil, es, n, _, _, _ => by
    refine ⟨fun s => (cat_nil _ s).symm, fun s => ⟨fun ⟨t, ht, _⟩ => by simp [tos] at ht, fun ⟨_, _, _, h, _⟩ => h.elim⟩⟩
  | .lit k c r, es, n, ho, hseg, hf => by
    rw [pls] at hseg
    have ih := acc_sem r es (n + 1) ho.2 hseg.tail (by rcases hf with h | h; exact .inl h; right; rw [h]; congr 1; simp only [len]; omega)
    rw [show n + 1 + r.len = n + (Pt.lit k c r).len by simp only [len]; omega] at ih
    refine ⟨fun s => ?_, ih.2⟩
    rw [acc_lit hseg.head ho.1]
    exact (cat_congr (fun _ => Iff.rfl) ih.1 s).trans (cat_assoc _ _ _ s).symm
  | .bar r, es, n, ho, hseg, hf => by
    have he : es = [((n + (Pt.bar r).len : Nat) : Int)] := by rcases hf with h | h; exact h.elim; exact h
    rw [pls] at hseg
    have ih := acc_sem r es (n + 1) ho hseg.tail (by right; rw [he]; congr 1; simp only [len]; omega)
    rw [show n + 1 + r.len = n + (Pt.bar r).len by simp only [len]; omega] at ih
    refine ⟨fun s => ?_, fun s => ?_⟩
    · rw [acc_at hseg.head]
      refine Iff.trans ?_ (cat_nil _ s).symm
      constructor
      · rintro (⟨h, _⟩ | ⟨h, _⟩ | ⟨t, ht, ha⟩ | ⟨x, r, rfl, hf, ha⟩)
        · cases h
        · cases h
        · rw [he] at ht; simp only [List.mem_singleton] at ht; subst ht; exact ha
        · cases hf
      · intro h; exact .inr (.inr (.inl ⟨((n + (Pt.bar r).len : Nat) : Int), by rw [he]; simp, h⟩))
    · refine Iff.trans ?_ (cat_or _ _ _ s).symm
      rw [← ih.1, ← ih.2]
      constructor
      · rintro ⟨t, ht, ha⟩
        simp only [tos, List.mem_cons] at ht
        rcases ht with rfl | ht
        · left; rw [show ((n : Int) + 1).toNat = n + 1 by omega] at ha; exact ha
        · exact .inr ⟨t, ht, ha⟩
      · rintro (ha | ⟨t, ht, ha⟩)
        · exact ⟨(n : Int) + 1, by simp [tos], by rw [show ((n : Int) + 1).toNat = n + 1 by omega]; exact ha⟩
        · exact ⟨t, by simp [tos, ht], ha⟩
  | .grp b r, es, n, ho, hseg, hf => by
    rw [pls] at hseg
    have h1 := hseg.tail.right
    rw [pls_len] at h1
    have hb := acc_sem b [((n + 1 + len b : Nat) : Int)] (n + 1) ho.1 hseg.tail.left (.inr rfl)
    have hr := acc_sem r es (n + 2 + len b) ho.2 (by have := h1.tail; rw [show n + 1 + b.len + 1 = n + 2 + b.len by omega] at this; exact this) (by rcases hf with h | h; exact .inl h; right; rw [h]; congr 1; simp only [len]; omega)
    rw [show n + 2 + b.len + r.len = n + (Pt.grp b r).len by simp only [len]; omega] at hr
    have hc : ∀ s, Acc Q (n + 1 + b.len) s ↔ cat (sem r).1 (Acc Q (n + (Pt.grp b r).len)) s := by
      intro s
      rw [acc_at h1.head, ← hr.1, show n + 1 + b.len + 1 = n + 2 + b.len by omega]
      constructor
      · rintro (⟨h, _⟩ | ⟨_, h⟩ | ⟨t, ht, ha⟩ | ⟨x, r, rfl, hf, ha⟩)
        · cases h
        · exact h
        · simp at ht
        · cases hf
      · intro h; exact .inr (.inl ⟨rfl, h⟩)
    refine ⟨fun s => ?_, hr.2⟩
    rw [acc_at hseg.head]
    refine Iff.trans ?_ (cat_assoc _ _ _ s).symm
    refine Iff.trans ?_ (cat_or _ _ _ s).symm
    have e1 := (hb.1 s).trans (cat_congr (fun _ => Iff.rfl) hc s)
    have e2 := (hb.2 s).trans (cat_congr (fun _ => Iff.rfl) hc s)
    rw [← e1, ← e2]
    constructor
    · rintro (⟨h, _⟩ | ⟨_, h⟩ | h | ⟨x, r, rfl, hf, ha⟩)
      · cases h
      · exact .inl h
      · exact .inr h
      · cases hf
    · rintro (h | h)
      · exact .inr (.inl ⟨rfl, h⟩)
      · exact .inr (.inr (.inl h))
/-- A pattern's places take what its tree matches. -/
theorem run_sem {p : Pt} (ho : p.ok) (hf : p.flat) (s : List UInt8) : (run (placesOf p) s).1.getD ((placesOf p).length - 1) false = true ↔ (sem p).1 s := by
  obtain ⟨hW, hE⟩ := placesOf_wf ho
  rw [run_iff hW hE]
  have h := (acc_sem (Q := placesOf p) p [] 0 ho (fun i q h => by rw [Nat.zero_add, placesOf, List.getElem?_append_left (List.getElem?_eq_some_iff.1 h).1]; exact h) (.inl hf)).1 s
  rw [h, Nat.zero_add]
  have hl : (placesOf p)[p.len]? = some (7, 0, []) := by rw [placesOf, List.getElem?_append_right (by rw [pls_len]; omega), pls_len]; simp
  have he : ∀ v, Acc (placesOf p) p.len v ↔ v = [] := by
    intro v
    rw [acc_at hl]
    constructor
    · rintro (⟨_, h⟩ | ⟨h, _⟩ | ⟨t, ht, _⟩ | ⟨x, r, rfl, hf, _⟩)
      · exact h
      · cases h
      · simp at ht
      · cases hf
    · intro h; exact .inl ⟨rfl, h⟩
  constructor
  · rintro ⟨u, v, rfl, h1, h2⟩
    rw [(he v).1 h2, List.append_nil]; exact h1
  · intro h; exact ⟨s, [], by simp, h, (he []).2 rfl⟩
end Pat
