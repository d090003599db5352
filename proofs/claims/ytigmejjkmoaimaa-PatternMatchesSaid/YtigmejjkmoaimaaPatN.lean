/- Chapter 17: the sets of places, in plain Lean. -/
import Derived.Test.YtigmejjkmoaimaaPatM
import Derived.Test.YtigmejjkmoaimaaPat
namespace Pat
set_option linter.unusedVariables false
set_option linter.unusedSimpArgs false
open Go Gk

/-- A place is added, and all to which one comes from it without a byte. -/
def skips (k : Int) : Bool := (((k == 2) || (k == 3)) || (k == 4)) || (k == 6)
def addP (Q : List Pl) : Nat → List Bool → Nat → List Bool
  | 0, set, _ => set
  | f + 1, set, i => bif set.getD i false then set else
      bif skips (Q.getD i (7, 0, [])).1 then addP Q f ((Q.getD i (7, 0, [])).2.2.foldl (fun s t => addP Q f s t.toNat) (set.set i true)) (i + 1)
      else (Q.getD i (7, 0, [])).2.2.foldl (fun s t => addP Q f s t.toNat) (set.set i true)
def unset (s : List Bool) : Nat := s.countP (fun b => !b)
/-- All that was set stays so. -/
def SubB (s t : List Bool) : Prop := s.length = t.length ∧ ∀ i : Nat, s.getD i false = true → t.getD i false = true
theorem SubB.refl (s : List Bool) : SubB s s := ⟨rfl, fun _ h => h⟩
theorem SubB.trans {s t u : List Bool} (h : SubB s t) (k : SubB t u) : SubB s u := ⟨h.1.trans k.1, fun i hi => k.2 i (h.2 i hi)⟩
theorem SubB.set (s : List Bool) (i : Nat) : SubB s (s.set i true) := by
  refine ⟨by simp, fun j hj => ?_⟩
  rw [List.getD_eq_getElem?_getD] at hj ⊢
  rw [List.getElem?_set]
  by_cases e : i = j
  · subst e
    have hlt : i < s.length := by
      apply Classical.byContradiction
      intro hn
      rw [List.getElem?_eq_none (by omega)] at hj
      cases hj
    simp [hlt]
  · simpa [e] using hj
theorem unset_le : ∀ {s t : List Bool}, SubB s t → unset t ≤ unset s
  | [], [], _ => Nat.le_refl _
  | [], _ :: _, h => by cases h.1
  | _ :: _, [], h => by cases h.1
  | a :: s, b :: t, h => by
    have h1 : SubB s t := ⟨by simpa using h.1, fun i hi => by have := h.2 (i + 1) (by simpa using hi); simpa using this⟩
    have h2 := unset_le h1
    have h3 := h.2 0
    unfold unset at h2 ⊢
    cases a <;> cases b <;> simp_all <;> omega
theorem unset_set : ∀ {s : List Bool} {i : Nat}, i < s.length → s.getD i false = false → unset (s.set i true) + 1 = unset s
  | [], _, h, _ => by simp at h
  | a :: s, 0, _, h => by simp at h; subst h; simp [unset]
  | a :: s, i + 1, h, h2 => by
    have := unset_set (s := s) (i := i) (by simpa using h) (by simpa using h2)
    unfold unset at this ⊢
    cases a <;> simp_all
theorem addP_sub (Q : List Pl) : ∀ (f : Nat) (s : List Bool) (i : Nat), SubB s (addP Q f s i)
  | 0, s, _ => SubB.refl s
  | f + 1, s, i => by
    have fold : ∀ (l : List Int) (s : List Bool), SubB s (l.foldl (fun s t => addP Q f s t.toNat) s) := by
      intro l
      induction l with
      | nil => intro s; exact SubB.refl s
      | cons x l ih => intro s; exact (addP_sub Q f s x.toNat).trans (ih _)
    rw [addP]
    cases s.getD i false
    · cases skips (Q.getD i (7, 0, [])).1
      · exact (SubB.set s i).trans (fold _ _)
      · exact ((SubB.set s i).trans (fold _ _)).trans (addP_sub Q f _ _)
    · exact SubB.refl s
theorem fold_sub (Q : List Pl) (f : Nat) : ∀ (l : List Int) (s : List Bool), SubB s (l.foldl (fun s t => addP Q f s t.toNat) s)
  | [], s => SubB.refl s
  | x :: l, s => (addP_sub Q f s x.toNat).trans (fold_sub Q f l _)
/-- Whatever a place goes on to is a place. -/
def WF (Q : List Pl) : Prop := ∀ (i : Nat) (q : Pl), Q[i]? = some q → (∀ t ∈ q.2.2, 0 ≤ t ∧ t < (Q.length : Int)) ∧ (skips q.1 = true → i + 1 < Q.length) ∧ (0 ≤ q.1 ∧ q.1 ≤ 7) ∧ (q.1 ≠ 7 → i + 1 < Q.length) ∧ q.2.2.length ≤ Q.length
theorem take_fold {α β : Type} (f : β → α → β) (b : β) (l : List α) (k : Nat) (d : α) (h : k < l.length) : (l.take (k + 1)).foldl f b = f ((l.take k).foldl f b) (l.getD k d) := by
  rw [List.take_succ_eq_append_getElem h, List.foldl_append]
  simp [List.getD_eq_getElem?_getD, h]
theorem WF.at_ {Q : List Pl} (h : WF Q) {i : Nat} (hi : i < Q.length) : (∀ t ∈ (Q.getD i (7, 0, [])).2.2, 0 ≤ t ∧ t < (Q.length : Int)) ∧ (skips (Q.getD i (7, 0, [])).1 = true → i + 1 < Q.length) ∧ (0 ≤ (Q.getD i (7, 0, [])).1 ∧ (Q.getD i (7, 0, [])).1 ≤ 7) ∧ ((Q.getD i (7, 0, [])).1 ≠ 7 → i + 1 < Q.length) ∧ (Q.getD i (7, 0, [])).2.2.length ≤ Q.length := by
  have e : Q[i]? = some (Q.getD i (7, 0, [])) := by simp [List.getD_eq_getElem?_getD, hi]
  exact h i _ e
/-- Does a place take a byte. -/
def fitsP (k c : Int) (b : UInt8) : Bool := bif k == 0 then c == (b.toNat : Int) else bif (k == 1) || (k == 3) then (b.toNat : Int) != 47 else k == 2
/-- What a byte does: the places behind it, whether any took it, and how many were looked at. -/
def runAt (Q : List Pl) (F : Nat) (c : UInt8) (now : List Bool) (st : List Bool × Bool × Nat) (k : Nat) : List Bool × Bool × Nat :=
  bif now.getD k false then
    bif fitsP (Q.getD k (7, 0, [])).1 (Q.getD k (7, 0, [])).2.1 c then
      (addP Q F st.1 (bif ((Q.getD k (7, 0, [])).1 == 2) || ((Q.getD k (7, 0, [])).1 == 3) then k else k + 1), true, st.2.2 + 1)
    else (st.1, st.2.1, st.2.2 + 1)
  else st
def runB (Q : List Pl) (F : Nat) (c : UInt8) (now : List Bool) (steps : Nat) : List Bool × Bool × Nat := iter (runAt Q F c now) (List.replicate Q.length false, false, steps) Q.length
def runS (Q : List Pl) (F : Nat) : List UInt8 → List Bool → Nat → List Bool × Nat
  | [], now, st => (now, st)
  | c :: r, now, st => bif (runB Q F c now st).2.1 then runS Q F r (runB Q F c now st).1 (runB Q F c now st).2.2 else ((runB Q F c now st).1, (runB Q F c now st).2.2)
def run (Q : List Pl) (l : List UInt8) : List Bool × Nat := runS Q (Q.length + 1) l (addP Q (Q.length + 1) (List.replicate Q.length false) 0) 1
theorem runAt_steps (Q : List Pl) (F : Nat) (c : UInt8) (now : List Bool) (st : List Bool × Bool × Nat) (k : Nat) : st.2.2 ≤ (runAt Q F c now st k).2.2 ∧ (runAt Q F c now st k).2.2 ≤ st.2.2 + 1 := by
  unfold runAt
  cases now.getD k false <;> cases fitsP (Q.getD k (7, 0, [])).1 (Q.getD k (7, 0, [])).2.1 c <;> simp
theorem runAt_len (Q : List Pl) (F : Nat) (c : UInt8) (now : List Bool) (st : List Bool × Bool × Nat) (k : Nat) : (runAt Q F c now st k).1.length = st.1.length := by
  unfold runAt
  cases now.getD k false <;> cases fitsP (Q.getD k (7, 0, [])).1 (Q.getD k (7, 0, [])).2.1 c <;> simp
  exact (addP_sub Q F _ _).1.symm
theorem runIter_facts (Q : List Pl) (F : Nat) (c : UInt8) (now : List Bool) (st : List Bool × Bool × Nat) : ∀ k, (iter (runAt Q F c now) st k).1.length = st.1.length ∧ st.2.2 ≤ (iter (runAt Q F c now) st k).2.2 ∧ (iter (runAt Q F c now) st k).2.2 ≤ st.2.2 + k
  | 0 => ⟨rfl, Nat.le_refl _, Nat.le_refl _⟩
  | k + 1 => by
    have h := runIter_facts Q F c now st k
    have h1 := runAt_steps Q F c now (iter (runAt Q F c now) st k) k
    have h2 := runAt_len Q F c now (iter (runAt Q F c now) st k) k
    rw [iter]
    omega
theorem At.sub {I : Im} {p : Addr} {vs us : List Value} (h : At I p vs) (hu : ∀ (j : Nat) (v : Value), us[j]? = some v → vs[j]? = some v) : At I p us := by
  obtain ⟨h1, arr, E, fr, h2, h3⟩ := h
  exact ⟨h1, arr, E, fr, h2, fun j v hj => h3 j v (hu j v hj)⟩
theorem At.place {I : Im} {la : Addr} {P : List Cell3} {i : Nat} {x : Cell3} (h : At I la (P.flatMap enc)) (hx : P[i]? = some x) : At I (la.add (i * 3)) [.int .u8 x.1, .int .u8 x.2.1, x.2.2] := by
  refine At.sub (h.add (i * 3)) fun j v hj => ?_
  have hl : j < 3 := by have := (List.getElem?_eq_some_iff.1 hj).1; simpa using this
  rw [List.getElem?_drop]
  have := flat_get enc 3 enc_len P [] i j x hx hl
  rw [List.append_nil] at this
  rw [this]; exact hj
theorem PatI.opened {I : Im} {p : Addr} {Q : List Pl} {n : Nat} (h : PatI I p Q n) (hQ : 0 < Q.length) : ∃ la c P, At I p [.slice (some la) Q.length c, I64 n] ∧ At I la (P.flatMap enc) ∧ RelP I P Q := by
  obtain ⟨a, c, P, h1, h2, h3, h4⟩ := h
  obtain ⟨la, rfl, h5⟩ := h3.2 (by rw [h4.1]; exact hQ)
  exact ⟨la, c, P, by rw [← h4.1]; exact h1, h5, h4⟩
/-- A place, as it lies. -/
theorem RelP.at_ {I : Im} {P : List Cell3} {Q : List Pl} (h : RelP I P Q) {i : Nat} (hi : i < Q.length) : ∃ xa xc, P[i]? = some ((Q.getD i (7, 0, [])).1, (Q.getD i (7, 0, [])).2.1, .slice xa (Q.getD i (7, 0, [])).2.2.length xc) ∧ ∃ xp, 0 < (Q.getD i (7, 0, [])).2.2.length → xa = some xp ∧ At I xp ((Q.getD i (7, 0, [])).2.2.map I64) := by
  have e : Q[i]? = some (Q.getD i (7, 0, [])) := by simp [List.getD_eq_getElem?_getD, hi]
  obtain ⟨⟨p1, p2, p3⟩, hp⟩ : ∃ p, P[i]? = some p := ⟨_, List.getElem?_eq_getElem (by rw [h.1]; exact hi)⟩
  obtain ⟨a, b, _, xa, xc, h1, _, h2⟩ := h.2 i _ _ hp e
  simp only at a b h1
  subst a; subst b; subst h1
  refine ⟨xa, xc, hp, ?_⟩
  by_cases h0 : 0 < (Q.getD i (7, 0, [])).2.2.length
  · obtain ⟨xp, rfl, h3⟩ := h2.2 h0
    exact ⟨xp, fun _ => ⟨rfl, h3⟩⟩
  · exact ⟨ad 0 0, fun h => absurd h h0⟩
end Pat
