/- Chapter 17: the sets of places are closed, and what a run accepts. -/
import Derived.Test.YtigmejjkmoaimaaPatU
namespace Pat
set_option linter.unusedVariables false
set_option linter.unusedSimpArgs false
open Go Gk Pt

/-- One goes on without a byte. -/
def Succ (Q : List Pl) (i j : Nat) : Prop := (skips (Q.getD i (7, 0, [])).1 = true ∧ j = i + 1) ∨ (∃ t ∈ (Q.getD i (7, 0, [])).2.2, j = t.toNat)
inductive Reach (Q : List Pl) : Nat → Nat → Prop
  | refl (i : Nat) : Reach Q i i
  | step {i j k : Nat} : Succ Q i j → Reach Q j k → Reach Q i k
def Cl (Q : List Pl) (a b : List Bool) : Prop := SubB a b ∧ ∀ x, b.getD x false = true → a.getD x false = false → ∀ y, Succ Q x y → b.getD y false = true
theorem Cl.refl (Q : List Pl) (a : List Bool) : Cl Q a a := ⟨SubB.refl a, fun x h k => by rw [h] at k; cases k⟩
theorem Cl.trans {Q : List Pl} {a b c : List Bool} (h : Cl Q a b) (k : Cl Q b c) : Cl Q a c := by
  refine ⟨h.1.trans k.1, fun x hx hn y hy => ?_⟩
  cases hb : b.getD x false with
  | true => exact k.1.2 y (h.2 x hb hn y hy)
  | false => exact k.2 x hx hb y hy
theorem getD_set_true (s : List Bool) (i x : Nat) : (s.set i true).getD x false = true → s.getD x false = true ∨ x = i := by
  intro h
  by_cases e : x = i
  · exact .inr e
  · left
    rw [List.getD_eq_getElem?_getD, List.getElem?_set] at h
    rw [List.getD_eq_getElem?_getD]
    have : ¬ i = x := fun h => e h.symm
    simpa [this] using h
theorem getD_set_self {s : List Bool} {i : Nat} (h : i < s.length) : (s.set i true).getD i false = true := by
  rw [List.getD_eq_getElem?_getD, List.getElem?_set]; simp [h]
theorem addP_cl {Q : List Pl} (hW : WF Q) : ∀ (f : Nat) (set : List Bool) (i : Nat), set.length = Q.length → i < Q.length → unset set < f → Cl Q set (addP Q f set i) ∧ (addP Q f set i).getD i false = true
  | 0, _, _, _, _, h => by omega
  | f + 1, set, i, hl, hi, hf => by
    have fold : ∀ (l : List Int) (s : List Bool), s.length = Q.length → unset s < f → (∀ t ∈ l, 0 ≤ t ∧ t < (Q.length : Int)) → Cl Q s (l.foldl (fun s t => addP Q f s t.toNat) s) ∧ ∀ t ∈ l, (l.foldl (fun s t => addP Q f s t.toNat) s).getD t.toNat false = true := by
      intro l
      induction l with
      | nil => intro s _ _ _; exact ⟨Cl.refl Q s, by simp⟩
      | cons t l ih =>
        intro s h1 h2 h3
        have ht := h3 t (by simp)
        have h4 := addP_cl hW f s t.toNat h1 (by omega) h2
        have hsub := addP_sub Q f s t.toNat
        have h5 := ih (addP Q f s t.toNat) (by rw [← hsub.1]; exact h1) (by have := unset_le hsub; omega) (fun u hu => h3 u (by simp [hu]))
        refine ⟨h4.1.trans h5.1, fun u hu => ?_⟩
        rcases List.mem_cons.1 hu with rfl | hu
        · exact h5.1.1.2 _ h4.2
        · exact h5.2 u hu
    have hw := hW.at_ hi
    rw [addP]
    cases hs : set.getD i false with
    | true => exact ⟨Cl.refl Q set, hs⟩
    | false =>
      have hu := unset_set (s := set) (i := i) (by omega) hs
      have h1 := fold (Q.getD i (7, 0, [])).2.2 (set.set i true) (by simp [hl]) (by omega) hw.1
      generalize hS : (Q.getD i (7, 0, [])).2.2.foldl (fun s t => addP Q f s t.toNat) (set.set i true) = S1 at h1
      have hset : SubB set S1 := (SubB.set set i).trans h1.1.1
      have hiS : S1.getD i false = true := h1.1.1.2 i (getD_set_self (by omega))
      simp only [cond_false]
      cases hk : skips (Q.getD i (7, 0, [])).1 with
      | false =>
        simp only [cond_false]
        refine ⟨⟨hset, fun x hx hn y hy => ?_⟩, hiS⟩
        by_cases e : x = i
        · subst e
          rcases hy with ⟨h, _⟩ | ⟨t, ht, rfl⟩
          · rw [hk] at h; cases h
          · exact h1.2 t ht
        · refine h1.1.2 x hx ?_ y hy
          cases h9 : (set.set i true).getD x false with
          | false => rfl
          | true => rcases getD_set_true _ _ _ h9 with h | h; rw [h] at hn; cases hn; exact absurd h e
      | true =>
        simp only [cond_true]
        have hi1 := hw.2.1 hk
        have h2 := addP_cl hW f S1 (i + 1) (by rw [← hset.1]; exact hl) hi1 (by have := unset_le h1.1.1; omega)
        refine ⟨⟨hset.trans h2.1.1, fun x hx hn y hy => ?_⟩, h2.1.1.2 i hiS⟩
        by_cases e : x = i
        · subst e
          rcases hy with ⟨_, rfl⟩ | ⟨t, ht, rfl⟩
          · exact h2.2
          · exact h2.1.1.2 _ (h1.2 t ht)
        · cases h8 : S1.getD x false with
          | true =>
            refine h2.1.1.2 y (h1.1.2 x h8 ?_ y hy)
            cases h9 : (set.set i true).getD x false with
            | false => rfl
            | true => rcases getD_set_true _ _ _ h9 with h | h; rw [h] at hn; cases hn; exact absurd h e
          | false => exact h2.1.2 x hx h8 y hy
theorem addP_sound {Q : List Pl} : ∀ (f : Nat) (set : List Bool) (i x : Nat), (addP Q f set i).getD x false = true → set.getD x false = true ∨ Reach Q i x
  | 0, set, i, x, h => .inl h
  | f + 1, set, i, x, h => by
    have fold : ∀ (l : List Int) (s : List Bool), (l.foldl (fun s t => addP Q f s t.toNat) s).getD x false = true → s.getD x false = true ∨ ∃ t ∈ l, Reach Q t.toNat x := by
      intro l
      induction l with
      | nil => intro s h; exact .inl h
      | cons t l ih =>
        intro s h
        rcases ih _ h with h | ⟨u, hu, h⟩
        · rcases addP_sound f s t.toNat x h with h | h
          · exact .inl h
          · exact .inr ⟨t, by simp, h⟩
        · exact .inr ⟨u, by simp [hu], h⟩
    have done : ∀ {S1 : List Bool}, (∀ h : S1.getD x false = true, (set.set i true).getD x false = true ∨ ∃ t ∈ (Q.getD i (7, 0, [])).2.2, Reach Q t.toNat x) → S1.getD x false = true → set.getD x false = true ∨ Reach Q i x := by
      intro S1 h1 h2
      rcases h1 h2 with h | ⟨t, ht, h⟩
      · rcases getD_set_true _ _ _ h with h | rfl
        · exact .inl h
        · exact .inr (.refl _)
      · exact .inr (.step (.inr ⟨t, ht, rfl⟩) h)
    rw [addP] at h
    cases hs : set.getD i false with
    | true => rw [hs] at h; exact .inl h
    | false =>
      rw [hs] at h
      simp only [cond_false] at h
      cases hk : skips (Q.getD i (7, 0, [])).1 with
      | false => rw [hk] at h; exact done (fold _ _) h
      | true =>
        rw [hk] at h
        simp only [cond_true] at h
        rcases addP_sound f _ _ x h with h | h
        · exact done (fold _ _) h
        · exact .inr (.step (.inl ⟨hk, rfl⟩) h)

/-- From a place on a text is taken whole. -/
inductive Acc (Q : List Pl) : Nat → List UInt8 → Prop
  | fin {i} : i < Q.length → (Q.getD i (7, 0, [])).1 = 7 → Acc Q i []
  | go {i j s} : i < Q.length → Succ Q i j → Acc Q j s → Acc Q i s
  | eat {i c s} : i < Q.length → fitsP (Q.getD i (7, 0, [])).1 (Q.getD i (7, 0, [])).2.1 c = true → Acc Q (bif ((Q.getD i (7, 0, [])).1 == 2) || ((Q.getD i (7, 0, [])).1 == 3) then i else i + 1) s → Acc Q i (c :: s)
theorem Acc.reach {Q : List Pl} (hW : WF Q) {i j : Nat} {s : List UInt8} (hi : i < Q.length) (h : Reach Q i j) (k : Acc Q j s) : Acc Q i s := by
  induction h with
  | refl => exact k
  | @step i j k' hs _ ih =>
    refine .go hi hs (ih ?_ k)
    have hw := hW.at_ hi
    rcases hs with ⟨h1, rfl⟩ | ⟨t, ht, rfl⟩
    · exact hw.2.1 h1
    · have := hw.1 t ht; omega
def Closed (Q : List Pl) (s : List Bool) : Prop := ∀ x, s.getD x false = true → ∀ y, Succ Q x y → s.getD y false = true
theorem Closed.cl {Q : List Pl} {a b : List Bool} (h : Closed Q a) (k : Cl Q a b) : Closed Q b := by
  intro x hx y hy
  cases ha : a.getD x false with
  | true => exact k.1.2 y (h x ha y hy)
  | false => exact k.2 x hx ha y hy
theorem getD_rep (n x : Nat) : (List.replicate n false).getD x false = false := by
  rw [List.getD_eq_getElem?_getD, List.getElem?_replicate]; split <;> rfl
theorem Closed.rep (Q : List Pl) (n : Nat) : Closed Q (List.replicate n false) := fun x hx => by rw [getD_rep] at hx; cases hx

section
variable {Q : List Pl} (hW : WF Q) {F : Nat} (hF : Q.length < F) (now : List Bool) (c : UInt8)
abbrev tgt (Q : List Pl) (i : Nat) : Nat := bif ((Q.getD i (7, 0, [])).1 == 2) || ((Q.getD i (7, 0, [])).1 == 3) then i else i + 1
theorem tgt_lt (hW : WF Q) {i : Nat} {c : UInt8} (hi : i < Q.length) (h : fitsP (Q.getD i (7, 0, [])).1 (Q.getD i (7, 0, [])).2.1 c = true) : tgt Q i < Q.length := by
  have h7 := (hW.at_ hi).2.2.2.1 (fun e => by rw [e, fitsP] at h; simp at h)
  unfold tgt
  cases ((Q.getD i (7, 0, [])).1 == 2) || ((Q.getD i (7, 0, [])).1 == 3)
  · exact h7
  · exact hi
/-- Places that one comes to by a byte. -/
theorem runIter (hW : WF Q) (hF : Q.length < F) (steps : Nat) : ∀ k, k ≤ Q.length → ∃ nx any st, iter (runAt Q F c now) (List.replicate Q.length false, false, steps) k = (nx, any, st) ∧ nx.length = Q.length ∧ Closed Q nx ∧
    (∀ i, i < k → now.getD i false = true → fitsP (Q.getD i (7, 0, [])).1 (Q.getD i (7, 0, [])).2.1 c = true → nx.getD (tgt Q i) false = true ∧ any = true) ∧
    (∀ x, nx.getD x false = true → ∃ i, i < Q.length ∧ now.getD i false = true ∧ fitsP (Q.getD i (7, 0, [])).1 (Q.getD i (7, 0, [])).2.1 c = true ∧ Reach Q (tgt Q i) x)
  | 0, _ => ⟨_, _, _, rfl, by simp, Closed.rep _ _, fun _ h => by omega, fun x hx => by rw [getD_rep] at hx; cases hx⟩
  | k + 1, hk => by
    obtain ⟨nx, any, st, h1, h2, h3, h4, h5⟩ := runIter hW hF steps k (by omega)
    rw [iter, h1, runAt]
    cases hn : now.getD k false with
    | false =>
      refine ⟨_, _, _, rfl, h2, h3, fun i hi hni hf => ?_, h5⟩
      by_cases e : i = k
      · subst e; rw [hn] at hni; cases hni
      · exact h4 i (by omega) hni hf
    | true =>
      cases hf : fitsP (Q.getD k (7, 0, [])).1 (Q.getD k (7, 0, [])).2.1 c with
      | false =>
        refine ⟨_, _, _, rfl, h2, h3, fun i hi hni hf2 => ?_, h5⟩
        by_cases e : i = k
        · subst e; rw [hf] at hf2; cases hf2
        · exact h4 i (by omega) hni hf2
      | true =>
        have ht := tgt_lt hW (i := k) (by omega) hf
        have hu : unset nx ≤ nx.length := List.countP_le_length
        have h6 := addP_cl hW F nx (tgt Q k) h2 ht (by omega)
        refine ⟨_, _, _, rfl, ?_, ?_, fun i hi hni hf2 => ?_, fun x hx => ?_⟩
        · exact h6.1.1.1.symm.trans h2
        · exact h3.cl h6.1
        · by_cases e : i = k
          · subst e; exact ⟨h6.2, rfl⟩
          · exact ⟨h6.1.1.2 _ (h4 i (by omega) hni hf2).1, rfl⟩
        · rcases addP_sound F nx (tgt Q k) x hx with h | h
          · exact h5 x h
          · exact ⟨k, by omega, hn, hf, h⟩
end
theorem Acc.inv_nil {Q : List Pl} {now : List Bool} (hc : Closed Q now) : ∀ {i : Nat} {s : List UInt8}, Acc Q i s → s = [] → now.getD i false = true → ∃ j, j < Q.length ∧ (Q.getD j (7, 0, [])).1 = 7 ∧ now.getD j false = true := by
  intro i s h
  induction h with
  | fin h1 h2 => intro _ h; exact ⟨_, h1, h2, h⟩
  | go h1 h2 _ ih => intro h3 h; exact ih h3 (hc _ h _ h2)
  | eat => intro h; cases h
theorem Acc.inv_cons {Q : List Pl} {now : List Bool} (hc : Closed Q now) {c : UInt8} {r : List UInt8} : ∀ {i : Nat} {s : List UInt8}, Acc Q i s → s = c :: r → now.getD i false = true → ∃ j, j < Q.length ∧ now.getD j false = true ∧ fitsP (Q.getD j (7, 0, [])).1 (Q.getD j (7, 0, [])).2.1 c = true ∧ Acc Q (tgt Q j) r := by
  intro i s h
  induction h with
  | fin => intro h; cases h
  | go h1 h2 _ ih => intro h3 h; exact ih h3 (hc _ h _ h2)
  | eat h1 h2 h3 => intro h4 h; injection h4 with h4 h5; subst h4; subst h5; exact ⟨_, h1, h, h2, h3⟩
/-- The last place is the one end. -/
def End7 (Q : List Pl) : Prop := 0 < Q.length ∧ ∀ j, j < Q.length → ((Q.getD j (7, 0, [])).1 = 7 ↔ j = Q.length - 1)
theorem runS_iff {Q : List Pl} (hW : WF Q) (hE : End7 Q) {F : Nat} (hF : Q.length < F) : ∀ (s : List UInt8) (now : List Bool) (st : Nat), now.length = Q.length → Closed Q now →
    ((runS Q F s now st).1.getD (Q.length - 1) false = true ↔ ∃ i, i < Q.length ∧ now.getD i false = true ∧ Acc Q i s)
  | [], now, st, hl, hc => by
    constructor
    · intro h
      have h0 := hE.1
      exact ⟨Q.length - 1, by omega, h, .fin (by omega) ((hE.2 _ (by omega)).2 rfl)⟩
    · rintro ⟨i, hi, h1, h2⟩
      obtain ⟨j, hj, h7, hn⟩ := h2.inv_nil hc rfl h1
      rw [(hE.2 j hj).1 h7] at hn
      exact hn
  | c :: r, now, st, hl, hc => by
    obtain ⟨nx, any, st2, h1, h2, h3, h4, h5⟩ := runIter now c hW hF st Q.length (Nat.le_refl _)
    have hB : runB Q F c now st = (nx, any, st2) := h1
    rw [runS, hB]
    have back : (∃ i, i < Q.length ∧ now.getD i false = true ∧ Acc Q i (c :: r)) ↔ ∃ i, i < Q.length ∧ nx.getD i false = true ∧ Acc Q i r := by
      constructor
      · rintro ⟨i, hi, k1, k2⟩
        obtain ⟨j, hj, m1, m2, m3⟩ := k2.inv_cons hc rfl k1
        exact ⟨_, tgt_lt hW hj m2, (h4 j hj m1 m2).1, m3⟩
      · rintro ⟨i, hi, k1, k2⟩
        obtain ⟨j, hj, m1, m2, m3⟩ := h5 i k1
        exact ⟨j, hj, m1, .eat hj m2 (k2.reach hW (tgt_lt hW hj m2) m3)⟩
    rw [back]
    cases any with
    | true => exact runS_iff hW hE hF r nx st2 h2 h3
    | false =>
      have none : ∀ x, ¬ nx.getD x false = true := fun x hx => by
        obtain ⟨j, hj, m1, m2, m3⟩ := h5 x hx
        have := (h4 j hj m1 m2).2
        cases this
      constructor
      · intro h; exact absurd h (none _)
      · rintro ⟨i, _, h, _⟩; exact absurd h (none i)
theorem run_iff {Q : List Pl} (hW : WF Q) (hE : End7 Q) (s : List UInt8) : (run Q s).1.getD (Q.length - 1) false = true ↔ Acc Q 0 s := by
  have h0 := hE.1
  have hu : unset (List.replicate Q.length false) ≤ (List.replicate Q.length false).length := List.countP_le_length
  rw [List.length_replicate] at hu
  have h1 := addP_cl hW (Q.length + 1) (List.replicate Q.length false) 0 (by simp) h0 (by omega)
  unfold run
  rw [runS_iff hW hE (Nat.lt_succ_self _) s _ 1 (by rw [← h1.1.1.1]; simp) ((Closed.rep _ _).cl h1.1)]
  constructor
  · rintro ⟨i, hi, k1, k2⟩
    rcases addP_sound _ _ _ _ k1 with h | h
    · rw [getD_rep] at h; cases h
    · exact k2.reach hW h0 h
  · intro h; exact ⟨0, h0, h1.2, h⟩
theorem runS_steps (Q : List Pl) (F : Nat) : ∀ (s : List UInt8) (now : List Bool) (st : Nat), st ≤ (runS Q F s now st).2
  | [], _, _ => Nat.le_refl _
  | c :: r, now, st => by
    have h := (runIter_facts Q F c now (List.replicate Q.length false, false, st) Q.length).2.1
    rw [runS]
    have h2 := runS_steps Q F r (runB Q F c now st).1 (runB Q F c now st).2.2
    unfold runB at h2 ⊢
    cases (iter (runAt Q F c now) (List.replicate Q.length false, false, st) Q.length).2.1
    · simp only [cond_false]; simpa using h
    · simp only [cond_true]
      simp only at h
      omega
theorem run_steps (Q : List Pl) (s : List UInt8) : 1 ≤ (run Q s).2 := runS_steps Q _ s _ 1
end Pat
