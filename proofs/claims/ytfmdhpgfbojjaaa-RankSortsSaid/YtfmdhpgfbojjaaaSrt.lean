/- Stable sorting by keys, in plain lists: the order, insertion, rotation, merging. -/
namespace Srt
set_option linter.unusedVariables false
set_option linter.unusedSimpArgs false
variable {k : Int → Nat}
def bef (k : Int → Nat) (x y : Int) : Prop := k x < k y ∨ (k x = k y ∧ x < y)
theorem bef_trans {x y z : Int} (h : bef k x y) (h2 : bef k y z) : bef k x z := by unfold bef at *; omega
theorem bef_irrefl {x : Int} : ¬ bef k x x := by unfold bef; omega
theorem bef_total {x y : Int} (h : x ≠ y) : bef k x y ∨ bef k y x := by unfold bef; omega
/-- Of two, the first one the less as an index. -/
theorem bef_later {x y : Int} (h : x < y) : bef k y x ↔ k y < k x := by unfold bef; omega
theorem not_bef_later {x y : Int} (h : x < y) (h2 : ¬ k y < k x) : bef k x y := by unfold bef; omega
def cmpv (k : Int → Nat) (x y : Int) : Int := if k x < k y then -1 else if k y < k x then 1 else 0
theorem cmpv_neg {x y : Int} : cmpv k x y < 0 ↔ k x < k y := by unfold cmpv; split <;> (try split) <;> omega
abbrev So (k : Int → Nat) (l : List Int) : Prop := l.Pairwise (bef k)
def cross (A T : List Int) : Prop := ∀ a ∈ A, ∀ t ∈ T, a < t

def swp (D : List Int) (i j : Nat) : List Int := (D.set i (D.getD j 0)).set j (D.getD i 0)
theorem swp_comm {D : List Int} {i j : Nat} (h : i ≠ j) : swp D i j = swp D j i := by
  unfold swp; rw [List.set_comm _ _ h]
theorem at_app (A B : List Int) (x : Int) : (A ++ x :: B).getD A.length 0 = x := by simp [List.getD_eq_getElem?_getD]
theorem swp_eq (A M C : List Int) (p q : Int) : swp (A ++ p :: (M ++ q :: C)) A.length (A.length + 1 + M.length) = A ++ q :: (M ++ p :: C) := by
  have h1 := at_app A (M ++ q :: C) p
  have h2 : (A ++ p :: (M ++ q :: C)).getD (A.length + 1 + M.length) 0 = q := by
    have := at_app (A ++ p :: M) C q
    rw [List.length_append, List.length_cons, show A.length + (M.length + 1) = A.length + 1 + M.length by omega] at this
    simpa using this
  unfold swp
  rw [h1, h2]
  have e1 : (A ++ p :: (M ++ q :: C)).set A.length q = A ++ q :: (M ++ q :: C) := by
    rw [List.set_append_right _ _ (Nat.le_refl _), Nat.sub_self]; rfl
  rw [e1, List.set_append_right _ _ (by omega), show A.length + 1 + M.length - A.length = M.length + 1 by omega, List.set_cons_succ, List.set_append_right _ _ (Nat.le_refl _), Nat.sub_self]
  rfl
theorem swp_adj (A C : List Int) (p q : Int) : swp (A ++ p :: q :: C) A.length (A.length + 1) = A ++ q :: p :: C := by
  have := swp_eq A [] C p q
  simpa using this

theorem so_insert {U1 U2 : List Int} {x : Int} (h : So k (U1 ++ U2)) (h1 : ∀ u ∈ U1, bef k u x) (h2 : ∀ u ∈ U2, bef k x u) : So k (U1 ++ x :: U2) := by
  obtain ⟨a, b, c⟩ := List.pairwise_append.1 h
  refine List.pairwise_append.2 ⟨a, List.pairwise_cons.2 ⟨h2, b⟩, fun u hu v hv => ?_⟩
  rcases List.mem_cons.1 hv with rfl | hv
  · exact h1 u hu
  · exact c u hu v hv
/-- The last one is before, so all are. -/
theorem so_last {U : List Int} {p x : Int} (h : So k (U ++ [p])) (hp : bef k p x) : ∀ u ∈ U ++ [p], bef k u x := by
  intro u hu
  rcases List.mem_append.1 hu with hu | hu
  · exact bef_trans ((List.pairwise_append.1 h).2.2 u hu p (by simp)) hp
  · simp at hu; subst hu; exact hp
theorem so_get {V : List Int} (h : So k V) {p q : Nat} (hpq : p < q) (hq : q < V.length) : bef k (V.getD p 0) (V.getD q 0) := by
  have := List.pairwise_iff_getElem.1 h p q (by omega) hq hpq
  simpa [List.getD_eq_getElem?_getD, hq, (show p < V.length by omega)] using this
theorem getD_mem {V : List Int} {p : Nat} (h : p < V.length) : V.getD p 0 ∈ V := by
  rw [List.getD_eq_getElem?_getD, List.getElem?_eq_getElem h]; exact List.getElem_mem h
theorem mem_get {V : List Int} {v : Int} (h : v ∈ V) : ∃ p, p < V.length ∧ V.getD p 0 = v := by
  obtain ⟨p, hp, e⟩ := List.mem_iff_getElem.1 h
  exact ⟨p, hp, by rw [List.getD_eq_getElem?_getD, List.getElem?_eq_getElem hp, ← e]; rfl⟩
theorem mem_take {V : List Int} {n : Nat} {v : Int} (h : v ∈ V.take n) : ∃ p, p < n ∧ p < V.length ∧ V.getD p 0 = v := by
  obtain ⟨p, hp, e⟩ := mem_get h
  rw [List.length_take] at hp
  refine ⟨p, by omega, by omega, ?_⟩
  rw [← e]
  simp [List.getD_eq_getElem?_getD, List.getElem?_take, show p < n by omega]
theorem mem_drop {V : List Int} {n : Nat} {v : Int} (h : v ∈ V.drop n) : ∃ p, n ≤ p ∧ p < V.length ∧ V.getD p 0 = v := by
  obtain ⟨p, hp, e⟩ := mem_get h
  rw [List.length_drop] at hp
  refine ⟨n + p, by omega, by omega, ?_⟩
  rw [← e]
  simp [List.getD_eq_getElem?_getD, List.getElem?_drop]
theorem get_app1 {A B : List Int} {i : Nat} (h : i < A.length) : (A ++ B).getD i 0 = A.getD i 0 := by
  simp [List.getD_eq_getElem?_getD, List.getElem?_append, h]
theorem get_app2 {A B : List Int} {i : Nat} (h : A.length ≤ i) : (A ++ B).getD i 0 = B.getD (i - A.length) 0 := by
  simp [List.getD_eq_getElem?_getD, List.getElem?_append, Nat.not_lt.2 h]
theorem get_mid {F G E : List Int} {i : Nat} (h1 : F.length ≤ i) (h2 : i < F.length + G.length) : (F ++ (G ++ E)).getD i 0 ∈ G := by
  rw [get_app2 h1, get_app1 (by omega)]
  exact getD_mem (by omega)
theorem concat_of {U : List Int} (h : 0 < U.length) : ∃ V q, U = V ++ [q] := by
  have hne : U ≠ [] := fun e => by rw [e] at h; simp at h
  exact ⟨U.dropLast, U.getLast hne, (List.dropLast_concat_getLast hne).symm⟩
theorem cons_of {U : List Int} (h : 0 < U.length) : ∃ q V, U = q :: V := by
  cases U with
  | nil => simp at h
  | cons q V => exact ⟨q, V, rfl⟩
theorem so_key {V : List Int} (h : So k V) {p q : Nat} (hpq : p ≤ q) (hq : q < V.length) : k (V.getD p 0) ≤ k (V.getD q 0) := by
  rcases Nat.lt_or_ge p q with h1 | h1
  · have := so_get h h1 hq
    unfold bef at this; omega
  · rw [show p = q by omega]; exact Nat.le_refl _
/-- Where one goes into a sorted row of later ones, or of earlier ones. -/
theorem so_left {V : List Int} {x : Int} {i : Nat} (h : So k V) (hx : ∀ v ∈ V, x < v) (hi : i ≤ V.length) (h1 : i = 0 ∨ k (V.getD (i - 1) 0) < k x) (h2 : i = V.length ∨ ¬ k (V.getD i 0) < k x) : So k (V.take i ++ x :: V.drop i) := by
  refine so_insert (by rw [List.take_append_drop]; exact h) (fun u hu => ?_) (fun u hu => ?_)
  · obtain ⟨p, p1, p2, rfl⟩ := mem_take hu
    rcases h1 with h1 | h1
    · omega
    · have := so_key h (show p ≤ i - 1 by omega) (by omega)
      exact .inl (by omega)
  · obtain ⟨p, p1, p2, rfl⟩ := mem_drop hu
    rcases h2 with h2 | h2
    · omega
    · have := so_key h p1 p2
      exact not_bef_later (hx _ (getD_mem p2)) (by omega)
theorem so_right {V : List Int} {x : Int} {i : Nat} (h : So k V) (hx : ∀ v ∈ V, v < x) (hi : i ≤ V.length) (h1 : i = 0 ∨ ¬ k x < k (V.getD (i - 1) 0)) (h2 : i = V.length ∨ k x < k (V.getD i 0)) : So k (V.take i ++ x :: V.drop i) := by
  refine so_insert (by rw [List.take_append_drop]; exact h) (fun u hu => ?_) (fun u hu => ?_)
  · obtain ⟨p, p1, p2, rfl⟩ := mem_take hu
    rcases h1 with h1 | h1
    · omega
    · have := so_key h (show p ≤ i - 1 by omega) (by omega)
      exact not_bef_later (hx _ (getD_mem p2)) (by omega)
  · obtain ⟨p, p1, p2, rfl⟩ := mem_drop hu
    rcases h2 with h2 | h2
    · omega
    · have := so_key h p1 p2
      exact .inl (by omega)
/-- Two sorted rows whose ones lie before all of the others. -/
theorem so_app {X Y : List Int} (hx : So k X) (hy : So k Y) (h : ∀ x ∈ X, ∀ y ∈ Y, bef k x y) : So k (X ++ Y) := List.pairwise_append.2 ⟨hx, hy, h⟩
theorem cross_sub {A T A' T' : List Int} (h : cross A T) (ha : ∀ x ∈ A', x ∈ A) (ht : ∀ x ∈ T', x ∈ T) : cross A' T' := fun a h1 t h2 => h a (ha a h1) t (ht t h2)

/-- What symMerge splits: where the search ends. -/
theorem split_lt {U V : List Int} (hU : So k U) (hV : So k V) (hc : cross U V) {s e : Nat} (hs : s ≤ U.length) (he : e ≤ V.length)
    (h1 : s = 0 ∨ e = V.length ∨ bef k (U.getD (s - 1) 0) (V.getD e 0)) (h2 : e = 0 ∨ s = U.length ∨ bef k (V.getD (e - 1) 0) (U.getD s 0)) :
    (∀ x ∈ U.take s ++ V.take e, ∀ y ∈ U.drop s ++ V.drop e, bef k x y) := by
  intro x hx y hy
  rcases List.mem_append.1 hx with hx | hx <;> rcases List.mem_append.1 hy with hy | hy
  · obtain ⟨p, p1, p2, rfl⟩ := mem_take hx
    obtain ⟨q, q1, q2, rfl⟩ := mem_drop hy
    exact so_get hU (by omega) q2
  · obtain ⟨p, p1, p2, rfl⟩ := mem_take hx
    obtain ⟨q, q1, q2, rfl⟩ := mem_drop hy
    have hb : bef k (U.getD (s - 1) 0) (V.getD e 0) := by rcases h1 with h | h | h; · omega
                                                          · omega
                                                          · exact h
    have e1 : U.getD p 0 = U.getD (s - 1) 0 ∨ bef k (U.getD p 0) (U.getD (s - 1) 0) := by
      rcases Nat.lt_or_ge p (s - 1) with h | h
      · exact .inr (so_get hU h (by omega))
      · exact .inl (by rw [show p = s - 1 by omega])
    have e2 : V.getD e 0 = V.getD q 0 ∨ bef k (V.getD e 0) (V.getD q 0) := by
      rcases Nat.lt_or_ge e q with h | h
      · exact .inr (so_get hV h q2)
      · exact .inl (by rw [show e = q by omega])
    rcases e1 with e1 | e1 <;> rcases e2 with e2 | e2
    · rw [e1, ← e2]; exact hb
    · rw [e1]; exact bef_trans hb e2
    · rw [← e2]; exact bef_trans e1 hb
    · exact bef_trans e1 (bef_trans hb e2)
  · obtain ⟨p, p1, p2, rfl⟩ := mem_take hx
    obtain ⟨q, q1, q2, rfl⟩ := mem_drop hy
    have hb : bef k (V.getD (e - 1) 0) (U.getD s 0) := by rcases h2 with h | h | h; · omega
                                                          · omega
                                                          · exact h
    have e1 : V.getD p 0 = V.getD (e - 1) 0 ∨ bef k (V.getD p 0) (V.getD (e - 1) 0) := by
      rcases Nat.lt_or_ge p (e - 1) with h | h
      · exact .inr (so_get hV h (by omega))
      · exact .inl (by rw [show p = e - 1 by omega])
    have e2 : U.getD s 0 = U.getD q 0 ∨ bef k (U.getD s 0) (U.getD q 0) := by
      rcases Nat.lt_or_ge s q with h | h
      · exact .inr (so_get hU h q2)
      · exact .inl (by rw [show s = q by omega])
    rcases e1 with e1 | e1 <;> rcases e2 with e2 | e2
    · rw [e1, ← e2]; exact hb
    · rw [e1]; exact bef_trans hb e2
    · rw [← e2]; exact bef_trans e1 hb
    · exact bef_trans e1 (bef_trans hb e2)
  · obtain ⟨p, p1, p2, rfl⟩ := mem_take hx
    obtain ⟨q, q1, q2, rfl⟩ := mem_drop hy
    exact so_get hV (by omega) q2

/-- Two sorted rows of the same ones are the same. -/
theorem so_unique : ∀ {X Y : List Int}, So k X → So k Y → X.Perm Y → X = Y
  | [], Y, _, _, h => (List.nil_perm.1 h).symm
  | x :: X, [], _, _, h => by have := h.length_eq; simp at this
  | x :: X, y :: Y, hx, hy, h => by
    obtain ⟨hx1, hx2⟩ := List.pairwise_cons.1 hx
    obtain ⟨hy1, hy2⟩ := List.pairwise_cons.1 hy
    have e : x = y := by
      apply Classical.byContradiction
      intro hne
      have m1 : x ∈ Y := by
        rcases List.mem_cons.1 (h.mem_iff.1 (List.mem_cons_self : x ∈ x :: X)) with h | h
        · exact absurd h hne
        · exact h
      have m2 : y ∈ X := by
        rcases List.mem_cons.1 (h.mem_iff.2 (List.mem_cons_self : y ∈ y :: Y)) with h | h
        · exact absurd h.symm hne
        · exact h
      exact bef_irrefl (bef_trans (hx1 y m2) (hy1 x m1))
    subst e
    rw [so_unique hx2 hy2 (List.Perm.cons_inv h)]

/- Runs of one length. -/
inductive Full (k : Int → Nat) (s : Nat) : List Int → Prop
  | nil : Full k s []
  | cons {U T : List Int} : U.length = s → So k U → cross U T → Full k s T → Full k s (U ++ T)
theorem Full.append {s : Nat} {A B : List Int} (ha : Full k s A) (hb : Full k s B) (hc : cross A B) : Full k s (A ++ B) := by
  induction ha with
  | nil => simpa using hb
  | cons h1 h2 h3 h4 ih =>
    rename_i U T
    rw [List.append_assoc]
    refine .cons h1 h2 (fun a ha t ht => ?_) (ih (cross_sub hc (fun x hx => List.mem_append_right _ hx) (fun x hx => hx)))
    rcases List.mem_append.1 ht with ht | ht
    · exact h3 a ha t ht
    · exact hc a (List.mem_append_left _ ha) t ht
theorem Full.one {s : Nat} {U : List Int} (h : U.length = s) (hs : So k U) : Full k s U := by
  have := Full.cons (T := []) h hs (fun _ _ _ h => by cases h) .nil
  simpa using this
/-- Full runs, and what is left. -/
def Runs (k : Int → Nat) (s : Nat) (D : List Int) : Prop := ∃ A U, D = A ++ U ∧ Full k s A ∧ U.length < s ∧ So k U ∧ cross A U
theorem Runs.sorted {s : Nat} {D : List Int} (h : Runs k s D) (hl : D.length ≤ s) (h0 : 0 < s) : So k D := by
  obtain ⟨A, U, rfl, hA, hU, hs, hc⟩ := h
  cases hA with
  | nil => simpa using hs
  | cons h1 h2 h3 h4 =>
    rename_i V T
    simp only [List.length_append] at hl
    have hU0 : U = [] := List.eq_nil_of_length_eq_zero (by omega)
    have hT0 : T = [] := List.eq_nil_of_length_eq_zero (by omega)
    subst hU0; subst hT0
    simpa using h2
/-- The next two runs. -/
theorem Full.two {s : Nat} {A : List Int} (h : Full k s A) (hl : s < A.length) : ∃ U V T, A = U ++ (V ++ T) ∧ U.length = s ∧ V.length = s ∧ So k U ∧ So k V ∧ cross U V ∧ cross U T ∧ cross V T ∧ Full k s T := by
  cases h with
  | nil => simp at hl
  | cons h1 h2 h3 h4 =>
    rename_i U T
    cases h4 with
    | nil => simp at hl; omega
    | cons g1 g2 g3 g4 =>
      rename_i V T
      exact ⟨U, V, T, rfl, h1, g1, h2, g2, cross_sub h3 (fun _ h => h) (fun _ h => List.mem_append_left _ h), cross_sub h3 (fun _ h => h) (fun _ h => List.mem_append_right _ h), g3, g4⟩
theorem Full.few {s : Nat} {A : List Int} (h : Full k s A) (hl : A.length < 2 * s) : A = [] ∨ (A.length = s ∧ So k A) := by
  cases h with
  | nil => exact .inl rfl
  | cons h1 h2 h3 h4 =>
    rename_i U T
    cases h4 with
    | nil => exact .inr ⟨by simpa using h1, by simpa using h2⟩
    | cons g1 g2 g3 g4 => simp only [List.length_append] at hl; omega
theorem cross_perm {A T M : List Int} (h : cross A T) (hp : M.Perm A) : cross M T := fun a ha => h a (hp.mem_iff.1 ha)
theorem cross_permr {A T M : List Int} (h : cross A T) (hp : M.Perm T) : cross A M := fun a ha t ht => h a ha t (hp.mem_iff.1 ht)
theorem cross_app {A B T : List Int} (h : cross A T) (h2 : cross B T) : cross (A ++ B) T := fun a ha t ht => by
  rcases List.mem_append.1 ha with ha | ha
  · exact h a ha t ht
  · exact h2 a ha t ht
theorem cross_appr {A B T : List Int} (h : cross A B) (h2 : cross A T) : cross A (B ++ T) := fun a ha t ht => by
  rcases List.mem_append.1 ht with ht | ht
  · exact h a ha t ht
  · exact h2 a ha t ht
/-- The numbers from 0 on. -/
def upto : Nat → List Int
  | 0 => []
  | n + 1 => upto n ++ [(n : Int)]
theorem upto_len : ∀ n, (upto n).length = n
  | 0 => rfl
  | n + 1 => by rw [upto, List.length_append, upto_len n]; rfl
theorem upto_mem : ∀ {n : Nat} {x : Int}, x ∈ upto n ↔ 0 ≤ x ∧ x < n
  | 0, x => by simp [upto] <;> omega
  | n + 1, x => by
    rw [upto, List.mem_append, upto_mem]
    simp
    omega
theorem upto_lt : ∀ n, (upto n).Pairwise (· < ·)
  | 0 => .nil
  | n + 1 => by
    rw [upto]
    refine List.pairwise_append.2 ⟨upto_lt n, by simp, fun a ha b hb => ?_⟩
    simp at hb
    have := upto_mem.1 ha
    omega
/-- What an order of n numbers by their keys is. -/
def Ord (k : Int → Nat) (n : Nat) (D : List Int) : Prop := So k D ∧ D.Perm (upto n)
theorem Ord.unique {n : Nat} {D D' : List Int} (h : Ord k n D) (h' : Ord k n D') : D = D' := so_unique h.1 h'.1 (h.2.trans h'.2.symm)
theorem Ord.len {n : Nat} {D : List Int} (h : Ord k n D) : D.length = n := by rw [h.2.length_eq, upto_len]
instance (k : Int → Nat) (x y : Int) : Decidable (bef k x y) := by unfold bef; infer_instance

/- The least one that is left, again and again. -/
structure Sel (k : Int → Nat) (n : Nat) (us : List Bool) (Os T : List Int) : Prop where
  len : us.length = n
  perm : (Os ++ T).Perm (upto n)
  so : So k Os
  before : ∀ o ∈ Os, ∀ t ∈ T, bef k o t
  used : ∀ o ∈ Os, us.getD o.toNat false = true
  free : ∀ t ∈ T, us.getD t.toNat false = false
def Best (k : Int → Nat) (T : List Int) (i : Nat) (b : Int) : Prop := (b = -1 ∧ ∀ t ∈ T, (i : Int) ≤ t) ∨ (b ∈ T ∧ b < i ∧ ∀ t ∈ T, t < i → t = b ∨ bef k b t)
theorem Sel.start (k : Int → Nat) (n : Nat) : Sel k n (List.replicate n false) [] (upto n) :=
  ⟨by simp, .refl _, .nil, (fun _ h => by cases h), (fun _ h => by cases h), fun t ht => by
    have := upto_mem.1 ht
    simp [List.getD_eq_getElem?_getD, List.getElem?_replicate, show t.toNat < n by omega]⟩
theorem Sel.mem {n : Nat} {us : List Bool} {Os T : List Int} (h : Sel k n us Os T) {t : Int} (ht : t ∈ T) : 0 ≤ t ∧ t < n := upto_mem.1 (h.perm.mem_iff.1 (List.mem_append_right _ ht))
theorem Sel.lens {n : Nat} {us : List Bool} {Os T : List Int} (h : Sel k n us Os T) : Os.length + T.length = n := by
  have := h.perm.length_eq
  rw [List.length_append, upto_len] at this
  exact this
theorem Best.lt {T : List Int} {i : Nat} {b : Int} (h : Best k T i b) : b < i := by
  rcases h with ⟨h, _⟩ | ⟨_, h, _⟩ <;> omega
theorem Best.is {T : List Int} {i : Nat} {b : Int} (h : Best k T i b) (h0 : ¬ b < 0) : b ∈ T := by
  rcases h with ⟨h, _⟩ | ⟨h, _⟩
  · omega
  · exact h
theorem Best.take {n : Nat} {us : List Bool} {Os T : List Int} (h : Sel k n us Os T) {i : Nat} {b : Int} (hb : Best k T i b) (hi : i < n) (hu : us.getD i false = false) (hc : b < 0 ∨ k i < k b) : Best k T (i + 1) i := by
  have hiT : (i : Int) ∈ T := by
    rcases List.mem_append.1 (h.perm.mem_iff.2 (upto_mem.2 ⟨by omega, by omega⟩ : (i : Int) ∈ upto n)) with h1 | h1
    · have := h.used _ h1
      rw [Int.toNat_natCast, hu] at this; cases this
    · exact h1
  refine .inr ⟨hiT, by omega, fun t ht hti => ?_⟩
  rcases Int.lt_or_le t i with h1 | h1
  · right
    rcases hb with ⟨_, h2⟩ | ⟨h2, h3, h4⟩
    · have := h2 t ht; omega
    · have hk : k i < k b := by
        rcases hc with hc | hc
        · have := h.mem h2; omega
        · exact hc
      rcases h4 t ht h1 with rfl | h5
      · exact .inl hk
      · exact bef_trans (.inl hk) h5
  · left; omega
theorem Best.keep {n : Nat} {us : List Bool} {Os T : List Int} (h : Sel k n us Os T) {i : Nat} {b : Int} (hb : Best k T i b) (hc : us.getD i false = true ∨ (¬ b < 0 ∧ ¬ k i < k b)) : Best k T (i + 1) b := by
  rcases hb with ⟨h1, h2⟩ | ⟨h2, h3, h4⟩
  · refine .inl ⟨h1, fun t ht => ?_⟩
    have h5 := h2 t ht
    rcases Int.lt_or_le i t with h6 | h6
    · omega
    · have e : t = i := by omega
      rcases hc with hc | hc
      · have := h.free t ht
        rw [e, Int.toNat_natCast, hc] at this; cases this
      · omega
  · refine .inr ⟨h2, by omega, fun t ht hti => ?_⟩
    rcases Int.lt_or_le t i with h6 | h6
    · exact h4 t ht h6
    · have e : t = i := by omega
      rcases hc with hc | hc
      · have := h.free t ht
        rw [e, Int.toNat_natCast, hc] at this; cases this
      · right
        subst e
        unfold bef; omega
theorem Sel.step {n : Nat} {us : List Bool} {Os T : List Int} (h : Sel k n us Os T) {b : Int} (hb : Best k T n b) (hT : 0 < T.length) : 0 ≤ b ∧ b < n ∧ Sel k n (us.set b.toNat true) (Os ++ [b]) (T.erase b) := by
  obtain ⟨t0, ht0⟩ : ∃ t, t ∈ T := by cases T with | nil => simp at hT | cons t T => exact ⟨t, List.mem_cons_self⟩
  have h0 := h.mem ht0
  obtain ⟨h2, h3, h4⟩ : b ∈ T ∧ b < n ∧ ∀ t ∈ T, t < n → t = b ∨ bef k b t := by
    rcases hb with ⟨_, h2⟩ | h2
    · have := h2 t0 ht0; omega
    · exact h2
  have hb0 := h.mem h2
  have hp : T.Perm (b :: T.erase b) := List.perm_cons_erase h2
  have hPn : (Os ++ (b :: T.erase b)).Perm (upto n) := (List.Perm.append_left Os hp.symm).trans h.perm
  have hnd : (Os ++ (b :: T.erase b)).Nodup := hPn.nodup_iff.2 ((upto_lt n).imp fun h => by omega)
  have hd2 := (List.nodup_append.1 hnd).2.1
  have hnb : b ∉ T.erase b := (List.nodup_cons.1 hd2).1
  have hnO : b ∉ Os := fun ho => (List.nodup_append.1 hnd).2.2 b ho b List.mem_cons_self rfl
  have sub : ∀ t, t ∈ T.erase b → t ∈ T := fun t ht => List.mem_of_mem_erase ht
  refine ⟨hb0.1, h3, by simpa using h.len, by simpa using hPn, ?_, ?_, ?_, ?_⟩
  · refine List.pairwise_append.2 ⟨h.so, by simp, fun o ho x hx => ?_⟩
    simp at hx; subst hx
    exact h.before o ho _ h2
  · intro o ho t ht
    rcases List.mem_append.1 ho with ho | ho
    · exact h.before o ho t (sub t ht)
    · simp at ho; subst ho
      have hm := h.mem (sub t ht)
      rcases h4 t (sub t ht) (by omega) with e | e
      · subst e; exact absurd ht hnb
      · exact e
  · intro o ho
    rcases List.mem_append.1 ho with ho | ho
    · have := h.used o ho
      have hne : ¬ b.toNat = o.toNat := fun e => by
        have hm : 0 ≤ o := (upto_mem.1 (h.perm.mem_iff.1 (List.mem_append_left _ ho))).1
        have : b = o := by omega
        subst this; exact hnO ho
      simpa [List.getD_eq_getElem?_getD, List.getElem?_set, hne] using this
    · simp at ho; subst ho
      have hl : o.toNat < us.length := by rw [h.len]; omega
      simp [List.getD_eq_getElem?_getD, List.getElem?_set, hl]
  · intro t ht
    have := h.free t (sub t ht)
    have hne : ¬ b.toNat = t.toNat := fun e => by
      have hm := h.mem (sub t ht)
      have : b = t := by omega
      subst this; exact hnb ht
    simpa [List.getD_eq_getElem?_getD, List.getElem?_set, hne] using this
theorem Sel.done {n : Nat} {us : List Bool} {Os T : List Int} (h : Sel k n us Os T) (hl : n ≤ Os.length) : Ord k n Os := by
  have := h.lens
  have hT : T = [] := List.eq_nil_of_length_eq_zero (by omega)
  subst hT
  exact ⟨h.so, by simpa using h.perm⟩
end Srt
