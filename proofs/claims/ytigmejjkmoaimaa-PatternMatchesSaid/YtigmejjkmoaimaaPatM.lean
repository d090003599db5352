/- Chapter 17: how places lie in memory. -/
import Derived.Test.YtigmejjkmoaimaaGkG
namespace Pat
set_option linter.unusedVariables false
set_option linter.unusedSimpArgs false
open Go Gk

/-- Rows of cells that are some a thing. -/
theorem flat_get {α : Type} (enc : α → List Value) (s : Nat) (hs : ∀ x, (enc x).length = s) : ∀ (l : List α) (r : List Value) (i j : Nat) (x : α), l[i]? = some x → j < s → (l.flatMap enc ++ r)[i * s + j]? = (enc x)[j]?
  | [], _, _, _, _, h, _ => by simp at h
  | y :: l, r, 0, j, x, h, hj => by
    simp at h
    subst h
    simp only [List.flatMap_cons, Nat.zero_mul, Nat.zero_add, List.append_assoc]
    rw [List.getElem?_append_left (by rw [hs]; exact hj)]
  | y :: l, r, i + 1, j, x, h, hj => by
    simp only [List.flatMap_cons, List.append_assoc]
    rw [List.getElem?_append_right (by rw [hs, Nat.succ_mul]; omega), hs]
    have e : (i + 1) * s + j - s = i * s + j := by rw [Nat.succ_mul]; omega
    rw [e]
    exact flat_get enc s hs l r i j x (by simpa using h) hj
theorem flat_set {α : Type} (enc : α → List Value) (s : Nat) (hs : ∀ x, (enc x).length = s) (f : α → α) (j : Nat) (v : Value) (hf : ∀ x, enc (f x) = (enc x).set j v) (hj : j < s) : ∀ (l : List α) (r : List Value) (i : Nat), i < l.length → (l.flatMap enc ++ r).set (i * s + j) v = (l.modify i f).flatMap enc ++ r
  | [], _, _, h => by simp at h
  | y :: l, r, 0, _ => by
    simp only [List.flatMap_cons, Nat.zero_mul, Nat.zero_add, List.append_assoc]
    rw [List.set_append_left _ _ (by rw [hs]; exact hj)]
    simp [hf]
  | y :: l, r, i + 1, h => by
    simp only [List.flatMap_cons, List.append_assoc]
    rw [List.set_append_right _ _ (by rw [hs, Nat.succ_mul]; omega), hs]
    have e : (i + 1) * s + j - s = i * s + j := by rw [Nat.succ_mul]; omega
    rw [e, flat_set enc s hs f j v hf hj l r i (by simpa using h)]
    simp
theorem flat_len {α : Type} (enc : α → List Value) (s : Nat) (hs : ∀ x, (enc x).length = s) : ∀ (l : List α), (l.flatMap enc).length = l.length * s
  | [] => by simp
  | y :: l => by simp only [List.flatMap_cons, List.length_append, hs, flat_len enc s hs l, List.length_cons, Nat.succ_mul]; omega

/-- A place as it lies, and as it is meant. -/
abbrev Cell3 := Int × Int × Value
abbrev Pl := Int × Int × List Int
def enc (x : Cell3) : List Value := [.int .u8 x.1, .int .u8 x.2.1, x.2.2]
theorem enc_len (x : Cell3) : (enc x).length = 3 := rfl
def setTo (P : List Cell3) (i : Nat) (v : Value) : List Cell3 := P.modify i fun x => (x.1, x.2.1, v)
def setToL (Q : List Pl) (i : Nat) (xs : List Int) : List Pl := Q.modify i fun x => (x.1, x.2.1, xs)
theorem setTo_len (P : List Cell3) (i : Nat) (v : Value) : (setTo P i v).length = P.length := by simp [setTo]
theorem to_get {P : List Cell3} {i : Nat} {x : Cell3} (h : P[i]? = some x) (r : List Value) : (P.flatMap enc ++ r)[0 + i * 3 + 2]? = some x.2.2 := by
  rw [Nat.zero_add, flat_get enc 3 enc_len P r i 2 x h (by omega)]; rfl
theorem to_set {P : List Cell3} {i : Nat} (h : i < P.length) (r : List Value) (v : Value) : (P.flatMap enc ++ r).set (0 + i * 3 + 2) v = (setTo P i v).flatMap enc ++ r := by
  rw [Nat.zero_add]; exact flat_set enc 3 enc_len (fun x => (x.1, x.2.1, v)) 2 v (fun _ => rfl) (by omega) P r i h

/-- A list of numbers that is never written any more. -/
def IntsI (I : Im) (v : Value) (xs : List Int) : Prop := (xs = [] → v = .slice none 0 0) ∧ ∃ a c, v = .slice a xs.length c ∧ xs.length ≤ c ∧ RS I a 1 xs.length (xs.map I64)
theorem IntsI.mono {I J : Im} {v : Value} {xs : List Int} (h : IntsI I v xs) (hl : Le I J) : IntsI J v xs := let ⟨h0, a, c, e, hc, hr⟩ := h; ⟨h0, a, c, e, hc, hr.mono hl⟩
theorem IntsI.nil (I : Im) : IntsI I (.slice none 0 0) [] := ⟨fun _ => rfl, none, 0, rfl, Nat.le_refl _, RS.nil I 1⟩
def RelP (I : Im) (P : List Cell3) (Q : List Pl) : Prop := P.length = Q.length ∧ ∀ (i : Nat) (p : Cell3) (q : Pl), P[i]? = some p → Q[i]? = some q → p.1 = q.1 ∧ p.2.1 = q.2.1 ∧ IntsI I p.2.2 q.2.2
theorem RelP.mono {I J : Im} {P : List Cell3} {Q : List Pl} (h : RelP I P Q) (hl : Le I J) : RelP J P Q := ⟨h.1, fun i p q hp hq => let ⟨a, b, c⟩ := h.2 i p q hp hq; ⟨a, b, c.mono hl⟩⟩
theorem RelP.nil (I : Im) : RelP I [] [] := ⟨rfl, fun _ _ _ h => by simp at h⟩
theorem RelP.snoc {I : Im} {P : List Cell3} {Q : List Pl} (h : RelP I P Q) (k c : Int) (v : Value) (xs : List Int) (hv : IntsI I v xs) : RelP I (P ++ [(k, c, v)]) (Q ++ [(k, c, xs)]) := by
  refine ⟨by simp [h.1], fun i p q hp hq => ?_⟩
  rcases Nat.lt_trichotomy i P.length with hi | hi | hi
  · rw [List.getElem?_append_left hi] at hp
    rw [List.getElem?_append_left (by rw [← h.1]; exact hi)] at hq
    exact h.2 i p q hp hq
  · subst hi
    rw [List.getElem?_append_right (Nat.le_refl _)] at hp
    rw [h.1, List.getElem?_append_right (Nat.le_refl _)] at hq
    simp at hp hq
    subst hp; subst hq
    exact ⟨rfl, rfl, hv⟩
  · rw [List.getElem?_eq_none (by simp; omega)] at hp
    cases hp
theorem RelP.set {I : Im} {P : List Cell3} {Q : List Pl} (h : RelP I P Q) (i : Nat) (v : Value) (xs : List Int) (hv : IntsI I v xs) : RelP I (setTo P i v) (setToL Q i xs) := by
  refine ⟨by simp [setTo, setToL, h.1], fun j p q hp hq => ?_⟩
  unfold setTo at hp
  unfold setToL at hq
  rw [List.getElem?_modify] at hp hq
  by_cases e : i = j
  · subst e
    simp only [if_true] at hp hq
    obtain ⟨p0, hp0, rfl⟩ := Option.map_eq_some_iff.1 hp
    obtain ⟨q0, hq0, rfl⟩ := Option.map_eq_some_iff.1 hq
    obtain ⟨a, b, _⟩ := h.2 i p0 q0 hp0 hq0
    exact ⟨a, b, hv⟩
  · simp only [e, if_false] at hp hq
    exact h.2 j p q (by simpa using hp) (by simpa using hq)
/-- But for one place. -/
def RelX (I : Im) (o : Nat) (P : List Cell3) (Q : List Pl) : Prop := P.length = Q.length ∧ ∀ (i : Nat) (p : Cell3) (q : Pl), P[i]? = some p → Q[i]? = some q → p.1 = q.1 ∧ p.2.1 = q.2.1 ∧ (i ≠ o → IntsI I p.2.2 q.2.2)
theorem RelX.mono {I J : Im} {o : Nat} {P : List Cell3} {Q : List Pl} (h : RelX I o P Q) (hl : Le I J) : RelX J o P Q := ⟨h.1, fun i p q hp hq => let ⟨a, b, c⟩ := h.2 i p q hp hq; ⟨a, b, fun hi => (c hi).mono hl⟩⟩
theorem RelP.x {I : Im} {P : List Cell3} {Q : List Pl} (h : RelP I P Q) (o : Nat) : RelX I o P Q := ⟨h.1, fun i p q hp hq => let ⟨a, b, c⟩ := h.2 i p q hp hq; ⟨a, b, fun _ => c⟩⟩
theorem RelX.setO {I : Im} {o : Nat} {P : List Cell3} {Q : List Pl} (h : RelX I o P Q) (v : Value) (xs : List Int) : RelX I o (setTo P o v) (setToL Q o xs) := by
  refine ⟨by simp [setTo, setToL, h.1], fun j p q hp hq => ?_⟩
  unfold setTo at hp
  unfold setToL at hq
  rw [List.getElem?_modify] at hp hq
  by_cases e : o = j
  · subst e
    simp only [if_true] at hp hq
    obtain ⟨p0, hp0, rfl⟩ := Option.map_eq_some_iff.1 hp
    obtain ⟨q0, hq0, rfl⟩ := Option.map_eq_some_iff.1 hq
    obtain ⟨a, b, _⟩ := h.2 o p0 q0 hp0 hq0
    exact ⟨a, b, fun hi => absurd rfl hi⟩
  · simp only [e, if_false] at hp hq
    exact h.2 j p q (by simpa using hp) (by simpa using hq)
theorem RelX.setB {I : Im} {o : Nat} {P : List Cell3} {Q : List Pl} (h : RelX I o P Q) (b : Nat) (v : Value) (xs : List Int) (hv : IntsI I v xs) : RelX I o (setTo P b v) (setToL Q b xs) := by
  refine ⟨by simp [setTo, setToL, h.1], fun j p q hp hq => ?_⟩
  unfold setTo at hp
  unfold setToL at hq
  rw [List.getElem?_modify] at hp hq
  by_cases e : b = j
  · subst e
    simp only [if_true] at hp hq
    obtain ⟨p0, hp0, rfl⟩ := Option.map_eq_some_iff.1 hp
    obtain ⟨q0, hq0, rfl⟩ := Option.map_eq_some_iff.1 hq
    obtain ⟨a, b, _⟩ := h.2 b p0 q0 hp0 hq0
    exact ⟨a, b, fun _ => hv⟩
  · simp only [e, if_false] at hp hq
    exact h.2 j p q (by simpa using hp) (by simpa using hq)
/-- Back, where the one place holds what it should. -/
theorem RelX.back {I : Im} {o : Nat} {P : List Cell3} {Q : List Pl} (h : RelX I o P Q) (hv : ∀ p q, P[o]? = some p → Q[o]? = some q → IntsI I p.2.2 q.2.2) : RelP I P Q :=
  ⟨h.1, fun i p q hp hq => by
    obtain ⟨a, b, c⟩ := h.2 i p q hp hq
    refine ⟨a, b, ?_⟩
    by_cases e : i = o
    · subst e; exact hv p q hp hq
    · exact c e⟩

/-- What closing a bracket does to its marks. -/
def closeGo (n : Nat) (o : Nat) : List Pl → List Int → List Nat → List Pl
  | Q, _, [] => Q
  | Q, done, b :: r => closeGo n o (setToL (setToL Q o (done ++ [(b : Int) + 1])) b [(n : Int)]) (done ++ [(b : Int) + 1]) r
theorem closeGo_len (n o : Nat) : ∀ (r : List Nat) (Q : List Pl) (done : List Int), (closeGo n o Q done r).length = Q.length
  | [], _, _ => rfl
  | b :: r, Q, done => by rw [closeGo, closeGo_len n o r]; simp [setToL]

/-- A slice of the call's own that holds numbers is never written any more. -/
theorem freezeInts {B w : World} {I : Im} {As : List Assn} {k E : Nat} {v : Value} {xs : List Int} (hS : Sat B w I As) (hk : As[k]? = some (Vec E 1 v xs.length (xs.map I64))) (hn : xs = [] → v = .slice none 0 0) : ∃ J, Le I J ∧ IntsI J v xs ∧ Sat B w J (As.eraseIdx k) := by
  rcases Nat.eq_zero_or_pos xs.length with h0 | h0
  · have hx : xs = [] := List.eq_nil_of_length_eq_zero h0
    subst hx
    obtain ⟨a, c, rfl, hc, _⟩ := hS.vecSlice hk
    exact ⟨I, Le.refl I, ⟨hn, a, c, rfl, hc, by simp, fun h => absurd h (by simp)⟩, hS.drop hk⟩
  · obtain ⟨b, cap, r, rfl, h1, h2, _, _, hSo⟩ := hS.vecOpen hk h0
    have hlk : k < As.length := (List.getElem?_eq_some_iff.1 hk).1
    obtain ⟨J, hJ, hb, hS'⟩ := hSo.freeze (k := k) (b := b) (o := cellsO (xs.map I64 ++ r) E) (by simp [hlk, blk])
    refine ⟨J, hJ, ⟨hn, _, _, rfl, h1, by simp, fun _ => ⟨_, rfl, rfl, _, _, _, hb, ?_⟩⟩, by simpa [List.eraseIdx_set_eq] using hS'⟩
    intro j u hj
    have hjl : j < (xs.map I64).length := (List.getElem?_eq_some_iff.1 hj).1
    simp only [Nat.zero_add, List.getElem?_toArray]
    rw [List.getElem?_append_left hjl]
    exact hj

/-- Compiling: from a place of the text on, with the places so far, and the brackets that are open, the innermost first. -/
abbrev PFr := Nat × List Nat
def cmpGo : List UInt8 → Int → List Pl → List PFr → List Int → Except (Int × Int) (List Pl)
  | [], _, Q, _, ats => if 0 < ats.length then .error (23, ats.getD (ats.length - 1) 0) else .ok (Q ++ [(7, 0, [])])
  | c :: r, i, Q, stk, ats =>
    if c.toNat = 63 then cmpGo r (i + 1) (Q ++ [(1, 0, [])]) stk ats
    else if c.toNat = 42 then (match r with
      | d :: r' => if d.toNat = 42 then cmpGo r' (i + 2) (Q ++ [(2, 0, [])]) stk ats else cmpGo (d :: r') (i + 1) (Q ++ [(3, 0, [])]) stk ats
      | [] => cmpGo [] (i + 1) (Q ++ [(3, 0, [])]) stk ats)
    else if c.toNat = 40 then (if stk.length = 4 then .error (24, i) else cmpGo r (i + 1) (Q ++ [(4, 0, [])]) ((Q.length, []) :: stk) (ats ++ [i]))
    else if c.toNat = 124 then (match stk with
      | [] => .error (10, i)
      | (o, bs) :: rest => cmpGo r (i + 1) (Q ++ [(5, 0, [])]) ((o, bs ++ [Q.length]) :: rest) ats)
    else if c.toNat = 41 then (match stk with
      | [] => .error (10, i)
      | (o, bs) :: rest => cmpGo r (i + 1) (closeGo Q.length o Q [] bs ++ [(6, 0, [])]) rest (ats.take rest.length))
    else if c.toNat = 92 then (match r with | [] => .error (10, i) | d :: r' => cmpGo r' (i + 2) (Q ++ [(0, (d.toNat : Int), [])]) stk ats)
    else cmpGo r (i + 1) (Q ++ [(0, (c.toNat : Int), [])]) stk ats
theorem cmpGo_nil (i : Int) (Q : List Pl) (stk : List PFr) (ats : List Int) : cmpGo [] i Q stk ats = if 0 < ats.length then .error (23, ats.getD (ats.length - 1) 0) else .ok (Q ++ [(7, 0, [])]) := by rw [cmpGo.eq_def]
theorem cmpGo_cons (c : UInt8) (r : List UInt8) (i : Int) (Q : List Pl) (stk : List PFr) (ats : List Int) : cmpGo (c :: r) i Q stk ats =
    if c.toNat = 63 then cmpGo r (i + 1) (Q ++ [(1, 0, [])]) stk ats
    else if c.toNat = 42 then (match r with
      | d :: r' => if d.toNat = 42 then cmpGo r' (i + 2) (Q ++ [(2, 0, [])]) stk ats else cmpGo (d :: r') (i + 1) (Q ++ [(3, 0, [])]) stk ats
      | [] => cmpGo [] (i + 1) (Q ++ [(3, 0, [])]) stk ats)
    else if c.toNat = 40 then (if stk.length = 4 then .error (24, i) else cmpGo r (i + 1) (Q ++ [(4, 0, [])]) ((Q.length, []) :: stk) (ats ++ [i]))
    else if c.toNat = 124 then (match stk with
      | [] => .error (10, i)
      | (o, bs) :: rest => cmpGo r (i + 1) (Q ++ [(5, 0, [])]) ((o, bs ++ [Q.length]) :: rest) ats)
    else if c.toNat = 41 then (match stk with
      | [] => .error (10, i)
      | (o, bs) :: rest => cmpGo r (i + 1) (closeGo Q.length o Q [] bs ++ [(6, 0, [])]) rest (ats.take rest.length))
    else if c.toNat = 92 then (match r with | [] => .error (10, i) | d :: r' => cmpGo r' (i + 2) (Q ++ [(0, (d.toNat : Int), [])]) stk ats)
    else cmpGo r (i + 1) (Q ++ [(0, (c.toNat : Int), [])]) stk ats := by rw [cmpGo.eq_def]
def cmp (l : List UInt8) : Except (Int × Int) (List Pl) := if 200 < l.length then .error (2, 0) else cmpGo l 0 [] [] []

/-- The brackets that are open. -/
def Frames (Q : List Pl) : Nat → List PFr → Prop
  | _, [] => True
  | lim, (o, bs) :: r => o < lim ∧ Q[o]? = some (4, 0, []) ∧ bs.length ≤ Q.length ∧ (∀ b ∈ bs, o < b ∧ b < Q.length) ∧ Frames Q o r
theorem Frames.grow {Q Q' : List Pl} : ∀ {stk : List PFr} {lim lim' : Nat}, Frames Q lim stk → lim ≤ lim' → Q.length ≤ Q'.length → (∀ i, i < lim → Q[i]? = some (4, 0, []) → Q'[i]? = some (4, 0, [])) → Frames Q' lim' stk
  | [], _, _, _, _, _, _ => trivial
  | (o, bs) :: r, lim, lim', ⟨h1, h2, h3, h4, h5⟩, hl, hq, hk =>
    ⟨by omega, hk o h1 h2, by omega, fun b hb => ⟨(h4 b hb).1, by have := (h4 b hb).2; omega⟩, h5.grow (Nat.le_refl _) hq fun i hi => hk i (by omega)⟩
theorem Frames.app {Q : List Pl} {stk : List PFr} (h : Frames Q Q.length stk) (x : Pl) : Frames (Q ++ [x]) (Q ++ [x]).length stk :=
  h.grow (by simp) (by simp) fun i hi hq => by rw [List.getElem?_append_left hi]; exact hq
theorem closeGo_get (n o : Nat) : ∀ (bs : List Nat) (Q : List Pl) (done : List Int) (i : Nat), i ≠ o → (∀ b ∈ bs, b ≠ i) → (closeGo n o Q done bs)[i]? = Q[i]?
  | [], _, _, _, _, _ => rfl
  | b :: r, Q, done, i, h, hb => by
    rw [closeGo, closeGo_get n o r _ _ i h fun x hx => hb x (List.mem_cons_of_mem _ hx)]
    have hbi : b ≠ i := hb b (by simp)
    simp [setToL, List.getElem?_modify, hbi, Ne.symm h]
theorem Frames.close {Q : List Pl} {o : Nat} {bs : List Nat} {rest : List PFr} (h : Frames Q Q.length ((o, bs) :: rest)) (x : Pl) : Frames (closeGo Q.length o Q [] bs ++ [x]) (closeGo Q.length o Q [] bs ++ [x]).length rest := by
  obtain ⟨h1, h2, h3, h4, h5⟩ := h
  refine h5.grow (by simp [closeGo_len]; omega) (by simp [closeGo_len]) fun i hi hq => ?_
  rw [List.getElem?_append_left (by rw [closeGo_len]; omega), closeGo_get _ _ _ _ _ _ (by omega) fun b hb => by have := (h4 b hb).1; omega]
  exact hq
/-- What stands on the stack, by the brackets that are open. -/
def mks (f : PFr) : List Int := (f.1 :: f.2).map fun (x : Nat) => (x : Int)
theorem stk_snoc {st : List (Value × List Int)} {f : PFr} {rest : List PFr} (h : st.map (·.2) = (f :: rest).reverse.map mks) : ∃ st0 mv, st = st0 ++ [(mv, mks f)] ∧ st0.map (·.2) = rest.reverse.map mks := by
  have hne : st ≠ [] := fun e => by subst e; simp at h
  have hs := List.dropLast_concat_getLast hne
  rw [← hs, List.reverse_cons, List.map_append, List.map_append] at h
  simp only [List.map_cons, List.map_nil] at h
  have h2 := List.append_inj' h rfl
  refine ⟨st.dropLast, (st.getLast hne).1, ?_, h2.1⟩
  have h3 : (st.getLast hne).2 = mks f := by simpa using h2.2
  rw [← h3]
  exact hs.symm
theorem Sat_sepNil {B w : World} {I : Im} {As : List Assn} (hS : Sat B w I As) : Sat B w I (SepAll [] :: As) := by
  obtain ⟨h, hs, hg⟩ := hS
  exact ⟨h, ⟨[], h, rfl, rfl, hs⟩, hg⟩
/-- A pattern in memory. -/
def PatI (I : Im) (p : Addr) (Q : List Pl) (n : Nat) : Prop := ∃ a c P, At I p [.slice a P.length c, I64 n] ∧ P.length ≤ c ∧ RS I a 3 P.length (P.flatMap enc) ∧ RelP I P Q
theorem PatI.mono {I J : Im} {p : Addr} {Q : List Pl} {n : Nat} (h : PatI I p Q n) (hl : Le I J) : PatI J p Q n := let ⟨a, c, P, h1, h2, h3, h4⟩ := h; ⟨a, c, P, h1.mono hl, h2, h3.mono hl, h4.mono hl⟩
theorem RelP.nil_of {I : Im} {P : List Cell3} {Q : List Pl} (h : RelP I P Q) {o : Nat} {k c : Int} (hq : Q[o]? = some (k, c, [])) : P[o]? = some (k, c, .slice none 0 0) := by
  have hlt : o < Q.length := (List.getElem?_eq_some_iff.1 hq).1
  obtain ⟨⟨p1, p2, p3⟩, hp⟩ : ∃ p, P[o]? = some p := ⟨_, List.getElem?_eq_getElem (by rw [h.1]; exact hlt)⟩
  obtain ⟨a, b, h0, _⟩ := h.2 o _ _ hp hq
  have h1 := h0 rfl
  simp only at a b h1
  subst a; subst b; subst h1
  exact hp
end Pat
