/- Part 3 of what the proof stands on: PatM, Pat, W17b, W18f, W18g, W18h. -/
import Derived.Test.YtchgkcbloeoopaaGreatDoorM18B
import Derived.Test.YtchgkcbloeoopaaGreatDoorChecked
namespace Pat
set_option linter.unusedVariables false
set_option linter.unusedSimpArgs false
open Go Gk
theorem flat_get {α : Type} (enc : α → List Value) (s : Nat) (hs : ∀ x, (enc x).length = s) : ∀ (l : List α) (r : List Value) (i j : Nat) (x : α), l[i]? = some x → j < s → (l.flatMap enc ++ r)[i * s + j]? = (enc x)[j]?
 | [], _, _, _, _, h, _ => by simp at h
 | y :: l, r, 0, j, x, h, hj => by
  simp at h
  subst h
  simp only [List.flatMap_cons, Nat.zero_mul, Nat.zero_add, List.append_assoc]
  rw [List.getElem?_append_left (by rw [hs]; exact hj)]
 | y :: l, r, i + 1, j, x, h, hj => by
  simp only [List.flatMap_cons, List.append_assoc]
  rw [List.getElem?_append_right (by rw [hs, Nat.succ_mul]; omega), hs]
  have e : (i + 1) * s + j - s = i * s + j := by rw [Nat.succ_mul]; omega
  rw [e]
  exact flat_get enc s hs l r i j x (by simpa using h) hj
theorem flat_set {α : Type} (enc : α → List Value) (s : Nat) (hs : ∀ x, (enc x).length = s) (f : α → α) (j : Nat) (v : Value) (hf : ∀ x, enc (f x) = (enc x).set j v) (hj : j < s) : ∀ (l : List α) (r : List Value) (i : Nat), i < l.length → (l.flatMap enc ++ r).set (i * s + j) v = (l.modify i f).flatMap enc ++ r
 | [], _, _, h => by simp at h
 | y :: l, r, 0, _ => by
  simp only [List.flatMap_cons, Nat.zero_mul, Nat.zero_add, List.append_assoc]
  rw [List.set_append_left _ _ (by rw [hs]; exact hj)]
  simp [hf]
 | y :: l, r, i + 1, h => by
  simp only [List.flatMap_cons, List.append_assoc]
  rw [List.set_append_right _ _ (by rw [hs, Nat.succ_mul]; omega), hs]
  have e : (i + 1) * s + j - s = i * s + j := by rw [Nat.succ_mul]; omega
  rw [e, flat_set enc s hs f j v hf hj l r i (by simpa using h)]
  simp
theorem flat_len {α : Type} (enc : α → List Value) (s : Nat) (hs : ∀ x, (enc x).length = s) : ∀ (l : List α), (l.flatMap enc).length = l.length * s
 | [] => by simp
 | y :: l => by simp only [List.flatMap_cons, List.length_append, hs, flat_len enc s hs l, List.length_cons, Nat.succ_mul]; omega
abbrev Cell3 := Int × Int × Value
abbrev Pl := Int × Int × List Int
def enc (x : Cell3) : List Value := [.int .u8 x.1, .int .u8 x.2.1, x.2.2]
theorem enc_len (x : Cell3) : (enc x).length = 3 := rfl
def setTo (P : List Cell3) (i : Nat) (v : Value) : List Cell3 := P.modify i fun x => (x.1, x.2.1, v)
def setToL (Q : List Pl) (i : Nat) (xs : List Int) : List Pl := Q.modify i fun x => (x.1, x.2.1, xs)
theorem setTo_len (P : List Cell3) (i : Nat) (v : Value) : (setTo P i v).length = P.length := by simp [setTo]
theorem to_get {P : List Cell3} {i : Nat} {x : Cell3} (h : P[i]? = some x) (r : List Value) : (P.flatMap enc ++ r)[0 + i * 3 + 2]? = some x.2.2 := by
 rw [Nat.zero_add, flat_get enc 3 enc_len P r i 2 x h (by omega)]; rfl
theorem to_set {P : List Cell3} {i : Nat} (h : i < P.length) (r : List Value) (v : Value) : (P.flatMap enc ++ r).set (0 + i * 3 + 2) v = (setTo P i v).flatMap enc ++ r := by
 rw [Nat.zero_add]; exact flat_set enc 3 enc_len (fun x => (x.1, x.2.1, v)) 2 v (fun _ => rfl) (by omega) P r i h
def IntsI (I : Im) (v : Value) (xs : List Int) : Prop := (xs = [] → v = .slice none 0 0) ∧ ∃ a c, v = .slice a xs.length c ∧ xs.length ≤ c ∧ RS I a 1 xs.length (xs.map I64)
theorem IntsI.mono {I J : Im} {v : Value} {xs : List Int} (h : IntsI I v xs) (hl : Le I J) : IntsI J v xs := let ⟨h0, a, c, e, hc, hr⟩ := h; ⟨h0, a, c, e, hc, hr.mono hl⟩
theorem IntsI.nil (I : Im) : IntsI I (.slice none 0 0) [] := ⟨fun _ => rfl, none, 0, rfl, Nat.le_refl _, RS.nil I 1⟩
def RelP (I : Im) (P : List Cell3) (Q : List Pl) : Prop := P.length = Q.length ∧ ∀ (i : Nat) (p : Cell3) (q : Pl), P[i]? = some p → Q[i]? = some q → p.1 = q.1 ∧ p.2.1 = q.2.1 ∧ IntsI I p.2.2 q.2.2
theorem RelP.mono {I J : Im} {P : List Cell3} {Q : List Pl} (h : RelP I P Q) (hl : Le I J) : RelP J P Q := ⟨h.1, fun i p q hp hq => let ⟨a, b, c⟩ := h.2 i p q hp hq; ⟨a, b, c.mono hl⟩⟩
theorem RelP.nil (I : Im) : RelP I [] [] := ⟨rfl, fun _ _ _ h => by simp at h⟩
theorem RelP.snoc {I : Im} {P : List Cell3} {Q : List Pl} (h : RelP I P Q) (k c : Int) (v : Value) (xs : List Int) (hv : IntsI I v xs) : RelP I (P ++ [(k, c, v)]) (Q ++ [(k, c, xs)]) := by
 refine ⟨by simp [h.1], fun i p q hp hq => ?_⟩
 rcases Nat.lt_trichotomy i P.length with hi | hi | hi
 ·rw [List.getElem?_append_left hi] at hp
  rw [List.getElem?_append_left (by rw [← h.1]; exact hi)] at hq
  exact h.2 i p q hp hq
 ·subst hi
  rw [List.getElem?_append_right (Nat.le_refl _)] at hp
  rw [h.1, List.getElem?_append_right (Nat.le_refl _)] at hq
  simp at hp hq
  subst hp; subst hq
  exact ⟨rfl, rfl, hv⟩
 ·rw [List.getElem?_eq_none (by simp; omega)] at hp
  cases hp
theorem RelP.set {I : Im} {P : List Cell3} {Q : List Pl} (h : RelP I P Q) (i : Nat) (v : Value) (xs : List Int) (hv : IntsI I v xs) : RelP I (setTo P i v) (setToL Q i xs) := by
 refine ⟨by simp [setTo, setToL, h.1], fun j p q hp hq => ?_⟩
 unfold setTo at hp
 unfold setToL at hq
 rw [List.getElem?_modify] at hp hq
 by_cases e : i = j
 ·subst e
  simp only [if_true] at hp hq
  obtain ⟨p0, hp0, rfl⟩ := Option.map_eq_some_iff.1 hp
  obtain ⟨q0, hq0, rfl⟩ := Option.map_eq_some_iff.1 hq
  obtain ⟨a, b, _⟩ := h.2 i p0 q0 hp0 hq0
  exact ⟨a, b, hv⟩
 ·simp only [e, if_false] at hp hq
  exact h.2 j p q (by simpa using hp) (by simpa using hq)
def RelX (I : Im) (o : Nat) (P : List Cell3) (Q : List Pl) : Prop := P.length = Q.length ∧ ∀ (i : Nat) (p : Cell3) (q : Pl), P[i]? = some p → Q[i]? = some q → p.1 = q.1 ∧ p.2.1 = q.2.1 ∧ (i ≠ o → IntsI I p.2.2 q.2.2)
theorem RelX.mono {I J : Im} {o : Nat} {P : List Cell3} {Q : List Pl} (h : RelX I o P Q) (hl : Le I J) : RelX J o P Q := ⟨h.1, fun i p q hp hq => let ⟨a, b, c⟩ := h.2 i p q hp hq; ⟨a, b, fun hi => (c hi).mono hl⟩⟩
theorem RelP.x {I : Im} {P : List Cell3} {Q : List Pl} (h : RelP I P Q) (o : Nat) : RelX I o P Q := ⟨h.1, fun i p q hp hq => let ⟨a, b, c⟩ := h.2 i p q hp hq; ⟨a, b, fun _ => c⟩⟩
theorem RelX.setO {I : Im} {o : Nat} {P : List Cell3} {Q : List Pl} (h : RelX I o P Q) (v : Value) (xs : List Int) : RelX I o (setTo P o v) (setToL Q o xs) := by
 refine ⟨by simp [setTo, setToL, h.1], fun j p q hp hq => ?_⟩
 unfold setTo at hp
 unfold setToL at hq
 rw [List.getElem?_modify] at hp hq
 by_cases e : o = j
 ·subst e
  simp only [if_true] at hp hq
  obtain ⟨p0, hp0, rfl⟩ := Option.map_eq_some_iff.1 hp
  obtain ⟨q0, hq0, rfl⟩ := Option.map_eq_some_iff.1 hq
  obtain ⟨a, b, _⟩ := h.2 o p0 q0 hp0 hq0
  exact ⟨a, b, fun hi => absurd rfl hi⟩
 ·simp only [e, if_false] at hp hq
  exact h.2 j p q (by simpa using hp) (by simpa using hq)
theorem RelX.setB {I : Im} {o : Nat} {P : List Cell3} {Q : List Pl} (h : RelX I o P Q) (b : Nat) (v : Value) (xs : List Int) (hv : IntsI I v xs) : RelX I o (setTo P b v) (setToL Q b xs) := by
 refine ⟨by simp [setTo, setToL, h.1], fun j p q hp hq => ?_⟩
 unfold setTo at hp
 unfold setToL at hq
 rw [List.getElem?_modify] at hp hq
 by_cases e : b = j
 ·subst e
  simp only [if_true] at hp hq
  obtain ⟨p0, hp0, rfl⟩ := Option.map_eq_some_iff.1 hp
  obtain ⟨q0, hq0, rfl⟩ := Option.map_eq_some_iff.1 hq
  obtain ⟨a, b, _⟩ := h.2 b p0 q0 hp0 hq0
  exact ⟨a, b, fun _ => hv⟩
 ·simp only [e, if_false] at hp hq
  exact h.2 j p q (by simpa using hp) (by simpa using hq)
theorem RelX.back {I : Im} {o : Nat} {P : List Cell3} {Q : List Pl} (h : RelX I o P Q) (hv : ∀ p q, P[o]? = some p → Q[o]? = some q → IntsI I p.2.2 q.2.2) : RelP I P Q :=
 ⟨h.1, fun i p q hp hq => by
  obtain ⟨a, b, c⟩ := h.2 i p q hp hq
  refine ⟨a, b, ?_⟩
  by_cases e : i = o
  ·subst e; exact hv p q hp hq
  ·exact c e⟩
def closeGo (n : Nat) (o : Nat) : List Pl → List Int → List Nat → List Pl
 | Q, _, [] => Q
 | Q, done, b :: r => closeGo n o (setToL (setToL Q o (done ++ [(b : Int) + 1])) b [(n : Int)]) (done ++ [(b : Int) + 1]) r
theorem closeGo_len (n o : Nat) : ∀ (r : List Nat) (Q : List Pl) (done : List Int), (closeGo n o Q done r).length = Q.length
 | [], _, _ => rfl
 | b :: r, Q, done => by rw [closeGo, closeGo_len n o r]; simp [setToL]
theorem freezeInts {B w : World} {I : Im} {As : List Assn} {k E : Nat} {v : Value} {xs : List Int} (hS : Sat B w I As) (hk : As[k]? = some (Vec E 1 v xs.length (xs.map I64))) (hn : xs = [] → v = .slice none 0 0) : ∃ J, Le I J ∧ IntsI J v xs ∧ Sat B w J (As.eraseIdx k) := by
 rcases Nat.eq_zero_or_pos xs.length with h0 | h0
 ·have hx : xs = [] := List.eq_nil_of_length_eq_zero h0
  subst hx
  obtain ⟨a, c, rfl, hc, _⟩ := hS.vecSlice hk
  exact ⟨I, Le.refl I, ⟨hn, a, c, rfl, hc, by simp, fun h => absurd h (by simp)⟩, hS.drop hk⟩
 ·obtain ⟨b, cap, r, rfl, h1, h2, _, _, hSo⟩ := hS.vecOpen hk h0
  have hlk : k < As.length := (List.getElem?_eq_some_iff.1 hk).1
  obtain ⟨J, hJ, hb, hS'⟩ := hSo.freeze (k := k) (b := b) (o := cellsO (xs.map I64 ++ r) E) (by simp [hlk, blk])
  refine ⟨J, hJ, ⟨hn, _, _, rfl, h1, by simp, fun _ => ⟨_, rfl, rfl, _, _, _, hb, ?_⟩⟩, by simpa [List.eraseIdx_set_eq] using hS'⟩
  intro j u hj
  have hjl : j < (xs.map I64).length := (List.getElem?_eq_some_iff.1 hj).1
  simp only [Nat.zero_add, List.getElem?_toArray]
  rw [List.getElem?_append_left hjl]
  exact hj
abbrev PFr := Nat × List Nat
def cmpGo : List UInt8 → Int → List Pl → List PFr → List Int → Except (Int × Int) (List Pl)
 | [], _, Q, _, ats => if 0 < ats.length then .error (23, ats.getD (ats.length - 1) 0) else .ok (Q ++ [(7, 0, [])])
 | c :: r, i, Q, stk, ats =>
  if c.toNat = 63 then cmpGo r (i + 1) (Q ++ [(1, 0, [])]) stk ats
  else if c.toNat = 42 then (match r with
   | d :: r' => if d.toNat = 42 then cmpGo r' (i + 2) (Q ++ [(2, 0, [])]) stk ats else cmpGo (d :: r') (i + 1) (Q ++ [(3, 0, [])]) stk ats
   | [] => cmpGo [] (i + 1) (Q ++ [(3, 0, [])]) stk ats)
  else if c.toNat = 40 then (if stk.length = 4 then .error (24, i) else cmpGo r (i + 1) (Q ++ [(4, 0, [])]) ((Q.length, []) :: stk) (ats ++ [i]))
  else if c.toNat = 124 then (match stk with
   | [] => .error (10, i)
   | (o, bs) :: rest => cmpGo r (i + 1) (Q ++ [(5, 0, [])]) ((o, bs ++ [Q.length]) :: rest) ats)
  else if c.toNat = 41 then (match stk with
   | [] => .error (10, i)
   | (o, bs) :: rest => cmpGo r (i + 1) (closeGo Q.length o Q [] bs ++ [(6, 0, [])]) rest (ats.take rest.length))
  else if c.toNat = 92 then (match r with | [] => .error (10, i) | d :: r' => cmpGo r' (i + 2) (Q ++ [(0, (d.toNat : Int), [])]) stk ats)
  else cmpGo r (i + 1) (Q ++ [(0, (c.toNat : Int), [])]) stk ats
theorem cmpGo_nil (i : Int) (Q : List Pl) (stk : List PFr) (ats : List Int) : cmpGo [] i Q stk ats = if 0 < ats.length then .error (23, ats.getD (ats.length - 1) 0) else .ok (Q ++ [(7, 0, [])]) := by rw [cmpGo.eq_def]
theorem cmpGo_cons (c : UInt8) (r : List UInt8) (i : Int) (Q : List Pl) (stk : List PFr) (ats : List Int) : cmpGo (c :: r) i Q stk ats =
  if c.toNat = 63 then cmpGo r (i + 1) (Q ++ [(1, 0, [])]) stk ats
  else if c.toNat = 42 then (match r with
   | d :: r' => if d.toNat = 42 then cmpGo r' (i + 2) (Q ++ [(2, 0, [])]) stk ats else cmpGo (d :: r') (i + 1) (Q ++ [(3, 0, [])]) stk ats
   | [] => cmpGo [] (i + 1) (Q ++ [(3, 0, [])]) stk ats)
  else if c.toNat = 40 then (if stk.length = 4 then .error (24, i) else cmpGo r (i + 1) (Q ++ [(4, 0, [])]) ((Q.length, []) :: stk) (ats ++ [i]))
  else if c.toNat = 124 then (match stk with
   | [] => .error (10, i)
   | (o, bs) :: rest => cmpGo r (i + 1) (Q ++ [(5, 0, [])]) ((o, bs ++ [Q.length]) :: rest) ats)
  else if c.toNat = 41 then (match stk with
   | [] => .error (10, i)
   | (o, bs) :: rest => cmpGo r (i + 1) (closeGo Q.length o Q [] bs ++ [(6, 0, [])]) rest (ats.take rest.length))
  else if c.toNat = 92 then (match r with | [] => .error (10, i) | d :: r' => cmpGo r' (i + 2) (Q ++ [(0, (d.toNat : Int), [])]) stk ats)
  else cmpGo r (i + 1) (Q ++ [(0, (c.toNat : Int), [])]) stk ats := by rw [cmpGo.eq_def]
def cmp (l : List UInt8) : Except (Int × Int) (List Pl) := if 200 < l.length then .error (2, 0) else cmpGo l 0 [] [] []
def Frames (Q : List Pl) : Nat → List PFr → Prop
 | _, [] => True
 | lim, (o, bs) :: r => o < lim ∧ Q[o]? = some (4, 0, []) ∧ bs.length ≤ Q.length ∧ (∀ b ∈ bs, o < b ∧ b < Q.length) ∧ Frames Q o r
theorem Frames.grow {Q Q' : List Pl} : ∀ {stk : List PFr} {lim lim' : Nat}, Frames Q lim stk → lim ≤ lim' → Q.length ≤ Q'.length → (∀ i, i < lim → Q[i]? = some (4, 0, []) → Q'[i]? = some (4, 0, [])) → Frames Q' lim' stk
 | [], _, _, _, _, _, _ => trivial
 | (o, bs) :: r, lim, lim', ⟨h1, h2, h3, h4, h5⟩, hl, hq, hk =>
  ⟨by omega, hk o h1 h2, by omega, fun b hb => ⟨(h4 b hb).1, by have := (h4 b hb).2; omega⟩, h5.grow (Nat.le_refl _) hq fun i hi => hk i (by omega)⟩
theorem Frames.app {Q : List Pl} {stk : List PFr} (h : Frames Q Q.length stk) (x : Pl) : Frames (Q ++ [x]) (Q ++ [x]).length stk :=
 h.grow (by simp) (by simp) fun i hi hq => by rw [List.getElem?_append_left hi]; exact hq
theorem closeGo_get (n o : Nat) : ∀ (bs : List Nat) (Q : List Pl) (done : List Int) (i : Nat), i ≠ o → (∀ b ∈ bs, b ≠ i) → (closeGo n o Q done bs)[i]? = Q[i]?
 | [], _, _, _, _, _ => rfl
 | b :: r, Q, done, i, h, hb => by
  rw [closeGo, closeGo_get n o r _ _ i h fun x hx => hb x (List.mem_cons_of_mem _ hx)]
  have hbi : b ≠ i := hb b (by simp)
  simp [setToL, List.getElem?_modify, hbi, Ne.symm h]
theorem Frames.close {Q : List Pl} {o : Nat} {bs : List Nat} {rest : List PFr} (h : Frames Q Q.length ((o, bs) :: rest)) (x : Pl) : Frames (closeGo Q.length o Q [] bs ++ [x]) (closeGo Q.length o Q [] bs ++ [x]).length rest := by
 obtain ⟨h1, h2, h3, h4, h5⟩ := h
 refine h5.grow (by simp [closeGo_len]; omega) (by simp [closeGo_len]) fun i hi hq => ?_
 rw [List.getElem?_append_left (by rw [closeGo_len]; omega), closeGo_get _ _ _ _ _ _ (by omega) fun b hb => by have := (h4 b hb).1; omega]
 exact hq
def mks (f : PFr) : List Int := (f.1 :: f.2).map fun (x : Nat) => (x : Int)
theorem stk_snoc {st : List (Value × List Int)} {f : PFr} {rest : List PFr} (h : st.map (·.2) = (f :: rest).reverse.map mks) : ∃ st0 mv, st = st0 ++ [(mv, mks f)] ∧ st0.map (·.2) = rest.reverse.map mks := by
 have hne : st ≠ [] := fun e => by subst e; simp at h
 have hs := List.dropLast_concat_getLast hne
 rw [← hs, List.reverse_cons, List.map_append, List.map_append] at h
 simp only [List.map_cons, List.map_nil] at h
 have h2 := List.append_inj' h rfl
 refine ⟨st.dropLast, (st.getLast hne).1, ?_, h2.1⟩
 have h3 : (st.getLast hne).2 = mks f := by simpa using h2.2
 rw [← h3]
 exact hs.symm
theorem Sat_sepNil {B w : World} {I : Im} {As : List Assn} (hS : Sat B w I As) : Sat B w I (SepAll [] :: As) := by
 obtain ⟨h, hs, hg⟩ := hS
 exact ⟨h, ⟨[], h, rfl, rfl, hs⟩, hg⟩
def PatI (I : Im) (p : Addr) (Q : List Pl) (n : Nat) : Prop := ∃ a c P, At I p [.slice a P.length c, I64 n] ∧ P.length ≤ c ∧ RS I a 3 P.length (P.flatMap enc) ∧ RelP I P Q
theorem PatI.mono {I J : Im} {p : Addr} {Q : List Pl} {n : Nat} (h : PatI I p Q n) (hl : Le I J) : PatI J p Q n := let ⟨a, c, P, h1, h2, h3, h4⟩ := h; ⟨a, c, P, h1.mono hl, h2, h3.mono hl, h4.mono hl⟩
theorem RelP.nil_of {I : Im} {P : List Cell3} {Q : List Pl} (h : RelP I P Q) {o : Nat} {k c : Int} (hq : Q[o]? = some (k, c, [])) : P[o]? = some (k, c, .slice none 0 0) := by
 have hlt : o < Q.length := (List.getElem?_eq_some_iff.1 hq).1
 obtain ⟨⟨p1, p2, p3⟩, hp⟩ : ∃ p, P[o]? = some p := ⟨_, List.getElem?_eq_getElem (by rw [h.1]; exact hlt)⟩
 obtain ⟨a, b, h0, _⟩ := h.2 o _ _ hp hq
 have h1 := h0 rfl
 simp only at a b h1
 subst a; subst b; subst h1
 exact hp
end Pat
namespace Pat
set_option linter.unusedVariables false
set_option linter.unusedSimpArgs false
open Gk
def iter {β : Type} (f : β → Nat → β) (b : β) : Nat → β
 | 0 => b
 | k + 1 => f (iter f b k) k
def hasPre (s p : List UInt8) : Bool := decide ((p.length : Int) ≤ (s.length : Int)) && (s.take (p.length : Int).toNat == p)
def takes (kind : Int) (own c : UInt8) : Bool := kind == 2 || (kind == 1 && ((c.toNat : Int) != 47)) || (kind == 0 && ((c.toNat : Int) == (own.toNat : Int)))
def end1 (fr : List Bool) (many : Bool) (out : List Bool) (k : Nat) : List Bool := bif many && fr.getD (k : Int).toNat false then out.set (k : Int).toNat true else out
def end2 (s : List UInt8) (fr : List Bool) (kind : Int) (own : UInt8) (many : Bool) (o : List Bool) (k : Nat) : List Bool :=
 bif decide (0 < (k : Int)) && (takes kind own (at_ s ((k : Int) - 1)) && (fr.getD ((k : Int) - 1).toNat false || (many && o.getD ((k : Int) - 1).toNat false))) then o.set (k : Int).toNat true else o
def endAt (s : List UInt8) (fr : List Bool) (kind : Int) (own : UInt8) (many : Bool) (out : List Bool) (k : Nat) : List Bool := end2 s fr kind own many (end1 fr many out k) k
def ends (s : List UInt8) (fr : List Bool) (kind : Int) (own : UInt8) (many : Bool) : List Bool := iter (endAt s fr kind own many) (List.replicate (s.length + 1) false) (s.length + 1)
theorem end1_length (fr : List Bool) (many : Bool) (out : List Bool) (k : Nat) : (end1 fr many out k).length = out.length := by unfold end1; cases many && fr.getD (k : Int).toNat false <;> simp
theorem end2_length (s : List UInt8) (fr : List Bool) (kind : Int) (own : UInt8) (many : Bool) (o : List Bool) (k : Nat) : (end2 s fr kind own many o k).length = o.length := by
 unfold end2; generalize (decide (0 < (k : Int)) && _) = c; cases c <;> simp
theorem endIter_length (s : List UInt8) (fr : List Bool) (kind : Int) (own : UInt8) (many : Bool) (init : List Bool) : ∀ k, (iter (endAt s fr kind own many) init k).length = init.length
 | 0 => rfl
 | k + 1 => by rw [iter, endAt, end2_length, end1_length, endIter_length s fr kind own many init k]
theorem ends_length (s : List UInt8) (fr : List Bool) (kind : Int) (own : UInt8) (many : Bool) : (ends s fr kind own many).length = s.length + 1 := by
 rw [ends, endIter_length, List.length_replicate]
def chkGo : List UInt8 → Int → List Int → Int × Int
 | [], _, o => if 0 < o.length then (23, o.getD (o.length - 1) 0) else (0, 0)
 | c :: r, i, o =>
  if c.toNat = 40 then (if o.length = 4 then (24, i) else chkGo r (i + 1) (o ++ [i]))
  else if c.toNat = 41 then (if o.length = 0 then (10, i) else chkGo r (i + 1) (o.take (o.length - 1)))
  else if c.toNat = 124 then (if o.length = 0 then (10, i) else chkGo r (i + 1) o)
  else if c.toNat = 92 then (match r with | [] => (10, i) | _ :: r' => chkGo r' (i + 2) o)
  else chkGo r (i + 1) o
theorem chkGo_nil (i : Int) (o : List Int) : chkGo [] i o = if 0 < o.length then (23, o.getD (o.length - 1) 0) else (0, 0) := by rw [chkGo.eq_def]
theorem chkGo_cons (c : UInt8) (r : List UInt8) (i : Int) (o : List Int) : chkGo (c :: r) i o = if c.toNat = 40 then (if o.length = 4 then (24, i) else chkGo r (i + 1) (o ++ [i]))
  else if c.toNat = 41 then (if o.length = 0 then (10, i) else chkGo r (i + 1) (o.take (o.length - 1)))
  else if c.toNat = 124 then (if o.length = 0 then (10, i) else chkGo r (i + 1) o)
  else if c.toNat = 92 then (match r with | [] => (10, i) | _ :: r' => chkGo r' (i + 2) o)
  else chkGo r (i + 1) o := by rw [chkGo.eq_def]
def chk (l : List UInt8) : Int × Int := if 200 < l.length then (2, 0) else chkGo l 0 []
end Pat
namespace Go.Proofs.YtchgkcbloeoopaaGreatDoor
open Gk Pat
set_option linter.unusedVariables false
set_option linter.unusedSimpArgs false
def rowsA (E : Nat) (st : List (Value × List Int)) : Assn := SepAll (st.map fun x => Vec E 1 x.1 x.2.length (x.2.map I64))
theorem marks_get {o b : Nat} {bs pre r : List Nat} (h : bs = pre ++ b :: r) (rm : List Value) : (((o :: bs).map fun (x : Nat) => (x : Int)).map I64 ++ rm)[1 + (pre.length : Int).toNat * 1]? = some (I64 b) := by
 subst h
 rw [Int.toNat_natCast, Nat.mul_one, List.getElem?_append_left (by simp; omega)]
 simp [Nat.add_comm 1]
theorem info3_37 : Tryz.prog.info? 3 = some Tryz.t3 := by kernel_rfl
theorem info68_37 : Tryz.prog.info? 68 = some Tryz.t68 := by kernel_rfl
theorem info99_37 : Tryz.prog.info? 99 = some Tryz.t99 := by kernel_rfl
theorem bld99_37 : Bld Tryz.prog 99 [(0, 1), (1, 1), (2, 1)] [.int .u8 0, .int .u8 0, .slice none 0 0] := bld_of Tryz.underlying99 Tryz.zeroValue99 (fun w => by simp [go_sem])
theorem put_any (bc n : Nat) (lv sv av : Value) (xs : List Value) (kd b : Int) (B w : World) (I : Im) (F : List Assn) (hS : Sat B w I (blk bc [lv, sv, av] 81 :: Vec 99 3 lv n xs :: F)) (hn : n ≤ 1000) :
  Calls Tryz.prog 37 [ptr bc 0, .int .u8 kd, .int .u8 b].toArray w (Ret fun v w' => v = .tuple #[] ∧ ∃ lv', Sat B w' I (blk bc [lv', sv, av] 81 :: Vec 99 3 lv' (n + 1) (xs ++ [.int .u8 kd, .int .u8 b, .slice none 0 0]) :: F)) := by
 refine calls Tryz.func37 rfl Tryz.ntmps37 rfl ?_
 refine WC.region ?_
 refine WL.val (.move (.of rfl)) rfl ?_
 refine WL.val (.move (.of rfl)) rfl ?_
 refine WL.val (.nilCheck (.of rfl)) rfl ?_
 first | refine WL.val (.fieldAddr 0 (.of rfl) Tryz.underlying81 rfl rfl Tryz.sizeOf78 rfl) rfl ?_ | refine WL.val (.fieldAddrI 0 (.of rfl) Tryz.underlying81 rfl rfl Tryz.sizeOf78 rfl) rfl ?_
 first | refine WL.val (.ld (.of rfl) hS (k := 0) rfl Tryz.isAgg78 rfl) rfl ?_ | refine WL.val (.ld (.of rfl) hS (k := 1) rfl Tryz.isAgg78 rfl) rfl ?_
 refine WL.val (.move (.of rfl)) rfl ?_
 refine WL.val (.move (.of rfl)) rfl ?_
 refine WL.val (.build (cs := [_, _, _]) (parts_cons (.of rfl) (parts_cons (.of rfl) parts_nil)) bld99_37 rfl) rfl ?_
 refine WL.buildSlice (cs := [_, _, _]) hS (parts_cons (.of rfl) parts_nil) Tryz.underlying78 Tryz.sizeOf99 Tryz.zeroValue99 rfl rfl rfl rfl ?_
 clear hS; intro b14 w hS
 first | refine WL.append (size := 3) (bytes := 32) hS (.of rfl) (.of rfl) (k := 0) rfl Tryz.underlying78 info99_37 rfl rfl rfl rfl rfl rfl rfl ⟨by omega, by unfold maxLen; omega⟩ rfl ?_ | refine WL.append (size := 3) (bytes := 32) hS (.of rfl) (.of rfl) (k := 1) rfl Tryz.underlying78 info99_37 rfl rfl rfl rfl rfl rfl rfl ⟨by omega, by unfold maxLen; omega⟩ rfl ?_
 clear hS; intro v15 w hS; try dsimp only [List.set] at hS
 first | obtain ⟨a15, c15, rfl, hcap15, _⟩ := hS.vecSlice (k := 0) (v := v15) rfl | obtain ⟨a15, c15, rfl, hcap15, _⟩ := hS.vecSlice (k := 1) (v := v15) rfl
 refine WL.val (.nilCheck (.of rfl)) rfl ?_
 first | refine WL.val (.fieldAddr 0 (.of rfl) Tryz.underlying81 rfl rfl Tryz.sizeOf78 rfl) rfl ?_ | refine WL.val (.fieldAddrI 0 (.of rfl) Tryz.underlying81 rfl rfl Tryz.sizeOf78 rfl) rfl ?_
 first | refine WL.st1 hS (k := 0) rfl (.of rfl) (.of rfl) rfl Tryz.sizeOf78 (by simp) ?_ | refine WL.st1 hS (k := 1) rfl (.of rfl) (.of rfl) rfl Tryz.sizeOf78 (by simp) ?_
 clear hS; intro w hS; try dsimp only [List.set] at hS
 refine WL.nil ?_
 refine end0 Tryz.results37 ?_
 exact ⟨_, rfl, rfl, _, hS⟩
theorem bracket_any (bc n : Nat) (lv sv av : Value) (xs : List Value) (st : List (Value × List Int)) (ats : List Int) (at_ : Int) (B w : World) (I : Im) (F : List Assn) (hS : Sat B w I (blk bc [lv, sv, av] 81 :: Vec 99 3 lv n xs :: Vec 68 1 sv st.length (st.map (·.1)) :: Vec 3 1 av ats.length (ats.map I64) :: rowsA 3 st :: F)) (hn : n ≤ 1000) (hd : st.length ≤ 1000) (hd2 : ats.length ≤ 1000) :
  Calls Tryz.prog 39 [ptr bc 0, I64 at_].toArray w (Ret fun v w' => v = .tuple #[] ∧ ∃ lv' sv' av' mv, Sat B w' I (blk bc [lv', sv', av'] 81 :: Vec 99 3 lv' (n + 1) (xs ++ [.int .u8 4, .int .u8 0, .slice none 0 0]) :: Vec 68 1 sv' (st.length + 1) (st.map (·.1) ++ [mv]) :: Vec 3 1 av' (ats.length + 1) (ats.map I64 ++ [I64 at_]) :: rowsA 3 (st ++ [(mv, [(n : Int)])]) :: F)) := by
 refine calls Tryz.func39 rfl Tryz.ntmps39 rfl ?_
 refine WC.seq ?_
 obtain ⟨la, lc, rfl, hlc, _⟩ := hS.vecSlice (k := 1) rfl
 obtain ⟨sa, sc, rfl, hsc, _⟩ := hS.vecSlice (k := 2) rfl
 obtain ⟨aa, ac, rfl, hac, _⟩ := hS.vecSlice (k := 3) rfl
 refine WC.drawn (fun w => ∃ R, Sat B w I (blk bc [.slice la n lc, .slice sa st.length sc, .slice aa ats.length ac] 81 :: R)) (fun j => !([23, 26].contains j)) (by kernel_rfl) ?_
 replace hS := hS.drew; generalize w.drew = w at hS ⊢
 have hH : ∃ R, Sat B w I (blk bc [.slice la n lc, .slice sa st.length sc, .slice aa ats.length ac] 81 :: R) := ⟨_, (hS.pick 0 rfl)⟩
 refine WD.takeP (i := 0) rfl (by kernel_rfl) (by kernel_rfl) (by kernel_rfl) (fun w => (.move (.of rfl))) rfl ?_
 refine WD.takeP (i := 1) rfl (by kernel_rfl) (by kernel_rfl) (by kernel_rfl) (fun w => (.move (.of rfl))) rfl ?_
 refine WD.takeP (i := 2) rfl (by kernel_rfl) (by kernel_rfl) (by kernel_rfl) (fun w => (.move (.of rfl))) rfl ?_
 refine WD.takeP (i := 3) rfl (by kernel_rfl) (by kernel_rfl) (by kernel_rfl) (fun w => (.nilCheck (.of rfl))) rfl ?_
 refine WD.takeP (i := 4) rfl (by kernel_rfl) (by kernel_rfl) (by kernel_rfl) (fun w => (by first | exact .fieldAddr 1 (.of rfl) Tryz.underlying81 rfl rfl Tryz.sizeOf79 rfl | exact .fieldAddrI 1 (.of rfl) Tryz.underlying81 rfl rfl Tryz.sizeOf79 rfl)) rfl ?_
 refine WD.take (i := 5) rfl (by kernel_rfl) (by kernel_rfl) (by kernel_rfl) (by kernel_rfl) hH (fun w ⟨R, hS⟩ => (by first | exact (.ld (.of rfl) hS (k := 0) rfl Tryz.isAgg79 rfl))) rfl ?_
 refine WD.takeP (i := 6) rfl (by kernel_rfl) (by kernel_rfl) (by kernel_rfl) (fun w => (.move (.of rfl))) rfl ?_
 refine WD.takeP (i := 7) rfl (by kernel_rfl) (by kernel_rfl) (by kernel_rfl) (fun w => (.nilCheck (.of rfl))) rfl ?_
 refine WD.takeP (i := 8) rfl (by kernel_rfl) (by kernel_rfl) (by kernel_rfl) (fun w => (by first | exact .fieldAddr 0 (.of rfl) Tryz.underlying81 rfl rfl Tryz.sizeOf78 rfl | exact .fieldAddrI 0 (.of rfl) Tryz.underlying81 rfl rfl Tryz.sizeOf78 rfl)) rfl ?_
 refine WD.take (i := 9) rfl (by kernel_rfl) (by kernel_rfl) (by kernel_rfl) (by kernel_rfl) hH (fun w ⟨R, hS⟩ => (by first | exact (.ld (.of rfl) hS (k := 0) rfl Tryz.isAgg78 rfl))) rfl ?_
 refine WD.takeP (i := 10) rfl (by kernel_rfl) (by kernel_rfl) (by kernel_rfl) (fun w => (.lenSlice (.of rfl) Tryz.underlying78)) rfl ?_
 refine WD.takeP (i := 14) rfl (by kernel_rfl) (by kernel_rfl) (by kernel_rfl) (fun w => (.move (.of rfl))) rfl ?_
 refine WD.takeP (i := 15) rfl (by kernel_rfl) (by kernel_rfl) (by kernel_rfl) (fun w => (.nilCheck (.of rfl))) rfl ?_
 refine WD.takeP (i := 16) rfl (by kernel_rfl) (by kernel_rfl) (by kernel_rfl) (fun w => (by first | exact .fieldAddr 2 (.of rfl) Tryz.underlying81 rfl rfl Tryz.sizeOf68 rfl | exact .fieldAddrI 2 (.of rfl) Tryz.underlying81 rfl rfl Tryz.sizeOf68 rfl)) rfl ?_
 refine WD.take (i := 17) rfl (by kernel_rfl) (by kernel_rfl) (by kernel_rfl) (by kernel_rfl) hH (fun w ⟨R, hS⟩ => (by first | exact (.ld (.of rfl) hS (k := 0) rfl Tryz.isAgg68 rfl))) rfl ?_
 refine WD.takeP (i := 18) rfl (by kernel_rfl) (by kernel_rfl) (by kernel_rfl) (fun w => (.move (.of rfl))) rfl ?_
 refine WD.branch [11, 19] (by kernel_rfl) rfl (WO.cons rfl ?_ (WO.cons rfl ?_ (WO.nil)))
 ·
  refine WL.buildSlice (cs := [_]) hS (parts_cons (.of rfl) parts_nil) Tryz.underlying68 Tryz.sizeOf3 Tryz.zeroValue3 rfl rfl rfl rfl ?_
  clear hS; intro b15 w hS
  refine WL.nil ?_
  clear hH
  have hH : ∃ R, Sat B w I (blk bc [.slice la n lc, .slice sa st.length sc, .slice aa ats.length ac] 81 :: R) := ⟨_, (hS.pick 1 rfl)⟩
  refine And.intro (by intro _ _; exact hH) ?_
  refine WD.branch [12, 19] (by kernel_rfl) rfl (WO.cons rfl ?_ (WO.cons rfl ?_ (WO.nil)))
  ·
   refine WL.buildSlice (cs := [_]) hS (parts_cons (.of rfl) parts_nil) Tryz.underlying79 Tryz.sizeOf68 Tryz.zeroValue68 rfl rfl rfl rfl ?_
   clear hS; intro b16 w hS
   refine WL.nil ?_
   clear hH
   have hH : ∃ R, Sat B w I (blk bc [.slice la n lc, .slice sa st.length sc, .slice aa ats.length ac] 81 :: R) := ⟨_, (hS.pick 2 rfl)⟩
   refine And.intro (by intro _ _; exact hH) ?_
   refine WD.branch [13, 19] (by kernel_rfl) rfl (WO.cons rfl ?_ (WO.cons rfl ?_ (WO.nil)))
   ·
    first | refine WL.append (size := 1) (bytes := 24) hS (.of rfl) (.of rfl) (k := 0) rfl Tryz.underlying79 info68_37 rfl rfl rfl rfl rfl rfl rfl ⟨by omega, by unfold maxLen; omega⟩ rfl ?_ | refine WL.append (size := 1) (bytes := 24) hS (.of rfl) (.of rfl) (k := 1) rfl Tryz.underlying79 info68_37 rfl rfl rfl rfl rfl rfl rfl ⟨by omega, by unfold maxLen; omega⟩ rfl ?_ | refine WL.append (size := 1) (bytes := 24) hS (.of rfl) (.of rfl) (k := 2) rfl Tryz.underlying79 info68_37 rfl rfl rfl rfl rfl rfl rfl ⟨by omega, by unfold maxLen; omega⟩ rfl ?_ | refine WL.append (size := 1) (bytes := 24) hS (.of rfl) (.of rfl) (k := 3) rfl Tryz.underlying79 info68_37 rfl rfl rfl rfl rfl rfl rfl ⟨by omega, by unfold maxLen; omega⟩ rfl ?_ | refine WL.append (size := 1) (bytes := 24) hS (.of rfl) (.of rfl) (k := 4) rfl Tryz.underlying79 info68_37 rfl rfl rfl rfl rfl rfl rfl ⟨by omega, by unfold maxLen; omega⟩ rfl ?_ | refine WL.append (size := 1) (bytes := 24) hS (.of rfl) (.of rfl) (k := 5) rfl Tryz.underlying79 info68_37 rfl rfl rfl rfl rfl rfl rfl ⟨by omega, by unfold maxLen; omega⟩ rfl ?_
    clear hS; intro v17 w hS; try dsimp only [List.set] at hS
    first | obtain ⟨a17, c17, rfl, hcap17, _⟩ := hS.vecSlice (k := 0) (v := v17) rfl | obtain ⟨a17, c17, rfl, hcap17, _⟩ := hS.vecSlice (k := 1) (v := v17) rfl | obtain ⟨a17, c17, rfl, hcap17, _⟩ := hS.vecSlice (k := 2) (v := v17) rfl | obtain ⟨a17, c17, rfl, hcap17, _⟩ := hS.vecSlice (k := 3) (v := v17) rfl | obtain ⟨a17, c17, rfl, hcap17, _⟩ := hS.vecSlice (k := 4) (v := v17) rfl | obtain ⟨a17, c17, rfl, hcap17, _⟩ := hS.vecSlice (k := 5) (v := v17) rfl
    refine WL.nil ?_
    clear hH
    have hH : ∃ R, Sat B w I (blk bc [.slice la n lc, .slice sa st.length sc, .slice aa ats.length ac] 81 :: R) := ⟨_, (hS.pick 1 rfl)⟩
    refine And.intro (by intro _ _; exact hH) ?_
    refine WD.branch [19] (by kernel_rfl) rfl (WO.cons rfl ?_ (WO.nil))
    refine WL.buildSlice (cs := [_]) hS (parts_cons (.of rfl) parts_nil) Tryz.underlying68 Tryz.sizeOf3 Tryz.zeroValue3 rfl rfl rfl rfl ?_
    clear hS; intro b23 w hS
    refine WL.nil ?_
    clear hH
    have hH : ∃ R, Sat B w I (blk bc [.slice la n lc, .slice sa st.length sc, .slice aa ats.length ac] 81 :: R) := ⟨_, (hS.pick 2 rfl)⟩
    refine And.intro (by intro _ _; exact hH) ?_
    refine WD.branch [20] (by kernel_rfl) rfl (WO.cons rfl ?_ (WO.nil))
    first | refine WL.append (size := 1) (bytes := 8) hS (.of rfl) (.of rfl) (k := 0) rfl Tryz.underlying68 info3_37 rfl rfl rfl rfl rfl rfl rfl ⟨by omega, by unfold maxLen; omega⟩ rfl ?_ | refine WL.append (size := 1) (bytes := 8) hS (.of rfl) (.of rfl) (k := 1) rfl Tryz.underlying68 info3_37 rfl rfl rfl rfl rfl rfl rfl ⟨by omega, by unfold maxLen; omega⟩ rfl ?_ | refine WL.append (size := 1) (bytes := 8) hS (.of rfl) (.of rfl) (k := 2) rfl Tryz.underlying68 info3_37 rfl rfl rfl rfl rfl rfl rfl ⟨by omega, by unfold maxLen; omega⟩ rfl ?_ | refine WL.append (size := 1) (bytes := 8) hS (.of rfl) (.of rfl) (k := 3) rfl Tryz.underlying68 info3_37 rfl rfl rfl rfl rfl rfl rfl ⟨by omega, by unfold maxLen; omega⟩ rfl ?_ | refine WL.append (size := 1) (bytes := 8) hS (.of rfl) (.of rfl) (k := 4) rfl Tryz.underlying68 info3_37 rfl rfl rfl rfl rfl rfl rfl ⟨by omega, by unfold maxLen; omega⟩ rfl ?_ | refine WL.append (size := 1) (bytes := 8) hS (.of rfl) (.of rfl) (k := 5) rfl Tryz.underlying68 info3_37 rfl rfl rfl rfl rfl rfl rfl ⟨by omega, by unfold maxLen; omega⟩ rfl ?_
    clear hS; intro v24 w hS; try dsimp only [List.set] at hS
    first | obtain ⟨a24, c24, rfl, hcap24, _⟩ := hS.vecSlice (k := 0) (v := v24) rfl | obtain ⟨a24, c24, rfl, hcap24, _⟩ := hS.vecSlice (k := 1) (v := v24) rfl | obtain ⟨a24, c24, rfl, hcap24, _⟩ := hS.vecSlice (k := 2) (v := v24) rfl | obtain ⟨a24, c24, rfl, hcap24, _⟩ := hS.vecSlice (k := 3) (v := v24) rfl | obtain ⟨a24, c24, rfl, hcap24, _⟩ := hS.vecSlice (k := 4) (v := v24) rfl | obtain ⟨a24, c24, rfl, hcap24, _⟩ := hS.vecSlice (k := 5) (v := v24) rfl
    refine WL.nil ?_
    clear hH
    have hH : ∃ R, Sat B w I (blk bc [.slice la n lc, .slice sa st.length sc, .slice aa ats.length ac] 81 :: R) := ⟨_, (hS.pick 1 rfl)⟩
    refine And.intro (by intro _ _; exact hH) ?_
    refine WD.takeP (i := 21) rfl (by kernel_rfl) (by kernel_rfl) (by kernel_rfl) (fun w => (.nilCheck (.of rfl))) rfl ?_
    refine WD.takeP (i := 22) rfl (by kernel_rfl) (by kernel_rfl) (by kernel_rfl) (fun w => (by first | exact .fieldAddr 1 (.of rfl) Tryz.underlying81 rfl rfl Tryz.sizeOf79 rfl | exact .fieldAddrI 1 (.of rfl) Tryz.underlying81 rfl rfl Tryz.sizeOf79 rfl)) rfl ?_
    refine WD.branch [23] (by kernel_rfl) rfl (WO.cons rfl ?_ (WO.nil))
    first | refine WL.st1 hS (k := 0) rfl (.of rfl) (.of rfl) rfl Tryz.sizeOf79 (by simp) ?_ | refine WL.st1 hS (k := 1) rfl (.of rfl) (.of rfl) rfl Tryz.sizeOf79 (by simp) ?_ | refine WL.st1 hS (k := 2) rfl (.of rfl) (.of rfl) rfl Tryz.sizeOf79 (by simp) ?_ | refine WL.st1 hS (k := 3) rfl (.of rfl) (.of rfl) rfl Tryz.sizeOf79 (by simp) ?_ | refine WL.st1 hS (k := 4) rfl (.of rfl) (.of rfl) rfl Tryz.sizeOf79 (by simp) ?_ | refine WL.st1 hS (k := 5) rfl (.of rfl) (.of rfl) rfl Tryz.sizeOf79 (by simp) ?_
    clear hS; intro w hS; try dsimp only [List.set] at hS
    refine WL.nil ?_
    refine And.intro (by intro h; cases h) ?_
    refine WD.takeP (i := 24) rfl (by kernel_rfl) (by kernel_rfl) (by kernel_rfl) (fun w => (.nilCheck (.of rfl))) rfl ?_
    refine WD.takeP (i := 25) rfl (by kernel_rfl) (by kernel_rfl) (by kernel_rfl) (fun w => (by first | exact .fieldAddr 2 (.of rfl) Tryz.underlying81 rfl rfl Tryz.sizeOf68 rfl | exact .fieldAddrI 2 (.of rfl) Tryz.underlying81 rfl rfl Tryz.sizeOf68 rfl)) rfl ?_
    refine WD.branch [26] (by kernel_rfl) rfl (WO.cons rfl ?_ (WO.nil))
    first | refine WL.st1 hS (k := 0) rfl (.of rfl) (.of rfl) rfl Tryz.sizeOf68 (by simp) ?_ | refine WL.st1 hS (k := 1) rfl (.of rfl) (.of rfl) rfl Tryz.sizeOf68 (by simp) ?_ | refine WL.st1 hS (k := 2) rfl (.of rfl) (.of rfl) rfl Tryz.sizeOf68 (by simp) ?_ | refine WL.st1 hS (k := 3) rfl (.of rfl) (.of rfl) rfl Tryz.sizeOf68 (by simp) ?_ | refine WL.st1 hS (k := 4) rfl (.of rfl) (.of rfl) rfl Tryz.sizeOf68 (by simp) ?_ | refine WL.st1 hS (k := 5) rfl (.of rfl) (.of rfl) rfl Tryz.sizeOf68 (by simp) ?_
    clear hS; intro w hS; try dsimp only [List.set] at hS
    refine WL.nil ?_
    refine And.intro (by intro h; cases h) ?_
    refine WD.done (by kernel_rfl) ?_
    refine WC.region ?_
    refine WL.val (.move (.of rfl)) rfl ?_
    replace hS := hS.vecOf (k := 0) (E := 3) (size := 1) (n := 1) rfl rfl (by unfold maxLen; omega); try dsimp only [List.set] at hS
    replace hS := hS.push (k := 4) rfl; try dsimp only [List.set] at hS
    refine WL.call Tryz.func37 rfl (evs_cons (.of rfl) (evs_cons (.of rfl) (evs_cons (.of rfl) evs_nil))) rfl (put_any _ _ _ _ _ _ _ _ _ _ _ _ hS (by omega)) ?_
    clear hS
    rintro _ w ⟨rfl, lv, hS⟩
    refine WL.nil ?_
    refine end0 Tryz.results39 ?_
    replace hS := hS.say (k := 4) (A' := rowsA 3 (st ++ [(.slice (some (ad b15 0)) 1 1, [(n : Int)])])) rfl (fun h hh => by rw [rowsA, List.map_append]; exact hh); try dsimp only [List.set] at hS
    exact ⟨_, rfl, rfl, _, _, _, _, hS⟩
   ·
    refine WL.buildSlice (cs := [_]) hS (parts_cons (.of rfl) parts_nil) Tryz.underlying68 Tryz.sizeOf3 Tryz.zeroValue3 rfl rfl rfl rfl ?_
    clear hS; intro b23 w hS
    refine WL.nil ?_
    clear hH
    have hH : ∃ R, Sat B w I (blk bc [.slice la n lc, .slice sa st.length sc, .slice aa ats.length ac] 81 :: R) := ⟨_, (hS.pick 3 rfl)⟩
    refine And.intro (by intro _ _; exact hH) ?_
    refine WD.branch [13] (by kernel_rfl) rfl (WO.cons rfl ?_ (WO.nil))
    replace hS := hS.pick 1 rfl; try dsimp only [List.eraseIdx] at hS
    first | refine WL.append (size := 1) (bytes := 24) hS (.of rfl) (.of rfl) (k := 0) rfl Tryz.underlying79 info68_37 rfl rfl rfl rfl rfl rfl rfl ⟨by omega, by unfold maxLen; omega⟩ rfl ?_ | refine WL.append (size := 1) (bytes := 24) hS (.of rfl) (.of rfl) (k := 1) rfl Tryz.underlying79 info68_37 rfl rfl rfl rfl rfl rfl rfl ⟨by omega, by unfold maxLen; omega⟩ rfl ?_ | refine WL.append (size := 1) (bytes := 24) hS (.of rfl) (.of rfl) (k := 2) rfl Tryz.underlying79 info68_37 rfl rfl rfl rfl rfl rfl rfl ⟨by omega, by unfold maxLen; omega⟩ rfl ?_ | refine WL.append (size := 1) (bytes := 24) hS (.of rfl) (.of rfl) (k := 3) rfl Tryz.underlying79 info68_37 rfl rfl rfl rfl rfl rfl rfl ⟨by omega, by unfold maxLen; omega⟩ rfl ?_ | refine WL.append (size := 1) (bytes := 24) hS (.of rfl) (.of rfl) (k := 4) rfl Tryz.underlying79 info68_37 rfl rfl rfl rfl rfl rfl rfl ⟨by omega, by unfold maxLen; omega⟩ rfl ?_ | refine WL.append (size := 1) (bytes := 24) hS (.of rfl) (.of rfl) (k := 5) rfl Tryz.underlying79 info68_37 rfl rfl rfl rfl rfl rfl rfl ⟨by omega, by unfold maxLen; omega⟩ rfl ?_ | refine WL.append (size := 1) (bytes := 24) hS (.of rfl) (.of rfl) (k := 6) rfl Tryz.underlying79 info68_37 rfl rfl rfl rfl rfl rfl rfl ⟨by omega, by unfold maxLen; omega⟩ rfl ?_
    clear hS; intro v17 w hS; try dsimp only [List.set] at hS
    first | obtain ⟨a17, c17, rfl, hcap17, _⟩ := hS.vecSlice (k := 0) (v := v17) rfl | obtain ⟨a17, c17, rfl, hcap17, _⟩ := hS.vecSlice (k := 1) (v := v17) rfl | obtain ⟨a17, c17, rfl, hcap17, _⟩ := hS.vecSlice (k := 2) (v := v17) rfl | obtain ⟨a17, c17, rfl, hcap17, _⟩ := hS.vecSlice (k := 3) (v := v17) rfl | obtain ⟨a17, c17, rfl, hcap17, _⟩ := hS.vecSlice (k := 4) (v := v17) rfl | obtain ⟨a17, c17, rfl, hcap17, _⟩ := hS.vecSlice (k := 5) (v := v17) rfl | obtain ⟨a17, c17, rfl, hcap17, _⟩ := hS.vecSlice (k := 6) (v := v17) rfl
    refine WL.nil ?_
    clear hH
    have hH : ∃ R, Sat B w I (blk bc [.slice la n lc, .slice sa st.length sc, .slice aa ats.length ac] 81 :: R) := ⟨_, (hS.pick 2 rfl)⟩
    refine And.intro (by intro _ _; exact hH) ?_
    refine WD.branch [20] (by kernel_rfl) rfl (WO.cons rfl ?_ (WO.nil))
    first | refine WL.append (size := 1) (bytes := 8) hS (.of rfl) (.of rfl) (k := 0) rfl Tryz.underlying68 info3_37 rfl rfl rfl rfl rfl rfl rfl ⟨by omega, by unfold maxLen; omega⟩ rfl ?_ | refine WL.append (size := 1) (bytes := 8) hS (.of rfl) (.of rfl) (k := 1) rfl Tryz.underlying68 info3_37 rfl rfl rfl rfl rfl rfl rfl ⟨by omega, by unfold maxLen; omega⟩ rfl ?_ | refine WL.append (size := 1) (bytes := 8) hS (.of rfl) (.of rfl) (k := 2) rfl Tryz.underlying68 info3_37 rfl rfl rfl rfl rfl rfl rfl ⟨by omega, by unfold maxLen; omega⟩ rfl ?_ | refine WL.append (size := 1) (bytes := 8) hS (.of rfl) (.of rfl) (k := 3) rfl Tryz.underlying68 info3_37 rfl rfl rfl rfl rfl rfl rfl ⟨by omega, by unfold maxLen; omega⟩ rfl ?_ | refine WL.append (size := 1) (bytes := 8) hS (.of rfl) (.of rfl) (k := 4) rfl Tryz.underlying68 info3_37 rfl rfl rfl rfl rfl rfl rfl ⟨by omega, by unfold maxLen; omega⟩ rfl ?_ | refine WL.append (size := 1) (bytes := 8) hS (.of rfl) (.of rfl) (k := 5) rfl Tryz.underlying68 info3_37 rfl rfl rfl rfl rfl rfl rfl ⟨by omega, by unfold maxLen; omega⟩ rfl ?_
    clear hS; intro v24 w hS; try dsimp only [List.set] at hS
    first | obtain ⟨a24, c24, rfl, hcap24, _⟩ := hS.vecSlice (k := 0) (v := v24) rfl | obtain ⟨a24, c24, rfl, hcap24, _⟩ := hS.vecSlice (k := 1) (v := v24) rfl | obtain ⟨a24, c24, rfl, hcap24, _⟩ := hS.vecSlice (k := 2) (v := v24) rfl | obtain ⟨a24, c24, rfl, hcap24, _⟩ := hS.vecSlice (k := 3) (v := v24) rfl | obtain ⟨a24, c24, rfl, hcap24, _⟩ := hS.vecSlice (k := 4) (v := v24) rfl | obtain ⟨a24, c24, rfl, hcap24, _⟩ := hS.vecSlice (k := 5) (v := v24) rfl
    refine WL.nil ?_
    clear hH
    have hH : ∃ R, Sat B w I (blk bc [.slice la n lc, .slice sa st.length sc, .slice aa ats.length ac] 81 :: R) := ⟨_, (hS.pick 1 rfl)⟩
    refine And.intro (by intro _ _; exact hH) ?_
    refine WD.takeP (i := 21) rfl (by kernel_rfl) (by kernel_rfl) (by kernel_rfl) (fun w => (.nilCheck (.of rfl))) rfl ?_
    refine WD.takeP (i := 22) rfl (by kernel_rfl) (by kernel_rfl) (by kernel_rfl) (fun w => (by first | exact .fieldAddr 1 (.of rfl) Tryz.underlying81 rfl rfl Tryz.sizeOf79 rfl | exact .fieldAddrI 1 (.of rfl) Tryz.underlying81 rfl rfl Tryz.sizeOf79 rfl)) rfl ?_
    refine WD.branch [23] (by kernel_rfl) rfl (WO.cons rfl ?_ (WO.nil))
    first | refine WL.st1 hS (k := 0) rfl (.of rfl) (.of rfl) rfl Tryz.sizeOf79 (by simp) ?_ | refine WL.st1 hS (k := 1) rfl (.of rfl) (.of rfl) rfl Tryz.sizeOf79 (by simp) ?_ | refine WL.st1 hS (k := 2) rfl (.of rfl) (.of rfl) rfl Tryz.sizeOf79 (by simp) ?_ | refine WL.st1 hS (k := 3) rfl (.of rfl) (.of rfl) rfl Tryz.sizeOf79 (by simp) ?_ | refine WL.st1 hS (k := 4) rfl (.of rfl) (.of rfl) rfl Tryz.sizeOf79 (by simp) ?_ | refine WL.st1 hS (k := 5) rfl (.of rfl) (.of rfl) rfl Tryz.sizeOf79 (by simp) ?_
    clear hS; intro w hS; try dsimp only [List.set] at hS
    refine WL.nil ?_
    refine And.intro (by intro h; cases h) ?_
    refine WD.takeP (i := 24) rfl (by kernel_rfl) (by kernel_rfl) (by kernel_rfl) (fun w => (.nilCheck (.of rfl))) rfl ?_
    refine WD.takeP (i := 25) rfl (by kernel_rfl) (by kernel_rfl) (by kernel_rfl) (fun w => (by first | exact .fieldAddr 2 (.of rfl) Tryz.underlying81 rfl rfl Tryz.sizeOf68 rfl | exact .fieldAddrI 2 (.of rfl) Tryz.underlying81 rfl rfl Tryz.sizeOf68 rfl)) rfl ?_
    refine WD.branch [26] (by kernel_rfl) rfl (WO.cons rfl ?_ (WO.nil))
    first | refine WL.st1 hS (k := 0) rfl (.of rfl) (.of rfl) rfl Tryz.sizeOf68 (by simp) ?_ | refine WL.st1 hS (k := 1) rfl (.of rfl) (.of rfl) rfl Tryz.sizeOf68 (by simp) ?_ | refine WL.st1 hS (k := 2) rfl (.of rfl) (.of rfl) rfl Tryz.sizeOf68 (by simp) ?_ | refine WL.st1 hS (k := 3) rfl (.of rfl) (.of rfl) rfl Tryz.sizeOf68 (by simp) ?_ | refine WL.st1 hS (k := 4) rfl (.of rfl) (.of rfl) rfl Tryz.sizeOf68 (by simp) ?_ | refine WL.st1 hS (k := 5) rfl (.of rfl) (.of rfl) rfl Tryz.sizeOf68 (by simp) ?_
    clear hS; intro w hS; try dsimp only [List.set] at hS
    refine WL.nil ?_
    refine And.intro (by intro h; cases h) ?_
    refine WD.done (by kernel_rfl) ?_
    refine WC.region ?_
    refine WL.val (.move (.of rfl)) rfl ?_
    replace hS := hS.vecOf (k := 0) (E := 3) (size := 1) (n := 1) rfl rfl (by unfold maxLen; omega); try dsimp only [List.set] at hS
    replace hS := hS.push (k := 4) rfl; try dsimp only [List.set] at hS
    refine WL.call Tryz.func37 rfl (evs_cons (.of rfl) (evs_cons (.of rfl) (evs_cons (.of rfl) evs_nil))) rfl (put_any _ _ _ _ _ _ _ _ _ _ _ _ hS (by omega)) ?_
    clear hS
    rintro _ w ⟨rfl, lv, hS⟩
    refine WL.nil ?_
    refine end0 Tryz.results39 ?_
    replace hS := hS.say (k := 4) (A' := rowsA 3 (st ++ [(.slice (some (ad b15 0)) 1 1, [(n : Int)])])) rfl (fun h hh => by rw [rowsA, List.map_append]; exact hh); try dsimp only [List.set] at hS
    exact ⟨_, rfl, rfl, _, _, _, _, hS⟩
  ·
   refine WL.buildSlice (cs := [_]) hS (parts_cons (.of rfl) parts_nil) Tryz.underlying68 Tryz.sizeOf3 Tryz.zeroValue3 rfl rfl rfl rfl ?_
   clear hS; intro b23 w hS
   refine WL.nil ?_
   clear hH
   have hH : ∃ R, Sat B w I (blk bc [.slice la n lc, .slice sa st.length sc, .slice aa ats.length ac] 81 :: R) := ⟨_, (hS.pick 2 rfl)⟩
   refine And.intro (by intro _ _; exact hH) ?_
   refine WD.branch [12] (by kernel_rfl) rfl (WO.cons rfl ?_ (WO.nil))
   refine WL.buildSlice (cs := [_]) hS (parts_cons (.of rfl) parts_nil) Tryz.underlying79 Tryz.sizeOf68 Tryz.zeroValue68 rfl rfl rfl rfl ?_
   clear hS; intro b16 w hS
   refine WL.nil ?_
   clear hH
   have hH : ∃ R, Sat B w I (blk bc [.slice la n lc, .slice sa st.length sc, .slice aa ats.length ac] 81 :: R) := ⟨_, (hS.pick 3 rfl)⟩
   refine And.intro (by intro _ _; exact hH) ?_
   refine WD.branch [13] (by kernel_rfl) rfl (WO.cons rfl ?_ (WO.nil))
   first | refine WL.append (size := 1) (bytes := 24) hS (.of rfl) (.of rfl) (k := 0) rfl Tryz.underlying79 info68_37 rfl rfl rfl rfl rfl rfl rfl ⟨by omega, by unfold maxLen; omega⟩ rfl ?_ | refine WL.append (size := 1) (bytes := 24) hS (.of rfl) (.of rfl) (k := 1) rfl Tryz.underlying79 info68_37 rfl rfl rfl rfl rfl rfl rfl ⟨by omega, by unfold maxLen; omega⟩ rfl ?_ | refine WL.append (size := 1) (bytes := 24) hS (.of rfl) (.of rfl) (k := 2) rfl Tryz.underlying79 info68_37 rfl rfl rfl rfl rfl rfl rfl ⟨by omega, by unfold maxLen; omega⟩ rfl ?_ | refine WL.append (size := 1) (bytes := 24) hS (.of rfl) (.of rfl) (k := 3) rfl Tryz.underlying79 info68_37 rfl rfl rfl rfl rfl rfl rfl ⟨by omega, by unfold maxLen; omega⟩ rfl ?_ | refine WL.append (size := 1) (bytes := 24) hS (.of rfl) (.of rfl) (k := 4) rfl Tryz.underlying79 info68_37 rfl rfl rfl rfl rfl rfl rfl ⟨by omega, by unfold maxLen; omega⟩ rfl ?_ | refine WL.append (size := 1) (bytes := 24) hS (.of rfl) (.of rfl) (k := 5) rfl Tryz.underlying79 info68_37 rfl rfl rfl rfl rfl rfl rfl ⟨by omega, by unfold maxLen; omega⟩ rfl ?_ | refine WL.append (size := 1) (bytes := 24) hS (.of rfl) (.of rfl) (k := 6) rfl Tryz.underlying79 info68_37 rfl rfl rfl rfl rfl rfl rfl ⟨by omega, by unfold maxLen; omega⟩ rfl ?_
   clear hS; intro v17 w hS; try dsimp only [List.set] at hS
   first | obtain ⟨a17, c17, rfl, hcap17, _⟩ := hS.vecSlice (k := 0) (v := v17) rfl | obtain ⟨a17, c17, rfl, hcap17, _⟩ := hS.vecSlice (k := 1) (v := v17) rfl | obtain ⟨a17, c17, rfl, hcap17, _⟩ := hS.vecSlice (k := 2) (v := v17) rfl | obtain ⟨a17, c17, rfl, hcap17, _⟩ := hS.vecSlice (k := 3) (v := v17) rfl | obtain ⟨a17, c17, rfl, hcap17, _⟩ := hS.vecSlice (k := 4) (v := v17) rfl | obtain ⟨a17, c17, rfl, hcap17, _⟩ := hS.vecSlice (k := 5) (v := v17) rfl | obtain ⟨a17, c17, rfl, hcap17, _⟩ := hS.vecSlice (k := 6) (v := v17) rfl
   refine WL.nil ?_
   clear hH
   have hH : ∃ R, Sat B w I (blk bc [.slice la n lc, .slice sa st.length sc, .slice aa ats.length ac] 81 :: R) := ⟨_, (hS.pick 2 rfl)⟩
   refine And.intro (by intro _ _; exact hH) ?_
   refine WD.branch [20] (by kernel_rfl) rfl (WO.cons rfl ?_ (WO.nil))
   first | refine WL.append (size := 1) (bytes := 8) hS (.of rfl) (.of rfl) (k := 0) rfl Tryz.underlying68 info3_37 rfl rfl rfl rfl rfl rfl rfl ⟨by omega, by unfold maxLen; omega⟩ rfl ?_ | refine WL.append (size := 1) (bytes := 8) hS (.of rfl) (.of rfl) (k := 1) rfl Tryz.underlying68 info3_37 rfl rfl rfl rfl rfl rfl rfl ⟨by omega, by unfold maxLen; omega⟩ rfl ?_ | refine WL.append (size := 1) (bytes := 8) hS (.of rfl) (.of rfl) (k := 2) rfl Tryz.underlying68 info3_37 rfl rfl rfl rfl rfl rfl rfl ⟨by omega, by unfold maxLen; omega⟩ rfl ?_ | refine WL.append (size := 1) (bytes := 8) hS (.of rfl) (.of rfl) (k := 3) rfl Tryz.underlying68 info3_37 rfl rfl rfl rfl rfl rfl rfl ⟨by omega, by unfold maxLen; omega⟩ rfl ?_ | refine WL.append (size := 1) (bytes := 8) hS (.of rfl) (.of rfl) (k := 4) rfl Tryz.underlying68 info3_37 rfl rfl rfl rfl rfl rfl rfl ⟨by omega, by unfold maxLen; omega⟩ rfl ?_ | refine WL.append (size := 1) (bytes := 8) hS (.of rfl) (.of rfl) (k := 5) rfl Tryz.underlying68 info3_37 rfl rfl rfl rfl rfl rfl rfl ⟨by omega, by unfold maxLen; omega⟩ rfl ?_
   clear hS; intro v24 w hS; try dsimp only [List.set] at hS
   first | obtain ⟨a24, c24, rfl, hcap24, _⟩ := hS.vecSlice (k := 0) (v := v24) rfl | obtain ⟨a24, c24, rfl, hcap24, _⟩ := hS.vecSlice (k := 1) (v := v24) rfl | obtain ⟨a24, c24, rfl, hcap24, _⟩ := hS.vecSlice (k := 2) (v := v24) rfl | obtain ⟨a24, c24, rfl, hcap24, _⟩ := hS.vecSlice (k := 3) (v := v24) rfl | obtain ⟨a24, c24, rfl, hcap24, _⟩ := hS.vecSlice (k := 4) (v := v24) rfl | obtain ⟨a24, c24, rfl, hcap24, _⟩ := hS.vecSlice (k := 5) (v := v24) rfl
   refine WL.nil ?_
   clear hH
   have hH : ∃ R, Sat B w I (blk bc [.slice la n lc, .slice sa st.length sc, .slice aa ats.length ac] 81 :: R) := ⟨_, (hS.pick 1 rfl)⟩
   refine And.intro (by intro _ _; exact hH) ?_
   refine WD.takeP (i := 21) rfl (by kernel_rfl) (by kernel_rfl) (by kernel_rfl) (fun w => (.nilCheck (.of rfl))) rfl ?_
   refine WD.takeP (i := 22) rfl (by kernel_rfl) (by kernel_rfl) (by kernel_rfl) (fun w => (by first | exact .fieldAddr 1 (.of rfl) Tryz.underlying81 rfl rfl Tryz.sizeOf79 rfl | exact .fieldAddrI 1 (.of rfl) Tryz.underlying81 rfl rfl Tryz.sizeOf79 rfl)) rfl ?_
   refine WD.branch [23] (by kernel_rfl) rfl (WO.cons rfl ?_ (WO.nil))
   first | refine WL.st1 hS (k := 0) rfl (.of rfl) (.of rfl) rfl Tryz.sizeOf79 (by simp) ?_ | refine WL.st1 hS (k := 1) rfl (.of rfl) (.of rfl) rfl Tryz.sizeOf79 (by simp) ?_ | refine WL.st1 hS (k := 2) rfl (.of rfl) (.of rfl) rfl Tryz.sizeOf79 (by simp) ?_ | refine WL.st1 hS (k := 3) rfl (.of rfl) (.of rfl) rfl Tryz.sizeOf79 (by simp) ?_ | refine WL.st1 hS (k := 4) rfl (.of rfl) (.of rfl) rfl Tryz.sizeOf79 (by simp) ?_ | refine WL.st1 hS (k := 5) rfl (.of rfl) (.of rfl) rfl Tryz.sizeOf79 (by simp) ?_
   clear hS; intro w hS; try dsimp only [List.set] at hS
   refine WL.nil ?_
   refine And.intro (by intro h; cases h) ?_
   refine WD.takeP (i := 24) rfl (by kernel_rfl) (by kernel_rfl) (by kernel_rfl) (fun w => (.nilCheck (.of rfl))) rfl ?_
   refine WD.takeP (i := 25) rfl (by kernel_rfl) (by kernel_rfl) (by kernel_rfl) (fun w => (by first | exact .fieldAddr 2 (.of rfl) Tryz.underlying81 rfl rfl Tryz.sizeOf68 rfl | exact .fieldAddrI 2 (.of rfl) Tryz.underlying81 rfl rfl Tryz.sizeOf68 rfl)) rfl ?_
   refine WD.branch [26] (by kernel_rfl) rfl (WO.cons rfl ?_ (WO.nil))
   first | refine WL.st1 hS (k := 0) rfl (.of rfl) (.of rfl) rfl Tryz.sizeOf68 (by simp) ?_ | refine WL.st1 hS (k := 1) rfl (.of rfl) (.of rfl) rfl Tryz.sizeOf68 (by simp) ?_ | refine WL.st1 hS (k := 2) rfl (.of rfl) (.of rfl) rfl Tryz.sizeOf68 (by simp) ?_ | refine WL.st1 hS (k := 3) rfl (.of rfl) (.of rfl) rfl Tryz.sizeOf68 (by simp) ?_ | refine WL.st1 hS (k := 4) rfl (.of rfl) (.of rfl) rfl Tryz.sizeOf68 (by simp) ?_ | refine WL.st1 hS (k := 5) rfl (.of rfl) (.of rfl) rfl Tryz.sizeOf68 (by simp) ?_
   clear hS; intro w hS; try dsimp only [List.set] at hS
   refine WL.nil ?_
   refine And.intro (by intro h; cases h) ?_
   refine WD.done (by kernel_rfl) ?_
   refine WC.region ?_
   refine WL.val (.move (.of rfl)) rfl ?_
   replace hS := hS.vecOf (k := 0) (E := 3) (size := 1) (n := 1) rfl rfl (by unfold maxLen; omega); try dsimp only [List.set] at hS
   replace hS := hS.push (k := 4) rfl; try dsimp only [List.set] at hS
   refine WL.call Tryz.func37 rfl (evs_cons (.of rfl) (evs_cons (.of rfl) (evs_cons (.of rfl) evs_nil))) rfl (put_any _ _ _ _ _ _ _ _ _ _ _ _ hS (by omega)) ?_
   clear hS
   rintro _ w ⟨rfl, lv, hS⟩
   refine WL.nil ?_
   refine end0 Tryz.results39 ?_
   replace hS := hS.say (k := 4) (A' := rowsA 3 (st ++ [(.slice (some (ad b15 0)) 1 1, [(n : Int)])])) rfl (fun h hh => by rw [rowsA, List.map_append]; exact hh); try dsimp only [List.set] at hS
   exact ⟨_, rfl, rfl, _, _, _, _, hS⟩
 ·
  refine WL.buildSlice (cs := [_]) hS (parts_cons (.of rfl) parts_nil) Tryz.underlying68 Tryz.sizeOf3 Tryz.zeroValue3 rfl rfl rfl rfl ?_
  clear hS; intro b23 w hS
  refine WL.nil ?_
  clear hH
  have hH : ∃ R, Sat B w I (blk bc [.slice la n lc, .slice sa st.length sc, .slice aa ats.length ac] 81 :: R) := ⟨_, (hS.pick 1 rfl)⟩
  refine And.intro (by intro _ _; exact hH) ?_
  refine WD.branch [11] (by kernel_rfl) rfl (WO.cons rfl ?_ (WO.nil))
  refine WL.buildSlice (cs := [_]) hS (parts_cons (.of rfl) parts_nil) Tryz.underlying68 Tryz.sizeOf3 Tryz.zeroValue3 rfl rfl rfl rfl ?_
  clear hS; intro b15 w hS
  refine WL.nil ?_
  clear hH
  have hH : ∃ R, Sat B w I (blk bc [.slice la n lc, .slice sa st.length sc, .slice aa ats.length ac] 81 :: R) := ⟨_, (hS.pick 2 rfl)⟩
  refine And.intro (by intro _ _; exact hH) ?_
  refine WD.branch [12] (by kernel_rfl) rfl (WO.cons rfl ?_ (WO.nil))
  refine WL.buildSlice (cs := [_]) hS (parts_cons (.of rfl) parts_nil) Tryz.underlying79 Tryz.sizeOf68 Tryz.zeroValue68 rfl rfl rfl rfl ?_
  clear hS; intro b16 w hS
  refine WL.nil ?_
  clear hH
  have hH : ∃ R, Sat B w I (blk bc [.slice la n lc, .slice sa st.length sc, .slice aa ats.length ac] 81 :: R) := ⟨_, (hS.pick 3 rfl)⟩
  refine And.intro (by intro _ _; exact hH) ?_
  refine WD.branch [13] (by kernel_rfl) rfl (WO.cons rfl ?_ (WO.nil))
  first | refine WL.append (size := 1) (bytes := 24) hS (.of rfl) (.of rfl) (k := 0) rfl Tryz.underlying79 info68_37 rfl rfl rfl rfl rfl rfl rfl ⟨by omega, by unfold maxLen; omega⟩ rfl ?_ | refine WL.append (size := 1) (bytes := 24) hS (.of rfl) (.of rfl) (k := 1) rfl Tryz.underlying79 info68_37 rfl rfl rfl rfl rfl rfl rfl ⟨by omega, by unfold maxLen; omega⟩ rfl ?_ | refine WL.append (size := 1) (bytes := 24) hS (.of rfl) (.of rfl) (k := 2) rfl Tryz.underlying79 info68_37 rfl rfl rfl rfl rfl rfl rfl ⟨by omega, by unfold maxLen; omega⟩ rfl ?_ | refine WL.append (size := 1) (bytes := 24) hS (.of rfl) (.of rfl) (k := 3) rfl Tryz.underlying79 info68_37 rfl rfl rfl rfl rfl rfl rfl ⟨by omega, by unfold maxLen; omega⟩ rfl ?_ | refine WL.append (size := 1) (bytes := 24) hS (.of rfl) (.of rfl) (k := 4) rfl Tryz.underlying79 info68_37 rfl rfl rfl rfl rfl rfl rfl ⟨by omega, by unfold maxLen; omega⟩ rfl ?_ | refine WL.append (size := 1) (bytes := 24) hS (.of rfl) (.of rfl) (k := 5) rfl Tryz.underlying79 info68_37 rfl rfl rfl rfl rfl rfl rfl ⟨by omega, by unfold maxLen; omega⟩ rfl ?_ | refine WL.append (size := 1) (bytes := 24) hS (.of rfl) (.of rfl) (k := 6) rfl Tryz.underlying79 info68_37 rfl rfl rfl rfl rfl rfl rfl ⟨by omega, by unfold maxLen; omega⟩ rfl ?_
  clear hS; intro v17 w hS; try dsimp only [List.set] at hS
  first | obtain ⟨a17, c17, rfl, hcap17, _⟩ := hS.vecSlice (k := 0) (v := v17) rfl | obtain ⟨a17, c17, rfl, hcap17, _⟩ := hS.vecSlice (k := 1) (v := v17) rfl | obtain ⟨a17, c17, rfl, hcap17, _⟩ := hS.vecSlice (k := 2) (v := v17) rfl | obtain ⟨a17, c17, rfl, hcap17, _⟩ := hS.vecSlice (k := 3) (v := v17) rfl | obtain ⟨a17, c17, rfl, hcap17, _⟩ := hS.vecSlice (k := 4) (v := v17) rfl | obtain ⟨a17, c17, rfl, hcap17, _⟩ := hS.vecSlice (k := 5) (v := v17) rfl | obtain ⟨a17, c17, rfl, hcap17, _⟩ := hS.vecSlice (k := 6) (v := v17) rfl
  refine WL.nil ?_
  clear hH
  have hH : ∃ R, Sat B w I (blk bc [.slice la n lc, .slice sa st.length sc, .slice aa ats.length ac] 81 :: R) := ⟨_, (hS.pick 2 rfl)⟩
  refine And.intro (by intro _ _; exact hH) ?_
  refine WD.branch [20] (by kernel_rfl) rfl (WO.cons rfl ?_ (WO.nil))
  replace hS := hS.pick 1 rfl; try dsimp only [List.eraseIdx] at hS
  first | refine WL.append (size := 1) (bytes := 8) hS (.of rfl) (.of rfl) (k := 0) rfl Tryz.underlying68 info3_37 rfl rfl rfl rfl rfl rfl rfl ⟨by omega, by unfold maxLen; omega⟩ rfl ?_ | refine WL.append (size := 1) (bytes := 8) hS (.of rfl) (.of rfl) (k := 1) rfl Tryz.underlying68 info3_37 rfl rfl rfl rfl rfl rfl rfl ⟨by omega, by unfold maxLen; omega⟩ rfl ?_ | refine WL.append (size := 1) (bytes := 8) hS (.of rfl) (.of rfl) (k := 2) rfl Tryz.underlying68 info3_37 rfl rfl rfl rfl rfl rfl rfl ⟨by omega, by unfold maxLen; omega⟩ rfl ?_ | refine WL.append (size := 1) (bytes := 8) hS (.of rfl) (.of rfl) (k := 3) rfl Tryz.underlying68 info3_37 rfl rfl rfl rfl rfl rfl rfl ⟨by omega, by unfold maxLen; omega⟩ rfl ?_ | refine WL.append (size := 1) (bytes := 8) hS (.of rfl) (.of rfl) (k := 4) rfl Tryz.underlying68 info3_37 rfl rfl rfl rfl rfl rfl rfl ⟨by omega, by unfold maxLen; omega⟩ rfl ?_ | refine WL.append (size := 1) (bytes := 8) hS (.of rfl) (.of rfl) (k := 5) rfl Tryz.underlying68 info3_37 rfl rfl rfl rfl rfl rfl rfl ⟨by omega, by unfold maxLen; omega⟩ rfl ?_
  clear hS; intro v24 w hS; try dsimp only [List.set] at hS
  first | obtain ⟨a24, c24, rfl, hcap24, _⟩ := hS.vecSlice (k := 0) (v := v24) rfl | obtain ⟨a24, c24, rfl, hcap24, _⟩ := hS.vecSlice (k := 1) (v := v24) rfl | obtain ⟨a24, c24, rfl, hcap24, _⟩ := hS.vecSlice (k := 2) (v := v24) rfl | obtain ⟨a24, c24, rfl, hcap24, _⟩ := hS.vecSlice (k := 3) (v := v24) rfl | obtain ⟨a24, c24, rfl, hcap24, _⟩ := hS.vecSlice (k := 4) (v := v24) rfl | obtain ⟨a24, c24, rfl, hcap24, _⟩ := hS.vecSlice (k := 5) (v := v24) rfl
  refine WL.nil ?_
  clear hH
  have hH : ∃ R, Sat B w I (blk bc [.slice la n lc, .slice sa st.length sc, .slice aa ats.length ac] 81 :: R) := ⟨_, (hS.pick 1 rfl)⟩
  refine And.intro (by intro _ _; exact hH) ?_
  refine WD.takeP (i := 21) rfl (by kernel_rfl) (by kernel_rfl) (by kernel_rfl) (fun w => (.nilCheck (.of rfl))) rfl ?_
  refine WD.takeP (i := 22) rfl (by kernel_rfl) (by kernel_rfl) (by kernel_rfl) (fun w => (by first | exact .fieldAddr 1 (.of rfl) Tryz.underlying81 rfl rfl Tryz.sizeOf79 rfl | exact .fieldAddrI 1 (.of rfl) Tryz.underlying81 rfl rfl Tryz.sizeOf79 rfl)) rfl ?_
  refine WD.branch [23] (by kernel_rfl) rfl (WO.cons rfl ?_ (WO.nil))
  first | refine WL.st1 hS (k := 0) rfl (.of rfl) (.of rfl) rfl Tryz.sizeOf79 (by simp) ?_ | refine WL.st1 hS (k := 1) rfl (.of rfl) (.of rfl) rfl Tryz.sizeOf79 (by simp) ?_ | refine WL.st1 hS (k := 2) rfl (.of rfl) (.of rfl) rfl Tryz.sizeOf79 (by simp) ?_ | refine WL.st1 hS (k := 3) rfl (.of rfl) (.of rfl) rfl Tryz.sizeOf79 (by simp) ?_ | refine WL.st1 hS (k := 4) rfl (.of rfl) (.of rfl) rfl Tryz.sizeOf79 (by simp) ?_ | refine WL.st1 hS (k := 5) rfl (.of rfl) (.of rfl) rfl Tryz.sizeOf79 (by simp) ?_
  clear hS; intro w hS; try dsimp only [List.set] at hS
  refine WL.nil ?_
  refine And.intro (by intro h; cases h) ?_
  refine WD.takeP (i := 24) rfl (by kernel_rfl) (by kernel_rfl) (by kernel_rfl) (fun w => (.nilCheck (.of rfl))) rfl ?_
  refine WD.takeP (i := 25) rfl (by kernel_rfl) (by kernel_rfl) (by kernel_rfl) (fun w => (by first | exact .fieldAddr 2 (.of rfl) Tryz.underlying81 rfl rfl Tryz.sizeOf68 rfl | exact .fieldAddrI 2 (.of rfl) Tryz.underlying81 rfl rfl Tryz.sizeOf68 rfl)) rfl ?_
  refine WD.branch [26] (by kernel_rfl) rfl (WO.cons rfl ?_ (WO.nil))
  first | refine WL.st1 hS (k := 0) rfl (.of rfl) (.of rfl) rfl Tryz.sizeOf68 (by simp) ?_ | refine WL.st1 hS (k := 1) rfl (.of rfl) (.of rfl) rfl Tryz.sizeOf68 (by simp) ?_ | refine WL.st1 hS (k := 2) rfl (.of rfl) (.of rfl) rfl Tryz.sizeOf68 (by simp) ?_ | refine WL.st1 hS (k := 3) rfl (.of rfl) (.of rfl) rfl Tryz.sizeOf68 (by simp) ?_ | refine WL.st1 hS (k := 4) rfl (.of rfl) (.of rfl) rfl Tryz.sizeOf68 (by simp) ?_ | refine WL.st1 hS (k := 5) rfl (.of rfl) (.of rfl) rfl Tryz.sizeOf68 (by simp) ?_
  clear hS; intro w hS; try dsimp only [List.set] at hS
  refine WL.nil ?_
  refine And.intro (by intro h; cases h) ?_
  refine WD.done (by kernel_rfl) ?_
  refine WC.region ?_
  refine WL.val (.move (.of rfl)) rfl ?_
  replace hS := hS.vecOf (k := 0) (E := 3) (size := 1) (n := 1) rfl rfl (by unfold maxLen; omega); try dsimp only [List.set] at hS
  replace hS := hS.push (k := 4) rfl; try dsimp only [List.set] at hS
  refine WL.call Tryz.func37 rfl (evs_cons (.of rfl) (evs_cons (.of rfl) (evs_cons (.of rfl) evs_nil))) rfl (put_any _ _ _ _ _ _ _ _ _ _ _ _ hS (by omega)) ?_
  clear hS
  rintro _ w ⟨rfl, lv, hS⟩
  refine WL.nil ?_
  refine end0 Tryz.results39 ?_
  replace hS := hS.say (k := 4) (A' := rowsA 3 (st ++ [(.slice (some (ad b15 0)) 1 1, [(n : Int)])])) rfl (fun h hh => by rw [rowsA, List.map_append]; exact hh); try dsimp only [List.set] at hS
  exact ⟨_, rfl, rfl, _, _, _, _, hS⟩
theorem close_any (bc : Nat) (lv sv av mv : Value) (P0 : List Cell3) (Q0 : List Pl) (st : List (Value × List Int)) (o : Nat) (bs : List Nat) (ats : List Int) (B w : World) (I : Im) (F : List Assn)
  (hS : Sat B w I (blk bc [lv, sv, av] 81 :: Vec 99 3 lv P0.length (P0.flatMap enc) :: Vec 68 1 sv (st.length + 1) (st.map (·.1) ++ [mv]) :: Vec 3 1 av ats.length (ats.map I64) :: rowsA 3 (st ++ [(mv, (o :: bs).map fun (x : Nat) => (x : Int))]) :: F))
  (hR : RelP I P0 Q0) (hob : ∀ b ∈ bs, b ≠ o ∧ b < P0.length) (ho : o < P0.length) (ko co : Int) (hPo : P0[o]? = some (ko, co, .slice none 0 0)) (hQo : Q0[o]? = some (ko, co, [])) (hn : P0.length ≤ 1000) (hd : st.length ≤ 1000) (hd2 : ats.length = st.length + 1) (hbl : bs.length ≤ 1000) :
  Calls Tryz.prog 40 [ptr bc 0].toArray w (Ret fun v w' => v = .tuple #[] ∧ ∃ lv' sv' av' P' J, Le I J ∧ RelP J P' (closeGo P0.length o Q0 [] bs ++ [(6, 0, [])]) ∧
   Sat B w' J (blk bc [lv', sv', av'] 81 :: Vec 99 3 lv' P'.length (P'.flatMap enc) :: Vec 68 1 sv' st.length (st.map (·.1)) :: Vec 3 1 av' st.length ((ats.take st.length).map I64) :: rowsA 3 st :: F)) := by
 refine calls Tryz.func40 rfl Tryz.ntmps40 rfl ?_
 refine WC.seq ?_
 have hcl := hob
 obtain ⟨gl, cl, rl, rfl, hcl1, hcl2, hcl3, hcl4, hS⟩ := hS.vecOpen (k := 1) rfl (by omega); try dsimp only [List.set] at hS
 obtain ⟨gs, sc, rs, rfl, hsc1, hsc2, hsc3, hsc4, hS⟩ := hS.vecOpen (k := 2) rfl (by omega); try dsimp only [List.set] at hS
 obtain ⟨aa, ac, rfl, hac, _⟩ := hS.vecSlice (k := 3) rfl
 refine WC.region ?_
 refine WL.val (.move (.of rfl)) rfl ?_
 refine WL.val (.nilCheck (.of rfl)) rfl ?_
 first | refine WL.val (.fieldAddr 1 (.of rfl) Tryz.underlying81 rfl rfl Tryz.sizeOf79 rfl) rfl ?_ | refine WL.val (.fieldAddrI 1 (.of rfl) Tryz.underlying81 rfl rfl Tryz.sizeOf79 rfl) rfl ?_
 first | refine WL.val (.ld (.of rfl) hS (k := 0) rfl Tryz.isAgg79 rfl) rfl ?_ | refine WL.val (.ld (.of rfl) hS (k := 1) rfl Tryz.isAgg79 rfl) rfl ?_ | refine WL.val (.ld (.of rfl) hS (k := 2) rfl Tryz.isAgg79 rfl) rfl ?_ | refine WL.val (.ld (.of rfl) hS (k := 3) rfl Tryz.isAgg79 rfl) rfl ?_ | refine WL.val (.ld (.of rfl) hS (k := 4) rfl Tryz.isAgg79 rfl) rfl ?_
 refine WL.val (.lenSlice (.of rfl) Tryz.underlying79) rfl ?_
 refine WL.val (.sub (.of rfl) (.of rfl) ⟨by omega, by omega⟩) rfl ?_
 rw [show ((st.length + 1 : Nat) : Int) - 1 = (st.length : Int) by omega]
 refine WL.val (.assign (.of rfl)) rfl ?_
 refine WL.nil ?_
 refine WC.seq ?_
 refine WC.region ?_
 refine WL.val (.move (.of rfl)) rfl ?_
 refine WL.val (.nilCheck (.of rfl)) rfl ?_
 first | refine WL.val (.fieldAddr 1 (.of rfl) Tryz.underlying81 rfl rfl Tryz.sizeOf79 rfl) rfl ?_ | refine WL.val (.fieldAddrI 1 (.of rfl) Tryz.underlying81 rfl rfl Tryz.sizeOf79 rfl) rfl ?_
 first | refine WL.val (.ld (.of rfl) hS (k := 0) rfl Tryz.isAgg79 rfl) rfl ?_ | refine WL.val (.ld (.of rfl) hS (k := 1) rfl Tryz.isAgg79 rfl) rfl ?_ | refine WL.val (.ld (.of rfl) hS (k := 2) rfl Tryz.isAgg79 rfl) rfl ?_ | refine WL.val (.ld (.of rfl) hS (k := 3) rfl Tryz.isAgg79 rfl) rfl ?_ | refine WL.val (.ld (.of rfl) hS (k := 4) rfl Tryz.isAgg79 rfl) rfl ?_
 refine WL.val (.move (.of rfl)) rfl ?_
 first | refine WL.val (.indexAddr (.of rfl) (.of rfl) (by omega) (by omega) Tryz.underlying79 Tryz.sizeOf68) rfl ?_ | refine WL.val (.indexAddrI (.of rfl) (.of rfl) (by omega) (by omega) Tryz.underlying79 Tryz.sizeOf68) rfl ?_
 refine WL.val (.ld (.of rfl) hS (k := 2) rfl Tryz.isAgg68 (v := mv) (by simp)) rfl ?_
 refine WL.val (.assign (.of rfl)) rfl ?_
 refine WL.nil ?_
 refine WC.seq ?_
 refine WC.drawn (fun w => ∃ R, Sat B w I (blk bc [.slice (some (ad gl 0)) P0.length cl, .slice (some (ad gs 0)) (st.length + 1) sc, .slice aa ats.length ac] 81 :: R)) (fun j => !([16, 19].contains j)) (by kernel_rfl) ?_
 replace hS := hS.drew; generalize w.drew = w at hS ⊢
 have hH : ∃ R, Sat B w I (blk bc [.slice (some (ad gl 0)) P0.length cl, .slice (some (ad gs 0)) (st.length + 1) sc, .slice aa ats.length ac] 81 :: R) := ⟨_, (hS.pick 0 rfl)⟩
 refine WD.takeP (i := 0) rfl (by kernel_rfl) (by kernel_rfl) (by kernel_rfl) (fun w => (.move (.of rfl))) rfl ?_
 refine WD.takeP (i := 1) rfl (by kernel_rfl) (by kernel_rfl) (by kernel_rfl) (fun w => (.move (.of rfl))) rfl ?_
 refine WD.takeP (i := 2) rfl (by kernel_rfl) (by kernel_rfl) (by kernel_rfl) (fun w => (.move (.of rfl))) rfl ?_
 refine WD.takeP (i := 3) rfl (by kernel_rfl) (by kernel_rfl) (by kernel_rfl) (fun w => (.nilCheck (.of rfl))) rfl ?_
 refine WD.takeP (i := 4) rfl (by kernel_rfl) (by kernel_rfl) (by kernel_rfl) (fun w => (by first | exact .fieldAddr 1 (.of rfl) Tryz.underlying81 rfl rfl Tryz.sizeOf79 rfl | exact .fieldAddrI 1 (.of rfl) Tryz.underlying81 rfl rfl Tryz.sizeOf79 rfl)) rfl ?_
 refine WD.take (i := 5) rfl (by kernel_rfl) (by kernel_rfl) (by kernel_rfl) (by kernel_rfl) hH (fun w ⟨R, hS⟩ => (by first | exact (.ld (.of rfl) hS (k := 0) rfl Tryz.isAgg79 rfl))) rfl ?_
 refine WD.takeP (i := 6) rfl (by kernel_rfl) (by kernel_rfl) (by kernel_rfl) (fun w => (.move (.of rfl))) rfl ?_
 refine WD.takeP (i := 7) rfl (by kernel_rfl) (by kernel_rfl) (by kernel_rfl) (fun w => (.slcTo (.of rfl) (.of rfl) (by omega) (by omega) Tryz.underlying79 Tryz.sizeOf68)) rfl ?_
 refine WD.takeP (i := 8) rfl (by kernel_rfl) (by kernel_rfl) (by kernel_rfl) (fun w => (.move (.of rfl))) rfl ?_
 refine WD.takeP (i := 9) rfl (by kernel_rfl) (by kernel_rfl) (by kernel_rfl) (fun w => (.nilCheck (.of rfl))) rfl ?_
 refine WD.takeP (i := 10) rfl (by kernel_rfl) (by kernel_rfl) (by kernel_rfl) (fun w => (by first | exact .fieldAddr 2 (.of rfl) Tryz.underlying81 rfl rfl Tryz.sizeOf68 rfl | exact .fieldAddrI 2 (.of rfl) Tryz.underlying81 rfl rfl Tryz.sizeOf68 rfl)) rfl ?_
 refine WD.take (i := 11) rfl (by kernel_rfl) (by kernel_rfl) (by kernel_rfl) (by kernel_rfl) hH (fun w ⟨R, hS⟩ => (by first | exact (.ld (.of rfl) hS (k := 0) rfl Tryz.isAgg68 rfl))) rfl ?_
 refine WD.takeP (i := 12) rfl (by kernel_rfl) (by kernel_rfl) (by kernel_rfl) (fun w => (.move (.of rfl))) rfl ?_
 refine WD.takeP (i := 13) rfl (by kernel_rfl) (by kernel_rfl) (by kernel_rfl) (fun w => (.slcTo (.of rfl) (.of rfl) (by omega) (by omega) Tryz.underlying68 Tryz.sizeOf3)) rfl ?_
 refine WD.takeP (i := 14) rfl (by kernel_rfl) (by kernel_rfl) (by kernel_rfl) (fun w => (.nilCheck (.of rfl))) rfl ?_
 refine WD.takeP (i := 15) rfl (by kernel_rfl) (by kernel_rfl) (by kernel_rfl) (fun w => (by first | exact .fieldAddr 1 (.of rfl) Tryz.underlying81 rfl rfl Tryz.sizeOf79 rfl | exact .fieldAddrI 1 (.of rfl) Tryz.underlying81 rfl rfl Tryz.sizeOf79 rfl)) rfl ?_
 refine WD.branch [16] (by kernel_rfl) rfl (WO.cons rfl ?_ (WO.nil))
 first | refine WL.st1 hS (k := 0) rfl (.of rfl) (.of rfl) rfl Tryz.sizeOf79 (by simp) ?_ | refine WL.st1 hS (k := 1) rfl (.of rfl) (.of rfl) rfl Tryz.sizeOf79 (by simp) ?_ | refine WL.st1 hS (k := 2) rfl (.of rfl) (.of rfl) rfl Tryz.sizeOf79 (by simp) ?_ | refine WL.st1 hS (k := 3) rfl (.of rfl) (.of rfl) rfl Tryz.sizeOf79 (by simp) ?_ | refine WL.st1 hS (k := 4) rfl (.of rfl) (.of rfl) rfl Tryz.sizeOf79 (by simp) ?_
 clear hS; intro w hS; try dsimp only [List.set] at hS
 refine WL.nil ?_
 refine And.intro (by intro h; cases h) ?_
 refine WD.takeP (i := 17) rfl (by kernel_rfl) (by kernel_rfl) (by kernel_rfl) (fun w => (.nilCheck (.of rfl))) rfl ?_
 refine WD.takeP (i := 18) rfl (by kernel_rfl) (by kernel_rfl) (by kernel_rfl) (fun w => (by first | exact .fieldAddr 2 (.of rfl) Tryz.underlying81 rfl rfl Tryz.sizeOf68 rfl | exact .fieldAddrI 2 (.of rfl) Tryz.underlying81 rfl rfl Tryz.sizeOf68 rfl)) rfl ?_
 refine WD.branch [19] (by kernel_rfl) rfl (WO.cons rfl ?_ (WO.nil))
 first | refine WL.st1 hS (k := 0) rfl (.of rfl) (.of rfl) rfl Tryz.sizeOf68 (by simp) ?_ | refine WL.st1 hS (k := 1) rfl (.of rfl) (.of rfl) rfl Tryz.sizeOf68 (by simp) ?_ | refine WL.st1 hS (k := 2) rfl (.of rfl) (.of rfl) rfl Tryz.sizeOf68 (by simp) ?_ | refine WL.st1 hS (k := 3) rfl (.of rfl) (.of rfl) rfl Tryz.sizeOf68 (by simp) ?_ | refine WL.st1 hS (k := 4) rfl (.of rfl) (.of rfl) rfl Tryz.sizeOf68 (by simp) ?_
 clear hS; intro w hS; try dsimp only [List.set] at hS
 refine WL.nil ?_
 refine And.intro (by intro h; cases h) ?_
 refine WD.done (by kernel_rfl) ?_
 refine WC.seq ?_
 refine WC.seq ?_
 replace hS := hS.vecShut (k := 2) (n := st.length + 1) (cap := sc) rfl hsc1 hsc2 hsc3 hsc4; try dsimp only [List.set] at hS
 replace hS := hS.vecTake (k := 2) (m := (st.length : Int).toNat) rfl (by simp); try dsimp only [List.set] at hS
 obtain ⟨a2, c2, e2, hS⟩ := hS.vecTakeI (k := 3) (f := I64) (m := (st.length : Int).toNat) rfl (by simp; omega); try dsimp only [List.set] at hS
 have e3 : (st.map (·.1) ++ [mv]).take ((st.length : Int).toNat * 1) = st.map (·.1) := by rw [Nat.mul_one]; exact List.take_left' (by simp)
 rw [e3] at hS; rw [e2] at hS
 have e4 : rowsA 3 (st ++ [(mv, (o :: bs).map fun (x : Nat) => (x : Int))]) = SepAll ((st.map fun x => Vec 3 1 x.1 x.2.length (x.2.map I64)) ++ [Vec 3 1 mv ((o :: bs).map fun (x : Nat) => (x : Int)).length (((o :: bs).map fun (x : Nat) => (x : Int)).map I64)]) := by rw [rowsA, List.map_append]; rfl
 rw [e4] at hS
 replace hS := hS.pop (k := 4) rfl; try dsimp only [List.set] at hS
 obtain ⟨gm, cm, rm, hmv, hcm1, hcm2, hcm3, hcm4, hT⟩ := hS.vecOpen (k := 0) rfl (by simp)
 have hml : ((o :: bs).map fun (x : Nat) => (x : Int)).length = bs.length + 1 := by simp
 rw [hml] at hmv; subst hmv; have hS := hT; clear hT; try dsimp only [List.set] at hS
 generalize sliced (some (ad gs 0)) 0 (st.length : Int).toNat sc 1 = sv2 at hS
 generalize Value.slice a2 (ats.take (st.length : Int).toNat).length c2 = av2 at hS
 refine WC.region ?_
 refine WL.val (.move (.of rfl)) rfl ?_
 refine WL.val (.slcFrom (.of rfl) (.of rfl) (by omega) (by omega) Tryz.underlying68 Tryz.sizeOf3) rfl ?_
 obtain ⟨ao, hao, e38⟩ : ∃ ao, (0 < bs.length → ao = some (ad gm 1)) ∧ sliced (some (ad gm 0)) (1 : Int).toNat (bs.length + 1) cm 1 = .slice ao bs.length (cm - 1) := ⟨if cm = 1 then some (ad gm 0) else some (ad gm 1), fun h => if_neg (by omega), by simp [sliced, add_ad]⟩
 rw [e38]
 refine WL.val (.lenSlice (.of rfl) Tryz.underlying68) rfl ?_
 refine WL.val (.move (.of rfl)) rfl ?_
 refine WL.nil ?_
 refine WC.block ?_
 refine WC.loop (σ := List Nat × List Nat × List Cell3 × List Pl × Value × Im) (fun ⟨pre, rem, P, Q, tv, J⟩ => [(0, ptr bc 0), (3, .slice (some (ad gm 0)) (bs.length + 1) cm), (38, .slice ao bs.length (cm - 1)), (39, I64 bs.length), (40, I64 pre.length)]) (fun ⟨pre, rem, P, Q, tv, J⟩ w => bs = pre ++ rem ∧ Le I J ∧ RelX J o P Q ∧ P.length = P0.length ∧ (∃ k c, P[o]? = some (k, c, tv)) ∧ (∃ k c, Q[o]? = some (k, c, pre.map fun (x : Nat) => (x : Int) + 1)) ∧ (pre = [] → tv = .slice none 0 0) ∧ closeGo P0.length o Q (pre.map fun (x : Nat) => (x : Int) + 1) rem = closeGo P0.length o Q0 [] bs ∧ Sat B w J (Vec 3 1 tv pre.length ((pre.map fun (x : Nat) => (x : Int) + 1).map I64) :: blk gm (((o :: bs).map fun (x : Nat) => (x : Int)).map I64 ++ rm) 3 :: blk bc [.slice (some (ad gl 0)) P0.length cl, sv2, av2] 81 :: blk gl (P.flatMap enc ++ rl) 99 :: Vec 68 1 sv2 (st.length : Int).toNat (st.map (·.1)) :: Vec 3 1 av2 (ats.take (st.length : Int).toNat).length ((ats.take (st.length : Int).toNat).map I64) :: rowsA 3 st :: F)) (fun ⟨pre, rem, P, Q, tv, J⟩ => rem.length) ([], bs, P0, Q0, .slice none 0 0, I) ⟨rfl, rfl, rfl, rfl, rfl, trivial⟩ ⟨rfl, Le.refl I, hR.x o, rfl, ⟨_, _, hPo⟩, ⟨_, _, hQo⟩, fun _ => rfl, rfl, hS.vecNil _ _⟩ ?_
 rintro ⟨pre, rem, P, Q, tv, J⟩ w ⟨hbs, hJ, hX, hPl, ⟨ko, co, hPo⟩, ⟨kq, cq, hQo⟩, htv, hgo, hS⟩
 change WC _ _ _ _ [(0, ptr bc 0), (3, .slice (some (ad gm 0)) (bs.length + 1) cm), (38, .slice ao bs.length (cm - 1)), (39, I64 bs.length), (40, I64 pre.length)] w
 have hlen : bs.length = pre.length + rem.length := by rw [hbs, List.length_append]
 refine WC.seq ?_
 refine WC.region ?_
 refine WL.val (.lss (.of rfl) (.of rfl)) rfl ?_
 refine WL.nil ?_
 refine WC.seq ?_
 refine WC.cond rfl (fun hb41 => ?_) (fun hb41 => ?_)
 ·
  have hc41 := hb41; try simp only [Gk.cs0] at hc41
  refine WC.skip ?_
  refine WC.seq ?_
  refine WC.block ?_
  refine WC.seq ?_
  refine WC.region ?_
  obtain ⟨b, r, rfl⟩ : ∃ b r, rem = b :: r := by
   cases rem with
   | nil => simp at hlen; omega
   | cons b r => exact ⟨b, r, rfl⟩
  have hao2 := hao (by omega); subst hao2
  have hbo := (hob b (by rw [hbs]; simp)).1
  have hbl2 := (hob b (by rw [hbs]; simp)).2
  have hpre : pre.length ≤ 1000 := by omega
  first | refine WL.val (.indexAddr (.of rfl) (.of rfl) (by omega) (by omega) Tryz.underlying68 Tryz.sizeOf3) rfl ?_ | refine WL.val (.indexAddrI (.of rfl) (.of rfl) (by omega) (by omega) Tryz.underlying68 Tryz.sizeOf3) rfl ?_
  refine WL.val (.ld (.of rfl) hS (k := 1) rfl Tryz.isAgg3 (v := I64 b) (marks_get hbs rm)) rfl ?_
  refine WL.val (.assign (.of rfl)) rfl ?_
  refine WL.nil ?_
  refine WC.seq ?_
  refine WC.drawn (fun w => ∃ R, Sat B w J (blk gm (((o :: bs).map fun (x : Nat) => (x : Int)).map I64 ++ rm) 3 :: blk bc [.slice (some (ad gl 0)) P0.length cl, sv2, av2] 81 :: blk gl (P.flatMap enc ++ rl) 99 :: R)) (fun j => !([23].contains j)) (by kernel_rfl) ?_
  replace hS := hS.drew; generalize w.drew = w at hS ⊢
  have hH : ∃ R, Sat B w J (blk gm (((o :: bs).map fun (x : Nat) => (x : Int)).map I64 ++ rm) 3 :: blk bc [.slice (some (ad gl 0)) P0.length cl, sv2, av2] 81 :: blk gl (P.flatMap enc ++ rl) 99 :: R) := ⟨_, (((hS.pick 3 rfl).pick 3 rfl).pick 3 rfl)⟩
  refine WD.takeP (i := 0) rfl (by kernel_rfl) (by kernel_rfl) (by kernel_rfl) (fun w => (.move (.of rfl))) rfl ?_
  refine WD.takeP (i := 1) rfl (by kernel_rfl) (by kernel_rfl) (by kernel_rfl) (fun w => (.nilCheck (.of rfl))) rfl ?_
  refine WD.takeP (i := 2) rfl (by kernel_rfl) (by kernel_rfl) (by kernel_rfl) (fun w => (by first | exact .fieldAddr 0 (.of rfl) Tryz.underlying81 rfl rfl Tryz.sizeOf78 rfl | exact .fieldAddrI 0 (.of rfl) Tryz.underlying81 rfl rfl Tryz.sizeOf78 rfl)) rfl ?_
  refine WD.take (i := 3) rfl (by kernel_rfl) (by kernel_rfl) (by kernel_rfl) (by kernel_rfl) hH (fun w ⟨R, hS⟩ => (by first | exact (.ld (.of rfl) hS (k := 0) rfl Tryz.isAgg78 rfl) | exact (.ld (.of rfl) hS (k := 1) rfl Tryz.isAgg78 rfl) | exact (.ld (.of rfl) hS (k := 2) rfl Tryz.isAgg78 rfl))) rfl ?_
  refine WD.takeP (i := 4) rfl (by kernel_rfl) (by kernel_rfl) (by kernel_rfl) (fun w => (.move (.of rfl))) rfl ?_
  refine WD.takeP (i := 5) rfl (by kernel_rfl) (by kernel_rfl) (by kernel_rfl) (fun w => (by first | exact .indexAddr (.of rfl) (.of rfl) (by omega) (by omega) Tryz.underlying68 Tryz.sizeOf3 | exact .indexAddrI (.of rfl) (.of rfl) (by omega) (by omega) Tryz.underlying68 Tryz.sizeOf3)) rfl ?_
  refine WD.take (i := 6) rfl (by kernel_rfl) (by kernel_rfl) (by kernel_rfl) (by kernel_rfl) hH (fun w ⟨R, hS⟩ => .ld (.of rfl) hS (k := 0) rfl Tryz.isAgg3 (v := I64 (o : Nat)) rfl) rfl ?_
  refine WD.takeP (i := 7) rfl (by kernel_rfl) (by kernel_rfl) (by kernel_rfl) (fun w => (.move (.of rfl))) rfl ?_
  refine WD.takeP (i := 8) rfl (by kernel_rfl) (by kernel_rfl) (by kernel_rfl) (fun w => (.nilCheck (.of rfl))) rfl ?_
  refine WD.takeP (i := 9) rfl (by kernel_rfl) (by kernel_rfl) (by kernel_rfl) (fun w => (by first | exact .fieldAddr 0 (.of rfl) Tryz.underlying81 rfl rfl Tryz.sizeOf78 rfl | exact .fieldAddrI 0 (.of rfl) Tryz.underlying81 rfl rfl Tryz.sizeOf78 rfl)) rfl ?_
  refine WD.take (i := 10) rfl (by kernel_rfl) (by kernel_rfl) (by kernel_rfl) (by kernel_rfl) hH (fun w ⟨R, hS⟩ => (by first | exact (.ld (.of rfl) hS (k := 0) rfl Tryz.isAgg78 rfl) | exact (.ld (.of rfl) hS (k := 1) rfl Tryz.isAgg78 rfl) | exact (.ld (.of rfl) hS (k := 2) rfl Tryz.isAgg78 rfl))) rfl ?_
  refine WD.takeP (i := 11) rfl (by kernel_rfl) (by kernel_rfl) (by kernel_rfl) (fun w => (.move (.of rfl))) rfl ?_
  refine WD.takeP (i := 12) rfl (by kernel_rfl) (by kernel_rfl) (by kernel_rfl) (fun w => (by first | exact .indexAddr (.of rfl) (.of rfl) (by omega) (by omega) Tryz.underlying68 Tryz.sizeOf3 | exact .indexAddrI (.of rfl) (.of rfl) (by omega) (by omega) Tryz.underlying68 Tryz.sizeOf3)) rfl ?_
  refine WD.take (i := 13) rfl (by kernel_rfl) (by kernel_rfl) (by kernel_rfl) (by kernel_rfl) hH (fun w ⟨R, hS⟩ => .ld (.of rfl) hS (k := 0) rfl Tryz.isAgg3 (v := I64 (o : Nat)) rfl) rfl ?_
  refine WD.takeP (i := 14) rfl (by kernel_rfl) (by kernel_rfl) (by kernel_rfl) (fun w => (by first | exact .indexAddr (.of rfl) (.of rfl) (by omega) (by omega) Tryz.underlying78 Tryz.sizeOf99 | exact .indexAddrI (.of rfl) (.of rfl) (by omega) (by omega) Tryz.underlying78 Tryz.sizeOf99)) rfl ?_
  refine WD.takeP (i := 15) rfl (by kernel_rfl) (by kernel_rfl) (by kernel_rfl) (fun w => (by first | exact .fieldAddr 2 (.of rfl) Tryz.underlying99 rfl rfl Tryz.sizeOf68 rfl | exact .fieldAddrI 2 (.of rfl) Tryz.underlying99 rfl rfl Tryz.sizeOf68 rfl)) rfl ?_
  refine WD.take (i := 16) rfl (by kernel_rfl) (by kernel_rfl) (by kernel_rfl) (by kernel_rfl) hH (fun w ⟨R, hS⟩ => .ld (.of rfl) hS (k := 2) rfl Tryz.isAgg68 (v := tv) (to_get hPo rl)) rfl ?_
  refine WD.takeP (i := 17) rfl (by kernel_rfl) (by kernel_rfl) (by kernel_rfl) (fun w => (.move (.of rfl))) rfl ?_
  refine WD.takeP (i := 18) rfl (by kernel_rfl) (by kernel_rfl) (by kernel_rfl) (fun w => (.add (.of rfl) (.of rfl) ⟨by omega, by omega⟩)) rfl ?_
  refine WD.branch [19] (by kernel_rfl) rfl (WO.cons rfl ?_ (WO.nil))
  refine WL.buildSlice (cs := [_]) hS (parts_cons (.of rfl) parts_nil) Tryz.underlying68 Tryz.sizeOf3 Tryz.zeroValue3 rfl rfl rfl rfl ?_
  clear hS; intro b63 w hS
  refine WL.nil ?_
  clear hH
  have hH : ∃ R, Sat B w J (blk gm (((o :: bs).map fun (x : Nat) => (x : Int)).map I64 ++ rm) 3 :: blk bc [.slice (some (ad gl 0)) P0.length cl, sv2, av2] 81 :: blk gl (P.flatMap enc ++ rl) 99 :: R) := ⟨_, (((hS.pick 4 rfl).pick 4 rfl).pick 4 rfl)⟩
  refine And.intro (by intro _ _; exact hH) ?_
  refine WD.branch [20] (by kernel_rfl) rfl (WO.cons rfl ?_ (WO.nil))
  first | refine WL.append (size := 1) (bytes := 8) hS (.of rfl) (.of rfl) (k := 0) rfl Tryz.underlying68 info3_37 rfl rfl rfl rfl rfl rfl rfl ⟨by omega, by unfold maxLen; omega⟩ rfl ?_ | refine WL.append (size := 1) (bytes := 8) hS (.of rfl) (.of rfl) (k := 1) rfl Tryz.underlying68 info3_37 rfl rfl rfl rfl rfl rfl rfl ⟨by omega, by unfold maxLen; omega⟩ rfl ?_ | refine WL.append (size := 1) (bytes := 8) hS (.of rfl) (.of rfl) (k := 2) rfl Tryz.underlying68 info3_37 rfl rfl rfl rfl rfl rfl rfl ⟨by omega, by unfold maxLen; omega⟩ rfl ?_ | refine WL.append (size := 1) (bytes := 8) hS (.of rfl) (.of rfl) (k := 3) rfl Tryz.underlying68 info3_37 rfl rfl rfl rfl rfl rfl rfl ⟨by omega, by unfold maxLen; omega⟩ rfl ?_ | refine WL.append (size := 1) (bytes := 8) hS (.of rfl) (.of rfl) (k := 4) rfl Tryz.underlying68 info3_37 rfl rfl rfl rfl rfl rfl rfl ⟨by omega, by unfold maxLen; omega⟩ rfl ?_ | refine WL.append (size := 1) (bytes := 8) hS (.of rfl) (.of rfl) (k := 5) rfl Tryz.underlying68 info3_37 rfl rfl rfl rfl rfl rfl rfl ⟨by omega, by unfold maxLen; omega⟩ rfl ?_ | refine WL.append (size := 1) (bytes := 8) hS (.of rfl) (.of rfl) (k := 6) rfl Tryz.underlying68 info3_37 rfl rfl rfl rfl rfl rfl rfl ⟨by omega, by unfold maxLen; omega⟩ rfl ?_
  clear hS; intro v64 w hS; try dsimp only [List.set] at hS
  first | obtain ⟨a64, c64, rfl, hcap64, _⟩ := hS.vecSlice (k := 0) (v := v64) rfl | obtain ⟨a64, c64, rfl, hcap64, _⟩ := hS.vecSlice (k := 1) (v := v64) rfl | obtain ⟨a64, c64, rfl, hcap64, _⟩ := hS.vecSlice (k := 2) (v := v64) rfl | obtain ⟨a64, c64, rfl, hcap64, _⟩ := hS.vecSlice (k := 3) (v := v64) rfl | obtain ⟨a64, c64, rfl, hcap64, _⟩ := hS.vecSlice (k := 4) (v := v64) rfl | obtain ⟨a64, c64, rfl, hcap64, _⟩ := hS.vecSlice (k := 5) (v := v64) rfl | obtain ⟨a64, c64, rfl, hcap64, _⟩ := hS.vecSlice (k := 6) (v := v64) rfl
  refine WL.nil ?_
  clear hH
  have hH : ∃ R, Sat B w J (blk gm (((o :: bs).map fun (x : Nat) => (x : Int)).map I64 ++ rm) 3 :: blk bc [.slice (some (ad gl 0)) P0.length cl, sv2, av2] 81 :: blk gl (P.flatMap enc ++ rl) 99 :: R) := ⟨_, (((hS.pick 3 rfl).pick 3 rfl).pick 3 rfl)⟩
  refine And.intro (by intro _ _; exact hH) ?_
  refine WD.takeP (i := 21) rfl (by kernel_rfl) (by kernel_rfl) (by kernel_rfl) (fun w => (by first | exact .indexAddr (.of rfl) (.of rfl) (by omega) (by omega) Tryz.underlying78 Tryz.sizeOf99 | exact .indexAddrI (.of rfl) (.of rfl) (by omega) (by omega) Tryz.underlying78 Tryz.sizeOf99)) rfl ?_
  refine WD.takeP (i := 22) rfl (by kernel_rfl) (by kernel_rfl) (by kernel_rfl) (fun w => (by first | exact .fieldAddr 2 (.of rfl) Tryz.underlying99 rfl rfl Tryz.sizeOf68 rfl | exact .fieldAddrI 2 (.of rfl) Tryz.underlying99 rfl rfl Tryz.sizeOf68 rfl)) rfl ?_
  refine WD.branch [23] (by kernel_rfl) rfl (WO.cons rfl ?_ (WO.nil))
  refine WL.st1 hS (k := 3) rfl (.of rfl) (.of rfl) rfl Tryz.sizeOf68 (by rw [List.length_append, flat_len enc 3 enc_len]; (try simp only [setTo_len]); omega) ?_
  clear hS; intro w hS; try dsimp only [List.set] at hS
  simp only [Int.toNat_natCast] at hS
  rw [to_set (by (try simp only [setTo_len]); omega)] at hS
  refine WL.nil ?_
  refine And.intro (by intro h; cases h) ?_
  refine WD.done (by kernel_rfl) ?_
  refine WC.drawn (fun w => ∃ R, Sat B w J (blk bc [.slice (some (ad gl 0)) P0.length cl, sv2, av2] 81 :: R)) (fun j => !([13].contains j)) (by kernel_rfl) ?_
  replace hS := hS.drew; generalize w.drew = w at hS ⊢
  have hH : ∃ R, Sat B w J (blk bc [.slice (some (ad gl 0)) P0.length cl, sv2, av2] 81 :: R) := ⟨_, (hS.pick 2 rfl)⟩
  refine WD.takeP (i := 0) rfl (by kernel_rfl) (by kernel_rfl) (by kernel_rfl) (fun w => (.move (.of rfl))) rfl ?_
  refine WD.takeP (i := 1) rfl (by kernel_rfl) (by kernel_rfl) (by kernel_rfl) (fun w => (.nilCheck (.of rfl))) rfl ?_
  refine WD.takeP (i := 2) rfl (by kernel_rfl) (by kernel_rfl) (by kernel_rfl) (fun w => (by first | exact .fieldAddr 0 (.of rfl) Tryz.underlying81 rfl rfl Tryz.sizeOf78 rfl | exact .fieldAddrI 0 (.of rfl) Tryz.underlying81 rfl rfl Tryz.sizeOf78 rfl)) rfl ?_
  refine WD.take (i := 3) rfl (by kernel_rfl) (by kernel_rfl) (by kernel_rfl) (by kernel_rfl) hH (fun w ⟨R, hS⟩ => (by first | exact (.ld (.of rfl) hS (k := 0) rfl Tryz.isAgg78 rfl))) rfl ?_
  refine WD.takeP (i := 4) rfl (by kernel_rfl) (by kernel_rfl) (by kernel_rfl) (fun w => (.move (.of rfl))) rfl ?_
  refine WD.takeP (i := 5) rfl (by kernel_rfl) (by kernel_rfl) (by kernel_rfl) (fun w => (.move (.of rfl))) rfl ?_
  refine WD.takeP (i := 6) rfl (by kernel_rfl) (by kernel_rfl) (by kernel_rfl) (fun w => (.nilCheck (.of rfl))) rfl ?_
  refine WD.takeP (i := 7) rfl (by kernel_rfl) (by kernel_rfl) (by kernel_rfl) (fun w => (by first | exact .fieldAddr 0 (.of rfl) Tryz.underlying81 rfl rfl Tryz.sizeOf78 rfl | exact .fieldAddrI 0 (.of rfl) Tryz.underlying81 rfl rfl Tryz.sizeOf78 rfl)) rfl ?_
  refine WD.take (i := 8) rfl (by kernel_rfl) (by kernel_rfl) (by kernel_rfl) (by kernel_rfl) hH (fun w ⟨R, hS⟩ => (by first | exact (.ld (.of rfl) hS (k := 0) rfl Tryz.isAgg78 rfl))) rfl ?_
  refine WD.takeP (i := 9) rfl (by kernel_rfl) (by kernel_rfl) (by kernel_rfl) (fun w => (.lenSlice (.of rfl) Tryz.underlying78)) rfl ?_
  refine WD.branch [10] (by kernel_rfl) rfl (WO.cons rfl ?_ (WO.nil))
  refine WL.buildSlice (cs := [_]) hS (parts_cons (.of rfl) parts_nil) Tryz.underlying68 Tryz.sizeOf3 Tryz.zeroValue3 rfl rfl rfl rfl ?_
  clear hS; intro b77 w hS
  refine WL.nil ?_
  clear hH
  have hH : ∃ R, Sat B w J (blk bc [.slice (some (ad gl 0)) P0.length cl, sv2, av2] 81 :: R) := ⟨_, (hS.pick 3 rfl)⟩
  refine And.intro (by intro _ _; exact hH) ?_
  refine WD.takeP (i := 11) rfl (by kernel_rfl) (by kernel_rfl) (by kernel_rfl) (fun w => (by first | exact .indexAddr (.of rfl) (.of rfl) (by omega) (by omega) Tryz.underlying78 Tryz.sizeOf99 | exact .indexAddrI (.of rfl) (.of rfl) (by omega) (by omega) Tryz.underlying78 Tryz.sizeOf99)) rfl ?_
  refine WD.takeP (i := 12) rfl (by kernel_rfl) (by kernel_rfl) (by kernel_rfl) (fun w => (by first | exact .fieldAddr 2 (.of rfl) Tryz.underlying99 rfl rfl Tryz.sizeOf68 rfl | exact .fieldAddrI 2 (.of rfl) Tryz.underlying99 rfl rfl Tryz.sizeOf68 rfl)) rfl ?_
  refine WD.branch [13] (by kernel_rfl) rfl (WO.cons rfl ?_ (WO.nil))
  refine WL.st1 hS (k := 4) rfl (.of rfl) (.of rfl) rfl Tryz.sizeOf68 (by rw [List.length_append, flat_len enc 3 enc_len]; (try simp only [setTo_len]); omega) ?_
  clear hS; intro w hS; try dsimp only [List.set] at hS
  simp only [Int.toNat_natCast] at hS
  rw [to_set (by (try simp only [setTo_len]); omega)] at hS
  obtain ⟨J2, hJ2, hb2, hS⟩ := hS.freeze (k := 0) rfl; try dsimp only [List.eraseIdx] at hS
  have hI2 : IntsI J2 (.slice (some (ad b77 0)) 1 1) [(P0.length : Int)] := ⟨(fun h => by cases h), _, _, rfl, Nat.le_refl _, rfl, fun _ => ⟨_, rfl, rfl, _, _, _, hb2, fun j u hj => by simpa using hj⟩⟩
  refine WL.nil ?_
  refine And.intro (by intro h; cases h) ?_
  refine WD.done (by kernel_rfl) ?_
  refine WC.region ?_
  skip
  refine WL.val (.add (.of rfl) (.of rfl) ⟨by omega, by omega⟩) rfl ?_
  rw [show ((pre.length : Nat) : Int) + 1 = ((pre ++ [b]).length : Nat) by simp]
  refine WL.val (.move (.of rfl)) rfl ?_
  refine WL.nil ?_
  refine ⟨(pre ++ [b], r, setTo (setTo P o (.slice a64 (pre.length + 1) c64)) b (.slice (some (ad b77 0)) 1 1), setToL (setToL Q o (pre.map (fun (x : Nat) => (x : Int) + 1) ++ [(b : Int) + 1])) b [(P0.length : Int)], .slice a64 (pre.length + 1) c64, J2), ⟨rfl, rfl, rfl, rfl, rfl, trivial⟩, ⟨by rw [hbs]; simp, hJ.trans hJ2, ((hX.setO _ _).mono hJ2).setB _ _ _ hI2, by simp [setTo, hPl], ⟨ko, co, ?_⟩, ⟨kq, cq, ?_⟩, fun h => by simp at h, ?_, ?_⟩, by simp⟩
  ·simp [setTo, List.getElem?_modify, hPo, hbo]
  ·simp [setToL, List.getElem?_modify, hQo, hbo]
  ·rw [← hgo, closeGo]; simp
  ·simpa using hS
 ·
  have hc41 := hb41; try simp only [Gk.cs0] at hc41
  refine WC.exit ?_
  have hrem : rem = [] := by
   cases rem with
   | nil => rfl
   | cons b r => simp at hlen; omega
  subst hrem
  replace hS := hS.drop (k := 1) rfl; try dsimp only [List.eraseIdx] at hS
  obtain ⟨J2, hJ2, hI2, hS⟩ := freezeInts (k := 0) (xs := pre.map fun (x : Nat) => (x : Int) + 1) hS (by rw [List.length_map]; rfl) (fun h => htv (by simpa using h)); try dsimp only [List.eraseIdx] at hS
  replace hS := hS.vecShut (k := 1) (n := P.length) (cap := cl) rfl (by omega) hcl2 (by rw [flat_len enc 3 enc_len]) (by rw [flat_len enc 3 enc_len] at hcl4 ⊢; omega); try dsimp only [List.set] at hS
  rw [← hPl] at hS ⊢
  refine WC.region ?_
  refine WL.val (.move (.of rfl)) rfl ?_
  refine WL.call Tryz.func37 rfl (evs_cons (.of rfl) (evs_cons (.of rfl) (evs_cons (.of rfl) evs_nil))) rfl (put_any _ _ _ _ _ _ _ _ _ _ _ _ hS (by omega)) ?_
  clear hS
  rintro _ w ⟨rfl, lv2, hS⟩
  refine WL.nil ?_
  refine end0 Tryz.results40 ?_
  replace hS := hS.say (k := 1) (A' := Vec 99 3 lv2 (P.length + 1) ((P ++ [((6 : Int), (0 : Int), Value.slice none 0 0)]).flatMap enc)) rfl (fun h hh => by rw [List.flatMap_append]; exact hh); try dsimp only [List.set] at hS
  refine ⟨_, rfl, rfl, lv2, sv2, av2, P ++ [(6, 0, .slice none 0 0)], J2, hJ.trans hJ2, ?_, ?_⟩
  ·rw [hPl, ← hgo, closeGo]
   exact ((hX.mono hJ2).back (fun p q hp hq => by rw [hPo] at hp; rw [hQo] at hq; cases hp; cases hq; exact hI2)).snoc 6 0 _ _ (IntsI.nil _)
  ·have e5 : (ats.take (st.length : Int).toNat).length = st.length := by rw [Int.toNat_natCast, List.length_take]; omega
   rw [e5] at hS
   rw [List.length_append]
   exact hS
theorem slHasPrefix_any (s p : List UInt8) (w : World) (hs : s.length ≤ 140737488351232) (hp : p.length ≤ 140737488351232) :
  Calls Tryz.prog 59 [S s, S p].toArray w (Ret fun v w' => v = .bool (hasPre s p) ∧ w = w') := by
 refine calls Tryz.func59 rfl Tryz.ntmps59 rfl ?_
 refine WC.seq ?_
 refine WC.region ?_
 refine WL.val (.assign (.of rfl)) rfl ?_
 refine WL.nil ?_
 refine WC.seq ?_
 refine WC.region ?_
 refine WL.val (.move (.of rfl)) rfl ?_
 refine WL.val (.len (.of rfl) Tryz.underlying9) rfl ?_
 refine WL.val (.move (.of rfl)) rfl ?_
 refine WL.val (.len (.of rfl) Tryz.underlying9) rfl ?_
 refine WL.val (.geq (.of rfl) (.of rfl)) rfl ?_
 refine WL.val (.move (.of rfl)) rfl ?_
 refine WL.gval rfl rfl (fun hg1 => (.move (.of rfl))) rfl ?_
 refine WL.gval rfl rfl (fun hg1 => (.move (.of rfl))) rfl ?_
 refine WL.gval rfl rfl (fun hg1 => (.len (.gd hg1 rfl) Tryz.underlying9)) rfl ?_
 refine WL.gval rfl rfl (fun hg1 => (.subTo (.gd hg1 rfl) (.gd hg1 rfl) (by (try simp only [Gk.cs0] at hg1); omega) (by (try simp only [Gk.cs0] at hg1); omega) Tryz.underlying9)) rfl ?_
 refine WL.gval rfl rfl (fun hg1 => (.move (.of rfl))) rfl ?_
 refine WL.gval rfl rfl (fun hg1 => (.eqs (.gd hg1 rfl) (.gd hg1 rfl))) rfl ?_
 refine WL.val (.pand (.of rfl) (.of rfl) (.of rfl)) rfl ?_
 refine WL.val (.assign (.of rfl)) rfl ?_
 refine WL.nil ?_
 refine WC.ret ?_
 refine ret1 Tryz.results59 rfl ?_
 exact ⟨_, rfl, rfl, rfl⟩
theorem HasPrefix_any (s p : List UInt8) (w : World) (hs : s.length ≤ 140737488351232) (hp : p.length ≤ 140737488351232) :
  Calls Tryz.prog 38 [S s, S p].toArray w (Ret fun v w' => v = .bool (hasPre s p) ∧ w = w') := by
 refine calls Tryz.func38 rfl Tryz.ntmps38 rfl ?_
 refine WC.seq ?_
 refine WC.region ?_
 refine WL.val (.assign (.of rfl)) rfl ?_
 refine WL.nil ?_
 refine WC.seq ?_
 refine WC.region ?_
 refine WL.val (.move (.of rfl)) rfl ?_
 refine WL.val (.move (.of rfl)) rfl ?_
 refine WL.call Tryz.func59 rfl (evs_cons (.of rfl) (evs_cons (.of rfl) evs_nil)) rfl (slHasPrefix_any _ _ _ hs hp) ?_
 rintro _ _ ⟨rfl, rfl⟩
 refine WL.val (.assign (.of rfl)) rfl ?_
 refine WL.nil ?_
 refine WC.ret ?_
 refine ret1 Tryz.results38 rfl ?_
 exact ⟨_, rfl, rfl, rfl⟩
end Go.Proofs.YtchgkcbloeoopaaGreatDoor
namespace Go.Proofs.YtchgkcbloeoopaaGreatDoor
open Gk Pc Ul Pat
set_option linter.unusedVariables false
set_option linter.unusedSimpArgs false
theorem info9_74 : Tryz.prog.info? 9 = some Tryz.t9 := by kernel_rfl
structure Known (I : Im) : Prop where
 dig : DigAt I
 pow : ∀ (B w : World) (As : List Assn), Sat B w I As → Go.Lib.TabIs Tryz.prog w "internal/strconv.uint64pow10" .u64 Go.Lib.pow10Tab
 max : ∀ (B w : World) (As : List Assn), Sat B w I As → ∃ m, w.cell? ⟨1, 0, none⟩ = some (.int .i64 m)
theorem Known.mono {I J : Im} (h : Known I) (hl : Le I J) : Known J :=
 have e : ∀ (B w : World) (As : List Assn), Sat B w J As → Sat B w I As := fun B w As ⟨g, h1, h2⟩ => ⟨g, h1, h2.os, h2.tape, h2.output, fun b o hi => h2.imm b o (hl b o hi), h2.own, h2.nodup, fun b o hm => by
  cases hi : I b with
  | none => rfl
  | some x => have := h2.apart b o hm; rw [hl b x hi] at this; cases this⟩
 ⟨h.dig.mono hl, fun B w As s => h.pow B w As (e B w As s), fun B w As s => h.max B w As (e B w As s)⟩
theorem drewN_sat {B w : World} {I : Im} {As : List Assn} (hS : Sat B w I As) (n : Nat) : Sat B (w.drewN n) I As := hS.world rfl rfl rfl rfl
theorem grow_sat {B w : World} {I : Im} {As : List Assn} (hS : Sat B w I As) (os : Array Obj) : Sat B (Go.Sort.grow w os) I As :=
 hS.grown ⟨rfl, rfl, rfl, by simp [Go.Sort.grow], fun k hk => by simp [Go.Sort.grow, Array.getElem?_append, hk]⟩
theorem Itoa_any (n : Nat) (hn : n ≤ 65535) (B w : World) (I : Im) (hK : Known I) (As : List Assn) (hS : Sat B w I As) : Calls Tryz.prog 90 [I64 (n : Nat)].toArray w (Ret fun v w' => v = S (Go.Lib.decDigits n) ∧ Sat B w' I As) :=
 (Tryz.strconv_Itoa n (by omega) (by omega) w (hK.pow B w As hS)).mono fun e w' he => by
  obtain ⟨rfl, k, os, rfl⟩ := he
  refine ⟨_, rfl, ?_, grow_sat (drewN_sat hS k) os⟩
  unfold Go.Lib.itoa
  rw [if_neg (by omega), Int.toNat_natCast]
theorem CutSign_any (s : List UInt8) (hs : s.length ≤ 1000000) (B w : World) (I : Im) (hK : Known I) (As : List Assn) (hS : Sat B w I As) : Calls Tryz.prog 68 [S s, S SIGN].toArray w (Ret fun v w' => v = .tuple #[S (Go.Lib.cut s SIGN).1, S (Go.Lib.cut s SIGN).2.1, .bool (Go.Lib.cut s SIGN).2.2] ∧ Sat B w' I As) := by
 obtain ⟨m, hm⟩ := hK.max B w As hS
 refine (Tryz.strings_Cut ⟨s.toArray⟩ ⟨SIGN.toArray⟩ m w (by show s.length < _; omega) hm).mono fun e w' he => ?_
 obtain ⟨rfl, n, rfl⟩ := he
 exact ⟨_, rfl, rfl, drewN_sat hS n⟩
theorem CutOne_any (s : List UInt8) (c : UInt8) (hs : s.length ≤ 1000000) (B w : World) (I : Im) (hK : Known I) (As : List Assn) (hS : Sat B w I As) : Calls Tryz.prog 68 [S s, S [c]].toArray w (Ret fun v w' => v = .tuple #[S (upto [c] s), S ((from_ [c] s).drop 1), .bool (!(from_ [c] s).isEmpty)] ∧ Sat B w' I As) := by
 obtain ⟨m, hm⟩ := hK.max B w As hS
 refine (Tryz.strings_Cut ⟨s.toArray⟩ ⟨[c].toArray⟩ m w (by show s.length < _; omega) hm).mono fun e w' he => ?_
 obtain ⟨rfl, n, rfl⟩ := he
 refine ⟨_, rfl, ?_, drewN_sat hS n⟩
 show Value.tuple #[S (Go.Lib.cut s [c]).1, S (Go.Lib.cut s [c]).2.1, .bool (Go.Lib.cut s [c]).2.2] = _
 rw [cut_one]
theorem strs_of (l : List ByteArray) : l.map Value.string = (l.map (·.data.toList)).map S := by
 rw [List.map_map]
 rfl
theorem Split_any (s : List UInt8) (hs : s.length ≤ 1000000) (B w : World) (I : Im) (hK : Known I) (As : List Assn) (hS : Sat B w I As) : Calls Tryz.prog 89 [S s, S [47]].toArray w (Ret fun v w' => ∃ b, v = .slice (some (ad b 0)) (spl s).length (spl s).length ∧ Sat B w' I (blk b ((spl s).map S) 9 :: As)) := by
 obtain ⟨m, hm⟩ := hK.max B w As hS
 refine (Tryz.strings_Split ⟨s.toArray⟩ ⟨[47].toArray⟩ m w (by show s.length < _; omega) hm (by decide)).mono fun e w' he => ?_
 obtain ⟨rfl, rfl⟩ := he
 have e1 : (spl s).length = Go.Lib.countB ⟨s.toArray⟩ ⟨[47].toArray⟩ + 1 := spl_len _ s (Nat.le_refl _)
 have e2 : (Go.Lib.splitB ⟨[47].toArray⟩ 0 (Go.Lib.countB ⟨s.toArray⟩ ⟨[47].toArray⟩) ⟨s.toArray⟩).map Value.string = (spl s).map S := by
  rw [strs_of, Go.Lib.splitB_data]
  show List.map S (Go.Lib.splitK [47] 0 (Go.Lib.count s [47]) s) = _
  rw [splitK_spl _ s (Nat.le_refl _)]
 refine ⟨_, rfl, w.heap.size, by rw [e1], ?_⟩
 rw [e2]
 exact hS.alloc _
set_option maxHeartbeats 800000 in
theorem Dots_any (p : List UInt8) (hl : p.length ≤ 1000000) (B w : World) (I : Im) (hK : Known I) (As : List Assn) (hS : Sat B w I As) :
  Calls Tryz.prog 74 [S p].toArray w (Ret fun v w' => v = S (dots p) ∧ Sat B w' I As) := by
 refine calls Tryz.func74 rfl Tryz.ntmps74 rfl ?_
 refine WC.seq ?_
 refine WC.region ?_
 refine WL.val (.assign (.of rfl)) rfl ?_
 refine WL.nil ?_
 refine WC.scope ?_
 refine WC.seq ?_
 refine WC.seq ?_
 refine WC.region ?_
 refine WL.val (.move (.of rfl)) rfl ?_
 refine WL.call Tryz.func38 rfl (evs_cons (.of rfl) (evs_cons (.of rfl) evs_nil)) rfl (HasPrefix_any p [47] _ (by omega) (by decide)) ?_
 rintro _ _ ⟨rfl, rfl⟩
 refine WL.val (.not (.of rfl)) rfl ?_
 refine WL.nil ?_
 refine WC.cond rfl (fun hb12 => ?_) (fun hb12 => ?_)
 ·
  have hc12 := hb12; try simp only [Gk.cs0] at hc12
  refine WC.seq ?_
  refine WC.region ?_
  refine WL.val (.move (.of rfl)) rfl ?_
  refine WL.val (.assign (.of rfl)) rfl ?_
  refine WL.nil ?_
  refine WC.ret ?_
  refine ret1 Tryz.results74 rfl ?_
  refine ⟨_, rfl, ?_, hS⟩
  cases p with
  | nil => rfl
  | cons a b => rw [dots, if_neg (fun e => by subst e; simp [hasPre] at hb12; omega)]
 ·
  have hc12 := hb12; try simp only [Gk.cs0] at hc12
  refine WC.skip ?_
  refine WC.seq ?_
  refine WC.region ?_
  refine WL.val (.assign (.of rfl)) rfl ?_
  refine WL.nil ?_
  refine WC.seq ?_
  refine WC.region ?_
  refine WL.val (.assign (.of rfl)) rfl ?_
  refine WL.nil ?_
  refine WC.seq ?_
  refine WC.label ?_
  refine WC.seq ?_
  refine WC.seq ?_
  have hp1 : 1 ≤ p.length := by cases p with | nil => simp [hasPre] at hb12 | cons a b => simp
  have hpn := len_tot (spl (p.drop 1))
  rw [spl_tot, List.length_drop] at hpn
  refine WC.region ?_
  refine WL.val (.move (.of rfl)) rfl ?_
  refine WL.val (.subFrom (.of rfl) (.of rfl) (by omega) (by omega) Tryz.underlying9) rfl ?_
  refine WL.call Tryz.func89 rfl (evs_cons (.of rfl) (evs_cons (.of rfl) evs_nil)) rfl (Split_any (p.drop 1) (by rw [List.length_drop]; omega) B _ I hK As hS) ?_
  clear hS
  rintro _ w ⟨b16, rfl, hS⟩
  refine WL.val (.lenSlice (.of rfl) Tryz.underlying35) rfl ?_
  refine WL.val (.move (.of rfl)) rfl ?_
  refine WL.nil ?_
  refine WC.block ?_
  replace hS := hS.vecNil 9 1
  refine WC.loop (σ := Value × Nat) (fun ⟨kv, i⟩ => [(3, kv), (4, .bool (decide (0 < i) && isDot ((spl (p.drop 1)).getD (i - 1) []))), (16, .slice (some (ad b16 0)) (spl (p.drop 1)).length (spl (p.drop 1)).length), (17, I64 ((spl (p.drop 1)).length : Nat)), (18, I64 (i : Nat))]) (fun ⟨kv, i⟩ w => i ≤ (spl (p.drop 1)).length ∧ Sat B w I (Vec 9 1 kv (List.foldl keep [] ((spl (p.drop 1)).take i)).length ((List.foldl keep [] ((spl (p.drop 1)).take i)).map S) :: blk b16 ((spl (p.drop 1)).map S) 9 :: As)) (fun ⟨kv, i⟩ => (spl (p.drop 1)).length - i) (.slice none 0 0, 0) ⟨rfl, rfl, rfl, rfl, rfl, trivial⟩ ⟨Nat.zero_le _, hS⟩ ?_
  rintro ⟨kv, i⟩ w ⟨hi, hS⟩
  change WC _ _ _ _ [(3, kv), (4, .bool (decide (0 < i) && isDot ((spl (p.drop 1)).getD (i - 1) []))), (16, .slice (some (ad b16 0)) (spl (p.drop 1)).length (spl (p.drop 1)).length), (17, I64 ((spl (p.drop 1)).length : Nat)), (18, I64 (i : Nat))] w
  refine WC.seq ?_
  refine WC.region ?_
  refine WL.val (.lss (.of rfl) (.of rfl)) rfl ?_
  refine WL.nil ?_
  refine WC.seq ?_
  refine WC.cond rfl (fun hb19 => ?_) (fun hb19 => ?_)
  ·
   have hc19 := hb19; try simp only [Gk.cs0] at hc19
   refine WC.skip ?_
   refine WC.seq ?_
   refine WC.block ?_
   refine WC.seq ?_
   obtain ⟨x, hx⟩ : ∃ x, (spl (p.drop 1))[i]? = some x := ⟨_, List.getElem?_eq_getElem (by omega)⟩
   have hKn : (List.foldl keep [] ((spl (p.drop 1)).take (i + 1))) = keep (List.foldl keep [] ((spl (p.drop 1)).take i)) x := by rw [List.take_add_one, hx, List.foldl_append]; rfl
   have hgd : (spl (p.drop 1)).getD i [] = x := by rw [List.getD_eq_getElem?_getD, hx]; rfl
   have hop : (decide (0 < i + 1) && isDot ((spl (p.drop 1)).getD (i + 1 - 1) [])) = isDot x := by rw [Nat.add_sub_cancel, hgd, decide_eq_true (by omega), Bool.true_and]
   obtain ⟨ka, kc, rfl, hkc, _⟩ := hS.vecSlice (k := 0) (v := kv) rfl
   have hKl : (List.foldl keep [] ((spl (p.drop 1)).take i)).length ≤ 1000001 := by
    have h1 := len_tot (List.foldl keep [] ((spl (p.drop 1)).take i))
    have h2 := tot_fold ((spl (p.drop 1)).take i) []
    have h3 : tot (spl (p.drop 1)) = tot ((spl (p.drop 1)).take i) + tot ((spl (p.drop 1)).drop i) := by rw [← tot_app, List.take_append_drop]
    have h4 := spl_tot (p.drop 1)
    rw [List.length_drop] at h4
    rw [show tot [] = 0 from rfl] at h2
    omega
   refine WC.region ?_
   first | refine WL.val (.indexAddr (.of rfl) (.of rfl) (by omega) (by omega) Tryz.underlying35 Tryz.sizeOf9) rfl ?_ | refine WL.val (.indexAddrI (.of rfl) (.of rfl) (by omega) (by omega) Tryz.underlying35 Tryz.sizeOf9) rfl ?_
   refine WL.val (.ld (v := S x) (.of rfl) hS (k := 1) rfl Tryz.isAgg9 (by rw [Nat.zero_add, Int.toNat_natCast, Nat.mul_one, List.getElem?_map, hx]; rfl)) rfl ?_
   refine WL.val (.assign (.of rfl)) rfl ?_
   refine WL.nil ?_
   refine WC.seq ?_
   refine WC.region ?_
   refine WL.val (.assign (.of rfl)) rfl ?_
   refine WL.nil ?_
   refine WC.seq ?_
   refine WC.seq ?_
   refine WC.region ?_
   refine WL.val (.move (.of rfl)) rfl ?_
   refine WL.nil ?_
   refine WC.block ?_
   refine WC.seq ?_
   refine WC.region ?_
   refine WL.val (.eqs (.of rfl) (.of rfl)) rfl ?_
   refine WL.val (.assign (.of rfl)) rfl ?_
   refine WL.nil ?_
   refine WC.cond rfl (fun hb23 => ?_) (fun hb23 => ?_)
   ·
    have hc23 := hb23; try simp only [Gk.cs0] at hc23
    refine WC.exit ?_
    refine WC.region ?_
    refine WL.val (.add (.of rfl) (.of rfl) ⟨by omega, by omega⟩) rfl ?_
    refine WL.val (.move (.of rfl)) rfl ?_
    refine WL.nil ?_
    refine ⟨(_, i + 1), ⟨rfl, by show some (Value.bool _) = some _; rw [hop]; rw [show x = [46] by simpa using hb23]; rfl, rfl, rfl, rfl, trivial⟩, ⟨by omega, ?_⟩, by (try dsimp only); omega⟩
    rw [hKn, keep, if_pos (by simpa using hb23)]
    exact hS
   ·
    have hc23 := hb23; try simp only [Gk.cs0] at hc23
    refine WC.seq ?_
    refine WC.region ?_
    refine WL.val (.eqs (.of rfl) (.of rfl)) rfl ?_
    refine WL.val (.assign (.of rfl)) rfl ?_
    refine WL.nil ?_
    refine WC.cond rfl (fun hb25 => ?_) (fun hb25 => ?_)
    ·
     have hc25 := hb25; try simp only [Gk.cs0] at hc25
     refine WC.seq ?_
     refine WC.region ?_
     refine WL.val (.move (.of rfl)) rfl ?_
     refine WL.val (.move (.of rfl)) rfl ?_
     refine WL.val (.lenSlice (.of rfl) Tryz.underlying35) rfl ?_
     refine WL.val (.sub (.of rfl) (.of rfl) ⟨by omega, by omega⟩) rfl ?_
     refine WL.val (.max2 (.of rfl) (.of rfl)) rfl ?_
     refine WL.val (.slcTo (.of rfl) (.of rfl) (by omega) (by omega) Tryz.underlying35 Tryz.sizeOf9) rfl ?_
     obtain ⟨a2, c2, e2, hS⟩ := hS.vecTakeI (m := (max 0 (((List.foldl keep [] ((spl (p.drop 1)).take i)).length : Int) - 1)).toNat) (l := (List.foldl keep [] ((spl (p.drop 1)).take i))) (k := 0) rfl (by omega)
     rw [e2]
     rw [show (max 0 (((List.foldl keep [] ((spl (p.drop 1)).take i)).length : Int) - 1)).toNat = (List.foldl keep [] ((spl (p.drop 1)).take i)).length - 1 by omega] at hS ⊢
     refine WL.val (.assign (.of rfl)) rfl ?_
     refine WL.nil ?_
     refine WC.exit ?_
     refine WC.region ?_
     refine WL.val (.add (.of rfl) (.of rfl) ⟨by omega, by omega⟩) rfl ?_
     refine WL.val (.move (.of rfl)) rfl ?_
     refine WL.nil ?_
     refine ⟨(_, i + 1), ⟨rfl, by show some (Value.bool _) = some _; rw [hop]; rw [show x = [46, 46] by simpa using hb25]; rfl, rfl, rfl, rfl, trivial⟩, ⟨by omega, ?_⟩, by (try dsimp only); omega⟩
     rw [hKn, keep, if_neg (by simpa using hb23), if_pos (by simpa using hb25), List.dropLast_eq_take]
     exact hS
    ·
     have hc25 := hb25; try simp only [Gk.cs0] at hc25
     refine WC.skip ?_
     refine WC.seq ?_
     refine WC.region ?_
     refine WL.val (.assign (.of rfl)) rfl ?_
     refine WL.nil ?_
     refine WC.region ?_
     refine WL.val (.move (.of rfl)) rfl ?_
     refine WL.val (.move (.of rfl)) rfl ?_
     refine WL.buildSlice (cs := [_]) hS (parts_cons (.of rfl) parts_nil) Tryz.underlying35 Tryz.sizeOf9 Tryz.zeroValue9 rfl rfl rfl rfl ?_
     clear hS; intro b35 w hS
     first | refine WL.append (size := 1) (bytes := 16) hS (.of rfl) (.of rfl) (k := 0) rfl Tryz.underlying35 info9_74 rfl rfl rfl rfl rfl rfl rfl ⟨by omega, by unfold maxLen; omega⟩ rfl ?_ | refine WL.append (size := 1) (bytes := 16) hS (.of rfl) (.of rfl) (k := 1) rfl Tryz.underlying35 info9_74 rfl rfl rfl rfl rfl rfl rfl ⟨by omega, by unfold maxLen; omega⟩ rfl ?_
     clear hS; intro v36 w hS; try dsimp only [List.set] at hS
     first | obtain ⟨a36, c36, rfl, hcap36, _⟩ := hS.vecSlice (k := 0) (v := v36) rfl | obtain ⟨a36, c36, rfl, hcap36, _⟩ := hS.vecSlice (k := 1) (v := v36) rfl
     refine WL.val (.assign (.of rfl)) rfl ?_
     refine WL.nil ?_
     refine WC.region ?_
     refine WL.val (.add (.of rfl) (.of rfl) ⟨by omega, by omega⟩) rfl ?_
     refine WL.val (.move (.of rfl)) rfl ?_
     refine WL.nil ?_
     refine ⟨(_, i + 1), ⟨rfl, by show some (Value.bool _) = some _; rw [hop]; rw [isDot, show (x == [46]) = false by simpa using hb23, show (x == [46, 46]) = false by simpa using hb25]; rfl, rfl, rfl, rfl, trivial⟩, ⟨by omega, ?_⟩, by (try dsimp only); omega⟩
     rw [hKn, keep, if_neg (by simpa using hb23), if_neg (by simpa using hb25), List.map_append, List.length_append]
     exact hS
  ·
   have hc19 := hb19; try simp only [Gk.cs0] at hc19
   refine WC.exit ?_
   refine WC.seq ?_
   have hin : i = (spl (p.drop 1)).length := by omega
   subst hin
   rw [List.take_length] at hS
   obtain ⟨ka, kc, rfl, hkc, _⟩ := hS.vecSlice (k := 0) (v := kv) rfl
   have htot := tot_fold (spl (p.drop 1)) []
   rw [spl_tot, show tot [] = 0 from rfl, Nat.zero_add, List.length_drop] at htot
   have hkt := len_tot (List.foldl keep [] (spl (p.drop 1)))
   refine WC.region ?_
   refine WL.val (.assign (.of rfl)) rfl ?_
   refine WL.nil ?_
   refine WC.seq ?_
   refine WC.seq ?_
   refine WC.region ?_
   refine WL.val (.move (.of rfl)) rfl ?_
   refine WL.val (.lenSlice (.of rfl) Tryz.underlying35) rfl ?_
   refine WL.val (.move (.of rfl)) rfl ?_
   refine WL.nil ?_
   refine WC.block ?_
   refine WC.loop (σ := Nat) (fun j => [(3, .slice ka (List.foldl keep [] (spl (p.drop 1))).length kc), (4, .bool (decide (0 < (spl (p.drop 1)).length) && isDot ((spl (p.drop 1)).getD ((spl (p.drop 1)).length - 1) []))), (38, .slice ka (List.foldl keep [] (spl (p.drop 1))).length kc), (39, I64 ((List.foldl keep [] (spl (p.drop 1))).length : Nat)), (40, I64 (j : Nat)), (7, S (slashed ((List.foldl keep [] (spl (p.drop 1))).take j)))]) (fun j w => j ≤ (List.foldl keep [] (spl (p.drop 1))).length ∧ Sat B w I (Vec 9 1 (.slice ka (List.foldl keep [] (spl (p.drop 1))).length kc) (List.foldl keep [] (spl (p.drop 1))).length ((List.foldl keep [] (spl (p.drop 1))).map S) :: blk b16 ((spl (p.drop 1)).map S) 9 :: As)) (fun j => (List.foldl keep [] (spl (p.drop 1))).length - j) 0 ⟨rfl, rfl, rfl, rfl, rfl, rfl, trivial⟩ ⟨Nat.zero_le _, hS⟩ ?_
   rintro j w ⟨hj, hS⟩
   change WC _ _ _ _ [(3, .slice ka (List.foldl keep [] (spl (p.drop 1))).length kc), (4, .bool (decide (0 < (spl (p.drop 1)).length) && isDot ((spl (p.drop 1)).getD ((spl (p.drop 1)).length - 1) []))), (38, .slice ka (List.foldl keep [] (spl (p.drop 1))).length kc), (39, I64 ((List.foldl keep [] (spl (p.drop 1))).length : Nat)), (40, I64 (j : Nat)), (7, S (slashed ((List.foldl keep [] (spl (p.drop 1))).take j)))] w
   refine WC.seq ?_
   refine WC.region ?_
   refine WL.val (.lss (.of rfl) (.of rfl)) rfl ?_
   refine WL.nil ?_
   refine WC.seq ?_
   refine WC.cond rfl (fun hb41 => ?_) (fun hb41 => ?_)
   ·
    have hc41 := hb41; try simp only [Gk.cs0] at hc41
    refine WC.skip ?_
    refine WC.seq ?_
    refine WC.block ?_
    refine WC.seq ?_
    obtain ⟨x, hx⟩ : ∃ x, (List.foldl keep [] (spl (p.drop 1)))[j]? = some x := ⟨_, List.getElem?_eq_getElem (by omega)⟩
    have hsn : slashed ((List.foldl keep [] (spl (p.drop 1))).take (j + 1)) = slashed ((List.foldl keep [] (spl (p.drop 1))).take j) ++ 47 :: x := by rw [List.take_add_one, hx]; exact slashed_app _ _
    have hsl : (slashed ((List.foldl keep [] (spl (p.drop 1))).take j)).length + (x.length + 1) ≤ tot (List.foldl keep [] (spl (p.drop 1))) := by
     rw [show x.length + 1 = (47 :: x).length from rfl, ← List.length_append, ← hsn, slashed_len]
     have : tot (List.foldl keep [] (spl (p.drop 1))) = tot ((List.foldl keep [] (spl (p.drop 1))).take (j + 1)) + tot ((List.foldl keep [] (spl (p.drop 1))).drop (j + 1)) := by rw [← tot_app, List.take_append_drop]
     omega
    obtain ⟨g19, rest19, hS19⟩ : ∃ g rest, ka = some (ad g 0) ∧ Sat B w I (blk g ((List.foldl keep [] (spl (p.drop 1))).map S ++ rest) 9 :: blk b16 ((spl (p.drop 1)).map S) 9 :: As) := by
     obtain ⟨g, c, rest, hv, _, _, _, _, hs⟩ := hS.vecOpen (k := 0) rfl (by omega)
     injection hv with hv1 hv2 hv3
     exact ⟨g, rest, hv1, hs⟩
    obtain ⟨rfl, hS19⟩ := hS19
    refine WC.region ?_
    refine WL.val (.indexAddr (b := g19) (o := 0) (.of rfl) (.of rfl) (by omega) (by omega) Tryz.underlying35 Tryz.sizeOf9) rfl ?_
    refine WL.val (.ld (v := S x) (.of rfl) hS19 (k := 0) rfl Tryz.isAgg9 (by rw [Nat.zero_add, Int.toNat_natCast, Nat.mul_one, List.getElem?_append_left (by rw [List.length_map]; omega), List.getElem?_map, hx]; rfl)) rfl ?_
    clear hS19
    refine WL.val (.assign (.of rfl)) rfl ?_
    refine WL.nil ?_
    refine WC.region ?_
    refine WL.val (.move (.of rfl)) rfl ?_
    refine WL.val (.move (.of rfl)) rfl ?_
    refine WL.val (.cat (.of rfl) (.of rfl) (by (try simp only [List.length_append, List.length_cons, List.length_nil]); omega)) rfl ?_
    refine WL.val (.cat (.of rfl) (.of rfl) (by (try simp only [List.length_append, List.length_cons, List.length_nil]); omega)) rfl ?_
    refine WL.val (.assign (.of rfl)) rfl ?_
    refine WL.nil ?_
    refine WC.region ?_
    refine WL.val (.add (.of rfl) (.of rfl) ⟨by omega, by omega⟩) rfl ?_
    refine WL.val (.move (.of rfl)) rfl ?_
    refine WL.nil ?_
    refine ⟨j + 1, ⟨rfl, rfl, rfl, rfl, rfl, by show some (S _) = some _; rw [hsn]; simp, trivial⟩, ⟨by omega, hS⟩, by omega⟩
   ·
    have hc41 := hb41; try simp only [Gk.cs0] at hc41
    refine WC.exit ?_
    refine WC.seq ?_
    refine WC.seq ?_
    have hjn : (List.foldl keep [] (spl (p.drop 1))).take j = (List.foldl keep [] (spl (p.drop 1))) := List.take_of_length_le (by omega)
    have hsl2 : (slashed ((List.foldl keep [] (spl (p.drop 1))).take j)).length ≤ tot (List.foldl keep [] (spl (p.drop 1))) := by rw [hjn, slashed_len]; exact Nat.le_refl _
    refine WC.region ?_
    refine WL.val (.move (.of rfl)) rfl ?_
    refine WL.val (.move (.of rfl)) rfl ?_
    refine WL.gval rfl rfl (fun hg1 => (.move (.of rfl))) rfl ?_
    refine WL.gval rfl rfl (fun hg1 => (.lenSlice (.gd hg1 rfl) Tryz.underlying35)) rfl ?_
    refine WL.gval rfl rfl (fun hg1 => (.eql (.gd hg1 rfl) (.of rfl))) rfl ?_
    refine WL.val (.por (.of rfl) (.of rfl) (.of rfl)) rfl ?_
    refine WL.nil ?_
    refine WC.cond rfl (fun hb54 => ?_) (fun hb54 => ?_)
    ·
     have hc54 := hb54; try simp only [Gk.cs0] at hc54
     refine WC.region ?_
     refine WL.val (.move (.of rfl)) rfl ?_
     refine WL.val (.cat (.of rfl) (.of rfl) (by (try simp only [List.length_append, List.length_cons, List.length_nil]); omega)) rfl ?_
     refine WL.val (.assign (.of rfl)) rfl ?_
     refine WL.nil ?_
     refine WC.seq ?_
     refine WC.region ?_
     refine WL.val (.move (.of rfl)) rfl ?_
     refine WL.val (.assign (.of rfl)) rfl ?_
     refine WL.nil ?_
     refine WC.ret ?_
     refine ret1 Tryz.results74 rfl ?_
     have hjn : (List.foldl keep [] (spl (p.drop 1))).take j = (List.foldl keep [] (spl (p.drop 1))) := List.take_of_length_le (by omega)
     rw [hjn]
     have hlast : (decide (0 < (spl (p.drop 1)).length) && isDot ((spl (p.drop 1)).getD ((spl (p.drop 1)).length - 1) [])) = isDot ((spl (p.drop 1)).getLastD []) := by
      have hne := spl_ne (p.drop 1)
      have hp0 : 0 < (spl (p.drop 1)).length := List.length_pos_iff.2 hne
      rw [decide_eq_true hp0, Bool.true_and]
      congr 1
      rw [List.getLastD_eq_getLast?, List.getLast?_eq_getElem?, List.getD_eq_getElem?_getD]
     have hpc : p = 47 :: p.drop 1 := by
      cases p with
      | nil => simp [hasPre] at hb12
      | cons a b => simp [hasPre] at hb12; rw [hb12.2]; rfl
     have hall : dots p = slashed (List.foldl keep [] (spl (p.drop 1))) ++ (if isDot ((spl (p.drop 1)).getLastD []) || (List.foldl keep [] (spl (p.drop 1))).length == 0 then [47] else []) := by rw [hpc, dots, if_pos rfl]; rfl
     refine ⟨_, rfl, ?_, (hS.drop (k := 0) rfl).drop (k := 0) rfl⟩
     rw [hall]
     rw [if_pos (by rw [← hlast]; simpa using hb54)]
    ·
     have hc54 := hb54; try simp only [Gk.cs0] at hc54
     refine WC.skip ?_
     refine WC.seq ?_
     refine WC.region ?_
     refine WL.val (.move (.of rfl)) rfl ?_
     refine WL.val (.assign (.of rfl)) rfl ?_
     refine WL.nil ?_
     refine WC.ret ?_
     refine ret1 Tryz.results74 rfl ?_
     have hjn : (List.foldl keep [] (spl (p.drop 1))).take j = (List.foldl keep [] (spl (p.drop 1))) := List.take_of_length_le (by omega)
     rw [hjn]
     have hlast : (decide (0 < (spl (p.drop 1)).length) && isDot ((spl (p.drop 1)).getD ((spl (p.drop 1)).length - 1) [])) = isDot ((spl (p.drop 1)).getLastD []) := by
      have hne := spl_ne (p.drop 1)
      have hp0 : 0 < (spl (p.drop 1)).length := List.length_pos_iff.2 hne
      rw [decide_eq_true hp0, Bool.true_and]
      congr 1
      rw [List.getLastD_eq_getLast?, List.getLast?_eq_getElem?, List.getD_eq_getElem?_getD]
     have hpc : p = 47 :: p.drop 1 := by
      cases p with
      | nil => simp [hasPre] at hb12
      | cons a b => simp [hasPre] at hb12; rw [hb12.2]; rfl
     have hall : dots p = slashed (List.foldl keep [] (spl (p.drop 1))) ++ (if isDot ((spl (p.drop 1)).getLastD []) || (List.foldl keep [] (spl (p.drop 1))).length == 0 then [47] else []) := by rw [hpc, dots, if_pos rfl]; rfl
     refine ⟨_, rfl, ?_, (hS.drop (k := 0) rfl).drop (k := 0) rfl⟩
     rw [hall]
     rw [if_neg (by rw [← hlast, Bool.not_eq_true]; simpa using hb54), List.append_nil]
end Go.Proofs.YtchgkcbloeoopaaGreatDoor
namespace Go.Proofs.YtchgkcbloeoopaaGreatDoor
open Gk Pc Ul Pat
set_option linter.unusedVariables false
set_option linter.unusedSimpArgs false
theorem bld55_75 : Bld Tryz.prog 55 [(0, 1), (1, 1), (2, 1), (3, 1), (4, 1), (5, 1)] [S [], S [], .int .i64 0, S [], S [], .bool false] := bld_of Tryz.underlying55 Tryz.zeroValue55 (fun w => by simp [go_sem])
theorem dec_len (n : Nat) (h : n ≤ 65535) : (Go.Lib.decDigits n).length ≤ 5 := by
 rw [Go.Lib.decDigits_length]
 have step : ∀ k m, m < 10 ^ (k + 1) → Go.Lib.nDigits m ≤ k + 1 := by
  intro k
  induction k with
  | zero => intro m hm; rw [Go.Lib.nDigits_small (by simpa using hm)]; exact Nat.le_refl _
  | succ k ih =>
   intro m hm
   by_cases h10 : m < 10
   ·rw [Go.Lib.nDigits_small h10]; omega
   ·rw [Go.Lib.nDigits_big h10]
    have := ih (m / 10) (by rw [Nat.pow_succ] at hm; omega)
    omega
 exact step 4 n (by omega)
theorem uOrigin_any (u : U) (hu : SmallU u) (B w : World) (I : Im) (hK : Known I) (As : List Assn) (hS : Sat B w I As) :
  Calls Tryz.prog 75 [.agg [S u.sch, S u.host, I64 (u.port : Nat), S u.path, S u.query, .bool u.ask].toArray].toArray w (Ret fun v w' => v = S (origin u) ∧ Sat B w' I As) := by
 refine calls Tryz.func75 rfl Tryz.ntmps75 rfl ?_
 refine WC.seq ?_
 refine WC.region ?_
 refine WL.boxA (cs := [_, _, _, _, _, _]) hS (.of rfl) rfl ?_
 clear hS; intro b1 w hS
 refine WL.val (.assign (.of rfl)) rfl ?_
 refine WL.nil ?_
 refine WC.seq ?_
 obtain ⟨hs1, hs2, hp, hs4, hs5⟩ := hu
 have hd5 := dec_len u.port hp
 refine WC.region ?_
 first | refine WL.val (.fieldAddr 0 (.of rfl) Tryz.underlying55 rfl rfl Tryz.sizeOf9 rfl) rfl ?_ | refine WL.val (.fieldAddrI 0 (.of rfl) Tryz.underlying55 rfl rfl Tryz.sizeOf9 rfl) rfl ?_
 first | refine WL.val (.ld (.of rfl) hS (k := 0) rfl Tryz.isAgg9 rfl) rfl ?_
 refine WL.val (.cat (.of rfl) (.of rfl) (by (try simp only [List.length_append, List.length_cons, List.length_nil]); omega)) rfl ?_
 first | refine WL.val (.fieldAddr 1 (.of rfl) Tryz.underlying55 rfl rfl Tryz.sizeOf9 rfl) rfl ?_ | refine WL.val (.fieldAddrI 1 (.of rfl) Tryz.underlying55 rfl rfl Tryz.sizeOf9 rfl) rfl ?_
 first | refine WL.val (.ld (.of rfl) hS (k := 0) rfl Tryz.isAgg9 rfl) rfl ?_
 refine WL.val (.cat (.of rfl) (.of rfl) (by (try simp only [List.length_append, List.length_cons, List.length_nil]); omega)) rfl ?_
 refine WL.val (.assign (.of rfl)) rfl ?_
 refine WL.nil ?_
 refine WC.seq ?_
 refine WC.seq ?_
 refine WC.region ?_
 first | refine WL.val (.fieldAddr 2 (.of rfl) Tryz.underlying55 rfl rfl Tryz.sizeOf3 rfl) rfl ?_ | refine WL.val (.fieldAddrI 2 (.of rfl) Tryz.underlying55 rfl rfl Tryz.sizeOf3 rfl) rfl ?_
 first | refine WL.val (.ld (.of rfl) hS (k := 0) rfl Tryz.isAgg3 rfl) rfl ?_
 refine WL.val (.neq (.of rfl) (.of rfl)) rfl ?_
 refine WL.nil ?_
 refine WC.cond rfl (fun hb12 => ?_) (fun hb12 => ?_)
 ·
  have hc12 := hb12; try simp only [Gk.cs0] at hc12
  refine WC.region ?_
  refine WL.val (.move (.of rfl)) rfl ?_
  first | refine WL.val (.fieldAddr 2 (.of rfl) Tryz.underlying55 rfl rfl Tryz.sizeOf3 rfl) rfl ?_ | refine WL.val (.fieldAddrI 2 (.of rfl) Tryz.underlying55 rfl rfl Tryz.sizeOf3 rfl) rfl ?_
  first | refine WL.val (.ld (.of rfl) hS (k := 0) rfl Tryz.isAgg3 rfl) rfl ?_
  refine WL.call Tryz.func90 rfl (evs_cons (.of rfl) evs_nil) rfl (Itoa_any u.port hp B _ I hK _ hS) ?_
  clear hS
  rintro _ w ⟨rfl, hS⟩
  refine WL.val (.cat (.of rfl) (.of rfl) (by (try simp only [List.length_append, List.length_cons, List.length_nil]); omega)) rfl ?_
  refine WL.val (.cat (.of rfl) (.of rfl) (by (try simp only [List.length_append, List.length_cons, List.length_nil]); omega)) rfl ?_
  refine WL.val (.assign (.of rfl)) rfl ?_
  refine WL.nil ?_
  refine WC.seq ?_
  refine WC.region ?_
  refine WL.val (.move (.of rfl)) rfl ?_
  refine WL.val (.assign (.of rfl)) rfl ?_
  refine WL.nil ?_
  refine WC.ret ?_
  refine ret1 Tryz.results75 rfl ?_
  refine ⟨_, rfl, ?_, hS.drop (k := 0) rfl⟩
  rw [origin, if_neg (by omega)]
  simp [List.append_assoc]
 ·
  have hc12 := hb12; try simp only [Gk.cs0] at hc12
  refine WC.skip ?_
  refine WC.seq ?_
  refine WC.region ?_
  refine WL.val (.move (.of rfl)) rfl ?_
  refine WL.val (.assign (.of rfl)) rfl ?_
  refine WL.nil ?_
  refine WC.ret ?_
  refine ret1 Tryz.results75 rfl ?_
  refine ⟨_, rfl, ?_, hS.drop (k := 0) rfl⟩
  rw [origin, if_pos (by omega)]
  simp [List.append_assoc]
theorem origin_len (u : U) (hu : SmallU u) : (origin u).length ≤ 3000000 := by
 obtain ⟨hs1, hs2, hp, hs4, hs5⟩ := hu
 have hd5 := dec_len u.port hp
 unfold origin
 split <;> simp only [List.length_append, List.length_cons, List.length_nil] <;> omega
theorem uString_any (u : U) (hu : SmallU u) (B w : World) (I : Im) (hK : Known I) (As : List Assn) (hS : Sat B w I As) :
  Calls Tryz.prog 58 [.agg [S u.sch, S u.host, I64 (u.port : Nat), S u.path, S u.query, .bool u.ask].toArray].toArray w (Ret fun v w' => v = S (strU u) ∧ Sat B w' I As) := by
 refine calls Tryz.func58 rfl Tryz.ntmps58 rfl ?_
 refine WC.seq ?_
 refine WC.region ?_
 refine WL.boxA (cs := [_, _, _, _, _, _]) hS (.of rfl) rfl ?_
 clear hS; intro b1 w hS
 refine WL.val (.assign (.of rfl)) rfl ?_
 refine WL.nil ?_
 refine WC.seq ?_
 have hol := origin_len u hu
 obtain ⟨hs1, hs2, hp, hs4, hs5⟩ := id hu
 refine WC.drawn (fun w => ∃ R, Sat B w I (blk b1 [S u.sch, S u.host, I64 (u.port : Nat), S u.path, S u.query, .bool u.ask] 55 :: R)) (fun j => !([].contains j)) (by kernel_rfl) ?_
 replace hS := hS.drew; generalize w.drew = w at hS ⊢
 have hH : ∃ R, Sat B w I (blk b1 [S u.sch, S u.host, I64 (u.port : Nat), S u.path, S u.query, .bool u.ask] 55 :: R) := ⟨_, (hS.pick 0 rfl)⟩
 refine WD.take (i := 0) rfl (by kernel_rfl) (by kernel_rfl) (by kernel_rfl) (by kernel_rfl) hH (fun w ⟨R, hS⟩ => (by first | exact (.ldsW (cs := [_, _, _, _, _, _]) (.of rfl) hS (k := 0) rfl Tryz.isAgg55 Tryz.sizeOf55 rfl) | exact (.lds (vs := [_, _, _, _, _, _]) (.of rfl) hS (k := 0) rfl Tryz.isAgg55 Tryz.sizeOf55 rfl (fun _ _ h => h)))) rfl ?_
 refine WD.takeP (i := 2) rfl (by kernel_rfl) (by kernel_rfl) (by kernel_rfl) (fun w => (by first | exact .fieldAddr 3 (.of rfl) Tryz.underlying55 rfl rfl Tryz.sizeOf9 rfl | exact .fieldAddrI 3 (.of rfl) Tryz.underlying55 rfl rfl Tryz.sizeOf9 rfl)) rfl ?_
 refine WD.take (i := 3) rfl (by kernel_rfl) (by kernel_rfl) (by kernel_rfl) (by kernel_rfl) hH (fun w ⟨R, hS⟩ => (by first | exact (.ld (.of rfl) hS (k := 0) rfl Tryz.isAgg9 rfl))) rfl ?_
 refine WD.branch [1] (by kernel_rfl) rfl (WO.cons rfl ?_ (WO.nil))
 refine WL.call Tryz.func75 rfl (evs_cons (.of rfl) evs_nil) rfl (uOrigin_any u hu B _ I hK _ hS) ?_
 clear hS
 rintro _ w ⟨rfl, hS⟩
 refine WL.nil ?_
 clear hH
 have hH : ∃ R, Sat B w I (blk b1 [S u.sch, S u.host, I64 (u.port : Nat), S u.path, S u.query, .bool u.ask] 55 :: R) := ⟨_, (hS.pick 0 rfl)⟩
 refine And.intro (by intro _ _; exact hH) ?_
 refine WD.takeP (i := 4) rfl (by kernel_rfl) (by kernel_rfl) (by kernel_rfl) (fun w => (.cat (.of rfl) (.of rfl) (by (try simp only [List.length_append, List.length_cons, List.length_nil]); omega))) rfl ?_
 refine WD.takeP (i := 5) rfl (by kernel_rfl) (by kernel_rfl) (by kernel_rfl) (fun w => (.assign (.of rfl))) rfl ?_
 refine WD.done (by kernel_rfl) ?_
 refine WC.seq ?_
 refine WC.seq ?_
 refine WC.region ?_
 first | refine WL.val (.fieldAddr 5 (.of rfl) Tryz.underlying55 rfl rfl Tryz.sizeOf4 rfl) rfl ?_ | refine WL.val (.fieldAddrI 5 (.of rfl) Tryz.underlying55 rfl rfl Tryz.sizeOf4 rfl) rfl ?_
 first | refine WL.val (.ld (.of rfl) hS (k := 0) rfl Tryz.isAgg4 rfl) rfl ?_
 refine WL.nil ?_
 refine WC.cond rfl (fun hb10 => ?_) (fun hb10 => ?_)
 ·
  have hc10 := hb10; try simp only [Gk.cs0] at hc10
  refine WC.region ?_
  refine WL.val (.move (.of rfl)) rfl ?_
  first | refine WL.val (.fieldAddr 4 (.of rfl) Tryz.underlying55 rfl rfl Tryz.sizeOf9 rfl) rfl ?_ | refine WL.val (.fieldAddrI 4 (.of rfl) Tryz.underlying55 rfl rfl Tryz.sizeOf9 rfl) rfl ?_
  first | refine WL.val (.ld (.of rfl) hS (k := 0) rfl Tryz.isAgg9 rfl) rfl ?_
  refine WL.val (.cat (.of rfl) (.of rfl) (by (try simp only [List.length_append, List.length_cons, List.length_nil]); omega)) rfl ?_
  refine WL.val (.cat (.of rfl) (.of rfl) (by (try simp only [List.length_append, List.length_cons, List.length_nil]); omega)) rfl ?_
  refine WL.val (.assign (.of rfl)) rfl ?_
  refine WL.nil ?_
  refine WC.seq ?_
  refine WC.region ?_
  refine WL.val (.move (.of rfl)) rfl ?_
  refine WL.val (.assign (.of rfl)) rfl ?_
  refine WL.nil ?_
  refine WC.ret ?_
  refine ret1 Tryz.results58 rfl ?_
  refine ⟨_, rfl, ?_, hS.drop (k := 0) rfl⟩
  rw [strU, if_pos hc10]
  simp [List.append_assoc]
 ·
  have hc10 := hb10; try simp only [Gk.cs0] at hc10
  refine WC.skip ?_
  refine WC.seq ?_
  refine WC.region ?_
  refine WL.val (.move (.of rfl)) rfl ?_
  refine WL.val (.assign (.of rfl)) rfl ?_
  refine WL.nil ?_
  refine WC.ret ?_
  refine ret1 Tryz.results58 rfl ?_
  refine ⟨_, rfl, ?_, hS.drop (k := 0) rfl⟩
  rw [strU, if_neg (by rw [hc10]; decide), List.append_nil]
theorem cut_small (s sep : List UInt8) : (Go.Lib.cut s sep).1.length ≤ s.length ∧ (Go.Lib.cut s sep).2.1.length ≤ s.length := by
 unfold Go.Lib.cut
 split
 ·simp only [List.length_take, List.length_drop]; omega
 ·simp
theorem CutSign_e (s : List UInt8) (hs : s.length ≤ 1000000) (B w : World) (I : Im) (hK : Known I) (As : List Assn) (hS : Sat B w I As) : Calls Tryz.prog 68 [S s, S SIGN].toArray w (Ret fun v w' => ∃ sc rs ok, v = .tuple #[S sc, S rs, .bool ok] ∧ schemeOf s = (if ok = true ∧ (low sc = http ∨ low sc = https) then some (low sc, rs) else none) ∧ sc.length ≤ s.length ∧ rs.length ≤ s.length ∧ Sat B w' I As) :=
 (CutSign_any s hs B w I hK As hS).mono fun e w' he => by
  obtain ⟨v, rfl, rfl, h⟩ := he
  obtain ⟨h1, h2⟩ := cut_small s SIGN
  exact ⟨_, rfl, _, _, _, rfl, scheme_cut s, h1, h2, h⟩
theorem partU_len {s t : List UInt8} (h : partU s = some t) : t.length ≤ s.length := by
 unfold partU at h
 split at h
 ·exact norm_len s t h
 ·cases h
theorem normal_e (s : List UInt8) (hl : s.length ≤ 1000000) (B w : World) (I : Im) (hK : Known I) (As : List Assn) (hS : Sat B w I As) : Calls Tryz.prog 73 [S s].toArray w (Ret fun v w' => ∃ n1 e1, v = .tuple #[S n1, I64 e1] ∧ (match partU s with | none => n1 = [] ∧ e1 = 15 | some t => n1 = t ∧ e1 = 0) ∧ n1.length ≤ s.length ∧ Sat B w' I As) :=
 (normal_any s hl B w I hK.dig As hS).mono fun e w' he => by
  obtain ⟨v, rfl, rfl, h⟩ := he
  cases hp : partU s with
  | none => exact ⟨_, rfl, _, _, rfl, ⟨rfl, rfl⟩, Nat.zero_le _, h⟩
  | some t => exact ⟨_, rfl, _, _, rfl, ⟨rfl, rfl⟩, partU_len hp, h⟩
theorem port_e (s sch : List UInt8) (hl : s.length ≤ 1000000) (w : World) : Calls Tryz.prog 72 [S s, S sch].toArray w (Ret fun v w' => (∃ pn : Nat, v = .tuple #[I64 (pn : Nat), .bool (portOk s)] ∧ pn ≤ 65535 ∧ (portOk s = true → pn = portV s sch)) ∧ w = w') :=
 (port_any s sch hl w).mono fun e w' he => by
  obtain ⟨v, rfl, rfl, h⟩ := he
  refine ⟨_, rfl, ?_, h⟩
  cases hp : portOk s with
  | false => exact ⟨0, rfl, by decide, fun e => by cases e⟩
  | true =>
   refine ⟨portV s sch, rfl, ?_, fun _ => rfl⟩
   unfold portV
   split
   ·decide
   ·unfold portOk at hp
    simp only [Bool.and_eq_true, decide_eq_true_eq] at hp
    exact hp.2
theorem upto_len (a s : List UInt8) : (upto a s).length ≤ s.length := by
 have := congrArg List.length (upto_from a s)
 rw [List.length_append] at this; omega
theorem from_len (a s : List UInt8) : (from_ a s).length ≤ s.length := by
 have := congrArg List.length (upto_from a s)
 rw [List.length_append] at this; omega
theorem asc4 : Asc [47, 63, 35, 58] := fun j b h => by
 match j, h with
 | 0, h => cases h; decide
 | 1, h => cases h; decide
 | 2, h => cases h; decide
 | 3, h => cases h; decide
 | _ + 4, h => simp at h
theorem asc3 : Asc [47, 63, 35] := fun j b h => by
 match j, h with
 | 0, h => cases h; decide
 | 1, h => cases h; decide
 | 2, h => cases h; decide
 | _ + 3, h => simp at h
theorem pre_take (r : List UInt8) : hasPre r [58] = true ↔ r.take 1 = [58] := by
 cases r with
 | nil => simp [hasPre]
 | cons a b => simp [hasPre]; intro _; omega
set_option maxHeartbeats 800000 in
theorem uParse_any (s : List UInt8) (hl : s.length ≤ 1000000) (B w : World) (I : Im) (hK : Known I) (As : List Assn) (hS : Sat B w I As) :
  Calls Tryz.prog 57 [S s].toArray w (Ret fun v w' => v = .tuple #[.agg (uc (pU s).1).toArray, I64 ((pU s).2 : Nat)] ∧ Sat B w' I As) := by
 refine calls Tryz.func57 rfl Tryz.ntmps57 rfl ?_
 refine WC.seq ?_
 refine WC.region ?_
 refine WL.allocA (cs := [_, _, _, _, _, _]) hS Tryz.zeroValue55 rfl ?_
 clear hS; intro b2 w hS
 refine WL.val (.assign (.of rfl)) rfl ?_
 refine WL.nil ?_
 refine WC.seq ?_
 refine WC.seq ?_
 refine WC.region ?_
 refine WL.val (.move (.of rfl)) rfl ?_
 refine WL.val (.len (.of rfl) Tryz.underlying9) rfl ?_
 refine WL.val (.gtr (.of rfl) (.of rfl)) rfl ?_
 refine WL.nil ?_
 refine WC.cond rfl (fun hb15 => ?_) (fun hb15 => ?_)
 ·
  have hc15 := hb15; try simp only [Gk.cs0] at hc15
  refine WC.seq ?_
  refine WC.region ?_
  refine WL.val (.build (cs := [_, _, _, _, _, _]) parts_nil bld55_75 rfl) rfl ?_
  first | refine WL.stA hS (k := 0) rfl (.of rfl) (.of rfl) rfl Tryz.sizeOf55 rfl (by simp) ?_
  clear hS; intro w hS; try dsimp only [List.set] at hS
  try simp only [List.take_zero, List.nil_append, List.append_nil, List.drop_succ_cons, List.drop_zero, List.drop_nil, Nat.zero_add] at hS
  refine WL.val (.assign (.of rfl)) rfl ?_
  refine WL.nil ?_
  refine WC.ret ?_
  first | refine ret2c (b := _) (cs := [_, _, _, _, _, _]) Tryz.results57 hS (k := 0) rfl Tryz.isAgg55 Tryz.sizeOf55 rfl rfl rfl ?_
  exact ⟨_, rfl, by rw [pU, if_pos (by omega)]; rfl, (hS.drop (k := 0) rfl)⟩
 ·
  have hc15 := hb15; try simp only [Gk.cs0] at hc15
  refine WC.skip ?_
  refine WC.seq ?_
  refine WC.region ?_
  refine WL.val (.move (.of rfl)) rfl ?_
  refine WL.call Tryz.func68 rfl (evs_cons (.of rfl) (evs_cons (.of rfl) evs_nil)) rfl (CutSign_e s (by omega) B _ I hK _ hS) ?_
  clear hS
  rintro _ w ⟨sc, rs, ok, rfl, hsc, hscl, hrsl, hS⟩
  refine WL.val (.move (.of rfl)) rfl ?_
  refine WL.val (.extract (.of rfl) rfl) rfl ?_
  refine WL.val (.extract (.of rfl) rfl) rfl ?_
  refine WL.val (.extract (.of rfl) rfl) rfl ?_
  refine WL.val (.assign (.of rfl)) rfl ?_
  refine WL.val (.assign (.of rfl)) rfl ?_
  refine WL.val (.assign (.of rfl)) rfl ?_
  refine WL.nil ?_
  refine WC.seq ?_
  refine WC.region ?_
  refine WL.val (.move (.of rfl)) rfl ?_
  refine WL.call Tryz.func69 rfl (evs_cons (.of rfl) evs_nil) rfl (lower_any sc (by omega) B _ I _ hS) ?_
  clear hS
  rintro _ w ⟨rfl, hS⟩
  refine WL.val (.assign (.of rfl)) rfl ?_
  refine WL.nil ?_
  refine WC.seq ?_
  refine WC.seq ?_
  refine WC.region ?_
  refine WL.val (.move (.of rfl)) rfl ?_
  refine WL.val (.not (.of rfl)) rfl ?_
  refine WL.val (.move (.of rfl)) rfl ?_
  refine WL.gval rfl rfl (fun hg1 => (.move (.of rfl))) rfl ?_
  refine WL.gval rfl rfl (fun hg1 => (.nes (.gd hg1 rfl) (.of rfl))) rfl ?_
  refine WL.gval rfl rfl (fun hg1 => (.move (.gd hg1 rfl))) rfl ?_
  refine WL.gval2 rfl rfl rfl (fun hg1 hg2 => (.move (.of rfl))) rfl ?_
  refine WL.gval2 rfl rfl rfl (fun hg1 hg2 => (.nes (.gd2 hg1 hg2 rfl) (.of rfl))) rfl ?_
  refine WL.gval rfl rfl (fun hg1 => (.pand (.gd hg1 rfl) (.gd hg1 rfl) (.of rfl))) rfl ?_
  refine WL.val (.por (.of rfl) (.of rfl) (.of rfl)) rfl ?_
  refine WL.nil ?_
  refine WC.cond rfl (fun hb34 => ?_) (fun hb34 => ?_)
  ·
   have hc34 := hb34; try simp only [Gk.cs0] at hc34
   refine WC.seq ?_
   refine WC.region ?_
   refine WL.val (.build (cs := [_, _, _, _, _, _]) parts_nil bld55_75 rfl) rfl ?_
   first | refine WL.stA hS (k := 0) rfl (.of rfl) (.of rfl) rfl Tryz.sizeOf55 rfl (by simp) ?_
   clear hS; intro w hS; try dsimp only [List.set] at hS
   try simp only [List.take_zero, List.nil_append, List.append_nil, List.drop_succ_cons, List.drop_zero, List.drop_nil, Nat.zero_add] at hS
   refine WL.val (.assign (.of rfl)) rfl ?_
   refine WL.nil ?_
   refine WC.ret ?_
   first | refine ret2c (b := _) (cs := [_, _, _, _, _, _]) Tryz.results57 hS (k := 0) rfl Tryz.isAgg55 Tryz.sizeOf55 rfl rfl rfl ?_
   refine ⟨_, rfl, ?_, (hS.drop (k := 0) rfl)⟩
   rw [pU, if_neg (by omega), hsc, if_neg]
   ·rfl
   ·rintro ⟨h1, h2⟩
    rw [h1] at hb34
    rcases h2 with h | h <;> rw [h] at hb34 <;> simp [http, https] at hb34
  ·
   have hc34 := hb34; try simp only [Gk.cs0] at hc34
   refine WC.skip ?_
   refine WC.seq ?_
   have hok : ok = true ∧ (low sc = http ∨ low sc = https) := hc34
   rw [if_pos hok] at hsc
   have hlow := low_len sc
   refine WC.region ?_
   refine WL.val (.move (.of rfl)) rfl ?_
   refine WL.val (.build (cs := [_, _, _, _, _, _]) (parts_cons (.of rfl) parts_nil) bld55_75 rfl) rfl ?_
   refine WL.allocA (cs := [_, _, _, _, _, _]) hS Tryz.zeroValue55 rfl ?_
   clear hS; intro b7 w hS
   first | refine WL.stA hS (k := 0) rfl (.of rfl) (.of rfl) rfl Tryz.sizeOf55 rfl (by simp) ?_ | refine WL.stA hS (k := 1) rfl (.of rfl) (.of rfl) rfl Tryz.sizeOf55 rfl (by simp) ?_
   clear hS; intro w hS; try dsimp only [List.set] at hS
   try simp only [List.take_zero, List.nil_append, List.append_nil, List.drop_succ_cons, List.drop_zero, List.drop_nil, Nat.zero_add] at hS
   refine WL.nil ?_
   refine WC.seq ?_
   refine WC.region ?_
   refine WL.val (.move (.of rfl)) rfl ?_
   refine WL.call Tryz.func70 rfl (evs_cons (.of rfl) (evs_cons (.of rfl) evs_nil)) rfl (cut_any rs [47, 63, 35, 58] (by omega) asc4 (by decide) (by decide) B _ I _ hS) ?_
   clear hS
   rintro _ w ⟨rfl, hS⟩
   refine WL.val (.move (.of rfl)) rfl ?_
   refine WL.val (.extract (.of rfl) rfl) rfl ?_
   refine WL.val (.extract (.of rfl) rfl) rfl ?_
   first | refine WL.val (.fieldAddr 1 (.of rfl) Tryz.underlying55 rfl rfl Tryz.sizeOf9 rfl) rfl ?_ | refine WL.val (.fieldAddrI 1 (.of rfl) Tryz.underlying55 rfl rfl Tryz.sizeOf9 rfl) rfl ?_
   first | refine WL.st1 hS (k := 0) rfl (.of rfl) (.of rfl) rfl Tryz.sizeOf9 (by simp) ?_ | refine WL.st1 hS (k := 1) rfl (.of rfl) (.of rfl) rfl Tryz.sizeOf9 (by simp) ?_
   clear hS; intro w hS; try dsimp only [List.set] at hS
   refine WL.val (.assign (.of rfl)) rfl ?_
   refine WL.nil ?_
   refine WC.seq ?_
   refine WC.seq ?_
   refine WC.region ?_
   first | refine WL.val (.fieldAddr 1 (.of rfl) Tryz.underlying55 rfl rfl Tryz.sizeOf9 rfl) rfl ?_ | refine WL.val (.fieldAddrI 1 (.of rfl) Tryz.underlying55 rfl rfl Tryz.sizeOf9 rfl) rfl ?_
   first | refine WL.val (.ld (.of rfl) hS (k := 0) rfl Tryz.isAgg9 rfl) rfl ?_ | refine WL.val (.ld (.of rfl) hS (k := 1) rfl Tryz.isAgg9 rfl) rfl ?_
   refine WL.call Tryz.func69 rfl (evs_cons (.of rfl) evs_nil) rfl (lower_any _ (by have := upto_len [47, 63, 35, 58] rs; omega) B _ I _ hS) ?_
   clear hS
   rintro _ w ⟨rfl, hS⟩
   first | refine WL.val (.fieldAddr 1 (.of rfl) Tryz.underlying55 rfl rfl Tryz.sizeOf9 rfl) rfl ?_ | refine WL.val (.fieldAddrI 1 (.of rfl) Tryz.underlying55 rfl rfl Tryz.sizeOf9 rfl) rfl ?_
   first | refine WL.st1 hS (k := 0) rfl (.of rfl) (.of rfl) rfl Tryz.sizeOf9 (by simp) ?_ | refine WL.st1 hS (k := 1) rfl (.of rfl) (.of rfl) rfl Tryz.sizeOf9 (by simp) ?_
   clear hS; intro w hS; try dsimp only [List.set] at hS
   refine WL.nil ?_
   refine WC.seq ?_
   refine WC.region ?_
   first | refine WL.val (.fieldAddr 1 (.of rfl) Tryz.underlying55 rfl rfl Tryz.sizeOf9 rfl) rfl ?_ | refine WL.val (.fieldAddrI 1 (.of rfl) Tryz.underlying55 rfl rfl Tryz.sizeOf9 rfl) rfl ?_
   first | refine WL.val (.ld (.of rfl) hS (k := 0) rfl Tryz.isAgg9 rfl) rfl ?_ | refine WL.val (.ld (.of rfl) hS (k := 1) rfl Tryz.isAgg9 rfl) rfl ?_
   refine WL.call Tryz.func71 rfl (evs_cons (.of rfl) evs_nil) rfl (host_any _ _) ?_
   rintro _ _ ⟨rfl, rfl⟩
   refine WL.val (.not (.of rfl)) rfl ?_
   refine WL.nil ?_
   refine WC.cond rfl (fun hb51 => ?_) (fun hb51 => ?_)
   ·
    have hc51 := hb51; try simp only [Gk.cs0] at hc51
    refine WC.seq ?_
    refine WC.region ?_
    refine WL.val (.build (cs := [_, _, _, _, _, _]) parts_nil bld55_75 rfl) rfl ?_
    first | refine WL.stA hS (k := 0) rfl (.of rfl) (.of rfl) rfl Tryz.sizeOf55 rfl (by simp) ?_ | refine WL.stA hS (k := 1) rfl (.of rfl) (.of rfl) rfl Tryz.sizeOf55 rfl (by simp) ?_
    clear hS; intro w hS; try dsimp only [List.set] at hS
    try simp only [List.take_zero, List.nil_append, List.append_nil, List.drop_succ_cons, List.drop_zero, List.drop_nil, Nat.zero_add] at hS
    refine WL.val (.assign (.of rfl)) rfl ?_
    refine WL.nil ?_
    refine WC.ret ?_
    first | refine ret2c (b := _) (cs := [_, _, _, _, _, _]) Tryz.results57 hS (k := 0) rfl Tryz.isAgg55 Tryz.sizeOf55 rfl rfl rfl ?_ | refine ret2c (b := _) (cs := [_, _, _, _, _, _]) Tryz.results57 hS (k := 1) rfl Tryz.isAgg55 Tryz.sizeOf55 rfl rfl rfl ?_
    refine ⟨_, rfl, ?_, ((hS.drop (k := 0) rfl).drop (k := 0) rfl)⟩
    rw [pU, if_neg (by omega), hsc]
    simp only
    rw [hostOf, if_neg (by simpa using hb51)]; rfl
   ·
    have hc51 := hb51; try simp only [Gk.cs0] at hc51
    refine WC.skip ?_
    refine WC.cutS (σ := Nat × List UInt8) (fun ⟨port, r⟩ => [(2, ptr b2 0), (5, S r), (7, ptr b7 0)]) (fun ⟨port, r⟩ w => pU s = tailU (low sc) (low (upto [47, 63, 35, 58] rs)) port r ∧ port ≤ 65535 ∧ r.length ≤ 2000 ∧ Sat B w I (blk b7 [S (low sc), S (low (upto [47, 63, 35, 58] rs)), I64 (port : Nat), S [], S [], .bool false] 55 :: blk b2 [S [], S [], I64 0, S [], S [], .bool false] 55 :: As)) ?_ ?_
    ·
     refine WC.seq ?_
     refine WC.region ?_
     refine WL.val (.move (.of rfl)) rfl ?_
     refine WL.call Tryz.func38 rfl (evs_cons (.of rfl) (evs_cons (.of rfl) evs_nil)) rfl (HasPrefix_any _ [58] _ (by have := from_len [47, 63, 35, 58] rs; omega) (by decide)) ?_
     rintro _ _ ⟨rfl, rfl⟩
     refine WL.nil ?_
     refine WC.cond rfl (fun hb54 => ?_) (fun hb54 => ?_)
     ·
      have hc54 := hb54; try simp only [Gk.cs0] at hc54
      refine WC.seq ?_
      have htk := (pre_take _).1 hb54
      have hfl := from_len [47, 63, 35, 58] rs
      have hr1 : 1 ≤ (from_ [47, 63, 35, 58] rs).length := by
       have := congrArg List.length htk
       rw [List.length_take, List.length_cons, List.length_nil] at this; omega
      refine WC.region ?_
      refine WL.val (.assign (.of rfl)) rfl ?_
      refine WL.nil ?_
      refine WC.seq ?_
      refine WC.region ?_
      refine WL.val (.move (.of rfl)) rfl ?_
      refine WL.val (.subFrom (.of rfl) (.of rfl) (by omega) (by omega) Tryz.underlying9) rfl ?_
      refine WL.call Tryz.func70 rfl (evs_cons (.of rfl) (evs_cons (.of rfl) evs_nil)) rfl (cut_any ((from_ [47, 63, 35, 58] rs).drop 1) [47, 63, 35] (by rw [List.length_drop]; have := from_len [47, 63, 35, 58] rs; omega) asc3 (by decide) (by decide) B _ I _ hS) ?_
      clear hS
      rintro _ w ⟨rfl, hS⟩
      refine WL.val (.move (.of rfl)) rfl ?_
      refine WL.val (.extract (.of rfl) rfl) rfl ?_
      refine WL.val (.extract (.of rfl) rfl) rfl ?_
      refine WL.val (.assign (.of rfl)) rfl ?_
      refine WL.val (.assign (.of rfl)) rfl ?_
      refine WL.nil ?_
      refine WC.seq ?_
      refine WC.region ?_
      refine WL.val (.move (.of rfl)) rfl ?_
      refine WL.val (.move (.of rfl)) rfl ?_
      refine WL.call Tryz.func72 rfl (evs_cons (.of rfl) (evs_cons (.of rfl) evs_nil)) rfl (port_e _ (low sc) (by have := upto_len [47, 63, 35] ((from_ [47, 63, 35, 58] rs).drop 1); have := from_len [47, 63, 35, 58] rs; rw [List.length_drop] at *; omega) _) ?_
      rintro _ _ ⟨⟨pn, rfl, hpn, hpv⟩, rfl⟩
      refine WL.val (.move (.of rfl)) rfl ?_
      refine WL.val (.extract (.of rfl) rfl) rfl ?_
      refine WL.val (.extract (.of rfl) rfl) rfl ?_
      first | refine WL.val (.fieldAddr 2 (.of rfl) Tryz.underlying55 rfl rfl Tryz.sizeOf3 rfl) rfl ?_ | refine WL.val (.fieldAddrI 2 (.of rfl) Tryz.underlying55 rfl rfl Tryz.sizeOf3 rfl) rfl ?_
      first | refine WL.st1 hS (k := 0) rfl (.of rfl) (.of rfl) rfl Tryz.sizeOf3 (by simp) ?_ | refine WL.st1 hS (k := 1) rfl (.of rfl) (.of rfl) rfl Tryz.sizeOf3 (by simp) ?_
      clear hS; intro w hS; try dsimp only [List.set] at hS
      refine WL.val (.assign (.of rfl)) rfl ?_
      refine WL.nil ?_
      refine WC.seq ?_
      refine WC.region ?_
      refine WL.val (.move (.of rfl)) rfl ?_
      refine WL.val (.not (.of rfl)) rfl ?_
      refine WL.nil ?_
      refine WC.cond rfl (fun hb69 => ?_) (fun hb69 => ?_)
      ·
       have hc69 := hb69; try simp only [Gk.cs0] at hc69
       refine WC.seq ?_
       refine WC.region ?_
       refine WL.val (.build (cs := [_, _, _, _, _, _]) parts_nil bld55_75 rfl) rfl ?_
       first | refine WL.stA hS (k := 0) rfl (.of rfl) (.of rfl) rfl Tryz.sizeOf55 rfl (by simp) ?_ | refine WL.stA hS (k := 1) rfl (.of rfl) (.of rfl) rfl Tryz.sizeOf55 rfl (by simp) ?_
       clear hS; intro w hS; try dsimp only [List.set] at hS
       try simp only [List.take_zero, List.nil_append, List.append_nil, List.drop_succ_cons, List.drop_zero, List.drop_nil, Nat.zero_add] at hS
       refine WL.val (.assign (.of rfl)) rfl ?_
       refine WL.nil ?_
       refine WC.ret ?_
       first | refine ret2c (b := _) (cs := [_, _, _, _, _, _]) Tryz.results57 hS (k := 0) rfl Tryz.isAgg55 Tryz.sizeOf55 rfl rfl rfl ?_ | refine ret2c (b := _) (cs := [_, _, _, _, _, _]) Tryz.results57 hS (k := 1) rfl Tryz.isAgg55 Tryz.sizeOf55 rfl rfl rfl ?_
       refine ⟨_, rfl, ?_, ((hS.drop (k := 0) rfl).drop (k := 0) rfl)⟩
       rw [pU, if_neg (by omega), hsc]
       simp only
       rw [hostOf, if_pos (by simpa using hb51), behind, if_pos htk, if_neg (by simpa using hb69)]; rfl
      ·
       have hc69 := hb69; try simp only [Gk.cs0] at hc69
       refine WC.skip ?_
       have hok2 : portOk (upto [47, 63, 35] ((from_ [47, 63, 35, 58] rs).drop 1)) = true := by simpa using hb69
       have hpp := hpv hok2
       refine ⟨(pn, _), ⟨rfl, rfl, rfl, trivial⟩, ?_, hpn, ?_, hS⟩
       ·rw [pU, if_neg (by omega), hsc]
        simp only
        rw [hostOf, if_pos (by simpa using hb51), behind, if_pos htk, if_pos hok2, hpp]
       ·have := from_len [47, 63, 35] ((from_ [47, 63, 35, 58] rs).drop 1)
        rw [List.length_drop] at this
        omega
     ·
      have hc54 := hb54; try simp only [Gk.cs0] at hc54
      refine WC.skip ?_
      refine ⟨(0, _), ⟨rfl, rfl, rfl, trivial⟩, ?_, by decide, ?_, hS⟩
      ·rw [pU, if_neg (by omega), hsc]
       simp only
       rw [hostOf, if_pos (by simpa using hb51), behind, if_neg (fun e => by rw [(pre_take _).2 e] at hb54; cases hb54)]
      ·have := from_len [47, 63, 35, 58] rs
       omega
    ·
     rintro ⟨port, r⟩ w ⟨hpu, hport, hrl, hS⟩
     change WC _ _ _ _ [(2, ptr b2 0), (5, S r), (7, ptr b7 0)] w
     refine WC.seq ?_
     refine WC.region ?_
     refine WL.val (.move (.of rfl)) rfl ?_
     refine WL.call Tryz.func68 rfl (evs_cons (.of rfl) (evs_cons (.of rfl) evs_nil)) rfl (CutOne_any r 63 (by omega) B _ I hK _ hS) ?_
     clear hS
     rintro _ w ⟨rfl, hS⟩
     refine WL.val (.move (.of rfl)) rfl ?_
     refine WL.val (.extract (.of rfl) rfl) rfl ?_
     refine WL.val (.extract (.of rfl) rfl) rfl ?_
     refine WL.val (.extract (.of rfl) rfl) rfl ?_
     refine WL.val (.assign (.of rfl)) rfl ?_
     refine WL.val (.assign (.of rfl)) rfl ?_
     refine WL.val (.assign (.of rfl)) rfl ?_
     refine WL.nil ?_
     refine WC.seq ?_
     refine WC.region ?_
     refine WL.val (.move (.of rfl)) rfl ?_
     refine WL.call Tryz.func73 rfl (evs_cons (.of rfl) evs_nil) rfl (normal_e _ (by have := upto_len [63] r; omega) B _ I hK _ hS) ?_
     clear hS
     rintro _ w ⟨p1, e1, rfl, hp1, hp1l, hS⟩
     refine WL.val (.move (.of rfl)) rfl ?_
     refine WL.val (.extract (.of rfl) rfl) rfl ?_
     refine WL.val (.extract (.of rfl) rfl) rfl ?_
     refine WL.val (.assign (.of rfl)) rfl ?_
     refine WL.val (.assign (.of rfl)) rfl ?_
     refine WL.nil ?_
     refine WC.seq ?_
     refine WC.seq ?_
     refine WC.region ?_
     refine WL.val (.move (.of rfl)) rfl ?_
     refine WL.val (.neq (.of rfl) (.of rfl)) rfl ?_
     refine WL.nil ?_
     refine WC.cond rfl (fun hb83 => ?_) (fun hb83 => ?_)
     ·
      have hc83 := hb83; try simp only [Gk.cs0] at hc83
      refine WC.seq ?_
      refine WC.region ?_
      refine WL.val (.build (cs := [_, _, _, _, _, _]) parts_nil bld55_75 rfl) rfl ?_
      refine WL.val (.move (.of rfl)) rfl ?_
      first | refine WL.stA hS (k := 0) rfl (.of rfl) (.of rfl) rfl Tryz.sizeOf55 rfl (by simp) ?_ | refine WL.stA hS (k := 1) rfl (.of rfl) (.of rfl) rfl Tryz.sizeOf55 rfl (by simp) ?_
      clear hS; intro w hS; try dsimp only [List.set] at hS
      try simp only [List.take_zero, List.nil_append, List.append_nil, List.drop_succ_cons, List.drop_zero, List.drop_nil, Nat.zero_add] at hS
      refine WL.val (.assign (.of rfl)) rfl ?_
      refine WL.nil ?_
      refine WC.ret ?_
      first | refine ret2c (b := _) (cs := [_, _, _, _, _, _]) Tryz.results57 hS (k := 0) rfl Tryz.isAgg55 Tryz.sizeOf55 rfl rfl rfl ?_ | refine ret2c (b := _) (cs := [_, _, _, _, _, _]) Tryz.results57 hS (k := 1) rfl Tryz.isAgg55 Tryz.sizeOf55 rfl rfl rfl ?_
      refine ⟨_, rfl, ?_, ((hS.drop (k := 0) rfl).drop (k := 0) rfl)⟩
      rw [hpu, tailU]
      cases hp : partU (upto [63] r) with
      | none => rw [hp] at hp1; rw [hp1.2]; rfl
      | some t => rw [hp] at hp1; exact absurd hp1.2 hc83
     ·
      have hc83 := hb83; try simp only [Gk.cs0] at hc83
      refine WC.skip ?_
      refine WC.seq ?_
      refine WC.region ?_
      refine WL.val (.move (.of rfl)) rfl ?_
      refine WL.call Tryz.func73 rfl (evs_cons (.of rfl) evs_nil) rfl (normal_e _ (by have := from_len [63] r; rw [List.length_drop]; omega) B _ I hK _ hS) ?_
      clear hS
      rintro _ w ⟨q1, e2, rfl, hq1, hq1l, hS⟩
      refine WL.val (.move (.of rfl)) rfl ?_
      refine WL.val (.extract (.of rfl) rfl) rfl ?_
      refine WL.val (.extract (.of rfl) rfl) rfl ?_
      first | refine WL.val (.fieldAddr 4 (.of rfl) Tryz.underlying55 rfl rfl Tryz.sizeOf9 rfl) rfl ?_ | refine WL.val (.fieldAddrI 4 (.of rfl) Tryz.underlying55 rfl rfl Tryz.sizeOf9 rfl) rfl ?_
      first | refine WL.st1 hS (k := 0) rfl (.of rfl) (.of rfl) rfl Tryz.sizeOf9 (by simp) ?_ | refine WL.st1 hS (k := 1) rfl (.of rfl) (.of rfl) rfl Tryz.sizeOf9 (by simp) ?_
      clear hS; intro w hS; try dsimp only [List.set] at hS
      refine WL.val (.assign (.of rfl)) rfl ?_
      refine WL.nil ?_
      refine WC.seq ?_
      refine WC.seq ?_
      refine WC.region ?_
      refine WL.val (.move (.of rfl)) rfl ?_
      refine WL.val (.neq (.of rfl) (.of rfl)) rfl ?_
      refine WL.nil ?_
      refine WC.cond rfl (fun hb93 => ?_) (fun hb93 => ?_)
      ·
       have hc93 := hb93; try simp only [Gk.cs0] at hc93
       refine WC.seq ?_
       refine WC.region ?_
       refine WL.val (.build (cs := [_, _, _, _, _, _]) parts_nil bld55_75 rfl) rfl ?_
       refine WL.val (.move (.of rfl)) rfl ?_
       first | refine WL.stA hS (k := 0) rfl (.of rfl) (.of rfl) rfl Tryz.sizeOf55 rfl (by simp) ?_ | refine WL.stA hS (k := 1) rfl (.of rfl) (.of rfl) rfl Tryz.sizeOf55 rfl (by simp) ?_
       clear hS; intro w hS; try dsimp only [List.set] at hS
       try simp only [List.take_zero, List.nil_append, List.append_nil, List.drop_succ_cons, List.drop_zero, List.drop_nil, Nat.zero_add] at hS
       refine WL.val (.assign (.of rfl)) rfl ?_
       refine WL.nil ?_
       refine WC.ret ?_
       first | refine ret2c (b := _) (cs := [_, _, _, _, _, _]) Tryz.results57 hS (k := 0) rfl Tryz.isAgg55 Tryz.sizeOf55 rfl rfl rfl ?_ | refine ret2c (b := _) (cs := [_, _, _, _, _, _]) Tryz.results57 hS (k := 1) rfl Tryz.isAgg55 Tryz.sizeOf55 rfl rfl rfl ?_
       refine ⟨_, rfl, ?_, ((hS.drop (k := 0) rfl).drop (k := 0) rfl)⟩
       rw [hpu, tailU]
       cases hp : partU (upto [63] r) with
       | none => rw [hp] at hp1; have := hp1.2; omega
       | some t =>
        cases hq : partU ((from_ [63] r).drop 1) with
        | none => rw [hq] at hq1; rw [hq1.2]; rfl
        | some t => rw [hq] at hq1; exact absurd hq1.2 hc93
      ·
       have hc93 := hb93; try simp only [Gk.cs0] at hc93
       refine WC.skip ?_
       refine WC.seq ?_
       refine WC.region ?_
       refine WL.val (.move (.of rfl)) rfl ?_
       refine WL.call Tryz.func74 rfl (evs_cons (.of rfl) evs_nil) rfl (Dots_any p1 (by have := upto_len [63] r; omega) B _ I hK _ hS) ?_
       clear hS
       rintro _ w ⟨rfl, hS⟩
       refine WL.val (.move (.of rfl)) rfl ?_
       first | refine WL.val (.fieldAddr 3 (.of rfl) Tryz.underlying55 rfl rfl Tryz.sizeOf9 rfl) rfl ?_ | refine WL.val (.fieldAddrI 3 (.of rfl) Tryz.underlying55 rfl rfl Tryz.sizeOf9 rfl) rfl ?_
       first | refine WL.st1 hS (k := 0) rfl (.of rfl) (.of rfl) rfl Tryz.sizeOf9 (by simp) ?_ | refine WL.st1 hS (k := 1) rfl (.of rfl) (.of rfl) rfl Tryz.sizeOf9 (by simp) ?_
       clear hS; intro w hS; try dsimp only [List.set] at hS
       first | refine WL.val (.fieldAddr 5 (.of rfl) Tryz.underlying55 rfl rfl Tryz.sizeOf4 rfl) rfl ?_ | refine WL.val (.fieldAddrI 5 (.of rfl) Tryz.underlying55 rfl rfl Tryz.sizeOf4 rfl) rfl ?_
       first | refine WL.st1 hS (k := 0) rfl (.of rfl) (.of rfl) rfl Tryz.sizeOf4 (by simp) ?_ | refine WL.st1 hS (k := 1) rfl (.of rfl) (.of rfl) rfl Tryz.sizeOf4 (by simp) ?_
       clear hS; intro w hS; try dsimp only [List.set] at hS
       refine WL.nil ?_
       refine WC.seq ?_
       refine WC.seq ?_
       refine WC.region ?_
       first | refine WL.val (.fieldAddr 3 (.of rfl) Tryz.underlying55 rfl rfl Tryz.sizeOf9 rfl) rfl ?_ | refine WL.val (.fieldAddrI 3 (.of rfl) Tryz.underlying55 rfl rfl Tryz.sizeOf9 rfl) rfl ?_
       first | refine WL.val (.ld (.of rfl) hS (k := 0) rfl Tryz.isAgg9 rfl) rfl ?_ | refine WL.val (.ld (.of rfl) hS (k := 1) rfl Tryz.isAgg9 rfl) rfl ?_
       refine WL.val (.eqs (.of rfl) (.of rfl)) rfl ?_
       refine WL.nil ?_
       refine WC.cond rfl (fun hb103 => ?_) (fun hb103 => ?_)
       ·
        have hc103 := hb103; try simp only [Gk.cs0] at hc103
        refine WC.region ?_
        first | refine WL.val (.fieldAddr 3 (.of rfl) Tryz.underlying55 rfl rfl Tryz.sizeOf9 rfl) rfl ?_ | refine WL.val (.fieldAddrI 3 (.of rfl) Tryz.underlying55 rfl rfl Tryz.sizeOf9 rfl) rfl ?_
        first | refine WL.st1 hS (k := 0) rfl (.of rfl) (.of rfl) rfl Tryz.sizeOf9 (by simp) ?_ | refine WL.st1 hS (k := 1) rfl (.of rfl) (.of rfl) rfl Tryz.sizeOf9 (by simp) ?_
        clear hS; intro w hS; try dsimp only [List.set] at hS
        refine WL.nil ?_
        refine WC.seq ?_
        refine WC.region ?_
        first | refine WL.val (.ldsW (cs := [_, _, _, _, _, _]) (.of rfl) hS (k := 0) rfl Tryz.isAgg55 Tryz.sizeOf55 rfl) rfl ?_ | refine WL.val (.lds (vs := [_, _, _, _, _, _]) (.of rfl) hS (k := 0) rfl Tryz.isAgg55 Tryz.sizeOf55 rfl (fun _ _ h => h)) rfl ?_ | refine WL.val (.ldsW (cs := [_, _, _, _, _, _]) (.of rfl) hS (k := 1) rfl Tryz.isAgg55 Tryz.sizeOf55 rfl) rfl ?_ | refine WL.val (.lds (vs := [_, _, _, _, _, _]) (.of rfl) hS (k := 1) rfl Tryz.isAgg55 Tryz.sizeOf55 rfl (fun _ _ h => h)) rfl ?_
        first | refine WL.stA hS (k := 0) rfl (.of rfl) (.of rfl) rfl Tryz.sizeOf55 rfl (by simp) ?_ | refine WL.stA hS (k := 1) rfl (.of rfl) (.of rfl) rfl Tryz.sizeOf55 rfl (by simp) ?_
        clear hS; intro w hS; try dsimp only [List.set] at hS
        try simp only [List.take_zero, List.nil_append, List.append_nil, List.drop_succ_cons, List.drop_zero, List.drop_nil, Nat.zero_add] at hS
        refine WL.val (.assign (.of rfl)) rfl ?_
        refine WL.nil ?_
        refine WC.ret ?_
        first | refine ret2c (b := _) (cs := [_, _, _, _, _, _]) Tryz.results57 hS (k := 0) rfl Tryz.isAgg55 Tryz.sizeOf55 rfl rfl rfl ?_ | refine ret2c (b := _) (cs := [_, _, _, _, _, _]) Tryz.results57 hS (k := 1) rfl Tryz.isAgg55 Tryz.sizeOf55 rfl rfl rfl ?_
        refine ⟨_, rfl, ?_, ((hS.drop (k := 0) rfl).drop (k := 0) rfl)⟩
        rw [hpu, tailU]
        cases hp : partU (upto [63] r) with
        | none => rw [hp] at hp1; have := hp1.2; omega
        | some t =>
         cases hq : partU ((from_ [63] r).drop 1) with
         | none => rw [hq] at hq1; have := hq1.2; omega
         | some q =>
          rw [hp] at hp1; rw [hq] at hq1
          obtain ⟨rfl, _⟩ := hp1
          obtain ⟨rfl, _⟩ := hq1
          have hif : (if p1 = [] then [47] else dots p1) = [47] := if_pos (by have := dots_nil p1; rw [hb103] at this; simpa using this.symm)
          show _ = Value.tuple #[.agg #[S (low sc), S (low (upto [47, 63, 35, 58] rs)), I64 (port : Nat), S (if p1 = [] then [47] else dots p1), S q1, .bool (!(from_ [63] r).isEmpty)], I64 0]
          rw [hif]
          rfl
       ·
        have hc103 := hb103; try simp only [Gk.cs0] at hc103
        refine WC.skip ?_
        refine WC.seq ?_
        refine WC.region ?_
        first | refine WL.val (.ldsW (cs := [_, _, _, _, _, _]) (.of rfl) hS (k := 0) rfl Tryz.isAgg55 Tryz.sizeOf55 rfl) rfl ?_ | refine WL.val (.lds (vs := [_, _, _, _, _, _]) (.of rfl) hS (k := 0) rfl Tryz.isAgg55 Tryz.sizeOf55 rfl (fun _ _ h => h)) rfl ?_ | refine WL.val (.ldsW (cs := [_, _, _, _, _, _]) (.of rfl) hS (k := 1) rfl Tryz.isAgg55 Tryz.sizeOf55 rfl) rfl ?_ | refine WL.val (.lds (vs := [_, _, _, _, _, _]) (.of rfl) hS (k := 1) rfl Tryz.isAgg55 Tryz.sizeOf55 rfl (fun _ _ h => h)) rfl ?_
        first | refine WL.stA hS (k := 0) rfl (.of rfl) (.of rfl) rfl Tryz.sizeOf55 rfl (by simp) ?_ | refine WL.stA hS (k := 1) rfl (.of rfl) (.of rfl) rfl Tryz.sizeOf55 rfl (by simp) ?_
        clear hS; intro w hS; try dsimp only [List.set] at hS
        try simp only [List.take_zero, List.nil_append, List.append_nil, List.drop_succ_cons, List.drop_zero, List.drop_nil, Nat.zero_add] at hS
        refine WL.val (.assign (.of rfl)) rfl ?_
        refine WL.nil ?_
        refine WC.ret ?_
        first | refine ret2c (b := _) (cs := [_, _, _, _, _, _]) Tryz.results57 hS (k := 0) rfl Tryz.isAgg55 Tryz.sizeOf55 rfl rfl rfl ?_ | refine ret2c (b := _) (cs := [_, _, _, _, _, _]) Tryz.results57 hS (k := 1) rfl Tryz.isAgg55 Tryz.sizeOf55 rfl rfl rfl ?_
        refine ⟨_, rfl, ?_, ((hS.drop (k := 0) rfl).drop (k := 0) rfl)⟩
        rw [hpu, tailU]
        cases hp : partU (upto [63] r) with
        | none => rw [hp] at hp1; have := hp1.2; omega
        | some t =>
         cases hq : partU ((from_ [63] r).drop 1) with
         | none => rw [hq] at hq1; have := hq1.2; omega
         | some q =>
          rw [hp] at hp1; rw [hq] at hq1
          obtain ⟨rfl, _⟩ := hp1
          obtain ⟨rfl, _⟩ := hq1
          have hif : (if p1 = [] then [47] else dots p1) = dots p1 := if_neg (fun e => by rw [e] at hb103; simp [dots] at hb103)
          show _ = Value.tuple #[.agg #[S (low sc), S (low (upto [47, 63, 35, 58] rs)), I64 (port : Nat), S (if p1 = [] then [47] else dots p1), S q1, .bool (!(from_ [63] r).isEmpty)], I64 0]
          rw [hif]
          rfl
theorem uNormal_any (s : List UInt8) (hl : s.length ≤ 1000000) (B w : World) (I : Im) (hK : Known I) (As : List Assn) (hS : Sat B w I As) :
  Calls Tryz.prog 33 [S s].toArray w (Ret fun v w' => v = .tuple #[S (nU s).1, I64 ((nU s).2 : Nat)] ∧ Sat B w' I As) := by
 refine calls Tryz.func33 rfl Tryz.ntmps33 rfl ?_
 refine WC.seq ?_
 refine WC.region ?_
 refine WL.val (.assign (.of rfl)) rfl ?_
 refine WL.val (.assign (.of rfl)) rfl ?_
 refine WL.nil ?_
 refine WC.seq ?_
 refine WC.region ?_
 refine WL.val (.move (.of rfl)) rfl ?_
 refine WL.call Tryz.func57 rfl (evs_cons (.of rfl) evs_nil) rfl (uParse_any s hl B _ I hK _ hS) ?_
 clear hS
 rintro _ w ⟨rfl, hS⟩
 refine WL.val (.move (.of rfl)) rfl ?_
 refine WL.val (.extract (.of rfl) rfl) rfl ?_
 refine WL.val (.extract (.of rfl) rfl) rfl ?_
 refine WL.allocA (cs := [_, _, _, _, _, _]) hS Tryz.zeroValue55 rfl ?_
 clear hS; intro b4 w hS
 first | refine WL.stA hS (k := 0) rfl (.of rfl) (.of rfl) rfl Tryz.sizeOf55 rfl (by simp) ?_
 clear hS; intro w hS; try dsimp only [List.set] at hS
 try simp only [List.take_zero, List.nil_append, List.append_nil, List.drop_succ_cons, List.drop_zero, List.drop_nil, Nat.zero_add] at hS
 refine WL.val (.assign (.of rfl)) rfl ?_
 refine WL.nil ?_
 refine WC.seq ?_
 refine WC.seq ?_
 refine WC.region ?_
 refine WL.val (.move (.of rfl)) rfl ?_
 refine WL.val (.neq (.of rfl) (.of rfl)) rfl ?_
 refine WL.nil ?_
 refine WC.cond rfl (fun hb12 => ?_) (fun hb12 => ?_)
 ·
  have hc12 := hb12; try simp only [Gk.cs0] at hc12
  refine WC.seq ?_
  refine WC.region ?_
  refine WL.val (.move (.of rfl)) rfl ?_
  refine WL.val (.assign (.of rfl)) rfl ?_
  refine WL.val (.assign (.of rfl)) rfl ?_
  refine WL.nil ?_
  refine WC.ret ?_
  refine ret2 Tryz.results33 rfl rfl ?_
  refine ⟨_, rfl, ?_, hS.drop (k := 0) rfl⟩
  rw [nU, if_neg (by omega)]
  rfl
 ·
  have hc12 := hb12; try simp only [Gk.cs0] at hc12
  refine WC.skip ?_
  refine WC.seq ?_
  refine WC.region ?_
  first | refine WL.val (.ldsW (cs := [_, _, _, _, _, _]) (.of rfl) hS (k := 0) rfl Tryz.isAgg55 Tryz.sizeOf55 rfl) rfl ?_ | refine WL.val (.lds (vs := [_, _, _, _, _, _]) (.of rfl) hS (k := 0) rfl Tryz.isAgg55 Tryz.sizeOf55 rfl (fun _ _ h => h)) rfl ?_
  refine WL.call Tryz.func58 rfl (evs_cons (.of rfl) evs_nil) rfl (uString_any (pU s).1 (small_pU s) B _ I hK _ hS) ?_
  clear hS
  rintro _ w ⟨rfl, hS⟩
  refine WL.val (.assign (.of rfl)) rfl ?_
  refine WL.val (.assign (.of rfl)) rfl ?_
  refine WL.nil ?_
  refine WC.ret ?_
  refine ret2 Tryz.results33 rfl rfl ?_
  refine ⟨_, rfl, ?_, hS.drop (k := 0) rfl⟩
  rw [nU, if_pos (by omega)]
  rfl
end Go.Proofs.YtchgkcbloeoopaaGreatDoor
namespace Go.Proofs.YtchgkcbloeoopaaGreatDoor
open Gk Pc Ul Pat
set_option linter.unusedVariables false
set_option linter.unusedSimpArgs false
theorem info9_44 : Tryz.prog.info? 9 = some Tryz.t9 := by kernel_rfl
theorem small_any (s : List UInt8) (hl : s.length ≤ 1000000) (B w : World) (I : Im) (As : List Assn) (hS : Sat B w I As) :
  Calls Tryz.prog 44 [S s].toArray w (Ret fun v w' => v = S (low s) ∧ Sat B w' I As) := by
 refine calls Tryz.func44 rfl Tryz.ntmps44 rfl ?_
 refine WC.seq ?_
 refine WC.region ?_
 refine WL.val (.assign (.of rfl)) rfl ?_
 refine WL.nil ?_
 refine WC.seq ?_
 refine WC.region ?_
 refine WL.val (.assign (.of rfl)) rfl ?_
 refine WL.nil ?_
 refine WC.seq ?_
 refine WC.seq ?_
 refine WC.region ?_
 refine WL.val (.assign (.of rfl)) rfl ?_
 refine WL.nil ?_
 refine WC.block ?_
 refine WC.loop (σ := Nat) (fun i => [(0, S s), (3, S (low (s.take i))), (4, I64 (i : Nat))]) (fun i w => i ≤ s.length ∧ Sat B w I As) (fun i => s.length - i) 0 ⟨rfl, rfl, rfl, trivial⟩ ⟨Nat.zero_le _, hS⟩ ?_
 rintro i w ⟨hi, hS⟩
 change WC _ _ _ _ [(0, S s), (3, S (low (s.take i))), (4, I64 (i : Nat))] w
 refine WC.seq ?_
 refine WC.seq ?_
 refine WC.region ?_
 refine WL.val (.move (.of rfl)) rfl ?_
 refine WL.val (.move (.of rfl)) rfl ?_
 refine WL.val (.len (.of rfl) Tryz.underlying9) rfl ?_
 refine WL.val (.lss (.of rfl) (.of rfl)) rfl ?_
 refine WL.nil ?_
 refine WC.cond rfl (fun hb9 => ?_) (fun hb9 => ?_)
 ·
  have hc9 := hb9; try simp only [Gk.cs0] at hc9
  refine WC.skip ?_
  refine WC.seq ?_
  refine WC.block ?_
  refine WC.seq ?_
  have hnx : low (s.take (i + 1)) = low (s.take i) ++ [lo (at_ s (i : Int))] := by rw [List.take_add_one, at_some (by omega), low, low, List.map_append]; rfl
  have hll : (low (s.take i)).length ≤ 1000000 := by rw [low_len, List.length_take]; omega
  refine WC.region ?_
  refine WL.val (.move (.of rfl)) rfl ?_
  refine WL.val (.move (.of rfl)) rfl ?_
  refine WL.val (.index (.of rfl) (.of rfl) (by omega) (by omega) Tryz.underlying9) rfl ?_
  refine WL.val (.assign (.of rfl)) rfl ?_
  refine WL.nil ?_
  refine WC.seq ?_
  refine WC.seq ?_
  refine WC.region ?_
  refine WL.val (.move (.of rfl)) rfl ?_
  refine WL.val (.geq (.of rfl) (.of rfl)) rfl ?_
  refine WL.val (.move (.of rfl)) rfl ?_
  refine WL.gval rfl rfl (fun hg1 => (.move (.of rfl))) rfl ?_
  refine WL.gval rfl rfl (fun hg1 => (.leq (.gd hg1 rfl) (.of rfl))) rfl ?_
  refine WL.val (.pand (.of rfl) (.of rfl) (.of rfl)) rfl ?_
  refine WL.nil ?_
  refine WC.cond rfl (fun hb20 => ?_) (fun hb20 => ?_)
  ·
   have hc20 := hb20; try simp only [Gk.cs0] at hc20
   refine WC.region ?_
   refine WL.val (.move (.of rfl)) rfl ?_
   refine WL.val (.addw (.of rfl) (.of rfl)) rfl ?_
   refine WL.val (.assign (.of rfl)) rfl ?_
   refine WL.nil ?_
   refine WC.region ?_
   refine WL.val (.move (.of rfl)) rfl ?_
   refine WL.val (.move (.of rfl)) rfl ?_
   refine WL.buildSlice (cs := [_]) hS (parts_cons (.of rfl) parts_nil) Tryz.underlying103 Tryz.sizeOf5 Tryz.zeroValue5 rfl rfl rfl rfl ?_
   clear hS; intro b25 w hS
   refine WL.val (.str1 (b := b25) (cap := 1) (c := lo (at_ s (i : Int))) (i := (IntKind.u8.wrap (((at_ s (i : Int)).toNat : Int) + 32))) (.of rfl) hS (k := 0) rfl (by have := lo_up (c := at_ s (i : Int)) (by simpa only [Bool.and_eq_true, decide_eq_true_eq] using hb20); rw [this, IntKind.wrap_u8]; omega) Tryz.underlying103 Tryz.underlying5 Tryz.underlying9) rfl ?_
   refine WL.val (.cat (.of rfl) (.of rfl) (by (try simp only [List.length_append, List.length_cons, List.length_nil]); omega)) rfl ?_
   refine WL.val (.assign (.of rfl)) rfl ?_
   refine WL.nil ?_
   refine WC.region ?_
   refine WL.val (.move (.of rfl)) rfl ?_
   refine WL.val (.add (.of rfl) (.of rfl) ⟨by omega, by omega⟩) rfl ?_
   refine WL.val (.assign (.of rfl)) rfl ?_
   refine WL.nil ?_
   refine ⟨i + 1, ⟨rfl, by show some (S _) = some _; rw [hnx], rfl, trivial⟩, ⟨by omega, hS.drop (k := 0) rfl⟩, by omega⟩
  ·
   have hc20 := hb20; try simp only [Gk.cs0] at hc20
   refine WC.skip ?_
   refine WC.region ?_
   refine WL.val (.move (.of rfl)) rfl ?_
   refine WL.val (.move (.of rfl)) rfl ?_
   refine WL.buildSlice (cs := [_]) hS (parts_cons (.of rfl) parts_nil) Tryz.underlying103 Tryz.sizeOf5 Tryz.zeroValue5 rfl rfl rfl rfl ?_
   clear hS; intro b25 w hS
   have hlo : lo (at_ s (i : Int)) = at_ s (i : Int) := lo_no (fun hh => by
    have : (decide (65 ≤ ((at_ s (i : Int)).toNat : Int)) && decide (((at_ s (i : Int)).toNat : Int) ≤ 90)) = true := by simp only [Bool.and_eq_true, decide_eq_true_eq]; exact hh
    rw [this] at hb20; cases hb20)
   refine WL.val (.str1 (b := b25) (cap := 1) (c := lo (at_ s (i : Int))) (i := ((at_ s (i : Int)).toNat : Int)) (.of rfl) hS (k := 0) rfl (by rw [hlo]) Tryz.underlying103 Tryz.underlying5 Tryz.underlying9) rfl ?_
   refine WL.val (.cat (.of rfl) (.of rfl) (by (try simp only [List.length_append, List.length_cons, List.length_nil]); omega)) rfl ?_
   refine WL.val (.assign (.of rfl)) rfl ?_
   refine WL.nil ?_
   refine WC.region ?_
   refine WL.val (.move (.of rfl)) rfl ?_
   refine WL.val (.add (.of rfl) (.of rfl) ⟨by omega, by omega⟩) rfl ?_
   refine WL.val (.assign (.of rfl)) rfl ?_
   refine WL.nil ?_
   refine ⟨i + 1, ⟨rfl, by show some (S _) = some _; rw [hnx], rfl, trivial⟩, ⟨by omega, hS.drop (k := 0) rfl⟩, by omega⟩
 ·
  have hc9 := hb9; try simp only [Gk.cs0] at hc9
  refine WC.exit ?_
  refine WC.seq ?_
  refine WC.region ?_
  refine WL.val (.move (.of rfl)) rfl ?_
  refine WL.val (.assign (.of rfl)) rfl ?_
  refine WL.nil ?_
  refine WC.ret ?_
  refine ret1 Tryz.results44 rfl ?_
  exact ⟨_, rfl, by rw [List.take_of_length_le (by omega)], hS⟩
theorem find_any (s cs : List UInt8) (fr : Nat) (hf : fr ≤ s.length) (hl : s.length ≤ 1000000) (hc : cs.length ≤ 1000) (B w : World) (I : Im) (As : List Assn) (hS : Sat B w I As) :
  Calls Tryz.prog 45 [S s, I64 (fr : Nat), S cs].toArray w (Ret fun v w' => v = I64 ((fr + (upto cs (s.drop fr)).length : Nat) : Int) ∧ Sat B w' I As) := by
 refine calls Tryz.func45 rfl Tryz.ntmps45 rfl ?_
 refine WC.seq ?_
 refine WC.region ?_
 refine WL.val (.assign (.of rfl)) rfl ?_
 refine WL.nil ?_
 refine WC.seq ?_
 refine WC.seq ?_
 refine WC.region ?_
 refine WL.val (.move (.of rfl)) rfl ?_
 refine WL.val (.assign (.of rfl)) rfl ?_
 refine WL.nil ?_
 refine WC.block ?_
 refine WC.loop (σ := Nat) (fun i => [(0, S s), (2, S cs), (7, I64 ((fr + i : Nat) : Int))]) (fun i w => fr + i ≤ s.length ∧ Go.Lib.NoAny (s.drop fr) cs i ∧ Sat B w I As) (fun i => s.length - (fr + i)) 0 ⟨rfl, rfl, rfl, trivial⟩ ⟨hf, Go.Lib.NoAny.zero _ _, hS⟩ ?_
 rintro i w ⟨hi, hno, hS⟩
 change WC _ _ _ _ [(0, S s), (2, S cs), (7, I64 ((fr + i : Nat) : Int))] w
 refine WC.seq ?_
 refine WC.seq ?_
 refine WC.region ?_
 refine WL.val (.move (.of rfl)) rfl ?_
 refine WL.val (.move (.of rfl)) rfl ?_
 refine WL.val (.len (.of rfl) Tryz.underlying9) rfl ?_
 refine WL.val (.lss (.of rfl) (.of rfl)) rfl ?_
 refine WL.nil ?_
 refine WC.cond rfl (fun hb13 => ?_) (fun hb13 => ?_)
 ·
  have hc13 := hb13; try simp only [Gk.cs0] at hc13
  refine WC.skip ?_
  refine WC.seq ?_
  refine WC.block ?_
  refine WC.seq ?_
  refine WC.region ?_
  refine WL.val (.assign (.of rfl)) rfl ?_
  refine WL.nil ?_
  refine WC.block ?_
  refine WC.loop (σ := Nat) (fun k => [(0, S s), (2, S cs), (7, I64 ((fr + i : Nat) : Int)), (8, I64 (k : Nat))]) (fun k w => k ≤ cs.length ∧ (∀ q, q < k → at_ cs (q : Int) ≠ at_ s ((fr + i : Nat) : Int)) ∧ Sat B w I As) (fun k => cs.length - k) 0 ⟨rfl, rfl, rfl, rfl, trivial⟩ ⟨Nat.zero_le _, fun _ h => absurd h (by omega), hS⟩ ?_
  rintro k w ⟨hkl, hk, hS⟩
  change WC _ _ _ _ [(0, S s), (2, S cs), (7, I64 ((fr + i : Nat) : Int)), (8, I64 (k : Nat))] w
  refine WC.seq ?_
  refine WC.seq ?_
  refine WC.region ?_
  refine WL.val (.move (.of rfl)) rfl ?_
  refine WL.val (.move (.of rfl)) rfl ?_
  refine WL.val (.len (.of rfl) Tryz.underlying9) rfl ?_
  refine WL.val (.lss (.of rfl) (.of rfl)) rfl ?_
  refine WL.nil ?_
  refine WC.cond rfl (fun hb19 => ?_) (fun hb19 => ?_)
  ·
   have hc19 := hb19; try simp only [Gk.cs0] at hc19
   refine WC.skip ?_
   refine WC.seq ?_
   refine WC.block ?_
   refine WC.seq ?_
   refine WC.quiet (by kernel_rfl) (by kernel_rfl) hS ?_
   refine WQ.val (fun w hS => (.move (.of rfl))) rfl ?_
   refine WQ.val (fun w hS => (.move (.of rfl))) rfl ?_
   refine WQ.val (fun w hS => (.index (.of rfl) (.of rfl) (by omega) (by omega) Tryz.underlying9)) rfl ?_
   refine WQ.val (fun w hS => (.move (.of rfl))) rfl ?_
   refine WQ.val (fun w hS => (.move (.of rfl))) rfl ?_
   refine WQ.val (fun w hS => (.index (.of rfl) (.of rfl) (by omega) (by omega) Tryz.underlying9)) rfl ?_
   refine WQ.val (fun w hS => (.eql (.of rfl) (.of rfl))) rfl ?_
   refine WQ.nil ?_
   clear hS; intro w hS
   refine WC.cond rfl (fun hb28 => ?_) (fun hb28 => ?_)
   ·
    have hc28 := hb28; try simp only [Gk.cs0] at hc28
    refine WC.seq ?_
    refine WC.region ?_
    refine WL.val (.move (.of rfl)) rfl ?_
    refine WL.val (.assign (.of rfl)) rfl ?_
    refine WL.nil ?_
    refine WC.ret ?_
    refine ret1 Tryz.results45 rfl ?_
    have heq : at_ cs (k : Int) = at_ s ((fr + i : Nat) : Int) := UInt8.toNat_inj.1 (by simp only [beq_iff_eq] at hb28; omega)
    have hat : (s.drop fr)[i]? = some (at_ s ((fr + i : Nat) : Int)) := by rw [List.getElem?_drop]; exact at_some (by omega)
    have hin : cs.contains (at_ s ((fr + i : Nat) : Int)) = true := by
     rw [List.contains_iff_mem, ← heq]
     exact List.mem_of_getElem? (at_some (by omega : k < cs.length))
    obtain ⟨h1, h2, h3⟩ := cut_hit (Go.Lib.indexAny_hit hno hat hin)
    refine ⟨_, rfl, ?_, hS⟩
    rw [h1, List.length_take, List.length_drop]
    congr 1; omega
   ·
    have hc28 := hb28; try simp only [Gk.cs0] at hc28
    refine WC.skip ?_
    refine WC.region ?_
    refine WL.val (.move (.of rfl)) rfl ?_
    refine WL.val (.add (.of rfl) (.of rfl) ⟨by omega, by omega⟩) rfl ?_
    refine WL.val (.assign (.of rfl)) rfl ?_
    refine WL.nil ?_
    refine ⟨k + 1, ⟨rfl, rfl, rfl, rfl, trivial⟩, ⟨by omega, fun q hq => ?_, hS⟩, by omega⟩
    rcases Nat.lt_or_ge q k with h1 | h1
    ·exact hk q h1
    ·have e : q = k := by omega
     subst e
     simp only [beq_eq_false_iff_ne] at hb28
     exact fun e => hb28 (by rw [e])
  ·
   have hc19 := hb19; try simp only [Gk.cs0] at hc19
   refine WC.exit ?_
   refine WC.region ?_
   refine WL.val (.move (.of rfl)) rfl ?_
   refine WL.val (.add (.of rfl) (.of rfl) ⟨by omega, by omega⟩) rfl ?_
   refine WL.val (.assign (.of rfl)) rfl ?_
   refine WL.nil ?_
   have hat : (s.drop fr)[i]? = some (at_ s ((fr + i : Nat) : Int)) := by rw [List.getElem?_drop]; exact at_some (by omega)
   refine ⟨i + 1, ⟨rfl, rfl, by show some (I64 _) = some (I64 _); congr 2, trivial⟩, ⟨by omega, hno.succ hat ?_, hS⟩, by omega⟩
   cases hc : cs.contains (at_ s ((fr + i : Nat) : Int)) with
   | false => rfl
   | true =>
    rw [List.contains_iff_mem] at hc
    obtain ⟨q, hq⟩ := List.mem_iff_getElem?.1 hc
    have hql : q < cs.length := (List.getElem?_eq_some_iff.1 hq).1
    rw [at_some hql] at hq
    exact absurd (by injection hq) (hk q (by omega))
 ·
  have hc13 := hb13; try simp only [Gk.cs0] at hc13
  refine WC.exit ?_
  refine WC.seq ?_
  refine WC.region ?_
  refine WL.val (.move (.of rfl)) rfl ?_
  refine WL.val (.len (.of rfl) Tryz.underlying9) rfl ?_
  refine WL.val (.assign (.of rfl)) rfl ?_
  refine WL.nil ?_
  refine WC.ret ?_
  refine ret1 Tryz.results45 rfl ?_
  obtain ⟨h1, h2⟩ := cut_none (Go.Lib.indexAny_none (s := s.drop fr) (chars := cs) (by rw [List.length_drop, show s.length - fr = i by omega]; exact hno))
  refine ⟨_, rfl, ?_, hS⟩
  rw [h1, List.length_drop]
  congr 1; omega
theorem dec_big {n : Nat} (h : ¬ n < 10) : Go.Lib.decDigits n = Go.Lib.decDigits (n / 10) ++ [UInt8.ofNat (48 + n % 10)] := by
 rw [Go.Lib.decDigits, dif_neg h]
theorem Digits_any (m : Nat) (hm : m ≤ 65535) (B w : World) (I : Im) (As : List Assn) (hS : Sat B w I As) :
  Calls Tryz.prog 65 [I64 (m : Nat)].toArray w (Ret fun v w' => v = S (Go.Lib.decDigits m) ∧ Sat B w' I As) := by
 refine calls Tryz.func65 rfl Tryz.ntmps65 rfl ?_
 refine WC.seq ?_
 refine WC.region ?_
 refine WL.val (.assign (.of rfl)) rfl ?_
 refine WL.nil ?_
 refine WC.seq ?_
 refine WC.region ?_
 refine WL.val (.assign (.of rfl)) rfl ?_
 refine WL.nil ?_
 refine WC.seq ?_
 refine WC.block ?_
 refine WC.loop (σ := Nat × List UInt8) (fun ⟨n, out⟩ => [(0, I64 (n : Nat)), (3, S out)]) (fun ⟨n, out⟩ w => n ≤ m ∧ Go.Lib.decDigits m = Go.Lib.decDigits n ++ out ∧ Sat B w I As) (fun ⟨n, out⟩ => n) (m, []) ⟨rfl, rfl, trivial⟩ ⟨Nat.le_refl _, by simp, hS⟩ ?_
 rintro ⟨n, out⟩ w ⟨hn, hd, hS⟩
 change WC _ _ _ _ [(0, I64 (n : Nat)), (3, S out)] w
 refine WC.seq ?_
 refine WC.seq ?_
 refine WC.region ?_
 refine WL.val (.move (.of rfl)) rfl ?_
 refine WL.val (.gtr (.of rfl) (.of rfl)) rfl ?_
 refine WL.nil ?_
 refine WC.cond rfl (fun hb5 => ?_) (fun hb5 => ?_)
 ·
  have hc5 := hb5; try simp only [Gk.cs0] at hc5
  refine WC.skip ?_
  refine WC.block ?_
  refine WC.seq ?_
  have hbg := dec_big (n := n) (by omega)
  have hlo2 := congrArg List.length hd
  rw [List.length_append, hbg, List.length_append] at hlo2
  have h5 := dec_len m hm
  refine WC.region ?_
  refine WL.val (.move (.of rfl)) rfl ?_
  refine WL.val (.rem (.of rfl) (.of rfl) (by omega) (by omega)) rfl ?_
  refine WL.val (.add (.of rfl) (.of rfl) ⟨by omega, by omega⟩) rfl ?_
  refine WL.val (.cvi (.of rfl) Tryz.underlying3 Tryz.underlying5 (by rw [IntKind.wrap_u8]; omega)) rfl ?_
  refine WL.buildSlice (cs := [_]) hS (parts_cons (.of rfl) parts_nil) Tryz.underlying103 Tryz.sizeOf5 Tryz.zeroValue5 rfl rfl rfl rfl ?_
  clear hS; intro b10 w hS
  refine WL.val (.str1 (b := b10) (cap := 1) (c := UInt8.ofNat (48 + n % 10)) (i := (48 + (n : Int) % 10)) (.of rfl) hS (k := 0) rfl (by rw [UInt8.toNat_ofNat']; omega) Tryz.underlying103 Tryz.underlying5 Tryz.underlying9) rfl ?_
  refine WL.val (.move (.of rfl)) rfl ?_
  refine WL.val (.cat (.of rfl) (.of rfl) (by (try simp only [List.length_append, List.length_cons, List.length_nil]); omega)) rfl ?_
  refine WL.val (.assign (.of rfl)) rfl ?_
  refine WL.nil ?_
  refine WC.region ?_
  refine WL.val (.move (.of rfl)) rfl ?_
  refine WL.val (.quo (.of rfl) (.of rfl) (by omega) (by omega) (by rw [IntKind.wrap_i64]; omega)) rfl ?_
  refine WL.val (.assign (.of rfl)) rfl ?_
  refine WL.nil ?_
  refine ⟨(n / 10, _), ⟨rfl, rfl, trivial⟩, ⟨by (try dsimp only); omega, ?_, hS.drop (k := 0) rfl⟩, by (try dsimp only); omega⟩
  rw [hd, hbg, List.append_assoc]
 ·
  have hc5 := hb5; try simp only [Gk.cs0] at hc5
  refine WC.exit ?_
  refine WC.seq ?_
  have hsm := Go.Lib.decDigits_one (i := n) (by omega)
  have hlo2 := congrArg List.length hd
  rw [List.length_append] at hlo2
  have h5 := dec_len m hm
  refine WC.region ?_
  refine WL.val (.move (.of rfl)) rfl ?_
  refine WL.val (.add (.of rfl) (.of rfl) ⟨by omega, by omega⟩) rfl ?_
  refine WL.val (.cvi (.of rfl) Tryz.underlying3 Tryz.underlying5 (by rw [IntKind.wrap_u8]; omega)) rfl ?_
  refine WL.buildSlice (cs := [_]) hS (parts_cons (.of rfl) parts_nil) Tryz.underlying103 Tryz.sizeOf5 Tryz.zeroValue5 rfl rfl rfl rfl ?_
  clear hS; intro b19 w hS
  refine WL.val (.str1 (b := b19) (cap := 1) (c := UInt8.ofNat (48 + n)) (i := (48 + (n : Int))) (.of rfl) hS (k := 0) rfl (by rw [UInt8.toNat_ofNat']; omega) Tryz.underlying103 Tryz.underlying5 Tryz.underlying9) rfl ?_
  refine WL.val (.move (.of rfl)) rfl ?_
  refine WL.val (.cat (.of rfl) (.of rfl) (by (try simp only [List.length_append, List.length_cons, List.length_nil]); omega)) rfl ?_
  refine WL.val (.assign (.of rfl)) rfl ?_
  refine WL.nil ?_
  refine WC.ret ?_
  refine ret1 Tryz.results65 rfl ?_
  refine ⟨_, rfl, ?_, hS.drop (k := 0) rfl⟩
  rw [hd, hsm]
theorem standB_ref (c : UInt8) : (((((((((((decide ((c.toNat : Int) < 33) || decide (126 < (c.toNat : Int))) || ((c.toNat : Int) == 34)) || ((c.toNat : Int) == 60)) || ((c.toNat : Int) == 62)) || ((c.toNat : Int) == 35)) || ((c.toNat : Int) == 92)) || ((c.toNat : Int) == 94)) || ((c.toNat : Int) == 123)) || ((c.toNat : Int) == 124)) || ((c.toNat : Int) == 125)) || ((c.toNat : Int) == 96)) = !standB c :=
 eq_of_beq (all_bytes (p := fun c => (((((((((((decide ((c.toNat : Int) < 33) || decide (126 < (c.toNat : Int))) || ((c.toNat : Int) == 34)) || ((c.toNat : Int) == 60)) || ((c.toNat : Int) == 62)) || ((c.toNat : Int) == 35)) || ((c.toNat : Int) == 92)) || ((c.toNat : Int) == 94)) || ((c.toNat : Int) == 123)) || ((c.toNat : Int) == 124)) || ((c.toNat : Int) == 125)) || ((c.toNat : Int) == 96)) == !standB c) (by decide +kernel) c)
theorem refNormal_e (s : List UInt8) (hl : s.length ≤ 1000000) (B w : World) (I : Im) (As : List Assn) (hS : Sat B w I As) : Calls Tryz.prog 63 [S s].toArray w (Ret fun v w' => ∃ n1 e1, v = .tuple #[S n1, I64 e1] ∧ (match norm s with | none => n1 = [] ∧ e1 = 11 | some t => n1 = t ∧ e1 = 0) ∧ Sat B w' I As) :=
 (refNormal_any s hl B w I As hS).mono fun e w' he => by
  obtain ⟨v, rfl, rfl, h⟩ := he
  cases norm s with
  | none => exact ⟨_, rfl, _, _, rfl, ⟨rfl, rfl⟩, h⟩
  | some t => exact ⟨_, rfl, _, _, rfl, ⟨rfl, rfl⟩, h⟩
set_option maxRecDepth 4000 in
theorem part_any (s : List UInt8) (hl : s.length ≤ 1000000) (B w : World) (I : Im) (As : List Assn) (hS : Sat B w I As) :
  Calls Tryz.prog 46 [S s].toArray w (Ret fun v w' => ∃ n1 b1, v = .tuple #[S n1, .bool b1] ∧ (match partU s with | none => b1 = false | some t => n1 = t ∧ b1 = true) ∧ n1.length ≤ s.length ∧ Sat B w' I As) := by
 refine calls Tryz.func46 rfl Tryz.ntmps46 rfl ?_
 refine WC.seq ?_
 refine WC.region ?_
 refine WL.val (.assign (.of rfl)) rfl ?_
 refine WL.val (.assign (.of rfl)) rfl ?_
 refine WL.nil ?_
 refine WC.seq ?_
 refine WC.seq ?_
 refine WC.region ?_
 refine WL.val (.assign (.of rfl)) rfl ?_
 refine WL.nil ?_
 refine WC.block ?_
 refine WC.loop (σ := Nat) (fun i => [(0, S s), (4, I64 (i : Nat))]) (fun i w => i ≤ s.length ∧ (∀ j, j < i → j < s.length → standB (at_ s (j : Int)) = true) ∧ Sat B w I As) (fun i => s.length - i) 0 ⟨rfl, rfl, trivial⟩ ⟨Nat.zero_le _, fun _ h => absurd h (by omega), hS⟩ ?_
 rintro i w ⟨hi, hok, hS⟩
 change WC _ _ _ _ [(0, S s), (4, I64 (i : Nat))] w
 refine WC.seq ?_
 refine WC.seq ?_
 refine WC.region ?_
 refine WL.val (.move (.of rfl)) rfl ?_
 refine WL.val (.move (.of rfl)) rfl ?_
 refine WL.val (.len (.of rfl) Tryz.underlying9) rfl ?_
 refine WL.val (.lss (.of rfl) (.of rfl)) rfl ?_
 refine WL.nil ?_
 refine WC.cond rfl (fun hb11 => ?_) (fun hb11 => ?_)
 ·
  have hc11 := hb11; try simp only [Gk.cs0] at hc11
  refine WC.skip ?_
  refine WC.seq ?_
  refine WC.block ?_
  refine WC.seq ?_
  refine WC.region ?_
  refine WL.val (.move (.of rfl)) rfl ?_
  refine WL.val (.move (.of rfl)) rfl ?_
  refine WL.val (.index (.of rfl) (.of rfl) (by omega) (by omega) Tryz.underlying9) rfl ?_
  refine WL.val (.assign (.of rfl)) rfl ?_
  refine WL.nil ?_
  refine WC.seq ?_
  refine WC.region ?_
  refine WL.val (.move (.of rfl)) rfl ?_
  refine WL.val (.lss (.of rfl) (.of rfl)) rfl ?_
  refine WL.val (.move (.of rfl)) rfl ?_
  refine WL.gval rfl rfl (fun hg1 => (.move (.of rfl))) rfl ?_
  refine WL.gval rfl rfl (fun hg1 => (.gtr (.gd hg1 rfl) (.of rfl))) rfl ?_
  refine WL.val (.por (.of rfl) (.of rfl) (.of rfl)) rfl ?_
  refine WL.val (.move (.of rfl)) rfl ?_
  refine WL.gval rfl rfl (fun hg1 => (.move (.of rfl))) rfl ?_
  refine WL.gval rfl rfl (fun hg1 => (.eql (.gd hg1 rfl) (.of rfl))) rfl ?_
  refine WL.val (.por (.of rfl) (.of rfl) (.of rfl)) rfl ?_
  refine WL.val (.move (.of rfl)) rfl ?_
  refine WL.gval rfl rfl (fun hg1 => (.move (.of rfl))) rfl ?_
  refine WL.gval rfl rfl (fun hg1 => (.eql (.gd hg1 rfl) (.of rfl))) rfl ?_
  refine WL.val (.por (.of rfl) (.of rfl) (.of rfl)) rfl ?_
  refine WL.val (.move (.of rfl)) rfl ?_
  refine WL.gval rfl rfl (fun hg1 => (.move (.of rfl))) rfl ?_
  refine WL.gval rfl rfl (fun hg1 => (.eql (.gd hg1 rfl) (.of rfl))) rfl ?_
  refine WL.val (.por (.of rfl) (.of rfl) (.of rfl)) rfl ?_
  refine WL.val (.move (.of rfl)) rfl ?_
  refine WL.gval rfl rfl (fun hg1 => (.move (.of rfl))) rfl ?_
  refine WL.gval rfl rfl (fun hg1 => (.eql (.gd hg1 rfl) (.of rfl))) rfl ?_
  refine WL.val (.por (.of rfl) (.of rfl) (.of rfl)) rfl ?_
  refine WL.val (.move (.of rfl)) rfl ?_
  refine WL.gval rfl rfl (fun hg1 => (.move (.of rfl))) rfl ?_
  refine WL.gval rfl rfl (fun hg1 => (.eql (.gd hg1 rfl) (.of rfl))) rfl ?_
  refine WL.val (.por (.of rfl) (.of rfl) (.of rfl)) rfl ?_
  refine WL.val (.move (.of rfl)) rfl ?_
  refine WL.gval rfl rfl (fun hg1 => (.move (.of rfl))) rfl ?_
  refine WL.gval rfl rfl (fun hg1 => (.eql (.gd hg1 rfl) (.of rfl))) rfl ?_
  refine WL.val (.por (.of rfl) (.of rfl) (.of rfl)) rfl ?_
  refine WL.val (.move (.of rfl)) rfl ?_
  refine WL.gval rfl rfl (fun hg1 => (.move (.of rfl))) rfl ?_
  refine WL.gval rfl rfl (fun hg1 => (.eql (.gd hg1 rfl) (.of rfl))) rfl ?_
  refine WL.val (.por (.of rfl) (.of rfl) (.of rfl)) rfl ?_
  refine WL.val (.move (.of rfl)) rfl ?_
  refine WL.gval rfl rfl (fun hg1 => (.move (.of rfl))) rfl ?_
  refine WL.gval rfl rfl (fun hg1 => (.eql (.gd hg1 rfl) (.of rfl))) rfl ?_
  refine WL.val (.por (.of rfl) (.of rfl) (.of rfl)) rfl ?_
  refine WL.val (.move (.of rfl)) rfl ?_
  refine WL.gval rfl rfl (fun hg1 => (.move (.of rfl))) rfl ?_
  refine WL.gval rfl rfl (fun hg1 => (.eql (.gd hg1 rfl) (.of rfl))) rfl ?_
  refine WL.val (.por (.of rfl) (.of rfl) (.of rfl)) rfl ?_
  refine WL.val (.move (.of rfl)) rfl ?_
  refine WL.gval rfl rfl (fun hg1 => (.move (.of rfl))) rfl ?_
  refine WL.gval rfl rfl (fun hg1 => (.eql (.gd hg1 rfl) (.of rfl))) rfl ?_
  refine WL.val (.por (.of rfl) (.of rfl) (.of rfl)) rfl ?_
  refine WL.nil ?_
  refine WC.cond rfl (fun hb62 => ?_) (fun hb62 => ?_)
  ·
   have hc62 := hb62; try simp only [Gk.cs0] at hc62
   refine WC.seq ?_
   refine WC.region ?_
   refine WL.val (.assign (.of rfl)) rfl ?_
   refine WL.val (.assign (.of rfl)) rfl ?_
   refine WL.nil ?_
   refine WC.ret ?_
   refine ret2 Tryz.results46 rfl rfl ?_
   refine ⟨_, rfl, [], false, rfl, ?_, Nat.zero_le _, hS⟩
   have hh := standB_ref (at_ s (i : Int))
   rw [hb62] at hh
   have : partU s = none := by rw [partU, not_all (p := standB) (i := i) (by omega) (by simpa using hh.symm)]; rfl
   rw [this]
  ·
   have hc62 := hb62; try simp only [Gk.cs0] at hc62
   refine WC.skip ?_
   refine WC.region ?_
   refine WL.val (.move (.of rfl)) rfl ?_
   refine WL.val (.add (.of rfl) (.of rfl) ⟨by omega, by omega⟩) rfl ?_
   refine WL.val (.assign (.of rfl)) rfl ?_
   refine WL.nil ?_
   refine ⟨i + 1, ⟨rfl, rfl, trivial⟩, ⟨by omega, fun j hj hjl => ?_, hS⟩, by omega⟩
   rcases Nat.lt_or_ge j i with h1 | h1
   ·exact hok j h1 hjl
   ·have e : j = i := by omega
    subst e
    have hh := standB_ref (at_ s (j : Int))
    rw [hb62] at hh
    simpa using hh.symm
 ·
  have hc11 := hb11; try simp only [Gk.cs0] at hc11
  refine WC.exit ?_
  refine WC.seq ?_
  refine WC.region ?_
  refine WL.val (.move (.of rfl)) rfl ?_
  refine WL.call Tryz.func63 rfl (evs_cons (.of rfl) evs_nil) rfl (refNormal_e s hl B _ I _ hS) ?_
  clear hS
  rintro _ w ⟨n1, e1, rfl, hne, hS⟩
  refine WL.val (.move (.of rfl)) rfl ?_
  refine WL.val (.extract (.of rfl) rfl) rfl ?_
  refine WL.val (.extract (.of rfl) rfl) rfl ?_
  refine WL.val (.assign (.of rfl)) rfl ?_
  refine WL.val (.assign (.of rfl)) rfl ?_
  refine WL.nil ?_
  refine WC.seq ?_
  refine WC.region ?_
  refine WL.val (.move (.of rfl)) rfl ?_
  refine WL.val (.move (.of rfl)) rfl ?_
  refine WL.val (.eql (.of rfl) (.of rfl)) rfl ?_
  refine WL.val (.assign (.of rfl)) rfl ?_
  refine WL.val (.assign (.of rfl)) rfl ?_
  refine WL.nil ?_
  refine WC.ret ?_
  refine ret2 Tryz.results46 rfl rfl ?_
  have hall : s.all standB = true := all_of hok (by omega)
  cases hn : norm s with
  | none =>
   rw [hn] at hne
   obtain ⟨rfl, rfl⟩ := hne
   refine ⟨_, rfl, [], false, rfl, ?_, Nat.zero_le _, hS⟩
   have : partU s = none := by rw [partU, if_pos hall, hn]
   rw [this]
  | some t =>
   rw [hn] at hne
   obtain ⟨rfl, rfl⟩ := hne
   refine ⟨_, rfl, n1, true, rfl, ?_, norm_len s _ hn, hS⟩
   have : partU s = some n1 := by rw [partU, if_pos hall, hn]
   rw [this]
   exact ⟨rfl, rfl⟩
theorem refCut_any (s : List UInt8) (hl : s.length ≤ 1000000) (B w : World) (I : Im) (As : List Assn) (hS : Sat B w I As) :
  Calls Tryz.prog 64 [S s, U8 47].toArray w (Ret fun v w' => Sat B w' I (Vec 9 1 v (spl s).length ((spl s).map S) :: As)) := by
 refine calls Tryz.func64 rfl Tryz.ntmps64 rfl ?_
 refine WC.seq ?_
 refine WC.region ?_
 refine WL.val (.assign (.of rfl)) rfl ?_
 refine WL.nil ?_
 refine WC.seq ?_
 refine WC.region ?_
 refine WL.val (.assign (.of rfl)) rfl ?_
 refine WL.nil ?_
 refine WC.seq ?_
 refine WC.region ?_
 refine WL.val (.assign (.of rfl)) rfl ?_
 refine WL.nil ?_
 refine WC.seq ?_
 refine WC.seq ?_
 refine WC.region ?_
 refine WL.val (.assign (.of rfl)) rfl ?_
 refine WL.nil ?_
 refine WC.block ?_
 replace hS := hS.vecNil 9 1
 refine WC.loop (σ := Value × List (List UInt8) × Nat × Nat) (fun ⟨kv, out, fr, i⟩ => [(0, S s), (1, U8 47), (5, kv), (6, I64 (fr : Nat)), (7, I64 (i : Nat))]) (fun ⟨kv, out, fr, i⟩ w => i ≤ s.length ∧ fr ≤ i ∧ spl s = out ++ spl (s.drop fr) ∧ (∀ j, fr ≤ j → j < i → at_ s (j : Int) ≠ 47) ∧ Sat B w I (Vec 9 1 kv out.length (out.map S) :: As)) (fun ⟨kv, out, fr, i⟩ => s.length - i) (.slice none 0 0, [], 0, 0) ⟨rfl, rfl, rfl, rfl, rfl, trivial⟩ ⟨Nat.zero_le _, Nat.zero_le _, rfl, fun _ h1 h2 => by (try dsimp only at h1 h2); omega, hS⟩ ?_
 rintro ⟨kv, out, fr, i⟩ w ⟨hi, hfi, hsp, hno, hS⟩
 change WC _ _ _ _ [(0, S s), (1, U8 47), (5, kv), (6, I64 (fr : Nat)), (7, I64 (i : Nat))] w
 refine WC.seq ?_
 refine WC.seq ?_
 refine WC.region ?_
 refine WL.val (.move (.of rfl)) rfl ?_
 refine WL.val (.move (.of rfl)) rfl ?_
 refine WL.val (.len (.of rfl) Tryz.underlying9) rfl ?_
 refine WL.val (.lss (.of rfl) (.of rfl)) rfl ?_
 refine WL.nil ?_
 refine WC.cond rfl (fun hb11 => ?_) (fun hb11 => ?_)
 ·
  have hc11 := hb11; try simp only [Gk.cs0] at hc11
  refine WC.skip ?_
  refine WC.seq ?_
  refine WC.block ?_
  refine WC.seq ?_
  refine WC.region ?_
  refine WL.val (.move (.of rfl)) rfl ?_
  refine WL.val (.move (.of rfl)) rfl ?_
  refine WL.val (.index (.of rfl) (.of rfl) (by omega) (by omega) Tryz.underlying9) rfl ?_
  refine WL.val (.move (.of rfl)) rfl ?_
  refine WL.val (.eql (.of rfl) (.of rfl)) rfl ?_
  refine WL.nil ?_
  refine WC.cond rfl (fun hb18 => ?_) (fun hb18 => ?_)
  ·
   have hc18 := hb18; try simp only [Gk.cs0] at hc18
   refine WC.seq ?_
   have hto := congrArg List.length hsp
   rw [List.length_append] at hto
   have hlt := len_tot (spl s)
   rw [spl_tot] at hlt
   have hsn : 1 ≤ (spl (s.drop fr)).length := List.length_pos_iff.2 (spl_ne _)
   obtain ⟨ka, kc, rfl, hkc, _⟩ := hS.vecSlice (k := 0) (v := kv) rfl
   refine WC.region ?_
   refine WL.val (.move (.of rfl)) rfl ?_
   refine WL.val (.move (.of rfl)) rfl ?_
   refine WL.val (.move (.of rfl)) rfl ?_
   refine WL.val (.move (.of rfl)) rfl ?_
   refine WL.val (.sub3 (.of rfl) (.of rfl) (.of rfl) (by omega) (by omega) (by omega) Tryz.underlying9) rfl ?_
   simp only [Int.toNat_natCast]
   refine WL.buildSlice (cs := [_]) hS (parts_cons (.of rfl) parts_nil) Tryz.underlying35 Tryz.sizeOf9 Tryz.zeroValue9 rfl rfl rfl rfl ?_
   clear hS; intro b24 w hS
   first | refine WL.append (size := 1) (bytes := 16) hS (.of rfl) (.of rfl) (k := 0) rfl Tryz.underlying35 info9_44 rfl rfl rfl rfl rfl rfl rfl ⟨by omega, by unfold maxLen; omega⟩ rfl ?_
   clear hS; intro v25 w hS; try dsimp only [List.set] at hS
   first | obtain ⟨a25, c25, rfl, hcap25, _⟩ := hS.vecSlice (k := 0) (v := v25) rfl
   refine WL.val (.assign (.of rfl)) rfl ?_
   refine WL.nil ?_
   refine WC.region ?_
   refine WL.val (.move (.of rfl)) rfl ?_
   refine WL.val (.add (.of rfl) (.of rfl) ⟨by omega, by omega⟩) rfl ?_
   refine WL.val (.assign (.of rfl)) rfl ?_
   refine WL.nil ?_
   refine WC.region ?_
   refine WL.val (.move (.of rfl)) rfl ?_
   refine WL.val (.add (.of rfl) (.of rfl) ⟨by omega, by omega⟩) rfl ?_
   refine WL.val (.assign (.of rfl)) rfl ?_
   refine WL.nil ?_
   refine ⟨(_, out ++ [(s.drop fr).take (i - fr)], i + 1, i + 1), ⟨rfl, rfl, rfl, rfl, rfl, trivial⟩, ⟨by (try dsimp only); omega, by (try dsimp only); omega, ?_, fun j h1 h2 => by (try dsimp only at h1 h2); omega, ?_⟩, by (try dsimp only); omega⟩
   ·rw [hsp, split_at (s := s.drop fr) (i := i - fr) (by rw [List.getElem?_drop, show fr + (i - fr) = i by omega, at_some (by omega)]; congr 1; exact UInt8.toNat_inj.1 (by show (at_ s (i : Int)).toNat = 47; simp only [beq_iff_eq] at hb18; omega)) (fun q hq e => by
     rw [List.getElem?_drop, at_some (by omega)] at e
     injection e with e
     exact hno (fr + q) (by omega) (by omega) e), List.drop_drop, show fr + (i - fr + 1) = i + 1 by omega, List.append_assoc]
    rfl
   ·rw [List.map_append, List.length_append]; exact hS
  ·
   have hc18 := hb18; try simp only [Gk.cs0] at hc18
   refine WC.skip ?_
   refine WC.region ?_
   refine WL.val (.move (.of rfl)) rfl ?_
   refine WL.val (.add (.of rfl) (.of rfl) ⟨by omega, by omega⟩) rfl ?_
   refine WL.val (.assign (.of rfl)) rfl ?_
   refine WL.nil ?_
   refine ⟨(_, out, fr, i + 1), ⟨rfl, rfl, rfl, rfl, rfl, trivial⟩, ⟨by (try dsimp only); omega, by (try dsimp only); omega, hsp, fun j h1 h2 => ?_, hS⟩, by (try dsimp only); omega⟩
   rcases Nat.lt_or_ge j i with h3 | h3
   ·exact hno j h1 h3
   ·have e : j = i := by (try dsimp only at h2); omega
    subst e
    simp only [beq_eq_false_iff_ne] at hb18
    exact fun e => hb18 (by rw [e]; rfl)
 ·
  have hc11 := hb11; try simp only [Gk.cs0] at hc11
  refine WC.exit ?_
  refine WC.seq ?_
  have hto := congrArg List.length hsp
  rw [List.length_append] at hto
  have hlt := len_tot (spl s)
  rw [spl_tot] at hlt
  have hsn : 1 ≤ (spl (s.drop fr)).length := List.length_pos_iff.2 (spl_ne _)
  obtain ⟨ka, kc, rfl, hkc, _⟩ := hS.vecSlice (k := 0) (v := kv) rfl
  refine WC.region ?_
  refine WL.val (.move (.of rfl)) rfl ?_
  refine WL.val (.move (.of rfl)) rfl ?_
  refine WL.val (.move (.of rfl)) rfl ?_
  refine WL.val (.subFrom (.of rfl) (.of rfl) (by omega) (by omega) Tryz.underlying9) rfl ?_
  simp only [Int.toNat_natCast]
  refine WL.buildSlice (cs := [_]) hS (parts_cons (.of rfl) parts_nil) Tryz.underlying35 Tryz.sizeOf9 Tryz.zeroValue9 rfl rfl rfl rfl ?_
  clear hS; intro b32 w hS
  first | refine WL.append (size := 1) (bytes := 16) hS (.of rfl) (.of rfl) (k := 0) rfl Tryz.underlying35 info9_44 rfl rfl rfl rfl rfl rfl rfl ⟨by omega, by unfold maxLen; omega⟩ rfl ?_
  clear hS; intro v33 w hS; try dsimp only [List.set] at hS
  first | obtain ⟨a33, c33, rfl, hcap33, _⟩ := hS.vecSlice (k := 0) (v := v33) rfl
  refine WL.val (.assign (.of rfl)) rfl ?_
  refine WL.nil ?_
  refine WC.ret ?_
  refine ret1 Tryz.results64 rfl ?_
  have hend : spl s = out ++ [s.drop fr] := by
   rw [hsp, spl_none (s.drop fr) fun x hx ex => ?_]
   obtain ⟨q, hq⟩ := List.mem_iff_getElem?.1 hx
   rw [List.getElem?_drop] at hq
   have hql := (List.getElem?_eq_some_iff.1 hq).1
   rw [at_some hql] at hq
   injection hq with hq
   exact hno (fr + q) (by omega) (by omega) (hq.trans ex)
  refine ⟨_, rfl, ?_⟩
  rw [hend, List.map_append, List.length_append]
  exact hS
end Go.Proofs.YtchgkcbloeoopaaGreatDoor
