/- Chapter 17: the bars of a bracket, and the alternatives between them. -/
import Derived.Test.YtigmejjkmoaimaaPatR
namespace Pat
set_option linter.unusedVariables false
set_option linter.unusedSimpArgs false
open Go Gk Pt
/-- 'bars': from a place on, so deep, with those so far. -/
def barsGo : List UInt8 → Int → Int → List Int → List Int
  | [], _, _, out => out
  | c :: r, i, d, out =>
    if c.toNat = 92 then (match r with | [] => out | _ :: r' => barsGo r' (i + 2) d out)
    else if c.toNat = 40 then barsGo r (i + 1) (d + 1) out
    else if c.toNat = 124 then barsGo r (i + 1) d (if d = 1 then out ++ [i] else out)
    else if c.toNat = 41 then (if d - 1 = 0 then out ++ [i] else barsGo r (i + 1) (d - 1) out)
    else barsGo r (i + 1) d out
theorem barsGo_nil (i d : Int) (out : List Int) : barsGo [] i d out = out := by rw [barsGo.eq_def]
theorem barsGo_cons (c : UInt8) (r : List UInt8) (i d : Int) (out : List Int) : barsGo (c :: r) i d out =
    if c.toNat = 92 then (match r with | [] => out | _ :: r' => barsGo r' (i + 2) d out)
    else if c.toNat = 40 then barsGo r (i + 1) (d + 1) out
    else if c.toNat = 124 then barsGo r (i + 1) d (if d = 1 then out ++ [i] else out)
    else if c.toNat = 41 then (if d - 1 = 0 then out ++ [i] else barsGo r (i + 1) (d - 1) out)
    else barsGo r (i + 1) d out := by rw [barsGo.eq_def]
theorem barsGo_plain {c : UInt8} (h1 : c ≠ 92) (h2 : c ≠ 40) (h3 : c ≠ 124) (h4 : c ≠ 41) (r : List UInt8) (i d : Int) (out : List Int) : barsGo (c :: r) i d out = barsGo r (i + 1) d out := by
  rw [barsGo_cons, if_neg (show ¬ c.toNat = 92 from ne_toNat h1), if_neg (show ¬ c.toNat = 40 from ne_toNat h2), if_neg (show ¬ c.toNat = 124 from ne_toNat h3), if_neg (show ¬ c.toNat = 41 from ne_toNat h4)]
/-- Inside of a bracket one comes by all of a tree's text. -/
theorem bars_deep {t : List UInt8} {b : Pt} (h : Rep t b) : ∀ (rest : List UInt8) (i d : Int) (out : List Int), 2 ≤ d → barsGo (t ++ rest) i d out = barsGo rest (i + t.length) d out := by
  induction h with
  | nil => intro rest i d out _; simp
  | @one l p _ ih => intro rest i d out hd; rw [List.cons_append, barsGo_plain (by decide) (by decide) (by decide) (by decide), ih _ _ _ _ hd]; congr 1; simp; omega
  | @all l p _ ih => intro rest i d out hd; rw [List.cons_append, List.cons_append, barsGo_plain (by decide) (by decide) (by decide) (by decide), barsGo_plain (by decide) (by decide) (by decide) (by decide), ih _ _ _ _ hd]; congr 1; simp; omega
  | @few l p _ _ ih => intro rest i d out hd; rw [List.cons_append, barsGo_plain (by decide) (by decide) (by decide) (by decide), ih _ _ _ _ hd]; congr 1; simp; omega
  | @bar l p _ ih =>
    intro rest i d out hd
    rw [List.cons_append, barsGo_cons, if_neg (by decide), if_neg (by decide), if_pos (by decide), if_neg (by omega), ih _ _ _ _ hd]; congr 1; simp; omega
  | @esc l p c _ ih =>
    intro rest i d out hd
    rw [List.cons_append, List.cons_append, barsGo_cons, if_pos (by decide)]
    simp only
    rw [ih _ _ _ _ hd]; congr 1; simp; omega
  | @byte l p c h1 h2 h3 h4 h5 h6 _ ih => intro rest i d out hd; rw [List.cons_append, barsGo_plain h6 h3 h4 h5, ih _ _ _ _ hd]; congr 1; simp; omega
  | @grp t l b p _ _ ihb ih =>
    intro rest i d out hd
    rw [List.cons_append, List.append_assoc, List.cons_append, barsGo_cons, if_neg (by decide), if_pos (by decide), ihb _ _ _ _ (by omega), barsGo_cons, if_neg (by decide), if_neg (by decide), if_neg (by decide), if_pos (by decide), if_neg (by omega), show d + 1 - 1 = d by omega, ih _ _ _ _ hd]
    congr 1; simp; omega
/-- A text's alternatives: where the bars between them stand. -/
inductive Alts : List UInt8 → Pt → Int → List Int → Prop
  | last {t b} (i : Int) : Rep t b → b.flat → Alts t b i []
  | more {t1 b1 t2 b2 ps} (i : Int) : Rep t1 b1 → b1.flat → Alts t2 b2 (i + t1.length + 1) ps → Alts (t1 ++ 124 :: t2) (b1.app (.bar b2)) i ((i + t1.length) :: ps)
theorem alts_len {t : List UInt8} {b : Pt} {i : Int} {ps : List Int} (h : Alts t b i ps) : ps.length ≤ t.length := by
  induction h with
  | last => simp
  | more _ _ _ _ ih => simp; omega
theorem Alts.pre {x t : List UInt8} {b : Pt} {i : Int} {ps : List Int} {f : Pt → Pt} (hf : ∀ p, p.flat → (f p).flat) (hfa : ∀ p q, f (p.app q) = (f p).app q) (h : Alts t b (i + x.length) ps) (hp : ∀ {t1 p}, (t1.head? = some 42 → t.head? = some 42) → Rep t1 p → Rep (x ++ t1) (f p)) : Alts (x ++ t) (f b) i ps := by
  cases h with
  | last _ h1 h2 => exact .last i (hp (fun h => h) h1) (hf _ h2)
  | @more t1 b1 t2 b2 ps _ h1 h2 h3 =>
    rw [← List.append_assoc, hfa]
    have e : i + (x.length : Int) + (t1.length : Int) = i + ((x ++ t1).length : Int) := by simp; omega
    rw [e] at h3 ⊢
    refine .more i (hp ?_ h1) (hf _ h2) h3
    intro e
    cases t1 with
    | nil => simp at e
    | cons y t1 => simpa using e
theorem alts {t : List UInt8} {b : Pt} (h : Rep t b) : ∀ (i : Int), ∃ ps, Alts t b i ps ∧ ∀ (rest : List UInt8) (out : List Int), barsGo (t ++ rest) i 1 out = barsGo rest (i + t.length) 1 (out ++ ps) := by
  induction h with
  | nil => intro i; exact ⟨[], .last i .nil trivial, fun rest out => by simp⟩
  | @one l p _ ih =>
    intro i
    obtain ⟨ps, h1, h2⟩ := ih (i + 1)
    refine ⟨ps, Alts.pre (x := [63]) (f := .lit 1 0) (fun _ h => h) (fun _ _ => rfl) h1 (fun _ h => .one h), fun rest out => ?_⟩
    rw [List.cons_append, barsGo_plain (by decide) (by decide) (by decide) (by decide), h2]; congr 1; simp; omega
  | @all l p _ ih =>
    intro i
    obtain ⟨ps, h1, h2⟩ := ih (i + 2)
    refine ⟨ps, Alts.pre (x := [42, 42]) (f := .lit 2 0) (fun _ h => h) (fun _ _ => rfl) h1 (fun _ h => .all h), fun rest out => ?_⟩
    rw [List.cons_append, List.cons_append, barsGo_plain (by decide) (by decide) (by decide) (by decide), barsGo_plain (by decide) (by decide) (by decide) (by decide), show i + 1 + 1 = i + 2 by omega, h2]; congr 1; simp; omega
  | @few l p hl _ ih =>
    intro i
    obtain ⟨ps, h1, h2⟩ := ih (i + 1)
    refine ⟨ps, Alts.pre (x := [42]) (f := .lit 3 0) (fun _ h => h) (fun _ _ => rfl) h1 (fun hd h => .few (fun e => hl (hd e)) h), fun rest out => ?_⟩
    rw [List.cons_append, barsGo_plain (by decide) (by decide) (by decide) (by decide), h2]; congr 1; simp; omega
  | @bar l p _ ih =>
    intro i
    obtain ⟨ps, h1, h2⟩ := ih (i + 1)
    refine ⟨i :: ps, ?_, fun rest out => ?_⟩
    · have h3 := Alts.more (t1 := []) i .nil trivial (by simpa using h1)
      simpa [Pt.app] using h3
    · rw [List.cons_append, barsGo_cons, if_neg (by decide), if_neg (by decide), if_pos (by decide), if_pos rfl, h2, List.append_assoc]; congr 1; simp; omega
  | @esc l p c _ ih =>
    intro i
    obtain ⟨ps, h1, h2⟩ := ih (i + 2)
    refine ⟨ps, Alts.pre (x := [92, c]) (f := .lit 0 (c.toNat : Int)) (fun _ h => h) (fun _ _ => rfl) h1 (fun _ h => .esc c h), fun rest out => ?_⟩
    rw [List.cons_append, List.cons_append, barsGo_cons, if_pos (by decide)]
    simp only
    rw [h2]; congr 1; simp; omega
  | @byte l p c k1 k2 k3 k4 k5 k6 _ ih =>
    intro i
    obtain ⟨ps, h1, h2⟩ := ih (i + 1)
    refine ⟨ps, Alts.pre (x := [c]) (f := .lit 0 (c.toNat : Int)) (fun _ h => h) (fun _ _ => rfl) h1 (fun _ h => .byte c k1 k2 k3 k4 k5 k6 h), fun rest out => ?_⟩
    rw [List.cons_append, barsGo_plain k6 k3 k4 k5, h2]; congr 1; simp; omega
  | @grp t l b p hb _ _ ih =>
    intro i
    have e : i + ((40 :: (t ++ [41])).length : Int) = i + 1 + t.length + 1 := by simp; omega
    obtain ⟨ps, h1, h2⟩ := ih (i + 1 + t.length + 1)
    refine ⟨ps, ?_, fun rest out => ?_⟩
    · have h3 := Alts.pre (x := 40 :: (t ++ [41])) (f := .grp b) (fun _ h => h) (fun _ _ => rfl) (by rw [e]; exact h1) (fun {t1 p1} _ h => by have := Rep.grp hb h; simpa using this)
      simpa using h3
    · rw [List.cons_append, List.append_assoc, List.cons_append, barsGo_cons, if_neg (by decide), if_pos (by decide), bars_deep hb _ _ _ _ (by omega), barsGo_cons, if_neg (by decide), if_neg (by decide), if_neg (by decide), if_pos (by decide), if_neg (by omega), show (1 : Int) + 1 - 1 = 1 by omega, h2]
      congr 1; simp; omega
/-- The bars of a bracket, and its closing. -/
theorem bars_grp {t : List UInt8} {b : Pt} (h : Rep t b) (rest : List UInt8) (i : Int) : ∃ ps, Alts t b (i + 1) ps ∧ barsGo (40 :: (t ++ 41 :: rest)) i 0 [] = ps ++ [i + 1 + t.length] := by
  obtain ⟨ps, h1, h2⟩ := alts h (i + 1)
  refine ⟨ps, h1, ?_⟩
  rw [barsGo_cons, if_neg (by decide), if_pos (by decide), Int.zero_add, h2, barsGo_cons, if_neg (by decide), if_neg (by decide), if_neg (by decide), if_pos (by decide), if_pos (by omega)]
  rfl
end Pat
