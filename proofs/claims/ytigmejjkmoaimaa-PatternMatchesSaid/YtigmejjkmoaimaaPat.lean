/- Chapter 17 in plain Lean: no program stands here. -/
import Derived.Test.YtigmejjkmoaimaaGkE
namespace Pat
set_option linter.unusedVariables false
set_option linter.unusedSimpArgs false
open Gk

def iter {β : Type} (f : β → Nat → β) (b : β) : Nat → β
  | 0 => b
  | k + 1 => f (iter f b k) k

/-- Does a text begin so. -/
def hasPre (s p : List UInt8) : Bool := decide ((p.length : Int) ≤ (s.length : Int)) && (s.take (p.length : Int).toNat == p)

/-- Does a part take a byte. -/
def takes (kind : Int) (own c : UInt8) : Bool := kind == 2 || (kind == 1 && ((c.toNat : Int) != 47)) || (kind == 0 && ((c.toNat : Int) == (own.toNat : Int)))

def end1 (fr : List Bool) (many : Bool) (out : List Bool) (k : Nat) : List Bool := bif many && fr.getD (k : Int).toNat false then out.set (k : Int).toNat true else out
def end2 (s : List UInt8) (fr : List Bool) (kind : Int) (own : UInt8) (many : Bool) (o : List Bool) (k : Nat) : List Bool :=
  bif decide (0 < (k : Int)) && (takes kind own (at_ s ((k : Int) - 1)) && (fr.getD ((k : Int) - 1).toNat false || (many && o.getD ((k : Int) - 1).toNat false))) then o.set (k : Int).toNat true else o
def endAt (s : List UInt8) (fr : List Bool) (kind : Int) (own : UInt8) (many : Bool) (out : List Bool) (k : Nat) : List Bool := end2 s fr kind own many (end1 fr many out k) k
def ends (s : List UInt8) (fr : List Bool) (kind : Int) (own : UInt8) (many : Bool) : List Bool := iter (endAt s fr kind own many) (List.replicate (s.length + 1) false) (s.length + 1)
theorem end1_length (fr : List Bool) (many : Bool) (out : List Bool) (k : Nat) : (end1 fr many out k).length = out.length := by unfold end1; cases many && fr.getD (k : Int).toNat false <;> simp
theorem end2_length (s : List UInt8) (fr : List Bool) (kind : Int) (own : UInt8) (many : Bool) (o : List Bool) (k : Nat) : (end2 s fr kind own many o k).length = o.length := by
  unfold end2; generalize (decide (0 < (k : Int)) && _) = c; cases c <;> simp
theorem endIter_length (s : List UInt8) (fr : List Bool) (kind : Int) (own : UInt8) (many : Bool) (init : List Bool) : ∀ k, (iter (endAt s fr kind own many) init k).length = init.length
  | 0 => rfl
  | k + 1 => by rw [iter, endAt, end2_length, end1_length, endIter_length s fr kind own many init k]
theorem ends_length (s : List UInt8) (fr : List Bool) (kind : Int) (own : UInt8) (many : Bool) : (ends s fr kind own many).length = s.length + 1 := by
  rw [ends, endIter_length, List.length_replicate]

/-- What is wrong with a text, and where: from a place on, with brackets that are open. -/
def chkGo : List UInt8 → Int → List Int → Int × Int
  | [], _, o => if 0 < o.length then (23, o.getD (o.length - 1) 0) else (0, 0)
  | c :: r, i, o =>
    if c.toNat = 40 then (if o.length = 4 then (24, i) else chkGo r (i + 1) (o ++ [i]))
    else if c.toNat = 41 then (if o.length = 0 then (10, i) else chkGo r (i + 1) (o.take (o.length - 1)))
    else if c.toNat = 124 then (if o.length = 0 then (10, i) else chkGo r (i + 1) o)
    else if c.toNat = 92 then (match r with | [] => (10, i) | _ :: r' => chkGo r' (i + 2) o)
    else chkGo r (i + 1) o
theorem chkGo_nil (i : Int) (o : List Int) : chkGo [] i o = if 0 < o.length then (23, o.getD (o.length - 1) 0) else (0, 0) := by rw [chkGo.eq_def]
theorem chkGo_cons (c : UInt8) (r : List UInt8) (i : Int) (o : List Int) : chkGo (c :: r) i o = if c.toNat = 40 then (if o.length = 4 then (24, i) else chkGo r (i + 1) (o ++ [i]))
    else if c.toNat = 41 then (if o.length = 0 then (10, i) else chkGo r (i + 1) (o.take (o.length - 1)))
    else if c.toNat = 124 then (if o.length = 0 then (10, i) else chkGo r (i + 1) o)
    else if c.toNat = 92 then (match r with | [] => (10, i) | _ :: r' => chkGo r' (i + 2) o)
    else chkGo r (i + 1) o := by rw [chkGo.eq_def]
def chk (l : List UInt8) : Int × Int := if 200 < l.length then (2, 0) else chkGo l 0 []
end Pat
