/- Chapter 17: matching, as a Bool. -/
import Derived.Test.YtigmejjkmoaimaaPatW
namespace Pat
set_option linter.unusedVariables false
set_option linter.unusedSimpArgs false
open Go Gk Pt
def mat (Q : List Pl) (s : List UInt8) : Bool := (run Q s).1.getD (Q.length - 1) false
theorem mat_sem {l : List UInt8} {Q : List Pl} (h : cmp l = .ok Q) {p : Pt} (hr : Rep l p) (hf : p.flat) (s : List UInt8) : mat Q s = true ↔ (sem p).1 s := by
  have hl := (cmp_ok h).1
  have hd : p.dep ≤ 4 := by
    refine Nat.le_of_not_lt fun hd => cmp_deep hr hf hd Q h
  rw [cmp_of hr hf hl hd] at h
  injection h with h
  subst h
  exact run_sem hr.ok hf s
end Pat
