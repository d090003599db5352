/- Statements whose order is open. -/
import Derived.Test.YtfmdhpgfbojjaaaGkE
import Derived.Deep.Quiet
import Derived.StillTail
namespace Gk
set_option linter.unusedVariables false
set_option linter.unusedSimpArgs false
open Go

/-- Only quiet operations: the text's order serves every order. -/
def WQ (P : Program) (n : Nat) (ops : Array Oper) (C : World → Prop) (K : Env → Prop) (l : List Oper) (L : Env) : Prop :=
  ∀ a, Holds n L a → wpQuiet P ops C (fun a' => ∃ L', Holds n L' a' ∧ K L') l a
/-- Quiet operations ahead of a tail in one order. -/
def WT (P : Program) (n : Nat) (ops : Array Oper) (w : World) (K : Kont) (rest l : List Oper) (L : Env) : Prop :=
  ∀ a, Holds n L a → wpStill P ops w (fun a' => wpList P ops (lift n K) rest a' w) l a

section
variable {P : Program} {n : Nat} {K : Kont} {L : Env} {w : World} {ops : Array Oper} {rest tl : List Oper} {C : World → Prop} {k : Env → Prop}
variable {B : World} {I : Im} {As : List Assn}

theorem WC.quiet {id : Nat} {l : List Oper} (hm : P.follows .mixedOrders = true) (hB : Region.lexB .any l.toArray = true) (hS : Sat B w I As)
    (h : WQ P n l.toArray (fun w => Sat B w I As) (fun L' => ∀ w', Sat B w' I As → K .normal L' w') l L) : WC P n (.region id l.toArray true) K L w := by
  intro a ha
  refine wp_region_quiet (C := fun w => Sat B w I As) hm hB (hS.world rfl rfl rfl rfl) ?_
  have h1 := h a ha
  have mono : ∀ (l' : List Oper) (a : Act) (Q Q' : Act → Prop), (∀ a, Q a → Q' a) → wpQuiet P l.toArray (fun w => Sat B w I As) Q l' a → wpQuiet P l.toArray (fun w => Sat B w I As) Q' l' a := by
    intro l'
    induction l' with
    | nil => intro a Q Q' hq hh; exact hq _ hh
    | cons o r ih =>
      intro a Q Q' hq hh
      unfold wpQuiet at hh ⊢
      split
      · rename_i hw; rw [if_pos hw] at hh; exact Oper.quiet_mono (fun a => ih a Q Q' hq) hh
      · rename_i hw; rw [if_neg hw] at hh; exact ih _ Q Q' hq hh
  refine mono l a (fun a' => ∃ L', Holds n L' a' ∧ ∀ w', Sat B w' I As → K .normal L' w') _ (fun a' hh w' hw' => ?_) h1
  obtain ⟨L', hL, hk⟩ := hh
  exact ⟨L', hL, hk w' hw'⟩

theorem WQ.nil (h : k L) : WQ P n ops C k [] L := fun a ha => wpQuiet_nil ⟨L, ha, h⟩
theorem WQ.val {d : Nat} {op : Op} {ty : TypeId} {pos : String} {af : Array Edge} {v : Value} (hx : ∀ w, C w → Ex P n L w ⟨some d, op, ty, pos, af, none⟩ v w) (hd : Nat.blt d n = true)
    (h : WQ P n ops C k rest ((d, v) :: L)) : WQ P n ops C k (⟨some d, op, ty, pos, af, none⟩ :: rest) L := by
  intro a ha
  refine wpQuiet_step fun K' hK => ?_
  rw [if_pos (wanted_none rfl _)]
  refine ⟨v, fun w hw => ?_, hK _ (h _ (ha.put hd v))⟩
  unfold Oper.quietAt
  rw [hx w hw a ha]
  exact ⟨rfl, rfl⟩
theorem WQ.gvals {d j t : Nat} {c : List (Bool × Bool)} {b want : Bool} {op : Op} {ty : TypeId} {pos : String} {af : Array Edge} {v : Value}
    (hj : (ops[j]?).bind (·.dst) = some t) (ht : Nat.blt t n = true) (hb : look L t = some (gds c (.bool b))) (hx : (∀ p ∈ c ++ [(b, want)], p.1 = p.2) → ∀ w, C w → Ex P n L w ⟨some d, op, ty, pos, af, some (j, want)⟩ v w) (hd : Nat.blt d n = true)
    (h : WQ P n ops C k rest ((d, gds (c ++ [(b, want)]) v) :: L)) : WQ P n ops C k (⟨some d, op, ty, pos, af, some (j, want)⟩ :: rest) L := by
  intro a ha
  refine wpQuiet_step fun K' hK => ?_
  have hput := h _ (ha.put hd (gds (c ++ [(b, want)]) v))
  have hlt : t < a.tmps.size := by have := Nat.le_of_ble_eq_true ht; rw [ha.size]; omega
  have hv := ha.get t _ hb
  have hy : yielded ops a.tmps j = match gds c (.bool b) with | .bool b => some b | _ => none := by
    obtain ⟨o, ho, hdd⟩ := Option.bind_eq_some_iff.1 hj
    rw [Array.getD_eq_getD_getElem?, Array.getElem?_eq_getElem hlt] at hv
    simp only [Option.getD_some] at hv
    have h2 : a.tmps[t]? = some (gds c (.bool b)) := by rw [Array.getElem?_eq_getElem hlt, hv]
    simp only [yielded, ho, hdd, Option.bind_some, h2]
    generalize gds c (.bool b) = g
    cases g <;> rfl
  by_cases e : ∀ p ∈ c ++ [(b, want)], p.1 = p.2
  · have ec : ∀ p ∈ c, p.1 = p.2 := fun p hp => e p (by simp [hp])
    have eb : b = want := e (b, want) (by simp)
    rw [gds_all ec] at hy
    rw [if_pos (by simp [Region.wanted, hy, eb])]
    rw [gds_all e] at hput
    refine ⟨v, fun w hw => ?_, hK _ hput⟩
    unfold Oper.quietAt
    rw [hx e w hw a ha]
    exact ⟨rfl, rfl⟩
  · have hw : Region.wanted (⟨some d, op, ty, pos, af, some (j, want)⟩ : Oper) (yielded ops a.tmps) = false := by
      by_cases ec : ∀ p ∈ c, p.1 = p.2
      · rw [gds_all ec] at hy
        have eb : ¬ b = want := fun eb => e fun p hp => by
          rcases List.mem_append.1 hp with hp | hp
          · exact ec p hp
          · simp at hp; subst hp; exact eb
        simp [Region.wanted, hy, eb]
      · rw [gds_not ec] at hy
        simp [Region.wanted, hy, undef]
    rw [if_neg (by simp [hw])]
    rw [gds_not e] at hput
    exact hK _ hput
theorem WQ.gval {d j t : Nat} {b want : Bool} {op : Op} {ty : TypeId} {pos : String} {af : Array Edge} {v : Value}
    (hj : (ops[j]?).bind (·.dst) = some t) (ht : Nat.blt t n = true) (hb : look L t = some (.bool b)) (hx : b = want → ∀ w, C w → Ex P n L w ⟨some d, op, ty, pos, af, some (j, want)⟩ v w) (hd : Nat.blt d n = true)
    (h : WQ P n ops C k rest ((d, gd b want v) :: L)) : WQ P n ops C k (⟨some d, op, ty, pos, af, some (j, want)⟩ :: rest) L :=
  WQ.gvals (c := []) hj ht hb (fun e => hx (e (b, want) (by simp))) hd h
theorem WQ.gval2 {d j t : Nat} {b1 w1 b want : Bool} {op : Op} {ty : TypeId} {pos : String} {af : Array Edge} {v : Value}
    (hj : (ops[j]?).bind (·.dst) = some t) (ht : Nat.blt t n = true) (hb : look L t = some (gd b1 w1 (.bool b))) (hx : b1 = w1 → b = want → ∀ w, C w → Ex P n L w ⟨some d, op, ty, pos, af, some (j, want)⟩ v w) (hd : Nat.blt d n = true)
    (h : WQ P n ops C k rest ((d, gd b1 w1 (gd b want v)) :: L)) : WQ P n ops C k (⟨some d, op, ty, pos, af, some (j, want)⟩ :: rest) L :=
  WQ.gvals (c := [(b1, w1)]) hj ht hb (fun e => hx (e (b1, w1) (by simp)) (e (b, want) (by simp))) hd h

/-- A quiet call: it tells what it tells in every world of the class, and leaves one of the class. -/
theorem WQ.call {d : Nat} {ty : TypeId} {pos : String} {af : Array Edge} {f : FuncId} {fn : Func} {xs : List Operand} {ts : Array TypeId} {vs : List Value} {v : Value} (hf : P.funcs[f]? = some fn) (hc : callable fn = true) (hx : ∀ a, Holds n L a → xs.map a.eval = vs) (hd : Nat.blt d n = true)
    (hcall : ∀ w, C w → Calls P f vs.toArray w (Ret fun u w' => u = v ∧ C w')) (h : WQ P n ops C k rest ((d, v) :: L)) : WQ P n ops C k (⟨some d, .call ⟨.value (.func f), xs.toArray, ts⟩, ty, pos, af, none⟩ :: rest) L := by
  intro a ha
  refine wpQuiet_step fun K' hK => ?_
  rw [if_pos (wanted_none rfl _)]
  refine ⟨v, fun w hw => ?_, hK _ (h _ (ha.put hd v))⟩
  have he : (execOp a.eval (⟨some d, .call ⟨.value (.func f), xs.toArray, ts⟩, ty, pos, af, none⟩ : Oper)).run P w = .ok (.enter f vs.toArray) w := by
    unfold callable at hc
    simp only [Bool.and_eq_true] at hc
    obtain ⟨h1, h2⟩ := hc
    have h1' : ¬ fn.name = "runtime.NumGoroutine" := by simpa using h1
    have h2' : ¬ fn.body = none := by intro e; rw [e] at h2; cases h2
    have hv := hx a ha
    simp [execOp, resolve, Act.eval, Deferred.ofValue, invoke, callFunc, program, Sem.run, hf, h1', h2', ← hv]
  unfold Oper.quietAt
  rw [he]
  refine ⟨rfl, (hcall w hw).mono ?_⟩
  rintro e w'' ⟨u, rfl, rfl, hC⟩
  exact ⟨rfl, hC⟩

theorem WC.tail {id : Nat} {l : List Oper} (N : Nat) (hm : P.follows .mixedOrders = true) (hB : Region.lexTailB .any l.toArray N = true)
    (h : WT P n l.toArray w.drew K (l.drop N) (l.take N) L) : WC P n (.region id l.toArray true) K L w := by
  intro a ha
  exact wp_region_still_tail N hm hB (h a ha)
theorem WT.nil (h : WL P n ops K tl L w) : WT P n ops w K tl [] L := fun a ha => wpStill_nil (h a ha)
theorem WT.val {d : Nat} {op : Op} {ty : TypeId} {pos : String} {af : Array Edge} {v : Value} (hx : Ex P n L w ⟨some d, op, ty, pos, af, none⟩ v w) (hd : Nat.blt d n = true)
    (h : WT P n ops w K tl rest ((d, v) :: L)) : WT P n ops w K tl (⟨some d, op, ty, pos, af, none⟩ :: rest) L := by
  intro a ha
  refine wpStill_step fun K' hK => ?_
  rw [if_pos (wanted_none rfl _)]
  unfold Oper.still
  rw [hx a ha]
  exact ⟨rfl, hK _ (h _ (ha.put hd v))⟩
end
end Gk
