/- Scopes without a jump. -/
import Derived.Test.YtfmdhpgfbojjaaaGkG
import Derived.Scope
namespace Gk
set_option linter.unusedVariables false
set_option linter.unusedSimpArgs false
open Go
def noGo (K : Kont) : Kont := fun e L w => match e with | .goto _ => False | e => K e L w
theorem WC.scope {P : Program} {n : Nat} {K : Kont} {L : Env} {w : World} {c : Code} (h : WC P n c (noGo K) L w) : WC P n (.scope c) K L w := by
  intro a ha
  refine wp_scope_straight (wp_mono (h a ha) ?_)
  rintro e a' w' ⟨L', h1, h2⟩
  cases e <;> first | exact h2.elim | exact ⟨L', h1, h2⟩

section
variable {P : Program} {n : Nat} {K : Kont} {L : Env} {w : World} {ops : Array Oper} {rest : List Oper}
/-- A call under guards, of which one knows what it tells, and what it leaves. -/
theorem WL.gcalls {d j t : Nat} {c : List (Bool × Bool)} {b want : Bool} {ty : TypeId} {pos : String} {af : Array Edge} {v0 : Value} {f : FuncId} {fn : Func} {xs : List Operand} {ts : Array TypeId} {vs : List Value} {T : World → Prop}
    (hj : (ops[j]?).bind (·.dst) = some t) (ht : Nat.blt t n = true) (hb : look L t = some (gds c (.bool b))) (hf : P.funcs[f]? = some fn) (hc : callable fn = true)
    (hx : (∀ p ∈ c ++ [(b, want)], p.1 = p.2) → ∀ a, Holds n L a → xs.map a.eval = vs) (hd : Nat.blt d n = true)
    (hcall : (∀ p ∈ c ++ [(b, want)], p.1 = p.2) → Calls P f vs.toArray w (Ret fun v w' => v = v0 ∧ T w')) (h0 : T w)
    (h : ∀ w', T w' → WL P n ops K rest ((d, gds (c ++ [(b, want)]) v0) :: L) w') : WL P n ops K (⟨some d, .call ⟨.value (.func f), xs.toArray, ts⟩, ty, pos, af, some (j, want)⟩ :: rest) L w := by
  intro a ha
  refine wpList_step fun K' hK => ?_
  have hlt : t < a.tmps.size := by have := Nat.le_of_ble_eq_true ht; rw [ha.size]; omega
  have hv := ha.get t _ hb
  have hy : yielded ops a.tmps j = match gds c (.bool b) with | .bool b => some b | _ => none := by
    obtain ⟨o, ho, hdd⟩ := Option.bind_eq_some_iff.1 hj
    rw [Array.getD_eq_getD_getElem?, Array.getElem?_eq_getElem hlt] at hv
    simp only [Option.getD_some] at hv
    have h2 : a.tmps[t]? = some (gds c (.bool b)) := by rw [Array.getElem?_eq_getElem hlt, hv]
    simp only [yielded, ho, hdd, Option.bind_some, h2]
    generalize gds c (.bool b) = g
    cases g <;> rfl
  by_cases e : ∀ p ∈ c ++ [(b, want)], p.1 = p.2
  · have ec : ∀ p ∈ c, p.1 = p.2 := fun p hp => e p (by simp [hp])
    have eb : b = want := e (b, want) (by simp)
    rw [gds_all ec] at hy
    rw [if_pos (by simp [Region.wanted, hy, eb])]
    have he : (execOp a.eval (⟨some d, .call ⟨.value (.func f), xs.toArray, ts⟩, ty, pos, af, some (j, want)⟩ : Oper)).run P w = .ok (.enter f vs.toArray) w := by
      unfold callable at hc
      simp only [Bool.and_eq_true] at hc
      obtain ⟨h1, h2⟩ := hc
      have h1' : ¬ fn.name = "runtime.NumGoroutine" := by simpa using h1
      have h2' : ¬ fn.body = none := by intro e; rw [e] at h2; cases h2
      have hv := hx e a ha
      simp [execOp, resolve, Act.eval, Deferred.ofValue, invoke, callFunc, program, Sem.run, hf, h1', h2', ← hv]
    unfold Oper.wp
    rw [he]
    refine (hcall e).mono fun e' w'' hq => ?_
    obtain ⟨v, rfl, rfl, hT⟩ := hq
    have hput := h w'' hT _ (ha.put hd (gds (c ++ [(b, want)]) v))
    rw [gds_all e] at hput
    exact hK _ _ hput
  · have hw : Region.wanted (⟨some d, .call ⟨.value (.func f), xs.toArray, ts⟩, ty, pos, af, some (j, want)⟩ : Oper) (yielded ops a.tmps) = false := by
      by_cases ec : ∀ p ∈ c, p.1 = p.2
      · rw [gds_all ec] at hy
        have eb : ¬ b = want := fun eb => e fun p hp => by
          rcases List.mem_append.1 hp with hp | hp
          · exact ec p hp
          · simp at hp; subst hp; exact eb
        simp [Region.wanted, hy, eb]
      · rw [gds_not ec] at hy
        simp [Region.wanted, hy, undef]
    rw [if_neg (by simp [hw])]
    have hput := h w h0 _ (ha.put hd (gds (c ++ [(b, want)]) v0))
    rw [gds_not e] at hput
    exact hK _ _ hput
theorem WL.gcall {d j t : Nat} {b want : Bool} {ty : TypeId} {pos : String} {af : Array Edge} {v0 : Value} {f : FuncId} {fn : Func} {xs : List Operand} {ts : Array TypeId} {vs : List Value} {T : World → Prop}
    (hj : (ops[j]?).bind (·.dst) = some t) (ht : Nat.blt t n = true) (hb : look L t = some (.bool b)) (hf : P.funcs[f]? = some fn) (hc : callable fn = true)
    (hx : b = want → ∀ a, Holds n L a → xs.map a.eval = vs) (hd : Nat.blt d n = true)
    (hcall : b = want → Calls P f vs.toArray w (Ret fun v w' => v = v0 ∧ T w')) (h0 : T w)
    (h : ∀ w', T w' → WL P n ops K rest ((d, gd b want v0) :: L) w') : WL P n ops K (⟨some d, .call ⟨.value (.func f), xs.toArray, ts⟩, ty, pos, af, some (j, want)⟩ :: rest) L w :=
  WL.gcalls (c := []) hj ht hb hf hc (fun e => hx (e (b, want) (by simp))) hd (fun e => hcall (e (b, want) (by simp))) h0 h
theorem WL.gcall2 {d j t : Nat} {b1 w1 b want : Bool} {ty : TypeId} {pos : String} {af : Array Edge} {v0 : Value} {f : FuncId} {fn : Func} {xs : List Operand} {ts : Array TypeId} {vs : List Value} {T : World → Prop}
    (hj : (ops[j]?).bind (·.dst) = some t) (ht : Nat.blt t n = true) (hb : look L t = some (gd b1 w1 (.bool b))) (hf : P.funcs[f]? = some fn) (hc : callable fn = true)
    (hx : b1 = w1 → b = want → ∀ a, Holds n L a → xs.map a.eval = vs) (hd : Nat.blt d n = true)
    (hcall : b1 = w1 → b = want → Calls P f vs.toArray w (Ret fun v w' => v = v0 ∧ T w')) (h0 : T w)
    (h : ∀ w', T w' → WL P n ops K rest ((d, gd b1 w1 (gd b want v0)) :: L) w') : WL P n ops K (⟨some d, .call ⟨.value (.func f), xs.toArray, ts⟩, ty, pos, af, some (j, want)⟩ :: rest) L w :=
  WL.gcalls (c := [(b1, w1)]) hj ht hb hf hc (fun e => hx (e (b1, w1) (by simp)) (e (b, want) (by simp))) hd (fun e => hcall (e (b1, w1) (by simp)) (e (b, want) (by simp))) h0 h
end
end Gk
