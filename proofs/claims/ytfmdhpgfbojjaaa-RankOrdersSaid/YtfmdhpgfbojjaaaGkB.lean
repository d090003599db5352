/- The operations that look at no memory. -/
import Derived.Test.YtfmdhpgfbojjaaaGkA
import Derived.Lib.Strings
namespace Gk
set_option linter.unusedVariables false
set_option linter.unusedSimpArgs false
open Go

def Ev (n : Nat) (L : Env) (x : Operand) (v : Value) : Prop := ∀ a, Holds n L a → a.eval x = v
/-- A value that stands in its slot only where a guard holds. -/
def gd (b want : Bool) (v : Value) : Value := bif b == want then v else undef

def Ex (P : Program) (n : Nat) (L : Env) (w : World) (o : Oper) (v : Value) (w' : World) : Prop := ∀ a, Holds n L a → (execOp a.eval o).run P w = .ok (.value v) w'
def Es (P : Program) (n : Nat) (L : Env) (w : World) (o : Oper) (w' : World) : Prop := ∀ a, Holds n L a → (execOp a.eval o).run P w = .ok .skip w'

section
variable {P : Program} {n : Nat} {K : Kont} {L : Env} {w w' : World} {ops : Array Oper} {rest : List Oper}

theorem Ev.of {x : Operand} {v : Value} (h : ev L x = some v) : Ev n L x v := fun _ ha => ev_eval ha h
theorem Ev.gd {x : Operand} {v : Value} {b want : Bool} (hb : b = want) (h : ev L x = some (gd b want v)) : Ev n L x v := fun a ha => by
  rw [ev_eval ha h, hb]
  cases want <;> rfl

theorem wanted_none {o : Oper} (hg : o.guard = none) (y : Nat → Option Bool) : Region.wanted o y = true := by simp [Region.wanted, hg]

theorem WL.nil (h : K .normal L w) : WL P n ops K [] L w := fun a ha => wpList_nil ⟨L, ha, h⟩

theorem WL.val {d : Nat} {op : Op} {ty : TypeId} {pos : String} {af : Array Edge} {v : Value} (hx : Ex P n L w ⟨some d, op, ty, pos, af, none⟩ v w') (hd : Nat.blt d n = true)
    (h : WL P n ops K rest ((d, v) :: L) w') : WL P n ops K (⟨some d, op, ty, pos, af, none⟩ :: rest) L w := by
  intro a ha
  refine wpList_plain rfl fun K' hK => ?_
  unfold Oper.wp
  rw [hx a ha]
  exact hK _ _ (h _ (ha.put hd v))

theorem WL.st {op : Op} {ty : TypeId} {pos : String} {af : Array Edge} (hx : Es P n L w ⟨none, op, ty, pos, af, none⟩ w')
    (h : WL P n ops K rest L w') : WL P n ops K (⟨none, op, ty, pos, af, none⟩ :: rest) L w := by
  intro a ha
  refine wpList_plain rfl fun K' hK => ?_
  unfold Oper.wp
  rw [hx a ha]
  exact hK _ _ (h _ ha)

theorem yielded_of {a : Act} {L : Env} (ha : Holds n L a) {j t : Nat} {b : Bool} (hj : (ops[j]?).bind (·.dst) = some t) (hb : look L t = some (.bool b)) : yielded ops a.tmps j = some b := by
  have h1 := ha.get t _ hb
  have hlt : t < a.tmps.size := by
    apply Classical.byContradiction
    intro hn
    rw [Array.getD_eq_getD_getElem?, Array.getElem?_eq_none (by omega)] at h1
    cases h1
  rw [Array.getD_eq_getD_getElem?, Array.getElem?_eq_getElem hlt] at h1
  simp only [Option.getD_some] at h1
  have h2 : a.tmps[t]? = some (.bool b) := by rw [Array.getElem?_eq_getElem hlt, h1]
  obtain ⟨o, ho, hd⟩ := Option.bind_eq_some_iff.1 hj
  simp [yielded, ho, hd, h2]

/-- A guarded operation that only computes: its value stands where the guard holds. -/
theorem WL.gval {d j t : Nat} {b want : Bool} {op : Op} {ty : TypeId} {pos : String} {af : Array Edge} {v : Value}
    (hj : (ops[j]?).bind (·.dst) = some t) (hb : look L t = some (.bool b)) (hx : b = want → Ex P n L w ⟨some d, op, ty, pos, af, some (j, want)⟩ v w) (hd : Nat.blt d n = true)
    (h : WL P n ops K rest ((d, gd b want v) :: L) w) : WL P n ops K (⟨some d, op, ty, pos, af, some (j, want)⟩ :: rest) L w := by
  intro a ha
  refine wpList_step fun K' hK => ?_
  have hy := yielded_of ha hj hb
  have hput := h _ (ha.put hd (Gk.gd b want v))
  unfold Gk.gd at hput
  by_cases e : b = want
  · rw [if_pos (by simp [Region.wanted, hy, e])]
    unfold Oper.wp
    rw [hx e a ha]
    subst e
    exact hK _ _ (by simpa using hput)
  · rw [if_neg (by simp [Region.wanted, hy, e])]
    have e' : (b == want) = false := by simpa using e
    rw [e'] at hput
    exact hK _ _ (by simpa using hput)

/-- Guards behind guards. -/
def gds : List (Bool × Bool) → Value → Value
  | [], v => v
  | (b, want) :: r, v => gd b want (gds r v)
theorem gds_all : ∀ {c : List (Bool × Bool)} {v : Value}, (∀ p ∈ c, p.1 = p.2) → gds c v = v
  | [], _, _ => rfl
  | (b, want) :: r, v, h => by
    have h1 : b = want := h (b, want) (by simp)
    subst h1
    simp only [gds, Gk.gd, beq_self_eq_true, cond_true]
    exact gds_all fun p hp => h p (List.mem_cons_of_mem _ hp)
theorem gds_not : ∀ {c : List (Bool × Bool)} {v : Value}, ¬ (∀ p ∈ c, p.1 = p.2) → gds c v = undef
  | [], _, h => absurd (fun _ hp => by cases hp) h
  | (b, want) :: r, v, h => by
    by_cases e : b = want
    · subst e
      simp only [gds, Gk.gd, beq_self_eq_true, cond_true]
      exact gds_not fun hr => h fun p hp => by
        rcases List.mem_cons.1 hp with rfl | hp
        · rfl
        · exact hr p hp
    · have e' : (b == want) = false := by simpa using e
      simp only [gds, Gk.gd, e', cond_false]
theorem WL.gvals {d j t : Nat} {c : List (Bool × Bool)} {b want : Bool} {op : Op} {ty : TypeId} {pos : String} {af : Array Edge} {v : Value}
    (hj : (ops[j]?).bind (·.dst) = some t) (ht : Nat.blt t n = true) (hb : look L t = some (gds c (.bool b))) (hx : (∀ p ∈ c ++ [(b, want)], p.1 = p.2) → Ex P n L w ⟨some d, op, ty, pos, af, some (j, want)⟩ v w) (hd : Nat.blt d n = true)
    (h : WL P n ops K rest ((d, gds (c ++ [(b, want)]) v) :: L) w) : WL P n ops K (⟨some d, op, ty, pos, af, some (j, want)⟩ :: rest) L w := by
  intro a ha
  refine wpList_step fun K' hK => ?_
  have hput := h _ (ha.put hd (gds (c ++ [(b, want)]) v))
  have hlt : t < a.tmps.size := by have := Nat.le_of_ble_eq_true ht; rw [ha.size]; omega
  have hv := ha.get t _ hb
  have hy : yielded ops a.tmps j = match gds c (.bool b) with | .bool b => some b | _ => none := by
    obtain ⟨o, ho, hdd⟩ := Option.bind_eq_some_iff.1 hj
    rw [Array.getD_eq_getD_getElem?, Array.getElem?_eq_getElem hlt] at hv
    simp only [Option.getD_some] at hv
    have h2 : a.tmps[t]? = some (gds c (.bool b)) := by rw [Array.getElem?_eq_getElem hlt, hv]
    simp only [yielded, ho, hdd, Option.bind_some, h2]
    generalize gds c (.bool b) = g
    cases g <;> rfl
  by_cases e : ∀ p ∈ c ++ [(b, want)], p.1 = p.2
  · have ec : ∀ p ∈ c, p.1 = p.2 := fun p hp => e p (by simp [hp])
    have eb : b = want := e (b, want) (by simp)
    rw [gds_all ec] at hy
    rw [if_pos (by simp [Region.wanted, hy, eb])]
    unfold Oper.wp
    rw [hx e a ha]
    rw [gds_all e] at hput
    exact hK _ _ hput
  · have hw : Region.wanted (⟨some d, op, ty, pos, af, some (j, want)⟩ : Oper) (yielded ops a.tmps) = false := by
      by_cases ec : ∀ p ∈ c, p.1 = p.2
      · rw [gds_all ec] at hy
        have eb : ¬ b = want := fun eb => e fun p hp => by
          rcases List.mem_append.1 hp with hp | hp
          · exact ec p hp
          · simp at hp; subst hp; exact eb
        simp [Region.wanted, hy, eb]
      · rw [gds_not ec] at hy
        simp [Region.wanted, hy, undef]
    rw [if_neg (by simp [hw])]
    rw [gds_not e] at hput
    exact hK _ _ hput
theorem WL.gval2 {d j t : Nat} {b1 w1 b want : Bool} {op : Op} {ty : TypeId} {pos : String} {af : Array Edge} {v : Value}
    (hj : (ops[j]?).bind (·.dst) = some t) (ht : Nat.blt t n = true) (hb : look L t = some (gd b1 w1 (.bool b))) (hx : b1 = w1 → b = want → Ex P n L w ⟨some d, op, ty, pos, af, some (j, want)⟩ v w) (hd : Nat.blt d n = true)
    (h : WL P n ops K rest ((d, gd b1 w1 (gd b want v)) :: L) w) : WL P n ops K (⟨some d, op, ty, pos, af, some (j, want)⟩ :: rest) L w :=
  WL.gvals (c := [(b1, w1)]) hj ht hb (fun e => hx (e (b1, w1) (by simp)) (e (b, want) (by simp))) hd h
theorem WL.gval3 {d j t : Nat} {b1 w1 b2 w2 b want : Bool} {op : Op} {ty : TypeId} {pos : String} {af : Array Edge} {v : Value}
    (hj : (ops[j]?).bind (·.dst) = some t) (ht : Nat.blt t n = true) (hb : look L t = some (gd b1 w1 (gd b2 w2 (.bool b)))) (hx : b1 = w1 → b2 = w2 → b = want → Ex P n L w ⟨some d, op, ty, pos, af, some (j, want)⟩ v w) (hd : Nat.blt d n = true)
    (h : WL P n ops K rest ((d, gd b1 w1 (gd b2 w2 (gd b want v))) :: L) w) : WL P n ops K (⟨some d, op, ty, pos, af, some (j, want)⟩ :: rest) L w :=
  WL.gvals (c := [(b1, w1), (b2, w2)]) hj ht hb (fun e => hx (e (b1, w1) (by simp)) (e (b2, w2) (by simp)) (e (b, want) (by simp))) hd h
theorem WL.gval4 {d j t : Nat} {b1 w1 b2 w2 b3 w3 b want : Bool} {op : Op} {ty : TypeId} {pos : String} {af : Array Edge} {v : Value}
    (hj : (ops[j]?).bind (·.dst) = some t) (ht : Nat.blt t n = true) (hb : look L t = some (gd b1 w1 (gd b2 w2 (gd b3 w3 (.bool b))))) (hx : b1 = w1 → b2 = w2 → b3 = w3 → b = want → Ex P n L w ⟨some d, op, ty, pos, af, some (j, want)⟩ v w) (hd : Nat.blt d n = true)
    (h : WL P n ops K rest ((d, gd b1 w1 (gd b2 w2 (gd b3 w3 (gd b want v)))) :: L) w) : WL P n ops K (⟨some d, op, ty, pos, af, some (j, want)⟩ :: rest) L w :=
  WL.gvals (c := [(b1, w1), (b2, w2), (b3, w3)]) hj ht hb (fun e => hx (e (b1, w1) (by simp)) (e (b2, w2) (by simp)) (e (b3, w3) (by simp)) (e (b, want) (by simp))) hd h
theorem Ev.gd2 {x : Operand} {v : Value} {b1 w1 b2 w2 : Bool} (h1 : b1 = w1) (h2 : b2 = w2) (h : ev L x = some (Gk.gd b1 w1 (Gk.gd b2 w2 v))) : Ev n L x v := by
  subst h1; subst h2
  refine Ev.of (h.trans ?_)
  simp [Gk.gd]
theorem Ev.gd3 {x : Operand} {v : Value} {b1 w1 b2 w2 b3 w3 : Bool} (h1 : b1 = w1) (h2 : b2 = w2) (h3 : b3 = w3) (h : ev L x = some (Gk.gd b1 w1 (Gk.gd b2 w2 (Gk.gd b3 w3 v)))) : Ev n L x v := by
  subst h1; subst h2; subst h3
  refine Ev.of (h.trans ?_)
  simp [Gk.gd]

/-- A guarded operation: the ways part. -/
theorem WL.gpart {d j t : Nat} {b want : Bool} {op : Op} {ty : TypeId} {pos : String} {af : Array Edge}
    (hj : (ops[j]?).bind (·.dst) = some t) (hb : look L t = some (.bool b)) (hd : Nat.blt d n = true)
    (h1 : b = want → WL P n ops K (⟨some d, op, ty, pos, af, none⟩ :: rest) L w) (h2 : b = !want → WL P n ops K rest ((d, undef) :: L) w) :
    WL P n ops K (⟨some d, op, ty, pos, af, some (j, want)⟩ :: rest) L w := by
  intro a ha
  have hy := yielded_of ha hj hb
  by_cases e : b = want
  · have h := h1 e a ha
    unfold wpList at h ⊢
    rw [if_pos (by simp [Region.wanted, hy, e])]
    rw [if_pos (by simp [Region.wanted])] at h
    exact h
  · have h := h2 (by cases b <;> cases want <;> simp_all) _ (ha.put hd undef)
    unfold wpList
    rw [if_neg (by simp [Region.wanted, hy, e])]
    exact h

section pure
variable {d : Option Nat} {ty : TypeId} {pos : String} {af : Array Edge} {g : Option (Nat × Bool)}

theorem Ex.move {x : Operand} {v : Value} (hx : Ev n L x v) : Ex P n L w ⟨d, .move x, ty, pos, af, g⟩ v w := fun a ha => by simp [execOp, hx a ha]
theorem Ex.assign {x : Operand} {v : Value} (hx : Ev n L x v) : Ex P n L w ⟨d, .assign x, ty, pos, af, g⟩ v w := fun a ha => by simp [execOp, hx a ha]
theorem Ex.pick {c x y : Operand} {b : Bool} {u v : Value} (hc : Ev n L c (.bool b)) (hx : Ev n L x u) (hy : Ev n L y v) : Ex P n L w ⟨d, .pick c x y, ty, pos, af, g⟩ (bif b then u else v) w :=
  fun a ha => by cases b <;> simp [execOp, hx a ha, hy a ha, hc a ha, asBool]
/-- '||': the second one is asked where the first one is false. -/
theorem Ex.por {c x y : Operand} {b r : Bool} (hc : Ev n L c (.bool b)) (hx : Ev n L x (.bool true)) (hy : Ev n L y (Gk.gd b false (.bool r))) : Ex P n L w ⟨d, .pick c x y, ty, pos, af, g⟩ (.bool (b || r)) w :=
  fun a ha => by cases b <;> simp [execOp, hx a ha, hy a ha, hc a ha, asBool, Gk.gd]
/-- '&&'. -/
theorem Ex.pand {c x y : Operand} {b r : Bool} (hc : Ev n L c (.bool b)) (hx : Ev n L x (Gk.gd b true (.bool r))) (hy : Ev n L y (.bool false)) : Ex P n L w ⟨d, .pick c x y, ty, pos, af, g⟩ (.bool (b && r)) w :=
  fun a ha => by cases b <;> simp [execOp, hx a ha, hy a ha, hc a ha, asBool, Gk.gd]
theorem Ex.extract {x : Operand} {i : Nat} {vs : Array Value} {v : Value} (hx : Ev n L x (.tuple vs)) (hi : vs[i]? = some v) : Ex P n L w ⟨d, .extract x i, ty, pos, af, g⟩ v w :=
  fun a ha => by simp [execOp, hx a ha, Instr.extract, hi]
theorem Ex.not {x : Operand} {b : Bool} {t : TypeId} (hx : Ev n L x (.bool b)) : Ex P n L w ⟨d, .unOp .not t x, ty, pos, af, g⟩ (.bool (!b)) w :=
  fun a ha => by simp [execOp, hx a ha, Op.unary]
theorem Ex.nilCheck {x : Operand} {p : Addr} (hx : Ev n L x (.pointer (some p))) : Ex P n L w ⟨d, .nilCheck x, ty, pos, af, g⟩ (.pointer (some p)) w :=
  fun a ha => by simp [execOp, hx a ha]

variable {t t' : TypeId} {x y : Operand}
theorem ex_bin {op : BinOp} {u v r : Value} (hx : Ev n L x u) (hy : Ev n L y v) (he : ∀ p q, (eqGuard op t p q u v).run P w = .ok () w) (hr : (binOp op t u v).run P w = .ok r w) : Ex P n L w ⟨d, .binOp op t x y t', ty, pos, af, g⟩ r w :=
  fun a ha => by simp [execOp, hx a ha, hy a ha, he, hr]
theorem eqGuard_int (op : BinOp) (k : IntKind) (a b : Int) (p q : Operand) : (eqGuard op t p q (.int k a) (.int k b)).run P w = .ok () w := by
  unfold eqGuard; split <;> simp
theorem eqGuard_str (op : BinOp) (a b : ByteArray) (p q : Operand) : (eqGuard op t p q (.string a) (.string b)).run P w = .ok () w := by
  unfold eqGuard; split <;> simp
theorem eqGuard_bool (op : BinOp) (a b : Bool) (p q : Operand) : (eqGuard op t p q (.bool a) (.bool b)).run P w = .ok () w := by
  unfold eqGuard; split <;> simp

variable {k : IntKind} {i j : Int}
theorem Ex.lss (hx : Ev n L x (.int k i)) (hy : Ev n L y (.int k j)) : Ex P n L w ⟨d, .binOp .lss t x y t', ty, pos, af, g⟩ (.bool (decide (i < j))) w :=
  ex_bin hx hy (eqGuard_int _ _ _ _) (by simp [binOp, Op.intCmp])
theorem Ex.leq (hx : Ev n L x (.int k i)) (hy : Ev n L y (.int k j)) : Ex P n L w ⟨d, .binOp .leq t x y t', ty, pos, af, g⟩ (.bool (decide (i ≤ j))) w :=
  ex_bin hx hy (eqGuard_int _ _ _ _) (by simp [binOp, Op.intCmp])
theorem Ex.gtr (hx : Ev n L x (.int k i)) (hy : Ev n L y (.int k j)) : Ex P n L w ⟨d, .binOp .gtr t x y t', ty, pos, af, g⟩ (.bool (decide (j < i))) w :=
  ex_bin hx hy (eqGuard_int _ _ _ _) (by simp [binOp, Op.intCmp])
theorem Ex.geq (hx : Ev n L x (.int k i)) (hy : Ev n L y (.int k j)) : Ex P n L w ⟨d, .binOp .geq t x y t', ty, pos, af, g⟩ (.bool (decide (j ≤ i))) w :=
  ex_bin hx hy (eqGuard_int _ _ _ _) (by simp [binOp, Op.intCmp])
theorem Ex.eql (hx : Ev n L x (.int k i)) (hy : Ev n L y (.int k j)) : Ex P n L w ⟨d, .binOp .eql t x y t', ty, pos, af, g⟩ (.bool (i == j)) w :=
  ex_bin hx hy (eqGuard_int _ _ _ _) (by simp [binOp, Op.intCmp])
theorem Ex.neq (hx : Ev n L x (.int k i)) (hy : Ev n L y (.int k j)) : Ex P n L w ⟨d, .binOp .neq t x y t', ty, pos, af, g⟩ (.bool (i != j)) w :=
  ex_bin hx hy (eqGuard_int _ _ _ _) (by simp [binOp, Op.intCmp])
/-- Sums by their wraps. -/
theorem Ex.addw (hx : Ev n L x (.int k i)) (hy : Ev n L y (.int k j)) : Ex P n L w ⟨d, .binOp .add t x y t', ty, pos, af, g⟩ (.int k (k.wrap (i + j))) w :=
  ex_bin hx hy (eqGuard_int _ _ _ _) (by simp [binOp, Op.intArith])
theorem Ex.subw (hx : Ev n L x (.int k i)) (hy : Ev n L y (.int k j)) : Ex P n L w ⟨d, .binOp .sub t x y t', ty, pos, af, g⟩ (.int k (k.wrap (i - j))) w :=
  ex_bin hx hy (eqGuard_int _ _ _ _) (by simp [binOp, Op.intArith])
theorem Ex.mulw (hx : Ev n L x (.int k i)) (hy : Ev n L y (.int k j)) : Ex P n L w ⟨d, .binOp .mul t x y t', ty, pos, af, g⟩ (.int k (k.wrap (i * j))) w :=
  ex_bin hx hy (eqGuard_int _ _ _ _) (by simp [binOp, Op.intArith])
abbrev In64 (i : Int) : Prop := -9223372036854775808 ≤ i ∧ i ≤ 9223372036854775807
theorem wrap_in {i : Int} (h : In64 i) : IntKind.i64.wrap i = i := by
  obtain ⟨h1, h2⟩ := h
  rw [IntKind.wrap_i64]
  omega
theorem Ex.add (hx : Ev n L x (I64 i)) (hy : Ev n L y (I64 j)) (h : In64 (i + j)) : Ex P n L w ⟨d, .binOp .add t x y t', ty, pos, af, g⟩ (I64 (i + j)) w :=
  ex_bin hx hy (eqGuard_int _ _ _ _) (by simp [binOp, Op.intArith, wrap_in h])
theorem Ex.sub (hx : Ev n L x (I64 i)) (hy : Ev n L y (I64 j)) (h : In64 (i - j)) : Ex P n L w ⟨d, .binOp .sub t x y t', ty, pos, af, g⟩ (I64 (i - j)) w :=
  ex_bin hx hy (eqGuard_int _ _ _ _) (by simp [binOp, Op.intArith, wrap_in h])
theorem Ex.mul (hx : Ev n L x (I64 i)) (hy : Ev n L y (I64 j)) (h : In64 (i * j)) : Ex P n L w ⟨d, .binOp .mul t x y t', ty, pos, af, g⟩ (I64 (i * j)) w :=
  ex_bin hx hy (eqGuard_int _ _ _ _) (by simp [binOp, Op.intArith, wrap_in h])

theorem Ex.eqb {p q : Bool} (hx : Ev n L x (.bool p)) (hy : Ev n L y (.bool q)) (hT : P.underlying t = some .bool) : Ex P n L w ⟨d, .binOp .eql t x y t', ty, pos, af, g⟩ (.bool (p == q)) w :=
  ex_bin hx hy (eqGuard_bool _ _ _) (run_eql_bool w t p q hT)
theorem Ex.neb {p q : Bool} (hx : Ev n L x (.bool p)) (hy : Ev n L y (.bool q)) (hT : P.underlying t = some .bool) : Ex P n L w ⟨d, .binOp .neq t x y t', ty, pos, af, g⟩ (.bool (p != q)) w :=
  ex_bin hx hy (eqGuard_bool _ _ _) (by rw [run_neq_bool w t p q hT]; rfl)

theorem Ex.eqp {p : Option Addr} {e : TypeId} (hx : Ev n L x (.pointer p)) (hy : Ev n L y (.pointer none)) (hT : P.underlying t = some (.pointer e)) : Ex P n L w ⟨d, .binOp .eql t x y t', ty, pos, af, g⟩ (.bool p.isNone) w :=
  ex_bin hx hy (fun _ _ => by unfold eqGuard; split <;> simp) (run_eql_pointer_nil w t p (by simp [Program.pointee, hT]))
theorem Ex.nep {p : Option Addr} {e : TypeId} (hx : Ev n L x (.pointer p)) (hy : Ev n L y (.pointer none)) (hT : P.underlying t = some (.pointer e)) : Ex P n L w ⟨d, .binOp .neq t x y t', ty, pos, af, g⟩ (.bool (!p.isNone)) w :=
  ex_bin hx hy (fun _ _ => by unfold eqGuard; split <;> simp) (run_neq_pointer_nil w t p (by simp [Program.pointee, hT]))
variable {l m : List UInt8}
theorem Ex.eqs (hx : Ev n L x (S l)) (hy : Ev n L y (S m)) : Ex P n L w ⟨d, .binOp .eql t x y t', ty, pos, af, g⟩ (.bool (l == m)) w :=
  ex_bin hx hy (eqGuard_str _ _ _) (by simp [binOp, Op.stringOp])
theorem Ex.nes (hx : Ev n L x (S l)) (hy : Ev n L y (S m)) : Ex P n L w ⟨d, .binOp .neq t x y t', ty, pos, af, g⟩ (.bool (!(l == m))) w :=
  ex_bin hx hy (eqGuard_str _ _ _) (by simp [binOp, Op.stringOp])
theorem Ex.cat (hx : Ev n L x (S l)) (hy : Ev n L y (S m)) (h : ((l.length + m.length : Nat) : Int) ≤ 9223372036854775807) : Ex P n L w ⟨d, .binOp .add t x y t', ty, pos, af, g⟩ (S (l ++ m)) w :=
  ex_bin hx hy (eqGuard_str _ _ _) (by
    have h1 : ((ByteArray.size ⟨l.toArray⟩ + ByteArray.size ⟨m.toArray⟩ : Nat) : Int) = ((l.length + m.length : Nat) : Int) := rfl
    have h2 : ¬ (((l.length + m.length : Nat) : Int) > IntKind.i64.max) := by show ¬ ((l.length + m.length : Nat) : Int) > 9223372036854775807; omega
    have h3 : (⟨l.toArray⟩ ++ ⟨m.toArray⟩ : ByteArray) = ⟨(l ++ m).toArray⟩ := by
      apply ByteArray.ext
      simp
    simp only [binOp, Op.stringOp, h1, if_neg h2, h3, Sem.run_pure])
theorem elem_of {t e : TypeId} (hT : P.underlying t = some (.slice e)) : P.elem t = e := by simp [Program.elem, hT]
theorem Ex.len (hx : Ev n L x (S l)) (hT : P.underlying t = some .string) : Ex P n L w ⟨d, .call ⟨.builtin .len, #[x], #[t]⟩, ty, pos, af, g⟩ (I64 l.length) w :=
  fun a ha => by
    have h := run_len_string (P := P) w t ty ⟨l.toArray⟩ hT
    simp [execOp, resolve, invoke, builtin, hx a ha, h, goInt, ByteArray.size]
theorem Ex.lenSlice {p : Option Addr} {c k : Nat} {e : TypeId} (hx : Ev n L x (.slice p k c)) (hT : P.underlying t = some (.slice e)) : Ex P n L w ⟨d, .call ⟨.builtin .len, #[x], #[t]⟩, ty, pos, af, g⟩ (I64 k) w :=
  fun a ha => by
    have h := run_len_slice (P := P) w t ty p k c (by rw [elem_of hT]; exact hT)
    simp [execOp, resolve, invoke, builtin, hx a ha, h, goInt]
/-- A byte of a text; the bytes of a part of it. -/
def at_ (l : List UInt8) (i : Int) : UInt8 := l.getD i.toNat 0
theorem Ex.index_ {c : UInt8} (hx : Ev n L x (S l)) (hy : Ev n L y (I64 i)) (hi : 0 ≤ i) (hc : l[i.toNat]? = some c) (hT : P.underlying t = some .string) : Ex P n L w ⟨d, .index t x y, ty, pos, af, g⟩ (U8 c.toNat) w :=
  fun a ha => by
    have h1 : i.toNat < l.length := (List.getElem?_eq_some_iff.1 hc).1
    have h2 := (List.getElem?_eq_some_iff.1 hc).2
    have h3 : 0 ≤ i ∧ i < ((ByteArray.size ⟨l.toArray⟩ : Nat) : Int) := ⟨hi, by show i < (l.length : Int); omega⟩
    have h := run_index_string (P := P) w t ⟨l.toArray⟩ .i64 i hT
    rw [dif_pos h3] at h
    have h4 : (⟨l.toArray⟩ : ByteArray)[i.toNat]'(by show i.toNat < l.length; omega) = c := h2
    rw [h4] at h
    simp [execOp, hx a ha, hy a ha, h]
theorem Ex.index (hx : Ev n L x (S l)) (hy : Ev n L y (I64 i)) (hi : 0 ≤ i) (hl : i < (l.length : Int)) (hT : P.underlying t = some .string) : Ex P n L w ⟨d, .index t x y, ty, pos, af, g⟩ (U8 (at_ l i).toNat) w := by
  have h1 : i.toNat < l.length := by omega
  refine Ex.index_ hx hy hi ?_ hT
  rw [at_, List.getD_eq_getElem?_getD, List.getElem?_eq_getElem h1]
  rfl
theorem sub_str (l : List UInt8) (a b : Nat) : (Value.string ((⟨l.toArray⟩ : ByteArray).extract a b)) = S ((l.drop a).take (b - a)) := by
  rw [S, Lib.extract_eq]
theorem Ex.sub3 {z : Operand} (hx : Ev n L x (S l)) (hy : Ev n L y (I64 i)) (hz : Ev n L z (I64 j)) (h0 : 0 ≤ i) (h1 : i ≤ j) (h2 : j ≤ (l.length : Int)) (hT : P.underlying t = some .string) :
    Ex P n L w ⟨d, .slice t x (some y) (some z) none, ty, pos, af, g⟩ (S ((l.drop i.toNat).take (j.toNat - i.toNat))) w := fun a ha => by
  have h := run_slice_string (P := P) w t ⟨l.toArray⟩ .i64 .i64 i j hT h0 h1 h2
  rw [sub_str] at h
  simp [execOp, hx a ha, hy a ha, hz a ha, run_sliceAt_string w t _ _ _ _ hT, h]
theorem Ex.subFrom (hx : Ev n L x (S l)) (hy : Ev n L y (I64 i)) (h0 : 0 ≤ i) (h1 : i ≤ (l.length : Int)) (hT : P.underlying t = some .string) :
    Ex P n L w ⟨d, .slice t x (some y) none none, ty, pos, af, g⟩ (S (l.drop i.toNat)) w := fun a ha => by
  have h := run_slice_string_l (P := P) w t ⟨l.toArray⟩ hT .i64 i h0 h1
  rw [sub_str] at h
  have e : (l.drop i.toNat).take ((⟨l.toArray⟩ : ByteArray).size - i.toNat) = l.drop i.toNat := List.take_of_length_le (by simp [ByteArray.size])
  rw [e] at h
  simp [execOp, hx a ha, hy a ha, run_sliceAt_string w t _ _ _ _ hT, h]
theorem Ex.subTo {z : Operand} (hx : Ev n L x (S l)) (hz : Ev n L z (I64 j)) (h1 : 0 ≤ j) (h2 : j ≤ (l.length : Int)) (hT : P.underlying t = some .string) :
    Ex P n L w ⟨d, .slice t x none (some z) none, ty, pos, af, g⟩ (S (l.take j.toNat)) w := fun a ha => by
  have h := run_slice_string_h (P := P) w t ⟨l.toArray⟩ hT .i64 j h1 h2
  rw [sub_str] at h
  simp only [List.drop_zero, Nat.sub_zero] at h
  simp [execOp, hx a ha, hz a ha, run_sliceAt_string w t _ _ _ _ hT, h]
theorem Ex.min2 {z : Operand} {ts : Array TypeId} (hx : Ev n L x (.int k i)) (hz : Ev n L z (.int k j)) : Ex P n L w ⟨d, .call ⟨.builtin .min, #[x, z], ts⟩, ty, pos, af, g⟩ (.int k (min i j)) w := fun a ha => by
  have e : (if j < i then j else i) = min i j := by split <;> omega
  simp [execOp, resolve, invoke, builtin, hx a ha, hz a ha, Builtin.min_, Builtin.min2, e]
theorem Ex.max2 {z : Operand} {ts : Array TypeId} (hx : Ev n L x (.int k i)) (hz : Ev n L z (.int k j)) : Ex P n L w ⟨d, .call ⟨.builtin .max, #[x, z], ts⟩, ty, pos, af, g⟩ (.int k (max i j)) w := fun a ha => by
  have e : (if i < j then j else i) = max i j := by split <;> omega
  simp [execOp, resolve, invoke, builtin, hx a ha, hz a ha, Builtin.max_, Builtin.max2, e]
end pure
end
end Gk
