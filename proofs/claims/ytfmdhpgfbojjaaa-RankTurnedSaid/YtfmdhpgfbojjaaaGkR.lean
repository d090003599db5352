/- Numbers with a point, words of 64 bits, closures. -/
import Derived.Test.YtfmdhpgfbojjaaaGkS
import Derived.Test.YtfmdhpgfbojjaaaFlu
import Derived.Laws.FloatArith
namespace Flt
def lt (a b : Nat) : Bool := !nan a && !nan b && decide (sv a < sv b)
def le (a b : Nat) : Bool := !nan a && !nan b && decide (sv a ≤ sv b)
def feq (a b : Nat) : Bool := !nan a && !nan b && decide (sv a = sv b)
def nf (a : Nat) : Option Nat := if nan a then none else some a
end Flt
namespace Gk
set_option linter.unusedVariables false
set_option linter.unusedSimpArgs false
open Go
abbrev F64 (n : Nat) : Value := .float .f64 n
abbrev U64 (n : Int) : Value := .int .u64 n

section
variable {P : Program} {n : Nat} {K : Kont} {L : Env} {w w' : World} {ops : Array Oper} {rest : List Oper}
variable {B : World} {I : Im} {As : List Assn} {k : Nat} {ty : TypeId} {pos : String} {af : Array Edge} {g : Option (Nat × Bool)} {t t' : TypeId} {x y : Operand}
theorem eqGuard_float (op : BinOp) (k : FloatKind) (a b : Nat) (p q : Operand) : (eqGuard op t p q (.float k a) (.float k b)).run P w = .ok () w := by
  unfold eqGuard; split <;> simp
section
variable {d : Option Nat} {a b : Nat}
theorem Ex.flss (hx : Ev n L x (F64 a)) (hy : Ev n L y (F64 b)) : Ex P n L w ⟨d, .binOp .lss t x y t', ty, pos, af, g⟩ (.bool (Flt.lt a b)) w :=
  ex_bin hx hy (eqGuard_float _ _ _ _) (by rw [binOp_float_cmp_lss]; show Result.ok _ _ = _; exact congrArg (fun z => Result.ok (Value.bool z) w) (Flt.lt_iff a b))
theorem Ex.fgtr (hx : Ev n L x (F64 a)) (hy : Ev n L y (F64 b)) : Ex P n L w ⟨d, .binOp .gtr t x y t', ty, pos, af, g⟩ (.bool (Flt.lt b a)) w :=
  ex_bin hx hy (eqGuard_float _ _ _ _) (by
    rw [binOp_float_cmp_gtr]; show Result.ok _ _ = _
    have e : (Ieee.double.order a b == some .gt) = Flt.lt b a := by rw [Flt.gt_iff]; unfold Flt.lt; rw [Bool.and_comm (!Flt.nan a)]
    exact congrArg (fun z => Result.ok (Value.bool z) w) e)
theorem Ex.fleq (hx : Ev n L x (F64 a)) (hy : Ev n L y (F64 b)) : Ex P n L w ⟨d, .binOp .leq t x y t', ty, pos, af, g⟩ (.bool (Flt.le a b)) w :=
  ex_bin hx hy (eqGuard_float _ _ _ _) (by rw [binOp_float_cmp_leq]; show Result.ok _ _ = _; exact congrArg (fun z => Result.ok (Value.bool z) w) (Flt.le_iff a b))
theorem Ex.fgeq (hx : Ev n L x (F64 a)) (hy : Ev n L y (F64 b)) : Ex P n L w ⟨d, .binOp .geq t x y t', ty, pos, af, g⟩ (.bool (Flt.le b a)) w :=
  ex_bin hx hy (eqGuard_float _ _ _ _) (by
    rw [binOp_float_cmp_geq]; show Result.ok _ _ = _
    have e : (Ieee.double.order a b == some .gt || Ieee.double.order a b == some .eq) = Flt.le b a := by rw [Flt.ge_iff]; unfold Flt.le; rw [Bool.and_comm (!Flt.nan a)]
    exact congrArg (fun z => Result.ok (Value.bool z) w) e)
theorem Ex.feql (hx : Ev n L x (F64 a)) (hy : Ev n L y (F64 b)) : Ex P n L w ⟨d, .binOp .eql t x y t', ty, pos, af, g⟩ (.bool (Flt.feq a b)) w :=
  ex_bin hx hy (eqGuard_float _ _ _ _) (by rw [binOp_float_cmp_eql]; show Result.ok _ _ = _; exact congrArg (fun z => Result.ok (Value.bool z) w) (Flt.eq_iff a b))
theorem Ex.fneq (hx : Ev n L x (F64 a)) (hy : Ev n L y (F64 b)) : Ex P n L w ⟨d, .binOp .neq t x y t', ty, pos, af, g⟩ (.bool (!Flt.feq a b)) w :=
  ex_bin hx hy (eqGuard_float _ _ _ _) (by
    rw [binOp_float_cmp_neq]; show Result.ok _ _ = _
    have e : (Ieee.double.order a b != some .eq) = !Flt.feq a b := by rw [bne, Flt.eq_iff]; rfl
    exact congrArg (fun z => Result.ok (Value.bool z) w) e)
theorem Ex.toF {src dst : TypeId} {q : IntKind} {i : Int} (hx : Ev n L x (.int q i)) (hs : (P.underlying src).isSome = true) (hd : P.underlying dst = some (.float .f64)) : Ex P n L w ⟨d, .convert src dst x, ty, pos, af, g⟩ (F64 (Flt.ofI i)) w := fun e ha => by
  have h := run_convert_int_float (P := P) w src dst q .f64 i hs hd
  simp only [execOp, hx e ha, Sem.run_bind, h, Result.andThen_ok, Sem.run_pure]
  rfl
theorem Ex.ofF {src dst : TypeId} {i : Int} (hx : Ev n L x (F64 a)) (hs : (P.underlying src).isSome = true) (hd : P.underlying dst = some (.int .i64)) (hi : (Ieee.double.read a).toInt .zero = some i) (h0 : 0 ≤ i) (h1 : i ≤ 9223372036854775807) : Ex P n L w ⟨d, .convert src dst x, ty, pos, af, g⟩ (I64 i) w := fun e ha => by
  have h := run_convert_float_int (P := P) w src dst .f64 .i64 a i hs hd (by
    unfold floatToIntVal
    have : (FloatKind.f64.decode a).toInt .zero = some i := hi
    rw [this]
    have hb : IntKind.i64.min ≤ i ∧ i ≤ IntKind.i64.max := ⟨by show (-9223372036854775808 : Int) ≤ i; omega, by show i ≤ 9223372036854775807; omega⟩
    simp only [hb, and_self, if_true])
  simp only [execOp, hx e ha, Sem.run_bind, h, Result.andThen_ok, Sem.run_pure]
theorem Ex.fneg {t : TypeId} (hx : Ev n L x (F64 a)) : Ex P n L w ⟨d, .unOp .neg t x, ty, pos, af, g⟩ (F64 (a ^^^ 9223372036854775808)) w :=
  fun e ha => by simp [execOp, hx e ha, Op.unary, Op.negFloat, FloatKind.format, Ieee.double]
end
theorem WL.fmul {d a b : Nat} (hS : Sat B w I As) (hx : Ev n L x (F64 a)) (hy : Ev n L y (F64 b)) (hd : Nat.blt d n = true)
    (h : ∀ r w', r < 18446744073709551616 → Flt.nf r = Ieee.double.mul a b → Sat B w' I As → WL P n ops K rest ((d, F64 r) :: L) w') : WL P n ops K (⟨some d, .binOp .mul t x y t', ty, pos, af, none⟩ :: rest) L w := by
  cases hm : Ieee.double.mul a b with
  | some r =>
    have hn := Flt.mul_nan hm
    have hr : r < 18446744073709551616 := by have := Ieee.Format.mul_lt _ hm; exact this
    refine WL.val (v := F64 r) (w' := w) ?_ hd (h r w hr (by unfold Flt.nf; rw [hn, hm]; rfl) hS)
    exact ex_bin hx hy (eqGuard_float _ _ _ _) (run_float_arith (P := P) w .mul t .f64 a b r hm)
  | none =>
    obtain ⟨r, hr, hn, hrun⟩ : ∃ r, r < 18446744073709551616 ∧ Flt.nan r = true ∧ (binOp .mul t (F64 a) (F64 b)).run P w = .ok (F64 r) w.drew := by
      generalize hT : w.tape w.drawn (Question.nanBits .f64 a b) = T
      refine ⟨(T % 2) * 9223372036854775808 + 9218868437227405312 + 1 + (T / 2) % 4503599627370495, by omega, ?_, ?_⟩
      · unfold Flt.nan Flt.rg
        simp only [decide_eq_true_eq]
        have h1 := Nat.mod_lt (T / 2) (show 0 < 4503599627370495 by decide)
        have h2 := Nat.mod_lt T (show 0 < 2 by decide)
        generalize (T / 2) % 4503599627370495 = q at *
        generalize T % 2 = s at *
        rcases (show s = 0 ∨ s = 1 by omega) with rfl | rfl <;> omega
      · have hm' : FloatKind.f64.format.mul a b = none := hm
        simp [binOp, Op.floatArith, hm', Question.forced, Question.cut, hT]
    refine WL.val (v := F64 r) (w' := w.drew) ?_ hd (h r _ hr (by unfold Flt.nf; rw [hn, hm]; rfl) hS.drew)
    exact fun e ha => by simp [execOp, hx e ha, hy e ha, eqGuard_float, hrun]

section
variable {d : Option Nat} {i j : Int} {q : IntKind}
theorem u64_toNat {a : Nat} (h : a < 18446744073709551616) : (BitVec.ofInt IntKind.u64.bits (a : Int)).toNat = a := by
  rw [BitVec.toNat_ofInt]
  show ((a : Int) % ((2 ^ 64 : Nat) : Int)).toNat = a
  omega
theorem u64_wrap {a : Nat} (h : a < 18446744073709551616) : IntKind.u64.wrap (a : Int) = (a : Int) := by rw [IntKind.wrap_u64]; omega
theorem Ex.and64 {a b : Nat} (ha : a < 18446744073709551616) (hb : b < 18446744073709551616) (hx : Ev n L x (U64 a)) (hy : Ev n L y (U64 b)) : Ex P n L w ⟨d, .binOp .and t x y t', ty, pos, af, g⟩ (U64 ((a &&& b : Nat) : Int)) w :=
  ex_bin hx hy (eqGuard_int _ _ _ _) (by
    have h1 : a &&& b < 18446744073709551616 := Nat.lt_of_le_of_lt Nat.and_le_left ha
    have e : (BitVec.ofInt IntKind.u64.bits (a : Int) &&& BitVec.ofInt IntKind.u64.bits (b : Int)).toNat = a &&& b := by rw [BitVec.toNat_and, u64_toNat ha, u64_toNat hb]
    show (Op.intBits .and .u64 a b).run P w = _
    unfold Op.intBits
    simp only [e, u64_wrap h1, Sem.run_pure])
theorem Ex.or64 {a b : Nat} (ha : a < 18446744073709551616) (hb : b < 18446744073709551616) (hx : Ev n L x (U64 a)) (hy : Ev n L y (U64 b)) : Ex P n L w ⟨d, .binOp .or t x y t', ty, pos, af, g⟩ (U64 ((a ||| b : Nat) : Int)) w :=
  ex_bin hx hy (eqGuard_int _ _ _ _) (by
    have h1 : a ||| b < 18446744073709551616 := Nat.or_lt_two_pow (n := 64) ha hb
    have e : (BitVec.ofInt IntKind.u64.bits (a : Int) ||| BitVec.ofInt IntKind.u64.bits (b : Int)).toNat = a ||| b := by rw [BitVec.toNat_or, u64_toNat ha, u64_toNat hb]
    show (Op.intBits .or .u64 a b).run P w = _
    unfold Op.intBits
    simp only [e, u64_wrap h1, Sem.run_pure])
theorem Ex.xor64 {a b : Nat} (ha : a < 18446744073709551616) (hb : b < 18446744073709551616) (hx : Ev n L x (U64 a)) (hy : Ev n L y (U64 b)) : Ex P n L w ⟨d, .binOp .xor t x y t', ty, pos, af, g⟩ (U64 ((a ^^^ b : Nat) : Int)) w :=
  ex_bin hx hy (eqGuard_int _ _ _ _) (by
    have h1 : a ^^^ b < 18446744073709551616 := Nat.xor_lt_two_pow (n := 64) ha hb
    have e : (BitVec.ofInt IntKind.u64.bits (a : Int) ^^^ BitVec.ofInt IntKind.u64.bits (b : Int)).toNat = a ^^^ b := by rw [BitVec.toNat_xor, u64_toNat ha, u64_toNat hb]
    show (Op.intBits .xor .u64 a b).run P w = _
    unfold Op.intBits
    simp only [e, u64_wrap h1, Sem.run_pure])
theorem Ex.not64 {t : TypeId} {a : Nat} (ha : a < 18446744073709551616) (hx : Ev n L x (U64 a)) : Ex P n L w ⟨d, .unOp .xor t x, ty, pos, af, g⟩ (U64 ((18446744073709551615 - a : Nat) : Int)) w := fun e he => by
  have h1 : (BitVec.ofInt IntKind.u64.bits IntKind.u64.max ^^^ BitVec.ofInt IntKind.u64.bits (a : Int)).toNat = 18446744073709551615 - a := by
    have e1 : BitVec.ofInt 64 18446744073709551615 = BitVec.allOnes 64 := by decide
    have e2 : (BitVec.ofInt 64 (a : Int)).toNat = a := u64_toNat ha
    change (BitVec.ofInt 64 18446744073709551615 ^^^ BitVec.ofInt 64 (a : Int)).toNat = _
    rw [e1, BitVec.allOnes_xor, BitVec.toNat_not, e2]
  have h2 : (Op.unary .xor (U64 a)).run P w = .ok (U64 ((18446744073709551615 - a : Nat) : Int)) w := by
    show (Op.intBits .xor .u64 (if IntKind.u64.signed then -1 else IntKind.u64.max) a).run P w = _
    rw [if_neg (by decide)]
    unfold Op.intBits
    simp only [h1, u64_wrap (show 18446744073709551615 - a < 18446744073709551616 by omega), Sem.run_pure]
  simp only [execOp, hx e he, Sem.run_bind, h2, Result.andThen_ok, Sem.run_pure]
theorem Ex.addx {q : IntKind} (hx : Ev n L x (.int q i)) (hy : Ev n L y (.int q j)) (h : q.wrap (i + j) = i + j) : Ex P n L w ⟨d, .binOp .add t x y t', ty, pos, af, g⟩ (.int q (i + j)) w :=
  ex_bin hx hy (eqGuard_int _ _ _ _) (by simp [binOp, Op.intArith, h])
theorem Ex.subx {q : IntKind} (hx : Ev n L x (.int q i)) (hy : Ev n L y (.int q j)) (h : q.wrap (i - j) = i - j) : Ex P n L w ⟨d, .binOp .sub t x y t', ty, pos, af, g⟩ (.int q (i - j)) w :=
  ex_bin hx hy (eqGuard_int _ _ _ _) (by simp [binOp, Op.intArith, h])
theorem Ex.mulx {q : IntKind} (hx : Ev n L x (.int q i)) (hy : Ev n L y (.int q j)) (h : q.wrap (i * j) = i * j) : Ex P n L w ⟨d, .binOp .mul t x y t', ty, pos, af, g⟩ (.int q (i * j)) w :=
  ex_bin hx hy (eqGuard_int _ _ _ _) (by simp [binOp, Op.intArith, h])
theorem Ex.andHi {a : Nat} (ha : a < 18446744073709551616) (hx : Ev n L x (U64 a)) (hy : Ev n L y (U64 9223372036854775808)) : Ex P n L w ⟨d, .binOp .and t x y t', ty, pos, af, g⟩ (U64 ((a &&& 9223372036854775808 : Nat) : Int)) w :=
  Ex.and64 ha (by decide) hx hy
theorem Ex.orHi {a : Nat} (ha : a < 18446744073709551616) (hx : Ev n L x (U64 a)) (hy : Ev n L y (U64 9223372036854775808)) : Ex P n L w ⟨d, .binOp .or t x y t', ty, pos, af, g⟩ (U64 ((a ||| 9223372036854775808 : Nat) : Int)) w :=
  Ex.or64 ha (by decide) hx hy
theorem Ex.xorHi (h0 : 0 ≤ i) (h1 : i < 18446744073709551616) (hx : Ev n L x (U64 i)) (hy : Ev n L y (U64 9223372036854775808)) : Ex P n L w ⟨d, .binOp .xor t x y t', ty, pos, af, g⟩ (U64 ((i.toNat ^^^ 9223372036854775808 : Nat) : Int)) w :=
  Ex.xor64 (a := i.toNat) (b := 9223372036854775808) (by omega) (by decide) (by rw [Int.toNat_of_nonneg h0]; exact hx) hy
theorem Ex.quo {q : IntKind} (hx : Ev n L x (.int q i)) (hy : Ev n L y (.int q j)) (h0 : 0 ≤ i) (h1 : 0 < j) (hw : q.wrap (i / j) = i / j) : Ex P n L w ⟨d, .binOp .quo t x y t', ty, pos, af, g⟩ (.int q (i / j)) w :=
  ex_bin hx hy (eqGuard_int _ _ _ _) (by
    have h2 : ¬ j = 0 := by omega
    have e : i.tdiv j = i / j := Int.tdiv_eq_ediv_of_nonneg h0
    simp [binOp, Op.intDiv, h2, e, hw])
theorem Ex.rem {q : IntKind} (hx : Ev n L x (.int q i)) (hy : Ev n L y (.int q j)) (h0 : 0 ≤ i) (h1 : 0 < j) : Ex P n L w ⟨d, .binOp .rem t x y t', ty, pos, af, g⟩ (.int q (i % j)) w :=
  ex_bin hx hy (eqGuard_int _ _ _ _) (by
    have h2 : ¬ j = 0 := by omega
    have e : i.tmod j = i % j := Int.tmod_eq_emod_of_nonneg h0
    simp [binOp, Op.intDiv, h2, e])
theorem Ex.cvi {src dst : TypeId} {q r : IntKind} (hx : Ev n L x (.int q i)) (hs : P.underlying src = some (.int q)) (hd : P.underlying dst = some (.int r)) (hw : r.wrap i = i) : Ex P n L w ⟨d, .convert src dst x, ty, pos, af, g⟩ (.int r i) w := fun e he => by
  simp [execOp, hx e he, convert, run_underlying hs, run_underlying hd, Conv.intToInt, hw]
theorem Ex.shr1 {q r : IntKind} (hx : Ev n L x (.int q i)) (hy : Ev n L y (.int r 1)) (hb : 1 ≤ q.bits) : Ex P n L w ⟨d, .binOp .shr t x y t', ty, pos, af, g⟩ (.int q (i / 2)) w := fun e he => by
  have h1 : min 1 q.bits = 1 := by omega
  have h2 : i.fdiv 2 = i / 2 := Int.fdiv_eq_ediv_of_nonneg _ (by decide)
  simp [execOp, hx e he, hy e he, binOp, Op.shift, h1, h2, eqGuard]
theorem Ex.makeFunc {f : Fn} {captured : List Operand} {vs : List Value} (hx : ∀ a, Holds n L a → captured.map a.eval = vs) : Ex P n L w ⟨d, .makeFunc f #[] captured.toArray, ty, pos, af, g⟩ (.func f #[] vs.toArray) w := fun e he => by
  have h := hx e he
  simp [execOp, Instr.makeFunc, ← h]
end

theorem exec_closure {a : Act} (he : Holds n L a) {d : Option Nat} {f : FuncId} {fn : Func} {c : Operand} {cap : List Value} {xs : List Operand} {ts : Array TypeId} {vs : List Value} (hf : P.funcs[f]? = some fn) (hc : callable fn = true) (hv : Ev n L c (.func (.func f) #[] cap.toArray)) (hx : xs.map a.eval = vs) :
    (execOp a.eval (⟨d, .call ⟨.value c, xs.toArray, ts⟩, ty, pos, af, g⟩ : Oper)).run P w = .ok (.enter f (vs ++ cap).toArray) w := by
  unfold callable at hc
  simp only [Bool.and_eq_true] at hc
  obtain ⟨h1, h2⟩ := hc
  have h1' : ¬ fn.name = "runtime.NumGoroutine" := by simpa using h1
  have h2' : ¬ fn.body = none := by intro e; rw [e] at h2; cases h2
  simp [execOp, resolve, hv a he, Deferred.ofValue, invoke, callFunc, program, Sem.run, hf, h1', h2', ← hx]
/-- A quiet call of a closure, and one under guards. -/
theorem WQ.vcall {C : World → Prop} {kk : Env → Prop} {d : Nat} {f : FuncId} {fn : Func} {c : Operand} {cap : List Value} {xs : List Operand} {ts : Array TypeId} {vs : List Value} {v : Value} (hf : P.funcs[f]? = some fn) (hc : callable fn = true) (hv : Ev n L c (.func (.func f) #[] cap.toArray)) (hx : ∀ a, Holds n L a → xs.map a.eval = vs) (hd : Nat.blt d n = true)
    (hcall : ∀ w, C w → Calls P f (vs ++ cap).toArray w (Ret fun u w' => u = v ∧ C w')) (h : WQ P n ops C kk rest ((d, v) :: L)) : WQ P n ops C kk (⟨some d, .call ⟨.value c, xs.toArray, ts⟩, ty, pos, af, none⟩ :: rest) L := by
  intro a ha
  refine wpQuiet_step fun K' hK => ?_
  rw [if_pos (wanted_none rfl _)]
  refine ⟨v, fun w hw => ?_, hK _ (h _ (ha.put hd v))⟩
  unfold Oper.quietAt
  rw [exec_closure ha hf hc hv (hx a ha)]
  refine ⟨rfl, (hcall w hw).mono ?_⟩
  rintro e w'' ⟨u, rfl, rfl, hC⟩
  exact ⟨rfl, hC⟩
theorem WQ.gvcall {C : World → Prop} {kk : Env → Prop} {d j s : Nat} {b want : Bool} {f : FuncId} {fn : Func} {c : Operand} {cap : List Value} {xs : List Operand} {ts : Array TypeId} {vs : List Value} {v : Value} (hj : (ops[j]?).bind (·.dst) = some s) (ht : Nat.blt s n = true) (hb : look L s = some (.bool b)) (hf : P.funcs[f]? = some fn) (hc : callable fn = true)
    (hv : b = want → Ev n L c (.func (.func f) #[] cap.toArray)) (hx : b = want → ∀ a, Holds n L a → xs.map a.eval = vs) (hd : Nat.blt d n = true)
    (hcall : b = want → ∀ w, C w → Calls P f (vs ++ cap).toArray w (Ret fun u w' => u = v ∧ C w')) (h : WQ P n ops C kk rest ((d, gd b want v) :: L)) : WQ P n ops C kk (⟨some d, .call ⟨.value c, xs.toArray, ts⟩, ty, pos, af, some (j, want)⟩ :: rest) L := by
  intro a ha
  refine wpQuiet_step fun K' hK => ?_
  have hput := h _ (ha.put hd (gd b want v))
  have hy := yielded_of ha hj hb
  unfold Gk.gd at hput
  by_cases e : b = want
  · rw [if_pos (by simp [Region.wanted, hy, e])]
    subst e
    refine ⟨v, fun w hw => ?_, hK _ (by simpa using hput)⟩
    unfold Oper.quietAt
    rw [exec_closure ha hf hc (hv rfl) (hx rfl a ha)]
    refine ⟨rfl, (hcall rfl w hw).mono ?_⟩
    rintro e w'' ⟨u, rfl, rfl, hC⟩
    exact ⟨rfl, hC⟩
  · rw [if_neg (by simp [Region.wanted, hy, e])]
    have e' : (b == want) = false := by simpa using e
    rw [e'] at hput
    exact hK _ (by simpa using hput)
theorem quiet_of {f : FuncId} {args : Array Value} {w : World} {v : Value} {C : World → Prop} (h : Calls P f args w (Ret fun u w' => u = v ∧ w = w')) (hC : C w) : Calls P f args w (Ret fun u w' => u = v ∧ C w') :=
  h.mono fun e w' he => by
    obtain ⟨u, rfl, rfl, rfl⟩ := he
    exact ⟨_, rfl, rfl, hC⟩
/-- A quiet call under guards. -/
theorem WQ.gcalls {C : World → Prop} {kk : Env → Prop} {d j t : Nat} {c : List (Bool × Bool)} {b want : Bool} {f : FuncId} {fn : Func} {xs : List Operand} {ts : Array TypeId} {vs : List Value} {v : Value}
    (hj : (ops[j]?).bind (·.dst) = some t) (ht : Nat.blt t n = true) (hb : look L t = some (gds c (.bool b))) (hf : P.funcs[f]? = some fn) (hc : callable fn = true)
    (hx : (∀ p ∈ c ++ [(b, want)], p.1 = p.2) → ∀ a, Holds n L a → xs.map a.eval = vs) (hd : Nat.blt d n = true)
    (hcall : (∀ p ∈ c ++ [(b, want)], p.1 = p.2) → ∀ w, C w → Calls P f vs.toArray w (Ret fun u w' => u = v ∧ C w'))
    (h : WQ P n ops C kk rest ((d, gds (c ++ [(b, want)]) v) :: L)) : WQ P n ops C kk (⟨some d, .call ⟨.value (.func f), xs.toArray, ts⟩, ty, pos, af, some (j, want)⟩ :: rest) L := by
  intro a ha
  refine wpQuiet_step fun K' hK => ?_
  have hput := h _ (ha.put hd (gds (c ++ [(b, want)]) v))
  have hlt : t < a.tmps.size := by have := Nat.le_of_ble_eq_true ht; rw [ha.size]; omega
  have hv := ha.get t _ hb
  have hy : yielded ops a.tmps j = match gds c (.bool b) with | .bool b => some b | _ => none := by
    obtain ⟨o, ho, hdd⟩ := Option.bind_eq_some_iff.1 hj
    rw [Array.getD_eq_getD_getElem?, Array.getElem?_eq_getElem hlt] at hv
    simp only [Option.getD_some] at hv
    have h2 : a.tmps[t]? = some (gds c (.bool b)) := by rw [Array.getElem?_eq_getElem hlt, hv]
    simp only [yielded, ho, hdd, Option.bind_some, h2]
    generalize gds c (.bool b) = g
    cases g <;> rfl
  by_cases e : ∀ p ∈ c ++ [(b, want)], p.1 = p.2
  · have ec : ∀ p ∈ c, p.1 = p.2 := fun p hp => e p (by simp [hp])
    have eb : b = want := e (b, want) (by simp)
    rw [gds_all ec] at hy
    rw [if_pos (by simp [Region.wanted, hy, eb])]
    rw [gds_all e] at hput
    refine ⟨v, fun w hw => ?_, hK _ hput⟩
    have he : (execOp a.eval (⟨some d, .call ⟨.value (.func f), xs.toArray, ts⟩, ty, pos, af, some (j, want)⟩ : Oper)).run P w = .ok (.enter f vs.toArray) w := by
      unfold callable at hc
      simp only [Bool.and_eq_true] at hc
      obtain ⟨h1, h2⟩ := hc
      have h1' : ¬ fn.name = "runtime.NumGoroutine" := by simpa using h1
      have h2' : ¬ fn.body = none := by intro e; rw [e] at h2; cases h2
      have hv := hx e a ha
      simp [execOp, resolve, Act.eval, Deferred.ofValue, invoke, callFunc, program, Sem.run, hf, h1', h2', ← hv]
    unfold Oper.quietAt
    rw [he]
    refine ⟨rfl, (hcall e w hw).mono ?_⟩
    rintro e' w'' ⟨u, rfl, rfl, hC⟩
    exact ⟨rfl, hC⟩
  · have hw : Region.wanted (⟨some d, .call ⟨.value (.func f), xs.toArray, ts⟩, ty, pos, af, some (j, want)⟩ : Oper) (yielded ops a.tmps) = false := by
      by_cases ec : ∀ p ∈ c, p.1 = p.2
      · rw [gds_all ec] at hy
        have eb : ¬ b = want := fun eb => e fun p hp => by
          rcases List.mem_append.1 hp with hp | hp
          · exact ec p hp
          · simp at hp; subst hp; exact eb
        simp [Region.wanted, hy, eb]
      · rw [gds_not ec] at hy
        simp [Region.wanted, hy, undef]
    rw [if_neg (by simp [hw])]
    rw [gds_not e] at hput
    exact hK _ hput
theorem WQ.gcall {C : World → Prop} {kk : Env → Prop} {d j t : Nat} {b want : Bool} {f : FuncId} {fn : Func} {xs : List Operand} {ts : Array TypeId} {vs : List Value} {v : Value}
    (hj : (ops[j]?).bind (·.dst) = some t) (ht : Nat.blt t n = true) (hb : look L t = some (.bool b)) (hf : P.funcs[f]? = some fn) (hc : callable fn = true)
    (hx : b = want → ∀ a, Holds n L a → xs.map a.eval = vs) (hd : Nat.blt d n = true)
    (hcall : b = want → ∀ w, C w → Calls P f vs.toArray w (Ret fun u w' => u = v ∧ C w'))
    (h : WQ P n ops C kk rest ((d, gd b want v) :: L)) : WQ P n ops C kk (⟨some d, .call ⟨.value (.func f), xs.toArray, ts⟩, ty, pos, af, some (j, want)⟩ :: rest) L :=
  WQ.gcalls (c := []) hj ht hb hf hc (fun e => hx (e (b, want) (by simp))) hd (fun e => hcall (e (b, want) (by simp))) h
theorem WQ.gcall2 {C : World → Prop} {kk : Env → Prop} {d j t : Nat} {b1 w1 b want : Bool} {f : FuncId} {fn : Func} {xs : List Operand} {ts : Array TypeId} {vs : List Value} {v : Value}
    (hj : (ops[j]?).bind (·.dst) = some t) (ht : Nat.blt t n = true) (hb : look L t = some (gd b1 w1 (.bool b))) (hf : P.funcs[f]? = some fn) (hc : callable fn = true)
    (hx : b1 = w1 → b = want → ∀ a, Holds n L a → xs.map a.eval = vs) (hd : Nat.blt d n = true)
    (hcall : b1 = w1 → b = want → ∀ w, C w → Calls P f vs.toArray w (Ret fun u w' => u = v ∧ C w'))
    (h : WQ P n ops C kk rest ((d, gd b1 w1 (gd b want v)) :: L)) : WQ P n ops C kk (⟨some d, .call ⟨.value (.func f), xs.toArray, ts⟩, ty, pos, af, some (j, want)⟩ :: rest) L :=
  WQ.gcalls (c := [(b1, w1)]) hj ht hb hf hc (fun e => hx (e (b1, w1) (by simp)) (e (b, want) (by simp))) hd (fun e => hcall (e (b1, w1) (by simp)) (e (b, want) (by simp))) h
theorem WQ.gval3 {C : World → Prop} {kk : Env → Prop} {d j t : Nat} {b1 w1 b2 w2 b want : Bool} {op : Op} {v : Value}
    (hj : (ops[j]?).bind (·.dst) = some t) (ht : Nat.blt t n = true) (hb : look L t = some (gd b1 w1 (gd b2 w2 (.bool b)))) (hx : b1 = w1 → b2 = w2 → b = want → ∀ w, C w → Ex P n L w ⟨some d, op, ty, pos, af, some (j, want)⟩ v w) (hd : Nat.blt d n = true)
    (h : WQ P n ops C kk rest ((d, gd b1 w1 (gd b2 w2 (gd b want v))) :: L)) : WQ P n ops C kk (⟨some d, op, ty, pos, af, some (j, want)⟩ :: rest) L :=
  WQ.gvals (c := [(b1, w1), (b2, w2)]) hj ht hb (fun e => hx (e (b1, w1) (by simp)) (e (b2, w2) (by simp)) (e (b, want) (by simp))) hd h
/-- What is never written any more may be taken for less. -/
theorem Sat.weaken {J : Im} (hS : Sat B w J As) (hl : Le I J) : Sat B w I As := by
  obtain ⟨h, hs, hg⟩ := hS
  refine ⟨h, hs, hg.os, hg.tape, hg.output, fun b o e => hg.imm b o (hl b o e), hg.own, hg.nodup, fun b o hm => ?_⟩
  have := hg.apart b o hm
  cases hi : I b with
  | none => rfl
  | some z => rw [hl b z hi] at this; cases this
end
end Gk
