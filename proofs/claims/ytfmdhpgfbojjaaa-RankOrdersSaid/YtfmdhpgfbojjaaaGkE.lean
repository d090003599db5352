/- Rows of one kind of cells; cuts; slices appended to slices. -/
import Derived.Test.YtfmdhpgfbojjaaaGkD
namespace Gk
set_option linter.unusedVariables false
set_option linter.unusedSimpArgs false
open Go

section
variable {P : Program} {n : Nat} {K : Kont} {L : Env} {w w' : World} {ops : Array Oper} {rest : List Oper}
variable {B : World} {I : Im} {As : List Assn} {k : Nat} {d : Nat} {ty : TypeId} {pos : String} {af : Array Edge} {g : Option (Nat × Bool)} {t e : TypeId} {x y : Operand}

theorem WC.cutS {c c' : Code} {σ : Type} (E : σ → Env) (inv : σ → World → Prop) (h : WC P n c (thenK (fun L w => ∃ s, Sub (E s) L ∧ inv s w) K) L w) (h2 : ∀ s w, inv s w → WC P n c' K (E s) w) : WC P n (.seq c c') K L w :=
  WC.cut _ h fun _ _ ⟨s, hs, hi⟩ => (h2 s _ hi).sub hs

/-- A cell of a row whose cells are of one kind: owned, or never written any more. -/
theorem row_get {α : Type} (f : α → Value) (l : List α) (dflt : α) (rest : List Value) {i : Int} (hi : 0 ≤ i) (hl : i < (l.length : Int)) (s : Nat) (hs : s = 1) : (l.map f ++ rest)[0 + i.toNat * s]? = some (f (l.getD i.toNat dflt)) := by
  subst hs
  have h : i.toNat < l.length := by omega
  simp [List.getElem?_append, h, List.getD_eq_getElem?_getD]
theorem Ex.ldE {d : Option Nat} {α : Type} {b s : Nat} {E : TypeId} (f : α → Value) (l : List α) (dflt : α) (r : List Value) {i : Int} (hx : Ev n L x (ptr b (0 + i.toNat * s))) (hS : Sat B w I As) (hk : As[k]? = some (blk b (l.map f ++ r) E)) (hs : s = 1) (ht : ∀ w, (isAgg t).run P w = .ok false w) (hi : 0 ≤ i) (hl : i < (l.length : Int)) :
    Ex P n L w ⟨d, .load t x, ty, pos, af, g⟩ (f (l.getD i.toNat dflt)) w := Ex.ld hx hS hk ht (row_get f l dflt r hi hl s hs)
theorem Ex.ldEI {d : Option Nat} {α : Type} {p : Addr} {s : Nat} (f : α → Value) (l : List α) (dflt : α) {i : Int} (hx : Ev n L x (.pointer (some (p.add (i.toNat * s))))) (hS : Sat B w I As) (ha : At I p (l.map f)) (hs : s = 1) (ht : ∀ w, (isAgg t).run P w = .ok false w) (hi : 0 ≤ i) (hl : i < (l.length : Int)) :
    Ex P n L w ⟨d, .load t x, ty, pos, af, g⟩ (f (l.getD i.toNat dflt)) w :=
  Ex.ldI hx hS (ha.add _) ht (by
    subst hs
    have h : i.toNat < l.length := by omega
    simp [h, List.getD_eq_getElem?_getD])
theorem WL.stE {α : Type} {b s : Nat} {E : TypeId} (f : α → Value) (l : List α) (r : List Value) {i : Int} {u : α} (hS : Sat B w I As) (hk : As[k]? = some (blk b (l.map f ++ r) E)) (hx : Ev n L x (ptr b (0 + i.toNat * s))) (hy : Ev n L y (f u)) (h1 : (f u).oneCell' = true) (hs : s = 1) (ht : ∀ w, (Go.sizeOf t).run P w = .ok 1 w) (hi : 0 ≤ i) (hl : i < (l.length : Int))
    (h : ∀ w', Sat B w' I (As.set k (blk b ((l.set i.toNat u).map f ++ r) E)) → WL P n ops K rest L w') : WL P n ops K (⟨none, .store t x y, ty, pos, af, none⟩ :: rest) L w := by
  subst hs
  have h0 : i.toNat < l.length := by omega
  refine WL.st1 hS hk hx hy h1 ht (by simp; omega) fun w' hS' => h w' ?_
  have e : (l.map f ++ r).set (0 + i.toNat * 1) (f u) = (l.set i.toNat u).map f ++ r := by
    rw [List.set_append_left _ _ (by simp; omega), List.map_set]
    simp
  rw [e] at hS'
  exact hS'

/-- The first part of a slice of the call's own. -/
theorem Sat.vecTake {E size m c nn : Nat} {a : Option Addr} {xs : List Value} (hS : Sat B w I As) (hk : As[k]? = some (Vec E size (.slice a nn c) nn xs)) (hm : m ≤ nn) : Sat B w I (As.set k (Vec E size (sliced a 0 m c size) m (xs.take (m * size)))) :=
  hS.say hk fun h ⟨hl, hh⟩ => by
    have hml : m * size ≤ xs.length := by rw [hl]; exact Nat.mul_le_mul_right _ hm
    refine ⟨by rw [List.length_take]; omega, ?_⟩
    rcases hh with ⟨hv, rfl, rfl⟩ | ⟨b, cap, r, hv, rfl, h1, h2, h3⟩
    · injection hv with hv hv2 hv3
      subst hv; subst hv3
      have hm0 : m = 0 := by omega
      subst hm0
      exact .inl ⟨rfl, rfl, rfl⟩
    · injection hv with hv hv2 hv3
      subst hv; subst hv3
      refine .inr ⟨b, c, xs.drop (m * size) ++ r, ?_, ?_, by omega, h2, ?_⟩
      · simp only [sliced, Nat.zero_mul, Nat.sub_zero, Option.map_some]
        congr 1
        split <;> rfl
      · rw [← List.append_assoc, List.take_append_drop]
      · rw [List.length_append, List.length_take, List.length_drop]; omega

theorem Sat.vecTakeI {α : Type} {f : α → Value} {E m c : Nat} {a : Option Addr} {l : List α} (hS : Sat B w I As) (hk : As[k]? = some (Vec E 1 (.slice a l.length c) l.length (l.map f))) (hm : m ≤ l.length) :
    ∃ a2 c2, sliced a 0 m c 1 = .slice a2 (l.take m).length c2 ∧ Sat B w I (As.set k (Vec E 1 (.slice a2 (l.take m).length c2) (l.take m).length ((l.take m).map f))) := by
  have h := hS.vecTake hk hm
  have e : (l.take m).length = m := by rw [List.length_take]; omega
  rw [Nat.mul_one, ← List.map_take] at h
  rw [e]
  exact ⟨_, _, rfl, h⟩
theorem Sat.vecCap {E size c nn : Nat} {a : Option Addr} {xs : List Value} (hS : Sat B w I As) (hk : As[k]? = some (Vec E size (.slice a nn c) nn xs)) : nn ≤ c :=
  hS.pure_ hk fun _ ⟨_, hh⟩ => by
    rcases hh with ⟨_, rfl, _⟩ | ⟨b, cap, r, hv, _, h1, _⟩
    · omega
    · injection hv with _ _ hv3
      omega
/-- 'append(x, y...)', y a slice of the call's own. -/
theorem WL.appendV {E size m c nn j : Nat} {a : Option Addr} {v : Value} {xs ys : List Value} {i : TypeInfo} {z : Value} {bytes : Nat} (hS : Sat B w I As) (hx : Ev n L x v) (hy : Ev n L y (.slice a m c))
    (hk : As[k]? = some (Vec E size v nn xs)) (hj : As[j]? = some (Vec E size (.slice a m c) m ys)) (ht : P.underlying t = some (.slice E)) (hi : P.info? E = some i) (hz : i.zero = some z) (hsize : i.size = size) (hby : i.bytes = bytes) (hzs : z.cells.size = size)
    (h1 : ys.all Value.oneCell' = true) (h63 : (nn + m) * bytes ≤ 140737488355328 ∧ nn + m ≤ maxLen) (hd : Nat.blt d n = true)
    (h : ∀ v' w', Sat B w' I (As.set k (Vec E size v' (nn + m) (xs ++ ys))) → WL P n ops K rest ((d, v') :: L) w') :
    WL P n ops K (⟨some d, .call ⟨.builtin .append, #[x, y], #[t, t]⟩, ty, pos, af, none⟩ :: rest) L w := by
  have hys : ys.length = m * size := hS.pure_ hj fun _ hh => hh.1
  rcases Nat.eq_zero_or_pos m with h0 | h0
  · subst h0
    have hy0 : ys = [] := List.eq_nil_of_length_eq_zero (by simpa using hys)
    subst hy0
    obtain ⟨a0, c0, rfl, hc0, _⟩ := hS.vecSlice hk
    have hr : (Builtin.append_ #[t, t] ty #[.slice a0 nn c0, .slice a 0 c]).run P w = .ok (.slice a0 nn c0) w := by
      subst hsize
      cases a0 <;> cases a <;> simp [Builtin.append_, run_underlying ht, Go.sizeOf, typeInfo, hi, Builtin.lenOf, Builtin.firstCells, loadCells, loadCellsFrom, storeCells, hc0]
    have h2 := h (.slice a0 nn c0) w (by
      have hlk : k < As.length := (List.getElem?_eq_some_iff.1 hk).1
      have : As.set k (Vec E size (.slice a0 nn c0) (nn + 0) (xs ++ [])) = As := by
        rw [Nat.add_zero, List.append_nil]
        have := (List.getElem?_eq_some_iff.1 hk).2
        rw [← this, List.set_getElem_self]
      rw [this]; exact hS)
    exact WL.val (w' := w) (fun a' ha => by simp [execOp, resolve, invoke, builtin, hx a' ha, hy a' ha, hr]) hd h2
  · obtain ⟨b, cap, r, hv, _, _, _, _, hSo⟩ := hS.vecOpen hj h0
    injection hv with hv hv2 hv3
    subst hv; subst hv3
    have hlj : j < As.length := (List.getElem?_eq_some_iff.1 hj).1
    have hb := hSo.block (k := j) (b := b) (o := cellsO (ys ++ r) E) (by simp [hlj, blk])
    obtain ⟨v', w', hr, hS'⟩ := run_append_vec (P := P) (ty := ty) hS ht hi hz hsize hby hzs hk (p := ad b 0) (m := m) (c := c) hys h0 (fun q u hu => by
      rw [add_ad, Nat.zero_add]
      refine cell_own hb ?_
      have hq : q < ys.length := (List.getElem?_eq_some_iff.1 hu).1
      rw [List.getElem?_append_left hq]; exact hu) (List.all_eq_true.1 h1) h63.2 h63.1
    exact WL.val (w' := w') (fun a' ha => by simp [execOp, resolve, invoke, builtin, hx a' ha, hy a' ha, hr]) hd (h _ _ hS')
theorem all_one {α : Type} (f : α → Value) (hf : ∀ x, (f x).oneCell' = true) (l : List α) : (l.map f).all Value.oneCell' = true := by
  rw [List.all_map, List.all_eq_true]
  exact fun x _ => hf x
theorem one_i64 (l : List Int) : (l.map I64).all Value.oneCell' = true := all_one _ (fun _ => rfl) l
theorem one_bool (l : List Bool) : (l.map Value.bool).all Value.oneCell' = true := all_one _ (fun _ => rfl) l

/-- The text from a place on. -/
theorem drop_at (l : List UInt8) {k : Nat} (h : k < l.length) : l.drop k = at_ l (k : Int) :: l.drop (k + 1) := by
  rw [List.drop_eq_getElem_cons h]
  simp [at_, List.getD_eq_getElem?_getD, h]
end
end Gk
