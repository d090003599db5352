/- The operations that look at memory, and calls. -/
import Derived.Test.YtfmdhpgfbojjaaaGkC
namespace Gk
set_option linter.unusedVariables false
set_option linter.unusedSimpArgs false
open Go

/-- A call comes back with a value. -/
def Ret (Q : Value → World → Prop) : Ending → World → Prop := fun e w => ∃ v, e = .returned v ∧ Q v w

/-- What lies at an address and is never written any more. -/
def At (I : Im) (p : Addr) (vs : List Value) : Prop := p.spot = none ∧ ∃ arr E fr, I p.block = some (.cells arr E fr) ∧ ∀ j v, vs[j]? = some v → arr[p.off + j]? = some v

theorem At.mono {I J : Im} {p : Addr} {vs : List Value} (h : At I p vs) (hl : Le I J) : At J p vs := by
  obtain ⟨hs, arr, E, fr, hi, hv⟩ := h
  exact ⟨hs, arr, E, fr, hl _ _ hi, hv⟩

/-- A slice that is only read: nil, or somewhere in what is never written any more. -/
def RS (I : Im) (a : Option Addr) (size n : Nat) (xs : List Value) : Prop := xs.length = n * size ∧ (0 < n → ∃ p, a = some p ∧ At I p xs)
theorem RS.mono {I J : Im} {a : Option Addr} {size n : Nat} {xs : List Value} (h : RS I a size n xs) (hl : Le I J) : RS J a size n xs :=
  ⟨h.1, fun hn => let ⟨p, e, ha⟩ := h.2 hn; ⟨p, e, ha.mono hl⟩⟩
theorem RS.nil (I : Im) (size : Nat) : RS I none size 0 [] := ⟨by simp, fun h => absurd h (by omega)⟩

/-- An address by its block and its place. -/
abbrev ad (b o : Nat) : Addr := ⟨b, o, none⟩

theorem add_ad (b o i : Nat) : (ad b o).add i = ad b (o + i) := by
  unfold Addr.add
  split
  · simp_all
  · rfl

def setAt (cs : List Value) (off : Nat) (l : List Value) : List Value := cs.take off ++ l ++ cs.drop (off + l.length)
def fillL (pl : Nat → Option (Nat × Nat)) : List Value → List (Nat × Value) → Option (List Value)
  | cs, [] => some cs
  | cs, (i, v) :: rest => match pl i with
    | none => none
    | some (off, size) => bif Nat.beq v.cells.toList.length size && Nat.ble (off + size) cs.length then fillL pl (setAt cs off v.cells.toList) rest else none

theorem foldl_set : ∀ (l : List Value) (cs : List Value) (off k : Nat), off + k + l.length ≤ cs.length →
    (l.zipIdx k).foldl (fun (cs : Array Value) (p : Value × Nat) => cs.setIfInBounds (off + p.2) p.1) cs.toArray = (setAt cs (off + k) l).toArray
  | [], cs, off, k, _ => by simp [setAt]
  | v :: l, cs, off, k, h => by
    rw [List.zipIdx_cons, List.foldl_cons]
    have e : cs.toArray.setIfInBounds (off + k) v = (cs.set (off + k) v).toArray := by simp
    have ih := foldl_set l (cs.set (off + k) v) off (k + 1) (by simp at h ⊢; omega)
    simp only at ih ⊢
    rw [e, ih]
    congr 1
    unfold setAt
    have h9 := list_seg_step cs (off + k) v l (by simp at h; omega)
    simpa [Nat.add_assoc] using h9

theorem fillL_fill {pl : Nat → Option (Nat × Nat)} : ∀ {vs : List (Nat × Value)} {cs ds : List Value}, fillL pl cs vs = some ds → Instr.fill pl cs.toArray vs = some ds.toArray
  | [], cs, ds, h => by simp [fillL] at h; simp [Instr.fill, h]
  | (i, v) :: rest, cs, ds, h => by
    unfold fillL at h
    unfold Instr.fill
    split at h
    · cases h
    · rename_i off size hp
      rw [hp]
      simp only
      by_cases hc : (Nat.beq v.cells.toList.length size && Nat.ble (off + size) cs.length) = true
      · rw [hc, cond_true] at h
        simp only [Bool.and_eq_true] at hc
        have h1 : v.cells.size = size := by have := Nat.eq_of_beq_eq_true hc.1; simpa using this
        have h2 : off + size ≤ cs.length := Nat.le_of_ble_eq_true hc.2
        have e := foldl_set v.cells.toList cs off 0 (by simp [h1]; omega)
        have hz : (v.cells.zipIdx.foldl (fun cs (x : Value × Nat) => cs.setIfInBounds (off + x.2) x.1) cs.toArray) = (setAt cs off v.cells.toList).toArray := by
          rw [← Array.foldl_toList, Array.toList_zipIdx]
          simpa using e
        rw [if_neg (by simp [h1]; omega)]
        rw [hz]
        exact fillL_fill h
      · have hc' : (Nat.beq v.cells.toList.length size && Nat.ble (off + size) cs.length) = false := Bool.eq_false_iff.2 hc
        rw [hc', cond_false] at h
        cases h
theorem zerosL (z : Value) (s : Nat) (hz : z.cells.size = s) : ∀ len, (Array.range (len * s)).map (z.cells[· % z.cells.size]!) = ((List.replicate len z.cells.toList).flatten).toArray := by
  intro len
  apply Array.ext'
  simp only [Array.toList_map, Array.toList_range]
  induction len with
  | zero => simp
  | succ k ih =>
    rw [List.replicate_succ', List.flatten_append, Nat.succ_mul, List.range_add, List.map_append, ih]
    simp only [List.flatten_cons, List.flatten_nil, List.append_nil]
    congr 1
    apply List.ext_getElem?
    intro j
    by_cases hj : j < s
    · have : (k * s + j) % s = j := by rw [Nat.add_comm, Nat.add_mul_mod_self_right, Nat.mod_eq_of_lt hj]
      have h3 : j < z.cells.size := by omega
      simp [hj, hz, this, h3]
    · simp [hj, hz]

section
variable {P : Program} {n : Nat} {K : Kont} {L : Env} {w w' : World} {ops : Array Oper} {rest : List Oper}
variable {B : World} {I : Im} {As : List Assn} {k : Nat} {d : Nat} {ty : TypeId} {pos : String} {af : Array Edge} {g : Option (Nat × Bool)} {t e : TypeId} {x y : Operand}

theorem run_new_ {α : Type} (o : Obj) (f : Nat → Sem α) : (Sem.new o f).run P w = (f w.heap.size).run P (w.alloc o) := rfl
theorem cell_own {b : Nat} {cs : List Value} {E : TypeId} (hb : w.heap[b]? = some (cellsO cs E)) {o : Nat} {v : Value} (hv : cs[o]? = some v) : w.cell? (ad b o) = some v := by
  unfold cellsO at hb
  simp [World.cell?, hb, hv]
theorem frozen_own {b : Nat} {cs : List Value} {E : TypeId} (hb : w.heap[b]? = some (cellsO cs E)) (o : Nat) : w.frozen? (ad b o) = false := by
  unfold cellsO at hb
  simp [World.frozen?, hb]
theorem cell_at {p : Addr} {vs : List Value} (hS : Sat B w I As) (ha : At I p vs) {j : Nat} {v : Value} (hv : vs[j]? = some v) : w.cell? (p.add j) = some v := by
  obtain ⟨hs, arr, E, fr, hi, h⟩ := ha
  obtain ⟨h', _, hg⟩ := hS
  have hb := hg.imm _ _ hi
  have hj := h j v hv
  obtain ⟨pb, po, ps⟩ := p
  simp only at hs hi hb hj
  subst hs
  have e : (⟨pb, po, none⟩ : Addr).add j = ⟨pb, po + j, none⟩ := add_ad pb po j
  rw [e]
  simp [World.cell?, hb, hj]

/-- A load of one cell, and of several, of what is owned. -/
theorem Ex.ld {d : Option Nat} {b o : Nat} {cs : List Value} {E : TypeId} {v : Value} (hx : Ev n L x (ptr b o)) (hS : Sat B w I As) (hk : As[k]? = some (blk b cs E)) (ht : ∀ w, (isAgg t).run P w = .ok false w) (hv : cs[o]? = some v) :
    Ex P n L w ⟨d, .load t x, ty, pos, af, g⟩ v w := fun a ha => by
  have h := cell_own (hS.block hk) hv
  simp [execOp, hx a ha, Instr.loadAt, Instr.sureAddr, loadVar, ht, load, Sem.run, h]
theorem Ex.lds {d : Option Nat} {b o s : Nat} {cs vs : List Value} {E : TypeId} (hx : Ev n L x (ptr b o)) (hS : Sat B w I As) (hk : As[k]? = some (blk b cs E)) (ht : ∀ w, (isAgg t).run P w = .ok true w) (hs : ∀ w, (Go.sizeOf t).run P w = .ok s w)
    (hl : vs.length = s) (hv : ∀ (j : Nat) (v : Value), vs[j]? = some v → cs[o + j]? = some v) : Ex P n L w ⟨d, .load t x, ty, pos, af, g⟩ (.agg vs.toArray) w := fun a ha => by
  have hb := hS.block hk
  have h := run_loadCells_list (P := P) w (ad b o) vs (fun j v hj => by rw [add_ad]; exact cell_own hb (hv j v hj))
  rw [hl] at h
  simp [execOp, hx a ha, Instr.loadAt, Instr.sureAddr, loadVar, ht, hs, h]
/-- The same of what is never written any more. -/
theorem Ex.ldI {d : Option Nat} {p : Addr} {vs : List Value} {v : Value} (hx : Ev n L x (.pointer (some p))) (hS : Sat B w I As) (ha : At I p vs) (ht : ∀ w, (isAgg t).run P w = .ok false w) (hv : vs[0]? = some v) :
    Ex P n L w ⟨d, .load t x, ty, pos, af, g⟩ v w := fun a hh => by
  have h := cell_at hS ha hv
  rw [show p.add 0 = p from rfl] at h
  simp [execOp, hx a hh, Instr.loadAt, Instr.sureAddr, loadVar, ht, load, Sem.run, h]
theorem Ex.ldsI {d : Option Nat} {p : Addr} {s : Nat} {vs us : List Value} (hx : Ev n L x (.pointer (some p))) (hS : Sat B w I As) (ha : At I p vs) (ht : ∀ w, (isAgg t).run P w = .ok true w) (hs : ∀ w, (Go.sizeOf t).run P w = .ok s w)
    (hl : us.length = s) (hv : ∀ (j : Nat) (v : Value), us[j]? = some v → vs[j]? = some v) : Ex P n L w ⟨d, .load t x, ty, pos, af, g⟩ (.agg us.toArray) w := fun a hh => by
  have h := run_loadCells_list (P := P) w p us (fun j v hj => cell_at hS ha (hv j v hj))
  rw [hl] at h
  simp [execOp, hx a hh, Instr.loadAt, Instr.sureAddr, loadVar, ht, hs, h]

/-- Addresses. -/
theorem Ex.fieldAddr {d : Option Nat} {b o f : Nat} {fs : Array Field} {fd : Field} {s : Nat} (off : Nat) (hx : Ev n L x (ptr b o)) (ht : P.underlying t = some (.struct fs)) (hf : fs[f]? = some fd) (ho : fd.offset = off) (hs : ∀ w, (Go.sizeOf fd.type).run P w = .ok s w) (h0 : Nat.beq s 0 = false) :
    Ex P n L w ⟨d, .fieldAddr t x f, ty, pos, af, g⟩ (ptr b (o + off)) w := fun a ha => by
  subst ho
  have h0' : s ≠ 0 := fun e => by rw [e] at h0; cases h0
  have h1 := add_ad b o fd.offset
  simp [execOp, hx a ha, Instr.fieldAt, run_underlying ht, hf, Instr.sureAddr, fieldPlace, hs, h0', h1]
theorem Ex.fieldAddrI {d : Option Nat} {p : Addr} {f : Nat} {fs : Array Field} {fd : Field} {s : Nat} (off : Nat) (hx : Ev n L x (.pointer (some p))) (ht : P.underlying t = some (.struct fs)) (hf : fs[f]? = some fd) (ho : fd.offset = off) (hs : ∀ w, (Go.sizeOf fd.type).run P w = .ok s w) (h0 : Nat.beq s 0 = false) :
    Ex P n L w ⟨d, .fieldAddr t x f, ty, pos, af, g⟩ (.pointer (some (p.add off))) w := fun a ha => by
  subst ho
  have h0' : s ≠ 0 := fun e => by rw [e] at h0; cases h0
  simp [execOp, hx a ha, Instr.fieldAt, run_underlying ht, hf, Instr.sureAddr, fieldPlace, hs, h0']
theorem At.add {p : Addr} {vs : List Value} (h : At I p vs) (i : Nat) : At I (p.add i) (vs.drop i) := by
  obtain ⟨hs, arr, E, fr, hi, hv⟩ := h
  obtain ⟨pb, po, ps⟩ := p
  simp only at hs hi hv
  subst hs
  have e : (⟨pb, po, none⟩ : Addr).add i = ⟨pb, po + i, none⟩ := add_ad pb po i
  rw [e]
  exact ⟨rfl, arr, E, fr, hi, fun j v hj => by rw [show po + i + j = po + (i + j) by omega]; exact hv (i + j) v (by simpa using hj)⟩
theorem Ex.indexAddr {d : Option Nat} {b o len cap s : Nat} {i : Int} (hx : Ev n L x (.slice (some (ad b o)) len cap)) (hy : Ev n L y (I64 i)) (hi : 0 ≤ i) (hl : i < len) (ht : P.underlying t = some (.slice e)) (hs : ∀ w, (Go.sizeOf e).run P w = .ok s w) :
    Ex P n L w ⟨d, .indexAddr t x y, ty, pos, af, g⟩ (ptr b (o + i.toNat * s)) w := fun a ha => by
  have h := run_indexAt_slice (P := P) w t (ad b o) len cap .i64 i (by rw [elem_of ht]; exact ht)
  rw [if_pos ⟨hi, hl⟩, elem_of ht, hs] at h
  simp only [Result.andThen_ok, add_ad] at h
  simp [execOp, hx a ha, hy a ha, h]
theorem Ex.indexAddrI {d : Option Nat} {p : Addr} {len cap s : Nat} {i : Int} (hx : Ev n L x (.slice (some p) len cap)) (hy : Ev n L y (I64 i)) (hi : 0 ≤ i) (hl : i < len) (ht : P.underlying t = some (.slice e)) (hs : ∀ w, (Go.sizeOf e).run P w = .ok s w) :
    Ex P n L w ⟨d, .indexAddr t x y, ty, pos, af, g⟩ (.pointer (some (p.add (i.toNat * s)))) w := fun a ha => by
  have h := run_indexAt_slice (P := P) w t p len cap .i64 i (by rw [elem_of ht]; exact ht)
  rw [if_pos ⟨hi, hl⟩, elem_of ht, hs] at h
  simp [execOp, hx a ha, hy a ha, h, Result.andThen]

/-- New memory. -/
theorem WL.box1 {E : TypeId} {v : Value} (hS : Sat B w I As) (hx : Ev n L x v) (h1 : v.oneCell' = true) (hd : Nat.blt d n = true)
    (h : ∀ b w', Sat B w' I (blk b [v] E :: As) → WL P n ops K rest ((d, ptr b 0) :: L) w') : WL P n ops K (⟨some d, .box E x, ty, pos, af, none⟩ :: rest) L w := by
  refine WL.val (v := ptr w.heap.size 0) (w' := w.alloc (cellsO [v] E)) (fun a ha => ?_) hd (h _ _ (hS.alloc _))
  have hc : v.cells = #[v] := by cases v <;> first | rfl | cases h1
  simp [execOp, hx a ha, Instr.box, newVar, newRow, newObj, run_new_, hc, cellsO]
theorem WL.boxA {E : TypeId} {cs : List Value} (hS : Sat B w I As) (hx : Ev n L x (.agg cs.toArray)) (hd : Nat.blt d n = true)
    (h : ∀ b w', Sat B w' I (blk b cs E :: As) → WL P n ops K rest ((d, ptr b 0) :: L) w') : WL P n ops K (⟨some d, .box E x, ty, pos, af, none⟩ :: rest) L w := by
  refine WL.val (v := ptr w.heap.size 0) (w' := w.alloc (cellsO cs E)) (fun a ha => ?_) hd (h _ _ (hS.alloc _))
  simp [execOp, hx a ha, Instr.box, newVar, newRow, newObj, run_new_, Value.cells, cellsO]
theorem WL.alloc1 {E : TypeId} {v : Value} (hS : Sat B w I As) (hz : ∀ w, (zeroValue E).run P w = .ok v w) (h1 : v.oneCell' = true) (hd : Nat.blt d n = true)
    (h : ∀ b w', Sat B w' I (blk b [v] E :: As) → WL P n ops K rest ((d, ptr b 0) :: L) w') : WL P n ops K (⟨some d, .alloc E, ty, pos, af, none⟩ :: rest) L w := by
  refine WL.val (v := ptr w.heap.size 0) (w' := w.alloc (cellsO [v] E)) (fun a ha => ?_) hd (h _ _ (hS.alloc _))
  have hc : v.cells = #[v] := by cases v <;> first | rfl | cases h1
  simp [execOp, Instr.alloc, hz, newVar, newRow, newObj, run_new_, hc, cellsO]
theorem WL.allocA {E : TypeId} {cs : List Value} (hS : Sat B w I As) (hz : ∀ w, (zeroValue E).run P w = .ok (.agg cs.toArray) w) (hd : Nat.blt d n = true)
    (h : ∀ b w', Sat B w' I (blk b cs E :: As) → WL P n ops K rest ((d, ptr b 0) :: L) w') : WL P n ops K (⟨some d, .alloc E, ty, pos, af, none⟩ :: rest) L w := by
  refine WL.val (v := ptr w.heap.size 0) (w' := w.alloc (cellsO cs E)) (fun a ha => ?_) hd (h _ _ (hS.alloc _))
  simp [execOp, Instr.alloc, hz, newVar, newRow, newObj, run_new_, Value.cells, cellsO]
/-- A slice's literal: of its cells the generator tells how many there are. -/
theorem WL.buildSlice {len s : Nat} {parts : Array (Nat × Operand)} {vs : List (Nat × Value)} {z : Value} {cs : List Value} (hS : Sat B w I As) (hp : ∀ a, Holds n L a → parts.toList.map (fun p => (p.1, a.eval p.2)) = vs)
    (ht : P.underlying t = some (.slice e)) (hs : ∀ w, (Go.sizeOf e).run P w = .ok s w) (hz : ∀ w, (zeroValue e).run P w = .ok z w) (h24 : Nat.ble (len * s) 16777216 = true) (hzs : z.cells.size = s)
    (hf : fillL (fun i => some (i * s, s)) ((List.replicate len z.cells.toList).flatten) vs = some cs) (hd : Nat.blt d n = true)
    (h : ∀ b w', Sat B w' I (blk b cs e :: As) → WL P n ops K rest ((d, .slice (some (ad b 0)) len len) :: L) w') : WL P n ops K (⟨some d, .buildSlice t len parts, ty, pos, af, none⟩ :: rest) L w := by
  refine WL.val (v := .slice (some (ad w.heap.size 0)) len len) (w' := w.alloc (cellsO cs e)) (fun a ha => ?_) hd (h _ _ (hS.alloc _))
  have h24' : ¬ (16777216 < len * s) := by have := Nat.le_of_ble_eq_true h24; omega
  have hv := hp a ha
  have hf := fillL_fill hf
  rw [← zerosL z s hzs] at hf
  by_cases h0 : len * s = 0
  · have hr : (Array.range (len * s)).map (z.cells[· % z.cells.size]!) = #[] := by simp [h0]
    rw [hr] at hf
    simp [execOp, Instr.buildSlice, run_underlying ht, hs, h0, newRow, newObj, run_new_, Array.range_zero', hv, hf, cellsO]
  · simp [execOp, Instr.buildSlice, run_underlying ht, hs, h24', h0, hz, newRow, newObj, run_new_, hv, hf, cellsO]
theorem parts_nil : ∀ a : Act, Holds n L a → (#[] : Array (Nat × Operand)).toList.map (fun p => (p.1, a.eval p.2)) = [] := fun _ _ => rfl
theorem parts_cons {i : Nat} {v : Value} {ps : List (Nat × Operand)} {vs : List (Nat × Value)} (hx : Ev n L x v) (h : ∀ a, Holds n L a → ps.toArray.toList.map (fun p => (p.1, a.eval p.2)) = vs) :
    ∀ a, Holds n L a → ((i, x) :: ps).toArray.toList.map (fun p => (p.1, a.eval p.2)) = (i, v) :: vs := fun a ha => by
  have := h a ha
  simp only [List.map_cons] at this ⊢
  rw [hx a ha, this]
/-- A struct's literal. -/
def Bld (P : Program) (t : TypeId) (pl : List (Nat × Nat)) (zs : List Value) : Prop := ∀ (parts : Array (Nat × Value)) (cs : Array Value) (w : World), Instr.fill (fun i : Nat => pl[i]?) zs.toArray parts.toList = some cs → (Instr.build t parts).run P w = .ok (.agg cs) w
theorem Ex.build {d : Option Nat} {parts : Array (Nat × Operand)} {vs : List (Nat × Value)} {pl : List (Nat × Nat)} {zs cs : List Value} (hp : ∀ a, Holds n L a → parts.toList.map (fun p => (p.1, a.eval p.2)) = vs) (hb : Bld P t pl zs)
    (hf : fillL (fun i : Nat => pl[i]?) zs vs = some cs) : Ex P n L w ⟨d, .build t parts, ty, pos, af, g⟩ (.agg cs.toArray) w := fun a ha => by
  have hr := hb (parts.map fun (i, x) => (i, a.eval x)) cs.toArray w (by rw [Array.toList_map, hp a ha]; exact fillL_fill hf)
  simp only [execOp, hr, Sem.run_bind, Result.andThen_ok, Sem.run_pure]
theorem bld_of {fs : Array Field} {z : Value} {pl : List (Nat × Nat)} (ht : P.underlying t = some (.struct fs)) (hz : ∀ w, (zeroValue t).run P w = .ok z w) (hm : ∀ w, ((fs.mapM fun f => do pure (f.offset, ← Go.sizeOf f.type)) : Sem (Array (Nat × Nat))).run P w = .ok pl.toArray w) : Bld P t pl z.cells.toList := by
  intro parts cs w hf
  have e : (fun i : Nat => pl.toArray[i]?) = (fun i : Nat => pl[i]?) := by funext i; simp
  simp only [Array.toArray_toList] at hf
  rw [← e] at hf
  simp only [Instr.build, Sem.run_bind, hz, run_underlying ht, Result.andThen_ok, hm, hf, Sem.run_pure]

/-- Stores: of one cell, and of several. -/
theorem WL.st1 {b o : Nat} {cs : List Value} {E : TypeId} {v : Value} (hS : Sat B w I As) (hk : As[k]? = some (blk b cs E)) (hx : Ev n L x (ptr b o)) (hy : Ev n L y v) (h1 : v.oneCell' = true) (hs : ∀ w, (Go.sizeOf t).run P w = .ok 1 w) (ho : o < cs.length)
    (h : ∀ w', Sat B w' I (As.set k (blk b (cs.set o v) E)) → WL P n ops K rest L w') : WL P n ops K (⟨none, .store t x y, ty, pos, af, none⟩ :: rest) L w := by
  have hb := hS.block hk
  have hcell := cell_own hb (List.getElem?_eq_getElem ho)
  have hfro := frozen_own hb o
  have hc : v.cells = #[v] := by cases v <;> first | rfl | cases h1
  have hlt : b < w.heap.size := (Array.getElem?_eq_some_iff.1 hb).1
  have hst := run_store P w (ad b o) v .plain h1
  rw [hcell] at hst
  simp only [hfro] at hst
  have hset := setCell_eq_setRow w b o _ _ (0, 0) v hb
  refine WL.st (w' := w.setCell (ad b o) v) (fun a ha => ?_) (h _ (hS.write (o' := cellsO (cs.set o v) E) hk rfl rfl rfl ?_ fun c hc => ?_))
  · have e0 : (ad b o).add 0 = ad b o := rfl
    simp [execOp, hx a ha, hy a ha, Instr.storeAt, Instr.sureAddr, storeVar, hs, hc, storeCells, e0, hst]
  · rw [hset, setRow_heap w b _ _ _ _ hb]
    simp [cellsO]
  · rw [hset, setRow_other w b c _ hc]
theorem WL.stA {b o s : Nat} {cs vs : List Value} {E : TypeId} (hS : Sat B w I As) (hk : As[k]? = some (blk b cs E)) (hx : Ev n L x (ptr b o)) (hy : Ev n L y (.agg vs.toArray)) (h1 : vs.all Value.oneCell' = true) (hs : ∀ w, (Go.sizeOf t).run P w = .ok s w) (hl : vs.length = s) (ho : o + s ≤ cs.length)
    (h : ∀ w', Sat B w' I (As.set k (blk b (cs.take o ++ vs ++ cs.drop (o + s)) E)) → WL P n ops K rest L w') : WL P n ops K (⟨none, .store t x y, ty, pos, af, none⟩ :: rest) L w := by
  subst hl
  have hb := hS.block hk
  have hst := run_storeCells_at P b o E vs 0 cs.toArray w hb (by simpa using ho) (List.all_eq_true.1 h1)
  simp only [Nat.add_zero] at hst
  refine WL.st (w' := w.setRow b (cs.take o ++ vs ++ cs.drop (o + vs.length)).toArray) (fun a ha => ?_) (h _ (hS.write (o' := cellsO _ E) hk rfl rfl rfl (setRow_heap w b _ _ E _ hb) fun c hc => setRow_other w b c _ hc))
  simp [execOp, hx a ha, hy a ha, Instr.storeAt, Instr.sureAddr, storeVar, hs, Value.cells, hst]

/-- 'append' of what stands in a new block, which is at the head. -/
theorem WL.append {E size m c nn b : Nat} {v : Value} {xs news : List Value} {i : TypeInfo} {z : Value} {bytes : Nat} {E' : TypeId} (hS : Sat B w I (blk b news E' :: As)) (hx : Ev n L x v) (hy : Ev n L y (.slice (some (ad b 0)) m c))
    (hk : As[k]? = some (Vec E size v nn xs)) (ht : P.underlying t = some (.slice E)) (hi : P.info? E = some i) (hz : i.zero = some z) (hsize : i.size = size) (hby : i.bytes = bytes) (hzs : z.cells.size = size)
    (hl : news.length = m * size) (hm : Nat.blt 0 m = true) (h1 : news.all Value.oneCell' = true) (h63 : (nn + m) * bytes ≤ 140737488355328 ∧ nn + m ≤ maxLen) (hd : Nat.blt d n = true)
    (h : ∀ v' w', Sat B w' I (As.set k (Vec E size v' (nn + m) (xs ++ news))) → WL P n ops K rest ((d, v') :: L) w') :
    WL P n ops K (⟨some d, .call ⟨.builtin .append, #[x, y], #[t, t]⟩, ty, pos, af, none⟩ :: rest) L w := by
  have hb := hS.block (k := 0) rfl
  obtain ⟨v', w', hr, hS'⟩ := run_append_vec (P := P) (ty := ty) (k := k + 1) hS ht hi hz hsize hby hzs hk (p := ad b 0) (m := m) (c := c) hl (Nat.le_of_ble_eq_true hm) (fun j u hu => by rw [add_ad, Nat.zero_add]; exact cell_own hb hu) (List.all_eq_true.1 h1) h63.2 h63.1
  have hS2 := hS'.drop (k := 0) (A := blk b news E') (by simp)
  simp only [List.set_cons_succ, List.eraseIdx_cons_zero] at hS2
  refine WL.val (v := v') (w' := w') (fun a ha => ?_) hd (h _ _ hS2)
  simp [execOp, resolve, invoke, builtin, hx a ha, hy a ha, hr]

/-- 'make([]T, n)'. -/
theorem WL.make {l : Nat} {i : TypeInfo} {z : Value} {y : Operand} (hS : Sat B w I As) (hx : Ev n L x (I64 l)) (hy : Ev n L y (I64 l)) (ht : P.underlying t = some (.slice e)) (hi : P.info? e = some i) (hz : i.zero = some z) (hb : (i.bytes : Int) * l ≤ 281474976710656) (hl : (l : Int) ≤ 9223372036854775807)
    (hone : z.cells = #[z]) (hs : i.size = 1) (hd : Nat.blt d n = true)
    (h : ∀ b w', Sat B w' I (blk b (List.replicate l z) e :: As) → WL P n ops K rest ((d, .slice (some (ad b 0)) l l) :: L) w') : WL P n ops K (⟨some d, .makeSlice t x y, ty, pos, af, none⟩ :: rest) L w := by
  have hr := run_make (P := P) w t e i z ht hi hz .i64 .i64 l l (by omega) (by omega) hb hl
  have hm : madeCells z.cells ((l : Int).toNat * i.size) = (List.replicate l z).toArray := by
    rw [hone, hs]
    apply Array.ext'
    simp [madeCells]
    apply List.ext_getElem?
    intro j
    by_cases hj : j < l <;> simp [hj, Nat.mod_one]
  rw [hm] at hr
  refine WL.val (v := .slice (some (ad w.heap.size 0)) l l) (w' := w.alloc (cellsO (List.replicate l z) e)) (fun a ha => ?_) hd (h _ _ (hS.alloc _))
  simp only [Int.toNat_natCast] at hr
  simp [execOp, hx a ha, hy a ha, hr, cellsO]

/-- Slices of slices, and of texts. -/
theorem Ex.slc {d : Option Nat} {a0 : Option Addr} {len cap s : Nat} {lo hi : Int} {z : Operand} (hx : Ev n L x (.slice a0 len cap)) (hy : Ev n L y (I64 lo)) (hz : Ev n L z (I64 hi)) (h0 : 0 ≤ lo) (h1 : lo ≤ hi) (h2 : hi ≤ cap) (ht : P.underlying t = some (.slice e)) (hs : ∀ w, (Go.sizeOf e).run P w = .ok s w) :
    Ex P n L w ⟨d, .slice t x (some y) (some z) none, ty, pos, af, g⟩ (sliced a0 lo.toNat hi.toNat cap s) w := fun a ha => by
  have hT : P.underlying t = some (.slice (P.elem t)) := by rw [elem_of ht]; exact ht
  have h := run_slice_lh (P := P) w t a0 len cap hT .i64 .i64 lo hi h0 h1 h2
  rw [elem_of ht, hs] at h
  simp [execOp, hx a ha, hy a ha, hz a ha, run_sliceAt_slice w t _ _ _ _ hT, h, Result.andThen]
theorem Ex.slcTo {d : Option Nat} {a0 : Option Addr} {len cap s : Nat} {hi : Int} {z : Operand} (hx : Ev n L x (.slice a0 len cap)) (hz : Ev n L z (I64 hi)) (h1 : 0 ≤ hi) (h2 : hi ≤ cap) (ht : P.underlying t = some (.slice e)) (hs : ∀ w, (Go.sizeOf e).run P w = .ok s w) :
    Ex P n L w ⟨d, .slice t x none (some z) none, ty, pos, af, g⟩ (sliced a0 0 hi.toNat cap s) w := fun a ha => by
  have hT : P.underlying t = some (.slice (P.elem t)) := by rw [elem_of ht]; exact ht
  have h := run_slice_h (P := P) w t a0 len cap hT .i64 hi h1 h2
  rw [elem_of ht, hs] at h
  simp [execOp, hx a ha, hz a ha, run_sliceAt_slice w t _ _ _ _ hT, h, Result.andThen]
theorem Ex.slcFrom {d : Option Nat} {a0 : Option Addr} {len cap s : Nat} {lo : Int} (hx : Ev n L x (.slice a0 len cap)) (hy : Ev n L y (I64 lo)) (h0 : 0 ≤ lo) (h1 : lo ≤ len) (ht : P.underlying t = some (.slice e)) (hs : ∀ w, (Go.sizeOf e).run P w = .ok s w) :
    Ex P n L w ⟨d, .slice t x (some y) none none, ty, pos, af, g⟩ (sliced a0 lo.toNat len cap s) w := fun a ha => by
  have hT : P.underlying t = some (.slice (P.elem t)) := by rw [elem_of ht]; exact ht
  have h := run_slice_l (P := P) w t a0 len cap hT .i64 lo h0 h1
  rw [elem_of ht, hs] at h
  simp [execOp, hx a ha, hy a ha, run_sliceAt_slice w t _ _ _ _ hT, h, Result.andThen]

/-- A call of a function, by its contract. -/
def callable (fn : Func) : Bool := fn.name != "runtime.NumGoroutine" && fn.body.isSome
theorem WL.call {f : FuncId} {fn : Func} {xs : List Operand} {ts : Array TypeId} {vs : List Value} {Q : Value → World → Prop} (hf : P.funcs[f]? = some fn) (hc : callable fn = true) (hx : ∀ a, Holds n L a → xs.map a.eval = vs) (hd : Nat.blt d n = true)
    (hcall : Calls P f vs.toArray w (Ret Q)) (h : ∀ v w', Q v w' → WL P n ops K rest ((d, v) :: L) w') : WL P n ops K (⟨some d, .call ⟨.value (.func f), xs.toArray, ts⟩, ty, pos, af, none⟩ :: rest) L w := by
  intro a ha
  refine wpList_plain rfl fun K' hK => ?_
  have he : (execOp a.eval (⟨some d, .call ⟨.value (.func f), xs.toArray, ts⟩, ty, pos, af, none⟩ : Oper)).run P w = .ok (.enter f vs.toArray) w := by
    unfold callable at hc
    simp only [Bool.and_eq_true] at hc
    obtain ⟨h1, h2⟩ := hc
    have h1' : ¬ fn.name = "runtime.NumGoroutine" := by simpa using h1
    have h2' : ¬ fn.body = none := by intro e; rw [e] at h2; cases h2
    have hv := hx a ha
    simp [execOp, resolve, Act.eval, Deferred.ofValue, invoke, callFunc, program, Sem.run, hf, h1', h2', ← hv]
  unfold Oper.wp
  rw [he]
  refine hcall.mono fun e w'' hq => ?_
  obtain ⟨v, rfl, hv⟩ := hq
  exact hK _ _ (h v w'' hv _ (ha.put hd v))
theorem evs_nil : ∀ a : Act, Holds n L a → ([] : List Operand).map a.eval = [] := fun _ _ => rfl
theorem evs_cons {xs : List Operand} {v : Value} {vs : List Value} (hx : Ev n L x v) (h : ∀ a, Holds n L a → xs.map a.eval = vs) : ∀ a, Holds n L a → (x :: xs).map a.eval = v :: vs := fun a ha => by
  rw [List.map_cons, hx a ha, h a ha]
end
end Gk
