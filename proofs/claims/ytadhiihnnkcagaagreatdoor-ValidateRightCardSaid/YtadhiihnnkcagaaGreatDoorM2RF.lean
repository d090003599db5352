/- Part 6 of what the proof stands on: Tbw, W21l, GkM, GkN, W21m, W21n, W18s, W18t, W18u, W18v, W18w, W21f, Tmo, W21g, W21o, W21p, W21q. -/
import Derived.Test.YtadhiihnnkcagaaGreatDoorM2RE
import Derived.WideMake
namespace Tr
open Tk
set_option linter.unusedVariables false
set_option linter.unusedSimpArgs false
inductive Und (l : List Rec) (k : List UInt8) : List UInt8 → Prop
 | self : Und l k k
 | step {i : Nat} {r : Rec} (hr : l[i]? = some r) (h : Und l k r.parent) : Und l k r.name
theorem Und.trans {l : List Rec} {a b c : List UInt8} (h : Und l a b) (k : Und l b c) : Und l a c := by
 induction k with
 | self => exact h
 | step hr _ ih => exact .step hr ih
theorem mem_kids {l : List Rec} {name x : List UInt8} (h : x ∈ kids l name) : name ≠ [] ∧ ∃ (i : Nat) (r : Rec), l[i]? = some r ∧ r.parent = name ∧ r.name = x := by
 unfold kids kidsR at h
 obtain ⟨r, hr, hx⟩ := List.mem_map.1 h
 obtain ⟨h1, h2⟩ := List.mem_filter.1 hr
 simp only [Bool.and_eq_true, decide_eq_true_eq] at h2
 obtain ⟨i, hi, he⟩ := List.getElem_of_mem h1
 exact ⟨h2.1, i, r, by rw [List.getElem?_eq_getElem hi, he], h2.2, hx⟩
theorem kid_at {l : List Rec} (hw : Wf l) {name k : List UInt8} (h : k ∈ kids l name) : at0 l name < at0 l k ∧ 0 ≤ at0 l k ∧ 0 ≤ at0 l name := by
 obtain ⟨h0, i, r, hr, hp, hn⟩ := mem_kids h
 have h1 := (hw.up i r hr)
 have h2 := hw.at_ hr
 subst hp; subst hn
 rcases h1.1 with e | e
 ·exact absurd e h0
 ·rw [h2]; exact ⟨h1.2, by omega, e⟩
theorem belowF_fuel {l : List Rec} (hw : Wf l) : ∀ (n m : Nat) (name : List UInt8), 0 ≤ at0 l name → (l.length : Int) - at0 l name ≤ n → (l.length : Int) - at0 l name ≤ m → belowF l n name = belowF l m name
 | 0, _, name, _, h, _ => by have := at_lt l name; omega
 | _ + 1, 0, name, _, _, h => by have := at_lt l name; omega
 | n + 1, m + 1, name, h0, hn, hm => by
  rw [belowF, belowF]
  congr 1
  rw [List.flatMap_def, List.flatMap_def]
  congr 1
  refine List.map_congr_left fun k hk => ?_
  have := kid_at hw hk
  exact belowF_fuel hw n m k this.2.1 (by omega) (by omega)
theorem below_step {l : List Rec} {i : Nat} {r : Rec} (hr : l[i]? = some r) (h0 : r.parent ≠ []) : ∀ (n : Nat) (name : List UInt8), r.parent ∈ belowF l n name → r.name ∈ belowF l (n + 1) name
 | 0, _, h => by simp [belowF] at h
 | n + 1, name, h => by
  rw [belowF, List.mem_cons] at h ⊢
  refine .inr (List.mem_flatMap.2 ?_)
  rcases h with e | h
  ·refine ⟨r.name, ?_, by rw [belowF]; simp⟩
   unfold kids kidsR
   exact List.mem_map.2 ⟨r, List.mem_filter.2 ⟨List.mem_of_getElem? hr, by simp [← e, h0]⟩, rfl⟩
  ·obtain ⟨k, hk, hx⟩ := List.mem_flatMap.1 h
   exact ⟨k, hk, below_step hr h0 n k hx⟩
theorem below_up {l : List Rec} (hw : Wf l) {name : List UInt8} {i : Nat} {r : Rec} (hr : l[i]? = some r) (h0 : r.parent ≠ []) (h : r.parent ∈ below l name) : r.name ∈ below l name := by
 unfold below at h ⊢
 split at h
 ·rename_i h1
  rw [if_pos h1, belowF_fuel hw l.length (l.length + 1) name h1 (by omega) (by omega)]
  exact below_step hr h0 _ _ h
 ·simp at h
theorem Wf.names {l : List Rec} (hw : Wf l) : (l.map Rec.name).Nodup := by
 rw [List.Nodup, List.pairwise_iff_getElem]
 intro i j hi hj hij e
 simp only [List.length_map] at hi hj
 simp only [List.getElem_map] at e
 have := hw.one i j l[i] l[j] (List.getElem?_eq_getElem hi) (List.getElem?_eq_getElem hj) e
 omega
theorem Wf.split {l : List Rec} (hw : Wf l) {xs ys : List Rec} {r : Rec} (h : l = xs ++ r :: ys) : r.parent = [] ∨ ∃ t ∈ xs, t.name = r.parent := by
 have hr : l[xs.length]? = some r := by rw [h]; simp
 obtain ⟨h1, h2⟩ := hw.up _ _ hr
 rcases h1 with e | e
 ·exact .inl e
 ·rcases at_case l r.parent with ⟨h3, _⟩ | ⟨j, t, h3, h4, h5, _⟩
  ·omega
  ·refine .inr ⟨t, ?_, h5⟩
   rw [h, List.getElem?_append_left (by omega)] at h4
   exact List.mem_of_getElem? h4
theorem Wf.of {l : List Rec} (h1 : ∀ r ∈ l, rightR r = true) (h2 : (l.map Rec.name).Nodup) (h3 : ∀ xs r ys, l = xs ++ r :: ys → r.parent = [] ∨ ∃ t ∈ xs, t.name = r.parent) : Wf l := by
 refine ⟨h1, fun i j r s hr hs e => ?_, fun i r hr => ?_⟩
 ·rw [List.Nodup, List.pairwise_iff_getElem] at h2
  obtain ⟨hi, e1⟩ := List.getElem?_eq_some_iff.1 hr
  obtain ⟨hj, e2⟩ := List.getElem?_eq_some_iff.1 hs
  rcases Nat.lt_trichotomy i j with h | h | h
  ·exact absurd (by rw [List.getElem_map, List.getElem_map, e1, e2, e]) (h2 i j (by simpa using hi) (by simpa using hj) h)
  ·exact h
  ·exact absurd (by rw [List.getElem_map, List.getElem_map, e1, e2, e]) (h2 j i (by simpa using hj) (by simpa using hi) h)
 ·obtain ⟨hi, e1⟩ := List.getElem?_eq_some_iff.1 hr
  have hsp : l = l.take i ++ r :: l.drop (i + 1) := by
   rw [← e1, ← List.drop_eq_getElem_cons hi]; exact (List.take_append_drop i l).symm
  rcases h3 _ _ _ hsp with e | ⟨t, ht, e⟩
  ·refine ⟨.inl e, ?_⟩
   rcases at_case l r.parent with ⟨h4, _⟩ | ⟨j, t, h4, h5, h6, _⟩
   ·omega
   ·exact absurd (h6.trans e) (right_name (h1 t (List.mem_of_getElem? h5)))
  ·obtain ⟨j, hj, e2⟩ := List.getElem_of_mem ht
   rw [List.length_take] at hj
   have h7 : l[j]? = some t := by rw [← e2, List.getElem_take]; exact List.getElem?_eq_getElem (by omega)
   rcases at_case l r.parent with ⟨_, h5⟩ | ⟨q, u, h4, h5, h6, h8⟩
   ·exact absurd e (h5 t (List.mem_of_getElem? h7))
   ·have : q ≤ j := Nat.le_of_not_lt fun hh => h8 j t hh h7 e
    exact ⟨.inr (by omega), by omega⟩
theorem Wf.drop {l : List Rec} (hw : Wf l) (name : List UInt8) : Wf (drop l name) := by
 refine Wf.of (fun r hr => hw.right r (List.mem_filter.1 hr).1) (hw.names.sublist (List.filter_sublist.map Rec.name)) fun xs r ys h => ?_
 obtain ⟨l1, l2, e1, e2, e3⟩ := List.filter_eq_append_iff.1 h
 obtain ⟨m1, m2, e4, e5, e6, _⟩ := List.filter_eq_cons_iff.1 e3
 have hsp : l = (l1 ++ m1) ++ r :: m2 := by rw [e1, e4, List.append_assoc]
 have hr : l[(l1 ++ m1).length]? = some r := by rw [hsp]; simp
 rcases hw.split hsp with e | ⟨t, ht, e⟩
 ·exact .inl e
 ·by_cases h0 : r.parent = []
  ·exact .inl h0
  ·refine .inr ⟨t, ?_, e⟩
   have hk : ((below l name).contains t.name) = false := by
    cases hc : (below l name).contains t.name with
    | false => rfl
    | true =>
     have h1 := below_up hw hr h0 (by rw [← e]; simpa using hc)
     have h2 : (below l name).contains r.name = true := by simpa using h1
     rw [h2] at e6; cases e6
   rcases List.mem_append.1 ht with h1 | h1
   ·rw [← e2]; exact List.mem_filter.2 ⟨h1, by rw [hk]; rfl⟩
   ·exact absurd (by rw [hk]; rfl) (e5 t h1)
end Tr
namespace Go.Proofs.YtadhiihnnkcagaaGreatDoor
open Gk Ul Pc Tk Tr
set_option linter.unusedVariables false
set_option linter.unusedSimpArgs false
theorem WL.clear {P : Program} {n : Nat} {ops : Array Oper} {K : Kont} {rest : List Oper} {L : Env} {w B : World} {I : Im} {As : List Assn} {k b o m cap s : Nat} {cs : List Value} {E e t ty : TypeId} {x : Operand} {z : Value} {pos : String} {af : Array Edge} (hS : Sat B w I As) (hk : As[k]? = some (blk b cs E)) (hx : Ev n L x (.slice (some (ad b o)) m cap)) (ht : P.underlying t = some (.slice e)) (hz : ∀ w, (zeroValue e).run P w = .ok z w) (hs : z.cells.size = s) (h1 : ∀ v ∈ z.cells, v.oneCell' = true) (ho : o + m * s ≤ cs.length)
  (h : ∀ w' cs', cs'.length = cs.length → cs'.take o = cs.take o → Sat B w' I (As.set k (blk b cs' E)) → WL P n ops K rest L w') : WL P n ops K (⟨none, .call ⟨.builtin .clear, #[x], #[t]⟩, ty, pos, af, none⟩ :: rest) L w := by
 subst hs
 have go : ∀ w' v, (∀ a, Holds n L a → (execOp a.eval (⟨none, .call ⟨.builtin .clear, #[x], #[t]⟩, ty, pos, af, none⟩ : Oper)).run P w = .ok (.value v) w') → WL P n ops K rest L w' → WL P n ops K (⟨none, .call ⟨.builtin .clear, #[x], #[t]⟩, ty, pos, af, none⟩ :: rest) L w := by
  intro w' v hx h a ha
  refine wpList_plain rfl fun K' hK => ?_
  unfold Oper.wp
  rw [hx a ha]
  exact hK _ _ (h _ (ha.skip v))
 have hb := hS.block hk
 have hzl : (Builtin.zeroCells z.cells m).toList.length = m * z.cells.size := by rw [Array.length_toList, size_zeroCells]
 have hst := run_storeCells_at P b o E (Builtin.zeroCells z.cells m).toList 0 cs.toArray w hb (by simp only [Nat.add_zero, hzl, List.size_toArray]; exact ho) (fun v hv => by
  rw [Array.mem_toList_iff] at hv
  unfold Builtin.zeroCells at hv
  obtain ⟨i, hi, rfl⟩ := Array.mem_map.1 hv
  have hi2 : i < m * z.cells.size := by simpa using hi
  have hp : 0 < z.cells.size := Nat.pos_of_ne_zero fun e => by rw [e] at hi2; omega
  have hlt := Nat.mod_lt i hp
  rw [getElem!_pos z.cells (i % z.cells.size) hlt]
  exact h1 _ (Array.getElem_mem hlt))
 simp only [Nat.add_zero] at hst
 cases m with
 | zero =>
  refine go w (.tuple #[]) (fun a ha => ?_) (h w cs rfl rfl ?_)
  ·simp [execOp, resolve, invoke, builtin, hx a ha, Builtin.clear_, run_underlying ht]
  ·have e : As.set k (blk b cs E) = As := by
    apply List.ext_getElem?
    intro i
    rw [List.getElem?_set]
    split
    ·rename_i e; subst e
     split
     ·exact hk.symm
     ·rename_i hlt; rw [List.getElem?_eq_none (by omega)]
    ·rfl
   rw [e]; exact hS
 | succ m =>
  refine go (w.setRow b _) (.tuple #[]) (fun a ha => ?_) (h _ _ ?_ ?_ (hS.write (o' := cellsO (cs.take o ++ (Builtin.zeroCells z.cells (m + 1)).toList ++ cs.drop (o + (Builtin.zeroCells z.cells (m + 1)).toList.length)) E) hk rfl rfl rfl (setRow_heap w b _ _ E _ hb) fun c hc => setRow_other w b c _ hc))
  ·simp [execOp, resolve, invoke, builtin, hx a ha, Builtin.clear_, run_underlying ht, hz, hst]
  ·simp only [List.length_append, List.length_take, List.length_drop, hzl]; omega
  ·rw [List.append_assoc, List.take_append_of_le_length (by rw [List.length_take]; omega), List.take_take, Nat.min_self]
end Go.Proofs.YtadhiihnnkcagaaGreatDoor
namespace Gk
set_option linter.unusedVariables false
set_option linter.unusedSimpArgs false
open Go
structure KeyK {β : Type} (D : TypeDesc) (K : β → Value) : Prop where
 is : ∀ b, MapKept.IsKey D (K b)
 inj : ∀ a b, K a = K b → a = b
theorem keyS : KeyK .string S := ⟨fun _ => trivial, fun a b h => by injection h with h; injection h with h; injection h⟩
theorem keyI : KeyK (.int .i64) I64 := ⟨fun _ => rfl, fun a b h => by injection h⟩
def kvOf {β : Type} (K : β → Value) (kv : List (β × Value)) (es : Array MapEntry) : Prop := es.toList.map (fun e => (e.key, e.val)) = kv.map fun p => (K p.1, p.2)
def mapA {β : Type} (K : β → Value) (b : Nat) (kv : List (β × Value)) : Assn := fun h => ∃ es clk, kvOf K kv es ∧ h = [(b, .map es clk)]
def MapI {β : Type} (I : Im) (K : β → Value) (b : Nat) (kv : List (β × Value)) : Prop := ∃ es clk, kvOf K kv es ∧ I b = some (.map es clk)
theorem MapI.mono {β : Type} {I J : Im} {K : β → Value} {b : Nat} {kv : List (β × Value)} (h : MapI I K b kv) (hl : Le I J) : MapI J K b kv := by
 obtain ⟨es, clk, h1, h2⟩ := h
 exact ⟨es, clk, h1, hl _ _ h2⟩
section
variable {P : Program} {n : Nat} {K' : Kont} {L : Env} {w B : World} {ops : Array Oper} {rest : List Oper} {I : Im} {As : List Assn} {β : Type} {K : β → Value} {D : TypeDesc} {kv : List (β × Value)} {k b : Nat} {t kt et ty : TypeId} {x y z : Operand} {pos : String} {af : Array Edge} {d : Nat} {g : Option (Nat × Bool)}
theorem findNow_kv [BEq β] [LawfulBEq β] (hK : KeyK D K) (key : β) : ∀ (kv : List (β × Value)) (es : List MapEntry) (i : Nat), es.map (fun e => (e.key, e.val)) = kv.map (fun p => (K p.1, p.2)) →
  (kv.lookup key = none ∧ Instr.findNow D (K key) es i = some none) ∨ ∃ j v, kv.lookup key = some v ∧ Instr.findNow D (K key) es i = some (some (j, v))
 | [], [], _, _ => .inl ⟨rfl, rfl⟩
 | [], e :: es, _, h => by simp at h
 | p :: kv, [], _, h => by simp at h
 | p :: kv, e :: es, i, h => by
  simp only [List.map_cons, List.cons.injEq, Prod.mk.injEq] at h
  obtain ⟨⟨h1, h2⟩, h3⟩ := h
  have hk : MapKept.IsKey D e.key := h1 ▸ hK.is _
  obtain ⟨r, hr, hi⟩ := MapKept.sameNow_of_keys (hK.is key) hk
  cases r with
  | true =>
   have e1 := hK.inj _ _ ((hi.1 rfl).trans h1)
   exact .inr ⟨i, p.2, by obtain ⟨p1, p2⟩ := p; simp only at e1; subst e1; simp [List.lookup, beq_self_eq_true], by simp [Instr.findNow, hr, h2]⟩
  | false =>
   have hne : key ≠ p.1 := fun q => by have := hi.2 (by rw [h1, q]); cases this
   have hl : (p :: kv).lookup key = kv.lookup key := by obtain ⟨p1, p2⟩ := p; simp only at hne; simp [List.lookup, beq_eq_false_iff_ne.2 hne]
   rcases findNow_kv hK key kv es (i + 1) h3 with ⟨e1, e2⟩ | ⟨j, v, e1, e2⟩
   ·exact .inl ⟨by rw [hl]; exact e1, by simp [Instr.findNow, hr, e2]⟩
   ·exact .inr ⟨j, v, by rw [hl]; exact e1, by simp [Instr.findNow, hr, e2]⟩
theorem run_look_kv [BEq β] [LawfulBEq β] {ty : TypeId} {b : Nat} {es : Array MapEntry} {clk : Nat} {z : Value} (hK : KeyK D K) (hb : w.heap[b]? = some (.map es clk)) (he : kvOf K kv es) (key : β) (ht : P.underlying t = some (.map kt et)) (hk : P.underlying kt = some D) (hz : ∀ w, (zeroValue et).run P w = .ok z w) (ok : Bool) :
  (Instr.lookup t (.map (some b)) (K key) ok).run P w = .ok (if ok then .tuple #[(kv.lookup key).getD z, .bool (kv.lookup key).isSome] else (kv.lookup key).getD z) w := by
 have hc : (Instr.checkKey es.isEmpty 10000 kt (K key)).run P w = .ok () w := MapKept.run_checkKey hk (hK.is key) _ 9999
 rcases findNow_kv hK key kv es.toList 0 he with ⟨h1, h2⟩ | ⟨j, v, h1, h2⟩
 ·simp [Instr.lookup, run_underlying ht, MapKept.run_getObj_map hb, hc, MapKept.run_findKey hk h2, h1, hz, Result.andThen]
 ·simp [Instr.lookup, run_underlying ht, MapKept.run_getObj_map hb, hc, MapKept.run_findKey hk h2, h1, Result.andThen]
theorem Sat.mapNow (hS : Sat B w I As) (hk : As[k]? = some (mapA K b kv)) : ∃ es clk, kvOf K kv es ∧ w.heap[b]? = some (.map es clk) := by
 obtain ⟨g, hs, hg⟩ := hS
 obtain ⟨h1, h2, hp, ⟨es, clk, he, rfl⟩, _⟩ := hs.at_ hk
 exact ⟨es, clk, he, (hg.perm hp).own b _ (by simp)⟩
theorem MapI.now (h : MapI I K b kv) (hS : Sat B w I As) : ∃ es clk, kvOf K kv es ∧ w.heap[b]? = some (.map es clk) := by
 obtain ⟨es, clk, h1, h2⟩ := h
 obtain ⟨g, hs, hg⟩ := hS
 exact ⟨es, clk, h1, hg.imm _ _ h2⟩
theorem Ex.look2 [BEq β] [LawfulBEq β] {d : Option Nat} {z : Value} {key : β} (hK : KeyK D K) (hm : ∃ es clk, kvOf K kv es ∧ w.heap[b]? = some (.map es clk)) (hx : Ev n L x (.map (some b))) (hy : Ev n L y (K key)) (ht : P.underlying t = some (.map kt et)) (hk : P.underlying kt = some D) (hz : ∀ w, (zeroValue et).run P w = .ok z w) :
  Ex P n L w ⟨d, .lookup t x y true, ty, pos, af, g⟩ (.tuple #[(kv.lookup key).getD z, .bool (kv.lookup key).isSome]) w := fun a ha => by
 obtain ⟨es, clk, he, hb⟩ := hm
 have h := run_look_kv (ty := ty) hK hb he key ht hk hz true
 simp [execOp, hx a ha, hy a ha, h]
theorem Ex.look1 [BEq β] [LawfulBEq β] {d : Option Nat} {z : Value} {key : β} (hK : KeyK D K) (hm : ∃ es clk, kvOf K kv es ∧ w.heap[b]? = some (.map es clk)) (hx : Ev n L x (.map (some b))) (hy : Ev n L y (K key)) (ht : P.underlying t = some (.map kt et)) (hk : P.underlying kt = some D) (hz : ∀ w, (zeroValue et).run P w = .ok z w) :
  Ex P n L w ⟨d, .lookup t x y false, ty, pos, af, g⟩ ((kv.lookup key).getD z) w := fun a ha => by
 obtain ⟨es, clk, he, hb⟩ := hm
 have h := run_look_kv (ty := ty) hK hb he key ht hk hz false
 simp [execOp, hx a ha, hy a ha, h]
theorem WL.mkMap (K : β → Value) (hS : Sat B w I As) (hd : Nat.blt d n = true) (h : ∀ b w', Sat B w' I (mapA K b [] :: As) → WL P n ops K' rest ((d, .map (some b)) :: L) w') : WL P n ops K' (⟨some d, .makeMap t none, ty, pos, af, none⟩ :: rest) L w := by
 have h2 : Sat B (w.alloc (.map #[] 0)) I (mapA K w.heap.size [] :: As) := (hS.alloc (.map #[] 0)).say (k := 0) rfl (A' := mapA K w.heap.size []) fun g hg => ⟨#[], 0, rfl, hg⟩
 refine WL.val (v := .map (some w.heap.size)) (fun a ha => ?_) hd (h _ _ h2)
 have hr := run_makeMap_plain (P := P) w t
 simp [execOp, hr]
theorem mput_run [BEq β] [LawfulBEq β] {val : Value} {key : β} (hK : KeyK D K) (hS : Sat B w I As) (hk : As[k]? = some (mapA K b kv)) (hno : kv.lookup key = none) (ht : P.underlying t = some (.map kt et)) (hkt : P.underlying kt = some D) :
  ∃ w', (Instr.mapUpdate t (.map (some b)) (K key) val).run P w = .ok () w' ∧ Sat B w' I (As.set k (mapA K b (kv ++ [(key, val)]))) := by
 obtain ⟨g, hs, hg⟩ := hS
 obtain ⟨h1, h2, hp, ⟨es, clk, he, rfl⟩, hset, _⟩ := hs.at_ hk
 have hb := (hg.perm hp).own b (.map es clk) (by simp)
 have hlt : b < w.heap.size := (Array.getElem?_eq_some_iff.1 hb).1
 have hc : (Instr.checkKey false 10000 kt (K key)).run P w = .ok () w := MapKept.run_checkKey hkt (hK.is key) _ 9999
 have hf : Instr.findNow D (K key) es.toList 0 = some none := by
  rcases findNow_kv hK key kv es.toList 0 he with ⟨_, h⟩ | ⟨j, v, h, _⟩
  ·exact h
  ·rw [hno] at h; cases h
 refine ⟨{ w with heap := w.heap.setIfInBounds b (.map (es.push { key := K key, val := val, born := clk }) (clk + 1)) }, ?_, ?_⟩
 ·simp [Instr.mapUpdate, run_underlying ht, MapKept.run_getObj_map hb, hc, MapKept.run_findKey hkt hf, MapKept.run_setObj_map _ hb, Result.andThen]
 ·-- the block is written
  have hS0 : Sat B w I (As.set k (own b (.map es clk))) := by
   obtain ⟨g', hs', hp'⟩ := hset (own b (.map es clk)) [(b, .map es clk)] rfl
   exact ⟨g', hs', hg.perm (hp.trans hp'.symm)⟩
  have hkl : k < As.length := (List.getElem?_eq_some_iff.1 hk).1
  have hw := hS0.write (k := k) (b := b) (o := .map es clk) (w' := { w with heap := w.heap.setIfInBounds b (.map (es.push { key := K key, val := val, born := clk }) (clk + 1)) }) (o' := .map (es.push { key := K key, val := val, born := clk }) (clk + 1)) (by simp [hkl]) rfl rfl rfl (MapKept.heap_set hb).1 (fun c hc => (MapKept.heap_set hb).2 c hc)
  have hf2 := hw.say (k := k) (A := own b (.map (es.push { key := K key, val := val, born := clk }) (clk + 1))) (A' := mapA K b (kv ++ [(key, val)])) (by simp [hkl]) fun g hg => ⟨_, _, by
   unfold kvOf at he ⊢
   rw [Array.toList_push, List.map_append, List.map_append, he]
   rfl, hg⟩
  simpa using hf2
theorem WL.mput [BEq β] [LawfulBEq β] {val : Value} {key : β} (hK : KeyK D K) (hS : Sat B w I As) (hk : As[k]? = some (mapA K b kv)) (hx : Ev n L x (.map (some b))) (hy : Ev n L y (K key)) (hz : Ev n L z val) (hno : kv.lookup key = none) (ht : P.underlying t = some (.map kt et)) (hkt : P.underlying kt = some D)
  (h : ∀ w', Sat B w' I (As.set k (mapA K b (kv ++ [(key, val)]))) → WL P n ops K' rest L w') : WL P n ops K' (⟨none, .mapUpdate t x y z, ty, pos, af, none⟩ :: rest) L w := by
 obtain ⟨w', hr, hS'⟩ := mput_run (val := val) hK hS hk hno ht hkt
 refine WL.st (w' := w') (fun a ha => ?_) (h _ hS')
 simp [execOp, hx a ha, hy a ha, hz a ha, hr]
theorem WL.mins [BEq β] [LawfulBEq β] {val : Value} {key : β} (hK : KeyK D K) (hS : Sat B w I As) (hk : As[k]? = some (mapA K b kv)) (hx : Ev n L x (.map (some b))) (hy : Ev n L y (K key)) (hz : Ev n L z val) (hno : kv.lookup key = none) (ht : P.underlying t = some (.map kt et)) (hkt : P.underlying kt = some D)
  (h : ∀ w', Sat B w' I (As.set k (mapA K b (kv ++ [(key, val)]))) → WL P n ops K' rest L w') : WL P n ops K' (⟨none, .insert t x y z, ty, pos, af, none⟩ :: rest) L w := by
 obtain ⟨w', hr, hS'⟩ := mput_run (val := val) hK hS hk hno ht hkt
 refine WL.st (w' := w') (fun a ha => ?_) (h _ hS')
 simp [execOp, hx a ha, hy a ha, hz a ha, hr]
theorem Sat.freezeMap (hS : Sat B w I As) (hk : As[k]? = some (mapA K b kv)) : ∃ J, Le I J ∧ MapI J K b kv ∧ Sat B w J (As.eraseIdx k) := by
 have hkl : k < As.length := (List.getElem?_eq_some_iff.1 hk).1
 obtain ⟨⟨⟨es, clk⟩, he⟩, hS2⟩ := hS.opened (X := { x : Array MapEntry × Nat // kvOf K kv x.1 }) (T := fun x => own b (.map x.1.1 x.1.2)) hk fun g hg => by
  obtain ⟨es, clk, he, rfl⟩ := hg
  exact ⟨⟨(es, clk), he⟩, rfl⟩
 obtain ⟨J, h1, h2, h3⟩ := hS2.freeze (k := k) (b := b) (o := .map es clk) (by simp [hkl])
 rw [List.eraseIdx_set_eq] at h3
 exact ⟨J, h1, ⟨es, clk, he, h2⟩, h3⟩
end
end Gk
namespace Gk
set_option linter.unusedVariables false
set_option linter.unusedSimpArgs false
open Go
def rowsC {α : Type} (cells : α → List Value) (l : List α) : List Value := (l.map cells).flatten
theorem rowsC_get {α : Type} {cells : α → List Value} {s : Nat} (hc : ∀ x, (cells x).length = s) {l : List α} {i j : Nat} {r : α} {v : Value} (hr : l[i]? = some r) (hj : (cells r)[j]? = some v) : (rowsC cells l)[i * s + j]? = some v := by
 have hjs : j < s := by rw [← hc r]; exact (List.getElem?_eq_some_iff.1 hj).1
 have h2 := rowsF_get (l.map cells) (fun c h => by obtain ⟨x, _, rfl⟩ := List.mem_map.1 h; exact hc x) i j hjs
 rw [List.getElem?_map, hr] at h2
 exact h2.trans hj
theorem rowsC_snoc {α : Type} (cells : α → List Value) (l : List α) (x : α) : rowsC cells (l ++ [x]) = rowsC cells l ++ cells x := by simp [rowsC]
def RowsW {α : Type} (w : World) (cells : α → List Value) (s : Nat) (a : Option Addr) (l : List α) : Prop := ∀ (i : Nat) (r : α), l[i]? = some r → ∃ p, a = some p ∧ ∀ (j : Nat) v, (cells r)[j]? = some v → w.cell? ((p.add (i * s)).add j) = some v
section
variable {P : Program} {n : Nat} {K : Kont} {L : Env} {w B : World} {ops : Array Oper} {rest : List Oper} {I : Im} {As : List Assn} {k : Nat} {ty t t' E : TypeId} {x y : Operand} {pos : String} {af : Array Edge} {g : Option (Nat × Bool)} {v : Value}
theorem rows_rs {α : Type} {cells : α → List Value} {s : Nat} {a : Option Addr} {l : List α} (hc : ∀ x, (cells x).length = s) (hS : Sat B w I As) (hR : RS I a s l.length (rowsC cells l)) : RowsW w cells s a l := fun i r hr => by
 obtain ⟨p, rfl, hA⟩ := hR.2 (by have := (List.getElem?_eq_some_iff.1 hr).1; omega)
 refine ⟨p, rfl, fun j v hj => ?_⟩
 rw [Addr.add_add]
 exact cell_at hS hA (rowsC_get hc hr hj)
theorem Ex.ldR {d : Option Nat} {p : Addr} {s : Nat} {vs : List Value} (hx : Ev n L x (.pointer (some p))) (hv : ∀ (j : Nat) v, vs[j]? = some v → w.cell? (p.add j) = some v) (ht : ∀ w, (isAgg t).run P w = .ok true w) (hs : ∀ w, (Go.sizeOf t).run P w = .ok s w)
  (hl : vs.length = s) : Ex P n L w ⟨d, .load t x, ty, pos, af, g⟩ (.agg vs.toArray) w := fun a ha => by
 have h := run_loadCells_list (P := P) w p vs hv
 rw [hl] at h
 simp [execOp, hx a ha, Instr.loadAt, Instr.sureAddr, loadVar, ht, hs, h]
theorem Ex.ld1 {d : Option Nat} {p : Addr} {v : Value} (hx : Ev n L x (.pointer (some p))) (hv : w.cell? p = some v) (ht : ∀ w, (isAgg t).run P w = .ok false w) : Ex P n L w ⟨d, .load t x, ty, pos, af, g⟩ v w := fun a hh => by
 simp [execOp, hx a hh, Instr.loadAt, Instr.sureAddr, loadVar, ht, load, Sem.run, hv]
theorem WL.appendF {d E size m c nn : Nat} {a : Option Addr} {v : Value} {xs ys : List Value} {i : TypeInfo} {z : Value} {bytes : Nat} (hS : Sat B w I As) (hx : Ev n L x v) (hy : Ev n L y (.slice a m c)) (hr : RS I a size m ys)
  (hk : As[k]? = some (Vec E size v nn xs)) (ht : P.underlying t = some (.slice E)) (hi : P.info? E = some i) (hz : i.zero = some z) (hsize : i.size = size) (hby : i.bytes = bytes) (hzs : z.cells.size = size)
  (h1 : ys.all Value.oneCell' = true) (h63 : (nn + m) * bytes ≤ 140737488355328 ∧ nn + m ≤ maxLen) (hd : Nat.blt d n = true)
  (h : ∀ v' w', Sat B w' I (As.set k (Vec E size v' (nn + m) (xs ++ ys))) → WL P n ops K rest ((d, v') :: L) w') :
  WL P n ops K (⟨some d, .call ⟨.builtin .append, #[x, y], #[t, t]⟩, ty, pos, af, none⟩ :: rest) L w := by
 rcases Nat.eq_zero_or_pos m with h0 | h0
 ·subst h0
  have hy0 : ys = [] := List.eq_nil_of_length_eq_zero (by simpa using hr.1)
  subst hy0
  obtain ⟨a0, c0, rfl, hc0, _⟩ := hS.vecSlice hk
  have hr : (Builtin.append_ #[t, t] ty #[.slice a0 nn c0, .slice a 0 c]).run P w = .ok (.slice a0 nn c0) w := by
   subst hsize
   cases a0 <;> cases a <;> simp [Builtin.append_, run_underlying ht, Go.sizeOf, typeInfo, hi, Builtin.lenOf, Builtin.firstCells, loadCells, loadCellsFrom, storeCells, hc0]
  have h2 := h (.slice a0 nn c0) w (by
   have hlk : k < As.length := (List.getElem?_eq_some_iff.1 hk).1
   have : As.set k (Vec E size (.slice a0 nn c0) (nn + 0) (xs ++ [])) = As := by
    rw [Nat.add_zero, List.append_nil]
    have := (List.getElem?_eq_some_iff.1 hk).2
    rw [← this, List.set_getElem_self]
   rw [this]; exact hS)
  exact WL.val (w' := w) (fun a' ha => by simp [execOp, resolve, invoke, builtin, hx a' ha, hy a' ha, hr]) hd h2
 ·obtain ⟨p, rfl, hA⟩ := hr.2 h0
  obtain ⟨v', w', hr', hS'⟩ := run_append_vec (P := P) (ty := ty) hS ht hi hz hsize hby hzs hk (p := p) (m := m) (c := c) hr.1 h0 (fun q u hu => cell_at hS hA hu) (List.all_eq_true.1 h1) h63.2 h63.1
  exact WL.val (w' := w') (fun a' ha => by simp [execOp, resolve, invoke, builtin, hx a' ha, hy a' ha, hr']) hd (h _ _ hS')
theorem Ex.fieldV {d : Option Nat} {f off : Nat} {fs : Array Field} {fd : Field} {cs : List Value} {v : Value} (hx : Ev n L x (.agg cs.toArray)) (ht : P.underlying t = some (.struct fs)) (hf : fs[f]? = some fd) (ho : fd.offset = off) (hs : ∀ w, (isAgg fd.type).run P w = .ok false w) (hv : cs[off]? = some v) : Ex P n L w ⟨d, .field t x f, ty, pos, af, g⟩ v w := fun a ha => by
 subst ho
 simp [execOp, hx a ha, Instr.field, run_underlying ht, hf, asAgg, part, hs, hv]
end
end Gk
namespace Go.Proofs.YtadhiihnnkcagaaGreatDoor
open Gk Ul Pc Tk Tr
set_option linter.unusedVariables false
set_option linter.unusedSimpArgs false
abbrev Pr := List UInt8 × List UInt8
def prCells (p : Pr) : List Value := [S p.1, S p.2]
theorem pr_one (l : List Pr) : (rowsC prCells l).all Value.oneCell' = true := by
 unfold rowsC
 induction l with
 | nil => rfl
 | cons p l ih => rw [List.map_cons, List.flatten_cons, List.all_append, ih]; rfl
structure Us where
 name : List UInt8
 pw : List UInt8
 attrs : List Pr
def usCells (u : Us) (a : Option Addr) (c : Nat) : List Value := [S u.name, S u.pw, .slice a u.attrs.length c]
def UsAt (I : Im) (u : Us) (l : List Value) : Prop := ∃ a c, l = usCells u a c ∧ u.attrs.length ≤ c ∧ RS I a 2 u.attrs.length (rowsC prCells u.attrs)
theorem UsAt.mono {I J : Im} {u : Us} {l : List Value} (h : UsAt I u l) (hl : Le I J) : UsAt J u l := by
 obtain ⟨a, c, e, h1, h2⟩ := h
 exact ⟨a, c, e, h1, h2.mono hl⟩
def badW (i : Nat) (c : UInt8) : Bool := !letC c && (((i : Int) == 0) || (((decide ((c.toNat : Int) < 48) || decide ((57 : Int) < (c.toNat : Int))) && ((c.toNat : Int) != 45)) && ((c.toNat : Int) != 95)))
def wordG : List UInt8 → Nat → Bool
 | [], _ => true
 | c :: r, i => !badW i c && wordG r (i + 1)
theorem wordG_iff : ∀ (s : List UInt8) (k : Nat), wordG s k = true ↔ ∀ (j : Nat) c, s[j]? = some c → badW (k + j) c = false
 | [], k => by simp [wordG]
 | c :: r, k => by
  rw [wordG, Bool.and_eq_true, wordG_iff r (k + 1)]
  constructor
  ·rintro ⟨h1, h2⟩ j d hd
   cases j with
   | zero => simp at hd; subst hd; simpa using h1
   | succ j => rw [show k + (j + 1) = k + 1 + j by omega]; exact h2 j d (by simpa using hd)
  ·intro h
   refine ⟨by simpa using h 0 c rfl, fun j d hd => ?_⟩
   rw [show k + 1 + j = k + (j + 1) by omega]
   exact h (j + 1) d (by simpa using hd)
def wordT (s : List UInt8) : Bool := wordG s 0 && (!(s == []) && decide ((s.length : Int) ≤ 60))
def badP (p : Pr) : Bool := !wordT p.1 || !withinT p.2 32 0 60
def userR (u : Us) : Bool := withinT u.name 33 1 32 && decide ((1 : Int) ≤ (u.pw.length : Int)) && decide ((u.pw.length : Int) ≤ 60) && decide ((u.attrs.length : Int) ≤ 8) && !u.attrs.any badP
def fitsP (p : Pr) : Prop := p.1.length ≤ maxLen ∧ p.2.length ≤ maxLen
theorem word_any (s : List UInt8) (hs : s.length ≤ 9223372036854775807) (B w : World) (I : Im) (As : List Assn) (hS : Sat B w I As) :
  Calls Tryz.prog 175 [S s].toArray w (Ret fun v w' => v = .bool (wordT s) ∧ Sat B w' I As) := by
 refine calls Tryz.func175 rfl Tryz.ntmps175 rfl (.seq (.region (.run 1 rfl trivial (.nil (.seq (.seq (.region (.run 3 rfl ⟨Tryz.underlying9, trivial⟩ (.nil (.block (.loop (σ := Nat) (fun i => [(0, S s), (6, I64 (s.length : Nat)), (7, I64 (i : Nat))]) (fun i w => i ≤ s.length ∧ (∀ (j : Nat) c, j < i → s[j]? = some c → badW j c = false) ∧ Sat B w I As) (fun i => s.length - i) 0 ⟨rfl, rfl, rfl, trivial⟩ ⟨Nat.zero_le _, fun _ _ h => absurd h (by omega), hS⟩ ?_)))))))))))
 rintro i w ⟨hi, hno, hS⟩
 change WC _ _ _ _ [(0, S s), (6, I64 (s.length : Nat)), (7, I64 (i : Nat))] w
 refine .seq (.region (.run 1 rfl trivial (.nil (.seq ?_))))
 refine WC.cond rfl (fun hb8 => ?_) (fun hb8 => ?_)
 ·
  have hc8 := hb8; try simp only [Gk.cs0] at hc8
  refine .skip (.seq (.block (.seq (.region (.run 2 rfl trivial (.nil (.seq (.region (.run 4 rfl ⟨⟨⟨by omega, by omega⟩, Tryz.underlying9⟩, trivial⟩ (.nil (.seq (.region (.run 1 rfl trivial (.call Tryz.func202 rfl (evs_cons (.of rfl) evs_nil) rfl (letter_any _ w) ?_))))))))))))))
  rintro _ _ ⟨rfl, rfl⟩
  refine .run 2 rfl trivial (.gval rfl rfl (fun hg1 => (.move (.of rfl))) rfl (.gval rfl rfl (fun hg1 => (.eql (.gd hg1 rfl) (.of rfl))) rfl (.gval rfl rfl (fun hg1 => (.move (.gd hg1 rfl))) rfl (.gval2 rfl rfl rfl (fun hg1 hg2 => (.move (.of rfl))) rfl (.gval2 rfl rfl rfl (fun hg1 hg2 => (.lss (.gd2 hg1 hg2 rfl) (.of rfl))) rfl (.gval2 rfl rfl rfl (fun hg1 hg2 => (.move (.gd2 hg1 hg2 rfl))) rfl (.gval3 rfl rfl rfl (fun hg1 hg2 hg3 => (.move (.of rfl))) rfl (.gval3 rfl rfl rfl (fun hg1 hg2 hg3 => (.gtr (.gd3 hg1 hg2 hg3 rfl) (.of rfl))) rfl (.gval2 rfl rfl rfl (fun hg1 hg2 => (.por (.gd2 hg1 hg2 rfl) (.of rfl) (.gd2 hg1 hg2 rfl))) rfl (.gval2 rfl rfl rfl (fun hg1 hg2 => (.move (.gd2 hg1 hg2 rfl))) rfl (.gval3 rfl rfl rfl (fun hg1 hg2 hg3 => (.move (.of rfl))) rfl (.gval3 rfl rfl rfl (fun hg1 hg2 hg3 => (.neq (.gd3 hg1 hg2 hg3 rfl) (.of rfl))) rfl (.gval2 rfl rfl rfl (fun hg1 hg2 => (.pand (.gd2 hg1 hg2 rfl) (.gd2 hg1 hg2 rfl) (.of rfl))) rfl (.gval2 rfl rfl rfl (fun hg1 hg2 => (.move (.gd2 hg1 hg2 rfl))) rfl (.gval3 rfl rfl rfl (fun hg1 hg2 hg3 => (.move (.of rfl))) rfl (.gval3 rfl rfl rfl (fun hg1 hg2 hg3 => (.neq (.gd3 hg1 hg2 hg3 rfl) (.of rfl))) rfl (.gval2 rfl rfl rfl (fun hg1 hg2 => (.pand (.gd2 hg1 hg2 rfl) (.gd2 hg1 hg2 rfl) (.of rfl))) rfl (.gval rfl rfl (fun hg1 => (.por (.gd hg1 rfl) (.of rfl) (.gd hg1 rfl))) rfl (.val (.pand (.of rfl) (.of rfl) (.of rfl)) rfl (.nil ?_))))))))))))))))))))
  refine WC.cond rfl (fun hb35 => ?_) (fun hb35 => ?_)
  ·
   have hc35 := hb35; try simp only [Gk.cs0] at hc35
   refine .seq (.region (.run 1 rfl trivial (.nil (.ret (ret1 Tryz.results175 rfl ?_)))))
   refine ⟨_, rfl, congrArg Value.bool ?_, hS⟩
   have : wordG s 0 = false := by
    cases h : wordG s 0 with
    | false => rfl
    | true =>
     have h1 := (wordG_iff s 0).1 h i _ (at_some (show i < s.length by omega))
     rw [Nat.zero_add] at h1
     exact absurd (hb35.symm.trans h1) (by decide)
   rw [wordT, this]; rfl
  have hc35 := hb35; try simp only [Gk.cs0] at hc35
  refine .skip (.region (.run 2 rfl ⟨⟨by omega, by omega⟩, trivial⟩ (.nil ?_)))
  refine ⟨i + 1, ⟨rfl, rfl, rfl, trivial⟩, ⟨by (try dsimp only); omega, fun j c hj hc => ?_, hS⟩, by (try dsimp only); omega⟩
  rcases Nat.lt_or_ge j i with h1 | h1
  ·exact hno j c h1 hc
  ·have e : j = i := by omega
   subst e
   rw [at_some (show j < s.length by omega)] at hc; cases hc
   exact hb35
 have hc8 := hb8; try simp only [Gk.cs0] at hc8
 refine .exit (.seq (.region (.run 3 rfl trivial (.gval rfl rfl (fun hg1 => (.move (.of rfl))) rfl (.gval rfl rfl (fun hg1 => (.len (.gd hg1 rfl) Tryz.underlying9)) rfl (.gval rfl rfl (fun hg1 => (.leq (.gd hg1 rfl) (.of rfl))) rfl (.val (.pand (.of rfl) (.of rfl) (.of rfl)) rfl (.run 1 rfl trivial (.nil (.ret (ret1 Tryz.results175 rfl ?_)))))))))))
 refine ⟨_, rfl, congrArg Value.bool ?_, hS⟩
 have : wordG s 0 = true := (wordG_iff s 0).2 fun j c hc => by
  have := (List.getElem?_eq_some_iff.1 hc).1
  rw [Nat.zero_add]; exact hno j c (by omega) hc
 rw [wordT, this]
 simp
theorem badP_any (p : Pr) (hp : fitsP p) (B w : World) (I : Im) (As : List Assn) (hS : Sat B w I As) :
  Calls Tryz.prog 174 [.agg (prCells p).toArray].toArray w (Ret fun v w' => v = .bool (badP p) ∧ Sat B w' I As) := by
 refine calls Tryz.func174 rfl Tryz.ntmps174 rfl (.seq (.region (.boxA (cs := [_, _]) hS (.of rfl) rfl ?_)))
 clear hS; intro b1 w hS
 refine .run 1 rfl trivial (.nil (.seq (.region ?_)))
 first | refine WL.val (.fieldAddr 0 (.of rfl) Tryz.underlying69 rfl rfl Tryz.sizeOf9 rfl) rfl ?_ | refine WL.val (.fieldAddrI 0 (.of rfl) Tryz.underlying69 rfl rfl Tryz.sizeOf9 rfl) rfl ?_
 first | refine WL.val (.ld (.of rfl) hS (k := 0) rfl Tryz.isAgg9 rfl) rfl ?_ | refine WL.val (.ld (.of rfl) hS (k := 1) rfl Tryz.isAgg9 rfl) rfl ?_
 refine .call Tryz.func175 rfl (evs_cons (.of rfl) evs_nil) rfl (word_any p.1 hp.1 B _ I _ hS) ?_
 clear hS
 rintro _ w ⟨rfl, hS⟩
 refine .run 2 rfl trivial ?_
 refine WL.gval rfl rfl (fun hg1 => (by first | exact .fieldAddr 1 (.of rfl) Tryz.underlying69 rfl rfl Tryz.sizeOf9 rfl | exact .fieldAddrI 1 (.of rfl) Tryz.underlying69 rfl rfl Tryz.sizeOf9 rfl)) rfl ?_
 refine WL.gval rfl rfl (fun hg1 => (by first | exact (.ld (.gd hg1 rfl) hS (k := 0) rfl Tryz.isAgg9 rfl) | exact (.ld (.gd hg1 rfl) hS (k := 1) rfl Tryz.isAgg9 rfl))) rfl ?_
 refine .gcall (T := fun w => Sat B w I (blk b1 [S p.1, S p.2] 69 :: As)) rfl rfl rfl Tryz.func176 rfl (fun hg1 => (evs_cons (.gd hg1 rfl) (evs_cons (.of rfl) (evs_cons (.of rfl) (evs_cons (.of rfl) evs_nil))))) rfl (fun hg1 => within_any p.2 32 0 60 hp.2 B _ I _ hS) hS ?_
 clear hS; rintro w hS
 refine .gval rfl rfl (fun hg1 => (.not (.gd hg1 rfl))) rfl (.val (.por (.of rfl) (.of rfl) (.of rfl)) rfl (.run 1 rfl trivial (.nil (.ret (ret1 Tryz.results174 rfl ?_)))))
 exact ⟨_, rfl, rfl, hS.drop (k := 0) rfl⟩
theorem IndexFuncP_any (a : Option Addr) (cap : Nat) (l : List (Pr)) (hln : l.length ≤ 9223372036854775807) (pr : Pr → Bool) (fid : FuncId) (fn : Func) (hfn : Tryz.prog.funcs[fid]? = some fn) (hcal : callable fn = true) (capv : List Value) (B w : World) (I : Im) (As : List Assn) (hE : ∀ w, Sat B w I As → RowsW w prCells 2 a l) (hf : ∀ (r : Pr) (hr : r ∈ l) w, Sat B w I As → Calls Tryz.prog fid ([Value.agg (prCells r).toArray] ++ capv).toArray w (Ret fun v w' => v = .bool (pr r) ∧ Sat B w' I As)) (hS : Sat B w I As) :
  Calls Tryz.prog 203 [.slice a l.length cap, .func (.func fid) #[] capv.toArray].toArray w (Ret fun v w' => v = I64 (firstR pr l 0) ∧ Sat B w' I As) := by
 refine calls Tryz.func203 rfl Tryz.ntmps203 rfl (.seq (.region (.run 1 rfl trivial (.nil (.seq (.seq (.region (.run 3 rfl ⟨⟨_, Tryz.underlying54⟩, trivial⟩ (.nil (.block (.loop (σ := Nat) (fun i => [(0, .slice a l.length cap), (1, .func (.func fid) #[] capv.toArray), (7, I64 (l.length : Nat)), (8, I64 (i : Nat))]) (fun i w => i ≤ l.length ∧ (∀ (j : Nat) t, j < i → l[j]? = some t → pr t = false) ∧ Sat B w I As) (fun i => l.length - i) 0 ⟨rfl, rfl, rfl, rfl, trivial⟩ ⟨Nat.zero_le _, fun _ _ h => absurd h (by omega), hS⟩ ?_)))))))))))
 rintro i w ⟨hi, hno, hS⟩
 change WC _ _ _ _ [(0, .slice a l.length cap), (1, .func (.func fid) #[] capv.toArray), (7, I64 (l.length : Nat)), (8, I64 (i : Nat))] w
 refine .seq (.region (.run 1 rfl trivial (.nil (.seq ?_))))
 refine WC.cond rfl (fun hb9 => ?_) (fun hb9 => ?_)
 ·
  have hc9 := hb9; try simp only [Gk.cs0] at hc9
  refine .skip (.seq (.block (.seq ?_)))
  obtain ⟨r, hr⟩ : ∃ r, l[i]? = some r := ⟨_, List.getElem?_eq_getElem (by omega)⟩
  obtain ⟨p, rfl, hx⟩ := hE w hS i r hr
  refine .region (.run 2 rfl trivial (.nil (.seq (.region (.run 3 rfl trivial ?_)))))
  first | refine WL.val (.indexAddr (.of rfl) (.of rfl) (by omega) (by omega) Tryz.underlying54 Tryz.sizeOf69) rfl ?_ | refine WL.val (.indexAddrI (.of rfl) (.of rfl) (by omega) (by omega) Tryz.underlying54 Tryz.sizeOf69) rfl ?_
  refine .val (.ldR (.of rfl) hx Tryz.isAgg69 Tryz.sizeOf69 rfl) rfl (.vcall (cap := capv) hfn hcal (.of rfl) (evs_cons (.of rfl) evs_nil) rfl (hf r (List.mem_of_getElem? hr) w hS) ?_)
  clear hS
  rintro _ w ⟨rfl, hS⟩
  refine .nil ?_
  refine WC.cond rfl (fun hb16 => ?_) (fun hb16 => ?_)
  ·
   have hc16 := hb16; try simp only [Gk.cs0] at hc16
   refine .seq (.region (.run 2 rfl trivial (.nil (.ret (ret1 Tryz.results203 rfl ?_)))))
   exact ⟨_, rfl, by rw [firstR_hit hno hr hb16], hS⟩
  have hc16 := hb16; try simp only [Gk.cs0] at hc16
  refine .skip (.region (.run 2 rfl ⟨⟨by omega, by omega⟩, trivial⟩ (.nil ?_)))
  refine ⟨i + 1, ⟨rfl, rfl, rfl, rfl, trivial⟩, ⟨by (try dsimp only); omega, fun j t hj ht => ?_, hS⟩, by (try dsimp only); omega⟩
  rcases Nat.lt_or_ge j i with h1 | h1
  ·exact hno j t h1 ht
  ·have e : j = i := by omega
   subst e
   rw [hr] at ht; cases ht
   exact hb16
 have hc9 := hb9; try simp only [Gk.cs0] at hc9
 refine .exit (.seq (.region (.run 1 rfl trivial (.nil (.ret (ret1 Tryz.results203 rfl ?_))))))
 exact ⟨_, rfl, by rw [firstR_none (fun j t ht => hno j t (by have := (List.getElem?_eq_some_iff.1 ht).1; omega) ht)], hS⟩
theorem ContainsFuncP_any (a : Option Addr) (cap : Nat) (l : List (Pr)) (hln : l.length ≤ 9223372036854775807) (pr : Pr → Bool) (fid : FuncId) (fn : Func) (hfn : Tryz.prog.funcs[fid]? = some fn) (hcal : callable fn = true) (capv : List Value) (B w : World) (I : Im) (As : List Assn) (hE : ∀ w, Sat B w I As → RowsW w prCells 2 a l) (hf : ∀ (r : Pr) (hr : r ∈ l) w, Sat B w I As → Calls Tryz.prog fid ([Value.agg (prCells r).toArray] ++ capv).toArray w (Ret fun v w' => v = .bool (pr r) ∧ Sat B w' I As)) (hS : Sat B w I As) :
  Calls Tryz.prog 177 [.slice a l.length cap, .func (.func fid) #[] capv.toArray].toArray w (Ret fun v w' => v = .bool (l.any pr) ∧ Sat B w' I As) := by
 refine calls Tryz.func177 rfl Tryz.ntmps177 rfl (.seq (.region (.run 1 rfl trivial (.nil (.seq (.region (.run 2 rfl trivial (.call Tryz.func203 rfl (evs_cons (.of rfl) (evs_cons (.of rfl) evs_nil)) rfl (IndexFuncP_any a cap l hln pr fid fn hfn hcal capv B _ I As hE hf hS) ?_))))))))
 clear hS
 rintro _ w ⟨rfl, hS⟩
 refine .run 2 rfl trivial (.nil (.ret (ret1 Tryz.results177 rfl ?_)))
 exact ⟨_, rfl, by rw [← firstR_any pr l 0], hS⟩
theorem CloneP_any (a : Option Addr) (c : Nat) (l : List (Pr)) (hl : l.length ≤ 1000000) (B w : World) (I : Im) (hR : RS I a 2 l.length (rowsC prCells l)) (As : List Assn) (hS : Sat B w I As) :
  Calls Tryz.prog 133 [.slice a l.length c].toArray w (Ret fun v w' => ∃ J ra rc, v = .slice ra l.length rc ∧ Le I J ∧ l.length ≤ rc ∧ RS J ra 2 l.length (rowsC prCells l) ∧ Sat B w' J As) := by
 refine calls Tryz.func133 rfl Tryz.ntmps133 rfl (.seq (.region (.run 1 rfl trivial (.nil (.seq (.seq (.region (.run 1 rfl trivial (.val (Ex.slNil (.of rfl) (.of rfl) Tryz.underlying54) rfl (.nil ?_))))))))))
 refine WC.cond rfl (fun hb4 => ?_) (fun hb4 => ?_)
 ·
  have hc4 := hb4; try simp only [Gk.cs0] at hc4
  refine .seq (.region (.run 1 rfl trivial (.nil (.ret (ret1 Tryz.results133 rfl ?_)))))
  cases a with
  | some p => simp at hb4
  | none =>
  have h0 : l = [] := by
   cases l with
   | nil => rfl
   | cons x l => obtain ⟨p, h, _⟩ := hR.2 (by simp); cases h
  subst h0
  exact ⟨_, rfl, I, none, 0, rfl, Le.refl _, Nat.le_refl _, ⟨rfl, fun h => absurd h (by simp)⟩, hS⟩
 have hc4 := hb4; try simp only [Gk.cs0] at hc4
 refine .skip (.seq (.region (.buildSlice (cs := []) hS parts_nil Tryz.underlying54 Tryz.sizeOf69 Tryz.zeroValue69 rfl rfl rfl rfl ?_)))
 clear hS; intro b5 w hS
 refine .run 1 rfl trivial ?_
 replace hS := hS.vecOf (k := 0) (E := 69) (size := 2) (n := 0) rfl rfl (Nat.zero_le _)
 try dsimp only [List.set] at hS
 refine WL.appendF (size := 2) (bytes := 32) hS (.of rfl) (.of rfl) hR (k := 0) rfl Tryz.underlying54 (i := Tryz.t69) (by kernel_rfl) rfl rfl rfl rfl (pr_one l) ⟨by omega, by unfold maxLen; omega⟩ rfl ?_
 clear hS; intro v7 w hS
 rw [Nat.zero_add, List.nil_append] at hS
 refine .run 1 rfl trivial (.nil (.ret (ret1 Tryz.results133 rfl ?_)))
 obtain ⟨ra, rc, rfl, hrc, _⟩ := hS.vecSlice (k := 0) rfl
 obtain ⟨J, hJ, hRS, hS⟩ := hS.freezeVec (k := 0) rfl
 exact ⟨_, rfl, J, ra, rc, rfl, hJ, hrc, hRS, hS⟩
theorem userR_any (u : Us) (a : Option Addr) (c : Nat) (hn : u.name.length ≤ 9223372036854775807) (hal : u.attrs.length ≤ 9223372036854775807) (hA : ∀ p ∈ u.attrs, fitsP p) (B w : World) (I : Im) (hR : RS I a 2 u.attrs.length (rowsC prCells u.attrs)) (As : List Assn) (hS : Sat B w I As) :
  Calls Tryz.prog 132 [.agg (usCells u a c).toArray].toArray w (Ret fun v w' => v = .bool (userR u) ∧ Sat B w' I As) := by
 refine calls Tryz.func132 rfl Tryz.ntmps132 rfl (.seq (.region (.boxA (cs := [_, _, _]) hS (.of rfl) rfl ?_)))
 clear hS; intro b1 w hS
 refine .run 1 rfl trivial (.nil (.seq (.region (.run 1 rfl trivial (.nil (.seq (.region ?_)))))))
 first | refine WL.val (.fieldAddr 0 (.of rfl) Tryz.underlying67 rfl rfl Tryz.sizeOf9 rfl) rfl ?_ | refine WL.val (.fieldAddrI 0 (.of rfl) Tryz.underlying67 rfl rfl Tryz.sizeOf9 rfl) rfl ?_
 first | refine WL.val (.ld (.of rfl) hS (k := 0) rfl Tryz.isAgg9 rfl) rfl ?_ | refine WL.val (.ld (.of rfl) hS (k := 1) rfl Tryz.isAgg9 rfl) rfl ?_
 refine .call Tryz.func176 rfl (evs_cons (.of rfl) (evs_cons (.of rfl) (evs_cons (.of rfl) (evs_cons (.of rfl) evs_nil)))) rfl (within_any u.name 33 1 32 hn B _ I _ hS) ?_
 clear hS
 rintro _ w ⟨rfl, hS⟩
 refine .run 1 rfl trivial ?_
 refine WL.gval rfl rfl (fun hg1 => (by first | exact .fieldAddr 1 (.of rfl) Tryz.underlying67 rfl rfl Tryz.sizeOf9 rfl | exact .fieldAddrI 1 (.of rfl) Tryz.underlying67 rfl rfl Tryz.sizeOf9 rfl)) rfl ?_
 refine WL.gval rfl rfl (fun hg1 => (by first | exact (.ld (.gd hg1 rfl) hS (k := 0) rfl Tryz.isAgg9 rfl) | exact (.ld (.gd hg1 rfl) hS (k := 1) rfl Tryz.isAgg9 rfl))) rfl ?_
 refine .gval rfl rfl (fun hg1 => (.len (.gd hg1 rfl) Tryz.underlying9)) rfl (.gval rfl rfl (fun hg1 => (.geq (.gd hg1 rfl) (.of rfl))) rfl (.val (.pand (.of rfl) (.of rfl) (.of rfl)) rfl (.run 1 rfl trivial ?_)))
 refine WL.gval rfl rfl (fun hg1 => (by first | exact .fieldAddr 1 (.of rfl) Tryz.underlying67 rfl rfl Tryz.sizeOf9 rfl | exact .fieldAddrI 1 (.of rfl) Tryz.underlying67 rfl rfl Tryz.sizeOf9 rfl)) rfl ?_
 refine WL.gval rfl rfl (fun hg1 => (by first | exact (.ld (.gd hg1 rfl) hS (k := 0) rfl Tryz.isAgg9 rfl) | exact (.ld (.gd hg1 rfl) hS (k := 1) rfl Tryz.isAgg9 rfl))) rfl ?_
 refine .gval rfl rfl (fun hg1 => (.len (.gd hg1 rfl) Tryz.underlying9)) rfl (.gval rfl rfl (fun hg1 => (.leq (.gd hg1 rfl) (.of rfl))) rfl (.val (.pand (.of rfl) (.of rfl) (.of rfl)) rfl (.run 1 rfl trivial ?_)))
 refine WL.gval rfl rfl (fun hg1 => (by first | exact .fieldAddr 2 (.of rfl) Tryz.underlying67 rfl rfl Tryz.sizeOf54 rfl | exact .fieldAddrI 2 (.of rfl) Tryz.underlying67 rfl rfl Tryz.sizeOf54 rfl)) rfl ?_
 refine WL.gval rfl rfl (fun hg1 => (by first | exact (.ld (.gd hg1 rfl) hS (k := 0) rfl Tryz.isAgg54 rfl) | exact (.ld (.gd hg1 rfl) hS (k := 1) rfl Tryz.isAgg54 rfl))) rfl ?_
 refine .gval rfl rfl (fun hg1 => (.lenSlice (.gd hg1 rfl) Tryz.underlying54)) rfl (.gval rfl rfl (fun hg1 => (.leq (.gd hg1 rfl) (.of rfl))) rfl (.val (.pand (.of rfl) (.of rfl) (.of rfl)) rfl (.run 1 rfl trivial ?_)))
 refine WL.gval rfl rfl (fun hg1 => (by first | exact .fieldAddr 2 (.of rfl) Tryz.underlying67 rfl rfl Tryz.sizeOf54 rfl | exact .fieldAddrI 2 (.of rfl) Tryz.underlying67 rfl rfl Tryz.sizeOf54 rfl)) rfl ?_
 refine WL.gval rfl rfl (fun hg1 => (by first | exact (.ld (.gd hg1 rfl) hS (k := 0) rfl Tryz.isAgg54 rfl) | exact (.ld (.gd hg1 rfl) hS (k := 1) rfl Tryz.isAgg54 rfl))) rfl ?_
 refine .gval rfl rfl (fun hg1 => (.move (.of rfl))) rfl (.gcall (T := fun w => Sat B w I (blk b1 (usCells u a c) 67 :: As)) rfl rfl rfl Tryz.func177 rfl (fun hg1 => (evs_cons (.gd hg1 rfl) (evs_cons (.gd hg1 rfl) evs_nil))) rfl (fun hg1 => ContainsFuncP_any a c u.attrs (by omega) badP 174 _ Tryz.func174 rfl [] B _ I _ (fun w h => rows_rs (fun _ => rfl) h hR) (fun p hp w h => badP_any p (hA p hp) B w I _ h) hS) hS ?_)
 clear hS; rintro w hS
 refine .gval rfl rfl (fun hg1 => (.not (.gd hg1 rfl))) rfl (.val (.pand (.of rfl) (.of rfl) (.of rfl)) rfl (.run 1 rfl trivial (.nil (.ret (ret1 Tryz.results132 rfl ?_)))))
 exact ⟨_, rfl, rfl, hS.drop (k := 0) rfl⟩
end Go.Proofs.YtadhiihnnkcagaaGreatDoor
namespace Go.Proofs.YtadhiihnnkcagaaGreatDoor
open Gk Ul Pc Tk Tr
set_option linter.unusedVariables false
set_option linter.unusedSimpArgs false
theorem info69_90 : Tryz.prog.info? 69 = some Tryz.t69 := by kernel_rfl
theorem bld179_90 : Bld Tryz.prog 179 [(0, 1)] [.map none] := bld_of Tryz.underlying179 Tryz.zeroValue179 (fun w => by simp [go_sem])
def UsrsAt (I : Im) (a : Option Addr) (l : List Us) : Prop := ∀ (i : Nat) (u : Us), l[i]? = some u → ∃ p ra rc, a = some p ∧ At I (p.add (i * 3)) (usCells u ra rc) ∧ u.attrs.length ≤ rc ∧ RS I ra 2 u.attrs.length (rowsC prCells u.attrs)
theorem UsrsAt.mono {I J : Im} {a : Option Addr} {l : List Us} (h : UsrsAt I a l) (hl : Le I J) : UsrsAt J a l := fun i u hu => by
 obtain ⟨p, ra, rc, e, h1, h2, h3⟩ := h i u hu
 exact ⟨p, ra, rc, e, h1.mono hl, h2, h3.mono hl⟩
structure Us.fits (u : Us) : Prop where
 name : u.name.length ≤ maxLen
 pw : u.pw.length ≤ maxLen
 attrs : u.attrs.length ≤ 9223372036854775807 ∧ ∀ p ∈ u.attrs, fitsP p
def newU : List Us → Nat → List Us → Nat × Nat
 | [], _, _ => (0, 0)
 | u :: r, i, acc => if 16 ≤ i then (5, i) else if userR u = false then (1, i) else if acc.any (fun t => t.name == u.name) then (7, i) else newU r (i + 1) (acc ++ [u])
def KvOf (J : Im) (kv : List (List UInt8 × Value)) (l : List Us) : Prop := kv.length = l.length ∧ ∀ (i : Nat) (u : Us), l[i]? = some u → ∃ cs, kv[i]? = some (u.name, .agg (List.toArray cs)) ∧ UsAt J u cs
theorem KvOf.mono {I J : Im} {kv : List (List UInt8 × Value)} {l : List Us} (h : KvOf I kv l) (hl : Le I J) : KvOf J kv l := ⟨h.1, fun i u hu => by
 obtain ⟨cs, h1, h2⟩ := h.2 i u hu
 exact ⟨cs, h1, h2.mono hl⟩⟩
theorem KvOf.snoc {J : Im} {kv : List (List UInt8 × Value)} {l : List Us} {u : Us} {cs : List Value} (h : KvOf J kv l) (hu : UsAt J u cs) : KvOf J (kv ++ [(u.name, .agg cs.toArray)]) (l ++ [u]) := ⟨by simp [h.1], fun i t ht => by
 rcases Nat.lt_or_ge i l.length with h1 | h1
 ·rw [List.getElem?_append_left h1] at ht
  rw [List.getElem?_append_left (by rw [h.1]; exact h1)]
  exact h.2 i t ht
 ·have h2 := (List.getElem?_eq_some_iff.1 ht).1
  simp only [List.length_append, List.length_cons, List.length_nil] at h2
  have e : i = l.length := by omega
  subst e
  simp at ht; subst ht
  exact ⟨cs, by rw [← h.1]; simp, hu⟩⟩
theorem kv_look {J : Im} (name : List UInt8) : ∀ {kv : List (List UInt8 × Value)} {l : List Us}, KvOf J kv l → (l.find? (fun t => t.name == name) = none ∧ kv.lookup name = none) ∨ ∃ u cs, l.find? (fun t => t.name == name) = some u ∧ kv.lookup name = some (.agg (List.toArray cs)) ∧ UsAt J u cs
 | [], [], _ => .inl ⟨rfl, rfl⟩
 | [], u :: l, h => by have := h.1; simp at this
 | p :: kv, [], h => by have := h.1; simp at this
 | p :: kv, u :: l, h => by
  obtain ⟨cs, h1, h2⟩ := h.2 0 u rfl
  simp at h1; subst h1
  have h3 : KvOf J kv l := ⟨by simpa using h.1, fun i t ht => by simpa using h.2 (i + 1) t (by simpa using ht)⟩
  rw [List.find?_cons]
  by_cases e : u.name = name
  ·subst e
   exact .inr ⟨u, cs, by simp, by simp [List.lookup], h2⟩
  ·have e1 : (u.name == name) = false := beq_eq_false_iff_ne.2 e
   have e2 : (name == u.name) = false := beq_eq_false_iff_ne.2 (Ne.symm e)
   simp only [e1, List.lookup, e2]
   exact kv_look name h3
theorem any_find (l : List Us) (name : List UInt8) : l.any (fun t => t.name == name) = (l.find? (fun t => t.name == name)).isSome := by
 rw [Bool.eq_iff_iff, List.any_eq_true, List.find?_isSome]
def TabAt (J : Im) (tb : Nat) (l : List Us) : Prop := ∃ mb kv, At J (ad tb 0) [.map (some mb)] ∧ MapI J S mb kv ∧ KvOf J kv l
theorem TabAt.mono {I J : Im} {tb : Nat} {l : List Us} (h : TabAt I tb l) (hl : Le I J) : TabAt J tb l := by
 obtain ⟨mb, kv, h1, h2, h3⟩ := h
 exact ⟨mb, kv, h1.mono hl, h2.mono hl, h3.mono hl⟩
theorem at_frozen {J : Im} {b : Nat} {cs : List Value} {E : TypeId} (h : J b = some (cellsO cs E)) : At J (ad b 0) cs := ⟨rfl, _, E, (0, 0), h, fun j v hj => by simpa [ad] using hj⟩
theorem userR_attrs {u : Us} (h : userR u = true) : u.attrs.length ≤ 8 := by
 unfold userR at h
 simp only [Bool.and_eq_true, decide_eq_true_eq] at h
 omega
set_option maxRecDepth 20000 in
theorem usersNew_any (a : Option Addr) (cap : Nat) (l : List Us) (hln : l.length ≤ 9223372036854775807) (hfit : ∀ u ∈ l, u.fits) (B w : World) (I : Im) (hU : UsrsAt I a l) (As : List Assn) (hS : Sat B w I As) :
  Calls Tryz.prog 90 [.slice a l.length cap].toArray w (Ret fun v w' => ∃ J, Le I J ∧ (((newU l 0 []).1 = 0 ∧ ∃ tb, v = .tuple #[ptr tb 0, I64 0, I64 0] ∧ TabAt J tb l) ∨ ((newU l 0 []).1 ≠ 0 ∧ v = .tuple #[.pointer none, I64 ((newU l 0 []).1 : Nat), I64 ((newU l 0 []).2 : Nat)])) ∧ Sat B w' J As) := by
 refine calls Tryz.func90 rfl Tryz.ntmps90 rfl (.seq (.region (.run 3 rfl trivial (.nil (.seq (.region (.mkMap S hS rfl ?_)))))))
 clear hS; intro b10 w hS
 refine .val (.build (cs := [_]) (parts_cons (.of rfl) parts_nil) bld179_90 rfl) rfl (.boxA (cs := [_]) hS (.of rfl) rfl ?_)
 clear hS; intro b12 w hS
 refine .run 1 rfl trivial (.nil (.seq (.seq (.region (.run 3 rfl ⟨⟨_, Tryz.underlying28⟩, trivial⟩ (.nil (.block (.loop (σ := Nat × Im × List (List UInt8 × Value)) (fun ⟨i, J, kv⟩ => [(0, .slice a l.length cap), (5, ptr b12 0), (13, .slice a l.length cap), (14, I64 (l.length : Nat)), (15, I64 (i : Nat))]) (fun ⟨i, J, kv⟩ w => i ≤ l.length ∧ Le I J ∧ KvOf J kv (l.take i) ∧ newU (l.drop i) i (l.take i) = newU l 0 [] ∧ Sat B w J (blk b12 [.map (some b10)] 179 :: mapA S b10 kv :: As)) (fun ⟨i, J, kv⟩ => l.length - i) (0, I, []) ⟨rfl, rfl, rfl, rfl, rfl, trivial⟩ ⟨Nat.zero_le _, Le.refl _, ⟨rfl, fun i u h => by simp at h⟩, rfl, hS⟩ ?_))))))))
 rintro ⟨i, J, kv⟩ w ⟨hi, hJ, hkv, hq, hS⟩
 change WC _ _ _ _ [(0, .slice a l.length cap), (5, ptr b12 0), (13, .slice a l.length cap), (14, I64 (l.length : Nat)), (15, I64 (i : Nat))] w
 refine .seq (.region (.run 1 rfl trivial (.nil (.seq ?_))))
 refine WC.cond rfl (fun hb16 => ?_) (fun hb16 => ?_)
 ·
  have hc16 := hb16; try simp only [Gk.cs0] at hc16
  refine .skip (.seq (.block (.seq ?_)))
  obtain ⟨u, hu⟩ : ∃ u, l[i]? = some u := ⟨_, List.getElem?_eq_getElem (by omega)⟩
  obtain ⟨p, ra, rc, hap, hA0, hrc, hRR⟩ := hU i u hu
  have hfu := hfit u (List.mem_of_getElem? hu)
  subst hap
  have hA := hA0.mono hJ
  have hR := hRR.mono hJ
  have hstep : newU (l.drop i) i (l.take i) = if 16 ≤ i then (5, i) else if userR u = false then (1, i) else if (l.take i).any (fun t => t.name == u.name) then (7, i) else newU (l.drop (i + 1)) (i + 1) (l.take (i + 1)) := by
   rw [List.drop_eq_getElem_cons (by omega), (List.getElem?_eq_some_iff.1 hu).2, newU]
   simp only [List.take_add_one, hu, Option.toList_some]
  rw [hq] at hstep
  have hlook := kv_look u.name hkv
  have hany := any_find (l.take i) u.name
  refine .region (.run 1 rfl trivial ?_)
  first | refine WL.val (.indexAddr (.of rfl) (.of rfl) (by omega) (by omega) Tryz.underlying28 Tryz.sizeOf67) rfl ?_ | refine WL.val (.indexAddrI (.of rfl) (.of rfl) (by omega) (by omega) Tryz.underlying28 Tryz.sizeOf67) rfl ?_
  refine .val (.ldR (vs := usCells u ra rc) (.of rfl) (fun j v hj => cell_at hS hA hj) Tryz.isAgg67 Tryz.sizeOf67 rfl) rfl ?_
  unfold usCells
  refine .allocA (cs := [_, _, _]) hS Tryz.zeroValue67 rfl ?_
  clear hS; intro b7 w hS
  refine .run 1 rfl trivial ?_
  first | refine WL.stA hS (k := 0) rfl (.of rfl) (.of rfl) rfl Tryz.sizeOf67 rfl (by simp) ?_ | refine WL.stA hS (k := 1) rfl (.of rfl) (.of rfl) rfl Tryz.sizeOf67 rfl (by simp) ?_ | refine WL.stA hS (k := 2) rfl (.of rfl) (.of rfl) rfl Tryz.sizeOf67 rfl (by simp) ?_
  clear hS; intro w hS; try dsimp only [List.set] at hS
  try simp only [List.take_zero, List.nil_append, List.append_nil, List.drop_succ_cons, List.drop_zero, List.drop_nil, Nat.zero_add] at hS
  refine .nil (.seq ?_)
  obtain ⟨n9, p9, a9, k9, c9, hz9⟩ : ∃ n9 p9 a9 k9 c9, (kv.lookup u.name).getD (.agg [S [], S [], .slice none 0 0].toArray) = .agg [S n9, S p9, .slice a9 k9 c9].toArray := by
   rcases hlook with ⟨_, e⟩ | ⟨t, cs, _, e, ta, tc, ht, _⟩
   ·rw [e]; exact ⟨_, _, _, _, _, rfl⟩
   ·rw [e, ht]; exact ⟨_, _, _, _, _, rfl⟩
  refine .drawn (fun w => ∃ R, Sat B w J (blk b7 [S u.name, S u.pw, .slice ra u.attrs.length rc] 67 :: blk b12 [.map (some b10)] 179 :: mapA S b10 kv :: R)) (fun j => !([].contains j)) (by kernel_rfl) ?_
  replace hS := hS.drew; generalize w.drew = w at hS ⊢
  have hH : ∃ R, Sat B w J (blk b7 [S u.name, S u.pw, .slice ra u.attrs.length rc] 67 :: blk b12 [.map (some b10)] 179 :: mapA S b10 kv :: R) := ⟨_, (((hS.pick 2 rfl).pick 2 rfl).pick 2 rfl)⟩
  refine .takeP (i := 0) rfl (by kernel_rfl) (by kernel_rfl) (by kernel_rfl) (fun w => (.move (.of rfl))) rfl (.takeP (i := 1) rfl (by kernel_rfl) (by kernel_rfl) (by kernel_rfl) (fun w => (.nilCheck (.of rfl))) rfl ?_)
  refine WD.takeP (i := 2) rfl (by kernel_rfl) (by kernel_rfl) (by kernel_rfl) (fun w => (by first | exact .fieldAddr 0 (.of rfl) Tryz.underlying179 rfl rfl Tryz.sizeOf177 rfl | exact .fieldAddrI 0 (.of rfl) Tryz.underlying179 rfl rfl Tryz.sizeOf177 rfl)) rfl ?_
  refine WD.take (i := 3) rfl (by kernel_rfl) (by kernel_rfl) (by kernel_rfl) (by kernel_rfl) hH (fun w ⟨R, hS⟩ => (by first | exact (.ld (.of rfl) hS (k := 0) rfl Tryz.isAgg177 rfl) | exact (.ld (.of rfl) hS (k := 1) rfl Tryz.isAgg177 rfl) | exact (.ld (.of rfl) hS (k := 2) rfl Tryz.isAgg177 rfl))) rfl ?_
  refine WD.takeP (i := 4) rfl (by kernel_rfl) (by kernel_rfl) (by kernel_rfl) (fun w => (by first | exact .fieldAddr 0 (.of rfl) Tryz.underlying67 rfl rfl Tryz.sizeOf9 rfl | exact .fieldAddrI 0 (.of rfl) Tryz.underlying67 rfl rfl Tryz.sizeOf9 rfl)) rfl ?_
  refine WD.take (i := 5) rfl (by kernel_rfl) (by kernel_rfl) (by kernel_rfl) (by kernel_rfl) hH (fun w ⟨R, hS⟩ => (by first | exact (.ld (.of rfl) hS (k := 0) rfl Tryz.isAgg9 rfl) | exact (.ld (.of rfl) hS (k := 1) rfl Tryz.isAgg9 rfl) | exact (.ld (.of rfl) hS (k := 2) rfl Tryz.isAgg9 rfl))) rfl ?_
  refine WD.take (i := 6) rfl (by kernel_rfl) (by kernel_rfl) (by kernel_rfl) (by kernel_rfl) hH (v := .tuple #[.agg [S n9, S p9, .slice a9 k9 c9].toArray, .bool (kv.lookup u.name).isSome]) (fun w ⟨R, hS⟩ => by rw [← hz9]; exact .look2 (key := u.name) keyS (hS.mapNow (k := 2) rfl) (.of rfl) (.of rfl) Tryz.underlying177 Tryz.underlying9 Tryz.zeroValue67) rfl ?_
  refine .takeP (i := 7) rfl (by kernel_rfl) (by kernel_rfl) (by kernel_rfl) (fun w => (.move (.of rfl))) rfl (.takeP (i := 8) rfl (by kernel_rfl) (by kernel_rfl) (by kernel_rfl) (fun w => (.extract (.of rfl) rfl)) rfl (.takeP (i := 9) rfl (by kernel_rfl) (by kernel_rfl) (by kernel_rfl) (fun w => (.extract (.of rfl) rfl)) rfl ?_))
  refine WD.branch [10] (by kernel_rfl) rfl (WO.cons rfl ?_ (WO.nil))
  refine .allocA (cs := [_, _, _]) hS Tryz.zeroValue67 rfl ?_
  clear hS; intro b8 w hS
  refine .nil ?_
  clear hH
  have hH : ∃ R, Sat B w J (blk b7 [S u.name, S u.pw, .slice ra u.attrs.length rc] 67 :: blk b12 [.map (some b10)] 179 :: mapA S b10 kv :: R) := ⟨_, (((hS.pick 3 rfl).pick 3 rfl).pick 3 rfl)⟩
  refine And.intro (by intro _ _; exact hH) ?_
  refine WD.branch [11] (by kernel_rfl) rfl (WO.cons rfl ?_ (WO.nil))
  first | refine WL.stA hS (k := 0) rfl (.of rfl) (.of rfl) rfl Tryz.sizeOf67 rfl (by simp) ?_ | refine WL.stA hS (k := 1) rfl (.of rfl) (.of rfl) rfl Tryz.sizeOf67 rfl (by simp) ?_ | refine WL.stA hS (k := 2) rfl (.of rfl) (.of rfl) rfl Tryz.sizeOf67 rfl (by simp) ?_ | refine WL.stA hS (k := 3) rfl (.of rfl) (.of rfl) rfl Tryz.sizeOf67 rfl (by simp) ?_
  clear hS; intro w hS; try dsimp only [List.set] at hS
  try simp only [List.take_zero, List.nil_append, List.append_nil, List.drop_succ_cons, List.drop_zero, List.drop_nil, Nat.zero_add] at hS
  refine .nil ?_
  clear hH
  have hH : ∃ R, Sat B w J (blk b7 [S u.name, S u.pw, .slice ra u.attrs.length rc] 67 :: blk b12 [.map (some b10)] 179 :: mapA S b10 kv :: R) := ⟨_, (((hS.pick 3 rfl).pick 3 rfl).pick 3 rfl)⟩
  refine And.intro (by intro _ _; exact hH) ?_
  refine .takeP (i := 12) rfl (by kernel_rfl) (by kernel_rfl) (by kernel_rfl) (fun w => (.assign (.of rfl))) rfl (.done (by kernel_rfl) (.seq (.block (.seq (.region (.run 3 rfl trivial (.nil ?_)))))))
  refine WC.cond rfl (fun hb30 => ?_) (fun hb30 => ?_)
  ·
   have hc30 := hb30; try simp only [Gk.cs0] at hc30
   refine .seq (.region (.run 4 rfl trivial (.nil (.ret (ret3 Tryz.results90 rfl rfl rfl ?_)))))
   have hE : newU l 0 [] = (5, i) := by rw [hstep]; exact if_pos (by omega)
   rw [hE]
   exact ⟨_, rfl, J, hJ, .inr ⟨show (5 : Nat) ≠ 0 by decide, rfl⟩, (((hS.drop (k := 0) rfl).drop (k := 0) rfl).drop (k := 0) rfl).drop (k := 0) rfl⟩
  have hc30 := hb30; try simp only [Gk.cs0] at hc30
  refine .seq (.region ?_)
  first | refine WL.val (.ldsW (cs := [_, _, _]) (.of rfl) hS (k := 0) rfl Tryz.isAgg67 Tryz.sizeOf67 rfl) rfl ?_ | refine WL.val (.lds (vs := [_, _, _]) (.of rfl) hS (k := 0) rfl Tryz.isAgg67 Tryz.sizeOf67 rfl (fun _ _ h => h)) rfl ?_ | refine WL.val (.ldsW (cs := [_, _, _]) (.of rfl) hS (k := 1) rfl Tryz.isAgg67 Tryz.sizeOf67 rfl) rfl ?_ | refine WL.val (.lds (vs := [_, _, _]) (.of rfl) hS (k := 1) rfl Tryz.isAgg67 Tryz.sizeOf67 rfl (fun _ _ h => h)) rfl ?_ | refine WL.val (.ldsW (cs := [_, _, _]) (.of rfl) hS (k := 2) rfl Tryz.isAgg67 Tryz.sizeOf67 rfl) rfl ?_ | refine WL.val (.lds (vs := [_, _, _]) (.of rfl) hS (k := 2) rfl Tryz.isAgg67 Tryz.sizeOf67 rfl (fun _ _ h => h)) rfl ?_ | refine WL.val (.ldsW (cs := [_, _, _]) (.of rfl) hS (k := 3) rfl Tryz.isAgg67 Tryz.sizeOf67 rfl) rfl ?_ | refine WL.val (.lds (vs := [_, _, _]) (.of rfl) hS (k := 3) rfl Tryz.isAgg67 Tryz.sizeOf67 rfl (fun _ _ h => h)) rfl ?_
  refine .call Tryz.func132 rfl (evs_cons (.of rfl) evs_nil) rfl (userR_any u ra rc hfu.name hfu.attrs.1 hfu.attrs.2 B _ J hR _ hS) ?_
  clear hS
  rintro _ w ⟨rfl, hS⟩
  refine .run 2 rfl trivial (.nil ?_)
  refine WC.cond rfl (fun hb34 => ?_) (fun hb34 => ?_)
  ·
   have hc34 := hb34; try simp only [Gk.cs0] at hc34
   refine .seq (.region (.run 4 rfl trivial (.nil (.ret (ret3 Tryz.results90 rfl rfl rfl ?_)))))
   have hE : newU l 0 [] = (1, i) := by rw [hstep]; rw [if_neg (by omega)]; exact if_pos (by simpa using hb34)
   rw [hE]
   exact ⟨_, rfl, J, hJ, .inr ⟨show (1 : Nat) ≠ 0 by decide, rfl⟩, (((hS.drop (k := 0) rfl).drop (k := 0) rfl).drop (k := 0) rfl).drop (k := 0) rfl⟩
  have hc34 := hb34; try simp only [Gk.cs0] at hc34
  refine .seq (.region (.run 2 rfl trivial (.nil ?_)))
  refine WC.cond rfl (fun hb39 => ?_) (fun hb39 => ?_)
  ·
   have hc39 := hb39; try simp only [Gk.cs0] at hc39
   refine .seq (.region (.run 4 rfl trivial (.nil (.ret (ret3 Tryz.results90 rfl rfl rfl ?_)))))
   have hE : newU l 0 [] = (7, i) := by rw [hstep]; rw [if_neg (by omega)]; rw [if_neg (show ¬ userR u = false by simpa using hb34)]; exact if_pos (by rw [hany]; rcases hlook with ⟨_, e⟩ | ⟨t, cs, e, _⟩ <;> simp_all)
   rw [hE]
   exact ⟨_, rfl, J, hJ, .inr ⟨show (7 : Nat) ≠ 0 by decide, rfl⟩, (((hS.drop (k := 0) rfl).drop (k := 0) rfl).drop (k := 0) rfl).drop (k := 0) rfl⟩
  have hc39 := hb39; try simp only [Gk.cs0] at hc39
  refine .skip (.seq ?_)
  have hur : userR u = true := by simpa using hb34
  have hal := userR_attrs hur
  refine .region ?_
  first | refine WL.val (.fieldAddr 2 (.of rfl) Tryz.underlying67 rfl rfl Tryz.sizeOf54 rfl) rfl ?_ | refine WL.val (.fieldAddrI 2 (.of rfl) Tryz.underlying67 rfl rfl Tryz.sizeOf54 rfl) rfl ?_
  first | refine WL.val (.ld (.of rfl) hS (k := 0) rfl Tryz.isAgg54 rfl) rfl ?_ | refine WL.val (.ld (.of rfl) hS (k := 1) rfl Tryz.isAgg54 rfl) rfl ?_ | refine WL.val (.ld (.of rfl) hS (k := 2) rfl Tryz.isAgg54 rfl) rfl ?_ | refine WL.val (.ld (.of rfl) hS (k := 3) rfl Tryz.isAgg54 rfl) rfl ?_
  refine .call Tryz.func133 rfl (evs_cons (.of rfl) evs_nil) rfl (CloneP_any ra rc u.attrs (by omega) B _ J hR _ hS) ?_
  clear hS
  rintro _ w ⟨J2, ra2, rc2, rfl, hJ2, hrc2, hR2, hS⟩
  first | refine WL.val (.fieldAddr 2 (.of rfl) Tryz.underlying67 rfl rfl Tryz.sizeOf54 rfl) rfl ?_ | refine WL.val (.fieldAddrI 2 (.of rfl) Tryz.underlying67 rfl rfl Tryz.sizeOf54 rfl) rfl ?_
  first | refine WL.st1 hS (k := 0) rfl (.of rfl) (.of rfl) rfl Tryz.sizeOf54 (by simp) ?_ | refine WL.st1 hS (k := 1) rfl (.of rfl) (.of rfl) rfl Tryz.sizeOf54 (by simp) ?_ | refine WL.st1 hS (k := 2) rfl (.of rfl) (.of rfl) rfl Tryz.sizeOf54 (by simp) ?_ | refine WL.st1 hS (k := 3) rfl (.of rfl) (.of rfl) rfl Tryz.sizeOf54 (by simp) ?_
  clear hS; intro w hS; try dsimp only [List.set] at hS
  refine .nil (.tail 7 (by kernel_rfl) (by kernel_rfl) ?_)
  replace hS := hS.drew; generalize w.drew = w at hS ⊢
  refine .val (.move (.of rfl)) rfl (.val (.nilCheck (.of rfl)) rfl ?_)
  refine WT.val (by first | exact .fieldAddr 0 (.of rfl) Tryz.underlying179 rfl rfl Tryz.sizeOf177 rfl | exact .fieldAddrI 0 (.of rfl) Tryz.underlying179 rfl rfl Tryz.sizeOf177 rfl) rfl ?_
  refine WT.val (by first | exact (.ld (.of rfl) hS (k := 0) rfl Tryz.isAgg177 rfl) | exact (.ld (.of rfl) hS (k := 1) rfl Tryz.isAgg177 rfl) | exact (.ld (.of rfl) hS (k := 2) rfl Tryz.isAgg177 rfl) | exact (.ld (.of rfl) hS (k := 3) rfl Tryz.isAgg177 rfl)) rfl ?_
  refine WT.val (by first | exact .fieldAddr 0 (.of rfl) Tryz.underlying67 rfl rfl Tryz.sizeOf9 rfl | exact .fieldAddrI 0 (.of rfl) Tryz.underlying67 rfl rfl Tryz.sizeOf9 rfl) rfl ?_
  refine WT.val (by first | exact (.ld (.of rfl) hS (k := 0) rfl Tryz.isAgg9 rfl) | exact (.ld (.of rfl) hS (k := 1) rfl Tryz.isAgg9 rfl) | exact (.ld (.of rfl) hS (k := 2) rfl Tryz.isAgg9 rfl) | exact (.ld (.of rfl) hS (k := 3) rfl Tryz.isAgg9 rfl)) rfl ?_
  refine WT.val (by first | exact (.ldsW (cs := [_, _, _]) (.of rfl) hS (k := 0) rfl Tryz.isAgg67 Tryz.sizeOf67 rfl) | exact (.lds (vs := [_, _, _]) (.of rfl) hS (k := 0) rfl Tryz.isAgg67 Tryz.sizeOf67 rfl (fun _ _ h => h)) | exact (.ldsW (cs := [_, _, _]) (.of rfl) hS (k := 1) rfl Tryz.isAgg67 Tryz.sizeOf67 rfl) | exact (.lds (vs := [_, _, _]) (.of rfl) hS (k := 1) rfl Tryz.isAgg67 Tryz.sizeOf67 rfl (fun _ _ h => h)) | exact (.ldsW (cs := [_, _, _]) (.of rfl) hS (k := 2) rfl Tryz.isAgg67 Tryz.sizeOf67 rfl) | exact (.lds (vs := [_, _, _]) (.of rfl) hS (k := 2) rfl Tryz.isAgg67 Tryz.sizeOf67 rfl (fun _ _ h => h)) | exact (.ldsW (cs := [_, _, _]) (.of rfl) hS (k := 3) rfl Tryz.isAgg67 Tryz.sizeOf67 rfl) | exact (.lds (vs := [_, _, _]) (.of rfl) hS (k := 3) rfl Tryz.isAgg67 Tryz.sizeOf67 rfl (fun _ _ h => h))) rfl ?_
  refine .nil ?_
  show WL _ _ _ _ _ _ _
  have hno : kv.lookup u.name = none := by
   cases h : kv.lookup u.name with
   | none => rfl
   | some x => rw [h] at hb39; cases hb39
  refine .mput keyS hS (k := 3) rfl (.of rfl) (.of rfl) (.of rfl) hno Tryz.underlying177 Tryz.underlying9 ?_
  clear hS; intro w hS
  try dsimp only [List.set] at hS
  refine .nil (.region (.run 2 rfl ⟨⟨by omega, by omega⟩, trivial⟩ (.nil ?_)))
  refine ⟨(i + 1, J2, kv ++ [(u.name, Value.agg #[S u.name, S u.pw, Value.slice ra2 u.attrs.length rc2])]), ⟨rfl, rfl, rfl, rfl, rfl, trivial⟩, ⟨by (try dsimp only); omega, hJ.trans hJ2, ?_, ?_, (hS.drop (k := 0) rfl).drop (k := 0) rfl⟩, by (try dsimp only); omega⟩
  ·show KvOf J2 _ (l.take (i + 1))
   rw [List.take_add_one, hu]
   exact (hkv.mono hJ2).snoc ⟨ra2, rc2, rfl, hrc2, hR2⟩
  ·show newU (l.drop (i + 1)) (i + 1) (l.take (i + 1)) = _
   rw [hstep, if_neg (by omega), if_neg (by rw [hur]; decide), if_neg]
   rw [hany]
   rcases hlook with ⟨e, _⟩ | ⟨t, cs, e, e2, _⟩
   ·rw [e]; decide
   ·rw [hno] at e2; cases e2
 have hc16 := hb16; try simp only [Gk.cs0] at hc16
 refine .exit (.seq (.region (.run 4 rfl trivial (.nil (.ret (ret3 Tryz.results90 rfl rfl rfl ?_))))))
 have e : i = l.length := by omega
 subst e
 have hE : newU l 0 [] = (0, 0) := by rw [← hq, List.drop_length]; rfl
 rw [List.take_length] at hkv
 rw [hE]
 obtain ⟨J2, hJ2, hA2, hS⟩ := hS.freeze (k := 0) rfl
 obtain ⟨J3, hJ3, hM3, hS⟩ := hS.freezeMap (k := 0) rfl
 exact ⟨_, rfl, J3, (hJ.trans hJ2).trans hJ3, .inl ⟨rfl, b12, rfl, b10, kv, (at_frozen hA2).mono hJ3, hM3, (hkv.mono hJ2).mono hJ3⟩, hS⟩
def checkU (l : List Us) (name pw : List UInt8) : Bool := match l.find? (fun t => t.name == name) with
 | some u => u.pw == pw
 | none => false
def atU (l : List Us) (name : List UInt8) : List Pr := match l.find? (fun t => t.name == name) with
 | some u => u.attrs
 | none => []
def attrsU (l : List Us) (name : List UInt8) (rel : List (List UInt8)) : List Pr := rel.flatMap fun x => (atU l name).filter fun a => a.1 == x
theorem attrs_take {A : List Pr} {rel : List (List UInt8)} (hA : A.length ≤ 8) : (rel.flatMap fun x => A.filter fun a => a.1 == x).length ≤ 8 * rel.length := by
 induction rel with
 | nil => simp
 | cons x r ih =>
  have h := List.length_filter_le (fun a : Pr => a.1 == x) A
  simp only [List.flatMap_cons, List.length_append, List.length_cons]
  omega
theorem tab_look {I : Im} {mb : Nat} {kv : List (List UInt8 × Value)} {l : List Us} (hkv : KvOf I kv l) (hfit : ∀ u ∈ l, u.fits) (name pw : List UInt8) : ∃ n9 p9 a9 c9, (kv.lookup name).getD (.agg #[S [], S [], .slice none 0 0]) = .agg #[S n9, S p9, .slice a9 (atU l name).length c9] ∧ RS I a9 2 (atU l name).length (rowsC prCells (atU l name)) ∧ p9.length ≤ 9223372036854775807 ∧ ((p9 == pw) && (kv.lookup name).isSome) = checkU l name pw := by
 rcases kv_look name hkv with ⟨e1, e2⟩ | ⟨u, cs, e1, e2, ua, uc, h1, h2, h3⟩
 ·refine ⟨[], [], none, 0, ?_, ?_, by simp, ?_⟩
  ·rw [e2, atU, e1]; rfl
  ·rw [atU, e1]; exact ⟨rfl, fun h => absurd h (by simp)⟩
  ·rw [e2, checkU, e1]; simp
 ·refine ⟨u.name, u.pw, ua, uc, ?_, ?_, (hfit u (List.mem_of_find?_eq_some e1)).pw, ?_⟩
  ·rw [e2, atU, e1, h1]; rfl
  ·rw [atU, e1]; exact h3
  ·rw [e2, checkU, e1]; simp
theorem uAttrs_any (tb : Nat) (l : List Us) (hfit : ∀ u ∈ l, u.fits) (name : List UInt8) (h8 : (atU l name).length ≤ 8) (ra : Option Addr) (rc : Nat) (rel : List (List UInt8)) (hrl : rel.length ≤ 1000000) (B w : World) (I : Im) (hT : TabAt I tb l) (hRR : RS I ra 1 rel.length (rel.map S)) (As : List Assn) (hS : Sat B w I As) :
  Calls Tryz.prog 64 [ptr tb 0, S name, .slice ra rel.length rc].toArray w (Ret fun v w' => ∃ J ka kc, v = .slice ka (attrsU l name rel).length kc ∧ Le I J ∧ (attrsU l name rel).length ≤ kc ∧ RS J ka 2 (attrsU l name rel).length (rowsC prCells (attrsU l name rel)) ∧ Sat B w' J As) := by
 refine calls Tryz.func64 rfl Tryz.ntmps64 rfl (.seq ?_)
 obtain ⟨mb, kv, hTA, hM, hkv⟩ := hT
 obtain ⟨n9, p9, a9, c9, hz9, hR9, hp9, hck⟩ := tab_look (mb := mb) hkv hfit name []
 refine .region (.run 1 rfl trivial (.nil (.seq (.region (.run 1 rfl trivial (.nil (.seq (.seq ?_))))))))
 replace hS := hS.vecNil 69 2
 refine .region (.run 3 rfl ⟨⟨_, Tryz.underlying41⟩, trivial⟩ (.nil (.block (.loop (σ := Nat × Value) (fun ⟨i, v⟩ => [(0, ptr tb 0), (1, S name), (7, v), (12, .slice ra rel.length rc), (13, I64 (rel.length : Nat)), (14, I64 (i : Nat))]) (fun ⟨i, v⟩ w => i ≤ rel.length ∧ Sat B w I (Vec 69 2 v ((rel.take i).flatMap (fun x => (atU l name).filter fun a => a.1 == x)).length (rowsC prCells ((rel.take i).flatMap (fun x => (atU l name).filter fun a => a.1 == x))) :: As)) (fun ⟨i, v⟩ => rel.length - i) (0, .slice none 0 0) ⟨rfl, rfl, rfl, rfl, rfl, rfl, trivial⟩ ⟨Nat.zero_le _, hS⟩ ?_))))
 rintro ⟨i, v⟩ w ⟨hi, hS⟩
 change WC _ _ _ _ [(0, ptr tb 0), (1, S name), (7, v), (12, .slice ra rel.length rc), (13, I64 (rel.length : Nat)), (14, I64 (i : Nat))] w
 refine .seq (.region (.run 1 rfl trivial (.nil (.seq ?_))))
 refine WC.cond rfl (fun hb15 => ?_) (fun hb15 => ?_)
 ·
  have hc15 := hb15; try simp only [Gk.cs0] at hc15
  refine .skip (.seq (.block (.seq ?_)))
  obtain ⟨x, hx⟩ : ∃ x, rel[i]? = some x := ⟨_, List.getElem?_eq_getElem (by omega)⟩
  obtain ⟨p, hrp, hA⟩ := hRR.2 (by omega)
  subst hrp
  have hnx : (rel.map S)[i]? = some (S x) := by rw [List.getElem?_map, hx]; rfl
  have hol := attrs_take (rel := rel.take i) h8
  rw [List.length_take] at hol
  refine .region ?_
  first | refine WL.val (.indexAddr (.of rfl) (.of rfl) (by omega) (by omega) Tryz.underlying41 Tryz.sizeOf9) rfl ?_ | refine WL.val (.indexAddrI (.of rfl) (.of rfl) (by omega) (by omega) Tryz.underlying41 Tryz.sizeOf9) rfl ?_
  refine WL.val (.ld1 (.of rfl) (by have h9 := cell_at hS hA hnx; simpa using h9) Tryz.isAgg9) rfl ?_
  refine .run 1 rfl trivial (.nil (.seq (.region (.run 2 rfl trivial ?_))))
  first | refine WL.val (.fieldAddr 0 (.of rfl) Tryz.underlying179 rfl rfl Tryz.sizeOf177 rfl) rfl ?_ | refine WL.val (.fieldAddrI 0 (.of rfl) Tryz.underlying179 rfl rfl Tryz.sizeOf177 rfl) rfl ?_
  refine .val (.ldI (.of rfl) hS hTA Tryz.isAgg177 rfl) rfl (.run 1 rfl trivial ?_)
  refine WL.val (v := .agg [S n9, S p9, .slice a9 (atU l name).length c9].toArray) (by have hz9 := hz9; rw [← hz9]; exact .look1 (key := name) keyS (hM.now hS) (.of rfl) (.of rfl) Tryz.underlying177 Tryz.underlying9 Tryz.zeroValue67) rfl ?_
  refine .val (.fieldV (off := 2) (.of rfl) Tryz.underlying67 rfl rfl Tryz.isAgg54 rfl) rfl (.run 2 rfl ⟨⟨_, Tryz.underlying54⟩, trivial⟩ (.nil (.block (.loop (σ := Nat × Value) (fun ⟨j, v⟩ => [(0, ptr tb 0), (1, S name), (7, v), (9, S x), (12, .slice (some p) rel.length rc), (13, I64 (rel.length : Nat)), (14, I64 (i : Nat)), (24, .slice a9 (atU l name).length c9), (25, I64 ((atU l name).length : Nat)), (26, I64 (j : Nat))]) (fun ⟨j, v⟩ w => j ≤ (atU l name).length ∧ Sat B w I (Vec 69 2 v ((rel.take i).flatMap (fun x => (atU l name).filter fun a => a.1 == x) ++ ((atU l name).take j).filter (fun a => a.1 == x)).length (rowsC prCells ((rel.take i).flatMap (fun x => (atU l name).filter fun a => a.1 == x) ++ ((atU l name).take j).filter (fun a => a.1 == x))) :: As)) (fun ⟨j, v⟩ => (atU l name).length - j) (0, v) ⟨rfl, rfl, rfl, rfl, rfl, rfl, rfl, rfl, rfl, rfl, trivial⟩ ⟨Nat.zero_le _, by simpa using hS⟩ ?_))))
  rintro ⟨j, v⟩ w ⟨hj, hS⟩
  change WC _ _ _ _ [(0, ptr tb 0), (1, S name), (7, v), (9, S x), (12, .slice (some p) rel.length rc), (13, I64 (rel.length : Nat)), (14, I64 (i : Nat)), (24, .slice a9 (atU l name).length c9), (25, I64 ((atU l name).length : Nat)), (26, I64 (j : Nat))] w
  refine .seq (.region (.run 1 rfl trivial (.nil (.seq ?_))))
  refine WC.cond rfl (fun hb27 => ?_) (fun hb27 => ?_)
  ·
   have hc27 := hb27; try simp only [Gk.cs0] at hc27
   refine .skip (.seq (.block (.seq ?_)))
   obtain ⟨y, hy⟩ : ∃ y, (atU l name)[j]? = some y := ⟨_, List.getElem?_eq_getElem (by omega)⟩
   obtain ⟨q, hq9, hxa⟩ := rows_rs (cells := prCells) (s := 2) (fun _ => rfl) hS hR9 j y hy
   have hfj := List.length_filter_le (fun a : Pr => a.1 == x) ((atU l name).take j)
   rw [List.length_take] at hfj
   have hsn : ((atU l name).take (j + 1)).filter (fun a => a.1 == x) = ((atU l name).take j).filter (fun a => a.1 == x) ++ [y].filter (fun a => a.1 == x) := by rw [List.take_add_one, hy, Option.toList_some, List.filter_append]
   have hO2 : ((rel.take i).flatMap (fun x => (atU l name).filter fun a => a.1 == x) ++ ((atU l name).take j).filter (fun a => a.1 == x)).length = ((rel.take i).flatMap (fun x => (atU l name).filter fun a => a.1 == x)).length + (((atU l name).take j).filter (fun a => a.1 == x)).length := List.length_append
   rw [hq9]
   refine .region ?_
   first | refine WL.val (.indexAddr (.of rfl) (.of rfl) (by omega) (by omega) Tryz.underlying54 Tryz.sizeOf69) rfl ?_ | refine WL.val (.indexAddrI (.of rfl) (.of rfl) (by omega) (by omega) Tryz.underlying54 Tryz.sizeOf69) rfl ?_
   refine .val (.ldR (.of rfl) hxa Tryz.isAgg69 Tryz.sizeOf69 rfl) rfl (.allocA (cs := [_, _]) hS Tryz.zeroValue69 rfl ?_)
   clear hS; intro b11 w hS
   first | refine WL.stA hS (k := 0) rfl (.of rfl) (.of rfl) rfl Tryz.sizeOf69 rfl (by simp) ?_ | refine WL.stA hS (k := 1) rfl (.of rfl) (.of rfl) rfl Tryz.sizeOf69 rfl (by simp) ?_
   clear hS; intro w hS; try dsimp only [List.set] at hS
   try simp only [List.take_zero, List.nil_append, List.append_nil, List.drop_succ_cons, List.drop_zero, List.drop_nil, Nat.zero_add] at hS
   refine .nil (.seq (.region ?_))
   first | refine WL.val (.fieldAddr 0 (.of rfl) Tryz.underlying69 rfl rfl Tryz.sizeOf9 rfl) rfl ?_ | refine WL.val (.fieldAddrI 0 (.of rfl) Tryz.underlying69 rfl rfl Tryz.sizeOf9 rfl) rfl ?_
   first | refine WL.val (.ld (.of rfl) hS (k := 0) rfl Tryz.isAgg9 rfl) rfl ?_ | refine WL.val (.ld (.of rfl) hS (k := 1) rfl Tryz.isAgg9 rfl) rfl ?_ | refine WL.val (.ldI (.of rfl) hS (At.add hTA _) Tryz.isAgg9 rfl) rfl ?_
   refine .run 2 rfl trivial (.nil ?_)
   refine WC.cond rfl (fun hb33 => ?_) (fun hb33 => ?_)
   ·
    have hc33 := hb33; try simp only [Gk.cs0] at hc33
    refine .region (.run 1 rfl trivial ?_)
    first | refine WL.val (.ldsW (cs := [_, _]) (.of rfl) hS (k := 0) rfl Tryz.isAgg69 Tryz.sizeOf69 rfl) rfl ?_ | refine WL.val (.lds (vs := [_, _]) (.of rfl) hS (k := 0) rfl Tryz.isAgg69 Tryz.sizeOf69 rfl (fun _ _ h => h)) rfl ?_ | refine WL.val (.ldsW (cs := [_, _]) (.of rfl) hS (k := 1) rfl Tryz.isAgg69 Tryz.sizeOf69 rfl) rfl ?_ | refine WL.val (.lds (vs := [_, _]) (.of rfl) hS (k := 1) rfl Tryz.isAgg69 Tryz.sizeOf69 rfl (fun _ _ h => h)) rfl ?_ | refine WL.val (.ldsI (.of rfl) hS hTA Tryz.isAgg69 Tryz.sizeOf69 rfl (fun _ _ h => h)) rfl ?_ | refine WL.val (.ldsI (.of rfl) hS (At.add hTA _) Tryz.isAgg69 Tryz.sizeOf69 rfl (fun _ _ h => h)) rfl ?_
    refine .buildSlice (cs := [_, _]) hS (parts_cons (.of rfl) parts_nil) Tryz.underlying54 Tryz.sizeOf69 Tryz.zeroValue69 rfl rfl rfl rfl ?_
    clear hS; intro b36 w hS
    first | refine WL.append (size := 2) (bytes := 32) hS (.of rfl) (.of rfl) (k := 0) rfl Tryz.underlying54 info69_90 rfl rfl rfl rfl rfl rfl rfl ⟨by omega, by unfold maxLen; omega⟩ rfl ?_ | refine WL.append (size := 2) (bytes := 32) hS (.of rfl) (.of rfl) (k := 1) rfl Tryz.underlying54 info69_90 rfl rfl rfl rfl rfl rfl rfl ⟨by omega, by unfold maxLen; omega⟩ rfl ?_
    clear hS; intro v37 w hS; try dsimp only [List.set] at hS
    first | obtain ⟨a37, c37, rfl, hcap37, _⟩ := hS.vecSlice (k := 0) (v := v37) rfl | obtain ⟨a37, c37, rfl, hcap37, _⟩ := hS.vecSlice (k := 1) (v := v37) rfl
    refine .run 1 rfl trivial (.nil (.region (.run 2 rfl ⟨⟨by omega, by omega⟩, trivial⟩ (.nil ?_))))
    refine ⟨(j + 1, .slice a37 (((rel.take i).flatMap (fun x => (atU l name).filter fun a => a.1 == x) ++ ((atU l name).take j).filter (fun a => a.1 == x)).length + 1) c37), ⟨rfl, rfl, rfl, rfl, rfl, rfl, rfl, rfl, rfl, rfl, trivial⟩, ⟨by (try dsimp only); omega, ?_⟩, by (try dsimp only); omega⟩
    try dsimp only
    rw [hsn, List.filter_cons, if_pos (by simpa using hb33), List.filter_nil, ← List.append_assoc, rowsC_snoc, show ((rel.take i).flatMap (fun x => (atU l name).filter fun a => a.1 == x) ++ ((atU l name).take j).filter (fun a => a.1 == x) ++ [y]).length = ((rel.take i).flatMap (fun x => (atU l name).filter fun a => a.1 == x) ++ ((atU l name).take j).filter (fun a => a.1 == x)).length + 1 from List.length_append]
    exact hS.drop (k := 0) rfl
   have hc33 := hb33; try simp only [Gk.cs0] at hc33
   refine .skip (.region (.run 2 rfl ⟨⟨by omega, by omega⟩, trivial⟩ (.nil ?_)))
   refine ⟨(j + 1, v), ⟨rfl, rfl, rfl, rfl, rfl, rfl, rfl, rfl, rfl, rfl, trivial⟩, ⟨by (try dsimp only); omega, ?_⟩, by (try dsimp only); omega⟩
   try dsimp only
   rw [hsn, List.filter_cons, if_neg (by simpa using hb33), List.filter_nil, List.append_nil]
   exact hS.drop (k := 0) rfl
  have hc27 := hb27; try simp only [Gk.cs0] at hc27
  refine .exit (.region (.run 2 rfl ⟨⟨by omega, by omega⟩, trivial⟩ (.nil ?_)))
  refine ⟨(i + 1, v), ⟨rfl, rfl, rfl, rfl, rfl, rfl, trivial⟩, ⟨by (try dsimp only); omega, ?_⟩, by (try dsimp only); omega⟩
  have ej : j = (atU l name).length := by omega
  subst ej
  try dsimp only
  rw [List.take_length] at hS
  rw [List.take_add_one, hx, Option.toList_some, List.flatMap_append, List.flatMap_cons, List.flatMap_nil, List.append_nil]
  exact hS
 have hc15 := hb15; try simp only [Gk.cs0] at hc15
 refine .exit (.seq (.region (.run 2 rfl trivial (.nil (.ret (ret1 Tryz.results64 rfl ?_))))))
 have ei : i = rel.length := by omega
 subst ei
 rw [List.take_length] at hS
 obtain ⟨ka, kc, rfl, hkc, _⟩ := hS.vecSlice (k := 0) rfl
 obtain ⟨J, hJ, hRS, hS⟩ := hS.freezeVec (k := 0) rfl
 exact ⟨_, rfl, J, ka, kc, rfl, hJ, hkc, hRS, hS⟩
end Go.Proofs.YtadhiihnnkcagaaGreatDoor
namespace Go.Proofs.YtadhiihnnkcagaaGreatDoor
open Gk Pat
set_option linter.unusedVariables false
set_option linter.unusedSimpArgs false
def CompT (I : Im) (l : List UInt8) (po : Option Addr) (e a : Int) : Prop := match cmp l with
 | .error (e', a') => po = none ∧ e = e' ∧ a = a'
 | .ok Q => ∃ p, po = some p ∧ e = 0 ∧ a = 0 ∧ PatI I p Q l.length
theorem CompT.mono {I J : Im} {l : List UInt8} {po : Option Addr} {e a : Int} (h : CompT I l po e a) (hl : Le I J) : CompT J l po e a := by
 unfold CompT at h ⊢
 cases hq : cmp l with
 | error x => rw [hq] at h; exact h
 | ok Q => rw [hq] at h; obtain ⟨p, h1, h2, h3, h4⟩ := h; exact ⟨p, h1, h2, h3, h4.mono hl⟩
theorem Compile_t (l : List UInt8) (B w : World) (I : Im) (As : List Assn) (hS : Sat B w I As) (hl : l.length ≤ 9223372036854775807) :
  Calls Tryz.prog 169 [S l].toArray w (Ret fun v w' => ∃ po e a J, v = .tuple #[.pointer po, I64 e, I64 a] ∧ Le I J ∧ CompT J l po e a ∧ Sat B w' J As) := by
 refine (Compile_any l B w I As hS hl).mono fun x w' ⟨v, hx, h⟩ => ⟨v, hx, ?_⟩
 rcases h with ⟨e, a, J, h1, h2, h3, h4⟩ | ⟨Q, p, J, h1, h2, h3, h4, h5⟩
 ·exact ⟨none, e, a, J, h2, h3, by rw [CompT, h1]; exact ⟨rfl, rfl, rfl⟩, h4⟩
 ·exact ⟨some p, 0, 0, J, h2, h3, by rw [CompT, h1]; exact ⟨p, rfl, rfl, rfl, h4⟩, h5⟩
theorem cmp_facts {l : List UInt8} {Q : List Pl} (h : cmp l = .ok Q) : WF Q ∧ 0 < Q.length ∧ Q.length ≤ 201 ∧ l.length ≤ 200 := by
 obtain ⟨hl, p, h1, h2, h3, rfl⟩ := cmp_ok h
 obtain ⟨hW, hE⟩ := placesOf_wf h1.ok
 have h4 := placesOf_len p
 have h5 := h1.len
 exact ⟨hW, hE.1, by unfold placesOf at h4; omega, hl⟩
theorem Match_any {l : List UInt8} {Q : List Pl} (hq : cmp l = .ok Q) (p : Addr) (s : List UInt8) (hs : s.length ≤ 1000000) (B w : World) (I : Im) (As : List Assn) (hS : Sat B w I As) (hp : PatI I p Q l.length) :
  Calls Tryz.prog 87 [.pointer (some p), S s].toArray w (Ret fun v w' => v = .bool (mat Q s) ∧ Sat B w' I As) := by
 have hf := cmp_facts hq
 refine calls Tryz.func87 rfl Tryz.ntmps87 rfl (.seq (.region (.run 1 rfl trivial (.nil (.seq (.region (.run 2 rfl trivial (.call Tryz.func128 rfl (evs_cons (.of rfl) (evs_cons (.of rfl) evs_nil)) rfl (run_any Q p l.length s hf.1 hf.2.1 (by omega) (by omega) hs B w I As hS hp) ?_))))))))
 clear hS
 rintro _ w ⟨rfl, hS⟩
 refine .run 5 rfl trivial (.nil (.seq (.region (.run 2 rfl trivial (.nil (.ret (ret1 Tryz.results87 rfl ?_)))))))
 exact ⟨_, rfl, rfl, hS⟩
theorem findC_any {s : Sv} {Q : List Pl} (hq : cmp s.urls = .ok Q) (a : Option Addr) (c : Nat) (p q : Addr) (n : List UInt8) (hn : n.length ≤ 1000000) (b : Nat) (B w : World) (I : Im) (hp : PatI I p Q s.urls.length) (As : List Assn) (hS : Sat B w I (blk b [S n] 9 :: As)) :
  Calls Tryz.prog 86 [.agg [I64 s.id, F64 s.ord, S s.urls, .bool s.login, .bool s.proxy, .bool s.back, S s.calls, .slice a s.rel.length c, .pointer (some p), .pointer (some q)].toArray, ptr b 0].toArray w (Ret fun v w' => v = .bool (mat Q n) ∧ Sat B w' I (blk b [S n] 9 :: As)) := by
 refine calls Tryz.func86 rfl Tryz.ntmps86 rfl (.seq (.region (.boxA (cs := [_, _, _, _, _, _, _, _, _, _]) hS (.of rfl) rfl ?_)))
 clear hS; intro b2 w hS
 refine .run 1 rfl trivial (.nil (.seq (.region (.val (.fieldAddr 8 (.of rfl) Tryz.underlying155 rfl rfl Tryz.sizeOf153 rfl) rfl (.val (.ld (.of rfl) hS (k := 0) rfl Tryz.isAgg153 rfl) rfl (.val (.ld (.of rfl) hS (k := 1) rfl Tryz.isAgg9 rfl) rfl (.call Tryz.func87 rfl (evs_cons (.of rfl) (evs_cons (.of rfl) evs_nil)) rfl (Match_any hq p n hn B _ I _ hS hp) ?_)))))))
 clear hS
 rintro _ w ⟨rfl, hS⟩
 refine .run 1 rfl trivial (.nil (.ret (ret1 Tryz.results86 rfl ?_)))
 exact ⟨_, rfl, rfl, hS.drop (k := 0) rfl⟩
theorem madeC_any (s t : Sv) (a ta : Option Addr) (c tc : Nat) (p q : Addr) (b : Nat) (B w : World) (I : Im) (As : List Assn) (hS : Sat B w I (blk b [I64 t.id, F64 t.ord, S t.urls, .bool t.login, .bool t.proxy, .bool t.back, S t.calls, .slice ta t.rel.length tc] 101 :: As)) :
  Calls Tryz.prog 168 [.agg [I64 s.id, F64 s.ord, S s.urls, .bool s.login, .bool s.proxy, .bool s.back, S s.calls, .slice a s.rel.length c, .pointer (some p), .pointer (some q)].toArray, ptr b 0].toArray w (Ret fun v w' => v = .bool (s.id == t.id) ∧ Sat B w' I (blk b [I64 t.id, F64 t.ord, S t.urls, .bool t.login, .bool t.proxy, .bool t.back, S t.calls, .slice ta t.rel.length tc] 101 :: As)) := by
 refine calls Tryz.func168 rfl Tryz.ntmps168 rfl (.seq (.region (.boxA (cs := [_, _, _, _, _, _, _, _, _, _]) hS (.of rfl) rfl ?_)))
 clear hS; intro b2 w hS
 refine .run 1 rfl trivial (.nil (.seq (.region (.val (.fieldAddr 0 (.of rfl) Tryz.underlying155 rfl rfl Tryz.sizeOf101 rfl) rfl (.val (.fieldAddr 0 (.of rfl) Tryz.underlying101 rfl rfl Tryz.sizeOf3 rfl) rfl (.val (.ld (.of rfl) hS (k := 0) rfl Tryz.isAgg3 rfl) rfl (.val (.fieldAddr 0 (.of rfl) Tryz.underlying101 rfl rfl Tryz.sizeOf3 rfl) rfl (.val (.ld (.of rfl) hS (k := 1) rfl Tryz.isAgg3 rfl) rfl (.run 2 rfl trivial (.nil (.ret (ret1 Tryz.results168 rfl ?_))))))))))))
 exact ⟨_, rfl, rfl, hS.drop (k := 0) rfl⟩
end Go.Proofs.YtadhiihnnkcagaaGreatDoor
namespace Go.Proofs.YtadhiihnnkcagaaGreatDoor
open Gk Pat
set_option linter.unusedVariables false
set_option linter.unusedSimpArgs false
theorem bld155_130 : Bld Tryz.prog 155 [(0, 8), (8, 1), (9, 1)] [.int .i64 0, .float .f64 0, S [], .bool false, .bool false, .bool false, S [], .slice none 0 0, .pointer none, .pointer none] := bld_of Tryz.underlying155 Tryz.zeroValue155 (fun w => by simp [go_sem])
def badO (lo : List Sv) (s : Sv) : Nat :=
 if 16 ≤ lo.length then 5 else if (decide (s.id < 0) || decide (8 < (s.rel.length : Int))) = true then 1 else if lo.any (fun t => t.id == s.id) = true then 7
 else if (((chk s.urls).1 != 0) || ((chk s.calls).1 != 0)) = true then 8 else 0
theorem firstI_any (pr : Sv → Bool) : ∀ (l : List Sv) (i : Nat), decide (0 ≤ firstI pr l i) = l.any pr
 | [], _ => rfl
 | s :: r, i => by
  rw [firstI, List.any_cons]
  cases pr s with
  | true => simp
  | false => simpa using firstI_any pr r (i + 1)
theorem comp_chk {I : Im} {l : List UInt8} {po : Option Addr} {e a : Int} (h : CompT I l po e a) : (e != 0) = ((chk l).1 != 0) ∧ ((chk l).1 = 0 → ∃ p Q, po = some p ∧ cmp l = .ok Q ∧ PatI I p Q l.length) := by
 have key : ∀ e', cmp l = .error e' → (chk l).1 = e'.1 ∧ e'.1 ≠ 0 := fun e' hc => by
  unfold cmp at hc
  unfold chk
  split at hc
  ·rename_i hl; rw [if_pos hl]; cases hc; exact ⟨rfl, by decide⟩
  ·rename_i hl
   rw [if_neg hl]
   have := (cmpGo_chk l.length l 0 [] [] [] (Nat.le_refl _) rfl).1 e' hc
   rw [this.1]; exact ⟨rfl, this.2⟩
 have key2 : ∀ Q, cmp l = .ok Q → (chk l).1 = 0 := fun Q hc => by
  unfold cmp at hc
  unfold chk
  split at hc
  ·cases hc
  ·rename_i hl
   rw [if_neg hl, (cmpGo_chk l.length l 0 [] [] [] (Nat.le_refl _) rfl).2 Q hc]
 unfold CompT at h
 cases hc : cmp l with
 | ok Q =>
  rw [hc] at h
  obtain ⟨p, rfl, rfl, rfl, hp⟩ := h
  rw [key2 Q hc]
  exact ⟨rfl, fun _ => ⟨p, Q, rfl, rfl, hp⟩⟩
 | error x =>
  obtain ⟨e', a'⟩ := x
  rw [hc] at h
  obtain ⟨rfl, rfl, rfl⟩ := h
  obtain ⟨h1, h2⟩ := key _ hc
  rw [h1]
  exact ⟨rfl, fun h3 => absurd h3 h2⟩
theorem made_any (s : Sv) (sa : Option Addr) (sc : Nat) (hsc : s.rel.length ≤ sc) (hrl : s.rel.length ≤ 1000000) (hu : s.urls.length ≤ 9223372036854775807) (hcl : s.calls.length ≤ 9223372036854775807) (a : Option Addr) (cap : Nat) (lo : List Sv) (hlo : lo.length ≤ 100000) (B w : World) (I : Im) (hr : RS I sa 1 s.rel.length (s.rel.map S)) (As : List Assn) (hE : ∀ w, Sat B w I As → EntsW w I a lo) (hS : Sat B w I As) :
  Calls Tryz.prog 130 [.agg [I64 s.id, F64 s.ord, S s.urls, .bool s.login, .bool s.proxy, .bool s.back, S s.calls, .slice sa s.rel.length sc].toArray, .slice a lo.length cap].toArray w (Ret fun v w' => ∃ J cs code, Le I J ∧ v = .tuple #[.agg (List.toArray cs), I64 ((code : Nat) : Int)] ∧ code = badO lo s ∧ cs.length = 10 ∧ cs.all Value.oneCell' = true ∧ (code = 0 → EntAt J s cs) ∧ Sat B w' J As) := by
 refine calls Tryz.func130 rfl Tryz.ntmps130 rfl (.seq (.region (.boxA (cs := [_, _, _, _, _, _, _, _]) hS (.of rfl) rfl ?_)))
 clear hS; intro b2 w hS
 refine .allocA (cs := [_, _, _, _, _, _, _, _, _, _]) hS Tryz.zeroValue155 rfl ?_
 clear hS; intro b4 w hS
 refine .run 1 rfl trivial (.nil (.seq (.block (.seq (.region (.run 4 rfl ⟨⟨_, Tryz.underlying152⟩, trivial⟩ (.nil ?_)))))))
 refine WC.cond rfl (fun hb12 => ?_) (fun hb12 => ?_)
 ·
  have hc12 := hb12; try simp only [Gk.cs0] at hc12
  refine .seq (.region (.val (.build (cs := [_, _, _, _, _, _, _, _, _, _]) parts_nil bld155_130 rfl) rfl (.stA hS (k := 0) rfl (.of rfl) (.of rfl) rfl Tryz.sizeOf155 rfl (by simp) ?_)))
  clear hS; intro w hS; try dsimp only [List.set] at hS
  try simp only [List.take_zero, List.nil_append, List.append_nil, List.drop_succ_cons, List.drop_zero, List.drop_nil, Nat.zero_add] at hS
  refine .run 1 rfl trivial (.nil (.ret (ret2c (b := _) (cs := [_, _, _, _, _, _, _, _, _, _]) Tryz.results130 hS (k := 0) rfl Tryz.isAgg155 Tryz.sizeOf155 rfl rfl rfl ?_)))
  refine ⟨_, rfl, I, _, 5, Le.refl _, rfl, ?_, rfl, rfl, fun h => (by cases h), ((hS.drop (k := 0) rfl).drop (k := 0) rfl)⟩
  unfold badO
  rw [if_pos (by simp only [decide_eq_true_eq] at hb12; omega)]
 have hc12 := hb12; try simp only [Gk.cs0] at hc12
 refine .seq (.region (.val (.fieldAddr 0 (.of rfl) Tryz.underlying101 rfl rfl Tryz.sizeOf3 rfl) rfl (.val (.ld (.of rfl) hS (k := 1) rfl Tryz.isAgg3 rfl) rfl (.run 2 rfl trivial (.gval rfl rfl (fun hg1 => (.fieldAddr 7 (.of rfl) Tryz.underlying101 rfl rfl Tryz.sizeOf41 rfl)) rfl (.gval rfl rfl (fun hg1 => (.ld (.gd hg1 rfl) hS (k := 1) rfl Tryz.isAgg41 rfl)) rfl (.gval rfl rfl (fun hg1 => (.lenSlice (.gd hg1 rfl) Tryz.underlying41)) rfl (.gval rfl rfl (fun hg1 => (.gtr (.gd hg1 rfl) (.of rfl))) rfl (.val (.por (.of rfl) (.of rfl) (.of rfl)) rfl (.run 1 rfl trivial (.nil ?_)))))))))))
 refine WC.cond rfl (fun hb17 => ?_) (fun hb17 => ?_)
 ·
  have hc17 := hb17; try simp only [Gk.cs0] at hc17
  refine .seq (.region (.val (.build (cs := [_, _, _, _, _, _, _, _, _, _]) parts_nil bld155_130 rfl) rfl (.stA hS (k := 0) rfl (.of rfl) (.of rfl) rfl Tryz.sizeOf155 rfl (by simp) ?_)))
  clear hS; intro w hS; try dsimp only [List.set] at hS
  try simp only [List.take_zero, List.nil_append, List.append_nil, List.drop_succ_cons, List.drop_zero, List.drop_nil, Nat.zero_add] at hS
  refine .run 1 rfl trivial (.nil (.ret (ret2c (b := _) (cs := [_, _, _, _, _, _, _, _, _, _]) Tryz.results130 hS (k := 0) rfl Tryz.isAgg155 Tryz.sizeOf155 rfl rfl rfl ?_)))
  refine ⟨_, rfl, I, _, 1, Le.refl _, rfl, ?_, rfl, rfl, fun h => (by cases h), ((hS.drop (k := 0) rfl).drop (k := 0) rfl)⟩
  unfold badO
  rw [if_neg (by simp only [decide_eq_false_iff_not] at hb12; omega), if_pos hb17]
 have hc17 := hb17; try simp only [Gk.cs0] at hc17
 refine .seq ?_
 replace hS := hS.pick 1 rfl
 try dsimp only [List.eraseIdx] at hS
 refine .region (.run 1 rfl trivial (.val (.makeFunc (evs_cons (.of rfl) evs_nil)) rfl ?_))
 refine WL.call Tryz.func167 rfl (evs_cons (.of rfl) (evs_cons (.of rfl) evs_nil)) rfl (ContainsFunc_any a cap lo hlo (fun t => t.id == s.id) 168 _ Tryz.func168 rfl [ptr b2 0] B _ I (blk b2 [I64 s.id, F64 s.ord, S s.urls, .bool s.login, .bool s.proxy, .bool s.back, S s.calls, .slice sa s.rel.length sc] 101 :: blk b4 [I64 0, F64 0, S [], .bool false, .bool false, .bool false, S [], .slice none 0 0, .pointer none, .pointer none] 155 :: As) (fun w h => hE w ((h.drop (k := 0) rfl).drop (k := 0) rfl)) (fun t c ht w h => by
  obtain ⟨ta, tc, tp, tq, _, _, rfl, _⟩ := ht
  exact madeC_any t s ta sa tc sc tp tq b2 B w I _ h) hS) ?_
 clear hS
 rintro _ w ⟨rfl, hS⟩
 rw [firstI_any]
 refine .run 1 rfl trivial (.nil ?_)
 refine WC.cond rfl (fun hb28 => ?_) (fun hb28 => ?_)
 ·
  have hc28 := hb28; try simp only [Gk.cs0] at hc28
  refine .seq (.region (.val (.build (cs := [_, _, _, _, _, _, _, _, _, _]) parts_nil bld155_130 rfl) rfl (.stA hS (k := 1) rfl (.of rfl) (.of rfl) rfl Tryz.sizeOf155 rfl (by simp) ?_)))
  clear hS; intro w hS; try dsimp only [List.set] at hS
  try simp only [List.take_zero, List.nil_append, List.append_nil, List.drop_succ_cons, List.drop_zero, List.drop_nil, Nat.zero_add] at hS
  refine .run 1 rfl trivial (.nil (.ret (ret2c (b := _) (cs := [_, _, _, _, _, _, _, _, _, _]) Tryz.results130 hS (k := 1) rfl Tryz.isAgg155 Tryz.sizeOf155 rfl rfl rfl ?_)))
  refine ⟨_, rfl, I, _, 7, Le.refl _, rfl, ?_, rfl, rfl, fun h => (by cases h), ((hS.drop (k := 0) rfl).drop (k := 0) rfl)⟩
  unfold badO
  rw [if_neg (by simp only [decide_eq_false_iff_not] at hb12; omega), if_neg (by rw [hb17]; decide), if_pos hb28]
 have hc28 := hb28; try simp only [Gk.cs0] at hc28
 refine .skip (.seq (.region (.val (.fieldAddr 2 (.of rfl) Tryz.underlying101 rfl rfl Tryz.sizeOf9 rfl) rfl (.val (.ld (.of rfl) hS (k := 0) rfl Tryz.isAgg9 rfl) rfl (.call Tryz.func169 rfl (evs_cons (.of rfl) evs_nil) rfl (Compile_t s.urls B _ I _ hS hu) ?_)))))
 clear hS
 rintro _ w ⟨po, e1, a1, J1, rfl, hJ1, hc1, hS⟩
 refine .run 7 rfl trivial (.nil (.seq (.region (.val (.fieldAddr 6 (.of rfl) Tryz.underlying101 rfl rfl Tryz.sizeOf9 rfl) rfl (.val (.ld (.of rfl) hS (k := 0) rfl Tryz.isAgg9 rfl) rfl (.call Tryz.func169 rfl (evs_cons (.of rfl) evs_nil) rfl (Compile_t s.calls B _ J1 _ hS hcl) ?_))))))
 clear hS
 rintro _ w ⟨qo, e2, a2, J2, rfl, hJ2, hc2, hS⟩
 refine .run 7 rfl trivial (.nil (.seq (.seq (.region (.run 3 rfl trivial (.gval rfl rfl (fun hg1 => (.move (.of rfl))) rfl (.gval rfl rfl (fun hg1 => (.neq (.gd hg1 rfl) (.of rfl))) rfl (.val (.por (.of rfl) (.of rfl) (.of rfl)) rfl (.nil ?_)))))))))
 refine WC.cond rfl (fun hb52 => ?_) (fun hb52 => ?_)
 ·
  have hc52 := hb52; try simp only [Gk.cs0] at hc52
  refine .seq (.region (.val (.build (cs := [_, _, _, _, _, _, _, _, _, _]) parts_nil bld155_130 rfl) rfl (.stA hS (k := 1) rfl (.of rfl) (.of rfl) rfl Tryz.sizeOf155 rfl (by simp) ?_)))
  clear hS; intro w hS; try dsimp only [List.set] at hS
  try simp only [List.take_zero, List.nil_append, List.append_nil, List.drop_succ_cons, List.drop_zero, List.drop_nil, Nat.zero_add] at hS
  refine .run 1 rfl trivial (.nil (.ret (ret2c (b := _) (cs := [_, _, _, _, _, _, _, _, _, _]) Tryz.results130 hS (k := 1) rfl Tryz.isAgg155 Tryz.sizeOf155 rfl rfl rfl ?_)))
  refine ⟨_, rfl, J2, _, 8, Le.trans hJ1 hJ2, rfl, ?_, rfl, rfl, fun h => (by cases h), ((hS.drop (k := 0) rfl).drop (k := 0) rfl)⟩
  have hk := hb52
  rw [(comp_chk hc1).1, (comp_chk hc2).1] at hk
  unfold badO
  rw [if_neg (by simp only [decide_eq_false_iff_not] at hb12; omega), if_neg (by rw [hb17]; decide), if_neg (by rw [hb28]; decide), if_pos hk]
 have hc52 := hb52; try simp only [Gk.cs0] at hc52
 refine .skip (.seq (.region (.val (.fieldAddr 7 (.of rfl) Tryz.underlying101 rfl rfl Tryz.sizeOf41 rfl) rfl (.val (.ld (.of rfl) hS (k := 0) rfl Tryz.isAgg41 rfl) rfl (.call Tryz.func129 rfl (evs_cons (.of rfl) evs_nil) rfl (Clone_any sa sc s.rel hrl B _ J2 ((hr.mono hJ1).mono hJ2) _ hS) ?_)))))
 clear hS
 rintro _ w ⟨J3, ra, rc, rfl, hJ3, hrc, hrr, hS⟩
 refine .val (.fieldAddr 7 (.of rfl) Tryz.underlying101 rfl rfl Tryz.sizeOf41 rfl) rfl (.st1 hS (k := 0) rfl (.of rfl) (.of rfl) rfl Tryz.sizeOf41 (by simp) ?_)
 clear hS; intro w hS; try dsimp only [List.set] at hS
 refine .nil (.seq (.region (.val (.ldsW (cs := [_, _, _, _, _, _, _, _]) (.of rfl) hS (k := 0) rfl Tryz.isAgg101 Tryz.sizeOf101 rfl) rfl (.run 2 rfl trivial (.val (.build (cs := [_, _, _, _, _, _, _, _, _, _]) (parts_cons (.of rfl) (parts_cons (.of rfl) (parts_cons (.of rfl) parts_nil))) bld155_130 rfl) rfl (.stA hS (k := 1) rfl (.of rfl) (.of rfl) rfl Tryz.sizeOf155 rfl (by simp) ?_))))))
 clear hS; intro w hS; try dsimp only [List.set] at hS
 try simp only [List.take_zero, List.nil_append, List.append_nil, List.drop_succ_cons, List.drop_zero, List.drop_nil, Nat.zero_add] at hS
 refine .run 1 rfl trivial (.nil (.ret (ret2c (b := _) (cs := [_, _, _, _, _, _, _, _, _, _]) Tryz.results130 hS (k := 1) rfl Tryz.isAgg155 Tryz.sizeOf155 rfl rfl rfl ?_)))
 have hk := hb52
 rw [(comp_chk hc1).1, (comp_chk hc2).1] at hk
 obtain ⟨k1, k2⟩ := Bool.or_eq_false_iff.1 hk
 simp only [bne_eq_false_iff_eq] at k1 k2
 obtain ⟨p, Q, rfl, hq, hp⟩ := (comp_chk hc1).2 k1
 obtain ⟨q, T, rfl, hq2, hp2⟩ := (comp_chk hc2).2 k2
 refine ⟨_, rfl, J3, entCells s ra rc p q, 0, Le.trans hJ1 (Le.trans hJ2 hJ3), rfl, ?_, rfl, rfl, fun _ => ⟨ra, rc, p, q, Q, T, rfl, hrc, hrr, hq, hp.mono (Le.trans hJ2 hJ3), hq2, hp2.mono hJ3⟩, ((hS.drop (k := 0) rfl).drop (k := 0) rfl)⟩
 unfold badO
 rw [if_neg (by simp only [decide_eq_false_iff_not] at hb12; omega), if_neg (by rw [hb17]; decide), if_neg (by rw [hb28]; decide), if_neg (by rw [hk]; decide)]
end Go.Proofs.YtadhiihnnkcagaaGreatDoor
namespace Go.Proofs.YtadhiihnnkcagaaGreatDoor
open Gk Pat
set_option linter.unusedVariables false
set_option linter.unusedSimpArgs false
def RegAt (I : Im) (pr : Addr) (lo : List Sv) : Prop := ∃ a c E, At I pr [.slice a lo.length c] ∧ lo.length ≤ c ∧ EntsIn I a E lo
theorem EntsIn.mono {I J : Im} {a : Option Addr} {E : List (List Value)} {l : List Sv} (h : EntsIn I a E l) (hl : Le I J) : EntsIn J a E l := ⟨h.1, fun i s hs => by
 obtain ⟨p, c, e, h0, h1, ra, rc, pp, qq, Q, T, e2, h2, h3, h4, h5, h6, h7⟩ := h.2 i s hs
 exact ⟨p, c, e, h0, h1.mono hl, ra, rc, pp, qq, Q, T, e2, h2, h3.mono hl, h4, h5.mono hl, h6, h7.mono hl⟩⟩
def RowsOf (J : Im) (C : List (List Value)) (l : List Sv) : Prop := C.length = l.length ∧ ∀ (i : Nat) (s : Sv), l[i]? = some s → ∃ c, C[i]? = some c ∧ SvAt J s c
theorem RowsOf.mono {J K : Im} {C : List (List Value)} {l : List Sv} (h : RowsOf J C l) (hl : Le J K) : RowsOf K C l := ⟨h.1, fun i s hs => by
 obtain ⟨c, h1, h2⟩ := h.2 i s hs
 exact ⟨c, h1, h2.mono hl⟩⟩
theorem RowsOf.snoc {J : Im} {C : List (List Value)} {l : List Sv} {s : Sv} {c : List Value} (h : RowsOf J C l) (hs : SvAt J s c) : RowsOf J (C ++ [c]) (l ++ [s]) := ⟨by simp [h.1], fun i t ht => by
 rcases Nat.lt_or_ge i l.length with hi | hi
 ·rw [List.getElem?_append_left hi] at ht
  obtain ⟨d, h1, h2⟩ := h.2 i t ht
  exact ⟨d, by rw [List.getElem?_append_left (by rw [h.1]; exact hi)]; exact h1, h2⟩
 ·rw [List.getElem?_append_right hi] at ht
  have hi0 : i - l.length = 0 := by have := (List.getElem?_eq_some_iff.1 ht).1; simp at this; omega
  rw [hi0] at ht
  cases ht
  exact ⟨c, by rw [List.getElem?_append_right (by rw [h.1]; exact hi), h.1, hi0]; rfl, hs⟩⟩
end Go.Proofs.YtadhiihnnkcagaaGreatDoor
namespace Go.Proofs.YtadhiihnnkcagaaGreatDoor
open Gk Pat
set_option linter.unusedVariables false
set_option linter.unusedSimpArgs false
theorem info32_89 : Tryz.prog.info? 32 = some Tryz.t32 := by kernel_rfl
theorem info155_89 : Tryz.prog.info? 155 = some Tryz.t155 := by kernel_rfl
theorem bld157_89 : Bld Tryz.prog 157 [(0, 1)] [.slice none 0 0] := bld_of Tryz.underlying157 Tryz.zeroValue157 (fun w => by simp [go_sem])
theorem bad_le {l : List Sv} {i : Nat} (h : ∀ (j : Nat) t, j < i → l[j]? = some t → bad l j t = 0) (hi : i ≤ l.length) : i ≤ 16 := by
 rcases Nat.lt_or_ge 16 i with h1 | h1
 ·have := h 16 _ h1 (List.getElem?_eq_getElem (by omega))
  unfold bad at this
  rw [if_pos rfl] at this
  cases this
 ·exact h1
theorem badO_bad {l : List Sv} {i : Nat} {s : Sv} (hi : i ≤ 16) (hl : i ≤ l.length) : badO (l.take i) s = bad l i s := by
 unfold badO bad
 rw [List.length_take, Nat.min_eq_left hl]
 by_cases h : i = 16
 ·rw [if_pos (by omega), if_pos h]
 ·rw [if_neg (by omega), if_neg h]
theorem made_n (s : Sv) (sa : Option Addr) (sc : Nat) (hsc : s.rel.length ≤ sc) (hrl : s.rel.length ≤ 1000000) (hu : s.urls.length ≤ 9223372036854775807) (hcl : s.calls.length ≤ 9223372036854775807) (a : Option Addr) (cap : Nat) (lo : List Sv) (n : Nat) (hn : lo.length = n) (hlo : n ≤ 100000) (B w : World) (I : Im) (hr : RS I sa 1 s.rel.length (s.rel.map S)) (As : List Assn) (hE : ∀ w, Sat B w I As → EntsW w I a lo) (hS : Sat B w I As) :
  Calls Tryz.prog 130 [.agg [I64 s.id, F64 s.ord, S s.urls, .bool s.login, .bool s.proxy, .bool s.back, S s.calls, .slice sa s.rel.length sc].toArray, .slice a n cap].toArray w (Ret fun v w' => ∃ J cs code, Le I J ∧ v = .tuple #[.agg (List.toArray cs), I64 ((code : Nat) : Int)] ∧ code = badO lo s ∧ cs.length = 10 ∧ cs.all Value.oneCell' = true ∧ (code = 0 → EntAt J s cs) ∧ Sat B w' J As) := by
 subst hn
 exact made_any s sa sc hsc hrl hu hcl a cap lo hlo B w I hr As hE hS
theorem ents_n {B w : World} {I : Im} {As : List Assn} {k T cap n : Nat} {a : Option Addr} {E : List (List Value)} {l : List Sv} (hS : Sat B w I As) (hn : l.length = n) (hk : As[k]? = some (Vec T 10 (.slice a n cap) n E.flatten)) (h10 : ∀ c ∈ E, c.length = 10)
  (hE : ∀ (i : Nat) (s : Sv), l[i]? = some s → ∃ c, E[i]? = some c ∧ EntAt I s c) : EntsW w I a l := by
 subst hn
 exact ents_vec hS hk h10 hE
theorem EntAt.mono {I J : Im} {s : Sv} {l : List Value} (h : EntAt I s l) (hl : Le I J) : EntAt J s l := by
 obtain ⟨ra, rc, pp, qq, Q, T, e2, h2, h3, h4, h5, h6, h7⟩ := h
 exact ⟨ra, rc, pp, qq, Q, T, e2, h2, h3.mono hl, h4, h5.mono hl, h6, h7.mono hl⟩
theorem EntAt.len {I : Im} {s : Sv} {l : List Value} (h : EntAt I s l) : l.length = 10 := by
 obtain ⟨ra, rc, pp, qq, Q, T, rfl, _⟩ := h
 rfl
def pickS (l : List Sv) (D : List Int) : List Sv := D.map fun d => l.getD d.toNat z0
theorem New_any (a : Option Addr) (cap : Nat) (l : List Sv) (hln : l.length ≤ 100000) (hom : ∀ v ∈ ords l, v < 18446744073709551616) (hfit : ∀ s ∈ l, s.urls.length ≤ 9223372036854775807 ∧ s.calls.length ≤ 9223372036854775807 ∧ s.rel.length ≤ 1000000) (B w : World) (I : Im) (hl : SvsAt I a l) (As : List Assn) (hS : Sat B w I As) :
  Calls Tryz.prog 89 [.slice a l.length cap].toArray w (Ret fun v w' => ∃ J, Le I J ∧ Sat B w' J As ∧ (((wrong l).1 ≠ 0 ∧ v = .tuple #[.pointer none, I64 ((wrong l).1 : Nat), I64 ((wrong l).2 : Nat)]) ∨ ((wrong l).1 = 0 ∧ ∃ pr D, v = .tuple #[.pointer (some pr), I64 0, I64 0] ∧ Srt.Ord (kx (ords l)) l.length D ∧ RegAt J pr (pickS l D)))) := by
 refine calls Tryz.func89 rfl Tryz.ntmps89 rfl (.seq (.region (.run 3 rfl trivial (.nil (.seq (.region (.run 1 rfl trivial (.nil (.seq (.region (.run 1 rfl trivial (.nil (.seq (.seq (.region (.run 3 rfl ⟨⟨_, Tryz.underlying27⟩, trivial⟩ (.nil (.block ?_))))))))))))))))))
 replace hS := hS.vecNil 32 1
 replace hS := hS.vecNil 155 10
 refine .loop (σ := Nat × Im × Value × Value × List (List Value)) (fun ⟨i, J, ev, ov, E⟩ => [(5, ev), (6, ov), (14, .slice a l.length cap), (15, I64 (l.length : Nat)), (16, I64 (i : Nat))]) (fun ⟨i, J, ev, ov, E⟩ w => i ≤ l.length ∧ Le I J ∧ E.length = i ∧ (∀ c ∈ E, c.length = 10) ∧ (∀ (j : Nat) (s : Sv), (l.take i)[j]? = some s → ∃ c, E[j]? = some c ∧ EntAt J s c) ∧ (∀ (j : Nat) (t : Sv), j < i → l[j]? = some t → bad l j t = 0) ∧ Sat B w J (Vec 155 10 ev i E.flatten :: Vec 32 1 ov i (((ords l).take i).map F64) :: As)) (fun ⟨i, J, ev, ov, E⟩ => l.length - i) (0, I, .slice none 0 0, .slice none 0 0, []) ⟨rfl, rfl, rfl, rfl, rfl, trivial⟩ ⟨Nat.zero_le _, Le.refl _, rfl, fun _ h => (by simp at h), fun _ _ h => (by simp at h), fun _ _ h => absurd h (by omega), hS⟩ ?_
 rintro ⟨i, J, ev, ov, E⟩ w ⟨hi, hJ, hEl, h10, hEE, hok, hS⟩
 change WC _ _ _ _ [(5, ev), (6, ov), (14, .slice a l.length cap), (15, I64 (l.length : Nat)), (16, I64 (i : Nat))] w
 refine .seq (.region (.run 1 rfl trivial (.nil (.seq ?_))))
 refine WC.cond rfl (fun hb17 => ?_) (fun hb17 => ?_)
 ·
  have hc17 := hb17; try simp only [Gk.cs0] at hc17
  refine .skip (.seq (.block (.seq ?_)))
  obtain ⟨s, hs⟩ : ∃ s, l[i]? = some s := ⟨_, List.getElem?_eq_getElem (by omega)⟩
  obtain ⟨p, ra, rc, rfl, hx, hrc, hr⟩ := (hl.mono hJ) i s hs
  unfold svCells at hx
  have hi16 := bad_le hok hi
  have hsm := hfit s (List.mem_of_getElem? hs)
  have hln : (l.take i).length = i := by rw [List.length_take]; omega
  have hnx : ((ords l).take (i + 1)).map F64 = ((ords l).take i).map F64 ++ [F64 s.ord] := by
   rw [List.take_add_one, ords, List.getElem?_map, hs, List.map_append]; rfl
  have htn : l.take (i + 1) = l.take i ++ [s] := by rw [List.take_add_one, hs]; rfl
  obtain ⟨ea, ec, rfl, hec, _⟩ := hS.vecSlice (k := 0) rfl
  obtain ⟨oa, oc, rfl, hoc, _⟩ := hS.vecSlice (k := 1) rfl
  refine .region (.run 1 rfl trivial (.val (.indexAddrI (.of rfl) (.of rfl) (by omega) (by omega) Tryz.underlying27 Tryz.sizeOf101) rfl (.val (.ldsI (.of rfl) hS hx Tryz.isAgg101 Tryz.sizeOf101 rfl (fun _ _ h => h)) rfl (.allocA (cs := [_, _, _, _, _, _, _, _]) hS Tryz.zeroValue101 rfl ?_))))
  clear hS; intro b8 w hS
  refine .run 1 rfl trivial (.stA hS (k := 0) rfl (.of rfl) (.of rfl) rfl Tryz.sizeOf101 rfl (by simp) ?_)
  clear hS; intro w hS; try dsimp only [List.set] at hS
  try simp only [List.take_zero, List.nil_append, List.append_nil, List.drop_succ_cons, List.drop_zero, List.drop_nil, Nat.zero_add] at hS
  refine .nil (.seq (.region (.val (.ldsW (cs := [_, _, _, _, _, _, _, _]) (.of rfl) hS (k := 0) rfl Tryz.isAgg101 Tryz.sizeOf101 rfl) rfl (.run 1 rfl trivial (.call Tryz.func130 rfl (evs_cons (.of rfl) (evs_cons (.of rfl) evs_nil)) rfl (made_n s ra rc hrc hsm.2.2 hsm.1 hsm.2.1 ea ec (l.take i) i hln (by omega) B _ J hr _ (fun w h => ents_n h hln (k := 1) rfl h10 hEE) hS) ?_)))))
  clear hS
  rintro _ w ⟨J2, cs, code, hJ2, rfl, hcode, hcs10, hall, hent, hS⟩
  refine .run 3 rfl trivial (.allocA (cs := [_, _, _, _, _, _, _, _, _, _]) hS Tryz.zeroValue155 rfl ?_)
  clear hS; intro b9 w hS
  refine .stA hS (k := 0) rfl (.of rfl) (.of rfl) hall Tryz.sizeOf155 hcs10 (by simp) ?_
  clear hS; intro w hS; try dsimp only [List.set] at hS
  try simp only [List.take_zero, List.nil_append, List.append_nil, List.drop_succ_cons, List.drop_zero, List.drop_nil, Nat.zero_add] at hS
  refine .run 1 rfl trivial (.nil (.seq (.seq (.region (.run 2 rfl trivial (.nil ?_))))))
  refine WC.cond rfl (fun hb28 => ?_) (fun hb28 => ?_)
  ·
   have hc28 := hb28; try simp only [Gk.cs0] at hc28
   refine .seq (.region (.run 5 rfl trivial (.nil (.ret (ret3 Tryz.results89 rfl rfl rfl ?_)))))
   have hb2 := badO_bad (l := l) (i := i) (s := s) hi16 (by omega)
   have hbn : bad l i s ≠ 0 := by rw [← hb2, ← hcode]; omega
   have hw := wrong_hit hok hs hbn
   refine ⟨_, rfl, J2, Le.trans hJ hJ2, (((hS.drop (k := 0) rfl).drop (k := 0) rfl).drop (k := 0) rfl).drop (k := 0) rfl, .inl ⟨by rw [hw]; exact hbn, ?_⟩⟩
   rw [hw, hcode, hb2]
   rfl
  have hc28 := hb28; try simp only [Gk.cs0] at hc28
  refine .skip ?_
  have hcode0 : code = 0 := by omega
  obtain ⟨sa, sc, pp, qq, Q, T, rfl, hsc, hent⟩ := hent hcode0
  have hent2 : EntAt J2 s (entCells s sa sc pp qq) := ⟨sa, sc, pp, qq, Q, T, rfl, hsc, hent⟩
  have hbad0 : bad l i s = 0 := by rw [← badO_bad (l := l) (i := i) hi16 (by omega), ← hcode, hcode0]
  unfold entCells at hS
  refine .drawn (fun w => ∃ R, Sat B w J2 (blk b9 [I64 s.id, F64 s.ord, S s.urls, .bool s.login, .bool s.proxy, .bool s.back, S s.calls, .slice sa s.rel.length sc, .pointer (some pp), .pointer (some qq)] 155 :: blk b8 [I64 s.id, F64 s.ord, S s.urls, .bool s.login, .bool s.proxy, .bool s.back, S s.calls, .slice ra s.rel.length rc] 101 :: R)) (fun j => !([].contains j)) (by kernel_rfl) ?_
  replace hS := hS.drew; generalize w.drew = w at hS ⊢
  have hH : ∃ R, Sat B w J2 (blk b9 [I64 s.id, F64 s.ord, S s.urls, .bool s.login, .bool s.proxy, .bool s.back, S s.calls, .slice sa s.rel.length sc, .pointer (some pp), .pointer (some qq)] 155 :: blk b8 [I64 s.id, F64 s.ord, S s.urls, .bool s.login, .bool s.proxy, .bool s.back, S s.calls, .slice ra s.rel.length rc] 101 :: R) := ⟨_, ((hS.pick 1 rfl).pick 1 rfl)⟩
  refine .takeP (i := 0) rfl (by kernel_rfl) (by kernel_rfl) (by kernel_rfl) (fun w => (.move (.of rfl))) rfl (.take (i := 1) rfl (by kernel_rfl) (by kernel_rfl) (by kernel_rfl) (by kernel_rfl) hH (fun w ⟨R, hS⟩ => (.ldsW (cs := [_, _, _, _, _, _, _, _, _, _]) (.of rfl) hS (k := 0) rfl Tryz.isAgg155 Tryz.sizeOf155 rfl)) rfl (.takeP (i := 4) rfl (by kernel_rfl) (by kernel_rfl) (by kernel_rfl) (fun w => (.move (.of rfl))) rfl (.takeP (i := 5) rfl (by kernel_rfl) (by kernel_rfl) (by kernel_rfl) (fun w => (.fieldAddr 1 (.of rfl) Tryz.underlying101 rfl rfl Tryz.sizeOf32 rfl)) rfl (.take (i := 6) rfl (by kernel_rfl) (by kernel_rfl) (by kernel_rfl) (by kernel_rfl) hH (fun w ⟨R, hS⟩ => (.ld (.of rfl) hS (k := 1) rfl Tryz.isAgg32 rfl)) rfl ?_))))
  refine WD.branch [2, 7] (by kernel_rfl) rfl (WO.cons rfl ?_ (WO.cons rfl ?_ (WO.nil)))
  ·
   refine .buildSlice (cs := [_, _, _, _, _, _, _, _, _, _]) hS (parts_cons (.of rfl) parts_nil) Tryz.underlying152 Tryz.sizeOf155 Tryz.zeroValue155 rfl rfl rfl rfl ?_
   clear hS; intro b33 w hS
   refine .nil ?_
   clear hH
   have hH : ∃ R, Sat B w J2 (blk b9 [I64 s.id, F64 s.ord, S s.urls, .bool s.login, .bool s.proxy, .bool s.back, S s.calls, .slice sa s.rel.length sc, .pointer (some pp), .pointer (some qq)] 155 :: blk b8 [I64 s.id, F64 s.ord, S s.urls, .bool s.login, .bool s.proxy, .bool s.back, S s.calls, .slice ra s.rel.length rc] 101 :: R) := ⟨_, ((hS.pick 2 rfl).pick 2 rfl)⟩
   refine And.intro (by intro _ _; exact hH) ?_
   refine WD.branch [3, 7] (by kernel_rfl) rfl (WO.cons rfl ?_ (WO.cons rfl ?_ (WO.nil)))
   ·
    refine WL.append (size := 10) (bytes := 96) hS (.of rfl) (.of rfl) (k := 2) rfl Tryz.underlying152 info155_89 rfl rfl rfl rfl rfl rfl rfl ⟨by omega, by unfold maxLen; omega⟩ rfl ?_
    clear hS; intro v34 w hS; try dsimp only [List.set] at hS
    obtain ⟨a34, c34, rfl, hcap34, _⟩ := hS.vecSlice (k := 2) (v := v34) rfl
    refine .nil ?_
    clear hH
    have hH : ∃ R, Sat B w J2 (blk b9 [I64 s.id, F64 s.ord, S s.urls, .bool s.login, .bool s.proxy, .bool s.back, S s.calls, .slice sa s.rel.length sc, .pointer (some pp), .pointer (some qq)] 155 :: blk b8 [I64 s.id, F64 s.ord, S s.urls, .bool s.login, .bool s.proxy, .bool s.back, S s.calls, .slice ra s.rel.length rc] 101 :: R) := ⟨_, ((hS.pick 1 rfl).pick 1 rfl)⟩
    refine And.intro (by intro _ _; exact hH) ?_
    refine WD.branch [7] (by kernel_rfl) rfl (WO.cons rfl ?_ (WO.nil))
    refine .buildSlice (cs := [_]) hS (parts_cons (.of rfl) parts_nil) Tryz.underlying192 Tryz.sizeOf32 Tryz.zeroValue32 rfl rfl rfl rfl ?_
    clear hS; intro b38 w hS
    refine .nil ?_
    clear hH
    have hH : ∃ R, Sat B w J2 (blk b9 [I64 s.id, F64 s.ord, S s.urls, .bool s.login, .bool s.proxy, .bool s.back, S s.calls, .slice sa s.rel.length sc, .pointer (some pp), .pointer (some qq)] 155 :: blk b8 [I64 s.id, F64 s.ord, S s.urls, .bool s.login, .bool s.proxy, .bool s.back, S s.calls, .slice ra s.rel.length rc] 101 :: R) := ⟨_, ((hS.pick 2 rfl).pick 2 rfl)⟩
    refine And.intro (by intro _ _; exact hH) ?_
    refine WD.branch [8] (by kernel_rfl) rfl (WO.cons rfl ?_ (WO.nil))
    refine WL.append (size := 1) (bytes := 8) hS (.of rfl) (.of rfl) (k := 3) rfl Tryz.underlying192 info32_89 rfl rfl rfl rfl rfl rfl rfl ⟨by omega, by unfold maxLen; omega⟩ rfl ?_
    clear hS; intro v39 w hS; try dsimp only [List.set] at hS
    obtain ⟨a39, c39, rfl, hcap39, _⟩ := hS.vecSlice (k := 3) (v := v39) rfl
    refine .nil ?_
    clear hH
    have hH : ∃ R, Sat B w J2 (blk b9 [I64 s.id, F64 s.ord, S s.urls, .bool s.login, .bool s.proxy, .bool s.back, S s.calls, .slice sa s.rel.length sc, .pointer (some pp), .pointer (some qq)] 155 :: blk b8 [I64 s.id, F64 s.ord, S s.urls, .bool s.login, .bool s.proxy, .bool s.back, S s.calls, .slice ra s.rel.length rc] 101 :: R) := ⟨_, ((hS.pick 1 rfl).pick 1 rfl)⟩
    refine And.intro (by intro _ _; exact hH) ?_
    refine .takeP (i := 9) rfl (by kernel_rfl) (by kernel_rfl) (by kernel_rfl) (fun w => (.assign (.of rfl))) rfl (.takeP (i := 10) rfl (by kernel_rfl) (by kernel_rfl) (by kernel_rfl) (fun w => (.assign (.of rfl))) rfl (.done (by kernel_rfl) (.region (.run 2 rfl ⟨⟨by omega, by omega⟩, trivial⟩ (.nil ?_)))))
    have hfin := ((hS.drop (k := 0) rfl).drop (k := 0) rfl)
    refine ⟨(i + 1, J2, .slice a34 (i + 1) c34, .slice a39 (i + 1) c39, E ++ [entCells s sa sc pp qq]), ⟨rfl, rfl, rfl, rfl, rfl, trivial⟩, ⟨by (try dsimp only); omega, Le.trans hJ hJ2, by (try dsimp only); rw [List.length_append, hEl]; rfl, fun c hc => ?_, fun j u hu => ?_, fun j u hj hu => ?_, ?_⟩, by (try dsimp only); omega⟩
    ·rcases List.mem_append.1 hc with h | h
     ·exact h10 c h
     ·simp at h; subst h; rfl
    ·(try dsimp only at hu)
     rw [htn] at hu
     rcases Nat.lt_or_ge j i with h1 | h1
     ·rw [List.getElem?_append_left (by omega)] at hu
      obtain ⟨c, e1, e2⟩ := hEE j u hu
      exact ⟨c, by rw [List.getElem?_append_left (by omega)]; exact e1, e2.mono hJ2⟩
     ·rw [List.getElem?_append_right (by omega), hln] at hu
      have hj0 : j - i = 0 := by have := (List.getElem?_eq_some_iff.1 hu).1; simp at this; omega
      rw [hj0] at hu
      cases hu
      exact ⟨_, by rw [List.getElem?_append_right (by omega), hEl, hj0]; rfl, hent2⟩
    ·rcases Nat.lt_or_ge j i with h1 | h1
     ·exact hok j u h1 hu
     ·have e : j = i := by (try dsimp only at hj); omega
      subst e
      rw [hs] at hu; cases hu
      exact hbad0
    ·(try dsimp only)
     rw [hnx, List.flatten_append]
     simpa [entCells] using hfin
   ·
    refine .buildSlice (cs := [_]) hS (parts_cons (.of rfl) parts_nil) Tryz.underlying192 Tryz.sizeOf32 Tryz.zeroValue32 rfl rfl rfl rfl ?_
    clear hS; intro b38 w hS
    refine .nil ?_
    clear hH
    have hH : ∃ R, Sat B w J2 (blk b9 [I64 s.id, F64 s.ord, S s.urls, .bool s.login, .bool s.proxy, .bool s.back, S s.calls, .slice sa s.rel.length sc, .pointer (some pp), .pointer (some qq)] 155 :: blk b8 [I64 s.id, F64 s.ord, S s.urls, .bool s.login, .bool s.proxy, .bool s.back, S s.calls, .slice ra s.rel.length rc] 101 :: R) := ⟨_, ((hS.pick 3 rfl).pick 3 rfl)⟩
    refine And.intro (by intro _ _; exact hH) ?_
    refine WD.branch [3] (by kernel_rfl) rfl (WO.cons rfl ?_ (WO.nil))
    replace hS := hS.pick 1 rfl; try dsimp only [List.eraseIdx] at hS
    refine WL.append (size := 10) (bytes := 96) hS (.of rfl) (.of rfl) (k := 3) rfl Tryz.underlying152 info155_89 rfl rfl rfl rfl rfl rfl rfl ⟨by omega, by unfold maxLen; omega⟩ rfl ?_
    clear hS; intro v34 w hS; try dsimp only [List.set] at hS
    obtain ⟨a34, c34, rfl, hcap34, _⟩ := hS.vecSlice (k := 3) (v := v34) rfl
    refine .nil ?_
    clear hH
    have hH : ∃ R, Sat B w J2 (blk b9 [I64 s.id, F64 s.ord, S s.urls, .bool s.login, .bool s.proxy, .bool s.back, S s.calls, .slice sa s.rel.length sc, .pointer (some pp), .pointer (some qq)] 155 :: blk b8 [I64 s.id, F64 s.ord, S s.urls, .bool s.login, .bool s.proxy, .bool s.back, S s.calls, .slice ra s.rel.length rc] 101 :: R) := ⟨_, ((hS.pick 2 rfl).pick 2 rfl)⟩
    refine And.intro (by intro _ _; exact hH) ?_
    refine WD.branch [8] (by kernel_rfl) rfl (WO.cons rfl ?_ (WO.nil))
    refine WL.append (size := 1) (bytes := 8) hS (.of rfl) (.of rfl) (k := 3) rfl Tryz.underlying192 info32_89 rfl rfl rfl rfl rfl rfl rfl ⟨by omega, by unfold maxLen; omega⟩ rfl ?_
    clear hS; intro v39 w hS; try dsimp only [List.set] at hS
    obtain ⟨a39, c39, rfl, hcap39, _⟩ := hS.vecSlice (k := 3) (v := v39) rfl
    refine .nil ?_
    clear hH
    have hH : ∃ R, Sat B w J2 (blk b9 [I64 s.id, F64 s.ord, S s.urls, .bool s.login, .bool s.proxy, .bool s.back, S s.calls, .slice sa s.rel.length sc, .pointer (some pp), .pointer (some qq)] 155 :: blk b8 [I64 s.id, F64 s.ord, S s.urls, .bool s.login, .bool s.proxy, .bool s.back, S s.calls, .slice ra s.rel.length rc] 101 :: R) := ⟨_, ((hS.pick 1 rfl).pick 1 rfl)⟩
    refine And.intro (by intro _ _; exact hH) ?_
    refine .takeP (i := 9) rfl (by kernel_rfl) (by kernel_rfl) (by kernel_rfl) (fun w => (.assign (.of rfl))) rfl (.takeP (i := 10) rfl (by kernel_rfl) (by kernel_rfl) (by kernel_rfl) (fun w => (.assign (.of rfl))) rfl (.done (by kernel_rfl) (.region (.run 2 rfl ⟨⟨by omega, by omega⟩, trivial⟩ (.nil ?_)))))
    have hfin := ((hS.drop (k := 0) rfl).drop (k := 0) rfl)
    refine ⟨(i + 1, J2, .slice a34 (i + 1) c34, .slice a39 (i + 1) c39, E ++ [entCells s sa sc pp qq]), ⟨rfl, rfl, rfl, rfl, rfl, trivial⟩, ⟨by (try dsimp only); omega, Le.trans hJ hJ2, by (try dsimp only); rw [List.length_append, hEl]; rfl, fun c hc => ?_, fun j u hu => ?_, fun j u hj hu => ?_, ?_⟩, by (try dsimp only); omega⟩
    ·rcases List.mem_append.1 hc with h | h
     ·exact h10 c h
     ·simp at h; subst h; rfl
    ·(try dsimp only at hu)
     rw [htn] at hu
     rcases Nat.lt_or_ge j i with h1 | h1
     ·rw [List.getElem?_append_left (by omega)] at hu
      obtain ⟨c, e1, e2⟩ := hEE j u hu
      exact ⟨c, by rw [List.getElem?_append_left (by omega)]; exact e1, e2.mono hJ2⟩
     ·rw [List.getElem?_append_right (by omega), hln] at hu
      have hj0 : j - i = 0 := by have := (List.getElem?_eq_some_iff.1 hu).1; simp at this; omega
      rw [hj0] at hu
      cases hu
      exact ⟨_, by rw [List.getElem?_append_right (by omega), hEl, hj0]; rfl, hent2⟩
    ·rcases Nat.lt_or_ge j i with h1 | h1
     ·exact hok j u h1 hu
     ·have e : j = i := by (try dsimp only at hj); omega
      subst e
      rw [hs] at hu; cases hu
      exact hbad0
    ·(try dsimp only)
     rw [hnx, List.flatten_append]
     simpa [entCells] using hfin
  ·
   refine .buildSlice (cs := [_]) hS (parts_cons (.of rfl) parts_nil) Tryz.underlying192 Tryz.sizeOf32 Tryz.zeroValue32 rfl rfl rfl rfl ?_
   clear hS; intro b38 w hS
   refine .nil ?_
   clear hH
   have hH : ∃ R, Sat B w J2 (blk b9 [I64 s.id, F64 s.ord, S s.urls, .bool s.login, .bool s.proxy, .bool s.back, S s.calls, .slice sa s.rel.length sc, .pointer (some pp), .pointer (some qq)] 155 :: blk b8 [I64 s.id, F64 s.ord, S s.urls, .bool s.login, .bool s.proxy, .bool s.back, S s.calls, .slice ra s.rel.length rc] 101 :: R) := ⟨_, ((hS.pick 2 rfl).pick 2 rfl)⟩
   refine And.intro (by intro _ _; exact hH) ?_
   refine WD.branch [2] (by kernel_rfl) rfl (WO.cons rfl ?_ (WO.nil))
   refine .buildSlice (cs := [_, _, _, _, _, _, _, _, _, _]) hS (parts_cons (.of rfl) parts_nil) Tryz.underlying152 Tryz.sizeOf155 Tryz.zeroValue155 rfl rfl rfl rfl ?_
   clear hS; intro b33 w hS
   refine .nil ?_
   clear hH
   have hH : ∃ R, Sat B w J2 (blk b9 [I64 s.id, F64 s.ord, S s.urls, .bool s.login, .bool s.proxy, .bool s.back, S s.calls, .slice sa s.rel.length sc, .pointer (some pp), .pointer (some qq)] 155 :: blk b8 [I64 s.id, F64 s.ord, S s.urls, .bool s.login, .bool s.proxy, .bool s.back, S s.calls, .slice ra s.rel.length rc] 101 :: R) := ⟨_, ((hS.pick 3 rfl).pick 3 rfl)⟩
   refine And.intro (by intro _ _; exact hH) ?_
   refine WD.branch [3] (by kernel_rfl) rfl (WO.cons rfl ?_ (WO.nil))
   refine WL.append (size := 10) (bytes := 96) hS (.of rfl) (.of rfl) (k := 3) rfl Tryz.underlying152 info155_89 rfl rfl rfl rfl rfl rfl rfl ⟨by omega, by unfold maxLen; omega⟩ rfl ?_
   clear hS; intro v34 w hS; try dsimp only [List.set] at hS
   obtain ⟨a34, c34, rfl, hcap34, _⟩ := hS.vecSlice (k := 3) (v := v34) rfl
   refine .nil ?_
   clear hH
   have hH : ∃ R, Sat B w J2 (blk b9 [I64 s.id, F64 s.ord, S s.urls, .bool s.login, .bool s.proxy, .bool s.back, S s.calls, .slice sa s.rel.length sc, .pointer (some pp), .pointer (some qq)] 155 :: blk b8 [I64 s.id, F64 s.ord, S s.urls, .bool s.login, .bool s.proxy, .bool s.back, S s.calls, .slice ra s.rel.length rc] 101 :: R) := ⟨_, ((hS.pick 2 rfl).pick 2 rfl)⟩
   refine And.intro (by intro _ _; exact hH) ?_
   refine WD.branch [8] (by kernel_rfl) rfl (WO.cons rfl ?_ (WO.nil))
   refine WL.append (size := 1) (bytes := 8) hS (.of rfl) (.of rfl) (k := 3) rfl Tryz.underlying192 info32_89 rfl rfl rfl rfl rfl rfl rfl ⟨by omega, by unfold maxLen; omega⟩ rfl ?_
   clear hS; intro v39 w hS; try dsimp only [List.set] at hS
   obtain ⟨a39, c39, rfl, hcap39, _⟩ := hS.vecSlice (k := 3) (v := v39) rfl
   refine .nil ?_
   clear hH
   have hH : ∃ R, Sat B w J2 (blk b9 [I64 s.id, F64 s.ord, S s.urls, .bool s.login, .bool s.proxy, .bool s.back, S s.calls, .slice sa s.rel.length sc, .pointer (some pp), .pointer (some qq)] 155 :: blk b8 [I64 s.id, F64 s.ord, S s.urls, .bool s.login, .bool s.proxy, .bool s.back, S s.calls, .slice ra s.rel.length rc] 101 :: R) := ⟨_, ((hS.pick 1 rfl).pick 1 rfl)⟩
   refine And.intro (by intro _ _; exact hH) ?_
   refine .takeP (i := 9) rfl (by kernel_rfl) (by kernel_rfl) (by kernel_rfl) (fun w => (.assign (.of rfl))) rfl (.takeP (i := 10) rfl (by kernel_rfl) (by kernel_rfl) (by kernel_rfl) (fun w => (.assign (.of rfl))) rfl (.done (by kernel_rfl) (.region (.run 2 rfl ⟨⟨by omega, by omega⟩, trivial⟩ (.nil ?_)))))
   have hfin := ((hS.drop (k := 0) rfl).drop (k := 0) rfl)
   refine ⟨(i + 1, J2, .slice a34 (i + 1) c34, .slice a39 (i + 1) c39, E ++ [entCells s sa sc pp qq]), ⟨rfl, rfl, rfl, rfl, rfl, trivial⟩, ⟨by (try dsimp only); omega, Le.trans hJ hJ2, by (try dsimp only); rw [List.length_append, hEl]; rfl, fun c hc => ?_, fun j u hu => ?_, fun j u hj hu => ?_, ?_⟩, by (try dsimp only); omega⟩
   ·rcases List.mem_append.1 hc with h | h
    ·exact h10 c h
    ·simp at h; subst h; rfl
   ·(try dsimp only at hu)
    rw [htn] at hu
    rcases Nat.lt_or_ge j i with h1 | h1
    ·rw [List.getElem?_append_left (by omega)] at hu
     obtain ⟨c, e1, e2⟩ := hEE j u hu
     exact ⟨c, by rw [List.getElem?_append_left (by omega)]; exact e1, e2.mono hJ2⟩
    ·rw [List.getElem?_append_right (by omega), hln] at hu
     have hj0 : j - i = 0 := by have := (List.getElem?_eq_some_iff.1 hu).1; simp at this; omega
     rw [hj0] at hu
     cases hu
     exact ⟨_, by rw [List.getElem?_append_right (by omega), hEl, hj0]; rfl, hent2⟩
   ·rcases Nat.lt_or_ge j i with h1 | h1
    ·exact hok j u h1 hu
    ·have e : j = i := by (try dsimp only at hj); omega
     subst e
     rw [hs] at hu; cases hu
     exact hbad0
   ·(try dsimp only)
    rw [hnx, List.flatten_append]
    simpa [entCells] using hfin
 have hc17 := hb17; try simp only [Gk.cs0] at hc17
 refine .exit (.seq ?_)
 have hin : i = l.length := by omega
 subst hin
 have hol : (ords l).length = l.length := List.length_map ..
 rw [List.take_of_length_le (Nat.le_refl _)] at hEE
 rw [List.take_of_length_le (by omega)] at hS
 obtain ⟨oa, oc, rfl, hoc, _⟩ := hS.vecSlice (k := 1) rfl
 obtain ⟨ea, ec, rfl, hec, _⟩ := hS.vecSlice (k := 0) rfl
 obtain ⟨J1, hJ1, hOR, hS1⟩ := hS.freezeVec (k := 1) rfl
 try dsimp only [List.eraseIdx] at hS1
 obtain ⟨J2, hJ2, hER, hS2⟩ := hS1.freezeVec (k := 0) rfl
 clear hS hS1
 have hS := hS2
 clear hS2
 try dsimp only [List.eraseIdx] at hS
 replace hJ := Le.trans hJ (Le.trans hJ1 hJ2)
 replace hOR := hOR.mono hJ2
 replace hEE := fun j s h => let ⟨c, h1, h2⟩ := hEE j s h; (⟨c, h1, EntAt.mono h2 (Le.trans hJ1 hJ2)⟩ : ∃ c, E[j]? = some c ∧ EntAt J2 s c)
 refine .region (.val (.build (cs := [_]) parts_nil bld157_89 rfl) rfl (.boxA (cs := [_]) hS (.of rfl) rfl ?_))
 clear hS; intro b42 w hS
 refine .run 1 rfl trivial (.nil (.seq (.seq ?_)))
 rw [← hol] at hOR ⊢
 refine .region (.run 1 rfl trivial (.call Tryz.func131 rfl (evs_cons (.of rfl) evs_nil) rfl (Order_any (ords l) hom (by omega) oa oc B _ J2 hOR _ hS) ?_))
 clear hS
 rintro _ w ⟨D, va, vc, rfl, hD, hS⟩
 obtain ⟨J3, hJ3, hDR, hS2⟩ := hS.freezeVec (k := 0) rfl
 clear hS
 have hS := hS2
 clear hS2
 try dsimp only [List.eraseIdx] at hS
 replace hJ := Le.trans hJ hJ3
 rw [hol] at hD hDR ⊢
 have hDl := hD.len
 refine .run 2 rfl ⟨⟨_, Tryz.underlying195⟩, trivial⟩ (.nil (.block ?_))
 replace hS := (hS.vecNil 155 10).pick 1 rfl
 try dsimp only [List.eraseIdx] at hS
 refine .loop (σ := Value × Nat) (fun ⟨kv, j⟩ => [(5, .slice ea l.length ec), (11, ptr b42 0), (44, .slice va l.length vc), (45, I64 (l.length : Nat)), (46, I64 (j : Nat))]) (fun ⟨kv, j⟩ w => j ≤ l.length ∧ Sat B w J3 (blk b42 [kv] 157 :: Vec 155 10 kv j (pickR E (D.take j)).flatten :: As)) (fun ⟨kv, j⟩ => l.length - j) (.slice none 0 0, 0) ⟨rfl, rfl, rfl, rfl, rfl, trivial⟩ ⟨Nat.zero_le _, hS⟩ ?_
 rintro ⟨kv, j⟩ w ⟨hj, hS⟩
 change WC _ _ _ _ [(5, .slice ea l.length ec), (11, ptr b42 0), (44, .slice va l.length vc), (45, I64 (l.length : Nat)), (46, I64 (j : Nat))] w
 refine .seq (.region (.run 1 rfl trivial (.nil (.seq ?_))))
 refine WC.cond rfl (fun hb47 => ?_) (fun hb47 => ?_)
 ·
  have hc47 := hb47; try simp only [Gk.cs0] at hc47
  refine .skip (.seq (.block (.seq ?_)))
  obtain ⟨d, hd⟩ : ∃ d, D[j]? = some d := ⟨_, List.getElem?_eq_getElem (by omega)⟩
  have hdm : d ∈ Srt.upto l.length := hD.2.mem_iff.1 (List.mem_of_getElem? hd)
  have hdr := Srt.upto_mem.1 hdm
  obtain ⟨s, hs⟩ : ∃ s, l[d.toNat]? = some s := ⟨_, List.getElem?_eq_getElem (by omega)⟩
  obtain ⟨c, hc, ra, rc, pp, qq, Q, T, rfl, hent⟩ := hEE d.toNat s hs
  obtain ⟨pe, rfl, hpe⟩ := (hER.mono hJ3).2 (by omega)
  have hx := at_take (hpe.add (d.toNat * 10)) 10
  rw [flat_piece E h10 d.toNat _ hc] at hx
  have hnr : (pickR E (D.take (j + 1))).flatten = (pickR E (D.take j)).flatten ++ entCells s ra rc pp qq := by
   unfold pickR
   rw [List.take_add_one, hd, List.map_append, List.flatten_append]
   simp [List.getD_eq_getElem?_getD, hc]
  unfold entCells at hx hnr
  obtain ⟨dp, rfl, hdp⟩ := hDR.2 (by omega)
  obtain ⟨ka, kc, rfl, hkc, _⟩ := hS.vecSlice (k := 1) rfl
  have hdx : ((D.map I64).drop ((j : Int).toNat * 1))[0]? = some (I64 d) := by rw [List.getElem?_drop, Int.toNat_natCast, Nat.mul_one, Nat.add_zero, List.getElem?_map, hd]; rfl
  refine .region (.val (.indexAddrI (.of rfl) (.of rfl) (by omega) (by omega) Tryz.underlying195 Tryz.sizeOf3) rfl (.val (.ldI (v := I64 d) (.of rfl) hS (hdp.add _) Tryz.isAgg3 hdx) rfl (.run 1 rfl trivial (.nil (.drawn (fun w => ∃ R, Sat B w J3 (blk b42 [.slice ka j kc] 157 :: R)) (fun j => !([13].contains j)) (by kernel_rfl) ?_)))))
  replace hS := hS.drew; generalize w.drew = w at hS ⊢
  have hH : ∃ R, Sat B w J3 (blk b42 [.slice ka j kc] 157 :: R) := ⟨_, (hS.pick 0 rfl)⟩
  refine .takeP (i := 0) rfl (by kernel_rfl) (by kernel_rfl) (by kernel_rfl) (fun w => (.move (.of rfl))) rfl (.takeP (i := 1) rfl (by kernel_rfl) (by kernel_rfl) (by kernel_rfl) (fun w => (.move (.of rfl))) rfl (.takeP (i := 2) rfl (by kernel_rfl) (by kernel_rfl) (by kernel_rfl) (fun w => (.nilCheck (.of rfl))) rfl (.takeP (i := 3) rfl (by kernel_rfl) (by kernel_rfl) (by kernel_rfl) (fun w => (.fieldAddr 0 (.of rfl) Tryz.underlying157 rfl rfl Tryz.sizeOf152 rfl)) rfl (.take (i := 4) rfl (by kernel_rfl) (by kernel_rfl) (by kernel_rfl) (by kernel_rfl) hH (fun w ⟨R, hS⟩ => (.ld (.of rfl) hS (k := 0) rfl Tryz.isAgg152 rfl)) rfl (.takeP (i := 5) rfl (by kernel_rfl) (by kernel_rfl) (by kernel_rfl) (fun w => (.move (.of rfl))) rfl (.takeP (i := 6) rfl (by kernel_rfl) (by kernel_rfl) (by kernel_rfl) (fun w => (.move (.of rfl))) rfl (.takeP (i := 7) rfl (by kernel_rfl) (by kernel_rfl) (by kernel_rfl) (fun w => (.indexAddrI (.of rfl) (.of rfl) (by omega) (by omega) Tryz.underlying152 Tryz.sizeOf155)) rfl (.take (i := 8) rfl (by kernel_rfl) (by kernel_rfl) (by kernel_rfl) (by kernel_rfl) hH (fun w ⟨R, hS⟩ => (.ldsI (.of rfl) hS hx Tryz.isAgg155 Tryz.sizeOf155 rfl (fun _ _ h => h))) rfl ?_))))))))
  refine WD.branch [9] (by kernel_rfl) rfl (WO.cons rfl ?_ (WO.nil))
  refine .buildSlice (cs := [_, _, _, _, _, _, _, _, _, _]) hS (parts_cons (.of rfl) parts_nil) Tryz.underlying152 Tryz.sizeOf155 Tryz.zeroValue155 rfl rfl rfl rfl ?_
  clear hS; intro b59 w hS
  refine .nil ?_
  clear hH
  have hH : ∃ R, Sat B w J3 (blk b42 [.slice ka j kc] 157 :: R) := ⟨_, (hS.pick 1 rfl)⟩
  refine And.intro (by intro _ _; exact hH) ?_
  refine WD.branch [10] (by kernel_rfl) rfl (WO.cons rfl ?_ (WO.nil))
  refine WL.append (size := 10) (bytes := 96) hS (.of rfl) (.of rfl) (k := 1) rfl Tryz.underlying152 info155_89 rfl rfl rfl rfl rfl rfl rfl ⟨by omega, by unfold maxLen; omega⟩ rfl ?_
  clear hS; intro v60 w hS; try dsimp only [List.set] at hS
  obtain ⟨a60, c60, rfl, hcap60, _⟩ := hS.vecSlice (k := 1) (v := v60) rfl
  refine .nil ?_
  clear hH
  have hH : ∃ R, Sat B w J3 (blk b42 [.slice ka j kc] 157 :: R) := ⟨_, (hS.pick 0 rfl)⟩
  refine And.intro (by intro _ _; exact hH) ?_
  refine .takeP (i := 11) rfl (by kernel_rfl) (by kernel_rfl) (by kernel_rfl) (fun w => (.nilCheck (.of rfl))) rfl (.takeP (i := 12) rfl (by kernel_rfl) (by kernel_rfl) (by kernel_rfl) (fun w => (.fieldAddr 0 (.of rfl) Tryz.underlying157 rfl rfl Tryz.sizeOf152 rfl)) rfl ?_)
  refine WD.branch [13] (by kernel_rfl) rfl (WO.cons rfl ?_ (WO.nil))
  refine .st1 hS (k := 0) rfl (.of rfl) (.of rfl) rfl Tryz.sizeOf152 (by simp) ?_
  clear hS; intro w hS; try dsimp only [List.set] at hS
  refine .nil ?_
  refine And.intro (by intro h; cases h) ?_
  refine .done (by kernel_rfl) (.region (.run 2 rfl ⟨⟨by omega, by omega⟩, trivial⟩ (.nil ?_)))
  refine ⟨(.slice a60 (j + 1) c60, j + 1), ⟨rfl, rfl, rfl, rfl, rfl, trivial⟩, ⟨by (try dsimp only); omega, ?_⟩, by (try dsimp only); omega⟩
  (try dsimp only)
  rw [hnr]; exact hS
 have hc47 := hb47; try simp only [Gk.cs0] at hc47
 refine .exit (.seq (.region (.run 4 rfl trivial (.nil (.ret (ret3 Tryz.results89 rfl rfl rfl ?_))))))
 have hjn : j = l.length := by omega
 subst hjn
 rw [List.take_of_length_le (by omega)] at hS
 obtain ⟨ka, kc, rfl, hkc, _⟩ := hS.vecSlice (k := 1) rfl
 obtain ⟨J4, hJ4, hKR, hS1⟩ := hS.freezeVec (k := 1) rfl
 try dsimp only [List.eraseIdx] at hS1
 obtain ⟨J5, hJ5, hb5, hS2⟩ := hS1.freeze (k := 0) rfl
 have hw : wrong l = (0, 0) := wrong_none (fun q t ht => hok q t (by have := (List.getElem?_eq_some_iff.1 ht).1; omega) ht)
 have hpl : (pickS l D).length = l.length := by unfold pickS; rw [List.length_map, hDl]
 refine ⟨_, rfl, J5, Le.trans hJ (Le.trans hJ4 hJ5), hS2, .inr ⟨by rw [hw], _, D, rfl, hD, ka, kc, pickR E D, ?_, by rw [hpl]; exact hkc, by unfold pickR pickS; rw [List.length_map, List.length_map], fun q s hq => ?_⟩⟩
 ·rw [hpl]
  exact ⟨rfl, _, _, _, hb5, fun q v hq => by simpa using hq⟩
 ·unfold pickS at hq
  rw [List.getElem?_map] at hq
  cases hdq : D[q]? with
  | none => rw [hdq] at hq; cases hq
  | some d =>
   rw [hdq] at hq
   have hdr := Srt.upto_mem.1 (hD.2.mem_iff.1 (List.mem_of_getElem? hdq))
   obtain ⟨u, hu⟩ : ∃ u, l[d.toNat]? = some u := ⟨_, List.getElem?_eq_getElem (by omega)⟩
   have hus : u = s := by
    have h2 := hq
    rw [Option.map_some, List.getD_eq_getElem?_getD, hu] at h2
    exact Option.some.inj h2
   subst hus
   obtain ⟨c, hc, hent⟩ := hEE d.toNat u hu
   have hql := (List.getElem?_eq_some_iff.1 hdq).1
   obtain ⟨kp, rfl, hkp⟩ := (hKR.mono hJ5).2 (by omega)
   have hpk : (pickR E D)[q]? = some c := by unfold pickR; rw [List.getElem?_map, hdq]; simp [List.getD_eq_getElem?_getD, hc]
   have h10' : ∀ c ∈ pickR E D, c.length = 10 := fun c hc => by
    unfold pickR at hc
    obtain ⟨d', hd', rfl⟩ := List.mem_map.1 hc
    have hdr' := Srt.upto_mem.1 (hD.2.mem_iff.1 hd')
    rw [List.getD_eq_getElem?_getD, List.getElem?_eq_getElem (by omega)]
    exact h10 _ (List.getElem_mem _)
   have hx := at_take (hkp.add (q * 10)) 10
   rw [flat_piece _ h10' q _ hpk] at hx
   exact ⟨kp, c, rfl, hpk, hx, hent.mono (Le.trans hJ3 (Le.trans hJ4 hJ5))⟩
end Go.Proofs.YtadhiihnnkcagaaGreatDoor
namespace Go.Proofs.YtadhiihnnkcagaaGreatDoor
open Gk Pat
set_option linter.unusedVariables false
set_option linter.unusedSimpArgs false
theorem bld101_40 : Bld Tryz.prog 101 [(0, 1), (1, 1), (2, 1), (3, 1), (4, 1), (5, 1), (6, 1), (7, 1)] [.int .i64 0, .float .f64 0, S [], .bool false, .bool false, .bool false, S [], .slice none 0 0] := bld_of Tryz.underlying101 Tryz.zeroValue101 (fun w => by simp [go_sem])
theorem firstI_case (pr : Sv → Bool) : ∀ (l : List Sv) (i : Nat), (firstI pr l i = -1 ∧ l.find? pr = none) ∨ (∃ j s, firstI pr l i = ((i + j : Nat) : Int) ∧ l[j]? = some s ∧ pr s = true ∧ l.find? pr = some s)
 | [], _ => .inl ⟨rfl, rfl⟩
 | a :: l, i => by
  rw [firstI, List.find?_cons]
  cases ha : pr a with
  | true => exact .inr ⟨0, a, rfl, rfl, ha, rfl⟩
  | false =>
   rw [if_neg (by decide)]
   rcases firstI_case pr l (i + 1) with ⟨h1, h2⟩ | ⟨j, s, h1, h2, h3, h4⟩
   ·exact .inl ⟨h1, h2⟩
   ·exact .inr ⟨j + 1, s, by rw [h1]; congr 1; omega, h2, h3, h4⟩
theorem firstI_zero (pr : Sv → Bool) (l : List Sv) : (firstI pr l 0 = -1 ∧ l.find? pr = none) ∨ (∃ (j : Nat) (s : Sv), firstI pr l 0 = (j : Int) ∧ l[j]? = some s ∧ pr s = true ∧ l.find? pr = some s) := by
 rcases firstI_case pr l 0 with h | ⟨j, s, h1, h2⟩
 ·exact .inl h
 ·exact .inr ⟨j, s, by rw [h1, Nat.zero_add], h2⟩
theorem mtch_mat {l : List UInt8} {Q : List Pl} (h : cmp l = .ok Q) (s : List UInt8) : (mtch l s).1 = mat Q s := by unfold mtch; rw [h]
def findR (lo : List Sv) (s : List UInt8) : Sv × List UInt8 × Nat :=
 if (Ul.nU s).2 ≠ 0 then (z0, [], (Ul.nU s).2) else if 100 < (Ul.nU s).1.length then (z0, [], 2)
 else match lo.find? (fun t => (mtch t.urls (Ul.nU s).1).1) with
  | none => (z0, [], 31)
  | some t => (t, (Ul.nU s).1, 0)
theorem RegFind_any (pr : Addr) (lo : List Sv) (hlo : lo.length ≤ 100000) (hrl : ∀ s ∈ lo, s.rel.length ≤ 1000000) (s : List UInt8) (hs : s.length ≤ 1000000) (a : Option Addr) (cc : Nat) (E : List (List Value)) (B w : World) (I : Im) (hK : Known I) (hreg : At I pr [.slice a lo.length cc]) (hE : EntsIn I a E lo) (As : List Assn) (hS : Sat B w I As) :
  Calls Tryz.prog 40 [.pointer (some pr), S s].toArray w (Ret fun v w' => ∃ J u c n e, Le I J ∧ v = .tuple #[.agg (List.toArray c), S n, I64 ((e : Nat) : Int)] ∧ SvAt J u c ∧ findR lo s = (u, n, e) ∧ Sat B w' J As) := by
 refine calls Tryz.func40 rfl Tryz.ntmps40 rfl (.seq (.region (.allocA (cs := [_, _, _, _, _, _, _, _]) hS Tryz.zeroValue101 rfl ?_)))
 clear hS; intro b4 w hS
 refine .run 2 rfl trivial (.nil (.seq (.region (.run 1 rfl trivial (.call Tryz.func63 rfl (evs_cons (.of rfl) evs_nil) rfl (uNormal_any s hs B _ I hK _ hS) ?_)))))
 clear hS
 rintro _ w ⟨rfl, hS⟩
 refine .run 3 rfl trivial (.alloc1 hS Tryz.zeroValue9 rfl rfl ?_)
 clear hS; intro b7 w hS
 refine .st1 hS (k := 0) rfl (.of rfl) (.of rfl) rfl Tryz.sizeOf9 (by simp) ?_
 clear hS; intro w hS; try dsimp only [List.set] at hS
 refine .run 1 rfl trivial (.nil (.seq (.seq (.region (.run 3 rfl trivial (.gval rfl rfl (fun hg1 => (.ld (.of rfl) hS (k := 0) rfl Tryz.isAgg9 rfl)) rfl (.gval rfl rfl (fun hg1 => (.len (.gd hg1 rfl) Tryz.underlying9)) rfl (.gval rfl rfl (fun hg1 => (.gtr (.gd hg1 rfl) (.of rfl))) rfl (.val (.pand (.of rfl) (.of rfl) (.of rfl)) rfl (.nil ?_))))))))))
 refine WC.cond rfl (fun hb21 => ?_) (fun hb21 => ?_)
 ·
  have hc21 := hb21; try simp only [Gk.cs0] at hc21
  refine .region (.run 1 rfl trivial (.nil (.seq (.seq (.region (.run 2 rfl trivial (.nil ?_)))))))
  refine WC.cond rfl (fun hb23 => ?_) (fun hb23 => by exfalso; simp only [Gk.cs0] at hb23; omega)
  have hc23 := hb23; try simp only [Gk.cs0] at hc23
  refine .seq (.region (.val (.build (cs := [_, _, _, _, _, _, _, _]) parts_nil bld101_40 rfl) rfl (.run 1 rfl trivial (.stA hS (k := 1) rfl (.of rfl) (.of rfl) rfl Tryz.sizeOf101 rfl (by simp) ?_))))
  clear hS; intro w hS; try dsimp only [List.set] at hS
  try simp only [List.take_zero, List.nil_append, List.append_nil, List.drop_succ_cons, List.drop_zero, List.drop_nil, Nat.zero_add] at hS
  refine .run 2 rfl trivial (.nil (.ret (ret3c (b := _) (cs := [_, _, _, _, _, _, _, _]) Tryz.results40 hS (k := 1) rfl Tryz.isAgg101 Tryz.sizeOf101 rfl rfl rfl rfl ?_)))
  exact ⟨_, rfl, I, z0, _, [], 2, Le.refl _, rfl, ⟨none, 0, rfl, Nat.le_refl _, RS.nil _ _⟩, (by unfold findR; rw [if_neg (by simp at hb21; omega), if_pos (by simp at hb21; omega)]), ((hS.drop (k := 0) rfl).drop (k := 0) rfl)⟩
 have hc21 := hb21; try simp only [Gk.cs0] at hc21
 refine .skip (.seq (.seq (.region (.run 2 rfl trivial (.nil ?_)))))
 refine WC.cond rfl (fun hb23 => ?_) (fun hb23 => ?_)
 ·
  have hc23 := hb23; try simp only [Gk.cs0] at hc23
  refine .seq (.region (.val (.build (cs := [_, _, _, _, _, _, _, _]) parts_nil bld101_40 rfl) rfl (.run 1 rfl trivial (.stA hS (k := 1) rfl (.of rfl) (.of rfl) rfl Tryz.sizeOf101 rfl (by simp) ?_))))
  clear hS; intro w hS; try dsimp only [List.set] at hS
  try simp only [List.take_zero, List.nil_append, List.append_nil, List.drop_succ_cons, List.drop_zero, List.drop_nil, Nat.zero_add] at hS
  refine .run 2 rfl trivial (.nil (.ret (ret3c (b := _) (cs := [_, _, _, _, _, _, _, _]) Tryz.results40 hS (k := 1) rfl Tryz.isAgg101 Tryz.sizeOf101 rfl rfl rfl rfl ?_)))
  exact ⟨_, rfl, I, z0, _, [], _, Le.refl _, rfl, ⟨none, 0, rfl, Nat.le_refl _, RS.nil _ _⟩, (by unfold findR; rw [if_pos (by omega)]), ((hS.drop (k := 0) rfl).drop (k := 0) rfl)⟩
 have hc23 := hb23; try simp only [Gk.cs0] at hc23
 refine .skip (.seq ?_)
 have hz : (Ul.nU s).2 = 0 := by omega
 have hn100 : (Ul.nU s).1.length ≤ 100 := by
  rw [hz] at hb21
  simp at hb21
  omega
 refine .region (.run 2 rfl trivial (.val (.fieldAddrI 0 (.of rfl) Tryz.underlying157 rfl rfl Tryz.sizeOf152 rfl) rfl (.val (.ldI (.of rfl) hS (At.add hreg _) Tryz.isAgg152 rfl) rfl (.val (.makeFunc (evs_cons (.of rfl) evs_nil)) rfl ?_))))
 refine WL.call Tryz.func85 rfl (evs_cons (.of rfl) (evs_cons (.of rfl) evs_nil)) rfl (IndexFunc_any a cc lo hlo (fun t => (mtch t.urls (Ul.nU s).1).1) 86 _ Tryz.func86 rfl [ptr b7 0] B _ I (blk b7 [S (Ul.nU s).1] 9 :: blk b4 [I64 0, F64 0, S [], .bool false, .bool false, .bool false, S [], .slice none 0 0] 101 :: As) (fun w h => hE.now h) (fun t c ht w h => by
  obtain ⟨ta, tc, tp, tq, Q, _, rfl, _, _, hQ, hpat, _⟩ := ht
  refine (findC_any hQ ta tc tp tq (Ul.nU s).1 (by omega) b7 B w I hpat _ h).mono fun e w' ⟨v, e1, e2, e3⟩ => ⟨v, e1, ?_, e3⟩
  rw [e2, mtch_mat hQ]) hS) ?_
 clear hS
 rintro _ w ⟨rfl, hS⟩
 refine .run 1 rfl trivial (.nil (.seq (.seq (.region (.run 2 rfl trivial (.nil ?_))))))
 refine WC.cond rfl (fun hb33 => ?_) (fun hb33 => ?_)
 ·
  have hc33 := hb33; try simp only [Gk.cs0] at hc33
  refine .seq (.region (.val (.build (cs := [_, _, _, _, _, _, _, _]) parts_nil bld101_40 rfl) rfl (.stA hS (k := 1) rfl (.of rfl) (.of rfl) rfl Tryz.sizeOf101 rfl (by simp) ?_)))
  clear hS; intro w hS; try dsimp only [List.set] at hS
  try simp only [List.take_zero, List.nil_append, List.append_nil, List.drop_succ_cons, List.drop_zero, List.drop_nil, Nat.zero_add] at hS
  refine .run 2 rfl trivial (.nil (.ret (ret3c (b := _) (cs := [_, _, _, _, _, _, _, _]) Tryz.results40 hS (k := 1) rfl Tryz.isAgg101 Tryz.sizeOf101 rfl rfl rfl rfl ?_)))
  exact ⟨_, rfl, I, z0, _, [], 31, Le.refl _, rfl, ⟨none, 0, rfl, Nat.le_refl _, RS.nil _ _⟩, (by
   have hno : lo.find? (fun t => (mtch t.urls (Ul.nU s).1).1) = none := by
    rcases firstI_zero (fun t => (mtch t.urls (Ul.nU s).1).1) lo with ⟨_, h⟩ | ⟨j, u, hj, _⟩
    ·exact h
    ·exfalso; rw [hj] at hc33; omega
   unfold findR
   rw [if_neg (by omega), if_neg (by omega), hno]), ((hS.drop (k := 0) rfl).drop (k := 0) rfl)⟩
 have hc33 := hb33; try simp only [Gk.cs0] at hc33
 refine .skip (.seq ?_)
 rcases firstI_zero (fun t => (mtch t.urls (Ul.nU s).1).1) lo with ⟨hneg, _⟩ | ⟨j, u, hj, hu, hpu, hfind⟩
 ·exfalso; rw [hneg] at hc33; omega
 rw [hj]
 obtain ⟨p, c, rfl, hc, hx0, ra, rc, pp, qq, Q, T, rfl, hrc, hrr, hQ, hpQ, hT, hpT⟩ := hE.2 j u hu
 have hjl := (List.getElem?_eq_some_iff.1 hu).1
 have hsm := hrl u (List.mem_of_getElem? hu)
 have hx := at_take hx0 8
 simp only [entCells, List.take_succ_cons, List.take_zero] at hx
 refine .drawn (fun w => ∃ J9 R, Le I J9 ∧ Sat B w J9 (blk b7 [S (Ul.nU s).1] 9 :: R)) (fun j => !([].contains j)) (by kernel_rfl) ?_
 replace hS := hS.drew; generalize w.drew = w at hS ⊢
 have hH : ∃ J9 R, Le I J9 ∧ Sat B w J9 (blk b7 [S (Ul.nU s).1] 9 :: R) := ⟨_, _, Le.refl _, (hS.pick 0 rfl)⟩
 refine .takeP (i := 0) rfl (by kernel_rfl) (by kernel_rfl) (by kernel_rfl) (fun w => (.move (.of rfl))) rfl (.takeP (i := 1) rfl (by kernel_rfl) (by kernel_rfl) (by kernel_rfl) (fun w => (.nilCheck (.of rfl))) rfl (.takeP (i := 2) rfl (by kernel_rfl) (by kernel_rfl) (by kernel_rfl) (fun w => (.fieldAddrI 0 (.of rfl) Tryz.underlying157 rfl rfl Tryz.sizeOf152 rfl)) rfl (.take (i := 3) rfl (by kernel_rfl) (by kernel_rfl) (by kernel_rfl) (by kernel_rfl) hH (fun w ⟨J9, R, hL9, hS⟩ => (.ldI (.of rfl) hS (At.add (hreg.mono hL9) _) Tryz.isAgg152 rfl)) rfl (.takeP (i := 4) rfl (by kernel_rfl) (by kernel_rfl) (by kernel_rfl) (fun w => (.move (.of rfl))) rfl (.takeP (i := 5) rfl (by kernel_rfl) (by kernel_rfl) (by kernel_rfl) (fun w => (.indexAddrI (.of rfl) (.of rfl) (by omega) (by omega) Tryz.underlying152 Tryz.sizeOf155)) rfl (.takeP (i := 6) rfl (by kernel_rfl) (by kernel_rfl) (by kernel_rfl) (fun w => (.fieldAddrI 0 (.of rfl) Tryz.underlying155 rfl rfl Tryz.sizeOf101 rfl)) rfl (.take (i := 7) rfl (by kernel_rfl) (by kernel_rfl) (by kernel_rfl) (by kernel_rfl) hH (fun w ⟨J9, R, hL9, hS⟩ => (.ldsI (.of rfl) hS (hx.mono hL9) Tryz.isAgg101 Tryz.sizeOf101 rfl (fun _ _ h => h))) rfl (.take (i := 9) rfl (by kernel_rfl) (by kernel_rfl) (by kernel_rfl) (by kernel_rfl) hH (fun w ⟨J9, R, hL9, hS⟩ => (.ld (.of rfl) hS (k := 0) rfl Tryz.isAgg9 rfl)) rfl ?_))))))))
 refine WD.branch [8] (by kernel_rfl) rfl (WO.cons rfl ?_ (WO.nil))
 refine .call Tryz.func88 rfl (evs_cons (.of rfl) evs_nil) rfl (own_svc u ra rc hsm B _ I hrr _ hS) ?_
 clear hS
 rintro _ w ⟨J2, cs, hJ2, rfl, hsv, hS⟩
 obtain ⟨sa, sc, rfl, hq1, hq2⟩ := hsv
 have hsv : SvAt J2 u (svCells u sa sc) := ⟨sa, sc, rfl, hq1, hq2⟩
 refine .nil ?_
 clear hH
 have hH : ∃ J9 R, Le I J9 ∧ Sat B w J9 (blk b7 [S (Ul.nU s).1] 9 :: R) := ⟨_, _, hJ2, (hS.pick 0 rfl)⟩
 refine And.intro (by intro _ _; exact hH) ?_
 refine WD.branch [10] (by kernel_rfl) rfl (WO.cons rfl ?_ (WO.nil))
 refine .stA hS (k := 1) rfl (.of rfl) (.of rfl) rfl Tryz.sizeOf101 rfl (by simp) ?_
 clear hS; intro w hS; try dsimp only [List.set] at hS
 try simp only [List.take_zero, List.nil_append, List.append_nil, List.drop_succ_cons, List.drop_zero, List.drop_nil, Nat.zero_add] at hS
 refine .nil ?_
 clear hH
 have hH : ∃ J9 R, Le I J9 ∧ Sat B w J9 (blk b7 [S (Ul.nU s).1] 9 :: R) := ⟨_, _, hJ2, (hS.pick 0 rfl)⟩
 refine And.intro (by intro _ _; exact hH) ?_
 refine .takeP (i := 11) rfl (by kernel_rfl) (by kernel_rfl) (by kernel_rfl) (fun w => (.assign (.of rfl))) rfl (.takeP (i := 12) rfl (by kernel_rfl) (by kernel_rfl) (by kernel_rfl) (fun w => (.assign (.of rfl))) rfl (.done (by kernel_rfl) (.ret (ret3c (b := _) (cs := [_, _, _, _, _, _, _, _]) Tryz.results40 hS (k := 1) rfl Tryz.isAgg101 Tryz.sizeOf101 rfl rfl rfl rfl ?_))))
 exact ⟨_, rfl, J2, u, _, (Ul.nU s).1, 0, hJ2, rfl, hsv, (by unfold findR; rw [if_neg (by omega), if_neg (by omega), hfind]), ((hS.drop (k := 0) rfl).drop (k := 0) rfl)⟩
end Go.Proofs.YtadhiihnnkcagaaGreatDoor
namespace Go.Proofs.YtadhiihnnkcagaaGreatDoor
open Gk Ul Pc Tk Tr
set_option linter.unusedVariables false
set_option linter.unusedSimpArgs false
theorem Ex.bytesStr {P : Program} {n : Nat} {L : Env} {B w : World} {I : Im} {As : List Assn} {k : Nat} {ty : TypeId} {pos : String} {af : Array Edge} {g : Option (Nat × Bool)} {x : Operand} {d : Option Nat} {src dst E : TypeId} {b o cap m : Nat} {l : List UInt8} {cs : List Value} (hx : Ev n L x (.slice (some (ad b o)) m cap)) (hm : l.length = m) (hS : Sat B w I As) (hk : As[k]? = some (blk b cs E)) (hs : P.underlying src = some (.slice E)) (he : P.underlying E = some (.int .u8)) (hd : P.underlying dst = some .string)
  (hc : ∀ j (hj : j < l.length), cs[o + j]? = some (U8 (l[j].toNat : Int))) : Ex P n L w ⟨d, .convert src dst x, ty, pos, af, g⟩ (S l) w := fun a ha => by
 subst hm
 have hb := hS.block hk
 have h := run_convert_bytes_back (P := P) w src dst E (ad b o) cap l hs he hd (fun j hj => by rw [add_ad]; exact cell_own hb (hc j hj))
 simp [execOp, hx a ha, h]
theorem preI_le (k : Int) : (preI k).length ≤ 6 := by
 unfold preI
 split
 ·simp
 ·rename_i h
  have : k = 1 ∨ k = 2 ∨ k = 3 ∨ k = 4 ∨ k = 5 ∨ k = 6 := by omega
  rcases this with e | e | e | e | e | e <;> (subst e; decide)
def dg (n : Nat) : UInt8 := if n < 10 then UInt8.ofNat (48 + n) else UInt8.ofNat (87 + n)
theorem digs_cons : ∀ (k n : Nat), digs (k + 1) n = dg (n / 16 ^ k % 16) :: digs k n
 | 0, n => by simp [digs, dg]
 | k + 1, n => by
  rw [digs, digs_cons k (n / 16), Nat.div_div_eq_div_mul, ← Nat.pow_succ', List.cons_append, digs]
end Go.Proofs.YtadhiihnnkcagaaGreatDoor
namespace Gk
set_option linter.unusedVariables false
set_option linter.unusedSimpArgs false
open Go
def VecO (E : TypeId) (v : Value) (xs : List Value) : Assn := fun h =>
 (v = .slice none 0 0 ∧ xs = [] ∧ h = []) ∨
  (∃ g cs p, v = .slice (some p) 0 0 ∧ xs = [] ∧ h = [(g, cellsO cs E)]) ∨ ∃ g cap ys rest, v = .slice (some ⟨g, List.length ys, none⟩) xs.length cap ∧ h = [(g, cellsO (ys ++ xs ++ rest) E)] ∧ xs.length ≤ cap ∧ cap ≤ maxLen ∧ xs.length + rest.length = cap
section
variable {P : Program} {B w w' : World} {I : Im} {As : List Assn} {k : Nat} {E : TypeId} {v : Value} {xs : List Value}
theorem Sat.vecoNil (hS : Sat B w I As) (E : Nat) : Sat B w I (VecO E (.slice none 0 0) [] :: As) := by
 obtain ⟨h, hs, hg⟩ := hS
 exact ⟨h, ⟨[], h, rfl, .inl ⟨rfl, rfl, rfl⟩, hs⟩, hg⟩
end
end Gk
namespace Go.Proofs.YtadhiihnnkcagaaGreatDoor
open Gk Ul Pc Tk Tr
set_option linter.unusedVariables false
set_option linter.unusedSimpArgs false
theorem bld168_55 : Bld Tryz.prog 168 [(0, 1)] [.slice none 0 0] := bld_of Tryz.underlying168 Tryz.zeroValue168 (fun w => by simp [go_sem])
theorem CloneU_nil (B w : World) (I : Im) (As : List Assn) (hS : Sat B w I As) :
  Calls Tryz.prog 136 [.slice none 0 0].toArray w (Ret fun v w' => v = .slice none 0 0 ∧ Sat B w' I As) := by
 refine calls Tryz.func136 rfl Tryz.ntmps136 rfl (.seq (.region (.run 1 rfl trivial (.nil (.seq (.seq (.region (.run 1 rfl trivial (.val (Ex.slNil (.of rfl) (.of rfl) Tryz.underlying81) rfl (.nil (.condT (rfl) (.seq (.region (.run 1 rfl trivial (.nil (.ret (ret1 Tryz.results136 rfl ?_)))))))))))))))))
 exact ⟨_, rfl, rfl, hS⟩
theorem mintNew_any (B w : World) (I : Im) (As : List Assn) (hS : Sat B w I As) :
  Calls Tryz.prog 93 [.slice none 0 0].toArray w (Ret fun v w' => ∃ mb, v = ptr mb 0 ∧ Sat B w' I (blk mb [.slice none (([] : List Nat)).length 0] 168 :: VecO 118 (.slice none (([] : List Nat)).length 0) ((([] : List Nat)).map fun d => U64 (d : Nat)) :: As)) := by
 refine calls Tryz.func93 rfl Tryz.ntmps93 rfl (.seq (.region (.run 1 rfl trivial (.nil (.seq (.region (.run 1 rfl trivial (.call Tryz.func136 rfl (evs_cons (.of rfl) evs_nil) rfl (CloneU_nil B _ I _ hS) ?_))))))))
 clear hS
 rintro _ w ⟨rfl, hS⟩
 refine .val (.build (cs := [_]) (parts_cons (.of rfl) parts_nil) bld168_55 rfl) rfl (.boxA (cs := [_]) hS (.of rfl) rfl ?_)
 clear hS; intro b6 w hS
 refine .run 1 rfl trivial (.nil (.ret (ret1 Tryz.results93 rfl ?_)))
 exact ⟨_, rfl, _, rfl, (hS.vecoNil 118).pick 1 rfl⟩
end Go.Proofs.YtadhiihnnkcagaaGreatDoor
namespace Go.Proofs.YtadhiihnnkcagaaGreatDoor
open Gk Ul Pc Tk Tr
set_option linter.unusedVariables false
set_option linter.unusedSimpArgs false
theorem bld45_178 : Bld Tryz.prog 45 [(0, 1), (1, 1), (2, 1), (3, 1), (4, 1), (5, 1), (6, 1), (7, 1), (8, 1), (9, 1)] [.int .i64 0, S [], S [], S [], S [], S [], .int .i64 0, .int .i64 0, .int .i64 0, .bool false] := bld_of Tryz.underlying45 Tryz.zeroValue45 (fun w => by simp [go_sem])
def psL (p : Nat → Int) : List Int := [p 0, p 1, p 2, p 3, p 4, p 5, p 6, p 7, p 8, p 9, p 10, p 11, p 12, p 13, p 14, p 15, p 16, p 17, p 18, p 19, p 20]
structure Wp where
 wb : Nat
 tb : Nat
 mb : Nat
 ub : Nat
 pr : Addr
 lo : List Sv
 us : List Us
 ps : Nat → Int
structure Wd where
 room : Int
 l : List Rec
 D : List Nat
 now : Int
def wdC (p : Wp) (ω : Wd) : List Value := ptr p.tb 0 :: ptr p.mb 0 :: .pointer (some p.pr) :: ptr p.ub 0 :: ((psL p.ps).map I64 ++ [I64 ω.now])
def wdT (p : Wp) (ω : Wd) : Option Addr × Nat × Option Addr × Nat → List Assn := fun ⟨a, c, ma, mc⟩ => [blk p.wb (wdC p ω) 52, blk p.tb [I64 ω.room, .slice a ω.l.length c] 127, Vec 45 10 (.slice a ω.l.length c) ω.l.length (rowsR ω.l), blk p.mb [.slice ma ω.D.length mc] 168, VecO 118 (.slice ma ω.D.length mc) (ω.D.map fun d => U64 (d : Nat))]
def wdA (p : Wp) (ω : Wd) : Assn := Box (wdT p ω)
structure WpOk (I : Im) (p : Wp) : Prop where
 reg : RegAt I p.pr p.lo
 tab : TabAt I p.ub p.us
 lo : p.lo.length ≤ 100000
 rel : ∀ s ∈ p.lo, s.rel.length ≤ 1000000
 fit : ∀ u ∈ p.us, u.fits
 att : ∀ u ∈ p.us, u.attrs.length ≤ 8
 known : Known I
 pre : PreAt I
theorem RegAt.mono {I J : Im} {pr : Addr} {lo : List Sv} (h : RegAt I pr lo) (hl : Le I J) : RegAt J pr lo := by
 obtain ⟨a, c, E, h1, h2, h3⟩ := h
 exact ⟨a, c, E, h1.mono hl, h2, h3.mono hl⟩
theorem WpOk.mono {I J : Im} {p : Wp} (h : WpOk I p) (hl : Le I J) : WpOk J p := ⟨h.reg.mono hl, h.tab.mono hl, h.lo, h.rel, h.fit, h.att, h.known.mono hl, h.pre.mono hl⟩
structure WdOk (ω : Wd) : Prop where
 len : ω.l.length ≤ 64
 wf : Wf ω.l
 D : ∀ d ∈ ω.D, d < 18446744073709551616
 now : 0 ≤ ω.now ∧ ω.now ≤ 1099511627776
 room : ω.room ≤ 64
def badN (n : Int) : Bool := decide (n < 0) || decide (1099511627776 < n)
def iC (n : Int) : List Value := [I64 n]
def rightP (p : Nat → Int) : Bool := (!((psL p).take 7).any badN && !(((psL p).drop 7).take 7).any badN) && !((psL p).drop 14).any badN
theorem rows_blk {B w : World} {I : Im} {As : List Assn} {k b E : Nat} {cs : List Value} {o : Nat} {l : List Int} (hS : Sat B w I As) (hk : As[k]? = some (blk b cs E)) (h : ∀ (i : Nat) n, l[i]? = some n → cs[o + i]? = some (I64 n)) : RowsW w iC 1 (some (ad b o)) l := fun i n hn => by
 refine ⟨_, rfl, fun j v hj => ?_⟩
 have hb := hS.block (b := b) (o := cellsO cs E) hk
 match j, hj with
 | 0, hj =>
  cases hj
  rw [add_ad, add_ad]
  refine cell_own hb ?_
  rw [Nat.mul_one]
  exact h i n hn
 | j + 1, hj => simp [iC] at hj
theorem IndexFuncI_any (a : Option Addr) (cap : Nat) (l : List (Int)) (hln : l.length ≤ 9223372036854775807) (pr : Int → Bool) (fid : FuncId) (fn : Func) (hfn : Tryz.prog.funcs[fid]? = some fn) (hcal : callable fn = true) (capv : List Value) (B w : World) (I : Im) (As : List Assn) (hE : ∀ w, Sat B w I As → RowsW w iC 1 a l) (hf : ∀ (r : Int) (hr : r ∈ l) w, Sat B w I As → Calls Tryz.prog fid ([I64 r] ++ capv).toArray w (Ret fun v w' => v = .bool (pr r) ∧ Sat B w' I As)) (hS : Sat B w I As) :
  Calls Tryz.prog 178 [.slice a l.length cap, .func (.func fid) #[] capv.toArray].toArray w (Ret fun v w' => v = I64 (firstR pr l 0) ∧ Sat B w' I As) := by
 refine calls Tryz.func178 rfl Tryz.ntmps178 rfl (.seq (.region (.run 1 rfl trivial (.nil (.seq (.seq (.region (.run 3 rfl ⟨⟨_, Tryz.underlying195⟩, trivial⟩ (.nil (.block (.loop (σ := Nat) (fun i => [(0, .slice a l.length cap), (1, .func (.func fid) #[] capv.toArray), (7, I64 (l.length : Nat)), (8, I64 (i : Nat))]) (fun i w => i ≤ l.length ∧ (∀ (j : Nat) t, j < i → l[j]? = some t → pr t = false) ∧ Sat B w I As) (fun i => l.length - i) 0 ⟨rfl, rfl, rfl, rfl, trivial⟩ ⟨Nat.zero_le _, fun _ _ h => absurd h (by omega), hS⟩ ?_)))))))))))
 rintro i w ⟨hi, hno, hS⟩
 change WC _ _ _ _ [(0, .slice a l.length cap), (1, .func (.func fid) #[] capv.toArray), (7, I64 (l.length : Nat)), (8, I64 (i : Nat))] w
 refine .seq (.region (.run 1 rfl trivial (.nil (.seq ?_))))
 refine WC.cond rfl (fun hb9 => ?_) (fun hb9 => ?_)
 ·
  have hc9 := hb9; try simp only [Gk.cs0] at hc9
  refine .skip (.seq (.block (.seq ?_)))
  obtain ⟨r, hr⟩ : ∃ r, l[i]? = some r := ⟨_, List.getElem?_eq_getElem (by omega)⟩
  obtain ⟨p, rfl, hx⟩ := hE w hS i r hr
  refine .region (.run 2 rfl trivial (.nil (.seq (.region (.run 3 rfl trivial ?_)))))
  first | refine WL.val (.indexAddr (.of rfl) (.of rfl) (by omega) (by omega) Tryz.underlying195 Tryz.sizeOf3) rfl ?_ | refine WL.val (.indexAddrI (.of rfl) (.of rfl) (by omega) (by omega) Tryz.underlying195 Tryz.sizeOf3) rfl ?_
  refine WL.val (.ld1 (.of rfl) (by have h9 := hx 0 _ rfl; simpa [Addr.add_add] using h9) Tryz.isAgg3) rfl ?_
  refine .vcall (cap := capv) hfn hcal (.of rfl) (evs_cons (.of rfl) evs_nil) rfl (hf r (List.mem_of_getElem? hr) w hS) ?_
  clear hS
  rintro _ w ⟨rfl, hS⟩
  refine .nil ?_
  refine WC.cond rfl (fun hb16 => ?_) (fun hb16 => ?_)
  ·
   have hc16 := hb16; try simp only [Gk.cs0] at hc16
   refine .seq (.region (.run 2 rfl trivial (.nil (.ret (ret1 Tryz.results178 rfl ?_)))))
   exact ⟨_, rfl, by rw [firstR_hit hno hr hb16], hS⟩
  have hc16 := hb16; try simp only [Gk.cs0] at hc16
  refine .skip (.region (.run 2 rfl ⟨⟨by omega, by omega⟩, trivial⟩ (.nil ?_)))
  refine ⟨i + 1, ⟨rfl, rfl, rfl, rfl, trivial⟩, ⟨by (try dsimp only); omega, fun j t hj ht => ?_, hS⟩, by (try dsimp only); omega⟩
  rcases Nat.lt_or_ge j i with h1 | h1
  ·exact hno j t h1 ht
  ·have e : j = i := by omega
   subst e
   rw [hr] at ht; cases ht
   exact hb16
 have hc9 := hb9; try simp only [Gk.cs0] at hc9
 refine .exit (.seq (.region (.run 1 rfl trivial (.nil (.ret (ret1 Tryz.results178 rfl ?_))))))
 exact ⟨_, rfl, by rw [firstR_none (fun j t ht => hno j t (by have := (List.getElem?_eq_some_iff.1 ht).1; omega) ht)], hS⟩
theorem ContainsFuncI_any (a : Option Addr) (cap : Nat) (l : List (Int)) (hln : l.length ≤ 9223372036854775807) (pr : Int → Bool) (fid : FuncId) (fn : Func) (hfn : Tryz.prog.funcs[fid]? = some fn) (hcal : callable fn = true) (capv : List Value) (B w : World) (I : Im) (As : List Assn) (hE : ∀ w, Sat B w I As → RowsW w iC 1 a l) (hf : ∀ (r : Int) (hr : r ∈ l) w, Sat B w I As → Calls Tryz.prog fid ([I64 r] ++ capv).toArray w (Ret fun v w' => v = .bool (pr r) ∧ Sat B w' I As)) (hS : Sat B w I As) :
  Calls Tryz.prog 135 [.slice a l.length cap, .func (.func fid) #[] capv.toArray].toArray w (Ret fun v w' => v = .bool (l.any pr) ∧ Sat B w' I As) := by
 refine calls Tryz.func135 rfl Tryz.ntmps135 rfl (.seq (.region (.run 1 rfl trivial (.nil (.seq (.region (.run 2 rfl trivial (.call Tryz.func178 rfl (evs_cons (.of rfl) (evs_cons (.of rfl) evs_nil)) rfl (IndexFuncI_any a cap l hln pr fid fn hfn hcal capv B _ I As hE hf hS) ?_))))))))
 clear hS
 rintro _ w ⟨rfl, hS⟩
 refine .run 2 rfl trivial (.nil (.ret (ret1 Tryz.results135 rfl ?_)))
 exact ⟨_, rfl, by rw [← firstR_any pr l 0], hS⟩
theorem badN_any (n : Int) (B w : World) (I : Im) (As : List Assn) (hS : Sat B w I As) :
  Calls Tryz.prog 134 [I64 n].toArray w (Ret fun v w' => v = .bool (badN n) ∧ Sat B w' I As) := by
 refine calls Tryz.func134 rfl Tryz.ntmps134 rfl (.seq (.region (.run 1 rfl trivial (.nil (.seq (.region (.run 3 rfl trivial (.gval rfl rfl (fun hg1 => (.move (.of rfl))) rfl (.gval rfl rfl (fun hg1 => (.gtr (.gd hg1 rfl) (.of rfl))) rfl (.val (.por (.of rfl) (.of rfl) (.of rfl)) rfl (.run 1 rfl trivial (.nil (.ret (ret1 Tryz.results134 rfl ?_))))))))))))))
 exact ⟨_, rfl, rfl, hS⟩
theorem rightP_any (p : Nat → Int) (B w : World) (I : Im) (As : List Assn) (hS : Sat B w I As) :
  Calls Tryz.prog 91 [.agg ((psL p).map I64).toArray].toArray w (Ret fun v w' => v = .bool (rightP p) ∧ Sat B w' I As) := by
 refine calls Tryz.func91 rfl Tryz.ntmps91 rfl (.seq (.region (.boxA (cs := (psL p).map I64) hS (.of rfl) rfl ?_)))
 clear hS; intro b1 w hS
 refine .run 1 rfl trivial (.nil (.seq (.region (.run 1 rfl trivial (.nil (.seq (.region ?_)))))))
 first | refine WL.val (.fieldAddr 0 (.of rfl) Tryz.underlying31 rfl rfl Tryz.sizeOf29 rfl) rfl ?_ | refine WL.val (.fieldAddrI 0 (.of rfl) Tryz.underlying31 rfl rfl Tryz.sizeOf29 rfl) rfl ?_
 refine .val (Ex.slcArr (.of rfl) Tryz.underlying29 Tryz.sizeOf3) rfl (.run 1 rfl trivial (.call Tryz.func135 rfl (evs_cons (.of rfl) (evs_cons (.of rfl) evs_nil)) rfl (ContainsFuncI_any (some (ad b1 0)) 7 ((psL p).take 7) (show (7 : Nat) ≤ 9223372036854775807 by decide) badN 134 _ Tryz.func134 rfl [] B _ I _ (fun w h => rows_blk h (k := 0) rfl (fun i n hn => by match i, hn with | 0, hn => exact congrArg (Option.map I64) hn | 1, hn => exact congrArg (Option.map I64) hn | 2, hn => exact congrArg (Option.map I64) hn | 3, hn => exact congrArg (Option.map I64) hn | 4, hn => exact congrArg (Option.map I64) hn | 5, hn => exact congrArg (Option.map I64) hn | 6, hn => exact congrArg (Option.map I64) hn | i + 7, hn => cases hn)) (fun n hn w h => badN_any n B w I _ h) hS) ?_))
 clear hS
 rintro _ w ⟨rfl, hS⟩
 refine .run 2 rfl trivial ?_
 refine WL.gval rfl rfl (fun hg1 => (by first | exact .fieldAddr 7 (.of rfl) Tryz.underlying31 rfl rfl Tryz.sizeOf29 rfl | exact .fieldAddrI 7 (.of rfl) Tryz.underlying31 rfl rfl Tryz.sizeOf29 rfl)) rfl ?_
 refine .gval rfl rfl (fun hg1 => (Ex.slcArr (.gd hg1 rfl) Tryz.underlying29 Tryz.sizeOf3)) rfl (.gval rfl rfl (fun hg1 => (.move (.of rfl))) rfl (.gcall (T := fun w => Sat B w I (blk b1 ((psL p).map I64) 31 :: As)) rfl rfl rfl Tryz.func135 rfl (fun hg1 => (evs_cons (.gd hg1 rfl) (evs_cons (.gd hg1 rfl) evs_nil))) rfl (fun hg1 => ContainsFuncI_any (some (ad b1 7)) 7 (((psL p).drop 7).take 7) (show (7 : Nat) ≤ 9223372036854775807 by decide) badN 134 _ Tryz.func134 rfl [] B _ I _ (fun w h => rows_blk h (k := 0) rfl (fun i n hn => by match i, hn with | 0, hn => exact congrArg (Option.map I64) hn | 1, hn => exact congrArg (Option.map I64) hn | 2, hn => exact congrArg (Option.map I64) hn | 3, hn => exact congrArg (Option.map I64) hn | 4, hn => exact congrArg (Option.map I64) hn | 5, hn => exact congrArg (Option.map I64) hn | 6, hn => exact congrArg (Option.map I64) hn | i + 7, hn => cases hn)) (fun n hn w h => badN_any n B w I _ h) hS) hS ?_))
 clear hS; rintro w hS
 refine .gval rfl rfl (fun hg1 => (.not (.gd hg1 rfl))) rfl (.val (.pand (.of rfl) (.of rfl) (.of rfl)) rfl (.run 1 rfl trivial ?_))
 refine WL.gval rfl rfl (fun hg1 => (by first | exact .fieldAddr 14 (.of rfl) Tryz.underlying31 rfl rfl Tryz.sizeOf29 rfl | exact .fieldAddrI 14 (.of rfl) Tryz.underlying31 rfl rfl Tryz.sizeOf29 rfl)) rfl ?_
 refine .gval rfl rfl (fun hg1 => (Ex.slcArr (.gd hg1 rfl) Tryz.underlying29 Tryz.sizeOf3)) rfl (.gval rfl rfl (fun hg1 => (.move (.of rfl))) rfl (.gcall (T := fun w => Sat B w I (blk b1 ((psL p).map I64) 31 :: As)) rfl rfl rfl Tryz.func135 rfl (fun hg1 => (evs_cons (.gd hg1 rfl) (evs_cons (.gd hg1 rfl) evs_nil))) rfl (fun hg1 => ContainsFuncI_any (some (ad b1 14)) 7 ((psL p).drop 14) (show (7 : Nat) ≤ 9223372036854775807 by decide) badN 134 _ Tryz.func134 rfl [] B _ I _ (fun w h => rows_blk h (k := 0) rfl (fun i n hn => by match i, hn with | 0, hn => exact congrArg (Option.map I64) hn | 1, hn => exact congrArg (Option.map I64) hn | 2, hn => exact congrArg (Option.map I64) hn | 3, hn => exact congrArg (Option.map I64) hn | 4, hn => exact congrArg (Option.map I64) hn | 5, hn => exact congrArg (Option.map I64) hn | 6, hn => exact congrArg (Option.map I64) hn | i + 7, hn => cases hn)) (fun n hn w h => badN_any n B w I _ h) hS) hS ?_))
 clear hS; rintro w hS
 refine .gval rfl rfl (fun hg1 => (.not (.gd hg1 rfl))) rfl (.val (.pand (.of rfl) (.of rfl) (.of rfl)) rfl (.run 1 rfl trivial (.nil (.ret (ret1 Tryz.results91 rfl ?_)))))
 exact ⟨_, rfl, rfl, hS.drop (k := 0) rfl⟩
def tick (ω : Wd) (n : Int) : Wd := { ω with now := min (ω.now + max 0 (min n 1099511627776)) 1099511627776 }
theorem tick_ok {ω : Wd} (h : WdOk ω) (n : Int) : WdOk (tick ω n) := ⟨h.len, h.wf, h.D, by have := h.now; unfold tick; (try dsimp only); omega, h.room⟩
theorem Tick_any (p : Wp) (ω : Wd) (n : Int) (hω : WdOk ω) (B w : World) (I : Im) (As : List Assn) (hS : Sat B w I (wdA p ω :: As)) :
  Calls Tryz.prog 20 [ptr p.wb 0, I64 n].toArray w (Ret fun v w' => v = .tuple #[] ∧ Sat B w' I (wdA p (tick ω n) :: As)) := by
 refine calls Tryz.func20 rfl Tryz.ntmps20 rfl ?_
 obtain ⟨⟨a, c, ma, mc⟩, hS⟩ := Sat.unbox hS
 replace hS : Sat B _ _ (blk p.wb (wdC p ω) 52 :: blk p.tb [I64 ω.room, .slice a ω.l.length c] 127 :: Vec 45 10 (.slice a ω.l.length c) ω.l.length (rowsR ω.l) :: blk p.mb [.slice ma ω.D.length mc] 168 :: VecO 118 (.slice ma ω.D.length mc) (ω.D.map fun d => U64 (d : Nat)) :: As) := hS
 have hnow := hω.now
 refine .region (.run 3 rfl trivial ?_)
 first | refine WL.val (.fieldAddr 25 (.of rfl) Tryz.underlying52 rfl rfl Tryz.sizeOf3 rfl) rfl ?_ | refine WL.val (.fieldAddrI 25 (.of rfl) Tryz.underlying52 rfl rfl Tryz.sizeOf3 rfl) rfl ?_
 first | refine WL.val (.ld (.of rfl) hS (k := 0) rfl Tryz.isAgg3 rfl) rfl ?_ | refine WL.val (.ld (.of rfl) hS (k := 1) rfl Tryz.isAgg3 rfl) rfl ?_ | refine WL.val (.ld (.of rfl) hS (k := 2) rfl Tryz.isAgg3 rfl) rfl ?_ | refine WL.val (.ld (.of rfl) hS (k := 3) rfl Tryz.isAgg3 rfl) rfl ?_ | refine WL.val (.ld (.of rfl) hS (k := 4) rfl Tryz.isAgg3 rfl) rfl ?_
 refine .run 1 rfl trivial (.val (.min2 (.of rfl) (.of rfl)) rfl (.val (.max2 (.of rfl) (.of rfl)) rfl (.run 1 rfl ⟨⟨by omega, by omega⟩, trivial⟩ (.val (.min2 (.of rfl) (.of rfl)) rfl (.run 1 rfl trivial ?_)))))
 first | refine WL.val (.fieldAddr 25 (.of rfl) Tryz.underlying52 rfl rfl Tryz.sizeOf3 rfl) rfl ?_ | refine WL.val (.fieldAddrI 25 (.of rfl) Tryz.underlying52 rfl rfl Tryz.sizeOf3 rfl) rfl ?_
 refine .st1 hS (k := 0) rfl (.of rfl) (.of rfl) rfl Tryz.sizeOf3 (show 25 < 26 by decide) ?_
 clear hS; intro w hS; try dsimp only [List.set] at hS
 refine .nil (end0 Tryz.results20 ?_)
 exact ⟨_, rfl, rfl, Sat.box (T := wdT p _) (a, c, ma, mc) hS⟩
theorem eAliveQ_any (tb : Nat) (room : Int) (a : Option Addr) (c : Nat) (l : List Rec) (hl : l.length ≤ 100000) (hwf : Wf l) (ps : List Int) (hps : ps.length = 21) (name : List UInt8) (now : Int) (hn : 0 ≤ now ∧ now ≤ 1099511627776) (B w : World) (I : Im) (As : List Assn) (hS : Sat B w I (blk tb [I64 room, .slice a l.length c] 127 :: Vec 45 10 (.slice a l.length c) l.length (rowsR l) :: As)) :
  Calls Tryz.prog 65 [ptr tb 0, .agg (ps.map I64).toArray, S name, I64 now].toArray w (Ret fun v w' => v = .bool (aliveT ps l name now) ∧ Sat B w' I (blk tb [I64 room, .slice a l.length c] 127 :: Vec 45 10 (.slice a l.length c) l.length (rowsR l) :: As)) :=
 (eAlive_any tb room a c l hl hwf ps hps name now hn B w I As hS).mono fun e w' ⟨v, he, J, hJ, hv, hS⟩ => ⟨v, he, hv, hS.weaken hJ⟩
theorem wd_pol {p : Wp} {ω : Wd} {j : Nat} {v : Value} (h : ((psL p.ps).map I64)[j]? = some v) : (wdC p ω)[0 + 4 + j]? = some v := by
 have h1 := (List.getElem?_eq_some_iff.1 h).1
 have e : wdC p ω = [ptr p.tb 0, ptr p.mb 0, .pointer (some p.pr), ptr p.ub 0] ++ ((psL p.ps).map I64 ++ [I64 ω.now]) := rfl
 rw [e, List.getElem?_append_right (by simp), List.length_cons, List.length_cons, List.length_cons, List.length_cons, List.length_nil, show 0 + 4 + j - (0 + 1 + 1 + 1 + 1) = j by omega, List.getElem?_append_left h1]
 exact h
def aliveW (ps : Nat → Int) (ω : Wd) (name : List UInt8) (kind : Int) : Rec × Bool := if ((((getD ω.l name).kind) != kind) || !aliveT (psL ps) ω.l name ω.now) = true then (r0, false) else (getD ω.l name, true)
theorem Alive_any (name : List UInt8) (kind : Int) (p : Wp) (ω : Wd) (hω : WdOk ω) (B w : World) (I : Im) (As : List Assn) (hS : Sat B w I (wdA p ω :: As)) :
  Calls Tryz.prog 21 [ptr p.wb 0, S name, I64 kind].toArray w (Ret fun v w' => v = .tuple #[.agg (recCells (aliveW p.ps ω name kind).1).toArray, .bool (aliveW p.ps ω name kind).2] ∧ Sat B w' I (wdA p ω :: As)) := by
 refine calls Tryz.func21 rfl Tryz.ntmps21 rfl (.seq ?_)
 obtain ⟨⟨a, c, ma, mc⟩, hS⟩ := Sat.unbox hS
 replace hS : Sat B _ _ (blk p.wb (wdC p ω) 52 :: blk p.tb [I64 ω.room, .slice a ω.l.length c] 127 :: Vec 45 10 (.slice a ω.l.length c) ω.l.length (rowsR ω.l) :: blk p.mb [.slice ma ω.D.length mc] 168 :: VecO 118 (.slice ma ω.D.length mc) (ω.D.map fun d => U64 (d : Nat)) :: As) := hS
 have hlen := hω.len
 refine .region (.allocA (cs := [_, _, _, _, _, _, _, _, _, _]) hS Tryz.zeroValue45 rfl ?_)
 clear hS; intro b6 w hS
 refine .run 1 rfl trivial (.nil (.seq (.region (.run 2 rfl trivial ?_))))
 first | refine WL.val (.fieldAddr 0 (.of rfl) Tryz.underlying52 rfl rfl Tryz.sizeOf47 rfl) rfl ?_ | refine WL.val (.fieldAddrI 0 (.of rfl) Tryz.underlying52 rfl rfl Tryz.sizeOf47 rfl) rfl ?_
 first | refine WL.val (.ld (.of rfl) hS (k := 0) rfl Tryz.isAgg47 rfl) rfl ?_ | refine WL.val (.ld (.of rfl) hS (k := 1) rfl Tryz.isAgg47 rfl) rfl ?_ | refine WL.val (.ld (.of rfl) hS (k := 2) rfl Tryz.isAgg47 rfl) rfl ?_ | refine WL.val (.ld (.of rfl) hS (k := 3) rfl Tryz.isAgg47 rfl) rfl ?_ | refine WL.val (.ld (.of rfl) hS (k := 4) rfl Tryz.isAgg47 rfl) rfl ?_ | refine WL.val (.ld (.of rfl) hS (k := 5) rfl Tryz.isAgg47 rfl) rfl ?_
 refine .run 1 rfl trivial (.call Tryz.func17 rfl (evs_cons (.of rfl) (evs_cons (.of rfl) evs_nil)) rfl (Get_any p.tb ω.room a c ω.l (by omega) name B _ I _ ((hS.pick 3 rfl).pick 3 rfl)) ?_)
 clear hS
 rintro _ w ⟨rfl, hS⟩
 try dsimp only [List.eraseIdx] at hS
 refine .run 3 rfl trivial (.allocA (cs := [_, _, _, _, _, _, _, _, _, _]) hS Tryz.zeroValue45 rfl ?_)
 clear hS; intro b8 w hS
 first | refine WL.stA hS (k := 0) rfl (.of rfl) (.of rfl) rfl Tryz.sizeOf45 rfl (by simp) ?_ | refine WL.stA hS (k := 1) rfl (.of rfl) (.of rfl) rfl Tryz.sizeOf45 rfl (by simp) ?_ | refine WL.stA hS (k := 2) rfl (.of rfl) (.of rfl) rfl Tryz.sizeOf45 rfl (by simp) ?_ | refine WL.stA hS (k := 3) rfl (.of rfl) (.of rfl) rfl Tryz.sizeOf45 rfl (by simp) ?_ | refine WL.stA hS (k := 4) rfl (.of rfl) (.of rfl) rfl Tryz.sizeOf45 rfl (by simp) ?_ | refine WL.stA hS (k := 5) rfl (.of rfl) (.of rfl) rfl Tryz.sizeOf45 rfl (by simp) ?_ | refine WL.stA hS (k := 6) rfl (.of rfl) (.of rfl) rfl Tryz.sizeOf45 rfl (by simp) ?_
 clear hS; intro w hS; try dsimp only [List.set] at hS
 try simp only [List.take_zero, List.nil_append, List.append_nil, List.drop_succ_cons, List.drop_zero, List.drop_nil, Nat.zero_add] at hS
 refine .run 1 rfl trivial (.nil (.seq (.seq ?_)))
 replace hS := (hS.pick 2 rfl).pick 2 rfl
 try dsimp only [List.eraseIdx] at hS
 refine .quiet (by kernel_rfl) (by kernel_rfl) hS ?_
 refine WQ.val (fun w hS => (by first | exact .fieldAddr 0 (.of rfl) Tryz.underlying45 rfl rfl Tryz.sizeOf3 rfl | exact .fieldAddrI 0 (.of rfl) Tryz.underlying45 rfl rfl Tryz.sizeOf3 rfl)) rfl ?_
 refine WQ.val (fun w hS => (by first | exact (.ld (.of rfl) hS (k := 0) rfl Tryz.isAgg3 rfl) | exact (.ld (.of rfl) hS (k := 1) rfl Tryz.isAgg3 rfl) | exact (.ld (.of rfl) hS (k := 2) rfl Tryz.isAgg3 rfl) | exact (.ld (.of rfl) hS (k := 3) rfl Tryz.isAgg3 rfl) | exact (.ld (.of rfl) hS (k := 4) rfl Tryz.isAgg3 rfl) | exact (.ld (.of rfl) hS (k := 5) rfl Tryz.isAgg3 rfl) | exact (.ld (.of rfl) hS (k := 6) rfl Tryz.isAgg3 rfl))) rfl ?_
 refine .val (fun w hS => (.move (.of rfl))) rfl (.val (fun w hS => (.neq (.of rfl) (.of rfl))) rfl (.val (fun w hS => (.move (.of rfl))) rfl (.gval rfl rfl rfl (fun hg1 w hS => (.move (.of rfl))) rfl (.gval rfl rfl rfl (fun hg1 w hS => (.nilCheck (.gd hg1 rfl))) rfl ?_))))
 refine WQ.gval rfl rfl rfl (fun hg1 w hS => (by first | exact .fieldAddr 0 (.gd hg1 rfl) Tryz.underlying52 rfl rfl Tryz.sizeOf47 rfl | exact .fieldAddrI 0 (.gd hg1 rfl) Tryz.underlying52 rfl rfl Tryz.sizeOf47 rfl)) rfl ?_
 refine WQ.gval rfl rfl rfl (fun hg1 w hS => (by first | exact (.ld (.gd hg1 rfl) hS (k := 0) rfl Tryz.isAgg47 rfl) | exact (.ld (.gd hg1 rfl) hS (k := 1) rfl Tryz.isAgg47 rfl) | exact (.ld (.gd hg1 rfl) hS (k := 2) rfl Tryz.isAgg47 rfl) | exact (.ld (.gd hg1 rfl) hS (k := 3) rfl Tryz.isAgg47 rfl) | exact (.ld (.gd hg1 rfl) hS (k := 4) rfl Tryz.isAgg47 rfl) | exact (.ld (.gd hg1 rfl) hS (k := 5) rfl Tryz.isAgg47 rfl) | exact (.ld (.gd hg1 rfl) hS (k := 6) rfl Tryz.isAgg47 rfl))) rfl ?_
 refine .gval rfl rfl rfl (fun hg1 w hS => (.move (.of rfl))) rfl (.gval rfl rfl rfl (fun hg1 w hS => (.nilCheck (.gd hg1 rfl))) rfl ?_)
 refine WQ.gval rfl rfl rfl (fun hg1 w hS => (by first | exact .fieldAddr 4 (.gd hg1 rfl) Tryz.underlying52 rfl rfl Tryz.sizeOf31 rfl | exact .fieldAddrI 4 (.gd hg1 rfl) Tryz.underlying52 rfl rfl Tryz.sizeOf31 rfl)) rfl ?_
 refine .gval rfl rfl rfl (fun hg1 w hS => (.lds (vs := (psL p.ps).map I64) (.gd hg1 rfl) hS (k := 4) rfl Tryz.isAgg31 Tryz.sizeOf31 rfl (fun j v hj => wd_pol hj))) rfl (.gval rfl rfl rfl (fun hg1 w hS => (.move (.of rfl))) rfl (.gval rfl rfl rfl (fun hg1 w hS => (.move (.of rfl))) rfl (.gval rfl rfl rfl (fun hg1 w hS => (.nilCheck (.gd hg1 rfl))) rfl ?_)))
 refine WQ.gval rfl rfl rfl (fun hg1 w hS => (by first | exact .fieldAddr 25 (.gd hg1 rfl) Tryz.underlying52 rfl rfl Tryz.sizeOf3 rfl | exact .fieldAddrI 25 (.gd hg1 rfl) Tryz.underlying52 rfl rfl Tryz.sizeOf3 rfl)) rfl ?_
 refine WQ.gval rfl rfl rfl (fun hg1 w hS => (by first | exact (.ld (.gd hg1 rfl) hS (k := 0) rfl Tryz.isAgg3 rfl) | exact (.ld (.gd hg1 rfl) hS (k := 1) rfl Tryz.isAgg3 rfl) | exact (.ld (.gd hg1 rfl) hS (k := 2) rfl Tryz.isAgg3 rfl) | exact (.ld (.gd hg1 rfl) hS (k := 3) rfl Tryz.isAgg3 rfl) | exact (.ld (.gd hg1 rfl) hS (k := 4) rfl Tryz.isAgg3 rfl) | exact (.ld (.gd hg1 rfl) hS (k := 5) rfl Tryz.isAgg3 rfl) | exact (.ld (.gd hg1 rfl) hS (k := 6) rfl Tryz.isAgg3 rfl))) rfl ?_
 refine .gcall rfl rfl rfl Tryz.func65 rfl (fun hg1 => (evs_cons (.gd hg1 rfl) (evs_cons (.gd hg1 rfl) (evs_cons (.gd hg1 rfl) (evs_cons (.gd hg1 rfl) evs_nil))))) rfl (fun hg1 w hS => eAliveQ_any p.tb ω.room a c ω.l (by omega) hω.wf (psL p.ps) rfl name ω.now hω.now B _ I _ hS) (.gval rfl rfl rfl (fun hg1 w hS => (.not (.gd hg1 rfl))) rfl (.val (fun w hS => (.por (.of rfl) (.of rfl) (.of rfl))) rfl (.nil ?_)))
 clear hS; intro w hS
 refine WC.cond rfl (fun hb39 => ?_) (fun hb39 => ?_)
 ·
  have hc39 := hb39; try simp only [Gk.cs0] at hc39
  refine .seq (.region (.val (.build (cs := [_, _, _, _, _, _, _, _, _, _]) parts_nil bld45_178 rfl) rfl ?_))
  first | refine WL.stA hS (k := 0) rfl (.of rfl) (.of rfl) rfl Tryz.sizeOf45 rfl (by simp) ?_ | refine WL.stA hS (k := 1) rfl (.of rfl) (.of rfl) rfl Tryz.sizeOf45 rfl (by simp) ?_ | refine WL.stA hS (k := 2) rfl (.of rfl) (.of rfl) rfl Tryz.sizeOf45 rfl (by simp) ?_ | refine WL.stA hS (k := 3) rfl (.of rfl) (.of rfl) rfl Tryz.sizeOf45 rfl (by simp) ?_ | refine WL.stA hS (k := 4) rfl (.of rfl) (.of rfl) rfl Tryz.sizeOf45 rfl (by simp) ?_ | refine WL.stA hS (k := 5) rfl (.of rfl) (.of rfl) rfl Tryz.sizeOf45 rfl (by simp) ?_ | refine WL.stA hS (k := 6) rfl (.of rfl) (.of rfl) rfl Tryz.sizeOf45 rfl (by simp) ?_
  clear hS; intro w hS; try dsimp only [List.set] at hS
  try simp only [List.take_zero, List.nil_append, List.append_nil, List.drop_succ_cons, List.drop_zero, List.drop_nil, Nat.zero_add] at hS
  refine .run 1 rfl trivial (.nil (.ret ?_))
  first | refine ret2c (b := _) (cs := [_, _, _, _, _, _, _, _, _, _]) Tryz.results21 hS (k := 0) rfl Tryz.isAgg45 Tryz.sizeOf45 rfl rfl rfl ?_ | refine ret2c (b := _) (cs := [_, _, _, _, _, _, _, _, _, _]) Tryz.results21 hS (k := 1) rfl Tryz.isAgg45 Tryz.sizeOf45 rfl rfl rfl ?_ | refine ret2c (b := _) (cs := [_, _, _, _, _, _, _, _, _, _]) Tryz.results21 hS (k := 2) rfl Tryz.isAgg45 Tryz.sizeOf45 rfl rfl rfl ?_ | refine ret2c (b := _) (cs := [_, _, _, _, _, _, _, _, _, _]) Tryz.results21 hS (k := 3) rfl Tryz.isAgg45 Tryz.sizeOf45 rfl rfl rfl ?_ | refine ret2c (b := _) (cs := [_, _, _, _, _, _, _, _, _, _]) Tryz.results21 hS (k := 4) rfl Tryz.isAgg45 Tryz.sizeOf45 rfl rfl rfl ?_ | refine ret2c (b := _) (cs := [_, _, _, _, _, _, _, _, _, _]) Tryz.results21 hS (k := 5) rfl Tryz.isAgg45 Tryz.sizeOf45 rfl rfl rfl ?_ | refine ret2c (b := _) (cs := [_, _, _, _, _, _, _, _, _, _]) Tryz.results21 hS (k := 6) rfl Tryz.isAgg45 Tryz.sizeOf45 rfl rfl rfl ?_
  refine ⟨_, rfl, ?_, Sat.box (T := wdT p _) (a, c, ma, mc) ?_⟩
  ·rw [aliveW, if_pos hb39]; rfl
  replace hS := ((hS.drop (k := 2) rfl).drop (k := 2) rfl).pick 2 rfl
  try dsimp only [List.eraseIdx] at hS
  exact hS
 have hc39 := hb39; try simp only [Gk.cs0] at hc39
 refine .skip (.seq (.region ?_))
 first | refine WL.val (.ldsW (cs := [_, _, _, _, _, _, _, _, _, _]) (.of rfl) hS (k := 0) rfl Tryz.isAgg45 Tryz.sizeOf45 rfl) rfl ?_ | refine WL.val (.lds (vs := [_, _, _, _, _, _, _, _, _, _]) (.of rfl) hS (k := 0) rfl Tryz.isAgg45 Tryz.sizeOf45 rfl (fun _ _ h => h)) rfl ?_ | refine WL.val (.ldsW (cs := [_, _, _, _, _, _, _, _, _, _]) (.of rfl) hS (k := 1) rfl Tryz.isAgg45 Tryz.sizeOf45 rfl) rfl ?_ | refine WL.val (.lds (vs := [_, _, _, _, _, _, _, _, _, _]) (.of rfl) hS (k := 1) rfl Tryz.isAgg45 Tryz.sizeOf45 rfl (fun _ _ h => h)) rfl ?_ | refine WL.val (.ldsW (cs := [_, _, _, _, _, _, _, _, _, _]) (.of rfl) hS (k := 2) rfl Tryz.isAgg45 Tryz.sizeOf45 rfl) rfl ?_ | refine WL.val (.lds (vs := [_, _, _, _, _, _, _, _, _, _]) (.of rfl) hS (k := 2) rfl Tryz.isAgg45 Tryz.sizeOf45 rfl (fun _ _ h => h)) rfl ?_ | refine WL.val (.ldsW (cs := [_, _, _, _, _, _, _, _, _, _]) (.of rfl) hS (k := 3) rfl Tryz.isAgg45 Tryz.sizeOf45 rfl) rfl ?_ | refine WL.val (.lds (vs := [_, _, _, _, _, _, _, _, _, _]) (.of rfl) hS (k := 3) rfl Tryz.isAgg45 Tryz.sizeOf45 rfl (fun _ _ h => h)) rfl ?_ | refine WL.val (.ldsW (cs := [_, _, _, _, _, _, _, _, _, _]) (.of rfl) hS (k := 4) rfl Tryz.isAgg45 Tryz.sizeOf45 rfl) rfl ?_ | refine WL.val (.lds (vs := [_, _, _, _, _, _, _, _, _, _]) (.of rfl) hS (k := 4) rfl Tryz.isAgg45 Tryz.sizeOf45 rfl (fun _ _ h => h)) rfl ?_ | refine WL.val (.ldsW (cs := [_, _, _, _, _, _, _, _, _, _]) (.of rfl) hS (k := 5) rfl Tryz.isAgg45 Tryz.sizeOf45 rfl) rfl ?_ | refine WL.val (.lds (vs := [_, _, _, _, _, _, _, _, _, _]) (.of rfl) hS (k := 5) rfl Tryz.isAgg45 Tryz.sizeOf45 rfl (fun _ _ h => h)) rfl ?_ | refine WL.val (.ldsW (cs := [_, _, _, _, _, _, _, _, _, _]) (.of rfl) hS (k := 6) rfl Tryz.isAgg45 Tryz.sizeOf45 rfl) rfl ?_ | refine WL.val (.lds (vs := [_, _, _, _, _, _, _, _, _, _]) (.of rfl) hS (k := 6) rfl Tryz.isAgg45 Tryz.sizeOf45 rfl (fun _ _ h => h)) rfl ?_
 first | refine WL.stA hS (k := 0) rfl (.of rfl) (.of rfl) rfl Tryz.sizeOf45 rfl (by simp) ?_ | refine WL.stA hS (k := 1) rfl (.of rfl) (.of rfl) rfl Tryz.sizeOf45 rfl (by simp) ?_ | refine WL.stA hS (k := 2) rfl (.of rfl) (.of rfl) rfl Tryz.sizeOf45 rfl (by simp) ?_ | refine WL.stA hS (k := 3) rfl (.of rfl) (.of rfl) rfl Tryz.sizeOf45 rfl (by simp) ?_ | refine WL.stA hS (k := 4) rfl (.of rfl) (.of rfl) rfl Tryz.sizeOf45 rfl (by simp) ?_ | refine WL.stA hS (k := 5) rfl (.of rfl) (.of rfl) rfl Tryz.sizeOf45 rfl (by simp) ?_ | refine WL.stA hS (k := 6) rfl (.of rfl) (.of rfl) rfl Tryz.sizeOf45 rfl (by simp) ?_
 clear hS; intro w hS; try dsimp only [List.set] at hS
 try simp only [List.take_zero, List.nil_append, List.append_nil, List.drop_succ_cons, List.drop_zero, List.drop_nil, Nat.zero_add] at hS
 refine .run 1 rfl trivial (.nil (.ret ?_))
 first | refine ret2c (b := _) (cs := [_, _, _, _, _, _, _, _, _, _]) Tryz.results21 hS (k := 0) rfl Tryz.isAgg45 Tryz.sizeOf45 rfl rfl rfl ?_ | refine ret2c (b := _) (cs := [_, _, _, _, _, _, _, _, _, _]) Tryz.results21 hS (k := 1) rfl Tryz.isAgg45 Tryz.sizeOf45 rfl rfl rfl ?_ | refine ret2c (b := _) (cs := [_, _, _, _, _, _, _, _, _, _]) Tryz.results21 hS (k := 2) rfl Tryz.isAgg45 Tryz.sizeOf45 rfl rfl rfl ?_ | refine ret2c (b := _) (cs := [_, _, _, _, _, _, _, _, _, _]) Tryz.results21 hS (k := 3) rfl Tryz.isAgg45 Tryz.sizeOf45 rfl rfl rfl ?_ | refine ret2c (b := _) (cs := [_, _, _, _, _, _, _, _, _, _]) Tryz.results21 hS (k := 4) rfl Tryz.isAgg45 Tryz.sizeOf45 rfl rfl rfl ?_ | refine ret2c (b := _) (cs := [_, _, _, _, _, _, _, _, _, _]) Tryz.results21 hS (k := 5) rfl Tryz.isAgg45 Tryz.sizeOf45 rfl rfl rfl ?_ | refine ret2c (b := _) (cs := [_, _, _, _, _, _, _, _, _, _]) Tryz.results21 hS (k := 6) rfl Tryz.isAgg45 Tryz.sizeOf45 rfl rfl rfl ?_
 refine ⟨_, rfl, ?_, Sat.box (T := wdT p _) (a, c, ma, mc) ?_⟩
 ·rw [aliveW, if_neg (by rw [hb39]; decide)]; rfl
 replace hS := ((hS.drop (k := 2) rfl).drop (k := 2) rfl).pick 2 rfl
 try dsimp only [List.eraseIdx] at hS
 exact hS
end Go.Proofs.YtadhiihnnkcagaaGreatDoor
namespace Go.Proofs.YtadhiihnnkcagaaGreatDoor
open Gk Ul Pc Tk Tr
set_option linter.unusedVariables false
set_option linter.unusedSimpArgs false
theorem rec_short {r : Rec} (h : rightR r = true) : r.name.length ≤ 23 ∧ r.parent.length ≤ 23 := by
 unfold rightR at h
 simp only [Bool.and_eq_true] at h
 obtain ⟨⟨_, h1⟩, h2⟩ := h
 constructor
 ·unfold isT at h1
  cases hp : parseT r.name with
  | none => rw [hp] at h1; cases h1
  | some x => exact (parse_some (k := x.1) (d := x.2) hp).2.2.2.1
 ·unfold parentOk at h2
  split at h2
  ·rename_i e; rw [e]; simp
  ·cases hp : parseT r.parent with
   | none => rw [hp] at h2; cases h2
   | some x => exact (parse_some (k := x.1) (d := x.2) hp).2.2.2.1
theorem getD_case {l : List Rec} (hw : Wf l) (name : List UInt8) : (get l name = none ∧ getD l name = r0) ∨ (get l name = some (getD l name) ∧ rightR (getD l name) = true ∧ (getD l name).name = name) := by
 rcases Tr.get_at l name with ⟨_, h⟩ | ⟨j, r, _, h2, h3, h4⟩
 ·exact .inl ⟨h, by rw [getD, h]; rfl⟩
 ·have e : getD l name = r := by rw [getD, h4]; rfl
  exact .inr ⟨by rw [e]; exact h4, by rw [e]; exact hw.right r (List.mem_of_getElem? h2), by rw [e]; exact h3⟩
theorem getD_short {l : List Rec} (hw : Wf l) (name : List UInt8) : (getD l name).name.length ≤ 23 ∧ (getD l name).parent.length ≤ 23 ∧ 0 ≤ (getD l name).uses ∧ (getD l name).uses ≤ 255 := by
 rcases getD_case hw name with ⟨_, e⟩ | ⟨_, h, _⟩
 ·rw [e]; decide
 ·have h1 := rec_short h
  have h2 := right_times h
  exact ⟨h1.1, h1.2, h2.2.2⟩
theorem FindJ_any (s : List UInt8) (hs : s.length ≤ 1000000) (p : Wp) (B w : World) (I : Im) (hI : WpOk I p) (As : List Assn) (hS : Sat B w I As) :
  Calls Tryz.prog 40 [.pointer (some p.pr), S s].toArray w (Ret fun v w' => ∃ J ra rc, Le I J ∧ v = .tuple #[.agg (svCells (findR p.lo s).1 ra rc).toArray, S (findR p.lo s).2.1, I64 (((findR p.lo s).2.2 : Nat) : Int)] ∧ (findR p.lo s).1.rel.length ≤ rc ∧ RS J ra 1 (findR p.lo s).1.rel.length ((findR p.lo s).1.rel.map S) ∧ Sat B w' J As) := by
 obtain ⟨a, c, E, h1, h2, h3⟩ := hI.reg
 refine (RegFind_any p.pr p.lo hI.lo hI.rel s hs a c E B w I hI.known h1 h3 As hS).mono fun e w' ⟨v, he, J, u, cs, n, e2, hJ, hv, ⟨ra, rc, hcs, h4, h5⟩, hf, hS⟩ => ⟨v, he, J, ra, rc, hJ, ?_⟩
 rw [hf]; subst hcs
 exact ⟨hv, h4, h5, hS⟩
def putW (ω : Wd) (r : Rec) : Wd := { ω with l := put ω.l r }
theorem putW_ok {ω : Wd} (h : WdOk ω) (r : Rec) : WdOk (putW ω r) := ⟨by show (put ω.l r).length ≤ 64; rw [put_length]; exact h.len, h.wf.put, h.D, h.now, h.room⟩
theorem aliveW_short {ps : Nat → Int} {ω : Wd} (h : WdOk ω) (name : List UInt8) (kind : Int) : (aliveW ps ω name kind).1.name.length ≤ 23 ∧ (aliveW ps ω name kind).1.parent.length ≤ 23 ∧ 0 ≤ (aliveW ps ω name kind).1.uses ∧ (aliveW ps ω name kind).1.uses ≤ 255 := by
 unfold aliveW
 split
 ·decide
 ·exact getD_short h.wf name
end Go.Proofs.YtadhiihnnkcagaaGreatDoor
namespace Go.Proofs.YtadhiihnnkcagaaGreatDoor
open Gk Ul Pc Tk Tr
set_option linter.unusedVariables false
set_option linter.unusedSimpArgs false
theorem bld52_41 : Bld Tryz.prog 52 [(0, 1), (1, 1), (2, 1), (3, 1), (4, 21), (25, 1)] [.pointer none, .pointer none, .pointer none, .pointer none, .int .i64 0, .int .i64 0, .int .i64 0, .int .i64 0, .int .i64 0, .int .i64 0, .int .i64 0, .int .i64 0, .int .i64 0, .int .i64 0, .int .i64 0, .int .i64 0, .int .i64 0, .int .i64 0, .int .i64 0, .int .i64 0, .int .i64 0, .int .i64 0, .int .i64 0, .int .i64 0, .int .i64 0, .int .i64 0] := bld_of Tryz.underlying52 Tryz.zeroValue52 (fun w => by simp [go_sem])
structure Cf where
 svs : List Sv
 us : List Us
 ps : Nat → Int
 room : Int
 base : Nat
 factor : Nat
 most : Nat
 tries : Int
def cfCells (c : Cf) (a : Option Addr) (cap : Nat) (ua : Option Addr) (ucap : Nat) : List Value := .slice a c.svs.length cap :: .slice ua c.us.length ucap :: ((psL c.ps).map I64 ++ [I64 c.room, F64 c.base, F64 c.factor, F64 c.most, I64 c.tries])
structure Cf.fits (c : Cf) : Prop where
 svs : c.svs.length ≤ 100000
 ords : ∀ v ∈ ords c.svs, v < 18446744073709551616
 sfit : ∀ s ∈ c.svs, s.urls.length ≤ 9223372036854775807 ∧ s.calls.length ≤ 9223372036854775807 ∧ s.rel.length ≤ 1000000
 us : c.us.length ≤ 9223372036854775807
 ufit : ∀ u ∈ c.us, u.fits
def newE (c : Cf) : Nat := if (wrong c.svs).1 ≠ 0 then (wrong c.svs).1 else if (newU c.us 0 []).1 ≠ 0 then (newU c.us 0 []).1 else if rightP c.ps = false then 1 else 0
theorem newU_ok : ∀ (l : List Us) (i : Nat) (acc : List Us), (newU l i acc).1 = 0 → ∀ u ∈ l, userR u = true
 | [], _, _, _, u, h => by simp at h
 | t :: l, i, acc, h, u, hu => by
  rw [newU] at h
  split at h
  ·cases h
  ·split at h
   ·cases h
   ·rename_i h1
    split at h
    ·cases h
    ·rcases List.mem_cons.1 hu with e | hu
     ·subst e; simpa using h1
     ·exact newU_ok l (i + 1) _ h u hu
theorem mem_pickS {l : List Sv} {D : List Int} (hO : Srt.Ord (kx (ords l)) l.length D) : ∀ s ∈ pickS l D, s ∈ l := by
 intro s hs
 unfold pickS at hs
 obtain ⟨d, hd, rfl⟩ := List.mem_map.1 hs
 obtain ⟨h1, h2⟩ := Srt.upto_mem.1 (hO.2.mem_iff.1 hd)
 rw [List.getD_eq_getElem?_getD, List.getElem?_eq_getElem (by omega)]
 exact List.getElem_mem _
theorem mid_get {A vs C : List Value} {j : Nat} {v : Value} (h : vs[j]? = some v) : (A ++ (vs ++ C))[A.length + j]? = some v := by
 rw [List.getElem?_append_right (by omega), Nat.add_sub_cancel_left, List.getElem?_append_left (List.getElem?_eq_some_iff.1 h).1]
 exact h
def w0 (c : Cf) : Wd := ⟨roomI c.room, [], [], 0⟩
theorem w0_ok (c : Cf) : WdOk (w0 c) := ⟨by simp [w0], Wf.nil, fun d h => by simp [w0] at h, by simp [w0], by unfold w0 roomI; (try dsimp only); omega⟩
set_option maxRecDepth 20000 in
theorem grantNew_any (c : Cf) (hc : c.fits) (a : Option Addr) (cap : Nat) (ua : Option Addr) (ucap : Nat) (B w : World) (I : Im) (hK : Known I) (hP : PreAt I) (hl : SvsAt I a c.svs) (hU : UsrsAt I ua c.us) (As : List Assn) (hS : Sat B w I As) :
  Calls Tryz.prog 41 [.agg (cfCells c a cap ua ucap).toArray].toArray w (Ret fun v w' => ∃ J, Le I J ∧ ((newE c ≠ 0 ∧ v = .tuple #[.pointer none, I64 (newE c : Nat)] ∧ Sat B w' J As) ∨ (newE c = 0 ∧ ∃ p D, Srt.Ord (kx (ords c.svs)) c.svs.length D ∧ p.lo = pickS c.svs D ∧ p.us = c.us ∧ p.ps = c.ps ∧ v = .tuple #[ptr p.wb 0, I64 0] ∧ WpOk J p ∧ Sat B w' J (wdA p (w0 c) :: As)))) := by
 refine calls Tryz.func41 rfl Tryz.ntmps41 rfl (.seq (.region (.boxA (cs := [_, _, _, _, _, _, _, _, _, _, _, _, _, _, _, _, _, _, _, _, _, _, _, _, _, _, _, _]) hS (.of rfl) rfl ?_)))
 clear hS; intro b1 w hS
 refine .run 2 rfl trivial (.nil (.seq (.region ?_)))
 first | refine WL.val (.fieldAddr 0 (.of rfl) Tryz.underlying34 rfl rfl Tryz.sizeOf27 rfl) rfl ?_ | refine WL.val (.fieldAddrI 0 (.of rfl) Tryz.underlying34 rfl rfl Tryz.sizeOf27 rfl) rfl ?_
 refine .val (.ld (.of rfl) hS (k := 0) rfl Tryz.isAgg27 rfl) rfl (.call Tryz.func89 rfl (evs_cons (.of rfl) evs_nil) rfl (New_any a cap c.svs hc.svs hc.ords hc.sfit B _ I hl _ hS) ?_)
 clear hS
 rintro v w ⟨J, hJ, hS, hor⟩
 obtain ⟨pv, e9, i9, rfl, he9, hz9⟩ : ∃ (pv : Value) (e9 i9 : Nat), v = .tuple #[pv, I64 (e9 : Nat), I64 (i9 : Nat)] ∧ e9 = (wrong c.svs).1 ∧ (e9 = 0 → ∃ pr D, pv = .pointer (some pr) ∧ Srt.Ord (kx (ords c.svs)) c.svs.length D ∧ RegAt J pr (pickS c.svs D)) := by
  rcases hor with ⟨h1, h2⟩ | ⟨h1, pr, D, h2, h3, h4⟩
  ·exact ⟨_, _, _, h2, rfl, fun h => absurd h h1⟩
  ·exact ⟨_, 0, 0, h2, h1.symm, fun _ => ⟨pr, D, rfl, h3, h4⟩⟩
 refine .run 7 rfl trivial (.nil (.seq (.seq (.region (.run 2 rfl trivial (.nil ?_))))))
 refine WC.cond rfl (fun hb17 => ?_) (fun hb17 => ?_)
 ·
  have hc17 := hb17; try simp only [Gk.cs0] at hc17
  refine .seq (.region (.run 3 rfl trivial (.nil (.ret (ret2 Tryz.results41 rfl rfl ?_)))))
  have hne : (wrong c.svs).1 ≠ 0 := by rw [← he9]; simpa using hb17
  have hE : newE c = e9 := by rw [newE, if_pos hne, he9]
  exact ⟨_, rfl, J, hJ, .inl ⟨by rw [hE, he9]; exact hne, by rw [hE]; rfl, hS.drop (k := 0) rfl⟩⟩
 have hc17 := hb17; try simp only [Gk.cs0] at hc17
 refine .skip (.seq (.region ?_))
 first | refine WL.val (.fieldAddr 1 (.of rfl) Tryz.underlying34 rfl rfl Tryz.sizeOf28 rfl) rfl ?_ | refine WL.val (.fieldAddrI 1 (.of rfl) Tryz.underlying34 rfl rfl Tryz.sizeOf28 rfl) rfl ?_
 refine .val (.ld (.of rfl) hS (k := 0) rfl Tryz.isAgg28 rfl) rfl (.call Tryz.func90 rfl (evs_cons (.of rfl) evs_nil) rfl (usersNew_any ua ucap c.us hc.us hc.ufit B _ J (hU.mono hJ) _ hS) ?_)
 clear hS
 rintro v w ⟨J2, hJ2, hor2, hS⟩
 have hw0 : (wrong c.svs).1 = 0 := by rw [← he9]; simpa using hb17
 obtain ⟨pr, D, rfl, hOrd, hreg⟩ := hz9 (by omega)
 obtain ⟨uv, f9, j9, rfl, hf9, hy9⟩ : ∃ (uv : Value) (f9 j9 : Nat), v = .tuple #[uv, I64 (f9 : Nat), I64 (j9 : Nat)] ∧ f9 = (newU c.us 0 []).1 ∧ (f9 = 0 → ∃ ub, uv = ptr ub 0 ∧ TabAt J2 ub c.us) := by
  rcases hor2 with ⟨h1, ub, h2, h3⟩ | ⟨h1, h2⟩
  ·exact ⟨_, 0, 0, h2, h1.symm, fun _ => ⟨ub, rfl, h3⟩⟩
  ·exact ⟨_, _, _, h2, rfl, fun h => absurd h h1⟩
 refine .run 7 rfl trivial (.nil (.seq (.seq (.region (.run 2 rfl trivial (.nil ?_))))))
 refine WC.cond rfl (fun hb27 => ?_) (fun hb27 => ?_)
 ·
  have hc27 := hb27; try simp only [Gk.cs0] at hc27
  refine .seq (.region (.run 3 rfl trivial (.nil (.ret (ret2 Tryz.results41 rfl rfl ?_)))))
  have hne : (newU c.us 0 []).1 ≠ 0 := by rw [← hf9]; simpa using hb27
  have hE : newE c = f9 := by rw [newE, if_neg (by rw [hw0]; decide), if_pos hne, hf9]
  exact ⟨_, rfl, J2, hJ.trans hJ2, .inl ⟨by rw [hE, hf9]; exact hne, by rw [hE]; rfl, hS.drop (k := 0) rfl⟩⟩
 have hc27 := hb27; try simp only [Gk.cs0] at hc27
 refine .skip (.seq (.seq (.region ?_)))
 first | refine WL.val (.fieldAddr 2 (.of rfl) Tryz.underlying34 rfl rfl Tryz.sizeOf31 rfl) rfl ?_ | refine WL.val (.fieldAddrI 2 (.of rfl) Tryz.underlying34 rfl rfl Tryz.sizeOf31 rfl) rfl ?_
 refine .val (.lds (vs := [I64 (c.ps 0), I64 (c.ps 1), I64 (c.ps 2), I64 (c.ps 3), I64 (c.ps 4), I64 (c.ps 5), I64 (c.ps 6), I64 (c.ps 7), I64 (c.ps 8), I64 (c.ps 9), I64 (c.ps 10), I64 (c.ps 11), I64 (c.ps 12), I64 (c.ps 13), I64 (c.ps 14), I64 (c.ps 15), I64 (c.ps 16), I64 (c.ps 17), I64 (c.ps 18), I64 (c.ps 19), I64 (c.ps 20)]) (.of rfl) hS (k := 0) rfl Tryz.isAgg31 Tryz.sizeOf31 rfl (fun j v hj => mid_get (A := [.slice a c.svs.length cap, .slice ua c.us.length ucap]) (C := [I64 c.room, F64 c.base, F64 c.factor, F64 c.most, I64 c.tries]) hj)) rfl (.call Tryz.func91 rfl (evs_cons (.of rfl) evs_nil) rfl (rightP_any c.ps B _ J2 _ hS) ?_)
 clear hS
 rintro _ w ⟨rfl, hS⟩
 have hu0 : (newU c.us 0 []).1 = 0 := by rw [← hf9]; simpa using hb27
 obtain ⟨ub, rfl, hTab⟩ := hy9 (by omega)
 refine .run 1 rfl trivial (.nil ?_)
 refine WC.cond rfl (fun hb32 => ?_) (fun hb32 => ?_)
 ·
  have hc32 := hb32; try simp only [Gk.cs0] at hc32
  refine .seq (.region (.run 2 rfl trivial (.nil (.ret (ret2 Tryz.results41 rfl rfl ?_)))))
  have hE : newE c = 1 := by rw [newE, if_neg (by rw [hw0]; decide), if_neg (by rw [hu0]; decide), if_pos (by simpa using hb32)]
  exact ⟨_, rfl, J2, hJ.trans hJ2, .inl ⟨by rw [hE]; decide, by rw [hE]; rfl, hS.drop (k := 0) rfl⟩⟩
 have hc32 := hb32; try simp only [Gk.cs0] at hc32
 refine .skip (.seq (.drawn (fun w => ∃ R, Sat B w J2 (blk b1 [.slice a c.svs.length cap, .slice ua c.us.length ucap, I64 (c.ps 0), I64 (c.ps 1), I64 (c.ps 2), I64 (c.ps 3), I64 (c.ps 4), I64 (c.ps 5), I64 (c.ps 6), I64 (c.ps 7), I64 (c.ps 8), I64 (c.ps 9), I64 (c.ps 10), I64 (c.ps 11), I64 (c.ps 12), I64 (c.ps 13), I64 (c.ps 14), I64 (c.ps 15), I64 (c.ps 16), I64 (c.ps 17), I64 (c.ps 18), I64 (c.ps 19), I64 (c.ps 20), I64 c.room, F64 c.base, F64 c.factor, F64 c.most, I64 c.tries] 34 :: R)) (fun j => !([].contains j)) (by kernel_rfl) ?_))
 replace hS := hS.drew; generalize w.drew = w at hS ⊢
 have hH : ∃ R, Sat B w J2 (blk b1 [.slice a c.svs.length cap, .slice ua c.us.length ucap, I64 (c.ps 0), I64 (c.ps 1), I64 (c.ps 2), I64 (c.ps 3), I64 (c.ps 4), I64 (c.ps 5), I64 (c.ps 6), I64 (c.ps 7), I64 (c.ps 8), I64 (c.ps 9), I64 (c.ps 10), I64 (c.ps 11), I64 (c.ps 12), I64 (c.ps 13), I64 (c.ps 14), I64 (c.ps 15), I64 (c.ps 16), I64 (c.ps 17), I64 (c.ps 18), I64 (c.ps 19), I64 (c.ps 20), I64 c.room, F64 c.base, F64 c.factor, F64 c.most, I64 c.tries] 34 :: R) := ⟨_, (hS.pick 0 rfl)⟩
 refine WD.takeP (i := 0) rfl (by kernel_rfl) (by kernel_rfl) (by kernel_rfl) (fun w => (by first | exact .fieldAddr 23 (.of rfl) Tryz.underlying34 rfl rfl Tryz.sizeOf3 rfl | exact .fieldAddrI 23 (.of rfl) Tryz.underlying34 rfl rfl Tryz.sizeOf3 rfl)) rfl ?_
 refine .take (i := 1) rfl (by kernel_rfl) (by kernel_rfl) (by kernel_rfl) (by kernel_rfl) hH (fun w ⟨R, hS⟩ => (.ld (.of rfl) hS (k := 0) rfl Tryz.isAgg3 rfl)) rfl (.takeP (i := 4) rfl (by kernel_rfl) (by kernel_rfl) (by kernel_rfl) (fun w => (.move (.of rfl))) rfl (.takeP (i := 5) rfl (by kernel_rfl) (by kernel_rfl) (by kernel_rfl) (fun w => (.move (.of rfl))) rfl ?_))
 refine WD.takeP (i := 6) rfl (by kernel_rfl) (by kernel_rfl) (by kernel_rfl) (fun w => (by first | exact .fieldAddr 2 (.of rfl) Tryz.underlying34 rfl rfl Tryz.sizeOf31 rfl | exact .fieldAddrI 2 (.of rfl) Tryz.underlying34 rfl rfl Tryz.sizeOf31 rfl)) rfl ?_
 refine .take (i := 7) rfl (by kernel_rfl) (by kernel_rfl) (by kernel_rfl) (by kernel_rfl) hH (fun w ⟨R, hS⟩ => .lds (vs := [I64 (c.ps 0), I64 (c.ps 1), I64 (c.ps 2), I64 (c.ps 3), I64 (c.ps 4), I64 (c.ps 5), I64 (c.ps 6), I64 (c.ps 7), I64 (c.ps 8), I64 (c.ps 9), I64 (c.ps 10), I64 (c.ps 11), I64 (c.ps 12), I64 (c.ps 13), I64 (c.ps 14), I64 (c.ps 15), I64 (c.ps 16), I64 (c.ps 17), I64 (c.ps 18), I64 (c.ps 19), I64 (c.ps 20)]) (.of rfl) hS (k := 0) rfl Tryz.isAgg31 Tryz.sizeOf31 rfl (fun j v hj => mid_get (A := [.slice a c.svs.length cap, .slice ua c.us.length ucap]) (C := [I64 c.room, F64 c.base, F64 c.factor, F64 c.most, I64 c.tries]) hj)) rfl ?_
 refine WD.branch [2] (by kernel_rfl) rfl (WO.cons rfl ?_ (WO.nil))
 refine .call Tryz.func92 rfl (evs_cons (.of rfl) evs_nil) rfl (treeNew_any c.room B _ J2 _ hS) ?_
 clear hS
 rintro _ w ⟨tb, rfl, hS⟩
 refine .nil ?_
 clear hH
 have hH : ∃ R, Sat B w J2 (blk b1 [.slice a c.svs.length cap, .slice ua c.us.length ucap, I64 (c.ps 0), I64 (c.ps 1), I64 (c.ps 2), I64 (c.ps 3), I64 (c.ps 4), I64 (c.ps 5), I64 (c.ps 6), I64 (c.ps 7), I64 (c.ps 8), I64 (c.ps 9), I64 (c.ps 10), I64 (c.ps 11), I64 (c.ps 12), I64 (c.ps 13), I64 (c.ps 14), I64 (c.ps 15), I64 (c.ps 16), I64 (c.ps 17), I64 (c.ps 18), I64 (c.ps 19), I64 (c.ps 20), I64 c.room, F64 c.base, F64 c.factor, F64 c.most, I64 c.tries] 34 :: R) := ⟨_, (hS.pick 2 rfl)⟩
 refine And.intro (by intro _ _; exact hH) ?_
 refine WD.branch [3] (by kernel_rfl) rfl (WO.cons rfl ?_ (WO.nil))
 refine .call Tryz.func93 rfl (evs_cons (.of rfl) evs_nil) rfl (mintNew_any B _ J2 _ hS) ?_
 clear hS
 rintro _ w ⟨mb, rfl, hS⟩
 refine .nil ?_
 clear hH
 have hH : ∃ R, Sat B w J2 (blk b1 [.slice a c.svs.length cap, .slice ua c.us.length ucap, I64 (c.ps 0), I64 (c.ps 1), I64 (c.ps 2), I64 (c.ps 3), I64 (c.ps 4), I64 (c.ps 5), I64 (c.ps 6), I64 (c.ps 7), I64 (c.ps 8), I64 (c.ps 9), I64 (c.ps 10), I64 (c.ps 11), I64 (c.ps 12), I64 (c.ps 13), I64 (c.ps 14), I64 (c.ps 15), I64 (c.ps 16), I64 (c.ps 17), I64 (c.ps 18), I64 (c.ps 19), I64 (c.ps 20), I64 c.room, F64 c.base, F64 c.factor, F64 c.most, I64 c.tries] 34 :: R) := ⟨_, (hS.pick 4 rfl)⟩
 refine And.intro (by intro _ _; exact hH) ?_
 refine .takeP (i := 8) rfl (by kernel_rfl) (by kernel_rfl) (by kernel_rfl) (fun w => (.build (cs := [_, _, _, _, _, _, _, _, _, _, _, _, _, _, _, _, _, _, _, _, _, _, _, _, _, _]) (parts_cons (.of rfl) (parts_cons (.of rfl) (parts_cons (.of rfl) (parts_cons (.of rfl) (parts_cons (.of rfl) parts_nil))))) bld52_41 rfl)) rfl ?_
 refine WD.branch [9] (by kernel_rfl) rfl (WO.cons rfl ?_ (WO.nil))
 refine .boxA (cs := [_, _, _, _, _, _, _, _, _, _, _, _, _, _, _, _, _, _, _, _, _, _, _, _, _, _]) hS (.of rfl) rfl ?_
 clear hS; intro b42 w hS
 refine .nil ?_
 clear hH
 have hH : ∃ R, Sat B w J2 (blk b1 [.slice a c.svs.length cap, .slice ua c.us.length ucap, I64 (c.ps 0), I64 (c.ps 1), I64 (c.ps 2), I64 (c.ps 3), I64 (c.ps 4), I64 (c.ps 5), I64 (c.ps 6), I64 (c.ps 7), I64 (c.ps 8), I64 (c.ps 9), I64 (c.ps 10), I64 (c.ps 11), I64 (c.ps 12), I64 (c.ps 13), I64 (c.ps 14), I64 (c.ps 15), I64 (c.ps 16), I64 (c.ps 17), I64 (c.ps 18), I64 (c.ps 19), I64 (c.ps 20), I64 c.room, F64 c.base, F64 c.factor, F64 c.most, I64 c.tries] 34 :: R) := ⟨_, (hS.pick 5 rfl)⟩
 refine And.intro (by intro _ _; exact hH) ?_
 refine .takeP (i := 10) rfl (by kernel_rfl) (by kernel_rfl) (by kernel_rfl) (fun w => (.assign (.of rfl))) rfl (.takeP (i := 11) rfl (by kernel_rfl) (by kernel_rfl) (by kernel_rfl) (fun w => (.assign (.of rfl))) rfl (.done (by kernel_rfl) (.ret (ret2 Tryz.results41 rfl rfl ?_))))
 have hE : newE c = 0 := by rw [newE, if_neg (by rw [hw0]; decide), if_neg (by rw [hu0]; decide), if_neg (by simpa using hb32)]
 have hp := mem_pickS hOrd
 refine ⟨_, rfl, J2, hJ.trans hJ2, .inr ⟨hE, ⟨b42, tb, mb, ub, pr, pickS c.svs D, c.us, c.ps⟩, D, hOrd, rfl, rfl, rfl, rfl, ⟨hreg.mono hJ2, hTab, ?_, fun s hs => (hc.sfit s (hp s hs)).2.2, hc.ufit, fun u hu => userR_attrs (newU_ok c.us 0 [] hu0 u hu), (hK.mono hJ).mono hJ2, (hP.mono hJ).mono hJ2⟩, ?_⟩⟩
 ·show (pickS c.svs D).length ≤ 100000
  rw [pickS, List.length_map, hOrd.len]; exact hc.svs
 ·exact Sat.box (T := wdT ⟨b42, tb, mb, ub, pr, pickS c.svs D, c.us, c.ps⟩ (w0 c)) (none, 0, none, 0) ((((((hS.pick 2 rfl).pick 2 rfl).pick 4 rfl).pick 4 rfl).pick 4 rfl).drop (k := 5) rfl)
end Go.Proofs.YtadhiihnnkcagaaGreatDoor
