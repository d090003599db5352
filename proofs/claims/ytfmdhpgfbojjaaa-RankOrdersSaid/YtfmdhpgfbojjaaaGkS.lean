/- Strings: builders, conversions, and functions without a body. -/
import Derived.Test.YtfmdhpgfbojjaaaGkH
import Derived.Lib.Builder
import Derived.Lib.Bytealg
import Derived.Lib.UnsafeStr
import Derived.Laws.IdiomStrings
namespace Gk
set_option linter.unusedVariables false
set_option linter.unusedSimpArgs false
open Go
section
variable {P : Program} {n : Nat} {K : Kont} {L : Env} {w : World} {B : World} {I : Im} {As : List Assn} {k : Nat} {x y : Operand} {ty : TypeId} {pos : String} {af : Array Edge} {g : Option (Nat × Bool)} {ops : Array Oper} {rest : List Oper}
theorem Ex.extern {d : Option Nat} {f : FuncId} {fn : Func} {e : Array Value → Sem Value} {xs : List Operand} {ts : Array TypeId} {vs : List Value} {v : Value} (hf : P.funcs[f]? = some fn) (hname : (fn.name == "runtime.NumGoroutine") = false) (hb : fn.body.isNone = true) (hn : Extern.findNext fn = none) (he : Extern.find fn = some e)
    (hx : ∀ a, Holds n L a → xs.map a.eval = vs) (hv : (e vs.toArray).run P w = .ok v w) : Ex P n L w ⟨d, .call ⟨.value (.func f), xs.toArray, ts⟩, ty, pos, af, g⟩ v w := fun a ha => by
  have h := run_callFunc_extern hf hname hb hn he vs.toArray w
  have hv2 := hx a ha
  rw [hv] at h
  simp only [Result.andThen] at h
  subst hv2
  simp [execOp, resolve, Act.eval, Deferred.ofValue, invoke, h]
theorem shape_own {b : Nat} {cs : List Value} {E : TypeId} (hb : w.heap[b]? = some (cellsO cs E)) : w.shape? b = some (E, cs.length) := by
  simp [World.shape?, hb, cellsO]
theorem Ex.toUnsafe {d : Option Nat} {src dst t E : TypeId} {j : TypeInfo} {b o : Nat} {cs : List Value} (hx : Ev n L x (ptr b o)) (hS : Sat B w I As) (hk : As[k]? = some (blk b cs E)) (hs : P.underlying src = some (.pointer t)) (hd : P.underlying dst = some .unsafePointer) (ht : P.info? t = some j) (hj : j.size ≠ 0) (ho : o < cs.length) :
    Ex P n L w ⟨d, .convert src dst x, ty, pos, af, g⟩ (ptr b o) w := fun a ha => by
  have h := Go.Lib.run_to_unsafe (P := P) w ⟨b, o, none⟩ hs hd ht hj (shape_own (hS.block hk)) ho
  simp [execOp, hx a ha, h]
theorem Ex.fromUnsafe {d : Option Nat} {src dst u E : TypeId} {j : TypeInfo} {b o : Nat} {cs : List Value} (hx : Ev n L x (ptr b o)) (hS : Sat B w I As) (hk : As[k]? = some (blk b cs E)) (hs : P.underlying src = some .unsafePointer) (hd : P.underlying dst = some (.pointer u)) (hu : P.info? u = some j) (hl : liesAt P P.depth E (cs.length / P.cellsOf E) o u 1 = true) :
    Ex P n L w ⟨d, .convert src dst x, ty, pos, af, g⟩ (ptr b o) w := fun a ha => by
  have h := Go.Lib.run_from_unsafe (P := P) w ⟨b, o, none⟩ hs hd hu (shape_own (hS.block hk)) hl
  simp [execOp, hx a ha, h]
theorem Ex.nepSame {d : Option Nat} {t te : TypeId} {j : TypeInfo} {a : Addr} (hx : Ev n L x (.pointer (some a))) (hy : Ev n L y (.pointer (some a))) (hT : P.underlying t = some (.pointer te)) (hj : P.info? te = some j) (ht' : True) : Ex P n L w ⟨d, .binOp .neq t x y t, ty, pos, af, g⟩ (.bool false) w :=
  ex_bin hx hy (fun _ _ => by rw [eqGuard_at_pointer]; rfl) (Go.Lib.run_neq_ptr_same w a hT hj)
/-- Bytes as cells. -/
abbrev bcs (l : List UInt8) : List Value := l.map fun c => U8 (c.toNat : Int)
theorem Ex.sliceData {d : Option Nat} {ts : Array TypeId} {a : Addr} {m c : Nat} (hx : Ev n L x (.slice (some a) m c)) (hc : c ≠ 0) : Ex P n L w ⟨d, .call ⟨.builtin .unsafeSliceData, #[x], ts⟩, ty, pos, af, g⟩ (.pointer (some a)) w := fun b hb => by
  have h := Go.Lib.run_unsafeSliceData_row (P := P) w ts ty a m c hc
  simp [execOp, resolve, invoke, builtin, hx b hb, h]
theorem Ex.sliceDataNil {d : Option Nat} {ts : Array TypeId} {m c : Nat} (hx : Ev n L x (.slice none m c)) : Ex P n L w ⟨d, .call ⟨.builtin .unsafeSliceData, #[x], ts⟩, ty, pos, af, g⟩ (.pointer none) w := fun b hb => by
  have h := Go.Lib.run_unsafeSliceData_nil (P := P) w ts ty m c
  simp [execOp, resolve, invoke, builtin, hx b hb, h]
theorem Ex.unsafeStringNone {d : Option Nat} {pt it : TypeId} {p : Option Addr} (hx : Ev n L x (.pointer p)) (hy : Ev n L y (I64 0)) : Ex P n L w ⟨d, .call ⟨.builtin .unsafeString, #[x, y], #[pt, it]⟩, ty, pos, af, g⟩ (S []) w := fun b hb => by
  have h := Go.Lib.run_unsafeString_none (P := P) w pt it ty p
  simp [execOp, resolve, invoke, builtin, hx b hb, hy b hb, h]
  rfl
theorem Sat.freezeCells {b m : Nat} {cs : List Value} {E : TypeId} (hS : Sat B w I As) (hk : As[k]? = some (blk b cs E)) : Sat B (w.freeze ⟨b, 0, none⟩ m) I (As.eraseIdx k) := by
  by_cases h0 : m = 0
  · subst h0
    have e : w.freeze ⟨b, 0, none⟩ 0 = w := by simp [World.freeze]
    rw [e]; exact hS.drop hk
  · have hb := hS.block hk
    have hw : ∃ o', (w.freeze ⟨b, 0, none⟩ m).heap[b]? = some o' := by
      refine ⟨.cells cs.toArray E (0, m), ?_⟩
      simp [World.freeze, h0, Array.getElem?_modify, hb, cellsO]
    obtain ⟨o', ho⟩ := hw
    have h1 := hS.write (w' := w.freeze ⟨b, 0, none⟩ m) hk (by simp [World.freeze, h0]) (by simp [World.freeze, h0]) (by simp [World.freeze, h0]) ho (fun c hc => by
      have hne : ¬ b = c := fun e => hc e.symm
      simp [World.freeze, h0, Array.getElem?_modify, hne])
    have hlk : k < As.length := (List.getElem?_eq_some_iff.1 hk).1
    have h2 := h1.drop (k := k) (A := own b o') (by simp [hlk])
    simpa [List.eraseIdx_set_eq] using h2
theorem WL.unsafeString {d b : Nat} {pt it E : TypeId} {l : List UInt8} {r : List Value} (hS : Sat B w I As) (hk : As[k]? = some (blk b (bcs l ++ r) E)) (hx : Ev n L x (ptr b 0)) (hy : Ev n L y (I64 l.length)) (h0 : l ≠ []) (hp : P.underlying pt = some (.pointer E)) (hc : P.cellsOf E = 1) (h63 : l.length ≤ 9223372036854775807) (hd : Nat.blt d n = true)
    (h : ∀ w', Sat B w' I (As.eraseIdx k) → WL P n ops K rest ((d, S l) :: L) w') : WL P n ops K (⟨some d, .call ⟨.builtin .unsafeString, #[x, y], #[pt, it]⟩, ty, pos, af, none⟩ :: rest) L w := by
  have hb := hS.block hk
  have hr := Go.Lib.run_unsafeString_row (P := P) w pt it ty E hp hc b (bcs l ++ r).length (shape_own hb) l h0 (by simp) h63 (fun j y hj => by
    rw [add_ad, Nat.zero_add]
    refine cell_own hb ?_
    rw [List.getElem?_append_left (by have := (List.getElem?_eq_some_iff.1 hj).1; simpa using this)]
    simp [hj])
  refine WL.val (w' := w.freeze ⟨b, 0, none⟩ l.length) (fun a ha => ?_) hd (h _ (hS.freezeCells hk))
  simp [execOp, resolve, invoke, builtin, hx a ha, hy a ha, hr]
/-- Bytes turned to a text. -/
theorem Ex.bytesStr {d : Option Nat} {src dst E : TypeId} {b o cap : Nat} {l : List UInt8} {cs : List Value} (hx : Ev n L x (.slice (some (ad b o)) l.length cap)) (hS : Sat B w I As) (hk : As[k]? = some (blk b cs E)) (hs : P.underlying src = some (.slice E)) (he : P.underlying E = some (.int .u8)) (hd : P.underlying dst = some .string)
    (hc : ∀ j (hj : j < l.length), cs[o + j]? = some (U8 (l[j].toNat : Int))) : Ex P n L w ⟨d, .convert src dst x, ty, pos, af, g⟩ (S l) w := fun a ha => by
  have hb := hS.block hk
  have h := run_convert_bytes_back (P := P) w src dst E (ad b o) cap l hs he hd (fun j hj => by rw [add_ad]; exact cell_own hb (hc j hj))
  simp [execOp, hx a ha, h]
theorem Ex.bytesStrI {d : Option Nat} {src dst E : TypeId} {p : Addr} {cap : Nat} {l : List UInt8} (hx : Ev n L x (.slice (some p) l.length cap)) (hS : Sat B w I As) (ha : At I p (bcs l)) (hs : P.underlying src = some (.slice E)) (he : P.underlying E = some (.int .u8)) (hd : P.underlying dst = some .string) :
    Ex P n L w ⟨d, .convert src dst x, ty, pos, af, g⟩ (S l) w := fun a hh => by
  have h := run_convert_bytes_back (P := P) w src dst E p cap l hs he hd (fun j hj => cell_at hS ha (by simp [hj]))
  simp [execOp, hx a hh, h]
end
end Gk
