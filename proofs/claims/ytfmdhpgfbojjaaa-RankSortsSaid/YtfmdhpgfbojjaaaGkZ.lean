/- The frame of a law: from a walk in the memory of this workplace's kind to what a row says. -/
import Derived.Test.YtfmdhpgfbojjaaaGkH
import Derived.Below
import Derived.ChangeSame
import Derived.Carry
import Derived.ChangeSlices
namespace Gk
set_option linter.unusedVariables false
set_option linter.unusedSimpArgs false
open Go Go.RowKit Go.WideShapes Go.ChangeShapes
/-- At the start all that lies there is never written any more. -/
def im0 (W : World) : Im := fun b => W.heap[b]?
theorem sat0 (W : World) : Sat W W (im0 W) [] := ⟨[], rfl, rfl, rfl, rfl, fun _ _ h => h, fun _ _ h => by simp at h, List.nodup_nil, fun _ _ h => by simp at h⟩
theorem Sat.below {W w : World} {I : Im} {As : List Assn} (hS : Sat W w I As) (hl : Le (im0 W) I) : Below W.heap.size W w := by
  obtain ⟨h, _, g⟩ := hS
  have hb : ∀ k, k < W.heap.size → w.heap[k]? = W.heap[k]? := fun k hk => by
    rw [Array.getElem?_eq_getElem hk]
    exact g.imm k _ (hl k _ (Array.getElem?_eq_getElem hk))
  refine ⟨g.os, g.tape, g.output, ?_, hb⟩
  rcases Nat.eq_zero_or_pos W.heap.size with h0 | h0
  · omega
  · have h1 := hb (W.heap.size - 1) (by omega)
    rw [Array.getElem?_eq_getElem (show W.heap.size - 1 < W.heap.size by omega)] at h1
    have := (Array.getElem?_eq_some_iff.1 h1).1
    omega
/-- What a law's row says behind the call: it told what it should, and all that was there reads as it did. -/
theorem post_law {H : Type} {enc : TypeId × Value → H} {P : Program} {f : Func} {s : ChangeSpec} {apart fresh handsOn : Bool} {W W' : World} {args : Array Value} {v : Value} {ds gs : List (DataW H)} {before pa pv : List MemPlace}
    (hW : DataW.Whole enc P f.params.toList s.vars apart W args.toList ds gs before) (hb : Below W.heap.size W W')
    (hres : ∀ (b : Nat) (sp : Nat → Bool) (hd : Bool), DataW.TrodAll enc P W' b sp hd f.resultTypes.toList (v.resultList f.resultTypes.size) (s.fn H (ds ++ gs)).results [])
    (hargs : ∀ sp : Nat → Bool, (∀ p ∈ before, sp p.block = true) → DataW.TrodAll enc P W' 0 sp true f.params.toList args.toList (s.fn H (ds ++ gs)).args pa)
    (hvars : ∀ sp : Nat → Bool, (∀ p ∈ before, sp p.block = true) → DataW.TrodVars enc P W' sp s.vars (s.fn H (ds ++ gs)).vars pv) (hps : before = pa ++ pv) :
    s.post enc P f apart fresh handsOn false W args v W' := by
  have hold : ∀ p ∈ before, (fun b => decide (b < W.heap.size)) p.block = true := fun p hp => by simpa using hW.lt p hp
  refine ⟨ds, gs, before, [], pa, pv, hW, hres _ _ _, hargs _ hold, hvars _ hold, World.keptBut_mono (fun p hp => ⟨hp, ?_⟩) (hb.frame (· ∈ before)), fun h => (by cases h)⟩
  rw [hps, List.mem_append] at hp
  exact Or.inr hp
/-- The same, where the arguments read as they did since nothing below has turned. -/
theorem post_law2 {H : Type} {enc : TypeId × Value → H} {P : Program} {f : Func} {s : ChangeSpec} {apart fresh handsOn : Bool} {W W' : World} {args : Array Value} {v : Value} {ds gs : List (DataW H)} {before pa pv : List MemPlace}
    (hW : DataW.Whole enc P f.params.toList s.vars apart W args.toList ds gs before) (hb : Below W.heap.size W W')
    (hres : ∀ (b : Nat) (sp : Nat → Bool) (hd : Bool), DataW.TrodAll enc P W' b sp hd f.resultTypes.toList (v.resultList f.resultTypes.size) (s.fn H (ds ++ gs)).results [])
    (hargs : DataW.TrodAll enc P W' 0 (fun b => decide (b < W.heap.size)) true f.params.toList args.toList (s.fn H (ds ++ gs)).args pa)
    (hvars : DataW.TrodVars enc P W' (fun b => decide (b < W.heap.size)) s.vars (s.fn H (ds ++ gs)).vars pv) (hps : before = pa ++ pv) :
    s.post enc P f apart fresh handsOn false W args v W' := by
  refine ⟨ds, gs, before, [], pa, pv, hW, hres _ _ _, hargs, hvars, World.keptBut_mono (fun p hp => ⟨hp, ?_⟩) (hb.frame (· ∈ before)), fun h => (by cases h)⟩
  rw [hps, List.mem_append] at hp
  exact Or.inr hp
/-- A slice of whole numbers among the arguments. -/
theorem open_row {H : Type} {enc : TypeId × Value → H} {P : Program} {W : World} {spare : Nat → Bool} {held : Bool} {t e : TypeId} {k : IntKind} {a : Option Addr} {len cap : Nat} {d : DataW H} {ps : List MemPlace} (ht : P.underlying t = some (.slice e)) (he : P.underlying e = some (.int k)) (hc : P.cellsOf e = 1)
    (hd : DataW.Trod enc P W 0 spare held t (.slice a len cap) d ps) : ∃ zs : List Int, zs.length = len ∧ RS (im0 W) a 1 len (zs.map fun z => .int k z) ∧ ∀ z ∈ zs, (Lit.int k z).wf = true := by
  obtain ⟨fuel, hf⟩ := hd
  rcases open_ints ht he hc hf with ⟨hcs, _⟩ | ⟨p, len', cap', zs, hcs, _, hl, _, hlen, _, hcell, hwf⟩
  · simp [Value.cells] at hcs
    obtain ⟨rfl, rfl, rfl⟩ := hcs
    exact ⟨[], rfl, RS.nil _ _, fun _ h => by cases h⟩
  · simp [Value.cells] at hcs
    obtain ⟨rfl, rfl, rfl⟩ := hcs
    have hlz : len ≤ zs.length := by rw [hlen]; split <;> omega
    refine ⟨zs.take len, by rw [List.length_take]; omega, ⟨by rw [List.length_map, List.length_take]; omega, fun hn => ⟨p, rfl, ?_⟩⟩, fun z hz => hwf z (List.mem_of_mem_take hz)⟩
    obtain ⟨ab, ao, sp⟩ := p
    have h0 := hcell 0 (by omega)
    have hs : sp = none := by simpa [Addr.add] using World.cell?_spot h0
    subst hs
    have e : ∀ j, (⟨ab, ao, none⟩ : Addr).add j = ⟨ab, ao + j, none⟩ := add_ad ab ao
    rw [e] at h0
    unfold World.cell? at h0
    split at h0
    · rename_i arr E fr hb
      refine ⟨rfl, arr, E, fr, hb, fun j v hj => ?_⟩
      have hjl : j < len := by
        have := (List.getElem?_eq_some_iff.1 hj).1
        simp at this; omega
      have hc2 := hcell j (by omega)
      rw [e] at hc2
      unfold World.cell? at hc2
      dsimp only at hb
      rw [hb] at hc2
      simp only [Option.isSome_none, Bool.false_eq_true, if_false] at hc2
      rw [hc2]
      rw [← hj]
      simp [List.getElem?_take, hjl, List.getD_eq_getElem?_getD, show j < zs.length by omega]
    · cases h0
end Gk
