/- Part 3 of what the proof stands on: W17b, W18f, W21a, W21b, GkZ, GkO, W18k, W18g, W18h, W18i. -/
import Derived.Test.YtadhiihnnkcagaaGreatDoorM2RB
import Derived.Test.YtadhiihnnkcagaaGreatDoorChecked
import Derived.Below
import Derived.ChangeSame
import Derived.Carry
import Derived.ChangeSlices
import Derived.Deep.Strs
import Derived.DataElems
import Derived.Lib.LaidTab
namespace Go.Proofs.YtadhiihnnkcagaaGreatDoor
open Gk Pat
set_option linter.unusedVariables false
set_option linter.unusedSimpArgs false
def rowsA (E : Nat) (st : List (Value × List Int)) : Assn := SepAll (st.map fun x => Vec E 1 x.1 x.2.length (x.2.map I64))
theorem marks_get {o b : Nat} {bs pre r : List Nat} (h : bs = pre ++ b :: r) (rm : List Value) : (((o :: bs).map fun (x : Nat) => (x : Int)).map I64 ++ rm)[1 + (pre.length : Int).toNat * 1]? = some (I64 b) := by
 subst h
 rw [Int.toNat_natCast, Nat.mul_one, List.getElem?_append_left (by simp; omega)]
 simp [Nat.add_comm 1]
theorem info3_196 : Tryz.prog.info? 3 = some Tryz.t3 := by kernel_rfl
theorem info195_196 : Tryz.prog.info? 195 = some Tryz.t195 := by kernel_rfl
theorem info224_196 : Tryz.prog.info? 224 = some Tryz.t224 := by kernel_rfl
theorem bld224_196 : Bld Tryz.prog 224 [(0, 1), (1, 1), (2, 1)] [.int .u8 0, .int .u8 0, .slice none 0 0] := bld_of Tryz.underlying224 Tryz.zeroValue224 (fun w => by simp [go_sem])
theorem put_any (bc n : Nat) (lv sv av : Value) (xs : List Value) (kd b : Int) (B w : World) (I : Im) (F : List Assn) (hS : Sat B w I (blk bc [lv, sv, av] 248 :: Vec 224 3 lv n xs :: F)) (hn : n ≤ 1000) :
  Calls Tryz.prog 196 [ptr bc 0, .int .u8 kd, .int .u8 b].toArray w (Ret fun v w' => v = .tuple #[] ∧ ∃ lv', Sat B w' I (blk bc [lv', sv, av] 248 :: Vec 224 3 lv' (n + 1) (xs ++ [.int .u8 kd, .int .u8 b, .slice none 0 0]) :: F)) := by
 refine calls Tryz.func196 rfl Tryz.ntmps196 rfl (.region (.run 3 rfl trivial (.val (.fieldAddr 0 (.of rfl) Tryz.underlying248 rfl rfl Tryz.sizeOf219 rfl) rfl (.val (.ld (.of rfl) hS (k := 0) rfl Tryz.isAgg219 rfl) rfl (.run 2 rfl trivial (.val (.build (cs := [_, _, _]) (parts_cons (.of rfl) (parts_cons (.of rfl) parts_nil)) bld224_196 rfl) rfl (.buildSlice (cs := [_, _, _]) hS (parts_cons (.of rfl) parts_nil) Tryz.underlying219 Tryz.sizeOf224 Tryz.zeroValue224 rfl rfl rfl rfl ?_)))))))
 clear hS; intro b14 w hS
 refine WL.append (size := 3) (bytes := 32) hS (.of rfl) (.of rfl) (k := 1) rfl Tryz.underlying219 info224_196 rfl rfl rfl rfl rfl rfl rfl ⟨by omega, by unfold maxLen; omega⟩ rfl ?_
 clear hS; intro v15 w hS; try dsimp only [List.set] at hS
 obtain ⟨a15, c15, rfl, hcap15, _⟩ := hS.vecSlice (k := 1) (v := v15) rfl
 refine .run 1 rfl trivial (.val (.fieldAddr 0 (.of rfl) Tryz.underlying248 rfl rfl Tryz.sizeOf219 rfl) rfl (.st1 hS (k := 0) rfl (.of rfl) (.of rfl) rfl Tryz.sizeOf219 (by simp) ?_))
 clear hS; intro w hS; try dsimp only [List.set] at hS
 refine .nil (end0 Tryz.results196 ?_)
 exact ⟨_, rfl, rfl, _, hS⟩
theorem bracket_any (bc n : Nat) (lv sv av : Value) (xs : List Value) (st : List (Value × List Int)) (ats : List Int) (at_ : Int) (B w : World) (I : Im) (F : List Assn) (hS : Sat B w I (blk bc [lv, sv, av] 248 :: Vec 224 3 lv n xs :: Vec 195 1 sv st.length (st.map (·.1)) :: Vec 3 1 av ats.length (ats.map I64) :: rowsA 3 st :: F)) (hn : n ≤ 1000) (hd : st.length ≤ 1000) (hd2 : ats.length ≤ 1000) :
  Calls Tryz.prog 197 [ptr bc 0, I64 at_].toArray w (Ret fun v w' => v = .tuple #[] ∧ ∃ lv' sv' av' mv, Sat B w' I (blk bc [lv', sv', av'] 248 :: Vec 224 3 lv' (n + 1) (xs ++ [.int .u8 4, .int .u8 0, .slice none 0 0]) :: Vec 195 1 sv' (st.length + 1) (st.map (·.1) ++ [mv]) :: Vec 3 1 av' (ats.length + 1) (ats.map I64 ++ [I64 at_]) :: rowsA 3 (st ++ [(mv, [(n : Int)])]) :: F)) := by
 refine calls Tryz.func197 rfl Tryz.ntmps197 rfl (.seq ?_)
 obtain ⟨la, lc, rfl, hlc, _⟩ := hS.vecSlice (k := 1) rfl
 obtain ⟨sa, sc, rfl, hsc, _⟩ := hS.vecSlice (k := 2) rfl
 obtain ⟨aa, ac, rfl, hac, _⟩ := hS.vecSlice (k := 3) rfl
 refine .drawn (fun w => ∃ R, Sat B w I (blk bc [.slice la n lc, .slice sa st.length sc, .slice aa ats.length ac] 248 :: R)) (fun j => !([23, 26].contains j)) (by kernel_rfl) ?_
 replace hS := hS.drew; generalize w.drew = w at hS ⊢
 have hH : ∃ R, Sat B w I (blk bc [.slice la n lc, .slice sa st.length sc, .slice aa ats.length ac] 248 :: R) := ⟨_, (hS.pick 0 rfl)⟩
 refine .takeP (i := 0) rfl (by kernel_rfl) (by kernel_rfl) (by kernel_rfl) (fun w => (.move (.of rfl))) rfl (.takeP (i := 1) rfl (by kernel_rfl) (by kernel_rfl) (by kernel_rfl) (fun w => (.move (.of rfl))) rfl (.takeP (i := 2) rfl (by kernel_rfl) (by kernel_rfl) (by kernel_rfl) (fun w => (.move (.of rfl))) rfl (.takeP (i := 3) rfl (by kernel_rfl) (by kernel_rfl) (by kernel_rfl) (fun w => (.nilCheck (.of rfl))) rfl (.takeP (i := 4) rfl (by kernel_rfl) (by kernel_rfl) (by kernel_rfl) (fun w => (.fieldAddr 1 (.of rfl) Tryz.underlying248 rfl rfl Tryz.sizeOf243 rfl)) rfl (.take (i := 5) rfl (by kernel_rfl) (by kernel_rfl) (by kernel_rfl) (by kernel_rfl) hH (fun w ⟨R, hS⟩ => (.ld (.of rfl) hS (k := 0) rfl Tryz.isAgg243 rfl)) rfl (.takeP (i := 6) rfl (by kernel_rfl) (by kernel_rfl) (by kernel_rfl) (fun w => (.move (.of rfl))) rfl (.takeP (i := 7) rfl (by kernel_rfl) (by kernel_rfl) (by kernel_rfl) (fun w => (.nilCheck (.of rfl))) rfl (.takeP (i := 8) rfl (by kernel_rfl) (by kernel_rfl) (by kernel_rfl) (fun w => (.fieldAddr 0 (.of rfl) Tryz.underlying248 rfl rfl Tryz.sizeOf219 rfl)) rfl (.take (i := 9) rfl (by kernel_rfl) (by kernel_rfl) (by kernel_rfl) (by kernel_rfl) hH (fun w ⟨R, hS⟩ => (.ld (.of rfl) hS (k := 0) rfl Tryz.isAgg219 rfl)) rfl (.takeP (i := 10) rfl (by kernel_rfl) (by kernel_rfl) (by kernel_rfl) (fun w => (.lenSlice (.of rfl) Tryz.underlying219)) rfl (.takeP (i := 14) rfl (by kernel_rfl) (by kernel_rfl) (by kernel_rfl) (fun w => (.move (.of rfl))) rfl (.takeP (i := 15) rfl (by kernel_rfl) (by kernel_rfl) (by kernel_rfl) (fun w => (.nilCheck (.of rfl))) rfl (.takeP (i := 16) rfl (by kernel_rfl) (by kernel_rfl) (by kernel_rfl) (fun w => (.fieldAddr 2 (.of rfl) Tryz.underlying248 rfl rfl Tryz.sizeOf195 rfl)) rfl (.take (i := 17) rfl (by kernel_rfl) (by kernel_rfl) (by kernel_rfl) (by kernel_rfl) hH (fun w ⟨R, hS⟩ => (.ld (.of rfl) hS (k := 0) rfl Tryz.isAgg195 rfl)) rfl (.takeP (i := 18) rfl (by kernel_rfl) (by kernel_rfl) (by kernel_rfl) (fun w => (.move (.of rfl))) rfl ?_)))))))))))))))
 refine WD.branch [11, 19] (by kernel_rfl) rfl (WO.cons rfl ?_ (WO.cons rfl ?_ (WO.nil)))
 ·
  refine .buildSlice (cs := [_]) hS (parts_cons (.of rfl) parts_nil) Tryz.underlying195 Tryz.sizeOf3 Tryz.zeroValue3 rfl rfl rfl rfl ?_
  clear hS; intro b15 w hS
  refine .nil ?_
  clear hH
  have hH : ∃ R, Sat B w I (blk bc [.slice la n lc, .slice sa st.length sc, .slice aa ats.length ac] 248 :: R) := ⟨_, (hS.pick 1 rfl)⟩
  refine And.intro (by intro _ _; exact hH) ?_
  refine WD.branch [12, 19] (by kernel_rfl) rfl (WO.cons rfl ?_ (WO.cons rfl ?_ (WO.nil)))
  ·
   refine .buildSlice (cs := [_]) hS (parts_cons (.of rfl) parts_nil) Tryz.underlying243 Tryz.sizeOf195 Tryz.zeroValue195 rfl rfl rfl rfl ?_
   clear hS; intro b16 w hS
   refine .nil ?_
   clear hH
   have hH : ∃ R, Sat B w I (blk bc [.slice la n lc, .slice sa st.length sc, .slice aa ats.length ac] 248 :: R) := ⟨_, (hS.pick 2 rfl)⟩
   refine And.intro (by intro _ _; exact hH) ?_
   refine WD.branch [13, 19] (by kernel_rfl) rfl (WO.cons rfl ?_ (WO.cons rfl ?_ (WO.nil)))
   ·
    refine WL.append (size := 1) (bytes := 24) hS (.of rfl) (.of rfl) (k := 3) rfl Tryz.underlying243 info195_196 rfl rfl rfl rfl rfl rfl rfl ⟨by omega, by unfold maxLen; omega⟩ rfl ?_
    clear hS; intro v17 w hS; try dsimp only [List.set] at hS
    obtain ⟨a17, c17, rfl, hcap17, _⟩ := hS.vecSlice (k := 3) (v := v17) rfl
    refine .nil ?_
    clear hH
    have hH : ∃ R, Sat B w I (blk bc [.slice la n lc, .slice sa st.length sc, .slice aa ats.length ac] 248 :: R) := ⟨_, (hS.pick 1 rfl)⟩
    refine And.intro (by intro _ _; exact hH) ?_
    refine WD.branch [19] (by kernel_rfl) rfl (WO.cons rfl ?_ (WO.nil))
    refine .buildSlice (cs := [_]) hS (parts_cons (.of rfl) parts_nil) Tryz.underlying195 Tryz.sizeOf3 Tryz.zeroValue3 rfl rfl rfl rfl ?_
    clear hS; intro b23 w hS
    refine .nil ?_
    clear hH
    have hH : ∃ R, Sat B w I (blk bc [.slice la n lc, .slice sa st.length sc, .slice aa ats.length ac] 248 :: R) := ⟨_, (hS.pick 2 rfl)⟩
    refine And.intro (by intro _ _; exact hH) ?_
    refine WD.branch [20] (by kernel_rfl) rfl (WO.cons rfl ?_ (WO.nil))
    refine WL.append (size := 1) (bytes := 8) hS (.of rfl) (.of rfl) (k := 4) rfl Tryz.underlying195 info3_196 rfl rfl rfl rfl rfl rfl rfl ⟨by omega, by unfold maxLen; omega⟩ rfl ?_
    clear hS; intro v24 w hS; try dsimp only [List.set] at hS
    obtain ⟨a24, c24, rfl, hcap24, _⟩ := hS.vecSlice (k := 4) (v := v24) rfl
    refine .nil ?_
    clear hH
    have hH : ∃ R, Sat B w I (blk bc [.slice la n lc, .slice sa st.length sc, .slice aa ats.length ac] 248 :: R) := ⟨_, (hS.pick 1 rfl)⟩
    refine And.intro (by intro _ _; exact hH) ?_
    refine .takeP (i := 21) rfl (by kernel_rfl) (by kernel_rfl) (by kernel_rfl) (fun w => (.nilCheck (.of rfl))) rfl (.takeP (i := 22) rfl (by kernel_rfl) (by kernel_rfl) (by kernel_rfl) (fun w => (.fieldAddr 1 (.of rfl) Tryz.underlying248 rfl rfl Tryz.sizeOf243 rfl)) rfl ?_)
    refine WD.branch [23] (by kernel_rfl) rfl (WO.cons rfl ?_ (WO.nil))
    refine .st1 hS (k := 1) rfl (.of rfl) (.of rfl) rfl Tryz.sizeOf243 (by simp) ?_
    clear hS; intro w hS; try dsimp only [List.set] at hS
    refine .nil ?_
    refine And.intro (by intro h; cases h) ?_
    refine .takeP (i := 24) rfl (by kernel_rfl) (by kernel_rfl) (by kernel_rfl) (fun w => (.nilCheck (.of rfl))) rfl (.takeP (i := 25) rfl (by kernel_rfl) (by kernel_rfl) (by kernel_rfl) (fun w => (.fieldAddr 2 (.of rfl) Tryz.underlying248 rfl rfl Tryz.sizeOf195 rfl)) rfl ?_)
    refine WD.branch [26] (by kernel_rfl) rfl (WO.cons rfl ?_ (WO.nil))
    refine .st1 hS (k := 1) rfl (.of rfl) (.of rfl) rfl Tryz.sizeOf195 (by simp) ?_
    clear hS; intro w hS; try dsimp only [List.set] at hS
    refine .nil ?_
    refine And.intro (by intro h; cases h) ?_
    refine .done (by kernel_rfl) (.region (.run 1 rfl trivial ?_))
    replace hS := hS.vecOf (k := 0) (E := 3) (size := 1) (n := 1) rfl rfl (by unfold maxLen; omega); try dsimp only [List.set] at hS
    replace hS := hS.push (k := 4) rfl; try dsimp only [List.set] at hS
    refine .call Tryz.func196 rfl (evs_cons (.of rfl) (evs_cons (.of rfl) (evs_cons (.of rfl) evs_nil))) rfl (put_any _ _ _ _ _ _ _ _ _ _ _ _ hS (by omega)) ?_
    clear hS
    rintro _ w ⟨rfl, lv, hS⟩
    refine .nil (end0 Tryz.results197 ?_)
    replace hS := hS.say (k := 4) (A' := rowsA 3 (st ++ [(.slice (some (ad b15 0)) 1 1, [(n : Int)])])) rfl (fun h hh => by rw [rowsA, List.map_append]; exact hh); try dsimp only [List.set] at hS
    exact ⟨_, rfl, rfl, _, _, _, _, hS⟩
   ·
    refine .buildSlice (cs := [_]) hS (parts_cons (.of rfl) parts_nil) Tryz.underlying195 Tryz.sizeOf3 Tryz.zeroValue3 rfl rfl rfl rfl ?_
    clear hS; intro b23 w hS
    refine .nil ?_
    clear hH
    have hH : ∃ R, Sat B w I (blk bc [.slice la n lc, .slice sa st.length sc, .slice aa ats.length ac] 248 :: R) := ⟨_, (hS.pick 3 rfl)⟩
    refine And.intro (by intro _ _; exact hH) ?_
    refine WD.branch [13] (by kernel_rfl) rfl (WO.cons rfl ?_ (WO.nil))
    replace hS := hS.pick 1 rfl; try dsimp only [List.eraseIdx] at hS
    refine WL.append (size := 1) (bytes := 24) hS (.of rfl) (.of rfl) (k := 4) rfl Tryz.underlying243 info195_196 rfl rfl rfl rfl rfl rfl rfl ⟨by omega, by unfold maxLen; omega⟩ rfl ?_
    clear hS; intro v17 w hS; try dsimp only [List.set] at hS
    obtain ⟨a17, c17, rfl, hcap17, _⟩ := hS.vecSlice (k := 4) (v := v17) rfl
    refine .nil ?_
    clear hH
    have hH : ∃ R, Sat B w I (blk bc [.slice la n lc, .slice sa st.length sc, .slice aa ats.length ac] 248 :: R) := ⟨_, (hS.pick 2 rfl)⟩
    refine And.intro (by intro _ _; exact hH) ?_
    refine WD.branch [20] (by kernel_rfl) rfl (WO.cons rfl ?_ (WO.nil))
    refine WL.append (size := 1) (bytes := 8) hS (.of rfl) (.of rfl) (k := 4) rfl Tryz.underlying195 info3_196 rfl rfl rfl rfl rfl rfl rfl ⟨by omega, by unfold maxLen; omega⟩ rfl ?_
    clear hS; intro v24 w hS; try dsimp only [List.set] at hS
    obtain ⟨a24, c24, rfl, hcap24, _⟩ := hS.vecSlice (k := 4) (v := v24) rfl
    refine .nil ?_
    clear hH
    have hH : ∃ R, Sat B w I (blk bc [.slice la n lc, .slice sa st.length sc, .slice aa ats.length ac] 248 :: R) := ⟨_, (hS.pick 1 rfl)⟩
    refine And.intro (by intro _ _; exact hH) ?_
    refine .takeP (i := 21) rfl (by kernel_rfl) (by kernel_rfl) (by kernel_rfl) (fun w => (.nilCheck (.of rfl))) rfl (.takeP (i := 22) rfl (by kernel_rfl) (by kernel_rfl) (by kernel_rfl) (fun w => (.fieldAddr 1 (.of rfl) Tryz.underlying248 rfl rfl Tryz.sizeOf243 rfl)) rfl ?_)
    refine WD.branch [23] (by kernel_rfl) rfl (WO.cons rfl ?_ (WO.nil))
    refine .st1 hS (k := 1) rfl (.of rfl) (.of rfl) rfl Tryz.sizeOf243 (by simp) ?_
    clear hS; intro w hS; try dsimp only [List.set] at hS
    refine .nil ?_
    refine And.intro (by intro h; cases h) ?_
    refine .takeP (i := 24) rfl (by kernel_rfl) (by kernel_rfl) (by kernel_rfl) (fun w => (.nilCheck (.of rfl))) rfl (.takeP (i := 25) rfl (by kernel_rfl) (by kernel_rfl) (by kernel_rfl) (fun w => (.fieldAddr 2 (.of rfl) Tryz.underlying248 rfl rfl Tryz.sizeOf195 rfl)) rfl ?_)
    refine WD.branch [26] (by kernel_rfl) rfl (WO.cons rfl ?_ (WO.nil))
    refine .st1 hS (k := 1) rfl (.of rfl) (.of rfl) rfl Tryz.sizeOf195 (by simp) ?_
    clear hS; intro w hS; try dsimp only [List.set] at hS
    refine .nil ?_
    refine And.intro (by intro h; cases h) ?_
    refine .done (by kernel_rfl) (.region (.run 1 rfl trivial ?_))
    replace hS := hS.vecOf (k := 0) (E := 3) (size := 1) (n := 1) rfl rfl (by unfold maxLen; omega); try dsimp only [List.set] at hS
    replace hS := hS.push (k := 4) rfl; try dsimp only [List.set] at hS
    refine .call Tryz.func196 rfl (evs_cons (.of rfl) (evs_cons (.of rfl) (evs_cons (.of rfl) evs_nil))) rfl (put_any _ _ _ _ _ _ _ _ _ _ _ _ hS (by omega)) ?_
    clear hS
    rintro _ w ⟨rfl, lv, hS⟩
    refine .nil (end0 Tryz.results197 ?_)
    replace hS := hS.say (k := 4) (A' := rowsA 3 (st ++ [(.slice (some (ad b15 0)) 1 1, [(n : Int)])])) rfl (fun h hh => by rw [rowsA, List.map_append]; exact hh); try dsimp only [List.set] at hS
    exact ⟨_, rfl, rfl, _, _, _, _, hS⟩
  ·
   refine .buildSlice (cs := [_]) hS (parts_cons (.of rfl) parts_nil) Tryz.underlying195 Tryz.sizeOf3 Tryz.zeroValue3 rfl rfl rfl rfl ?_
   clear hS; intro b23 w hS
   refine .nil ?_
   clear hH
   have hH : ∃ R, Sat B w I (blk bc [.slice la n lc, .slice sa st.length sc, .slice aa ats.length ac] 248 :: R) := ⟨_, (hS.pick 2 rfl)⟩
   refine And.intro (by intro _ _; exact hH) ?_
   refine WD.branch [12] (by kernel_rfl) rfl (WO.cons rfl ?_ (WO.nil))
   refine .buildSlice (cs := [_]) hS (parts_cons (.of rfl) parts_nil) Tryz.underlying243 Tryz.sizeOf195 Tryz.zeroValue195 rfl rfl rfl rfl ?_
   clear hS; intro b16 w hS
   refine .nil ?_
   clear hH
   have hH : ∃ R, Sat B w I (blk bc [.slice la n lc, .slice sa st.length sc, .slice aa ats.length ac] 248 :: R) := ⟨_, (hS.pick 3 rfl)⟩
   refine And.intro (by intro _ _; exact hH) ?_
   refine WD.branch [13] (by kernel_rfl) rfl (WO.cons rfl ?_ (WO.nil))
   refine WL.append (size := 1) (bytes := 24) hS (.of rfl) (.of rfl) (k := 4) rfl Tryz.underlying243 info195_196 rfl rfl rfl rfl rfl rfl rfl ⟨by omega, by unfold maxLen; omega⟩ rfl ?_
   clear hS; intro v17 w hS; try dsimp only [List.set] at hS
   obtain ⟨a17, c17, rfl, hcap17, _⟩ := hS.vecSlice (k := 4) (v := v17) rfl
   refine .nil ?_
   clear hH
   have hH : ∃ R, Sat B w I (blk bc [.slice la n lc, .slice sa st.length sc, .slice aa ats.length ac] 248 :: R) := ⟨_, (hS.pick 2 rfl)⟩
   refine And.intro (by intro _ _; exact hH) ?_
   refine WD.branch [20] (by kernel_rfl) rfl (WO.cons rfl ?_ (WO.nil))
   refine WL.append (size := 1) (bytes := 8) hS (.of rfl) (.of rfl) (k := 4) rfl Tryz.underlying195 info3_196 rfl rfl rfl rfl rfl rfl rfl ⟨by omega, by unfold maxLen; omega⟩ rfl ?_
   clear hS; intro v24 w hS; try dsimp only [List.set] at hS
   obtain ⟨a24, c24, rfl, hcap24, _⟩ := hS.vecSlice (k := 4) (v := v24) rfl
   refine .nil ?_
   clear hH
   have hH : ∃ R, Sat B w I (blk bc [.slice la n lc, .slice sa st.length sc, .slice aa ats.length ac] 248 :: R) := ⟨_, (hS.pick 1 rfl)⟩
   refine And.intro (by intro _ _; exact hH) ?_
   refine .takeP (i := 21) rfl (by kernel_rfl) (by kernel_rfl) (by kernel_rfl) (fun w => (.nilCheck (.of rfl))) rfl (.takeP (i := 22) rfl (by kernel_rfl) (by kernel_rfl) (by kernel_rfl) (fun w => (.fieldAddr 1 (.of rfl) Tryz.underlying248 rfl rfl Tryz.sizeOf243 rfl)) rfl ?_)
   refine WD.branch [23] (by kernel_rfl) rfl (WO.cons rfl ?_ (WO.nil))
   refine .st1 hS (k := 1) rfl (.of rfl) (.of rfl) rfl Tryz.sizeOf243 (by simp) ?_
   clear hS; intro w hS; try dsimp only [List.set] at hS
   refine .nil ?_
   refine And.intro (by intro h; cases h) ?_
   refine .takeP (i := 24) rfl (by kernel_rfl) (by kernel_rfl) (by kernel_rfl) (fun w => (.nilCheck (.of rfl))) rfl (.takeP (i := 25) rfl (by kernel_rfl) (by kernel_rfl) (by kernel_rfl) (fun w => (.fieldAddr 2 (.of rfl) Tryz.underlying248 rfl rfl Tryz.sizeOf195 rfl)) rfl ?_)
   refine WD.branch [26] (by kernel_rfl) rfl (WO.cons rfl ?_ (WO.nil))
   refine .st1 hS (k := 1) rfl (.of rfl) (.of rfl) rfl Tryz.sizeOf195 (by simp) ?_
   clear hS; intro w hS; try dsimp only [List.set] at hS
   refine .nil ?_
   refine And.intro (by intro h; cases h) ?_
   refine .done (by kernel_rfl) (.region (.run 1 rfl trivial ?_))
   replace hS := hS.vecOf (k := 0) (E := 3) (size := 1) (n := 1) rfl rfl (by unfold maxLen; omega); try dsimp only [List.set] at hS
   replace hS := hS.push (k := 4) rfl; try dsimp only [List.set] at hS
   refine .call Tryz.func196 rfl (evs_cons (.of rfl) (evs_cons (.of rfl) (evs_cons (.of rfl) evs_nil))) rfl (put_any _ _ _ _ _ _ _ _ _ _ _ _ hS (by omega)) ?_
   clear hS
   rintro _ w ⟨rfl, lv, hS⟩
   refine .nil (end0 Tryz.results197 ?_)
   replace hS := hS.say (k := 4) (A' := rowsA 3 (st ++ [(.slice (some (ad b15 0)) 1 1, [(n : Int)])])) rfl (fun h hh => by rw [rowsA, List.map_append]; exact hh); try dsimp only [List.set] at hS
   exact ⟨_, rfl, rfl, _, _, _, _, hS⟩
 ·
  refine .buildSlice (cs := [_]) hS (parts_cons (.of rfl) parts_nil) Tryz.underlying195 Tryz.sizeOf3 Tryz.zeroValue3 rfl rfl rfl rfl ?_
  clear hS; intro b23 w hS
  refine .nil ?_
  clear hH
  have hH : ∃ R, Sat B w I (blk bc [.slice la n lc, .slice sa st.length sc, .slice aa ats.length ac] 248 :: R) := ⟨_, (hS.pick 1 rfl)⟩
  refine And.intro (by intro _ _; exact hH) ?_
  refine WD.branch [11] (by kernel_rfl) rfl (WO.cons rfl ?_ (WO.nil))
  refine .buildSlice (cs := [_]) hS (parts_cons (.of rfl) parts_nil) Tryz.underlying195 Tryz.sizeOf3 Tryz.zeroValue3 rfl rfl rfl rfl ?_
  clear hS; intro b15 w hS
  refine .nil ?_
  clear hH
  have hH : ∃ R, Sat B w I (blk bc [.slice la n lc, .slice sa st.length sc, .slice aa ats.length ac] 248 :: R) := ⟨_, (hS.pick 2 rfl)⟩
  refine And.intro (by intro _ _; exact hH) ?_
  refine WD.branch [12] (by kernel_rfl) rfl (WO.cons rfl ?_ (WO.nil))
  refine .buildSlice (cs := [_]) hS (parts_cons (.of rfl) parts_nil) Tryz.underlying243 Tryz.sizeOf195 Tryz.zeroValue195 rfl rfl rfl rfl ?_
  clear hS; intro b16 w hS
  refine .nil ?_
  clear hH
  have hH : ∃ R, Sat B w I (blk bc [.slice la n lc, .slice sa st.length sc, .slice aa ats.length ac] 248 :: R) := ⟨_, (hS.pick 3 rfl)⟩
  refine And.intro (by intro _ _; exact hH) ?_
  refine WD.branch [13] (by kernel_rfl) rfl (WO.cons rfl ?_ (WO.nil))
  refine WL.append (size := 1) (bytes := 24) hS (.of rfl) (.of rfl) (k := 4) rfl Tryz.underlying243 info195_196 rfl rfl rfl rfl rfl rfl rfl ⟨by omega, by unfold maxLen; omega⟩ rfl ?_
  clear hS; intro v17 w hS; try dsimp only [List.set] at hS
  obtain ⟨a17, c17, rfl, hcap17, _⟩ := hS.vecSlice (k := 4) (v := v17) rfl
  refine .nil ?_
  clear hH
  have hH : ∃ R, Sat B w I (blk bc [.slice la n lc, .slice sa st.length sc, .slice aa ats.length ac] 248 :: R) := ⟨_, (hS.pick 2 rfl)⟩
  refine And.intro (by intro _ _; exact hH) ?_
  refine WD.branch [20] (by kernel_rfl) rfl (WO.cons rfl ?_ (WO.nil))
  replace hS := hS.pick 1 rfl; try dsimp only [List.eraseIdx] at hS
  refine WL.append (size := 1) (bytes := 8) hS (.of rfl) (.of rfl) (k := 4) rfl Tryz.underlying195 info3_196 rfl rfl rfl rfl rfl rfl rfl ⟨by omega, by unfold maxLen; omega⟩ rfl ?_
  clear hS; intro v24 w hS; try dsimp only [List.set] at hS
  obtain ⟨a24, c24, rfl, hcap24, _⟩ := hS.vecSlice (k := 4) (v := v24) rfl
  refine .nil ?_
  clear hH
  have hH : ∃ R, Sat B w I (blk bc [.slice la n lc, .slice sa st.length sc, .slice aa ats.length ac] 248 :: R) := ⟨_, (hS.pick 1 rfl)⟩
  refine And.intro (by intro _ _; exact hH) ?_
  refine .takeP (i := 21) rfl (by kernel_rfl) (by kernel_rfl) (by kernel_rfl) (fun w => (.nilCheck (.of rfl))) rfl (.takeP (i := 22) rfl (by kernel_rfl) (by kernel_rfl) (by kernel_rfl) (fun w => (.fieldAddr 1 (.of rfl) Tryz.underlying248 rfl rfl Tryz.sizeOf243 rfl)) rfl ?_)
  refine WD.branch [23] (by kernel_rfl) rfl (WO.cons rfl ?_ (WO.nil))
  refine .st1 hS (k := 1) rfl (.of rfl) (.of rfl) rfl Tryz.sizeOf243 (by simp) ?_
  clear hS; intro w hS; try dsimp only [List.set] at hS
  refine .nil ?_
  refine And.intro (by intro h; cases h) ?_
  refine .takeP (i := 24) rfl (by kernel_rfl) (by kernel_rfl) (by kernel_rfl) (fun w => (.nilCheck (.of rfl))) rfl (.takeP (i := 25) rfl (by kernel_rfl) (by kernel_rfl) (by kernel_rfl) (fun w => (.fieldAddr 2 (.of rfl) Tryz.underlying248 rfl rfl Tryz.sizeOf195 rfl)) rfl ?_)
  refine WD.branch [26] (by kernel_rfl) rfl (WO.cons rfl ?_ (WO.nil))
  refine .st1 hS (k := 1) rfl (.of rfl) (.of rfl) rfl Tryz.sizeOf195 (by simp) ?_
  clear hS; intro w hS; try dsimp only [List.set] at hS
  refine .nil ?_
  refine And.intro (by intro h; cases h) ?_
  refine .done (by kernel_rfl) (.region (.run 1 rfl trivial ?_))
  replace hS := hS.vecOf (k := 0) (E := 3) (size := 1) (n := 1) rfl rfl (by unfold maxLen; omega); try dsimp only [List.set] at hS
  replace hS := hS.push (k := 4) rfl; try dsimp only [List.set] at hS
  refine .call Tryz.func196 rfl (evs_cons (.of rfl) (evs_cons (.of rfl) (evs_cons (.of rfl) evs_nil))) rfl (put_any _ _ _ _ _ _ _ _ _ _ _ _ hS (by omega)) ?_
  clear hS
  rintro _ w ⟨rfl, lv, hS⟩
  refine .nil (end0 Tryz.results197 ?_)
  replace hS := hS.say (k := 4) (A' := rowsA 3 (st ++ [(.slice (some (ad b15 0)) 1 1, [(n : Int)])])) rfl (fun h hh => by rw [rowsA, List.map_append]; exact hh); try dsimp only [List.set] at hS
  exact ⟨_, rfl, rfl, _, _, _, _, hS⟩
theorem close_any (bc : Nat) (lv sv av mv : Value) (P0 : List Cell3) (Q0 : List Pl) (st : List (Value × List Int)) (o : Nat) (bs : List Nat) (ats : List Int) (B w : World) (I : Im) (F : List Assn)
  (hS : Sat B w I (blk bc [lv, sv, av] 248 :: Vec 224 3 lv P0.length (P0.flatMap enc) :: Vec 195 1 sv (st.length + 1) (st.map (·.1) ++ [mv]) :: Vec 3 1 av ats.length (ats.map I64) :: rowsA 3 (st ++ [(mv, (o :: bs).map fun (x : Nat) => (x : Int))]) :: F))
  (hR : RelP I P0 Q0) (hob : ∀ b ∈ bs, b ≠ o ∧ b < P0.length) (ho : o < P0.length) (ko co : Int) (hPo : P0[o]? = some (ko, co, .slice none 0 0)) (hQo : Q0[o]? = some (ko, co, [])) (hn : P0.length ≤ 1000) (hd : st.length ≤ 1000) (hd2 : ats.length = st.length + 1) (hbl : bs.length ≤ 1000) :
  Calls Tryz.prog 198 [ptr bc 0].toArray w (Ret fun v w' => v = .tuple #[] ∧ ∃ lv' sv' av' P' J, Le I J ∧ RelP J P' (closeGo P0.length o Q0 [] bs ++ [(6, 0, [])]) ∧
   Sat B w' J (blk bc [lv', sv', av'] 248 :: Vec 224 3 lv' P'.length (P'.flatMap enc) :: Vec 195 1 sv' st.length (st.map (·.1)) :: Vec 3 1 av' st.length ((ats.take st.length).map I64) :: rowsA 3 st :: F)) := by
 refine calls Tryz.func198 rfl Tryz.ntmps198 rfl (.seq ?_)
 have hcl := hob
 obtain ⟨gl, cl, rl, rfl, hcl1, hcl2, hcl3, hcl4, hS⟩ := hS.vecOpen (k := 1) rfl (by omega); try dsimp only [List.set] at hS
 obtain ⟨gs, sc, rs, rfl, hsc1, hsc2, hsc3, hsc4, hS⟩ := hS.vecOpen (k := 2) rfl (by omega); try dsimp only [List.set] at hS
 obtain ⟨aa, ac, rfl, hac, _⟩ := hS.vecSlice (k := 3) rfl
 refine .region (.run 2 rfl trivial (.val (.fieldAddr 1 (.of rfl) Tryz.underlying248 rfl rfl Tryz.sizeOf243 rfl) rfl (.val (.ld (.of rfl) hS (k := 0) rfl Tryz.isAgg243 rfl) rfl (.run 1 rfl ⟨⟨_, Tryz.underlying243⟩, trivial⟩ (.val (.sub (.of rfl) (.of rfl) ⟨by omega, by omega⟩) rfl ?_)))))
 rw [show ((st.length + 1 : Nat) : Int) - 1 = (st.length : Int) by omega]
 refine .run 1 rfl trivial (.nil (.seq (.region (.run 2 rfl trivial (.val (.fieldAddr 1 (.of rfl) Tryz.underlying248 rfl rfl Tryz.sizeOf243 rfl) rfl (.val (.ld (.of rfl) hS (k := 0) rfl Tryz.isAgg243 rfl) rfl (.run 1 rfl trivial (.val (.indexAddr (.of rfl) (.of rfl) (by omega) (by omega) Tryz.underlying243 Tryz.sizeOf195) rfl (.val (.ld (.of rfl) hS (k := 2) rfl Tryz.isAgg195 (v := mv) (by simp)) rfl (.run 1 rfl trivial (.nil (.seq (.drawn (fun w => ∃ R, Sat B w I (blk bc [.slice (some (ad gl 0)) P0.length cl, .slice (some (ad gs 0)) (st.length + 1) sc, .slice aa ats.length ac] 248 :: R)) (fun j => !([16, 19].contains j)) (by kernel_rfl) ?_)))))))))))))
 replace hS := hS.drew; generalize w.drew = w at hS ⊢
 have hH : ∃ R, Sat B w I (blk bc [.slice (some (ad gl 0)) P0.length cl, .slice (some (ad gs 0)) (st.length + 1) sc, .slice aa ats.length ac] 248 :: R) := ⟨_, (hS.pick 0 rfl)⟩
 refine .takeP (i := 0) rfl (by kernel_rfl) (by kernel_rfl) (by kernel_rfl) (fun w => (.move (.of rfl))) rfl (.takeP (i := 1) rfl (by kernel_rfl) (by kernel_rfl) (by kernel_rfl) (fun w => (.move (.of rfl))) rfl (.takeP (i := 2) rfl (by kernel_rfl) (by kernel_rfl) (by kernel_rfl) (fun w => (.move (.of rfl))) rfl (.takeP (i := 3) rfl (by kernel_rfl) (by kernel_rfl) (by kernel_rfl) (fun w => (.nilCheck (.of rfl))) rfl (.takeP (i := 4) rfl (by kernel_rfl) (by kernel_rfl) (by kernel_rfl) (fun w => (.fieldAddr 1 (.of rfl) Tryz.underlying248 rfl rfl Tryz.sizeOf243 rfl)) rfl (.take (i := 5) rfl (by kernel_rfl) (by kernel_rfl) (by kernel_rfl) (by kernel_rfl) hH (fun w ⟨R, hS⟩ => (.ld (.of rfl) hS (k := 0) rfl Tryz.isAgg243 rfl)) rfl (.takeP (i := 6) rfl (by kernel_rfl) (by kernel_rfl) (by kernel_rfl) (fun w => (.move (.of rfl))) rfl (.takeP (i := 7) rfl (by kernel_rfl) (by kernel_rfl) (by kernel_rfl) (fun w => (.slcTo (.of rfl) (.of rfl) (by omega) (by omega) Tryz.underlying243 Tryz.sizeOf195)) rfl (.takeP (i := 8) rfl (by kernel_rfl) (by kernel_rfl) (by kernel_rfl) (fun w => (.move (.of rfl))) rfl (.takeP (i := 9) rfl (by kernel_rfl) (by kernel_rfl) (by kernel_rfl) (fun w => (.nilCheck (.of rfl))) rfl (.takeP (i := 10) rfl (by kernel_rfl) (by kernel_rfl) (by kernel_rfl) (fun w => (.fieldAddr 2 (.of rfl) Tryz.underlying248 rfl rfl Tryz.sizeOf195 rfl)) rfl (.take (i := 11) rfl (by kernel_rfl) (by kernel_rfl) (by kernel_rfl) (by kernel_rfl) hH (fun w ⟨R, hS⟩ => (.ld (.of rfl) hS (k := 0) rfl Tryz.isAgg195 rfl)) rfl (.takeP (i := 12) rfl (by kernel_rfl) (by kernel_rfl) (by kernel_rfl) (fun w => (.move (.of rfl))) rfl (.takeP (i := 13) rfl (by kernel_rfl) (by kernel_rfl) (by kernel_rfl) (fun w => (.slcTo (.of rfl) (.of rfl) (by omega) (by omega) Tryz.underlying195 Tryz.sizeOf3)) rfl (.takeP (i := 14) rfl (by kernel_rfl) (by kernel_rfl) (by kernel_rfl) (fun w => (.nilCheck (.of rfl))) rfl (.takeP (i := 15) rfl (by kernel_rfl) (by kernel_rfl) (by kernel_rfl) (fun w => (.fieldAddr 1 (.of rfl) Tryz.underlying248 rfl rfl Tryz.sizeOf243 rfl)) rfl ?_)))))))))))))))
 refine WD.branch [16] (by kernel_rfl) rfl (WO.cons rfl ?_ (WO.nil))
 refine .st1 hS (k := 0) rfl (.of rfl) (.of rfl) rfl Tryz.sizeOf243 (by simp) ?_
 clear hS; intro w hS; try dsimp only [List.set] at hS
 refine .nil ?_
 refine And.intro (by intro h; cases h) ?_
 refine .takeP (i := 17) rfl (by kernel_rfl) (by kernel_rfl) (by kernel_rfl) (fun w => (.nilCheck (.of rfl))) rfl (.takeP (i := 18) rfl (by kernel_rfl) (by kernel_rfl) (by kernel_rfl) (fun w => (.fieldAddr 2 (.of rfl) Tryz.underlying248 rfl rfl Tryz.sizeOf195 rfl)) rfl ?_)
 refine WD.branch [19] (by kernel_rfl) rfl (WO.cons rfl ?_ (WO.nil))
 refine .st1 hS (k := 0) rfl (.of rfl) (.of rfl) rfl Tryz.sizeOf195 (by simp) ?_
 clear hS; intro w hS; try dsimp only [List.set] at hS
 refine .nil ?_
 refine And.intro (by intro h; cases h) ?_
 refine .done (by kernel_rfl) (.seq (.seq ?_))
 replace hS := hS.vecShut (k := 2) (n := st.length + 1) (cap := sc) rfl hsc1 hsc2 hsc3 hsc4; try dsimp only [List.set] at hS
 replace hS := hS.vecTake (k := 2) (m := (st.length : Int).toNat) rfl (by simp); try dsimp only [List.set] at hS
 obtain ⟨a2, c2, e2, hS⟩ := hS.vecTakeI (k := 3) (f := I64) (m := (st.length : Int).toNat) rfl (by simp; omega); try dsimp only [List.set] at hS
 have e3 : (st.map (·.1) ++ [mv]).take ((st.length : Int).toNat * 1) = st.map (·.1) := by rw [Nat.mul_one]; exact List.take_left' (by simp)
 rw [e3] at hS; rw [e2] at hS
 have e4 : rowsA 3 (st ++ [(mv, (o :: bs).map fun (x : Nat) => (x : Int))]) = SepAll ((st.map fun x => Vec 3 1 x.1 x.2.length (x.2.map I64)) ++ [Vec 3 1 mv ((o :: bs).map fun (x : Nat) => (x : Int)).length (((o :: bs).map fun (x : Nat) => (x : Int)).map I64)]) := by rw [rowsA, List.map_append]; rfl
 rw [e4] at hS
 replace hS := hS.pop (k := 4) rfl; try dsimp only [List.set] at hS
 obtain ⟨gm, cm, rm, hmv, hcm1, hcm2, hcm3, hcm4, hT⟩ := hS.vecOpen (k := 0) rfl (by simp)
 have hml : ((o :: bs).map fun (x : Nat) => (x : Int)).length = bs.length + 1 := by simp
 rw [hml] at hmv; subst hmv; have hS := hT; clear hT; try dsimp only [List.set] at hS
 generalize sliced (some (ad gs 0)) 0 (st.length : Int).toNat sc 1 = sv2 at hS
 generalize Value.slice a2 (ats.take (st.length : Int).toNat).length c2 = av2 at hS
 refine .region (.run 1 rfl trivial (.val (.slcFrom (.of rfl) (.of rfl) (by omega) (by omega) Tryz.underlying195 Tryz.sizeOf3) rfl ?_))
 obtain ⟨ao, hao, e38⟩ : ∃ ao, (0 < bs.length → ao = some (ad gm 1)) ∧ sliced (some (ad gm 0)) (1 : Int).toNat (bs.length + 1) cm 1 = .slice ao bs.length (cm - 1) := ⟨if cm = 1 then some (ad gm 0) else some (ad gm 1), fun h => if_neg (by omega), by simp [sliced, add_ad]⟩
 rw [e38]
 refine .run 2 rfl ⟨⟨_, Tryz.underlying195⟩, trivial⟩ (.nil (.block (.loop (σ := List Nat × List Nat × List Cell3 × List Pl × Value × Im) (fun ⟨pre, rem, P, Q, tv, J⟩ => [(0, ptr bc 0), (3, .slice (some (ad gm 0)) (bs.length + 1) cm), (38, .slice ao bs.length (cm - 1)), (39, I64 bs.length), (40, I64 pre.length)]) (fun ⟨pre, rem, P, Q, tv, J⟩ w => bs = pre ++ rem ∧ Le I J ∧ RelX J o P Q ∧ P.length = P0.length ∧ (∃ k c, P[o]? = some (k, c, tv)) ∧ (∃ k c, Q[o]? = some (k, c, pre.map fun (x : Nat) => (x : Int) + 1)) ∧ (pre = [] → tv = .slice none 0 0) ∧ closeGo P0.length o Q (pre.map fun (x : Nat) => (x : Int) + 1) rem = closeGo P0.length o Q0 [] bs ∧ Sat B w J (Vec 3 1 tv pre.length ((pre.map fun (x : Nat) => (x : Int) + 1).map I64) :: blk gm (((o :: bs).map fun (x : Nat) => (x : Int)).map I64 ++ rm) 3 :: blk bc [.slice (some (ad gl 0)) P0.length cl, sv2, av2] 248 :: blk gl (P.flatMap enc ++ rl) 224 :: Vec 195 1 sv2 (st.length : Int).toNat (st.map (·.1)) :: Vec 3 1 av2 (ats.take (st.length : Int).toNat).length ((ats.take (st.length : Int).toNat).map I64) :: rowsA 3 st :: F)) (fun ⟨pre, rem, P, Q, tv, J⟩ => rem.length) ([], bs, P0, Q0, .slice none 0 0, I) ⟨rfl, rfl, rfl, rfl, rfl, trivial⟩ ⟨rfl, Le.refl I, hR.x o, rfl, ⟨_, _, hPo⟩, ⟨_, _, hQo⟩, fun _ => rfl, rfl, hS.vecNil _ _⟩ ?_)))
 rintro ⟨pre, rem, P, Q, tv, J⟩ w ⟨hbs, hJ, hX, hPl, ⟨ko, co, hPo⟩, ⟨kq, cq, hQo⟩, htv, hgo, hS⟩
 change WC _ _ _ _ [(0, ptr bc 0), (3, .slice (some (ad gm 0)) (bs.length + 1) cm), (38, .slice ao bs.length (cm - 1)), (39, I64 bs.length), (40, I64 pre.length)] w
 have hlen : bs.length = pre.length + rem.length := by rw [hbs, List.length_append]
 refine .seq (.region (.run 1 rfl trivial (.nil (.seq ?_))))
 refine WC.cond rfl (fun hb41 => ?_) (fun hb41 => ?_)
 ·
  have hc41 := hb41; try simp only [Gk.cs0] at hc41
  refine .skip (.seq (.block (.seq (.region ?_))))
  obtain ⟨b, r, rfl⟩ : ∃ b r, rem = b :: r := by
   cases rem with
   | nil => simp at hlen; omega
   | cons b r => exact ⟨b, r, rfl⟩
  have hao2 := hao (by omega); subst hao2
  have hbo := (hob b (by rw [hbs]; simp)).1
  have hbl2 := (hob b (by rw [hbs]; simp)).2
  have hpre : pre.length ≤ 1000 := by omega
  refine .val (.indexAddr (.of rfl) (.of rfl) (by omega) (by omega) Tryz.underlying195 Tryz.sizeOf3) rfl (.val (.ld (.of rfl) hS (k := 1) rfl Tryz.isAgg3 (v := I64 b) (marks_get hbs rm)) rfl (.run 1 rfl trivial (.nil (.seq (.drawn (fun w => ∃ R, Sat B w J (blk gm (((o :: bs).map fun (x : Nat) => (x : Int)).map I64 ++ rm) 3 :: blk bc [.slice (some (ad gl 0)) P0.length cl, sv2, av2] 248 :: blk gl (P.flatMap enc ++ rl) 224 :: R)) (fun j => !([23].contains j)) (by kernel_rfl) ?_)))))
  replace hS := hS.drew; generalize w.drew = w at hS ⊢
  have hH : ∃ R, Sat B w J (blk gm (((o :: bs).map fun (x : Nat) => (x : Int)).map I64 ++ rm) 3 :: blk bc [.slice (some (ad gl 0)) P0.length cl, sv2, av2] 248 :: blk gl (P.flatMap enc ++ rl) 224 :: R) := ⟨_, (((hS.pick 3 rfl).pick 3 rfl).pick 3 rfl)⟩
  refine .takeP (i := 0) rfl (by kernel_rfl) (by kernel_rfl) (by kernel_rfl) (fun w => (.move (.of rfl))) rfl (.takeP (i := 1) rfl (by kernel_rfl) (by kernel_rfl) (by kernel_rfl) (fun w => (.nilCheck (.of rfl))) rfl (.takeP (i := 2) rfl (by kernel_rfl) (by kernel_rfl) (by kernel_rfl) (fun w => (.fieldAddr 0 (.of rfl) Tryz.underlying248 rfl rfl Tryz.sizeOf219 rfl)) rfl (.take (i := 3) rfl (by kernel_rfl) (by kernel_rfl) (by kernel_rfl) (by kernel_rfl) hH (fun w ⟨R, hS⟩ => (.ld (.of rfl) hS (k := 1) rfl Tryz.isAgg219 rfl)) rfl (.takeP (i := 4) rfl (by kernel_rfl) (by kernel_rfl) (by kernel_rfl) (fun w => (.move (.of rfl))) rfl (.takeP (i := 5) rfl (by kernel_rfl) (by kernel_rfl) (by kernel_rfl) (fun w => (.indexAddr (.of rfl) (.of rfl) (by omega) (by omega) Tryz.underlying195 Tryz.sizeOf3)) rfl (.take (i := 6) rfl (by kernel_rfl) (by kernel_rfl) (by kernel_rfl) (by kernel_rfl) hH (fun w ⟨R, hS⟩ => .ld (.of rfl) hS (k := 0) rfl Tryz.isAgg3 (v := I64 (o : Nat)) rfl) rfl (.takeP (i := 7) rfl (by kernel_rfl) (by kernel_rfl) (by kernel_rfl) (fun w => (.move (.of rfl))) rfl (.takeP (i := 8) rfl (by kernel_rfl) (by kernel_rfl) (by kernel_rfl) (fun w => (.nilCheck (.of rfl))) rfl (.takeP (i := 9) rfl (by kernel_rfl) (by kernel_rfl) (by kernel_rfl) (fun w => (.fieldAddr 0 (.of rfl) Tryz.underlying248 rfl rfl Tryz.sizeOf219 rfl)) rfl (.take (i := 10) rfl (by kernel_rfl) (by kernel_rfl) (by kernel_rfl) (by kernel_rfl) hH (fun w ⟨R, hS⟩ => (.ld (.of rfl) hS (k := 1) rfl Tryz.isAgg219 rfl)) rfl (.takeP (i := 11) rfl (by kernel_rfl) (by kernel_rfl) (by kernel_rfl) (fun w => (.move (.of rfl))) rfl (.takeP (i := 12) rfl (by kernel_rfl) (by kernel_rfl) (by kernel_rfl) (fun w => (.indexAddr (.of rfl) (.of rfl) (by omega) (by omega) Tryz.underlying195 Tryz.sizeOf3)) rfl (.take (i := 13) rfl (by kernel_rfl) (by kernel_rfl) (by kernel_rfl) (by kernel_rfl) hH (fun w ⟨R, hS⟩ => .ld (.of rfl) hS (k := 0) rfl Tryz.isAgg3 (v := I64 (o : Nat)) rfl) rfl (.takeP (i := 14) rfl (by kernel_rfl) (by kernel_rfl) (by kernel_rfl) (fun w => (.indexAddr (.of rfl) (.of rfl) (by omega) (by omega) Tryz.underlying219 Tryz.sizeOf224)) rfl (.takeP (i := 15) rfl (by kernel_rfl) (by kernel_rfl) (by kernel_rfl) (fun w => (.fieldAddr 2 (.of rfl) Tryz.underlying224 rfl rfl Tryz.sizeOf195 rfl)) rfl (.take (i := 16) rfl (by kernel_rfl) (by kernel_rfl) (by kernel_rfl) (by kernel_rfl) hH (fun w ⟨R, hS⟩ => .ld (.of rfl) hS (k := 2) rfl Tryz.isAgg195 (v := tv) (to_get hPo rl)) rfl (.takeP (i := 17) rfl (by kernel_rfl) (by kernel_rfl) (by kernel_rfl) (fun w => (.move (.of rfl))) rfl (.takeP (i := 18) rfl (by kernel_rfl) (by kernel_rfl) (by kernel_rfl) (fun w => (.add (.of rfl) (.of rfl) ⟨by omega, by omega⟩)) rfl ?_))))))))))))))))))
  refine WD.branch [19] (by kernel_rfl) rfl (WO.cons rfl ?_ (WO.nil))
  refine .buildSlice (cs := [_]) hS (parts_cons (.of rfl) parts_nil) Tryz.underlying195 Tryz.sizeOf3 Tryz.zeroValue3 rfl rfl rfl rfl ?_
  clear hS; intro b63 w hS
  refine .nil ?_
  clear hH
  have hH : ∃ R, Sat B w J (blk gm (((o :: bs).map fun (x : Nat) => (x : Int)).map I64 ++ rm) 3 :: blk bc [.slice (some (ad gl 0)) P0.length cl, sv2, av2] 248 :: blk gl (P.flatMap enc ++ rl) 224 :: R) := ⟨_, (((hS.pick 4 rfl).pick 4 rfl).pick 4 rfl)⟩
  refine And.intro (by intro _ _; exact hH) ?_
  refine WD.branch [20] (by kernel_rfl) rfl (WO.cons rfl ?_ (WO.nil))
  refine WL.append (size := 1) (bytes := 8) hS (.of rfl) (.of rfl) (k := 0) rfl Tryz.underlying195 info3_196 rfl rfl rfl rfl rfl rfl rfl ⟨by omega, by unfold maxLen; omega⟩ rfl ?_
  clear hS; intro v64 w hS; try dsimp only [List.set] at hS
  obtain ⟨a64, c64, rfl, hcap64, _⟩ := hS.vecSlice (k := 0) (v := v64) rfl
  refine .nil ?_
  clear hH
  have hH : ∃ R, Sat B w J (blk gm (((o :: bs).map fun (x : Nat) => (x : Int)).map I64 ++ rm) 3 :: blk bc [.slice (some (ad gl 0)) P0.length cl, sv2, av2] 248 :: blk gl (P.flatMap enc ++ rl) 224 :: R) := ⟨_, (((hS.pick 3 rfl).pick 3 rfl).pick 3 rfl)⟩
  refine And.intro (by intro _ _; exact hH) ?_
  refine .takeP (i := 21) rfl (by kernel_rfl) (by kernel_rfl) (by kernel_rfl) (fun w => (.indexAddr (.of rfl) (.of rfl) (by omega) (by omega) Tryz.underlying219 Tryz.sizeOf224)) rfl (.takeP (i := 22) rfl (by kernel_rfl) (by kernel_rfl) (by kernel_rfl) (fun w => (.fieldAddr 2 (.of rfl) Tryz.underlying224 rfl rfl Tryz.sizeOf195 rfl)) rfl ?_)
  refine WD.branch [23] (by kernel_rfl) rfl (WO.cons rfl ?_ (WO.nil))
  refine WL.st1 hS (k := 3) rfl (.of rfl) (.of rfl) rfl Tryz.sizeOf195 (by rw [List.length_append, flat_len enc 3 enc_len]; (try simp only [setTo_len]); omega) ?_
  clear hS; intro w hS; try dsimp only [List.set] at hS
  simp only [Int.toNat_natCast] at hS
  rw [to_set (by (try simp only [setTo_len]); omega)] at hS
  refine .nil ?_
  refine And.intro (by intro h; cases h) ?_
  refine .done (by kernel_rfl) (.drawn (fun w => ∃ R, Sat B w J (blk bc [.slice (some (ad gl 0)) P0.length cl, sv2, av2] 248 :: R)) (fun j => !([13].contains j)) (by kernel_rfl) ?_)
  replace hS := hS.drew; generalize w.drew = w at hS ⊢
  have hH : ∃ R, Sat B w J (blk bc [.slice (some (ad gl 0)) P0.length cl, sv2, av2] 248 :: R) := ⟨_, (hS.pick 2 rfl)⟩
  refine .takeP (i := 0) rfl (by kernel_rfl) (by kernel_rfl) (by kernel_rfl) (fun w => (.move (.of rfl))) rfl (.takeP (i := 1) rfl (by kernel_rfl) (by kernel_rfl) (by kernel_rfl) (fun w => (.nilCheck (.of rfl))) rfl (.takeP (i := 2) rfl (by kernel_rfl) (by kernel_rfl) (by kernel_rfl) (fun w => (.fieldAddr 0 (.of rfl) Tryz.underlying248 rfl rfl Tryz.sizeOf219 rfl)) rfl (.take (i := 3) rfl (by kernel_rfl) (by kernel_rfl) (by kernel_rfl) (by kernel_rfl) hH (fun w ⟨R, hS⟩ => (.ld (.of rfl) hS (k := 0) rfl Tryz.isAgg219 rfl)) rfl (.takeP (i := 4) rfl (by kernel_rfl) (by kernel_rfl) (by kernel_rfl) (fun w => (.move (.of rfl))) rfl (.takeP (i := 5) rfl (by kernel_rfl) (by kernel_rfl) (by kernel_rfl) (fun w => (.move (.of rfl))) rfl (.takeP (i := 6) rfl (by kernel_rfl) (by kernel_rfl) (by kernel_rfl) (fun w => (.nilCheck (.of rfl))) rfl (.takeP (i := 7) rfl (by kernel_rfl) (by kernel_rfl) (by kernel_rfl) (fun w => (.fieldAddr 0 (.of rfl) Tryz.underlying248 rfl rfl Tryz.sizeOf219 rfl)) rfl (.take (i := 8) rfl (by kernel_rfl) (by kernel_rfl) (by kernel_rfl) (by kernel_rfl) hH (fun w ⟨R, hS⟩ => (.ld (.of rfl) hS (k := 0) rfl Tryz.isAgg219 rfl)) rfl (.takeP (i := 9) rfl (by kernel_rfl) (by kernel_rfl) (by kernel_rfl) (fun w => (.lenSlice (.of rfl) Tryz.underlying219)) rfl ?_)))))))))
  refine WD.branch [10] (by kernel_rfl) rfl (WO.cons rfl ?_ (WO.nil))
  refine .buildSlice (cs := [_]) hS (parts_cons (.of rfl) parts_nil) Tryz.underlying195 Tryz.sizeOf3 Tryz.zeroValue3 rfl rfl rfl rfl ?_
  clear hS; intro b77 w hS
  refine .nil ?_
  clear hH
  have hH : ∃ R, Sat B w J (blk bc [.slice (some (ad gl 0)) P0.length cl, sv2, av2] 248 :: R) := ⟨_, (hS.pick 3 rfl)⟩
  refine And.intro (by intro _ _; exact hH) ?_
  refine .takeP (i := 11) rfl (by kernel_rfl) (by kernel_rfl) (by kernel_rfl) (fun w => (.indexAddr (.of rfl) (.of rfl) (by omega) (by omega) Tryz.underlying219 Tryz.sizeOf224)) rfl (.takeP (i := 12) rfl (by kernel_rfl) (by kernel_rfl) (by kernel_rfl) (fun w => (.fieldAddr 2 (.of rfl) Tryz.underlying224 rfl rfl Tryz.sizeOf195 rfl)) rfl ?_)
  refine WD.branch [13] (by kernel_rfl) rfl (WO.cons rfl ?_ (WO.nil))
  refine WL.st1 hS (k := 4) rfl (.of rfl) (.of rfl) rfl Tryz.sizeOf195 (by rw [List.length_append, flat_len enc 3 enc_len]; (try simp only [setTo_len]); omega) ?_
  clear hS; intro w hS; try dsimp only [List.set] at hS
  simp only [Int.toNat_natCast] at hS
  rw [to_set (by (try simp only [setTo_len]); omega)] at hS
  obtain ⟨J2, hJ2, hb2, hS⟩ := hS.freeze (k := 0) rfl; try dsimp only [List.eraseIdx] at hS
  have hI2 : IntsI J2 (.slice (some (ad b77 0)) 1 1) [(P0.length : Int)] := ⟨(fun h => by cases h), _, _, rfl, Nat.le_refl _, rfl, fun _ => ⟨_, rfl, rfl, _, _, _, hb2, fun j u hj => by simpa using hj⟩⟩
  refine .nil ?_
  refine And.intro (by intro h; cases h) ?_
  refine .done (by kernel_rfl) (.region ?_)
  skip
  refine .val (.add (.of rfl) (.of rfl) ⟨by omega, by omega⟩) rfl ?_
  rw [show ((pre.length : Nat) : Int) + 1 = ((pre ++ [b]).length : Nat) by simp]
  refine .run 1 rfl trivial (.nil ?_)
  refine ⟨(pre ++ [b], r, setTo (setTo P o (.slice a64 (pre.length + 1) c64)) b (.slice (some (ad b77 0)) 1 1), setToL (setToL Q o (pre.map (fun (x : Nat) => (x : Int) + 1) ++ [(b : Int) + 1])) b [(P0.length : Int)], .slice a64 (pre.length + 1) c64, J2), ⟨rfl, rfl, rfl, rfl, rfl, trivial⟩, ⟨by rw [hbs]; simp, hJ.trans hJ2, ((hX.setO _ _).mono hJ2).setB _ _ _ hI2, by simp [setTo, hPl], ⟨ko, co, ?_⟩, ⟨kq, cq, ?_⟩, fun h => by simp at h, ?_, ?_⟩, by simp⟩
  ·simp [setTo, List.getElem?_modify, hPo, hbo]
  ·simp [setToL, List.getElem?_modify, hQo, hbo]
  ·rw [← hgo, closeGo]; simp
  ·simpa using hS
 have hc41 := hb41; try simp only [Gk.cs0] at hc41
 refine .exit ?_
 have hrem : rem = [] := by
  cases rem with
  | nil => rfl
  | cons b r => simp at hlen; omega
 subst hrem
 replace hS := hS.drop (k := 1) rfl; try dsimp only [List.eraseIdx] at hS
 obtain ⟨J2, hJ2, hI2, hS⟩ := freezeInts (k := 0) (xs := pre.map fun (x : Nat) => (x : Int) + 1) hS (by rw [List.length_map]; rfl) (fun h => htv (by simpa using h)); try dsimp only [List.eraseIdx] at hS
 replace hS := hS.vecShut (k := 1) (n := P.length) (cap := cl) rfl (by omega) hcl2 (by rw [flat_len enc 3 enc_len]) (by rw [flat_len enc 3 enc_len] at hcl4 ⊢; omega); try dsimp only [List.set] at hS
 rw [← hPl] at hS ⊢
 refine .region (.run 1 rfl trivial (.call Tryz.func196 rfl (evs_cons (.of rfl) (evs_cons (.of rfl) (evs_cons (.of rfl) evs_nil))) rfl (put_any _ _ _ _ _ _ _ _ _ _ _ _ hS (by omega)) ?_))
 clear hS
 rintro _ w ⟨rfl, lv2, hS⟩
 refine .nil (end0 Tryz.results198 ?_)
 replace hS := hS.say (k := 1) (A' := Vec 224 3 lv2 (P.length + 1) ((P ++ [((6 : Int), (0 : Int), Value.slice none 0 0)]).flatMap enc)) rfl (fun h hh => by rw [List.flatMap_append]; exact hh); try dsimp only [List.set] at hS
 refine ⟨_, rfl, rfl, lv2, sv2, av2, P ++ [(6, 0, .slice none 0 0)], J2, hJ.trans hJ2, ?_, ?_⟩
 ·rw [hPl, ← hgo, closeGo]
  exact ((hX.mono hJ2).back (fun p q hp hq => by rw [hPo] at hp; rw [hQo] at hq; cases hp; cases hq; exact hI2)).snoc 6 0 _ _ (IntsI.nil _)
 ·have e5 : (ats.take (st.length : Int).toNat).length = st.length := by rw [Int.toNat_natCast, List.length_take]; omega
  rw [e5] at hS
  rw [List.length_append]
  exact hS
theorem slHasPrefix_any (s p : List UInt8) (w : World) (hs : s.length ≤ 140737488351232) (hp : p.length ≤ 140737488351232) :
  Calls Tryz.prog 184 [S s, S p].toArray w (Ret fun v w' => v = .bool (hasPre s p) ∧ w = w') := by
 refine calls Tryz.func184 rfl Tryz.ntmps184 rfl (.seq (.region (.run 1 rfl trivial (.nil (.seq (.region (.run 6 rfl ⟨Tryz.underlying9, Tryz.underlying9, trivial⟩ (.gval rfl rfl (fun hg1 => (.move (.of rfl))) rfl (.gval rfl rfl (fun hg1 => (.move (.of rfl))) rfl (.gval rfl rfl (fun hg1 => (.len (.gd hg1 rfl) Tryz.underlying9)) rfl ?_))))))))))
 refine WL.gval rfl rfl (fun hg1 => (.subTo (.gd hg1 rfl) (.gd hg1 rfl) (by (try simp only [Gk.cs0] at hg1); omega) (by (try simp only [Gk.cs0] at hg1); omega) Tryz.underlying9)) rfl ?_
 refine .gval rfl rfl (fun hg1 => (.move (.of rfl))) rfl (.gval rfl rfl (fun hg1 => (.eqs (.gd hg1 rfl) (.gd hg1 rfl))) rfl (.val (.pand (.of rfl) (.of rfl) (.of rfl)) rfl (.run 1 rfl trivial (.nil (.ret (ret1 Tryz.results184 rfl ?_))))))
 exact ⟨_, rfl, rfl, rfl⟩
theorem HasPrefix_any (s p : List UInt8) (w : World) (hs : s.length ≤ 140737488351232) (hp : p.length ≤ 140737488351232) :
  Calls Tryz.prog 151 [S s, S p].toArray w (Ret fun v w' => v = .bool (hasPre s p) ∧ w = w') := by
 refine calls Tryz.func151 rfl Tryz.ntmps151 rfl (.seq (.region (.run 1 rfl trivial (.nil (.seq (.region (.run 2 rfl trivial (.call Tryz.func184 rfl (evs_cons (.of rfl) (evs_cons (.of rfl) evs_nil)) rfl (slHasPrefix_any _ _ _ hs hp) ?_))))))))
 rintro _ _ ⟨rfl, rfl⟩
 refine .run 1 rfl trivial (.nil (.ret (ret1 Tryz.results151 rfl ?_)))
 exact ⟨_, rfl, rfl, rfl⟩
end Go.Proofs.YtadhiihnnkcagaaGreatDoor
namespace Go.Proofs.YtadhiihnnkcagaaGreatDoor
open Gk Pc Ul Pat
set_option linter.unusedVariables false
set_option linter.unusedSimpArgs false
theorem info9_154 : Tryz.prog.info? 9 = some Tryz.t9 := by kernel_rfl
structure Known (I : Im) : Prop where
 dig : DigAt I
 pow : ∀ (B w : World) (As : List Assn), Sat B w I As → Go.Lib.TabIs Tryz.prog w "internal/strconv.uint64pow10" .u64 Go.Lib.pow10Tab
 max : ∀ (B w : World) (As : List Assn), Sat B w I As → ∃ m, w.cell? ⟨2, 0, none⟩ = some (.int .i64 m)
theorem Known.mono {I J : Im} (h : Known I) (hl : Le I J) : Known J :=
 have e : ∀ (B w : World) (As : List Assn), Sat B w J As → Sat B w I As := fun B w As ⟨g, h1, h2⟩ => ⟨g, h1, h2.os, h2.tape, h2.output, fun b o hi => h2.imm b o (hl b o hi), h2.own, h2.nodup, fun b o hm => by
  cases hi : I b with
  | none => rfl
  | some x => have := h2.apart b o hm; rw [hl b x hi] at this; cases this⟩
 ⟨h.dig.mono hl, fun B w As s => h.pow B w As (e B w As s), fun B w As s => h.max B w As (e B w As s)⟩
theorem drewN_sat {B w : World} {I : Im} {As : List Assn} (hS : Sat B w I As) (n : Nat) : Sat B (w.drewN n) I As := hS.world rfl rfl rfl rfl
theorem grow_sat {B w : World} {I : Im} {As : List Assn} (hS : Sat B w I As) (os : Array Obj) : Sat B (Go.Sort.grow w os) I As :=
 hS.grown ⟨rfl, rfl, rfl, by simp [Go.Sort.grow], fun k hk => by simp [Go.Sort.grow, Array.getElem?_append, hk]⟩
theorem Itoa_any (n : Nat) (hn : n ≤ 65535) (B w : World) (I : Im) (hK : Known I) (As : List Assn) (hS : Sat B w I As) : Calls Tryz.prog 189 [I64 (n : Nat)].toArray w (Ret fun v w' => v = S (Go.Lib.decDigits n) ∧ Sat B w' I As) :=
 (Tryz.strconv_Itoa n (by omega) (by omega) w (hK.pow B w As hS)).mono fun e w' he => by
  obtain ⟨rfl, k, os, rfl⟩ := he
  refine ⟨_, rfl, ?_, grow_sat (drewN_sat hS k) os⟩
  unfold Go.Lib.itoa
  rw [if_neg (by omega), Int.toNat_natCast]
theorem CutSign_any (s : List UInt8) (hs : s.length ≤ 1000000) (B w : World) (I : Im) (hK : Known I) (As : List Assn) (hS : Sat B w I As) : Calls Tryz.prog 146 [S s, S SIGN].toArray w (Ret fun v w' => v = .tuple #[S (Go.Lib.cut s SIGN).1, S (Go.Lib.cut s SIGN).2.1, .bool (Go.Lib.cut s SIGN).2.2] ∧ Sat B w' I As) := by
 obtain ⟨m, hm⟩ := hK.max B w As hS
 refine (Tryz.strings_Cut ⟨s.toArray⟩ ⟨SIGN.toArray⟩ m w (by show s.length < _; omega) hm).mono fun e w' he => ?_
 obtain ⟨rfl, n, rfl⟩ := he
 exact ⟨_, rfl, rfl, drewN_sat hS n⟩
theorem CutOne_any (s : List UInt8) (c : UInt8) (hs : s.length ≤ 1000000) (B w : World) (I : Im) (hK : Known I) (As : List Assn) (hS : Sat B w I As) : Calls Tryz.prog 146 [S s, S [c]].toArray w (Ret fun v w' => v = .tuple #[S (upto [c] s), S ((from_ [c] s).drop 1), .bool (!(from_ [c] s).isEmpty)] ∧ Sat B w' I As) := by
 obtain ⟨m, hm⟩ := hK.max B w As hS
 refine (Tryz.strings_Cut ⟨s.toArray⟩ ⟨[c].toArray⟩ m w (by show s.length < _; omega) hm).mono fun e w' he => ?_
 obtain ⟨rfl, n, rfl⟩ := he
 refine ⟨_, rfl, ?_, drewN_sat hS n⟩
 show Value.tuple #[S (Go.Lib.cut s [c]).1, S (Go.Lib.cut s [c]).2.1, .bool (Go.Lib.cut s [c]).2.2] = _
 rw [cut_one]
theorem strs_of (l : List ByteArray) : l.map Value.string = (l.map (·.data.toList)).map S := by
 rw [List.map_map]
 rfl
theorem Split_any (s : List UInt8) (hs : s.length ≤ 1000000) (B w : World) (I : Im) (hK : Known I) (As : List Assn) (hS : Sat B w I As) : Calls Tryz.prog 188 [S s, S [47]].toArray w (Ret fun v w' => ∃ b, v = .slice (some (ad b 0)) (spl s).length (spl s).length ∧ Sat B w' I (blk b ((spl s).map S) 9 :: As)) := by
 obtain ⟨m, hm⟩ := hK.max B w As hS
 refine (Tryz.strings_Split ⟨s.toArray⟩ ⟨[47].toArray⟩ m w (by show s.length < _; omega) hm (by decide)).mono fun e w' he => ?_
 obtain ⟨rfl, rfl⟩ := he
 have e1 : (spl s).length = Go.Lib.countB ⟨s.toArray⟩ ⟨[47].toArray⟩ + 1 := spl_len _ s (Nat.le_refl _)
 have e2 : (Go.Lib.splitB ⟨[47].toArray⟩ 0 (Go.Lib.countB ⟨s.toArray⟩ ⟨[47].toArray⟩) ⟨s.toArray⟩).map Value.string = (spl s).map S := by
  rw [strs_of, Go.Lib.splitB_data]
  show List.map S (Go.Lib.splitK [47] 0 (Go.Lib.count s [47]) s) = _
  rw [splitK_spl _ s (Nat.le_refl _)]
 refine ⟨_, rfl, w.heap.size, by rw [e1], ?_⟩
 rw [e2]
 exact hS.alloc _
set_option maxHeartbeats 800000 in
theorem Dots_any (p : List UInt8) (hl : p.length ≤ 1000000) (B w : World) (I : Im) (hK : Known I) (As : List Assn) (hS : Sat B w I As) :
  Calls Tryz.prog 154 [S p].toArray w (Ret fun v w' => v = S (dots p) ∧ Sat B w' I As) := by
 refine calls Tryz.func154 rfl Tryz.ntmps154 rfl (.seq (.region (.run 1 rfl trivial (.nil (.scope (.seq (.seq (.region (.run 1 rfl trivial (.call Tryz.func151 rfl (evs_cons (.of rfl) (evs_cons (.of rfl) evs_nil)) rfl (HasPrefix_any p [47] _ (by omega) (by decide)) ?_))))))))))
 rintro _ _ ⟨rfl, rfl⟩
 refine .run 1 rfl trivial (.nil ?_)
 refine WC.cond rfl (fun hb12 => ?_) (fun hb12 => ?_)
 ·
  have hc12 := hb12; try simp only [Gk.cs0] at hc12
  refine .seq (.region (.run 2 rfl trivial (.nil (.ret (ret1 Tryz.results154 rfl ?_)))))
  refine ⟨_, rfl, ?_, hS⟩
  cases p with
  | nil => rfl
  | cons a b => rw [dots, if_neg (fun e => by subst e; simp [hasPre] at hb12; omega)]
 have hc12 := hb12; try simp only [Gk.cs0] at hc12
 refine .skip (.seq (.region (.run 1 rfl trivial (.nil (.seq (.region (.run 1 rfl trivial (.nil (.seq (.label (.seq (.seq ?_))))))))))))
 have hp1 : 1 ≤ p.length := by cases p with | nil => simp [hasPre] at hb12 | cons a b => simp
 have hpn := len_tot (spl (p.drop 1))
 rw [spl_tot, List.length_drop] at hpn
 refine .region (.run 1 rfl trivial (.val (.subFrom (.of rfl) (.of rfl) (by omega) (by omega) Tryz.underlying9) rfl ?_))
 refine WL.call Tryz.func188 rfl (evs_cons (.of rfl) (evs_cons (.of rfl) evs_nil)) rfl (Split_any (p.drop 1) (by rw [List.length_drop]; omega) B _ I hK As hS) ?_
 clear hS
 rintro _ w ⟨b16, rfl, hS⟩
 refine .run 2 rfl ⟨⟨_, Tryz.underlying41⟩, trivial⟩ (.nil (.block ?_))
 replace hS := hS.vecNil 9 1
 refine .loop (σ := Value × Nat) (fun ⟨kv, i⟩ => [(3, kv), (4, .bool (decide (0 < i) && isDot ((spl (p.drop 1)).getD (i - 1) []))), (16, .slice (some (ad b16 0)) (spl (p.drop 1)).length (spl (p.drop 1)).length), (17, I64 ((spl (p.drop 1)).length : Nat)), (18, I64 (i : Nat))]) (fun ⟨kv, i⟩ w => i ≤ (spl (p.drop 1)).length ∧ Sat B w I (Vec 9 1 kv (List.foldl keep [] ((spl (p.drop 1)).take i)).length ((List.foldl keep [] ((spl (p.drop 1)).take i)).map S) :: blk b16 ((spl (p.drop 1)).map S) 9 :: As)) (fun ⟨kv, i⟩ => (spl (p.drop 1)).length - i) (.slice none 0 0, 0) ⟨rfl, rfl, rfl, rfl, rfl, trivial⟩ ⟨Nat.zero_le _, hS⟩ ?_
 rintro ⟨kv, i⟩ w ⟨hi, hS⟩
 change WC _ _ _ _ [(3, kv), (4, .bool (decide (0 < i) && isDot ((spl (p.drop 1)).getD (i - 1) []))), (16, .slice (some (ad b16 0)) (spl (p.drop 1)).length (spl (p.drop 1)).length), (17, I64 ((spl (p.drop 1)).length : Nat)), (18, I64 (i : Nat))] w
 refine .seq (.region (.run 1 rfl trivial (.nil (.seq ?_))))
 refine WC.cond rfl (fun hb19 => ?_) (fun hb19 => ?_)
 ·
  have hc19 := hb19; try simp only [Gk.cs0] at hc19
  refine .skip (.seq (.block (.seq ?_)))
  obtain ⟨x, hx⟩ : ∃ x, (spl (p.drop 1))[i]? = some x := ⟨_, List.getElem?_eq_getElem (by omega)⟩
  have hKn : (List.foldl keep [] ((spl (p.drop 1)).take (i + 1))) = keep (List.foldl keep [] ((spl (p.drop 1)).take i)) x := by rw [List.take_add_one, hx, List.foldl_append]; rfl
  have hgd : (spl (p.drop 1)).getD i [] = x := by rw [List.getD_eq_getElem?_getD, hx]; rfl
  have hop : (decide (0 < i + 1) && isDot ((spl (p.drop 1)).getD (i + 1 - 1) [])) = isDot x := by rw [Nat.add_sub_cancel, hgd, decide_eq_true (by omega), Bool.true_and]
  obtain ⟨ka, kc, rfl, hkc, _⟩ := hS.vecSlice (k := 0) (v := kv) rfl
  have hKl : (List.foldl keep [] ((spl (p.drop 1)).take i)).length ≤ 1000001 := by
   have h1 := len_tot (List.foldl keep [] ((spl (p.drop 1)).take i))
   have h2 := tot_fold ((spl (p.drop 1)).take i) []
   have h3 : tot (spl (p.drop 1)) = tot ((spl (p.drop 1)).take i) + tot ((spl (p.drop 1)).drop i) := by rw [← tot_app, List.take_append_drop]
   have h4 := spl_tot (p.drop 1)
   rw [List.length_drop] at h4
   rw [show tot [] = 0 from rfl] at h2
   omega
  refine .region (.val (.indexAddr (.of rfl) (.of rfl) (by omega) (by omega) Tryz.underlying41 Tryz.sizeOf9) rfl ?_)
  refine WL.val (.ld (v := S x) (.of rfl) hS (k := 1) rfl Tryz.isAgg9 (by rw [Nat.zero_add, Int.toNat_natCast, Nat.mul_one, List.getElem?_map, hx]; rfl)) rfl ?_
  refine .run 1 rfl trivial (.nil (.seq (.region (.run 1 rfl trivial (.nil (.seq (.seq (.region (.run 1 rfl trivial (.nil (.block (.seq (.region (.run 2 rfl trivial (.nil ?_)))))))))))))))
  refine WC.cond rfl (fun hb23 => ?_) (fun hb23 => ?_)
  ·
   have hc23 := hb23; try simp only [Gk.cs0] at hc23
   refine .exit (.region (.run 2 rfl ⟨⟨by omega, by omega⟩, trivial⟩ (.nil ?_)))
   refine ⟨(_, i + 1), ⟨rfl, by show some (Value.bool _) = some _; rw [hop]; rw [show x = [46] by simpa using hb23]; rfl, rfl, rfl, rfl, trivial⟩, ⟨by omega, ?_⟩, by (try dsimp only); omega⟩
   rw [hKn, keep, if_pos (by simpa using hb23)]
   exact hS
  have hc23 := hb23; try simp only [Gk.cs0] at hc23
  refine .seq (.region (.run 2 rfl trivial (.nil ?_)))
  refine WC.cond rfl (fun hb25 => ?_) (fun hb25 => ?_)
  ·
   have hc25 := hb25; try simp only [Gk.cs0] at hc25
   refine .seq (.region (.run 4 rfl ⟨⟨_, Tryz.underlying41⟩, ⟨by omega, by omega⟩, trivial⟩ (.val (.max2 (.of rfl) (.of rfl)) rfl (.val (.slcTo (.of rfl) (.of rfl) (by omega) (by omega) Tryz.underlying41 Tryz.sizeOf9) rfl ?_))))
   obtain ⟨a2, c2, e2, hS⟩ := hS.vecTakeI (m := (max 0 (((List.foldl keep [] ((spl (p.drop 1)).take i)).length : Int) - 1)).toNat) (l := (List.foldl keep [] ((spl (p.drop 1)).take i))) (k := 0) rfl (by omega)
   rw [e2]
   rw [show (max 0 (((List.foldl keep [] ((spl (p.drop 1)).take i)).length : Int) - 1)).toNat = (List.foldl keep [] ((spl (p.drop 1)).take i)).length - 1 by omega] at hS ⊢
   refine .run 1 rfl trivial (.nil (.exit (.region (.run 2 rfl ⟨⟨by omega, by omega⟩, trivial⟩ (.nil ?_)))))
   refine ⟨(_, i + 1), ⟨rfl, by show some (Value.bool _) = some _; rw [hop]; rw [show x = [46, 46] by simpa using hb25]; rfl, rfl, rfl, rfl, trivial⟩, ⟨by omega, ?_⟩, by (try dsimp only); omega⟩
   rw [hKn, keep, if_neg (by simpa using hb23), if_pos (by simpa using hb25), List.dropLast_eq_take]
   exact hS
  have hc25 := hb25; try simp only [Gk.cs0] at hc25
  refine .skip (.seq (.region (.run 1 rfl trivial (.nil (.region (.run 2 rfl trivial (.buildSlice (cs := [_]) hS (parts_cons (.of rfl) parts_nil) Tryz.underlying41 Tryz.sizeOf9 Tryz.zeroValue9 rfl rfl rfl rfl ?_)))))))
  clear hS; intro b35 w hS
  refine WL.append (size := 1) (bytes := 16) hS (.of rfl) (.of rfl) (k := 0) rfl Tryz.underlying41 info9_154 rfl rfl rfl rfl rfl rfl rfl ⟨by omega, by unfold maxLen; omega⟩ rfl ?_
  clear hS; intro v36 w hS; try dsimp only [List.set] at hS
  obtain ⟨a36, c36, rfl, hcap36, _⟩ := hS.vecSlice (k := 0) (v := v36) rfl
  refine .run 1 rfl trivial (.nil (.region (.run 2 rfl ⟨⟨by omega, by omega⟩, trivial⟩ (.nil ?_))))
  refine ⟨(_, i + 1), ⟨rfl, by show some (Value.bool _) = some _; rw [hop]; rw [isDot, show (x == [46]) = false by simpa using hb23, show (x == [46, 46]) = false by simpa using hb25]; rfl, rfl, rfl, rfl, trivial⟩, ⟨by omega, ?_⟩, by (try dsimp only); omega⟩
  rw [hKn, keep, if_neg (by simpa using hb23), if_neg (by simpa using hb25), List.map_append, List.length_append]
  exact hS
 have hc19 := hb19; try simp only [Gk.cs0] at hc19
 refine .exit (.seq ?_)
 have hin : i = (spl (p.drop 1)).length := by omega
 subst hin
 rw [List.take_length] at hS
 obtain ⟨ka, kc, rfl, hkc, _⟩ := hS.vecSlice (k := 0) (v := kv) rfl
 have htot := tot_fold (spl (p.drop 1)) []
 rw [spl_tot, show tot [] = 0 from rfl, Nat.zero_add, List.length_drop] at htot
 have hkt := len_tot (List.foldl keep [] (spl (p.drop 1)))
 refine .region (.run 1 rfl trivial (.nil (.seq (.seq (.region (.run 3 rfl ⟨⟨_, Tryz.underlying41⟩, trivial⟩ (.nil (.block (.loop (σ := Nat) (fun j => [(3, .slice ka (List.foldl keep [] (spl (p.drop 1))).length kc), (4, .bool (decide (0 < (spl (p.drop 1)).length) && isDot ((spl (p.drop 1)).getD ((spl (p.drop 1)).length - 1) []))), (38, .slice ka (List.foldl keep [] (spl (p.drop 1))).length kc), (39, I64 ((List.foldl keep [] (spl (p.drop 1))).length : Nat)), (40, I64 (j : Nat)), (7, S (slashed ((List.foldl keep [] (spl (p.drop 1))).take j)))]) (fun j w => j ≤ (List.foldl keep [] (spl (p.drop 1))).length ∧ Sat B w I (Vec 9 1 (.slice ka (List.foldl keep [] (spl (p.drop 1))).length kc) (List.foldl keep [] (spl (p.drop 1))).length ((List.foldl keep [] (spl (p.drop 1))).map S) :: blk b16 ((spl (p.drop 1)).map S) 9 :: As)) (fun j => (List.foldl keep [] (spl (p.drop 1))).length - j) 0 ⟨rfl, rfl, rfl, rfl, rfl, rfl, trivial⟩ ⟨Nat.zero_le _, hS⟩ ?_)))))))))
 rintro j w ⟨hj, hS⟩
 change WC _ _ _ _ [(3, .slice ka (List.foldl keep [] (spl (p.drop 1))).length kc), (4, .bool (decide (0 < (spl (p.drop 1)).length) && isDot ((spl (p.drop 1)).getD ((spl (p.drop 1)).length - 1) []))), (38, .slice ka (List.foldl keep [] (spl (p.drop 1))).length kc), (39, I64 ((List.foldl keep [] (spl (p.drop 1))).length : Nat)), (40, I64 (j : Nat)), (7, S (slashed ((List.foldl keep [] (spl (p.drop 1))).take j)))] w
 refine .seq (.region (.run 1 rfl trivial (.nil (.seq ?_))))
 refine WC.cond rfl (fun hb41 => ?_) (fun hb41 => ?_)
 ·
  have hc41 := hb41; try simp only [Gk.cs0] at hc41
  refine .skip (.seq (.block (.seq ?_)))
  obtain ⟨x, hx⟩ : ∃ x, (List.foldl keep [] (spl (p.drop 1)))[j]? = some x := ⟨_, List.getElem?_eq_getElem (by omega)⟩
  have hsn : slashed ((List.foldl keep [] (spl (p.drop 1))).take (j + 1)) = slashed ((List.foldl keep [] (spl (p.drop 1))).take j) ++ 47 :: x := by rw [List.take_add_one, hx]; exact slashed_app _ _
  have hsl : (slashed ((List.foldl keep [] (spl (p.drop 1))).take j)).length + (x.length + 1) ≤ tot (List.foldl keep [] (spl (p.drop 1))) := by
   rw [show x.length + 1 = (47 :: x).length from rfl, ← List.length_append, ← hsn, slashed_len]
   have : tot (List.foldl keep [] (spl (p.drop 1))) = tot ((List.foldl keep [] (spl (p.drop 1))).take (j + 1)) + tot ((List.foldl keep [] (spl (p.drop 1))).drop (j + 1)) := by rw [← tot_app, List.take_append_drop]
   omega
  obtain ⟨g19, rest19, hS19⟩ : ∃ g rest, ka = some (ad g 0) ∧ Sat B w I (blk g ((List.foldl keep [] (spl (p.drop 1))).map S ++ rest) 9 :: blk b16 ((spl (p.drop 1)).map S) 9 :: As) := by
   obtain ⟨g, c, rest, hv, _, _, _, _, hs⟩ := hS.vecOpen (k := 0) rfl (by omega)
   injection hv with hv1 hv2 hv3
   exact ⟨g, rest, hv1, hs⟩
  obtain ⟨rfl, hS19⟩ := hS19
  refine .region (.val (.indexAddr (b := g19) (o := 0) (.of rfl) (.of rfl) (by omega) (by omega) Tryz.underlying41 Tryz.sizeOf9) rfl ?_)
  refine WL.val (.ld (v := S x) (.of rfl) hS19 (k := 0) rfl Tryz.isAgg9 (by rw [Nat.zero_add, Int.toNat_natCast, Nat.mul_one, List.getElem?_append_left (by rw [List.length_map]; omega), List.getElem?_map, hx]; rfl)) rfl ?_
  clear hS19
  refine .run 1 rfl trivial (.nil (.region ?_))
  refine WL.run 5 rfl ⟨by (try simp only [List.length_append, List.length_cons, List.length_nil]); omega, by (try simp only [List.length_append, List.length_cons, List.length_nil]); omega, trivial⟩ ?_
  refine .nil (.region (.run 2 rfl ⟨⟨by omega, by omega⟩, trivial⟩ (.nil ?_)))
  refine ⟨j + 1, ⟨rfl, rfl, rfl, rfl, rfl, by show some (S _) = some _; rw [hsn]; simp, trivial⟩, ⟨by omega, hS⟩, by omega⟩
 have hc41 := hb41; try simp only [Gk.cs0] at hc41
 refine .exit (.seq (.seq ?_))
 have hjn : (List.foldl keep [] (spl (p.drop 1))).take j = (List.foldl keep [] (spl (p.drop 1))) := List.take_of_length_le (by omega)
 have hsl2 : (slashed ((List.foldl keep [] (spl (p.drop 1))).take j)).length ≤ tot (List.foldl keep [] (spl (p.drop 1))) := by rw [hjn, slashed_len]; exact Nat.le_refl _
 refine .region (.run 2 rfl trivial (.gval rfl rfl (fun hg1 => (.move (.of rfl))) rfl (.gval rfl rfl (fun hg1 => (.lenSlice (.gd hg1 rfl) Tryz.underlying41)) rfl (.gval rfl rfl (fun hg1 => (.eql (.gd hg1 rfl) (.of rfl))) rfl (.val (.por (.of rfl) (.of rfl) (.of rfl)) rfl (.nil ?_))))))
 refine WC.cond rfl (fun hb54 => ?_) (fun hb54 => ?_)
 ·
  have hc54 := hb54; try simp only [Gk.cs0] at hc54
  refine .region ?_
  refine WL.run 3 rfl ⟨by (try simp only [List.length_append, List.length_cons, List.length_nil]); omega, trivial⟩ ?_
  refine .nil (.seq (.region (.run 2 rfl trivial (.nil (.ret (ret1 Tryz.results154 rfl ?_))))))
  have hjn : (List.foldl keep [] (spl (p.drop 1))).take j = (List.foldl keep [] (spl (p.drop 1))) := List.take_of_length_le (by omega)
  rw [hjn]
  have hlast : (decide (0 < (spl (p.drop 1)).length) && isDot ((spl (p.drop 1)).getD ((spl (p.drop 1)).length - 1) [])) = isDot ((spl (p.drop 1)).getLastD []) := by
   have hne := spl_ne (p.drop 1)
   have hp0 : 0 < (spl (p.drop 1)).length := List.length_pos_iff.2 hne
   rw [decide_eq_true hp0, Bool.true_and]
   congr 1
   rw [List.getLastD_eq_getLast?, List.getLast?_eq_getElem?, List.getD_eq_getElem?_getD]
  have hpc : p = 47 :: p.drop 1 := by
   cases p with
   | nil => simp [hasPre] at hb12
   | cons a b => simp [hasPre] at hb12; rw [hb12.2]; rfl
  have hall : dots p = slashed (List.foldl keep [] (spl (p.drop 1))) ++ (if isDot ((spl (p.drop 1)).getLastD []) || (List.foldl keep [] (spl (p.drop 1))).length == 0 then [47] else []) := by rw [hpc, dots, if_pos rfl]; rfl
  refine ⟨_, rfl, ?_, (hS.drop (k := 0) rfl).drop (k := 0) rfl⟩
  rw [hall]
  rw [if_pos (by rw [← hlast]; simpa using hb54)]
 have hc54 := hb54; try simp only [Gk.cs0] at hc54
 refine .skip (.seq (.region (.run 2 rfl trivial (.nil (.ret (ret1 Tryz.results154 rfl ?_))))))
 have hjn : (List.foldl keep [] (spl (p.drop 1))).take j = (List.foldl keep [] (spl (p.drop 1))) := List.take_of_length_le (by omega)
 rw [hjn]
 have hlast : (decide (0 < (spl (p.drop 1)).length) && isDot ((spl (p.drop 1)).getD ((spl (p.drop 1)).length - 1) [])) = isDot ((spl (p.drop 1)).getLastD []) := by
  have hne := spl_ne (p.drop 1)
  have hp0 : 0 < (spl (p.drop 1)).length := List.length_pos_iff.2 hne
  rw [decide_eq_true hp0, Bool.true_and]
  congr 1
  rw [List.getLastD_eq_getLast?, List.getLast?_eq_getElem?, List.getD_eq_getElem?_getD]
 have hpc : p = 47 :: p.drop 1 := by
  cases p with
  | nil => simp [hasPre] at hb12
  | cons a b => simp [hasPre] at hb12; rw [hb12.2]; rfl
 have hall : dots p = slashed (List.foldl keep [] (spl (p.drop 1))) ++ (if isDot ((spl (p.drop 1)).getLastD []) || (List.foldl keep [] (spl (p.drop 1))).length == 0 then [47] else []) := by rw [hpc, dots, if_pos rfl]; rfl
 refine ⟨_, rfl, ?_, (hS.drop (k := 0) rfl).drop (k := 0) rfl⟩
 rw [hall]
 rw [if_neg (by rw [← hlast, Bool.not_eq_true]; simpa using hb54), List.append_nil]
end Go.Proofs.YtadhiihnnkcagaaGreatDoor
namespace Go.Proofs.YtadhiihnnkcagaaGreatDoor
open Gk Ul Pc Tk Tr
set_option linter.unusedVariables false
set_option linter.unusedSimpArgs false
def PREV : List (List UInt8) := [[], pre 1, pre 2, pre 3, pre 4, pre 5, pre 6]
def PreAt (I : Im) : Prop := At I (ad 0 0) (PREV.map S)
theorem PreAt.mono {I J : Im} (h : PreAt I) (hl : Le I J) : PreAt J := At.mono h hl
def preI (k : Int) : List UInt8 := if k < 1 ∨ 6 < k then [] else pre k.toNat
theorem Ex.slcArr {P : Program} {n : Nat} {L : Env} {w : World} {d : Option Nat} {ty : TypeId} {pos : String} {af : Array Edge} {gg : Option (Nat × Bool)} {t e : TypeId} {x : Operand} {p : Addr} {m s : Nat} (hx : Ev n L x (.pointer (some p))) (ht : P.underlying t = some (.array m e)) (hs : ∀ w, (Go.sizeOf e).run P w = .ok s w) :
  Ex P n L w ⟨d, .slice t x none none none, ty, pos, af, gg⟩ (.slice (some (if m = 0 then p else p.add (0 * s))) (m - 0) (m - 0)) w := fun a ha => by
 obtain ⟨e1, e2⟩ := elem_arr ht
 have h := run_sliceAt_array_all (P := P) w t p (by rw [e1, e2]; exact ht)
 rw [e1, e2, hs] at h
 simp [execOp, hx a ha, h, slicedAt]
def idxT (p : List UInt8) : List (List UInt8) → Nat → Int
 | [], _ => -1
 | x :: r, i => if p = x then (i : Int) else idxT p r (i + 1)
theorem idxT_skip (p : List UInt8) : ∀ (n : Nat) (r : List (List UInt8)) (i : Nat), (∀ (j : Nat) x, j < n → r[j]? = some x → p ≠ x) → idxT p r i = idxT p (r.drop n) (i + min n r.length)
 | 0, r, i, _ => by simp
 | n + 1, [], i, _ => by simp [idxT]
 | n + 1, x :: r, i, h => by
  rw [idxT, if_neg (h 0 x (by omega) rfl), idxT_skip p n r (i + 1) (fun j y hj hy => h (j + 1) y (by omega) (by simpa using hy)), List.drop_succ_cons, List.length_cons]
  congr 1
  omega
theorem idxT_hit {p : List UInt8} {l : List (List UInt8)} {i : Nat} (h : ∀ (j : Nat) x, j < i → l[j]? = some x → p ≠ x) (hs : l[i]? = some p) : idxT p l 0 = (i : Int) := by
 have hi := (List.getElem?_eq_some_iff.1 hs).1
 rw [idxT_skip p i l 0 h, Nat.zero_add, Nat.min_eq_left (by omega), List.drop_eq_getElem_cons hi, (List.getElem?_eq_some_iff.1 hs).2, idxT, if_pos rfl]
theorem idxT_none {p : List UInt8} {l : List (List UInt8)} (h : ∀ (j : Nat) x, l[j]? = some x → p ≠ x) : idxT p l 0 = -1 := by
 rw [idxT_skip p l.length l 0 (fun j x _ hx => h j x hx), List.drop_length]
 rfl
theorem kind_idx (p : List UInt8) : (1 ≤ idxT p PREV 0 → kindOf p ≠ 0 ∧ idxT p PREV 0 = (kindOf p : Int)) ∧ (¬ 1 ≤ idxT p PREV 0 → kindOf p = 0) := by
 unfold PREV kindOf
 simp only [idxT]
 by_cases h0 : p = []
 ·subst h0
  exact ⟨fun h => by simp at h, fun _ => by decide⟩
 rw [if_neg h0]
 by_cases h1 : p = pre 1
 ·rw [if_pos h1, if_pos h1]; exact ⟨fun _ => ⟨by decide, by decide⟩, fun h => absurd (by decide) h⟩
 rw [if_neg h1, if_neg h1]
 by_cases h2 : p = pre 2
 ·rw [if_pos h2, if_pos h2]; exact ⟨fun _ => ⟨by decide, by decide⟩, fun h => absurd (by decide) h⟩
 rw [if_neg h2, if_neg h2]
 by_cases h3 : p = pre 3
 ·rw [if_pos h3, if_pos h3]; exact ⟨fun _ => ⟨by decide, by decide⟩, fun h => absurd (by decide) h⟩
 rw [if_neg h3, if_neg h3]
 by_cases h4 : p = pre 4
 ·rw [if_pos h4, if_pos h4]; exact ⟨fun _ => ⟨by decide, by decide⟩, fun h => absurd (by decide) h⟩
 rw [if_neg h4, if_neg h4]
 by_cases h5 : p = pre 5
 ·rw [if_pos h5, if_pos h5]; exact ⟨fun _ => ⟨by decide, by decide⟩, fun h => absurd (by decide) h⟩
 rw [if_neg h5, if_neg h5]
 by_cases h6 : p = pre 6
 ·rw [if_pos h6, if_pos h6]; exact ⟨fun _ => ⟨by decide, by decide⟩, fun h => absurd (by decide) h⟩
 rw [if_neg h6, if_neg h6]
 exact ⟨fun h => absurd h (by decide), fun _ => rfl⟩
theorem IndexT_any (a : Option Addr) (c : Nat) (l : List (List UInt8)) (hll : l.length ≤ 100000) (p : List UInt8) (B w : World) (I : Im) (hA : RS I a 1 l.length (l.map S)) (As : List Assn) (hS : Sat B w I As) :
  Calls Tryz.prog 141 [.slice a l.length c, S p].toArray w (Ret fun v w' => v = I64 (idxT p l 0) ∧ Sat B w' I As) := by
 refine calls Tryz.func141 rfl Tryz.ntmps141 rfl (.seq (.region (.run 1 rfl trivial (.nil (.seq (.seq (.region (.run 3 rfl ⟨⟨_, Tryz.underlying41⟩, trivial⟩ (.nil (.block (.loop (σ := Nat) (fun i => [(0, .slice a l.length c), (1, S p), (7, I64 (l.length : Nat)), (8, I64 (i : Nat))]) (fun i w => i ≤ l.length ∧ (∀ (j : Nat) x, j < i → l[j]? = some x → p ≠ x) ∧ Sat B w I As) (fun i => l.length - i) 0 ⟨rfl, rfl, rfl, rfl, trivial⟩ ⟨Nat.zero_le _, fun _ _ h => absurd h (by omega), hS⟩ ?_)))))))))))
 rintro i w ⟨hi, hno, hS⟩
 change WC _ _ _ _ [(0, .slice a l.length c), (1, S p), (7, I64 (l.length : Nat)), (8, I64 (i : Nat))] w
 refine .seq (.region (.run 1 rfl trivial (.nil (.seq ?_))))
 refine WC.cond rfl (fun hb9 => ?_) (fun hb9 => ?_)
 ·
  have hc9 := hb9; try simp only [Gk.cs0] at hc9
  refine .skip (.seq (.block (.seq ?_)))
  obtain ⟨x, hx⟩ : ∃ x, l[i]? = some x := ⟨_, List.getElem?_eq_getElem (by omega)⟩
  obtain ⟨q, rfl, hq⟩ := hA.2 (by omega)
  have hqx : ((l.map S).drop ((i : Int).toNat * 1))[0]? = some (S x) := by rw [List.getElem?_drop, Int.toNat_natCast, Nat.mul_one, Nat.add_zero, List.getElem?_map, hx]; rfl
  refine .region (.run 2 rfl trivial (.nil (.seq (.region (.run 3 rfl trivial (.val (.indexAddrI (.of rfl) (.of rfl) (by omega) (by omega) Tryz.underlying41 Tryz.sizeOf9) rfl (.val (.ldI (v := S x) (.of rfl) hS (hq.add _) Tryz.isAgg9 hqx) rfl (.run 1 rfl trivial (.nil ?_)))))))))
  refine WC.cond rfl (fun hb16 => ?_) (fun hb16 => ?_)
  ·
   have hc16 := hb16; try simp only [Gk.cs0] at hc16
   refine .seq (.region (.run 2 rfl trivial (.nil (.ret (ret1 Tryz.results141 rfl ?_)))))
   have e : p = x := by simpa using hb16
   subst e
   exact ⟨_, rfl, by rw [idxT_hit hno hx], hS⟩
  have hc16 := hb16; try simp only [Gk.cs0] at hc16
  refine .skip (.region (.run 2 rfl ⟨⟨by omega, by omega⟩, trivial⟩ (.nil ?_)))
  refine ⟨i + 1, ⟨rfl, rfl, rfl, rfl, trivial⟩, ⟨by omega, fun j y hj hy => ?_, hS⟩, by omega⟩
  rcases Nat.lt_or_ge j i with h1 | h1
  ·exact hno j y h1 hy
  ·have e : j = i := by omega
   subst e
   rw [hx] at hy; cases hy
   simpa using hb16
 have hc9 := hb9; try simp only [Gk.cs0] at hc9
 refine .exit (.seq (.region (.run 1 rfl trivial (.nil (.ret (ret1 Tryz.results141 rfl ?_))))))
 exact ⟨_, rfl, by rw [idxT_none (fun j x hx => hno j x (by have := (List.getElem?_eq_some_iff.1 hx).1; omega) hx)], hS⟩
abbrev HEXD : List UInt8 := [48, 49, 50, 51, 52, 53, 54, 55, 56, 57, 97, 98, 99, 100, 101, 102]
theorem hx_idx (c : UInt8) : (match hx c with | some d => Go.Lib.indexByte HEXD c = (d : Int) | none => Go.Lib.indexByte HEXD c = -1) := by
 have := all_bytes (p := fun c => match hx c with | some d => Go.Lib.indexByte HEXD c == (d : Int) | none => Go.Lib.indexByte HEXD c == -1) (by decide +kernel) c
 cases h : hx c with
 | some d => rw [h] at this; simpa using this
 | none => rw [h] at this; simpa using this
theorem hxS_take {s : List UInt8} {i : Nat} {n d : Nat} (hi : i < s.length) (hn : hxS 0 (s.take i) = some n) (hd : hx (at_ s (i : Int)) = some d) : hxS 0 (s.take (i + 1)) = some (16 * n + d) := by
 have : s[i]? = some (at_ s (i : Int)) := at_some hi
 rw [List.take_add_one, this, Option.toList_some, hxS_app, hn, Option.bind_some]
 simp only [hxS, hd]
theorem hxS_bad : ∀ (s : List UInt8) (i n : Nat), i < s.length → hx (at_ s (i : Int)) = none → hxS n s = none
 | [], i, _, h, _ => by simp at h
 | c :: r, 0, n, _, h => by
  rw [hxS, show hx c = none from h]
 | c :: r, i + 1, n, hi, h => by
  rw [hxS]
  cases hx c with
  | none => rfl
  | some d => exact hxS_bad r i _ (by simpa using hi) (by
    have e : at_ (c :: r) ((i + 1 : Nat) : Int) = at_ r (i : Int) := by simp [at_]
    rw [e] at h; exact h)
theorem or_low {n d : Nat} (hd : d < 16) : (16 * n) ||| d = 16 * n + d := by
 have := Nat.two_pow_add_eq_or_of_lt (i := 4) (b := d) hd n
 simpa using this.symm
theorem draw_any (s : List UInt8) (hs : s.length ≤ 1000000) (B w : World) (I : Im) (As : List Assn) (hS : Sat B w I As) :
  Calls Tryz.prog 147 [S s].toArray w (Ret fun v w' => v = (match drawOf s with | some d => .tuple #[U64 (d : Nat), .bool true] | none => .tuple #[U64 0, .bool false]) ∧ Sat B w' I As) := by
 refine calls Tryz.func147 rfl Tryz.ntmps147 rfl (.seq (.region (.run 2 rfl trivial (.nil (.seq (.seq (.region (.run 3 rfl ⟨Tryz.underlying9, trivial⟩ (.nil ?_)))))))))
 refine WC.cond rfl (fun hb9 => ?_) (fun hb9 => ?_)
 ·
  have hc9 := hb9; try simp only [Gk.cs0] at hc9
  refine .seq (.region (.run 2 rfl trivial (.nil (.ret (ret2 Tryz.results147 rfl rfl ?_)))))
  exact ⟨_, rfl, by rw [drawOf, if_neg (by omega)], hS⟩
 have hc9 := hb9; try simp only [Gk.cs0] at hc9
 refine .skip (.seq (.region (.run 1 rfl trivial (.nil (.seq (.seq (.region (.run 3 rfl ⟨Tryz.underlying9, trivial⟩ (.nil (.block (.loop (σ := Nat × Nat) (fun ⟨i, n⟩ => [(0, S s), (4, U64 (n : Nat)), (11, I64 (s.length : Nat)), (12, I64 (i : Nat))]) (fun ⟨i, n⟩ w => i ≤ s.length ∧ hxS 0 (s.take i) = some n ∧ n < 16 ^ i ∧ Sat B w I As) (fun ⟨i, n⟩ => s.length - i) (0, 0) ⟨rfl, rfl, rfl, rfl, trivial⟩ ⟨Nat.zero_le _, rfl, by decide, hS⟩ ?_)))))))))))
 rintro ⟨i, n⟩ w ⟨hi, hn, hn16, hS⟩
 change WC _ _ _ _ [(0, S s), (4, U64 (n : Nat)), (11, I64 (s.length : Nat)), (12, I64 (i : Nat))] w
 refine .seq (.region (.run 1 rfl trivial (.nil (.seq ?_))))
 refine WC.cond rfl (fun hb13 => ?_) (fun hb13 => ?_)
 ·
  have hc13 := hb13; try simp only [Gk.cs0] at hc13
  refine .skip (.seq (.block (.seq (.region (.run 2 rfl trivial (.nil (.seq (.region (.run 3 rfl ⟨⟨⟨by omega, by omega⟩, Tryz.underlying9⟩, trivial⟩ (.call Tryz.func181 rfl (evs_cons (.of rfl) (evs_cons (.of rfl) evs_nil)) rfl (IndexByte_any HEXD (at_ s (i : Int)) _) ?_))))))))))
  rintro _ _ ⟨rfl, rfl⟩
  refine .run 1 rfl trivial (.nil (.seq (.seq ?_)))
  have hxi := hx_idx (at_ s (i : Int))
  refine .region (.run 2 rfl trivial (.nil ?_))
  refine WC.cond rfl (fun hb20 => ?_) (fun hb20 => ?_)
  ·
   have hc20 := hb20; try simp only [Gk.cs0] at hc20
   refine .seq (.region (.run 2 rfl trivial (.nil (.ret (ret2 Tryz.results147 rfl rfl ?_)))))
   refine ⟨_, rfl, ?_, hS⟩
   have hdn : hx (at_ s (i : Int)) = none := by
    cases hd : hx (at_ s (i : Int)) with
    | none => rfl
    | some d => exfalso; rw [hd] at hxi; simp only at hxi; rw [hxi] at hb20; simp at hb20; omega
   rw [drawOf, if_pos (by omega), hxS_bad s i 0 (by omega) hdn]
  have hc20 := hb20; try simp only [Gk.cs0] at hc20
  refine .skip ?_
  obtain ⟨d, hd⟩ : ∃ d, hx (at_ s (i : Int)) = some d := by
   cases hd : hx (at_ s (i : Int)) with
   | none => exfalso; rw [hd] at hxi; simp only at hxi; rw [hxi] at hb20; simp at hb20
   | some d => exact ⟨d, rfl⟩
  rw [hd] at hxi
  simp only at hxi
  have hd16 := hx_lt hd
  rw [hxi]
  have hn15 : n < 16 ^ 15 := Nat.lt_of_lt_of_le hn16 (Nat.pow_le_pow_right (by decide) (by omega))
  have hn60 : n < 1152921504606846976 := by simpa using hn15
  refine .region (.run 1 rfl trivial (.val (.shl (.of rfl) (.of rfl) (by decide) (by decide)) rfl ?_))
  rw [show IntKind.u64.wrap ((n : Int) * 2 ^ (4 : Int).toNat) = ((16 * n : Nat) : Int) by rw [IntKind.wrap_u64]; simp; omega]
  refine .run 1 rfl trivial ?_
  refine WL.val (.cvi (.of rfl) Tryz.underlying3 Tryz.underlying118 (by rw [IntKind.wrap_u64]; omega)) rfl ?_
  refine .val (.or64 (a := 16 * n) (b := d) (by omega) (by omega) (.of rfl) (.of rfl)) rfl ?_
  rw [or_low hd16]
  refine .run 1 rfl trivial (.nil (.region (.run 2 rfl ⟨⟨by omega, by omega⟩, trivial⟩ (.nil ?_))))
  refine ⟨(i + 1, 16 * n + d), ⟨rfl, rfl, rfl, rfl, trivial⟩, ⟨by (try dsimp only); omega, hxS_take (by omega) hn hd, ?_, hS⟩, by (try dsimp only); omega⟩
  (try dsimp only)
  rw [Nat.pow_succ]; omega
 have hc13 := hb13; try simp only [Gk.cs0] at hc13
 refine .exit (.seq (.region (.run 3 rfl trivial (.nil (.ret (ret2 Tryz.results147 rfl rfl ?_))))))
 refine ⟨_, rfl, ?_, hS⟩
 rw [List.take_of_length_le (by omega)] at hn
 rw [drawOf, if_pos (by omega), hn]
end Go.Proofs.YtadhiihnnkcagaaGreatDoor
namespace Go.Proofs.YtadhiihnnkcagaaGreatDoor
open Gk Ul Pc Tk Tr
set_option linter.unusedVariables false
set_option linter.unusedSimpArgs false
theorem Parse_any (s : List UInt8) (hs : s.length ≤ 1000000) (B w : World) (I : Im) (hK : Known I) (hP : PreAt I) (As : List Assn) (hS : Sat B w I As) :
  Calls Tryz.prog 111 [S s].toArray w (Ret fun v w' => v = (match parseT s with | some (k, d) => .tuple #[I64 (k : Nat), U64 (d : Nat), .bool true] | none => .tuple #[I64 0, U64 0, .bool false]) ∧ Sat B w' I As) := by
 refine calls Tryz.func111 rfl Tryz.ntmps111 rfl (.seq (.region (.run 3 rfl trivial (.nil (.seq (.region (.run 1 rfl trivial (.call Tryz.func146 rfl (evs_cons (.of rfl) (evs_cons (.of rfl) evs_nil)) rfl (CutOne_any s 45 hs B _ I hK _ hS) ?_))))))))
 clear hS
 rintro _ w ⟨rfl, hS⟩
 refine .run 7 rfl trivial (.nil (.seq (.region (.run 1 rfl trivial ?_))))
 refine WL.call Tryz.func147 rfl (evs_cons (.of rfl) evs_nil) rfl (draw_any _ (by have := from_le [45] s; rw [List.length_drop]; omega) B _ I _ hS) ?_
 clear hS
 rintro _ w ⟨rfl, hS⟩
 rcases hdr : drawOf ((from_ [45] s).drop 1) with _ | d
 ·
  refine .val (.move (.of rfl)) rfl (.run 4 rfl trivial (.nil (.seq (.region (.val (Ex.slcArr (m := 7) (s := 1) (.of rfl) Tryz.underlying208 Tryz.sizeOf9) rfl (.run 1 rfl trivial (.call Tryz.func141 rfl (evs_cons (.of rfl) (evs_cons (.of rfl) evs_nil)) rfl (IndexT_any (some (ad 0 0)) 7 PREV (by decide) (upto [45] s) B _ I ⟨rfl, fun _ => ⟨_, rfl, hP⟩⟩ As hS) ?_)))))))
  clear hS
  rintro _ w ⟨rfl, hS⟩
  refine .run 1 rfl trivial (.nil (.seq (.seq (.region (.run 3 rfl trivial (.gval rfl rfl (fun hg1 => (.move (.of rfl))) rfl (.gval rfl rfl (fun hg1 => (.lss (.gd hg1 rfl) (.of rfl))) rfl (.val (.por (.of rfl) (.of rfl) (.of rfl)) rfl (.nil ?_)))))))))
  refine WC.cond rfl (fun hb30 => ?_) (fun hb30 => ?_)
  ·
   have hc30 := hb30; try simp only [Gk.cs0] at hc30
   refine .seq (.region (.run 3 rfl trivial (.nil (.ret (ret3 Tryz.results111 rfl rfl rfl ?_)))))
   refine ⟨_, rfl, ?_, hS⟩
   have : parseT s = none := by
    unfold parseT
    split
    ·rfl
    ·rw [hdr]; rfl
   rw [this]
  have hc30 := hb30; try simp only [Gk.cs0] at hc30
  refine .skip (.seq (.region (.run 5 rfl trivial (.nil (.ret (ret3 Tryz.results111 rfl rfl rfl ?_))))))
  exfalso; simp at hb30
 refine .val (.move (.of rfl)) rfl (.run 4 rfl trivial (.nil (.seq (.region (.val (Ex.slcArr (m := 7) (s := 1) (.of rfl) Tryz.underlying208 Tryz.sizeOf9) rfl (.run 1 rfl trivial (.call Tryz.func141 rfl (evs_cons (.of rfl) (evs_cons (.of rfl) evs_nil)) rfl (IndexT_any (some (ad 0 0)) 7 PREV (by decide) (upto [45] s) B _ I ⟨rfl, fun _ => ⟨_, rfl, hP⟩⟩ As hS) ?_)))))))
 clear hS
 rintro _ w ⟨rfl, hS⟩
 refine .run 1 rfl trivial (.nil (.seq (.seq (.region (.run 3 rfl trivial (.gval rfl rfl (fun hg1 => (.move (.of rfl))) rfl (.gval rfl rfl (fun hg1 => (.lss (.gd hg1 rfl) (.of rfl))) rfl (.val (.por (.of rfl) (.of rfl) (.of rfl)) rfl (.nil ?_)))))))))
 refine WC.cond rfl (fun hb30 => ?_) (fun hb30 => ?_)
 ·
  have hc30 := hb30; try simp only [Gk.cs0] at hc30
  refine .seq (.region (.run 3 rfl trivial (.nil (.ret (ret3 Tryz.results111 rfl rfl rfl ?_)))))
  refine ⟨_, rfl, ?_, hS⟩
  have h0 := (kind_idx (upto [45] s)).2 (by simp at hb30; omega)
  rw [parseT, if_pos h0]
 have hc30 := hb30; try simp only [Gk.cs0] at hc30
 refine .skip (.seq (.region (.run 5 rfl trivial (.nil (.ret (ret3 Tryz.results111 rfl rfl rfl ?_))))))
 refine ⟨_, rfl, ?_, hS⟩
 obtain ⟨h0, h1⟩ := (kind_idx (upto [45] s)).1 (by simp at hb30; omega)
 rw [parseT, if_neg h0, hdr, h1]
 rfl
theorem Is_any (s : List UInt8) (kind : Int) (hs : s.length ≤ 1000000) (B w : World) (I : Im) (hK : Known I) (hP : PreAt I) (As : List Assn) (hS : Sat B w I As) :
  Calls Tryz.prog 144 [S s, I64 kind].toArray w (Ret fun v w' => v = .bool (isT s kind) ∧ Sat B w' I As) := by
 refine calls Tryz.func144 rfl Tryz.ntmps144 rfl (.seq (.region (.run 1 rfl trivial (.nil (.seq (.region (.run 1 rfl trivial (.call Tryz.func111 rfl (evs_cons (.of rfl) evs_nil) rfl (Parse_any s hs B _ I hK hP _ hS) ?_))))))))
 clear hS
 rintro _ w ⟨rfl, hS⟩
 rcases hps : parseT s with _ | ⟨k, d⟩
 ·
  refine .val (.move (.of rfl)) rfl (.run 6 rfl trivial (.nil (.seq (.region (.run 2 rfl trivial (.gval rfl rfl (fun hg1 => (.move (.of rfl))) rfl (.gval rfl rfl (fun hg1 => (.move (.of rfl))) rfl (.gval rfl rfl (fun hg1 => (.eql (.gd hg1 rfl) (.gd hg1 rfl))) rfl (.val (.pand (.of rfl) (.of rfl) (.of rfl)) rfl (.run 1 rfl trivial (.nil (.ret (ret1 Tryz.results144 rfl ?_)))))))))))))
  exact ⟨_, rfl, by rw [isT, hps]; rfl, hS⟩
 refine .val (.move (.of rfl)) rfl (.run 6 rfl trivial (.nil (.seq (.region (.run 2 rfl trivial (.gval rfl rfl (fun hg1 => (.move (.of rfl))) rfl (.gval rfl rfl (fun hg1 => (.move (.of rfl))) rfl (.gval rfl rfl (fun hg1 => (.eql (.gd hg1 rfl) (.gd hg1 rfl))) rfl (.val (.pand (.of rfl) (.of rfl) (.of rfl)) rfl (.run 1 rfl trivial (.nil (.ret (ret1 Tryz.results144 rfl ?_)))))))))))))
 exact ⟨_, rfl, by rw [isT, hps]; rfl, hS⟩
theorem Comes_any (kind of : Int) (w : World) :
  Calls Tryz.prog 179 [I64 kind, I64 of].toArray w (Ret fun v w' => v = .bool (comes kind of) ∧ w = w') := by
 refine calls Tryz.func179 rfl Tryz.ntmps179 rfl (.seq (.region (.run 1 rfl trivial (.nil (.seq (.seq (.region (.run 1 rfl trivial (.nil (.block (.seq (.block (.seq (.block (.block (.seq (.block (.seq (.block (.block (.seq (.seq (.seq (.region (.run 2 rfl trivial (.nil ?_))))))))))))))))))))))))))
 refine WC.cond rfl (fun hb6 => ?_) (fun hb6 => ?_)
 ·
  have hc6 := hb6; try simp only [Gk.cs0] at hc6
  refine .exit (.seq (.seq (.region (.run 3 rfl trivial (.nil (.ret (ret1 Tryz.results179 rfl ?_)))))))
  refine ⟨_, rfl, congrArg Value.bool ?_, rfl⟩
  simp only [beq_iff_eq, beq_eq_false_iff_ne] at *
  first | (subst_vars; simp [comes]; done) | (simp [comes, *]; done)
 have hc6 := hb6; try simp only [Gk.cs0] at hc6
 refine .skip (.seq (.seq (.region (.run 2 rfl trivial (.nil ?_)))))
 refine WC.cond rfl (fun hb8 => ?_) (fun hb8 => ?_)
 ·
  have hc8 := hb8; try simp only [Gk.cs0] at hc8
  refine .exit (.seq (.seq (.region (.run 3 rfl trivial (.nil (.ret (ret1 Tryz.results179 rfl ?_)))))))
  refine ⟨_, rfl, congrArg Value.bool ?_, rfl⟩
  simp only [beq_iff_eq, beq_eq_false_iff_ne] at *
  first | (subst_vars; simp [comes]; done) | (simp [comes, *]; done)
 have hc8 := hb8; try simp only [Gk.cs0] at hc8
 refine .skip (.seq (.seq (.region (.run 2 rfl trivial (.nil ?_)))))
 refine WC.cond rfl (fun hb10 => ?_) (fun hb10 => ?_)
 ·
  have hc10 := hb10; try simp only [Gk.cs0] at hc10
  refine .exit (.seq (.seq (.region (.run 3 rfl trivial (.nil (.ret (ret1 Tryz.results179 rfl ?_)))))))
  refine ⟨_, rfl, congrArg Value.bool ?_, rfl⟩
  simp only [beq_iff_eq, beq_eq_false_iff_ne] at *
  first | (subst_vars; simp [comes]; done) | (simp [comes, *]; done)
 have hc10 := hb10; try simp only [Gk.cs0] at hc10
 refine .skip (.seq (.seq (.region (.run 2 rfl trivial (.nil ?_)))))
 refine WC.cond rfl (fun hb12 => ?_) (fun hb12 => ?_)
 ·
  have hc12 := hb12; try simp only [Gk.cs0] at hc12
  refine .exit (.seq (.seq (.region (.run 3 rfl trivial (.nil (.ret (ret1 Tryz.results179 rfl ?_)))))))
  refine ⟨_, rfl, congrArg Value.bool ?_, rfl⟩
  simp only [beq_iff_eq, beq_eq_false_iff_ne] at *
  first | (subst_vars; simp [comes]; done) | (simp [comes, *]; done)
 have hc12 := hb12; try simp only [Gk.cs0] at hc12
 refine .skip (.seq (.seq (.region (.run 2 rfl trivial (.nil ?_)))))
 refine WC.cond rfl (fun hb14 => ?_) (fun hb14 => ?_)
 ·
  have hc14 := hb14; try simp only [Gk.cs0] at hc14
  refine .exit (.seq (.seq (.region (.run 3 rfl trivial (.nil (.ret (ret1 Tryz.results179 rfl ?_)))))))
  refine ⟨_, rfl, congrArg Value.bool ?_, rfl⟩
  simp only [beq_iff_eq, beq_eq_false_iff_ne] at *
  first | (subst_vars; simp [comes]; done) | (simp [comes, *]; done)
 have hc14 := hb14; try simp only [Gk.cs0] at hc14
 refine .skip (.seq (.region (.run 2 rfl trivial (.nil ?_))))
 refine WC.cond rfl (fun hb16 => ?_) (fun hb16 => ?_)
 ·
  have hc16 := hb16; try simp only [Gk.cs0] at hc16
  refine .exit (.seq (.seq (.region (.run 3 rfl trivial (.gval rfl rfl (fun hg1 => (.move (.of rfl))) rfl (.gval rfl rfl (fun hg1 => (.eql (.gd hg1 rfl) (.of rfl))) rfl (.val (.por (.of rfl) (.of rfl) (.of rfl)) rfl (.run 1 rfl trivial (.nil (.ret (ret1 Tryz.results179 rfl ?_)))))))))))
  refine ⟨_, rfl, congrArg Value.bool ?_, rfl⟩
  simp only [beq_iff_eq, beq_eq_false_iff_ne] at *
  first | (subst_vars; simp [comes]; done) | (simp [comes, *]; done)
 have hc16 := hb16; try simp only [Gk.cs0] at hc16
 refine .skip (.exit (.seq (.region (.run 1 rfl trivial (.nil (.ret (ret1 Tryz.results179 rfl ?_)))))))
 refine ⟨_, rfl, congrArg Value.bool ?_, rfl⟩
 simp only [beq_iff_eq, beq_eq_false_iff_ne] at *
 first | (subst_vars; simp [comes]; done) | (simp [comes, *]; done)
theorem parent_any (kind : Int) (s : List UInt8) (hs : s.length ≤ 1000000) (B w : World) (I : Im) (hK : Known I) (hP : PreAt I) (As : List Assn) (hS : Sat B w I As) :
  Calls Tryz.prog 145 [I64 kind, S s].toArray w (Ret fun v w' => v = .bool (parentOk kind s) ∧ Sat B w' I As) := by
 refine calls Tryz.func145 rfl Tryz.ntmps145 rfl (.seq (.region (.run 1 rfl trivial (.nil (.seq (.seq (.region (.run 2 rfl trivial (.nil ?_)))))))))
 refine WC.cond rfl (fun hb9 => ?_) (fun hb9 => ?_)
 ·
  have hc9 := hb9; try simp only [Gk.cs0] at hc9
  refine .seq (.region (.run 1 rfl trivial (.call Tryz.func179 rfl (evs_cons (.of rfl) (evs_cons (.of rfl) evs_nil)) rfl (Comes_any kind 0 _) ?_)))
  rintro _ _ ⟨rfl, rfl⟩
  refine .run 1 rfl trivial (.nil (.ret (ret1 Tryz.results145 rfl ?_)))
  exact ⟨_, rfl, by rw [parentOk, if_pos (by simpa using hb9)], hS⟩
 have hc9 := hb9; try simp only [Gk.cs0] at hc9
 refine .skip (.seq (.region (.run 1 rfl trivial (.call Tryz.func111 rfl (evs_cons (.of rfl) evs_nil) rfl (Parse_any s hs B _ I hK hP _ hS) ?_))))
 clear hS
 rintro _ w ⟨rfl, hS⟩
 rcases hps : parseT s with _ | ⟨k, d⟩
 ·
  refine .val (.move (.of rfl)) rfl (.run 6 rfl trivial (.nil (.seq (.region (.run 2 rfl trivial (.gval rfl rfl (fun hg1 => (.move (.of rfl))) rfl (.gval rfl rfl (fun hg1 => (.move (.of rfl))) rfl (.gcall (T := fun w => Sat B w I As) rfl rfl rfl Tryz.func179 rfl (fun hg1 => (evs_cons (.gd hg1 rfl) (evs_cons (.gd hg1 rfl) evs_nil))) rfl (fun hg1 => quiet_of (Comes_any _ _ w) hS) hS ?_))))))))
  clear hS; rintro w hS
  refine .val (.pand (.of rfl) (.of rfl) (.of rfl)) rfl (.run 1 rfl trivial (.nil (.ret (ret1 Tryz.results145 rfl ?_))))
  exact ⟨_, rfl, by rw [parentOk, if_neg (by simpa using hb9), hps]; rfl, hS⟩
 refine .val (.move (.of rfl)) rfl (.run 6 rfl trivial (.nil (.seq (.region (.run 2 rfl trivial (.gval rfl rfl (fun hg1 => (.move (.of rfl))) rfl (.gval rfl rfl (fun hg1 => (.move (.of rfl))) rfl (.gcall (T := fun w => Sat B w I As) rfl rfl rfl Tryz.func179 rfl (fun hg1 => (evs_cons (.gd hg1 rfl) (evs_cons (.gd hg1 rfl) evs_nil))) rfl (fun hg1 => quiet_of (Comes_any _ _ w) hS) hS ?_))))))))
 clear hS; rintro w hS
 refine .val (.pand (.of rfl) (.of rfl) (.of rfl)) rfl (.run 1 rfl trivial (.nil (.ret (ret1 Tryz.results145 rfl ?_))))
 exact ⟨_, rfl, by rw [parentOk, if_neg (by simpa using hb9), hps]; rfl, hS⟩
def recCells (r : Rec) : List Value := [I64 r.kind, S r.name, S r.parent, S r.user, S r.service, S r.url, I64 r.made, I64 r.used, I64 r.uses, .bool r.fresh]
theorem Right_any (r : Rec) (hn : r.name.length ≤ 1000000) (hp : r.parent.length ≤ 1000000) (B w : World) (I : Im) (hK : Known I) (hP : PreAt I) (As : List Assn) (hS : Sat B w I As) :
  Calls Tryz.prog 106 [.agg (recCells r).toArray].toArray w (Ret fun v w' => v = .bool (rightR r) ∧ Sat B w' I As) := by
 refine calls Tryz.func106 rfl Tryz.ntmps106 rfl (.seq (.region (.boxA (cs := [_, _, _, _, _, _, _, _, _, _]) hS (.of rfl) rfl ?_)))
 clear hS; intro b1 w hS
 refine .run 1 rfl trivial (.nil (.seq (.region ?_)))
 first | refine WL.val (.fieldAddr 3 (.of rfl) Tryz.underlying45 rfl rfl Tryz.sizeOf9 rfl) rfl ?_ | refine WL.val (.fieldAddrI 3 (.of rfl) Tryz.underlying45 rfl rfl Tryz.sizeOf9 rfl) rfl ?_
 refine .val (.ld (.of rfl) hS (k := 0) rfl Tryz.isAgg9 rfl) rfl (.run 3 rfl ⟨Tryz.underlying9, trivial⟩ ?_)
 refine WL.gval rfl rfl (fun hg1 => (by first | exact .fieldAddr 4 (.of rfl) Tryz.underlying45 rfl rfl Tryz.sizeOf9 rfl | exact .fieldAddrI 4 (.of rfl) Tryz.underlying45 rfl rfl Tryz.sizeOf9 rfl)) rfl ?_
 refine .gval rfl rfl (fun hg1 => (.ld (.gd hg1 rfl) hS (k := 0) rfl Tryz.isAgg9 rfl)) rfl (.gval rfl rfl (fun hg1 => (.len (.gd hg1 rfl) Tryz.underlying9)) rfl (.gval rfl rfl (fun hg1 => (.leq (.gd hg1 rfl) (.of rfl))) rfl (.val (.pand (.of rfl) (.of rfl) (.of rfl)) rfl (.run 1 rfl trivial ?_))))
 refine WL.gval rfl rfl (fun hg1 => (by first | exact .fieldAddr 5 (.of rfl) Tryz.underlying45 rfl rfl Tryz.sizeOf9 rfl | exact .fieldAddrI 5 (.of rfl) Tryz.underlying45 rfl rfl Tryz.sizeOf9 rfl)) rfl ?_
 refine .gval rfl rfl (fun hg1 => (.ld (.gd hg1 rfl) hS (k := 0) rfl Tryz.isAgg9 rfl)) rfl (.gval rfl rfl (fun hg1 => (.len (.gd hg1 rfl) Tryz.underlying9)) rfl (.gval rfl rfl (fun hg1 => (.leq (.gd hg1 rfl) (.of rfl))) rfl (.val (.pand (.of rfl) (.of rfl) (.of rfl)) rfl (.run 1 rfl trivial (.nil (.seq (.region ?_)))))))
 first | refine WL.val (.fieldAddr 6 (.of rfl) Tryz.underlying45 rfl rfl Tryz.sizeOf3 rfl) rfl ?_ | refine WL.val (.fieldAddrI 6 (.of rfl) Tryz.underlying45 rfl rfl Tryz.sizeOf3 rfl) rfl ?_
 refine .val (.ld (.of rfl) hS (k := 0) rfl Tryz.isAgg3 rfl) rfl (.run 2 rfl trivial ?_)
 refine WL.gval rfl rfl (fun hg1 => (by first | exact .fieldAddr 7 (.of rfl) Tryz.underlying45 rfl rfl Tryz.sizeOf3 rfl | exact .fieldAddrI 7 (.of rfl) Tryz.underlying45 rfl rfl Tryz.sizeOf3 rfl)) rfl ?_
 refine .gval rfl rfl (fun hg1 => (.ld (.gd hg1 rfl) hS (k := 0) rfl Tryz.isAgg3 rfl)) rfl ?_
 refine WL.gval rfl rfl (fun hg1 => (by first | exact .fieldAddr 6 (.of rfl) Tryz.underlying45 rfl rfl Tryz.sizeOf3 rfl | exact .fieldAddrI 6 (.of rfl) Tryz.underlying45 rfl rfl Tryz.sizeOf3 rfl)) rfl ?_
 refine .gval rfl rfl (fun hg1 => (.ld (.gd hg1 rfl) hS (k := 0) rfl Tryz.isAgg3 rfl)) rfl (.gval rfl rfl (fun hg1 => (.geq (.gd hg1 rfl) (.gd hg1 rfl))) rfl (.val (.pand (.of rfl) (.of rfl) (.of rfl)) rfl (.run 1 rfl trivial ?_)))
 refine WL.gval rfl rfl (fun hg1 => (by first | exact .fieldAddr 7 (.of rfl) Tryz.underlying45 rfl rfl Tryz.sizeOf3 rfl | exact .fieldAddrI 7 (.of rfl) Tryz.underlying45 rfl rfl Tryz.sizeOf3 rfl)) rfl ?_
 refine .gval rfl rfl (fun hg1 => (.ld (.gd hg1 rfl) hS (k := 0) rfl Tryz.isAgg3 rfl)) rfl (.gval rfl rfl (fun hg1 => (.leq (.gd hg1 rfl) (.of rfl))) rfl (.val (.pand (.of rfl) (.of rfl) (.of rfl)) rfl (.run 1 rfl trivial ?_)))
 refine WL.gval rfl rfl (fun hg1 => (by first | exact .fieldAddr 8 (.of rfl) Tryz.underlying45 rfl rfl Tryz.sizeOf3 rfl | exact .fieldAddrI 8 (.of rfl) Tryz.underlying45 rfl rfl Tryz.sizeOf3 rfl)) rfl ?_
 refine .gval rfl rfl (fun hg1 => (.ld (.gd hg1 rfl) hS (k := 0) rfl Tryz.isAgg3 rfl)) rfl (.gval rfl rfl (fun hg1 => (.geq (.gd hg1 rfl) (.of rfl))) rfl (.val (.pand (.of rfl) (.of rfl) (.of rfl)) rfl (.run 1 rfl trivial ?_)))
 refine WL.gval rfl rfl (fun hg1 => (by first | exact .fieldAddr 8 (.of rfl) Tryz.underlying45 rfl rfl Tryz.sizeOf3 rfl | exact .fieldAddrI 8 (.of rfl) Tryz.underlying45 rfl rfl Tryz.sizeOf3 rfl)) rfl ?_
 refine .gval rfl rfl (fun hg1 => (.ld (.gd hg1 rfl) hS (k := 0) rfl Tryz.isAgg3 rfl)) rfl (.gval rfl rfl (fun hg1 => (.leq (.gd hg1 rfl) (.of rfl))) rfl (.val (.pand (.of rfl) (.of rfl) (.of rfl)) rfl (.run 1 rfl trivial (.nil (.seq (.region (.run 2 rfl trivial (.gval rfl rfl (fun hg1 => (.move (.of rfl))) rfl (.val (.pand (.of rfl) (.of rfl) (.of rfl)) rfl (.run 1 rfl trivial ?_))))))))))
 refine WL.gval rfl rfl (fun hg1 => (by first | exact .fieldAddr 1 (.of rfl) Tryz.underlying45 rfl rfl Tryz.sizeOf9 rfl | exact .fieldAddrI 1 (.of rfl) Tryz.underlying45 rfl rfl Tryz.sizeOf9 rfl)) rfl ?_
 refine .gval rfl rfl (fun hg1 => (.ld (.gd hg1 rfl) hS (k := 0) rfl Tryz.isAgg9 rfl)) rfl ?_
 refine WL.gval rfl rfl (fun hg1 => (by first | exact .fieldAddr 0 (.of rfl) Tryz.underlying45 rfl rfl Tryz.sizeOf3 rfl | exact .fieldAddrI 0 (.of rfl) Tryz.underlying45 rfl rfl Tryz.sizeOf3 rfl)) rfl ?_
 refine .gval rfl rfl (fun hg1 => (.ld (.gd hg1 rfl) hS (k := 0) rfl Tryz.isAgg3 rfl)) rfl (.gcall (T := fun w => Sat B w I (blk b1 [I64 r.kind, S r.name, S r.parent, S r.user, S r.service, S r.url, I64 r.made, I64 r.used, I64 r.uses, .bool r.fresh] 45 :: As)) rfl rfl rfl Tryz.func144 rfl (fun hg1 => (evs_cons (.gd hg1 rfl) (evs_cons (.gd hg1 rfl) evs_nil))) rfl (fun hg1 => Is_any r.name r.kind hn B _ I hK hP _ hS) hS ?_)
 clear hS; rintro w hS
 refine .val (.pand (.of rfl) (.of rfl) (.of rfl)) rfl (.run 1 rfl trivial ?_)
 refine WL.gval rfl rfl (fun hg1 => (by first | exact .fieldAddr 0 (.of rfl) Tryz.underlying45 rfl rfl Tryz.sizeOf3 rfl | exact .fieldAddrI 0 (.of rfl) Tryz.underlying45 rfl rfl Tryz.sizeOf3 rfl)) rfl ?_
 refine .gval rfl rfl (fun hg1 => (.ld (.gd hg1 rfl) hS (k := 0) rfl Tryz.isAgg3 rfl)) rfl ?_
 refine WL.gval rfl rfl (fun hg1 => (by first | exact .fieldAddr 2 (.of rfl) Tryz.underlying45 rfl rfl Tryz.sizeOf9 rfl | exact .fieldAddrI 2 (.of rfl) Tryz.underlying45 rfl rfl Tryz.sizeOf9 rfl)) rfl ?_
 refine .gval rfl rfl (fun hg1 => (.ld (.gd hg1 rfl) hS (k := 0) rfl Tryz.isAgg9 rfl)) rfl (.gcall (T := fun w => Sat B w I (blk b1 [I64 r.kind, S r.name, S r.parent, S r.user, S r.service, S r.url, I64 r.made, I64 r.used, I64 r.uses, .bool r.fresh] 45 :: As)) rfl rfl rfl Tryz.func145 rfl (fun hg1 => (evs_cons (.gd hg1 rfl) (evs_cons (.gd hg1 rfl) evs_nil))) rfl (fun hg1 => parent_any r.kind r.parent hp B _ I hK hP _ hS) hS ?_)
 clear hS; rintro w hS
 refine .val (.pand (.of rfl) (.of rfl) (.of rfl)) rfl (.run 1 rfl trivial (.nil (.ret (ret1 Tryz.results106 rfl ?_))))
 exact ⟨_, rfl, rfl, hS.drop (k := 0) rfl⟩
end Go.Proofs.YtadhiihnnkcagaaGreatDoor
namespace Gk
set_option linter.unusedVariables false
set_option linter.unusedSimpArgs false
open Go Go.RowKit Go.WideShapes Go.ChangeShapes
def im0 (W : World) : Im := fun b => W.heap[b]?
theorem sat0 (W : World) : Sat W W (im0 W) [] := ⟨[], rfl, rfl, rfl, rfl, fun _ _ h => h, fun _ _ h => by simp at h, List.nodup_nil, fun _ _ h => by simp at h⟩
theorem Sat.below {W w : World} {I : Im} {As : List Assn} (hS : Sat W w I As) (hl : Le (im0 W) I) : Below W.heap.size W w := by
 obtain ⟨h, _, g⟩ := hS
 have hb : ∀ k, k < W.heap.size → w.heap[k]? = W.heap[k]? := fun k hk => by
  rw [Array.getElem?_eq_getElem hk]
  exact g.imm k _ (hl k _ (Array.getElem?_eq_getElem hk))
 refine ⟨g.os, g.tape, g.output, ?_, hb⟩
 rcases Nat.eq_zero_or_pos W.heap.size with h0 | h0
 ·omega
 ·have h1 := hb (W.heap.size - 1) (by omega)
  rw [Array.getElem?_eq_getElem (show W.heap.size - 1 < W.heap.size by omega)] at h1
  have := (Array.getElem?_eq_some_iff.1 h1).1
  omega
theorem post_law2 {H : Type} {enc : TypeId × Value → H} {P : Program} {f : Func} {s : ChangeSpec} {apart fresh handsOn : Bool} {W W' : World} {args : Array Value} {v : Value} {ds gs : List (DataW H)} {before pa pv : List MemPlace}
  (hW : DataW.Whole enc P f.params.toList s.vars apart W args.toList ds gs before) (hb : Below W.heap.size W W')
  (hres : ∀ (b : Nat) (sp : Nat → Bool) (hd : Bool), DataW.TrodAll enc P W' b sp hd f.resultTypes.toList (v.resultList f.resultTypes.size) (s.fn H (ds ++ gs)).results [])
  (hargs : DataW.TrodAll enc P W' 0 (fun b => decide (b < W.heap.size)) true f.params.toList args.toList (s.fn H (ds ++ gs)).args pa)
  (hvars : DataW.TrodVars enc P W' (fun b => decide (b < W.heap.size)) s.vars (s.fn H (ds ++ gs)).vars pv) (hps : before = pa ++ pv) :
  s.post enc P f apart fresh handsOn false W args v W' := by
 refine ⟨ds, gs, before, [], pa, pv, hW, hres _ _ _, hargs, hvars, World.keptBut_mono (fun p hp => ⟨hp, ?_⟩) (hb.frame (· ∈ before)), fun h => (by cases h)⟩
 rw [hps, List.mem_append] at hp
 exact Or.inr hp
end Gk
namespace Gk
set_option linter.unusedVariables false
set_option linter.unusedSimpArgs false
open Go Go.RowKit Go.WideShapes Go.ChangeShapes
theorem rowsF_len {c : Nat} : ∀ (L : List (List Value)), (∀ l ∈ L, l.length = c) → L.flatten.length = L.length * c
 | [], _ => by simp
 | a :: L, h => by
  rw [List.flatten_cons, List.length_append, rowsF_len L (fun l hl => h l (by simp [hl])), h a (by simp), List.length_cons, Nat.succ_mul, Nat.add_comm]
theorem rowsF_get {c : Nat} : ∀ (L : List (List Value)), (∀ l ∈ L, l.length = c) → ∀ (i r : Nat), r < c → L.flatten[i * c + r]? = (L[i]?).bind (·[r]?)
 | [], _, i, r, _ => by simp
 | a :: L, h, 0, r, hr => by
  have ha := h a (by simp)
  rw [List.flatten_cons, Nat.zero_mul, Nat.zero_add, List.getElem?_append_left (by omega)]
  rfl
 | a :: L, h, i + 1, r, hr => by
  have ha := h a (by simp)
  rw [List.flatten_cons, Nat.succ_mul, List.getElem?_append_right (by omega), show i * c + c + r - a.length = i * c + r by omega, rowsF_get L (fun l hl => h l (by simp [hl])) i r hr]
  rfl
theorem flat_piece {c : Nat} : ∀ (L : List (List Value)), (∀ l ∈ L, l.length = c) → ∀ (i : Nat) (l : List Value), L[i]? = some l → (L.flatten.drop (i * c)).take c = l
 | [], _, i, l, h => by simp at h
 | a :: L, h, 0, l, hl => by
  have ha := h a (by simp)
  simp at hl
  subst hl
  rw [List.flatten_cons, Nat.zero_mul, List.drop_zero, ← ha, List.take_left]
 | a :: L, h, i + 1, l, hl => by
  have ha := h a (by simp)
  rw [List.flatten_cons, Nat.succ_mul, Nat.add_comm, ← ha, ← List.drop_drop, List.drop_left, ha]
  exact flat_piece L (fun l hl => h l (by simp [hl])) i l (by simpa using hl)
section
variable {H : Type} {enc : TypeId × Value → H} {P : Program} {W : World} {spare : Nat → Bool} {held : Bool}
theorem cells_len {base n : Nat} {a : Addr} {vs : List Value} (h : W.cells? base a n = some vs) : vs.length = n ∧ ∀ i, i < n → W.cell? (a.add i) = vs[i]? := by
 unfold World.cells? at h
 split at h
 ·have hl := Go.Lib.mapM_length h
  rw [List.length_range] at hl
  refine ⟨hl, fun i hi => ?_⟩
  obtain ⟨b, h1, h2⟩ := Go.Lib.mapM_at h i i (List.getElem?_range hi)
  rw [h1, h2]
 ·cases h
theorem at_im0 {a : Addr} {xs : List Value} (hn : 0 < xs.length) (h : ∀ j v, xs[j]? = some v → W.cell? (a.add j) = some v) : At (im0 W) a xs := by
 obtain ⟨ab, ao, sp⟩ := a
 have h0 := h 0 xs[0] (List.getElem?_eq_getElem hn)
 have hs : sp = none := by simpa [Addr.add] using World.cell?_spot h0
 subst hs
 have e : ∀ j, (⟨ab, ao, none⟩ : Addr).add j = ⟨ab, ao + j, none⟩ := add_ad ab ao
 rw [e] at h0
 unfold World.cell? at h0
 split at h0
 ·rename_i arr E fr hb
  refine ⟨rfl, arr, E, fr, hb, fun j v hj => ?_⟩
  have hc2 := h j v hj
  rw [e] at hc2
  unfold World.cell? at hc2
  dsimp only at hb
  rw [hb] at hc2
  simpa using hc2
 ·cases h0
theorem open_rows {t e c fuel : Nat} {cs : List Value} {x : DataW H × List MemPlace} (ht : P.underlying t = some (.slice e)) (hc : P.cellsOf e = c) (hc0 : 0 < c) (h : DataW.trod enc P W 0 spare held fuel t cs = some x) :
  ∃ (a : Option Addr) (cap : Nat) (L : List (List Value)) (n : Nat), cs = [.slice a L.length cap] ∧ L.length ≤ cap ∧ cap ≤ maxLen ∧ (∀ l ∈ L, l.length = c) ∧ RS (im0 W) a c L.length L.flatten ∧ ∀ l ∈ L, ∃ y, DataW.trod enc P W 0 spare held n e l = some y := by
 rcases DataW.trod_slice ht h with ⟨rfl, _⟩ | ⟨a, len, cap, elems, rest, n, _, rfl, _, _, hl, hm, hlen, hel, _, _⟩
 ·exact ⟨none, 0, [], 0, rfl, Nat.le_refl _, Nat.zero_le _, fun _ h => by simp at h, RS.nil _ _, fun _ h => by simp at h⟩
 ·rw [hc] at hel
  have each : ∀ i, i < len → ∃ l, W.cells? 0 (a.add (i * c)) c = some l ∧ ∃ y, DataW.trod enc P W 0 spare held n e l = some y := fun i hi => by
   have h1 := hel i hi
   rw [List.getElem?_eq_getElem (by omega)] at h1
   obtain ⟨l, h2, h3⟩ := Option.bind_eq_some_iff.1 h1
   exact ⟨l, h2, _, h3⟩
  let L := (List.range len).map fun i => (W.cells? 0 (a.add (i * c)) c).getD []
  have hL : ∀ i, i < len → ∃ l, L[i]? = some l ∧ W.cells? 0 (a.add (i * c)) c = some l ∧ ∃ y, DataW.trod enc P W 0 spare held n e l = some y := fun i hi => by
   obtain ⟨l, h1, h2⟩ := each i hi
   refine ⟨l, ?_, h1, h2⟩
   simp only [L, List.getElem?_map, List.getElem?_range hi, Option.map_some, h1, Option.getD_some]
  have hLl : L.length = len := by simp [L]
  have hmem : ∀ l ∈ L, ∃ i, i < len ∧ L[i]? = some l := fun l hl => by
   obtain ⟨i, hi⟩ := List.mem_iff_getElem?.1 hl
   exact ⟨i, by have := (List.getElem?_eq_some_iff.1 hi).1; omega, hi⟩
  have hlc : ∀ l ∈ L, l.length = c := fun l hl => by
   obtain ⟨i, hi, e1⟩ := hmem l hl
   obtain ⟨l', e2, h2, _⟩ := hL i hi
   rw [e1] at e2; cases e2
   exact (cells_len h2).1
  refine ⟨some a, cap, L, n, by rw [hLl], by rw [hLl]; exact hl, hm, hlc, ⟨rowsF_len L hlc, fun hn => ⟨a, rfl, at_im0 ?_ fun j v hj => ?_⟩⟩, fun l hl => ?_⟩
  ·rw [rowsF_len L hlc]; exact Nat.mul_pos hn hc0
  ·have hjl : j < L.length * c := by rw [← rowsF_len L hlc]; exact (List.getElem?_eq_some_iff.1 hj).1
   have hq : j / c < len := by rw [← hLl]; exact Nat.div_lt_of_lt_mul (by rw [Nat.mul_comm]; exact hjl)
   have hr : j % c < c := Nat.mod_lt _ hc0
   have ej : j = j / c * c + j % c := by rw [Nat.mul_comm]; exact (Nat.div_add_mod j c).symm
   obtain ⟨l, e1, e2, _⟩ := hL (j / c) hq
   rw [ej, rowsF_get L hlc _ _ hr, e1] at hj
   have := (cells_len e2).2 (j % c) hr
   rw [ej, show a.add (j / c * c + j % c) = (a.add (j / c * c)).add (j % c) by rw [Addr.add_add]]
   rw [this]; exact hj
  ·obtain ⟨i, hi, e1⟩ := hmem l hl
   obtain ⟨l', e2, _, y⟩ := hL i hi
   rw [e1] at e2; cases e2
   exact y
theorem open_texts {t e fuel : Nat} {cs : List Value} {x : DataW H × List MemPlace} (ht : P.underlying t = some (.slice e)) (he : P.underlying e = some .string) (hc : P.cellsOf e = 1) (h : DataW.trod enc P W 0 spare held fuel t cs = some x) :
  ∃ (a : Option Addr) (cap : Nat) (l : List (List UInt8)), cs = [.slice a l.length cap] ∧ l.length ≤ cap ∧ cap ≤ maxLen ∧ RS (im0 W) a 1 l.length (l.map S) ∧ ∀ s ∈ l, s.length ≤ maxLen := by
 obtain ⟨a, cap, L, n, rfl, h1, h2, h3, h4, h5⟩ := open_rows ht hc (by decide) h
 have each : ∀ l ∈ L, ∃ s : ByteArray, l = [.string s] ∧ s.size ≤ maxLen := fun l hl => by
  obtain ⟨y, hy⟩ := h5 l hl
  obtain ⟨s, rfl, _, hs⟩ := DataW.trod_string he hy
  exact ⟨s, rfl, hs⟩
 have key : ∀ L : List (List Value), (∀ l ∈ L, ∃ s : ByteArray, l = [.string s] ∧ s.size ≤ maxLen) → ∃ ts : List (List UInt8), ts.length = L.length ∧ L.flatten = ts.map S ∧ ∀ s ∈ ts, s.length ≤ maxLen := by
  intro L
  induction L with
  | nil => intro _; exact ⟨[], rfl, rfl, fun _ h => by simp at h⟩
  | cons l L ih =>
   intro h
   obtain ⟨s, rfl, hs⟩ := h l (by simp)
   obtain ⟨ts, e1, e2, e3⟩ := ih (fun l hl => h l (by simp [hl]))
   refine ⟨s.data.toList :: ts, by simp [e1], ?_, fun u hu => ?_⟩
   ·rw [List.flatten_cons, e2]; rfl
   ·rcases List.mem_cons.1 hu with e | e
    ·subst e; exact hs
    ·exact e3 u e
 obtain ⟨ts, e1, e2, e3⟩ := key L each
 rw [e2, ← e1] at h4
 exact ⟨a, cap, ts, by rw [e1], by rw [e1]; exact h1, h2, h4, e3⟩
end
end Gk
namespace Go.Proofs.YtadhiihnnkcagaaGreatDoor
open Gk Go.RowKit Go.WideShapes Go.ChangeShapes
set_option linter.unusedVariables false
set_option linter.unusedSimpArgs false
theorem trod_float_ {H : Type} {enc : TypeId × Value → H} {P : Program} {w : World} {base : Nat} {spare : Nat → Bool} {held : Bool} {fuel : Nat} {t : TypeId} {cs : List Value} {x : DataW H × List MemPlace} (ht : P.underlying t = some (.float .f64)) (h : DataW.trod enc P w base spare held fuel t cs = some x) : ∃ b, cs = [.float .f64 b] ∧ (Lit.float .f64 b).wf = true := by
 cases fuel with
 | zero => simp [DataW.trod] at h
 | succ n =>
  unfold DataW.trod at h
  rw [ht] at h
  split at h <;> simp_all
structure Sv where
 id : Int
 ord : Nat
 urls : List UInt8
 login : Bool
 proxy : Bool
 back : Bool
 calls : List UInt8
 rel : List (List UInt8)
def svCells (s : Sv) (a : Option Addr) (c : Nat) : List Value := [I64 s.id, F64 s.ord, S s.urls, .bool s.login, .bool s.proxy, .bool s.back, S s.calls, .slice a s.rel.length c]
def SvAt (I : Im) (s : Sv) (l : List Value) : Prop := ∃ a c, l = svCells s a c ∧ s.rel.length ≤ c ∧ RS I a 1 s.rel.length (s.rel.map S)
theorem SvAt.mono {I J : Im} {s : Sv} {l : List Value} (h : SvAt I s l) (hl : Le I J) : SvAt J s l := by
 obtain ⟨a, c, e, h1, h2⟩ := h
 exact ⟨a, c, e, h1, h2.mono hl⟩
structure Sv.fits (s : Sv) : Prop where
 id : -9223372036854775808 ≤ s.id ∧ s.id ≤ 9223372036854775807
 ord : s.ord < 18446744073709551616
 urls : s.urls.length ≤ maxLen
 calls : s.calls.length ≤ maxLen
 rel : s.rel.length ≤ maxLen ∧ ∀ x ∈ s.rel, x.length ≤ maxLen
set_option maxRecDepth 100000 in
theorem open_svc {H : Type} {enc : TypeId × Value → H} {W : World} {spare : Nat → Bool} {held : Bool} {fuel : Nat} {cs : List Value} {x : DataW H × List MemPlace} (h : DataW.trod enc Tryz.prog W 0 spare held fuel 101 cs = some x) : ∃ s : Sv, SvAt (im0 W) s cs ∧ s.fits := by
 obtain ⟨xs, n, _, _, hcl, hxl, hf⟩ := DataW.trod_struct Tryz.underlying101 h
 rw [show Tryz.prog.cellsOf 101 = 8 from by kernel_rfl] at hcl
 obtain ⟨y0, hy0⟩ : ∃ y, DataW.trod enc Tryz.prog W 0 spare held n 3 ((cs.drop 0).take (Tryz.prog.cellsOf 3)) = some y := ⟨_, (hf 0 _ rfl).trans (List.getElem?_eq_getElem (by rw [hxl]; decide))⟩
 rw [show Tryz.prog.cellsOf 3 = 1 from by kernel_rfl] at hy0
 obtain ⟨y1, hy1⟩ : ∃ y, DataW.trod enc Tryz.prog W 0 spare held n 32 ((cs.drop 1).take (Tryz.prog.cellsOf 32)) = some y := ⟨_, (hf 1 _ rfl).trans (List.getElem?_eq_getElem (by rw [hxl]; decide))⟩
 rw [show Tryz.prog.cellsOf 32 = 1 from by kernel_rfl] at hy1
 obtain ⟨y2, hy2⟩ : ∃ y, DataW.trod enc Tryz.prog W 0 spare held n 9 ((cs.drop 2).take (Tryz.prog.cellsOf 9)) = some y := ⟨_, (hf 2 _ rfl).trans (List.getElem?_eq_getElem (by rw [hxl]; decide))⟩
 rw [show Tryz.prog.cellsOf 9 = 1 from by kernel_rfl] at hy2
 obtain ⟨y3, hy3⟩ : ∃ y, DataW.trod enc Tryz.prog W 0 spare held n 4 ((cs.drop 3).take (Tryz.prog.cellsOf 4)) = some y := ⟨_, (hf 3 _ rfl).trans (List.getElem?_eq_getElem (by rw [hxl]; decide))⟩
 rw [show Tryz.prog.cellsOf 4 = 1 from by kernel_rfl] at hy3
 obtain ⟨y4, hy4⟩ : ∃ y, DataW.trod enc Tryz.prog W 0 spare held n 4 ((cs.drop 4).take (Tryz.prog.cellsOf 4)) = some y := ⟨_, (hf 4 _ rfl).trans (List.getElem?_eq_getElem (by rw [hxl]; decide))⟩
 rw [show Tryz.prog.cellsOf 4 = 1 from by kernel_rfl] at hy4
 obtain ⟨y5, hy5⟩ : ∃ y, DataW.trod enc Tryz.prog W 0 spare held n 4 ((cs.drop 5).take (Tryz.prog.cellsOf 4)) = some y := ⟨_, (hf 5 _ rfl).trans (List.getElem?_eq_getElem (by rw [hxl]; decide))⟩
 rw [show Tryz.prog.cellsOf 4 = 1 from by kernel_rfl] at hy5
 obtain ⟨y6, hy6⟩ : ∃ y, DataW.trod enc Tryz.prog W 0 spare held n 9 ((cs.drop 6).take (Tryz.prog.cellsOf 9)) = some y := ⟨_, (hf 6 _ rfl).trans (List.getElem?_eq_getElem (by rw [hxl]; decide))⟩
 rw [show Tryz.prog.cellsOf 9 = 1 from by kernel_rfl] at hy6
 obtain ⟨y7, hy7⟩ : ∃ y, DataW.trod enc Tryz.prog W 0 spare held n 41 ((cs.drop 7).take (Tryz.prog.cellsOf 41)) = some y := ⟨_, (hf 7 _ rfl).trans (List.getElem?_eq_getElem (by rw [hxl]; decide))⟩
 rw [show Tryz.prog.cellsOf 41 = 1 from by kernel_rfl] at hy7
 obtain ⟨v0, v1, v2, v3, v4, v5, v6, v7, rfl⟩ : ∃ v0 v1 v2 v3 v4 v5 v6 v7, cs = [v0, v1, v2, v3, v4, v5, v6, v7] := by
  match cs, hcl with
  | [a, b, c, d, e, f, g, h], _ => exact ⟨a, b, c, d, e, f, g, h, rfl⟩
 simp only [List.drop_succ_cons, List.drop_zero, List.take_succ_cons, List.take_zero] at hy0 hy1 hy2 hy3 hy4 hy5 hy6 hy7
 obtain ⟨z0, e0, _, w0⟩ := DataW.trod_int Tryz.underlying3 hy0
 obtain ⟨z1, e1, w1⟩ := trod_float_ Tryz.underlying32 hy1
 obtain ⟨z2, e2, _, w2⟩ := DataW.trod_string Tryz.underlying9 hy2
 obtain ⟨z3, e3, _⟩ := DataW.trod_bool Tryz.underlying4 hy3
 obtain ⟨z4, e4, _⟩ := DataW.trod_bool Tryz.underlying4 hy4
 obtain ⟨z5, e5, _⟩ := DataW.trod_bool Tryz.underlying4 hy5
 obtain ⟨z6, e6, _, w6⟩ := DataW.trod_string Tryz.underlying9 hy6
 obtain ⟨a, c, l, e7, h1, h2, h3, h4⟩ := open_texts Tryz.underlying41 Tryz.underlying9 (by kernel_rfl) hy7
 simp only [List.cons.injEq, and_true] at e0 e1 e2 e3 e4 e5 e6 e7
 subst e0 e1 e2 e3 e4 e5 e6 e7
 refine ⟨⟨z0, z1, z2.data.toList, z3, z4, z5, z6.data.toList, l⟩, ⟨a, c, rfl, h1, h3⟩, ⟨?_, of_decide_eq_true (show decide (z1 < 18446744073709551616) = true from w1), w2, w6, by (try dsimp only); omega, h4⟩⟩
 have h0 := w0
 simp only [Lit.wf, Bool.and_eq_true, decide_eq_true_eq] at h0
 exact ⟨h0.1, h0.2⟩
theorem open_svcs {H : Type} {enc : TypeId × Value → H} {W : World} {spare : Nat → Bool} {held : Bool} {fuel : Nat} {cs : List Value} {x : DataW H × List MemPlace} (h : DataW.trod enc Tryz.prog W 0 spare held fuel 27 cs = some x) :
  ∃ (a : Option Addr) (cap : Nat) (L : List (List Value)) (l : List Sv), cs = [.slice a L.length cap] ∧ L.length ≤ cap ∧ cap ≤ maxLen ∧ L.length = l.length ∧ (∀ c ∈ L, c.length = 8) ∧ RS (im0 W) a 8 L.length L.flatten ∧ ∀ (i : Nat) (s : Sv), l[i]? = some s → s.fits ∧ ∃ c, L[i]? = some c ∧ SvAt (im0 W) s c := by
 obtain ⟨a, cap, L, n, rfl, h1, h2, h3, h4, h5⟩ := open_rows (c := 8) Tryz.underlying27 (by kernel_rfl) (by decide) h
 have key : ∀ L : List (List Value), (∀ l ∈ L, ∃ y, DataW.trod enc Tryz.prog W 0 spare held n 101 l = some y) → ∃ l : List Sv, L.length = l.length ∧ ∀ (i : Nat) (s : Sv), l[i]? = some s → s.fits ∧ ∃ c, L[i]? = some c ∧ SvAt (im0 W) s c := by
  intro L
  induction L with
  | nil => intro _; exact ⟨[], rfl, fun i s h => by simp at h⟩
  | cons c L ih =>
   intro h
   obtain ⟨y, hy⟩ := h c (by simp)
   obtain ⟨s, hs, hf⟩ := open_svc hy
   obtain ⟨l, e1, e2⟩ := ih (fun c hc => h c (by simp [hc]))
   refine ⟨s :: l, by simp [e1], fun i u hu => ?_⟩
   cases i with
   | zero => simp at hu; subst hu; exact ⟨hf, c, rfl, hs⟩
   | succ i => simpa using e2 i u (by simpa using hu)
 obtain ⟨l, e1, e2⟩ := key L h5
 exact ⟨a, cap, L, l, rfl, h1, h2, e1, h3, h4, e2⟩
def SvsAt (I : Im) (a : Option Addr) (l : List Sv) : Prop := ∀ (i : Nat) (s : Sv), l[i]? = some s → ∃ p ra rc, a = some p ∧ At I (p.add (i * 8)) (svCells s ra rc) ∧ s.rel.length ≤ rc ∧ RS I ra 1 s.rel.length (s.rel.map S)
theorem SvsAt.mono {I J : Im} {a : Option Addr} {l : List Sv} (h : SvsAt I a l) (hl : Le I J) : SvsAt J a l := fun i s hs => by
 obtain ⟨p, ra, rc, e, h1, h2, h3⟩ := h i s hs
 exact ⟨p, ra, rc, e, h1.mono hl, h2, h3.mono hl⟩
theorem at_take {I : Im} {p : Addr} {vs : List Value} (h : At I p vs) (n : Nat) : At I p (vs.take n) := by
 obtain ⟨h1, arr, E, fr, h2, h3⟩ := h
 refine ⟨h1, arr, E, fr, h2, fun j v hj => ?_⟩
 rw [List.getElem?_take] at hj
 split at hj
 ·exact h3 j v hj
 ·cases hj
theorem svs_of {I : Im} {a : Option Addr} {L : List (List Value)} {l : List Sv} (h8 : ∀ c ∈ L, c.length = 8) (hR : RS I a 8 L.length L.flatten) (h : ∀ (i : Nat) (s : Sv), l[i]? = some s → ∃ c, L[i]? = some c ∧ SvAt I s c) : SvsAt I a l := fun i s hs => by
 obtain ⟨c, hc, ra, rc, rfl, h1, h2⟩ := h i s hs
 obtain ⟨p, rfl, hp⟩ := hR.2 (by have := (List.getElem?_eq_some_iff.1 hc).1; omega)
 have h3 := at_take (hp.add (i * 8)) 8
 rw [flat_piece L h8 i _ hc] at h3
 exact ⟨p, ra, rc, rfl, h3, h1, h2⟩
end Go.Proofs.YtadhiihnnkcagaaGreatDoor
namespace Go.Proofs.YtadhiihnnkcagaaGreatDoor
open Gk Pc Ul Pat
set_option linter.unusedVariables false
set_option linter.unusedSimpArgs false
theorem bld134_155 : Bld Tryz.prog 134 [(0, 1), (1, 1), (2, 1), (3, 1), (4, 1), (5, 1)] [S [], S [], .int .i64 0, S [], S [], .bool false] := bld_of Tryz.underlying134 Tryz.zeroValue134 (fun w => by simp [go_sem])
theorem dec_len (n : Nat) (h : n ≤ 65535) : (Go.Lib.decDigits n).length ≤ 5 := by
 rw [Go.Lib.decDigits_length]
 have step : ∀ k m, m < 10 ^ (k + 1) → Go.Lib.nDigits m ≤ k + 1 := by
  intro k
  induction k with
  | zero => intro m hm; rw [Go.Lib.nDigits_small (by simpa using hm)]; exact Nat.le_refl _
  | succ k ih =>
   intro m hm
   by_cases h10 : m < 10
   ·rw [Go.Lib.nDigits_small h10]; omega
   ·rw [Go.Lib.nDigits_big h10]
    have := ih (m / 10) (by rw [Nat.pow_succ] at hm; omega)
    omega
 exact step 4 n (by omega)
theorem uOrigin_any (u : U) (hu : SmallU u) (B w : World) (I : Im) (hK : Known I) (As : List Assn) (hS : Sat B w I As) :
  Calls Tryz.prog 155 [.agg [S u.sch, S u.host, I64 (u.port : Nat), S u.path, S u.query, .bool u.ask].toArray].toArray w (Ret fun v w' => v = S (origin u) ∧ Sat B w' I As) := by
 refine calls Tryz.func155 rfl Tryz.ntmps155 rfl (.seq (.region (.boxA (cs := [_, _, _, _, _, _]) hS (.of rfl) rfl ?_)))
 clear hS; intro b1 w hS
 refine .run 1 rfl trivial (.nil (.seq ?_))
 obtain ⟨hs1, hs2, hp, hs4, hs5⟩ := hu
 have hd5 := dec_len u.port hp
 refine .region (.val (.fieldAddr 0 (.of rfl) Tryz.underlying134 rfl rfl Tryz.sizeOf9 rfl) rfl (.val (.ld (.of rfl) hS (k := 0) rfl Tryz.isAgg9 rfl) rfl ?_))
 refine WL.run 1 rfl ⟨by (try simp only [List.length_append, List.length_cons, List.length_nil]); omega, trivial⟩ ?_
 refine .val (.fieldAddr 1 (.of rfl) Tryz.underlying134 rfl rfl Tryz.sizeOf9 rfl) rfl (.val (.ld (.of rfl) hS (k := 0) rfl Tryz.isAgg9 rfl) rfl ?_)
 refine WL.run 2 rfl ⟨by (try simp only [List.length_append, List.length_cons, List.length_nil]); omega, trivial⟩ ?_
 refine .nil (.seq (.seq (.region (.val (.fieldAddr 2 (.of rfl) Tryz.underlying134 rfl rfl Tryz.sizeOf3 rfl) rfl (.val (.ld (.of rfl) hS (k := 0) rfl Tryz.isAgg3 rfl) rfl (.run 1 rfl trivial (.nil ?_)))))))
 refine WC.cond rfl (fun hb12 => ?_) (fun hb12 => ?_)
 ·
  have hc12 := hb12; try simp only [Gk.cs0] at hc12
  refine .region (.run 1 rfl trivial (.val (.fieldAddr 2 (.of rfl) Tryz.underlying134 rfl rfl Tryz.sizeOf3 rfl) rfl (.val (.ld (.of rfl) hS (k := 0) rfl Tryz.isAgg3 rfl) rfl (.call Tryz.func189 rfl (evs_cons (.of rfl) evs_nil) rfl (Itoa_any u.port hp B _ I hK _ hS) ?_))))
  clear hS
  rintro _ w ⟨rfl, hS⟩
  refine WL.run 3 rfl ⟨by (try simp only [List.length_append, List.length_cons, List.length_nil]); omega, by (try simp only [List.length_append, List.length_cons, List.length_nil]); omega, trivial⟩ ?_
  refine .nil (.seq (.region (.run 2 rfl trivial (.nil (.ret (ret1 Tryz.results155 rfl ?_))))))
  refine ⟨_, rfl, ?_, hS.drop (k := 0) rfl⟩
  rw [origin, if_neg (by omega)]
  simp [List.append_assoc]
 have hc12 := hb12; try simp only [Gk.cs0] at hc12
 refine .skip (.seq (.region (.run 2 rfl trivial (.nil (.ret (ret1 Tryz.results155 rfl ?_))))))
 refine ⟨_, rfl, ?_, hS.drop (k := 0) rfl⟩
 rw [origin, if_pos (by omega)]
 simp [List.append_assoc]
theorem origin_len (u : U) (hu : SmallU u) : (origin u).length ≤ 3000000 := by
 obtain ⟨hs1, hs2, hp, hs4, hs5⟩ := hu
 have hd5 := dec_len u.port hp
 unfold origin
 split <;> simp only [List.length_append, List.length_cons, List.length_nil] <;> omega
theorem uString_any (u : U) (hu : SmallU u) (B w : World) (I : Im) (hK : Known I) (As : List Assn) (hS : Sat B w I As) :
  Calls Tryz.prog 113 [.agg [S u.sch, S u.host, I64 (u.port : Nat), S u.path, S u.query, .bool u.ask].toArray].toArray w (Ret fun v w' => v = S (strU u) ∧ Sat B w' I As) := by
 refine calls Tryz.func113 rfl Tryz.ntmps113 rfl (.seq (.region (.boxA (cs := [_, _, _, _, _, _]) hS (.of rfl) rfl ?_)))
 clear hS; intro b1 w hS
 refine .run 1 rfl trivial (.nil (.seq ?_))
 have hol := origin_len u hu
 obtain ⟨hs1, hs2, hp, hs4, hs5⟩ := id hu
 refine .drawn (fun w => ∃ R, Sat B w I (blk b1 [S u.sch, S u.host, I64 (u.port : Nat), S u.path, S u.query, .bool u.ask] 134 :: R)) (fun j => !([].contains j)) (by kernel_rfl) ?_
 replace hS := hS.drew; generalize w.drew = w at hS ⊢
 have hH : ∃ R, Sat B w I (blk b1 [S u.sch, S u.host, I64 (u.port : Nat), S u.path, S u.query, .bool u.ask] 134 :: R) := ⟨_, (hS.pick 0 rfl)⟩
 refine .take (i := 0) rfl (by kernel_rfl) (by kernel_rfl) (by kernel_rfl) (by kernel_rfl) hH (fun w ⟨R, hS⟩ => (.ldsW (cs := [_, _, _, _, _, _]) (.of rfl) hS (k := 0) rfl Tryz.isAgg134 Tryz.sizeOf134 rfl)) rfl (.takeP (i := 2) rfl (by kernel_rfl) (by kernel_rfl) (by kernel_rfl) (fun w => (.fieldAddr 3 (.of rfl) Tryz.underlying134 rfl rfl Tryz.sizeOf9 rfl)) rfl (.take (i := 3) rfl (by kernel_rfl) (by kernel_rfl) (by kernel_rfl) (by kernel_rfl) hH (fun w ⟨R, hS⟩ => (.ld (.of rfl) hS (k := 0) rfl Tryz.isAgg9 rfl)) rfl ?_))
 refine WD.branch [1] (by kernel_rfl) rfl (WO.cons rfl ?_ (WO.nil))
 refine .call Tryz.func155 rfl (evs_cons (.of rfl) evs_nil) rfl (uOrigin_any u hu B _ I hK _ hS) ?_
 clear hS
 rintro _ w ⟨rfl, hS⟩
 refine .nil ?_
 clear hH
 have hH : ∃ R, Sat B w I (blk b1 [S u.sch, S u.host, I64 (u.port : Nat), S u.path, S u.query, .bool u.ask] 134 :: R) := ⟨_, (hS.pick 0 rfl)⟩
 refine And.intro (by intro _ _; exact hH) ?_
 refine WD.takeP (i := 4) rfl (by kernel_rfl) (by kernel_rfl) (by kernel_rfl) (fun w => (.cat (.of rfl) (.of rfl) (by (try simp only [List.length_append, List.length_cons, List.length_nil]); omega))) rfl ?_
 refine .takeP (i := 5) rfl (by kernel_rfl) (by kernel_rfl) (by kernel_rfl) (fun w => (.assign (.of rfl))) rfl (.done (by kernel_rfl) (.seq (.seq (.region (.val (.fieldAddr 5 (.of rfl) Tryz.underlying134 rfl rfl Tryz.sizeOf4 rfl) rfl (.val (.ld (.of rfl) hS (k := 0) rfl Tryz.isAgg4 rfl) rfl (.nil ?_)))))))
 refine WC.cond rfl (fun hb10 => ?_) (fun hb10 => ?_)
 ·
  have hc10 := hb10; try simp only [Gk.cs0] at hc10
  refine .region (.run 1 rfl trivial (.val (.fieldAddr 4 (.of rfl) Tryz.underlying134 rfl rfl Tryz.sizeOf9 rfl) rfl (.val (.ld (.of rfl) hS (k := 0) rfl Tryz.isAgg9 rfl) rfl ?_)))
  refine WL.run 3 rfl ⟨by (try simp only [List.length_append, List.length_cons, List.length_nil]); omega, by (try simp only [List.length_append, List.length_cons, List.length_nil]); omega, trivial⟩ ?_
  refine .nil (.seq (.region (.run 2 rfl trivial (.nil (.ret (ret1 Tryz.results113 rfl ?_))))))
  refine ⟨_, rfl, ?_, hS.drop (k := 0) rfl⟩
  rw [strU, if_pos hc10]
  simp [List.append_assoc]
 have hc10 := hb10; try simp only [Gk.cs0] at hc10
 refine .skip (.seq (.region (.run 2 rfl trivial (.nil (.ret (ret1 Tryz.results113 rfl ?_))))))
 refine ⟨_, rfl, ?_, hS.drop (k := 0) rfl⟩
 rw [strU, if_neg (by rw [hc10]; decide), List.append_nil]
theorem cut_small (s sep : List UInt8) : (Go.Lib.cut s sep).1.length ≤ s.length ∧ (Go.Lib.cut s sep).2.1.length ≤ s.length := by
 unfold Go.Lib.cut
 split
 ·simp only [List.length_take, List.length_drop]; omega
 ·simp
theorem CutSign_e (s : List UInt8) (hs : s.length ≤ 1000000) (B w : World) (I : Im) (hK : Known I) (As : List Assn) (hS : Sat B w I As) : Calls Tryz.prog 146 [S s, S SIGN].toArray w (Ret fun v w' => ∃ sc rs ok, v = .tuple #[S sc, S rs, .bool ok] ∧ schemeOf s = (if ok = true ∧ (low sc = http ∨ low sc = https) then some (low sc, rs) else none) ∧ sc.length ≤ s.length ∧ rs.length ≤ s.length ∧ Sat B w' I As) :=
 (CutSign_any s hs B w I hK As hS).mono fun e w' he => by
  obtain ⟨v, rfl, rfl, h⟩ := he
  obtain ⟨h1, h2⟩ := cut_small s SIGN
  exact ⟨_, rfl, _, _, _, rfl, scheme_cut s, h1, h2, h⟩
theorem partU_len {s t : List UInt8} (h : partU s = some t) : t.length ≤ s.length := by
 unfold partU at h
 split at h
 ·exact norm_len s t h
 ·cases h
theorem normal_e (s : List UInt8) (hl : s.length ≤ 1000000) (B w : World) (I : Im) (hK : Known I) (As : List Assn) (hS : Sat B w I As) : Calls Tryz.prog 153 [S s].toArray w (Ret fun v w' => ∃ n1 e1, v = .tuple #[S n1, I64 e1] ∧ (match partU s with | none => n1 = [] ∧ e1 = 15 | some t => n1 = t ∧ e1 = 0) ∧ n1.length ≤ s.length ∧ Sat B w' I As) :=
 (normal_any s hl B w I hK.dig As hS).mono fun e w' he => by
  obtain ⟨v, rfl, rfl, h⟩ := he
  cases hp : partU s with
  | none => exact ⟨_, rfl, _, _, rfl, ⟨rfl, rfl⟩, Nat.zero_le _, h⟩
  | some t => exact ⟨_, rfl, _, _, rfl, ⟨rfl, rfl⟩, partU_len hp, h⟩
theorem port_e (s sch : List UInt8) (hl : s.length ≤ 1000000) (w : World) : Calls Tryz.prog 152 [S s, S sch].toArray w (Ret fun v w' => (∃ pn : Nat, v = .tuple #[I64 (pn : Nat), .bool (portOk s)] ∧ pn ≤ 65535 ∧ (portOk s = true → pn = portV s sch)) ∧ w = w') :=
 (port_any s sch hl w).mono fun e w' he => by
  obtain ⟨v, rfl, rfl, h⟩ := he
  refine ⟨_, rfl, ?_, h⟩
  cases hp : portOk s with
  | false => exact ⟨0, rfl, by decide, fun e => by cases e⟩
  | true =>
   refine ⟨portV s sch, rfl, ?_, fun _ => rfl⟩
   unfold portV
   split
   ·decide
   ·unfold portOk at hp
    simp only [Bool.and_eq_true, decide_eq_true_eq] at hp
    exact hp.2
theorem upto_len (a s : List UInt8) : (upto a s).length ≤ s.length := by
 have := congrArg List.length (upto_from a s)
 rw [List.length_append] at this; omega
theorem from_len (a s : List UInt8) : (from_ a s).length ≤ s.length := by
 have := congrArg List.length (upto_from a s)
 rw [List.length_append] at this; omega
theorem asc4 : Asc [47, 63, 35, 58] := fun j b h => by
 match j, h with
 | 0, h => cases h; decide
 | 1, h => cases h; decide
 | 2, h => cases h; decide
 | 3, h => cases h; decide
 | _ + 4, h => simp at h
theorem asc3 : Asc [47, 63, 35] := fun j b h => by
 match j, h with
 | 0, h => cases h; decide
 | 1, h => cases h; decide
 | 2, h => cases h; decide
 | _ + 3, h => simp at h
theorem pre_take (r : List UInt8) : hasPre r [58] = true ↔ r.take 1 = [58] := by
 cases r with
 | nil => simp [hasPre]
 | cons a b => simp [hasPre]; intro _; omega
set_option maxHeartbeats 800000 in
theorem uParse_any (s : List UInt8) (hl : s.length ≤ 1000000) (B w : World) (I : Im) (hK : Known I) (As : List Assn) (hS : Sat B w I As) :
  Calls Tryz.prog 112 [S s].toArray w (Ret fun v w' => v = .tuple #[.agg (uc (pU s).1).toArray, I64 ((pU s).2 : Nat)] ∧ Sat B w' I As) := by
 refine calls Tryz.func112 rfl Tryz.ntmps112 rfl (.seq (.region (.allocA (cs := [_, _, _, _, _, _]) hS Tryz.zeroValue134 rfl ?_)))
 clear hS; intro b2 w hS
 refine .run 1 rfl trivial (.nil (.seq (.seq (.region (.run 3 rfl ⟨Tryz.underlying9, trivial⟩ (.nil ?_))))))
 refine WC.cond rfl (fun hb15 => ?_) (fun hb15 => ?_)
 ·
  have hc15 := hb15; try simp only [Gk.cs0] at hc15
  refine .seq (.region (.val (.build (cs := [_, _, _, _, _, _]) parts_nil bld134_155 rfl) rfl (.stA hS (k := 0) rfl (.of rfl) (.of rfl) rfl Tryz.sizeOf134 rfl (by simp) ?_)))
  clear hS; intro w hS; try dsimp only [List.set] at hS
  try simp only [List.take_zero, List.nil_append, List.append_nil, List.drop_succ_cons, List.drop_zero, List.drop_nil, Nat.zero_add] at hS
  refine .run 1 rfl trivial (.nil (.ret (ret2c (b := _) (cs := [_, _, _, _, _, _]) Tryz.results112 hS (k := 0) rfl Tryz.isAgg134 Tryz.sizeOf134 rfl rfl rfl ?_)))
  exact ⟨_, rfl, by rw [pU, if_pos (by omega)]; rfl, (hS.drop (k := 0) rfl)⟩
 have hc15 := hb15; try simp only [Gk.cs0] at hc15
 refine .skip (.seq (.region (.run 1 rfl trivial (.call Tryz.func146 rfl (evs_cons (.of rfl) (evs_cons (.of rfl) evs_nil)) rfl (CutSign_e s (by omega) B _ I hK _ hS) ?_))))
 clear hS
 rintro _ w ⟨sc, rs, ok, rfl, hsc, hscl, hrsl, hS⟩
 refine .run 7 rfl trivial (.nil (.seq (.region (.run 1 rfl trivial (.call Tryz.func148 rfl (evs_cons (.of rfl) evs_nil) rfl (lower_any sc (by omega) B _ I _ hS) ?_)))))
 clear hS
 rintro _ w ⟨rfl, hS⟩
 refine .run 1 rfl trivial (.nil (.seq (.seq (.region (.run 3 rfl trivial (.gval rfl rfl (fun hg1 => (.move (.of rfl))) rfl (.gval rfl rfl (fun hg1 => (.nes (.gd hg1 rfl) (.of rfl))) rfl (.gval rfl rfl (fun hg1 => (.move (.gd hg1 rfl))) rfl (.gval2 rfl rfl rfl (fun hg1 hg2 => (.move (.of rfl))) rfl (.gval2 rfl rfl rfl (fun hg1 hg2 => (.nes (.gd2 hg1 hg2 rfl) (.of rfl))) rfl (.gval rfl rfl (fun hg1 => (.pand (.gd hg1 rfl) (.gd hg1 rfl) (.of rfl))) rfl (.val (.por (.of rfl) (.of rfl) (.of rfl)) rfl (.nil ?_)))))))))))))
 refine WC.cond rfl (fun hb34 => ?_) (fun hb34 => ?_)
 ·
  have hc34 := hb34; try simp only [Gk.cs0] at hc34
  refine .seq (.region (.val (.build (cs := [_, _, _, _, _, _]) parts_nil bld134_155 rfl) rfl (.stA hS (k := 0) rfl (.of rfl) (.of rfl) rfl Tryz.sizeOf134 rfl (by simp) ?_)))
  clear hS; intro w hS; try dsimp only [List.set] at hS
  try simp only [List.take_zero, List.nil_append, List.append_nil, List.drop_succ_cons, List.drop_zero, List.drop_nil, Nat.zero_add] at hS
  refine .run 1 rfl trivial (.nil (.ret (ret2c (b := _) (cs := [_, _, _, _, _, _]) Tryz.results112 hS (k := 0) rfl Tryz.isAgg134 Tryz.sizeOf134 rfl rfl rfl ?_)))
  refine ⟨_, rfl, ?_, (hS.drop (k := 0) rfl)⟩
  rw [pU, if_neg (by omega), hsc, if_neg]
  ·rfl
  ·rintro ⟨h1, h2⟩
   rw [h1] at hb34
   rcases h2 with h | h <;> rw [h] at hb34 <;> simp [http, https] at hb34
 have hc34 := hb34; try simp only [Gk.cs0] at hc34
 refine .skip (.seq ?_)
 have hok : ok = true ∧ (low sc = http ∨ low sc = https) := hc34
 rw [if_pos hok] at hsc
 have hlow := low_len sc
 refine .region (.run 1 rfl trivial (.val (.build (cs := [_, _, _, _, _, _]) (parts_cons (.of rfl) parts_nil) bld134_155 rfl) rfl (.allocA (cs := [_, _, _, _, _, _]) hS Tryz.zeroValue134 rfl ?_)))
 clear hS; intro b7 w hS
 refine .stA hS (k := 0) rfl (.of rfl) (.of rfl) rfl Tryz.sizeOf134 rfl (by simp) ?_
 clear hS; intro w hS; try dsimp only [List.set] at hS
 try simp only [List.take_zero, List.nil_append, List.append_nil, List.drop_succ_cons, List.drop_zero, List.drop_nil, Nat.zero_add] at hS
 refine .nil (.seq (.region (.run 1 rfl trivial (.call Tryz.func149 rfl (evs_cons (.of rfl) (evs_cons (.of rfl) evs_nil)) rfl (cut_any rs [47, 63, 35, 58] (by omega) asc4 (by decide) (by decide) B _ I _ hS) ?_))))
 clear hS
 rintro _ w ⟨rfl, hS⟩
 refine .run 3 rfl trivial (.val (.fieldAddr 1 (.of rfl) Tryz.underlying134 rfl rfl Tryz.sizeOf9 rfl) rfl (.st1 hS (k := 0) rfl (.of rfl) (.of rfl) rfl Tryz.sizeOf9 (by simp) ?_))
 clear hS; intro w hS; try dsimp only [List.set] at hS
 refine .run 1 rfl trivial (.nil (.seq (.seq (.region (.val (.fieldAddr 1 (.of rfl) Tryz.underlying134 rfl rfl Tryz.sizeOf9 rfl) rfl (.val (.ld (.of rfl) hS (k := 0) rfl Tryz.isAgg9 rfl) rfl ?_))))))
 refine WL.call Tryz.func148 rfl (evs_cons (.of rfl) evs_nil) rfl (lower_any _ (by have := upto_len [47, 63, 35, 58] rs; omega) B _ I _ hS) ?_
 clear hS
 rintro _ w ⟨rfl, hS⟩
 refine .val (.fieldAddr 1 (.of rfl) Tryz.underlying134 rfl rfl Tryz.sizeOf9 rfl) rfl (.st1 hS (k := 0) rfl (.of rfl) (.of rfl) rfl Tryz.sizeOf9 (by simp) ?_)
 clear hS; intro w hS; try dsimp only [List.set] at hS
 refine .nil (.seq (.region (.val (.fieldAddr 1 (.of rfl) Tryz.underlying134 rfl rfl Tryz.sizeOf9 rfl) rfl (.val (.ld (.of rfl) hS (k := 0) rfl Tryz.isAgg9 rfl) rfl (.call Tryz.func150 rfl (evs_cons (.of rfl) evs_nil) rfl (host_any _ _) ?_)))))
 rintro _ _ ⟨rfl, rfl⟩
 refine .run 1 rfl trivial (.nil ?_)
 refine WC.cond rfl (fun hb51 => ?_) (fun hb51 => ?_)
 ·
  have hc51 := hb51; try simp only [Gk.cs0] at hc51
  refine .seq (.region (.val (.build (cs := [_, _, _, _, _, _]) parts_nil bld134_155 rfl) rfl (.stA hS (k := 1) rfl (.of rfl) (.of rfl) rfl Tryz.sizeOf134 rfl (by simp) ?_)))
  clear hS; intro w hS; try dsimp only [List.set] at hS
  try simp only [List.take_zero, List.nil_append, List.append_nil, List.drop_succ_cons, List.drop_zero, List.drop_nil, Nat.zero_add] at hS
  refine .run 1 rfl trivial (.nil (.ret (ret2c (b := _) (cs := [_, _, _, _, _, _]) Tryz.results112 hS (k := 1) rfl Tryz.isAgg134 Tryz.sizeOf134 rfl rfl rfl ?_)))
  refine ⟨_, rfl, ?_, ((hS.drop (k := 0) rfl).drop (k := 0) rfl)⟩
  rw [pU, if_neg (by omega), hsc]
  simp only
  rw [hostOf, if_neg (by simpa using hb51)]; rfl
 have hc51 := hb51; try simp only [Gk.cs0] at hc51
 refine .skip ?_
 refine WC.cutS (σ := Nat × List UInt8) (fun ⟨port, r⟩ => [(2, ptr b2 0), (5, S r), (7, ptr b7 0)]) (fun ⟨port, r⟩ w => pU s = tailU (low sc) (low (upto [47, 63, 35, 58] rs)) port r ∧ port ≤ 65535 ∧ r.length ≤ 2000 ∧ Sat B w I (blk b7 [S (low sc), S (low (upto [47, 63, 35, 58] rs)), I64 (port : Nat), S [], S [], .bool false] 134 :: blk b2 [S [], S [], I64 0, S [], S [], .bool false] 134 :: As)) ?_ ?_
 ·
  refine .seq (.region (.run 1 rfl trivial ?_))
  refine WL.call Tryz.func151 rfl (evs_cons (.of rfl) (evs_cons (.of rfl) evs_nil)) rfl (HasPrefix_any _ [58] _ (by have := from_len [47, 63, 35, 58] rs; omega) (by decide)) ?_
  rintro _ _ ⟨rfl, rfl⟩
  refine .nil ?_
  refine WC.cond rfl (fun hb54 => ?_) (fun hb54 => ?_)
  ·
   have hc54 := hb54; try simp only [Gk.cs0] at hc54
   refine .seq ?_
   have htk := (pre_take _).1 hb54
   have hfl := from_len [47, 63, 35, 58] rs
   have hr1 : 1 ≤ (from_ [47, 63, 35, 58] rs).length := by
    have := congrArg List.length htk
    rw [List.length_take, List.length_cons, List.length_nil] at this; omega
   refine .region (.run 1 rfl trivial (.nil (.seq (.region (.run 1 rfl trivial (.val (.subFrom (.of rfl) (.of rfl) (by omega) (by omega) Tryz.underlying9) rfl ?_))))))
   refine WL.call Tryz.func149 rfl (evs_cons (.of rfl) (evs_cons (.of rfl) evs_nil)) rfl (cut_any ((from_ [47, 63, 35, 58] rs).drop 1) [47, 63, 35] (by rw [List.length_drop]; have := from_len [47, 63, 35, 58] rs; omega) asc3 (by decide) (by decide) B _ I _ hS) ?_
   clear hS
   rintro _ w ⟨rfl, hS⟩
   refine .run 5 rfl trivial (.nil (.seq (.region (.run 2 rfl trivial ?_))))
   refine WL.call Tryz.func152 rfl (evs_cons (.of rfl) (evs_cons (.of rfl) evs_nil)) rfl (port_e _ (low sc) (by have := upto_len [47, 63, 35] ((from_ [47, 63, 35, 58] rs).drop 1); have := from_len [47, 63, 35, 58] rs; rw [List.length_drop] at *; omega) _) ?_
   rintro _ _ ⟨⟨pn, rfl, hpn, hpv⟩, rfl⟩
   refine .run 3 rfl trivial (.val (.fieldAddr 2 (.of rfl) Tryz.underlying134 rfl rfl Tryz.sizeOf3 rfl) rfl (.st1 hS (k := 0) rfl (.of rfl) (.of rfl) rfl Tryz.sizeOf3 (by simp) ?_))
   clear hS; intro w hS; try dsimp only [List.set] at hS
   refine .run 1 rfl trivial (.nil (.seq (.region (.run 2 rfl trivial (.nil ?_)))))
   refine WC.cond rfl (fun hb69 => ?_) (fun hb69 => ?_)
   ·
    have hc69 := hb69; try simp only [Gk.cs0] at hc69
    refine .seq (.region (.val (.build (cs := [_, _, _, _, _, _]) parts_nil bld134_155 rfl) rfl (.stA hS (k := 1) rfl (.of rfl) (.of rfl) rfl Tryz.sizeOf134 rfl (by simp) ?_)))
    clear hS; intro w hS; try dsimp only [List.set] at hS
    try simp only [List.take_zero, List.nil_append, List.append_nil, List.drop_succ_cons, List.drop_zero, List.drop_nil, Nat.zero_add] at hS
    refine .run 1 rfl trivial (.nil (.ret (ret2c (b := _) (cs := [_, _, _, _, _, _]) Tryz.results112 hS (k := 1) rfl Tryz.isAgg134 Tryz.sizeOf134 rfl rfl rfl ?_)))
    refine ⟨_, rfl, ?_, ((hS.drop (k := 0) rfl).drop (k := 0) rfl)⟩
    rw [pU, if_neg (by omega), hsc]
    simp only
    rw [hostOf, if_pos (by simpa using hb51), behind, if_pos htk, if_neg (by simpa using hb69)]; rfl
   have hc69 := hb69; try simp only [Gk.cs0] at hc69
   refine .skip ?_
   have hok2 : portOk (upto [47, 63, 35] ((from_ [47, 63, 35, 58] rs).drop 1)) = true := by simpa using hb69
   have hpp := hpv hok2
   refine ⟨(pn, _), ⟨rfl, rfl, rfl, trivial⟩, ?_, hpn, ?_, hS⟩
   ·rw [pU, if_neg (by omega), hsc]
    simp only
    rw [hostOf, if_pos (by simpa using hb51), behind, if_pos htk, if_pos hok2, hpp]
   ·have := from_len [47, 63, 35] ((from_ [47, 63, 35, 58] rs).drop 1)
    rw [List.length_drop] at this
    omega
  have hc54 := hb54; try simp only [Gk.cs0] at hc54
  refine .skip ?_
  refine ⟨(0, _), ⟨rfl, rfl, rfl, trivial⟩, ?_, by decide, ?_, hS⟩
  ·rw [pU, if_neg (by omega), hsc]
   simp only
   rw [hostOf, if_pos (by simpa using hb51), behind, if_neg (fun e => by rw [(pre_take _).2 e] at hb54; cases hb54)]
  ·have := from_len [47, 63, 35, 58] rs
   omega
 rintro ⟨port, r⟩ w ⟨hpu, hport, hrl, hS⟩
 change WC _ _ _ _ [(2, ptr b2 0), (5, S r), (7, ptr b7 0)] w
 refine .seq (.region (.run 1 rfl trivial (.call Tryz.func146 rfl (evs_cons (.of rfl) (evs_cons (.of rfl) evs_nil)) rfl (CutOne_any r 63 (by omega) B _ I hK _ hS) ?_)))
 clear hS
 rintro _ w ⟨rfl, hS⟩
 refine .run 7 rfl trivial (.nil (.seq (.region (.run 1 rfl trivial ?_))))
 refine WL.call Tryz.func153 rfl (evs_cons (.of rfl) evs_nil) rfl (normal_e _ (by have := upto_len [63] r; omega) B _ I hK _ hS) ?_
 clear hS
 rintro _ w ⟨p1, e1, rfl, hp1, hp1l, hS⟩
 refine .run 5 rfl trivial (.nil (.seq (.seq (.region (.run 2 rfl trivial (.nil ?_))))))
 refine WC.cond rfl (fun hb83 => ?_) (fun hb83 => ?_)
 ·
  have hc83 := hb83; try simp only [Gk.cs0] at hc83
  refine .seq (.region (.val (.build (cs := [_, _, _, _, _, _]) parts_nil bld134_155 rfl) rfl (.run 1 rfl trivial (.stA hS (k := 1) rfl (.of rfl) (.of rfl) rfl Tryz.sizeOf134 rfl (by simp) ?_))))
  clear hS; intro w hS; try dsimp only [List.set] at hS
  try simp only [List.take_zero, List.nil_append, List.append_nil, List.drop_succ_cons, List.drop_zero, List.drop_nil, Nat.zero_add] at hS
  refine .run 1 rfl trivial (.nil (.ret (ret2c (b := _) (cs := [_, _, _, _, _, _]) Tryz.results112 hS (k := 1) rfl Tryz.isAgg134 Tryz.sizeOf134 rfl rfl rfl ?_)))
  refine ⟨_, rfl, ?_, ((hS.drop (k := 0) rfl).drop (k := 0) rfl)⟩
  rw [hpu, tailU]
  cases hp : partU (upto [63] r) with
  | none => rw [hp] at hp1; rw [hp1.2]; rfl
  | some t => rw [hp] at hp1; exact absurd hp1.2 hc83
 have hc83 := hb83; try simp only [Gk.cs0] at hc83
 refine .skip (.seq (.region (.run 1 rfl trivial ?_)))
 refine WL.call Tryz.func153 rfl (evs_cons (.of rfl) evs_nil) rfl (normal_e _ (by have := from_len [63] r; rw [List.length_drop]; omega) B _ I hK _ hS) ?_
 clear hS
 rintro _ w ⟨q1, e2, rfl, hq1, hq1l, hS⟩
 refine .run 3 rfl trivial (.val (.fieldAddr 4 (.of rfl) Tryz.underlying134 rfl rfl Tryz.sizeOf9 rfl) rfl (.st1 hS (k := 0) rfl (.of rfl) (.of rfl) rfl Tryz.sizeOf9 (by simp) ?_))
 clear hS; intro w hS; try dsimp only [List.set] at hS
 refine .run 1 rfl trivial (.nil (.seq (.seq (.region (.run 2 rfl trivial (.nil ?_))))))
 refine WC.cond rfl (fun hb93 => ?_) (fun hb93 => ?_)
 ·
  have hc93 := hb93; try simp only [Gk.cs0] at hc93
  refine .seq (.region (.val (.build (cs := [_, _, _, _, _, _]) parts_nil bld134_155 rfl) rfl (.run 1 rfl trivial (.stA hS (k := 1) rfl (.of rfl) (.of rfl) rfl Tryz.sizeOf134 rfl (by simp) ?_))))
  clear hS; intro w hS; try dsimp only [List.set] at hS
  try simp only [List.take_zero, List.nil_append, List.append_nil, List.drop_succ_cons, List.drop_zero, List.drop_nil, Nat.zero_add] at hS
  refine .run 1 rfl trivial (.nil (.ret (ret2c (b := _) (cs := [_, _, _, _, _, _]) Tryz.results112 hS (k := 1) rfl Tryz.isAgg134 Tryz.sizeOf134 rfl rfl rfl ?_)))
  refine ⟨_, rfl, ?_, ((hS.drop (k := 0) rfl).drop (k := 0) rfl)⟩
  rw [hpu, tailU]
  cases hp : partU (upto [63] r) with
  | none => rw [hp] at hp1; have := hp1.2; omega
  | some t =>
   cases hq : partU ((from_ [63] r).drop 1) with
   | none => rw [hq] at hq1; rw [hq1.2]; rfl
   | some t => rw [hq] at hq1; exact absurd hq1.2 hc93
 have hc93 := hb93; try simp only [Gk.cs0] at hc93
 refine .skip (.seq (.region (.run 1 rfl trivial ?_)))
 refine WL.call Tryz.func154 rfl (evs_cons (.of rfl) evs_nil) rfl (Dots_any p1 (by have := upto_len [63] r; omega) B _ I hK _ hS) ?_
 clear hS
 rintro _ w ⟨rfl, hS⟩
 refine .run 1 rfl trivial (.val (.fieldAddr 3 (.of rfl) Tryz.underlying134 rfl rfl Tryz.sizeOf9 rfl) rfl (.st1 hS (k := 0) rfl (.of rfl) (.of rfl) rfl Tryz.sizeOf9 (by simp) ?_))
 clear hS; intro w hS; try dsimp only [List.set] at hS
 refine .val (.fieldAddr 5 (.of rfl) Tryz.underlying134 rfl rfl Tryz.sizeOf4 rfl) rfl (.st1 hS (k := 0) rfl (.of rfl) (.of rfl) rfl Tryz.sizeOf4 (by simp) ?_)
 clear hS; intro w hS; try dsimp only [List.set] at hS
 refine .nil (.seq (.seq (.region (.val (.fieldAddr 3 (.of rfl) Tryz.underlying134 rfl rfl Tryz.sizeOf9 rfl) rfl (.val (.ld (.of rfl) hS (k := 0) rfl Tryz.isAgg9 rfl) rfl (.run 1 rfl trivial (.nil ?_)))))))
 refine WC.cond rfl (fun hb103 => ?_) (fun hb103 => ?_)
 ·
  have hc103 := hb103; try simp only [Gk.cs0] at hc103
  refine .region (.val (.fieldAddr 3 (.of rfl) Tryz.underlying134 rfl rfl Tryz.sizeOf9 rfl) rfl (.st1 hS (k := 0) rfl (.of rfl) (.of rfl) rfl Tryz.sizeOf9 (by simp) ?_))
  clear hS; intro w hS; try dsimp only [List.set] at hS
  refine .nil (.seq (.region (.val (.ldsW (cs := [_, _, _, _, _, _]) (.of rfl) hS (k := 0) rfl Tryz.isAgg134 Tryz.sizeOf134 rfl) rfl (.stA hS (k := 1) rfl (.of rfl) (.of rfl) rfl Tryz.sizeOf134 rfl (by simp) ?_))))
  clear hS; intro w hS; try dsimp only [List.set] at hS
  try simp only [List.take_zero, List.nil_append, List.append_nil, List.drop_succ_cons, List.drop_zero, List.drop_nil, Nat.zero_add] at hS
  refine .run 1 rfl trivial (.nil (.ret (ret2c (b := _) (cs := [_, _, _, _, _, _]) Tryz.results112 hS (k := 1) rfl Tryz.isAgg134 Tryz.sizeOf134 rfl rfl rfl ?_)))
  refine ⟨_, rfl, ?_, ((hS.drop (k := 0) rfl).drop (k := 0) rfl)⟩
  rw [hpu, tailU]
  cases hp : partU (upto [63] r) with
  | none => rw [hp] at hp1; have := hp1.2; omega
  | some t =>
   cases hq : partU ((from_ [63] r).drop 1) with
   | none => rw [hq] at hq1; have := hq1.2; omega
   | some q =>
    rw [hp] at hp1; rw [hq] at hq1
    obtain ⟨rfl, _⟩ := hp1
    obtain ⟨rfl, _⟩ := hq1
    have hif : (if p1 = [] then [47] else dots p1) = [47] := if_pos (by have := dots_nil p1; rw [hb103] at this; simpa using this.symm)
    show _ = Value.tuple #[.agg #[S (low sc), S (low (upto [47, 63, 35, 58] rs)), I64 (port : Nat), S (if p1 = [] then [47] else dots p1), S q1, .bool (!(from_ [63] r).isEmpty)], I64 0]
    rw [hif]
    rfl
 have hc103 := hb103; try simp only [Gk.cs0] at hc103
 refine .skip (.seq (.region (.val (.ldsW (cs := [_, _, _, _, _, _]) (.of rfl) hS (k := 0) rfl Tryz.isAgg134 Tryz.sizeOf134 rfl) rfl (.stA hS (k := 1) rfl (.of rfl) (.of rfl) rfl Tryz.sizeOf134 rfl (by simp) ?_))))
 clear hS; intro w hS; try dsimp only [List.set] at hS
 try simp only [List.take_zero, List.nil_append, List.append_nil, List.drop_succ_cons, List.drop_zero, List.drop_nil, Nat.zero_add] at hS
 refine .run 1 rfl trivial (.nil (.ret (ret2c (b := _) (cs := [_, _, _, _, _, _]) Tryz.results112 hS (k := 1) rfl Tryz.isAgg134 Tryz.sizeOf134 rfl rfl rfl ?_)))
 refine ⟨_, rfl, ?_, ((hS.drop (k := 0) rfl).drop (k := 0) rfl)⟩
 rw [hpu, tailU]
 cases hp : partU (upto [63] r) with
 | none => rw [hp] at hp1; have := hp1.2; omega
 | some t =>
  cases hq : partU ((from_ [63] r).drop 1) with
  | none => rw [hq] at hq1; have := hq1.2; omega
  | some q =>
   rw [hp] at hp1; rw [hq] at hq1
   obtain ⟨rfl, _⟩ := hp1
   obtain ⟨rfl, _⟩ := hq1
   have hif : (if p1 = [] then [47] else dots p1) = dots p1 := if_neg (fun e => by rw [e] at hb103; simp [dots] at hb103)
   show _ = Value.tuple #[.agg #[S (low sc), S (low (upto [47, 63, 35, 58] rs)), I64 (port : Nat), S (if p1 = [] then [47] else dots p1), S q1, .bool (!(from_ [63] r).isEmpty)], I64 0]
   rw [hif]
   rfl
theorem uNormal_any (s : List UInt8) (hl : s.length ≤ 1000000) (B w : World) (I : Im) (hK : Known I) (As : List Assn) (hS : Sat B w I As) :
  Calls Tryz.prog 63 [S s].toArray w (Ret fun v w' => v = .tuple #[S (nU s).1, I64 ((nU s).2 : Nat)] ∧ Sat B w' I As) := by
 refine calls Tryz.func63 rfl Tryz.ntmps63 rfl (.seq (.region (.run 2 rfl trivial (.nil (.seq (.region (.run 1 rfl trivial (.call Tryz.func112 rfl (evs_cons (.of rfl) evs_nil) rfl (uParse_any s hl B _ I hK _ hS) ?_))))))))
 clear hS
 rintro _ w ⟨rfl, hS⟩
 refine .run 3 rfl trivial (.allocA (cs := [_, _, _, _, _, _]) hS Tryz.zeroValue134 rfl ?_)
 clear hS; intro b4 w hS
 refine .stA hS (k := 0) rfl (.of rfl) (.of rfl) rfl Tryz.sizeOf134 rfl (by simp) ?_
 clear hS; intro w hS; try dsimp only [List.set] at hS
 try simp only [List.take_zero, List.nil_append, List.append_nil, List.drop_succ_cons, List.drop_zero, List.drop_nil, Nat.zero_add] at hS
 refine .run 1 rfl trivial (.nil (.seq (.seq (.region (.run 2 rfl trivial (.nil ?_))))))
 refine WC.cond rfl (fun hb12 => ?_) (fun hb12 => ?_)
 ·
  have hc12 := hb12; try simp only [Gk.cs0] at hc12
  refine .seq (.region (.run 3 rfl trivial (.nil (.ret (ret2 Tryz.results63 rfl rfl ?_)))))
  refine ⟨_, rfl, ?_, hS.drop (k := 0) rfl⟩
  rw [nU, if_neg (by omega)]
  rfl
 have hc12 := hb12; try simp only [Gk.cs0] at hc12
 refine .skip (.seq (.region (.val (.ldsW (cs := [_, _, _, _, _, _]) (.of rfl) hS (k := 0) rfl Tryz.isAgg134 Tryz.sizeOf134 rfl) rfl (.call Tryz.func113 rfl (evs_cons (.of rfl) evs_nil) rfl (uString_any (pU s).1 (small_pU s) B _ I hK _ hS) ?_))))
 clear hS
 rintro _ w ⟨rfl, hS⟩
 refine .run 2 rfl trivial (.nil (.ret (ret2 Tryz.results63 rfl rfl ?_)))
 refine ⟨_, rfl, ?_, hS.drop (k := 0) rfl⟩
 rw [nU, if_pos (by omega)]
 rfl
end Go.Proofs.YtadhiihnnkcagaaGreatDoor
namespace Go.Proofs.YtadhiihnnkcagaaGreatDoor
open Gk Pc Ul Pat
set_option linter.unusedVariables false
set_option linter.unusedSimpArgs false
theorem info9_116 : Tryz.prog.info? 9 = some Tryz.t9 := by kernel_rfl
theorem small_any (s : List UInt8) (hl : s.length ≤ 1000000) (B w : World) (I : Im) (As : List Assn) (hS : Sat B w I As) :
  Calls Tryz.prog 116 [S s].toArray w (Ret fun v w' => v = S (low s) ∧ Sat B w' I As) := by
 refine calls Tryz.func116 rfl Tryz.ntmps116 rfl (.seq (.region (.run 1 rfl trivial (.nil (.seq (.region (.run 1 rfl trivial (.nil (.seq (.seq (.region (.run 1 rfl trivial (.nil (.block (.loop (σ := Nat) (fun i => [(0, S s), (3, S (low (s.take i))), (4, I64 (i : Nat))]) (fun i w => i ≤ s.length ∧ Sat B w I As) (fun i => s.length - i) 0 ⟨rfl, rfl, rfl, trivial⟩ ⟨Nat.zero_le _, hS⟩ ?_)))))))))))))))
 rintro i w ⟨hi, hS⟩
 change WC _ _ _ _ [(0, S s), (3, S (low (s.take i))), (4, I64 (i : Nat))] w
 refine .seq (.seq (.region (.run 4 rfl ⟨Tryz.underlying9, trivial⟩ (.nil ?_))))
 refine WC.cond rfl (fun hb9 => ?_) (fun hb9 => ?_)
 ·
  have hc9 := hb9; try simp only [Gk.cs0] at hc9
  refine .skip (.seq (.block (.seq ?_)))
  have hnx : low (s.take (i + 1)) = low (s.take i) ++ [lo (at_ s (i : Int))] := by rw [List.take_add_one, at_some (by omega), low, low, List.map_append]; rfl
  have hll : (low (s.take i)).length ≤ 1000000 := by rw [low_len, List.length_take]; omega
  refine .region (.run 4 rfl ⟨⟨⟨by omega, by omega⟩, Tryz.underlying9⟩, trivial⟩ (.nil (.seq (.seq (.region (.run 3 rfl trivial (.gval rfl rfl (fun hg1 => (.move (.of rfl))) rfl (.gval rfl rfl (fun hg1 => (.leq (.gd hg1 rfl) (.of rfl))) rfl (.val (.pand (.of rfl) (.of rfl) (.of rfl)) rfl (.nil ?_))))))))))
  refine WC.cond rfl (fun hb20 => ?_) (fun hb20 => ?_)
  ·
   have hc20 := hb20; try simp only [Gk.cs0] at hc20
   refine .region (.run 1 rfl trivial (.val (.addw (.of rfl) (.of rfl)) rfl (.run 1 rfl trivial (.nil (.region (.run 2 rfl trivial (.buildSlice (cs := [_]) hS (parts_cons (.of rfl) parts_nil) Tryz.underlying214 Tryz.sizeOf5 Tryz.zeroValue5 rfl rfl rfl rfl ?_)))))))
   clear hS; intro b25 w hS
   refine WL.val (.str1 (b := b25) (cap := 1) (c := lo (at_ s (i : Int))) (i := (IntKind.u8.wrap (((at_ s (i : Int)).toNat : Int) + 32))) (.of rfl) hS (k := 0) rfl (by have := lo_up (c := at_ s (i : Int)) (by simpa only [Bool.and_eq_true, decide_eq_true_eq] using hb20); rw [this, IntKind.wrap_u8]; omega) Tryz.underlying214 Tryz.underlying5 Tryz.underlying9) rfl ?_
   refine WL.run 2 rfl ⟨by (try simp only [List.length_append, List.length_cons, List.length_nil]); omega, trivial⟩ ?_
   refine .nil (.region (.run 3 rfl ⟨⟨by omega, by omega⟩, trivial⟩ (.nil ?_)))
   refine ⟨i + 1, ⟨rfl, by show some (S _) = some _; rw [hnx], rfl, trivial⟩, ⟨by omega, hS.drop (k := 0) rfl⟩, by omega⟩
  have hc20 := hb20; try simp only [Gk.cs0] at hc20
  refine .skip (.region (.run 2 rfl trivial (.buildSlice (cs := [_]) hS (parts_cons (.of rfl) parts_nil) Tryz.underlying214 Tryz.sizeOf5 Tryz.zeroValue5 rfl rfl rfl rfl ?_)))
  clear hS; intro b25 w hS
  have hlo : lo (at_ s (i : Int)) = at_ s (i : Int) := lo_no (fun hh => by
   have : (decide (65 ≤ ((at_ s (i : Int)).toNat : Int)) && decide (((at_ s (i : Int)).toNat : Int) ≤ 90)) = true := by simp only [Bool.and_eq_true, decide_eq_true_eq]; exact hh
   rw [this] at hb20; cases hb20)
  refine .val (.str1 (b := b25) (cap := 1) (c := lo (at_ s (i : Int))) (i := ((at_ s (i : Int)).toNat : Int)) (.of rfl) hS (k := 0) rfl (by rw [hlo]) Tryz.underlying214 Tryz.underlying5 Tryz.underlying9) rfl ?_
  refine WL.run 2 rfl ⟨by (try simp only [List.length_append, List.length_cons, List.length_nil]); omega, trivial⟩ ?_
  refine .nil (.region (.run 3 rfl ⟨⟨by omega, by omega⟩, trivial⟩ (.nil ?_)))
  refine ⟨i + 1, ⟨rfl, by show some (S _) = some _; rw [hnx], rfl, trivial⟩, ⟨by omega, hS.drop (k := 0) rfl⟩, by omega⟩
 have hc9 := hb9; try simp only [Gk.cs0] at hc9
 refine .exit (.seq (.region (.run 2 rfl trivial (.nil (.ret (ret1 Tryz.results116 rfl ?_))))))
 exact ⟨_, rfl, by rw [List.take_of_length_le (by omega)], hS⟩
theorem find_any (s cs : List UInt8) (fr : Nat) (hf : fr ≤ s.length) (hl : s.length ≤ 1000000) (hc : cs.length ≤ 1000) (B w : World) (I : Im) (As : List Assn) (hS : Sat B w I As) :
  Calls Tryz.prog 117 [S s, I64 (fr : Nat), S cs].toArray w (Ret fun v w' => v = I64 ((fr + (upto cs (s.drop fr)).length : Nat) : Int) ∧ Sat B w' I As) := by
 refine calls Tryz.func117 rfl Tryz.ntmps117 rfl (.seq (.region (.run 1 rfl trivial (.nil (.seq (.seq (.region (.run 2 rfl trivial (.nil (.block (.loop (σ := Nat) (fun i => [(0, S s), (2, S cs), (7, I64 ((fr + i : Nat) : Int))]) (fun i w => fr + i ≤ s.length ∧ Go.Lib.NoAny (s.drop fr) cs i ∧ Sat B w I As) (fun i => s.length - (fr + i)) 0 ⟨rfl, rfl, rfl, trivial⟩ ⟨hf, Go.Lib.NoAny.zero _ _, hS⟩ ?_)))))))))))
 rintro i w ⟨hi, hno, hS⟩
 change WC _ _ _ _ [(0, S s), (2, S cs), (7, I64 ((fr + i : Nat) : Int))] w
 refine .seq (.seq (.region (.run 4 rfl ⟨Tryz.underlying9, trivial⟩ (.nil ?_))))
 refine WC.cond rfl (fun hb13 => ?_) (fun hb13 => ?_)
 ·
  have hc13 := hb13; try simp only [Gk.cs0] at hc13
  refine .skip (.seq (.block (.seq (.region (.run 1 rfl trivial (.nil (.block (.loop (σ := Nat) (fun k => [(0, S s), (2, S cs), (7, I64 ((fr + i : Nat) : Int)), (8, I64 (k : Nat))]) (fun k w => k ≤ cs.length ∧ (∀ q, q < k → at_ cs (q : Int) ≠ at_ s ((fr + i : Nat) : Int)) ∧ Sat B w I As) (fun k => cs.length - k) 0 ⟨rfl, rfl, rfl, rfl, trivial⟩ ⟨Nat.zero_le _, fun _ h => absurd h (by omega), hS⟩ ?_))))))))
  rintro k w ⟨hkl, hk, hS⟩
  change WC _ _ _ _ [(0, S s), (2, S cs), (7, I64 ((fr + i : Nat) : Int)), (8, I64 (k : Nat))] w
  refine .seq (.seq (.region (.run 4 rfl ⟨Tryz.underlying9, trivial⟩ (.nil ?_))))
  refine WC.cond rfl (fun hb19 => ?_) (fun hb19 => ?_)
  ·
   have hc19 := hb19; try simp only [Gk.cs0] at hc19
   refine .skip (.seq (.block (.seq (.quiet (by kernel_rfl) (by kernel_rfl) hS (.val (fun w hS => (.move (.of rfl))) rfl (.val (fun w hS => (.move (.of rfl))) rfl (.val (fun w hS => (.index (.of rfl) (.of rfl) (by omega) (by omega) Tryz.underlying9)) rfl (.val (fun w hS => (.move (.of rfl))) rfl (.val (fun w hS => (.move (.of rfl))) rfl (.val (fun w hS => (.index (.of rfl) (.of rfl) (by omega) (by omega) Tryz.underlying9)) rfl (.val (fun w hS => (.eql (.of rfl) (.of rfl))) rfl (.nil ?_))))))))))))
   clear hS; intro w hS
   refine WC.cond rfl (fun hb28 => ?_) (fun hb28 => ?_)
   ·
    have hc28 := hb28; try simp only [Gk.cs0] at hc28
    refine .seq (.region (.run 2 rfl trivial (.nil (.ret (ret1 Tryz.results117 rfl ?_)))))
    have heq : at_ cs (k : Int) = at_ s ((fr + i : Nat) : Int) := UInt8.toNat_inj.1 (by simp only [beq_iff_eq] at hb28; omega)
    have hat : (s.drop fr)[i]? = some (at_ s ((fr + i : Nat) : Int)) := by rw [List.getElem?_drop]; exact at_some (by omega)
    have hin : cs.contains (at_ s ((fr + i : Nat) : Int)) = true := by
     rw [List.contains_iff_mem, ← heq]
     exact List.mem_of_getElem? (at_some (by omega : k < cs.length))
    obtain ⟨h1, h2, h3⟩ := cut_hit (Go.Lib.indexAny_hit hno hat hin)
    refine ⟨_, rfl, ?_, hS⟩
    rw [h1, List.length_take, List.length_drop]
    congr 1; omega
   have hc28 := hb28; try simp only [Gk.cs0] at hc28
   refine .skip (.region (.run 3 rfl ⟨⟨by omega, by omega⟩, trivial⟩ (.nil ?_)))
   refine ⟨k + 1, ⟨rfl, rfl, rfl, rfl, trivial⟩, ⟨by omega, fun q hq => ?_, hS⟩, by omega⟩
   rcases Nat.lt_or_ge q k with h1 | h1
   ·exact hk q h1
   ·have e : q = k := by omega
    subst e
    simp only [beq_eq_false_iff_ne] at hb28
    exact fun e => hb28 (by rw [e])
  have hc19 := hb19; try simp only [Gk.cs0] at hc19
  refine .exit (.region (.run 3 rfl ⟨⟨by omega, by omega⟩, trivial⟩ (.nil ?_)))
  have hat : (s.drop fr)[i]? = some (at_ s ((fr + i : Nat) : Int)) := by rw [List.getElem?_drop]; exact at_some (by omega)
  refine ⟨i + 1, ⟨rfl, rfl, by show some (I64 _) = some (I64 _); congr 2, trivial⟩, ⟨by omega, hno.succ hat ?_, hS⟩, by omega⟩
  cases hc : cs.contains (at_ s ((fr + i : Nat) : Int)) with
  | false => rfl
  | true =>
   rw [List.contains_iff_mem] at hc
   obtain ⟨q, hq⟩ := List.mem_iff_getElem?.1 hc
   have hql : q < cs.length := (List.getElem?_eq_some_iff.1 hq).1
   rw [at_some hql] at hq
   exact absurd (by injection hq) (hk q (by omega))
 have hc13 := hb13; try simp only [Gk.cs0] at hc13
 refine .exit (.seq (.region (.run 3 rfl ⟨Tryz.underlying9, trivial⟩ (.nil (.ret (ret1 Tryz.results117 rfl ?_))))))
 obtain ⟨h1, h2⟩ := cut_none (Go.Lib.indexAny_none (s := s.drop fr) (chars := cs) (by rw [List.length_drop, show s.length - fr = i by omega]; exact hno))
 refine ⟨_, rfl, ?_, hS⟩
 rw [h1, List.length_drop]
 congr 1; omega
theorem dec_big {n : Nat} (h : ¬ n < 10) : Go.Lib.decDigits n = Go.Lib.decDigits (n / 10) ++ [UInt8.ofNat (48 + n % 10)] := by
 rw [Go.Lib.decDigits, dif_neg h]
theorem Digits_any (m : Nat) (hm : m ≤ 65535) (B w : World) (I : Im) (As : List Assn) (hS : Sat B w I As) :
  Calls Tryz.prog 159 [I64 (m : Nat)].toArray w (Ret fun v w' => v = S (Go.Lib.decDigits m) ∧ Sat B w' I As) := by
 refine calls Tryz.func159 rfl Tryz.ntmps159 rfl (.seq (.region (.run 1 rfl trivial (.nil (.seq (.region (.run 1 rfl trivial (.nil (.seq (.block (.loop (σ := Nat × List UInt8) (fun ⟨n, out⟩ => [(0, I64 (n : Nat)), (3, S out)]) (fun ⟨n, out⟩ w => n ≤ m ∧ Go.Lib.decDigits m = Go.Lib.decDigits n ++ out ∧ Sat B w I As) (fun ⟨n, out⟩ => n) (m, []) ⟨rfl, rfl, trivial⟩ ⟨Nat.le_refl _, by simp, hS⟩ ?_)))))))))))
 rintro ⟨n, out⟩ w ⟨hn, hd, hS⟩
 change WC _ _ _ _ [(0, I64 (n : Nat)), (3, S out)] w
 refine .seq (.seq (.region (.run 2 rfl trivial (.nil ?_))))
 refine WC.cond rfl (fun hb5 => ?_) (fun hb5 => ?_)
 ·
  have hc5 := hb5; try simp only [Gk.cs0] at hc5
  refine .skip (.block (.seq ?_))
  have hbg := dec_big (n := n) (by omega)
  have hlo2 := congrArg List.length hd
  rw [List.length_append, hbg, List.length_append] at hlo2
  have h5 := dec_len m hm
  refine .region (.run 1 rfl trivial (.val (.rem (.of rfl) (.of rfl) (by omega) (by omega)) rfl (.run 1 rfl ⟨⟨by omega, by omega⟩, trivial⟩ ?_)))
  refine WL.val (.cvi (.of rfl) Tryz.underlying3 Tryz.underlying5 (by rw [IntKind.wrap_u8]; omega)) rfl ?_
  refine .buildSlice (cs := [_]) hS (parts_cons (.of rfl) parts_nil) Tryz.underlying214 Tryz.sizeOf5 Tryz.zeroValue5 rfl rfl rfl rfl ?_
  clear hS; intro b10 w hS
  refine WL.val (.str1 (b := b10) (cap := 1) (c := UInt8.ofNat (48 + n % 10)) (i := (48 + (n : Int) % 10)) (.of rfl) hS (k := 0) rfl (by rw [UInt8.toNat_ofNat']; omega) Tryz.underlying214 Tryz.underlying5 Tryz.underlying9) rfl ?_
  refine WL.run 3 rfl ⟨by (try simp only [List.length_append, List.length_cons, List.length_nil]); omega, trivial⟩ ?_
  refine .nil (.region (.run 1 rfl trivial ?_))
  refine WL.val (.quo (.of rfl) (.of rfl) (by omega) (by omega) (by rw [IntKind.wrap_i64]; omega)) rfl ?_
  refine .run 1 rfl trivial (.nil ?_)
  refine ⟨(n / 10, _), ⟨rfl, rfl, trivial⟩, ⟨by (try dsimp only); omega, ?_, hS.drop (k := 0) rfl⟩, by (try dsimp only); omega⟩
  rw [hd, hbg, List.append_assoc]
 have hc5 := hb5; try simp only [Gk.cs0] at hc5
 refine .exit (.seq ?_)
 have hsm := Go.Lib.decDigits_one (i := n) (by omega)
 have hlo2 := congrArg List.length hd
 rw [List.length_append] at hlo2
 have h5 := dec_len m hm
 refine .region (.run 2 rfl ⟨⟨by omega, by omega⟩, trivial⟩ ?_)
 refine WL.val (.cvi (.of rfl) Tryz.underlying3 Tryz.underlying5 (by rw [IntKind.wrap_u8]; omega)) rfl ?_
 refine .buildSlice (cs := [_]) hS (parts_cons (.of rfl) parts_nil) Tryz.underlying214 Tryz.sizeOf5 Tryz.zeroValue5 rfl rfl rfl rfl ?_
 clear hS; intro b19 w hS
 refine WL.val (.str1 (b := b19) (cap := 1) (c := UInt8.ofNat (48 + n)) (i := (48 + (n : Int))) (.of rfl) hS (k := 0) rfl (by rw [UInt8.toNat_ofNat']; omega) Tryz.underlying214 Tryz.underlying5 Tryz.underlying9) rfl ?_
 refine WL.run 3 rfl ⟨by (try simp only [List.length_append, List.length_cons, List.length_nil]); omega, trivial⟩ ?_
 refine .nil (.ret (ret1 Tryz.results159 rfl ?_))
 refine ⟨_, rfl, ?_, hS.drop (k := 0) rfl⟩
 rw [hd, hsm]
theorem standB_ref (c : UInt8) : (((((((((((decide ((c.toNat : Int) < 33) || decide (126 < (c.toNat : Int))) || ((c.toNat : Int) == 34)) || ((c.toNat : Int) == 60)) || ((c.toNat : Int) == 62)) || ((c.toNat : Int) == 35)) || ((c.toNat : Int) == 92)) || ((c.toNat : Int) == 94)) || ((c.toNat : Int) == 123)) || ((c.toNat : Int) == 124)) || ((c.toNat : Int) == 125)) || ((c.toNat : Int) == 96)) = !standB c :=
 eq_of_beq (all_bytes (p := fun c => (((((((((((decide ((c.toNat : Int) < 33) || decide (126 < (c.toNat : Int))) || ((c.toNat : Int) == 34)) || ((c.toNat : Int) == 60)) || ((c.toNat : Int) == 62)) || ((c.toNat : Int) == 35)) || ((c.toNat : Int) == 92)) || ((c.toNat : Int) == 94)) || ((c.toNat : Int) == 123)) || ((c.toNat : Int) == 124)) || ((c.toNat : Int) == 125)) || ((c.toNat : Int) == 96)) == !standB c) (by decide +kernel) c)
theorem refNormal_e (s : List UInt8) (hl : s.length ≤ 1000000) (B w : World) (I : Im) (As : List Assn) (hS : Sat B w I As) : Calls Tryz.prog 157 [S s].toArray w (Ret fun v w' => ∃ n1 e1, v = .tuple #[S n1, I64 e1] ∧ (match norm s with | none => n1 = [] ∧ e1 = 11 | some t => n1 = t ∧ e1 = 0) ∧ Sat B w' I As) :=
 (refNormal_any s hl B w I As hS).mono fun e w' he => by
  obtain ⟨v, rfl, rfl, h⟩ := he
  cases norm s with
  | none => exact ⟨_, rfl, _, _, rfl, ⟨rfl, rfl⟩, h⟩
  | some t => exact ⟨_, rfl, _, _, rfl, ⟨rfl, rfl⟩, h⟩
set_option maxRecDepth 4000 in
theorem part_any (s : List UInt8) (hl : s.length ≤ 1000000) (B w : World) (I : Im) (As : List Assn) (hS : Sat B w I As) :
  Calls Tryz.prog 118 [S s].toArray w (Ret fun v w' => ∃ n1 b1, v = .tuple #[S n1, .bool b1] ∧ (match partU s with | none => b1 = false | some t => n1 = t ∧ b1 = true) ∧ n1.length ≤ s.length ∧ Sat B w' I As) := by
 refine calls Tryz.func118 rfl Tryz.ntmps118 rfl (.seq (.region (.run 2 rfl trivial (.nil (.seq (.seq (.region (.run 1 rfl trivial (.nil (.block (.loop (σ := Nat) (fun i => [(0, S s), (4, I64 (i : Nat))]) (fun i w => i ≤ s.length ∧ (∀ j, j < i → j < s.length → standB (at_ s (j : Int)) = true) ∧ Sat B w I As) (fun i => s.length - i) 0 ⟨rfl, rfl, trivial⟩ ⟨Nat.zero_le _, fun _ h => absurd h (by omega), hS⟩ ?_)))))))))))
 rintro i w ⟨hi, hok, hS⟩
 change WC _ _ _ _ [(0, S s), (4, I64 (i : Nat))] w
 refine .seq (.seq (.region (.run 4 rfl ⟨Tryz.underlying9, trivial⟩ (.nil ?_))))
 refine WC.cond rfl (fun hb11 => ?_) (fun hb11 => ?_)
 ·
  have hc11 := hb11; try simp only [Gk.cs0] at hc11
  refine .skip (.seq (.block (.seq (.region (.run 4 rfl ⟨⟨⟨by omega, by omega⟩, Tryz.underlying9⟩, trivial⟩ (.nil (.seq (.region (.run 3 rfl trivial (.gval rfl rfl (fun hg1 => (.move (.of rfl))) rfl (.gval rfl rfl (fun hg1 => (.gtr (.gd hg1 rfl) (.of rfl))) rfl (.val (.por (.of rfl) (.of rfl) (.of rfl)) rfl (.run 1 rfl trivial (.gval rfl rfl (fun hg1 => (.move (.of rfl))) rfl (.gval rfl rfl (fun hg1 => (.eql (.gd hg1 rfl) (.of rfl))) rfl (.val (.por (.of rfl) (.of rfl) (.of rfl)) rfl (.run 1 rfl trivial (.gval rfl rfl (fun hg1 => (.move (.of rfl))) rfl (.gval rfl rfl (fun hg1 => (.eql (.gd hg1 rfl) (.of rfl))) rfl (.val (.por (.of rfl) (.of rfl) (.of rfl)) rfl (.run 1 rfl trivial (.gval rfl rfl (fun hg1 => (.move (.of rfl))) rfl (.gval rfl rfl (fun hg1 => (.eql (.gd hg1 rfl) (.of rfl))) rfl (.val (.por (.of rfl) (.of rfl) (.of rfl)) rfl (.run 1 rfl trivial (.gval rfl rfl (fun hg1 => (.move (.of rfl))) rfl (.gval rfl rfl (fun hg1 => (.eql (.gd hg1 rfl) (.of rfl))) rfl (.val (.por (.of rfl) (.of rfl) (.of rfl)) rfl (.run 1 rfl trivial (.gval rfl rfl (fun hg1 => (.move (.of rfl))) rfl (.gval rfl rfl (fun hg1 => (.eql (.gd hg1 rfl) (.of rfl))) rfl (.val (.por (.of rfl) (.of rfl) (.of rfl)) rfl (.run 1 rfl trivial (.gval rfl rfl (fun hg1 => (.move (.of rfl))) rfl (.gval rfl rfl (fun hg1 => (.eql (.gd hg1 rfl) (.of rfl))) rfl (.val (.por (.of rfl) (.of rfl) (.of rfl)) rfl (.run 1 rfl trivial (.gval rfl rfl (fun hg1 => (.move (.of rfl))) rfl (.gval rfl rfl (fun hg1 => (.eql (.gd hg1 rfl) (.of rfl))) rfl (.val (.por (.of rfl) (.of rfl) (.of rfl)) rfl (.run 1 rfl trivial (.gval rfl rfl (fun hg1 => (.move (.of rfl))) rfl (.gval rfl rfl (fun hg1 => (.eql (.gd hg1 rfl) (.of rfl))) rfl (.val (.por (.of rfl) (.of rfl) (.of rfl)) rfl (.run 1 rfl trivial (.gval rfl rfl (fun hg1 => (.move (.of rfl))) rfl (.gval rfl rfl (fun hg1 => (.eql (.gd hg1 rfl) (.of rfl))) rfl (.val (.por (.of rfl) (.of rfl) (.of rfl)) rfl (.run 1 rfl trivial (.gval rfl rfl (fun hg1 => (.move (.of rfl))) rfl (.gval rfl rfl (fun hg1 => (.eql (.gd hg1 rfl) (.of rfl))) rfl (.val (.por (.of rfl) (.of rfl) (.of rfl)) rfl (.nil ?_)))))))))))))))))))))))))))))))))))))))))))))))))))))
  refine WC.cond rfl (fun hb62 => ?_) (fun hb62 => ?_)
  ·
   have hc62 := hb62; try simp only [Gk.cs0] at hc62
   refine .seq (.region (.run 2 rfl trivial (.nil (.ret (ret2 Tryz.results118 rfl rfl ?_)))))
   refine ⟨_, rfl, [], false, rfl, ?_, Nat.zero_le _, hS⟩
   have hh := standB_ref (at_ s (i : Int))
   rw [hb62] at hh
   have : partU s = none := by rw [partU, not_all (p := standB) (i := i) (by omega) (by simpa using hh.symm)]; rfl
   rw [this]
  have hc62 := hb62; try simp only [Gk.cs0] at hc62
  refine .skip (.region (.run 3 rfl ⟨⟨by omega, by omega⟩, trivial⟩ (.nil ?_)))
  refine ⟨i + 1, ⟨rfl, rfl, trivial⟩, ⟨by omega, fun j hj hjl => ?_, hS⟩, by omega⟩
  rcases Nat.lt_or_ge j i with h1 | h1
  ·exact hok j h1 hjl
  ·have e : j = i := by omega
   subst e
   have hh := standB_ref (at_ s (j : Int))
   rw [hb62] at hh
   simpa using hh.symm
 have hc11 := hb11; try simp only [Gk.cs0] at hc11
 refine .exit (.seq (.region (.run 1 rfl trivial (.call Tryz.func157 rfl (evs_cons (.of rfl) evs_nil) rfl (refNormal_e s hl B _ I _ hS) ?_))))
 clear hS
 rintro _ w ⟨n1, e1, rfl, hne, hS⟩
 refine .run 5 rfl trivial (.nil (.seq (.region (.run 5 rfl trivial (.nil (.ret (ret2 Tryz.results118 rfl rfl ?_)))))))
 have hall : s.all standB = true := all_of hok (by omega)
 cases hn : norm s with
 | none =>
  rw [hn] at hne
  obtain ⟨rfl, rfl⟩ := hne
  refine ⟨_, rfl, [], false, rfl, ?_, Nat.zero_le _, hS⟩
  have : partU s = none := by rw [partU, if_pos hall, hn]
  rw [this]
 | some t =>
  rw [hn] at hne
  obtain ⟨rfl, rfl⟩ := hne
  refine ⟨_, rfl, n1, true, rfl, ?_, norm_len s _ hn, hS⟩
  have : partU s = some n1 := by rw [partU, if_pos hall, hn]
  rw [this]
  exact ⟨rfl, rfl⟩
theorem refCut_any (s : List UInt8) (hl : s.length ≤ 1000000) (B w : World) (I : Im) (As : List Assn) (hS : Sat B w I As) :
  Calls Tryz.prog 158 [S s, U8 47].toArray w (Ret fun v w' => Sat B w' I (Vec 9 1 v (spl s).length ((spl s).map S) :: As)) := by
 refine calls Tryz.func158 rfl Tryz.ntmps158 rfl (.seq (.region (.run 1 rfl trivial (.nil (.seq (.region (.run 1 rfl trivial (.nil (.seq (.region (.run 1 rfl trivial (.nil (.seq (.seq (.region (.run 1 rfl trivial (.nil (.block ?_))))))))))))))))))
 replace hS := hS.vecNil 9 1
 refine WC.loop (σ := Value × List (List UInt8) × Nat × Nat) (fun ⟨kv, out, fr, i⟩ => [(0, S s), (1, U8 47), (5, kv), (6, I64 (fr : Nat)), (7, I64 (i : Nat))]) (fun ⟨kv, out, fr, i⟩ w => i ≤ s.length ∧ fr ≤ i ∧ spl s = out ++ spl (s.drop fr) ∧ (∀ j, fr ≤ j → j < i → at_ s (j : Int) ≠ 47) ∧ Sat B w I (Vec 9 1 kv out.length (out.map S) :: As)) (fun ⟨kv, out, fr, i⟩ => s.length - i) (.slice none 0 0, [], 0, 0) ⟨rfl, rfl, rfl, rfl, rfl, trivial⟩ ⟨Nat.zero_le _, Nat.zero_le _, rfl, fun _ h1 h2 => by (try dsimp only at h1 h2); omega, hS⟩ ?_
 rintro ⟨kv, out, fr, i⟩ w ⟨hi, hfi, hsp, hno, hS⟩
 change WC _ _ _ _ [(0, S s), (1, U8 47), (5, kv), (6, I64 (fr : Nat)), (7, I64 (i : Nat))] w
 refine .seq (.seq (.region (.run 4 rfl ⟨Tryz.underlying9, trivial⟩ (.nil ?_))))
 refine WC.cond rfl (fun hb11 => ?_) (fun hb11 => ?_)
 ·
  have hc11 := hb11; try simp only [Gk.cs0] at hc11
  refine .skip (.seq (.block (.seq (.region (.run 5 rfl ⟨⟨⟨by omega, by omega⟩, Tryz.underlying9⟩, trivial⟩ (.nil ?_))))))
  refine WC.cond rfl (fun hb18 => ?_) (fun hb18 => ?_)
  ·
   have hc18 := hb18; try simp only [Gk.cs0] at hc18
   refine .seq ?_
   have hto := congrArg List.length hsp
   rw [List.length_append] at hto
   have hlt := len_tot (spl s)
   rw [spl_tot] at hlt
   have hsn : 1 ≤ (spl (s.drop fr)).length := List.length_pos_iff.2 (spl_ne _)
   obtain ⟨ka, kc, rfl, hkc, _⟩ := hS.vecSlice (k := 0) (v := kv) rfl
   refine .region (.run 4 rfl trivial (.val (.sub3 (.of rfl) (.of rfl) (.of rfl) (by omega) (by omega) (by omega) Tryz.underlying9) rfl ?_))
   simp only [Int.toNat_natCast]
   refine .buildSlice (cs := [_]) hS (parts_cons (.of rfl) parts_nil) Tryz.underlying41 Tryz.sizeOf9 Tryz.zeroValue9 rfl rfl rfl rfl ?_
   clear hS; intro b24 w hS
   refine WL.append (size := 1) (bytes := 16) hS (.of rfl) (.of rfl) (k := 0) rfl Tryz.underlying41 info9_116 rfl rfl rfl rfl rfl rfl rfl ⟨by omega, by unfold maxLen; omega⟩ rfl ?_
   clear hS; intro v25 w hS; try dsimp only [List.set] at hS
   obtain ⟨a25, c25, rfl, hcap25, _⟩ := hS.vecSlice (k := 0) (v := v25) rfl
   refine .run 1 rfl trivial (.nil (.region (.run 3 rfl ⟨⟨by omega, by omega⟩, trivial⟩ (.nil (.region (.run 3 rfl ⟨⟨by omega, by omega⟩, trivial⟩ (.nil ?_)))))))
   refine ⟨(_, out ++ [(s.drop fr).take (i - fr)], i + 1, i + 1), ⟨rfl, rfl, rfl, rfl, rfl, trivial⟩, ⟨by (try dsimp only); omega, by (try dsimp only); omega, ?_, fun j h1 h2 => by (try dsimp only at h1 h2); omega, ?_⟩, by (try dsimp only); omega⟩
   ·rw [hsp, split_at (s := s.drop fr) (i := i - fr) (by rw [List.getElem?_drop, show fr + (i - fr) = i by omega, at_some (by omega)]; congr 1; exact UInt8.toNat_inj.1 (by show (at_ s (i : Int)).toNat = 47; simp only [beq_iff_eq] at hb18; omega)) (fun q hq e => by
     rw [List.getElem?_drop, at_some (by omega)] at e
     injection e with e
     exact hno (fr + q) (by omega) (by omega) e), List.drop_drop, show fr + (i - fr + 1) = i + 1 by omega, List.append_assoc]
    rfl
   ·rw [List.map_append, List.length_append]; exact hS
  have hc18 := hb18; try simp only [Gk.cs0] at hc18
  refine .skip (.region (.run 3 rfl ⟨⟨by omega, by omega⟩, trivial⟩ (.nil ?_)))
  refine ⟨(_, out, fr, i + 1), ⟨rfl, rfl, rfl, rfl, rfl, trivial⟩, ⟨by (try dsimp only); omega, by (try dsimp only); omega, hsp, fun j h1 h2 => ?_, hS⟩, by (try dsimp only); omega⟩
  rcases Nat.lt_or_ge j i with h3 | h3
  ·exact hno j h1 h3
  ·have e : j = i := by (try dsimp only at h2); omega
   subst e
   simp only [beq_eq_false_iff_ne] at hb18
   exact fun e => hb18 (by rw [e]; rfl)
 have hc11 := hb11; try simp only [Gk.cs0] at hc11
 refine .exit (.seq ?_)
 have hto := congrArg List.length hsp
 rw [List.length_append] at hto
 have hlt := len_tot (spl s)
 rw [spl_tot] at hlt
 have hsn : 1 ≤ (spl (s.drop fr)).length := List.length_pos_iff.2 (spl_ne _)
 obtain ⟨ka, kc, rfl, hkc, _⟩ := hS.vecSlice (k := 0) (v := kv) rfl
 refine .region (.run 3 rfl trivial (.val (.subFrom (.of rfl) (.of rfl) (by omega) (by omega) Tryz.underlying9) rfl ?_))
 simp only [Int.toNat_natCast]
 refine .buildSlice (cs := [_]) hS (parts_cons (.of rfl) parts_nil) Tryz.underlying41 Tryz.sizeOf9 Tryz.zeroValue9 rfl rfl rfl rfl ?_
 clear hS; intro b32 w hS
 refine WL.append (size := 1) (bytes := 16) hS (.of rfl) (.of rfl) (k := 0) rfl Tryz.underlying41 info9_116 rfl rfl rfl rfl rfl rfl rfl ⟨by omega, by unfold maxLen; omega⟩ rfl ?_
 clear hS; intro v33 w hS; try dsimp only [List.set] at hS
 obtain ⟨a33, c33, rfl, hcap33, _⟩ := hS.vecSlice (k := 0) (v := v33) rfl
 refine .run 1 rfl trivial (.nil (.ret (ret1 Tryz.results158 rfl ?_)))
 have hend : spl s = out ++ [s.drop fr] := by
  rw [hsp, spl_none (s.drop fr) fun x hx ex => ?_]
  obtain ⟨q, hq⟩ := List.mem_iff_getElem?.1 hx
  rw [List.getElem?_drop] at hq
  have hql := (List.getElem?_eq_some_iff.1 hq).1
  rw [at_some hql] at hq
  injection hq with hq
  exact hno (fr + q) (by omega) (by omega) (hq.trans ex)
 refine ⟨_, rfl, ?_⟩
 rw [hend, List.map_append, List.length_append]
 exact hS
end Go.Proofs.YtadhiihnnkcagaaGreatDoor
namespace Go.Proofs.YtadhiihnnkcagaaGreatDoor
open Gk Pc Ul Pat
set_option linter.unusedVariables false
set_option linter.unusedSimpArgs false
theorem info9_119 : Tryz.prog.info? 9 = some Tryz.t9 := by kernel_rfl
set_option maxHeartbeats 800000 in
theorem refDots_any (p : List UInt8) (hl : p.length ≤ 1000000) (B w : World) (I : Im) (As : List Assn) (hS : Sat B w I As) :
  Calls Tryz.prog 119 [S p].toArray w (Ret fun v w' => v = S (dots p) ∧ Sat B w' I As) := by
 refine calls Tryz.func119 rfl Tryz.ntmps119 rfl (.seq (.region (.run 1 rfl trivial (.nil (.seq (.seq (.region (.run 3 rfl trivial (.gval rfl rfl (fun hg1 => (.move (.of rfl))) rfl ?_)))))))))
 refine WL.gval rfl rfl (fun hg1 => .index (.gd hg1 rfl) (.of rfl) (by omega) (by cases p with | nil => simp at hg1 | cons a b => simp only [List.length_cons]; omega) Tryz.underlying9) rfl ?_
 refine .gval rfl rfl (fun hg1 => (.neq (.gd hg1 rfl) (.of rfl))) rfl (.val (.por (.of rfl) (.of rfl) (.of rfl)) rfl (.nil ?_))
 refine WC.cond rfl (fun hb15 => ?_) (fun hb15 => ?_)
 ·
  have hc15 := hb15; try simp only [Gk.cs0] at hc15
  refine .seq (.region (.run 2 rfl trivial (.nil (.ret (ret1 Tryz.results119 rfl ?_)))))
  refine ⟨_, rfl, ?_, hS⟩
  cases p with
  | nil => rfl
  | cons a b =>
   rw [dots, if_neg (fun e => ?_)]
   subst e
   rcases hc15 with h | h
   ·cases h
   ·exact absurd (show (((47 : UInt8).toNat : Nat) : Int) = 47 from rfl) h
 have hc15 := hb15; try simp only [Gk.cs0] at hc15
 refine .skip (.seq ?_)
 have hp1 : 1 ≤ p.length := by cases p with | nil => simp at hb15 | cons a b => simp
 have hpn := len_tot (spl (p.drop 1))
 rw [spl_tot, List.length_drop] at hpn
 have hn1 : 0 < (spl (p.drop 1)).length := List.length_pos_iff.2 (spl_ne _)
 refine .region (.run 1 rfl trivial (.val (.subFrom (.of rfl) (.of rfl) (by omega) (by omega) Tryz.underlying9) rfl ?_))
 refine WL.call Tryz.func158 rfl (evs_cons (.of rfl) (evs_cons (.of rfl) evs_nil)) rfl (refCut_any (p.drop 1) (by rw [List.length_drop]; omega) B _ I _ hS) ?_
 clear hS
 rintro _ w hS
 obtain ⟨gl, cl, rl, rfl, _, _, _, _, hS⟩ := hS.vecOpen (k := 0) rfl hn1
 try dsimp only [List.set] at hS
 refine .run 1 rfl trivial (.nil (.seq (.region (.run 1 rfl trivial (.nil (.seq (.seq (.region (.run 1 rfl trivial (.nil (.block ?_)))))))))))
 replace hS := hS.vecNil 9 1
 refine .loop (σ := Value × Nat) (fun ⟨kv, i⟩ => [(3, .slice (some (ad gl 0)) (spl (p.drop 1)).length cl), (4, kv), (5, I64 (i : Nat))]) (fun ⟨kv, i⟩ w => i ≤ (spl (p.drop 1)).length ∧ Sat B w I (Vec 9 1 kv (List.foldl keep [] ((spl (p.drop 1)).take i)).length ((List.foldl keep [] ((spl (p.drop 1)).take i)).map S) :: blk gl ((spl (p.drop 1)).map S ++ rl) 9 :: As)) (fun ⟨kv, i⟩ => (spl (p.drop 1)).length - i) (.slice none 0 0, 0) ⟨rfl, rfl, rfl, trivial⟩ ⟨Nat.zero_le _, hS⟩ ?_
 rintro ⟨kv, i⟩ w ⟨hi, hS⟩
 change WC _ _ _ _ [(3, .slice (some (ad gl 0)) (spl (p.drop 1)).length cl), (4, kv), (5, I64 (i : Nat))] w
 refine .seq (.seq (.region (.run 4 rfl ⟨⟨_, Tryz.underlying41⟩, trivial⟩ (.nil ?_))))
 refine WC.cond rfl (fun hb23 => ?_) (fun hb23 => ?_)
 ·
  have hc23 := hb23; try simp only [Gk.cs0] at hc23
  refine .skip (.seq (.block (.seq (.seq ?_))))
  obtain ⟨x, hx⟩ : ∃ x, (spl (p.drop 1))[i]? = some x := ⟨_, List.getElem?_eq_getElem (by omega)⟩
  have hxb : ((spl (p.drop 1)).map S ++ rl)[0 + (i : Int).toNat * 1]? = some (S x) := by rw [Nat.zero_add, Int.toNat_natCast, Nat.mul_one, List.getElem?_append_left (by rw [List.length_map]; omega), List.getElem?_map, hx]; rfl
  have hKn : (List.foldl keep [] ((spl (p.drop 1)).take (i + 1))) = keep (List.foldl keep [] ((spl (p.drop 1)).take i)) x := by rw [List.take_add_one, hx, List.foldl_append]; rfl
  obtain ⟨ka, kc, rfl, hkc, _⟩ := hS.vecSlice (k := 0) (v := kv) rfl
  have hKl : (List.foldl keep [] ((spl (p.drop 1)).take i)).length ≤ 1000001 := by
   have h1 := len_tot (List.foldl keep [] ((spl (p.drop 1)).take i))
   have h2 := tot_fold ((spl (p.drop 1)).take i) []
   have h3 : tot (spl (p.drop 1)) = tot ((spl (p.drop 1)).take i) + tot ((spl (p.drop 1)).drop i) := by rw [← tot_app, List.take_append_drop]
   have h4 := spl_tot (p.drop 1)
   rw [List.length_drop] at h4
   rw [show tot [] = 0 from rfl] at h2
   omega
  refine .region (.run 2 rfl trivial (.val (.indexAddr (.of rfl) (.of rfl) (by omega) (by omega) Tryz.underlying41 Tryz.sizeOf9) rfl (.val (.ld (v := S x) (.of rfl) hS (k := 1) rfl Tryz.isAgg9 hxb) rfl (.run 2 rfl trivial (.gval rfl rfl (fun hg1 => (.move (.of rfl))) rfl (.gval rfl rfl (fun hg1 => (.lenSlice (.gd hg1 rfl) Tryz.underlying41)) rfl (.gval rfl rfl (fun hg1 => (.gtr (.gd hg1 rfl) (.of rfl))) rfl (.val (.pand (.of rfl) (.of rfl) (.of rfl)) rfl (.nil ?_)))))))))
  refine WC.cond rfl (fun hb35 => ?_) (fun hb35 => ?_)
  ·
   have hc35 := hb35; try simp only [Gk.cs0] at hc35
   have hx2 : x = [46, 46] ∧ 0 < (List.foldl keep [] ((spl (p.drop 1)).take i)).length := by
    simp only [Bool.and_eq_true, beq_iff_eq, decide_eq_true_eq] at hb35
    exact ⟨hb35.1, by omega⟩
   obtain ⟨gk, ck, rk, hvv, _, _, _, _, hS⟩ := hS.vecOpen (k := 0) rfl hx2.2
   injection hvv with hv1 hv2 hv3
   subst hv1; subst hv3
   try dsimp only [List.set] at hS
   refine .region (.buildSlice (cs := []) hS parts_nil Tryz.underlying41 Tryz.sizeOf9 Tryz.zeroValue9 rfl rfl rfl rfl ?_)
   clear hS; intro b36 w hS
   refine .run 4 rfl ⟨⟨_, Tryz.underlying41⟩, ⟨by omega, by omega⟩, trivial⟩ (.val (.slcTo (.of rfl) (.of rfl) (by omega) (by omega) Tryz.underlying41 Tryz.sizeOf9) rfl ?_)
   rw [sliced_zero]
   refine WL.append0p (bytes := 16) (news := (List.foldl keep [] ((spl (p.drop 1)).take i)).map S) (rest' := rk) hS (.of rfl) (.of rfl) (k := 0) rfl (by rw [List.length_map]; omega) Tryz.underlying41 info9_119 rfl rfl rfl rfl (fun u hu => by obtain ⟨y, _, rfl⟩ := List.mem_map.1 hu; rfl) ⟨by omega, by unfold maxLen; omega⟩ rfl ?_
   clear hS; intro v42 w hS
   replace hS : Sat B w I (Vec 9 1 v42 ((List.foldl keep [] ((spl (p.drop 1)).take i)).take ((List.foldl keep [] ((spl (p.drop 1)).take i)).length - 1)).length (((List.foldl keep [] ((spl (p.drop 1)).take i)).take ((List.foldl keep [] ((spl (p.drop 1)).take i)).length - 1)).map S) :: blk gl ((spl (p.drop 1)).map S ++ rl) 9 :: As) := by
    have h := hS.drop (k := 1) rfl
    rw [show (((List.foldl keep [] ((spl (p.drop 1)).take i)).length : Int) - 1).toNat = (List.foldl keep [] ((spl (p.drop 1)).take i)).length - 1 by omega, ← List.map_take] at h
    rw [show ((List.foldl keep [] ((spl (p.drop 1)).take i)).take ((List.foldl keep [] ((spl (p.drop 1)).take i)).length - 1)).length = (List.foldl keep [] ((spl (p.drop 1)).take i)).length - 1 by rw [List.length_take]; omega]
    exact h
   refine .run 1 rfl trivial (.nil (.seq (.region (.run 2 rfl trivial (.val (.indexAddr (.of rfl) (.of rfl) (by omega) (by omega) Tryz.underlying41 Tryz.sizeOf9) rfl (.val (.ld (v := S x) (.of rfl) hS (k := 1) rfl Tryz.isAgg9 hxb) rfl (.run 2 rfl trivial (.gval rfl rfl (fun hg1 => (.move (.of rfl))) rfl (.gval rfl rfl (fun hg1 => (.move (.of rfl))) rfl ?_)))))))))
   refine WL.gval rfl rfl (fun hg1 => (.indexAddr (.gd hg1 rfl) (.gd hg1 rfl) (by (try simp only [Gk.cs0] at hg1); omega) (by (try simp only [Gk.cs0] at hg1); omega) Tryz.underlying41 Tryz.sizeOf9)) rfl ?_
   refine .gval rfl rfl (fun hg1 => .ld (v := S x) (.gd hg1 rfl) hS (k := 1) rfl Tryz.isAgg9 hxb) rfl (.gval rfl rfl (fun hg1 => (.nes (.gd hg1 rfl) (.of rfl))) rfl (.val (.pand (.of rfl) (.of rfl) (.of rfl)) rfl (.nil ?_)))
   refine WC.condF (by show some (Value.bool (x != [46] && x != [46, 46])) = _; rw [hx2.1]; rfl) ?_
   refine .skip (.region (.run 3 rfl ⟨⟨by omega, by omega⟩, trivial⟩ (.nil ?_)))
   refine ⟨(_, i + 1), ⟨rfl, rfl, rfl, trivial⟩, ⟨by (try dsimp only); omega, ?_⟩, by (try dsimp only); omega⟩
   rw [hKn, keep, if_neg (by rw [hx2.1]; decide), if_pos hx2.1, List.dropLast_eq_take]
   exact hS
  have hc35 := hb35; try simp only [Gk.cs0] at hc35
  refine .skip (.seq (.region (.run 2 rfl trivial (.val (.indexAddr (.of rfl) (.of rfl) (by omega) (by omega) Tryz.underlying41 Tryz.sizeOf9) rfl (.val (.ld (v := S x) (.of rfl) hS (k := 1) rfl Tryz.isAgg9 hxb) rfl (.run 2 rfl trivial (.gval rfl rfl (fun hg1 => (.move (.of rfl))) rfl (.gval rfl rfl (fun hg1 => (.move (.of rfl))) rfl ?_))))))))
  refine WL.gval rfl rfl (fun hg1 => (.indexAddr (.gd hg1 rfl) (.gd hg1 rfl) (by (try simp only [Gk.cs0] at hg1); omega) (by (try simp only [Gk.cs0] at hg1); omega) Tryz.underlying41 Tryz.sizeOf9)) rfl ?_
  refine .gval rfl rfl (fun hg1 => .ld (v := S x) (.gd hg1 rfl) hS (k := 1) rfl Tryz.isAgg9 hxb) rfl (.gval rfl rfl (fun hg1 => (.nes (.gd hg1 rfl) (.of rfl))) rfl (.val (.pand (.of rfl) (.of rfl) (.of rfl)) rfl (.nil ?_)))
  refine WC.cond rfl (fun hb54 => ?_) (fun hb54 => ?_)
  ·
   have hc54 := hb54; try simp only [Gk.cs0] at hc54
   refine .region (.run 3 rfl trivial (.val (.indexAddr (.of rfl) (.of rfl) (by omega) (by omega) Tryz.underlying41 Tryz.sizeOf9) rfl (.val (.ld (v := S x) (.of rfl) hS (k := 1) rfl Tryz.isAgg9 hxb) rfl (.buildSlice (cs := [_]) hS (parts_cons (.of rfl) parts_nil) Tryz.underlying41 Tryz.sizeOf9 Tryz.zeroValue9 rfl rfl rfl rfl ?_))))
   clear hS; intro b60 w hS
   refine WL.append (size := 1) (bytes := 16) hS (.of rfl) (.of rfl) (k := 0) rfl Tryz.underlying41 info9_119 rfl rfl rfl rfl rfl rfl rfl ⟨by omega, by unfold maxLen; omega⟩ rfl ?_
   clear hS; intro v61 w hS; try dsimp only [List.set] at hS
   obtain ⟨a61, c61, rfl, hcap61, _⟩ := hS.vecSlice (k := 0) (v := v61) rfl
   refine .run 1 rfl trivial (.nil (.region (.run 3 rfl ⟨⟨by omega, by omega⟩, trivial⟩ (.nil ?_))))
   refine ⟨(_, i + 1), ⟨rfl, rfl, rfl, trivial⟩, ⟨by (try dsimp only); omega, ?_⟩, by (try dsimp only); omega⟩
   rw [hKn, keep, if_neg hc54.1, if_neg hc54.2, List.map_append, List.length_append]
   exact hS
  have hc54 := hb54; try simp only [Gk.cs0] at hc54
  refine .skip (.region (.run 3 rfl ⟨⟨by omega, by omega⟩, trivial⟩ (.nil ?_)))
  refine ⟨(_, i + 1), ⟨rfl, rfl, rfl, trivial⟩, ⟨by (try dsimp only); omega, ?_⟩, by (try dsimp only); omega⟩
  have hke := keep_same (k := (List.foldl keep [] ((spl (p.drop 1)).take i))) hc54 (fun e => List.eq_nil_of_length_eq_zero (by rcases hc35 with h | h; exact absurd e h; omega))
  rw [hKn, hke]
  exact hS
 have hc23 := hb23; try simp only [Gk.cs0] at hc23
 refine .exit (.seq ?_)
 have hin : i = (spl (p.drop 1)).length := by omega
 subst hin
 rw [List.take_length] at hS
 obtain ⟨ka, kc, rfl, hkc, _⟩ := hS.vecSlice (k := 0) (v := kv) rfl
 have htot := tot_fold (spl (p.drop 1)) []
 rw [spl_tot, show tot [] = 0 from rfl, Nat.zero_add, List.length_drop] at htot
 have hkt := len_tot (List.foldl keep [] (spl (p.drop 1)))
 refine .region (.run 1 rfl trivial (.nil (.seq (.seq (.region (.run 1 rfl trivial (.nil (.block (.loop (σ := Nat) (fun j => [(3, .slice (some (ad gl 0)) (spl (p.drop 1)).length cl), (4, .slice ka (List.foldl keep [] (spl (p.drop 1))).length kc), (6, S (slashed ((List.foldl keep [] (spl (p.drop 1))).take j))), (7, I64 (j : Nat))]) (fun j w => j ≤ (List.foldl keep [] (spl (p.drop 1))).length ∧ Sat B w I (Vec 9 1 (.slice ka (List.foldl keep [] (spl (p.drop 1))).length kc) (List.foldl keep [] (spl (p.drop 1))).length ((List.foldl keep [] (spl (p.drop 1))).map S) :: blk gl ((spl (p.drop 1)).map S ++ rl) 9 :: As)) (fun j => (List.foldl keep [] (spl (p.drop 1))).length - j) 0 ⟨rfl, rfl, rfl, rfl, trivial⟩ ⟨Nat.zero_le _, hS⟩ ?_)))))))))
 rintro j w ⟨hj, hS⟩
 change WC _ _ _ _ [(3, .slice (some (ad gl 0)) (spl (p.drop 1)).length cl), (4, .slice ka (List.foldl keep [] (spl (p.drop 1))).length kc), (6, S (slashed ((List.foldl keep [] (spl (p.drop 1))).take j))), (7, I64 (j : Nat))] w
 refine .seq (.seq (.region (.run 4 rfl ⟨⟨_, Tryz.underlying41⟩, trivial⟩ (.nil ?_))))
 refine WC.cond rfl (fun hb65 => ?_) (fun hb65 => ?_)
 ·
  have hc65 := hb65; try simp only [Gk.cs0] at hc65
  refine .skip (.seq (.block ?_))
  obtain ⟨x, hx⟩ : ∃ x, (List.foldl keep [] (spl (p.drop 1)))[j]? = some x := ⟨_, List.getElem?_eq_getElem (by omega)⟩
  have hsn : slashed ((List.foldl keep [] (spl (p.drop 1))).take (j + 1)) = slashed ((List.foldl keep [] (spl (p.drop 1))).take j) ++ 47 :: x := by rw [List.take_add_one, hx]; exact slashed_app _ _
  have hsl : (slashed ((List.foldl keep [] (spl (p.drop 1))).take j)).length + (x.length + 1) ≤ tot (List.foldl keep [] (spl (p.drop 1))) := by
   rw [show x.length + 1 = (47 :: x).length from rfl, ← List.length_append, ← hsn, slashed_len]
   have : tot (List.foldl keep [] (spl (p.drop 1))) = tot ((List.foldl keep [] (spl (p.drop 1))).take (j + 1)) + tot ((List.foldl keep [] (spl (p.drop 1))).drop (j + 1)) := by rw [← tot_app, List.take_append_drop]
   omega
  obtain ⟨g19, rest19, hS19⟩ : ∃ g rest, ka = some (ad g 0) ∧ Sat B w I (blk g ((List.foldl keep [] (spl (p.drop 1))).map S ++ rest) 9 :: blk gl ((spl (p.drop 1)).map S ++ rl) 9 :: As) := by
   obtain ⟨g, c, rest, hv, _, _, _, _, hs⟩ := hS.vecOpen (k := 0) rfl (by omega)
   injection hv with hv1 hv2 hv3
   exact ⟨g, rest, hv1, hs⟩
  obtain ⟨rfl, hS19⟩ := hS19
  refine .region ?_
  refine WL.run 4 rfl ⟨by (try simp only [List.length_append, List.length_cons, List.length_nil]); omega, trivial⟩ ?_
  refine .val (.indexAddr (b := g19) (o := 0) (.of rfl) (.of rfl) (by omega) (by omega) Tryz.underlying41 Tryz.sizeOf9) rfl ?_
  refine WL.val (.ld (v := S x) (.of rfl) hS19 (k := 0) rfl Tryz.isAgg9 (by rw [Nat.zero_add, Int.toNat_natCast, Nat.mul_one, List.getElem?_append_left (by rw [List.length_map]; omega), List.getElem?_map, hx]; rfl)) rfl ?_
  clear hS19
  refine WL.run 2 rfl ⟨by (try simp only [List.length_append, List.length_cons, List.length_nil]); omega, trivial⟩ ?_
  refine .nil (.region (.run 3 rfl ⟨⟨by omega, by omega⟩, trivial⟩ (.nil ?_)))
  refine ⟨j + 1, ⟨rfl, rfl, by show some (S _) = some _; rw [hsn]; simp, rfl, trivial⟩, ⟨by omega, hS⟩, by omega⟩
 have hc65 := hb65; try simp only [Gk.cs0] at hc65
 refine .exit (.seq ?_)
 have hjn : (List.foldl keep [] (spl (p.drop 1))).take j = (List.foldl keep [] (spl (p.drop 1))) := List.take_of_length_le (by omega)
 have hsl2 : (slashed ((List.foldl keep [] (spl (p.drop 1))).take j)).length ≤ tot (List.foldl keep [] (spl (p.drop 1))) := by rw [hjn, slashed_len]; exact Nat.le_refl _
 have hn1 : 1 ≤ (spl (p.drop 1)).length := List.length_pos_iff.2 (spl_ne _)
 obtain ⟨x, hx⟩ : ∃ x, (spl (p.drop 1))[(spl (p.drop 1)).length - 1]? = some x := ⟨_, List.getElem?_eq_getElem (by omega)⟩
 have hxb : ((spl (p.drop 1)).map S ++ rl)[0 + (((spl (p.drop 1)).length : Int) - 1).toNat * 1]? = some (S x) := by rw [Nat.zero_add, show (((spl (p.drop 1)).length : Int) - 1).toNat = (spl (p.drop 1)).length - 1 by omega, Nat.mul_one, List.getElem?_append_left (by rw [List.length_map]; omega), List.getElem?_map, hx]; rfl
 have hlast : (spl (p.drop 1)).getLastD [] = x := by rw [List.getLastD_eq_getLast?, List.getLast?_eq_getElem?, hx]; rfl
 have hpc : p = 47 :: p.drop 1 := by
  cases p with
  | nil => simp at hb15
  | cons a b =>
   have h := hb15
   rw [show ((a :: b : List UInt8) == []) = false from rfl, Bool.false_or] at h
   have : a = 47 := UInt8.toNat_inj.1 (by
    have h2 : (((a.toNat : Int)) != 47) = false := h
    simp only [bne_eq_false_iff_eq] at h2
    show a.toNat = 47
    omega)
   rw [this]; rfl
 have hall : dots p = slashed (List.foldl keep [] (spl (p.drop 1))) ++ (if isDot ((spl (p.drop 1)).getLastD []) || (List.foldl keep [] (spl (p.drop 1))).length == 0 then [47] else []) := by rw [hpc, dots, if_pos rfl]; rfl
 refine .region (.run 4 rfl ⟨⟨_, Tryz.underlying41⟩, ⟨by omega, by omega⟩, trivial⟩ (.val (.indexAddr (.of rfl) (.of rfl) (by omega) (by omega) Tryz.underlying41 Tryz.sizeOf9) rfl (.val (.ld (v := S x) (.of rfl) hS (k := 1) rfl Tryz.isAgg9 hxb) rfl (.run 1 rfl trivial (.nil (.seq (.seq (.region (.run 3 rfl trivial (.gval rfl rfl (fun hg1 => (.move (.of rfl))) rfl (.gval rfl rfl (fun hg1 => (.eqs (.gd hg1 rfl) (.of rfl))) rfl (.val (.por (.of rfl) (.of rfl) (.of rfl)) rfl (.run 1 rfl trivial (.gval rfl rfl (fun hg1 => (.move (.of rfl))) rfl (.gval rfl rfl (fun hg1 => (.lenSlice (.gd hg1 rfl) Tryz.underlying41)) rfl (.gval rfl rfl (fun hg1 => (.eql (.gd hg1 rfl) (.of rfl))) rfl (.val (.por (.of rfl) (.of rfl) (.of rfl)) rfl (.nil ?_))))))))))))))))))
 refine WC.cond rfl (fun hb91 => ?_) (fun hb91 => ?_)
 ·
  have hc91 := hb91; try simp only [Gk.cs0] at hc91
  refine .region ?_
  refine WL.run 3 rfl ⟨by (try simp only [List.length_append, List.length_cons, List.length_nil]); omega, trivial⟩ ?_
  refine .nil (.seq (.region (.run 2 rfl trivial (.nil (.ret (ret1 Tryz.results119 rfl ?_))))))
  refine ⟨_, rfl, ?_, (hS.drop (k := 0) rfl).drop (k := 0) rfl⟩
  rw [hall, hjn, hlast]
  rw [if_pos (by simpa [isDot] using hb91)]
 have hc91 := hb91; try simp only [Gk.cs0] at hc91
 refine .skip (.seq (.region (.run 2 rfl trivial (.nil (.ret (ret1 Tryz.results119 rfl ?_))))))
 refine ⟨_, rfl, ?_, (hS.drop (k := 0) rfl).drop (k := 0) rfl⟩
 rw [hall, hjn, hlast]
 rw [if_neg (by rw [Bool.not_eq_true]; simpa [isDot] using hb91), List.append_nil]
theorem refOrigin_any (u : U) (hu : SmallU u) (B w : World) (I : Im) (As : List Assn) (hS : Sat B w I As) :
  Calls Tryz.prog 120 [.agg [S u.sch, S u.host, I64 (u.port : Nat), S u.path, S u.query, .bool u.ask].toArray].toArray w (Ret fun v w' => v = S (origin u) ∧ Sat B w' I As) := by
 refine calls Tryz.func120 rfl Tryz.ntmps120 rfl (.seq (.region (.boxA (cs := [_, _, _, _, _, _]) hS (.of rfl) rfl ?_)))
 clear hS; intro b1 w hS
 refine .run 1 rfl trivial (.nil (.seq ?_))
 obtain ⟨hs1, hs2, hp, hs4, hs5⟩ := hu
 have hd5 := dec_len u.port hp
 refine .region (.val (.fieldAddr 0 (.of rfl) Tryz.underlying134 rfl rfl Tryz.sizeOf9 rfl) rfl (.val (.ld (.of rfl) hS (k := 0) rfl Tryz.isAgg9 rfl) rfl ?_))
 refine WL.run 1 rfl ⟨by (try simp only [List.length_append, List.length_cons, List.length_nil]); omega, trivial⟩ ?_
 refine .val (.fieldAddr 1 (.of rfl) Tryz.underlying134 rfl rfl Tryz.sizeOf9 rfl) rfl (.val (.ld (.of rfl) hS (k := 0) rfl Tryz.isAgg9 rfl) rfl ?_)
 refine WL.run 2 rfl ⟨by (try simp only [List.length_append, List.length_cons, List.length_nil]); omega, trivial⟩ ?_
 refine .nil (.seq (.seq (.region (.val (.fieldAddr 2 (.of rfl) Tryz.underlying134 rfl rfl Tryz.sizeOf3 rfl) rfl (.val (.ld (.of rfl) hS (k := 0) rfl Tryz.isAgg3 rfl) rfl (.run 1 rfl trivial (.nil ?_)))))))
 refine WC.cond rfl (fun hb12 => ?_) (fun hb12 => ?_)
 ·
  have hc12 := hb12; try simp only [Gk.cs0] at hc12
  refine .region ?_
  refine WL.run 2 rfl ⟨by (try simp only [List.length_append, List.length_cons, List.length_nil]); omega, trivial⟩ ?_
  refine .val (.fieldAddr 2 (.of rfl) Tryz.underlying134 rfl rfl Tryz.sizeOf3 rfl) rfl (.val (.ld (.of rfl) hS (k := 0) rfl Tryz.isAgg3 rfl) rfl (.call Tryz.func159 rfl (evs_cons (.of rfl) evs_nil) rfl (Digits_any u.port hp B _ I _ hS) ?_))
  clear hS
  rintro _ w ⟨rfl, hS⟩
  refine WL.run 2 rfl ⟨by (try simp only [List.length_append, List.length_cons, List.length_nil]); omega, trivial⟩ ?_
  refine .nil (.seq (.region (.run 2 rfl trivial (.nil (.ret (ret1 Tryz.results120 rfl ?_))))))
  refine ⟨_, rfl, ?_, hS.drop (k := 0) rfl⟩
  rw [origin, if_neg (by omega)]
  simp [List.append_assoc]
 have hc12 := hb12; try simp only [Gk.cs0] at hc12
 refine .skip (.seq (.region (.run 2 rfl trivial (.nil (.ret (ret1 Tryz.results120 rfl ?_))))))
 refine ⟨_, rfl, ?_, hS.drop (k := 0) rfl⟩
 rw [origin, if_pos (by omega)]
 simp [List.append_assoc]
theorem refString_any (u : U) (hu : SmallU u) (B w : World) (I : Im) (As : List Assn) (hS : Sat B w I As) :
  Calls Tryz.prog 68 [.agg [S u.sch, S u.host, I64 (u.port : Nat), S u.path, S u.query, .bool u.ask].toArray].toArray w (Ret fun v w' => v = S (strU u) ∧ Sat B w' I As) := by
 refine calls Tryz.func68 rfl Tryz.ntmps68 rfl (.seq (.region (.boxA (cs := [_, _, _, _, _, _]) hS (.of rfl) rfl ?_)))
 clear hS; intro b1 w hS
 refine .run 1 rfl trivial (.nil (.seq ?_))
 have hol := origin_len u hu
 obtain ⟨hs1, hs2, hp, hs4, hs5⟩ := id hu
 refine .drawn (fun w => ∃ R, Sat B w I (blk b1 [S u.sch, S u.host, I64 (u.port : Nat), S u.path, S u.query, .bool u.ask] 134 :: R)) (fun j => !([].contains j)) (by kernel_rfl) ?_
 replace hS := hS.drew; generalize w.drew = w at hS ⊢
 have hH : ∃ R, Sat B w I (blk b1 [S u.sch, S u.host, I64 (u.port : Nat), S u.path, S u.query, .bool u.ask] 134 :: R) := ⟨_, (hS.pick 0 rfl)⟩
 refine .take (i := 0) rfl (by kernel_rfl) (by kernel_rfl) (by kernel_rfl) (by kernel_rfl) hH (fun w ⟨R, hS⟩ => (.ldsW (cs := [_, _, _, _, _, _]) (.of rfl) hS (k := 0) rfl Tryz.isAgg134 Tryz.sizeOf134 rfl)) rfl (.takeP (i := 2) rfl (by kernel_rfl) (by kernel_rfl) (by kernel_rfl) (fun w => (.fieldAddr 3 (.of rfl) Tryz.underlying134 rfl rfl Tryz.sizeOf9 rfl)) rfl (.take (i := 3) rfl (by kernel_rfl) (by kernel_rfl) (by kernel_rfl) (by kernel_rfl) hH (fun w ⟨R, hS⟩ => (.ld (.of rfl) hS (k := 0) rfl Tryz.isAgg9 rfl)) rfl ?_))
 refine WD.branch [1] (by kernel_rfl) rfl (WO.cons rfl ?_ (WO.nil))
 refine .call Tryz.func120 rfl (evs_cons (.of rfl) evs_nil) rfl (refOrigin_any u hu B _ I _ hS) ?_
 clear hS
 rintro _ w ⟨rfl, hS⟩
 refine .nil ?_
 clear hH
 have hH : ∃ R, Sat B w I (blk b1 [S u.sch, S u.host, I64 (u.port : Nat), S u.path, S u.query, .bool u.ask] 134 :: R) := ⟨_, (hS.pick 0 rfl)⟩
 refine And.intro (by intro _ _; exact hH) ?_
 refine WD.takeP (i := 4) rfl (by kernel_rfl) (by kernel_rfl) (by kernel_rfl) (fun w => (.cat (.of rfl) (.of rfl) (by (try simp only [List.length_append, List.length_cons, List.length_nil]); omega))) rfl ?_
 refine .takeP (i := 5) rfl (by kernel_rfl) (by kernel_rfl) (by kernel_rfl) (fun w => (.assign (.of rfl))) rfl (.done (by kernel_rfl) (.seq (.seq (.region (.val (.fieldAddr 5 (.of rfl) Tryz.underlying134 rfl rfl Tryz.sizeOf4 rfl) rfl (.val (.ld (.of rfl) hS (k := 0) rfl Tryz.isAgg4 rfl) rfl (.nil ?_)))))))
 refine WC.cond rfl (fun hb10 => ?_) (fun hb10 => ?_)
 ·
  have hc10 := hb10; try simp only [Gk.cs0] at hc10
  refine .region ?_
  refine WL.run 2 rfl ⟨by (try simp only [List.length_append, List.length_cons, List.length_nil]); omega, trivial⟩ ?_
  refine .val (.fieldAddr 4 (.of rfl) Tryz.underlying134 rfl rfl Tryz.sizeOf9 rfl) rfl (.val (.ld (.of rfl) hS (k := 0) rfl Tryz.isAgg9 rfl) rfl ?_)
  refine WL.run 2 rfl ⟨by (try simp only [List.length_append, List.length_cons, List.length_nil]); omega, trivial⟩ ?_
  refine .nil (.seq (.region (.run 2 rfl trivial (.nil (.ret (ret1 Tryz.results68 rfl ?_))))))
  refine ⟨_, rfl, ?_, hS.drop (k := 0) rfl⟩
  rw [strU, if_pos hc10]
  simp [List.append_assoc]
 have hc10 := hb10; try simp only [Gk.cs0] at hc10
 refine .skip (.seq (.region (.run 2 rfl trivial (.nil (.ret (ret1 Tryz.results68 rfl ?_))))))
 refine ⟨_, rfl, ?_, hS.drop (k := 0) rfl⟩
 rw [strU, if_neg (by rw [hc10]; decide), List.append_nil]
end Go.Proofs.YtadhiihnnkcagaaGreatDoor
