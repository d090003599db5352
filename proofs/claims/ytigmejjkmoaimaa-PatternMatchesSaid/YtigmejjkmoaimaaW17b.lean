/- Chapter 17: what the program's functions compute. -/
import Derived.Test.YtigmejjkmoaimaaGkG
import Derived.Test.YtigmejjkmoaimaaChecked
import Derived.Test.YtigmejjkmoaimaaPatM
import Derived.Test.YtigmejjkmoaimaaPat
namespace Go.Proofs.Ytigmejjkmoaimaa
open Gk Pat
set_option linter.unusedVariables false
set_option linter.unusedSimpArgs false
/-- The marks of the brackets that are open: a slice of the call's own each. -/
def rowsA (E : Nat) (st : List (Value × List Int)) : Assn := SepAll (st.map fun x => Vec E 1 x.1 x.2.length (x.2.map I64))
theorem marks_get {o b : Nat} {bs pre r : List Nat} (h : bs = pre ++ b :: r) (rm : List Value) : (((o :: bs).map fun (x : Nat) => (x : Int)).map I64 ++ rm)[1 + (pre.length : Int).toNat * 1]? = some (I64 b) := by
  subst h
  rw [Int.toNat_natCast, Nat.mul_one, List.getElem?_append_left (by simp; omega)]
  simp [Nat.add_comm 1]
theorem bld61 : Bld Try.prog 61 [(0, 1), (1, 1), (2, 1)] [.int .u8 0, .int .u8 0, .slice none 0 0] := bld_of Try.underlying61 Try.zeroValue61 (fun w => by simp [go_sem])
theorem put_any (bc n : Nat) (lv sv av : Value) (xs : List Value) (kd b : Int) (B w : World) (I : Im) (F : List Assn) (hS : Sat B w I (blk bc [lv, sv, av] 42 :: Vec 61 3 lv n xs :: F)) (hn : n ≤ 1000) :
    Calls Try.prog 19 [ptr bc 0, .int .u8 kd, .int .u8 b].toArray w (Ret fun v w' => v = .tuple #[] ∧ ∃ lv', Sat B w' I (blk bc [lv', sv, av] 42 :: Vec 61 3 lv' (n + 1) (xs ++ [.int .u8 kd, .int .u8 b, .slice none 0 0]) :: F)) := by
  refine calls Try.func19 rfl Try.ntmps19 rfl ?_
  refine WC.region ?_
  refine WL.val (.move (.of rfl)) rfl ?_
  refine WL.val (.move (.of rfl)) rfl ?_
  refine WL.val (.nilCheck (.of rfl)) rfl ?_
  first | refine WL.val (.fieldAddr 0 (.of rfl) Try.underlying42 rfl rfl Try.sizeOf38 rfl) rfl ?_ | refine WL.val (.fieldAddrI 0 (.of rfl) Try.underlying42 rfl rfl Try.sizeOf38 rfl) rfl ?_
  first | refine WL.val (.ld (.of rfl) hS (k := 0) rfl Try.isAgg38 rfl) rfl ?_ | refine WL.val (.ld (.of rfl) hS (k := 1) rfl Try.isAgg38 rfl) rfl ?_
  refine WL.val (.move (.of rfl)) rfl ?_
  refine WL.val (.move (.of rfl)) rfl ?_
  refine WL.val (.build (cs := [_, _, _]) (parts_cons (.of rfl) (parts_cons (.of rfl) parts_nil)) bld61 rfl) rfl ?_
  refine WL.buildSlice (cs := [_, _, _]) hS (parts_cons (.of rfl) parts_nil) Try.underlying38 Try.sizeOf61 Try.zeroValue61 rfl rfl rfl rfl ?_
  clear hS; intro b14 w hS
  first | refine WL.append (size := 3) (bytes := 32) hS (.of rfl) (.of rfl) (k := 0) rfl Try.underlying38 Try.type61 rfl rfl rfl rfl rfl rfl rfl ⟨by omega, by unfold maxLen; omega⟩ rfl ?_ | refine WL.append (size := 3) (bytes := 32) hS (.of rfl) (.of rfl) (k := 1) rfl Try.underlying38 Try.type61 rfl rfl rfl rfl rfl rfl rfl ⟨by omega, by unfold maxLen; omega⟩ rfl ?_
  clear hS; intro v15 w hS; try dsimp only [List.set] at hS
  first | obtain ⟨a15, c15, rfl, hcap15, _⟩ := hS.vecSlice (k := 0) (v := v15) rfl | obtain ⟨a15, c15, rfl, hcap15, _⟩ := hS.vecSlice (k := 1) (v := v15) rfl
  refine WL.val (.nilCheck (.of rfl)) rfl ?_
  first | refine WL.val (.fieldAddr 0 (.of rfl) Try.underlying42 rfl rfl Try.sizeOf38 rfl) rfl ?_ | refine WL.val (.fieldAddrI 0 (.of rfl) Try.underlying42 rfl rfl Try.sizeOf38 rfl) rfl ?_
  first | refine WL.st1 hS (k := 0) rfl (.of rfl) (.of rfl) rfl Try.sizeOf38 (by simp) ?_ | refine WL.st1 hS (k := 1) rfl (.of rfl) (.of rfl) rfl Try.sizeOf38 (by simp) ?_
  clear hS; intro w hS; try dsimp only [List.set] at hS
  refine WL.nil ?_
  refine end0 Try.results19 ?_
  exact ⟨_, rfl, rfl, _, hS⟩
theorem bracket_any (bc n : Nat) (lv sv av : Value) (xs : List Value) (st : List (Value × List Int)) (ats : List Int) (at_ : Int) (B w : World) (I : Im) (F : List Assn) (hS : Sat B w I (blk bc [lv, sv, av] 42 :: Vec 61 3 lv n xs :: Vec 40 1 sv st.length (st.map (·.1)) :: Vec 3 1 av ats.length (ats.map I64) :: rowsA 3 st :: F)) (hn : n ≤ 1000) (hd : st.length ≤ 1000) (hd2 : ats.length ≤ 1000) :
    Calls Try.prog 21 [ptr bc 0, I64 at_].toArray w (Ret fun v w' => v = .tuple #[] ∧ ∃ lv' sv' av' mv, Sat B w' I (blk bc [lv', sv', av'] 42 :: Vec 61 3 lv' (n + 1) (xs ++ [.int .u8 4, .int .u8 0, .slice none 0 0]) :: Vec 40 1 sv' (st.length + 1) (st.map (·.1) ++ [mv]) :: Vec 3 1 av' (ats.length + 1) (ats.map I64 ++ [I64 at_]) :: rowsA 3 (st ++ [(mv, [(n : Int)])]) :: F)) := by
  refine calls Try.func21 rfl Try.ntmps21 rfl ?_
  refine WC.seq ?_
  obtain ⟨la, lc, rfl, hlc, _⟩ := hS.vecSlice (k := 1) rfl
  obtain ⟨sa, sc, rfl, hsc, _⟩ := hS.vecSlice (k := 2) rfl
  obtain ⟨aa, ac, rfl, hac, _⟩ := hS.vecSlice (k := 3) rfl
  refine WC.drawn (fun w => ∃ R, Sat B w I (blk bc [.slice la n lc, .slice sa st.length sc, .slice aa ats.length ac] 42 :: R)) (fun j => !([23, 26].contains j)) (by kernel_rfl) ?_
  replace hS := hS.drew; generalize w.drew = w at hS ⊢
  have hH : ∃ R, Sat B w I (blk bc [.slice la n lc, .slice sa st.length sc, .slice aa ats.length ac] 42 :: R) := ⟨_, (hS.pick 0 rfl)⟩
  refine WD.takeP (i := 0) rfl (by kernel_rfl) (by kernel_rfl) (by kernel_rfl) (fun w => (.move (.of rfl))) rfl ?_
  refine WD.takeP (i := 1) rfl (by kernel_rfl) (by kernel_rfl) (by kernel_rfl) (fun w => (.move (.of rfl))) rfl ?_
  refine WD.takeP (i := 2) rfl (by kernel_rfl) (by kernel_rfl) (by kernel_rfl) (fun w => (.move (.of rfl))) rfl ?_
  refine WD.takeP (i := 3) rfl (by kernel_rfl) (by kernel_rfl) (by kernel_rfl) (fun w => (.nilCheck (.of rfl))) rfl ?_
  refine WD.takeP (i := 4) rfl (by kernel_rfl) (by kernel_rfl) (by kernel_rfl) (fun w => (by first | exact .fieldAddr 1 (.of rfl) Try.underlying42 rfl rfl Try.sizeOf39 rfl | exact .fieldAddrI 1 (.of rfl) Try.underlying42 rfl rfl Try.sizeOf39 rfl)) rfl ?_
  refine WD.take (i := 5) rfl (by kernel_rfl) (by kernel_rfl) (by kernel_rfl) (by kernel_rfl) hH (fun w ⟨R, hS⟩ => (by first | exact (.ld (.of rfl) hS (k := 0) rfl Try.isAgg39 rfl))) rfl ?_
  refine WD.takeP (i := 6) rfl (by kernel_rfl) (by kernel_rfl) (by kernel_rfl) (fun w => (.move (.of rfl))) rfl ?_
  refine WD.takeP (i := 7) rfl (by kernel_rfl) (by kernel_rfl) (by kernel_rfl) (fun w => (.nilCheck (.of rfl))) rfl ?_
  refine WD.takeP (i := 8) rfl (by kernel_rfl) (by kernel_rfl) (by kernel_rfl) (fun w => (by first | exact .fieldAddr 0 (.of rfl) Try.underlying42 rfl rfl Try.sizeOf38 rfl | exact .fieldAddrI 0 (.of rfl) Try.underlying42 rfl rfl Try.sizeOf38 rfl)) rfl ?_
  refine WD.take (i := 9) rfl (by kernel_rfl) (by kernel_rfl) (by kernel_rfl) (by kernel_rfl) hH (fun w ⟨R, hS⟩ => (by first | exact (.ld (.of rfl) hS (k := 0) rfl Try.isAgg38 rfl))) rfl ?_
  refine WD.takeP (i := 10) rfl (by kernel_rfl) (by kernel_rfl) (by kernel_rfl) (fun w => (.lenSlice (.of rfl) Try.underlying38)) rfl ?_
  refine WD.takeP (i := 14) rfl (by kernel_rfl) (by kernel_rfl) (by kernel_rfl) (fun w => (.move (.of rfl))) rfl ?_
  refine WD.takeP (i := 15) rfl (by kernel_rfl) (by kernel_rfl) (by kernel_rfl) (fun w => (.nilCheck (.of rfl))) rfl ?_
  refine WD.takeP (i := 16) rfl (by kernel_rfl) (by kernel_rfl) (by kernel_rfl) (fun w => (by first | exact .fieldAddr 2 (.of rfl) Try.underlying42 rfl rfl Try.sizeOf40 rfl | exact .fieldAddrI 2 (.of rfl) Try.underlying42 rfl rfl Try.sizeOf40 rfl)) rfl ?_
  refine WD.take (i := 17) rfl (by kernel_rfl) (by kernel_rfl) (by kernel_rfl) (by kernel_rfl) hH (fun w ⟨R, hS⟩ => (by first | exact (.ld (.of rfl) hS (k := 0) rfl Try.isAgg40 rfl))) rfl ?_
  refine WD.takeP (i := 18) rfl (by kernel_rfl) (by kernel_rfl) (by kernel_rfl) (fun w => (.move (.of rfl))) rfl ?_
  refine WD.branch [11, 19] (by kernel_rfl) rfl (WO.cons rfl ?_ (WO.cons rfl ?_ (WO.nil)))
  ·
    refine WL.buildSlice (cs := [_]) hS (parts_cons (.of rfl) parts_nil) Try.underlying40 Try.sizeOf3 Try.zeroValue3 rfl rfl rfl rfl ?_
    clear hS; intro b15 w hS
    refine WL.nil ?_
    clear hH
    have hH : ∃ R, Sat B w I (blk bc [.slice la n lc, .slice sa st.length sc, .slice aa ats.length ac] 42 :: R) := ⟨_, (hS.pick 1 rfl)⟩
    refine And.intro (by intro _ _; exact hH) ?_
    refine WD.branch [12, 19] (by kernel_rfl) rfl (WO.cons rfl ?_ (WO.cons rfl ?_ (WO.nil)))
    ·
      refine WL.buildSlice (cs := [_]) hS (parts_cons (.of rfl) parts_nil) Try.underlying39 Try.sizeOf40 Try.zeroValue40 rfl rfl rfl rfl ?_
      clear hS; intro b16 w hS
      refine WL.nil ?_
      clear hH
      have hH : ∃ R, Sat B w I (blk bc [.slice la n lc, .slice sa st.length sc, .slice aa ats.length ac] 42 :: R) := ⟨_, (hS.pick 2 rfl)⟩
      refine And.intro (by intro _ _; exact hH) ?_
      refine WD.branch [13, 19] (by kernel_rfl) rfl (WO.cons rfl ?_ (WO.cons rfl ?_ (WO.nil)))
      ·
        first | refine WL.append (size := 1) (bytes := 24) hS (.of rfl) (.of rfl) (k := 0) rfl Try.underlying39 Try.type40 rfl rfl rfl rfl rfl rfl rfl ⟨by omega, by unfold maxLen; omega⟩ rfl ?_ | refine WL.append (size := 1) (bytes := 24) hS (.of rfl) (.of rfl) (k := 1) rfl Try.underlying39 Try.type40 rfl rfl rfl rfl rfl rfl rfl ⟨by omega, by unfold maxLen; omega⟩ rfl ?_ | refine WL.append (size := 1) (bytes := 24) hS (.of rfl) (.of rfl) (k := 2) rfl Try.underlying39 Try.type40 rfl rfl rfl rfl rfl rfl rfl ⟨by omega, by unfold maxLen; omega⟩ rfl ?_ | refine WL.append (size := 1) (bytes := 24) hS (.of rfl) (.of rfl) (k := 3) rfl Try.underlying39 Try.type40 rfl rfl rfl rfl rfl rfl rfl ⟨by omega, by unfold maxLen; omega⟩ rfl ?_ | refine WL.append (size := 1) (bytes := 24) hS (.of rfl) (.of rfl) (k := 4) rfl Try.underlying39 Try.type40 rfl rfl rfl rfl rfl rfl rfl ⟨by omega, by unfold maxLen; omega⟩ rfl ?_ | refine WL.append (size := 1) (bytes := 24) hS (.of rfl) (.of rfl) (k := 5) rfl Try.underlying39 Try.type40 rfl rfl rfl rfl rfl rfl rfl ⟨by omega, by unfold maxLen; omega⟩ rfl ?_
        clear hS; intro v17 w hS; try dsimp only [List.set] at hS
        first | obtain ⟨a17, c17, rfl, hcap17, _⟩ := hS.vecSlice (k := 0) (v := v17) rfl | obtain ⟨a17, c17, rfl, hcap17, _⟩ := hS.vecSlice (k := 1) (v := v17) rfl | obtain ⟨a17, c17, rfl, hcap17, _⟩ := hS.vecSlice (k := 2) (v := v17) rfl | obtain ⟨a17, c17, rfl, hcap17, _⟩ := hS.vecSlice (k := 3) (v := v17) rfl | obtain ⟨a17, c17, rfl, hcap17, _⟩ := hS.vecSlice (k := 4) (v := v17) rfl | obtain ⟨a17, c17, rfl, hcap17, _⟩ := hS.vecSlice (k := 5) (v := v17) rfl
        refine WL.nil ?_
        clear hH
        have hH : ∃ R, Sat B w I (blk bc [.slice la n lc, .slice sa st.length sc, .slice aa ats.length ac] 42 :: R) := ⟨_, (hS.pick 1 rfl)⟩
        refine And.intro (by intro _ _; exact hH) ?_
        refine WD.branch [19] (by kernel_rfl) rfl (WO.cons rfl ?_ (WO.nil))
        refine WL.buildSlice (cs := [_]) hS (parts_cons (.of rfl) parts_nil) Try.underlying40 Try.sizeOf3 Try.zeroValue3 rfl rfl rfl rfl ?_
        clear hS; intro b23 w hS
        refine WL.nil ?_
        clear hH
        have hH : ∃ R, Sat B w I (blk bc [.slice la n lc, .slice sa st.length sc, .slice aa ats.length ac] 42 :: R) := ⟨_, (hS.pick 2 rfl)⟩
        refine And.intro (by intro _ _; exact hH) ?_
        refine WD.branch [20] (by kernel_rfl) rfl (WO.cons rfl ?_ (WO.nil))
        first | refine WL.append (size := 1) (bytes := 8) hS (.of rfl) (.of rfl) (k := 0) rfl Try.underlying40 Try.type3 rfl rfl rfl rfl rfl rfl rfl ⟨by omega, by unfold maxLen; omega⟩ rfl ?_ | refine WL.append (size := 1) (bytes := 8) hS (.of rfl) (.of rfl) (k := 1) rfl Try.underlying40 Try.type3 rfl rfl rfl rfl rfl rfl rfl ⟨by omega, by unfold maxLen; omega⟩ rfl ?_ | refine WL.append (size := 1) (bytes := 8) hS (.of rfl) (.of rfl) (k := 2) rfl Try.underlying40 Try.type3 rfl rfl rfl rfl rfl rfl rfl ⟨by omega, by unfold maxLen; omega⟩ rfl ?_ | refine WL.append (size := 1) (bytes := 8) hS (.of rfl) (.of rfl) (k := 3) rfl Try.underlying40 Try.type3 rfl rfl rfl rfl rfl rfl rfl ⟨by omega, by unfold maxLen; omega⟩ rfl ?_ | refine WL.append (size := 1) (bytes := 8) hS (.of rfl) (.of rfl) (k := 4) rfl Try.underlying40 Try.type3 rfl rfl rfl rfl rfl rfl rfl ⟨by omega, by unfold maxLen; omega⟩ rfl ?_ | refine WL.append (size := 1) (bytes := 8) hS (.of rfl) (.of rfl) (k := 5) rfl Try.underlying40 Try.type3 rfl rfl rfl rfl rfl rfl rfl ⟨by omega, by unfold maxLen; omega⟩ rfl ?_
        clear hS; intro v24 w hS; try dsimp only [List.set] at hS
        first | obtain ⟨a24, c24, rfl, hcap24, _⟩ := hS.vecSlice (k := 0) (v := v24) rfl | obtain ⟨a24, c24, rfl, hcap24, _⟩ := hS.vecSlice (k := 1) (v := v24) rfl | obtain ⟨a24, c24, rfl, hcap24, _⟩ := hS.vecSlice (k := 2) (v := v24) rfl | obtain ⟨a24, c24, rfl, hcap24, _⟩ := hS.vecSlice (k := 3) (v := v24) rfl | obtain ⟨a24, c24, rfl, hcap24, _⟩ := hS.vecSlice (k := 4) (v := v24) rfl | obtain ⟨a24, c24, rfl, hcap24, _⟩ := hS.vecSlice (k := 5) (v := v24) rfl
        refine WL.nil ?_
        clear hH
        have hH : ∃ R, Sat B w I (blk bc [.slice la n lc, .slice sa st.length sc, .slice aa ats.length ac] 42 :: R) := ⟨_, (hS.pick 1 rfl)⟩
        refine And.intro (by intro _ _; exact hH) ?_
        refine WD.takeP (i := 21) rfl (by kernel_rfl) (by kernel_rfl) (by kernel_rfl) (fun w => (.nilCheck (.of rfl))) rfl ?_
        refine WD.takeP (i := 22) rfl (by kernel_rfl) (by kernel_rfl) (by kernel_rfl) (fun w => (by first | exact .fieldAddr 1 (.of rfl) Try.underlying42 rfl rfl Try.sizeOf39 rfl | exact .fieldAddrI 1 (.of rfl) Try.underlying42 rfl rfl Try.sizeOf39 rfl)) rfl ?_
        refine WD.branch [23] (by kernel_rfl) rfl (WO.cons rfl ?_ (WO.nil))
        first | refine WL.st1 hS (k := 0) rfl (.of rfl) (.of rfl) rfl Try.sizeOf39 (by simp) ?_ | refine WL.st1 hS (k := 1) rfl (.of rfl) (.of rfl) rfl Try.sizeOf39 (by simp) ?_ | refine WL.st1 hS (k := 2) rfl (.of rfl) (.of rfl) rfl Try.sizeOf39 (by simp) ?_ | refine WL.st1 hS (k := 3) rfl (.of rfl) (.of rfl) rfl Try.sizeOf39 (by simp) ?_ | refine WL.st1 hS (k := 4) rfl (.of rfl) (.of rfl) rfl Try.sizeOf39 (by simp) ?_ | refine WL.st1 hS (k := 5) rfl (.of rfl) (.of rfl) rfl Try.sizeOf39 (by simp) ?_
        clear hS; intro w hS; try dsimp only [List.set] at hS
        refine WL.nil ?_
        refine And.intro (by intro h; cases h) ?_
        refine WD.takeP (i := 24) rfl (by kernel_rfl) (by kernel_rfl) (by kernel_rfl) (fun w => (.nilCheck (.of rfl))) rfl ?_
        refine WD.takeP (i := 25) rfl (by kernel_rfl) (by kernel_rfl) (by kernel_rfl) (fun w => (by first | exact .fieldAddr 2 (.of rfl) Try.underlying42 rfl rfl Try.sizeOf40 rfl | exact .fieldAddrI 2 (.of rfl) Try.underlying42 rfl rfl Try.sizeOf40 rfl)) rfl ?_
        refine WD.branch [26] (by kernel_rfl) rfl (WO.cons rfl ?_ (WO.nil))
        first | refine WL.st1 hS (k := 0) rfl (.of rfl) (.of rfl) rfl Try.sizeOf40 (by simp) ?_ | refine WL.st1 hS (k := 1) rfl (.of rfl) (.of rfl) rfl Try.sizeOf40 (by simp) ?_ | refine WL.st1 hS (k := 2) rfl (.of rfl) (.of rfl) rfl Try.sizeOf40 (by simp) ?_ | refine WL.st1 hS (k := 3) rfl (.of rfl) (.of rfl) rfl Try.sizeOf40 (by simp) ?_ | refine WL.st1 hS (k := 4) rfl (.of rfl) (.of rfl) rfl Try.sizeOf40 (by simp) ?_ | refine WL.st1 hS (k := 5) rfl (.of rfl) (.of rfl) rfl Try.sizeOf40 (by simp) ?_
        clear hS; intro w hS; try dsimp only [List.set] at hS
        refine WL.nil ?_
        refine And.intro (by intro h; cases h) ?_
        refine WD.done (by kernel_rfl) ?_
        refine WC.region ?_
        refine WL.val (.move (.of rfl)) rfl ?_
        replace hS := hS.vecOf (k := 0) (E := 3) (size := 1) (n := 1) rfl rfl (by unfold maxLen; omega); try dsimp only [List.set] at hS
        replace hS := hS.push (k := 4) rfl; try dsimp only [List.set] at hS
        refine WL.call Try.func19 rfl (evs_cons (.of rfl) (evs_cons (.of rfl) (evs_cons (.of rfl) evs_nil))) rfl (put_any _ _ _ _ _ _ _ _ _ _ _ _ hS (by omega)) ?_
        clear hS
        rintro _ w ⟨rfl, lv, hS⟩
        refine WL.nil ?_
        refine end0 Try.results21 ?_
        replace hS := hS.say (k := 4) (A' := rowsA 3 (st ++ [(.slice (some (ad b15 0)) 1 1, [(n : Int)])])) rfl (fun h hh => by rw [rowsA, List.map_append]; exact hh); try dsimp only [List.set] at hS
        exact ⟨_, rfl, rfl, _, _, _, _, hS⟩
      ·
        refine WL.buildSlice (cs := [_]) hS (parts_cons (.of rfl) parts_nil) Try.underlying40 Try.sizeOf3 Try.zeroValue3 rfl rfl rfl rfl ?_
        clear hS; intro b23 w hS
        refine WL.nil ?_
        clear hH
        have hH : ∃ R, Sat B w I (blk bc [.slice la n lc, .slice sa st.length sc, .slice aa ats.length ac] 42 :: R) := ⟨_, (hS.pick 3 rfl)⟩
        refine And.intro (by intro _ _; exact hH) ?_
        refine WD.branch [13] (by kernel_rfl) rfl (WO.cons rfl ?_ (WO.nil))
        replace hS := hS.pick 1 rfl; try dsimp only [List.eraseIdx] at hS
        first | refine WL.append (size := 1) (bytes := 24) hS (.of rfl) (.of rfl) (k := 0) rfl Try.underlying39 Try.type40 rfl rfl rfl rfl rfl rfl rfl ⟨by omega, by unfold maxLen; omega⟩ rfl ?_ | refine WL.append (size := 1) (bytes := 24) hS (.of rfl) (.of rfl) (k := 1) rfl Try.underlying39 Try.type40 rfl rfl rfl rfl rfl rfl rfl ⟨by omega, by unfold maxLen; omega⟩ rfl ?_ | refine WL.append (size := 1) (bytes := 24) hS (.of rfl) (.of rfl) (k := 2) rfl Try.underlying39 Try.type40 rfl rfl rfl rfl rfl rfl rfl ⟨by omega, by unfold maxLen; omega⟩ rfl ?_ | refine WL.append (size := 1) (bytes := 24) hS (.of rfl) (.of rfl) (k := 3) rfl Try.underlying39 Try.type40 rfl rfl rfl rfl rfl rfl rfl ⟨by omega, by unfold maxLen; omega⟩ rfl ?_ | refine WL.append (size := 1) (bytes := 24) hS (.of rfl) (.of rfl) (k := 4) rfl Try.underlying39 Try.type40 rfl rfl rfl rfl rfl rfl rfl ⟨by omega, by unfold maxLen; omega⟩ rfl ?_ | refine WL.append (size := 1) (bytes := 24) hS (.of rfl) (.of rfl) (k := 5) rfl Try.underlying39 Try.type40 rfl rfl rfl rfl rfl rfl rfl ⟨by omega, by unfold maxLen; omega⟩ rfl ?_ | refine WL.append (size := 1) (bytes := 24) hS (.of rfl) (.of rfl) (k := 6) rfl Try.underlying39 Try.type40 rfl rfl rfl rfl rfl rfl rfl ⟨by omega, by unfold maxLen; omega⟩ rfl ?_
        clear hS; intro v17 w hS; try dsimp only [List.set] at hS
        first | obtain ⟨a17, c17, rfl, hcap17, _⟩ := hS.vecSlice (k := 0) (v := v17) rfl | obtain ⟨a17, c17, rfl, hcap17, _⟩ := hS.vecSlice (k := 1) (v := v17) rfl | obtain ⟨a17, c17, rfl, hcap17, _⟩ := hS.vecSlice (k := 2) (v := v17) rfl | obtain ⟨a17, c17, rfl, hcap17, _⟩ := hS.vecSlice (k := 3) (v := v17) rfl | obtain ⟨a17, c17, rfl, hcap17, _⟩ := hS.vecSlice (k := 4) (v := v17) rfl | obtain ⟨a17, c17, rfl, hcap17, _⟩ := hS.vecSlice (k := 5) (v := v17) rfl | obtain ⟨a17, c17, rfl, hcap17, _⟩ := hS.vecSlice (k := 6) (v := v17) rfl
        refine WL.nil ?_
        clear hH
        have hH : ∃ R, Sat B w I (blk bc [.slice la n lc, .slice sa st.length sc, .slice aa ats.length ac] 42 :: R) := ⟨_, (hS.pick 2 rfl)⟩
        refine And.intro (by intro _ _; exact hH) ?_
        refine WD.branch [20] (by kernel_rfl) rfl (WO.cons rfl ?_ (WO.nil))
        first | refine WL.append (size := 1) (bytes := 8) hS (.of rfl) (.of rfl) (k := 0) rfl Try.underlying40 Try.type3 rfl rfl rfl rfl rfl rfl rfl ⟨by omega, by unfold maxLen; omega⟩ rfl ?_ | refine WL.append (size := 1) (bytes := 8) hS (.of rfl) (.of rfl) (k := 1) rfl Try.underlying40 Try.type3 rfl rfl rfl rfl rfl rfl rfl ⟨by omega, by unfold maxLen; omega⟩ rfl ?_ | refine WL.append (size := 1) (bytes := 8) hS (.of rfl) (.of rfl) (k := 2) rfl Try.underlying40 Try.type3 rfl rfl rfl rfl rfl rfl rfl ⟨by omega, by unfold maxLen; omega⟩ rfl ?_ | refine WL.append (size := 1) (bytes := 8) hS (.of rfl) (.of rfl) (k := 3) rfl Try.underlying40 Try.type3 rfl rfl rfl rfl rfl rfl rfl ⟨by omega, by unfold maxLen; omega⟩ rfl ?_ | refine WL.append (size := 1) (bytes := 8) hS (.of rfl) (.of rfl) (k := 4) rfl Try.underlying40 Try.type3 rfl rfl rfl rfl rfl rfl rfl ⟨by omega, by unfold maxLen; omega⟩ rfl ?_ | refine WL.append (size := 1) (bytes := 8) hS (.of rfl) (.of rfl) (k := 5) rfl Try.underlying40 Try.type3 rfl rfl rfl rfl rfl rfl rfl ⟨by omega, by unfold maxLen; omega⟩ rfl ?_
        clear hS; intro v24 w hS; try dsimp only [List.set] at hS
        first | obtain ⟨a24, c24, rfl, hcap24, _⟩ := hS.vecSlice (k := 0) (v := v24) rfl | obtain ⟨a24, c24, rfl, hcap24, _⟩ := hS.vecSlice (k := 1) (v := v24) rfl | obtain ⟨a24, c24, rfl, hcap24, _⟩ := hS.vecSlice (k := 2) (v := v24) rfl | obtain ⟨a24, c24, rfl, hcap24, _⟩ := hS.vecSlice (k := 3) (v := v24) rfl | obtain ⟨a24, c24, rfl, hcap24, _⟩ := hS.vecSlice (k := 4) (v := v24) rfl | obtain ⟨a24, c24, rfl, hcap24, _⟩ := hS.vecSlice (k := 5) (v := v24) rfl
        refine WL.nil ?_
        clear hH
        have hH : ∃ R, Sat B w I (blk bc [.slice la n lc, .slice sa st.length sc, .slice aa ats.length ac] 42 :: R) := ⟨_, (hS.pick 1 rfl)⟩
        refine And.intro (by intro _ _; exact hH) ?_
        refine WD.takeP (i := 21) rfl (by kernel_rfl) (by kernel_rfl) (by kernel_rfl) (fun w => (.nilCheck (.of rfl))) rfl ?_
        refine WD.takeP (i := 22) rfl (by kernel_rfl) (by kernel_rfl) (by kernel_rfl) (fun w => (by first | exact .fieldAddr 1 (.of rfl) Try.underlying42 rfl rfl Try.sizeOf39 rfl | exact .fieldAddrI 1 (.of rfl) Try.underlying42 rfl rfl Try.sizeOf39 rfl)) rfl ?_
        refine WD.branch [23] (by kernel_rfl) rfl (WO.cons rfl ?_ (WO.nil))
        first | refine WL.st1 hS (k := 0) rfl (.of rfl) (.of rfl) rfl Try.sizeOf39 (by simp) ?_ | refine WL.st1 hS (k := 1) rfl (.of rfl) (.of rfl) rfl Try.sizeOf39 (by simp) ?_ | refine WL.st1 hS (k := 2) rfl (.of rfl) (.of rfl) rfl Try.sizeOf39 (by simp) ?_ | refine WL.st1 hS (k := 3) rfl (.of rfl) (.of rfl) rfl Try.sizeOf39 (by simp) ?_ | refine WL.st1 hS (k := 4) rfl (.of rfl) (.of rfl) rfl Try.sizeOf39 (by simp) ?_ | refine WL.st1 hS (k := 5) rfl (.of rfl) (.of rfl) rfl Try.sizeOf39 (by simp) ?_
        clear hS; intro w hS; try dsimp only [List.set] at hS
        refine WL.nil ?_
        refine And.intro (by intro h; cases h) ?_
        refine WD.takeP (i := 24) rfl (by kernel_rfl) (by kernel_rfl) (by kernel_rfl) (fun w => (.nilCheck (.of rfl))) rfl ?_
        refine WD.takeP (i := 25) rfl (by kernel_rfl) (by kernel_rfl) (by kernel_rfl) (fun w => (by first | exact .fieldAddr 2 (.of rfl) Try.underlying42 rfl rfl Try.sizeOf40 rfl | exact .fieldAddrI 2 (.of rfl) Try.underlying42 rfl rfl Try.sizeOf40 rfl)) rfl ?_
        refine WD.branch [26] (by kernel_rfl) rfl (WO.cons rfl ?_ (WO.nil))
        first | refine WL.st1 hS (k := 0) rfl (.of rfl) (.of rfl) rfl Try.sizeOf40 (by simp) ?_ | refine WL.st1 hS (k := 1) rfl (.of rfl) (.of rfl) rfl Try.sizeOf40 (by simp) ?_ | refine WL.st1 hS (k := 2) rfl (.of rfl) (.of rfl) rfl Try.sizeOf40 (by simp) ?_ | refine WL.st1 hS (k := 3) rfl (.of rfl) (.of rfl) rfl Try.sizeOf40 (by simp) ?_ | refine WL.st1 hS (k := 4) rfl (.of rfl) (.of rfl) rfl Try.sizeOf40 (by simp) ?_ | refine WL.st1 hS (k := 5) rfl (.of rfl) (.of rfl) rfl Try.sizeOf40 (by simp) ?_
        clear hS; intro w hS; try dsimp only [List.set] at hS
        refine WL.nil ?_
        refine And.intro (by intro h; cases h) ?_
        refine WD.done (by kernel_rfl) ?_
        refine WC.region ?_
        refine WL.val (.move (.of rfl)) rfl ?_
        replace hS := hS.vecOf (k := 0) (E := 3) (size := 1) (n := 1) rfl rfl (by unfold maxLen; omega); try dsimp only [List.set] at hS
        replace hS := hS.push (k := 4) rfl; try dsimp only [List.set] at hS
        refine WL.call Try.func19 rfl (evs_cons (.of rfl) (evs_cons (.of rfl) (evs_cons (.of rfl) evs_nil))) rfl (put_any _ _ _ _ _ _ _ _ _ _ _ _ hS (by omega)) ?_
        clear hS
        rintro _ w ⟨rfl, lv, hS⟩
        refine WL.nil ?_
        refine end0 Try.results21 ?_
        replace hS := hS.say (k := 4) (A' := rowsA 3 (st ++ [(.slice (some (ad b15 0)) 1 1, [(n : Int)])])) rfl (fun h hh => by rw [rowsA, List.map_append]; exact hh); try dsimp only [List.set] at hS
        exact ⟨_, rfl, rfl, _, _, _, _, hS⟩
    ·
      refine WL.buildSlice (cs := [_]) hS (parts_cons (.of rfl) parts_nil) Try.underlying40 Try.sizeOf3 Try.zeroValue3 rfl rfl rfl rfl ?_
      clear hS; intro b23 w hS
      refine WL.nil ?_
      clear hH
      have hH : ∃ R, Sat B w I (blk bc [.slice la n lc, .slice sa st.length sc, .slice aa ats.length ac] 42 :: R) := ⟨_, (hS.pick 2 rfl)⟩
      refine And.intro (by intro _ _; exact hH) ?_
      refine WD.branch [12] (by kernel_rfl) rfl (WO.cons rfl ?_ (WO.nil))
      refine WL.buildSlice (cs := [_]) hS (parts_cons (.of rfl) parts_nil) Try.underlying39 Try.sizeOf40 Try.zeroValue40 rfl rfl rfl rfl ?_
      clear hS; intro b16 w hS
      refine WL.nil ?_
      clear hH
      have hH : ∃ R, Sat B w I (blk bc [.slice la n lc, .slice sa st.length sc, .slice aa ats.length ac] 42 :: R) := ⟨_, (hS.pick 3 rfl)⟩
      refine And.intro (by intro _ _; exact hH) ?_
      refine WD.branch [13] (by kernel_rfl) rfl (WO.cons rfl ?_ (WO.nil))
      first | refine WL.append (size := 1) (bytes := 24) hS (.of rfl) (.of rfl) (k := 0) rfl Try.underlying39 Try.type40 rfl rfl rfl rfl rfl rfl rfl ⟨by omega, by unfold maxLen; omega⟩ rfl ?_ | refine WL.append (size := 1) (bytes := 24) hS (.of rfl) (.of rfl) (k := 1) rfl Try.underlying39 Try.type40 rfl rfl rfl rfl rfl rfl rfl ⟨by omega, by unfold maxLen; omega⟩ rfl ?_ | refine WL.append (size := 1) (bytes := 24) hS (.of rfl) (.of rfl) (k := 2) rfl Try.underlying39 Try.type40 rfl rfl rfl rfl rfl rfl rfl ⟨by omega, by unfold maxLen; omega⟩ rfl ?_ | refine WL.append (size := 1) (bytes := 24) hS (.of rfl) (.of rfl) (k := 3) rfl Try.underlying39 Try.type40 rfl rfl rfl rfl rfl rfl rfl ⟨by omega, by unfold maxLen; omega⟩ rfl ?_ | refine WL.append (size := 1) (bytes := 24) hS (.of rfl) (.of rfl) (k := 4) rfl Try.underlying39 Try.type40 rfl rfl rfl rfl rfl rfl rfl ⟨by omega, by unfold maxLen; omega⟩ rfl ?_ | refine WL.append (size := 1) (bytes := 24) hS (.of rfl) (.of rfl) (k := 5) rfl Try.underlying39 Try.type40 rfl rfl rfl rfl rfl rfl rfl ⟨by omega, by unfold maxLen; omega⟩ rfl ?_ | refine WL.append (size := 1) (bytes := 24) hS (.of rfl) (.of rfl) (k := 6) rfl Try.underlying39 Try.type40 rfl rfl rfl rfl rfl rfl rfl ⟨by omega, by unfold maxLen; omega⟩ rfl ?_
      clear hS; intro v17 w hS; try dsimp only [List.set] at hS
      first | obtain ⟨a17, c17, rfl, hcap17, _⟩ := hS.vecSlice (k := 0) (v := v17) rfl | obtain ⟨a17, c17, rfl, hcap17, _⟩ := hS.vecSlice (k := 1) (v := v17) rfl | obtain ⟨a17, c17, rfl, hcap17, _⟩ := hS.vecSlice (k := 2) (v := v17) rfl | obtain ⟨a17, c17, rfl, hcap17, _⟩ := hS.vecSlice (k := 3) (v := v17) rfl | obtain ⟨a17, c17, rfl, hcap17, _⟩ := hS.vecSlice (k := 4) (v := v17) rfl | obtain ⟨a17, c17, rfl, hcap17, _⟩ := hS.vecSlice (k := 5) (v := v17) rfl | obtain ⟨a17, c17, rfl, hcap17, _⟩ := hS.vecSlice (k := 6) (v := v17) rfl
      refine WL.nil ?_
      clear hH
      have hH : ∃ R, Sat B w I (blk bc [.slice la n lc, .slice sa st.length sc, .slice aa ats.length ac] 42 :: R) := ⟨_, (hS.pick 2 rfl)⟩
      refine And.intro (by intro _ _; exact hH) ?_
      refine WD.branch [20] (by kernel_rfl) rfl (WO.cons rfl ?_ (WO.nil))
      first | refine WL.append (size := 1) (bytes := 8) hS (.of rfl) (.of rfl) (k := 0) rfl Try.underlying40 Try.type3 rfl rfl rfl rfl rfl rfl rfl ⟨by omega, by unfold maxLen; omega⟩ rfl ?_ | refine WL.append (size := 1) (bytes := 8) hS (.of rfl) (.of rfl) (k := 1) rfl Try.underlying40 Try.type3 rfl rfl rfl rfl rfl rfl rfl ⟨by omega, by unfold maxLen; omega⟩ rfl ?_ | refine WL.append (size := 1) (bytes := 8) hS (.of rfl) (.of rfl) (k := 2) rfl Try.underlying40 Try.type3 rfl rfl rfl rfl rfl rfl rfl ⟨by omega, by unfold maxLen; omega⟩ rfl ?_ | refine WL.append (size := 1) (bytes := 8) hS (.of rfl) (.of rfl) (k := 3) rfl Try.underlying40 Try.type3 rfl rfl rfl rfl rfl rfl rfl ⟨by omega, by unfold maxLen; omega⟩ rfl ?_ | refine WL.append (size := 1) (bytes := 8) hS (.of rfl) (.of rfl) (k := 4) rfl Try.underlying40 Try.type3 rfl rfl rfl rfl rfl rfl rfl ⟨by omega, by unfold maxLen; omega⟩ rfl ?_ | refine WL.append (size := 1) (bytes := 8) hS (.of rfl) (.of rfl) (k := 5) rfl Try.underlying40 Try.type3 rfl rfl rfl rfl rfl rfl rfl ⟨by omega, by unfold maxLen; omega⟩ rfl ?_
      clear hS; intro v24 w hS; try dsimp only [List.set] at hS
      first | obtain ⟨a24, c24, rfl, hcap24, _⟩ := hS.vecSlice (k := 0) (v := v24) rfl | obtain ⟨a24, c24, rfl, hcap24, _⟩ := hS.vecSlice (k := 1) (v := v24) rfl | obtain ⟨a24, c24, rfl, hcap24, _⟩ := hS.vecSlice (k := 2) (v := v24) rfl | obtain ⟨a24, c24, rfl, hcap24, _⟩ := hS.vecSlice (k := 3) (v := v24) rfl | obtain ⟨a24, c24, rfl, hcap24, _⟩ := hS.vecSlice (k := 4) (v := v24) rfl | obtain ⟨a24, c24, rfl, hcap24, _⟩ := hS.vecSlice (k := 5) (v := v24) rfl
      refine WL.nil ?_
      clear hH
      have hH : ∃ R, Sat B w I (blk bc [.slice la n lc, .slice sa st.length sc, .slice aa ats.length ac] 42 :: R) := ⟨_, (hS.pick 1 rfl)⟩
      refine And.intro (by intro _ _; exact hH) ?_
      refine WD.takeP (i := 21) rfl (by kernel_rfl) (by kernel_rfl) (by kernel_rfl) (fun w => (.nilCheck (.of rfl))) rfl ?_
      refine WD.takeP (i := 22) rfl (by kernel_rfl) (by kernel_rfl) (by kernel_rfl) (fun w => (by first | exact .fieldAddr 1 (.of rfl) Try.underlying42 rfl rfl Try.sizeOf39 rfl | exact .fieldAddrI 1 (.of rfl) Try.underlying42 rfl rfl Try.sizeOf39 rfl)) rfl ?_
      refine WD.branch [23] (by kernel_rfl) rfl (WO.cons rfl ?_ (WO.nil))
      first | refine WL.st1 hS (k := 0) rfl (.of rfl) (.of rfl) rfl Try.sizeOf39 (by simp) ?_ | refine WL.st1 hS (k := 1) rfl (.of rfl) (.of rfl) rfl Try.sizeOf39 (by simp) ?_ | refine WL.st1 hS (k := 2) rfl (.of rfl) (.of rfl) rfl Try.sizeOf39 (by simp) ?_ | refine WL.st1 hS (k := 3) rfl (.of rfl) (.of rfl) rfl Try.sizeOf39 (by simp) ?_ | refine WL.st1 hS (k := 4) rfl (.of rfl) (.of rfl) rfl Try.sizeOf39 (by simp) ?_ | refine WL.st1 hS (k := 5) rfl (.of rfl) (.of rfl) rfl Try.sizeOf39 (by simp) ?_
      clear hS; intro w hS; try dsimp only [List.set] at hS
      refine WL.nil ?_
      refine And.intro (by intro h; cases h) ?_
      refine WD.takeP (i := 24) rfl (by kernel_rfl) (by kernel_rfl) (by kernel_rfl) (fun w => (.nilCheck (.of rfl))) rfl ?_
      refine WD.takeP (i := 25) rfl (by kernel_rfl) (by kernel_rfl) (by kernel_rfl) (fun w => (by first | exact .fieldAddr 2 (.of rfl) Try.underlying42 rfl rfl Try.sizeOf40 rfl | exact .fieldAddrI 2 (.of rfl) Try.underlying42 rfl rfl Try.sizeOf40 rfl)) rfl ?_
      refine WD.branch [26] (by kernel_rfl) rfl (WO.cons rfl ?_ (WO.nil))
      first | refine WL.st1 hS (k := 0) rfl (.of rfl) (.of rfl) rfl Try.sizeOf40 (by simp) ?_ | refine WL.st1 hS (k := 1) rfl (.of rfl) (.of rfl) rfl Try.sizeOf40 (by simp) ?_ | refine WL.st1 hS (k := 2) rfl (.of rfl) (.of rfl) rfl Try.sizeOf40 (by simp) ?_ | refine WL.st1 hS (k := 3) rfl (.of rfl) (.of rfl) rfl Try.sizeOf40 (by simp) ?_ | refine WL.st1 hS (k := 4) rfl (.of rfl) (.of rfl) rfl Try.sizeOf40 (by simp) ?_ | refine WL.st1 hS (k := 5) rfl (.of rfl) (.of rfl) rfl Try.sizeOf40 (by simp) ?_
      clear hS; intro w hS; try dsimp only [List.set] at hS
      refine WL.nil ?_
      refine And.intro (by intro h; cases h) ?_
      refine WD.done (by kernel_rfl) ?_
      refine WC.region ?_
      refine WL.val (.move (.of rfl)) rfl ?_
      replace hS := hS.vecOf (k := 0) (E := 3) (size := 1) (n := 1) rfl rfl (by unfold maxLen; omega); try dsimp only [List.set] at hS
      replace hS := hS.push (k := 4) rfl; try dsimp only [List.set] at hS
      refine WL.call Try.func19 rfl (evs_cons (.of rfl) (evs_cons (.of rfl) (evs_cons (.of rfl) evs_nil))) rfl (put_any _ _ _ _ _ _ _ _ _ _ _ _ hS (by omega)) ?_
      clear hS
      rintro _ w ⟨rfl, lv, hS⟩
      refine WL.nil ?_
      refine end0 Try.results21 ?_
      replace hS := hS.say (k := 4) (A' := rowsA 3 (st ++ [(.slice (some (ad b15 0)) 1 1, [(n : Int)])])) rfl (fun h hh => by rw [rowsA, List.map_append]; exact hh); try dsimp only [List.set] at hS
      exact ⟨_, rfl, rfl, _, _, _, _, hS⟩
  ·
    refine WL.buildSlice (cs := [_]) hS (parts_cons (.of rfl) parts_nil) Try.underlying40 Try.sizeOf3 Try.zeroValue3 rfl rfl rfl rfl ?_
    clear hS; intro b23 w hS
    refine WL.nil ?_
    clear hH
    have hH : ∃ R, Sat B w I (blk bc [.slice la n lc, .slice sa st.length sc, .slice aa ats.length ac] 42 :: R) := ⟨_, (hS.pick 1 rfl)⟩
    refine And.intro (by intro _ _; exact hH) ?_
    refine WD.branch [11] (by kernel_rfl) rfl (WO.cons rfl ?_ (WO.nil))
    refine WL.buildSlice (cs := [_]) hS (parts_cons (.of rfl) parts_nil) Try.underlying40 Try.sizeOf3 Try.zeroValue3 rfl rfl rfl rfl ?_
    clear hS; intro b15 w hS
    refine WL.nil ?_
    clear hH
    have hH : ∃ R, Sat B w I (blk bc [.slice la n lc, .slice sa st.length sc, .slice aa ats.length ac] 42 :: R) := ⟨_, (hS.pick 2 rfl)⟩
    refine And.intro (by intro _ _; exact hH) ?_
    refine WD.branch [12] (by kernel_rfl) rfl (WO.cons rfl ?_ (WO.nil))
    refine WL.buildSlice (cs := [_]) hS (parts_cons (.of rfl) parts_nil) Try.underlying39 Try.sizeOf40 Try.zeroValue40 rfl rfl rfl rfl ?_
    clear hS; intro b16 w hS
    refine WL.nil ?_
    clear hH
    have hH : ∃ R, Sat B w I (blk bc [.slice la n lc, .slice sa st.length sc, .slice aa ats.length ac] 42 :: R) := ⟨_, (hS.pick 3 rfl)⟩
    refine And.intro (by intro _ _; exact hH) ?_
    refine WD.branch [13] (by kernel_rfl) rfl (WO.cons rfl ?_ (WO.nil))
    first | refine WL.append (size := 1) (bytes := 24) hS (.of rfl) (.of rfl) (k := 0) rfl Try.underlying39 Try.type40 rfl rfl rfl rfl rfl rfl rfl ⟨by omega, by unfold maxLen; omega⟩ rfl ?_ | refine WL.append (size := 1) (bytes := 24) hS (.of rfl) (.of rfl) (k := 1) rfl Try.underlying39 Try.type40 rfl rfl rfl rfl rfl rfl rfl ⟨by omega, by unfold maxLen; omega⟩ rfl ?_ | refine WL.append (size := 1) (bytes := 24) hS (.of rfl) (.of rfl) (k := 2) rfl Try.underlying39 Try.type40 rfl rfl rfl rfl rfl rfl rfl ⟨by omega, by unfold maxLen; omega⟩ rfl ?_ | refine WL.append (size := 1) (bytes := 24) hS (.of rfl) (.of rfl) (k := 3) rfl Try.underlying39 Try.type40 rfl rfl rfl rfl rfl rfl rfl ⟨by omega, by unfold maxLen; omega⟩ rfl ?_ | refine WL.append (size := 1) (bytes := 24) hS (.of rfl) (.of rfl) (k := 4) rfl Try.underlying39 Try.type40 rfl rfl rfl rfl rfl rfl rfl ⟨by omega, by unfold maxLen; omega⟩ rfl ?_ | refine WL.append (size := 1) (bytes := 24) hS (.of rfl) (.of rfl) (k := 5) rfl Try.underlying39 Try.type40 rfl rfl rfl rfl rfl rfl rfl ⟨by omega, by unfold maxLen; omega⟩ rfl ?_ | refine WL.append (size := 1) (bytes := 24) hS (.of rfl) (.of rfl) (k := 6) rfl Try.underlying39 Try.type40 rfl rfl rfl rfl rfl rfl rfl ⟨by omega, by unfold maxLen; omega⟩ rfl ?_
    clear hS; intro v17 w hS; try dsimp only [List.set] at hS
    first | obtain ⟨a17, c17, rfl, hcap17, _⟩ := hS.vecSlice (k := 0) (v := v17) rfl | obtain ⟨a17, c17, rfl, hcap17, _⟩ := hS.vecSlice (k := 1) (v := v17) rfl | obtain ⟨a17, c17, rfl, hcap17, _⟩ := hS.vecSlice (k := 2) (v := v17) rfl | obtain ⟨a17, c17, rfl, hcap17, _⟩ := hS.vecSlice (k := 3) (v := v17) rfl | obtain ⟨a17, c17, rfl, hcap17, _⟩ := hS.vecSlice (k := 4) (v := v17) rfl | obtain ⟨a17, c17, rfl, hcap17, _⟩ := hS.vecSlice (k := 5) (v := v17) rfl | obtain ⟨a17, c17, rfl, hcap17, _⟩ := hS.vecSlice (k := 6) (v := v17) rfl
    refine WL.nil ?_
    clear hH
    have hH : ∃ R, Sat B w I (blk bc [.slice la n lc, .slice sa st.length sc, .slice aa ats.length ac] 42 :: R) := ⟨_, (hS.pick 2 rfl)⟩
    refine And.intro (by intro _ _; exact hH) ?_
    refine WD.branch [20] (by kernel_rfl) rfl (WO.cons rfl ?_ (WO.nil))
    replace hS := hS.pick 1 rfl; try dsimp only [List.eraseIdx] at hS
    first | refine WL.append (size := 1) (bytes := 8) hS (.of rfl) (.of rfl) (k := 0) rfl Try.underlying40 Try.type3 rfl rfl rfl rfl rfl rfl rfl ⟨by omega, by unfold maxLen; omega⟩ rfl ?_ | refine WL.append (size := 1) (bytes := 8) hS (.of rfl) (.of rfl) (k := 1) rfl Try.underlying40 Try.type3 rfl rfl rfl rfl rfl rfl rfl ⟨by omega, by unfold maxLen; omega⟩ rfl ?_ | refine WL.append (size := 1) (bytes := 8) hS (.of rfl) (.of rfl) (k := 2) rfl Try.underlying40 Try.type3 rfl rfl rfl rfl rfl rfl rfl ⟨by omega, by unfold maxLen; omega⟩ rfl ?_ | refine WL.append (size := 1) (bytes := 8) hS (.of rfl) (.of rfl) (k := 3) rfl Try.underlying40 Try.type3 rfl rfl rfl rfl rfl rfl rfl ⟨by omega, by unfold maxLen; omega⟩ rfl ?_ | refine WL.append (size := 1) (bytes := 8) hS (.of rfl) (.of rfl) (k := 4) rfl Try.underlying40 Try.type3 rfl rfl rfl rfl rfl rfl rfl ⟨by omega, by unfold maxLen; omega⟩ rfl ?_ | refine WL.append (size := 1) (bytes := 8) hS (.of rfl) (.of rfl) (k := 5) rfl Try.underlying40 Try.type3 rfl rfl rfl rfl rfl rfl rfl ⟨by omega, by unfold maxLen; omega⟩ rfl ?_
    clear hS; intro v24 w hS; try dsimp only [List.set] at hS
    first | obtain ⟨a24, c24, rfl, hcap24, _⟩ := hS.vecSlice (k := 0) (v := v24) rfl | obtain ⟨a24, c24, rfl, hcap24, _⟩ := hS.vecSlice (k := 1) (v := v24) rfl | obtain ⟨a24, c24, rfl, hcap24, _⟩ := hS.vecSlice (k := 2) (v := v24) rfl | obtain ⟨a24, c24, rfl, hcap24, _⟩ := hS.vecSlice (k := 3) (v := v24) rfl | obtain ⟨a24, c24, rfl, hcap24, _⟩ := hS.vecSlice (k := 4) (v := v24) rfl | obtain ⟨a24, c24, rfl, hcap24, _⟩ := hS.vecSlice (k := 5) (v := v24) rfl
    refine WL.nil ?_
    clear hH
    have hH : ∃ R, Sat B w I (blk bc [.slice la n lc, .slice sa st.length sc, .slice aa ats.length ac] 42 :: R) := ⟨_, (hS.pick 1 rfl)⟩
    refine And.intro (by intro _ _; exact hH) ?_
    refine WD.takeP (i := 21) rfl (by kernel_rfl) (by kernel_rfl) (by kernel_rfl) (fun w => (.nilCheck (.of rfl))) rfl ?_
    refine WD.takeP (i := 22) rfl (by kernel_rfl) (by kernel_rfl) (by kernel_rfl) (fun w => (by first | exact .fieldAddr 1 (.of rfl) Try.underlying42 rfl rfl Try.sizeOf39 rfl | exact .fieldAddrI 1 (.of rfl) Try.underlying42 rfl rfl Try.sizeOf39 rfl)) rfl ?_
    refine WD.branch [23] (by kernel_rfl) rfl (WO.cons rfl ?_ (WO.nil))
    first | refine WL.st1 hS (k := 0) rfl (.of rfl) (.of rfl) rfl Try.sizeOf39 (by simp) ?_ | refine WL.st1 hS (k := 1) rfl (.of rfl) (.of rfl) rfl Try.sizeOf39 (by simp) ?_ | refine WL.st1 hS (k := 2) rfl (.of rfl) (.of rfl) rfl Try.sizeOf39 (by simp) ?_ | refine WL.st1 hS (k := 3) rfl (.of rfl) (.of rfl) rfl Try.sizeOf39 (by simp) ?_ | refine WL.st1 hS (k := 4) rfl (.of rfl) (.of rfl) rfl Try.sizeOf39 (by simp) ?_ | refine WL.st1 hS (k := 5) rfl (.of rfl) (.of rfl) rfl Try.sizeOf39 (by simp) ?_
    clear hS; intro w hS; try dsimp only [List.set] at hS
    refine WL.nil ?_
    refine And.intro (by intro h; cases h) ?_
    refine WD.takeP (i := 24) rfl (by kernel_rfl) (by kernel_rfl) (by kernel_rfl) (fun w => (.nilCheck (.of rfl))) rfl ?_
    refine WD.takeP (i := 25) rfl (by kernel_rfl) (by kernel_rfl) (by kernel_rfl) (fun w => (by first | exact .fieldAddr 2 (.of rfl) Try.underlying42 rfl rfl Try.sizeOf40 rfl | exact .fieldAddrI 2 (.of rfl) Try.underlying42 rfl rfl Try.sizeOf40 rfl)) rfl ?_
    refine WD.branch [26] (by kernel_rfl) rfl (WO.cons rfl ?_ (WO.nil))
    first | refine WL.st1 hS (k := 0) rfl (.of rfl) (.of rfl) rfl Try.sizeOf40 (by simp) ?_ | refine WL.st1 hS (k := 1) rfl (.of rfl) (.of rfl) rfl Try.sizeOf40 (by simp) ?_ | refine WL.st1 hS (k := 2) rfl (.of rfl) (.of rfl) rfl Try.sizeOf40 (by simp) ?_ | refine WL.st1 hS (k := 3) rfl (.of rfl) (.of rfl) rfl Try.sizeOf40 (by simp) ?_ | refine WL.st1 hS (k := 4) rfl (.of rfl) (.of rfl) rfl Try.sizeOf40 (by simp) ?_ | refine WL.st1 hS (k := 5) rfl (.of rfl) (.of rfl) rfl Try.sizeOf40 (by simp) ?_
    clear hS; intro w hS; try dsimp only [List.set] at hS
    refine WL.nil ?_
    refine And.intro (by intro h; cases h) ?_
    refine WD.done (by kernel_rfl) ?_
    refine WC.region ?_
    refine WL.val (.move (.of rfl)) rfl ?_
    replace hS := hS.vecOf (k := 0) (E := 3) (size := 1) (n := 1) rfl rfl (by unfold maxLen; omega); try dsimp only [List.set] at hS
    replace hS := hS.push (k := 4) rfl; try dsimp only [List.set] at hS
    refine WL.call Try.func19 rfl (evs_cons (.of rfl) (evs_cons (.of rfl) (evs_cons (.of rfl) evs_nil))) rfl (put_any _ _ _ _ _ _ _ _ _ _ _ _ hS (by omega)) ?_
    clear hS
    rintro _ w ⟨rfl, lv, hS⟩
    refine WL.nil ?_
    refine end0 Try.results21 ?_
    replace hS := hS.say (k := 4) (A' := rowsA 3 (st ++ [(.slice (some (ad b15 0)) 1 1, [(n : Int)])])) rfl (fun h hh => by rw [rowsA, List.map_append]; exact hh); try dsimp only [List.set] at hS
    exact ⟨_, rfl, rfl, _, _, _, _, hS⟩
theorem close_any (bc : Nat) (lv sv av mv : Value) (P0 : List Cell3) (Q0 : List Pl) (st : List (Value × List Int)) (o : Nat) (bs : List Nat) (ats : List Int) (B w : World) (I : Im) (F : List Assn)
    (hS : Sat B w I (blk bc [lv, sv, av] 42 :: Vec 61 3 lv P0.length (P0.flatMap enc) :: Vec 40 1 sv (st.length + 1) (st.map (·.1) ++ [mv]) :: Vec 3 1 av ats.length (ats.map I64) :: rowsA 3 (st ++ [(mv, (o :: bs).map fun (x : Nat) => (x : Int))]) :: F))
    (hR : RelP I P0 Q0) (hob : ∀ b ∈ bs, b ≠ o ∧ b < P0.length) (ho : o < P0.length) (ko co : Int) (hPo : P0[o]? = some (ko, co, .slice none 0 0)) (hQo : Q0[o]? = some (ko, co, [])) (hn : P0.length ≤ 1000) (hd : st.length ≤ 1000) (hd2 : ats.length = st.length + 1) (hbl : bs.length ≤ 1000) :
    Calls Try.prog 22 [ptr bc 0].toArray w (Ret fun v w' => v = .tuple #[] ∧ ∃ lv' sv' av' P' J, Le I J ∧ RelP J P' (closeGo P0.length o Q0 [] bs ++ [(6, 0, [])]) ∧
      Sat B w' J (blk bc [lv', sv', av'] 42 :: Vec 61 3 lv' P'.length (P'.flatMap enc) :: Vec 40 1 sv' st.length (st.map (·.1)) :: Vec 3 1 av' st.length ((ats.take st.length).map I64) :: rowsA 3 st :: F)) := by
  refine calls Try.func22 rfl Try.ntmps22 rfl ?_
  refine WC.seq ?_
  have hcl := hob
  obtain ⟨gl, cl, rl, rfl, hcl1, hcl2, hcl3, hcl4, hS⟩ := hS.vecOpen (k := 1) rfl (by omega); try dsimp only [List.set] at hS
  obtain ⟨gs, sc, rs, rfl, hsc1, hsc2, hsc3, hsc4, hS⟩ := hS.vecOpen (k := 2) rfl (by omega); try dsimp only [List.set] at hS
  obtain ⟨aa, ac, rfl, hac, _⟩ := hS.vecSlice (k := 3) rfl
  refine WC.region ?_
  refine WL.val (.move (.of rfl)) rfl ?_
  refine WL.val (.nilCheck (.of rfl)) rfl ?_
  first | refine WL.val (.fieldAddr 1 (.of rfl) Try.underlying42 rfl rfl Try.sizeOf39 rfl) rfl ?_ | refine WL.val (.fieldAddrI 1 (.of rfl) Try.underlying42 rfl rfl Try.sizeOf39 rfl) rfl ?_
  first | refine WL.val (.ld (.of rfl) hS (k := 0) rfl Try.isAgg39 rfl) rfl ?_ | refine WL.val (.ld (.of rfl) hS (k := 1) rfl Try.isAgg39 rfl) rfl ?_ | refine WL.val (.ld (.of rfl) hS (k := 2) rfl Try.isAgg39 rfl) rfl ?_ | refine WL.val (.ld (.of rfl) hS (k := 3) rfl Try.isAgg39 rfl) rfl ?_ | refine WL.val (.ld (.of rfl) hS (k := 4) rfl Try.isAgg39 rfl) rfl ?_
  refine WL.val (.lenSlice (.of rfl) Try.underlying39) rfl ?_
  refine WL.val (.sub (.of rfl) (.of rfl) ⟨by omega, by omega⟩) rfl ?_
  rw [show ((st.length + 1 : Nat) : Int) - 1 = (st.length : Int) by omega]
  refine WL.val (.assign (.of rfl)) rfl ?_
  refine WL.nil ?_
  refine WC.seq ?_
  refine WC.region ?_
  refine WL.val (.move (.of rfl)) rfl ?_
  refine WL.val (.nilCheck (.of rfl)) rfl ?_
  first | refine WL.val (.fieldAddr 1 (.of rfl) Try.underlying42 rfl rfl Try.sizeOf39 rfl) rfl ?_ | refine WL.val (.fieldAddrI 1 (.of rfl) Try.underlying42 rfl rfl Try.sizeOf39 rfl) rfl ?_
  first | refine WL.val (.ld (.of rfl) hS (k := 0) rfl Try.isAgg39 rfl) rfl ?_ | refine WL.val (.ld (.of rfl) hS (k := 1) rfl Try.isAgg39 rfl) rfl ?_ | refine WL.val (.ld (.of rfl) hS (k := 2) rfl Try.isAgg39 rfl) rfl ?_ | refine WL.val (.ld (.of rfl) hS (k := 3) rfl Try.isAgg39 rfl) rfl ?_ | refine WL.val (.ld (.of rfl) hS (k := 4) rfl Try.isAgg39 rfl) rfl ?_
  refine WL.val (.move (.of rfl)) rfl ?_
  first | refine WL.val (.indexAddr (.of rfl) (.of rfl) (by omega) (by omega) Try.underlying39 Try.sizeOf40) rfl ?_ | refine WL.val (.indexAddrI (.of rfl) (.of rfl) (by omega) (by omega) Try.underlying39 Try.sizeOf40) rfl ?_
  refine WL.val (.ld (.of rfl) hS (k := 2) rfl Try.isAgg40 (v := mv) (by simp)) rfl ?_
  refine WL.val (.assign (.of rfl)) rfl ?_
  refine WL.nil ?_
  refine WC.seq ?_
  refine WC.drawn (fun w => ∃ R, Sat B w I (blk bc [.slice (some (ad gl 0)) P0.length cl, .slice (some (ad gs 0)) (st.length + 1) sc, .slice aa ats.length ac] 42 :: R)) (fun j => !([16, 19].contains j)) (by kernel_rfl) ?_
  replace hS := hS.drew; generalize w.drew = w at hS ⊢
  have hH : ∃ R, Sat B w I (blk bc [.slice (some (ad gl 0)) P0.length cl, .slice (some (ad gs 0)) (st.length + 1) sc, .slice aa ats.length ac] 42 :: R) := ⟨_, (hS.pick 0 rfl)⟩
  refine WD.takeP (i := 0) rfl (by kernel_rfl) (by kernel_rfl) (by kernel_rfl) (fun w => (.move (.of rfl))) rfl ?_
  refine WD.takeP (i := 1) rfl (by kernel_rfl) (by kernel_rfl) (by kernel_rfl) (fun w => (.move (.of rfl))) rfl ?_
  refine WD.takeP (i := 2) rfl (by kernel_rfl) (by kernel_rfl) (by kernel_rfl) (fun w => (.move (.of rfl))) rfl ?_
  refine WD.takeP (i := 3) rfl (by kernel_rfl) (by kernel_rfl) (by kernel_rfl) (fun w => (.nilCheck (.of rfl))) rfl ?_
  refine WD.takeP (i := 4) rfl (by kernel_rfl) (by kernel_rfl) (by kernel_rfl) (fun w => (by first | exact .fieldAddr 1 (.of rfl) Try.underlying42 rfl rfl Try.sizeOf39 rfl | exact .fieldAddrI 1 (.of rfl) Try.underlying42 rfl rfl Try.sizeOf39 rfl)) rfl ?_
  refine WD.take (i := 5) rfl (by kernel_rfl) (by kernel_rfl) (by kernel_rfl) (by kernel_rfl) hH (fun w ⟨R, hS⟩ => (by first | exact (.ld (.of rfl) hS (k := 0) rfl Try.isAgg39 rfl))) rfl ?_
  refine WD.takeP (i := 6) rfl (by kernel_rfl) (by kernel_rfl) (by kernel_rfl) (fun w => (.move (.of rfl))) rfl ?_
  refine WD.takeP (i := 7) rfl (by kernel_rfl) (by kernel_rfl) (by kernel_rfl) (fun w => (.slcTo (.of rfl) (.of rfl) (by omega) (by omega) Try.underlying39 Try.sizeOf40)) rfl ?_
  refine WD.takeP (i := 8) rfl (by kernel_rfl) (by kernel_rfl) (by kernel_rfl) (fun w => (.move (.of rfl))) rfl ?_
  refine WD.takeP (i := 9) rfl (by kernel_rfl) (by kernel_rfl) (by kernel_rfl) (fun w => (.nilCheck (.of rfl))) rfl ?_
  refine WD.takeP (i := 10) rfl (by kernel_rfl) (by kernel_rfl) (by kernel_rfl) (fun w => (by first | exact .fieldAddr 2 (.of rfl) Try.underlying42 rfl rfl Try.sizeOf40 rfl | exact .fieldAddrI 2 (.of rfl) Try.underlying42 rfl rfl Try.sizeOf40 rfl)) rfl ?_
  refine WD.take (i := 11) rfl (by kernel_rfl) (by kernel_rfl) (by kernel_rfl) (by kernel_rfl) hH (fun w ⟨R, hS⟩ => (by first | exact (.ld (.of rfl) hS (k := 0) rfl Try.isAgg40 rfl))) rfl ?_
  refine WD.takeP (i := 12) rfl (by kernel_rfl) (by kernel_rfl) (by kernel_rfl) (fun w => (.move (.of rfl))) rfl ?_
  refine WD.takeP (i := 13) rfl (by kernel_rfl) (by kernel_rfl) (by kernel_rfl) (fun w => (.slcTo (.of rfl) (.of rfl) (by omega) (by omega) Try.underlying40 Try.sizeOf3)) rfl ?_
  refine WD.takeP (i := 14) rfl (by kernel_rfl) (by kernel_rfl) (by kernel_rfl) (fun w => (.nilCheck (.of rfl))) rfl ?_
  refine WD.takeP (i := 15) rfl (by kernel_rfl) (by kernel_rfl) (by kernel_rfl) (fun w => (by first | exact .fieldAddr 1 (.of rfl) Try.underlying42 rfl rfl Try.sizeOf39 rfl | exact .fieldAddrI 1 (.of rfl) Try.underlying42 rfl rfl Try.sizeOf39 rfl)) rfl ?_
  refine WD.branch [16] (by kernel_rfl) rfl (WO.cons rfl ?_ (WO.nil))
  first | refine WL.st1 hS (k := 0) rfl (.of rfl) (.of rfl) rfl Try.sizeOf39 (by simp) ?_ | refine WL.st1 hS (k := 1) rfl (.of rfl) (.of rfl) rfl Try.sizeOf39 (by simp) ?_ | refine WL.st1 hS (k := 2) rfl (.of rfl) (.of rfl) rfl Try.sizeOf39 (by simp) ?_ | refine WL.st1 hS (k := 3) rfl (.of rfl) (.of rfl) rfl Try.sizeOf39 (by simp) ?_ | refine WL.st1 hS (k := 4) rfl (.of rfl) (.of rfl) rfl Try.sizeOf39 (by simp) ?_
  clear hS; intro w hS; try dsimp only [List.set] at hS
  refine WL.nil ?_
  refine And.intro (by intro h; cases h) ?_
  refine WD.takeP (i := 17) rfl (by kernel_rfl) (by kernel_rfl) (by kernel_rfl) (fun w => (.nilCheck (.of rfl))) rfl ?_
  refine WD.takeP (i := 18) rfl (by kernel_rfl) (by kernel_rfl) (by kernel_rfl) (fun w => (by first | exact .fieldAddr 2 (.of rfl) Try.underlying42 rfl rfl Try.sizeOf40 rfl | exact .fieldAddrI 2 (.of rfl) Try.underlying42 rfl rfl Try.sizeOf40 rfl)) rfl ?_
  refine WD.branch [19] (by kernel_rfl) rfl (WO.cons rfl ?_ (WO.nil))
  first | refine WL.st1 hS (k := 0) rfl (.of rfl) (.of rfl) rfl Try.sizeOf40 (by simp) ?_ | refine WL.st1 hS (k := 1) rfl (.of rfl) (.of rfl) rfl Try.sizeOf40 (by simp) ?_ | refine WL.st1 hS (k := 2) rfl (.of rfl) (.of rfl) rfl Try.sizeOf40 (by simp) ?_ | refine WL.st1 hS (k := 3) rfl (.of rfl) (.of rfl) rfl Try.sizeOf40 (by simp) ?_ | refine WL.st1 hS (k := 4) rfl (.of rfl) (.of rfl) rfl Try.sizeOf40 (by simp) ?_
  clear hS; intro w hS; try dsimp only [List.set] at hS
  refine WL.nil ?_
  refine And.intro (by intro h; cases h) ?_
  refine WD.done (by kernel_rfl) ?_
  refine WC.seq ?_
  refine WC.seq ?_
  replace hS := hS.vecShut (k := 2) (n := st.length + 1) (cap := sc) rfl hsc1 hsc2 hsc3 hsc4; try dsimp only [List.set] at hS
  replace hS := hS.vecTake (k := 2) (m := (st.length : Int).toNat) rfl (by simp); try dsimp only [List.set] at hS
  obtain ⟨a2, c2, e2, hS⟩ := hS.vecTakeI (k := 3) (f := I64) (m := (st.length : Int).toNat) rfl (by simp; omega); try dsimp only [List.set] at hS
  have e3 : (st.map (·.1) ++ [mv]).take ((st.length : Int).toNat * 1) = st.map (·.1) := by rw [Nat.mul_one]; exact List.take_left' (by simp)
  rw [e3] at hS; rw [e2] at hS
  have e4 : rowsA 3 (st ++ [(mv, (o :: bs).map fun (x : Nat) => (x : Int))]) = SepAll ((st.map fun x => Vec 3 1 x.1 x.2.length (x.2.map I64)) ++ [Vec 3 1 mv ((o :: bs).map fun (x : Nat) => (x : Int)).length (((o :: bs).map fun (x : Nat) => (x : Int)).map I64)]) := by rw [rowsA, List.map_append]; rfl
  rw [e4] at hS
  replace hS := hS.pop (k := 4) rfl; try dsimp only [List.set] at hS
  obtain ⟨gm, cm, rm, hmv, hcm1, hcm2, hcm3, hcm4, hT⟩ := hS.vecOpen (k := 0) rfl (by simp)
  have hml : ((o :: bs).map fun (x : Nat) => (x : Int)).length = bs.length + 1 := by simp
  rw [hml] at hmv; subst hmv; have hS := hT; clear hT; try dsimp only [List.set] at hS
  generalize sliced (some (ad gs 0)) 0 (st.length : Int).toNat sc 1 = sv2 at hS
  generalize Value.slice a2 (ats.take (st.length : Int).toNat).length c2 = av2 at hS
  refine WC.region ?_
  refine WL.val (.move (.of rfl)) rfl ?_
  refine WL.val (.slcFrom (.of rfl) (.of rfl) (by omega) (by omega) Try.underlying40 Try.sizeOf3) rfl ?_
  obtain ⟨ao, hao, e38⟩ : ∃ ao, (0 < bs.length → ao = some (ad gm 1)) ∧ sliced (some (ad gm 0)) (1 : Int).toNat (bs.length + 1) cm 1 = .slice ao bs.length (cm - 1) := ⟨if cm = 1 then some (ad gm 0) else some (ad gm 1), fun h => if_neg (by omega), by simp [sliced, add_ad]⟩
  rw [e38]
  refine WL.val (.lenSlice (.of rfl) Try.underlying40) rfl ?_
  refine WL.val (.move (.of rfl)) rfl ?_
  refine WL.nil ?_
  refine WC.block ?_
  refine WC.loop (σ := List Nat × List Nat × List Cell3 × List Pl × Value × Im) (fun ⟨pre, rem, P, Q, tv, J⟩ => [(0, ptr bc 0), (3, .slice (some (ad gm 0)) (bs.length + 1) cm), (38, .slice ao bs.length (cm - 1)), (39, I64 bs.length), (40, I64 pre.length)]) (fun ⟨pre, rem, P, Q, tv, J⟩ w => bs = pre ++ rem ∧ Le I J ∧ RelX J o P Q ∧ P.length = P0.length ∧ (∃ k c, P[o]? = some (k, c, tv)) ∧ (∃ k c, Q[o]? = some (k, c, pre.map fun (x : Nat) => (x : Int) + 1)) ∧ (pre = [] → tv = .slice none 0 0) ∧ closeGo P0.length o Q (pre.map fun (x : Nat) => (x : Int) + 1) rem = closeGo P0.length o Q0 [] bs ∧ Sat B w J (Vec 3 1 tv pre.length ((pre.map fun (x : Nat) => (x : Int) + 1).map I64) :: blk gm (((o :: bs).map fun (x : Nat) => (x : Int)).map I64 ++ rm) 3 :: blk bc [.slice (some (ad gl 0)) P0.length cl, sv2, av2] 42 :: blk gl (P.flatMap enc ++ rl) 61 :: Vec 40 1 sv2 (st.length : Int).toNat (st.map (·.1)) :: Vec 3 1 av2 (ats.take (st.length : Int).toNat).length ((ats.take (st.length : Int).toNat).map I64) :: rowsA 3 st :: F)) (fun ⟨pre, rem, P, Q, tv, J⟩ => rem.length) ([], bs, P0, Q0, .slice none 0 0, I) ⟨rfl, rfl, rfl, rfl, rfl, trivial⟩ ⟨rfl, Le.refl I, hR.x o, rfl, ⟨_, _, hPo⟩, ⟨_, _, hQo⟩, fun _ => rfl, rfl, hS.vecNil _ _⟩ ?_
  rintro ⟨pre, rem, P, Q, tv, J⟩ w ⟨hbs, hJ, hX, hPl, ⟨ko, co, hPo⟩, ⟨kq, cq, hQo⟩, htv, hgo, hS⟩
  change WC _ _ _ _ [(0, ptr bc 0), (3, .slice (some (ad gm 0)) (bs.length + 1) cm), (38, .slice ao bs.length (cm - 1)), (39, I64 bs.length), (40, I64 pre.length)] w
  have hlen : bs.length = pre.length + rem.length := by rw [hbs, List.length_append]
  refine WC.seq ?_
  refine WC.region ?_
  refine WL.val (.lss (.of rfl) (.of rfl)) rfl ?_
  refine WL.nil ?_
  refine WC.seq ?_
  refine WC.cond rfl (fun hb41 => ?_) (fun hb41 => ?_)
  ·
    have hc41 := hb41; try simp only [decide_eq_true_eq, decide_eq_false_iff_not, beq_iff_eq, beq_eq_false_iff_ne, bne_iff_ne, Bool.not_eq_true', Bool.not_eq_false', Bool.or_eq_true, Bool.and_eq_true, Bool.or_eq_false_iff, Bool.and_eq_false_iff, ne_eq, Int.not_lt, Int.not_le, bne_eq_false_iff_eq, Bool.not_eq_true, Bool.not_eq_false] at hc41
    refine WC.skip ?_
    refine WC.seq ?_
    refine WC.block ?_
    refine WC.seq ?_
    refine WC.region ?_
    obtain ⟨b, r, rfl⟩ : ∃ b r, rem = b :: r := by
      cases rem with
      | nil => simp at hlen; omega
      | cons b r => exact ⟨b, r, rfl⟩
    have hao2 := hao (by omega); subst hao2
    have hbo := (hob b (by rw [hbs]; simp)).1
    have hbl2 := (hob b (by rw [hbs]; simp)).2
    have hpre : pre.length ≤ 1000 := by omega
    first | refine WL.val (.indexAddr (.of rfl) (.of rfl) (by omega) (by omega) Try.underlying40 Try.sizeOf3) rfl ?_ | refine WL.val (.indexAddrI (.of rfl) (.of rfl) (by omega) (by omega) Try.underlying40 Try.sizeOf3) rfl ?_
    refine WL.val (.ld (.of rfl) hS (k := 1) rfl Try.isAgg3 (v := I64 b) (marks_get hbs rm)) rfl ?_
    refine WL.val (.assign (.of rfl)) rfl ?_
    refine WL.nil ?_
    refine WC.seq ?_
    refine WC.drawn (fun w => ∃ R, Sat B w J (blk gm (((o :: bs).map fun (x : Nat) => (x : Int)).map I64 ++ rm) 3 :: blk bc [.slice (some (ad gl 0)) P0.length cl, sv2, av2] 42 :: blk gl (P.flatMap enc ++ rl) 61 :: R)) (fun j => !([23].contains j)) (by kernel_rfl) ?_
    replace hS := hS.drew; generalize w.drew = w at hS ⊢
    have hH : ∃ R, Sat B w J (blk gm (((o :: bs).map fun (x : Nat) => (x : Int)).map I64 ++ rm) 3 :: blk bc [.slice (some (ad gl 0)) P0.length cl, sv2, av2] 42 :: blk gl (P.flatMap enc ++ rl) 61 :: R) := ⟨_, (((hS.pick 3 rfl).pick 3 rfl).pick 3 rfl)⟩
    refine WD.takeP (i := 0) rfl (by kernel_rfl) (by kernel_rfl) (by kernel_rfl) (fun w => (.move (.of rfl))) rfl ?_
    refine WD.takeP (i := 1) rfl (by kernel_rfl) (by kernel_rfl) (by kernel_rfl) (fun w => (.nilCheck (.of rfl))) rfl ?_
    refine WD.takeP (i := 2) rfl (by kernel_rfl) (by kernel_rfl) (by kernel_rfl) (fun w => (by first | exact .fieldAddr 0 (.of rfl) Try.underlying42 rfl rfl Try.sizeOf38 rfl | exact .fieldAddrI 0 (.of rfl) Try.underlying42 rfl rfl Try.sizeOf38 rfl)) rfl ?_
    refine WD.take (i := 3) rfl (by kernel_rfl) (by kernel_rfl) (by kernel_rfl) (by kernel_rfl) hH (fun w ⟨R, hS⟩ => (by first | exact (.ld (.of rfl) hS (k := 0) rfl Try.isAgg38 rfl) | exact (.ld (.of rfl) hS (k := 1) rfl Try.isAgg38 rfl) | exact (.ld (.of rfl) hS (k := 2) rfl Try.isAgg38 rfl))) rfl ?_
    refine WD.takeP (i := 4) rfl (by kernel_rfl) (by kernel_rfl) (by kernel_rfl) (fun w => (.move (.of rfl))) rfl ?_
    refine WD.takeP (i := 5) rfl (by kernel_rfl) (by kernel_rfl) (by kernel_rfl) (fun w => (by first | exact .indexAddr (.of rfl) (.of rfl) (by omega) (by omega) Try.underlying40 Try.sizeOf3 | exact .indexAddrI (.of rfl) (.of rfl) (by omega) (by omega) Try.underlying40 Try.sizeOf3)) rfl ?_
    refine WD.take (i := 6) rfl (by kernel_rfl) (by kernel_rfl) (by kernel_rfl) (by kernel_rfl) hH (fun w ⟨R, hS⟩ => .ld (.of rfl) hS (k := 0) rfl Try.isAgg3 (v := I64 (o : Nat)) rfl) rfl ?_
    refine WD.takeP (i := 7) rfl (by kernel_rfl) (by kernel_rfl) (by kernel_rfl) (fun w => (.move (.of rfl))) rfl ?_
    refine WD.takeP (i := 8) rfl (by kernel_rfl) (by kernel_rfl) (by kernel_rfl) (fun w => (.nilCheck (.of rfl))) rfl ?_
    refine WD.takeP (i := 9) rfl (by kernel_rfl) (by kernel_rfl) (by kernel_rfl) (fun w => (by first | exact .fieldAddr 0 (.of rfl) Try.underlying42 rfl rfl Try.sizeOf38 rfl | exact .fieldAddrI 0 (.of rfl) Try.underlying42 rfl rfl Try.sizeOf38 rfl)) rfl ?_
    refine WD.take (i := 10) rfl (by kernel_rfl) (by kernel_rfl) (by kernel_rfl) (by kernel_rfl) hH (fun w ⟨R, hS⟩ => (by first | exact (.ld (.of rfl) hS (k := 0) rfl Try.isAgg38 rfl) | exact (.ld (.of rfl) hS (k := 1) rfl Try.isAgg38 rfl) | exact (.ld (.of rfl) hS (k := 2) rfl Try.isAgg38 rfl))) rfl ?_
    refine WD.takeP (i := 11) rfl (by kernel_rfl) (by kernel_rfl) (by kernel_rfl) (fun w => (.move (.of rfl))) rfl ?_
    refine WD.takeP (i := 12) rfl (by kernel_rfl) (by kernel_rfl) (by kernel_rfl) (fun w => (by first | exact .indexAddr (.of rfl) (.of rfl) (by omega) (by omega) Try.underlying40 Try.sizeOf3 | exact .indexAddrI (.of rfl) (.of rfl) (by omega) (by omega) Try.underlying40 Try.sizeOf3)) rfl ?_
    refine WD.take (i := 13) rfl (by kernel_rfl) (by kernel_rfl) (by kernel_rfl) (by kernel_rfl) hH (fun w ⟨R, hS⟩ => .ld (.of rfl) hS (k := 0) rfl Try.isAgg3 (v := I64 (o : Nat)) rfl) rfl ?_
    refine WD.takeP (i := 14) rfl (by kernel_rfl) (by kernel_rfl) (by kernel_rfl) (fun w => (by first | exact .indexAddr (.of rfl) (.of rfl) (by omega) (by omega) Try.underlying38 Try.sizeOf61 | exact .indexAddrI (.of rfl) (.of rfl) (by omega) (by omega) Try.underlying38 Try.sizeOf61)) rfl ?_
    refine WD.takeP (i := 15) rfl (by kernel_rfl) (by kernel_rfl) (by kernel_rfl) (fun w => (by first | exact .fieldAddr 2 (.of rfl) Try.underlying61 rfl rfl Try.sizeOf40 rfl | exact .fieldAddrI 2 (.of rfl) Try.underlying61 rfl rfl Try.sizeOf40 rfl)) rfl ?_
    refine WD.take (i := 16) rfl (by kernel_rfl) (by kernel_rfl) (by kernel_rfl) (by kernel_rfl) hH (fun w ⟨R, hS⟩ => .ld (.of rfl) hS (k := 2) rfl Try.isAgg40 (v := tv) (to_get hPo rl)) rfl ?_
    refine WD.takeP (i := 17) rfl (by kernel_rfl) (by kernel_rfl) (by kernel_rfl) (fun w => (.move (.of rfl))) rfl ?_
    refine WD.takeP (i := 18) rfl (by kernel_rfl) (by kernel_rfl) (by kernel_rfl) (fun w => (.add (.of rfl) (.of rfl) ⟨by omega, by omega⟩)) rfl ?_
    refine WD.branch [19] (by kernel_rfl) rfl (WO.cons rfl ?_ (WO.nil))
    refine WL.buildSlice (cs := [_]) hS (parts_cons (.of rfl) parts_nil) Try.underlying40 Try.sizeOf3 Try.zeroValue3 rfl rfl rfl rfl ?_
    clear hS; intro b63 w hS
    refine WL.nil ?_
    clear hH
    have hH : ∃ R, Sat B w J (blk gm (((o :: bs).map fun (x : Nat) => (x : Int)).map I64 ++ rm) 3 :: blk bc [.slice (some (ad gl 0)) P0.length cl, sv2, av2] 42 :: blk gl (P.flatMap enc ++ rl) 61 :: R) := ⟨_, (((hS.pick 4 rfl).pick 4 rfl).pick 4 rfl)⟩
    refine And.intro (by intro _ _; exact hH) ?_
    refine WD.branch [20] (by kernel_rfl) rfl (WO.cons rfl ?_ (WO.nil))
    first | refine WL.append (size := 1) (bytes := 8) hS (.of rfl) (.of rfl) (k := 0) rfl Try.underlying40 Try.type3 rfl rfl rfl rfl rfl rfl rfl ⟨by omega, by unfold maxLen; omega⟩ rfl ?_ | refine WL.append (size := 1) (bytes := 8) hS (.of rfl) (.of rfl) (k := 1) rfl Try.underlying40 Try.type3 rfl rfl rfl rfl rfl rfl rfl ⟨by omega, by unfold maxLen; omega⟩ rfl ?_ | refine WL.append (size := 1) (bytes := 8) hS (.of rfl) (.of rfl) (k := 2) rfl Try.underlying40 Try.type3 rfl rfl rfl rfl rfl rfl rfl ⟨by omega, by unfold maxLen; omega⟩ rfl ?_ | refine WL.append (size := 1) (bytes := 8) hS (.of rfl) (.of rfl) (k := 3) rfl Try.underlying40 Try.type3 rfl rfl rfl rfl rfl rfl rfl ⟨by omega, by unfold maxLen; omega⟩ rfl ?_ | refine WL.append (size := 1) (bytes := 8) hS (.of rfl) (.of rfl) (k := 4) rfl Try.underlying40 Try.type3 rfl rfl rfl rfl rfl rfl rfl ⟨by omega, by unfold maxLen; omega⟩ rfl ?_ | refine WL.append (size := 1) (bytes := 8) hS (.of rfl) (.of rfl) (k := 5) rfl Try.underlying40 Try.type3 rfl rfl rfl rfl rfl rfl rfl ⟨by omega, by unfold maxLen; omega⟩ rfl ?_ | refine WL.append (size := 1) (bytes := 8) hS (.of rfl) (.of rfl) (k := 6) rfl Try.underlying40 Try.type3 rfl rfl rfl rfl rfl rfl rfl ⟨by omega, by unfold maxLen; omega⟩ rfl ?_
    clear hS; intro v64 w hS; try dsimp only [List.set] at hS
    first | obtain ⟨a64, c64, rfl, hcap64, _⟩ := hS.vecSlice (k := 0) (v := v64) rfl | obtain ⟨a64, c64, rfl, hcap64, _⟩ := hS.vecSlice (k := 1) (v := v64) rfl | obtain ⟨a64, c64, rfl, hcap64, _⟩ := hS.vecSlice (k := 2) (v := v64) rfl | obtain ⟨a64, c64, rfl, hcap64, _⟩ := hS.vecSlice (k := 3) (v := v64) rfl | obtain ⟨a64, c64, rfl, hcap64, _⟩ := hS.vecSlice (k := 4) (v := v64) rfl | obtain ⟨a64, c64, rfl, hcap64, _⟩ := hS.vecSlice (k := 5) (v := v64) rfl | obtain ⟨a64, c64, rfl, hcap64, _⟩ := hS.vecSlice (k := 6) (v := v64) rfl
    refine WL.nil ?_
    clear hH
    have hH : ∃ R, Sat B w J (blk gm (((o :: bs).map fun (x : Nat) => (x : Int)).map I64 ++ rm) 3 :: blk bc [.slice (some (ad gl 0)) P0.length cl, sv2, av2] 42 :: blk gl (P.flatMap enc ++ rl) 61 :: R) := ⟨_, (((hS.pick 3 rfl).pick 3 rfl).pick 3 rfl)⟩
    refine And.intro (by intro _ _; exact hH) ?_
    refine WD.takeP (i := 21) rfl (by kernel_rfl) (by kernel_rfl) (by kernel_rfl) (fun w => (by first | exact .indexAddr (.of rfl) (.of rfl) (by omega) (by omega) Try.underlying38 Try.sizeOf61 | exact .indexAddrI (.of rfl) (.of rfl) (by omega) (by omega) Try.underlying38 Try.sizeOf61)) rfl ?_
    refine WD.takeP (i := 22) rfl (by kernel_rfl) (by kernel_rfl) (by kernel_rfl) (fun w => (by first | exact .fieldAddr 2 (.of rfl) Try.underlying61 rfl rfl Try.sizeOf40 rfl | exact .fieldAddrI 2 (.of rfl) Try.underlying61 rfl rfl Try.sizeOf40 rfl)) rfl ?_
    refine WD.branch [23] (by kernel_rfl) rfl (WO.cons rfl ?_ (WO.nil))
    refine WL.st1 hS (k := 3) rfl (.of rfl) (.of rfl) rfl Try.sizeOf40 (by rw [List.length_append, flat_len enc 3 enc_len]; (try simp only [setTo_len]); omega) ?_
    clear hS; intro w hS; try dsimp only [List.set] at hS
    simp only [Int.toNat_natCast] at hS
    rw [to_set (by (try simp only [setTo_len]); omega)] at hS
    refine WL.nil ?_
    refine And.intro (by intro h; cases h) ?_
    refine WD.done (by kernel_rfl) ?_
    refine WC.drawn (fun w => ∃ R, Sat B w J (blk bc [.slice (some (ad gl 0)) P0.length cl, sv2, av2] 42 :: R)) (fun j => !([13].contains j)) (by kernel_rfl) ?_
    replace hS := hS.drew; generalize w.drew = w at hS ⊢
    have hH : ∃ R, Sat B w J (blk bc [.slice (some (ad gl 0)) P0.length cl, sv2, av2] 42 :: R) := ⟨_, (hS.pick 2 rfl)⟩
    refine WD.takeP (i := 0) rfl (by kernel_rfl) (by kernel_rfl) (by kernel_rfl) (fun w => (.move (.of rfl))) rfl ?_
    refine WD.takeP (i := 1) rfl (by kernel_rfl) (by kernel_rfl) (by kernel_rfl) (fun w => (.nilCheck (.of rfl))) rfl ?_
    refine WD.takeP (i := 2) rfl (by kernel_rfl) (by kernel_rfl) (by kernel_rfl) (fun w => (by first | exact .fieldAddr 0 (.of rfl) Try.underlying42 rfl rfl Try.sizeOf38 rfl | exact .fieldAddrI 0 (.of rfl) Try.underlying42 rfl rfl Try.sizeOf38 rfl)) rfl ?_
    refine WD.take (i := 3) rfl (by kernel_rfl) (by kernel_rfl) (by kernel_rfl) (by kernel_rfl) hH (fun w ⟨R, hS⟩ => (by first | exact (.ld (.of rfl) hS (k := 0) rfl Try.isAgg38 rfl))) rfl ?_
    refine WD.takeP (i := 4) rfl (by kernel_rfl) (by kernel_rfl) (by kernel_rfl) (fun w => (.move (.of rfl))) rfl ?_
    refine WD.takeP (i := 5) rfl (by kernel_rfl) (by kernel_rfl) (by kernel_rfl) (fun w => (.move (.of rfl))) rfl ?_
    refine WD.takeP (i := 6) rfl (by kernel_rfl) (by kernel_rfl) (by kernel_rfl) (fun w => (.nilCheck (.of rfl))) rfl ?_
    refine WD.takeP (i := 7) rfl (by kernel_rfl) (by kernel_rfl) (by kernel_rfl) (fun w => (by first | exact .fieldAddr 0 (.of rfl) Try.underlying42 rfl rfl Try.sizeOf38 rfl | exact .fieldAddrI 0 (.of rfl) Try.underlying42 rfl rfl Try.sizeOf38 rfl)) rfl ?_
    refine WD.take (i := 8) rfl (by kernel_rfl) (by kernel_rfl) (by kernel_rfl) (by kernel_rfl) hH (fun w ⟨R, hS⟩ => (by first | exact (.ld (.of rfl) hS (k := 0) rfl Try.isAgg38 rfl))) rfl ?_
    refine WD.takeP (i := 9) rfl (by kernel_rfl) (by kernel_rfl) (by kernel_rfl) (fun w => (.lenSlice (.of rfl) Try.underlying38)) rfl ?_
    refine WD.branch [10] (by kernel_rfl) rfl (WO.cons rfl ?_ (WO.nil))
    refine WL.buildSlice (cs := [_]) hS (parts_cons (.of rfl) parts_nil) Try.underlying40 Try.sizeOf3 Try.zeroValue3 rfl rfl rfl rfl ?_
    clear hS; intro b77 w hS
    refine WL.nil ?_
    clear hH
    have hH : ∃ R, Sat B w J (blk bc [.slice (some (ad gl 0)) P0.length cl, sv2, av2] 42 :: R) := ⟨_, (hS.pick 3 rfl)⟩
    refine And.intro (by intro _ _; exact hH) ?_
    refine WD.takeP (i := 11) rfl (by kernel_rfl) (by kernel_rfl) (by kernel_rfl) (fun w => (by first | exact .indexAddr (.of rfl) (.of rfl) (by omega) (by omega) Try.underlying38 Try.sizeOf61 | exact .indexAddrI (.of rfl) (.of rfl) (by omega) (by omega) Try.underlying38 Try.sizeOf61)) rfl ?_
    refine WD.takeP (i := 12) rfl (by kernel_rfl) (by kernel_rfl) (by kernel_rfl) (fun w => (by first | exact .fieldAddr 2 (.of rfl) Try.underlying61 rfl rfl Try.sizeOf40 rfl | exact .fieldAddrI 2 (.of rfl) Try.underlying61 rfl rfl Try.sizeOf40 rfl)) rfl ?_
    refine WD.branch [13] (by kernel_rfl) rfl (WO.cons rfl ?_ (WO.nil))
    refine WL.st1 hS (k := 4) rfl (.of rfl) (.of rfl) rfl Try.sizeOf40 (by rw [List.length_append, flat_len enc 3 enc_len]; (try simp only [setTo_len]); omega) ?_
    clear hS; intro w hS; try dsimp only [List.set] at hS
    simp only [Int.toNat_natCast] at hS
    rw [to_set (by (try simp only [setTo_len]); omega)] at hS
    obtain ⟨J2, hJ2, hb2, hS⟩ := hS.freeze (k := 0) rfl; try dsimp only [List.eraseIdx] at hS
    have hI2 : IntsI J2 (.slice (some (ad b77 0)) 1 1) [(P0.length : Int)] := ⟨(fun h => by cases h), _, _, rfl, Nat.le_refl _, rfl, fun _ => ⟨_, rfl, rfl, _, _, _, hb2, fun j u hj => by simpa using hj⟩⟩
    refine WL.nil ?_
    refine And.intro (by intro h; cases h) ?_
    refine WD.done (by kernel_rfl) ?_
    refine WC.region ?_
    skip
    refine WL.val (.add (.of rfl) (.of rfl) ⟨by omega, by omega⟩) rfl ?_
    rw [show ((pre.length : Nat) : Int) + 1 = ((pre ++ [b]).length : Nat) by simp]
    refine WL.val (.move (.of rfl)) rfl ?_
    refine WL.nil ?_
    refine ⟨(pre ++ [b], r, setTo (setTo P o (.slice a64 (pre.length + 1) c64)) b (.slice (some (ad b77 0)) 1 1), setToL (setToL Q o (pre.map (fun (x : Nat) => (x : Int) + 1) ++ [(b : Int) + 1])) b [(P0.length : Int)], .slice a64 (pre.length + 1) c64, J2), ⟨rfl, rfl, rfl, rfl, rfl, trivial⟩, ⟨by rw [hbs]; simp, hJ.trans hJ2, ((hX.setO _ _).mono hJ2).setB _ _ _ hI2, by simp [setTo, hPl], ⟨ko, co, ?_⟩, ⟨kq, cq, ?_⟩, fun h => by simp at h, ?_, ?_⟩, by simp⟩
    · simp [setTo, List.getElem?_modify, hPo, hbo]
    · simp [setToL, List.getElem?_modify, hQo, hbo]
    · rw [← hgo, closeGo]; simp
    · simpa using hS
  ·
    have hc41 := hb41; try simp only [decide_eq_true_eq, decide_eq_false_iff_not, beq_iff_eq, beq_eq_false_iff_ne, bne_iff_ne, Bool.not_eq_true', Bool.not_eq_false', Bool.or_eq_true, Bool.and_eq_true, Bool.or_eq_false_iff, Bool.and_eq_false_iff, ne_eq, Int.not_lt, Int.not_le, bne_eq_false_iff_eq, Bool.not_eq_true, Bool.not_eq_false] at hc41
    refine WC.exit ?_
    have hrem : rem = [] := by
      cases rem with
      | nil => rfl
      | cons b r => simp at hlen; omega
    subst hrem
    replace hS := hS.drop (k := 1) rfl; try dsimp only [List.eraseIdx] at hS
    obtain ⟨J2, hJ2, hI2, hS⟩ := freezeInts (k := 0) (xs := pre.map fun (x : Nat) => (x : Int) + 1) hS (by rw [List.length_map]; rfl) (fun h => htv (by simpa using h)); try dsimp only [List.eraseIdx] at hS
    replace hS := hS.vecShut (k := 1) (n := P.length) (cap := cl) rfl (by omega) hcl2 (by rw [flat_len enc 3 enc_len]) (by rw [flat_len enc 3 enc_len] at hcl4 ⊢; omega); try dsimp only [List.set] at hS
    rw [← hPl] at hS ⊢
    refine WC.region ?_
    refine WL.val (.move (.of rfl)) rfl ?_
    refine WL.call Try.func19 rfl (evs_cons (.of rfl) (evs_cons (.of rfl) (evs_cons (.of rfl) evs_nil))) rfl (put_any _ _ _ _ _ _ _ _ _ _ _ _ hS (by omega)) ?_
    clear hS
    rintro _ w ⟨rfl, lv2, hS⟩
    refine WL.nil ?_
    refine end0 Try.results22 ?_
    replace hS := hS.say (k := 1) (A' := Vec 61 3 lv2 (P.length + 1) ((P ++ [((6 : Int), (0 : Int), Value.slice none 0 0)]).flatMap enc)) rfl (fun h hh => by rw [List.flatMap_append]; exact hh); try dsimp only [List.set] at hS
    refine ⟨_, rfl, rfl, lv2, sv2, av2, P ++ [(6, 0, .slice none 0 0)], J2, hJ.trans hJ2, ?_, ?_⟩
    · rw [hPl, ← hgo, closeGo]
      exact ((hX.mono hJ2).back (fun p q hp hq => by rw [hPo] at hp; rw [hQo] at hq; cases hp; cases hq; exact hI2)).snoc 6 0 _ _ (IntsI.nil _)
    · have e5 : (ats.take (st.length : Int).toNat).length = st.length := by rw [Int.toNat_natCast, List.length_take]; omega
      rw [e5] at hS
      rw [List.length_append]
      exact hS
theorem slHasPrefix_any (s p : List UInt8) (w : World) (hs : s.length ≤ 140737488351232) (hp : p.length ≤ 140737488351232) :
    Calls Try.prog 28 [S s, S p].toArray w (Ret fun v w' => v = .bool (hasPre s p) ∧ w = w') := by
  refine calls Try.func28 rfl Try.ntmps28 rfl ?_
  refine WC.seq ?_
  refine WC.region ?_
  refine WL.val (.assign (.of rfl)) rfl ?_
  refine WL.nil ?_
  refine WC.seq ?_
  refine WC.region ?_
  refine WL.val (.move (.of rfl)) rfl ?_
  refine WL.val (.len (.of rfl) Try.underlying9) rfl ?_
  refine WL.val (.move (.of rfl)) rfl ?_
  refine WL.val (.len (.of rfl) Try.underlying9) rfl ?_
  refine WL.val (.geq (.of rfl) (.of rfl)) rfl ?_
  refine WL.val (.move (.of rfl)) rfl ?_
  refine WL.gval rfl rfl (fun hg1 => (.move (.of rfl))) rfl ?_
  refine WL.gval rfl rfl (fun hg1 => (.move (.of rfl))) rfl ?_
  refine WL.gval rfl rfl (fun hg1 => (.len (.gd hg1 rfl) Try.underlying9)) rfl ?_
  refine WL.gval rfl rfl (fun hg1 => (.subTo (.gd hg1 rfl) (.gd hg1 rfl) (by (try simp only [decide_eq_true_eq, decide_eq_false_iff_not, beq_iff_eq, beq_eq_false_iff_ne, bne_iff_ne, Bool.not_eq_true', Bool.not_eq_false', Bool.or_eq_true, Bool.and_eq_true, Bool.or_eq_false_iff, Bool.and_eq_false_iff, ne_eq, Int.not_lt, Int.not_le, bne_eq_false_iff_eq, Bool.not_eq_true, Bool.not_eq_false] at hg1); omega) (by (try simp only [decide_eq_true_eq, decide_eq_false_iff_not, beq_iff_eq, beq_eq_false_iff_ne, bne_iff_ne, Bool.not_eq_true', Bool.not_eq_false', Bool.or_eq_true, Bool.and_eq_true, Bool.or_eq_false_iff, Bool.and_eq_false_iff, ne_eq, Int.not_lt, Int.not_le, bne_eq_false_iff_eq, Bool.not_eq_true, Bool.not_eq_false] at hg1); omega) Try.underlying9)) rfl ?_
  refine WL.gval rfl rfl (fun hg1 => (.move (.of rfl))) rfl ?_
  refine WL.gval rfl rfl (fun hg1 => (.eqs (.gd hg1 rfl) (.gd hg1 rfl))) rfl ?_
  refine WL.val (.pand (.of rfl) (.of rfl) (.of rfl)) rfl ?_
  refine WL.val (.assign (.of rfl)) rfl ?_
  refine WL.nil ?_
  refine WC.ret ?_
  refine ret1 Try.results28 rfl ?_
  exact ⟨_, rfl, rfl, rfl⟩
theorem HasPrefix_any (s p : List UInt8) (w : World) (hs : s.length ≤ 140737488351232) (hp : p.length ≤ 140737488351232) :
    Calls Try.prog 20 [S s, S p].toArray w (Ret fun v w' => v = .bool (hasPre s p) ∧ w = w') := by
  refine calls Try.func20 rfl Try.ntmps20 rfl ?_
  refine WC.seq ?_
  refine WC.region ?_
  refine WL.val (.assign (.of rfl)) rfl ?_
  refine WL.nil ?_
  refine WC.seq ?_
  refine WC.region ?_
  refine WL.val (.move (.of rfl)) rfl ?_
  refine WL.val (.move (.of rfl)) rfl ?_
  refine WL.call Try.func28 rfl (evs_cons (.of rfl) (evs_cons (.of rfl) evs_nil)) rfl (slHasPrefix_any _ _ _ hs hp) ?_
  rintro _ _ ⟨rfl, rfl⟩
  refine WL.val (.assign (.of rfl)) rfl ?_
  refine WL.nil ?_
  refine WC.ret ?_
  refine ret1 Try.results20 rfl ?_
  exact ⟨_, rfl, rfl, rfl⟩
end Go.Proofs.Ytigmejjkmoaimaa
