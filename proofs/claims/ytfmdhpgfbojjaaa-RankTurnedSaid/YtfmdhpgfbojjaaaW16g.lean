/- Chapter 16: the reference's order; the examples. -/
import Derived.Test.YtfmdhpgfbojjaaaW16f
import Derived.Test.YtfmdhpgfbojjaaaW16b
namespace Go.Proofs.Ytfmdhpgfbojjaaa
open Gk Rk
set_option linter.unusedVariables false
set_option linter.unusedSimpArgs false

set_option maxHeartbeats 400000 in
theorem refOrder_any (l : List Nat) (small : ∀ v ∈ l, v < 18446744073709551616) (hl : l.length ≤ 100000) (a : Option Addr) (c : Nat) (B w : World) (I : Im) (hr : RS I a 1 l.length (l.map F64)) (As : List Assn) (hS : Sat B w I As) :
    Calls Try.prog 13 [.slice a l.length c].toArray w (Ret fun v w' => ∃ D va vc, v = .slice va l.length vc ∧ Srt.Ord (kx l) l.length D ∧ Sat B w' I (Vec 3 1 (.slice va l.length vc) l.length (D.map I64) :: As)) := by
  refine calls Try.func13 rfl Try.ntmps13 rfl ?_
  refine WC.seq ?_
  refine WC.region ?_
  refine WL.val (.assign (.of rfl)) rfl ?_
  refine WL.nil ?_
  refine WC.seq ?_
  refine WC.region ?_
  refine WL.val (.assign (.of rfl)) rfl ?_
  refine WL.nil ?_
  refine WC.seq ?_
  refine WC.region ?_
  refine WL.val (.move (.of rfl)) rfl ?_
  refine WL.val (.lenSlice (.of rfl) Try.underlying24) rfl ?_
  refine WL.make (l := l.length) hS (.of rfl) (.of rfl) Try.underlying39 Try.type4 rfl (by simp [Try.t4] <;> omega) (by omega) rfl rfl rfl ?_
  clear hS; intro b9 w hS
  refine WL.val (.assign (.of rfl)) rfl ?_
  refine WL.nil ?_
  refine WC.seq ?_
  refine WC.block ?_
  replace hS := hS.vecNil 3 1
  refine WC.loop (σ := List Bool × List Int × List Int × Option Addr × Nat) (fun ⟨us, Os, T, va, vc⟩ => [(0, .slice a l.length c), (3, .slice va Os.length vc), (4, .slice (some (ad b9 0)) l.length l.length)]) (fun ⟨us, Os, T, va, vc⟩ w => Srt.Sel (kx l) l.length us Os T ∧ Sat B w I (Vec 3 1 (.slice va Os.length vc) Os.length (Os.map I64) :: blk b9 (us.map Value.bool ++ []) 4 :: As)) (fun ⟨us, Os, T, va, vc⟩ => T.length) (List.replicate l.length false, [], Srt.upto l.length, none, 0) ⟨rfl, rfl, rfl, trivial⟩ ⟨Srt.Sel.start _ _, by rw [List.map_replicate, List.append_nil]; exact hS⟩ ?_
  rintro ⟨us, Os, T, va, vc⟩ w ⟨hsel, hS⟩
  change WC _ _ _ _ [(0, .slice a l.length c), (3, .slice va Os.length vc), (4, .slice (some (ad b9 0)) l.length l.length)] w
  have hsl := hsel.len
  have hse := hsel.lens
  refine WC.seq ?_
  refine WC.seq ?_
  refine WC.region ?_
  refine WL.val (.move (.of rfl)) rfl ?_
  refine WL.val (.lenSlice (.of rfl) Try.underlying28) rfl ?_
  refine WL.val (.move (.of rfl)) rfl ?_
  refine WL.val (.lenSlice (.of rfl) Try.underlying24) rfl ?_
  refine WL.val (.lss (.of rfl) (.of rfl)) rfl ?_
  refine WL.nil ?_
  refine WC.cond rfl (fun hb14 => ?_) (fun hb14 => ?_)
  ·
    have hc14 := hb14; try simp only [decide_eq_true_eq, decide_eq_false_iff_not, beq_iff_eq, beq_eq_false_iff_ne, bne_iff_ne, Bool.not_eq_true', Bool.not_eq_false', Bool.or_eq_true, Bool.and_eq_true, Bool.or_eq_false_iff, Bool.and_eq_false_iff, ne_eq, Int.not_lt, Int.not_le, bne_eq_false_iff_eq, Bool.not_eq_true, Bool.not_eq_false] at hc14
    refine WC.skip ?_
    refine WC.block ?_
    refine WC.seq ?_
    refine WC.region ?_
    refine WL.val (.assign (.of rfl)) rfl ?_
    refine WL.nil ?_
    refine WC.seq ?_
    refine WC.seq ?_
    refine WC.region ?_
    refine WL.val (.assign (.of rfl)) rfl ?_
    refine WL.nil ?_
    refine WC.block ?_
    refine WC.loop (σ := Nat × Int) (fun ⟨i, best⟩ => [(0, .slice a l.length c), (3, .slice va Os.length vc), (4, .slice (some (ad b9 0)) l.length l.length), (5, I64 best), (6, I64 (i : Nat))]) (fun ⟨i, best⟩ w => i ≤ l.length ∧ -1 ≤ best ∧ Srt.Best (kx l) T i best ∧ Sat B w I (Vec 3 1 (.slice va Os.length vc) Os.length (Os.map I64) :: blk b9 (us.map Value.bool ++ []) 4 :: As)) (fun ⟨i, best⟩ => l.length - i) (0, -1) ⟨rfl, rfl, rfl, rfl, rfl, trivial⟩ ⟨Nat.zero_le _, by decide, .inl ⟨rfl, fun t ht => (hsel.mem ht).1⟩, hS⟩ ?_
    rintro ⟨i, best⟩ w ⟨hi, hbn, hbest, hS⟩
    change WC _ _ _ _ [(0, .slice a l.length c), (3, .slice va Os.length vc), (4, .slice (some (ad b9 0)) l.length l.length), (5, I64 best), (6, I64 (i : Nat))] w
    have hbl := hbest.lt
    refine WC.seq ?_
    refine WC.seq ?_
    refine WC.region ?_
    refine WL.val (.move (.of rfl)) rfl ?_
    refine WL.val (.move (.of rfl)) rfl ?_
    refine WL.val (.lenSlice (.of rfl) Try.underlying24) rfl ?_
    refine WL.val (.lss (.of rfl) (.of rfl)) rfl ?_
    refine WL.nil ?_
    refine WC.cond rfl (fun hb18 => ?_) (fun hb18 => ?_)
    ·
      have hc18 := hb18; try simp only [decide_eq_true_eq, decide_eq_false_iff_not, beq_iff_eq, beq_eq_false_iff_ne, bne_iff_ne, Bool.not_eq_true', Bool.not_eq_false', Bool.or_eq_true, Bool.and_eq_true, Bool.or_eq_false_iff, Bool.and_eq_false_iff, ne_eq, Int.not_lt, Int.not_le, bne_eq_false_iff_eq, Bool.not_eq_true, Bool.not_eq_false] at hc18
      refine WC.skip ?_
      refine WC.seq ?_
      refine WC.block ?_
      refine WC.seq ?_
      obtain ⟨pa, rfl, ha⟩ := hr.2 (by omega)
      refine WC.quiet (by kernel_rfl) (by kernel_rfl) hS ?_
      refine WQ.val (fun w hS => (.move (.of rfl))) rfl ?_
      refine WQ.val (fun w hS => (.move (.of rfl))) rfl ?_
      refine WQ.val (fun w hS => (by first | exact .indexAddr (.of rfl) (.of rfl) (by omega) (by omega) Try.underlying39 Try.sizeOf4 | exact .indexAddrI (.of rfl) (.of rfl) (by omega) (by omega) Try.underlying39 Try.sizeOf4)) rfl ?_
      refine WQ.val (fun w hS => .ldE .bool us false [] (i := (i : Int)) (.of rfl) hS (k := 1) rfl rfl Try.isAgg4 (by omega) (by omega)) rfl ?_
      refine WQ.val (fun w hS => (.not (.of rfl))) rfl ?_
      refine WQ.val (fun w hS => (.move (.of rfl))) rfl ?_
      refine WQ.gval rfl rfl rfl (fun hg1 w hS => (.move (.of rfl))) rfl ?_
      refine WQ.gval rfl rfl rfl (fun hg1 w hS => (.lss (.gd hg1 rfl) (.of rfl))) rfl ?_
      refine WQ.gval rfl rfl rfl (fun hg1 w hS => (.move (.gd hg1 rfl))) rfl ?_
      refine WQ.gval2 rfl rfl rfl (fun hg1 hg2 w hS => (.move (.of rfl))) rfl ?_
      refine WQ.gval2 rfl rfl rfl (fun hg1 hg2 w hS => (.move (.of rfl))) rfl ?_
      refine WQ.gval2 rfl rfl rfl (fun hg1 hg2 w hS => (by first | exact .indexAddr (.gd2 hg1 hg2 rfl) (.gd2 hg1 hg2 rfl) (by (try simp only [decide_eq_true_eq, decide_eq_false_iff_not, beq_iff_eq, beq_eq_false_iff_ne, bne_iff_ne, Bool.not_eq_true', Bool.not_eq_false', Bool.or_eq_true, Bool.and_eq_true, Bool.or_eq_false_iff, Bool.and_eq_false_iff, ne_eq, Int.not_lt, Int.not_le, bne_eq_false_iff_eq, Bool.not_eq_true, Bool.not_eq_false] at hg1 hg2); omega) (by (try simp only [decide_eq_true_eq, decide_eq_false_iff_not, beq_iff_eq, beq_eq_false_iff_ne, bne_iff_ne, Bool.not_eq_true', Bool.not_eq_false', Bool.or_eq_true, Bool.and_eq_true, Bool.or_eq_false_iff, Bool.and_eq_false_iff, ne_eq, Int.not_lt, Int.not_le, bne_eq_false_iff_eq, Bool.not_eq_true, Bool.not_eq_false] at hg1 hg2); omega) Try.underlying24 Try.sizeOf25 | exact .indexAddrI (.gd2 hg1 hg2 rfl) (.gd2 hg1 hg2 rfl) (by (try simp only [decide_eq_true_eq, decide_eq_false_iff_not, beq_iff_eq, beq_eq_false_iff_ne, bne_iff_ne, Bool.not_eq_true', Bool.not_eq_false', Bool.or_eq_true, Bool.and_eq_true, Bool.or_eq_false_iff, Bool.and_eq_false_iff, ne_eq, Int.not_lt, Int.not_le, bne_eq_false_iff_eq, Bool.not_eq_true, Bool.not_eq_false] at hg1 hg2); omega) (by (try simp only [decide_eq_true_eq, decide_eq_false_iff_not, beq_iff_eq, beq_eq_false_iff_ne, bne_iff_ne, Bool.not_eq_true', Bool.not_eq_false', Bool.or_eq_true, Bool.and_eq_true, Bool.or_eq_false_iff, Bool.and_eq_false_iff, ne_eq, Int.not_lt, Int.not_le, bne_eq_false_iff_eq, Bool.not_eq_true, Bool.not_eq_false] at hg1 hg2); omega) Try.underlying24 Try.sizeOf25)) rfl ?_
      refine WQ.gval2 rfl rfl rfl (fun hg1 hg2 w hS => .ldEI F64 l 0 (i := (i : Int)) (.gd2 hg1 hg2 rfl) hS ha rfl Try.isAgg25 (by omega) (by omega)) rfl ?_
      refine WQ.gcall2 rfl rfl rfl Try.func19 rfl (fun hg1 hg2 => (evs_cons (.gd2 hg1 hg2 rfl) evs_nil)) rfl (fun hg1 hg2 w hS => refKey_any _ (small_get small (i : Int).toNat) B w I _ hS) ?_
      refine WQ.gval2 rfl rfl rfl (fun hg1 hg2 w hS => (.move (.of rfl))) rfl ?_
      refine WQ.gval2 rfl rfl rfl (fun hg1 hg2 w hS => (.move (.of rfl))) rfl ?_
      refine WQ.gval2 rfl rfl rfl (fun hg1 hg2 w hS => (by first | exact .indexAddr (.gd2 hg1 hg2 rfl) (.gd2 hg1 hg2 rfl) (by (try simp only [decide_eq_true_eq, decide_eq_false_iff_not, beq_iff_eq, beq_eq_false_iff_ne, bne_iff_ne, Bool.not_eq_true', Bool.not_eq_false', Bool.or_eq_true, Bool.and_eq_true, Bool.or_eq_false_iff, Bool.and_eq_false_iff, ne_eq, Int.not_lt, Int.not_le, bne_eq_false_iff_eq, Bool.not_eq_true, Bool.not_eq_false] at hg1 hg2); omega) (by (try simp only [decide_eq_true_eq, decide_eq_false_iff_not, beq_iff_eq, beq_eq_false_iff_ne, bne_iff_ne, Bool.not_eq_true', Bool.not_eq_false', Bool.or_eq_true, Bool.and_eq_true, Bool.or_eq_false_iff, Bool.and_eq_false_iff, ne_eq, Int.not_lt, Int.not_le, bne_eq_false_iff_eq, Bool.not_eq_true, Bool.not_eq_false] at hg1 hg2); omega) Try.underlying24 Try.sizeOf25 | exact .indexAddrI (.gd2 hg1 hg2 rfl) (.gd2 hg1 hg2 rfl) (by (try simp only [decide_eq_true_eq, decide_eq_false_iff_not, beq_iff_eq, beq_eq_false_iff_ne, bne_iff_ne, Bool.not_eq_true', Bool.not_eq_false', Bool.or_eq_true, Bool.and_eq_true, Bool.or_eq_false_iff, Bool.and_eq_false_iff, ne_eq, Int.not_lt, Int.not_le, bne_eq_false_iff_eq, Bool.not_eq_true, Bool.not_eq_false] at hg1 hg2); omega) (by (try simp only [decide_eq_true_eq, decide_eq_false_iff_not, beq_iff_eq, beq_eq_false_iff_ne, bne_iff_ne, Bool.not_eq_true', Bool.not_eq_false', Bool.or_eq_true, Bool.and_eq_true, Bool.or_eq_false_iff, Bool.and_eq_false_iff, ne_eq, Int.not_lt, Int.not_le, bne_eq_false_iff_eq, Bool.not_eq_true, Bool.not_eq_false] at hg1 hg2); omega) Try.underlying24 Try.sizeOf25)) rfl ?_
      refine WQ.gval2 rfl rfl rfl (fun hg1 hg2 w hS => .ldEI F64 l 0 (i := best) (.gd2 hg1 hg2 rfl) hS ha rfl Try.isAgg25 (by (try simp only [decide_eq_true_eq, decide_eq_false_iff_not, beq_iff_eq, beq_eq_false_iff_ne, bne_iff_ne, Bool.not_eq_true', Bool.not_eq_false', Bool.or_eq_true, Bool.and_eq_true, Bool.or_eq_false_iff, Bool.and_eq_false_iff, ne_eq, Int.not_lt, Int.not_le, bne_eq_false_iff_eq, Bool.not_eq_true, Bool.not_eq_false] at hg1 hg2); omega) (by omega)) rfl ?_
      refine WQ.gcall2 rfl rfl rfl Try.func19 rfl (fun hg1 hg2 => (evs_cons (.gd2 hg1 hg2 rfl) evs_nil)) rfl (fun hg1 hg2 w hS => refKey_any _ (small_get small best.toNat) B w I _ hS) ?_
      refine WQ.gval2 rfl rfl rfl (fun hg1 hg2 w hS => (.lss (.gd2 hg1 hg2 rfl) (.gd2 hg1 hg2 rfl))) rfl ?_
      refine WQ.gval rfl rfl rfl (fun hg1 w hS => (.por (.gd hg1 rfl) (.of rfl) (.gd hg1 rfl))) rfl ?_
      refine WQ.val (fun w hS => (.pand (.of rfl) (.of rfl) (.of rfl))) rfl ?_
      refine WQ.nil ?_
      clear hS; intro w hS
      refine WC.cond rfl (fun hb42 => ?_) (fun hb42 => ?_)
      ·
        have hc42 := hb42; try simp only [decide_eq_true_eq, decide_eq_false_iff_not, beq_iff_eq, beq_eq_false_iff_ne, bne_iff_ne, Bool.not_eq_true', Bool.not_eq_false', Bool.or_eq_true, Bool.and_eq_true, Bool.or_eq_false_iff, Bool.and_eq_false_iff, ne_eq, Int.not_lt, Int.not_le, bne_eq_false_iff_eq, Bool.not_eq_true, Bool.not_eq_false] at hc42
        refine WC.region ?_
        refine WL.val (.move (.of rfl)) rfl ?_
        refine WL.val (.assign (.of rfl)) rfl ?_
        refine WL.nil ?_
        refine WC.region ?_
        refine WL.val (.move (.of rfl)) rfl ?_
        refine WL.val (.add (.of rfl) (.of rfl) ⟨by omega, by omega⟩) rfl ?_
        refine WL.val (.assign (.of rfl)) rfl ?_
        refine WL.nil ?_
        have e1 : keyN (l.getD (i : Int).toNat 0) = kx l (i : Int) := rfl
        have e2 : keyN (l.getD best.toNat 0) = kx l best := rfl
        rw [e1, e2] at hb42
        have hc1 : us.getD i false = false ∧ (best < 0 ∨ kx l (i : Int) < kx l best) := by
          simp only [Int.toNat_natCast, Bool.and_eq_true, Bool.or_eq_true, decide_eq_true_eq, Bool.not_eq_true', Int.ofNat_lt] at hb42
          exact hb42
        exact ⟨(i + 1, (i : Int)), ⟨rfl, rfl, rfl, rfl, rfl, trivial⟩, ⟨by (try dsimp only); omega, by (try dsimp only); omega, hbest.take hsel (by omega) hc1.1 hc1.2, hS⟩, by (try dsimp only); omega⟩
      ·
        have hc42 := hb42; try simp only [decide_eq_true_eq, decide_eq_false_iff_not, beq_iff_eq, beq_eq_false_iff_ne, bne_iff_ne, Bool.not_eq_true', Bool.not_eq_false', Bool.or_eq_true, Bool.and_eq_true, Bool.or_eq_false_iff, Bool.and_eq_false_iff, ne_eq, Int.not_lt, Int.not_le, bne_eq_false_iff_eq, Bool.not_eq_true, Bool.not_eq_false] at hc42
        refine WC.skip ?_
        refine WC.region ?_
        refine WL.val (.move (.of rfl)) rfl ?_
        refine WL.val (.add (.of rfl) (.of rfl) ⟨by omega, by omega⟩) rfl ?_
        refine WL.val (.assign (.of rfl)) rfl ?_
        refine WL.nil ?_
        have e1 : keyN (l.getD (i : Int).toNat 0) = kx l (i : Int) := rfl
        have e2 : keyN (l.getD best.toNat 0) = kx l best := rfl
        rw [e1, e2] at hb42
        have hc1 : us.getD i false = true ∨ (¬ best < 0 ∧ ¬ kx l (i : Int) < kx l best) := by
          simp only [Int.toNat_natCast, Bool.and_eq_false_iff, Bool.or_eq_false_iff, decide_eq_false_iff_not, Bool.not_eq_false', Int.ofNat_lt] at hb42
          exact hb42
        exact ⟨(i + 1, best), ⟨rfl, rfl, rfl, rfl, rfl, trivial⟩, ⟨by (try dsimp only); omega, hbn, hbest.keep hsel hc1, hS⟩, by (try dsimp only); omega⟩
    ·
      have hc18 := hb18; try simp only [decide_eq_true_eq, decide_eq_false_iff_not, beq_iff_eq, beq_eq_false_iff_ne, bne_iff_ne, Bool.not_eq_true', Bool.not_eq_false', Bool.or_eq_true, Bool.and_eq_true, Bool.or_eq_false_iff, Bool.and_eq_false_iff, ne_eq, Int.not_lt, Int.not_le, bne_eq_false_iff_eq, Bool.not_eq_true, Bool.not_eq_false] at hc18
      refine WC.exit ?_
      refine WC.seq ?_
      have hin : i = l.length := by omega
      subst hin
      have hst := hsel.step hbest (by omega)
      have hbm := hbest.is (by omega)
      refine WC.region ?_
      refine WL.val (.move (.of rfl)) rfl ?_
      refine WL.val (.move (.of rfl)) rfl ?_
      first | refine WL.val (.indexAddr (.of rfl) (.of rfl) (by omega) (by omega) Try.underlying39 Try.sizeOf4) rfl ?_ | refine WL.val (.indexAddrI (.of rfl) (.of rfl) (by omega) (by omega) Try.underlying39 Try.sizeOf4) rfl ?_
      refine WL.stE .bool us [] (u := true) hS (k := 1) rfl (.of rfl) (.of rfl) rfl rfl Try.sizeOf4 (by omega) (by omega) ?_
      clear hS; intro w hS; dsimp only [List.set] at hS
      refine WL.nil ?_
      refine WC.region ?_
      refine WL.val (.move (.of rfl)) rfl ?_
      refine WL.val (.move (.of rfl)) rfl ?_
      refine WL.buildSlice (cs := [_]) hS (parts_cons (.of rfl) parts_nil) Try.underlying28 Try.sizeOf3 Try.zeroValue3 rfl rfl rfl rfl ?_
      clear hS; intro b49 w hS
      first | refine WL.append (size := 1) (bytes := 8) hS (.of rfl) (.of rfl) (k := 0) rfl Try.underlying28 Try.type3 rfl rfl rfl rfl rfl rfl rfl ⟨by omega, by unfold maxLen; omega⟩ rfl ?_ | refine WL.append (size := 1) (bytes := 8) hS (.of rfl) (.of rfl) (k := 1) rfl Try.underlying28 Try.type3 rfl rfl rfl rfl rfl rfl rfl ⟨by omega, by unfold maxLen; omega⟩ rfl ?_
      clear hS; intro v50 w hS; try dsimp only [List.set] at hS
      first | obtain ⟨a50, c50, rfl, hcap50, _⟩ := hS.vecSlice (k := 0) (v := v50) rfl | obtain ⟨a50, c50, rfl, hcap50, _⟩ := hS.vecSlice (k := 1) (v := v50) rfl
      refine WL.val (.assign (.of rfl)) rfl ?_
      refine WL.nil ?_
      refine ⟨(us.set best.toNat true, Os ++ [best], T.erase best, a50, c50), ⟨rfl, ?_, rfl, trivial⟩, ⟨hst.2.2, ?_⟩, by (try dsimp only); rw [List.length_erase_of_mem hbm]; omega⟩
      · rw [List.length_append]; rfl
      · rw [List.length_append, List.map_append]; exact hS
  ·
    have hc14 := hb14; try simp only [decide_eq_true_eq, decide_eq_false_iff_not, beq_iff_eq, beq_eq_false_iff_ne, bne_iff_ne, Bool.not_eq_true', Bool.not_eq_false', Bool.or_eq_true, Bool.and_eq_true, Bool.or_eq_false_iff, Bool.and_eq_false_iff, ne_eq, Int.not_lt, Int.not_le, bne_eq_false_iff_eq, Bool.not_eq_true, Bool.not_eq_false] at hc14
    refine WC.exit ?_
    refine WC.seq ?_
    refine WC.region ?_
    refine WL.val (.move (.of rfl)) rfl ?_
    refine WL.val (.assign (.of rfl)) rfl ?_
    refine WL.nil ?_
    refine WC.ret ?_
    refine ret1 Try.results13 rfl ?_
    exact ⟨_, rfl, Os, va, vc, by rw [show l.length = Os.length by omega], hsel.done (by omega), (by rw [show l.length = Os.length by omega]; exact hS.drop (k := 1) rfl)⟩
set_option maxHeartbeats 400000 in
theorem awake_any (B w : World) (I : Im) (As : List Assn) (hS : Sat B w I As) :
    Calls Try.prog 10 [].toArray w (Ret fun v w' => v = .bool true ∧ Sat B w' I As) := by
  refine calls Try.func10 rfl Try.ntmps10 rfl ?_
  refine WC.seq ?_
  refine WC.region ?_
  refine WL.val (.assign (.of rfl)) rfl ?_
  refine WL.nil ?_
  refine WC.seq ?_
  refine WC.region ?_
  refine WL.val (.assign (.of rfl)) rfl ?_
  refine WL.nil ?_
  refine WC.seq ?_
  refine WC.region ?_
  refine WL.val (.extern Try.func23 (by kernel_rfl) (by kernel_rfl) (by kernel_rfl) (e := Extern.MathFloatBits.float64frombits) (by kernel_rfl) (evs_cons (.of rfl) evs_nil) rfl) rfl ?_
  refine WL.val (.assign (.of rfl)) rfl ?_
  refine WL.nil ?_
  refine WC.seq ?_
  refine WC.region ?_
  refine WL.val (.extern Try.func23 (by kernel_rfl) (by kernel_rfl) (by kernel_rfl) (e := Extern.MathFloatBits.float64frombits) (by kernel_rfl) (evs_cons (.of rfl) evs_nil) rfl) rfl ?_
  refine WL.val (.assign (.of rfl)) rfl ?_
  refine WL.nil ?_
  refine WC.seq ?_
  refine WC.region ?_
  refine WL.val (.move (.of rfl)) rfl ?_
  refine WL.val (.extern Try.func23 (by kernel_rfl) (by kernel_rfl) (by kernel_rfl) (e := Extern.MathFloatBits.float64frombits) (by kernel_rfl) (evs_cons (.of rfl) evs_nil) rfl) rfl ?_
  refine WL.val (.move (.of rfl)) rfl ?_
  refine WL.val (.move (.of rfl)) rfl ?_
  refine WL.val (.fneg (.of rfl)) rfl ?_
  refine WL.buildSlice (cs := [_, _, _, _, _]) hS (parts_cons (.of rfl) (parts_cons (.of rfl) (parts_cons (.of rfl) (parts_cons (.of rfl) (parts_cons (.of rfl) parts_nil))))) Try.underlying24 Try.sizeOf25 Try.zeroValue25 rfl rfl rfl rfl ?_
  clear hS; intro b12 w hS
  obtain ⟨J, hJ, hJb, hT⟩ := hS.freeze (k := 0) rfl; clear hS; have hS := hT; clear hT; try dsimp only [List.eraseIdx] at hS
  have hrs : RS J (some (ad b12 0)) 1 ([(9221120237041090561 : Int).toNat, 4607182418800017408, (9223372036854775808 : Int).toNat, 0, (9218868437227405312 : Int).toNat ^^^ 9223372036854775808]).length (([(9221120237041090561 : Int).toNat, 4607182418800017408, (9223372036854775808 : Int).toNat, 0, (9218868437227405312 : Int).toNat ^^^ 9223372036854775808]).map F64) := ⟨rfl, fun _ => ⟨_, rfl, rfl, _, _, _, hJb, fun j v h => by simpa using h⟩⟩
  refine WL.call Try.func12 rfl (evs_cons (.of rfl) evs_nil) rfl (Order_any [(9221120237041090561 : Int).toNat, 4607182418800017408, (9223372036854775808 : Int).toNat, 0, (9218868437227405312 : Int).toNat ^^^ 9223372036854775808] (by decide) (by decide) _ _ B w J hrs _ hS) ?_
  clear hS
  rintro _ w ⟨D, va, vc, rfl, hD, hS⟩
  obtain rfl : D = [4, 2, 3, 1, 0] := Srt.Ord.unique hD ⟨by decide +kernel, by decide +kernel⟩
  obtain ⟨ob, oc, orr, hov, _, _, _, _, hT⟩ := hS.vecOpen (k := 0) rfl (by decide); clear hS; have hS := hT; clear hT; try dsimp only [List.set] at hS
  injection hov with ho1 ho2 ho3; subst ho1; subst ho3
  refine WL.val (.assign (.of rfl)) rfl ?_
  refine WL.nil ?_
  refine WC.seq ?_
  refine WC.seq ?_
  refine WC.region ?_
  refine WL.val (.move (.of rfl)) rfl ?_
  refine WL.val (.lenSlice (.of rfl) Try.underlying28) rfl ?_
  refine WL.val (.neq (.of rfl) (.of rfl)) rfl ?_
  refine WL.val (.move (.of rfl)) rfl ?_
  refine WL.gval rfl rfl (fun hg1 => (.move (.of rfl))) rfl ?_
  refine WL.gval rfl rfl (fun hg1 => (by first | exact .indexAddr (.gd hg1 rfl) (.of rfl) (by (try simp only [decide_eq_true_eq, decide_eq_false_iff_not, beq_iff_eq, beq_eq_false_iff_ne, bne_iff_ne, Bool.not_eq_true', Bool.not_eq_false', Bool.or_eq_true, Bool.and_eq_true, Bool.or_eq_false_iff, Bool.and_eq_false_iff, ne_eq, Int.not_lt, Int.not_le, bne_eq_false_iff_eq, Bool.not_eq_true, Bool.not_eq_false] at hg1); omega) (by (try simp only [decide_eq_true_eq, decide_eq_false_iff_not, beq_iff_eq, beq_eq_false_iff_ne, bne_iff_ne, Bool.not_eq_true', Bool.not_eq_false', Bool.or_eq_true, Bool.and_eq_true, Bool.or_eq_false_iff, Bool.and_eq_false_iff, ne_eq, Int.not_lt, Int.not_le, bne_eq_false_iff_eq, Bool.not_eq_true, Bool.not_eq_false] at hg1); omega) Try.underlying28 Try.sizeOf3 | exact .indexAddrI (.gd hg1 rfl) (.of rfl) (by (try simp only [decide_eq_true_eq, decide_eq_false_iff_not, beq_iff_eq, beq_eq_false_iff_ne, bne_iff_ne, Bool.not_eq_true', Bool.not_eq_false', Bool.or_eq_true, Bool.and_eq_true, Bool.or_eq_false_iff, Bool.and_eq_false_iff, ne_eq, Int.not_lt, Int.not_le, bne_eq_false_iff_eq, Bool.not_eq_true, Bool.not_eq_false] at hg1); omega) (by (try simp only [decide_eq_true_eq, decide_eq_false_iff_not, beq_iff_eq, beq_eq_false_iff_ne, bne_iff_ne, Bool.not_eq_true', Bool.not_eq_false', Bool.or_eq_true, Bool.and_eq_true, Bool.or_eq_false_iff, Bool.and_eq_false_iff, ne_eq, Int.not_lt, Int.not_le, bne_eq_false_iff_eq, Bool.not_eq_true, Bool.not_eq_false] at hg1); omega) Try.underlying28 Try.sizeOf3)) rfl ?_
  refine WL.gval rfl rfl (fun hg1 => (by first | exact (.ld (.gd hg1 rfl) hS (k := 0) rfl Try.isAgg3 rfl))) rfl ?_
  refine WL.gval rfl rfl (fun hg1 => (.neq (.gd hg1 rfl) (.of rfl))) rfl ?_
  refine WL.val (.por (.of rfl) (.of rfl) (.of rfl)) rfl ?_
  refine WL.val (.move (.of rfl)) rfl ?_
  refine WL.gval rfl rfl (fun hg1 => (.move (.of rfl))) rfl ?_
  refine WL.gval rfl rfl (fun hg1 => (by first | exact .indexAddr (.gd hg1 rfl) (.of rfl) (by (try simp only [decide_eq_true_eq, decide_eq_false_iff_not, beq_iff_eq, beq_eq_false_iff_ne, bne_iff_ne, Bool.not_eq_true', Bool.not_eq_false', Bool.or_eq_true, Bool.and_eq_true, Bool.or_eq_false_iff, Bool.and_eq_false_iff, ne_eq, Int.not_lt, Int.not_le, bne_eq_false_iff_eq, Bool.not_eq_true, Bool.not_eq_false] at hg1); omega) (by (try simp only [decide_eq_true_eq, decide_eq_false_iff_not, beq_iff_eq, beq_eq_false_iff_ne, bne_iff_ne, Bool.not_eq_true', Bool.not_eq_false', Bool.or_eq_true, Bool.and_eq_true, Bool.or_eq_false_iff, Bool.and_eq_false_iff, ne_eq, Int.not_lt, Int.not_le, bne_eq_false_iff_eq, Bool.not_eq_true, Bool.not_eq_false] at hg1); omega) Try.underlying28 Try.sizeOf3 | exact .indexAddrI (.gd hg1 rfl) (.of rfl) (by (try simp only [decide_eq_true_eq, decide_eq_false_iff_not, beq_iff_eq, beq_eq_false_iff_ne, bne_iff_ne, Bool.not_eq_true', Bool.not_eq_false', Bool.or_eq_true, Bool.and_eq_true, Bool.or_eq_false_iff, Bool.and_eq_false_iff, ne_eq, Int.not_lt, Int.not_le, bne_eq_false_iff_eq, Bool.not_eq_true, Bool.not_eq_false] at hg1); omega) (by (try simp only [decide_eq_true_eq, decide_eq_false_iff_not, beq_iff_eq, beq_eq_false_iff_ne, bne_iff_ne, Bool.not_eq_true', Bool.not_eq_false', Bool.or_eq_true, Bool.and_eq_true, Bool.or_eq_false_iff, Bool.and_eq_false_iff, ne_eq, Int.not_lt, Int.not_le, bne_eq_false_iff_eq, Bool.not_eq_true, Bool.not_eq_false] at hg1); omega) Try.underlying28 Try.sizeOf3)) rfl ?_
  refine WL.gval rfl rfl (fun hg1 => (by first | exact (.ld (.gd hg1 rfl) hS (k := 0) rfl Try.isAgg3 rfl))) rfl ?_
  refine WL.gval rfl rfl (fun hg1 => (.neq (.gd hg1 rfl) (.of rfl))) rfl ?_
  refine WL.val (.por (.of rfl) (.of rfl) (.of rfl)) rfl ?_
  refine WL.val (.move (.of rfl)) rfl ?_
  refine WL.gval rfl rfl (fun hg1 => (.move (.of rfl))) rfl ?_
  refine WL.gval rfl rfl (fun hg1 => (by first | exact .indexAddr (.gd hg1 rfl) (.of rfl) (by (try simp only [decide_eq_true_eq, decide_eq_false_iff_not, beq_iff_eq, beq_eq_false_iff_ne, bne_iff_ne, Bool.not_eq_true', Bool.not_eq_false', Bool.or_eq_true, Bool.and_eq_true, Bool.or_eq_false_iff, Bool.and_eq_false_iff, ne_eq, Int.not_lt, Int.not_le, bne_eq_false_iff_eq, Bool.not_eq_true, Bool.not_eq_false] at hg1); omega) (by (try simp only [decide_eq_true_eq, decide_eq_false_iff_not, beq_iff_eq, beq_eq_false_iff_ne, bne_iff_ne, Bool.not_eq_true', Bool.not_eq_false', Bool.or_eq_true, Bool.and_eq_true, Bool.or_eq_false_iff, Bool.and_eq_false_iff, ne_eq, Int.not_lt, Int.not_le, bne_eq_false_iff_eq, Bool.not_eq_true, Bool.not_eq_false] at hg1); omega) Try.underlying28 Try.sizeOf3 | exact .indexAddrI (.gd hg1 rfl) (.of rfl) (by (try simp only [decide_eq_true_eq, decide_eq_false_iff_not, beq_iff_eq, beq_eq_false_iff_ne, bne_iff_ne, Bool.not_eq_true', Bool.not_eq_false', Bool.or_eq_true, Bool.and_eq_true, Bool.or_eq_false_iff, Bool.and_eq_false_iff, ne_eq, Int.not_lt, Int.not_le, bne_eq_false_iff_eq, Bool.not_eq_true, Bool.not_eq_false] at hg1); omega) (by (try simp only [decide_eq_true_eq, decide_eq_false_iff_not, beq_iff_eq, beq_eq_false_iff_ne, bne_iff_ne, Bool.not_eq_true', Bool.not_eq_false', Bool.or_eq_true, Bool.and_eq_true, Bool.or_eq_false_iff, Bool.and_eq_false_iff, ne_eq, Int.not_lt, Int.not_le, bne_eq_false_iff_eq, Bool.not_eq_true, Bool.not_eq_false] at hg1); omega) Try.underlying28 Try.sizeOf3)) rfl ?_
  refine WL.gval rfl rfl (fun hg1 => (by first | exact (.ld (.gd hg1 rfl) hS (k := 0) rfl Try.isAgg3 rfl))) rfl ?_
  refine WL.gval rfl rfl (fun hg1 => (.neq (.gd hg1 rfl) (.of rfl))) rfl ?_
  refine WL.val (.por (.of rfl) (.of rfl) (.of rfl)) rfl ?_
  refine WL.val (.move (.of rfl)) rfl ?_
  refine WL.gval rfl rfl (fun hg1 => (.move (.of rfl))) rfl ?_
  refine WL.gval rfl rfl (fun hg1 => (by first | exact .indexAddr (.gd hg1 rfl) (.of rfl) (by (try simp only [decide_eq_true_eq, decide_eq_false_iff_not, beq_iff_eq, beq_eq_false_iff_ne, bne_iff_ne, Bool.not_eq_true', Bool.not_eq_false', Bool.or_eq_true, Bool.and_eq_true, Bool.or_eq_false_iff, Bool.and_eq_false_iff, ne_eq, Int.not_lt, Int.not_le, bne_eq_false_iff_eq, Bool.not_eq_true, Bool.not_eq_false] at hg1); omega) (by (try simp only [decide_eq_true_eq, decide_eq_false_iff_not, beq_iff_eq, beq_eq_false_iff_ne, bne_iff_ne, Bool.not_eq_true', Bool.not_eq_false', Bool.or_eq_true, Bool.and_eq_true, Bool.or_eq_false_iff, Bool.and_eq_false_iff, ne_eq, Int.not_lt, Int.not_le, bne_eq_false_iff_eq, Bool.not_eq_true, Bool.not_eq_false] at hg1); omega) Try.underlying28 Try.sizeOf3 | exact .indexAddrI (.gd hg1 rfl) (.of rfl) (by (try simp only [decide_eq_true_eq, decide_eq_false_iff_not, beq_iff_eq, beq_eq_false_iff_ne, bne_iff_ne, Bool.not_eq_true', Bool.not_eq_false', Bool.or_eq_true, Bool.and_eq_true, Bool.or_eq_false_iff, Bool.and_eq_false_iff, ne_eq, Int.not_lt, Int.not_le, bne_eq_false_iff_eq, Bool.not_eq_true, Bool.not_eq_false] at hg1); omega) (by (try simp only [decide_eq_true_eq, decide_eq_false_iff_not, beq_iff_eq, beq_eq_false_iff_ne, bne_iff_ne, Bool.not_eq_true', Bool.not_eq_false', Bool.or_eq_true, Bool.and_eq_true, Bool.or_eq_false_iff, Bool.and_eq_false_iff, ne_eq, Int.not_lt, Int.not_le, bne_eq_false_iff_eq, Bool.not_eq_true, Bool.not_eq_false] at hg1); omega) Try.underlying28 Try.sizeOf3)) rfl ?_
  refine WL.gval rfl rfl (fun hg1 => (by first | exact (.ld (.gd hg1 rfl) hS (k := 0) rfl Try.isAgg3 rfl))) rfl ?_
  refine WL.gval rfl rfl (fun hg1 => (.neq (.gd hg1 rfl) (.of rfl))) rfl ?_
  refine WL.val (.por (.of rfl) (.of rfl) (.of rfl)) rfl ?_
  refine WL.val (.move (.of rfl)) rfl ?_
  refine WL.gval rfl rfl (fun hg1 => (.move (.of rfl))) rfl ?_
  refine WL.gval rfl rfl (fun hg1 => (by first | exact .indexAddr (.gd hg1 rfl) (.of rfl) (by (try simp only [decide_eq_true_eq, decide_eq_false_iff_not, beq_iff_eq, beq_eq_false_iff_ne, bne_iff_ne, Bool.not_eq_true', Bool.not_eq_false', Bool.or_eq_true, Bool.and_eq_true, Bool.or_eq_false_iff, Bool.and_eq_false_iff, ne_eq, Int.not_lt, Int.not_le, bne_eq_false_iff_eq, Bool.not_eq_true, Bool.not_eq_false] at hg1); omega) (by (try simp only [decide_eq_true_eq, decide_eq_false_iff_not, beq_iff_eq, beq_eq_false_iff_ne, bne_iff_ne, Bool.not_eq_true', Bool.not_eq_false', Bool.or_eq_true, Bool.and_eq_true, Bool.or_eq_false_iff, Bool.and_eq_false_iff, ne_eq, Int.not_lt, Int.not_le, bne_eq_false_iff_eq, Bool.not_eq_true, Bool.not_eq_false] at hg1); omega) Try.underlying28 Try.sizeOf3 | exact .indexAddrI (.gd hg1 rfl) (.of rfl) (by (try simp only [decide_eq_true_eq, decide_eq_false_iff_not, beq_iff_eq, beq_eq_false_iff_ne, bne_iff_ne, Bool.not_eq_true', Bool.not_eq_false', Bool.or_eq_true, Bool.and_eq_true, Bool.or_eq_false_iff, Bool.and_eq_false_iff, ne_eq, Int.not_lt, Int.not_le, bne_eq_false_iff_eq, Bool.not_eq_true, Bool.not_eq_false] at hg1); omega) (by (try simp only [decide_eq_true_eq, decide_eq_false_iff_not, beq_iff_eq, beq_eq_false_iff_ne, bne_iff_ne, Bool.not_eq_true', Bool.not_eq_false', Bool.or_eq_true, Bool.and_eq_true, Bool.or_eq_false_iff, Bool.and_eq_false_iff, ne_eq, Int.not_lt, Int.not_le, bne_eq_false_iff_eq, Bool.not_eq_true, Bool.not_eq_false] at hg1); omega) Try.underlying28 Try.sizeOf3)) rfl ?_
  refine WL.gval rfl rfl (fun hg1 => (by first | exact (.ld (.gd hg1 rfl) hS (k := 0) rfl Try.isAgg3 rfl))) rfl ?_
  refine WL.gval rfl rfl (fun hg1 => (.neq (.gd hg1 rfl) (.of rfl))) rfl ?_
  refine WL.val (.por (.of rfl) (.of rfl) (.of rfl)) rfl ?_
  refine WL.nil ?_
  refine WC.condF (rfl) ?_
  refine WC.skip ?_
  refine WC.seq ?_
  refine WC.region ?_
  refine WL.call Try.func14 rfl (evs_cons (.of rfl) (evs_cons (.of rfl) (evs_cons (.of rfl) (evs_cons (.of rfl) evs_nil)))) rfl (Wait_any _ _ _ _ B w J _ hS) ?_
  clear hS
  rintro _ w ⟨rfl, hS⟩
  refine WL.val (.feql (.of rfl) (.of rfl)) rfl ?_
  refine WL.val (.move (.of rfl)) rfl ?_
  refine WL.gcall (T := fun w => Sat B w J _) rfl rfl rfl Try.func14 rfl (fun hg1 => (evs_cons (.of rfl) (evs_cons (.of rfl) (evs_cons (.of rfl) (evs_cons (.of rfl) evs_nil))))) rfl (fun hg1 => Wait_any _ _ _ _ B w J _ hS) hS ?_
  clear hS; rintro w hS
  refine WL.gval rfl rfl (fun hg1 => (.feql (.gd hg1 rfl) (.of rfl))) rfl ?_
  refine WL.val (.pand (.of rfl) (.of rfl) (.of rfl)) rfl ?_
  refine WL.val (.move (.of rfl)) rfl ?_
  refine WL.gval rfl rfl (fun hg1 => (.move (.of rfl))) rfl ?_
  refine WL.gcall (T := fun w => Sat B w J _) rfl rfl rfl Try.func14 rfl (fun hg1 => (evs_cons (.of rfl) (evs_cons (.gd hg1 rfl) (evs_cons (.of rfl) (evs_cons (.of rfl) evs_nil))))) rfl (fun hg1 => Wait_any _ _ _ _ B w J _ hS) hS ?_
  clear hS; rintro w hS
  refine WL.gval rfl rfl (fun hg1 => (.feql (.gd hg1 rfl) (.of rfl))) rfl ?_
  refine WL.val (.pand (.of rfl) (.of rfl) (.of rfl)) rfl ?_
  refine WL.val (.move (.of rfl)) rfl ?_
  refine WL.gcall (T := fun w => Sat B w J _) rfl rfl rfl Try.func17 rfl (fun hg1 => (evs_cons (.of rfl) (evs_cons (.of rfl) evs_nil))) rfl (fun hg1 => quiet_of (Count_any _ _ w) hS) hS ?_
  clear hS; rintro w hS
  refine WL.gval rfl rfl (fun hg1 => (.eql (.gd hg1 rfl) (.of rfl))) rfl ?_
  refine WL.val (.pand (.of rfl) (.of rfl) (.of rfl)) rfl ?_
  refine WL.val (.move (.of rfl)) rfl ?_
  refine WL.gval rfl rfl (fun hg1 => (.move (.of rfl))) rfl ?_
  refine WL.gcall (T := fun w => Sat B w J _) rfl rfl rfl Try.func17 rfl (fun hg1 => (evs_cons (.gd hg1 rfl) (evs_cons (.of rfl) evs_nil))) rfl (fun hg1 => quiet_of (Count_any _ _ w) hS) hS ?_
  clear hS; rintro w hS
  refine WL.gval rfl rfl (fun hg1 => (.eql (.gd hg1 rfl) (.of rfl))) rfl ?_
  refine WL.val (.pand (.of rfl) (.of rfl) (.of rfl)) rfl ?_
  refine WL.val (.move (.of rfl)) rfl ?_
  refine WL.gcall (T := fun w => Sat B w J _) rfl rfl rfl Try.func17 rfl (fun hg1 => (evs_cons (.of rfl) (evs_cons (.of rfl) evs_nil))) rfl (fun hg1 => quiet_of (Count_any _ _ w) hS) hS ?_
  clear hS; rintro w hS
  refine WL.gval rfl rfl (fun hg1 => (.eql (.gd hg1 rfl) (.of rfl))) rfl ?_
  refine WL.val (.pand (.of rfl) (.of rfl) (.of rfl)) rfl ?_
  refine WL.val (.assign (.of rfl)) rfl ?_
  refine WL.nil ?_
  refine WC.ret ?_
  refine ret1 Try.results10 rfl ?_
  refine ⟨_, rfl, ?_, (hS.drop (k := 0) rfl).weaken hJ⟩
  exact congrArg Value.bool (by decide +kernel)
end Go.Proofs.Ytfmdhpgfbojjaaa
