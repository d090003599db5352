/- Chapter 16: the comparison of two, and ranges swapped. -/
import Derived.Test.YtfmdhpgfbojjaaaW16a
import Derived.Test.YtfmdhpgfbojjaaaSrt
namespace Go.Proofs.Ytfmdhpgfbojjaaa
open Gk Rk
set_option linter.unusedVariables false
set_option linter.unusedSimpArgs false

/-- What a closure that compares leans on. -/
structure Cx (I : Im) (l : List Nat) (p : Addr) : Prop where
  ex : ∃ a c, At I p [.slice a l.length c] ∧ RS I a 1 l.length (l.map F64)
  small : ∀ v ∈ l, v < 18446744073709551616
def kx (l : List Nat) (x : Int) : Nat := keyN (l.getD x.toNat 0)
theorem Cx.mono {I J : Im} {l : List Nat} {p : Addr} (h : Cx I l p) (hl : Le I J) : Cx J l p := by
  obtain ⟨⟨a, c, h1, h2⟩, h3⟩ := h
  exact ⟨⟨a, c, h1.mono hl, h2.mono hl⟩, h3⟩
theorem small_get {l : List Nat} (h : ∀ v ∈ l, v < 18446744073709551616) (i : Nat) : l.getD i 0 < 18446744073709551616 := by
  by_cases hi : i < l.length
  · refine h _ ?_
    rw [List.getD_eq_getElem?_getD, List.getElem?_eq_getElem hi]
    exact List.getElem_mem hi
  · rw [List.getD_eq_getElem?_getD, List.getElem?_eq_none (by omega)]; decide
abbrev CF (p : Addr) : Value := .func (.func 25) #[] [.pointer (some p)].toArray
theorem cmp_any {l : List Nat} {p : Addr} {I : Im} (h : Cx I l p) (x y : Int) (h0 : 0 ≤ x) (h1 : x < (l.length : Int)) (g0 : 0 ≤ y) (g1 : y < (l.length : Int)) (B w : World) (As : List Assn) (hS : Sat B w I As) :
    Calls Try.prog 25 [I64 x, I64 y, .pointer (some p)].toArray w (Ret fun v w' => v = I64 (Srt.cmpv (kx l) x y) ∧ Sat B w' I As) := by
  obtain ⟨sa, sc, hp, hr⟩ := h.ex
  obtain ⟨pa, rfl, ha⟩ := hr.2 (by omega)
  refine calls Try.func25 rfl Try.ntmps25 rfl ?_
  refine WC.seq ?_
  refine WC.region ?_
  refine WL.val (.assign (.of rfl)) rfl ?_
  refine WL.nil ?_
  refine WC.seq ?_
  refine WC.quiet (by kernel_rfl) (by kernel_rfl) hS ?_
  refine WQ.val (fun w hS => .ldI (.of rfl) hS hp Try.isAgg24 rfl) rfl ?_
  refine WQ.val (fun w hS => (.move (.of rfl))) rfl ?_
  refine WQ.val (fun w hS => (by first | exact .indexAddr (.of rfl) (.of rfl) (by omega) (by omega) Try.underlying24 Try.sizeOf25 | exact .indexAddrI (.of rfl) (.of rfl) (by omega) (by omega) Try.underlying24 Try.sizeOf25)) rfl ?_
  refine WQ.val (fun w hS => .ldEI F64 l 0 (i := x) (.of rfl) hS ha rfl Try.isAgg25 h0 h1) rfl ?_
  refine WQ.call Try.func18 rfl (evs_cons (.of rfl) evs_nil) rfl (fun w hS => quiet_of (Key_any _ (small_get h.small (x).toNat) w) hS) ?_
  refine WQ.val (fun w hS => .ldI (.of rfl) hS hp Try.isAgg24 rfl) rfl ?_
  refine WQ.val (fun w hS => (.move (.of rfl))) rfl ?_
  refine WQ.val (fun w hS => (by first | exact .indexAddr (.of rfl) (.of rfl) (by omega) (by omega) Try.underlying24 Try.sizeOf25 | exact .indexAddrI (.of rfl) (.of rfl) (by omega) (by omega) Try.underlying24 Try.sizeOf25)) rfl ?_
  refine WQ.val (fun w hS => .ldEI F64 l 0 (i := y) (.of rfl) hS ha rfl Try.isAgg25 g0 g1) rfl ?_
  refine WQ.call Try.func18 rfl (evs_cons (.of rfl) evs_nil) rfl (fun w hS => quiet_of (Key_any _ (small_get h.small (y).toNat) w) hS) ?_
  refine WQ.call Try.func26 rfl (evs_cons (.of rfl) (evs_cons (.of rfl) evs_nil)) rfl (fun w hS => quiet_of (Compare_any _ _ w) hS) ?_
  refine WQ.val (fun w hS => (.assign (.of rfl))) rfl ?_
  refine WQ.nil ?_
  clear hS; intro w hS
  refine WC.ret ?_
  refine ret1 Try.results25 rfl ?_
  refine ⟨_, rfl, ?_, hS⟩
  unfold Srt.cmpv kx
  simp only [Int.ofNat_lt]
theorem swapRange_any (U X M Y C : List Int) (hl : X.length = Y.length) (cv : Value) (b0 n c : Nat) (r : List Value) (hn : ((U.length + (X.length + (M.length + Y.length)) : Nat) : Int) ≤ n) (hb : (U.length + (X.length + (M.length + (Y.length + C.length)))) ≤ 1000000) (B w : World) (I : Im) (As : List Assn) (hS : Sat B w I (blk b0 ((U ++ (X ++ (M ++ (Y ++ C)))).map I64 ++ r) 3 :: As)) :
    Calls Try.prog 41 [.slice (some (ad b0 0)) n c, I64 (U.length : Nat), I64 (U.length + Y.length + M.length : Nat), I64 (Y.length : Nat), cv].toArray w (Ret fun v w' => v = .tuple #[] ∧ Sat B w' I (blk b0 ((U ++ (Y ++ (M ++ (X ++ C)))).map I64 ++ r) 3 :: As)) := by
  refine calls Try.func41 rfl Try.ntmps41 rfl ?_
  refine WC.seq ?_
  refine WC.region ?_
  refine WL.val (.assign (.of rfl)) rfl ?_
  refine WL.nil ?_
  refine WC.block ?_
  refine WC.loop (σ := Int × List Int × List Int × List Int × List Int) (fun ⟨i, X1, X2, Y1, Y2⟩ => [(0, .slice (some (ad b0 0)) n c), (1, I64 (U.length : Nat)), (2, I64 (U.length + Y.length + M.length : Nat)), (3, I64 (Y.length : Nat)), (10, I64 i)]) (fun ⟨i, X1, X2, Y1, Y2⟩ w => i = (X1.length : Int) ∧ X1.length = Y1.length ∧ X1 ++ X2 = X ∧ Y1 ++ Y2 = Y ∧ Sat B w I (blk b0 ((U ++ (Y1 ++ (X2 ++ (M ++ (X1 ++ (Y2 ++ C)))))).map I64 ++ r) 3 :: As)) (fun ⟨i, X1, X2, Y1, Y2⟩ => Y2.length) (0, [], X, [], Y) ⟨rfl, rfl, rfl, rfl, rfl, trivial⟩ ⟨rfl, rfl, rfl, rfl, hS⟩ ?_
  rintro ⟨i, X1, X2, Y1, Y2⟩ w ⟨hi, hxy, hX, hY, hS⟩
  change WC _ _ _ _ [(0, .slice (some (ad b0 0)) n c), (1, I64 (U.length : Nat)), (2, I64 (U.length + Y.length + M.length : Nat)), (3, I64 (Y.length : Nat)), (10, I64 i)] w
  have hXl : X1.length + X2.length = X.length := by rw [← hX, List.length_append]
  have hYl : Y1.length + Y2.length = Y.length := by rw [← hY, List.length_append]
  obtain ⟨D, hD⟩ : ∃ D, D = U ++ (Y1 ++ (X2 ++ (M ++ (X1 ++ (Y2 ++ C))))) := ⟨_, rfl⟩
  rw [← hD] at hS
  have hDl : D.length = U.length + (X.length + (M.length + (Y.length + C.length))) := by rw [hD]; simp only [List.length_append]; omega
  refine WC.seq ?_
  refine WC.seq ?_
  refine WC.region ?_
  refine WL.val (.move (.of rfl)) rfl ?_
  refine WL.val (.move (.of rfl)) rfl ?_
  refine WL.val (.lss (.of rfl) (.of rfl)) rfl ?_
  refine WL.nil ?_
  refine WC.cond rfl (fun hb13 => ?_) (fun hb13 => ?_)
  ·
    have hc13 := hb13; try simp only [decide_eq_true_eq, decide_eq_false_iff_not, beq_iff_eq, beq_eq_false_iff_ne, bne_iff_ne, Bool.not_eq_true', Bool.not_eq_false', Bool.or_eq_true, Bool.and_eq_true, Bool.or_eq_false_iff, Bool.and_eq_false_iff, ne_eq, Int.not_lt, Int.not_le, bne_eq_false_iff_eq, Bool.not_eq_true, Bool.not_eq_false] at hc13
    refine WC.skip ?_
    refine WC.seq ?_
    refine WC.block ?_
    refine WC.drawn (fun w => ∃ R, Sat B w I (blk b0 ((D).map I64 ++ r) 3 :: R)) (fun j => !([21, 23].contains j)) (by kernel_rfl) ?_
    replace hS := hS.drew; generalize w.drew = w at hS ⊢
    have hH : ∃ R, Sat B w I (blk b0 ((D).map I64 ++ r) 3 :: R) := ⟨_, (hS.pick 0 rfl)⟩
    refine WD.takeP (i := 0) rfl (by kernel_rfl) (by kernel_rfl) (by kernel_rfl) (fun w => (.move (.of rfl))) rfl ?_
    refine WD.takeP (i := 1) rfl (by kernel_rfl) (by kernel_rfl) (by kernel_rfl) (fun w => (.move (.of rfl))) rfl ?_
    refine WD.takeP (i := 2) rfl (by kernel_rfl) (by kernel_rfl) (by kernel_rfl) (fun w => (.move (.of rfl))) rfl ?_
    refine WD.takeP (i := 3) rfl (by kernel_rfl) (by kernel_rfl) (by kernel_rfl) (fun w => (.add (.of rfl) (.of rfl) ⟨by omega, by omega⟩)) rfl ?_
    refine WD.takeP (i := 4) rfl (by kernel_rfl) (by kernel_rfl) (by kernel_rfl) (fun w => (.move (.of rfl))) rfl ?_
    refine WD.takeP (i := 5) rfl (by kernel_rfl) (by kernel_rfl) (by kernel_rfl) (fun w => (.move (.of rfl))) rfl ?_
    refine WD.takeP (i := 6) rfl (by kernel_rfl) (by kernel_rfl) (by kernel_rfl) (fun w => (.move (.of rfl))) rfl ?_
    refine WD.takeP (i := 7) rfl (by kernel_rfl) (by kernel_rfl) (by kernel_rfl) (fun w => (.add (.of rfl) (.of rfl) ⟨by omega, by omega⟩)) rfl ?_
    refine WD.takeP (i := 8) rfl (by kernel_rfl) (by kernel_rfl) (by kernel_rfl) (fun w => (.move (.of rfl))) rfl ?_
    refine WD.takeP (i := 9) rfl (by kernel_rfl) (by kernel_rfl) (by kernel_rfl) (fun w => (.move (.of rfl))) rfl ?_
    refine WD.takeP (i := 10) rfl (by kernel_rfl) (by kernel_rfl) (by kernel_rfl) (fun w => (.move (.of rfl))) rfl ?_
    refine WD.takeP (i := 11) rfl (by kernel_rfl) (by kernel_rfl) (by kernel_rfl) (fun w => (.add (.of rfl) (.of rfl) ⟨by omega, by omega⟩)) rfl ?_
    refine WD.takeP (i := 12) rfl (by kernel_rfl) (by kernel_rfl) (by kernel_rfl) (fun w => (by first | exact .indexAddr (.of rfl) (.of rfl) (by omega) (by omega) Try.underlying28 Try.sizeOf3 | exact .indexAddrI (.of rfl) (.of rfl) (by omega) (by omega) Try.underlying28 Try.sizeOf3)) rfl ?_
    refine WD.take (i := 13) rfl (by kernel_rfl) (by kernel_rfl) (by kernel_rfl) (by kernel_rfl) hH (fun w ⟨R, hS⟩ => .ldE I64 D 0 r (i := ((U.length + Y.length + M.length : Nat) : Int) + i) (.of rfl) hS (k := 0) rfl rfl Try.isAgg3 (by omega) (by omega)) rfl ?_
    refine WD.takeP (i := 14) rfl (by kernel_rfl) (by kernel_rfl) (by kernel_rfl) (fun w => (.move (.of rfl))) rfl ?_
    refine WD.takeP (i := 15) rfl (by kernel_rfl) (by kernel_rfl) (by kernel_rfl) (fun w => (.move (.of rfl))) rfl ?_
    refine WD.takeP (i := 16) rfl (by kernel_rfl) (by kernel_rfl) (by kernel_rfl) (fun w => (.move (.of rfl))) rfl ?_
    refine WD.takeP (i := 17) rfl (by kernel_rfl) (by kernel_rfl) (by kernel_rfl) (fun w => (.add (.of rfl) (.of rfl) ⟨by omega, by omega⟩)) rfl ?_
    refine WD.takeP (i := 18) rfl (by kernel_rfl) (by kernel_rfl) (by kernel_rfl) (fun w => (by first | exact .indexAddr (.of rfl) (.of rfl) (by omega) (by omega) Try.underlying28 Try.sizeOf3 | exact .indexAddrI (.of rfl) (.of rfl) (by omega) (by omega) Try.underlying28 Try.sizeOf3)) rfl ?_
    refine WD.take (i := 19) rfl (by kernel_rfl) (by kernel_rfl) (by kernel_rfl) (by kernel_rfl) hH (fun w ⟨R, hS⟩ => .ldE I64 D 0 r (i := ((U.length : Nat) : Int) + i) (.of rfl) hS (k := 0) rfl rfl Try.isAgg3 (by omega) (by omega)) rfl ?_
    refine WD.takeP (i := 20) rfl (by kernel_rfl) (by kernel_rfl) (by kernel_rfl) (fun w => (by first | exact .indexAddr (.of rfl) (.of rfl) (by omega) (by omega) Try.underlying28 Try.sizeOf3 | exact .indexAddrI (.of rfl) (.of rfl) (by omega) (by omega) Try.underlying28 Try.sizeOf3)) rfl ?_
    refine WD.branch [21] (by kernel_rfl) rfl (WO.cons rfl ?_ (WO.nil))
    refine WL.stE I64 _ r hS (k := 0) rfl (.of rfl) (.of rfl) rfl rfl Try.sizeOf3 (by omega) (by (try rw [List.length_set]); omega) ?_
    clear hS; intro w hS; dsimp only [List.set] at hS
    refine WL.nil ?_
    refine And.intro (by intro h; cases h) ?_
    refine WD.takeP (i := 22) rfl (by kernel_rfl) (by kernel_rfl) (by kernel_rfl) (fun w => (by first | exact .indexAddr (.of rfl) (.of rfl) (by omega) (by omega) Try.underlying28 Try.sizeOf3 | exact .indexAddrI (.of rfl) (.of rfl) (by omega) (by omega) Try.underlying28 Try.sizeOf3)) rfl ?_
    refine WD.branch [23] (by kernel_rfl) rfl (WO.cons rfl ?_ (WO.nil))
    refine WL.stE I64 _ r hS (k := 0) rfl (.of rfl) (.of rfl) rfl rfl Try.sizeOf3 (by omega) (by (try rw [List.length_set]); omega) ?_
    clear hS; intro w hS; dsimp only [List.set] at hS
    refine WL.nil ?_
    refine And.intro (by intro h; cases h) ?_
    refine WD.done (by kernel_rfl) ?_
    refine WC.region ?_
    refine WL.val (.move (.of rfl)) rfl ?_
    refine WL.val (.add (.of rfl) (.of rfl) ⟨by omega, by omega⟩) rfl ?_
    refine WL.val (.assign (.of rfl)) rfl ?_
    refine WL.nil ?_
    obtain ⟨p, X3, rfl⟩ : ∃ p X3, X2 = p :: X3 := by cases X2 with | nil => simp at hXl; omega | cons p X3 => exact ⟨p, X3, rfl⟩
    obtain ⟨q, Y3, rfl⟩ : ∃ q Y3, Y2 = q :: Y3 := by cases Y2 with | nil => simp at hYl; omega | cons q Y3 => exact ⟨q, Y3, rfl⟩
    have e := Srt.swp_eq (U ++ Y1) (X3 ++ (M ++ X1)) (Y3 ++ C) p q
    have e1 : D = (U ++ Y1) ++ p :: ((X3 ++ (M ++ X1)) ++ q :: (Y3 ++ C)) := by rw [hD]; simp only [List.append_assoc, List.cons_append]
    simp only [List.length_cons] at hXl hYl
    rw [← e1, show (U ++ Y1).length = (((U.length : Nat) : Int) + i).toNat by rw [List.length_append]; omega, show (((U.length : Nat) : Int) + i).toNat + 1 + (X3 ++ (M ++ X1)).length = (((U.length + Y.length + M.length : Nat) : Int) + i).toNat by simp only [List.length_append]; omega] at e
    unfold Srt.swp at e
    rw [e] at hS
    refine ⟨(i + 1, X1 ++ [p], X3, Y1 ++ [q], Y3), ⟨rfl, rfl, rfl, rfl, rfl, trivial⟩, ⟨by simp only [List.length_append, List.length_cons, List.length_nil]; omega, by simp only [List.length_append, List.length_cons, List.length_nil]; omega, by rw [← hX]; simp, by rw [← hY]; simp, ?_⟩, by simp⟩
    have e2 : (U ++ Y1) ++ q :: ((X3 ++ (M ++ X1)) ++ p :: (Y3 ++ C)) = U ++ ((Y1 ++ [q]) ++ (X3 ++ (M ++ ((X1 ++ [p]) ++ (Y3 ++ C))))) := by simp only [List.append_assoc, List.cons_append, List.nil_append]
    rw [← e2]; exact hS
  ·
    have hc13 := hb13; try simp only [decide_eq_true_eq, decide_eq_false_iff_not, beq_iff_eq, beq_eq_false_iff_ne, bne_iff_ne, Bool.not_eq_true', Bool.not_eq_false', Bool.or_eq_true, Bool.and_eq_true, Bool.or_eq_false_iff, Bool.and_eq_false_iff, ne_eq, Int.not_lt, Int.not_le, bne_eq_false_iff_eq, Bool.not_eq_true, Bool.not_eq_false] at hc13
    refine WC.exit ?_
    refine end0 Try.results41 ?_
    have hY2 : Y2 = [] := List.eq_nil_of_length_eq_zero (by omega)
    have hX2 : X2 = [] := List.eq_nil_of_length_eq_zero (by omega)
    subst hY2; subst hX2
    rw [List.append_nil] at hX hY
    rw [hX, hY] at hD
    rw [hD] at hS
    exact ⟨_, rfl, rfl, hS⟩
theorem swapRange_at (U X M Y C : List Int) (hl : X.length = Y.length) (cv : Value) (b0 n c : Nat) (r : List Value) (ia ib ic : Int) (ha : ia = U.length) (hib : ib = U.length + Y.length + M.length) (hic : ic = Y.length) (hn : ((U.length + (X.length + (M.length + Y.length)) : Nat) : Int) ≤ n) (hb : (U.length + (X.length + (M.length + (Y.length + C.length)))) ≤ 1000000) (B w : World) (I : Im) (As : List Assn) (hS : Sat B w I (blk b0 ((U ++ (X ++ (M ++ (Y ++ C)))).map I64 ++ r) 3 :: As)) :
    Calls Try.prog 41 [.slice (some (ad b0 0)) n c, I64 ia, I64 ib, I64 ic, cv].toArray w (Ret fun v w' => v = .tuple #[] ∧ Sat B w' I (blk b0 ((U ++ (Y ++ (M ++ (X ++ C)))).map I64 ++ r) 3 :: As)) := by
  subst ha; subst hic
  obtain rfl : ib = ((U.length + Y.length + M.length : Nat) : Int) := by omega
  exact swapRange_any U X M Y C hl cv b0 n c r hn hb B w I As hS
end Go.Proofs.Ytfmdhpgfbojjaaa
