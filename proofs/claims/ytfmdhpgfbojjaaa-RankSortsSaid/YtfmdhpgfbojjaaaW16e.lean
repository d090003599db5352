/- Chapter 16: rotations, and symmetric merging. -/
import Derived.Test.YtfmdhpgfbojjaaaW16d
namespace Go.Proofs.Ytfmdhpgfbojjaaa
open Gk Rk
set_option linter.unusedVariables false
set_option linter.unusedSimpArgs false

theorem rot_any (F X Y C : List Int) (hX0 : 0 < X.length) (hY0 : 0 < Y.length) (cv : Value) (b0 n c : Nat) (r : List Value) (ia im ib : Int) (hia : ia = F.length) (him : im = F.length + X.length) (hib : ib = F.length + X.length + Y.length) (hn : ib ≤ n) (hbb : F.length + (X.length + (Y.length + C.length)) ≤ 1000000) (B w : World) (I : Im) (As : List Assn) (hS : Sat B w I (blk b0 ((F ++ (X ++ (Y ++ C))).map I64 ++ r) 3 :: As)) :
    Calls Try.prog 38 [.slice (some (ad b0 0)) n c, I64 ia, I64 im, I64 ib, cv].toArray w (Ret fun v w' => v = .tuple #[] ∧ Sat B w' I (blk b0 ((F ++ (Y ++ (X ++ C))).map I64 ++ r) 3 :: As)) := by
  refine calls Try.func38 rfl Try.ntmps38 rfl ?_
  refine WC.seq ?_
  refine WC.region ?_
  refine WL.val (.move (.of rfl)) rfl ?_
  refine WL.val (.move (.of rfl)) rfl ?_
  refine WL.val (.sub (.of rfl) (.of rfl) ⟨by omega, by omega⟩) rfl ?_
  refine WL.val (.assign (.of rfl)) rfl ?_
  refine WL.nil ?_
  refine WC.seq ?_
  refine WC.region ?_
  refine WL.val (.move (.of rfl)) rfl ?_
  refine WL.val (.move (.of rfl)) rfl ?_
  refine WL.val (.sub (.of rfl) (.of rfl) ⟨by omega, by omega⟩) rfl ?_
  refine WL.val (.assign (.of rfl)) rfl ?_
  refine WL.nil ?_
  refine WC.seq ?_
  refine WC.block ?_
  refine WC.loop (σ := Int × Int × List Int × List Int × List Int × List Int) (fun ⟨i, j, F1, X1, Y1, C1⟩ => [(0, .slice (some (ad b0 0)) n c), (2, I64 im), (4, cv), (10, I64 i), (11, I64 j)]) (fun ⟨i, j, F1, X1, Y1, C1⟩ w => F1 ++ (Y1 ++ (X1 ++ C1)) = F ++ (Y ++ (X ++ C)) ∧ i = X1.length ∧ j = Y1.length ∧ 0 < X1.length ∧ 0 < Y1.length ∧ F1.length + X1.length = F.length + X.length ∧ X1.length + Y1.length ≤ X.length + Y.length ∧ Y1.length ≤ Y.length ∧ Sat B w I (blk b0 ((F1 ++ (X1 ++ (Y1 ++ C1))).map I64 ++ r) 3 :: As)) (fun ⟨i, j, F1, X1, Y1, C1⟩ => X1.length + Y1.length) (im - ia, ib - im, F, X, Y, C) ⟨rfl, rfl, rfl, rfl, rfl, trivial⟩ ⟨rfl, by (try dsimp only); omega, by (try dsimp only); omega, hX0, hY0, rfl, Nat.le_refl _, Nat.le_refl _, hS⟩ ?_
  rintro ⟨i, j, F1, X1, Y1, C1⟩ w ⟨hG, hi, hj, hx0, hy0, hFX, hXY, hYY, hS⟩
  change WC _ _ _ _ [(0, .slice (some (ad b0 0)) n c), (2, I64 im), (4, cv), (10, I64 i), (11, I64 j)] w
  have hGl := congrArg List.length hG
  simp only [List.length_append] at hGl
  refine WC.seq ?_
  refine WC.seq ?_
  refine WC.region ?_
  refine WL.val (.move (.of rfl)) rfl ?_
  refine WL.val (.move (.of rfl)) rfl ?_
  refine WL.val (.neq (.of rfl) (.of rfl)) rfl ?_
  refine WL.nil ?_
  refine WC.cond rfl (fun hb20 => ?_) (fun hb20 => ?_)
  ·
    have hc20 := hb20; try simp only [decide_eq_true_eq, decide_eq_false_iff_not, beq_iff_eq, beq_eq_false_iff_ne, bne_iff_ne, Bool.not_eq_true', Bool.not_eq_false', Bool.or_eq_true, Bool.and_eq_true, Bool.or_eq_false_iff, Bool.and_eq_false_iff, ne_eq, Int.not_lt, Int.not_le, bne_eq_false_iff_eq, Bool.not_eq_true, Bool.not_eq_false] at hc20
    refine WC.skip ?_
    refine WC.block ?_
    refine WC.seq ?_
    refine WC.region ?_
    refine WL.val (.move (.of rfl)) rfl ?_
    refine WL.val (.move (.of rfl)) rfl ?_
    refine WL.val (.gtr (.of rfl) (.of rfl)) rfl ?_
    refine WL.nil ?_
    refine WC.cond rfl (fun hb23 => ?_) (fun hb23 => ?_)
    ·
      have hc23 := hb23; try simp only [decide_eq_true_eq, decide_eq_false_iff_not, beq_iff_eq, beq_eq_false_iff_ne, bne_iff_ne, Bool.not_eq_true', Bool.not_eq_false', Bool.or_eq_true, Bool.and_eq_true, Bool.or_eq_false_iff, Bool.and_eq_false_iff, ne_eq, Int.not_lt, Int.not_le, bne_eq_false_iff_eq, Bool.not_eq_true, Bool.not_eq_false] at hc23
      refine WC.seq ?_
      refine WC.region ?_
      refine WL.val (.move (.of rfl)) rfl ?_
      refine WL.val (.move (.of rfl)) rfl ?_
      refine WL.val (.move (.of rfl)) rfl ?_
      refine WL.val (.sub (.of rfl) (.of rfl) ⟨by omega, by omega⟩) rfl ?_
      refine WL.val (.move (.of rfl)) rfl ?_
      refine WL.val (.move (.of rfl)) rfl ?_
      refine WL.val (.move (.of rfl)) rfl ?_
      obtain ⟨Xa, Xb, rfl, hXa⟩ : ∃ Xa Xb, X1 = Xa ++ Xb ∧ Xa.length = Y1.length := ⟨X1.take Y1.length, X1.drop Y1.length, (List.take_append_drop _ _).symm, by rw [List.length_take]; omega⟩
      simp only [List.length_append] at hi hx0 hFX hXY hGl
      rw [List.append_assoc] at hS
      refine WL.call Try.func41 rfl (evs_cons (.of rfl) (evs_cons (.of rfl) (evs_cons (.of rfl) (evs_cons (.of rfl) (evs_cons (.of rfl) evs_nil))))) rfl (swapRange_at F1 Xa Xb Y1 C1 (by omega) cv b0 n c r _ _ _ (by omega) (by omega) (by omega) (by omega) (by omega) B w I As hS) ?_
      clear hS
      rintro _ w ⟨rfl, hS⟩
      refine WL.nil ?_
      refine WC.region ?_
      refine WL.val (.move (.of rfl)) rfl ?_
      refine WL.val (.move (.of rfl)) rfl ?_
      refine WL.val (.sub (.of rfl) (.of rfl) ⟨by omega, by omega⟩) rfl ?_
      refine WL.val (.assign (.of rfl)) rfl ?_
      refine WL.nil ?_
      refine ⟨(i - j, j, F1 ++ Y1, Xb, Xa, C1), ⟨rfl, rfl, rfl, rfl, rfl, trivial⟩, ⟨by rw [← hG]; simp only [List.append_assoc], by (try dsimp only); omega, by (try dsimp only); omega, by omega, by omega, by simp only [List.length_append]; omega, by omega, by omega, ?_⟩, by (try dsimp only); simp only [List.length_append]; omega⟩
      rw [List.append_assoc]; exact hS
    ·
      have hc23 := hb23; try simp only [decide_eq_true_eq, decide_eq_false_iff_not, beq_iff_eq, beq_eq_false_iff_ne, bne_iff_ne, Bool.not_eq_true', Bool.not_eq_false', Bool.or_eq_true, Bool.and_eq_true, Bool.or_eq_false_iff, Bool.and_eq_false_iff, ne_eq, Int.not_lt, Int.not_le, bne_eq_false_iff_eq, Bool.not_eq_true, Bool.not_eq_false] at hc23
      refine WC.seq ?_
      refine WC.region ?_
      refine WL.val (.move (.of rfl)) rfl ?_
      refine WL.val (.move (.of rfl)) rfl ?_
      refine WL.val (.move (.of rfl)) rfl ?_
      refine WL.val (.sub (.of rfl) (.of rfl) ⟨by omega, by omega⟩) rfl ?_
      refine WL.val (.move (.of rfl)) rfl ?_
      refine WL.val (.move (.of rfl)) rfl ?_
      refine WL.val (.add (.of rfl) (.of rfl) ⟨by omega, by omega⟩) rfl ?_
      refine WL.val (.move (.of rfl)) rfl ?_
      refine WL.val (.sub (.of rfl) (.of rfl) ⟨by omega, by omega⟩) rfl ?_
      refine WL.val (.move (.of rfl)) rfl ?_
      refine WL.val (.move (.of rfl)) rfl ?_
      obtain ⟨Ya, Yb, rfl, hYb⟩ : ∃ Ya Yb, Y1 = Ya ++ Yb ∧ Yb.length = X1.length := ⟨Y1.take (Y1.length - X1.length), Y1.drop (Y1.length - X1.length), (List.take_append_drop _ _).symm, by rw [List.length_drop]; omega⟩
      simp only [List.length_append] at hj hy0 hXY hGl hYY
      rw [List.append_assoc Ya] at hS
      refine WL.call Try.func41 rfl (evs_cons (.of rfl) (evs_cons (.of rfl) (evs_cons (.of rfl) (evs_cons (.of rfl) (evs_cons (.of rfl) evs_nil))))) rfl (swapRange_at F1 X1 Ya Yb C1 (by omega) cv b0 n c r _ _ _ (by omega) (by omega) (by omega) (by omega) (by omega) B w I As hS) ?_
      clear hS
      rintro _ w ⟨rfl, hS⟩
      refine WL.nil ?_
      refine WC.region ?_
      refine WL.val (.move (.of rfl)) rfl ?_
      refine WL.val (.move (.of rfl)) rfl ?_
      refine WL.val (.sub (.of rfl) (.of rfl) ⟨by omega, by omega⟩) rfl ?_
      refine WL.val (.assign (.of rfl)) rfl ?_
      refine WL.nil ?_
      refine ⟨(i, j - i, F1, Yb, Ya, X1 ++ C1), ⟨rfl, rfl, rfl, rfl, rfl, trivial⟩, ⟨by rw [← hG]; simp only [List.append_assoc], by (try dsimp only); omega, by (try dsimp only); omega, by omega, by omega, by omega, by omega, by omega, hS⟩, by (try dsimp only); simp only [List.length_append]; omega⟩
  ·
    have hc20 := hb20; try simp only [decide_eq_true_eq, decide_eq_false_iff_not, beq_iff_eq, beq_eq_false_iff_ne, bne_iff_ne, Bool.not_eq_true', Bool.not_eq_false', Bool.or_eq_true, Bool.and_eq_true, Bool.or_eq_false_iff, Bool.and_eq_false_iff, ne_eq, Int.not_lt, Int.not_le, bne_eq_false_iff_eq, Bool.not_eq_true, Bool.not_eq_false] at hc20
    refine WC.exit ?_
    refine WC.region ?_
    refine WL.val (.move (.of rfl)) rfl ?_
    refine WL.val (.move (.of rfl)) rfl ?_
    refine WL.val (.move (.of rfl)) rfl ?_
    refine WL.val (.sub (.of rfl) (.of rfl) ⟨by omega, by omega⟩) rfl ?_
    refine WL.val (.move (.of rfl)) rfl ?_
    refine WL.val (.move (.of rfl)) rfl ?_
    refine WL.val (.move (.of rfl)) rfl ?_
    refine WL.call Try.func41 rfl (evs_cons (.of rfl) (evs_cons (.of rfl) (evs_cons (.of rfl) (evs_cons (.of rfl) (evs_cons (.of rfl) evs_nil))))) rfl (swapRange_at F1 X1 [] Y1 C1 (by omega) cv b0 n c r _ _ _ (by omega) (by simp only [List.length_nil]; omega) (by omega) (by simp only [List.length_nil]; omega) (by simp only [List.length_nil]; omega) B w I As hS) ?_
    clear hS
    rintro _ w ⟨rfl, hS⟩
    refine WL.nil ?_
    refine end0 Try.results38 ?_
    rw [List.nil_append, hG] at hS
    exact ⟨_, rfl, rfl, hS⟩
set_option maxHeartbeats 1000000 in
theorem sym_any {l : List Nat} {p : Addr} {I : Im} (hx : Cx I l p) : ∀ (N : Nat) (F U V C : List Int), Srt.So (kx l) U → Srt.So (kx l) V → Srt.cross U V → (∀ x ∈ U ++ V, 0 ≤ x ∧ x < (l.length : Int)) → 0 < U.length → 0 < V.length → U.length + V.length ≤ N →
    ∀ (b0 n c : Nat) (r : List Value) (ia im ib : Int), ia = F.length → im = F.length + U.length → ib = F.length + U.length + V.length → ib ≤ n → F.length + (U.length + (V.length + C.length)) ≤ 1000000 → ∀ (B w : World) (As : List Assn), Sat B w I (blk b0 ((F ++ (U ++ (V ++ C))).map I64 ++ r) 3 :: As) →
    Calls Try.prog 36 [.slice (some (ad b0 0)) n c, I64 ia, I64 im, I64 ib, CF p].toArray w (Ret fun v w' => v = .tuple #[] ∧ ∃ M, M.Perm (U ++ V) ∧ Srt.So (kx l) M ∧ Sat B w' I (blk b0 ((F ++ (M ++ C)).map I64 ++ r) 3 :: As)) := by
  intro N
  induction N with
  | zero => intros; omega
  | succ N ih =>
    intro F U V C hU hV hc hin hU0 hV0 hN b0 n c r ia im ib hia him hib hn hbb B w As hS
    refine calls Try.func36 rfl Try.ntmps36 rfl ?_
    refine WC.seq ?_
    refine WC.seq ?_
    have hUV : ∀ v ∈ U ++ V, 0 ≤ v ∧ v < (l.length : Int) := hin
    obtain ⟨D, hD⟩ : ∃ D, D = F ++ (U ++ (V ++ C)) := ⟨_, rfl⟩
    rw [← hD] at hS
    have hDl : D.length = F.length + (U.length + (V.length + C.length)) := by rw [hD]; simp only [List.length_append]
    have hin2 : ∀ q : Nat, F.length ≤ q → q < F.length + (U.length + V.length) → 0 ≤ D.getD q 0 ∧ D.getD q 0 < (l.length : Int) := fun q h1 h2 => by
      refine hUV _ ?_
      have e : D = F ++ ((U ++ V) ++ C) := by rw [hD]; simp only [List.append_assoc]
      rw [e]
      exact Srt.get_mid h1 (by rw [List.length_append]; exact h2)
    have hDU : ∀ q : Nat, q < U.length → D.getD (F.length + q) 0 = U.getD q 0 := fun q hq => by
      rw [hD, Srt.get_app2 (by omega), show F.length + q - F.length = q by omega, Srt.get_app1 hq]
    have hDV : ∀ q : Nat, q < V.length → D.getD (F.length + U.length + q) 0 = V.getD q 0 := fun q hq => by
      rw [hD, Srt.get_app2 (by omega), Srt.get_app2 (by omega), show F.length + U.length + q - F.length - U.length = q by omega, Srt.get_app1 hq]
    refine WC.region ?_
    refine WL.val (.move (.of rfl)) rfl ?_
    refine WL.val (.move (.of rfl)) rfl ?_
    refine WL.val (.sub (.of rfl) (.of rfl) ⟨by omega, by omega⟩) rfl ?_
    refine WL.val (.eql (.of rfl) (.of rfl)) rfl ?_
    refine WL.nil ?_
    refine WC.cond rfl (fun hb28 => ?_) (fun hb28 => ?_)
    ·
      have hc28 := hb28; try simp only [decide_eq_true_eq, decide_eq_false_iff_not, beq_iff_eq, beq_eq_false_iff_ne, bne_iff_ne, Bool.not_eq_true', Bool.not_eq_false', Bool.or_eq_true, Bool.and_eq_true, Bool.or_eq_false_iff, Bool.and_eq_false_iff, ne_eq, Int.not_lt, Int.not_le, bne_eq_false_iff_eq, Bool.not_eq_true, Bool.not_eq_false] at hc28
      refine WC.seq ?_
      obtain ⟨x, U0, rfl⟩ := Srt.cons_of hU0
      obtain rfl : U0 = [] := List.eq_nil_of_length_eq_zero (by simp only [List.length_cons] at him; omega)
      have hDx : D.getD ia.toNat 0 = x := by have := hDU 0 (by simp); rw [show ia.toNat = F.length + 0 by omega]; simpa using this
      simp only [List.length_cons, List.length_nil] at him hib hbb hDl hin2 hDV
      refine WC.region ?_
      refine WL.val (.move (.of rfl)) rfl ?_
      refine WL.val (.assign (.of rfl)) rfl ?_
      refine WL.nil ?_
      refine WC.seq ?_
      refine WC.region ?_
      refine WL.val (.move (.of rfl)) rfl ?_
      refine WL.val (.assign (.of rfl)) rfl ?_
      refine WL.nil ?_
      refine WC.seq ?_
      refine WC.block ?_
      refine WC.loop (σ := Int × Int) (fun ⟨i, j⟩ => [(0, .slice (some (ad b0 0)) n c), (1, I64 ia), (2, I64 im), (3, I64 ib), (4, CF p), (10, I64 i), (11, I64 j)]) (fun ⟨i, j⟩ w => im ≤ i ∧ i ≤ j ∧ j ≤ ib ∧ (i = im ∨ kx l (D.getD (i - 1).toNat 0) < kx l x) ∧ (j = ib ∨ ¬ kx l (D.getD j.toNat 0) < kx l x) ∧ Sat B w I (blk b0 ((D).map I64 ++ r) 3 :: As)) (fun ⟨i, j⟩ => (j - i).toNat) (im, ib) ⟨rfl, rfl, rfl, rfl, rfl, rfl, rfl, trivial⟩ ⟨Int.le_refl _, by (try dsimp only); omega, Int.le_refl _, .inl rfl, .inl rfl, hS⟩ ?_
      rintro ⟨i, j⟩ w ⟨hi1, hij, hj1, hb1, hb2, hS⟩
      change WC _ _ _ _ [(0, .slice (some (ad b0 0)) n c), (1, I64 ia), (2, I64 im), (3, I64 ib), (4, CF p), (10, I64 i), (11, I64 j)] w
      refine WC.seq ?_
      refine WC.seq ?_
      refine WC.region ?_
      refine WL.val (.move (.of rfl)) rfl ?_
      refine WL.val (.move (.of rfl)) rfl ?_
      refine WL.val (.lss (.of rfl) (.of rfl)) rfl ?_
      refine WL.nil ?_
      refine WC.cond rfl (fun hb33 => ?_) (fun hb33 => ?_)
      ·
        have hc33 := hb33; try simp only [decide_eq_true_eq, decide_eq_false_iff_not, beq_iff_eq, beq_eq_false_iff_ne, bne_iff_ne, Bool.not_eq_true', Bool.not_eq_false', Bool.or_eq_true, Bool.and_eq_true, Bool.or_eq_false_iff, Bool.and_eq_false_iff, ne_eq, Int.not_lt, Int.not_le, bne_eq_false_iff_eq, Bool.not_eq_true, Bool.not_eq_false] at hc33
        refine WC.skip ?_
        refine WC.block ?_
        refine WC.seq ?_
        refine WC.region ?_
        refine WL.val (.move (.of rfl)) rfl ?_
        refine WL.val (.move (.of rfl)) rfl ?_
        refine WL.val (.add (.of rfl) (.of rfl) ⟨by omega, by omega⟩) rfl ?_
        refine WL.val (.cvi (.of rfl) Try.underlying3 Try.underlying50 (by rw [IntKind.wrap_u64]; omega)) rfl ?_
        refine WL.val (.shr1 (.of rfl) (.of rfl) (by decide)) rfl ?_
        refine WL.val (.cvi (.of rfl) Try.underlying50 Try.underlying3 (by rw [IntKind.wrap_i64]; omega)) rfl ?_
        refine WL.val (.assign (.of rfl)) rfl ?_
        refine WL.nil ?_
        refine WC.seq ?_
        refine WC.quiet (by kernel_rfl) (by kernel_rfl) hS ?_
        refine WQ.val (fun w hS => (.move (.of rfl))) rfl ?_
        refine WQ.val (fun w hS => (.move (.of rfl))) rfl ?_
        refine WQ.val (fun w hS => (.move (.of rfl))) rfl ?_
        refine WQ.val (fun w hS => (by first | exact .indexAddr (.of rfl) (.of rfl) (by omega) (by omega) Try.underlying28 Try.sizeOf3 | exact .indexAddrI (.of rfl) (.of rfl) (by omega) (by omega) Try.underlying28 Try.sizeOf3)) rfl ?_
        refine WQ.val (fun w hS => .ldE I64 D 0 r (i := ((i + j) / 2)) (.of rfl) hS (k := 0) rfl rfl Try.isAgg3 (by omega) (by omega)) rfl ?_
        refine WQ.val (fun w hS => (.move (.of rfl))) rfl ?_
        refine WQ.val (fun w hS => (.move (.of rfl))) rfl ?_
        refine WQ.val (fun w hS => (by first | exact .indexAddr (.of rfl) (.of rfl) (by omega) (by omega) Try.underlying28 Try.sizeOf3 | exact .indexAddrI (.of rfl) (.of rfl) (by omega) (by omega) Try.underlying28 Try.sizeOf3)) rfl ?_
        refine WQ.val (fun w hS => .ldE I64 D 0 r (i := ia) (.of rfl) hS (k := 0) rfl rfl Try.isAgg3 (by omega) (by omega)) rfl ?_
        refine WQ.vcall Try.func25 rfl (.of rfl) (evs_cons (.of rfl) (evs_cons (.of rfl) evs_nil)) rfl (fun w hS => by have hj1 := hin2 (((i + j) / 2)).toNat (by omega) (by omega); have hj2 := hin2 (ia).toNat (by omega) (by omega); exact cmp_any hx _ _ hj1.1 hj1.2 hj2.1 hj2.2 B w _ hS) ?_
        refine WQ.val (fun w hS => (.lss (.of rfl) (.of rfl))) rfl ?_
        refine WQ.nil ?_
        clear hS; intro w hS
        refine WC.cond rfl (fun hb50 => ?_) (fun hb50 => ?_)
        ·
          have hc50 := hb50; try simp only [decide_eq_true_eq, decide_eq_false_iff_not, beq_iff_eq, beq_eq_false_iff_ne, bne_iff_ne, Bool.not_eq_true', Bool.not_eq_false', Bool.or_eq_true, Bool.and_eq_true, Bool.or_eq_false_iff, Bool.and_eq_false_iff, ne_eq, Int.not_lt, Int.not_le, bne_eq_false_iff_eq, Bool.not_eq_true, Bool.not_eq_false] at hc50
          refine WC.region ?_
          refine WL.val (.move (.of rfl)) rfl ?_
          refine WL.val (.add (.of rfl) (.of rfl) ⟨by omega, by omega⟩) rfl ?_
          refine WL.val (.assign (.of rfl)) rfl ?_
          refine WL.nil ?_
          have h9 := Srt.cmpv_neg.1 hc50
          rw [hDx] at h9
          exact ⟨((i + j) / 2 + 1, j), ⟨rfl, rfl, rfl, rfl, rfl, rfl, rfl, trivial⟩, ⟨by (try dsimp only); omega, by (try dsimp only); omega, hj1, .inr (by (try dsimp only); rw [show (i + j) / 2 + 1 - 1 = (i + j) / 2 by omega]; exact h9), hb2, hS⟩, by (try dsimp only); omega⟩
        ·
          have hc50 := hb50; try simp only [decide_eq_true_eq, decide_eq_false_iff_not, beq_iff_eq, beq_eq_false_iff_ne, bne_iff_ne, Bool.not_eq_true', Bool.not_eq_false', Bool.or_eq_true, Bool.and_eq_true, Bool.or_eq_false_iff, Bool.and_eq_false_iff, ne_eq, Int.not_lt, Int.not_le, bne_eq_false_iff_eq, Bool.not_eq_true, Bool.not_eq_false] at hc50
          refine WC.region ?_
          refine WL.val (.move (.of rfl)) rfl ?_
          refine WL.val (.assign (.of rfl)) rfl ?_
          refine WL.nil ?_
          have h9 : ¬ _ := fun h => (Int.not_lt.2 hc50) (Srt.cmpv_neg.2 h)
          rw [hDx] at h9
          exact ⟨(i, (i + j) / 2), ⟨rfl, rfl, rfl, rfl, rfl, rfl, rfl, trivial⟩, ⟨hi1, by (try dsimp only); omega, by (try dsimp only); omega, hb1, .inr h9, hS⟩, by (try dsimp only); omega⟩
      ·
        have hc33 := hb33; try simp only [decide_eq_true_eq, decide_eq_false_iff_not, beq_iff_eq, beq_eq_false_iff_ne, bne_iff_ne, Bool.not_eq_true', Bool.not_eq_false', Bool.or_eq_true, Bool.and_eq_true, Bool.or_eq_false_iff, Bool.and_eq_false_iff, ne_eq, Int.not_lt, Int.not_le, bne_eq_false_iff_eq, Bool.not_eq_true, Bool.not_eq_false] at hc33
        refine WC.exit ?_
        refine WC.seq ?_
        refine WC.seq ?_
        have hij : i = j := by omega
        subst hij
        have hiV : (i - im).toNat ≤ V.length := by omega
        have hso : Srt.So (kx l) (V.take (i - im).toNat ++ x :: V.drop (i - im).toNat) := by
          refine Srt.so_left hV (fun v hv => hc x (by simp) v hv) hiV ?_ ?_
          · by_cases hz : i = im
            · exact .inl (by omega)
            · refine .inr ?_
              have h := hb1.resolve_left hz
              rw [← hDV ((i - im).toNat - 1) (by omega), show F.length + (0 + 1) + ((i - im).toNat - 1) = (i - 1).toNat by omega]
              exact h
          · by_cases hz : i = ib
            · exact .inl (by omega)
            · refine .inr ?_
              have h := hb2.resolve_left hz
              rw [← hDV (i - im).toNat (by omega), show F.length + (0 + 1) + (i - im).toNat = i.toNat by omega]
              exact h
        obtain ⟨Va, Vb, hVab, hVal, hso2⟩ : ∃ Va Vb, V = Va ++ Vb ∧ (Va.length : Int) = i - im ∧ Srt.So (kx l) (Va ++ x :: Vb) := ⟨_, _, (List.take_append_drop (i - im).toNat V).symm, by rw [List.length_take]; omega, hso⟩
        refine WC.region ?_
        refine WL.val (.move (.of rfl)) rfl ?_
        refine WL.val (.assign (.of rfl)) rfl ?_
        refine WL.nil ?_
        refine WC.block ?_
        refine WC.loop (σ := Int × List Int × List Int) (fun ⟨k, Vc, Vd⟩ => [(0, .slice (some (ad b0 0)) n c), (10, I64 i), (13, I64 k)]) (fun ⟨k, Vc, Vd⟩ w => k = (F.length : Int) + Vc.length ∧ Vc ++ Vd = Va ∧ Sat B w I (blk b0 ((F ++ (Vc ++ x :: (Vd ++ (Vb ++ C)))).map I64 ++ r) 3 :: As)) (fun ⟨k, Vc, Vd⟩ => Vd.length) (ia, [], Va) ⟨rfl, rfl, rfl, trivial⟩ ⟨by simp only [List.length_nil]; omega, rfl, by rw [hD, hVab] at hS; simpa using hS⟩ ?_
        rintro ⟨k, Vc, Vd⟩ w ⟨hk, hcd, hS⟩
        change WC _ _ _ _ [(0, .slice (some (ad b0 0)) n c), (10, I64 i), (13, I64 k)] w
        have hcl := congrArg List.length hcd
        rw [List.length_append] at hcl
        have hVl := congrArg List.length hVab
        rw [List.length_append] at hVl
        obtain ⟨E, hE⟩ : ∃ E, E = F ++ (Vc ++ x :: (Vd ++ (Vb ++ C))) := ⟨_, rfl⟩
        rw [← hE] at hS
        have hEl : E.length = F.length + (Vc.length + 1 + Vd.length + (Vb.length + C.length)) := by rw [hE]; simp only [List.length_append, List.length_cons]; omega
        refine WC.seq ?_
        refine WC.seq ?_
        refine WC.region ?_
        refine WL.val (.move (.of rfl)) rfl ?_
        refine WL.val (.move (.of rfl)) rfl ?_
        refine WL.val (.sub (.of rfl) (.of rfl) ⟨by omega, by omega⟩) rfl ?_
        refine WL.val (.lss (.of rfl) (.of rfl)) rfl ?_
        refine WL.nil ?_
        refine WC.cond rfl (fun hb58 => ?_) (fun hb58 => ?_)
        ·
          have hc58 := hb58; try simp only [decide_eq_true_eq, decide_eq_false_iff_not, beq_iff_eq, beq_eq_false_iff_ne, bne_iff_ne, Bool.not_eq_true', Bool.not_eq_false', Bool.or_eq_true, Bool.and_eq_true, Bool.or_eq_false_iff, Bool.and_eq_false_iff, ne_eq, Int.not_lt, Int.not_le, bne_eq_false_iff_eq, Bool.not_eq_true, Bool.not_eq_false] at hc58
          refine WC.skip ?_
          refine WC.seq ?_
          refine WC.block ?_
          refine WC.drawn (fun w => ∃ R, Sat B w I (blk b0 ((E).map I64 ++ r) 3 :: R)) (fun j => !([15, 17].contains j)) (by kernel_rfl) ?_
          replace hS := hS.drew; generalize w.drew = w at hS ⊢
          have hH : ∃ R, Sat B w I (blk b0 ((E).map I64 ++ r) 3 :: R) := ⟨_, (hS.pick 0 rfl)⟩
          refine WD.takeP (i := 0) rfl (by kernel_rfl) (by kernel_rfl) (by kernel_rfl) (fun w => (.move (.of rfl))) rfl ?_
          refine WD.takeP (i := 1) rfl (by kernel_rfl) (by kernel_rfl) (by kernel_rfl) (fun w => (.move (.of rfl))) rfl ?_
          refine WD.takeP (i := 2) rfl (by kernel_rfl) (by kernel_rfl) (by kernel_rfl) (fun w => (.move (.of rfl))) rfl ?_
          refine WD.takeP (i := 3) rfl (by kernel_rfl) (by kernel_rfl) (by kernel_rfl) (fun w => (.move (.of rfl))) rfl ?_
          refine WD.takeP (i := 4) rfl (by kernel_rfl) (by kernel_rfl) (by kernel_rfl) (fun w => (.add (.of rfl) (.of rfl) ⟨by omega, by omega⟩)) rfl ?_
          refine WD.takeP (i := 5) rfl (by kernel_rfl) (by kernel_rfl) (by kernel_rfl) (fun w => (.move (.of rfl))) rfl ?_
          refine WD.takeP (i := 6) rfl (by kernel_rfl) (by kernel_rfl) (by kernel_rfl) (fun w => (.move (.of rfl))) rfl ?_
          refine WD.takeP (i := 7) rfl (by kernel_rfl) (by kernel_rfl) (by kernel_rfl) (fun w => (.add (.of rfl) (.of rfl) ⟨by omega, by omega⟩)) rfl ?_
          refine WD.takeP (i := 8) rfl (by kernel_rfl) (by kernel_rfl) (by kernel_rfl) (fun w => (by first | exact .indexAddr (.of rfl) (.of rfl) (by omega) (by omega) Try.underlying28 Try.sizeOf3 | exact .indexAddrI (.of rfl) (.of rfl) (by omega) (by omega) Try.underlying28 Try.sizeOf3)) rfl ?_
          refine WD.take (i := 9) rfl (by kernel_rfl) (by kernel_rfl) (by kernel_rfl) (by kernel_rfl) hH (fun w ⟨R, hS⟩ => .ldE I64 E 0 r (i := k + 1) (.of rfl) hS (k := 0) rfl rfl Try.isAgg3 (by omega) (by omega)) rfl ?_
          refine WD.takeP (i := 10) rfl (by kernel_rfl) (by kernel_rfl) (by kernel_rfl) (fun w => (.move (.of rfl))) rfl ?_
          refine WD.takeP (i := 11) rfl (by kernel_rfl) (by kernel_rfl) (by kernel_rfl) (fun w => (.move (.of rfl))) rfl ?_
          refine WD.takeP (i := 12) rfl (by kernel_rfl) (by kernel_rfl) (by kernel_rfl) (fun w => (by first | exact .indexAddr (.of rfl) (.of rfl) (by omega) (by omega) Try.underlying28 Try.sizeOf3 | exact .indexAddrI (.of rfl) (.of rfl) (by omega) (by omega) Try.underlying28 Try.sizeOf3)) rfl ?_
          refine WD.take (i := 13) rfl (by kernel_rfl) (by kernel_rfl) (by kernel_rfl) (by kernel_rfl) hH (fun w ⟨R, hS⟩ => .ldE I64 E 0 r (i := k) (.of rfl) hS (k := 0) rfl rfl Try.isAgg3 (by omega) (by omega)) rfl ?_
          refine WD.takeP (i := 14) rfl (by kernel_rfl) (by kernel_rfl) (by kernel_rfl) (fun w => (by first | exact .indexAddr (.of rfl) (.of rfl) (by omega) (by omega) Try.underlying28 Try.sizeOf3 | exact .indexAddrI (.of rfl) (.of rfl) (by omega) (by omega) Try.underlying28 Try.sizeOf3)) rfl ?_
          refine WD.branch [15] (by kernel_rfl) rfl (WO.cons rfl ?_ (WO.nil))
          refine WL.stE I64 _ r hS (k := 0) rfl (.of rfl) (.of rfl) rfl rfl Try.sizeOf3 (by omega) (by (try rw [List.length_set]); omega) ?_
          clear hS; intro w hS; dsimp only [List.set] at hS
          refine WL.nil ?_
          refine And.intro (by intro h; cases h) ?_
          refine WD.takeP (i := 16) rfl (by kernel_rfl) (by kernel_rfl) (by kernel_rfl) (fun w => (by first | exact .indexAddr (.of rfl) (.of rfl) (by omega) (by omega) Try.underlying28 Try.sizeOf3 | exact .indexAddrI (.of rfl) (.of rfl) (by omega) (by omega) Try.underlying28 Try.sizeOf3)) rfl ?_
          refine WD.branch [17] (by kernel_rfl) rfl (WO.cons rfl ?_ (WO.nil))
          refine WL.stE I64 _ r hS (k := 0) rfl (.of rfl) (.of rfl) rfl rfl Try.sizeOf3 (by omega) (by (try rw [List.length_set]); omega) ?_
          clear hS; intro w hS; dsimp only [List.set] at hS
          refine WL.nil ?_
          refine And.intro (by intro h; cases h) ?_
          refine WD.done (by kernel_rfl) ?_
          refine WC.region ?_
          refine WL.val (.move (.of rfl)) rfl ?_
          refine WL.val (.add (.of rfl) (.of rfl) ⟨by omega, by omega⟩) rfl ?_
          refine WL.val (.assign (.of rfl)) rfl ?_
          refine WL.nil ?_
          obtain ⟨y, Ve, rfl⟩ := Srt.cons_of (U := Vd) (by omega)
          have e1 : E = (F ++ Vc) ++ x :: y :: (Ve ++ (Vb ++ C)) := by rw [hE]; simp only [List.append_assoc, List.cons_append]
          have e := Srt.swp_adj (F ++ Vc) (Ve ++ (Vb ++ C)) x y
          rw [← e1, show (F ++ Vc).length = k.toNat by rw [List.length_append]; omega, show k.toNat + 1 = (k + 1).toNat by omega] at e
          unfold Srt.swp at e
          rw [e] at hS
          refine ⟨(k + 1, Vc ++ [y], Ve), ⟨rfl, rfl, rfl, trivial⟩, ⟨by simp only [List.length_append, List.length_cons, List.length_nil]; omega, by rw [← hcd]; simp, ?_⟩, by simp⟩
          have e2 : F ++ ((Vc ++ [y]) ++ x :: (Ve ++ (Vb ++ C))) = (F ++ Vc) ++ y :: x :: (Ve ++ (Vb ++ C)) := by simp only [List.append_assoc, List.cons_append, List.nil_append]
          rw [e2]; exact hS
        ·
          have hc58 := hb58; try simp only [decide_eq_true_eq, decide_eq_false_iff_not, beq_iff_eq, beq_eq_false_iff_ne, bne_iff_ne, Bool.not_eq_true', Bool.not_eq_false', Bool.or_eq_true, Bool.and_eq_true, Bool.or_eq_false_iff, Bool.and_eq_false_iff, ne_eq, Int.not_lt, Int.not_le, bne_eq_false_iff_eq, Bool.not_eq_true, Bool.not_eq_false] at hc58
          refine WC.exit ?_
          refine WC.ret ?_
          refine ret0 Try.results36 ?_
          have hd0 : Vd = [] := List.eq_nil_of_length_eq_zero (by have := congrArg List.length hVab; rw [List.length_append] at this; omega)
          subst hd0
          rw [List.append_nil] at hcd
          rw [hE, hcd] at hS
          refine ⟨_, rfl, rfl, Va ++ x :: Vb, ?_, hso2, by simpa using hS⟩
          rw [hVab]
          exact List.perm_middle
    ·
      have hc28 := hb28; try simp only [decide_eq_true_eq, decide_eq_false_iff_not, beq_iff_eq, beq_eq_false_iff_ne, bne_iff_ne, Bool.not_eq_true', Bool.not_eq_false', Bool.or_eq_true, Bool.and_eq_true, Bool.or_eq_false_iff, Bool.and_eq_false_iff, ne_eq, Int.not_lt, Int.not_le, bne_eq_false_iff_eq, Bool.not_eq_true, Bool.not_eq_false] at hc28
      refine WC.skip ?_
      refine WC.seq ?_
      refine WC.seq ?_
      refine WC.region ?_
      refine WL.val (.move (.of rfl)) rfl ?_
      refine WL.val (.move (.of rfl)) rfl ?_
      refine WL.val (.sub (.of rfl) (.of rfl) ⟨by omega, by omega⟩) rfl ?_
      refine WL.val (.eql (.of rfl) (.of rfl)) rfl ?_
      refine WL.nil ?_
      refine WC.cond rfl (fun hb80 => ?_) (fun hb80 => ?_)
      ·
        have hc80 := hb80; try simp only [decide_eq_true_eq, decide_eq_false_iff_not, beq_iff_eq, beq_eq_false_iff_ne, bne_iff_ne, Bool.not_eq_true', Bool.not_eq_false', Bool.or_eq_true, Bool.and_eq_true, Bool.or_eq_false_iff, Bool.and_eq_false_iff, ne_eq, Int.not_lt, Int.not_le, bne_eq_false_iff_eq, Bool.not_eq_true, Bool.not_eq_false] at hc80
        refine WC.seq ?_
        obtain ⟨y, V0, rfl⟩ := Srt.cons_of hV0
        obtain rfl : V0 = [] := List.eq_nil_of_length_eq_zero (by simp only [List.length_cons] at hib; omega)
        have hDy : D.getD im.toNat 0 = y := by have := hDV 0 (by simp); rw [show im.toNat = F.length + U.length + 0 by omega]; simpa using this
        simp only [List.length_cons, List.length_nil] at hib hbb hDl hin2
        refine WC.region ?_
        refine WL.val (.move (.of rfl)) rfl ?_
        refine WL.val (.assign (.of rfl)) rfl ?_
        refine WL.nil ?_
        refine WC.seq ?_
        refine WC.region ?_
        refine WL.val (.move (.of rfl)) rfl ?_
        refine WL.val (.assign (.of rfl)) rfl ?_
        refine WL.nil ?_
        refine WC.seq ?_
        refine WC.block ?_
        refine WC.loop (σ := Int × Int) (fun ⟨i, j⟩ => [(0, .slice (some (ad b0 0)) n c), (1, I64 ia), (2, I64 im), (3, I64 ib), (4, CF p), (14, I64 i), (15, I64 j)]) (fun ⟨i, j⟩ w => ia ≤ i ∧ i ≤ j ∧ j ≤ im ∧ (i = ia ∨ ¬ kx l y < kx l (D.getD (i - 1).toNat 0)) ∧ (j = im ∨ kx l y < kx l (D.getD j.toNat 0)) ∧ Sat B w I (blk b0 ((D).map I64 ++ r) 3 :: As)) (fun ⟨i, j⟩ => (j - i).toNat) (ia, im) ⟨rfl, rfl, rfl, rfl, rfl, rfl, rfl, trivial⟩ ⟨Int.le_refl _, by (try dsimp only); omega, Int.le_refl _, .inl rfl, .inl rfl, hS⟩ ?_
        rintro ⟨i, j⟩ w ⟨hi1, hij, hj1, hb1, hb2, hS⟩
        change WC _ _ _ _ [(0, .slice (some (ad b0 0)) n c), (1, I64 ia), (2, I64 im), (3, I64 ib), (4, CF p), (14, I64 i), (15, I64 j)] w
        refine WC.seq ?_
        refine WC.seq ?_
        refine WC.region ?_
        refine WL.val (.move (.of rfl)) rfl ?_
        refine WL.val (.move (.of rfl)) rfl ?_
        refine WL.val (.lss (.of rfl) (.of rfl)) rfl ?_
        refine WL.nil ?_
        refine WC.cond rfl (fun hb85 => ?_) (fun hb85 => ?_)
        ·
          have hc85 := hb85; try simp only [decide_eq_true_eq, decide_eq_false_iff_not, beq_iff_eq, beq_eq_false_iff_ne, bne_iff_ne, Bool.not_eq_true', Bool.not_eq_false', Bool.or_eq_true, Bool.and_eq_true, Bool.or_eq_false_iff, Bool.and_eq_false_iff, ne_eq, Int.not_lt, Int.not_le, bne_eq_false_iff_eq, Bool.not_eq_true, Bool.not_eq_false] at hc85
          refine WC.skip ?_
          refine WC.block ?_
          refine WC.seq ?_
          refine WC.region ?_
          refine WL.val (.move (.of rfl)) rfl ?_
          refine WL.val (.move (.of rfl)) rfl ?_
          refine WL.val (.add (.of rfl) (.of rfl) ⟨by omega, by omega⟩) rfl ?_
          refine WL.val (.cvi (.of rfl) Try.underlying3 Try.underlying50 (by rw [IntKind.wrap_u64]; omega)) rfl ?_
          refine WL.val (.shr1 (.of rfl) (.of rfl) (by decide)) rfl ?_
          refine WL.val (.cvi (.of rfl) Try.underlying50 Try.underlying3 (by rw [IntKind.wrap_i64]; omega)) rfl ?_
          refine WL.val (.assign (.of rfl)) rfl ?_
          refine WL.nil ?_
          refine WC.seq ?_
          refine WC.quiet (by kernel_rfl) (by kernel_rfl) hS ?_
          refine WQ.val (fun w hS => (.move (.of rfl))) rfl ?_
          refine WQ.val (fun w hS => (.move (.of rfl))) rfl ?_
          refine WQ.val (fun w hS => (.move (.of rfl))) rfl ?_
          refine WQ.val (fun w hS => (by first | exact .indexAddr (.of rfl) (.of rfl) (by omega) (by omega) Try.underlying28 Try.sizeOf3 | exact .indexAddrI (.of rfl) (.of rfl) (by omega) (by omega) Try.underlying28 Try.sizeOf3)) rfl ?_
          refine WQ.val (fun w hS => .ldE I64 D 0 r (i := im) (.of rfl) hS (k := 0) rfl rfl Try.isAgg3 (by omega) (by omega)) rfl ?_
          refine WQ.val (fun w hS => (.move (.of rfl))) rfl ?_
          refine WQ.val (fun w hS => (.move (.of rfl))) rfl ?_
          refine WQ.val (fun w hS => (by first | exact .indexAddr (.of rfl) (.of rfl) (by omega) (by omega) Try.underlying28 Try.sizeOf3 | exact .indexAddrI (.of rfl) (.of rfl) (by omega) (by omega) Try.underlying28 Try.sizeOf3)) rfl ?_
          refine WQ.val (fun w hS => .ldE I64 D 0 r (i := ((i + j) / 2)) (.of rfl) hS (k := 0) rfl rfl Try.isAgg3 (by omega) (by omega)) rfl ?_
          refine WQ.vcall Try.func25 rfl (.of rfl) (evs_cons (.of rfl) (evs_cons (.of rfl) evs_nil)) rfl (fun w hS => by have hj1 := hin2 (im).toNat (by omega) (by omega); have hj2 := hin2 (((i + j) / 2)).toNat (by omega) (by omega); exact cmp_any hx _ _ hj1.1 hj1.2 hj2.1 hj2.2 B w _ hS) ?_
          refine WQ.val (fun w hS => (.lss (.of rfl) (.of rfl))) rfl ?_
          refine WQ.val (fun w hS => (.not (.of rfl))) rfl ?_
          refine WQ.nil ?_
          clear hS; intro w hS
          refine WC.cond rfl (fun hb103 => ?_) (fun hb103 => ?_)
          ·
            have hc103 := hb103; try simp only [decide_eq_true_eq, decide_eq_false_iff_not, beq_iff_eq, beq_eq_false_iff_ne, bne_iff_ne, Bool.not_eq_true', Bool.not_eq_false', Bool.or_eq_true, Bool.and_eq_true, Bool.or_eq_false_iff, Bool.and_eq_false_iff, ne_eq, Int.not_lt, Int.not_le, bne_eq_false_iff_eq, Bool.not_eq_true, Bool.not_eq_false] at hc103
            refine WC.region ?_
            refine WL.val (.move (.of rfl)) rfl ?_
            refine WL.val (.add (.of rfl) (.of rfl) ⟨by omega, by omega⟩) rfl ?_
            refine WL.val (.assign (.of rfl)) rfl ?_
            refine WL.nil ?_
            have h9 : ¬ _ := fun h => (Int.not_lt.2 hc103) (Srt.cmpv_neg.2 h)
            rw [hDy] at h9
            exact ⟨((i + j) / 2 + 1, j), ⟨rfl, rfl, rfl, rfl, rfl, rfl, rfl, trivial⟩, ⟨by (try dsimp only); omega, by (try dsimp only); omega, hj1, .inr (by (try dsimp only); rw [show (i + j) / 2 + 1 - 1 = (i + j) / 2 by omega]; exact h9), hb2, hS⟩, by (try dsimp only); omega⟩
          ·
            have hc103 := hb103; try simp only [decide_eq_true_eq, decide_eq_false_iff_not, beq_iff_eq, beq_eq_false_iff_ne, bne_iff_ne, Bool.not_eq_true', Bool.not_eq_false', Bool.or_eq_true, Bool.and_eq_true, Bool.or_eq_false_iff, Bool.and_eq_false_iff, ne_eq, Int.not_lt, Int.not_le, bne_eq_false_iff_eq, Bool.not_eq_true, Bool.not_eq_false] at hc103
            refine WC.region ?_
            refine WL.val (.move (.of rfl)) rfl ?_
            refine WL.val (.assign (.of rfl)) rfl ?_
            refine WL.nil ?_
            have h9 := Srt.cmpv_neg.1 hc103
            rw [hDy] at h9
            exact ⟨(i, (i + j) / 2), ⟨rfl, rfl, rfl, rfl, rfl, rfl, rfl, trivial⟩, ⟨hi1, by (try dsimp only); omega, by (try dsimp only); omega, hb1, .inr h9, hS⟩, by (try dsimp only); omega⟩
        ·
          have hc85 := hb85; try simp only [decide_eq_true_eq, decide_eq_false_iff_not, beq_iff_eq, beq_eq_false_iff_ne, bne_iff_ne, Bool.not_eq_true', Bool.not_eq_false', Bool.or_eq_true, Bool.and_eq_true, Bool.or_eq_false_iff, Bool.and_eq_false_iff, ne_eq, Int.not_lt, Int.not_le, bne_eq_false_iff_eq, Bool.not_eq_true, Bool.not_eq_false] at hc85
          refine WC.exit ?_
          refine WC.seq ?_
          refine WC.seq ?_
          have hij : i = j := by omega
          subst hij
          have hso : Srt.So (kx l) (U.take (i - ia).toNat ++ y :: U.drop (i - ia).toNat) := by
            refine Srt.so_right hU (fun v hv => hc v hv y (by simp)) (by omega) ?_ ?_
            · by_cases hz : i = ia
              · exact .inl (by omega)
              · refine .inr ?_
                have h := hb1.resolve_left hz
                rw [← hDU ((i - ia).toNat - 1) (by omega), show F.length + ((i - ia).toNat - 1) = (i - 1).toNat by omega]
                exact h
            · by_cases hz : i = im
              · exact .inl (by omega)
              · refine .inr ?_
                have h := hb2.resolve_left hz
                rw [← hDU (i - ia).toNat (by omega), show F.length + (i - ia).toNat = i.toNat by omega]
                exact h
          obtain ⟨Ua, Ub, hUab, hUal, hso2⟩ : ∃ Ua Ub, U = Ua ++ Ub ∧ (Ua.length : Int) = i - ia ∧ Srt.So (kx l) (Ua ++ y :: Ub) := ⟨_, _, (List.take_append_drop (i - ia).toNat U).symm, by rw [List.length_take]; omega, hso⟩
          have hUl := congrArg List.length hUab
          rw [List.length_append] at hUl
          refine WC.region ?_
          refine WL.val (.move (.of rfl)) rfl ?_
          refine WL.val (.assign (.of rfl)) rfl ?_
          refine WL.nil ?_
          refine WC.block ?_
          refine WC.loop (σ := Int × List Int × List Int) (fun ⟨k, Uc, Ud⟩ => [(0, .slice (some (ad b0 0)) n c), (14, I64 i), (17, I64 k)]) (fun ⟨k, Uc, Ud⟩ w => k = (F.length : Int) + Ua.length + Uc.length ∧ Uc ++ Ud = Ub ∧ Sat B w I (blk b0 ((F ++ (Ua ++ (Uc ++ y :: (Ud ++ C)))).map I64 ++ r) 3 :: As)) (fun ⟨k, Uc, Ud⟩ => Uc.length) (im, Ub, []) ⟨rfl, rfl, rfl, trivial⟩ ⟨by (try dsimp only); omega, by simp, by rw [hD, hUab] at hS; simpa using hS⟩ ?_
          rintro ⟨k, Uc, Ud⟩ w ⟨hk, hcd, hS⟩
          change WC _ _ _ _ [(0, .slice (some (ad b0 0)) n c), (14, I64 i), (17, I64 k)] w
          have hcl := congrArg List.length hcd
          rw [List.length_append] at hcl
          obtain ⟨E, hE⟩ : ∃ E, E = F ++ (Ua ++ (Uc ++ y :: (Ud ++ C))) := ⟨_, rfl⟩
          rw [← hE] at hS
          have hEl : E.length = F.length + (Ua.length + (Uc.length + 1 + Ud.length + C.length)) := by rw [hE]; simp only [List.length_append, List.length_cons]; omega
          refine WC.seq ?_
          refine WC.seq ?_
          refine WC.region ?_
          refine WL.val (.move (.of rfl)) rfl ?_
          refine WL.val (.move (.of rfl)) rfl ?_
          refine WL.val (.gtr (.of rfl) (.of rfl)) rfl ?_
          refine WL.nil ?_
          refine WC.cond rfl (fun hb110 => ?_) (fun hb110 => ?_)
          ·
            have hc110 := hb110; try simp only [decide_eq_true_eq, decide_eq_false_iff_not, beq_iff_eq, beq_eq_false_iff_ne, bne_iff_ne, Bool.not_eq_true', Bool.not_eq_false', Bool.or_eq_true, Bool.and_eq_true, Bool.or_eq_false_iff, Bool.and_eq_false_iff, ne_eq, Int.not_lt, Int.not_le, bne_eq_false_iff_eq, Bool.not_eq_true, Bool.not_eq_false] at hc110
            refine WC.skip ?_
            refine WC.seq ?_
            refine WC.block ?_
            refine WC.drawn (fun w => ∃ R, Sat B w I (blk b0 ((E).map I64 ++ r) 3 :: R)) (fun j => !([15, 17].contains j)) (by kernel_rfl) ?_
            replace hS := hS.drew; generalize w.drew = w at hS ⊢
            have hH : ∃ R, Sat B w I (blk b0 ((E).map I64 ++ r) 3 :: R) := ⟨_, (hS.pick 0 rfl)⟩
            refine WD.takeP (i := 0) rfl (by kernel_rfl) (by kernel_rfl) (by kernel_rfl) (fun w => (.move (.of rfl))) rfl ?_
            refine WD.takeP (i := 1) rfl (by kernel_rfl) (by kernel_rfl) (by kernel_rfl) (fun w => (.move (.of rfl))) rfl ?_
            refine WD.takeP (i := 2) rfl (by kernel_rfl) (by kernel_rfl) (by kernel_rfl) (fun w => (.move (.of rfl))) rfl ?_
            refine WD.takeP (i := 3) rfl (by kernel_rfl) (by kernel_rfl) (by kernel_rfl) (fun w => (.move (.of rfl))) rfl ?_
            refine WD.takeP (i := 4) rfl (by kernel_rfl) (by kernel_rfl) (by kernel_rfl) (fun w => (.sub (.of rfl) (.of rfl) ⟨by omega, by omega⟩)) rfl ?_
            refine WD.takeP (i := 5) rfl (by kernel_rfl) (by kernel_rfl) (by kernel_rfl) (fun w => (.move (.of rfl))) rfl ?_
            refine WD.takeP (i := 6) rfl (by kernel_rfl) (by kernel_rfl) (by kernel_rfl) (fun w => (.move (.of rfl))) rfl ?_
            refine WD.takeP (i := 7) rfl (by kernel_rfl) (by kernel_rfl) (by kernel_rfl) (fun w => (.sub (.of rfl) (.of rfl) ⟨by omega, by omega⟩)) rfl ?_
            refine WD.takeP (i := 8) rfl (by kernel_rfl) (by kernel_rfl) (by kernel_rfl) (fun w => (by first | exact .indexAddr (.of rfl) (.of rfl) (by omega) (by omega) Try.underlying28 Try.sizeOf3 | exact .indexAddrI (.of rfl) (.of rfl) (by omega) (by omega) Try.underlying28 Try.sizeOf3)) rfl ?_
            refine WD.take (i := 9) rfl (by kernel_rfl) (by kernel_rfl) (by kernel_rfl) (by kernel_rfl) hH (fun w ⟨R, hS⟩ => .ldE I64 E 0 r (i := k - 1) (.of rfl) hS (k := 0) rfl rfl Try.isAgg3 (by omega) (by omega)) rfl ?_
            refine WD.takeP (i := 10) rfl (by kernel_rfl) (by kernel_rfl) (by kernel_rfl) (fun w => (.move (.of rfl))) rfl ?_
            refine WD.takeP (i := 11) rfl (by kernel_rfl) (by kernel_rfl) (by kernel_rfl) (fun w => (.move (.of rfl))) rfl ?_
            refine WD.takeP (i := 12) rfl (by kernel_rfl) (by kernel_rfl) (by kernel_rfl) (fun w => (by first | exact .indexAddr (.of rfl) (.of rfl) (by omega) (by omega) Try.underlying28 Try.sizeOf3 | exact .indexAddrI (.of rfl) (.of rfl) (by omega) (by omega) Try.underlying28 Try.sizeOf3)) rfl ?_
            refine WD.take (i := 13) rfl (by kernel_rfl) (by kernel_rfl) (by kernel_rfl) (by kernel_rfl) hH (fun w ⟨R, hS⟩ => .ldE I64 E 0 r (i := k) (.of rfl) hS (k := 0) rfl rfl Try.isAgg3 (by omega) (by omega)) rfl ?_
            refine WD.takeP (i := 14) rfl (by kernel_rfl) (by kernel_rfl) (by kernel_rfl) (fun w => (by first | exact .indexAddr (.of rfl) (.of rfl) (by omega) (by omega) Try.underlying28 Try.sizeOf3 | exact .indexAddrI (.of rfl) (.of rfl) (by omega) (by omega) Try.underlying28 Try.sizeOf3)) rfl ?_
            refine WD.branch [15] (by kernel_rfl) rfl (WO.cons rfl ?_ (WO.nil))
            refine WL.stE I64 _ r hS (k := 0) rfl (.of rfl) (.of rfl) rfl rfl Try.sizeOf3 (by omega) (by (try rw [List.length_set]); omega) ?_
            clear hS; intro w hS; dsimp only [List.set] at hS
            refine WL.nil ?_
            refine And.intro (by intro h; cases h) ?_
            refine WD.takeP (i := 16) rfl (by kernel_rfl) (by kernel_rfl) (by kernel_rfl) (fun w => (by first | exact .indexAddr (.of rfl) (.of rfl) (by omega) (by omega) Try.underlying28 Try.sizeOf3 | exact .indexAddrI (.of rfl) (.of rfl) (by omega) (by omega) Try.underlying28 Try.sizeOf3)) rfl ?_
            refine WD.branch [17] (by kernel_rfl) rfl (WO.cons rfl ?_ (WO.nil))
            refine WL.stE I64 _ r hS (k := 0) rfl (.of rfl) (.of rfl) rfl rfl Try.sizeOf3 (by omega) (by (try rw [List.length_set]); omega) ?_
            clear hS; intro w hS; dsimp only [List.set] at hS
            refine WL.nil ?_
            refine And.intro (by intro h; cases h) ?_
            refine WD.done (by kernel_rfl) ?_
            refine WC.region ?_
            refine WL.val (.move (.of rfl)) rfl ?_
            refine WL.val (.sub (.of rfl) (.of rfl) ⟨by omega, by omega⟩) rfl ?_
            refine WL.val (.assign (.of rfl)) rfl ?_
            refine WL.nil ?_
            obtain ⟨Ue, q, rfl⟩ := Srt.concat_of (U := Uc) (by omega)
            simp only [List.length_append, List.length_cons, List.length_nil] at hk hEl hcl
            have e1 : E = (F ++ (Ua ++ Ue)) ++ q :: y :: (Ud ++ C) := by rw [hE]; simp only [List.append_assoc, List.cons_append, List.nil_append]
            have e := Srt.swp_adj (F ++ (Ua ++ Ue)) (Ud ++ C) q y
            rw [← e1, show (F ++ (Ua ++ Ue)).length = (k - 1).toNat by simp only [List.length_append]; omega, show (k - 1).toNat + 1 = k.toNat by omega, Srt.swp_comm (by omega)] at e
            unfold Srt.swp at e
            rw [e] at hS
            refine ⟨(k - 1, Ue, q :: Ud), ⟨rfl, rfl, rfl, trivial⟩, ⟨by (try dsimp only); omega, by rw [← hcd]; simp, ?_⟩, by simp⟩
            have e2 : F ++ (Ua ++ (Ue ++ y :: ((q :: Ud) ++ C))) = (F ++ (Ua ++ Ue)) ++ y :: q :: (Ud ++ C) := by simp only [List.append_assoc, List.cons_append]
            rw [e2]; exact hS
          ·
            have hc110 := hb110; try simp only [decide_eq_true_eq, decide_eq_false_iff_not, beq_iff_eq, beq_eq_false_iff_ne, bne_iff_ne, Bool.not_eq_true', Bool.not_eq_false', Bool.or_eq_true, Bool.and_eq_true, Bool.or_eq_false_iff, Bool.and_eq_false_iff, ne_eq, Int.not_lt, Int.not_le, bne_eq_false_iff_eq, Bool.not_eq_true, Bool.not_eq_false] at hc110
            refine WC.exit ?_
            refine WC.ret ?_
            refine ret0 Try.results36 ?_
            have hc0 : Uc = [] := List.eq_nil_of_length_eq_zero (by omega)
            subst hc0
            rw [List.nil_append] at hcd
            rw [hE, hcd] at hS
            refine ⟨_, rfl, rfl, Ua ++ y :: Ub, ?_, hso2, by simpa using hS⟩
            rw [hUab, List.append_assoc]
            exact List.Perm.append_left Ua (List.perm_append_comm : ([y] ++ Ub).Perm (Ub ++ [y]))
      ·
        have hc80 := hb80; try simp only [decide_eq_true_eq, decide_eq_false_iff_not, beq_iff_eq, beq_eq_false_iff_ne, bne_iff_ne, Bool.not_eq_true', Bool.not_eq_false', Bool.or_eq_true, Bool.and_eq_true, Bool.or_eq_false_iff, Bool.and_eq_false_iff, ne_eq, Int.not_lt, Int.not_le, bne_eq_false_iff_eq, Bool.not_eq_true, Bool.not_eq_false] at hc80
        refine WC.skip ?_
        refine WC.seq ?_
        refine WC.region ?_
        refine WL.val (.move (.of rfl)) rfl ?_
        refine WL.val (.move (.of rfl)) rfl ?_
        refine WL.val (.add (.of rfl) (.of rfl) ⟨by omega, by omega⟩) rfl ?_
        refine WL.val (.cvi (.of rfl) Try.underlying3 Try.underlying50 (by rw [IntKind.wrap_u64]; omega)) rfl ?_
        refine WL.val (.shr1 (.of rfl) (.of rfl) (by decide)) rfl ?_
        refine WL.val (.cvi (.of rfl) Try.underlying50 Try.underlying3 (by rw [IntKind.wrap_i64]; omega)) rfl ?_
        refine WL.val (.assign (.of rfl)) rfl ?_
        refine WL.nil ?_
        refine WC.seq ?_
        refine WC.region ?_
        refine WL.val (.move (.of rfl)) rfl ?_
        refine WL.val (.move (.of rfl)) rfl ?_
        refine WL.val (.add (.of rfl) (.of rfl) ⟨by omega, by omega⟩) rfl ?_
        refine WL.val (.assign (.of rfl)) rfl ?_
        refine WL.nil ?_
        refine WC.seq ?_
        refine WC.region ?_
        refine WL.val (.assign (.of rfl)) rfl ?_
        refine WL.val (.assign (.of rfl)) rfl ?_
        refine WL.nil ?_
        refine WC.cutS (σ := Int × Int) (fun ⟨s0, r0⟩ => [(0, .slice (some (ad b0 0)) n c), (1, I64 ia), (2, I64 im), (3, I64 ib), (4, CF p), (18, I64 ((ia + ib) / 2)), (19, I64 (((ia + ib) / 2) + im)), (20, I64 s0), (21, I64 r0)]) (fun ⟨s0, r0⟩ w => ((((ia + ib) / 2) < im ∧ s0 = ((ia + ib) / 2) + im - ib ∧ r0 = ((ia + ib) / 2)) ∨ (im ≤ ((ia + ib) / 2) ∧ s0 = ia ∧ r0 = im)) ∧ Sat B w I (blk b0 ((D).map I64 ++ r) 3 :: As)) ?_ ?_
        ·
          refine WC.seq ?_
          refine WC.region ?_
          refine WL.val (.move (.of rfl)) rfl ?_
          refine WL.val (.move (.of rfl)) rfl ?_
          refine WL.val (.gtr (.of rfl) (.of rfl)) rfl ?_
          refine WL.nil ?_
          refine WC.cond rfl (fun hb140 => ?_) (fun hb140 => ?_)
          ·
            have hc140 := hb140; try simp only [decide_eq_true_eq, decide_eq_false_iff_not, beq_iff_eq, beq_eq_false_iff_ne, bne_iff_ne, Bool.not_eq_true', Bool.not_eq_false', Bool.or_eq_true, Bool.and_eq_true, Bool.or_eq_false_iff, Bool.and_eq_false_iff, ne_eq, Int.not_lt, Int.not_le, bne_eq_false_iff_eq, Bool.not_eq_true, Bool.not_eq_false] at hc140
            refine WC.seq ?_
            refine WC.region ?_
            refine WL.val (.move (.of rfl)) rfl ?_
            refine WL.val (.move (.of rfl)) rfl ?_
            refine WL.val (.sub (.of rfl) (.of rfl) ⟨by omega, by omega⟩) rfl ?_
            refine WL.val (.assign (.of rfl)) rfl ?_
            refine WL.nil ?_
            refine WC.region ?_
            refine WL.val (.move (.of rfl)) rfl ?_
            refine WL.val (.assign (.of rfl)) rfl ?_
            refine WL.nil ?_
            exact ⟨(((ia + ib) / 2) + im - ib, ((ia + ib) / 2)), ⟨rfl, rfl, rfl, rfl, rfl, rfl, rfl, rfl, rfl, trivial⟩, .inl ⟨hc140, rfl, rfl⟩, hS⟩
          ·
            have hc140 := hb140; try simp only [decide_eq_true_eq, decide_eq_false_iff_not, beq_iff_eq, beq_eq_false_iff_ne, bne_iff_ne, Bool.not_eq_true', Bool.not_eq_false', Bool.or_eq_true, Bool.and_eq_true, Bool.or_eq_false_iff, Bool.and_eq_false_iff, ne_eq, Int.not_lt, Int.not_le, bne_eq_false_iff_eq, Bool.not_eq_true, Bool.not_eq_false] at hc140
            refine WC.seq ?_
            refine WC.region ?_
            refine WL.val (.move (.of rfl)) rfl ?_
            refine WL.val (.assign (.of rfl)) rfl ?_
            refine WL.nil ?_
            refine WC.region ?_
            refine WL.val (.move (.of rfl)) rfl ?_
            refine WL.val (.assign (.of rfl)) rfl ?_
            refine WL.nil ?_
            exact ⟨(ia, im), ⟨rfl, rfl, rfl, rfl, rfl, rfl, rfl, rfl, rfl, trivial⟩, .inr ⟨hc140, rfl, rfl⟩, hS⟩
        ·
          rintro ⟨s0, r0⟩ w ⟨h0, hS⟩
          change WC _ _ _ _ [(0, .slice (some (ad b0 0)) n c), (1, I64 ia), (2, I64 im), (3, I64 ib), (4, CF p), (18, I64 ((ia + ib) / 2)), (19, I64 (((ia + ib) / 2) + im)), (20, I64 s0), (21, I64 r0)] w
          refine WC.seq ?_
          refine WC.region ?_
          refine WL.val (.move (.of rfl)) rfl ?_
          refine WL.val (.sub (.of rfl) (.of rfl) ⟨by omega, by omega⟩) rfl ?_
          refine WL.val (.assign (.of rfl)) rfl ?_
          refine WL.nil ?_
          refine WC.seq ?_
          refine WC.block ?_
          refine WC.loop (σ := Int × Int) (fun ⟨s, q⟩ => [(0, .slice (some (ad b0 0)) n c), (1, I64 ia), (2, I64 im), (3, I64 ib), (4, CF p), (18, I64 ((ia + ib) / 2)), (19, I64 (((ia + ib) / 2) + im)), (20, I64 s), (21, I64 q), (22, I64 (((ia + ib) / 2) + im - 1))]) (fun ⟨s, q⟩ w => s0 ≤ s ∧ s ≤ q ∧ q ≤ r0 ∧ (s = s0 ∨ ¬ kx l (D.getD (((ia + ib) / 2) + im - 1 - (s - 1)).toNat 0) < kx l (D.getD (s - 1).toNat 0)) ∧ (q = r0 ∨ kx l (D.getD (((ia + ib) / 2) + im - 1 - q).toNat 0) < kx l (D.getD q.toNat 0)) ∧ Sat B w I (blk b0 ((D).map I64 ++ r) 3 :: As)) (fun ⟨s, q⟩ => (q - s).toNat) (s0, r0) ⟨rfl, rfl, rfl, rfl, rfl, rfl, rfl, rfl, rfl, rfl, trivial⟩ ⟨Int.le_refl _, by (try dsimp only); omega, Int.le_refl _, .inl rfl, .inl rfl, hS⟩ ?_
          rintro ⟨s, q⟩ w ⟨hs0, hsq, hq0, hb1, hb2, hS⟩
          change WC _ _ _ _ [(0, .slice (some (ad b0 0)) n c), (1, I64 ia), (2, I64 im), (3, I64 ib), (4, CF p), (18, I64 ((ia + ib) / 2)), (19, I64 (((ia + ib) / 2) + im)), (20, I64 s), (21, I64 q), (22, I64 (((ia + ib) / 2) + im - 1))] w
          refine WC.seq ?_
          refine WC.seq ?_
          refine WC.region ?_
          refine WL.val (.move (.of rfl)) rfl ?_
          refine WL.val (.move (.of rfl)) rfl ?_
          refine WL.val (.lss (.of rfl) (.of rfl)) rfl ?_
          refine WL.nil ?_
          refine WC.cond rfl (fun hb151 => ?_) (fun hb151 => ?_)
          ·
            have hc151 := hb151; try simp only [decide_eq_true_eq, decide_eq_false_iff_not, beq_iff_eq, beq_eq_false_iff_ne, bne_iff_ne, Bool.not_eq_true', Bool.not_eq_false', Bool.or_eq_true, Bool.and_eq_true, Bool.or_eq_false_iff, Bool.and_eq_false_iff, ne_eq, Int.not_lt, Int.not_le, bne_eq_false_iff_eq, Bool.not_eq_true, Bool.not_eq_false] at hc151
            refine WC.skip ?_
            refine WC.block ?_
            refine WC.seq ?_
            refine WC.region ?_
            refine WL.val (.move (.of rfl)) rfl ?_
            refine WL.val (.move (.of rfl)) rfl ?_
            refine WL.val (.add (.of rfl) (.of rfl) ⟨by omega, by omega⟩) rfl ?_
            refine WL.val (.cvi (.of rfl) Try.underlying3 Try.underlying50 (by rw [IntKind.wrap_u64]; omega)) rfl ?_
            refine WL.val (.shr1 (.of rfl) (.of rfl) (by decide)) rfl ?_
            refine WL.val (.cvi (.of rfl) Try.underlying50 Try.underlying3 (by rw [IntKind.wrap_i64]; omega)) rfl ?_
            refine WL.val (.assign (.of rfl)) rfl ?_
            refine WL.nil ?_
            refine WC.seq ?_
            refine WC.quiet (by kernel_rfl) (by kernel_rfl) hS ?_
            refine WQ.val (fun w hS => (.move (.of rfl))) rfl ?_
            refine WQ.val (fun w hS => (.move (.of rfl))) rfl ?_
            refine WQ.val (fun w hS => (.move (.of rfl))) rfl ?_
            refine WQ.val (fun w hS => (.move (.of rfl))) rfl ?_
            refine WQ.val (fun w hS => (.sub (.of rfl) (.of rfl) ⟨by omega, by omega⟩)) rfl ?_
            refine WQ.val (fun w hS => (by first | exact .indexAddr (.of rfl) (.of rfl) (by omega) (by omega) Try.underlying28 Try.sizeOf3 | exact .indexAddrI (.of rfl) (.of rfl) (by omega) (by omega) Try.underlying28 Try.sizeOf3)) rfl ?_
            refine WQ.val (fun w hS => .ldE I64 D 0 r (i := ((ia + ib) / 2) + im - 1 - ((s + q) / 2)) (.of rfl) hS (k := 0) rfl rfl Try.isAgg3 (by omega) (by omega)) rfl ?_
            refine WQ.val (fun w hS => (.move (.of rfl))) rfl ?_
            refine WQ.val (fun w hS => (.move (.of rfl))) rfl ?_
            refine WQ.val (fun w hS => (by first | exact .indexAddr (.of rfl) (.of rfl) (by omega) (by omega) Try.underlying28 Try.sizeOf3 | exact .indexAddrI (.of rfl) (.of rfl) (by omega) (by omega) Try.underlying28 Try.sizeOf3)) rfl ?_
            refine WQ.val (fun w hS => .ldE I64 D 0 r (i := ((s + q) / 2)) (.of rfl) hS (k := 0) rfl rfl Try.isAgg3 (by omega) (by omega)) rfl ?_
            refine WQ.vcall Try.func25 rfl (.of rfl) (evs_cons (.of rfl) (evs_cons (.of rfl) evs_nil)) rfl (fun w hS => by have hj1 := hin2 (((ia + ib) / 2) + im - 1 - ((s + q) / 2)).toNat (by omega) (by omega); have hj2 := hin2 (((s + q) / 2)).toNat (by omega) (by omega); exact cmp_any hx _ _ hj1.1 hj1.2 hj2.1 hj2.2 B w _ hS) ?_
            refine WQ.val (fun w hS => (.lss (.of rfl) (.of rfl))) rfl ?_
            refine WQ.val (fun w hS => (.not (.of rfl))) rfl ?_
            refine WQ.nil ?_
            clear hS; intro w hS
            refine WC.cond rfl (fun hb171 => ?_) (fun hb171 => ?_)
            ·
              have hc171 := hb171; try simp only [decide_eq_true_eq, decide_eq_false_iff_not, beq_iff_eq, beq_eq_false_iff_ne, bne_iff_ne, Bool.not_eq_true', Bool.not_eq_false', Bool.or_eq_true, Bool.and_eq_true, Bool.or_eq_false_iff, Bool.and_eq_false_iff, ne_eq, Int.not_lt, Int.not_le, bne_eq_false_iff_eq, Bool.not_eq_true, Bool.not_eq_false] at hc171
              refine WC.region ?_
              refine WL.val (.move (.of rfl)) rfl ?_
              refine WL.val (.add (.of rfl) (.of rfl) ⟨by omega, by omega⟩) rfl ?_
              refine WL.val (.assign (.of rfl)) rfl ?_
              refine WL.nil ?_
              have h9 : ¬ _ := fun h => (Int.not_lt.2 hc171) (Srt.cmpv_neg.2 h)
              exact ⟨((s + q) / 2 + 1, q), ⟨rfl, rfl, rfl, rfl, rfl, rfl, rfl, rfl, rfl, rfl, trivial⟩, ⟨by (try dsimp only); omega, by (try dsimp only); omega, hq0, .inr (by (try dsimp only); rw [show (s + q) / 2 + 1 - 1 = (s + q) / 2 by omega]; exact h9), hb2, hS⟩, by (try dsimp only); omega⟩
            ·
              have hc171 := hb171; try simp only [decide_eq_true_eq, decide_eq_false_iff_not, beq_iff_eq, beq_eq_false_iff_ne, bne_iff_ne, Bool.not_eq_true', Bool.not_eq_false', Bool.or_eq_true, Bool.and_eq_true, Bool.or_eq_false_iff, Bool.and_eq_false_iff, ne_eq, Int.not_lt, Int.not_le, bne_eq_false_iff_eq, Bool.not_eq_true, Bool.not_eq_false] at hc171
              refine WC.region ?_
              refine WL.val (.move (.of rfl)) rfl ?_
              refine WL.val (.assign (.of rfl)) rfl ?_
              refine WL.nil ?_
              have h9 := Srt.cmpv_neg.1 hc171
              exact ⟨(s, (s + q) / 2), ⟨rfl, rfl, rfl, rfl, rfl, rfl, rfl, rfl, rfl, rfl, trivial⟩, ⟨hs0, by (try dsimp only); omega, by (try dsimp only); omega, hb1, .inr h9, hS⟩, by (try dsimp only); omega⟩
          ·
            have hc151 := hb151; try simp only [decide_eq_true_eq, decide_eq_false_iff_not, beq_iff_eq, beq_eq_false_iff_ne, bne_iff_ne, Bool.not_eq_true', Bool.not_eq_false', Bool.or_eq_true, Bool.and_eq_true, Bool.or_eq_false_iff, Bool.and_eq_false_iff, ne_eq, Int.not_lt, Int.not_le, bne_eq_false_iff_eq, Bool.not_eq_true, Bool.not_eq_false] at hc151
            refine WC.exit ?_
            refine WC.seq ?_
            have hsq : s = q := by omega
            subst hsq
            have hsp := Srt.split_lt hU hV hc (s := (s - ia).toNat) (e := (((ia + ib) / 2) - s).toNat) (by omega) (by omega) (by
              by_cases hz1 : s = ia
              · exact .inl (by omega)
              by_cases hz2 : (((ia + ib) / 2) - s).toNat = V.length
              · exact .inr (.inl hz2)
              rcases hb1 with h | h
              · rcases h0 with h0 | h0
                · exact .inr (.inl (by omega))
                · exact .inl (by omega)
              · refine .inr (.inr ?_)
                rw [show (((ia + ib) / 2) + im - 1 - (s - 1)).toNat = F.length + U.length + (((ia + ib) / 2) - s).toNat by omega, hDV (((ia + ib) / 2) - s).toNat (by omega), show (s - 1).toNat = F.length + ((s - ia).toNat - 1) by omega, hDU ((s - ia).toNat - 1) (by omega)] at h
                exact Srt.not_bef_later (hc _ (Srt.getD_mem (by omega)) _ (Srt.getD_mem (by omega))) h) (by
              by_cases hz1 : s = ((ia + ib) / 2)
              · exact .inl (by omega)
              by_cases hz2 : (s - ia).toNat = U.length
              · exact .inr (.inl hz2)
              rcases hb2 with h | h
              · rcases h0 with h0 | h0
                · exact .inl (by omega)
                · exact .inr (.inl (by omega))
              · refine .inr (.inr ?_)
                rw [show (((ia + ib) / 2) + im - 1 - s).toNat = F.length + U.length + ((((ia + ib) / 2) - s).toNat - 1) by omega, hDV ((((ia + ib) / 2) - s).toNat - 1) (by omega), show s.toNat = F.length + (s - ia).toNat by omega, hDU (s - ia).toNat (by omega)] at h
                exact (Srt.bef_later (hc _ (Srt.getD_mem (by omega)) _ (Srt.getD_mem (by omega)))).2 h)
            have hs1 : 0 ≤ s - ia ∧ s - ia ≤ U.length ∧ 0 ≤ ((ia + ib) / 2) - s ∧ ((ia + ib) / 2) - s ≤ V.length := by omega
            obtain ⟨Ua, Ub, Va, Vb, hUab, hVab, hUal, hVal, hsp2⟩ : ∃ Ua Ub Va Vb, U = Ua ++ Ub ∧ V = Va ++ Vb ∧ (Ua.length : Int) = s - ia ∧ (Va.length : Int) = ((ia + ib) / 2) - s ∧ (∀ x ∈ Ua ++ Va, ∀ y ∈ Ub ++ Vb, Srt.bef (kx l) x y) :=
              ⟨_, _, _, _, (List.take_append_drop (s - ia).toNat U).symm, (List.take_append_drop (((ia + ib) / 2) - s).toNat V).symm, by rw [List.length_take]; omega, by rw [List.length_take]; omega, hsp⟩
            clear hsp
            have hUl := congrArg List.length hUab
            rw [List.length_append] at hUl
            have hVl := congrArg List.length hVab
            rw [List.length_append] at hVl
            rw [hD, hUab, hVab] at hS
            rw [hUab] at hU
            rw [hVab] at hV
            rw [hUab, hVab] at hc hin
            have hUa := (List.pairwise_append.1 hU).1
            have hUb := (List.pairwise_append.1 hU).2.1
            have hVa := (List.pairwise_append.1 hV).1
            have hVb := (List.pairwise_append.1 hV).2.1
            refine WC.region ?_
            refine WL.val (.move (.of rfl)) rfl ?_
            refine WL.val (.move (.of rfl)) rfl ?_
            refine WL.val (.sub (.of rfl) (.of rfl) ⟨by omega, by omega⟩) rfl ?_
            refine WL.val (.assign (.of rfl)) rfl ?_
            refine WL.nil ?_
            refine WC.cutS (σ := Unit) (fun _ => [(0, .slice (some (ad b0 0)) n c), (1, I64 ia), (3, I64 ib), (4, CF p), (18, I64 ((ia + ib) / 2)), (20, I64 s), (24, I64 (((ia + ib) / 2) + im - s))]) (fun _ w => Sat B w I (blk b0 ((F ++ (Ua ++ (Va ++ (Ub ++ (Vb ++ C))))).map I64 ++ r) 3 :: As)) ?_ ?_
            ·
              refine WC.seq ?_
              refine WC.region ?_
              refine WL.val (.move (.of rfl)) rfl ?_
              refine WL.val (.move (.of rfl)) rfl ?_
              refine WL.val (.lss (.of rfl) (.of rfl)) rfl ?_
              refine WL.val (.move (.of rfl)) rfl ?_
              refine WL.gval rfl rfl (fun hg1 => (.move (.of rfl))) rfl ?_
              refine WL.gval rfl rfl (fun hg1 => (.move (.of rfl))) rfl ?_
              refine WL.gval rfl rfl (fun hg1 => (.lss (.gd hg1 rfl) (.gd hg1 rfl))) rfl ?_
              refine WL.val (.pand (.of rfl) (.of rfl) (.of rfl)) rfl ?_
              refine WL.nil ?_
              refine WC.cond rfl (fun hb185 => ?_) (fun hb185 => ?_)
              ·
                have hc185 := hb185; try simp only [decide_eq_true_eq, decide_eq_false_iff_not, beq_iff_eq, beq_eq_false_iff_ne, bne_iff_ne, Bool.not_eq_true', Bool.not_eq_false', Bool.or_eq_true, Bool.and_eq_true, Bool.or_eq_false_iff, Bool.and_eq_false_iff, ne_eq, Int.not_lt, Int.not_le, bne_eq_false_iff_eq, Bool.not_eq_true, Bool.not_eq_false] at hc185
                refine WC.region ?_
                refine WL.val (.move (.of rfl)) rfl ?_
                refine WL.val (.move (.of rfl)) rfl ?_
                refine WL.val (.move (.of rfl)) rfl ?_
                refine WL.val (.move (.of rfl)) rfl ?_
                refine WL.val (.move (.of rfl)) rfl ?_
                rw [show F ++ ((Ua ++ Ub) ++ ((Va ++ Vb) ++ C)) = (F ++ Ua) ++ (Ub ++ (Va ++ (Vb ++ C))) by simp only [List.append_assoc]] at hS
                refine WL.call Try.func38 rfl (evs_cons (.of rfl) (evs_cons (.of rfl) (evs_cons (.of rfl) (evs_cons (.of rfl) (evs_cons (.of rfl) evs_nil))))) rfl (rot_any (F ++ Ua) Ub Va (Vb ++ C) (by omega) (by omega) (CF p) b0 n c r _ _ _ (by rw [List.length_append]; omega) (by rw [List.length_append]; omega) (by rw [List.length_append]; omega) (by omega) (by simp only [List.length_append]; omega) B w I As hS) ?_
                clear hS
                rintro _ w ⟨rfl, hS⟩
                refine WL.nil ?_
                rw [show (F ++ Ua) ++ (Va ++ (Ub ++ (Vb ++ C))) = F ++ (Ua ++ (Va ++ (Ub ++ (Vb ++ C)))) by simp only [List.append_assoc]] at hS
                exact ⟨(), ⟨rfl, rfl, rfl, rfl, rfl, rfl, rfl, trivial⟩, hS⟩
              ·
                have hc185 := hb185; try simp only [decide_eq_true_eq, decide_eq_false_iff_not, beq_iff_eq, beq_eq_false_iff_ne, bne_iff_ne, Bool.not_eq_true', Bool.not_eq_false', Bool.or_eq_true, Bool.and_eq_true, Bool.or_eq_false_iff, Bool.and_eq_false_iff, ne_eq, Int.not_lt, Int.not_le, bne_eq_false_iff_eq, Bool.not_eq_true, Bool.not_eq_false] at hc185
                refine WC.skip ?_
                have e : F ++ ((Ua ++ Ub) ++ ((Va ++ Vb) ++ C)) = F ++ (Ua ++ (Va ++ (Ub ++ (Vb ++ C)))) := by
                  rcases hc185 with h | h
                  · obtain rfl : Ub = [] := List.eq_nil_of_length_eq_zero (by omega)
                    simp only [List.append_assoc, List.nil_append]
                  · obtain rfl : Va = [] := List.eq_nil_of_length_eq_zero (by omega)
                    simp only [List.append_assoc, List.nil_append]
                rw [e] at hS
                exact ⟨(), ⟨rfl, rfl, rfl, rfl, rfl, rfl, rfl, trivial⟩, hS⟩
            ·
              rintro _ w hS
              change WC _ _ _ _ [(0, .slice (some (ad b0 0)) n c), (1, I64 ia), (3, I64 ib), (4, CF p), (18, I64 ((ia + ib) / 2)), (20, I64 s), (24, I64 (((ia + ib) / 2) + im - s))] w
              refine WC.cutS (σ := List Int) (fun M1 => [(0, .slice (some (ad b0 0)) n c), (1, I64 ia), (3, I64 ib), (4, CF p), (18, I64 ((ia + ib) / 2)), (20, I64 s), (24, I64 (((ia + ib) / 2) + im - s))]) (fun M1 w => M1.Perm (Ua ++ Va) ∧ Srt.So (kx l) M1 ∧ Sat B w I (blk b0 ((F ++ (M1 ++ (Ub ++ (Vb ++ C)))).map I64 ++ r) 3 :: As)) ?_ ?_
              ·
                refine WC.seq ?_
                refine WC.region ?_
                refine WL.val (.move (.of rfl)) rfl ?_
                refine WL.val (.move (.of rfl)) rfl ?_
                refine WL.val (.lss (.of rfl) (.of rfl)) rfl ?_
                refine WL.val (.move (.of rfl)) rfl ?_
                refine WL.gval rfl rfl (fun hg1 => (.move (.of rfl))) rfl ?_
                refine WL.gval rfl rfl (fun hg1 => (.move (.of rfl))) rfl ?_
                refine WL.gval rfl rfl (fun hg1 => (.lss (.gd hg1 rfl) (.gd hg1 rfl))) rfl ?_
                refine WL.val (.pand (.of rfl) (.of rfl) (.of rfl)) rfl ?_
                refine WL.nil ?_
                refine WC.cond rfl (fun hb199 => ?_) (fun hb199 => ?_)
                ·
                  have hc199 := hb199; try simp only [decide_eq_true_eq, decide_eq_false_iff_not, beq_iff_eq, beq_eq_false_iff_ne, bne_iff_ne, Bool.not_eq_true', Bool.not_eq_false', Bool.or_eq_true, Bool.and_eq_true, Bool.or_eq_false_iff, Bool.and_eq_false_iff, ne_eq, Int.not_lt, Int.not_le, bne_eq_false_iff_eq, Bool.not_eq_true, Bool.not_eq_false] at hc199
                  refine WC.region ?_
                  refine WL.val (.move (.of rfl)) rfl ?_
                  refine WL.val (.move (.of rfl)) rfl ?_
                  refine WL.val (.move (.of rfl)) rfl ?_
                  refine WL.val (.move (.of rfl)) rfl ?_
                  refine WL.val (.move (.of rfl)) rfl ?_
                  have hUa0 : 0 < Ua.length := by omega
                  have hVa0 : 0 < Va.length := by omega
                  refine WL.call Try.func36 rfl (evs_cons (.of rfl) (evs_cons (.of rfl) (evs_cons (.of rfl) (evs_cons (.of rfl) (evs_cons (.of rfl) evs_nil))))) rfl (ih F Ua Va (Ub ++ (Vb ++ C)) hUa hVa (Srt.cross_sub hc (fun _ h => List.mem_append_left _ h) (fun _ h => List.mem_append_left _ h)) (fun x hx => hin x (by rcases List.mem_append.1 hx with h | h <;> simp [h])) hUa0 hVa0 (by omega) b0 n c r _ _ _ (by omega) (by omega) (by omega) (by omega) (by simp only [List.length_append]; omega) B w As hS) ?_
                  clear hS
                  rintro _ w ⟨rfl, M1, hM1, hMs, hS⟩
                  refine WL.nil ?_
                  exact ⟨M1, ⟨rfl, rfl, rfl, rfl, rfl, rfl, rfl, trivial⟩, hM1, hMs, hS⟩
                ·
                  have hc199 := hb199; try simp only [decide_eq_true_eq, decide_eq_false_iff_not, beq_iff_eq, beq_eq_false_iff_ne, bne_iff_ne, Bool.not_eq_true', Bool.not_eq_false', Bool.or_eq_true, Bool.and_eq_true, Bool.or_eq_false_iff, Bool.and_eq_false_iff, ne_eq, Int.not_lt, Int.not_le, bne_eq_false_iff_eq, Bool.not_eq_true, Bool.not_eq_false] at hc199
                  refine WC.skip ?_
                  have e : Srt.So (kx l) (Ua ++ Va) := by
                    rcases hc199 with h | h
                    · obtain rfl : Ua = [] := List.eq_nil_of_length_eq_zero (by omega)
                      simpa using hVa
                    · obtain rfl : Va = [] := List.eq_nil_of_length_eq_zero (by omega)
                      simpa using hUa
                  refine ⟨Ua ++ Va, ⟨rfl, rfl, rfl, rfl, rfl, rfl, rfl, trivial⟩, .refl _, e, ?_⟩
                  rw [List.append_assoc]; exact hS
              ·
                rintro M1 w ⟨hM1, hMs, hS⟩
                change WC _ _ _ _ [(0, .slice (some (ad b0 0)) n c), (1, I64 ia), (3, I64 ib), (4, CF p), (18, I64 ((ia + ib) / 2)), (20, I64 s), (24, I64 (((ia + ib) / 2) + im - s))] w
                refine WC.seq ?_
                refine WC.region ?_
                refine WL.val (.move (.of rfl)) rfl ?_
                refine WL.val (.move (.of rfl)) rfl ?_
                refine WL.val (.lss (.of rfl) (.of rfl)) rfl ?_
                refine WL.val (.move (.of rfl)) rfl ?_
                refine WL.gval rfl rfl (fun hg1 => (.move (.of rfl))) rfl ?_
                refine WL.gval rfl rfl (fun hg1 => (.move (.of rfl))) rfl ?_
                refine WL.gval rfl rfl (fun hg1 => (.lss (.gd hg1 rfl) (.gd hg1 rfl))) rfl ?_
                refine WL.val (.pand (.of rfl) (.of rfl) (.of rfl)) rfl ?_
                refine WL.nil ?_
                refine WC.cond rfl (fun hb213 => ?_) (fun hb213 => ?_)
                ·
                  have hc213 := hb213; try simp only [decide_eq_true_eq, decide_eq_false_iff_not, beq_iff_eq, beq_eq_false_iff_ne, bne_iff_ne, Bool.not_eq_true', Bool.not_eq_false', Bool.or_eq_true, Bool.and_eq_true, Bool.or_eq_false_iff, Bool.and_eq_false_iff, ne_eq, Int.not_lt, Int.not_le, bne_eq_false_iff_eq, Bool.not_eq_true, Bool.not_eq_false] at hc213
                  refine WC.region ?_
                  refine WL.val (.move (.of rfl)) rfl ?_
                  refine WL.val (.move (.of rfl)) rfl ?_
                  refine WL.val (.move (.of rfl)) rfl ?_
                  refine WL.val (.move (.of rfl)) rfl ?_
                  refine WL.val (.move (.of rfl)) rfl ?_
                  have hUb0 : 0 < Ub.length := by omega
                  have hVb0 : 0 < Vb.length := by omega
                  have hMl := hM1.length_eq
                  rw [List.length_append] at hMl
                  rw [show F ++ (M1 ++ (Ub ++ (Vb ++ C))) = (F ++ M1) ++ (Ub ++ (Vb ++ C)) by simp only [List.append_assoc]] at hS
                  refine WL.call Try.func36 rfl (evs_cons (.of rfl) (evs_cons (.of rfl) (evs_cons (.of rfl) (evs_cons (.of rfl) (evs_cons (.of rfl) evs_nil))))) rfl (ih (F ++ M1) Ub Vb C hUb hVb (Srt.cross_sub hc (fun _ h => List.mem_append_right _ h) (fun _ h => List.mem_append_right _ h)) (fun x hx => hin x (by rcases List.mem_append.1 hx with h | h <;> simp [h])) hUb0 hVb0 (by omega) b0 n c r _ _ _ (by rw [List.length_append]; omega) (by rw [List.length_append]; omega) (by rw [List.length_append]; omega) (by omega) (by simp only [List.length_append]; omega) B w As hS) ?_
                  clear hS
                  rintro _ w ⟨rfl, M2, hM2, hMs2, hS⟩
                  refine WL.nil ?_
                  refine end0 Try.results36 ?_
                  have hPM : (M1 ++ M2).Perm (U ++ V) := by
                    rw [hUab, hVab]
                    refine (hM1.append hM2).trans ?_
                    simp only [List.append_assoc]
                    refine List.Perm.append_left Ua ?_
                    rw [← List.append_assoc, ← List.append_assoc]
                    exact List.perm_append_comm.append_right Vb
                  have hSM : Srt.So (kx l) (M1 ++ M2) := Srt.so_app hMs hMs2 (fun x hx y hy => hsp2 x (hM1.mem_iff.1 hx) y (hM2.mem_iff.1 hy))
                  exact ⟨_, rfl, rfl, M1 ++ M2, hPM, hSM, by simpa using hS⟩
                ·
                  have hc213 := hb213; try simp only [decide_eq_true_eq, decide_eq_false_iff_not, beq_iff_eq, beq_eq_false_iff_ne, bne_iff_ne, Bool.not_eq_true', Bool.not_eq_false', Bool.or_eq_true, Bool.and_eq_true, Bool.or_eq_false_iff, Bool.and_eq_false_iff, ne_eq, Int.not_lt, Int.not_le, bne_eq_false_iff_eq, Bool.not_eq_true, Bool.not_eq_false] at hc213
                  refine WC.skip ?_
                  refine end0 Try.results36 ?_
                  obtain ⟨M2, hM2e⟩ : ∃ M2, M2 = Ub ++ Vb := ⟨_, rfl⟩
                  have hM2 : M2.Perm (Ub ++ Vb) := by rw [hM2e]
                  have hMs2 : Srt.So (kx l) M2 := by
                    rw [hM2e]
                    rcases hc213 with h | h
                    · obtain rfl : Ub = [] := List.eq_nil_of_length_eq_zero (by omega)
                      simpa using hVb
                    · obtain rfl : Vb = [] := List.eq_nil_of_length_eq_zero (by omega)
                      simpa using hUb
                  have hPM : (M1 ++ M2).Perm (U ++ V) := by
                    rw [hUab, hVab]
                    refine (hM1.append hM2).trans ?_
                    simp only [List.append_assoc]
                    refine List.Perm.append_left Ua ?_
                    rw [← List.append_assoc, ← List.append_assoc]
                    exact List.perm_append_comm.append_right Vb
                  have hSM : Srt.So (kx l) (M1 ++ M2) := Srt.so_app hMs hMs2 (fun x hx y hy => hsp2 x (hM1.mem_iff.1 hx) y (hM2.mem_iff.1 hy))
                  refine ⟨_, rfl, rfl, M1 ++ M2, hPM, hSM, ?_⟩
                  rw [hM2e]; simpa using hS
end Go.Proofs.Ytfmdhpgfbojjaaa
