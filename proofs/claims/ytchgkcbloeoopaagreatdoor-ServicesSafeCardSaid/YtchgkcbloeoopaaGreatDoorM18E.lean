/- Part 5 of what the proof stands on: W16e, W16f, W16g, W18l, W17a, W18m, W18n. -/
import Derived.Test.YtchgkcbloeoopaaGreatDoorM18D
import Derived.Test.YtchgkcbloeoopaaGreatDoorChecked
namespace Go.Proofs.YtchgkcbloeoopaaGreatDoor
open Gk Rk
set_option linter.unusedVariables false
set_option linter.unusedSimpArgs false
theorem rot_any (F X Y C : List Int) (hX0 : 0 < X.length) (hY0 : 0 < Y.length) (cv : Value) (b0 n c : Nat) (r : List Value) (ia im ib : Int) (hia : ia = F.length) (him : im = F.length + X.length) (hib : ib = F.length + X.length + Y.length) (hn : ib ≤ n) (hbb : F.length + (X.length + (Y.length + C.length)) ≤ 1000000) (B w : World) (I : Im) (As : List Assn) (hS : Sat B w I (blk b0 ((F ++ (X ++ (Y ++ C))).map I64 ++ r) 3 :: As)) :
  Calls Tryz.prog 93 [.slice (some (ad b0 0)) n c, I64 ia, I64 im, I64 ib, cv].toArray w (Ret fun v w' => v = .tuple #[] ∧ Sat B w' I (blk b0 ((F ++ (Y ++ (X ++ C))).map I64 ++ r) 3 :: As)) := by
 refine calls Tryz.func93 rfl Tryz.ntmps93 rfl ?_
 refine WC.seq ?_
 refine WC.region ?_
 refine WL.val (.move (.of rfl)) rfl ?_
 refine WL.val (.move (.of rfl)) rfl ?_
 refine WL.val (.sub (.of rfl) (.of rfl) ⟨by omega, by omega⟩) rfl ?_
 refine WL.val (.assign (.of rfl)) rfl ?_
 refine WL.nil ?_
 refine WC.seq ?_
 refine WC.region ?_
 refine WL.val (.move (.of rfl)) rfl ?_
 refine WL.val (.move (.of rfl)) rfl ?_
 refine WL.val (.sub (.of rfl) (.of rfl) ⟨by omega, by omega⟩) rfl ?_
 refine WL.val (.assign (.of rfl)) rfl ?_
 refine WL.nil ?_
 refine WC.seq ?_
 refine WC.block ?_
 refine WC.loop (σ := Int × Int × List Int × List Int × List Int × List Int) (fun ⟨i, j, F1, X1, Y1, C1⟩ => [(0, .slice (some (ad b0 0)) n c), (2, I64 im), (4, cv), (10, I64 i), (11, I64 j)]) (fun ⟨i, j, F1, X1, Y1, C1⟩ w => F1 ++ (Y1 ++ (X1 ++ C1)) = F ++ (Y ++ (X ++ C)) ∧ i = X1.length ∧ j = Y1.length ∧ 0 < X1.length ∧ 0 < Y1.length ∧ F1.length + X1.length = F.length + X.length ∧ X1.length + Y1.length ≤ X.length + Y.length ∧ Y1.length ≤ Y.length ∧ Sat B w I (blk b0 ((F1 ++ (X1 ++ (Y1 ++ C1))).map I64 ++ r) 3 :: As)) (fun ⟨i, j, F1, X1, Y1, C1⟩ => X1.length + Y1.length) (im - ia, ib - im, F, X, Y, C) ⟨rfl, rfl, rfl, rfl, rfl, trivial⟩ ⟨rfl, by (try dsimp only); omega, by (try dsimp only); omega, hX0, hY0, rfl, Nat.le_refl _, Nat.le_refl _, hS⟩ ?_
 rintro ⟨i, j, F1, X1, Y1, C1⟩ w ⟨hG, hi, hj, hx0, hy0, hFX, hXY, hYY, hS⟩
 change WC _ _ _ _ [(0, .slice (some (ad b0 0)) n c), (2, I64 im), (4, cv), (10, I64 i), (11, I64 j)] w
 have hGl := congrArg List.length hG
 simp only [List.length_append] at hGl
 refine WC.seq ?_
 refine WC.seq ?_
 refine WC.region ?_
 refine WL.val (.move (.of rfl)) rfl ?_
 refine WL.val (.move (.of rfl)) rfl ?_
 refine WL.val (.neq (.of rfl) (.of rfl)) rfl ?_
 refine WL.nil ?_
 refine WC.cond rfl (fun hb20 => ?_) (fun hb20 => ?_)
 ·
  have hc20 := hb20; try simp only [Gk.cs0] at hc20
  refine WC.skip ?_
  refine WC.block ?_
  refine WC.seq ?_
  refine WC.region ?_
  refine WL.val (.move (.of rfl)) rfl ?_
  refine WL.val (.move (.of rfl)) rfl ?_
  refine WL.val (.gtr (.of rfl) (.of rfl)) rfl ?_
  refine WL.nil ?_
  refine WC.cond rfl (fun hb23 => ?_) (fun hb23 => ?_)
  ·
   have hc23 := hb23; try simp only [Gk.cs0] at hc23
   refine WC.seq ?_
   refine WC.region ?_
   refine WL.val (.move (.of rfl)) rfl ?_
   refine WL.val (.move (.of rfl)) rfl ?_
   refine WL.val (.move (.of rfl)) rfl ?_
   refine WL.val (.sub (.of rfl) (.of rfl) ⟨by omega, by omega⟩) rfl ?_
   refine WL.val (.move (.of rfl)) rfl ?_
   refine WL.val (.move (.of rfl)) rfl ?_
   refine WL.val (.move (.of rfl)) rfl ?_
   obtain ⟨Xa, Xb, rfl, hXa⟩ : ∃ Xa Xb, X1 = Xa ++ Xb ∧ Xa.length = Y1.length := ⟨X1.take Y1.length, X1.drop Y1.length, (List.take_append_drop _ _).symm, by rw [List.length_take]; omega⟩
   simp only [List.length_append] at hi hx0 hFX hXY hGl
   rw [List.append_assoc] at hS
   refine WL.call Tryz.func105 rfl (evs_cons (.of rfl) (evs_cons (.of rfl) (evs_cons (.of rfl) (evs_cons (.of rfl) (evs_cons (.of rfl) evs_nil))))) rfl (swapRange_at F1 Xa Xb Y1 C1 (by omega) cv b0 n c r _ _ _ (by omega) (by omega) (by omega) (by omega) (by omega) B w I As hS) ?_
   clear hS
   rintro _ w ⟨rfl, hS⟩
   refine WL.nil ?_
   refine WC.region ?_
   refine WL.val (.move (.of rfl)) rfl ?_
   refine WL.val (.move (.of rfl)) rfl ?_
   refine WL.val (.sub (.of rfl) (.of rfl) ⟨by omega, by omega⟩) rfl ?_
   refine WL.val (.assign (.of rfl)) rfl ?_
   refine WL.nil ?_
   refine ⟨(i - j, j, F1 ++ Y1, Xb, Xa, C1), ⟨rfl, rfl, rfl, rfl, rfl, trivial⟩, ⟨by rw [← hG]; simp only [List.append_assoc], by (try dsimp only); omega, by (try dsimp only); omega, by omega, by omega, by simp only [List.length_append]; omega, by omega, by omega, ?_⟩, by (try dsimp only); simp only [List.length_append]; omega⟩
   rw [List.append_assoc]; exact hS
  ·
   have hc23 := hb23; try simp only [Gk.cs0] at hc23
   refine WC.seq ?_
   refine WC.region ?_
   refine WL.val (.move (.of rfl)) rfl ?_
   refine WL.val (.move (.of rfl)) rfl ?_
   refine WL.val (.move (.of rfl)) rfl ?_
   refine WL.val (.sub (.of rfl) (.of rfl) ⟨by omega, by omega⟩) rfl ?_
   refine WL.val (.move (.of rfl)) rfl ?_
   refine WL.val (.move (.of rfl)) rfl ?_
   refine WL.val (.add (.of rfl) (.of rfl) ⟨by omega, by omega⟩) rfl ?_
   refine WL.val (.move (.of rfl)) rfl ?_
   refine WL.val (.sub (.of rfl) (.of rfl) ⟨by omega, by omega⟩) rfl ?_
   refine WL.val (.move (.of rfl)) rfl ?_
   refine WL.val (.move (.of rfl)) rfl ?_
   obtain ⟨Ya, Yb, rfl, hYb⟩ : ∃ Ya Yb, Y1 = Ya ++ Yb ∧ Yb.length = X1.length := ⟨Y1.take (Y1.length - X1.length), Y1.drop (Y1.length - X1.length), (List.take_append_drop _ _).symm, by rw [List.length_drop]; omega⟩
   simp only [List.length_append] at hj hy0 hXY hGl hYY
   rw [List.append_assoc Ya] at hS
   refine WL.call Tryz.func105 rfl (evs_cons (.of rfl) (evs_cons (.of rfl) (evs_cons (.of rfl) (evs_cons (.of rfl) (evs_cons (.of rfl) evs_nil))))) rfl (swapRange_at F1 X1 Ya Yb C1 (by omega) cv b0 n c r _ _ _ (by omega) (by omega) (by omega) (by omega) (by omega) B w I As hS) ?_
   clear hS
   rintro _ w ⟨rfl, hS⟩
   refine WL.nil ?_
   refine WC.region ?_
   refine WL.val (.move (.of rfl)) rfl ?_
   refine WL.val (.move (.of rfl)) rfl ?_
   refine WL.val (.sub (.of rfl) (.of rfl) ⟨by omega, by omega⟩) rfl ?_
   refine WL.val (.assign (.of rfl)) rfl ?_
   refine WL.nil ?_
   refine ⟨(i, j - i, F1, Yb, Ya, X1 ++ C1), ⟨rfl, rfl, rfl, rfl, rfl, trivial⟩, ⟨by rw [← hG]; simp only [List.append_assoc], by (try dsimp only); omega, by (try dsimp only); omega, by omega, by omega, by omega, by omega, by omega, hS⟩, by (try dsimp only); simp only [List.length_append]; omega⟩
 ·
  have hc20 := hb20; try simp only [Gk.cs0] at hc20
  refine WC.exit ?_
  refine WC.region ?_
  refine WL.val (.move (.of rfl)) rfl ?_
  refine WL.val (.move (.of rfl)) rfl ?_
  refine WL.val (.move (.of rfl)) rfl ?_
  refine WL.val (.sub (.of rfl) (.of rfl) ⟨by omega, by omega⟩) rfl ?_
  refine WL.val (.move (.of rfl)) rfl ?_
  refine WL.val (.move (.of rfl)) rfl ?_
  refine WL.val (.move (.of rfl)) rfl ?_
  refine WL.call Tryz.func105 rfl (evs_cons (.of rfl) (evs_cons (.of rfl) (evs_cons (.of rfl) (evs_cons (.of rfl) (evs_cons (.of rfl) evs_nil))))) rfl (swapRange_at F1 X1 [] Y1 C1 (by omega) cv b0 n c r _ _ _ (by omega) (by simp only [List.length_nil]; omega) (by omega) (by simp only [List.length_nil]; omega) (by simp only [List.length_nil]; omega) B w I As hS) ?_
  clear hS
  rintro _ w ⟨rfl, hS⟩
  refine WL.nil ?_
  refine end0 Tryz.results93 ?_
  rw [List.nil_append, hG] at hS
  exact ⟨_, rfl, rfl, hS⟩
set_option maxHeartbeats 1000000 in
theorem sym_any {l : List Nat} {p : Addr} {I : Im} (hx : Cx I l p) : ∀ (N : Nat) (F U V C : List Int), Srt.So (kx l) U → Srt.So (kx l) V → Srt.cross U V → (∀ x ∈ U ++ V, 0 ≤ x ∧ x < (l.length : Int)) → 0 < U.length → 0 < V.length → U.length + V.length ≤ N →
  ∀ (b0 n c : Nat) (r : List Value) (ia im ib : Int), ia = F.length → im = F.length + U.length → ib = F.length + U.length + V.length → ib ≤ n → F.length + (U.length + (V.length + C.length)) ≤ 1000000 → ∀ (B w : World) (As : List Assn), Sat B w I (blk b0 ((F ++ (U ++ (V ++ C))).map I64 ++ r) 3 :: As) →
  Calls Tryz.prog 82 [.slice (some (ad b0 0)) n c, I64 ia, I64 im, I64 ib, CF p].toArray w (Ret fun v w' => v = .tuple #[] ∧ ∃ M, M.Perm (U ++ V) ∧ Srt.So (kx l) M ∧ Sat B w' I (blk b0 ((F ++ (M ++ C)).map I64 ++ r) 3 :: As)) := by
 intro N
 induction N with
 | zero => intros; omega
 | succ N ih =>
  intro F U V C hU hV hc hin hU0 hV0 hN b0 n c r ia im ib hia him hib hn hbb B w As hS
  refine calls Tryz.func82 rfl Tryz.ntmps82 rfl ?_
  refine WC.seq ?_
  refine WC.seq ?_
  have hUV : ∀ v ∈ U ++ V, 0 ≤ v ∧ v < (l.length : Int) := hin
  obtain ⟨D, hD⟩ : ∃ D, D = F ++ (U ++ (V ++ C)) := ⟨_, rfl⟩
  rw [← hD] at hS
  have hDl : D.length = F.length + (U.length + (V.length + C.length)) := by rw [hD]; simp only [List.length_append]
  have hin2 : ∀ q : Nat, F.length ≤ q → q < F.length + (U.length + V.length) → 0 ≤ D.getD q 0 ∧ D.getD q 0 < (l.length : Int) := fun q h1 h2 => by
   refine hUV _ ?_
   have e : D = F ++ ((U ++ V) ++ C) := by rw [hD]; simp only [List.append_assoc]
   rw [e]
   exact Srt.get_mid h1 (by rw [List.length_append]; exact h2)
  have hDU : ∀ q : Nat, q < U.length → D.getD (F.length + q) 0 = U.getD q 0 := fun q hq => by
   rw [hD, Srt.get_app2 (by omega), show F.length + q - F.length = q by omega, Srt.get_app1 hq]
  have hDV : ∀ q : Nat, q < V.length → D.getD (F.length + U.length + q) 0 = V.getD q 0 := fun q hq => by
   rw [hD, Srt.get_app2 (by omega), Srt.get_app2 (by omega), show F.length + U.length + q - F.length - U.length = q by omega, Srt.get_app1 hq]
  refine WC.region ?_
  refine WL.val (.move (.of rfl)) rfl ?_
  refine WL.val (.move (.of rfl)) rfl ?_
  refine WL.val (.sub (.of rfl) (.of rfl) ⟨by omega, by omega⟩) rfl ?_
  refine WL.val (.eql (.of rfl) (.of rfl)) rfl ?_
  refine WL.nil ?_
  refine WC.cond rfl (fun hb28 => ?_) (fun hb28 => ?_)
  ·
   have hc28 := hb28; try simp only [Gk.cs0] at hc28
   refine WC.seq ?_
   obtain ⟨x, U0, rfl⟩ := Srt.cons_of hU0
   obtain rfl : U0 = [] := List.eq_nil_of_length_eq_zero (by simp only [List.length_cons] at him; omega)
   have hDx : D.getD ia.toNat 0 = x := by have := hDU 0 (by simp); rw [show ia.toNat = F.length + 0 by omega]; simpa using this
   simp only [List.length_cons, List.length_nil] at him hib hbb hDl hin2 hDV
   refine WC.region ?_
   refine WL.val (.move (.of rfl)) rfl ?_
   refine WL.val (.assign (.of rfl)) rfl ?_
   refine WL.nil ?_
   refine WC.seq ?_
   refine WC.region ?_
   refine WL.val (.move (.of rfl)) rfl ?_
   refine WL.val (.assign (.of rfl)) rfl ?_
   refine WL.nil ?_
   refine WC.seq ?_
   refine WC.block ?_
   refine WC.loop (σ := Int × Int) (fun ⟨i, j⟩ => [(0, .slice (some (ad b0 0)) n c), (1, I64 ia), (2, I64 im), (3, I64 ib), (4, CF p), (10, I64 i), (11, I64 j)]) (fun ⟨i, j⟩ w => im ≤ i ∧ i ≤ j ∧ j ≤ ib ∧ (i = im ∨ kx l (D.getD (i - 1).toNat 0) < kx l x) ∧ (j = ib ∨ ¬ kx l (D.getD j.toNat 0) < kx l x) ∧ Sat B w I (blk b0 ((D).map I64 ++ r) 3 :: As)) (fun ⟨i, j⟩ => (j - i).toNat) (im, ib) ⟨rfl, rfl, rfl, rfl, rfl, rfl, rfl, trivial⟩ ⟨Int.le_refl _, by (try dsimp only); omega, Int.le_refl _, .inl rfl, .inl rfl, hS⟩ ?_
   rintro ⟨i, j⟩ w ⟨hi1, hij, hj1, hb1, hb2, hS⟩
   change WC _ _ _ _ [(0, .slice (some (ad b0 0)) n c), (1, I64 ia), (2, I64 im), (3, I64 ib), (4, CF p), (10, I64 i), (11, I64 j)] w
   refine WC.seq ?_
   refine WC.seq ?_
   refine WC.region ?_
   refine WL.val (.move (.of rfl)) rfl ?_
   refine WL.val (.move (.of rfl)) rfl ?_
   refine WL.val (.lss (.of rfl) (.of rfl)) rfl ?_
   refine WL.nil ?_
   refine WC.cond rfl (fun hb33 => ?_) (fun hb33 => ?_)
   ·
    have hc33 := hb33; try simp only [Gk.cs0] at hc33
    refine WC.skip ?_
    refine WC.block ?_
    refine WC.seq ?_
    refine WC.region ?_
    refine WL.val (.move (.of rfl)) rfl ?_
    refine WL.val (.move (.of rfl)) rfl ?_
    refine WL.val (.add (.of rfl) (.of rfl) ⟨by omega, by omega⟩) rfl ?_
    refine WL.val (.cvi (.of rfl) Tryz.underlying3 Tryz.underlying125 (by rw [IntKind.wrap_u64]; omega)) rfl ?_
    refine WL.val (.shr1 (.of rfl) (.of rfl) (by decide)) rfl ?_
    refine WL.val (.cvi (.of rfl) Tryz.underlying125 Tryz.underlying3 (by rw [IntKind.wrap_i64]; omega)) rfl ?_
    refine WL.val (.assign (.of rfl)) rfl ?_
    refine WL.nil ?_
    refine WC.seq ?_
    refine WC.quiet (by kernel_rfl) (by kernel_rfl) hS ?_
    refine WQ.val (fun w hS => (.move (.of rfl))) rfl ?_
    refine WQ.val (fun w hS => (.move (.of rfl))) rfl ?_
    refine WQ.val (fun w hS => (.move (.of rfl))) rfl ?_
    refine WQ.val (fun w hS => (by first | exact .indexAddr (.of rfl) (.of rfl) (by omega) (by omega) Tryz.underlying68 Tryz.sizeOf3 | exact .indexAddrI (.of rfl) (.of rfl) (by omega) (by omega) Tryz.underlying68 Tryz.sizeOf3)) rfl ?_
    refine WQ.val (fun w hS => .ldE I64 D 0 r (i := ((i + j) / 2)) (.of rfl) hS (k := 0) rfl rfl Tryz.isAgg3 (by omega) (by omega)) rfl ?_
    refine WQ.val (fun w hS => (.move (.of rfl))) rfl ?_
    refine WQ.val (fun w hS => (.move (.of rfl))) rfl ?_
    refine WQ.val (fun w hS => (by first | exact .indexAddr (.of rfl) (.of rfl) (by omega) (by omega) Tryz.underlying68 Tryz.sizeOf3 | exact .indexAddrI (.of rfl) (.of rfl) (by omega) (by omega) Tryz.underlying68 Tryz.sizeOf3)) rfl ?_
    refine WQ.val (fun w hS => .ldE I64 D 0 r (i := ia) (.of rfl) hS (k := 0) rfl rfl Tryz.isAgg3 (by omega) (by omega)) rfl ?_
    refine WQ.vcall Tryz.func53 rfl (.of rfl) (evs_cons (.of rfl) (evs_cons (.of rfl) evs_nil)) rfl (fun w hS => by have hj1 := hin2 (((i + j) / 2)).toNat (by omega) (by omega); have hj2 := hin2 (ia).toNat (by omega) (by omega); exact cmp_any hx _ _ hj1.1 hj1.2 hj2.1 hj2.2 B w _ hS) ?_
    refine WQ.val (fun w hS => (.lss (.of rfl) (.of rfl))) rfl ?_
    refine WQ.nil ?_
    clear hS; intro w hS
    refine WC.cond rfl (fun hb50 => ?_) (fun hb50 => ?_)
    ·
     have hc50 := hb50; try simp only [Gk.cs0] at hc50
     refine WC.region ?_
     refine WL.val (.move (.of rfl)) rfl ?_
     refine WL.val (.add (.of rfl) (.of rfl) ⟨by omega, by omega⟩) rfl ?_
     refine WL.val (.assign (.of rfl)) rfl ?_
     refine WL.nil ?_
     have h9 := Srt.cmpv_neg.1 hc50
     rw [hDx] at h9
     exact ⟨((i + j) / 2 + 1, j), ⟨rfl, rfl, rfl, rfl, rfl, rfl, rfl, trivial⟩, ⟨by (try dsimp only); omega, by (try dsimp only); omega, hj1, .inr (by (try dsimp only); rw [show (i + j) / 2 + 1 - 1 = (i + j) / 2 by omega]; exact h9), hb2, hS⟩, by (try dsimp only); omega⟩
    ·
     have hc50 := hb50; try simp only [Gk.cs0] at hc50
     refine WC.region ?_
     refine WL.val (.move (.of rfl)) rfl ?_
     refine WL.val (.assign (.of rfl)) rfl ?_
     refine WL.nil ?_
     have h9 : ¬ _ := fun h => (Int.not_lt.2 hc50) (Srt.cmpv_neg.2 h)
     rw [hDx] at h9
     exact ⟨(i, (i + j) / 2), ⟨rfl, rfl, rfl, rfl, rfl, rfl, rfl, trivial⟩, ⟨hi1, by (try dsimp only); omega, by (try dsimp only); omega, hb1, .inr h9, hS⟩, by (try dsimp only); omega⟩
   ·
    have hc33 := hb33; try simp only [Gk.cs0] at hc33
    refine WC.exit ?_
    refine WC.seq ?_
    refine WC.seq ?_
    have hij : i = j := by omega
    subst hij
    have hiV : (i - im).toNat ≤ V.length := by omega
    have hso : Srt.So (kx l) (V.take (i - im).toNat ++ x :: V.drop (i - im).toNat) := by
     refine Srt.so_left hV (fun v hv => hc x (by simp) v hv) hiV ?_ ?_
     ·by_cases hz : i = im
      ·exact .inl (by omega)
      ·refine .inr ?_
       have h := hb1.resolve_left hz
       rw [← hDV ((i - im).toNat - 1) (by omega), show F.length + (0 + 1) + ((i - im).toNat - 1) = (i - 1).toNat by omega]
       exact h
     ·by_cases hz : i = ib
      ·exact .inl (by omega)
      ·refine .inr ?_
       have h := hb2.resolve_left hz
       rw [← hDV (i - im).toNat (by omega), show F.length + (0 + 1) + (i - im).toNat = i.toNat by omega]
       exact h
    obtain ⟨Va, Vb, hVab, hVal, hso2⟩ : ∃ Va Vb, V = Va ++ Vb ∧ (Va.length : Int) = i - im ∧ Srt.So (kx l) (Va ++ x :: Vb) := ⟨_, _, (List.take_append_drop (i - im).toNat V).symm, by rw [List.length_take]; omega, hso⟩
    refine WC.region ?_
    refine WL.val (.move (.of rfl)) rfl ?_
    refine WL.val (.assign (.of rfl)) rfl ?_
    refine WL.nil ?_
    refine WC.block ?_
    refine WC.loop (σ := Int × List Int × List Int) (fun ⟨k, Vc, Vd⟩ => [(0, .slice (some (ad b0 0)) n c), (10, I64 i), (13, I64 k)]) (fun ⟨k, Vc, Vd⟩ w => k = (F.length : Int) + Vc.length ∧ Vc ++ Vd = Va ∧ Sat B w I (blk b0 ((F ++ (Vc ++ x :: (Vd ++ (Vb ++ C)))).map I64 ++ r) 3 :: As)) (fun ⟨k, Vc, Vd⟩ => Vd.length) (ia, [], Va) ⟨rfl, rfl, rfl, trivial⟩ ⟨by simp only [List.length_nil]; omega, rfl, by rw [hD, hVab] at hS; simpa using hS⟩ ?_
    rintro ⟨k, Vc, Vd⟩ w ⟨hk, hcd, hS⟩
    change WC _ _ _ _ [(0, .slice (some (ad b0 0)) n c), (10, I64 i), (13, I64 k)] w
    have hcl := congrArg List.length hcd
    rw [List.length_append] at hcl
    have hVl := congrArg List.length hVab
    rw [List.length_append] at hVl
    obtain ⟨E, hE⟩ : ∃ E, E = F ++ (Vc ++ x :: (Vd ++ (Vb ++ C))) := ⟨_, rfl⟩
    rw [← hE] at hS
    have hEl : E.length = F.length + (Vc.length + 1 + Vd.length + (Vb.length + C.length)) := by rw [hE]; simp only [List.length_append, List.length_cons]; omega
    refine WC.seq ?_
    refine WC.seq ?_
    refine WC.region ?_
    refine WL.val (.move (.of rfl)) rfl ?_
    refine WL.val (.move (.of rfl)) rfl ?_
    refine WL.val (.sub (.of rfl) (.of rfl) ⟨by omega, by omega⟩) rfl ?_
    refine WL.val (.lss (.of rfl) (.of rfl)) rfl ?_
    refine WL.nil ?_
    refine WC.cond rfl (fun hb58 => ?_) (fun hb58 => ?_)
    ·
     have hc58 := hb58; try simp only [Gk.cs0] at hc58
     refine WC.skip ?_
     refine WC.seq ?_
     refine WC.block ?_
     refine WC.drawn (fun w => ∃ R, Sat B w I (blk b0 ((E).map I64 ++ r) 3 :: R)) (fun j => !([15, 17].contains j)) (by kernel_rfl) ?_
     replace hS := hS.drew; generalize w.drew = w at hS ⊢
     have hH : ∃ R, Sat B w I (blk b0 ((E).map I64 ++ r) 3 :: R) := ⟨_, (hS.pick 0 rfl)⟩
     refine WD.takeP (i := 0) rfl (by kernel_rfl) (by kernel_rfl) (by kernel_rfl) (fun w => (.move (.of rfl))) rfl ?_
     refine WD.takeP (i := 1) rfl (by kernel_rfl) (by kernel_rfl) (by kernel_rfl) (fun w => (.move (.of rfl))) rfl ?_
     refine WD.takeP (i := 2) rfl (by kernel_rfl) (by kernel_rfl) (by kernel_rfl) (fun w => (.move (.of rfl))) rfl ?_
     refine WD.takeP (i := 3) rfl (by kernel_rfl) (by kernel_rfl) (by kernel_rfl) (fun w => (.move (.of rfl))) rfl ?_
     refine WD.takeP (i := 4) rfl (by kernel_rfl) (by kernel_rfl) (by kernel_rfl) (fun w => (.add (.of rfl) (.of rfl) ⟨by omega, by omega⟩)) rfl ?_
     refine WD.takeP (i := 5) rfl (by kernel_rfl) (by kernel_rfl) (by kernel_rfl) (fun w => (.move (.of rfl))) rfl ?_
     refine WD.takeP (i := 6) rfl (by kernel_rfl) (by kernel_rfl) (by kernel_rfl) (fun w => (.move (.of rfl))) rfl ?_
     refine WD.takeP (i := 7) rfl (by kernel_rfl) (by kernel_rfl) (by kernel_rfl) (fun w => (.add (.of rfl) (.of rfl) ⟨by omega, by omega⟩)) rfl ?_
     refine WD.takeP (i := 8) rfl (by kernel_rfl) (by kernel_rfl) (by kernel_rfl) (fun w => (by first | exact .indexAddr (.of rfl) (.of rfl) (by omega) (by omega) Tryz.underlying68 Tryz.sizeOf3 | exact .indexAddrI (.of rfl) (.of rfl) (by omega) (by omega) Tryz.underlying68 Tryz.sizeOf3)) rfl ?_
     refine WD.take (i := 9) rfl (by kernel_rfl) (by kernel_rfl) (by kernel_rfl) (by kernel_rfl) hH (fun w ⟨R, hS⟩ => .ldE I64 E 0 r (i := k + 1) (.of rfl) hS (k := 0) rfl rfl Tryz.isAgg3 (by omega) (by omega)) rfl ?_
     refine WD.takeP (i := 10) rfl (by kernel_rfl) (by kernel_rfl) (by kernel_rfl) (fun w => (.move (.of rfl))) rfl ?_
     refine WD.takeP (i := 11) rfl (by kernel_rfl) (by kernel_rfl) (by kernel_rfl) (fun w => (.move (.of rfl))) rfl ?_
     refine WD.takeP (i := 12) rfl (by kernel_rfl) (by kernel_rfl) (by kernel_rfl) (fun w => (by first | exact .indexAddr (.of rfl) (.of rfl) (by omega) (by omega) Tryz.underlying68 Tryz.sizeOf3 | exact .indexAddrI (.of rfl) (.of rfl) (by omega) (by omega) Tryz.underlying68 Tryz.sizeOf3)) rfl ?_
     refine WD.take (i := 13) rfl (by kernel_rfl) (by kernel_rfl) (by kernel_rfl) (by kernel_rfl) hH (fun w ⟨R, hS⟩ => .ldE I64 E 0 r (i := k) (.of rfl) hS (k := 0) rfl rfl Tryz.isAgg3 (by omega) (by omega)) rfl ?_
     refine WD.takeP (i := 14) rfl (by kernel_rfl) (by kernel_rfl) (by kernel_rfl) (fun w => (by first | exact .indexAddr (.of rfl) (.of rfl) (by omega) (by omega) Tryz.underlying68 Tryz.sizeOf3 | exact .indexAddrI (.of rfl) (.of rfl) (by omega) (by omega) Tryz.underlying68 Tryz.sizeOf3)) rfl ?_
     refine WD.branch [15] (by kernel_rfl) rfl (WO.cons rfl ?_ (WO.nil))
     refine WL.stE I64 _ r hS (k := 0) rfl (.of rfl) (.of rfl) rfl rfl Tryz.sizeOf3 (by omega) (by (try rw [List.length_set]); omega) ?_
     clear hS; intro w hS; dsimp only [List.set] at hS
     refine WL.nil ?_
     refine And.intro (by intro h; cases h) ?_
     refine WD.takeP (i := 16) rfl (by kernel_rfl) (by kernel_rfl) (by kernel_rfl) (fun w => (by first | exact .indexAddr (.of rfl) (.of rfl) (by omega) (by omega) Tryz.underlying68 Tryz.sizeOf3 | exact .indexAddrI (.of rfl) (.of rfl) (by omega) (by omega) Tryz.underlying68 Tryz.sizeOf3)) rfl ?_
     refine WD.branch [17] (by kernel_rfl) rfl (WO.cons rfl ?_ (WO.nil))
     refine WL.stE I64 _ r hS (k := 0) rfl (.of rfl) (.of rfl) rfl rfl Tryz.sizeOf3 (by omega) (by (try rw [List.length_set]); omega) ?_
     clear hS; intro w hS; dsimp only [List.set] at hS
     refine WL.nil ?_
     refine And.intro (by intro h; cases h) ?_
     refine WD.done (by kernel_rfl) ?_
     refine WC.region ?_
     refine WL.val (.move (.of rfl)) rfl ?_
     refine WL.val (.add (.of rfl) (.of rfl) ⟨by omega, by omega⟩) rfl ?_
     refine WL.val (.assign (.of rfl)) rfl ?_
     refine WL.nil ?_
     obtain ⟨y, Ve, rfl⟩ := Srt.cons_of (U := Vd) (by omega)
     have e1 : E = (F ++ Vc) ++ x :: y :: (Ve ++ (Vb ++ C)) := by rw [hE]; simp only [List.append_assoc, List.cons_append]
     have e := Srt.swp_adj (F ++ Vc) (Ve ++ (Vb ++ C)) x y
     rw [← e1, show (F ++ Vc).length = k.toNat by rw [List.length_append]; omega, show k.toNat + 1 = (k + 1).toNat by omega] at e
     unfold Srt.swp at e
     rw [e] at hS
     refine ⟨(k + 1, Vc ++ [y], Ve), ⟨rfl, rfl, rfl, trivial⟩, ⟨by simp only [List.length_append, List.length_cons, List.length_nil]; omega, by rw [← hcd]; simp, ?_⟩, by simp⟩
     have e2 : F ++ ((Vc ++ [y]) ++ x :: (Ve ++ (Vb ++ C))) = (F ++ Vc) ++ y :: x :: (Ve ++ (Vb ++ C)) := by simp only [List.append_assoc, List.cons_append, List.nil_append]
     rw [e2]; exact hS
    ·
     have hc58 := hb58; try simp only [Gk.cs0] at hc58
     refine WC.exit ?_
     refine WC.ret ?_
     refine ret0 Tryz.results82 ?_
     have hd0 : Vd = [] := List.eq_nil_of_length_eq_zero (by have := congrArg List.length hVab; rw [List.length_append] at this; omega)
     subst hd0
     rw [List.append_nil] at hcd
     rw [hE, hcd] at hS
     refine ⟨_, rfl, rfl, Va ++ x :: Vb, ?_, hso2, by simpa using hS⟩
     rw [hVab]
     exact List.perm_middle
  ·
   have hc28 := hb28; try simp only [Gk.cs0] at hc28
   refine WC.skip ?_
   refine WC.seq ?_
   refine WC.seq ?_
   refine WC.region ?_
   refine WL.val (.move (.of rfl)) rfl ?_
   refine WL.val (.move (.of rfl)) rfl ?_
   refine WL.val (.sub (.of rfl) (.of rfl) ⟨by omega, by omega⟩) rfl ?_
   refine WL.val (.eql (.of rfl) (.of rfl)) rfl ?_
   refine WL.nil ?_
   refine WC.cond rfl (fun hb80 => ?_) (fun hb80 => ?_)
   ·
    have hc80 := hb80; try simp only [Gk.cs0] at hc80
    refine WC.seq ?_
    obtain ⟨y, V0, rfl⟩ := Srt.cons_of hV0
    obtain rfl : V0 = [] := List.eq_nil_of_length_eq_zero (by simp only [List.length_cons] at hib; omega)
    have hDy : D.getD im.toNat 0 = y := by have := hDV 0 (by simp); rw [show im.toNat = F.length + U.length + 0 by omega]; simpa using this
    simp only [List.length_cons, List.length_nil] at hib hbb hDl hin2
    refine WC.region ?_
    refine WL.val (.move (.of rfl)) rfl ?_
    refine WL.val (.assign (.of rfl)) rfl ?_
    refine WL.nil ?_
    refine WC.seq ?_
    refine WC.region ?_
    refine WL.val (.move (.of rfl)) rfl ?_
    refine WL.val (.assign (.of rfl)) rfl ?_
    refine WL.nil ?_
    refine WC.seq ?_
    refine WC.block ?_
    refine WC.loop (σ := Int × Int) (fun ⟨i, j⟩ => [(0, .slice (some (ad b0 0)) n c), (1, I64 ia), (2, I64 im), (3, I64 ib), (4, CF p), (14, I64 i), (15, I64 j)]) (fun ⟨i, j⟩ w => ia ≤ i ∧ i ≤ j ∧ j ≤ im ∧ (i = ia ∨ ¬ kx l y < kx l (D.getD (i - 1).toNat 0)) ∧ (j = im ∨ kx l y < kx l (D.getD j.toNat 0)) ∧ Sat B w I (blk b0 ((D).map I64 ++ r) 3 :: As)) (fun ⟨i, j⟩ => (j - i).toNat) (ia, im) ⟨rfl, rfl, rfl, rfl, rfl, rfl, rfl, trivial⟩ ⟨Int.le_refl _, by (try dsimp only); omega, Int.le_refl _, .inl rfl, .inl rfl, hS⟩ ?_
    rintro ⟨i, j⟩ w ⟨hi1, hij, hj1, hb1, hb2, hS⟩
    change WC _ _ _ _ [(0, .slice (some (ad b0 0)) n c), (1, I64 ia), (2, I64 im), (3, I64 ib), (4, CF p), (14, I64 i), (15, I64 j)] w
    refine WC.seq ?_
    refine WC.seq ?_
    refine WC.region ?_
    refine WL.val (.move (.of rfl)) rfl ?_
    refine WL.val (.move (.of rfl)) rfl ?_
    refine WL.val (.lss (.of rfl) (.of rfl)) rfl ?_
    refine WL.nil ?_
    refine WC.cond rfl (fun hb85 => ?_) (fun hb85 => ?_)
    ·
     have hc85 := hb85; try simp only [Gk.cs0] at hc85
     refine WC.skip ?_
     refine WC.block ?_
     refine WC.seq ?_
     refine WC.region ?_
     refine WL.val (.move (.of rfl)) rfl ?_
     refine WL.val (.move (.of rfl)) rfl ?_
     refine WL.val (.add (.of rfl) (.of rfl) ⟨by omega, by omega⟩) rfl ?_
     refine WL.val (.cvi (.of rfl) Tryz.underlying3 Tryz.underlying125 (by rw [IntKind.wrap_u64]; omega)) rfl ?_
     refine WL.val (.shr1 (.of rfl) (.of rfl) (by decide)) rfl ?_
     refine WL.val (.cvi (.of rfl) Tryz.underlying125 Tryz.underlying3 (by rw [IntKind.wrap_i64]; omega)) rfl ?_
     refine WL.val (.assign (.of rfl)) rfl ?_
     refine WL.nil ?_
     refine WC.seq ?_
     refine WC.quiet (by kernel_rfl) (by kernel_rfl) hS ?_
     refine WQ.val (fun w hS => (.move (.of rfl))) rfl ?_
     refine WQ.val (fun w hS => (.move (.of rfl))) rfl ?_
     refine WQ.val (fun w hS => (.move (.of rfl))) rfl ?_
     refine WQ.val (fun w hS => (by first | exact .indexAddr (.of rfl) (.of rfl) (by omega) (by omega) Tryz.underlying68 Tryz.sizeOf3 | exact .indexAddrI (.of rfl) (.of rfl) (by omega) (by omega) Tryz.underlying68 Tryz.sizeOf3)) rfl ?_
     refine WQ.val (fun w hS => .ldE I64 D 0 r (i := im) (.of rfl) hS (k := 0) rfl rfl Tryz.isAgg3 (by omega) (by omega)) rfl ?_
     refine WQ.val (fun w hS => (.move (.of rfl))) rfl ?_
     refine WQ.val (fun w hS => (.move (.of rfl))) rfl ?_
     refine WQ.val (fun w hS => (by first | exact .indexAddr (.of rfl) (.of rfl) (by omega) (by omega) Tryz.underlying68 Tryz.sizeOf3 | exact .indexAddrI (.of rfl) (.of rfl) (by omega) (by omega) Tryz.underlying68 Tryz.sizeOf3)) rfl ?_
     refine WQ.val (fun w hS => .ldE I64 D 0 r (i := ((i + j) / 2)) (.of rfl) hS (k := 0) rfl rfl Tryz.isAgg3 (by omega) (by omega)) rfl ?_
     refine WQ.vcall Tryz.func53 rfl (.of rfl) (evs_cons (.of rfl) (evs_cons (.of rfl) evs_nil)) rfl (fun w hS => by have hj1 := hin2 (im).toNat (by omega) (by omega); have hj2 := hin2 (((i + j) / 2)).toNat (by omega) (by omega); exact cmp_any hx _ _ hj1.1 hj1.2 hj2.1 hj2.2 B w _ hS) ?_
     refine WQ.val (fun w hS => (.lss (.of rfl) (.of rfl))) rfl ?_
     refine WQ.val (fun w hS => (.not (.of rfl))) rfl ?_
     refine WQ.nil ?_
     clear hS; intro w hS
     refine WC.cond rfl (fun hb103 => ?_) (fun hb103 => ?_)
     ·
      have hc103 := hb103; try simp only [Gk.cs0] at hc103
      refine WC.region ?_
      refine WL.val (.move (.of rfl)) rfl ?_
      refine WL.val (.add (.of rfl) (.of rfl) ⟨by omega, by omega⟩) rfl ?_
      refine WL.val (.assign (.of rfl)) rfl ?_
      refine WL.nil ?_
      have h9 : ¬ _ := fun h => (Int.not_lt.2 hc103) (Srt.cmpv_neg.2 h)
      rw [hDy] at h9
      exact ⟨((i + j) / 2 + 1, j), ⟨rfl, rfl, rfl, rfl, rfl, rfl, rfl, trivial⟩, ⟨by (try dsimp only); omega, by (try dsimp only); omega, hj1, .inr (by (try dsimp only); rw [show (i + j) / 2 + 1 - 1 = (i + j) / 2 by omega]; exact h9), hb2, hS⟩, by (try dsimp only); omega⟩
     ·
      have hc103 := hb103; try simp only [Gk.cs0] at hc103
      refine WC.region ?_
      refine WL.val (.move (.of rfl)) rfl ?_
      refine WL.val (.assign (.of rfl)) rfl ?_
      refine WL.nil ?_
      have h9 := Srt.cmpv_neg.1 hc103
      rw [hDy] at h9
      exact ⟨(i, (i + j) / 2), ⟨rfl, rfl, rfl, rfl, rfl, rfl, rfl, trivial⟩, ⟨hi1, by (try dsimp only); omega, by (try dsimp only); omega, hb1, .inr h9, hS⟩, by (try dsimp only); omega⟩
    ·
     have hc85 := hb85; try simp only [Gk.cs0] at hc85
     refine WC.exit ?_
     refine WC.seq ?_
     refine WC.seq ?_
     have hij : i = j := by omega
     subst hij
     have hso : Srt.So (kx l) (U.take (i - ia).toNat ++ y :: U.drop (i - ia).toNat) := by
      refine Srt.so_right hU (fun v hv => hc v hv y (by simp)) (by omega) ?_ ?_
      ·by_cases hz : i = ia
       ·exact .inl (by omega)
       ·refine .inr ?_
        have h := hb1.resolve_left hz
        rw [← hDU ((i - ia).toNat - 1) (by omega), show F.length + ((i - ia).toNat - 1) = (i - 1).toNat by omega]
        exact h
      ·by_cases hz : i = im
       ·exact .inl (by omega)
       ·refine .inr ?_
        have h := hb2.resolve_left hz
        rw [← hDU (i - ia).toNat (by omega), show F.length + (i - ia).toNat = i.toNat by omega]
        exact h
     obtain ⟨Ua, Ub, hUab, hUal, hso2⟩ : ∃ Ua Ub, U = Ua ++ Ub ∧ (Ua.length : Int) = i - ia ∧ Srt.So (kx l) (Ua ++ y :: Ub) := ⟨_, _, (List.take_append_drop (i - ia).toNat U).symm, by rw [List.length_take]; omega, hso⟩
     have hUl := congrArg List.length hUab
     rw [List.length_append] at hUl
     refine WC.region ?_
     refine WL.val (.move (.of rfl)) rfl ?_
     refine WL.val (.assign (.of rfl)) rfl ?_
     refine WL.nil ?_
     refine WC.block ?_
     refine WC.loop (σ := Int × List Int × List Int) (fun ⟨k, Uc, Ud⟩ => [(0, .slice (some (ad b0 0)) n c), (14, I64 i), (17, I64 k)]) (fun ⟨k, Uc, Ud⟩ w => k = (F.length : Int) + Ua.length + Uc.length ∧ Uc ++ Ud = Ub ∧ Sat B w I (blk b0 ((F ++ (Ua ++ (Uc ++ y :: (Ud ++ C)))).map I64 ++ r) 3 :: As)) (fun ⟨k, Uc, Ud⟩ => Uc.length) (im, Ub, []) ⟨rfl, rfl, rfl, trivial⟩ ⟨by (try dsimp only); omega, by simp, by rw [hD, hUab] at hS; simpa using hS⟩ ?_
     rintro ⟨k, Uc, Ud⟩ w ⟨hk, hcd, hS⟩
     change WC _ _ _ _ [(0, .slice (some (ad b0 0)) n c), (14, I64 i), (17, I64 k)] w
     have hcl := congrArg List.length hcd
     rw [List.length_append] at hcl
     obtain ⟨E, hE⟩ : ∃ E, E = F ++ (Ua ++ (Uc ++ y :: (Ud ++ C))) := ⟨_, rfl⟩
     rw [← hE] at hS
     have hEl : E.length = F.length + (Ua.length + (Uc.length + 1 + Ud.length + C.length)) := by rw [hE]; simp only [List.length_append, List.length_cons]; omega
     refine WC.seq ?_
     refine WC.seq ?_
     refine WC.region ?_
     refine WL.val (.move (.of rfl)) rfl ?_
     refine WL.val (.move (.of rfl)) rfl ?_
     refine WL.val (.gtr (.of rfl) (.of rfl)) rfl ?_
     refine WL.nil ?_
     refine WC.cond rfl (fun hb110 => ?_) (fun hb110 => ?_)
     ·
      have hc110 := hb110; try simp only [Gk.cs0] at hc110
      refine WC.skip ?_
      refine WC.seq ?_
      refine WC.block ?_
      refine WC.drawn (fun w => ∃ R, Sat B w I (blk b0 ((E).map I64 ++ r) 3 :: R)) (fun j => !([15, 17].contains j)) (by kernel_rfl) ?_
      replace hS := hS.drew; generalize w.drew = w at hS ⊢
      have hH : ∃ R, Sat B w I (blk b0 ((E).map I64 ++ r) 3 :: R) := ⟨_, (hS.pick 0 rfl)⟩
      refine WD.takeP (i := 0) rfl (by kernel_rfl) (by kernel_rfl) (by kernel_rfl) (fun w => (.move (.of rfl))) rfl ?_
      refine WD.takeP (i := 1) rfl (by kernel_rfl) (by kernel_rfl) (by kernel_rfl) (fun w => (.move (.of rfl))) rfl ?_
      refine WD.takeP (i := 2) rfl (by kernel_rfl) (by kernel_rfl) (by kernel_rfl) (fun w => (.move (.of rfl))) rfl ?_
      refine WD.takeP (i := 3) rfl (by kernel_rfl) (by kernel_rfl) (by kernel_rfl) (fun w => (.move (.of rfl))) rfl ?_
      refine WD.takeP (i := 4) rfl (by kernel_rfl) (by kernel_rfl) (by kernel_rfl) (fun w => (.sub (.of rfl) (.of rfl) ⟨by omega, by omega⟩)) rfl ?_
      refine WD.takeP (i := 5) rfl (by kernel_rfl) (by kernel_rfl) (by kernel_rfl) (fun w => (.move (.of rfl))) rfl ?_
      refine WD.takeP (i := 6) rfl (by kernel_rfl) (by kernel_rfl) (by kernel_rfl) (fun w => (.move (.of rfl))) rfl ?_
      refine WD.takeP (i := 7) rfl (by kernel_rfl) (by kernel_rfl) (by kernel_rfl) (fun w => (.sub (.of rfl) (.of rfl) ⟨by omega, by omega⟩)) rfl ?_
      refine WD.takeP (i := 8) rfl (by kernel_rfl) (by kernel_rfl) (by kernel_rfl) (fun w => (by first | exact .indexAddr (.of rfl) (.of rfl) (by omega) (by omega) Tryz.underlying68 Tryz.sizeOf3 | exact .indexAddrI (.of rfl) (.of rfl) (by omega) (by omega) Tryz.underlying68 Tryz.sizeOf3)) rfl ?_
      refine WD.take (i := 9) rfl (by kernel_rfl) (by kernel_rfl) (by kernel_rfl) (by kernel_rfl) hH (fun w ⟨R, hS⟩ => .ldE I64 E 0 r (i := k - 1) (.of rfl) hS (k := 0) rfl rfl Tryz.isAgg3 (by omega) (by omega)) rfl ?_
      refine WD.takeP (i := 10) rfl (by kernel_rfl) (by kernel_rfl) (by kernel_rfl) (fun w => (.move (.of rfl))) rfl ?_
      refine WD.takeP (i := 11) rfl (by kernel_rfl) (by kernel_rfl) (by kernel_rfl) (fun w => (.move (.of rfl))) rfl ?_
      refine WD.takeP (i := 12) rfl (by kernel_rfl) (by kernel_rfl) (by kernel_rfl) (fun w => (by first | exact .indexAddr (.of rfl) (.of rfl) (by omega) (by omega) Tryz.underlying68 Tryz.sizeOf3 | exact .indexAddrI (.of rfl) (.of rfl) (by omega) (by omega) Tryz.underlying68 Tryz.sizeOf3)) rfl ?_
      refine WD.take (i := 13) rfl (by kernel_rfl) (by kernel_rfl) (by kernel_rfl) (by kernel_rfl) hH (fun w ⟨R, hS⟩ => .ldE I64 E 0 r (i := k) (.of rfl) hS (k := 0) rfl rfl Tryz.isAgg3 (by omega) (by omega)) rfl ?_
      refine WD.takeP (i := 14) rfl (by kernel_rfl) (by kernel_rfl) (by kernel_rfl) (fun w => (by first | exact .indexAddr (.of rfl) (.of rfl) (by omega) (by omega) Tryz.underlying68 Tryz.sizeOf3 | exact .indexAddrI (.of rfl) (.of rfl) (by omega) (by omega) Tryz.underlying68 Tryz.sizeOf3)) rfl ?_
      refine WD.branch [15] (by kernel_rfl) rfl (WO.cons rfl ?_ (WO.nil))
      refine WL.stE I64 _ r hS (k := 0) rfl (.of rfl) (.of rfl) rfl rfl Tryz.sizeOf3 (by omega) (by (try rw [List.length_set]); omega) ?_
      clear hS; intro w hS; dsimp only [List.set] at hS
      refine WL.nil ?_
      refine And.intro (by intro h; cases h) ?_
      refine WD.takeP (i := 16) rfl (by kernel_rfl) (by kernel_rfl) (by kernel_rfl) (fun w => (by first | exact .indexAddr (.of rfl) (.of rfl) (by omega) (by omega) Tryz.underlying68 Tryz.sizeOf3 | exact .indexAddrI (.of rfl) (.of rfl) (by omega) (by omega) Tryz.underlying68 Tryz.sizeOf3)) rfl ?_
      refine WD.branch [17] (by kernel_rfl) rfl (WO.cons rfl ?_ (WO.nil))
      refine WL.stE I64 _ r hS (k := 0) rfl (.of rfl) (.of rfl) rfl rfl Tryz.sizeOf3 (by omega) (by (try rw [List.length_set]); omega) ?_
      clear hS; intro w hS; dsimp only [List.set] at hS
      refine WL.nil ?_
      refine And.intro (by intro h; cases h) ?_
      refine WD.done (by kernel_rfl) ?_
      refine WC.region ?_
      refine WL.val (.move (.of rfl)) rfl ?_
      refine WL.val (.sub (.of rfl) (.of rfl) ⟨by omega, by omega⟩) rfl ?_
      refine WL.val (.assign (.of rfl)) rfl ?_
      refine WL.nil ?_
      obtain ⟨Ue, q, rfl⟩ := Srt.concat_of (U := Uc) (by omega)
      simp only [List.length_append, List.length_cons, List.length_nil] at hk hEl hcl
      have e1 : E = (F ++ (Ua ++ Ue)) ++ q :: y :: (Ud ++ C) := by rw [hE]; simp only [List.append_assoc, List.cons_append, List.nil_append]
      have e := Srt.swp_adj (F ++ (Ua ++ Ue)) (Ud ++ C) q y
      rw [← e1, show (F ++ (Ua ++ Ue)).length = (k - 1).toNat by simp only [List.length_append]; omega, show (k - 1).toNat + 1 = k.toNat by omega, Srt.swp_comm (by omega)] at e
      unfold Srt.swp at e
      rw [e] at hS
      refine ⟨(k - 1, Ue, q :: Ud), ⟨rfl, rfl, rfl, trivial⟩, ⟨by (try dsimp only); omega, by rw [← hcd]; simp, ?_⟩, by simp⟩
      have e2 : F ++ (Ua ++ (Ue ++ y :: ((q :: Ud) ++ C))) = (F ++ (Ua ++ Ue)) ++ y :: q :: (Ud ++ C) := by simp only [List.append_assoc, List.cons_append]
      rw [e2]; exact hS
     ·
      have hc110 := hb110; try simp only [Gk.cs0] at hc110
      refine WC.exit ?_
      refine WC.ret ?_
      refine ret0 Tryz.results82 ?_
      have hc0 : Uc = [] := List.eq_nil_of_length_eq_zero (by omega)
      subst hc0
      rw [List.nil_append] at hcd
      rw [hE, hcd] at hS
      refine ⟨_, rfl, rfl, Ua ++ y :: Ub, ?_, hso2, by simpa using hS⟩
      rw [hUab, List.append_assoc]
      exact List.Perm.append_left Ua (List.perm_append_comm : ([y] ++ Ub).Perm (Ub ++ [y]))
   ·
    have hc80 := hb80; try simp only [Gk.cs0] at hc80
    refine WC.skip ?_
    refine WC.seq ?_
    refine WC.region ?_
    refine WL.val (.move (.of rfl)) rfl ?_
    refine WL.val (.move (.of rfl)) rfl ?_
    refine WL.val (.add (.of rfl) (.of rfl) ⟨by omega, by omega⟩) rfl ?_
    refine WL.val (.cvi (.of rfl) Tryz.underlying3 Tryz.underlying125 (by rw [IntKind.wrap_u64]; omega)) rfl ?_
    refine WL.val (.shr1 (.of rfl) (.of rfl) (by decide)) rfl ?_
    refine WL.val (.cvi (.of rfl) Tryz.underlying125 Tryz.underlying3 (by rw [IntKind.wrap_i64]; omega)) rfl ?_
    refine WL.val (.assign (.of rfl)) rfl ?_
    refine WL.nil ?_
    refine WC.seq ?_
    refine WC.region ?_
    refine WL.val (.move (.of rfl)) rfl ?_
    refine WL.val (.move (.of rfl)) rfl ?_
    refine WL.val (.add (.of rfl) (.of rfl) ⟨by omega, by omega⟩) rfl ?_
    refine WL.val (.assign (.of rfl)) rfl ?_
    refine WL.nil ?_
    refine WC.seq ?_
    refine WC.region ?_
    refine WL.val (.assign (.of rfl)) rfl ?_
    refine WL.val (.assign (.of rfl)) rfl ?_
    refine WL.nil ?_
    refine WC.cutS (σ := Int × Int) (fun ⟨s0, r0⟩ => [(0, .slice (some (ad b0 0)) n c), (1, I64 ia), (2, I64 im), (3, I64 ib), (4, CF p), (18, I64 ((ia + ib) / 2)), (19, I64 (((ia + ib) / 2) + im)), (20, I64 s0), (21, I64 r0)]) (fun ⟨s0, r0⟩ w => ((((ia + ib) / 2) < im ∧ s0 = ((ia + ib) / 2) + im - ib ∧ r0 = ((ia + ib) / 2)) ∨ (im ≤ ((ia + ib) / 2) ∧ s0 = ia ∧ r0 = im)) ∧ Sat B w I (blk b0 ((D).map I64 ++ r) 3 :: As)) ?_ ?_
    ·
     refine WC.seq ?_
     refine WC.region ?_
     refine WL.val (.move (.of rfl)) rfl ?_
     refine WL.val (.move (.of rfl)) rfl ?_
     refine WL.val (.gtr (.of rfl) (.of rfl)) rfl ?_
     refine WL.nil ?_
     refine WC.cond rfl (fun hb140 => ?_) (fun hb140 => ?_)
     ·
      have hc140 := hb140; try simp only [Gk.cs0] at hc140
      refine WC.seq ?_
      refine WC.region ?_
      refine WL.val (.move (.of rfl)) rfl ?_
      refine WL.val (.move (.of rfl)) rfl ?_
      refine WL.val (.sub (.of rfl) (.of rfl) ⟨by omega, by omega⟩) rfl ?_
      refine WL.val (.assign (.of rfl)) rfl ?_
      refine WL.nil ?_
      refine WC.region ?_
      refine WL.val (.move (.of rfl)) rfl ?_
      refine WL.val (.assign (.of rfl)) rfl ?_
      refine WL.nil ?_
      exact ⟨(((ia + ib) / 2) + im - ib, ((ia + ib) / 2)), ⟨rfl, rfl, rfl, rfl, rfl, rfl, rfl, rfl, rfl, trivial⟩, .inl ⟨hc140, rfl, rfl⟩, hS⟩
     ·
      have hc140 := hb140; try simp only [Gk.cs0] at hc140
      refine WC.seq ?_
      refine WC.region ?_
      refine WL.val (.move (.of rfl)) rfl ?_
      refine WL.val (.assign (.of rfl)) rfl ?_
      refine WL.nil ?_
      refine WC.region ?_
      refine WL.val (.move (.of rfl)) rfl ?_
      refine WL.val (.assign (.of rfl)) rfl ?_
      refine WL.nil ?_
      exact ⟨(ia, im), ⟨rfl, rfl, rfl, rfl, rfl, rfl, rfl, rfl, rfl, trivial⟩, .inr ⟨hc140, rfl, rfl⟩, hS⟩
    ·
     rintro ⟨s0, r0⟩ w ⟨h0, hS⟩
     change WC _ _ _ _ [(0, .slice (some (ad b0 0)) n c), (1, I64 ia), (2, I64 im), (3, I64 ib), (4, CF p), (18, I64 ((ia + ib) / 2)), (19, I64 (((ia + ib) / 2) + im)), (20, I64 s0), (21, I64 r0)] w
     refine WC.seq ?_
     refine WC.region ?_
     refine WL.val (.move (.of rfl)) rfl ?_
     refine WL.val (.sub (.of rfl) (.of rfl) ⟨by omega, by omega⟩) rfl ?_
     refine WL.val (.assign (.of rfl)) rfl ?_
     refine WL.nil ?_
     refine WC.seq ?_
     refine WC.block ?_
     refine WC.loop (σ := Int × Int) (fun ⟨s, q⟩ => [(0, .slice (some (ad b0 0)) n c), (1, I64 ia), (2, I64 im), (3, I64 ib), (4, CF p), (18, I64 ((ia + ib) / 2)), (19, I64 (((ia + ib) / 2) + im)), (20, I64 s), (21, I64 q), (22, I64 (((ia + ib) / 2) + im - 1))]) (fun ⟨s, q⟩ w => s0 ≤ s ∧ s ≤ q ∧ q ≤ r0 ∧ (s = s0 ∨ ¬ kx l (D.getD (((ia + ib) / 2) + im - 1 - (s - 1)).toNat 0) < kx l (D.getD (s - 1).toNat 0)) ∧ (q = r0 ∨ kx l (D.getD (((ia + ib) / 2) + im - 1 - q).toNat 0) < kx l (D.getD q.toNat 0)) ∧ Sat B w I (blk b0 ((D).map I64 ++ r) 3 :: As)) (fun ⟨s, q⟩ => (q - s).toNat) (s0, r0) ⟨rfl, rfl, rfl, rfl, rfl, rfl, rfl, rfl, rfl, rfl, trivial⟩ ⟨Int.le_refl _, by (try dsimp only); omega, Int.le_refl _, .inl rfl, .inl rfl, hS⟩ ?_
     rintro ⟨s, q⟩ w ⟨hs0, hsq, hq0, hb1, hb2, hS⟩
     change WC _ _ _ _ [(0, .slice (some (ad b0 0)) n c), (1, I64 ia), (2, I64 im), (3, I64 ib), (4, CF p), (18, I64 ((ia + ib) / 2)), (19, I64 (((ia + ib) / 2) + im)), (20, I64 s), (21, I64 q), (22, I64 (((ia + ib) / 2) + im - 1))] w
     refine WC.seq ?_
     refine WC.seq ?_
     refine WC.region ?_
     refine WL.val (.move (.of rfl)) rfl ?_
     refine WL.val (.move (.of rfl)) rfl ?_
     refine WL.val (.lss (.of rfl) (.of rfl)) rfl ?_
     refine WL.nil ?_
     refine WC.cond rfl (fun hb151 => ?_) (fun hb151 => ?_)
     ·
      have hc151 := hb151; try simp only [Gk.cs0] at hc151
      refine WC.skip ?_
      refine WC.block ?_
      refine WC.seq ?_
      refine WC.region ?_
      refine WL.val (.move (.of rfl)) rfl ?_
      refine WL.val (.move (.of rfl)) rfl ?_
      refine WL.val (.add (.of rfl) (.of rfl) ⟨by omega, by omega⟩) rfl ?_
      refine WL.val (.cvi (.of rfl) Tryz.underlying3 Tryz.underlying125 (by rw [IntKind.wrap_u64]; omega)) rfl ?_
      refine WL.val (.shr1 (.of rfl) (.of rfl) (by decide)) rfl ?_
      refine WL.val (.cvi (.of rfl) Tryz.underlying125 Tryz.underlying3 (by rw [IntKind.wrap_i64]; omega)) rfl ?_
      refine WL.val (.assign (.of rfl)) rfl ?_
      refine WL.nil ?_
      refine WC.seq ?_
      refine WC.quiet (by kernel_rfl) (by kernel_rfl) hS ?_
      refine WQ.val (fun w hS => (.move (.of rfl))) rfl ?_
      refine WQ.val (fun w hS => (.move (.of rfl))) rfl ?_
      refine WQ.val (fun w hS => (.move (.of rfl))) rfl ?_
      refine WQ.val (fun w hS => (.move (.of rfl))) rfl ?_
      refine WQ.val (fun w hS => (.sub (.of rfl) (.of rfl) ⟨by omega, by omega⟩)) rfl ?_
      refine WQ.val (fun w hS => (by first | exact .indexAddr (.of rfl) (.of rfl) (by omega) (by omega) Tryz.underlying68 Tryz.sizeOf3 | exact .indexAddrI (.of rfl) (.of rfl) (by omega) (by omega) Tryz.underlying68 Tryz.sizeOf3)) rfl ?_
      refine WQ.val (fun w hS => .ldE I64 D 0 r (i := ((ia + ib) / 2) + im - 1 - ((s + q) / 2)) (.of rfl) hS (k := 0) rfl rfl Tryz.isAgg3 (by omega) (by omega)) rfl ?_
      refine WQ.val (fun w hS => (.move (.of rfl))) rfl ?_
      refine WQ.val (fun w hS => (.move (.of rfl))) rfl ?_
      refine WQ.val (fun w hS => (by first | exact .indexAddr (.of rfl) (.of rfl) (by omega) (by omega) Tryz.underlying68 Tryz.sizeOf3 | exact .indexAddrI (.of rfl) (.of rfl) (by omega) (by omega) Tryz.underlying68 Tryz.sizeOf3)) rfl ?_
      refine WQ.val (fun w hS => .ldE I64 D 0 r (i := ((s + q) / 2)) (.of rfl) hS (k := 0) rfl rfl Tryz.isAgg3 (by omega) (by omega)) rfl ?_
      refine WQ.vcall Tryz.func53 rfl (.of rfl) (evs_cons (.of rfl) (evs_cons (.of rfl) evs_nil)) rfl (fun w hS => by have hj1 := hin2 (((ia + ib) / 2) + im - 1 - ((s + q) / 2)).toNat (by omega) (by omega); have hj2 := hin2 (((s + q) / 2)).toNat (by omega) (by omega); exact cmp_any hx _ _ hj1.1 hj1.2 hj2.1 hj2.2 B w _ hS) ?_
      refine WQ.val (fun w hS => (.lss (.of rfl) (.of rfl))) rfl ?_
      refine WQ.val (fun w hS => (.not (.of rfl))) rfl ?_
      refine WQ.nil ?_
      clear hS; intro w hS
      refine WC.cond rfl (fun hb171 => ?_) (fun hb171 => ?_)
      ·
       have hc171 := hb171; try simp only [Gk.cs0] at hc171
       refine WC.region ?_
       refine WL.val (.move (.of rfl)) rfl ?_
       refine WL.val (.add (.of rfl) (.of rfl) ⟨by omega, by omega⟩) rfl ?_
       refine WL.val (.assign (.of rfl)) rfl ?_
       refine WL.nil ?_
       have h9 : ¬ _ := fun h => (Int.not_lt.2 hc171) (Srt.cmpv_neg.2 h)
       exact ⟨((s + q) / 2 + 1, q), ⟨rfl, rfl, rfl, rfl, rfl, rfl, rfl, rfl, rfl, rfl, trivial⟩, ⟨by (try dsimp only); omega, by (try dsimp only); omega, hq0, .inr (by (try dsimp only); rw [show (s + q) / 2 + 1 - 1 = (s + q) / 2 by omega]; exact h9), hb2, hS⟩, by (try dsimp only); omega⟩
      ·
       have hc171 := hb171; try simp only [Gk.cs0] at hc171
       refine WC.region ?_
       refine WL.val (.move (.of rfl)) rfl ?_
       refine WL.val (.assign (.of rfl)) rfl ?_
       refine WL.nil ?_
       have h9 := Srt.cmpv_neg.1 hc171
       exact ⟨(s, (s + q) / 2), ⟨rfl, rfl, rfl, rfl, rfl, rfl, rfl, rfl, rfl, rfl, trivial⟩, ⟨hs0, by (try dsimp only); omega, by (try dsimp only); omega, hb1, .inr h9, hS⟩, by (try dsimp only); omega⟩
     ·
      have hc151 := hb151; try simp only [Gk.cs0] at hc151
      refine WC.exit ?_
      refine WC.seq ?_
      have hsq : s = q := by omega
      subst hsq
      have hsp := Srt.split_lt hU hV hc (s := (s - ia).toNat) (e := (((ia + ib) / 2) - s).toNat) (by omega) (by omega) (by
       by_cases hz1 : s = ia
       ·exact .inl (by omega)
       by_cases hz2 : (((ia + ib) / 2) - s).toNat = V.length
       ·exact .inr (.inl hz2)
       rcases hb1 with h | h
       ·rcases h0 with h0 | h0
        ·exact .inr (.inl (by omega))
        ·exact .inl (by omega)
       ·refine .inr (.inr ?_)
        rw [show (((ia + ib) / 2) + im - 1 - (s - 1)).toNat = F.length + U.length + (((ia + ib) / 2) - s).toNat by omega, hDV (((ia + ib) / 2) - s).toNat (by omega), show (s - 1).toNat = F.length + ((s - ia).toNat - 1) by omega, hDU ((s - ia).toNat - 1) (by omega)] at h
        exact Srt.not_bef_later (hc _ (Srt.getD_mem (by omega)) _ (Srt.getD_mem (by omega))) h) (by
       by_cases hz1 : s = ((ia + ib) / 2)
       ·exact .inl (by omega)
       by_cases hz2 : (s - ia).toNat = U.length
       ·exact .inr (.inl hz2)
       rcases hb2 with h | h
       ·rcases h0 with h0 | h0
        ·exact .inl (by omega)
        ·exact .inr (.inl (by omega))
       ·refine .inr (.inr ?_)
        rw [show (((ia + ib) / 2) + im - 1 - s).toNat = F.length + U.length + ((((ia + ib) / 2) - s).toNat - 1) by omega, hDV ((((ia + ib) / 2) - s).toNat - 1) (by omega), show s.toNat = F.length + (s - ia).toNat by omega, hDU (s - ia).toNat (by omega)] at h
        exact (Srt.bef_later (hc _ (Srt.getD_mem (by omega)) _ (Srt.getD_mem (by omega)))).2 h)
      have hs1 : 0 ≤ s - ia ∧ s - ia ≤ U.length ∧ 0 ≤ ((ia + ib) / 2) - s ∧ ((ia + ib) / 2) - s ≤ V.length := by omega
      obtain ⟨Ua, Ub, Va, Vb, hUab, hVab, hUal, hVal, hsp2⟩ : ∃ Ua Ub Va Vb, U = Ua ++ Ub ∧ V = Va ++ Vb ∧ (Ua.length : Int) = s - ia ∧ (Va.length : Int) = ((ia + ib) / 2) - s ∧ (∀ x ∈ Ua ++ Va, ∀ y ∈ Ub ++ Vb, Srt.bef (kx l) x y) :=
       ⟨_, _, _, _, (List.take_append_drop (s - ia).toNat U).symm, (List.take_append_drop (((ia + ib) / 2) - s).toNat V).symm, by rw [List.length_take]; omega, by rw [List.length_take]; omega, hsp⟩
      clear hsp
      have hUl := congrArg List.length hUab
      rw [List.length_append] at hUl
      have hVl := congrArg List.length hVab
      rw [List.length_append] at hVl
      rw [hD, hUab, hVab] at hS
      rw [hUab] at hU
      rw [hVab] at hV
      rw [hUab, hVab] at hc hin
      have hUa := (List.pairwise_append.1 hU).1
      have hUb := (List.pairwise_append.1 hU).2.1
      have hVa := (List.pairwise_append.1 hV).1
      have hVb := (List.pairwise_append.1 hV).2.1
      refine WC.region ?_
      refine WL.val (.move (.of rfl)) rfl ?_
      refine WL.val (.move (.of rfl)) rfl ?_
      refine WL.val (.sub (.of rfl) (.of rfl) ⟨by omega, by omega⟩) rfl ?_
      refine WL.val (.assign (.of rfl)) rfl ?_
      refine WL.nil ?_
      refine WC.cutS (σ := Unit) (fun _ => [(0, .slice (some (ad b0 0)) n c), (1, I64 ia), (3, I64 ib), (4, CF p), (18, I64 ((ia + ib) / 2)), (20, I64 s), (24, I64 (((ia + ib) / 2) + im - s))]) (fun _ w => Sat B w I (blk b0 ((F ++ (Ua ++ (Va ++ (Ub ++ (Vb ++ C))))).map I64 ++ r) 3 :: As)) ?_ ?_
      ·
       refine WC.seq ?_
       refine WC.region ?_
       refine WL.val (.move (.of rfl)) rfl ?_
       refine WL.val (.move (.of rfl)) rfl ?_
       refine WL.val (.lss (.of rfl) (.of rfl)) rfl ?_
       refine WL.val (.move (.of rfl)) rfl ?_
       refine WL.gval rfl rfl (fun hg1 => (.move (.of rfl))) rfl ?_
       refine WL.gval rfl rfl (fun hg1 => (.move (.of rfl))) rfl ?_
       refine WL.gval rfl rfl (fun hg1 => (.lss (.gd hg1 rfl) (.gd hg1 rfl))) rfl ?_
       refine WL.val (.pand (.of rfl) (.of rfl) (.of rfl)) rfl ?_
       refine WL.nil ?_
       refine WC.cond rfl (fun hb185 => ?_) (fun hb185 => ?_)
       ·
        have hc185 := hb185; try simp only [Gk.cs0] at hc185
        refine WC.region ?_
        refine WL.val (.move (.of rfl)) rfl ?_
        refine WL.val (.move (.of rfl)) rfl ?_
        refine WL.val (.move (.of rfl)) rfl ?_
        refine WL.val (.move (.of rfl)) rfl ?_
        refine WL.val (.move (.of rfl)) rfl ?_
        rw [show F ++ ((Ua ++ Ub) ++ ((Va ++ Vb) ++ C)) = (F ++ Ua) ++ (Ub ++ (Va ++ (Vb ++ C))) by simp only [List.append_assoc]] at hS
        refine WL.call Tryz.func93 rfl (evs_cons (.of rfl) (evs_cons (.of rfl) (evs_cons (.of rfl) (evs_cons (.of rfl) (evs_cons (.of rfl) evs_nil))))) rfl (rot_any (F ++ Ua) Ub Va (Vb ++ C) (by omega) (by omega) (CF p) b0 n c r _ _ _ (by rw [List.length_append]; omega) (by rw [List.length_append]; omega) (by rw [List.length_append]; omega) (by omega) (by simp only [List.length_append]; omega) B w I As hS) ?_
        clear hS
        rintro _ w ⟨rfl, hS⟩
        refine WL.nil ?_
        rw [show (F ++ Ua) ++ (Va ++ (Ub ++ (Vb ++ C))) = F ++ (Ua ++ (Va ++ (Ub ++ (Vb ++ C)))) by simp only [List.append_assoc]] at hS
        exact ⟨(), ⟨rfl, rfl, rfl, rfl, rfl, rfl, rfl, trivial⟩, hS⟩
       ·
        have hc185 := hb185; try simp only [Gk.cs0] at hc185
        refine WC.skip ?_
        have e : F ++ ((Ua ++ Ub) ++ ((Va ++ Vb) ++ C)) = F ++ (Ua ++ (Va ++ (Ub ++ (Vb ++ C)))) := by
         rcases hc185 with h | h
         ·obtain rfl : Ub = [] := List.eq_nil_of_length_eq_zero (by omega)
          simp only [List.append_assoc, List.nil_append]
         ·obtain rfl : Va = [] := List.eq_nil_of_length_eq_zero (by omega)
          simp only [List.append_assoc, List.nil_append]
        rw [e] at hS
        exact ⟨(), ⟨rfl, rfl, rfl, rfl, rfl, rfl, rfl, trivial⟩, hS⟩
      ·
       rintro _ w hS
       change WC _ _ _ _ [(0, .slice (some (ad b0 0)) n c), (1, I64 ia), (3, I64 ib), (4, CF p), (18, I64 ((ia + ib) / 2)), (20, I64 s), (24, I64 (((ia + ib) / 2) + im - s))] w
       refine WC.cutS (σ := List Int) (fun M1 => [(0, .slice (some (ad b0 0)) n c), (1, I64 ia), (3, I64 ib), (4, CF p), (18, I64 ((ia + ib) / 2)), (20, I64 s), (24, I64 (((ia + ib) / 2) + im - s))]) (fun M1 w => M1.Perm (Ua ++ Va) ∧ Srt.So (kx l) M1 ∧ Sat B w I (blk b0 ((F ++ (M1 ++ (Ub ++ (Vb ++ C)))).map I64 ++ r) 3 :: As)) ?_ ?_
       ·
        refine WC.seq ?_
        refine WC.region ?_
        refine WL.val (.move (.of rfl)) rfl ?_
        refine WL.val (.move (.of rfl)) rfl ?_
        refine WL.val (.lss (.of rfl) (.of rfl)) rfl ?_
        refine WL.val (.move (.of rfl)) rfl ?_
        refine WL.gval rfl rfl (fun hg1 => (.move (.of rfl))) rfl ?_
        refine WL.gval rfl rfl (fun hg1 => (.move (.of rfl))) rfl ?_
        refine WL.gval rfl rfl (fun hg1 => (.lss (.gd hg1 rfl) (.gd hg1 rfl))) rfl ?_
        refine WL.val (.pand (.of rfl) (.of rfl) (.of rfl)) rfl ?_
        refine WL.nil ?_
        refine WC.cond rfl (fun hb199 => ?_) (fun hb199 => ?_)
        ·
         have hc199 := hb199; try simp only [Gk.cs0] at hc199
         refine WC.region ?_
         refine WL.val (.move (.of rfl)) rfl ?_
         refine WL.val (.move (.of rfl)) rfl ?_
         refine WL.val (.move (.of rfl)) rfl ?_
         refine WL.val (.move (.of rfl)) rfl ?_
         refine WL.val (.move (.of rfl)) rfl ?_
         have hUa0 : 0 < Ua.length := by omega
         have hVa0 : 0 < Va.length := by omega
         refine WL.call Tryz.func82 rfl (evs_cons (.of rfl) (evs_cons (.of rfl) (evs_cons (.of rfl) (evs_cons (.of rfl) (evs_cons (.of rfl) evs_nil))))) rfl (ih F Ua Va (Ub ++ (Vb ++ C)) hUa hVa (Srt.cross_sub hc (fun _ h => List.mem_append_left _ h) (fun _ h => List.mem_append_left _ h)) (fun x hx => hin x (by rcases List.mem_append.1 hx with h | h <;> simp [h])) hUa0 hVa0 (by omega) b0 n c r _ _ _ (by omega) (by omega) (by omega) (by omega) (by simp only [List.length_append]; omega) B w As hS) ?_
         clear hS
         rintro _ w ⟨rfl, M1, hM1, hMs, hS⟩
         refine WL.nil ?_
         exact ⟨M1, ⟨rfl, rfl, rfl, rfl, rfl, rfl, rfl, trivial⟩, hM1, hMs, hS⟩
        ·
         have hc199 := hb199; try simp only [Gk.cs0] at hc199
         refine WC.skip ?_
         have e : Srt.So (kx l) (Ua ++ Va) := by
          rcases hc199 with h | h
          ·obtain rfl : Ua = [] := List.eq_nil_of_length_eq_zero (by omega)
           simpa using hVa
          ·obtain rfl : Va = [] := List.eq_nil_of_length_eq_zero (by omega)
           simpa using hUa
         refine ⟨Ua ++ Va, ⟨rfl, rfl, rfl, rfl, rfl, rfl, rfl, trivial⟩, .refl _, e, ?_⟩
         rw [List.append_assoc]; exact hS
       ·
        rintro M1 w ⟨hM1, hMs, hS⟩
        change WC _ _ _ _ [(0, .slice (some (ad b0 0)) n c), (1, I64 ia), (3, I64 ib), (4, CF p), (18, I64 ((ia + ib) / 2)), (20, I64 s), (24, I64 (((ia + ib) / 2) + im - s))] w
        refine WC.seq ?_
        refine WC.region ?_
        refine WL.val (.move (.of rfl)) rfl ?_
        refine WL.val (.move (.of rfl)) rfl ?_
        refine WL.val (.lss (.of rfl) (.of rfl)) rfl ?_
        refine WL.val (.move (.of rfl)) rfl ?_
        refine WL.gval rfl rfl (fun hg1 => (.move (.of rfl))) rfl ?_
        refine WL.gval rfl rfl (fun hg1 => (.move (.of rfl))) rfl ?_
        refine WL.gval rfl rfl (fun hg1 => (.lss (.gd hg1 rfl) (.gd hg1 rfl))) rfl ?_
        refine WL.val (.pand (.of rfl) (.of rfl) (.of rfl)) rfl ?_
        refine WL.nil ?_
        refine WC.cond rfl (fun hb213 => ?_) (fun hb213 => ?_)
        ·
         have hc213 := hb213; try simp only [Gk.cs0] at hc213
         refine WC.region ?_
         refine WL.val (.move (.of rfl)) rfl ?_
         refine WL.val (.move (.of rfl)) rfl ?_
         refine WL.val (.move (.of rfl)) rfl ?_
         refine WL.val (.move (.of rfl)) rfl ?_
         refine WL.val (.move (.of rfl)) rfl ?_
         have hUb0 : 0 < Ub.length := by omega
         have hVb0 : 0 < Vb.length := by omega
         have hMl := hM1.length_eq
         rw [List.length_append] at hMl
         rw [show F ++ (M1 ++ (Ub ++ (Vb ++ C))) = (F ++ M1) ++ (Ub ++ (Vb ++ C)) by simp only [List.append_assoc]] at hS
         refine WL.call Tryz.func82 rfl (evs_cons (.of rfl) (evs_cons (.of rfl) (evs_cons (.of rfl) (evs_cons (.of rfl) (evs_cons (.of rfl) evs_nil))))) rfl (ih (F ++ M1) Ub Vb C hUb hVb (Srt.cross_sub hc (fun _ h => List.mem_append_right _ h) (fun _ h => List.mem_append_right _ h)) (fun x hx => hin x (by rcases List.mem_append.1 hx with h | h <;> simp [h])) hUb0 hVb0 (by omega) b0 n c r _ _ _ (by rw [List.length_append]; omega) (by rw [List.length_append]; omega) (by rw [List.length_append]; omega) (by omega) (by simp only [List.length_append]; omega) B w As hS) ?_
         clear hS
         rintro _ w ⟨rfl, M2, hM2, hMs2, hS⟩
         refine WL.nil ?_
         refine end0 Tryz.results82 ?_
         have hPM : (M1 ++ M2).Perm (U ++ V) := by
          rw [hUab, hVab]
          refine (hM1.append hM2).trans ?_
          simp only [List.append_assoc]
          refine List.Perm.append_left Ua ?_
          rw [← List.append_assoc, ← List.append_assoc]
          exact List.perm_append_comm.append_right Vb
         have hSM : Srt.So (kx l) (M1 ++ M2) := Srt.so_app hMs hMs2 (fun x hx y hy => hsp2 x (hM1.mem_iff.1 hx) y (hM2.mem_iff.1 hy))
         exact ⟨_, rfl, rfl, M1 ++ M2, hPM, hSM, by simpa using hS⟩
        ·
         have hc213 := hb213; try simp only [Gk.cs0] at hc213
         refine WC.skip ?_
         refine end0 Tryz.results82 ?_
         obtain ⟨M2, hM2e⟩ : ∃ M2, M2 = Ub ++ Vb := ⟨_, rfl⟩
         have hM2 : M2.Perm (Ub ++ Vb) := by rw [hM2e]
         have hMs2 : Srt.So (kx l) M2 := by
          rw [hM2e]
          rcases hc213 with h | h
          ·obtain rfl : Ub = [] := List.eq_nil_of_length_eq_zero (by omega)
           simpa using hVb
          ·obtain rfl : Vb = [] := List.eq_nil_of_length_eq_zero (by omega)
           simpa using hUb
         have hPM : (M1 ++ M2).Perm (U ++ V) := by
          rw [hUab, hVab]
          refine (hM1.append hM2).trans ?_
          simp only [List.append_assoc]
          refine List.Perm.append_left Ua ?_
          rw [← List.append_assoc, ← List.append_assoc]
          exact List.perm_append_comm.append_right Vb
         have hSM : Srt.So (kx l) (M1 ++ M2) := Srt.so_app hMs hMs2 (fun x hx y hy => hsp2 x (hM1.mem_iff.1 hx) y (hM2.mem_iff.1 hy))
         refine ⟨_, rfl, rfl, M1 ++ M2, hPM, hSM, ?_⟩
         rw [hM2e]; simpa using hS
end Go.Proofs.YtchgkcbloeoopaaGreatDoor
namespace Go.Proofs.YtchgkcbloeoopaaGreatDoor
open Gk Rk
set_option linter.unusedVariables false
set_option linter.unusedSimpArgs false
theorem info3_66 : Tryz.prog.info? 3 = some Tryz.t3 := by kernel_rfl
set_option maxHeartbeats 400000 in
theorem stable_any {l : List Nat} {p : Addr} {I : Im} (hx : Cx I l p) (b0 n c : Nat) (r : List Value) (hn : l.length = n) (hb : n ≤ 100000) (B w : World) (As : List Assn) (hS : Sat B w I (blk b0 ((Srt.upto n).map I64 ++ r) 3 :: As)) :
  Calls Tryz.prog 66 [.slice (some (ad b0 0)) n c, I64 n, CF p].toArray w (Ret fun v w' => v = .tuple #[] ∧ ∃ D, Srt.Ord (kx l) n D ∧ Sat B w' I (blk b0 ((D).map I64 ++ r) 3 :: As)) := by
 refine calls Tryz.func66 rfl Tryz.ntmps66 rfl ?_
 refine WC.seq ?_
 refine WC.region ?_
 refine WL.val (.assign (.of rfl)) rfl ?_
 refine WL.nil ?_
 refine WC.seq ?_
 refine WC.region ?_
 refine WL.val (.move (.of rfl)) rfl ?_
 refine WL.val (.assign (.of rfl)) rfl ?_
 refine WL.val (.assign (.of rfl)) rfl ?_
 refine WL.nil ?_
 refine WC.seq ?_
 refine WC.block ?_
 refine WC.loop (σ := Int × Int × List Int × List Int) (fun ⟨a, b, M, R⟩ => [(0, .slice (some (ad b0 0)) n c), (1, I64 n), (2, CF p), (6, I64 20), (7, I64 a), (8, I64 b)]) (fun ⟨a, b, M, R⟩ w => a = M.length ∧ b = a + 20 ∧ Srt.Full (kx l) 20 M ∧ Srt.cross M R ∧ R.Pairwise (· < ·) ∧ (M ++ R).Perm (Srt.upto n) ∧ Sat B w I (blk b0 ((M ++ R).map I64 ++ r) 3 :: As)) (fun ⟨a, b, M, R⟩ => R.length) (0, 20, [], Srt.upto n) ⟨rfl, rfl, rfl, rfl, rfl, rfl, trivial⟩ ⟨rfl, rfl, .nil, (fun _ h => by cases h), Srt.upto_lt n, .refl _, hS⟩ ?_
 rintro ⟨a, b, M, R⟩ w ⟨ha, hb2, hF, hc, hR, hP, hS⟩
 change WC _ _ _ _ [(0, .slice (some (ad b0 0)) n c), (1, I64 n), (2, CF p), (6, I64 20), (7, I64 a), (8, I64 b)] w
 have hPl := hP.length_eq
 rw [List.length_append, Srt.upto_len] at hPl
 have hin : ∀ x ∈ R, 0 ≤ x ∧ x < (l.length : Int) := fun x hx => by rw [hn]; exact Srt.upto_mem.1 (hP.mem_iff.1 (List.mem_append_right _ hx))
 refine WC.seq ?_
 refine WC.seq ?_
 refine WC.region ?_
 refine WL.val (.move (.of rfl)) rfl ?_
 refine WL.val (.move (.of rfl)) rfl ?_
 refine WL.val (.leq (.of rfl) (.of rfl)) rfl ?_
 refine WL.nil ?_
 refine WC.cond rfl (fun hb13 => ?_) (fun hb13 => ?_)
 ·
  have hc13 := hb13; try simp only [Gk.cs0] at hc13
  refine WC.skip ?_
  refine WC.block ?_
  refine WC.seq ?_
  refine WC.region ?_
  refine WL.val (.move (.of rfl)) rfl ?_
  refine WL.val (.move (.of rfl)) rfl ?_
  refine WL.val (.move (.of rfl)) rfl ?_
  refine WL.val (.move (.of rfl)) rfl ?_
  have hTD : R.take 20 ++ R.drop 20 = R := List.take_append_drop 20 R
  rw [← hTD] at hS
  refine WL.call Tryz.func81 rfl (evs_cons (.of rfl) (evs_cons (.of rfl) (evs_cons (.of rfl) (evs_cons (.of rfl) evs_nil)))) rfl (ins_at hx M (R.take 20) (R.drop 20) (hR.sublist (List.take_sublist 20 R)) (fun x h => hin x (List.mem_of_mem_take h)) b0 n c r _ b (by omega) (by rw [List.length_take]; omega) (by omega) (by rw [List.length_take, List.length_drop]; omega) B w As hS) ?_
  clear hS
  rintro _ w ⟨rfl, M2, hM2, hMs, hS⟩
  refine WL.nil ?_
  refine WC.seq ?_
  refine WC.region ?_
  refine WL.val (.move (.of rfl)) rfl ?_
  refine WL.val (.assign (.of rfl)) rfl ?_
  refine WL.nil ?_
  refine WC.region ?_
  refine WL.val (.move (.of rfl)) rfl ?_
  refine WL.val (.move (.of rfl)) rfl ?_
  refine WL.val (.add (.of rfl) (.of rfl) ⟨by omega, by omega⟩) rfl ?_
  refine WL.val (.assign (.of rfl)) rfl ?_
  refine WL.nil ?_
  refine ⟨(b, b + 20, M ++ M2, R.drop 20), ⟨rfl, rfl, rfl, rfl, rfl, rfl, trivial⟩, ⟨by have h1 := hM2.length_eq; rw [List.length_take] at h1; (try dsimp only); rw [List.length_append]; omega, rfl, ?_, ?_, hR.sublist (List.drop_sublist 20 R), ?_, ?_⟩, by (try dsimp only); rw [List.length_drop]; omega⟩
  ·exact hF.append (.one (by rw [hM2.length_eq, List.length_take]; omega) hMs) (Srt.cross_permr (Srt.cross_sub hc (fun _ h => h) (fun _ h => List.mem_of_mem_take h)) hM2)
  ·refine Srt.cross_app (Srt.cross_sub hc (fun _ h => h) (fun _ h => List.mem_of_mem_drop h)) (Srt.cross_perm ?_ hM2)
   intro u hu t ht
   rw [← List.take_append_drop 20 R] at hR
   exact (List.pairwise_append.1 hR).2.2 u hu t ht
  ·rw [List.append_assoc]
   refine List.Perm.trans (List.Perm.append_left M (hM2.append_right _)) ?_
   rw [List.take_append_drop]; exact hP
  ·rw [List.append_assoc]; exact hS
 ·
  have hc13 := hb13; try simp only [Gk.cs0] at hc13
  refine WC.exit ?_
  refine WC.seq ?_
  refine WC.region ?_
  refine WL.val (.move (.of rfl)) rfl ?_
  refine WL.val (.move (.of rfl)) rfl ?_
  refine WL.val (.move (.of rfl)) rfl ?_
  refine WL.val (.move (.of rfl)) rfl ?_
  replace hS : Sat B w I (blk b0 ((M ++ (R ++ [])).map I64 ++ r) 3 :: As) := by simpa using hS
  refine WL.call Tryz.func81 rfl (evs_cons (.of rfl) (evs_cons (.of rfl) (evs_cons (.of rfl) (evs_cons (.of rfl) evs_nil)))) rfl (ins_at hx M R [] hR hin b0 n c r _ n (by omega) (by omega) (by omega) (by simp only [List.length_nil]; omega) B w As hS) ?_
  clear hS
  rintro _ w ⟨rfl, M2, hM2, hMs, hS⟩
  refine WL.nil ?_
  refine WC.block ?_
  refine WC.loop (σ := Int × List Int) (fun ⟨s, D⟩ => [(0, .slice (some (ad b0 0)) n c), (1, I64 n), (2, CF p), (6, I64 s)]) (fun ⟨s, D⟩ w => 20 ≤ s ∧ s ≤ 1000000 ∧ Srt.Runs (kx l) s.toNat D ∧ D.Perm (Srt.upto n) ∧ Sat B w I (blk b0 ((D).map I64 ++ r) 3 :: As)) (fun ⟨s, D⟩ => (n - s : Int).toNat) (20, M ++ M2) ⟨rfl, rfl, rfl, rfl, trivial⟩ ⟨by decide, by decide, ⟨M, M2, rfl, hF, by rw [hM2.length_eq]; omega, hMs, Srt.cross_permr hc hM2⟩, (List.Perm.append_left M hM2).trans hP, by simpa using hS⟩ ?_
  rintro ⟨s, D⟩ w ⟨hs20, hsb, hRu, hP, hS⟩
  change WC _ _ _ _ [(0, .slice (some (ad b0 0)) n c), (1, I64 n), (2, CF p), (6, I64 s)] w
  have hDl := hP.length_eq
  rw [Srt.upto_len] at hDl
  refine WC.seq ?_
  refine WC.seq ?_
  refine WC.region ?_
  refine WL.val (.move (.of rfl)) rfl ?_
  refine WL.val (.move (.of rfl)) rfl ?_
  refine WL.val (.lss (.of rfl) (.of rfl)) rfl ?_
  refine WL.nil ?_
  refine WC.cond rfl (fun hb30 => ?_) (fun hb30 => ?_)
  ·
   have hc30 := hb30; try simp only [Gk.cs0] at hc30
   refine WC.skip ?_
   refine WC.block ?_
   refine WC.seq ?_
   refine WC.region ?_
   refine WL.val (.move (.of rfl)) rfl ?_
   refine WL.val (.mul (.of rfl) (.of rfl) ⟨by omega, by omega⟩) rfl ?_
   refine WL.val (.assign (.of rfl)) rfl ?_
   refine WL.val (.assign (.of rfl)) rfl ?_
   refine WL.nil ?_
   refine WC.seq ?_
   refine WC.block ?_
   obtain ⟨E0, U0, rfl, hE0, hU0, hU0s, hEU⟩ := hRu
   refine WC.loop (σ := Int × Int × List Int × List Int) (fun ⟨a, b, Md, E⟩ => [(0, .slice (some (ad b0 0)) n c), (1, I64 n), (2, CF p), (6, I64 s), (7, I64 a), (8, I64 b)]) (fun ⟨a, b, Md, E⟩ w => a = Md.length ∧ b = a + 2 * s ∧ Srt.Full (kx l) (2 * s).toNat Md ∧ Srt.Full (kx l) s.toNat E ∧ Srt.cross E U0 ∧ Srt.cross Md (E ++ U0) ∧ (Md ++ (E ++ U0)).Perm (Srt.upto n) ∧ Sat B w I (blk b0 ((Md ++ (E ++ U0)).map I64 ++ r) 3 :: As)) (fun ⟨a, b, Md, E⟩ => E.length) (0, 2 * s, [], E0) ⟨rfl, rfl, rfl, rfl, rfl, rfl, trivial⟩ ⟨rfl, by (try dsimp only); omega, .nil, hE0, hEU, (fun _ h => by cases h), hP, hS⟩ ?_
   rintro ⟨a, b, Md, E⟩ w ⟨ha, hb2, hMd, hE, hEU, hc, hP, hS⟩
   change WC _ _ _ _ [(0, .slice (some (ad b0 0)) n c), (1, I64 n), (2, CF p), (6, I64 s), (7, I64 a), (8, I64 b)] w
   have hPl := hP.length_eq
   rw [List.length_append, List.length_append, Srt.upto_len] at hPl
   have hin : ∀ x ∈ E ++ U0, 0 ≤ x ∧ x < (l.length : Int) := fun x hx => by rw [hn]; exact Srt.upto_mem.1 (hP.mem_iff.1 (List.mem_append_right _ hx))
   refine WC.seq ?_
   refine WC.seq ?_
   refine WC.region ?_
   refine WL.val (.move (.of rfl)) rfl ?_
   refine WL.val (.move (.of rfl)) rfl ?_
   refine WL.val (.leq (.of rfl) (.of rfl)) rfl ?_
   refine WL.nil ?_
   refine WC.cond rfl (fun hb35 => ?_) (fun hb35 => ?_)
   ·
    have hc35 := hb35; try simp only [Gk.cs0] at hc35
    refine WC.skip ?_
    refine WC.block ?_
    refine WC.seq ?_
    refine WC.region ?_
    refine WL.val (.move (.of rfl)) rfl ?_
    refine WL.val (.move (.of rfl)) rfl ?_
    refine WL.val (.move (.of rfl)) rfl ?_
    refine WL.val (.move (.of rfl)) rfl ?_
    refine WL.val (.add (.of rfl) (.of rfl) ⟨by omega, by omega⟩) rfl ?_
    refine WL.val (.move (.of rfl)) rfl ?_
    refine WL.val (.move (.of rfl)) rfl ?_
    obtain ⟨U, V, T, rfl, hUl, hVl, hUs, hVs, hUV, hUT, hVT, hT⟩ := hE.two (by omega)
    simp only [List.length_append] at hPl
    have hTU : Srt.cross T U0 := Srt.cross_sub hEU (fun _ h => by simp [h]) (fun _ h => h)
    rw [show Md ++ ((U ++ (V ++ T)) ++ U0) = Md ++ (U ++ (V ++ (T ++ U0))) by simp only [List.append_assoc]] at hS
    refine WL.call Tryz.func82 rfl (evs_cons (.of rfl) (evs_cons (.of rfl) (evs_cons (.of rfl) (evs_cons (.of rfl) (evs_cons (.of rfl) evs_nil))))) rfl (sym_any hx _ Md U V (T ++ U0) hUs hVs hUV (fun x h => hin x (by rcases List.mem_append.1 h with h | h <;> simp [h])) (by omega) (by omega) (Nat.le_refl _) b0 n c r _ _ _ (by omega) (by omega) (by omega) (by omega) (by simp only [List.length_append]; omega) B w As hS) ?_
    clear hS
    rintro _ w ⟨rfl, M3, hM3, hMs3, hS⟩
    refine WL.nil ?_
    refine WC.seq ?_
    refine WC.region ?_
    refine WL.val (.move (.of rfl)) rfl ?_
    refine WL.val (.assign (.of rfl)) rfl ?_
    refine WL.nil ?_
    refine WC.region ?_
    refine WL.val (.move (.of rfl)) rfl ?_
    refine WL.val (.move (.of rfl)) rfl ?_
    refine WL.val (.mul (.of rfl) (.of rfl) ⟨by omega, by omega⟩) rfl ?_
    refine WL.val (.add (.of rfl) (.of rfl) ⟨by omega, by omega⟩) rfl ?_
    refine WL.val (.assign (.of rfl)) rfl ?_
    refine WL.nil ?_
    refine ⟨(b, b + 2 * s, Md ++ M3, T), ⟨rfl, rfl, rfl, rfl, rfl, rfl, trivial⟩, ⟨by (try dsimp only); rw [List.length_append, hM3.length_eq, List.length_append]; omega, rfl, ?_, hT, hTU, ?_, ?_, ?_⟩, by (try dsimp only); simp only [List.length_append]; omega⟩
    ·exact hMd.append (.one (by rw [hM3.length_eq, List.length_append]; omega) hMs3) (Srt.cross_permr (Srt.cross_sub hc (fun _ h => h) (fun x h => by rcases List.mem_append.1 h with h | h <;> simp [h])) hM3)
    ·refine Srt.cross_app (Srt.cross_sub hc (fun _ h => h) (fun x h => by rcases List.mem_append.1 h with h | h <;> simp [h])) (Srt.cross_perm ?_ hM3)
     exact Srt.cross_app (Srt.cross_appr hUT (Srt.cross_sub hEU (fun _ h => List.mem_append_left _ h) (fun _ h => h))) (Srt.cross_appr hVT (Srt.cross_sub hEU (fun _ h => by simp [h]) (fun _ h => h)))
    ·refine List.Perm.trans ?_ hP
     simp only [List.append_assoc]
     refine List.Perm.append_left Md ?_
     have := hM3.append_right (T ++ U0)
     simpa [List.append_assoc] using this
    ·rw [List.append_assoc]; exact hS
   ·
    have hc35 := hb35; try simp only [Gk.cs0] at hc35
    refine WC.exit ?_
    refine WC.seq ?_
    refine WC.seq ?_
    refine WC.region ?_
    refine WL.val (.move (.of rfl)) rfl ?_
    refine WL.val (.move (.of rfl)) rfl ?_
    refine WL.val (.add (.of rfl) (.of rfl) ⟨by omega, by omega⟩) rfl ?_
    refine WL.val (.assign (.of rfl)) rfl ?_
    refine WL.nil ?_
    refine WC.seq ?_
    refine WC.region ?_
    refine WL.val (.move (.of rfl)) rfl ?_
    refine WL.val (.move (.of rfl)) rfl ?_
    refine WL.val (.lss (.of rfl) (.of rfl)) rfl ?_
    refine WL.nil ?_
    refine WC.cond rfl (fun hb54 => ?_) (fun hb54 => ?_)
    ·
     have hc54 := hb54; try simp only [Gk.cs0] at hc54
     refine WC.region ?_
     refine WL.val (.move (.of rfl)) rfl ?_
     refine WL.val (.move (.of rfl)) rfl ?_
     refine WL.val (.move (.of rfl)) rfl ?_
     refine WL.val (.move (.of rfl)) rfl ?_
     refine WL.val (.move (.of rfl)) rfl ?_
     have hEf : E.length = s.toNat ∧ Srt.So (kx l) E := by
      rcases hE.few (by omega) with h | h
      ·subst h; simp at hPl; omega
      ·exact h
     replace hS : Sat B w I (blk b0 ((Md ++ (E ++ (U0 ++ []))).map I64 ++ r) 3 :: As) := by simpa using hS
     refine WL.call Tryz.func82 rfl (evs_cons (.of rfl) (evs_cons (.of rfl) (evs_cons (.of rfl) (evs_cons (.of rfl) (evs_cons (.of rfl) evs_nil))))) rfl (sym_any hx _ Md E U0 [] hEf.2 hU0s hEU (fun x h => hin x h) (by omega) (by omega) (Nat.le_refl _) b0 n c r _ _ _ (by omega) (by omega) (by omega) (by omega) (by simp only [List.length_nil]; omega) B w As hS) ?_
     clear hS
     rintro _ w ⟨rfl, M3, hM3, hMs3, hS⟩
     refine WL.nil ?_
     refine WC.region ?_
     refine WL.val (.move (.of rfl)) rfl ?_
     refine WL.val (.mul (.of rfl) (.of rfl) ⟨by omega, by omega⟩) rfl ?_
     refine WL.val (.assign (.of rfl)) rfl ?_
     refine WL.nil ?_
     refine ⟨(s * 2, Md ++ M3), ⟨rfl, rfl, rfl, rfl, trivial⟩, ⟨by omega, by omega, ⟨Md, M3, rfl, by rw [show (s * 2).toNat = (2 * s).toNat by omega]; exact hMd, by rw [hM3.length_eq, List.length_append]; omega, hMs3, Srt.cross_permr hc hM3⟩, ?_, by simpa using hS⟩, by (try dsimp only); omega⟩
     exact (List.Perm.append_left Md hM3).trans hP
    ·
     have hc54 := hb54; try simp only [Gk.cs0] at hc54
     refine WC.skip ?_
     refine WC.region ?_
     refine WL.val (.move (.of rfl)) rfl ?_
     refine WL.val (.mul (.of rfl) (.of rfl) ⟨by omega, by omega⟩) rfl ?_
     refine WL.val (.assign (.of rfl)) rfl ?_
     refine WL.nil ?_
     have hq : (E ++ U0).length < (s * 2).toNat ∧ Srt.So (kx l) (E ++ U0) := by
      rcases hE.few (by omega) with h | h
      ·subst h; simp only [List.nil_append]; exact ⟨by omega, hU0s⟩
      ·have hU00 : U0 = [] := List.eq_nil_of_length_eq_zero (by omega)
       subst hU00
       rw [List.append_nil]; exact ⟨by omega, h.2⟩
     refine ⟨(s * 2, Md ++ (E ++ U0)), ⟨rfl, rfl, rfl, rfl, trivial⟩, ⟨by omega, by omega, ⟨Md, E ++ U0, rfl, by rw [show (s * 2).toNat = (2 * s).toNat by omega]; exact hMd, hq.1, hq.2, hc⟩, hP, hS⟩, by (try dsimp only); omega⟩
  ·
   have hc30 := hb30; try simp only [Gk.cs0] at hc30
   refine WC.exit ?_
   refine end0 Tryz.results66 ?_
   refine ⟨_, rfl, rfl, D, ⟨hRu.sorted (by omega) (by omega), hP⟩, hS⟩
theorem ins_nil (cv : Value) (w : World) :
  Calls Tryz.prog 81 [.slice none 0 0, I64 0, I64 0, cv].toArray w (Ret fun v w' => v = .tuple #[] ∧ w = w') := by
 obtain ⟨w0, hw0⟩ : ∃ w0, w = w0 := ⟨_, rfl⟩
 rw [show (fun (v : Value) (w' : World) => v = .tuple #[] ∧ w = w') = (fun v w' => v = .tuple #[] ∧ w0 = w') by rw [hw0]]
 refine calls Tryz.func81 rfl Tryz.ntmps81 rfl ?_
 refine WC.seq ?_
 refine WC.region ?_
 refine WL.val (.move (.of rfl)) rfl ?_
 refine WL.val (.add (.of rfl) (.of rfl) ⟨by omega, by omega⟩) rfl ?_
 refine WL.val (.assign (.of rfl)) rfl ?_
 refine WL.nil ?_
 refine WC.block ?_
 refine WC.loop (σ := Unit) (fun _ => [(2, I64 0), (8, I64 1)]) (fun _ w => w = w0) (fun _ => 0) () ⟨rfl, rfl, trivial⟩ hw0 ?_
 rintro _ w hw
 change WC _ _ _ _ [(2, I64 0), (8, I64 1)] w
 refine WC.seq ?_
 refine WC.seq ?_
 refine WC.region ?_
 refine WL.val (.move (.of rfl)) rfl ?_
 refine WL.val (.move (.of rfl)) rfl ?_
 refine WL.val (.lss (.of rfl) (.of rfl)) rfl ?_
 refine WL.nil ?_
 refine WC.condF (rfl) ?_
 refine WC.exit ?_
 refine end0 Tryz.results81 ?_
 exact ⟨_, rfl, rfl, hw.symm⟩
theorem stable_nil (cv : Value) (w : World) :
  Calls Tryz.prog 66 [.slice none 0 0, I64 0, cv].toArray w (Ret fun v w' => v = .tuple #[] ∧ w = w') := by
 obtain ⟨w0, hw0⟩ : ∃ w0, w = w0 := ⟨_, rfl⟩
 rw [show (fun (v : Value) (w' : World) => v = .tuple #[] ∧ w = w') = (fun v w' => v = .tuple #[] ∧ w0 = w') by rw [hw0]]
 refine calls Tryz.func66 rfl Tryz.ntmps66 rfl ?_
 refine WC.seq ?_
 refine WC.region ?_
 refine WL.val (.assign (.of rfl)) rfl ?_
 refine WL.nil ?_
 refine WC.seq ?_
 refine WC.region ?_
 refine WL.val (.move (.of rfl)) rfl ?_
 refine WL.val (.assign (.of rfl)) rfl ?_
 refine WL.val (.assign (.of rfl)) rfl ?_
 refine WL.nil ?_
 refine WC.seq ?_
 refine WC.block ?_
 refine WC.loop (σ := Unit) (fun _ => [(0, .slice none 0 0), (1, I64 0), (2, cv), (6, I64 20), (7, I64 0), (8, I64 20)]) (fun _ w => w = w0) (fun _ => 0) () ⟨rfl, rfl, rfl, rfl, rfl, rfl, trivial⟩ hw0 ?_
 rintro _ w hw
 change WC _ _ _ _ [(0, .slice none 0 0), (1, I64 0), (2, cv), (6, I64 20), (7, I64 0), (8, I64 20)] w
 refine WC.seq ?_
 refine WC.seq ?_
 refine WC.region ?_
 refine WL.val (.move (.of rfl)) rfl ?_
 refine WL.val (.move (.of rfl)) rfl ?_
 refine WL.val (.leq (.of rfl) (.of rfl)) rfl ?_
 refine WL.nil ?_
 refine WC.condF (rfl) ?_
 refine WC.exit ?_
 refine WC.seq ?_
 refine WC.region ?_
 refine WL.val (.move (.of rfl)) rfl ?_
 refine WL.val (.move (.of rfl)) rfl ?_
 refine WL.val (.move (.of rfl)) rfl ?_
 refine WL.val (.move (.of rfl)) rfl ?_
 refine WL.call Tryz.func81 rfl (evs_cons (.of rfl) (evs_cons (.of rfl) (evs_cons (.of rfl) (evs_cons (.of rfl) evs_nil)))) rfl (ins_nil _ _) ?_
 rintro _ _ ⟨rfl, rfl⟩
 refine WL.nil ?_
 refine WC.block ?_
 refine WC.loop (σ := Unit) (fun _ => [(1, I64 0), (6, I64 20)]) (fun _ w => w = w0) (fun _ => 0) () ⟨rfl, rfl, trivial⟩ hw ?_
 rintro _ w hw
 change WC _ _ _ _ [(1, I64 0), (6, I64 20)] w
 refine WC.seq ?_
 refine WC.seq ?_
 refine WC.region ?_
 refine WL.val (.move (.of rfl)) rfl ?_
 refine WL.val (.move (.of rfl)) rfl ?_
 refine WL.val (.lss (.of rfl) (.of rfl)) rfl ?_
 refine WL.nil ?_
 refine WC.condF (rfl) ?_
 refine WC.exit ?_
 refine end0 Tryz.results66 ?_
 exact ⟨_, rfl, rfl, hw.symm⟩
theorem sort_nil (cv : Value) (w : World) :
  Calls Tryz.prog 52 [.slice none 0 0, cv].toArray w (Ret fun v w' => v = .tuple #[] ∧ w = w') := by
 refine calls Tryz.func52 rfl Tryz.ntmps52 rfl ?_
 refine WC.region ?_
 refine WL.val (.move (.of rfl)) rfl ?_
 refine WL.val (.move (.of rfl)) rfl ?_
 refine WL.val (.lenSlice (.of rfl) Tryz.underlying68) rfl ?_
 refine WL.val (.move (.of rfl)) rfl ?_
 refine WL.call Tryz.func66 rfl (evs_cons (.of rfl) (evs_cons (.of rfl) (evs_cons (.of rfl) evs_nil))) rfl (stable_nil _ _) ?_
 rintro _ _ ⟨rfl, rfl⟩
 refine WL.nil ?_
 refine end0 Tryz.results52 ?_
 exact ⟨_, rfl, rfl, rfl⟩
theorem sort_blk {l : List Nat} {p : Addr} {I : Im} (hx : Cx I l p) (b0 n c : Nat) (r : List Value) (hn : l.length = n) (hb : n ≤ 100000) (B w : World) (As : List Assn) (hS : Sat B w I (blk b0 ((Srt.upto n).map I64 ++ r) 3 :: As)) :
  Calls Tryz.prog 52 [.slice (some (ad b0 0)) n c, CF p].toArray w (Ret fun v w' => v = .tuple #[] ∧ ∃ D, Srt.Ord (kx l) n D ∧ Sat B w' I (blk b0 ((D).map I64 ++ r) 3 :: As)) := by
 refine calls Tryz.func52 rfl Tryz.ntmps52 rfl ?_
 refine WC.region ?_
 refine WL.val (.move (.of rfl)) rfl ?_
 refine WL.val (.move (.of rfl)) rfl ?_
 refine WL.val (.lenSlice (.of rfl) Tryz.underlying68) rfl ?_
 refine WL.val (.move (.of rfl)) rfl ?_
 refine WL.call Tryz.func66 rfl (evs_cons (.of rfl) (evs_cons (.of rfl) (evs_cons (.of rfl) evs_nil))) rfl (stable_any hx b0 n c r hn hb B w As hS) ?_
 clear hS
 rintro _ w ⟨rfl, D, hD, hS⟩
 refine WL.nil ?_
 refine end0 Tryz.results52 ?_
 exact ⟨_, rfl, rfl, D, hD, hS⟩
theorem sort_vec {l : List Nat} {p : Addr} {I : Im} (hx : Cx I l p) (u : Value) (n : Nat) (hn : l.length = n) (hb : n ≤ 100000) (B w : World) (As : List Assn) (hS : Sat B w I (Vec 3 1 u n ((Srt.upto n).map I64) :: As)) :
  Calls Tryz.prog 52 [u, CF p].toArray w (Ret fun v w' => v = .tuple #[] ∧ ∃ D, Srt.Ord (kx l) n D ∧ Sat B w' I (Vec 3 1 u n ((D).map I64) :: As)) := by
 rcases Nat.eq_zero_or_pos n with h0 | h0
 ·subst h0
  have hcase : u = .slice none 0 0 ∨ ∃ b0 c r, u = .slice (some (ad b0 0)) 0 c ∧ c ≤ maxLen ∧ r.length = c ∧ Sat B w I (blk b0 (([] : List Int).map I64 ++ r) 3 :: As) := by
   obtain ⟨h, ⟨h1, h2, rfl, ⟨hl, ha⟩, hr⟩, hg⟩ := hS
   rcases ha with ⟨hv, _, _⟩ | ⟨b, cap, rest, rfl, rfl, h3, h4, h5⟩
   ·exact .inl hv
   ·exact .inr ⟨b, cap, rest, rfl, h4, by simp [Srt.upto] at h5; exact h5, _, ⟨_, h2, rfl, rfl, hr⟩, hg⟩
  rcases hcase with rfl | ⟨b0, c, r, rfl, hcm, hrl, hSo⟩
  ·refine (sort_nil (CF p) w).mono ?_
   rintro e w' ⟨v, rfl, rfl, rfl⟩
   exact ⟨_, rfl, rfl, [], ⟨.nil, .refl _⟩, hS⟩
  ·refine (sort_blk hx b0 0 c r hn (by decide) B w As hSo).mono ?_
   rintro e w' ⟨v, rfl, rfl, D, hD, hS'⟩
   have hD0 : D = [] := List.eq_nil_of_length_eq_zero hD.len
   subst hD0
   exact ⟨_, rfl, rfl, [], hD, hS'.vecShut (k := 0) (n := 0) (xs := []) (size := 1) (cap := c) (rest := r) rfl (Nat.zero_le _) hcm rfl (by simpa using hrl)⟩
 ·obtain ⟨b0, c, r, rfl, hnc, hcm, hxl, hxr, hSo⟩ := hS.vecOpen (k := 0) rfl h0
  refine (sort_blk hx b0 n c r hn hb B w As hSo).mono ?_
  rintro e w' ⟨v, rfl, rfl, D, hD, hS'⟩
  refine ⟨_, rfl, rfl, D, hD, hS'.vecShut (k := 0) (n := n) (xs := D.map I64) (size := 1) (cap := c) (rest := r) rfl hnc hcm (by rw [List.length_map, hD.len]; omega) ?_⟩
  rw [List.length_map, hD.len]
  rw [hxl] at hxr
  omega
theorem Order_any (l : List Nat) (small : ∀ v ∈ l, v < 18446744073709551616) (hl : l.length ≤ 100000) (a : Option Addr) (c : Nat) (B w : World) (I : Im) (hr : RS I a 1 l.length (l.map F64)) (As : List Assn) (hS : Sat B w I As) :
  Calls Tryz.prog 27 [.slice a l.length c].toArray w (Ret fun v w' => ∃ D va vc, v = .slice va l.length vc ∧ Srt.Ord (kx l) l.length D ∧ Sat B w' I (Vec 3 1 (.slice va l.length vc) l.length (D.map I64) :: As)) := by
 refine calls Tryz.func27 rfl Tryz.ntmps27 rfl ?_
 refine WC.seq ?_
 refine WC.region ?_
 refine WL.box1 hS (.of rfl) rfl rfl ?_
 clear hS; intro b1 w hS
 refine WL.val (.assign (.of rfl)) rfl ?_
 refine WL.nil ?_
 refine WC.seq ?_
 refine WC.region ?_
 refine WL.val (.assign (.of rfl)) rfl ?_
 refine WL.nil ?_
 refine WC.seq ?_
 refine WC.seq ?_
 refine WC.region ?_
 first | refine WL.val (.ld (.of rfl) hS (k := 0) rfl Tryz.isAgg61 rfl) rfl ?_
 refine WL.val (.lenSlice (.of rfl) Tryz.underlying61) rfl ?_
 refine WL.val (.move (.of rfl)) rfl ?_
 refine WL.nil ?_
 refine WC.block ?_
 replace hS := hS.vecNil 3 1
 refine WC.loop (σ := Nat × Option Addr × Nat) (fun ⟨k, va, vc⟩ => [(1, ptr b1 0), (3, .slice va k vc), (6, I64 l.length), (7, I64 (k : Nat))]) (fun ⟨k, va, vc⟩ w => k ≤ l.length ∧ Sat B w I (Vec 3 1 (.slice va k vc) k ((Srt.upto k).map I64) :: blk b1 [.slice a l.length c] 61 :: As)) (fun ⟨k, va, vc⟩ => l.length - k) (0, none, 0) ⟨rfl, rfl, rfl, rfl, trivial⟩ ⟨Nat.zero_le _, hS⟩ ?_
 rintro ⟨k, va, vc⟩ w ⟨hk, hS⟩
 change WC _ _ _ _ [(1, ptr b1 0), (3, .slice va k vc), (6, I64 l.length), (7, I64 (k : Nat))] w
 refine WC.seq ?_
 refine WC.region ?_
 refine WL.val (.lss (.of rfl) (.of rfl)) rfl ?_
 refine WL.nil ?_
 refine WC.seq ?_
 refine WC.cond rfl (fun hb8 => ?_) (fun hb8 => ?_)
 ·
  have hc8 := hb8; try simp only [Gk.cs0] at hc8
  refine WC.skip ?_
  refine WC.seq ?_
  refine WC.block ?_
  refine WC.seq ?_
  refine WC.region ?_
  refine WL.val (.move (.of rfl)) rfl ?_
  refine WL.val (.assign (.of rfl)) rfl ?_
  refine WL.nil ?_
  refine WC.region ?_
  refine WL.val (.move (.of rfl)) rfl ?_
  refine WL.val (.move (.of rfl)) rfl ?_
  refine WL.buildSlice (cs := [_]) hS (parts_cons (.of rfl) parts_nil) Tryz.underlying68 Tryz.sizeOf3 Tryz.zeroValue3 rfl rfl rfl rfl ?_
  clear hS; intro b12 w hS
  first | refine WL.append (size := 1) (bytes := 8) hS (.of rfl) (.of rfl) (k := 0) rfl Tryz.underlying68 info3_66 rfl rfl rfl rfl rfl rfl rfl ⟨by omega, by unfold maxLen; omega⟩ rfl ?_ | refine WL.append (size := 1) (bytes := 8) hS (.of rfl) (.of rfl) (k := 1) rfl Tryz.underlying68 info3_66 rfl rfl rfl rfl rfl rfl rfl ⟨by omega, by unfold maxLen; omega⟩ rfl ?_
  clear hS; intro v13 w hS; try dsimp only [List.set] at hS
  first | obtain ⟨a13, c13, rfl, hcap13, _⟩ := hS.vecSlice (k := 0) (v := v13) rfl | obtain ⟨a13, c13, rfl, hcap13, _⟩ := hS.vecSlice (k := 1) (v := v13) rfl
  refine WL.val (.assign (.of rfl)) rfl ?_
  refine WL.nil ?_
  refine WC.region ?_
  refine WL.val (.add (.of rfl) (.of rfl) ⟨by omega, by omega⟩) rfl ?_
  refine WL.val (.move (.of rfl)) rfl ?_
  refine WL.nil ?_
  refine ⟨(k + 1, a13, c13), ⟨rfl, rfl, rfl, rfl, trivial⟩, ⟨by (try dsimp only); omega, ?_⟩, by (try dsimp only); omega⟩
  rw [Srt.upto, List.map_append]; exact hS
 ·
  have hc8 := hb8; try simp only [Gk.cs0] at hc8
  refine WC.exit ?_
  refine WC.seq ?_
  refine WC.region ?_
  refine WL.val (.move (.of rfl)) rfl ?_
  refine WL.val (.makeFunc (evs_cons (.of rfl) evs_nil)) rfl ?_
  obtain rfl : k = l.length := by omega
  obtain ⟨J, hJ, hJb, hT⟩ := hS.freeze (k := 1) rfl; clear hS; have hS := hT; clear hT; try dsimp only [List.eraseIdx] at hS
  have hcx : Cx J l (ad b1 0) := ⟨⟨a, c, ⟨rfl, _, _, _, hJb, fun j v h => by simpa using h⟩, hr.mono hJ⟩, small⟩
  refine WL.call Tryz.func52 rfl (evs_cons (.of rfl) (evs_cons (.of rfl) evs_nil)) rfl (sort_vec hcx _ l.length rfl (by omega) B w As hS) ?_
  clear hS
  rintro _ w ⟨rfl, D, hD, hS⟩
  refine WL.nil ?_
  refine WC.seq ?_
  refine WC.region ?_
  refine WL.val (.move (.of rfl)) rfl ?_
  refine WL.val (.assign (.of rfl)) rfl ?_
  refine WL.nil ?_
  refine WC.ret ?_
  refine ret1 Tryz.results27 rfl ?_
  exact ⟨_, rfl, D, va, vc, rfl, hD, hS.weaken hJ⟩
end Go.Proofs.YtchgkcbloeoopaaGreatDoor
namespace Go.Proofs.YtchgkcbloeoopaaGreatDoor
open Gk Rk
set_option linter.unusedVariables false
set_option linter.unusedSimpArgs false
theorem info3_30 : Tryz.prog.info? 3 = some Tryz.t3 := by kernel_rfl
theorem info4_30 : Tryz.prog.info? 4 = some Tryz.t4 := by kernel_rfl
set_option maxHeartbeats 400000 in
theorem refOrder_any (l : List Nat) (small : ∀ v ∈ l, v < 18446744073709551616) (hl : l.length ≤ 100000) (a : Option Addr) (c : Nat) (B w : World) (I : Im) (hr : RS I a 1 l.length (l.map F64)) (As : List Assn) (hS : Sat B w I As) :
  Calls Tryz.prog 30 [.slice a l.length c].toArray w (Ret fun v w' => ∃ D va vc, v = .slice va l.length vc ∧ Srt.Ord (kx l) l.length D ∧ Sat B w' I (Vec 3 1 (.slice va l.length vc) l.length (D.map I64) :: As)) := by
 refine calls Tryz.func30 rfl Tryz.ntmps30 rfl ?_
 refine WC.seq ?_
 refine WC.region ?_
 refine WL.val (.assign (.of rfl)) rfl ?_
 refine WL.nil ?_
 refine WC.seq ?_
 refine WC.region ?_
 refine WL.val (.assign (.of rfl)) rfl ?_
 refine WL.nil ?_
 refine WC.seq ?_
 refine WC.region ?_
 refine WL.val (.move (.of rfl)) rfl ?_
 refine WL.val (.lenSlice (.of rfl) Tryz.underlying61) rfl ?_
 refine WL.make (l := l.length) hS (.of rfl) (.of rfl) Tryz.underlying97 info4_30 rfl (by simp [Tryz.t4] <;> omega) (by omega) rfl rfl rfl ?_
 clear hS; intro b9 w hS
 refine WL.val (.assign (.of rfl)) rfl ?_
 refine WL.nil ?_
 refine WC.seq ?_
 refine WC.block ?_
 replace hS := hS.vecNil 3 1
 refine WC.loop (σ := List Bool × List Int × List Int × Option Addr × Nat) (fun ⟨us, Os, T, va, vc⟩ => [(0, .slice a l.length c), (3, .slice va Os.length vc), (4, .slice (some (ad b9 0)) l.length l.length)]) (fun ⟨us, Os, T, va, vc⟩ w => Srt.Sel (kx l) l.length us Os T ∧ Sat B w I (Vec 3 1 (.slice va Os.length vc) Os.length (Os.map I64) :: blk b9 (us.map Value.bool ++ []) 4 :: As)) (fun ⟨us, Os, T, va, vc⟩ => T.length) (List.replicate l.length false, [], Srt.upto l.length, none, 0) ⟨rfl, rfl, rfl, trivial⟩ ⟨Srt.Sel.start _ _, by rw [List.map_replicate, List.append_nil]; exact hS⟩ ?_
 rintro ⟨us, Os, T, va, vc⟩ w ⟨hsel, hS⟩
 change WC _ _ _ _ [(0, .slice a l.length c), (3, .slice va Os.length vc), (4, .slice (some (ad b9 0)) l.length l.length)] w
 have hsl := hsel.len
 have hse := hsel.lens
 refine WC.seq ?_
 refine WC.seq ?_
 refine WC.region ?_
 refine WL.val (.move (.of rfl)) rfl ?_
 refine WL.val (.lenSlice (.of rfl) Tryz.underlying68) rfl ?_
 refine WL.val (.move (.of rfl)) rfl ?_
 refine WL.val (.lenSlice (.of rfl) Tryz.underlying61) rfl ?_
 refine WL.val (.lss (.of rfl) (.of rfl)) rfl ?_
 refine WL.nil ?_
 refine WC.cond rfl (fun hb14 => ?_) (fun hb14 => ?_)
 ·
  have hc14 := hb14; try simp only [Gk.cs0] at hc14
  refine WC.skip ?_
  refine WC.block ?_
  refine WC.seq ?_
  refine WC.region ?_
  refine WL.val (.assign (.of rfl)) rfl ?_
  refine WL.nil ?_
  refine WC.seq ?_
  refine WC.seq ?_
  refine WC.region ?_
  refine WL.val (.assign (.of rfl)) rfl ?_
  refine WL.nil ?_
  refine WC.block ?_
  refine WC.loop (σ := Nat × Int) (fun ⟨i, best⟩ => [(0, .slice a l.length c), (3, .slice va Os.length vc), (4, .slice (some (ad b9 0)) l.length l.length), (5, I64 best), (6, I64 (i : Nat))]) (fun ⟨i, best⟩ w => i ≤ l.length ∧ -1 ≤ best ∧ Srt.Best (kx l) T i best ∧ Sat B w I (Vec 3 1 (.slice va Os.length vc) Os.length (Os.map I64) :: blk b9 (us.map Value.bool ++ []) 4 :: As)) (fun ⟨i, best⟩ => l.length - i) (0, -1) ⟨rfl, rfl, rfl, rfl, rfl, trivial⟩ ⟨Nat.zero_le _, by decide, .inl ⟨rfl, fun t ht => (hsel.mem ht).1⟩, hS⟩ ?_
  rintro ⟨i, best⟩ w ⟨hi, hbn, hbest, hS⟩
  change WC _ _ _ _ [(0, .slice a l.length c), (3, .slice va Os.length vc), (4, .slice (some (ad b9 0)) l.length l.length), (5, I64 best), (6, I64 (i : Nat))] w
  have hbl := hbest.lt
  refine WC.seq ?_
  refine WC.seq ?_
  refine WC.region ?_
  refine WL.val (.move (.of rfl)) rfl ?_
  refine WL.val (.move (.of rfl)) rfl ?_
  refine WL.val (.lenSlice (.of rfl) Tryz.underlying61) rfl ?_
  refine WL.val (.lss (.of rfl) (.of rfl)) rfl ?_
  refine WL.nil ?_
  refine WC.cond rfl (fun hb18 => ?_) (fun hb18 => ?_)
  ·
   have hc18 := hb18; try simp only [Gk.cs0] at hc18
   refine WC.skip ?_
   refine WC.seq ?_
   refine WC.block ?_
   refine WC.seq ?_
   obtain ⟨pa, rfl, ha⟩ := hr.2 (by omega)
   refine WC.quiet (by kernel_rfl) (by kernel_rfl) hS ?_
   refine WQ.val (fun w hS => (.move (.of rfl))) rfl ?_
   refine WQ.val (fun w hS => (.move (.of rfl))) rfl ?_
   refine WQ.val (fun w hS => (by first | exact .indexAddr (.of rfl) (.of rfl) (by omega) (by omega) Tryz.underlying97 Tryz.sizeOf4 | exact .indexAddrI (.of rfl) (.of rfl) (by omega) (by omega) Tryz.underlying97 Tryz.sizeOf4)) rfl ?_
   refine WQ.val (fun w hS => .ldE .bool us false [] (i := (i : Int)) (.of rfl) hS (k := 1) rfl rfl Tryz.isAgg4 (by omega) (by omega)) rfl ?_
   refine WQ.val (fun w hS => (.not (.of rfl))) rfl ?_
   refine WQ.val (fun w hS => (.move (.of rfl))) rfl ?_
   refine WQ.gval rfl rfl rfl (fun hg1 w hS => (.move (.of rfl))) rfl ?_
   refine WQ.gval rfl rfl rfl (fun hg1 w hS => (.lss (.gd hg1 rfl) (.of rfl))) rfl ?_
   refine WQ.gval rfl rfl rfl (fun hg1 w hS => (.move (.gd hg1 rfl))) rfl ?_
   refine WQ.gval2 rfl rfl rfl (fun hg1 hg2 w hS => (.move (.of rfl))) rfl ?_
   refine WQ.gval2 rfl rfl rfl (fun hg1 hg2 w hS => (.move (.of rfl))) rfl ?_
   refine WQ.gval2 rfl rfl rfl (fun hg1 hg2 w hS => (by first | exact .indexAddr (.gd2 hg1 hg2 rfl) (.gd2 hg1 hg2 rfl) (by (try simp only [Gk.cs0] at hg1 hg2); omega) (by (try simp only [Gk.cs0] at hg1 hg2); omega) Tryz.underlying61 Tryz.sizeOf34 | exact .indexAddrI (.gd2 hg1 hg2 rfl) (.gd2 hg1 hg2 rfl) (by (try simp only [Gk.cs0] at hg1 hg2); omega) (by (try simp only [Gk.cs0] at hg1 hg2); omega) Tryz.underlying61 Tryz.sizeOf34)) rfl ?_
   refine WQ.gval2 rfl rfl rfl (fun hg1 hg2 w hS => .ldEI F64 l 0 (i := (i : Int)) (.gd2 hg1 hg2 rfl) hS ha rfl Tryz.isAgg34 (by omega) (by omega)) rfl ?_
   refine WQ.gcall2 rfl rfl rfl Tryz.func17 rfl (fun hg1 hg2 => (evs_cons (.gd2 hg1 hg2 rfl) evs_nil)) rfl (fun hg1 hg2 w hS => refKey_any _ (small_get small (i : Int).toNat) B w I _ hS) ?_
   refine WQ.gval2 rfl rfl rfl (fun hg1 hg2 w hS => (.move (.of rfl))) rfl ?_
   refine WQ.gval2 rfl rfl rfl (fun hg1 hg2 w hS => (.move (.of rfl))) rfl ?_
   refine WQ.gval2 rfl rfl rfl (fun hg1 hg2 w hS => (by first | exact .indexAddr (.gd2 hg1 hg2 rfl) (.gd2 hg1 hg2 rfl) (by (try simp only [Gk.cs0] at hg1 hg2); omega) (by (try simp only [Gk.cs0] at hg1 hg2); omega) Tryz.underlying61 Tryz.sizeOf34 | exact .indexAddrI (.gd2 hg1 hg2 rfl) (.gd2 hg1 hg2 rfl) (by (try simp only [Gk.cs0] at hg1 hg2); omega) (by (try simp only [Gk.cs0] at hg1 hg2); omega) Tryz.underlying61 Tryz.sizeOf34)) rfl ?_
   refine WQ.gval2 rfl rfl rfl (fun hg1 hg2 w hS => .ldEI F64 l 0 (i := best) (.gd2 hg1 hg2 rfl) hS ha rfl Tryz.isAgg34 (by (try simp only [Gk.cs0] at hg1 hg2); omega) (by omega)) rfl ?_
   refine WQ.gcall2 rfl rfl rfl Tryz.func17 rfl (fun hg1 hg2 => (evs_cons (.gd2 hg1 hg2 rfl) evs_nil)) rfl (fun hg1 hg2 w hS => refKey_any _ (small_get small best.toNat) B w I _ hS) ?_
   refine WQ.gval2 rfl rfl rfl (fun hg1 hg2 w hS => (.lss (.gd2 hg1 hg2 rfl) (.gd2 hg1 hg2 rfl))) rfl ?_
   refine WQ.gval rfl rfl rfl (fun hg1 w hS => (.por (.gd hg1 rfl) (.of rfl) (.gd hg1 rfl))) rfl ?_
   refine WQ.val (fun w hS => (.pand (.of rfl) (.of rfl) (.of rfl))) rfl ?_
   refine WQ.nil ?_
   clear hS; intro w hS
   refine WC.cond rfl (fun hb42 => ?_) (fun hb42 => ?_)
   ·
    have hc42 := hb42; try simp only [Gk.cs0] at hc42
    refine WC.region ?_
    refine WL.val (.move (.of rfl)) rfl ?_
    refine WL.val (.assign (.of rfl)) rfl ?_
    refine WL.nil ?_
    refine WC.region ?_
    refine WL.val (.move (.of rfl)) rfl ?_
    refine WL.val (.add (.of rfl) (.of rfl) ⟨by omega, by omega⟩) rfl ?_
    refine WL.val (.assign (.of rfl)) rfl ?_
    refine WL.nil ?_
    have e1 : keyN (l.getD (i : Int).toNat 0) = kx l (i : Int) := rfl
    have e2 : keyN (l.getD best.toNat 0) = kx l best := rfl
    rw [e1, e2] at hb42
    have hc1 : us.getD i false = false ∧ (best < 0 ∨ kx l (i : Int) < kx l best) := by
     simp only [Int.toNat_natCast, Bool.and_eq_true, Bool.or_eq_true, decide_eq_true_eq, Bool.not_eq_true', Int.ofNat_lt] at hb42
     exact hb42
    exact ⟨(i + 1, (i : Int)), ⟨rfl, rfl, rfl, rfl, rfl, trivial⟩, ⟨by (try dsimp only); omega, by (try dsimp only); omega, hbest.take hsel (by omega) hc1.1 hc1.2, hS⟩, by (try dsimp only); omega⟩
   ·
    have hc42 := hb42; try simp only [Gk.cs0] at hc42
    refine WC.skip ?_
    refine WC.region ?_
    refine WL.val (.move (.of rfl)) rfl ?_
    refine WL.val (.add (.of rfl) (.of rfl) ⟨by omega, by omega⟩) rfl ?_
    refine WL.val (.assign (.of rfl)) rfl ?_
    refine WL.nil ?_
    have e1 : keyN (l.getD (i : Int).toNat 0) = kx l (i : Int) := rfl
    have e2 : keyN (l.getD best.toNat 0) = kx l best := rfl
    rw [e1, e2] at hb42
    have hc1 : us.getD i false = true ∨ (¬ best < 0 ∧ ¬ kx l (i : Int) < kx l best) := by
     simp only [Int.toNat_natCast, Bool.and_eq_false_iff, Bool.or_eq_false_iff, decide_eq_false_iff_not, Bool.not_eq_false', Int.ofNat_lt] at hb42
     exact hb42
    exact ⟨(i + 1, best), ⟨rfl, rfl, rfl, rfl, rfl, trivial⟩, ⟨by (try dsimp only); omega, hbn, hbest.keep hsel hc1, hS⟩, by (try dsimp only); omega⟩
  ·
   have hc18 := hb18; try simp only [Gk.cs0] at hc18
   refine WC.exit ?_
   refine WC.seq ?_
   have hin : i = l.length := by omega
   subst hin
   have hst := hsel.step hbest (by omega)
   have hbm := hbest.is (by omega)
   refine WC.region ?_
   refine WL.val (.move (.of rfl)) rfl ?_
   refine WL.val (.move (.of rfl)) rfl ?_
   first | refine WL.val (.indexAddr (.of rfl) (.of rfl) (by omega) (by omega) Tryz.underlying97 Tryz.sizeOf4) rfl ?_ | refine WL.val (.indexAddrI (.of rfl) (.of rfl) (by omega) (by omega) Tryz.underlying97 Tryz.sizeOf4) rfl ?_
   refine WL.stE .bool us [] (u := true) hS (k := 1) rfl (.of rfl) (.of rfl) rfl rfl Tryz.sizeOf4 (by omega) (by omega) ?_
   clear hS; intro w hS; dsimp only [List.set] at hS
   refine WL.nil ?_
   refine WC.region ?_
   refine WL.val (.move (.of rfl)) rfl ?_
   refine WL.val (.move (.of rfl)) rfl ?_
   refine WL.buildSlice (cs := [_]) hS (parts_cons (.of rfl) parts_nil) Tryz.underlying68 Tryz.sizeOf3 Tryz.zeroValue3 rfl rfl rfl rfl ?_
   clear hS; intro b49 w hS
   first | refine WL.append (size := 1) (bytes := 8) hS (.of rfl) (.of rfl) (k := 0) rfl Tryz.underlying68 info3_30 rfl rfl rfl rfl rfl rfl rfl ⟨by omega, by unfold maxLen; omega⟩ rfl ?_ | refine WL.append (size := 1) (bytes := 8) hS (.of rfl) (.of rfl) (k := 1) rfl Tryz.underlying68 info3_30 rfl rfl rfl rfl rfl rfl rfl ⟨by omega, by unfold maxLen; omega⟩ rfl ?_
   clear hS; intro v50 w hS; try dsimp only [List.set] at hS
   first | obtain ⟨a50, c50, rfl, hcap50, _⟩ := hS.vecSlice (k := 0) (v := v50) rfl | obtain ⟨a50, c50, rfl, hcap50, _⟩ := hS.vecSlice (k := 1) (v := v50) rfl
   refine WL.val (.assign (.of rfl)) rfl ?_
   refine WL.nil ?_
   refine ⟨(us.set best.toNat true, Os ++ [best], T.erase best, a50, c50), ⟨rfl, ?_, rfl, trivial⟩, ⟨hst.2.2, ?_⟩, by (try dsimp only); rw [List.length_erase_of_mem hbm]; omega⟩
   ·rw [List.length_append]; rfl
   ·rw [List.length_append, List.map_append]; exact hS
 ·
  have hc14 := hb14; try simp only [Gk.cs0] at hc14
  refine WC.exit ?_
  refine WC.seq ?_
  refine WC.region ?_
  refine WL.val (.move (.of rfl)) rfl ?_
  refine WL.val (.assign (.of rfl)) rfl ?_
  refine WL.nil ?_
  refine WC.ret ?_
  refine ret1 Tryz.results30 rfl ?_
  exact ⟨_, rfl, Os, va, vc, by rw [show l.length = Os.length by omega], hsel.done (by omega), (by rw [show l.length = Os.length by omega]; exact hS.drop (k := 1) rfl)⟩
end Go.Proofs.YtchgkcbloeoopaaGreatDoor
namespace Go.Proofs.YtchgkcbloeoopaaGreatDoor
open Gk
set_option linter.unusedVariables false
set_option linter.unusedSimpArgs false
def few1 (s : Sv) : Bool := !((decide (100 < (s.urls.length : Int)) && decide ((s.urls.length : Int) ≤ 200) || decide (100 < (s.calls.length : Int)) && decide ((s.calls.length : Int) ≤ 200)) || decide (20 < (s.rel.length : Int)))
def few (l : List Sv) : Bool := l.all few1 && decide ((l.length : Int) ≤ 20)
theorem Few_any (a : Option Addr) (cap : Nat) (l : List Sv) (hcap : l.length ≤ cap) (hcm : cap ≤ maxLen) (B w : World) (I : Im) (hl : SvsAt I a l) (As : List Assn) (hS : Sat B w I As) :
  Calls Tryz.prog 9 [.slice a l.length cap].toArray w (Ret fun v w' => v = .bool (few l) ∧ Sat B w' I As) := by
 unfold maxLen at hcm
 refine calls Tryz.func9 rfl Tryz.ntmps9 rfl ?_
 refine WC.seq ?_
 refine WC.region ?_
 refine WL.val (.assign (.of rfl)) rfl ?_
 refine WL.nil ?_
 refine WC.seq ?_
 refine WC.seq ?_
 refine WC.region ?_
 refine WL.val (.assign (.of rfl)) rfl ?_
 refine WL.nil ?_
 refine WC.block ?_
 refine WC.loop (σ := Nat) (fun i => [(0, .slice a l.length cap), (3, I64 (i : Nat))]) (fun i w => i ≤ l.length ∧ (∀ (j : Nat) (s : Sv), j < i → l[j]? = some s → few1 s = true) ∧ Sat B w I As) (fun i => l.length - i) 0 ⟨rfl, rfl, trivial⟩ ⟨Nat.zero_le _, fun _ _ h => absurd h (by omega), hS⟩ ?_
 rintro i w ⟨hi, hok, hS⟩
 change WC _ _ _ _ [(0, .slice a l.length cap), (3, I64 (i : Nat))] w
 refine WC.seq ?_
 refine WC.seq ?_
 refine WC.region ?_
 refine WL.val (.move (.of rfl)) rfl ?_
 refine WL.val (.move (.of rfl)) rfl ?_
 refine WL.val (.lenSlice (.of rfl) Tryz.underlying22) rfl ?_
 refine WL.val (.lss (.of rfl) (.of rfl)) rfl ?_
 refine WL.nil ?_
 refine WC.cond rfl (fun hb7 => ?_) (fun hb7 => ?_)
 ·
  have hc7 := hb7; try simp only [Gk.cs0] at hc7
  refine WC.skip ?_
  refine WC.seq ?_
  refine WC.block ?_
  refine WC.seq ?_
  obtain ⟨s, hs⟩ : ∃ s, l[i]? = some s := ⟨_, List.getElem?_eq_getElem (by omega)⟩
  obtain ⟨p, ra, rc, rfl, hx, hrc, hr⟩ := hl i s hs
  unfold svCells at hx
  refine WC.region ?_
  refine WL.val (.move (.of rfl)) rfl ?_
  refine WL.val (.move (.of rfl)) rfl ?_
  first | refine WL.val (.indexAddr (.of rfl) (.of rfl) (by omega) (by omega) Tryz.underlying22 Tryz.sizeOf37) rfl ?_ | refine WL.val (.indexAddrI (.of rfl) (.of rfl) (by omega) (by omega) Tryz.underlying22 Tryz.sizeOf37) rfl ?_
  first | refine WL.val (.fieldAddr 2 (.of rfl) Tryz.underlying37 rfl rfl Tryz.sizeOf9 rfl) rfl ?_ | refine WL.val (.fieldAddrI 2 (.of rfl) Tryz.underlying37 rfl rfl Tryz.sizeOf9 rfl) rfl ?_
  first | refine WL.val (.ldI (.of rfl) hS (At.add hx _) Tryz.isAgg9 rfl) rfl ?_
  refine WL.val (.len (.of rfl) Tryz.underlying9) rfl ?_
  refine WL.val (.gtr (.of rfl) (.of rfl)) rfl ?_
  refine WL.val (.move (.of rfl)) rfl ?_
  refine WL.gval rfl rfl (fun hg1 => (.move (.of rfl))) rfl ?_
  refine WL.gval rfl rfl (fun hg1 => (.move (.of rfl))) rfl ?_
  refine WL.gval rfl rfl (fun hg1 => (by first | exact .indexAddr (.gd hg1 rfl) (.gd hg1 rfl) (by (try simp only [Gk.cs0] at hg1); omega) (by (try simp only [Gk.cs0] at hg1); omega) Tryz.underlying22 Tryz.sizeOf37 | exact .indexAddrI (.gd hg1 rfl) (.gd hg1 rfl) (by (try simp only [Gk.cs0] at hg1); omega) (by (try simp only [Gk.cs0] at hg1); omega) Tryz.underlying22 Tryz.sizeOf37)) rfl ?_
  refine WL.gval rfl rfl (fun hg1 => (by first | exact .fieldAddr 2 (.gd hg1 rfl) Tryz.underlying37 rfl rfl Tryz.sizeOf9 rfl | exact .fieldAddrI 2 (.gd hg1 rfl) Tryz.underlying37 rfl rfl Tryz.sizeOf9 rfl)) rfl ?_
  refine WL.gval rfl rfl (fun hg1 => (by first | exact (.ldI (.gd hg1 rfl) hS (At.add hx _) Tryz.isAgg9 rfl))) rfl ?_
  refine WL.gval rfl rfl (fun hg1 => (.len (.gd hg1 rfl) Tryz.underlying9)) rfl ?_
  refine WL.gval rfl rfl (fun hg1 => (.leq (.gd hg1 rfl) (.of rfl))) rfl ?_
  refine WL.val (.pand (.of rfl) (.of rfl) (.of rfl)) rfl ?_
  refine WL.val (.move (.of rfl)) rfl ?_
  refine WL.gval rfl rfl (fun hg1 => (.move (.of rfl))) rfl ?_
  refine WL.gval rfl rfl (fun hg1 => (.move (.of rfl))) rfl ?_
  refine WL.gval rfl rfl (fun hg1 => (by first | exact .indexAddr (.gd hg1 rfl) (.gd hg1 rfl) (by (try simp only [Gk.cs0] at hg1); omega) (by (try simp only [Gk.cs0] at hg1); omega) Tryz.underlying22 Tryz.sizeOf37 | exact .indexAddrI (.gd hg1 rfl) (.gd hg1 rfl) (by (try simp only [Gk.cs0] at hg1); omega) (by (try simp only [Gk.cs0] at hg1); omega) Tryz.underlying22 Tryz.sizeOf37)) rfl ?_
  refine WL.gval rfl rfl (fun hg1 => (by first | exact .fieldAddr 6 (.gd hg1 rfl) Tryz.underlying37 rfl rfl Tryz.sizeOf9 rfl | exact .fieldAddrI 6 (.gd hg1 rfl) Tryz.underlying37 rfl rfl Tryz.sizeOf9 rfl)) rfl ?_
  refine WL.gval rfl rfl (fun hg1 => (by first | exact (.ldI (.gd hg1 rfl) hS (At.add hx _) Tryz.isAgg9 rfl))) rfl ?_
  refine WL.gval rfl rfl (fun hg1 => (.len (.gd hg1 rfl) Tryz.underlying9)) rfl ?_
  refine WL.gval rfl rfl (fun hg1 => (.gtr (.gd hg1 rfl) (.of rfl))) rfl ?_
  refine WL.gval rfl rfl (fun hg1 => (.move (.gd hg1 rfl))) rfl ?_
  refine WL.gval2 rfl rfl rfl (fun hg1 hg2 => (.move (.of rfl))) rfl ?_
  refine WL.gval2 rfl rfl rfl (fun hg1 hg2 => (.move (.of rfl))) rfl ?_
  refine WL.gval2 rfl rfl rfl (fun hg1 hg2 => (by first | exact .indexAddr (.gd2 hg1 hg2 rfl) (.gd2 hg1 hg2 rfl) (by (try simp only [Gk.cs0] at hg1 hg2); omega) (by (try simp only [Gk.cs0] at hg1 hg2); omega) Tryz.underlying22 Tryz.sizeOf37 | exact .indexAddrI (.gd2 hg1 hg2 rfl) (.gd2 hg1 hg2 rfl) (by (try simp only [Gk.cs0] at hg1 hg2); omega) (by (try simp only [Gk.cs0] at hg1 hg2); omega) Tryz.underlying22 Tryz.sizeOf37)) rfl ?_
  refine WL.gval2 rfl rfl rfl (fun hg1 hg2 => (by first | exact .fieldAddr 6 (.gd2 hg1 hg2 rfl) Tryz.underlying37 rfl rfl Tryz.sizeOf9 rfl | exact .fieldAddrI 6 (.gd2 hg1 hg2 rfl) Tryz.underlying37 rfl rfl Tryz.sizeOf9 rfl)) rfl ?_
  refine WL.gval2 rfl rfl rfl (fun hg1 hg2 => (by first | exact (.ldI (.gd2 hg1 hg2 rfl) hS (At.add hx _) Tryz.isAgg9 rfl))) rfl ?_
  refine WL.gval2 rfl rfl rfl (fun hg1 hg2 => (.len (.gd2 hg1 hg2 rfl) Tryz.underlying9)) rfl ?_
  refine WL.gval2 rfl rfl rfl (fun hg1 hg2 => (.leq (.gd2 hg1 hg2 rfl) (.of rfl))) rfl ?_
  refine WL.gval rfl rfl (fun hg1 => (.pand (.gd hg1 rfl) (.gd hg1 rfl) (.of rfl))) rfl ?_
  refine WL.val (.por (.of rfl) (.of rfl) (.of rfl)) rfl ?_
  refine WL.val (.move (.of rfl)) rfl ?_
  refine WL.gval rfl rfl (fun hg1 => (.move (.of rfl))) rfl ?_
  refine WL.gval rfl rfl (fun hg1 => (.move (.of rfl))) rfl ?_
  refine WL.gval rfl rfl (fun hg1 => (by first | exact .indexAddr (.gd hg1 rfl) (.gd hg1 rfl) (by (try simp only [Gk.cs0] at hg1); omega) (by (try simp only [Gk.cs0] at hg1); omega) Tryz.underlying22 Tryz.sizeOf37 | exact .indexAddrI (.gd hg1 rfl) (.gd hg1 rfl) (by (try simp only [Gk.cs0] at hg1); omega) (by (try simp only [Gk.cs0] at hg1); omega) Tryz.underlying22 Tryz.sizeOf37)) rfl ?_
  refine WL.gval rfl rfl (fun hg1 => (by first | exact .fieldAddr 7 (.gd hg1 rfl) Tryz.underlying37 rfl rfl Tryz.sizeOf35 rfl | exact .fieldAddrI 7 (.gd hg1 rfl) Tryz.underlying37 rfl rfl Tryz.sizeOf35 rfl)) rfl ?_
  refine WL.gval rfl rfl (fun hg1 => (by first | exact (.ldI (.gd hg1 rfl) hS (At.add hx _) Tryz.isAgg35 rfl))) rfl ?_
  refine WL.gval rfl rfl (fun hg1 => (.lenSlice (.gd hg1 rfl) Tryz.underlying35)) rfl ?_
  refine WL.gval rfl rfl (fun hg1 => (.gtr (.gd hg1 rfl) (.of rfl))) rfl ?_
  refine WL.val (.por (.of rfl) (.of rfl) (.of rfl)) rfl ?_
  refine WL.nil ?_
  refine WC.cond rfl (fun hb52 => ?_) (fun hb52 => ?_)
  ·
   have hc52 := hb52; try simp only [Gk.cs0] at hc52
   refine WC.seq ?_
   refine WC.region ?_
   refine WL.val (.assign (.of rfl)) rfl ?_
   refine WL.nil ?_
   refine WC.ret ?_
   refine ret1 Tryz.results9 rfl ?_
   refine ⟨_, rfl, ?_, hS⟩
   have : few l = false := by
    unfold few
    rw [show l.all few1 = false from List.all_eq_false.2 ⟨s, List.mem_of_getElem? hs, by unfold few1; rw [hb52]; decide⟩]
    rfl
   rw [this]
  ·
   have hc52 := hb52; try simp only [Gk.cs0] at hc52
   refine WC.skip ?_
   refine WC.region ?_
   refine WL.val (.move (.of rfl)) rfl ?_
   refine WL.val (.add (.of rfl) (.of rfl) ⟨by omega, by omega⟩) rfl ?_
   refine WL.val (.assign (.of rfl)) rfl ?_
   refine WL.nil ?_
   refine ⟨i + 1, ⟨rfl, rfl, trivial⟩, ⟨by omega, fun j u hj hu => ?_, hS⟩, by omega⟩
   rcases Nat.lt_or_ge j i with h1 | h1
   ·exact hok j u h1 hu
   ·have e : j = i := by omega
    subst e
    rw [hs] at hu; cases hu
    unfold few1; rw [hb52]; rfl
 ·
  have hc7 := hb7; try simp only [Gk.cs0] at hc7
  refine WC.exit ?_
  refine WC.seq ?_
  refine WC.region ?_
  refine WL.val (.move (.of rfl)) rfl ?_
  refine WL.val (.lenSlice (.of rfl) Tryz.underlying22) rfl ?_
  refine WL.val (.leq (.of rfl) (.of rfl)) rfl ?_
  refine WL.val (.assign (.of rfl)) rfl ?_
  refine WL.nil ?_
  refine WC.ret ?_
  refine ret1 Tryz.results9 rfl ?_
  refine ⟨_, rfl, ?_, hS⟩
  have : l.all few1 = true := List.all_eq_true.2 fun s hs => by
   obtain ⟨j, hj⟩ := List.mem_iff_getElem?.1 hs
   exact hok j s (by have := (List.getElem?_eq_some_iff.1 hj).1; omega) hj
  unfold few
  rw [this, Bool.true_and]
theorem Texts_any (a b : Option Addr) (ca cb : Nat) (la lb : List (List UInt8)) (hla : la.length ≤ ca) (hlb : lb.length ≤ cb) (hlm : la.length ≤ 140737488355328) (B w : World) (I : Im) (hA : RS I a 1 la.length (la.map S)) (hB : RS I b 1 lb.length (lb.map S)) (As : List Assn) (hS : Sat B w I As) :
  Calls Tryz.prog 32 [.slice a la.length ca, .slice b lb.length cb].toArray w (Ret fun v w' => v = .bool (decide (la = lb)) ∧ Sat B w' I As) := by
 refine calls Tryz.func32 rfl Tryz.ntmps32 rfl ?_
 refine WC.seq ?_
 refine WC.region ?_
 refine WL.val (.assign (.of rfl)) rfl ?_
 refine WL.nil ?_
 refine WC.seq ?_
 refine WC.seq ?_
 refine WC.region ?_
 refine WL.val (.move (.of rfl)) rfl ?_
 refine WL.val (.lenSlice (.of rfl) Tryz.underlying35) rfl ?_
 refine WL.val (.move (.of rfl)) rfl ?_
 refine WL.val (.lenSlice (.of rfl) Tryz.underlying35) rfl ?_
 refine WL.val (.neq (.of rfl) (.of rfl)) rfl ?_
 refine WL.nil ?_
 refine WC.cond rfl (fun hb10 => ?_) (fun hb10 => ?_)
 ·
  have hc10 := hb10; try simp only [Gk.cs0] at hc10
  refine WC.seq ?_
  refine WC.region ?_
  refine WL.val (.assign (.of rfl)) rfl ?_
  refine WL.nil ?_
  refine WC.ret ?_
  refine ret1 Tryz.results32 rfl ?_
  exact ⟨_, rfl, by rw [decide_eq_false (fun e => by subst e; omega)], hS⟩
 ·
  have hc10 := hb10; try simp only [Gk.cs0] at hc10
  refine WC.skip ?_
  refine WC.seq ?_
  refine WC.seq ?_
  refine WC.region ?_
  refine WL.val (.assign (.of rfl)) rfl ?_
  refine WL.nil ?_
  refine WC.block ?_
  refine WC.loop (σ := Nat) (fun i => [(0, .slice a la.length ca), (1, .slice b lb.length cb), (5, I64 (i : Nat))]) (fun i w => i ≤ la.length ∧ (∀ j, j < i → la[j]? = lb[j]?) ∧ Sat B w I As) (fun i => la.length - i) 0 ⟨rfl, rfl, rfl, trivial⟩ ⟨Nat.zero_le _, fun _ h => absurd h (by omega), hS⟩ ?_
  rintro i w ⟨hi, hok, hS⟩
  change WC _ _ _ _ [(0, .slice a la.length ca), (1, .slice b lb.length cb), (5, I64 (i : Nat))] w
  refine WC.seq ?_
  refine WC.seq ?_
  refine WC.region ?_
  refine WL.val (.move (.of rfl)) rfl ?_
  refine WL.val (.move (.of rfl)) rfl ?_
  refine WL.val (.lenSlice (.of rfl) Tryz.underlying35) rfl ?_
  refine WL.val (.lss (.of rfl) (.of rfl)) rfl ?_
  refine WL.nil ?_
  refine WC.cond rfl (fun hb14 => ?_) (fun hb14 => ?_)
  ·
   have hc14 := hb14; try simp only [Gk.cs0] at hc14
   refine WC.skip ?_
   refine WC.seq ?_
   refine WC.block ?_
   refine WC.seq ?_
   obtain ⟨x, hx⟩ : ∃ x, la[i]? = some x := ⟨_, List.getElem?_eq_getElem (by omega)⟩
   obtain ⟨y, hy⟩ : ∃ y, lb[i]? = some y := ⟨_, List.getElem?_eq_getElem (by omega)⟩
   obtain ⟨p, rfl, hp⟩ := hA.2 (by omega)
   obtain ⟨q, rfl, hq⟩ := hB.2 (by omega)
   have hpx : ((la.map S).drop ((i : Int).toNat * 1))[0]? = some (S x) := by rw [List.getElem?_drop, Int.toNat_natCast, Nat.mul_one, Nat.add_zero, List.getElem?_map, hx]; rfl
   have hqy : ((lb.map S).drop ((i : Int).toNat * 1))[0]? = some (S y) := by rw [List.getElem?_drop, Int.toNat_natCast, Nat.mul_one, Nat.add_zero, List.getElem?_map, hy]; rfl
   refine WC.quiet (by kernel_rfl) (by kernel_rfl) hS ?_
   refine WQ.val (fun w hS => (.move (.of rfl))) rfl ?_
   refine WQ.val (fun w hS => (.move (.of rfl))) rfl ?_
   refine WQ.val (fun w hS => (by first | exact .indexAddr (.of rfl) (.of rfl) (by omega) (by omega) Tryz.underlying35 Tryz.sizeOf9 | exact .indexAddrI (.of rfl) (.of rfl) (by omega) (by omega) Tryz.underlying35 Tryz.sizeOf9)) rfl ?_
   refine WQ.val (fun w hS => (.ldI (v := S x) (.of rfl) hS (hp.add _) Tryz.isAgg9 hpx)) rfl ?_
   refine WQ.val (fun w hS => (.move (.of rfl))) rfl ?_
   refine WQ.val (fun w hS => (.move (.of rfl))) rfl ?_
   refine WQ.val (fun w hS => (by first | exact .indexAddr (.of rfl) (.of rfl) (by omega) (by omega) Tryz.underlying35 Tryz.sizeOf9 | exact .indexAddrI (.of rfl) (.of rfl) (by omega) (by omega) Tryz.underlying35 Tryz.sizeOf9)) rfl ?_
   refine WQ.val (fun w hS => (.ldI (v := S y) (.of rfl) hS (hq.add _) Tryz.isAgg9 hqy)) rfl ?_
   refine WQ.val (fun w hS => (.nes (.of rfl) (.of rfl))) rfl ?_
   refine WQ.nil ?_
   clear hS; intro w hS
   refine WC.cond rfl (fun hb25 => ?_) (fun hb25 => ?_)
   ·
    have hc25 := hb25; try simp only [Gk.cs0] at hc25
    refine WC.seq ?_
    refine WC.region ?_
    refine WL.val (.assign (.of rfl)) rfl ?_
    refine WL.nil ?_
    refine WC.ret ?_
    refine ret1 Tryz.results32 rfl ?_
    exact ⟨_, rfl, by rw [decide_eq_false (fun e => by subst e; rw [hx] at hy; cases hy; simp at hb25)], hS⟩
   ·
    have hc25 := hb25; try simp only [Gk.cs0] at hc25
    refine WC.skip ?_
    refine WC.region ?_
    refine WL.val (.move (.of rfl)) rfl ?_
    refine WL.val (.add (.of rfl) (.of rfl) ⟨by omega, by omega⟩) rfl ?_
    refine WL.val (.assign (.of rfl)) rfl ?_
    refine WL.nil ?_
    refine ⟨i + 1, ⟨rfl, rfl, rfl, trivial⟩, ⟨by omega, fun j hj => ?_, hS⟩, by omega⟩
    rcases Nat.lt_or_ge j i with h1 | h1
    ·exact hok j h1
    ·have e : j = i := by omega
     subst e
     rw [hx, hy, show x = y by simpa using hb25]
  ·
   have hc14 := hb14; try simp only [Gk.cs0] at hc14
   refine WC.exit ?_
   refine WC.seq ?_
   refine WC.region ?_
   refine WL.val (.assign (.of rfl)) rfl ?_
   refine WL.nil ?_
   refine WC.ret ?_
   refine ret1 Tryz.results32 rfl ?_
   refine ⟨_, rfl, ?_, hS⟩
   rw [decide_eq_true (List.ext_getElem? fun j => ?_)]
   rcases Nat.lt_or_ge j la.length with h | h
   ·exact hok j (by omega)
   ·rw [List.getElem?_eq_none h, List.getElem?_eq_none (by omega)]
def sameSv (s t : Sv) : Bool := !((((((s.id != t.id) || (!(s.urls == t.urls))) || (!(s.calls == t.calls))) || (s.login != t.login)) || (s.proxy != t.proxy)) || (s.back != t.back)) && (((s.ord : Int) == (t.ord : Int)) && decide (s.rel = t.rel))
theorem sameSv_iff (s t : Sv) : sameSv s t = true ↔ s = t := by
 obtain ⟨a1, a2, a3, a4, a5, a6, a7, a8⟩ := s
 obtain ⟨b1, b2, b3, b4, b5, b6, b7, b8⟩ := t
 simp only [sameSv, Bool.and_eq_true, Bool.not_eq_true', Bool.or_eq_false_iff, Bool.not_eq_false', bne_eq_false_iff_eq, beq_iff_eq, decide_eq_true_eq, Sv.mk.injEq, Int.natCast_inj]
 constructor
 ·rintro ⟨⟨⟨⟨⟨⟨h1, h2⟩, h3⟩, h4⟩, h5⟩, h6⟩, h7, h8⟩
  exact ⟨h1, h7, h2, h4, h5, h6, h3, h8⟩
 ·rintro ⟨h1, h7, h2, h4, h5, h6, h3, h8⟩
  exact ⟨⟨⟨⟨⟨⟨h1, h2⟩, h3⟩, h4⟩, h5⟩, h6⟩, h7, h8⟩
theorem SameSv_any (s t : Sv) (a b : Option Addr) (ca cb : Nat) (hsa : s.rel.length ≤ ca) (htb : t.rel.length ≤ cb) (hsm : s.rel.length ≤ 140737488355328) (B w : World) (I : Im) (hA : RS I a 1 s.rel.length (s.rel.map S)) (hB : RS I b 1 t.rel.length (t.rel.map S)) (As : List Assn) (hS : Sat B w I As) :
  Calls Tryz.prog 14 [.agg [I64 s.id, F64 s.ord, S s.urls, .bool s.login, .bool s.proxy, .bool s.back, S s.calls, .slice a s.rel.length ca].toArray, .agg [I64 t.id, F64 t.ord, S t.urls, .bool t.login, .bool t.proxy, .bool t.back, S t.calls, .slice b t.rel.length cb].toArray].toArray w (Ret fun v w' => v = .bool (sameSv s t) ∧ Sat B w' I As) := by
 refine calls Tryz.func14 rfl Tryz.ntmps14 rfl ?_
 refine WC.seq ?_
 refine WC.region ?_
 refine WL.boxA (cs := [_, _, _, _, _, _, _, _]) hS (.of rfl) rfl ?_
 clear hS; intro b2 w hS
 refine WL.boxA (cs := [_, _, _, _, _, _, _, _]) hS (.of rfl) rfl ?_
 clear hS; intro b3 w hS
 refine WL.val (.assign (.of rfl)) rfl ?_
 refine WL.nil ?_
 refine WC.seq ?_
 refine WC.seq ?_
 refine WC.region ?_
 first | refine WL.val (.fieldAddr 0 (.of rfl) Tryz.underlying37 rfl rfl Tryz.sizeOf3 rfl) rfl ?_ | refine WL.val (.fieldAddrI 0 (.of rfl) Tryz.underlying37 rfl rfl Tryz.sizeOf3 rfl) rfl ?_
 first | refine WL.val (.ld (.of rfl) hS (k := 0) rfl Tryz.isAgg3 rfl) rfl ?_ | refine WL.val (.ld (.of rfl) hS (k := 1) rfl Tryz.isAgg3 rfl) rfl ?_
 first | refine WL.val (.fieldAddr 0 (.of rfl) Tryz.underlying37 rfl rfl Tryz.sizeOf3 rfl) rfl ?_ | refine WL.val (.fieldAddrI 0 (.of rfl) Tryz.underlying37 rfl rfl Tryz.sizeOf3 rfl) rfl ?_
 first | refine WL.val (.ld (.of rfl) hS (k := 0) rfl Tryz.isAgg3 rfl) rfl ?_ | refine WL.val (.ld (.of rfl) hS (k := 1) rfl Tryz.isAgg3 rfl) rfl ?_
 refine WL.val (.neq (.of rfl) (.of rfl)) rfl ?_
 refine WL.val (.move (.of rfl)) rfl ?_
 refine WL.gval rfl rfl (fun hg1 => (by first | exact .fieldAddr 2 (.of rfl) Tryz.underlying37 rfl rfl Tryz.sizeOf9 rfl | exact .fieldAddrI 2 (.of rfl) Tryz.underlying37 rfl rfl Tryz.sizeOf9 rfl)) rfl ?_
 refine WL.gval rfl rfl (fun hg1 => (by first | exact (.ld (.gd hg1 rfl) hS (k := 0) rfl Tryz.isAgg9 rfl) | exact (.ld (.gd hg1 rfl) hS (k := 1) rfl Tryz.isAgg9 rfl))) rfl ?_
 refine WL.gval rfl rfl (fun hg1 => (by first | exact .fieldAddr 2 (.of rfl) Tryz.underlying37 rfl rfl Tryz.sizeOf9 rfl | exact .fieldAddrI 2 (.of rfl) Tryz.underlying37 rfl rfl Tryz.sizeOf9 rfl)) rfl ?_
 refine WL.gval rfl rfl (fun hg1 => (by first | exact (.ld (.gd hg1 rfl) hS (k := 0) rfl Tryz.isAgg9 rfl) | exact (.ld (.gd hg1 rfl) hS (k := 1) rfl Tryz.isAgg9 rfl))) rfl ?_
 refine WL.gval rfl rfl (fun hg1 => (.nes (.gd hg1 rfl) (.gd hg1 rfl))) rfl ?_
 refine WL.val (.por (.of rfl) (.of rfl) (.of rfl)) rfl ?_
 refine WL.val (.move (.of rfl)) rfl ?_
 refine WL.gval rfl rfl (fun hg1 => (by first | exact .fieldAddr 6 (.of rfl) Tryz.underlying37 rfl rfl Tryz.sizeOf9 rfl | exact .fieldAddrI 6 (.of rfl) Tryz.underlying37 rfl rfl Tryz.sizeOf9 rfl)) rfl ?_
 refine WL.gval rfl rfl (fun hg1 => (by first | exact (.ld (.gd hg1 rfl) hS (k := 0) rfl Tryz.isAgg9 rfl) | exact (.ld (.gd hg1 rfl) hS (k := 1) rfl Tryz.isAgg9 rfl))) rfl ?_
 refine WL.gval rfl rfl (fun hg1 => (by first | exact .fieldAddr 6 (.of rfl) Tryz.underlying37 rfl rfl Tryz.sizeOf9 rfl | exact .fieldAddrI 6 (.of rfl) Tryz.underlying37 rfl rfl Tryz.sizeOf9 rfl)) rfl ?_
 refine WL.gval rfl rfl (fun hg1 => (by first | exact (.ld (.gd hg1 rfl) hS (k := 0) rfl Tryz.isAgg9 rfl) | exact (.ld (.gd hg1 rfl) hS (k := 1) rfl Tryz.isAgg9 rfl))) rfl ?_
 refine WL.gval rfl rfl (fun hg1 => (.nes (.gd hg1 rfl) (.gd hg1 rfl))) rfl ?_
 refine WL.val (.por (.of rfl) (.of rfl) (.of rfl)) rfl ?_
 refine WL.val (.move (.of rfl)) rfl ?_
 refine WL.gval rfl rfl (fun hg1 => (by first | exact .fieldAddr 3 (.of rfl) Tryz.underlying37 rfl rfl Tryz.sizeOf4 rfl | exact .fieldAddrI 3 (.of rfl) Tryz.underlying37 rfl rfl Tryz.sizeOf4 rfl)) rfl ?_
 refine WL.gval rfl rfl (fun hg1 => (by first | exact (.ld (.gd hg1 rfl) hS (k := 0) rfl Tryz.isAgg4 rfl) | exact (.ld (.gd hg1 rfl) hS (k := 1) rfl Tryz.isAgg4 rfl))) rfl ?_
 refine WL.gval rfl rfl (fun hg1 => (by first | exact .fieldAddr 3 (.of rfl) Tryz.underlying37 rfl rfl Tryz.sizeOf4 rfl | exact .fieldAddrI 3 (.of rfl) Tryz.underlying37 rfl rfl Tryz.sizeOf4 rfl)) rfl ?_
 refine WL.gval rfl rfl (fun hg1 => (by first | exact (.ld (.gd hg1 rfl) hS (k := 0) rfl Tryz.isAgg4 rfl) | exact (.ld (.gd hg1 rfl) hS (k := 1) rfl Tryz.isAgg4 rfl))) rfl ?_
 refine WL.gval rfl rfl (fun hg1 => (.neb (.gd hg1 rfl) (.gd hg1 rfl) Tryz.underlying4)) rfl ?_
 refine WL.val (.por (.of rfl) (.of rfl) (.of rfl)) rfl ?_
 refine WL.val (.move (.of rfl)) rfl ?_
 refine WL.gval rfl rfl (fun hg1 => (by first | exact .fieldAddr 4 (.of rfl) Tryz.underlying37 rfl rfl Tryz.sizeOf4 rfl | exact .fieldAddrI 4 (.of rfl) Tryz.underlying37 rfl rfl Tryz.sizeOf4 rfl)) rfl ?_
 refine WL.gval rfl rfl (fun hg1 => (by first | exact (.ld (.gd hg1 rfl) hS (k := 0) rfl Tryz.isAgg4 rfl) | exact (.ld (.gd hg1 rfl) hS (k := 1) rfl Tryz.isAgg4 rfl))) rfl ?_
 refine WL.gval rfl rfl (fun hg1 => (by first | exact .fieldAddr 4 (.of rfl) Tryz.underlying37 rfl rfl Tryz.sizeOf4 rfl | exact .fieldAddrI 4 (.of rfl) Tryz.underlying37 rfl rfl Tryz.sizeOf4 rfl)) rfl ?_
 refine WL.gval rfl rfl (fun hg1 => (by first | exact (.ld (.gd hg1 rfl) hS (k := 0) rfl Tryz.isAgg4 rfl) | exact (.ld (.gd hg1 rfl) hS (k := 1) rfl Tryz.isAgg4 rfl))) rfl ?_
 refine WL.gval rfl rfl (fun hg1 => (.neb (.gd hg1 rfl) (.gd hg1 rfl) Tryz.underlying4)) rfl ?_
 refine WL.val (.por (.of rfl) (.of rfl) (.of rfl)) rfl ?_
 refine WL.val (.move (.of rfl)) rfl ?_
 refine WL.gval rfl rfl (fun hg1 => (by first | exact .fieldAddr 5 (.of rfl) Tryz.underlying37 rfl rfl Tryz.sizeOf4 rfl | exact .fieldAddrI 5 (.of rfl) Tryz.underlying37 rfl rfl Tryz.sizeOf4 rfl)) rfl ?_
 refine WL.gval rfl rfl (fun hg1 => (by first | exact (.ld (.gd hg1 rfl) hS (k := 0) rfl Tryz.isAgg4 rfl) | exact (.ld (.gd hg1 rfl) hS (k := 1) rfl Tryz.isAgg4 rfl))) rfl ?_
 refine WL.gval rfl rfl (fun hg1 => (by first | exact .fieldAddr 5 (.of rfl) Tryz.underlying37 rfl rfl Tryz.sizeOf4 rfl | exact .fieldAddrI 5 (.of rfl) Tryz.underlying37 rfl rfl Tryz.sizeOf4 rfl)) rfl ?_
 refine WL.gval rfl rfl (fun hg1 => (by first | exact (.ld (.gd hg1 rfl) hS (k := 0) rfl Tryz.isAgg4 rfl) | exact (.ld (.gd hg1 rfl) hS (k := 1) rfl Tryz.isAgg4 rfl))) rfl ?_
 refine WL.gval rfl rfl (fun hg1 => (.neb (.gd hg1 rfl) (.gd hg1 rfl) Tryz.underlying4)) rfl ?_
 refine WL.val (.por (.of rfl) (.of rfl) (.of rfl)) rfl ?_
 refine WL.nil ?_
 refine WC.cond rfl (fun hb44 => ?_) (fun hb44 => ?_)
 ·
  have hc44 := hb44; try simp only [Gk.cs0] at hc44
  refine WC.seq ?_
  refine WC.region ?_
  refine WL.val (.assign (.of rfl)) rfl ?_
  refine WL.nil ?_
  refine WC.ret ?_
  refine ret1 Tryz.results14 rfl ?_
  exact ⟨_, rfl, by rw [sameSv, hb44]; rfl, (hS.drop (k := 0) rfl).drop (k := 0) rfl⟩
 ·
  have hc44 := hb44; try simp only [Gk.cs0] at hc44
  refine WC.skip ?_
  refine WC.seq ?_
  refine WC.region ?_
  first | refine WL.val (.fieldAddr 1 (.of rfl) Tryz.underlying37 rfl rfl Tryz.sizeOf34 rfl) rfl ?_ | refine WL.val (.fieldAddrI 1 (.of rfl) Tryz.underlying37 rfl rfl Tryz.sizeOf34 rfl) rfl ?_
  first | refine WL.val (.ld (.of rfl) hS (k := 0) rfl Tryz.isAgg34 rfl) rfl ?_ | refine WL.val (.ld (.of rfl) hS (k := 1) rfl Tryz.isAgg34 rfl) rfl ?_
  first | refine WL.val (.fieldAddr 1 (.of rfl) Tryz.underlying37 rfl rfl Tryz.sizeOf34 rfl) rfl ?_ | refine WL.val (.fieldAddrI 1 (.of rfl) Tryz.underlying37 rfl rfl Tryz.sizeOf34 rfl) rfl ?_
  first | refine WL.val (.ld (.of rfl) hS (k := 0) rfl Tryz.isAgg34 rfl) rfl ?_ | refine WL.val (.ld (.of rfl) hS (k := 1) rfl Tryz.isAgg34 rfl) rfl ?_
  refine WL.call Tryz.func31 rfl (evs_cons (.of rfl) (evs_cons (.of rfl) evs_nil)) rfl (Same_any s.ord t.ord _) ?_
  rintro _ _ ⟨rfl, rfl⟩
  refine WL.val (.move (.of rfl)) rfl ?_
  refine WL.gval rfl rfl (fun hg1 => (by first | exact .fieldAddr 7 (.of rfl) Tryz.underlying37 rfl rfl Tryz.sizeOf35 rfl | exact .fieldAddrI 7 (.of rfl) Tryz.underlying37 rfl rfl Tryz.sizeOf35 rfl)) rfl ?_
  refine WL.gval rfl rfl (fun hg1 => (by first | exact (.ld (.gd hg1 rfl) hS (k := 0) rfl Tryz.isAgg35 rfl) | exact (.ld (.gd hg1 rfl) hS (k := 1) rfl Tryz.isAgg35 rfl))) rfl ?_
  refine WL.gval rfl rfl (fun hg1 => (by first | exact .fieldAddr 7 (.of rfl) Tryz.underlying37 rfl rfl Tryz.sizeOf35 rfl | exact .fieldAddrI 7 (.of rfl) Tryz.underlying37 rfl rfl Tryz.sizeOf35 rfl)) rfl ?_
  refine WL.gval rfl rfl (fun hg1 => (by first | exact (.ld (.gd hg1 rfl) hS (k := 0) rfl Tryz.isAgg35 rfl) | exact (.ld (.gd hg1 rfl) hS (k := 1) rfl Tryz.isAgg35 rfl))) rfl ?_
  refine WL.gcall (T := fun w => Sat B w I (blk b3 [I64 t.id, F64 t.ord, S t.urls, .bool t.login, .bool t.proxy, .bool t.back, S t.calls, .slice b t.rel.length cb] 37 :: blk b2 [I64 s.id, F64 s.ord, S s.urls, .bool s.login, .bool s.proxy, .bool s.back, S s.calls, .slice a s.rel.length ca] 37 :: As)) rfl rfl rfl Tryz.func32 rfl (fun hg1 => (evs_cons (.gd hg1 rfl) (evs_cons (.gd hg1 rfl) evs_nil))) rfl (fun hg1 => Texts_any a b ca cb s.rel t.rel hsa htb hsm B _ I hA hB _ hS) hS ?_
  clear hS; rintro w hS
  refine WL.val (.pand (.of rfl) (.of rfl) (.of rfl)) rfl ?_
  refine WL.val (.assign (.of rfl)) rfl ?_
  refine WL.nil ?_
  refine WC.ret ?_
  refine ret1 Tryz.results14 rfl ?_
  exact ⟨_, rfl, by rw [sameSv, hb44]; rfl, (hS.drop (k := 0) rfl).drop (k := 0) rfl⟩
end Go.Proofs.YtchgkcbloeoopaaGreatDoor
namespace Go.Proofs.YtchgkcbloeoopaaGreatDoor
open Gk Pat
set_option linter.unusedVariables false
set_option linter.unusedSimpArgs false
theorem info3_91 : Tryz.prog.info? 3 = some Tryz.t3 := by kernel_rfl
theorem info4_91 : Tryz.prog.info? 4 = some Tryz.t4 := by kernel_rfl
theorem takes_any (kind : Int) (own c : UInt8) (w : World) :
  Calls Tryz.prog 91 [I64 kind, U8 own.toNat, U8 c.toNat].toArray w (Ret fun v w' => v = .bool (takes kind own c) ∧ w = w') := by
 refine calls Tryz.func91 rfl Tryz.ntmps91 rfl ?_
 refine WC.seq ?_
 refine WC.region ?_
 refine WL.val (.assign (.of rfl)) rfl ?_
 refine WL.nil ?_
 refine WC.seq ?_
 refine WC.region ?_
 refine WL.val (.move (.of rfl)) rfl ?_
 refine WL.val (.eql (.of rfl) (.of rfl)) rfl ?_
 refine WL.val (.move (.of rfl)) rfl ?_
 refine WL.gval rfl rfl (fun hg1 => (.move (.of rfl))) rfl ?_
 refine WL.gval rfl rfl (fun hg1 => (.eql (.gd hg1 rfl) (.of rfl))) rfl ?_
 refine WL.gval rfl rfl (fun hg1 => (.move (.gd hg1 rfl))) rfl ?_
 refine WL.gval2 rfl rfl rfl (fun hg1 hg2 => (.move (.of rfl))) rfl ?_
 refine WL.gval2 rfl rfl rfl (fun hg1 hg2 => (.neq (.gd2 hg1 hg2 rfl) (.of rfl))) rfl ?_
 refine WL.gval rfl rfl (fun hg1 => (.pand (.gd hg1 rfl) (.gd hg1 rfl) (.of rfl))) rfl ?_
 refine WL.val (.por (.of rfl) (.of rfl) (.of rfl)) rfl ?_
 refine WL.val (.move (.of rfl)) rfl ?_
 refine WL.gval rfl rfl (fun hg1 => (.move (.of rfl))) rfl ?_
 refine WL.gval rfl rfl (fun hg1 => (.eql (.gd hg1 rfl) (.of rfl))) rfl ?_
 refine WL.gval rfl rfl (fun hg1 => (.move (.gd hg1 rfl))) rfl ?_
 refine WL.gval2 rfl rfl rfl (fun hg1 hg2 => (.move (.of rfl))) rfl ?_
 refine WL.gval2 rfl rfl rfl (fun hg1 hg2 => (.move (.of rfl))) rfl ?_
 refine WL.gval2 rfl rfl rfl (fun hg1 hg2 => (.eql (.gd2 hg1 hg2 rfl) (.gd2 hg1 hg2 rfl))) rfl ?_
 refine WL.gval rfl rfl (fun hg1 => (.pand (.gd hg1 rfl) (.gd hg1 rfl) (.of rfl))) rfl ?_
 refine WL.val (.por (.of rfl) (.of rfl) (.of rfl)) rfl ?_
 refine WL.val (.assign (.of rfl)) rfl ?_
 refine WL.nil ?_
 refine WC.ret ?_
 refine ret1 Tryz.results91 rfl ?_
 exact ⟨_, rfl, rfl, rfl⟩
set_option maxHeartbeats 400000 in
theorem ends_any (s : List UInt8) (fr : List Bool) (p : Addr) (c : Nat) (kind : Int) (own : UInt8) (many : Bool) (B w : World) (I : Im) (As : List Assn) (hS : Sat B w I As) (hp : At I p (fr.map Value.bool)) (hl : fr.length = s.length + 1) (hb : s.length ≤ 1000000) :
  Calls Tryz.prog 76 [S s, .slice (some p) fr.length c, I64 kind, U8 own.toNat, .bool many].toArray w (Ret fun v w' => ∃ J q, Le I J ∧ v = .slice (some q) (s.length + 1) (s.length + 1) ∧ At J q ((ends s fr kind own many).map Value.bool) ∧ Sat B w' J As) := by
 refine calls Tryz.func76 rfl Tryz.ntmps76 rfl ?_
 refine WC.seq ?_
 refine WC.region ?_
 refine WL.val (.assign (.of rfl)) rfl ?_
 refine WL.nil ?_
 refine WC.seq ?_
 refine WC.region ?_
 refine WL.val (.move (.of rfl)) rfl ?_
 refine WL.val (.len (.of rfl) Tryz.underlying9) rfl ?_
 refine WL.val (.add (.of rfl) (.of rfl) ⟨by omega, by omega⟩) rfl ?_
 refine WL.make (l := s.length + 1) hS (.of rfl) (.of rfl) Tryz.underlying97 info4_91 rfl (by simp [Tryz.t4] <;> omega) (by omega) rfl rfl rfl ?_
 clear hS; intro b17 w hS
 refine WL.val (.assign (.of rfl)) rfl ?_
 refine WL.nil ?_
 refine WC.seq ?_
 refine WC.seq ?_
 refine WC.region ?_
 refine WL.val (.assign (.of rfl)) rfl ?_
 refine WL.nil ?_
 refine WC.block ?_
 refine WC.loop (σ := Nat) (fun k => [(0, S s), (1, .slice (some p) fr.length c), (2, I64 kind), (3, U8 own.toNat), (4, .bool many), (11, .slice (some (ad b17 0)) (s.length + 1) (s.length + 1)), (12, I64 (k : Nat))]) (fun k w => k ≤ s.length + 1 ∧ Sat B w I (blk b17 ((iter (endAt s fr kind own many) (List.replicate (s.length + 1) false) k).map Value.bool ++ []) 4 :: As)) (fun k => s.length + 1 - k) 0 ⟨rfl, rfl, rfl, rfl, rfl, rfl, rfl, trivial⟩ ⟨Nat.zero_le _, by rw [iter, List.map_replicate, List.append_nil]; exact hS⟩ ?_
 rintro k w ⟨hk, hS⟩
 change WC _ _ _ _ [(0, S s), (1, .slice (some p) fr.length c), (2, I64 kind), (3, U8 own.toNat), (4, .bool many), (11, .slice (some (ad b17 0)) (s.length + 1) (s.length + 1)), (12, I64 (k : Nat))] w
 have ho := endIter_length s fr kind own many (List.replicate (s.length + 1) false) k
 rw [List.length_replicate] at ho
 refine WC.seq ?_
 refine WC.seq ?_
 refine WC.region ?_
 refine WL.val (.move (.of rfl)) rfl ?_
 refine WL.val (.move (.of rfl)) rfl ?_
 refine WL.val (.len (.of rfl) Tryz.underlying9) rfl ?_
 refine WL.val (.leq (.of rfl) (.of rfl)) rfl ?_
 refine WL.nil ?_
 refine WC.cond rfl (fun hb21 => ?_) (fun hb21 => ?_)
 ·
  have hc21 := hb21; try simp only [Gk.cs0] at hc21
  refine WC.skip ?_
  refine WC.seq ?_
  refine WC.block ?_
  refine WC.cutS (σ := Unit) (fun u => [(0, S s), (1, .slice (some p) fr.length c), (2, I64 kind), (3, U8 own.toNat), (4, .bool many), (11, .slice (some (ad b17 0)) (s.length + 1) (s.length + 1)), (12, I64 (k : Nat))]) (fun u w => Sat B w I (blk b17 ((end1 fr many (iter (endAt s fr kind own many) (List.replicate (s.length + 1) false) k) k).map Value.bool ++ []) 4 :: As)) ?_ ?_
  ·
   refine WC.seq ?_
   refine WC.region ?_
   refine WL.val (.move (.of rfl)) rfl ?_
   refine WL.val (.move (.of rfl)) rfl ?_
   refine WL.gval rfl rfl (fun hg1 => (.move (.of rfl))) rfl ?_
   refine WL.gval rfl rfl (fun hg1 => (.move (.of rfl))) rfl ?_
   refine WL.gval rfl rfl (fun hg1 => (by first | exact .indexAddr (.gd hg1 rfl) (.gd hg1 rfl) (by (try simp only [Gk.cs0] at hg1); omega) (by (try simp only [Gk.cs0] at hg1); omega) Tryz.underlying97 Tryz.sizeOf4 | exact .indexAddrI (.gd hg1 rfl) (.gd hg1 rfl) (by (try simp only [Gk.cs0] at hg1); omega) (by (try simp only [Gk.cs0] at hg1); omega) Tryz.underlying97 Tryz.sizeOf4)) rfl ?_
   refine WL.gval rfl rfl (fun hg1 => .ldEI .bool fr false (.gd hg1 rfl) hS hp rfl Tryz.isAgg4 (by omega) (by omega)) rfl ?_
   refine WL.val (.pand (.of rfl) (.of rfl) (.of rfl)) rfl ?_
   refine WL.nil ?_
   refine WC.cond rfl (fun hb30 => ?_) (fun hb30 => ?_)
   ·
    have hc30 := hb30; try simp only [Gk.cs0] at hc30
    refine WC.region ?_
    refine WL.val (.move (.of rfl)) rfl ?_
    refine WL.val (.move (.of rfl)) rfl ?_
    first | refine WL.val (.indexAddr (.of rfl) (.of rfl) (by omega) (by omega) Tryz.underlying97 Tryz.sizeOf4) rfl ?_ | refine WL.val (.indexAddrI (.of rfl) (.of rfl) (by omega) (by omega) Tryz.underlying97 Tryz.sizeOf4) rfl ?_
    refine WL.stE .bool (iter (endAt s fr kind own many) (List.replicate (s.length + 1) false) k) [] (u := true) hS (k := 0) rfl (.of rfl) (.of rfl) rfl rfl Tryz.sizeOf4 (by omega) (by omega) ?_
    clear hS; intro w hS; dsimp only [List.set] at hS
    refine WL.nil ?_
    refine ⟨(), ⟨rfl, rfl, rfl, rfl, rfl, rfl, rfl, trivial⟩, ?_⟩
    rw [end1, hb30]; exact hS
   ·
    have hc30 := hb30; try simp only [Gk.cs0] at hc30
    refine WC.skip ?_
    refine ⟨(), ⟨rfl, rfl, rfl, rfl, rfl, rfl, rfl, trivial⟩, ?_⟩
    rw [end1, hb30]; exact hS
  ·
   rintro u w hS
   change WC _ _ _ _ [(0, S s), (1, .slice (some p) fr.length c), (2, I64 kind), (3, U8 own.toNat), (4, .bool many), (11, .slice (some (ad b17 0)) (s.length + 1) (s.length + 1)), (12, I64 (k : Nat))] w
   have ho1 := end1_length fr many (iter (endAt s fr kind own many) (List.replicate (s.length + 1) false) k) k
   rw [ho] at ho1
   obtain ⟨o1, ho1e⟩ : ∃ o1, o1 = end1 fr many (iter (endAt s fr kind own many) (List.replicate (s.length + 1) false) k) k := ⟨_, rfl⟩
   rw [← ho1e] at hS ho1
   refine WC.seq ?_
   refine WC.region ?_
   refine WL.val (.move (.of rfl)) rfl ?_
   refine WL.val (.gtr (.of rfl) (.of rfl)) rfl ?_
   refine WL.nil ?_
   refine WC.cond rfl (fun hb35 => ?_) (fun hb35 => ?_)
   ·
    have hc35 := hb35; try simp only [Gk.cs0] at hc35
    refine WC.seq ?_
    refine WC.region ?_
    refine WL.val (.move (.of rfl)) rfl ?_
    refine WL.val (.move (.of rfl)) rfl ?_
    refine WL.val (.move (.of rfl)) rfl ?_
    refine WL.val (.move (.of rfl)) rfl ?_
    refine WL.val (.sub (.of rfl) (.of rfl) ⟨by omega, by omega⟩) rfl ?_
    refine WL.val (.index (.of rfl) (.of rfl) (by omega) (by omega) Tryz.underlying9) rfl ?_
    refine WL.call Tryz.func91 rfl (evs_cons (.of rfl) (evs_cons (.of rfl) (evs_cons (.of rfl) evs_nil))) rfl (takes_any _ _ _ _) ?_
    rintro _ _ ⟨rfl, rfl⟩
    refine WL.val (.assign (.of rfl)) rfl ?_
    refine WL.nil ?_
    refine WC.seq ?_
    refine WC.region ?_
    refine WL.val (.move (.of rfl)) rfl ?_
    refine WL.val (.move (.of rfl)) rfl ?_
    refine WL.gval rfl rfl (fun hg1 => (.move (.of rfl))) rfl ?_
    refine WL.gval rfl rfl (fun hg1 => (.move (.of rfl))) rfl ?_
    refine WL.gval rfl rfl (fun hg1 => (.sub (.gd hg1 rfl) (.of rfl) ⟨by omega, by omega⟩)) rfl ?_
    refine WL.gval rfl rfl (fun hg1 => (by first | exact .indexAddr (.gd hg1 rfl) (.gd hg1 rfl) (by (try simp only [Gk.cs0] at hg1); omega) (by (try simp only [Gk.cs0] at hg1); omega) Tryz.underlying97 Tryz.sizeOf4 | exact .indexAddrI (.gd hg1 rfl) (.gd hg1 rfl) (by (try simp only [Gk.cs0] at hg1); omega) (by (try simp only [Gk.cs0] at hg1); omega) Tryz.underlying97 Tryz.sizeOf4)) rfl ?_
    refine WL.gval rfl rfl (fun hg1 => .ldEI .bool fr false (.gd hg1 rfl) hS hp rfl Tryz.isAgg4 (by omega) (by omega)) rfl ?_
    refine WL.gval rfl rfl (fun hg1 => (.move (.gd hg1 rfl))) rfl ?_
    refine WL.gval2 rfl rfl rfl (fun hg1 hg2 => (.move (.of rfl))) rfl ?_
    refine WL.gval2 rfl rfl rfl (fun hg1 hg2 => (.move (.gd2 hg1 hg2 rfl))) rfl ?_
    refine WL.gval3 rfl rfl rfl (fun hg1 hg2 hg3 => (.move (.of rfl))) rfl ?_
    refine WL.gval3 rfl rfl rfl (fun hg1 hg2 hg3 => (.move (.of rfl))) rfl ?_
    refine WL.gval3 rfl rfl rfl (fun hg1 hg2 hg3 => (.sub (.gd3 hg1 hg2 hg3 rfl) (.of rfl) ⟨by omega, by omega⟩)) rfl ?_
    refine WL.gval3 rfl rfl rfl (fun hg1 hg2 hg3 => (by first | exact .indexAddr (.gd3 hg1 hg2 hg3 rfl) (.gd3 hg1 hg2 hg3 rfl) (by (try simp only [Gk.cs0] at hg1 hg2 hg3); omega) (by (try simp only [Gk.cs0] at hg1 hg2 hg3); omega) Tryz.underlying97 Tryz.sizeOf4 | exact .indexAddrI (.gd3 hg1 hg2 hg3 rfl) (.gd3 hg1 hg2 hg3 rfl) (by (try simp only [Gk.cs0] at hg1 hg2 hg3); omega) (by (try simp only [Gk.cs0] at hg1 hg2 hg3); omega) Tryz.underlying97 Tryz.sizeOf4)) rfl ?_
    refine WL.gval3 rfl rfl rfl (fun hg1 hg2 hg3 => .ldE .bool o1 false [] (.gd3 hg1 hg2 hg3 rfl) hS (k := 0) rfl rfl Tryz.isAgg4 (by omega) (by omega)) rfl ?_
    refine WL.gval2 rfl rfl rfl (fun hg1 hg2 => (.pand (.gd2 hg1 hg2 rfl) (.gd2 hg1 hg2 rfl) (.of rfl))) rfl ?_
    refine WL.gval rfl rfl (fun hg1 => (.por (.gd hg1 rfl) (.of rfl) (.gd hg1 rfl))) rfl ?_
    refine WL.val (.pand (.of rfl) (.of rfl) (.of rfl)) rfl ?_
    refine WL.nil ?_
    refine WC.cond rfl (fun hb60 => ?_) (fun hb60 => ?_)
    ·
     have hc60 := hb60; try simp only [Gk.cs0] at hc60
     refine WC.region ?_
     refine WL.val (.move (.of rfl)) rfl ?_
     refine WL.val (.move (.of rfl)) rfl ?_
     first | refine WL.val (.indexAddr (.of rfl) (.of rfl) (by omega) (by omega) Tryz.underlying97 Tryz.sizeOf4) rfl ?_ | refine WL.val (.indexAddrI (.of rfl) (.of rfl) (by omega) (by omega) Tryz.underlying97 Tryz.sizeOf4) rfl ?_
     refine WL.stE .bool o1 [] (u := true) hS (k := 0) rfl (.of rfl) (.of rfl) rfl rfl Tryz.sizeOf4 (by omega) (by omega) ?_
     clear hS; intro w hS; dsimp only [List.set] at hS
     refine WL.nil ?_
     refine WC.region ?_
     refine WL.val (.move (.of rfl)) rfl ?_
     refine WL.val (.add (.of rfl) (.of rfl) ⟨by omega, by omega⟩) rfl ?_
     refine WL.val (.assign (.of rfl)) rfl ?_
     refine WL.nil ?_
     refine ⟨k + 1, ⟨rfl, rfl, rfl, rfl, rfl, rfl, rfl, trivial⟩, ⟨by omega, ?_⟩, by omega⟩
     have e : iter (endAt s fr kind own many) (List.replicate (s.length + 1) false) (k + 1) = o1.set (k : Int).toNat true := by
      rw [iter, endAt, ← ho1e]
      simp only [end2]
      rw [hb60, hb35]; rfl
     rw [e]; exact hS
    ·
     have hc60 := hb60; try simp only [Gk.cs0] at hc60
     refine WC.skip ?_
     refine WC.region ?_
     refine WL.val (.move (.of rfl)) rfl ?_
     refine WL.val (.add (.of rfl) (.of rfl) ⟨by omega, by omega⟩) rfl ?_
     refine WL.val (.assign (.of rfl)) rfl ?_
     refine WL.nil ?_
     refine ⟨k + 1, ⟨rfl, rfl, rfl, rfl, rfl, rfl, rfl, trivial⟩, ⟨by omega, ?_⟩, by omega⟩
     have e : iter (endAt s fr kind own many) (List.replicate (s.length + 1) false) (k + 1) = o1 := by
      rw [iter, endAt, ← ho1e]
      simp only [end2]
      rw [hb60, hb35]; rfl
     rw [e]; exact hS
   ·
    have hc35 := hb35; try simp only [Gk.cs0] at hc35
    refine WC.skip ?_
    refine WC.region ?_
    refine WL.val (.move (.of rfl)) rfl ?_
    refine WL.val (.add (.of rfl) (.of rfl) ⟨by omega, by omega⟩) rfl ?_
    refine WL.val (.assign (.of rfl)) rfl ?_
    refine WL.nil ?_
    refine ⟨k + 1, ⟨rfl, rfl, rfl, rfl, rfl, rfl, rfl, trivial⟩, ⟨by omega, ?_⟩, by omega⟩
    have e : iter (endAt s fr kind own many) (List.replicate (s.length + 1) false) (k + 1) = o1 := by
     rw [iter, endAt, ← ho1e]
     simp only [end2]
     rw [hb35]; rfl
    rw [e]; exact hS
 ·
  have hc21 := hb21; try simp only [Gk.cs0] at hc21
  refine WC.exit ?_
  refine WC.seq ?_
  refine WC.region ?_
  refine WL.val (.move (.of rfl)) rfl ?_
  refine WL.val (.assign (.of rfl)) rfl ?_
  refine WL.nil ?_
  refine WC.ret ?_
  refine ret1 Tryz.results76 rfl ?_
  obtain rfl : k = s.length + 1 := by omega
  obtain ⟨J, hJ, hb, hS⟩ := hS.freeze (k := 0) rfl
  refine ⟨_, rfl, J, _, hJ, rfl, ⟨rfl, _, _, _, hb, ?_⟩, hS⟩
  intro j v hj
  rw [List.append_nil, ← ends] 
  simpa using hj
set_option maxHeartbeats 400000 in
theorem Check_any (l : List UInt8) (B w : World) (I : Im) (As : List Assn) (hS : Sat B w I As) (hl : l.length ≤ 9223372036854775807) :
  Calls Tryz.prog 28 [S l].toArray w (Ret fun v w' => v = .tuple #[I64 (chk l).1, I64 (chk l).2] ∧ Sat B w' I As) := by
 refine calls Tryz.func28 rfl Tryz.ntmps28 rfl ?_
 refine WC.seq ?_
 refine WC.region ?_
 refine WL.val (.assign (.of rfl)) rfl ?_
 refine WL.val (.assign (.of rfl)) rfl ?_
 refine WL.nil ?_
 refine WC.seq ?_
 refine WC.seq ?_
 refine WC.region ?_
 refine WL.val (.move (.of rfl)) rfl ?_
 refine WL.val (.len (.of rfl) Tryz.underlying9) rfl ?_
 refine WL.val (.gtr (.of rfl) (.of rfl)) rfl ?_
 refine WL.nil ?_
 refine WC.cond rfl (fun hb8 => ?_) (fun hb8 => ?_)
 ·
  have hc8 := hb8; try simp only [Gk.cs0] at hc8
  refine WC.seq ?_
  refine WC.region ?_
  refine WL.val (.assign (.of rfl)) rfl ?_
  refine WL.val (.assign (.of rfl)) rfl ?_
  refine WL.nil ?_
  refine WC.ret ?_
  refine ret2 Tryz.results28 rfl rfl ?_
  exact ⟨_, rfl, by rw [chk, if_pos (by omega)], hS⟩
 ·
  have hc8 := hb8; try simp only [Gk.cs0] at hc8
  refine WC.skip ?_
  refine WC.seq ?_
  refine WC.region ?_
  refine WL.val (.assign (.of rfl)) rfl ?_
  refine WL.nil ?_
  refine WC.seq ?_
  refine WC.seq ?_
  refine WC.region ?_
  refine WL.val (.assign (.of rfl)) rfl ?_
  refine WL.nil ?_
  refine WC.block ?_
  refine WC.loop (σ := Nat × Option Addr × Nat × List Int) (fun ⟨k, a, c, o⟩ => [(0, S l), (4, .slice a o.length c), (5, I64 (k : Nat))]) (fun ⟨k, a, c, o⟩ w => k ≤ l.length ∧ o.length ≤ 4 ∧ chkGo (l.drop k) k o = chk l ∧ Sat B w I (Vec 3 1 (.slice a o.length c) o.length (o.map I64) :: As)) (fun ⟨k, a, c, o⟩ => l.length - k) (0, none, 0, []) ⟨rfl, rfl, rfl, trivial⟩ ⟨Nat.zero_le _, Nat.zero_le _, by rw [chk, if_neg (by omega)]; rfl, hS.vecNil _ _⟩ ?_
  rintro ⟨k, a, c, o⟩ w ⟨hk, ho4, hq, hS⟩
  change WC _ _ _ _ [(0, S l), (4, .slice a o.length c), (5, I64 (k : Nat))] w
  have hcap := hS.vecCap (k := 0) rfl
  refine WC.seq ?_
  refine WC.seq ?_
  refine WC.region ?_
  refine WL.val (.move (.of rfl)) rfl ?_
  refine WL.val (.move (.of rfl)) rfl ?_
  refine WL.val (.len (.of rfl) Tryz.underlying9) rfl ?_
  refine WL.val (.lss (.of rfl) (.of rfl)) rfl ?_
  refine WL.nil ?_
  refine WC.cond rfl (fun hb12 => ?_) (fun hb12 => ?_)
  ·
   have hc12 := hb12; try simp only [Gk.cs0] at hc12
   refine WC.skip ?_
   refine WC.seq ?_
   refine WC.block ?_
   refine WC.seq ?_
   refine WC.region ?_
   refine WL.val (.move (.of rfl)) rfl ?_
   refine WL.val (.move (.of rfl)) rfl ?_
   refine WL.val (.index (.of rfl) (.of rfl) (by omega) (by omega) Tryz.underlying9) rfl ?_
   refine WL.nil ?_
   refine WC.block ?_
   refine WC.seq ?_
   refine WC.region ?_
   refine WL.val (.eql (.of rfl) (.of rfl)) rfl ?_
   refine WL.val (.assign (.of rfl)) rfl ?_
   refine WL.nil ?_
   refine WC.cond rfl (fun hb18 => ?_) (fun hb18 => ?_)
   ·
    have hc18 := hb18; try simp only [Gk.cs0] at hc18
    refine WC.seq ?_
    refine WC.seq ?_
    refine WC.region ?_
    refine WL.val (.move (.of rfl)) rfl ?_
    refine WL.val (.lenSlice (.of rfl) Tryz.underlying68) rfl ?_
    refine WL.val (.eql (.of rfl) (.of rfl)) rfl ?_
    refine WL.nil ?_
    refine WC.cond rfl (fun hb22 => ?_) (fun hb22 => ?_)
    ·
     have hc22 := hb22; try simp only [Gk.cs0] at hc22
     refine WC.seq ?_
     refine WC.region ?_
     refine WL.val (.move (.of rfl)) rfl ?_
     refine WL.val (.assign (.of rfl)) rfl ?_
     refine WL.val (.assign (.of rfl)) rfl ?_
     refine WL.nil ?_
     refine WC.ret ?_
     refine ret2 Tryz.results28 rfl rfl ?_
     have e9 : chk l = (24, (k : Int)) := by rw [← hq, drop_at l (by omega), chkGo_cons, if_pos (by omega), if_pos (by omega)]
     exact ⟨_, rfl, by rw [e9], hS.drop (k := 0) rfl⟩
    ·
     have hc22 := hb22; try simp only [Gk.cs0] at hc22
     refine WC.skip ?_
     refine WC.region ?_
     refine WL.buildSlice (cs := []) hS parts_nil Tryz.underlying68 Tryz.sizeOf3 Tryz.zeroValue3 rfl rfl rfl rfl ?_
     clear hS; intro b24 w hS
     have hS := hS.vecOf (k := 0) (E := 3) (size := 1) (n := 0) rfl rfl (by unfold maxLen; omega); dsimp only [List.set] at hS
     refine WL.val (.move (.of rfl)) rfl ?_
     refine WL.appendV (size := 1) (bytes := 8) hS (.of rfl) (.of rfl) (k := 0) (j := 1) rfl rfl Tryz.underlying68 info3_91 rfl rfl rfl rfl (one_i64 _) ⟨by omega, by unfold maxLen; omega⟩ rfl ?_
     clear hS; intro v26 w hS; dsimp only [List.set] at hS
     refine WL.val (.move (.of rfl)) rfl ?_
     refine WL.buildSlice (cs := [_]) hS (parts_cons (.of rfl) parts_nil) Tryz.underlying68 Tryz.sizeOf3 Tryz.zeroValue3 rfl rfl rfl rfl ?_
     clear hS; intro b28 w hS
     skip
     first | refine WL.append (size := 1) (bytes := 8) hS (.of rfl) (.of rfl) (k := 0) rfl Tryz.underlying68 info3_91 rfl rfl rfl rfl rfl rfl rfl ⟨by omega, by unfold maxLen; omega⟩ rfl ?_ | refine WL.append (size := 1) (bytes := 8) hS (.of rfl) (.of rfl) (k := 1) rfl Tryz.underlying68 info3_91 rfl rfl rfl rfl rfl rfl rfl ⟨by omega, by unfold maxLen; omega⟩ rfl ?_
     clear hS; intro v29 w hS; try dsimp only [List.set] at hS
     first | obtain ⟨a29, c29, rfl, hcap29, _⟩ := hS.vecSlice (k := 0) (v := v29) rfl | obtain ⟨a29, c29, rfl, hcap29, _⟩ := hS.vecSlice (k := 1) (v := v29) rfl
     have hS := hS.drop (k := 1) rfl; dsimp only [List.eraseIdx] at hS
     have e8 : 0 + o.length + 1 = (o ++ [(k : Int)]).length := by simp
     rw [e8] at hS ⊢
     refine WL.val (.assign (.of rfl)) rfl ?_
     refine WL.nil ?_
     refine WC.region ?_
     refine WL.val (.move (.of rfl)) rfl ?_
     refine WL.val (.add (.of rfl) (.of rfl) ⟨by omega, by omega⟩) rfl ?_
     refine WL.val (.assign (.of rfl)) rfl ?_
     refine WL.nil ?_
     refine ⟨(k + 1, a29, c29, o ++ [(k : Int)]), ⟨rfl, rfl, rfl, trivial⟩, ⟨by omega, by simp; omega, ?_, by simpa using hS⟩, by dsimp only; omega⟩
     have e9 := hq
     rw [drop_at l (by omega), chkGo_cons, if_pos (by omega), if_neg (by omega)] at e9
     exact e9
   ·
    have hc18 := hb18; try simp only [Gk.cs0] at hc18
    refine WC.seq ?_
    refine WC.region ?_
    refine WL.val (.eql (.of rfl) (.of rfl)) rfl ?_
    refine WL.val (.assign (.of rfl)) rfl ?_
    refine WL.nil ?_
    refine WC.cond rfl (fun hb30 => ?_) (fun hb30 => ?_)
    ·
     have hc30 := hb30; try simp only [Gk.cs0] at hc30
     refine WC.seq ?_
     refine WC.seq ?_
     refine WC.region ?_
     refine WL.val (.move (.of rfl)) rfl ?_
     refine WL.val (.lenSlice (.of rfl) Tryz.underlying68) rfl ?_
     refine WL.val (.eql (.of rfl) (.of rfl)) rfl ?_
     refine WL.nil ?_
     refine WC.cond rfl (fun hb34 => ?_) (fun hb34 => ?_)
     ·
      have hc34 := hb34; try simp only [Gk.cs0] at hc34
      refine WC.seq ?_
      refine WC.region ?_
      refine WL.val (.move (.of rfl)) rfl ?_
      refine WL.val (.assign (.of rfl)) rfl ?_
      refine WL.val (.assign (.of rfl)) rfl ?_
      refine WL.nil ?_
      refine WC.ret ?_
      refine ret2 Tryz.results28 rfl rfl ?_
      have e9 : chk l = (10, (k : Int)) := by rw [← hq, drop_at l (by omega), chkGo_cons, if_neg (by omega), if_pos (by omega), if_pos (by omega)]
      exact ⟨_, rfl, by rw [e9], hS.drop (k := 0) rfl⟩
     ·
      have hc34 := hb34; try simp only [Gk.cs0] at hc34
      refine WC.skip ?_
      refine WC.region ?_
      refine WL.val (.move (.of rfl)) rfl ?_
      refine WL.val (.move (.of rfl)) rfl ?_
      refine WL.val (.lenSlice (.of rfl) Tryz.underlying68) rfl ?_
      refine WL.val (.sub (.of rfl) (.of rfl) ⟨by omega, by omega⟩) rfl ?_
      refine WL.val (.slcTo (.of rfl) (.of rfl) (by omega) (by omega) Tryz.underlying68 Tryz.sizeOf3) rfl ?_
      obtain ⟨a2, c2, e2, hS⟩ := hS.vecTakeI (k := 0) (f := I64) (m := ((o.length : Int) - 1).toNat) rfl (by omega)
      rw [e2]; dsimp only [List.set] at hS
      refine WL.val (.assign (.of rfl)) rfl ?_
      refine WL.nil ?_
      refine WC.region ?_
      refine WL.val (.move (.of rfl)) rfl ?_
      refine WL.val (.add (.of rfl) (.of rfl) ⟨by omega, by omega⟩) rfl ?_
      refine WL.val (.assign (.of rfl)) rfl ?_
      refine WL.nil ?_
      refine ⟨(k + 1, a2, c2, o.take ((o.length : Int) - 1).toNat), ⟨rfl, rfl, rfl, trivial⟩, ⟨by omega, by simp; omega, ?_, hS⟩, by dsimp only; omega⟩
      have e9 := hq
      rw [drop_at l (by omega), chkGo_cons, if_neg (by omega), if_pos (by omega), if_neg (by omega)] at e9
      rw [show ((o.length : Int) - 1).toNat = o.length - 1 by omega]
      exact e9
    ·
     have hc30 := hb30; try simp only [Gk.cs0] at hc30
     refine WC.seq ?_
     refine WC.region ?_
     refine WL.val (.eql (.of rfl) (.of rfl)) rfl ?_
     refine WL.val (.assign (.of rfl)) rfl ?_
     refine WL.nil ?_
     refine WC.cond rfl (fun hb41 => ?_) (fun hb41 => ?_)
     ·
      have hc41 := hb41; try simp only [Gk.cs0] at hc41
      refine WC.seq ?_
      refine WC.region ?_
      refine WL.val (.move (.of rfl)) rfl ?_
      refine WL.val (.lenSlice (.of rfl) Tryz.underlying68) rfl ?_
      refine WL.val (.eql (.of rfl) (.of rfl)) rfl ?_
      refine WL.nil ?_
      refine WC.cond rfl (fun hb45 => ?_) (fun hb45 => ?_)
      ·
       have hc45 := hb45; try simp only [Gk.cs0] at hc45
       refine WC.seq ?_
       refine WC.region ?_
       refine WL.val (.move (.of rfl)) rfl ?_
       refine WL.val (.assign (.of rfl)) rfl ?_
       refine WL.val (.assign (.of rfl)) rfl ?_
       refine WL.nil ?_
       refine WC.ret ?_
       refine ret2 Tryz.results28 rfl rfl ?_
       have e9 : chk l = (10, (k : Int)) := by rw [← hq, drop_at l (by omega), chkGo_cons, if_neg (by omega), if_neg (by omega), if_pos (by omega), if_pos (by omega)]
       exact ⟨_, rfl, by rw [e9], hS.drop (k := 0) rfl⟩
      ·
       have hc45 := hb45; try simp only [Gk.cs0] at hc45
       refine WC.skip ?_
       refine WC.region ?_
       refine WL.val (.move (.of rfl)) rfl ?_
       refine WL.val (.add (.of rfl) (.of rfl) ⟨by omega, by omega⟩) rfl ?_
       refine WL.val (.assign (.of rfl)) rfl ?_
       refine WL.nil ?_
       refine ⟨(k + 1, a, c, o), ⟨rfl, rfl, rfl, trivial⟩, ⟨by omega, by omega, ?_, hS⟩, by dsimp only; omega⟩
       have e9 := hq
       rw [drop_at l (by omega), chkGo_cons, if_neg (by omega), if_neg (by omega), if_pos (by omega), if_neg (by omega)] at e9
       exact e9
     ·
      have hc41 := hb41; try simp only [Gk.cs0] at hc41
      refine WC.seq ?_
      refine WC.region ?_
      refine WL.val (.eql (.of rfl) (.of rfl)) rfl ?_
      refine WL.val (.assign (.of rfl)) rfl ?_
      refine WL.nil ?_
      refine WC.cond rfl (fun hb47 => ?_) (fun hb47 => ?_)
      ·
       have hc47 := hb47; try simp only [Gk.cs0] at hc47
       refine WC.seq ?_
       refine WC.seq ?_
       refine WC.region ?_
       refine WL.val (.move (.of rfl)) rfl ?_
       refine WL.val (.add (.of rfl) (.of rfl) ⟨by omega, by omega⟩) rfl ?_
       refine WL.val (.move (.of rfl)) rfl ?_
       refine WL.val (.len (.of rfl) Tryz.underlying9) rfl ?_
       refine WL.val (.eql (.of rfl) (.of rfl)) rfl ?_
       refine WL.nil ?_
       refine WC.cond rfl (fun hb53 => ?_) (fun hb53 => ?_)
       ·
        have hc53 := hb53; try simp only [Gk.cs0] at hc53
        refine WC.seq ?_
        refine WC.region ?_
        refine WL.val (.move (.of rfl)) rfl ?_
        refine WL.val (.assign (.of rfl)) rfl ?_
        refine WL.val (.assign (.of rfl)) rfl ?_
        refine WL.nil ?_
        refine WC.ret ?_
        refine ret2 Tryz.results28 rfl rfl ?_
        have e9 : chk l = (10, (k : Int)) := by rw [← hq, drop_at l (by omega), chkGo_cons, if_neg (by omega), if_neg (by omega), if_neg (by omega), if_pos (by omega), List.drop_of_length_le (by omega)]
        exact ⟨_, rfl, by rw [e9], hS.drop (k := 0) rfl⟩
       ·
        have hc53 := hb53; try simp only [Gk.cs0] at hc53
        refine WC.skip ?_
        refine WC.region ?_
        refine WL.val (.move (.of rfl)) rfl ?_
        refine WL.val (.add (.of rfl) (.of rfl) ⟨by omega, by omega⟩) rfl ?_
        refine WL.val (.assign (.of rfl)) rfl ?_
        refine WL.nil ?_
        refine WC.region ?_
        refine WL.val (.move (.of rfl)) rfl ?_
        refine WL.val (.add (.of rfl) (.of rfl) ⟨by omega, by omega⟩) rfl ?_
        refine WL.val (.assign (.of rfl)) rfl ?_
        refine WL.nil ?_
        refine ⟨(k + 2, a, c, o), ⟨rfl, rfl, rfl, trivial⟩, ⟨by omega, by omega, ?_, hS⟩, by dsimp only; omega⟩
        have e9 := hq
        rw [drop_at l (by omega), chkGo_cons, if_neg (by omega), if_neg (by omega), if_neg (by omega), if_pos (by omega), drop_at l (k := k + 1) (by omega)] at e9
        exact e9
      ·
       have hc47 := hb47; try simp only [Gk.cs0] at hc47
       refine WC.skip ?_
       refine WC.region ?_
       refine WL.val (.move (.of rfl)) rfl ?_
       refine WL.val (.add (.of rfl) (.of rfl) ⟨by omega, by omega⟩) rfl ?_
       refine WL.val (.assign (.of rfl)) rfl ?_
       refine WL.nil ?_
       refine ⟨(k + 1, a, c, o), ⟨rfl, rfl, rfl, trivial⟩, ⟨by omega, by omega, ?_, hS⟩, by dsimp only; omega⟩
       have e9 := hq
       rw [drop_at l (by omega), chkGo_cons, if_neg (by omega), if_neg (by omega), if_neg (by omega), if_neg (by omega)] at e9
       exact e9
  ·
   have hc12 := hb12; try simp only [Gk.cs0] at hc12
   refine WC.exit ?_
   refine WC.seq ?_
   refine WC.seq ?_
   refine WC.region ?_
   refine WL.val (.move (.of rfl)) rfl ?_
   refine WL.val (.lenSlice (.of rfl) Tryz.underlying68) rfl ?_
   refine WL.val (.gtr (.of rfl) (.of rfl)) rfl ?_
   refine WL.nil ?_
   refine WC.cond rfl (fun hb59 => ?_) (fun hb59 => ?_)
   ·
    have hc59 := hb59; try simp only [Gk.cs0] at hc59
    refine WC.seq ?_
    obtain ⟨b8, c8, r, hv8, _, _, _, _, hS⟩ := hS.vecOpen (k := 0) rfl (by omega)
    injection hv8 with hv8 _ hv9; subst hv8; subst hv9
    dsimp only [List.set] at hS
    refine WC.quiet (by kernel_rfl) (by kernel_rfl) hS ?_
    refine WQ.val (fun w hS => (.move (.of rfl))) rfl ?_
    refine WQ.val (fun w hS => (.move (.of rfl))) rfl ?_
    refine WQ.val (fun w hS => (.lenSlice (.of rfl) Tryz.underlying68)) rfl ?_
    refine WQ.val (fun w hS => (.sub (.of rfl) (.of rfl) ⟨by omega, by omega⟩)) rfl ?_
    refine WQ.val (fun w hS => (by first | exact .indexAddr (.of rfl) (.of rfl) (by omega) (by omega) Tryz.underlying68 Tryz.sizeOf3 | exact .indexAddrI (.of rfl) (.of rfl) (by omega) (by omega) Tryz.underlying68 Tryz.sizeOf3)) rfl ?_
    refine WQ.val (fun w hS => .ldE I64 o 0 r (.of rfl) hS (k := 0) rfl rfl Tryz.isAgg3 (by omega) (by omega)) rfl ?_
    refine WQ.val (fun w hS => (.assign (.of rfl))) rfl ?_
    refine WQ.val (fun w hS => (.assign (.of rfl))) rfl ?_
    refine WQ.nil ?_
    clear hS; intro w hS
    refine WC.ret ?_
    refine ret2 Tryz.results28 rfl rfl ?_
    have e9 : chk l = (23, o.getD ((o.length : Int) - 1).toNat 0) := by rw [← hq, show ((o.length : Int) - 1).toNat = o.length - 1 by omega, List.drop_of_length_le (by omega), chkGo_nil, if_pos (by omega)]
    exact ⟨_, rfl, by rw [e9], hS.drop (k := 0) rfl⟩
   ·
    have hc59 := hb59; try simp only [Gk.cs0] at hc59
    refine WC.skip ?_
    refine WC.seq ?_
    refine WC.region ?_
    refine WL.val (.assign (.of rfl)) rfl ?_
    refine WL.val (.assign (.of rfl)) rfl ?_
    refine WL.nil ?_
    refine WC.ret ?_
    refine ret2 Tryz.results28 rfl rfl ?_
    have e9 : chk l = (0, 0) := by rw [← hq, List.drop_of_length_le (by omega), chkGo_nil, if_neg (by omega)]
    exact ⟨_, rfl, by rw [e9], hS.drop (k := 0) rfl⟩
end Go.Proofs.YtchgkcbloeoopaaGreatDoor
namespace Go.Proofs.YtchgkcbloeoopaaGreatDoor
open Gk Pat
set_option linter.unusedVariables false
set_option linter.unusedSimpArgs false
def bad (l : List Sv) (i : Nat) (s : Sv) : Nat :=
 if i = 16 then 5 else if (decide (s.id < 0) || decide (8 < (s.rel.length : Int))) = true then 1 else if (l.take i).any (fun t => t.id == s.id) = true then 7
 else if (((Pat.chk s.urls).1 != 0) || ((Pat.chk s.calls).1 != 0)) = true then 8 else 0
def wrongGo (l : List Sv) : Nat → List Sv → Nat × Nat
 | _, [] => (0, 0)
 | i, s :: r => if bad l i s ≠ 0 then (bad l i s, i) else wrongGo l (i + 1) r
def wrong (l : List Sv) : Nat × Nat := wrongGo l 0 l
theorem wrongGo_skip (l : List Sv) : ∀ (n i : Nat) (r : List Sv), (∀ j s, j < n → r[j]? = some s → bad l (i + j) s = 0) → wrongGo l i r = wrongGo l (i + min n r.length) (r.drop n)
 | 0, i, r, _ => by simp
 | n + 1, i, [], _ => by simp [wrongGo]
 | n + 1, i, s :: r, h => by
  have h0 := h 0 s (by omega) rfl
  rw [Nat.add_zero] at h0
  rw [wrongGo, if_neg (by rw [h0]; decide), wrongGo_skip l n (i + 1) r (fun j t hj ht => by have := h (j + 1) t (by omega) (by simpa using ht); rw [show i + 1 + j = i + (j + 1) by omega]; exact this), List.drop_succ_cons, List.length_cons]
  congr 1
  omega
theorem wrong_hit {l : List Sv} {i : Nat} {s : Sv} (h : ∀ j t, j < i → l[j]? = some t → bad l j t = 0) (hs : l[i]? = some s) (hb : bad l i s ≠ 0) : wrong l = (bad l i s, i) := by
 have hi := (List.getElem?_eq_some_iff.1 hs).1
 unfold wrong
 rw [wrongGo_skip l i 0 l (fun j t hj ht => by rw [Nat.zero_add]; exact h j t hj ht), Nat.zero_add, Nat.min_eq_left (by omega), List.drop_eq_getElem_cons hi, (List.getElem?_eq_some_iff.1 hs).2, wrongGo, if_pos hb]
theorem wrong_none {l : List Sv} (h : ∀ j t, l[j]? = some t → bad l j t = 0) : wrong l = (0, 0) := by
 unfold wrong
 rw [wrongGo_skip l l.length 0 l (fun j t _ ht => by rw [Nat.zero_add]; exact h j t ht), List.drop_length]
 rfl
theorem Wrong_any (a : Option Addr) (cap : Nat) (l : List Sv) (hcap : l.length ≤ 100000) (hfit : ∀ s ∈ l, s.urls.length ≤ 9223372036854775807 ∧ s.calls.length ≤ 9223372036854775807) (B w : World) (I : Im) (hl : SvsAt I a l) (As : List Assn) (hS : Sat B w I As) :
  Calls Tryz.prog 11 [.slice a l.length cap].toArray w (Ret fun v w' => v = .tuple #[I64 ((wrong l).1 : Nat), I64 ((wrong l).2 : Nat)] ∧ Sat B w' I As) := by
 refine calls Tryz.func11 rfl Tryz.ntmps11 rfl ?_
 refine WC.seq ?_
 refine WC.region ?_
 refine WL.val (.assign (.of rfl)) rfl ?_
 refine WL.val (.assign (.of rfl)) rfl ?_
 refine WL.nil ?_
 refine WC.seq ?_
 refine WC.seq ?_
 refine WC.region ?_
 refine WL.val (.assign (.of rfl)) rfl ?_
 refine WL.nil ?_
 refine WC.block ?_
 refine WC.loop (σ := Nat) (fun i => [(0, .slice a l.length cap), (4, I64 (i : Nat))]) (fun i w => i ≤ l.length ∧ (∀ (j : Nat) (t : Sv), j < i → l[j]? = some t → bad l j t = 0) ∧ Sat B w I As) (fun i => l.length - i) 0 ⟨rfl, rfl, trivial⟩ ⟨Nat.zero_le _, fun _ _ h => absurd h (by omega), hS⟩ ?_
 rintro i w ⟨hi, hok, hS⟩
 change WC _ _ _ _ [(0, .slice a l.length cap), (4, I64 (i : Nat))] w
 refine WC.seq ?_
 refine WC.seq ?_
 refine WC.region ?_
 refine WL.val (.move (.of rfl)) rfl ?_
 refine WL.val (.move (.of rfl)) rfl ?_
 refine WL.val (.lenSlice (.of rfl) Tryz.underlying22) rfl ?_
 refine WL.val (.lss (.of rfl) (.of rfl)) rfl ?_
 refine WL.nil ?_
 refine WC.cond rfl (fun hb13 => ?_) (fun hb13 => ?_)
 ·
  have hc13 := hb13; try simp only [Gk.cs0] at hc13
  refine WC.skip ?_
  refine WC.seq ?_
  refine WC.block ?_
  refine WC.seq ?_
  refine WC.seq ?_
  obtain ⟨s, hs⟩ : ∃ s, l[i]? = some s := ⟨_, List.getElem?_eq_getElem (by omega)⟩
  obtain ⟨p, ra, rc, rfl, hx, hrc, hr⟩ := hl i s hs
  obtain ⟨hsu, hsc⟩ := hfit s (List.mem_of_getElem? hs)
  unfold svCells at hx
  refine WC.region ?_
  refine WL.val (.move (.of rfl)) rfl ?_
  refine WL.val (.eql (.of rfl) (.of rfl)) rfl ?_
  refine WL.nil ?_
  refine WC.cond rfl (fun hb17 => ?_) (fun hb17 => ?_)
  ·
   have hc17 := hb17; try simp only [Gk.cs0] at hc17
   refine WC.seq ?_
   refine WC.region ?_
   refine WL.val (.move (.of rfl)) rfl ?_
   refine WL.val (.assign (.of rfl)) rfl ?_
   refine WL.val (.assign (.of rfl)) rfl ?_
   refine WL.nil ?_
   refine WC.ret ?_
   refine ret2 Tryz.results11 rfl rfl ?_
   have hbd : bad l i s = 5 := by
    unfold bad
    rw [if_pos (by omega)]
   refine ⟨_, rfl, ?_, hS⟩
   rw [wrong_hit hok hs (by rw [hbd]; decide), hbd]
   rfl
  ·
   have hc17 := hb17; try simp only [Gk.cs0] at hc17
   refine WC.skip ?_
   refine WC.seq ?_
   refine WC.seq ?_
   refine WC.region ?_
   refine WL.val (.move (.of rfl)) rfl ?_
   refine WL.val (.move (.of rfl)) rfl ?_
   first | refine WL.val (.indexAddr (.of rfl) (.of rfl) (by omega) (by omega) Tryz.underlying22 Tryz.sizeOf37) rfl ?_ | refine WL.val (.indexAddrI (.of rfl) (.of rfl) (by omega) (by omega) Tryz.underlying22 Tryz.sizeOf37) rfl ?_
   first | refine WL.val (.fieldAddr 0 (.of rfl) Tryz.underlying37 rfl rfl Tryz.sizeOf3 rfl) rfl ?_ | refine WL.val (.fieldAddrI 0 (.of rfl) Tryz.underlying37 rfl rfl Tryz.sizeOf3 rfl) rfl ?_
   first | refine WL.val (.ldI (.of rfl) hS (At.add hx _) Tryz.isAgg3 rfl) rfl ?_ | refine WL.val (.ldI (.of rfl) hS (At.add hz _) Tryz.isAgg3 rfl) rfl ?_
   refine WL.val (.lss (.of rfl) (.of rfl)) rfl ?_
   refine WL.val (.move (.of rfl)) rfl ?_
   refine WL.gval rfl rfl (fun hg1 => (.move (.of rfl))) rfl ?_
   refine WL.gval rfl rfl (fun hg1 => (.move (.of rfl))) rfl ?_
   refine WL.gval rfl rfl (fun hg1 => (by first | exact .indexAddr (.gd hg1 rfl) (.gd hg1 rfl) (by (try simp only [Gk.cs0] at hg1); omega) (by (try simp only [Gk.cs0] at hg1); omega) Tryz.underlying22 Tryz.sizeOf37 | exact .indexAddrI (.gd hg1 rfl) (.gd hg1 rfl) (by (try simp only [Gk.cs0] at hg1); omega) (by (try simp only [Gk.cs0] at hg1); omega) Tryz.underlying22 Tryz.sizeOf37)) rfl ?_
   refine WL.gval rfl rfl (fun hg1 => (by first | exact .fieldAddr 7 (.gd hg1 rfl) Tryz.underlying37 rfl rfl Tryz.sizeOf35 rfl | exact .fieldAddrI 7 (.gd hg1 rfl) Tryz.underlying37 rfl rfl Tryz.sizeOf35 rfl)) rfl ?_
   refine WL.gval rfl rfl (fun hg1 => (by first | exact (.ldI (.gd hg1 rfl) hS (At.add hx _) Tryz.isAgg35 rfl) | exact (.ldI (.gd hg1 rfl) hS (At.add hz _) Tryz.isAgg35 rfl))) rfl ?_
   refine WL.gval rfl rfl (fun hg1 => (.lenSlice (.gd hg1 rfl) Tryz.underlying35)) rfl ?_
   refine WL.gval rfl rfl (fun hg1 => (.gtr (.gd hg1 rfl) (.of rfl))) rfl ?_
   refine WL.val (.por (.of rfl) (.of rfl) (.of rfl)) rfl ?_
   refine WL.nil ?_
   refine WC.cond rfl (fun hb33 => ?_) (fun hb33 => ?_)
   ·
    have hc33 := hb33; try simp only [Gk.cs0] at hc33
    refine WC.seq ?_
    refine WC.region ?_
    refine WL.val (.move (.of rfl)) rfl ?_
    refine WL.val (.assign (.of rfl)) rfl ?_
    refine WL.val (.assign (.of rfl)) rfl ?_
    refine WL.nil ?_
    refine WC.ret ?_
    refine ret2 Tryz.results11 rfl rfl ?_
    have hbd : bad l i s = 1 := by
     unfold bad
     rw [if_neg (by omega), if_pos hb33]
    refine ⟨_, rfl, ?_, hS⟩
    rw [wrong_hit hok hs (by rw [hbd]; decide), hbd]
    rfl
   ·
    have hc33 := hb33; try simp only [Gk.cs0] at hc33
    refine WC.skip ?_
    refine WC.seq ?_
    refine WC.seq ?_
    refine WC.region ?_
    refine WL.val (.assign (.of rfl)) rfl ?_
    refine WL.nil ?_
    refine WC.block ?_
    refine WC.loop (σ := Nat) (fun k => [(0, .slice (some p) l.length cap), (4, I64 (i : Nat)), (5, I64 (k : Nat))]) (fun k w => k ≤ i ∧ (∀ (q : Nat) (t : Sv), q < k → l[q]? = some t → t.id ≠ s.id) ∧ Sat B w I As) (fun k => i - k) 0 ⟨rfl, rfl, rfl, trivial⟩ ⟨Nat.zero_le _, fun _ _ h => absurd h (by omega), hS⟩ ?_
    rintro k w ⟨hk, hids, hS⟩
    change WC _ _ _ _ [(0, .slice (some p) l.length cap), (4, I64 (i : Nat)), (5, I64 (k : Nat))] w
    refine WC.seq ?_
    refine WC.seq ?_
    refine WC.region ?_
    refine WL.val (.move (.of rfl)) rfl ?_
    refine WL.val (.move (.of rfl)) rfl ?_
    refine WL.val (.lss (.of rfl) (.of rfl)) rfl ?_
    refine WL.nil ?_
    refine WC.cond rfl (fun hb37 => ?_) (fun hb37 => ?_)
    ·
     have hc37 := hb37; try simp only [Gk.cs0] at hc37
     refine WC.skip ?_
     refine WC.seq ?_
     refine WC.block ?_
     refine WC.seq ?_
     obtain ⟨z, hzk⟩ : ∃ z, l[k]? = some z := ⟨_, List.getElem?_eq_getElem (by omega)⟩
     obtain ⟨p2, ra2, rc2, e2, hz, _, _⟩ := hl k z hzk
     cases e2
     unfold svCells at hz
     refine WC.quiet (by kernel_rfl) (by kernel_rfl) hS ?_
     refine WQ.val (fun w hS => (.move (.of rfl))) rfl ?_
     refine WQ.val (fun w hS => (.move (.of rfl))) rfl ?_
     refine WQ.val (fun w hS => (by first | exact .indexAddr (.of rfl) (.of rfl) (by omega) (by omega) Tryz.underlying22 Tryz.sizeOf37 | exact .indexAddrI (.of rfl) (.of rfl) (by omega) (by omega) Tryz.underlying22 Tryz.sizeOf37)) rfl ?_
     refine WQ.val (fun w hS => (by first | exact .fieldAddr 0 (.of rfl) Tryz.underlying37 rfl rfl Tryz.sizeOf3 rfl | exact .fieldAddrI 0 (.of rfl) Tryz.underlying37 rfl rfl Tryz.sizeOf3 rfl)) rfl ?_
     refine WQ.val (fun w hS => (by first | exact (.ldI (.of rfl) hS (At.add hx _) Tryz.isAgg3 rfl) | exact (.ldI (.of rfl) hS (At.add hz _) Tryz.isAgg3 rfl))) rfl ?_
     refine WQ.val (fun w hS => (.move (.of rfl))) rfl ?_
     refine WQ.val (fun w hS => (.move (.of rfl))) rfl ?_
     refine WQ.val (fun w hS => (by first | exact .indexAddr (.of rfl) (.of rfl) (by omega) (by omega) Tryz.underlying22 Tryz.sizeOf37 | exact .indexAddrI (.of rfl) (.of rfl) (by omega) (by omega) Tryz.underlying22 Tryz.sizeOf37)) rfl ?_
     refine WQ.val (fun w hS => (by first | exact .fieldAddr 0 (.of rfl) Tryz.underlying37 rfl rfl Tryz.sizeOf3 rfl | exact .fieldAddrI 0 (.of rfl) Tryz.underlying37 rfl rfl Tryz.sizeOf3 rfl)) rfl ?_
     refine WQ.val (fun w hS => (by first | exact (.ldI (.of rfl) hS (At.add hx _) Tryz.isAgg3 rfl) | exact (.ldI (.of rfl) hS (At.add hz _) Tryz.isAgg3 rfl))) rfl ?_
     refine WQ.val (fun w hS => (.eql (.of rfl) (.of rfl))) rfl ?_
     refine WQ.nil ?_
     clear hS; intro w hS
     refine WC.cond rfl (fun hb50 => ?_) (fun hb50 => ?_)
     ·
      have hc50 := hb50; try simp only [Gk.cs0] at hc50
      refine WC.seq ?_
      refine WC.region ?_
      refine WL.val (.move (.of rfl)) rfl ?_
      refine WL.val (.assign (.of rfl)) rfl ?_
      refine WL.val (.assign (.of rfl)) rfl ?_
      refine WL.nil ?_
      refine WC.ret ?_
      refine ret2 Tryz.results11 rfl rfl ?_
      have hbd : bad l i s = 7 := by
       unfold bad
       rw [if_neg (by omega), if_neg (by rw [hb33]; decide), if_pos]
       rw [List.any_eq_true]
       exact ⟨z, List.mem_of_getElem? (i := k) (by rw [List.getElem?_take, if_pos (by omega)]; exact hzk), hb50⟩
      refine ⟨_, rfl, ?_, hS⟩
      rw [wrong_hit hok hs (by rw [hbd]; decide), hbd]
      rfl
     ·
      have hc50 := hb50; try simp only [Gk.cs0] at hc50
      refine WC.skip ?_
      refine WC.region ?_
      refine WL.val (.move (.of rfl)) rfl ?_
      refine WL.val (.add (.of rfl) (.of rfl) ⟨by omega, by omega⟩) rfl ?_
      refine WL.val (.assign (.of rfl)) rfl ?_
      refine WL.nil ?_
      refine ⟨k + 1, ⟨rfl, rfl, rfl, trivial⟩, ⟨by omega, fun q u hq hu => ?_, hS⟩, by omega⟩
      rcases Nat.lt_or_ge q k with h1 | h1
      ·exact hids q u h1 hu
      ·have e : q = k := by omega
       subst e
       rw [hzk] at hu; cases hu
       simpa using hb50
    ·
     have hc37 := hb37; try simp only [Gk.cs0] at hc37
     refine WC.exit ?_
     refine WC.seq ?_
     have hno7 : ¬ (l.take i).any (fun t => t.id == s.id) = true := by
      rw [Bool.not_eq_true, List.any_eq_false]
      intro t ht
      obtain ⟨q, hq⟩ := List.mem_iff_getElem?.1 ht
      rw [List.getElem?_take] at hq
      split at hq
      ·rename_i hqi
       have := hids q t (by omega) hq
       simpa using this
      ·cases hq
     refine WC.region ?_
     refine WL.val (.move (.of rfl)) rfl ?_
     refine WL.val (.move (.of rfl)) rfl ?_
     first | refine WL.val (.indexAddr (.of rfl) (.of rfl) (by omega) (by omega) Tryz.underlying22 Tryz.sizeOf37) rfl ?_ | refine WL.val (.indexAddrI (.of rfl) (.of rfl) (by omega) (by omega) Tryz.underlying22 Tryz.sizeOf37) rfl ?_
     first | refine WL.val (.fieldAddr 2 (.of rfl) Tryz.underlying37 rfl rfl Tryz.sizeOf9 rfl) rfl ?_ | refine WL.val (.fieldAddrI 2 (.of rfl) Tryz.underlying37 rfl rfl Tryz.sizeOf9 rfl) rfl ?_
     first | refine WL.val (.ldI (.of rfl) hS (At.add hx _) Tryz.isAgg9 rfl) rfl ?_ | refine WL.val (.ldI (.of rfl) hS (At.add hz _) Tryz.isAgg9 rfl) rfl ?_
     refine WL.call Tryz.func28 rfl (evs_cons (.of rfl) evs_nil) rfl (Check_any s.urls B _ I As hS (by omega)) ?_
     clear hS
     rintro _ w ⟨rfl, hS⟩
     refine WL.val (.move (.of rfl)) rfl ?_
     refine WL.val (.extract (.of rfl) rfl) rfl ?_
     refine WL.val (.extract (.of rfl) rfl) rfl ?_
     refine WL.val (.assign (.of rfl)) rfl ?_
     refine WL.val (.assign (.of rfl)) rfl ?_
     refine WL.nil ?_
     refine WC.seq ?_
     refine WC.region ?_
     refine WL.val (.move (.of rfl)) rfl ?_
     refine WL.val (.move (.of rfl)) rfl ?_
     first | refine WL.val (.indexAddr (.of rfl) (.of rfl) (by omega) (by omega) Tryz.underlying22 Tryz.sizeOf37) rfl ?_ | refine WL.val (.indexAddrI (.of rfl) (.of rfl) (by omega) (by omega) Tryz.underlying22 Tryz.sizeOf37) rfl ?_
     first | refine WL.val (.fieldAddr 6 (.of rfl) Tryz.underlying37 rfl rfl Tryz.sizeOf9 rfl) rfl ?_ | refine WL.val (.fieldAddrI 6 (.of rfl) Tryz.underlying37 rfl rfl Tryz.sizeOf9 rfl) rfl ?_
     first | refine WL.val (.ldI (.of rfl) hS (At.add hx _) Tryz.isAgg9 rfl) rfl ?_ | refine WL.val (.ldI (.of rfl) hS (At.add hz _) Tryz.isAgg9 rfl) rfl ?_
     refine WL.call Tryz.func28 rfl (evs_cons (.of rfl) evs_nil) rfl (Check_any s.calls B _ I As hS (by omega)) ?_
     clear hS
     rintro _ w ⟨rfl, hS⟩
     refine WL.val (.move (.of rfl)) rfl ?_
     refine WL.val (.extract (.of rfl) rfl) rfl ?_
     refine WL.val (.extract (.of rfl) rfl) rfl ?_
     refine WL.val (.assign (.of rfl)) rfl ?_
     refine WL.val (.assign (.of rfl)) rfl ?_
     refine WL.nil ?_
     refine WC.seq ?_
     refine WC.region ?_
     refine WL.val (.move (.of rfl)) rfl ?_
     refine WL.val (.neq (.of rfl) (.of rfl)) rfl ?_
     refine WL.val (.move (.of rfl)) rfl ?_
     refine WL.gval rfl rfl (fun hg1 => (.move (.of rfl))) rfl ?_
     refine WL.gval rfl rfl (fun hg1 => (.neq (.gd hg1 rfl) (.of rfl))) rfl ?_
     refine WL.val (.por (.of rfl) (.of rfl) (.of rfl)) rfl ?_
     refine WL.nil ?_
     refine WC.cond rfl (fun hb75 => ?_) (fun hb75 => ?_)
     ·
      have hc75 := hb75; try simp only [Gk.cs0] at hc75
      refine WC.seq ?_
      refine WC.region ?_
      refine WL.val (.move (.of rfl)) rfl ?_
      refine WL.val (.assign (.of rfl)) rfl ?_
      refine WL.val (.assign (.of rfl)) rfl ?_
      refine WL.nil ?_
      refine WC.ret ?_
      refine ret2 Tryz.results11 rfl rfl ?_
      have hbd : bad l i s = 8 := by
       unfold bad
       rw [if_neg (by omega), if_neg (by rw [hb33]; decide), if_neg hno7, if_pos hb75]
      refine ⟨_, rfl, ?_, hS⟩
      rw [wrong_hit hok hs (by rw [hbd]; decide), hbd]
      rfl
     ·
      have hc75 := hb75; try simp only [Gk.cs0] at hc75
      refine WC.skip ?_
      refine WC.region ?_
      refine WL.val (.move (.of rfl)) rfl ?_
      refine WL.val (.add (.of rfl) (.of rfl) ⟨by omega, by omega⟩) rfl ?_
      refine WL.val (.assign (.of rfl)) rfl ?_
      refine WL.nil ?_
      refine ⟨i + 1, ⟨rfl, rfl, trivial⟩, ⟨by omega, fun j u hj hu => ?_, hS⟩, by omega⟩
      rcases Nat.lt_or_ge j i with h1 | h1
      ·exact hok j u h1 hu
      ·have e : j = i := by omega
       subst e
       rw [hs] at hu; cases hu
       unfold bad
       rw [if_neg (by omega), if_neg (by rw [hb33]; decide), if_neg hno7, if_neg (by rw [hb75]; decide)]
 ·
  have hc13 := hb13; try simp only [Gk.cs0] at hc13
  refine WC.exit ?_
  refine WC.seq ?_
  refine WC.region ?_
  refine WL.val (.assign (.of rfl)) rfl ?_
  refine WL.val (.assign (.of rfl)) rfl ?_
  refine WL.nil ?_
  refine WC.ret ?_
  refine ret2 Tryz.results11 rfl rfl ?_
  refine ⟨_, rfl, ?_, hS⟩
  rw [wrong_none (fun j t ht => hok j t (by have := (List.getElem?_eq_some_iff.1 ht).1; omega) ht)]
  rfl
end Go.Proofs.YtchgkcbloeoopaaGreatDoor
namespace Go.Proofs.YtchgkcbloeoopaaGreatDoor
open Gk
set_option linter.unusedVariables false
set_option linter.unusedSimpArgs false
theorem info34_13 : Tryz.prog.info? 34 = some Tryz.t34 := by kernel_rfl
theorem info37_13 : Tryz.prog.info? 37 = some Tryz.t37 := by kernel_rfl
def SvsIn (I : Im) (a : Option Addr) (L : List (List Value)) (l : List Sv) : Prop := L.length = l.length ∧ ∀ (i : Nat) (s : Sv), l[i]? = some s → ∃ p c, a = some p ∧ L[i]? = some c ∧ At I (p.add (i * 8)) c ∧ SvAt I s c
theorem SvsIn.mono {I J : Im} {a : Option Addr} {L : List (List Value)} {l : List Sv} (h : SvsIn I a L l) (hl : Le I J) : SvsIn J a L l := ⟨h.1, fun i s hs => by
 obtain ⟨p, c, e, h0, h1, h2⟩ := h.2 i s hs
 exact ⟨p, c, e, h0, h1.mono hl, h2.mono hl⟩⟩
theorem SvsIn.svs {I : Im} {a : Option Addr} {L : List (List Value)} {l : List Sv} (h : SvsIn I a L l) : SvsAt I a l := fun i s hs => by
 obtain ⟨p, c, e, h0, h1, ra, rc, rfl, h2, h3⟩ := h.2 i s hs
 exact ⟨p, ra, rc, e, h1, h2, h3⟩
theorem svs_in {I : Im} {a : Option Addr} {L : List (List Value)} {l : List Sv} (hn : L.length = l.length) (h8 : ∀ c ∈ L, c.length = 8) (hR : RS I a 8 L.length L.flatten) (h : ∀ (i : Nat) (s : Sv), l[i]? = some s → ∃ c, L[i]? = some c ∧ SvAt I s c) : SvsIn I a L l := ⟨hn, fun i s hs => by
 obtain ⟨c, hc, hv⟩ := h i s hs
 obtain ⟨p, rfl, hp⟩ := hR.2 (by have := (List.getElem?_eq_some_iff.1 hc).1; omega)
 have h3 := at_take (hp.add (i * 8)) 8
 rw [flat_piece L h8 i _ hc] at h3
 exact ⟨p, c, rfl, hc, h3, hv⟩⟩
def pickR (L : List (List Value)) (D : List Int) : List (List Value) := D.map fun d => L.getD d.toNat []
def ords (l : List Sv) : List Nat := l.map Sv.ord
theorem All_any (a : Option Addr) (cap : Nat) (L : List (List Value)) (l : List Sv) (hln : l.length ≤ 100000) (hsm : ∀ v ∈ ords l, v < 18446744073709551616) (B w : World) (I : Im) (hl : SvsIn I a L l) (As : List Assn) (hS : Sat B w I As) :
  Calls Tryz.prog 13 [.slice a l.length cap].toArray w (Ret fun v w' => ∃ J D, Le I J ∧ Srt.Ord (kx (ords l)) l.length D ∧ Sat B w' J (Vec 37 8 v l.length (pickR L D).flatten :: As)) := by
 refine calls Tryz.func13 rfl Tryz.ntmps13 rfl ?_
 refine WC.seq ?_
 refine WC.region ?_
 refine WL.val (.assign (.of rfl)) rfl ?_
 refine WL.nil ?_
 refine WC.seq ?_
 refine WC.region ?_
 refine WL.val (.assign (.of rfl)) rfl ?_
 refine WL.nil ?_
 refine WC.seq ?_
 refine WC.seq ?_
 refine WC.region ?_
 refine WL.val (.assign (.of rfl)) rfl ?_
 refine WL.nil ?_
 refine WC.block ?_
 replace hS := hS.vecNil 34 1
 refine WC.loop (σ := Value × Nat) (fun ⟨kv, i⟩ => [(0, .slice a l.length cap), (3, kv), (4, I64 (i : Nat))]) (fun ⟨kv, i⟩ w => i ≤ l.length ∧ Sat B w I (Vec 34 1 kv i (((ords l).take i).map F64) :: As)) (fun ⟨kv, i⟩ => l.length - i) (.slice none 0 0, 0) ⟨rfl, rfl, rfl, trivial⟩ ⟨Nat.zero_le _, hS⟩ ?_
 rintro ⟨kv, i⟩ w ⟨hi, hS⟩
 change WC _ _ _ _ [(0, .slice a l.length cap), (3, kv), (4, I64 (i : Nat))] w
 refine WC.seq ?_
 refine WC.seq ?_
 refine WC.region ?_
 refine WL.val (.move (.of rfl)) rfl ?_
 refine WL.val (.move (.of rfl)) rfl ?_
 refine WL.val (.lenSlice (.of rfl) Tryz.underlying22) rfl ?_
 refine WL.val (.lss (.of rfl) (.of rfl)) rfl ?_
 refine WL.nil ?_
 refine WC.cond rfl (fun hb11 => ?_) (fun hb11 => ?_)
 ·
  have hc11 := hb11; try simp only [Gk.cs0] at hc11
  refine WC.skip ?_
  refine WC.seq ?_
  refine WC.block ?_
  obtain ⟨s, hs⟩ : ∃ s, l[i]? = some s := ⟨_, List.getElem?_eq_getElem (by omega)⟩
  obtain ⟨p, ra, rc, rfl, hx, hrc, hr⟩ := hl.svs i s hs
  unfold svCells at hx
  have hnx : ((ords l).take (i + 1)).map F64 = ((ords l).take i).map F64 ++ [F64 s.ord] := by
   rw [List.take_add_one, ords, List.getElem?_map, hs, List.map_append]; rfl
  have htl : ((ords l).take i).length = i := by rw [List.length_take, ords, List.length_map]; omega
  refine WC.region ?_
  refine WL.val (.move (.of rfl)) rfl ?_
  refine WL.val (.move (.of rfl)) rfl ?_
  refine WL.val (.move (.of rfl)) rfl ?_
  first | refine WL.val (.indexAddr (.of rfl) (.of rfl) (by omega) (by omega) Tryz.underlying22 Tryz.sizeOf37) rfl ?_ | refine WL.val (.indexAddrI (.of rfl) (.of rfl) (by omega) (by omega) Tryz.underlying22 Tryz.sizeOf37) rfl ?_
  first | refine WL.val (.fieldAddr 1 (.of rfl) Tryz.underlying37 rfl rfl Tryz.sizeOf34 rfl) rfl ?_ | refine WL.val (.fieldAddrI 1 (.of rfl) Tryz.underlying37 rfl rfl Tryz.sizeOf34 rfl) rfl ?_
  first | refine WL.val (.ld (.of rfl) hS (k := 0) rfl Tryz.isAgg34 rfl) rfl ?_ | refine WL.val (.ldI (.of rfl) hS (At.add hx _) Tryz.isAgg34 rfl) rfl ?_
  refine WL.buildSlice (cs := [_]) hS (parts_cons (.of rfl) parts_nil) Tryz.underlying61 Tryz.sizeOf34 Tryz.zeroValue34 rfl rfl rfl rfl ?_
  clear hS; intro b20 w hS
  first | refine WL.append (size := 1) (bytes := 8) hS (.of rfl) (.of rfl) (k := 0) rfl Tryz.underlying61 info34_13 rfl rfl rfl rfl rfl rfl rfl ⟨by omega, by unfold maxLen; omega⟩ rfl ?_
  clear hS; intro v21 w hS; try dsimp only [List.set] at hS
  first | obtain ⟨a21, c21, rfl, hcap21, _⟩ := hS.vecSlice (k := 0) (v := v21) rfl
  refine WL.val (.assign (.of rfl)) rfl ?_
  refine WL.nil ?_
  refine WC.region ?_
  refine WL.val (.move (.of rfl)) rfl ?_
  refine WL.val (.add (.of rfl) (.of rfl) ⟨by omega, by omega⟩) rfl ?_
  refine WL.val (.assign (.of rfl)) rfl ?_
  refine WL.nil ?_
  refine ⟨(_, i + 1), ⟨rfl, rfl, rfl, trivial⟩, ⟨by (try dsimp only); omega, ?_⟩, by (try dsimp only); omega⟩
  rw [hnx]; exact hS
 ·
  have hc11 := hb11; try simp only [Gk.cs0] at hc11
  refine WC.exit ?_
  refine WC.seq ?_
  have hin : i = l.length := by omega
  subst hin
  have hol : (ords l).length = l.length := List.length_map ..
  rw [List.take_of_length_le (by omega)] at hS
  obtain ⟨ka, kc, rfl, hkc, _⟩ := hS.vecSlice (k := 0) (v := kv) rfl
  obtain ⟨J, hJ, hOR, hS2⟩ := hS.freezeVec (k := 0) rfl
  clear hS
  have hS := hS2
  clear hS2
  try dsimp only [List.eraseIdx] at hS
  rw [← hol] at hOR ⊢
  refine WC.region ?_
  refine WL.val (.move (.of rfl)) rfl ?_
  refine WL.call Tryz.func30 rfl (evs_cons (.of rfl) evs_nil) rfl (refOrder_any (ords l) hsm (by omega) ka kc B _ J hOR As hS) ?_
  clear hS
  rintro _ w ⟨D, va, vc, rfl, hD, hS⟩
  obtain ⟨J2, hJ2, hDR, hS2⟩ := hS.freezeVec (k := 0) rfl
  clear hS
  have hS := hS2
  clear hS2
  try dsimp only [List.eraseIdx] at hS
  replace hJ := Le.trans hJ hJ2
  rw [hol] at hD hDR ⊢
  have hDl := hD.len
  refine WL.val (.assign (.of rfl)) rfl ?_
  refine WL.nil ?_
  refine WC.seq ?_
  refine WC.region ?_
  refine WL.val (.assign (.of rfl)) rfl ?_
  refine WL.nil ?_
  refine WC.seq ?_
  refine WC.seq ?_
  refine WC.region ?_
  refine WL.val (.assign (.of rfl)) rfl ?_
  refine WL.nil ?_
  refine WC.block ?_
  replace hS := hS.vecNil 37 8
  refine WC.loop (σ := Value × Nat) (fun ⟨kv, j⟩ => [(0, .slice a l.length cap), (5, .slice va l.length vc), (6, kv), (7, I64 (j : Nat))]) (fun ⟨kv, j⟩ w => j ≤ l.length ∧ Sat B w J2 (Vec 37 8 kv j (pickR L (D.take j)).flatten :: As)) (fun ⟨kv, j⟩ => l.length - j) (.slice none 0 0, 0) ⟨rfl, rfl, rfl, rfl, trivial⟩ ⟨Nat.zero_le _, hS⟩ ?_
  rintro ⟨kv, j⟩ w ⟨hj, hS⟩
  change WC _ _ _ _ [(0, .slice a l.length cap), (5, .slice va l.length vc), (6, kv), (7, I64 (j : Nat))] w
  refine WC.seq ?_
  refine WC.seq ?_
  refine WC.region ?_
  refine WL.val (.move (.of rfl)) rfl ?_
  refine WL.val (.move (.of rfl)) rfl ?_
  refine WL.val (.lenSlice (.of rfl) Tryz.underlying68) rfl ?_
  refine WL.val (.lss (.of rfl) (.of rfl)) rfl ?_
  refine WL.nil ?_
  refine WC.cond rfl (fun hb27 => ?_) (fun hb27 => ?_)
  ·
   have hc27 := hb27; try simp only [Gk.cs0] at hc27
   refine WC.skip ?_
   refine WC.seq ?_
   refine WC.block ?_
   obtain ⟨d, hd⟩ : ∃ d, D[j]? = some d := ⟨_, List.getElem?_eq_getElem (by omega)⟩
   have hdm : d ∈ Srt.upto l.length := hD.2.mem_iff.1 (List.mem_of_getElem? hd)
   have hdr := Srt.upto_mem.1 hdm
   obtain ⟨s, hs⟩ : ∃ s, l[d.toNat]? = some s := ⟨_, List.getElem?_eq_getElem (by omega)⟩
   obtain ⟨p, c, rfl, hc, hx, ra, rc, rfl, hrc, hr⟩ := (hl.mono hJ).2 d.toNat s hs
   have hnr : (pickR L (D.take (j + 1))).flatten = (pickR L (D.take j)).flatten ++ svCells s ra rc := by
    unfold pickR
    rw [List.take_add_one, hd, List.map_append, List.flatten_append]
    simp [List.getD_eq_getElem?_getD, hc]
   unfold svCells at hx hnr
   obtain ⟨dp, rfl, hdp⟩ := hDR.2 (by omega)
   have hdx : ((D.map I64).drop ((j : Int).toNat * 1))[0]? = some (I64 d) := by rw [List.getElem?_drop, Int.toNat_natCast, Nat.mul_one, Nat.add_zero, List.getElem?_map, hd]; rfl
   refine WC.region ?_
   refine WL.val (.move (.of rfl)) rfl ?_
   refine WL.val (.move (.of rfl)) rfl ?_
   refine WL.val (.move (.of rfl)) rfl ?_
   refine WL.val (.move (.of rfl)) rfl ?_
   first | refine WL.val (.indexAddr (.of rfl) (.of rfl) (by omega) (by omega) Tryz.underlying68 Tryz.sizeOf3) rfl ?_ | refine WL.val (.indexAddrI (.of rfl) (.of rfl) (by omega) (by omega) Tryz.underlying68 Tryz.sizeOf3) rfl ?_
   refine WL.val (.ldI (v := I64 d) (.of rfl) hS (hdp.add _) Tryz.isAgg3 hdx) rfl ?_
   first | refine WL.val (.indexAddr (.of rfl) (.of rfl) (by omega) (by omega) Tryz.underlying22 Tryz.sizeOf37) rfl ?_ | refine WL.val (.indexAddrI (.of rfl) (.of rfl) (by omega) (by omega) Tryz.underlying22 Tryz.sizeOf37) rfl ?_
   first | refine WL.val (.ldsW (cs := [_, _, _, _, _, _, _, _]) (.of rfl) hS (k := 0) rfl Tryz.isAgg37 Tryz.sizeOf37 rfl) rfl ?_ | refine WL.val (.lds (vs := [_, _, _, _, _, _, _, _]) (.of rfl) hS (k := 0) rfl Tryz.isAgg37 Tryz.sizeOf37 rfl (fun _ _ h => h)) rfl ?_ | refine WL.val (.ldsI (.of rfl) hS hx Tryz.isAgg37 Tryz.sizeOf37 rfl (fun _ _ h => h)) rfl ?_ | refine WL.val (.ldsI (.of rfl) hS (At.add hx _) Tryz.isAgg37 Tryz.sizeOf37 rfl (fun _ _ h => h)) rfl ?_
   refine WL.buildSlice (cs := [_, _, _, _, _, _, _, _]) hS (parts_cons (.of rfl) parts_nil) Tryz.underlying22 Tryz.sizeOf37 Tryz.zeroValue37 rfl rfl rfl rfl ?_
   clear hS; intro b38 w hS
   first | refine WL.append (size := 8) (bytes := 80) hS (.of rfl) (.of rfl) (k := 0) rfl Tryz.underlying22 info37_13 rfl rfl rfl rfl rfl rfl rfl ⟨by omega, by unfold maxLen; omega⟩ rfl ?_
   clear hS; intro v39 w hS; try dsimp only [List.set] at hS
   first | obtain ⟨a39, c39, rfl, hcap39, _⟩ := hS.vecSlice (k := 0) (v := v39) rfl
   refine WL.val (.assign (.of rfl)) rfl ?_
   refine WL.nil ?_
   refine WC.region ?_
   refine WL.val (.move (.of rfl)) rfl ?_
   refine WL.val (.add (.of rfl) (.of rfl) ⟨by omega, by omega⟩) rfl ?_
   refine WL.val (.assign (.of rfl)) rfl ?_
   refine WL.nil ?_
   refine ⟨(_, j + 1), ⟨rfl, rfl, rfl, rfl, trivial⟩, ⟨by (try dsimp only); omega, ?_⟩, by (try dsimp only); omega⟩
   rw [hnr]; exact hS
  ·
   have hc27 := hb27; try simp only [Gk.cs0] at hc27
   refine WC.exit ?_
   refine WC.seq ?_
   refine WC.region ?_
   refine WL.val (.move (.of rfl)) rfl ?_
   refine WL.val (.assign (.of rfl)) rfl ?_
   refine WL.nil ?_
   refine WC.ret ?_
   refine ret1 Tryz.results13 rfl ?_
   have hjn : j = l.length := by omega
   subst hjn
   rw [List.take_of_length_le (by omega)] at hS
   exact ⟨_, rfl, J2, D, hJ, hD, hS⟩
end Go.Proofs.YtchgkcbloeoopaaGreatDoor
