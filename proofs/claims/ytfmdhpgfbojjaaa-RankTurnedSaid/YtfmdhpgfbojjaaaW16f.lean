/- Chapter 16: the stable sort, and the order. -/
import Derived.Test.YtfmdhpgfbojjaaaW16e
namespace Go.Proofs.Ytfmdhpgfbojjaaa
open Gk Rk
set_option linter.unusedVariables false
set_option linter.unusedSimpArgs false

set_option maxHeartbeats 400000 in
theorem stable_any {l : List Nat} {p : Addr} {I : Im} (hx : Cx I l p) (b0 n c : Nat) (r : List Value) (hn : l.length = n) (hb : n ≤ 100000) (B w : World) (As : List Assn) (hS : Sat B w I (blk b0 ((Srt.upto n).map I64 ++ r) 3 :: As)) :
    Calls Try.prog 31 [.slice (some (ad b0 0)) n c, I64 n, CF p].toArray w (Ret fun v w' => v = .tuple #[] ∧ ∃ D, Srt.Ord (kx l) n D ∧ Sat B w' I (blk b0 ((D).map I64 ++ r) 3 :: As)) := by
  refine calls Try.func31 rfl Try.ntmps31 rfl ?_
  refine WC.seq ?_
  refine WC.region ?_
  refine WL.val (.assign (.of rfl)) rfl ?_
  refine WL.nil ?_
  refine WC.seq ?_
  refine WC.region ?_
  refine WL.val (.move (.of rfl)) rfl ?_
  refine WL.val (.assign (.of rfl)) rfl ?_
  refine WL.val (.assign (.of rfl)) rfl ?_
  refine WL.nil ?_
  refine WC.seq ?_
  refine WC.block ?_
  refine WC.loop (σ := Int × Int × List Int × List Int) (fun ⟨a, b, M, R⟩ => [(0, .slice (some (ad b0 0)) n c), (1, I64 n), (2, CF p), (6, I64 20), (7, I64 a), (8, I64 b)]) (fun ⟨a, b, M, R⟩ w => a = M.length ∧ b = a + 20 ∧ Srt.Full (kx l) 20 M ∧ Srt.cross M R ∧ R.Pairwise (· < ·) ∧ (M ++ R).Perm (Srt.upto n) ∧ Sat B w I (blk b0 ((M ++ R).map I64 ++ r) 3 :: As)) (fun ⟨a, b, M, R⟩ => R.length) (0, 20, [], Srt.upto n) ⟨rfl, rfl, rfl, rfl, rfl, rfl, trivial⟩ ⟨rfl, rfl, .nil, (fun _ h => by cases h), Srt.upto_lt n, .refl _, hS⟩ ?_
  rintro ⟨a, b, M, R⟩ w ⟨ha, hb2, hF, hc, hR, hP, hS⟩
  change WC _ _ _ _ [(0, .slice (some (ad b0 0)) n c), (1, I64 n), (2, CF p), (6, I64 20), (7, I64 a), (8, I64 b)] w
  have hPl := hP.length_eq
  rw [List.length_append, Srt.upto_len] at hPl
  have hin : ∀ x ∈ R, 0 ≤ x ∧ x < (l.length : Int) := fun x hx => by rw [hn]; exact Srt.upto_mem.1 (hP.mem_iff.1 (List.mem_append_right _ hx))
  refine WC.seq ?_
  refine WC.seq ?_
  refine WC.region ?_
  refine WL.val (.move (.of rfl)) rfl ?_
  refine WL.val (.move (.of rfl)) rfl ?_
  refine WL.val (.leq (.of rfl) (.of rfl)) rfl ?_
  refine WL.nil ?_
  refine WC.cond rfl (fun hb13 => ?_) (fun hb13 => ?_)
  ·
    have hc13 := hb13; try simp only [decide_eq_true_eq, decide_eq_false_iff_not, beq_iff_eq, beq_eq_false_iff_ne, bne_iff_ne, Bool.not_eq_true', Bool.not_eq_false', Bool.or_eq_true, Bool.and_eq_true, Bool.or_eq_false_iff, Bool.and_eq_false_iff, ne_eq, Int.not_lt, Int.not_le, bne_eq_false_iff_eq, Bool.not_eq_true, Bool.not_eq_false] at hc13
    refine WC.skip ?_
    refine WC.block ?_
    refine WC.seq ?_
    refine WC.region ?_
    refine WL.val (.move (.of rfl)) rfl ?_
    refine WL.val (.move (.of rfl)) rfl ?_
    refine WL.val (.move (.of rfl)) rfl ?_
    refine WL.val (.move (.of rfl)) rfl ?_
    have hTD : R.take 20 ++ R.drop 20 = R := List.take_append_drop 20 R
    rw [← hTD] at hS
    refine WL.call Try.func35 rfl (evs_cons (.of rfl) (evs_cons (.of rfl) (evs_cons (.of rfl) (evs_cons (.of rfl) evs_nil)))) rfl (ins_at hx M (R.take 20) (R.drop 20) (hR.sublist (List.take_sublist 20 R)) (fun x h => hin x (List.mem_of_mem_take h)) b0 n c r _ b (by omega) (by rw [List.length_take]; omega) (by omega) (by rw [List.length_take, List.length_drop]; omega) B w As hS) ?_
    clear hS
    rintro _ w ⟨rfl, M2, hM2, hMs, hS⟩
    refine WL.nil ?_
    refine WC.seq ?_
    refine WC.region ?_
    refine WL.val (.move (.of rfl)) rfl ?_
    refine WL.val (.assign (.of rfl)) rfl ?_
    refine WL.nil ?_
    refine WC.region ?_
    refine WL.val (.move (.of rfl)) rfl ?_
    refine WL.val (.move (.of rfl)) rfl ?_
    refine WL.val (.add (.of rfl) (.of rfl) ⟨by omega, by omega⟩) rfl ?_
    refine WL.val (.assign (.of rfl)) rfl ?_
    refine WL.nil ?_
    refine ⟨(b, b + 20, M ++ M2, R.drop 20), ⟨rfl, rfl, rfl, rfl, rfl, rfl, trivial⟩, ⟨by have h1 := hM2.length_eq; rw [List.length_take] at h1; (try dsimp only); rw [List.length_append]; omega, rfl, ?_, ?_, hR.sublist (List.drop_sublist 20 R), ?_, ?_⟩, by (try dsimp only); rw [List.length_drop]; omega⟩
    · exact hF.append (.one (by rw [hM2.length_eq, List.length_take]; omega) hMs) (Srt.cross_permr (Srt.cross_sub hc (fun _ h => h) (fun _ h => List.mem_of_mem_take h)) hM2)
    · refine Srt.cross_app (Srt.cross_sub hc (fun _ h => h) (fun _ h => List.mem_of_mem_drop h)) (Srt.cross_perm ?_ hM2)
      intro u hu t ht
      rw [← List.take_append_drop 20 R] at hR
      exact (List.pairwise_append.1 hR).2.2 u hu t ht
    · rw [List.append_assoc]
      refine List.Perm.trans (List.Perm.append_left M (hM2.append_right _)) ?_
      rw [List.take_append_drop]; exact hP
    · rw [List.append_assoc]; exact hS
  ·
    have hc13 := hb13; try simp only [decide_eq_true_eq, decide_eq_false_iff_not, beq_iff_eq, beq_eq_false_iff_ne, bne_iff_ne, Bool.not_eq_true', Bool.not_eq_false', Bool.or_eq_true, Bool.and_eq_true, Bool.or_eq_false_iff, Bool.and_eq_false_iff, ne_eq, Int.not_lt, Int.not_le, bne_eq_false_iff_eq, Bool.not_eq_true, Bool.not_eq_false] at hc13
    refine WC.exit ?_
    refine WC.seq ?_
    refine WC.region ?_
    refine WL.val (.move (.of rfl)) rfl ?_
    refine WL.val (.move (.of rfl)) rfl ?_
    refine WL.val (.move (.of rfl)) rfl ?_
    refine WL.val (.move (.of rfl)) rfl ?_
    replace hS : Sat B w I (blk b0 ((M ++ (R ++ [])).map I64 ++ r) 3 :: As) := by simpa using hS
    refine WL.call Try.func35 rfl (evs_cons (.of rfl) (evs_cons (.of rfl) (evs_cons (.of rfl) (evs_cons (.of rfl) evs_nil)))) rfl (ins_at hx M R [] hR hin b0 n c r _ n (by omega) (by omega) (by omega) (by simp only [List.length_nil]; omega) B w As hS) ?_
    clear hS
    rintro _ w ⟨rfl, M2, hM2, hMs, hS⟩
    refine WL.nil ?_
    refine WC.block ?_
    refine WC.loop (σ := Int × List Int) (fun ⟨s, D⟩ => [(0, .slice (some (ad b0 0)) n c), (1, I64 n), (2, CF p), (6, I64 s)]) (fun ⟨s, D⟩ w => 20 ≤ s ∧ s ≤ 1000000 ∧ Srt.Runs (kx l) s.toNat D ∧ D.Perm (Srt.upto n) ∧ Sat B w I (blk b0 ((D).map I64 ++ r) 3 :: As)) (fun ⟨s, D⟩ => (n - s : Int).toNat) (20, M ++ M2) ⟨rfl, rfl, rfl, rfl, trivial⟩ ⟨by decide, by decide, ⟨M, M2, rfl, hF, by rw [hM2.length_eq]; omega, hMs, Srt.cross_permr hc hM2⟩, (List.Perm.append_left M hM2).trans hP, by simpa using hS⟩ ?_
    rintro ⟨s, D⟩ w ⟨hs20, hsb, hRu, hP, hS⟩
    change WC _ _ _ _ [(0, .slice (some (ad b0 0)) n c), (1, I64 n), (2, CF p), (6, I64 s)] w
    have hDl := hP.length_eq
    rw [Srt.upto_len] at hDl
    refine WC.seq ?_
    refine WC.seq ?_
    refine WC.region ?_
    refine WL.val (.move (.of rfl)) rfl ?_
    refine WL.val (.move (.of rfl)) rfl ?_
    refine WL.val (.lss (.of rfl) (.of rfl)) rfl ?_
    refine WL.nil ?_
    refine WC.cond rfl (fun hb30 => ?_) (fun hb30 => ?_)
    ·
      have hc30 := hb30; try simp only [decide_eq_true_eq, decide_eq_false_iff_not, beq_iff_eq, beq_eq_false_iff_ne, bne_iff_ne, Bool.not_eq_true', Bool.not_eq_false', Bool.or_eq_true, Bool.and_eq_true, Bool.or_eq_false_iff, Bool.and_eq_false_iff, ne_eq, Int.not_lt, Int.not_le, bne_eq_false_iff_eq, Bool.not_eq_true, Bool.not_eq_false] at hc30
      refine WC.skip ?_
      refine WC.block ?_
      refine WC.seq ?_
      refine WC.region ?_
      refine WL.val (.move (.of rfl)) rfl ?_
      refine WL.val (.mul (.of rfl) (.of rfl) ⟨by omega, by omega⟩) rfl ?_
      refine WL.val (.assign (.of rfl)) rfl ?_
      refine WL.val (.assign (.of rfl)) rfl ?_
      refine WL.nil ?_
      refine WC.seq ?_
      refine WC.block ?_
      obtain ⟨E0, U0, rfl, hE0, hU0, hU0s, hEU⟩ := hRu
      refine WC.loop (σ := Int × Int × List Int × List Int) (fun ⟨a, b, Md, E⟩ => [(0, .slice (some (ad b0 0)) n c), (1, I64 n), (2, CF p), (6, I64 s), (7, I64 a), (8, I64 b)]) (fun ⟨a, b, Md, E⟩ w => a = Md.length ∧ b = a + 2 * s ∧ Srt.Full (kx l) (2 * s).toNat Md ∧ Srt.Full (kx l) s.toNat E ∧ Srt.cross E U0 ∧ Srt.cross Md (E ++ U0) ∧ (Md ++ (E ++ U0)).Perm (Srt.upto n) ∧ Sat B w I (blk b0 ((Md ++ (E ++ U0)).map I64 ++ r) 3 :: As)) (fun ⟨a, b, Md, E⟩ => E.length) (0, 2 * s, [], E0) ⟨rfl, rfl, rfl, rfl, rfl, rfl, trivial⟩ ⟨rfl, by (try dsimp only); omega, .nil, hE0, hEU, (fun _ h => by cases h), hP, hS⟩ ?_
      rintro ⟨a, b, Md, E⟩ w ⟨ha, hb2, hMd, hE, hEU, hc, hP, hS⟩
      change WC _ _ _ _ [(0, .slice (some (ad b0 0)) n c), (1, I64 n), (2, CF p), (6, I64 s), (7, I64 a), (8, I64 b)] w
      have hPl := hP.length_eq
      rw [List.length_append, List.length_append, Srt.upto_len] at hPl
      have hin : ∀ x ∈ E ++ U0, 0 ≤ x ∧ x < (l.length : Int) := fun x hx => by rw [hn]; exact Srt.upto_mem.1 (hP.mem_iff.1 (List.mem_append_right _ hx))
      refine WC.seq ?_
      refine WC.seq ?_
      refine WC.region ?_
      refine WL.val (.move (.of rfl)) rfl ?_
      refine WL.val (.move (.of rfl)) rfl ?_
      refine WL.val (.leq (.of rfl) (.of rfl)) rfl ?_
      refine WL.nil ?_
      refine WC.cond rfl (fun hb35 => ?_) (fun hb35 => ?_)
      ·
        have hc35 := hb35; try simp only [decide_eq_true_eq, decide_eq_false_iff_not, beq_iff_eq, beq_eq_false_iff_ne, bne_iff_ne, Bool.not_eq_true', Bool.not_eq_false', Bool.or_eq_true, Bool.and_eq_true, Bool.or_eq_false_iff, Bool.and_eq_false_iff, ne_eq, Int.not_lt, Int.not_le, bne_eq_false_iff_eq, Bool.not_eq_true, Bool.not_eq_false] at hc35
        refine WC.skip ?_
        refine WC.block ?_
        refine WC.seq ?_
        refine WC.region ?_
        refine WL.val (.move (.of rfl)) rfl ?_
        refine WL.val (.move (.of rfl)) rfl ?_
        refine WL.val (.move (.of rfl)) rfl ?_
        refine WL.val (.move (.of rfl)) rfl ?_
        refine WL.val (.add (.of rfl) (.of rfl) ⟨by omega, by omega⟩) rfl ?_
        refine WL.val (.move (.of rfl)) rfl ?_
        refine WL.val (.move (.of rfl)) rfl ?_
        obtain ⟨U, V, T, rfl, hUl, hVl, hUs, hVs, hUV, hUT, hVT, hT⟩ := hE.two (by omega)
        simp only [List.length_append] at hPl
        have hTU : Srt.cross T U0 := Srt.cross_sub hEU (fun _ h => by simp [h]) (fun _ h => h)
        rw [show Md ++ ((U ++ (V ++ T)) ++ U0) = Md ++ (U ++ (V ++ (T ++ U0))) by simp only [List.append_assoc]] at hS
        refine WL.call Try.func36 rfl (evs_cons (.of rfl) (evs_cons (.of rfl) (evs_cons (.of rfl) (evs_cons (.of rfl) (evs_cons (.of rfl) evs_nil))))) rfl (sym_any hx _ Md U V (T ++ U0) hUs hVs hUV (fun x h => hin x (by rcases List.mem_append.1 h with h | h <;> simp [h])) (by omega) (by omega) (Nat.le_refl _) b0 n c r _ _ _ (by omega) (by omega) (by omega) (by omega) (by simp only [List.length_append]; omega) B w As hS) ?_
        clear hS
        rintro _ w ⟨rfl, M3, hM3, hMs3, hS⟩
        refine WL.nil ?_
        refine WC.seq ?_
        refine WC.region ?_
        refine WL.val (.move (.of rfl)) rfl ?_
        refine WL.val (.assign (.of rfl)) rfl ?_
        refine WL.nil ?_
        refine WC.region ?_
        refine WL.val (.move (.of rfl)) rfl ?_
        refine WL.val (.move (.of rfl)) rfl ?_
        refine WL.val (.mul (.of rfl) (.of rfl) ⟨by omega, by omega⟩) rfl ?_
        refine WL.val (.add (.of rfl) (.of rfl) ⟨by omega, by omega⟩) rfl ?_
        refine WL.val (.assign (.of rfl)) rfl ?_
        refine WL.nil ?_
        refine ⟨(b, b + 2 * s, Md ++ M3, T), ⟨rfl, rfl, rfl, rfl, rfl, rfl, trivial⟩, ⟨by (try dsimp only); rw [List.length_append, hM3.length_eq, List.length_append]; omega, rfl, ?_, hT, hTU, ?_, ?_, ?_⟩, by (try dsimp only); simp only [List.length_append]; omega⟩
        · exact hMd.append (.one (by rw [hM3.length_eq, List.length_append]; omega) hMs3) (Srt.cross_permr (Srt.cross_sub hc (fun _ h => h) (fun x h => by rcases List.mem_append.1 h with h | h <;> simp [h])) hM3)
        · refine Srt.cross_app (Srt.cross_sub hc (fun _ h => h) (fun x h => by rcases List.mem_append.1 h with h | h <;> simp [h])) (Srt.cross_perm ?_ hM3)
          exact Srt.cross_app (Srt.cross_appr hUT (Srt.cross_sub hEU (fun _ h => List.mem_append_left _ h) (fun _ h => h))) (Srt.cross_appr hVT (Srt.cross_sub hEU (fun _ h => by simp [h]) (fun _ h => h)))
        · refine List.Perm.trans ?_ hP
          simp only [List.append_assoc]
          refine List.Perm.append_left Md ?_
          have := hM3.append_right (T ++ U0)
          simpa [List.append_assoc] using this
        · rw [List.append_assoc]; exact hS
      ·
        have hc35 := hb35; try simp only [decide_eq_true_eq, decide_eq_false_iff_not, beq_iff_eq, beq_eq_false_iff_ne, bne_iff_ne, Bool.not_eq_true', Bool.not_eq_false', Bool.or_eq_true, Bool.and_eq_true, Bool.or_eq_false_iff, Bool.and_eq_false_iff, ne_eq, Int.not_lt, Int.not_le, bne_eq_false_iff_eq, Bool.not_eq_true, Bool.not_eq_false] at hc35
        refine WC.exit ?_
        refine WC.seq ?_
        refine WC.seq ?_
        refine WC.region ?_
        refine WL.val (.move (.of rfl)) rfl ?_
        refine WL.val (.move (.of rfl)) rfl ?_
        refine WL.val (.add (.of rfl) (.of rfl) ⟨by omega, by omega⟩) rfl ?_
        refine WL.val (.assign (.of rfl)) rfl ?_
        refine WL.nil ?_
        refine WC.seq ?_
        refine WC.region ?_
        refine WL.val (.move (.of rfl)) rfl ?_
        refine WL.val (.move (.of rfl)) rfl ?_
        refine WL.val (.lss (.of rfl) (.of rfl)) rfl ?_
        refine WL.nil ?_
        refine WC.cond rfl (fun hb54 => ?_) (fun hb54 => ?_)
        ·
          have hc54 := hb54; try simp only [decide_eq_true_eq, decide_eq_false_iff_not, beq_iff_eq, beq_eq_false_iff_ne, bne_iff_ne, Bool.not_eq_true', Bool.not_eq_false', Bool.or_eq_true, Bool.and_eq_true, Bool.or_eq_false_iff, Bool.and_eq_false_iff, ne_eq, Int.not_lt, Int.not_le, bne_eq_false_iff_eq, Bool.not_eq_true, Bool.not_eq_false] at hc54
          refine WC.region ?_
          refine WL.val (.move (.of rfl)) rfl ?_
          refine WL.val (.move (.of rfl)) rfl ?_
          refine WL.val (.move (.of rfl)) rfl ?_
          refine WL.val (.move (.of rfl)) rfl ?_
          refine WL.val (.move (.of rfl)) rfl ?_
          have hEf : E.length = s.toNat ∧ Srt.So (kx l) E := by
            rcases hE.few (by omega) with h | h
            · subst h; simp at hPl; omega
            · exact h
          replace hS : Sat B w I (blk b0 ((Md ++ (E ++ (U0 ++ []))).map I64 ++ r) 3 :: As) := by simpa using hS
          refine WL.call Try.func36 rfl (evs_cons (.of rfl) (evs_cons (.of rfl) (evs_cons (.of rfl) (evs_cons (.of rfl) (evs_cons (.of rfl) evs_nil))))) rfl (sym_any hx _ Md E U0 [] hEf.2 hU0s hEU (fun x h => hin x h) (by omega) (by omega) (Nat.le_refl _) b0 n c r _ _ _ (by omega) (by omega) (by omega) (by omega) (by simp only [List.length_nil]; omega) B w As hS) ?_
          clear hS
          rintro _ w ⟨rfl, M3, hM3, hMs3, hS⟩
          refine WL.nil ?_
          refine WC.region ?_
          refine WL.val (.move (.of rfl)) rfl ?_
          refine WL.val (.mul (.of rfl) (.of rfl) ⟨by omega, by omega⟩) rfl ?_
          refine WL.val (.assign (.of rfl)) rfl ?_
          refine WL.nil ?_
          refine ⟨(s * 2, Md ++ M3), ⟨rfl, rfl, rfl, rfl, trivial⟩, ⟨by omega, by omega, ⟨Md, M3, rfl, by rw [show (s * 2).toNat = (2 * s).toNat by omega]; exact hMd, by rw [hM3.length_eq, List.length_append]; omega, hMs3, Srt.cross_permr hc hM3⟩, ?_, by simpa using hS⟩, by (try dsimp only); omega⟩
          exact (List.Perm.append_left Md hM3).trans hP
        ·
          have hc54 := hb54; try simp only [decide_eq_true_eq, decide_eq_false_iff_not, beq_iff_eq, beq_eq_false_iff_ne, bne_iff_ne, Bool.not_eq_true', Bool.not_eq_false', Bool.or_eq_true, Bool.and_eq_true, Bool.or_eq_false_iff, Bool.and_eq_false_iff, ne_eq, Int.not_lt, Int.not_le, bne_eq_false_iff_eq, Bool.not_eq_true, Bool.not_eq_false] at hc54
          refine WC.skip ?_
          refine WC.region ?_
          refine WL.val (.move (.of rfl)) rfl ?_
          refine WL.val (.mul (.of rfl) (.of rfl) ⟨by omega, by omega⟩) rfl ?_
          refine WL.val (.assign (.of rfl)) rfl ?_
          refine WL.nil ?_
          have hq : (E ++ U0).length < (s * 2).toNat ∧ Srt.So (kx l) (E ++ U0) := by
            rcases hE.few (by omega) with h | h
            · subst h; simp only [List.nil_append]; exact ⟨by omega, hU0s⟩
            · have hU00 : U0 = [] := List.eq_nil_of_length_eq_zero (by omega)
              subst hU00
              rw [List.append_nil]; exact ⟨by omega, h.2⟩
          refine ⟨(s * 2, Md ++ (E ++ U0)), ⟨rfl, rfl, rfl, rfl, trivial⟩, ⟨by omega, by omega, ⟨Md, E ++ U0, rfl, by rw [show (s * 2).toNat = (2 * s).toNat by omega]; exact hMd, hq.1, hq.2, hc⟩, hP, hS⟩, by (try dsimp only); omega⟩
    ·
      have hc30 := hb30; try simp only [decide_eq_true_eq, decide_eq_false_iff_not, beq_iff_eq, beq_eq_false_iff_ne, bne_iff_ne, Bool.not_eq_true', Bool.not_eq_false', Bool.or_eq_true, Bool.and_eq_true, Bool.or_eq_false_iff, Bool.and_eq_false_iff, ne_eq, Int.not_lt, Int.not_le, bne_eq_false_iff_eq, Bool.not_eq_true, Bool.not_eq_false] at hc30
      refine WC.exit ?_
      refine end0 Try.results31 ?_
      refine ⟨_, rfl, rfl, D, ⟨hRu.sorted (by omega) (by omega), hP⟩, hS⟩
theorem ins_nil (cv : Value) (w : World) :
    Calls Try.prog 35 [.slice none 0 0, I64 0, I64 0, cv].toArray w (Ret fun v w' => v = .tuple #[] ∧ w = w') := by
  obtain ⟨w0, hw0⟩ : ∃ w0, w = w0 := ⟨_, rfl⟩
  rw [show (fun (v : Value) (w' : World) => v = .tuple #[] ∧ w = w') = (fun v w' => v = .tuple #[] ∧ w0 = w') by rw [hw0]]
  refine calls Try.func35 rfl Try.ntmps35 rfl ?_
  refine WC.seq ?_
  refine WC.region ?_
  refine WL.val (.move (.of rfl)) rfl ?_
  refine WL.val (.add (.of rfl) (.of rfl) ⟨by omega, by omega⟩) rfl ?_
  refine WL.val (.assign (.of rfl)) rfl ?_
  refine WL.nil ?_
  refine WC.block ?_
  refine WC.loop (σ := Unit) (fun _ => [(2, I64 0), (8, I64 1)]) (fun _ w => w = w0) (fun _ => 0) () ⟨rfl, rfl, trivial⟩ hw0 ?_
  rintro _ w hw
  change WC _ _ _ _ [(2, I64 0), (8, I64 1)] w
  refine WC.seq ?_
  refine WC.seq ?_
  refine WC.region ?_
  refine WL.val (.move (.of rfl)) rfl ?_
  refine WL.val (.move (.of rfl)) rfl ?_
  refine WL.val (.lss (.of rfl) (.of rfl)) rfl ?_
  refine WL.nil ?_
  refine WC.condF (rfl) ?_
  refine WC.exit ?_
  refine end0 Try.results35 ?_
  exact ⟨_, rfl, rfl, hw.symm⟩
theorem stable_nil (cv : Value) (w : World) :
    Calls Try.prog 31 [.slice none 0 0, I64 0, cv].toArray w (Ret fun v w' => v = .tuple #[] ∧ w = w') := by
  obtain ⟨w0, hw0⟩ : ∃ w0, w = w0 := ⟨_, rfl⟩
  rw [show (fun (v : Value) (w' : World) => v = .tuple #[] ∧ w = w') = (fun v w' => v = .tuple #[] ∧ w0 = w') by rw [hw0]]
  refine calls Try.func31 rfl Try.ntmps31 rfl ?_
  refine WC.seq ?_
  refine WC.region ?_
  refine WL.val (.assign (.of rfl)) rfl ?_
  refine WL.nil ?_
  refine WC.seq ?_
  refine WC.region ?_
  refine WL.val (.move (.of rfl)) rfl ?_
  refine WL.val (.assign (.of rfl)) rfl ?_
  refine WL.val (.assign (.of rfl)) rfl ?_
  refine WL.nil ?_
  refine WC.seq ?_
  refine WC.block ?_
  refine WC.loop (σ := Unit) (fun _ => [(0, .slice none 0 0), (1, I64 0), (2, cv), (6, I64 20), (7, I64 0), (8, I64 20)]) (fun _ w => w = w0) (fun _ => 0) () ⟨rfl, rfl, rfl, rfl, rfl, rfl, trivial⟩ hw0 ?_
  rintro _ w hw
  change WC _ _ _ _ [(0, .slice none 0 0), (1, I64 0), (2, cv), (6, I64 20), (7, I64 0), (8, I64 20)] w
  refine WC.seq ?_
  refine WC.seq ?_
  refine WC.region ?_
  refine WL.val (.move (.of rfl)) rfl ?_
  refine WL.val (.move (.of rfl)) rfl ?_
  refine WL.val (.leq (.of rfl) (.of rfl)) rfl ?_
  refine WL.nil ?_
  refine WC.condF (rfl) ?_
  refine WC.exit ?_
  refine WC.seq ?_
  refine WC.region ?_
  refine WL.val (.move (.of rfl)) rfl ?_
  refine WL.val (.move (.of rfl)) rfl ?_
  refine WL.val (.move (.of rfl)) rfl ?_
  refine WL.val (.move (.of rfl)) rfl ?_
  refine WL.call Try.func35 rfl (evs_cons (.of rfl) (evs_cons (.of rfl) (evs_cons (.of rfl) (evs_cons (.of rfl) evs_nil)))) rfl (ins_nil _ _) ?_
  rintro _ _ ⟨rfl, rfl⟩
  refine WL.nil ?_
  refine WC.block ?_
  refine WC.loop (σ := Unit) (fun _ => [(1, I64 0), (6, I64 20)]) (fun _ w => w = w0) (fun _ => 0) () ⟨rfl, rfl, trivial⟩ hw ?_
  rintro _ w hw
  change WC _ _ _ _ [(1, I64 0), (6, I64 20)] w
  refine WC.seq ?_
  refine WC.seq ?_
  refine WC.region ?_
  refine WL.val (.move (.of rfl)) rfl ?_
  refine WL.val (.move (.of rfl)) rfl ?_
  refine WL.val (.lss (.of rfl) (.of rfl)) rfl ?_
  refine WL.nil ?_
  refine WC.condF (rfl) ?_
  refine WC.exit ?_
  refine end0 Try.results31 ?_
  exact ⟨_, rfl, rfl, hw.symm⟩
theorem sort_nil (cv : Value) (w : World) :
    Calls Try.prog 24 [.slice none 0 0, cv].toArray w (Ret fun v w' => v = .tuple #[] ∧ w = w') := by
  refine calls Try.func24 rfl Try.ntmps24 rfl ?_
  refine WC.region ?_
  refine WL.val (.move (.of rfl)) rfl ?_
  refine WL.val (.move (.of rfl)) rfl ?_
  refine WL.val (.lenSlice (.of rfl) Try.underlying28) rfl ?_
  refine WL.val (.move (.of rfl)) rfl ?_
  refine WL.call Try.func31 rfl (evs_cons (.of rfl) (evs_cons (.of rfl) (evs_cons (.of rfl) evs_nil))) rfl (stable_nil _ _) ?_
  rintro _ _ ⟨rfl, rfl⟩
  refine WL.nil ?_
  refine end0 Try.results24 ?_
  exact ⟨_, rfl, rfl, rfl⟩
theorem sort_blk {l : List Nat} {p : Addr} {I : Im} (hx : Cx I l p) (b0 n c : Nat) (r : List Value) (hn : l.length = n) (hb : n ≤ 100000) (B w : World) (As : List Assn) (hS : Sat B w I (blk b0 ((Srt.upto n).map I64 ++ r) 3 :: As)) :
    Calls Try.prog 24 [.slice (some (ad b0 0)) n c, CF p].toArray w (Ret fun v w' => v = .tuple #[] ∧ ∃ D, Srt.Ord (kx l) n D ∧ Sat B w' I (blk b0 ((D).map I64 ++ r) 3 :: As)) := by
  refine calls Try.func24 rfl Try.ntmps24 rfl ?_
  refine WC.region ?_
  refine WL.val (.move (.of rfl)) rfl ?_
  refine WL.val (.move (.of rfl)) rfl ?_
  refine WL.val (.lenSlice (.of rfl) Try.underlying28) rfl ?_
  refine WL.val (.move (.of rfl)) rfl ?_
  refine WL.call Try.func31 rfl (evs_cons (.of rfl) (evs_cons (.of rfl) (evs_cons (.of rfl) evs_nil))) rfl (stable_any hx b0 n c r hn hb B w As hS) ?_
  clear hS
  rintro _ w ⟨rfl, D, hD, hS⟩
  refine WL.nil ?_
  refine end0 Try.results24 ?_
  exact ⟨_, rfl, rfl, D, hD, hS⟩
theorem sort_vec {l : List Nat} {p : Addr} {I : Im} (hx : Cx I l p) (u : Value) (n : Nat) (hn : l.length = n) (hb : n ≤ 100000) (B w : World) (As : List Assn) (hS : Sat B w I (Vec 3 1 u n ((Srt.upto n).map I64) :: As)) :
    Calls Try.prog 24 [u, CF p].toArray w (Ret fun v w' => v = .tuple #[] ∧ ∃ D, Srt.Ord (kx l) n D ∧ Sat B w' I (Vec 3 1 u n ((D).map I64) :: As)) := by
  rcases Nat.eq_zero_or_pos n with h0 | h0
  · subst h0
    have hcase : u = .slice none 0 0 ∨ ∃ b0 c r, u = .slice (some (ad b0 0)) 0 c ∧ c ≤ maxLen ∧ r.length = c ∧ Sat B w I (blk b0 (([] : List Int).map I64 ++ r) 3 :: As) := by
      obtain ⟨h, ⟨h1, h2, rfl, ⟨hl, ha⟩, hr⟩, hg⟩ := hS
      rcases ha with ⟨hv, _, _⟩ | ⟨b, cap, rest, rfl, rfl, h3, h4, h5⟩
      · exact .inl hv
      · exact .inr ⟨b, cap, rest, rfl, h4, by simp [Srt.upto] at h5; exact h5, _, ⟨_, h2, rfl, rfl, hr⟩, hg⟩
    rcases hcase with rfl | ⟨b0, c, r, rfl, hcm, hrl, hSo⟩
    · refine (sort_nil (CF p) w).mono ?_
      rintro e w' ⟨v, rfl, rfl, rfl⟩
      exact ⟨_, rfl, rfl, [], ⟨.nil, .refl _⟩, hS⟩
    · refine (sort_blk hx b0 0 c r hn (by decide) B w As hSo).mono ?_
      rintro e w' ⟨v, rfl, rfl, D, hD, hS'⟩
      have hD0 : D = [] := List.eq_nil_of_length_eq_zero hD.len
      subst hD0
      exact ⟨_, rfl, rfl, [], hD, hS'.vecShut (k := 0) (n := 0) (xs := []) (size := 1) (cap := c) (rest := r) rfl (Nat.zero_le _) hcm rfl (by simpa using hrl)⟩
  · obtain ⟨b0, c, r, rfl, hnc, hcm, hxl, hxr, hSo⟩ := hS.vecOpen (k := 0) rfl h0
    refine (sort_blk hx b0 n c r hn hb B w As hSo).mono ?_
    rintro e w' ⟨v, rfl, rfl, D, hD, hS'⟩
    refine ⟨_, rfl, rfl, D, hD, hS'.vecShut (k := 0) (n := n) (xs := D.map I64) (size := 1) (cap := c) (rest := r) rfl hnc hcm (by rw [List.length_map, hD.len]; omega) ?_⟩
    rw [List.length_map, hD.len]
    rw [hxl] at hxr
    omega
theorem Order_any (l : List Nat) (small : ∀ v ∈ l, v < 18446744073709551616) (hl : l.length ≤ 100000) (a : Option Addr) (c : Nat) (B w : World) (I : Im) (hr : RS I a 1 l.length (l.map F64)) (As : List Assn) (hS : Sat B w I As) :
    Calls Try.prog 12 [.slice a l.length c].toArray w (Ret fun v w' => ∃ D va vc, v = .slice va l.length vc ∧ Srt.Ord (kx l) l.length D ∧ Sat B w' I (Vec 3 1 (.slice va l.length vc) l.length (D.map I64) :: As)) := by
  refine calls Try.func12 rfl Try.ntmps12 rfl ?_
  refine WC.seq ?_
  refine WC.region ?_
  refine WL.box1 hS (.of rfl) rfl rfl ?_
  clear hS; intro b1 w hS
  refine WL.val (.assign (.of rfl)) rfl ?_
  refine WL.nil ?_
  refine WC.seq ?_
  refine WC.region ?_
  refine WL.val (.assign (.of rfl)) rfl ?_
  refine WL.nil ?_
  refine WC.seq ?_
  refine WC.seq ?_
  refine WC.region ?_
  first | refine WL.val (.ld (.of rfl) hS (k := 0) rfl Try.isAgg24 rfl) rfl ?_
  refine WL.val (.lenSlice (.of rfl) Try.underlying24) rfl ?_
  refine WL.val (.move (.of rfl)) rfl ?_
  refine WL.nil ?_
  refine WC.block ?_
  replace hS := hS.vecNil 3 1
  refine WC.loop (σ := Nat × Option Addr × Nat) (fun ⟨k, va, vc⟩ => [(1, ptr b1 0), (3, .slice va k vc), (6, I64 l.length), (7, I64 (k : Nat))]) (fun ⟨k, va, vc⟩ w => k ≤ l.length ∧ Sat B w I (Vec 3 1 (.slice va k vc) k ((Srt.upto k).map I64) :: blk b1 [.slice a l.length c] 24 :: As)) (fun ⟨k, va, vc⟩ => l.length - k) (0, none, 0) ⟨rfl, rfl, rfl, rfl, trivial⟩ ⟨Nat.zero_le _, hS⟩ ?_
  rintro ⟨k, va, vc⟩ w ⟨hk, hS⟩
  change WC _ _ _ _ [(1, ptr b1 0), (3, .slice va k vc), (6, I64 l.length), (7, I64 (k : Nat))] w
  refine WC.seq ?_
  refine WC.region ?_
  refine WL.val (.lss (.of rfl) (.of rfl)) rfl ?_
  refine WL.nil ?_
  refine WC.seq ?_
  refine WC.cond rfl (fun hb8 => ?_) (fun hb8 => ?_)
  ·
    have hc8 := hb8; try simp only [decide_eq_true_eq, decide_eq_false_iff_not, beq_iff_eq, beq_eq_false_iff_ne, bne_iff_ne, Bool.not_eq_true', Bool.not_eq_false', Bool.or_eq_true, Bool.and_eq_true, Bool.or_eq_false_iff, Bool.and_eq_false_iff, ne_eq, Int.not_lt, Int.not_le, bne_eq_false_iff_eq, Bool.not_eq_true, Bool.not_eq_false] at hc8
    refine WC.skip ?_
    refine WC.seq ?_
    refine WC.block ?_
    refine WC.seq ?_
    refine WC.region ?_
    refine WL.val (.move (.of rfl)) rfl ?_
    refine WL.val (.assign (.of rfl)) rfl ?_
    refine WL.nil ?_
    refine WC.region ?_
    refine WL.val (.move (.of rfl)) rfl ?_
    refine WL.val (.move (.of rfl)) rfl ?_
    refine WL.buildSlice (cs := [_]) hS (parts_cons (.of rfl) parts_nil) Try.underlying28 Try.sizeOf3 Try.zeroValue3 rfl rfl rfl rfl ?_
    clear hS; intro b12 w hS
    first | refine WL.append (size := 1) (bytes := 8) hS (.of rfl) (.of rfl) (k := 0) rfl Try.underlying28 Try.type3 rfl rfl rfl rfl rfl rfl rfl ⟨by omega, by unfold maxLen; omega⟩ rfl ?_ | refine WL.append (size := 1) (bytes := 8) hS (.of rfl) (.of rfl) (k := 1) rfl Try.underlying28 Try.type3 rfl rfl rfl rfl rfl rfl rfl ⟨by omega, by unfold maxLen; omega⟩ rfl ?_
    clear hS; intro v13 w hS; try dsimp only [List.set] at hS
    first | obtain ⟨a13, c13, rfl, hcap13, _⟩ := hS.vecSlice (k := 0) (v := v13) rfl | obtain ⟨a13, c13, rfl, hcap13, _⟩ := hS.vecSlice (k := 1) (v := v13) rfl
    refine WL.val (.assign (.of rfl)) rfl ?_
    refine WL.nil ?_
    refine WC.region ?_
    refine WL.val (.add (.of rfl) (.of rfl) ⟨by omega, by omega⟩) rfl ?_
    refine WL.val (.move (.of rfl)) rfl ?_
    refine WL.nil ?_
    refine ⟨(k + 1, a13, c13), ⟨rfl, rfl, rfl, rfl, trivial⟩, ⟨by (try dsimp only); omega, ?_⟩, by (try dsimp only); omega⟩
    rw [Srt.upto, List.map_append]; exact hS
  ·
    have hc8 := hb8; try simp only [decide_eq_true_eq, decide_eq_false_iff_not, beq_iff_eq, beq_eq_false_iff_ne, bne_iff_ne, Bool.not_eq_true', Bool.not_eq_false', Bool.or_eq_true, Bool.and_eq_true, Bool.or_eq_false_iff, Bool.and_eq_false_iff, ne_eq, Int.not_lt, Int.not_le, bne_eq_false_iff_eq, Bool.not_eq_true, Bool.not_eq_false] at hc8
    refine WC.exit ?_
    refine WC.seq ?_
    refine WC.region ?_
    refine WL.val (.move (.of rfl)) rfl ?_
    refine WL.val (.makeFunc (evs_cons (.of rfl) evs_nil)) rfl ?_
    obtain rfl : k = l.length := by omega
    obtain ⟨J, hJ, hJb, hT⟩ := hS.freeze (k := 1) rfl; clear hS; have hS := hT; clear hT; try dsimp only [List.eraseIdx] at hS
    have hcx : Cx J l (ad b1 0) := ⟨⟨a, c, ⟨rfl, _, _, _, hJb, fun j v h => by simpa using h⟩, hr.mono hJ⟩, small⟩
    refine WL.call Try.func24 rfl (evs_cons (.of rfl) (evs_cons (.of rfl) evs_nil)) rfl (sort_vec hcx _ l.length rfl (by omega) B w As hS) ?_
    clear hS
    rintro _ w ⟨rfl, D, hD, hS⟩
    refine WL.nil ?_
    refine WC.seq ?_
    refine WC.region ?_
    refine WL.val (.move (.of rfl)) rfl ?_
    refine WL.val (.assign (.of rfl)) rfl ?_
    refine WL.nil ?_
    refine WC.ret ?_
    refine ret1 Try.results12 rfl ?_
    exact ⟨_, rfl, D, va, vc, rfl, hD, hS.weaken hJ⟩
end Go.Proofs.Ytfmdhpgfbojjaaa
