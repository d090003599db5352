/- Part 4 of what the proof stands on: W16f, W18l, W18m, W18n, W17c, PatN, W17d, PatT, PatU, PatV, PatW, PatX, PatY, PatR, PatQ, PatL, W18o, W18q, W18r, W21c, W21d. -/
import Derived.Test.YtadhiihnnkcagaaGreatDoorM2PC
import Derived.DataElems
import Derived.Lib.LazyBuf
namespace Go.Proofs.YtadhiihnnkcagaaGreatDoor
open Gk Rk
set_option linter.unusedVariables false
set_option linter.unusedSimpArgs false
theorem info3_199 : Tryz.prog.info? 3 = some Tryz.t3 := by kernel_rfl
set_option maxHeartbeats 400000 in
theorem stable_any {l : List Nat} {p : Addr} {I : Im} (hx : Cx I l p) (b0 n c : Nat) (r : List Value) (hn : l.length = n) (hb : n ≤ 100000) (B w : World) (As : List Assn) (hS : Sat B w I (blk b0 ((Srt.upto n).map I64 ++ r) 3 :: As)) :
  Calls Tryz.prog 199 [.slice (some (ad b0 0)) n c, I64 n, CF p].toArray w (Ret fun v w' => v = .tuple #[] ∧ ∃ D, Srt.Ord (kx l) n D ∧ Sat B w' I (blk b0 ((D).map I64 ++ r) 3 :: As)) := by
 refine calls Tryz.func199 rfl Tryz.ntmps199 rfl (.seq (.region (.run 1 rfl trivial (.nil (.seq (.region (.run 3 rfl trivial (.nil (.seq (.block (.loop (σ := Int × Int × List Int × List Int) (fun ⟨a, b, M, R⟩ => [(0, .slice (some (ad b0 0)) n c), (1, I64 n), (2, CF p), (6, I64 20), (7, I64 a), (8, I64 b)]) (fun ⟨a, b, M, R⟩ w => a = M.length ∧ b = a + 20 ∧ Srt.Full (kx l) 20 M ∧ Srt.cross M R ∧ R.Pairwise (· < ·) ∧ (M ++ R).Perm (Srt.upto n) ∧ Sat B w I (blk b0 ((M ++ R).map I64 ++ r) 3 :: As)) (fun ⟨a, b, M, R⟩ => R.length) (0, 20, [], Srt.upto n) ⟨rfl, rfl, rfl, rfl, rfl, rfl, trivial⟩ ⟨rfl, rfl, .nil, (fun _ h => by cases h), Srt.upto_lt n, .refl _, hS⟩ ?_)))))))))))
 rintro ⟨a, b, M, R⟩ w ⟨ha, hb2, hF, hc, hR, hP, hS⟩
 change WC _ _ _ _ [(0, .slice (some (ad b0 0)) n c), (1, I64 n), (2, CF p), (6, I64 20), (7, I64 a), (8, I64 b)] w
 have hPl := hP.length_eq
 rw [List.length_append, Srt.upto_len] at hPl
 have hin : ∀ x ∈ R, 0 ≤ x ∧ x < (l.length : Int) := fun x hx => by rw [hn]; exact Srt.upto_mem.1 (hP.mem_iff.1 (List.mem_append_right _ hx))
 refine .seq (.seq (.region (.run 3 rfl trivial (.nil ?_))))
 refine WC.cond rfl (fun hb13 => ?_) (fun hb13 => ?_)
 ·
  have hc13 := hb13; try simp only [Gk.cs0] at hc13
  refine .skip (.block (.seq (.region (.run 4 rfl trivial ?_))))
  have hTD : R.take 20 ++ R.drop 20 = R := List.take_append_drop 20 R
  rw [← hTD] at hS
  refine WL.call Tryz.func218 rfl (evs_cons (.of rfl) (evs_cons (.of rfl) (evs_cons (.of rfl) (evs_cons (.of rfl) evs_nil)))) rfl (ins_at hx M (R.take 20) (R.drop 20) (hR.sublist (List.take_sublist 20 R)) (fun x h => hin x (List.mem_of_mem_take h)) b0 n c r _ b (by omega) (by rw [List.length_take]; omega) (by omega) (by rw [List.length_take, List.length_drop]; omega) B w As hS) ?_
  clear hS
  rintro _ w ⟨rfl, M2, hM2, hMs, hS⟩
  refine .nil (.seq (.region (.run 2 rfl trivial (.nil (.region (.run 4 rfl ⟨⟨by omega, by omega⟩, trivial⟩ (.nil ?_)))))))
  refine ⟨(b, b + 20, M ++ M2, R.drop 20), ⟨rfl, rfl, rfl, rfl, rfl, rfl, trivial⟩, ⟨by have h1 := hM2.length_eq; rw [List.length_take] at h1; (try dsimp only); rw [List.length_append]; omega, rfl, ?_, ?_, hR.sublist (List.drop_sublist 20 R), ?_, ?_⟩, by (try dsimp only); rw [List.length_drop]; omega⟩
  ·exact hF.append (.one (by rw [hM2.length_eq, List.length_take]; omega) hMs) (Srt.cross_permr (Srt.cross_sub hc (fun _ h => h) (fun _ h => List.mem_of_mem_take h)) hM2)
  ·refine Srt.cross_app (Srt.cross_sub hc (fun _ h => h) (fun _ h => List.mem_of_mem_drop h)) (Srt.cross_perm ?_ hM2)
   intro u hu t ht
   rw [← List.take_append_drop 20 R] at hR
   exact (List.pairwise_append.1 hR).2.2 u hu t ht
  ·rw [List.append_assoc]
   refine List.Perm.trans (List.Perm.append_left M (hM2.append_right _)) ?_
   rw [List.take_append_drop]; exact hP
  ·rw [List.append_assoc]; exact hS
 have hc13 := hb13; try simp only [Gk.cs0] at hc13
 refine .exit (.seq (.region (.run 4 rfl trivial ?_)))
 replace hS : Sat B w I (blk b0 ((M ++ (R ++ [])).map I64 ++ r) 3 :: As) := by simpa using hS
 refine WL.call Tryz.func218 rfl (evs_cons (.of rfl) (evs_cons (.of rfl) (evs_cons (.of rfl) (evs_cons (.of rfl) evs_nil)))) rfl (ins_at hx M R [] hR hin b0 n c r _ n (by omega) (by omega) (by omega) (by simp only [List.length_nil]; omega) B w As hS) ?_
 clear hS
 rintro _ w ⟨rfl, M2, hM2, hMs, hS⟩
 refine .nil (.block ?_)
 refine WC.loop (σ := Int × List Int) (fun ⟨s, D⟩ => [(0, .slice (some (ad b0 0)) n c), (1, I64 n), (2, CF p), (6, I64 s)]) (fun ⟨s, D⟩ w => 20 ≤ s ∧ s ≤ 1000000 ∧ Srt.Runs (kx l) s.toNat D ∧ D.Perm (Srt.upto n) ∧ Sat B w I (blk b0 ((D).map I64 ++ r) 3 :: As)) (fun ⟨s, D⟩ => (n - s : Int).toNat) (20, M ++ M2) ⟨rfl, rfl, rfl, rfl, trivial⟩ ⟨by decide, by decide, ⟨M, M2, rfl, hF, by rw [hM2.length_eq]; omega, hMs, Srt.cross_permr hc hM2⟩, (List.Perm.append_left M hM2).trans hP, by simpa using hS⟩ ?_
 rintro ⟨s, D⟩ w ⟨hs20, hsb, hRu, hP, hS⟩
 change WC _ _ _ _ [(0, .slice (some (ad b0 0)) n c), (1, I64 n), (2, CF p), (6, I64 s)] w
 have hDl := hP.length_eq
 rw [Srt.upto_len] at hDl
 refine .seq (.seq (.region (.run 3 rfl trivial (.nil ?_))))
 refine WC.cond rfl (fun hb30 => ?_) (fun hb30 => ?_)
 ·
  have hc30 := hb30; try simp only [Gk.cs0] at hc30
  refine .skip (.block (.seq (.region (.run 4 rfl ⟨⟨by omega, by omega⟩, trivial⟩ (.nil (.seq (.block ?_)))))))
  obtain ⟨E0, U0, rfl, hE0, hU0, hU0s, hEU⟩ := hRu
  refine WC.loop (σ := Int × Int × List Int × List Int) (fun ⟨a, b, Md, E⟩ => [(0, .slice (some (ad b0 0)) n c), (1, I64 n), (2, CF p), (6, I64 s), (7, I64 a), (8, I64 b)]) (fun ⟨a, b, Md, E⟩ w => a = Md.length ∧ b = a + 2 * s ∧ Srt.Full (kx l) (2 * s).toNat Md ∧ Srt.Full (kx l) s.toNat E ∧ Srt.cross E U0 ∧ Srt.cross Md (E ++ U0) ∧ (Md ++ (E ++ U0)).Perm (Srt.upto n) ∧ Sat B w I (blk b0 ((Md ++ (E ++ U0)).map I64 ++ r) 3 :: As)) (fun ⟨a, b, Md, E⟩ => E.length) (0, 2 * s, [], E0) ⟨rfl, rfl, rfl, rfl, rfl, rfl, trivial⟩ ⟨rfl, by (try dsimp only); omega, .nil, hE0, hEU, (fun _ h => by cases h), hP, hS⟩ ?_
  rintro ⟨a, b, Md, E⟩ w ⟨ha, hb2, hMd, hE, hEU, hc, hP, hS⟩
  change WC _ _ _ _ [(0, .slice (some (ad b0 0)) n c), (1, I64 n), (2, CF p), (6, I64 s), (7, I64 a), (8, I64 b)] w
  have hPl := hP.length_eq
  rw [List.length_append, List.length_append, Srt.upto_len] at hPl
  have hin : ∀ x ∈ E ++ U0, 0 ≤ x ∧ x < (l.length : Int) := fun x hx => by rw [hn]; exact Srt.upto_mem.1 (hP.mem_iff.1 (List.mem_append_right _ hx))
  refine .seq (.seq (.region (.run 3 rfl trivial (.nil ?_))))
  refine WC.cond rfl (fun hb35 => ?_) (fun hb35 => ?_)
  ·
   have hc35 := hb35; try simp only [Gk.cs0] at hc35
   refine .skip (.block (.seq (.region (.run 7 rfl ⟨⟨by omega, by omega⟩, trivial⟩ ?_))))
   obtain ⟨U, V, T, rfl, hUl, hVl, hUs, hVs, hUV, hUT, hVT, hT⟩ := hE.two (by omega)
   simp only [List.length_append] at hPl
   have hTU : Srt.cross T U0 := Srt.cross_sub hEU (fun _ h => by simp [h]) (fun _ h => h)
   rw [show Md ++ ((U ++ (V ++ T)) ++ U0) = Md ++ (U ++ (V ++ (T ++ U0))) by simp only [List.append_assoc]] at hS
   refine WL.call Tryz.func219 rfl (evs_cons (.of rfl) (evs_cons (.of rfl) (evs_cons (.of rfl) (evs_cons (.of rfl) (evs_cons (.of rfl) evs_nil))))) rfl (sym_any hx _ Md U V (T ++ U0) hUs hVs hUV (fun x h => hin x (by rcases List.mem_append.1 h with h | h <;> simp [h])) (by omega) (by omega) (Nat.le_refl _) b0 n c r _ _ _ (by omega) (by omega) (by omega) (by omega) (by simp only [List.length_append]; omega) B w As hS) ?_
   clear hS
   rintro _ w ⟨rfl, M3, hM3, hMs3, hS⟩
   refine .nil (.seq (.region (.run 2 rfl trivial (.nil (.region (.run 5 rfl ⟨⟨by omega, by omega⟩, ⟨by omega, by omega⟩, trivial⟩ (.nil ?_)))))))
   refine ⟨(b, b + 2 * s, Md ++ M3, T), ⟨rfl, rfl, rfl, rfl, rfl, rfl, trivial⟩, ⟨by (try dsimp only); rw [List.length_append, hM3.length_eq, List.length_append]; omega, rfl, ?_, hT, hTU, ?_, ?_, ?_⟩, by (try dsimp only); simp only [List.length_append]; omega⟩
   ·exact hMd.append (.one (by rw [hM3.length_eq, List.length_append]; omega) hMs3) (Srt.cross_permr (Srt.cross_sub hc (fun _ h => h) (fun x h => by rcases List.mem_append.1 h with h | h <;> simp [h])) hM3)
   ·refine Srt.cross_app (Srt.cross_sub hc (fun _ h => h) (fun x h => by rcases List.mem_append.1 h with h | h <;> simp [h])) (Srt.cross_perm ?_ hM3)
    exact Srt.cross_app (Srt.cross_appr hUT (Srt.cross_sub hEU (fun _ h => List.mem_append_left _ h) (fun _ h => h))) (Srt.cross_appr hVT (Srt.cross_sub hEU (fun _ h => by simp [h]) (fun _ h => h)))
   ·refine List.Perm.trans ?_ hP
    simp only [List.append_assoc]
    refine List.Perm.append_left Md ?_
    have := hM3.append_right (T ++ U0)
    simpa [List.append_assoc] using this
   ·rw [List.append_assoc]; exact hS
  have hc35 := hb35; try simp only [Gk.cs0] at hc35
  refine .exit (.seq (.seq (.region (.run 4 rfl ⟨⟨by omega, by omega⟩, trivial⟩ (.nil (.seq (.region (.run 3 rfl trivial (.nil ?_)))))))))
  refine WC.cond rfl (fun hb54 => ?_) (fun hb54 => ?_)
  ·
   have hc54 := hb54; try simp only [Gk.cs0] at hc54
   refine .region (.run 5 rfl trivial ?_)
   have hEf : E.length = s.toNat ∧ Srt.So (kx l) E := by
    rcases hE.few (by omega) with h | h
    ·subst h; simp at hPl; omega
    ·exact h
   replace hS : Sat B w I (blk b0 ((Md ++ (E ++ (U0 ++ []))).map I64 ++ r) 3 :: As) := by simpa using hS
   refine WL.call Tryz.func219 rfl (evs_cons (.of rfl) (evs_cons (.of rfl) (evs_cons (.of rfl) (evs_cons (.of rfl) (evs_cons (.of rfl) evs_nil))))) rfl (sym_any hx _ Md E U0 [] hEf.2 hU0s hEU (fun x h => hin x h) (by omega) (by omega) (Nat.le_refl _) b0 n c r _ _ _ (by omega) (by omega) (by omega) (by omega) (by simp only [List.length_nil]; omega) B w As hS) ?_
   clear hS
   rintro _ w ⟨rfl, M3, hM3, hMs3, hS⟩
   refine .nil (.region (.run 3 rfl ⟨⟨by omega, by omega⟩, trivial⟩ (.nil ?_)))
   refine ⟨(s * 2, Md ++ M3), ⟨rfl, rfl, rfl, rfl, trivial⟩, ⟨by omega, by omega, ⟨Md, M3, rfl, by rw [show (s * 2).toNat = (2 * s).toNat by omega]; exact hMd, by rw [hM3.length_eq, List.length_append]; omega, hMs3, Srt.cross_permr hc hM3⟩, ?_, by simpa using hS⟩, by (try dsimp only); omega⟩
   exact (List.Perm.append_left Md hM3).trans hP
  have hc54 := hb54; try simp only [Gk.cs0] at hc54
  refine .skip (.region (.run 3 rfl ⟨⟨by omega, by omega⟩, trivial⟩ (.nil ?_)))
  have hq : (E ++ U0).length < (s * 2).toNat ∧ Srt.So (kx l) (E ++ U0) := by
   rcases hE.few (by omega) with h | h
   ·subst h; simp only [List.nil_append]; exact ⟨by omega, hU0s⟩
   ·have hU00 : U0 = [] := List.eq_nil_of_length_eq_zero (by omega)
    subst hU00
    rw [List.append_nil]; exact ⟨by omega, h.2⟩
  refine ⟨(s * 2, Md ++ (E ++ U0)), ⟨rfl, rfl, rfl, rfl, trivial⟩, ⟨by omega, by omega, ⟨Md, E ++ U0, rfl, by rw [show (s * 2).toNat = (2 * s).toNat by omega]; exact hMd, hq.1, hq.2, hc⟩, hP, hS⟩, by (try dsimp only); omega⟩
 have hc30 := hb30; try simp only [Gk.cs0] at hc30
 refine .exit (end0 Tryz.results199 ?_)
 refine ⟨_, rfl, rfl, D, ⟨hRu.sorted (by omega) (by omega), hP⟩, hS⟩
theorem ins_nil (cv : Value) (w : World) :
  Calls Tryz.prog 218 [.slice none 0 0, I64 0, I64 0, cv].toArray w (Ret fun v w' => v = .tuple #[] ∧ w = w') := by
 obtain ⟨w0, hw0⟩ : ∃ w0, w = w0 := ⟨_, rfl⟩
 rw [show (fun (v : Value) (w' : World) => v = .tuple #[] ∧ w = w') = (fun v w' => v = .tuple #[] ∧ w0 = w') by rw [hw0]]
 refine calls Tryz.func218 rfl Tryz.ntmps218 rfl (.seq (.region (.run 3 rfl ⟨⟨by omega, by omega⟩, trivial⟩ (.nil (.block (.loop (σ := Unit) (fun _ => [(2, I64 0), (8, I64 1)]) (fun _ w => w = w0) (fun _ => 0) () ⟨rfl, rfl, trivial⟩ hw0 ?_))))))
 rintro _ w hw
 change WC _ _ _ _ [(2, I64 0), (8, I64 1)] w
 refine .seq (.seq (.region (.run 3 rfl trivial (.nil (.condF (rfl) (.exit (end0 Tryz.results218 ?_)))))))
 exact ⟨_, rfl, rfl, hw.symm⟩
theorem stable_nil (cv : Value) (w : World) :
  Calls Tryz.prog 199 [.slice none 0 0, I64 0, cv].toArray w (Ret fun v w' => v = .tuple #[] ∧ w = w') := by
 obtain ⟨w0, hw0⟩ : ∃ w0, w = w0 := ⟨_, rfl⟩
 rw [show (fun (v : Value) (w' : World) => v = .tuple #[] ∧ w = w') = (fun v w' => v = .tuple #[] ∧ w0 = w') by rw [hw0]]
 refine calls Tryz.func199 rfl Tryz.ntmps199 rfl (.seq (.region (.run 1 rfl trivial (.nil (.seq (.region (.run 3 rfl trivial (.nil (.seq (.block (.loop (σ := Unit) (fun _ => [(0, .slice none 0 0), (1, I64 0), (2, cv), (6, I64 20), (7, I64 0), (8, I64 20)]) (fun _ w => w = w0) (fun _ => 0) () ⟨rfl, rfl, rfl, rfl, rfl, rfl, trivial⟩ hw0 ?_)))))))))))
 rintro _ w hw
 change WC _ _ _ _ [(0, .slice none 0 0), (1, I64 0), (2, cv), (6, I64 20), (7, I64 0), (8, I64 20)] w
 refine .seq (.seq (.region (.run 3 rfl trivial (.nil (.condF (rfl) (.exit (.seq (.region (.run 4 rfl trivial (.call Tryz.func218 rfl (evs_cons (.of rfl) (evs_cons (.of rfl) (evs_cons (.of rfl) (evs_cons (.of rfl) evs_nil)))) rfl (ins_nil _ _) ?_))))))))))
 rintro _ _ ⟨rfl, rfl⟩
 refine .nil (.block (.loop (σ := Unit) (fun _ => [(1, I64 0), (6, I64 20)]) (fun _ w => w = w0) (fun _ => 0) () ⟨rfl, rfl, trivial⟩ hw ?_))
 rintro _ w hw
 change WC _ _ _ _ [(1, I64 0), (6, I64 20)] w
 refine .seq (.seq (.region (.run 3 rfl trivial (.nil (.condF (rfl) (.exit (end0 Tryz.results199 ?_)))))))
 exact ⟨_, rfl, rfl, hw.symm⟩
theorem sort_nil (cv : Value) (w : World) :
  Calls Tryz.prog 170 [.slice none 0 0, cv].toArray w (Ret fun v w' => v = .tuple #[] ∧ w = w') := by
 refine calls Tryz.func170 rfl Tryz.ntmps170 rfl (.region (.run 4 rfl ⟨⟨_, Tryz.underlying195⟩, trivial⟩ (.call Tryz.func199 rfl (evs_cons (.of rfl) (evs_cons (.of rfl) (evs_cons (.of rfl) evs_nil))) rfl (stable_nil _ _) ?_)))
 rintro _ _ ⟨rfl, rfl⟩
 refine .nil (end0 Tryz.results170 ?_)
 exact ⟨_, rfl, rfl, rfl⟩
theorem sort_blk {l : List Nat} {p : Addr} {I : Im} (hx : Cx I l p) (b0 n c : Nat) (r : List Value) (hn : l.length = n) (hb : n ≤ 100000) (B w : World) (As : List Assn) (hS : Sat B w I (blk b0 ((Srt.upto n).map I64 ++ r) 3 :: As)) :
  Calls Tryz.prog 170 [.slice (some (ad b0 0)) n c, CF p].toArray w (Ret fun v w' => v = .tuple #[] ∧ ∃ D, Srt.Ord (kx l) n D ∧ Sat B w' I (blk b0 ((D).map I64 ++ r) 3 :: As)) := by
 refine calls Tryz.func170 rfl Tryz.ntmps170 rfl (.region (.run 4 rfl ⟨⟨_, Tryz.underlying195⟩, trivial⟩ (.call Tryz.func199 rfl (evs_cons (.of rfl) (evs_cons (.of rfl) (evs_cons (.of rfl) evs_nil))) rfl (stable_any hx b0 n c r hn hb B w As hS) ?_)))
 clear hS
 rintro _ w ⟨rfl, D, hD, hS⟩
 refine .nil (end0 Tryz.results170 ?_)
 exact ⟨_, rfl, rfl, D, hD, hS⟩
theorem sort_vec {l : List Nat} {p : Addr} {I : Im} (hx : Cx I l p) (u : Value) (n : Nat) (hn : l.length = n) (hb : n ≤ 100000) (B w : World) (As : List Assn) (hS : Sat B w I (Vec 3 1 u n ((Srt.upto n).map I64) :: As)) :
  Calls Tryz.prog 170 [u, CF p].toArray w (Ret fun v w' => v = .tuple #[] ∧ ∃ D, Srt.Ord (kx l) n D ∧ Sat B w' I (Vec 3 1 u n ((D).map I64) :: As)) := by
 rcases Nat.eq_zero_or_pos n with h0 | h0
 ·subst h0
  have hcase : u = .slice none 0 0 ∨ ∃ b0 c r, u = .slice (some (ad b0 0)) 0 c ∧ c ≤ maxLen ∧ r.length = c ∧ Sat B w I (blk b0 (([] : List Int).map I64 ++ r) 3 :: As) := by
   obtain ⟨h, ⟨h1, h2, rfl, ⟨hl, ha⟩, hr⟩, hg⟩ := hS
   rcases ha with ⟨hv, _, _⟩ | ⟨b, cap, rest, rfl, rfl, h3, h4, h5⟩
   ·exact .inl hv
   ·exact .inr ⟨b, cap, rest, rfl, h4, by simp [Srt.upto] at h5; exact h5, _, ⟨_, h2, rfl, rfl, hr⟩, hg⟩
  rcases hcase with rfl | ⟨b0, c, r, rfl, hcm, hrl, hSo⟩
  ·refine (sort_nil (CF p) w).mono ?_
   rintro e w' ⟨v, rfl, rfl, rfl⟩
   exact ⟨_, rfl, rfl, [], ⟨.nil, .refl _⟩, hS⟩
  ·refine (sort_blk hx b0 0 c r hn (by decide) B w As hSo).mono ?_
   rintro e w' ⟨v, rfl, rfl, D, hD, hS'⟩
   have hD0 : D = [] := List.eq_nil_of_length_eq_zero hD.len
   subst hD0
   exact ⟨_, rfl, rfl, [], hD, hS'.vecShut (k := 0) (n := 0) (xs := []) (size := 1) (cap := c) (rest := r) rfl (Nat.zero_le _) hcm rfl (by simpa using hrl)⟩
 ·obtain ⟨b0, c, r, rfl, hnc, hcm, hxl, hxr, hSo⟩ := hS.vecOpen (k := 0) rfl h0
  refine (sort_blk hx b0 n c r hn hb B w As hSo).mono ?_
  rintro e w' ⟨v, rfl, rfl, D, hD, hS'⟩
  refine ⟨_, rfl, rfl, D, hD, hS'.vecShut (k := 0) (n := n) (xs := D.map I64) (size := 1) (cap := c) (rest := r) rfl hnc hcm (by rw [List.length_map, hD.len]; omega) ?_⟩
  rw [List.length_map, hD.len]
  rw [hxl] at hxr
  omega
theorem Order_any (l : List Nat) (small : ∀ v ∈ l, v < 18446744073709551616) (hl : l.length ≤ 100000) (a : Option Addr) (c : Nat) (B w : World) (I : Im) (hr : RS I a 1 l.length (l.map F64)) (As : List Assn) (hS : Sat B w I As) :
  Calls Tryz.prog 131 [.slice a l.length c].toArray w (Ret fun v w' => ∃ D va vc, v = .slice va l.length vc ∧ Srt.Ord (kx l) l.length D ∧ Sat B w' I (Vec 3 1 (.slice va l.length vc) l.length (D.map I64) :: As)) := by
 refine calls Tryz.func131 rfl Tryz.ntmps131 rfl (.seq (.region (.box1 hS (.of rfl) rfl rfl ?_)))
 clear hS; intro b1 w hS
 refine .run 1 rfl trivial (.nil (.seq (.region (.run 1 rfl trivial (.nil (.seq (.seq (.region (.val (.ld (.of rfl) hS (k := 0) rfl Tryz.isAgg192 rfl) rfl (.run 2 rfl ⟨⟨_, Tryz.underlying192⟩, trivial⟩ (.nil (.block ?_))))))))))))
 replace hS := hS.vecNil 3 1
 refine .loop (σ := Nat × Option Addr × Nat) (fun ⟨k, va, vc⟩ => [(1, ptr b1 0), (3, .slice va k vc), (6, I64 l.length), (7, I64 (k : Nat))]) (fun ⟨k, va, vc⟩ w => k ≤ l.length ∧ Sat B w I (Vec 3 1 (.slice va k vc) k ((Srt.upto k).map I64) :: blk b1 [.slice a l.length c] 192 :: As)) (fun ⟨k, va, vc⟩ => l.length - k) (0, none, 0) ⟨rfl, rfl, rfl, rfl, trivial⟩ ⟨Nat.zero_le _, hS⟩ ?_
 rintro ⟨k, va, vc⟩ w ⟨hk, hS⟩
 change WC _ _ _ _ [(1, ptr b1 0), (3, .slice va k vc), (6, I64 l.length), (7, I64 (k : Nat))] w
 refine .seq (.region (.run 1 rfl trivial (.nil (.seq ?_))))
 refine WC.cond rfl (fun hb8 => ?_) (fun hb8 => ?_)
 ·
  have hc8 := hb8; try simp only [Gk.cs0] at hc8
  refine .skip (.seq (.block (.seq (.region (.run 2 rfl trivial (.nil (.region (.run 2 rfl trivial (.buildSlice (cs := [_]) hS (parts_cons (.of rfl) parts_nil) Tryz.underlying195 Tryz.sizeOf3 Tryz.zeroValue3 rfl rfl rfl rfl ?_)))))))))
  clear hS; intro b12 w hS
  refine WL.append (size := 1) (bytes := 8) hS (.of rfl) (.of rfl) (k := 0) rfl Tryz.underlying195 info3_199 rfl rfl rfl rfl rfl rfl rfl ⟨by omega, by unfold maxLen; omega⟩ rfl ?_
  clear hS; intro v13 w hS; try dsimp only [List.set] at hS
  obtain ⟨a13, c13, rfl, hcap13, _⟩ := hS.vecSlice (k := 0) (v := v13) rfl
  refine .run 1 rfl trivial (.nil (.region (.run 2 rfl ⟨⟨by omega, by omega⟩, trivial⟩ (.nil ?_))))
  refine ⟨(k + 1, a13, c13), ⟨rfl, rfl, rfl, rfl, trivial⟩, ⟨by (try dsimp only); omega, ?_⟩, by (try dsimp only); omega⟩
  rw [Srt.upto, List.map_append]; exact hS
 have hc8 := hb8; try simp only [Gk.cs0] at hc8
 refine .exit (.seq (.region (.run 1 rfl trivial (.val (.makeFunc (evs_cons (.of rfl) evs_nil)) rfl ?_))))
 obtain rfl : k = l.length := by omega
 obtain ⟨J, hJ, hJb, hT⟩ := hS.freeze (k := 1) rfl; clear hS; have hS := hT; clear hT; try dsimp only [List.eraseIdx] at hS
 have hcx : Cx J l (ad b1 0) := ⟨⟨a, c, ⟨rfl, _, _, _, hJb, fun j v h => by simpa using h⟩, hr.mono hJ⟩, small⟩
 refine .call Tryz.func170 rfl (evs_cons (.of rfl) (evs_cons (.of rfl) evs_nil)) rfl (sort_vec hcx _ l.length rfl (by omega) B w As hS) ?_
 clear hS
 rintro _ w ⟨rfl, D, hD, hS⟩
 refine .nil (.seq (.region (.run 2 rfl trivial (.nil (.ret (ret1 Tryz.results131 rfl ?_))))))
 exact ⟨_, rfl, D, va, vc, rfl, hD, hS.weaken hJ⟩
end Go.Proofs.YtadhiihnnkcagaaGreatDoor
namespace Go.Proofs.YtadhiihnnkcagaaGreatDoor
open Gk
set_option linter.unusedVariables false
set_option linter.unusedSimpArgs false
def few1 (s : Sv) : Bool := !((decide (100 < (s.urls.length : Int)) && decide ((s.urls.length : Int) ≤ 200) || decide (100 < (s.calls.length : Int)) && decide ((s.calls.length : Int) ≤ 200)) || decide (20 < (s.rel.length : Int)))
def few (l : List Sv) : Bool := l.all few1 && decide ((l.length : Int) ≤ 20)
theorem Few_any (a : Option Addr) (cap : Nat) (l : List Sv) (hcap : l.length ≤ cap) (hcm : cap ≤ maxLen) (B w : World) (I : Im) (hl : SvsAt I a l) (As : List Assn) (hS : Sat B w I As) :
  Calls Tryz.prog 107 [.slice a l.length cap].toArray w (Ret fun v w' => v = .bool (few l) ∧ Sat B w' I As) := by
 unfold maxLen at hcm
 refine calls Tryz.func107 rfl Tryz.ntmps107 rfl (.seq (.region (.run 1 rfl trivial (.nil (.seq (.seq (.region (.run 1 rfl trivial (.nil (.block (.loop (σ := Nat) (fun i => [(0, .slice a l.length cap), (3, I64 (i : Nat))]) (fun i w => i ≤ l.length ∧ (∀ (j : Nat) (s : Sv), j < i → l[j]? = some s → few1 s = true) ∧ Sat B w I As) (fun i => l.length - i) 0 ⟨rfl, rfl, trivial⟩ ⟨Nat.zero_le _, fun _ _ h => absurd h (by omega), hS⟩ ?_)))))))))))
 rintro i w ⟨hi, hok, hS⟩
 change WC _ _ _ _ [(0, .slice a l.length cap), (3, I64 (i : Nat))] w
 refine .seq (.seq (.region (.run 4 rfl ⟨⟨_, Tryz.underlying27⟩, trivial⟩ (.nil ?_))))
 refine WC.cond rfl (fun hb7 => ?_) (fun hb7 => ?_)
 ·
  have hc7 := hb7; try simp only [Gk.cs0] at hc7
  refine .skip (.seq (.block (.seq ?_)))
  obtain ⟨s, hs⟩ : ∃ s, l[i]? = some s := ⟨_, List.getElem?_eq_getElem (by omega)⟩
  obtain ⟨p, ra, rc, rfl, hx, hrc, hr⟩ := hl i s hs
  unfold svCells at hx
  refine .region (.run 2 rfl trivial (.val (.indexAddrI (.of rfl) (.of rfl) (by omega) (by omega) Tryz.underlying27 Tryz.sizeOf101) rfl (.val (.fieldAddrI 2 (.of rfl) Tryz.underlying101 rfl rfl Tryz.sizeOf9 rfl) rfl (.val (.ldI (.of rfl) hS (At.add hx _) Tryz.isAgg9 rfl) rfl (.run 3 rfl ⟨Tryz.underlying9, trivial⟩ (.gval rfl rfl (fun hg1 => (.move (.of rfl))) rfl (.gval rfl rfl (fun hg1 => (.move (.of rfl))) rfl ?_)))))))
  refine WL.gval rfl rfl (fun hg1 => (.indexAddrI (.gd hg1 rfl) (.gd hg1 rfl) (by (try simp only [Gk.cs0] at hg1); omega) (by (try simp only [Gk.cs0] at hg1); omega) Tryz.underlying27 Tryz.sizeOf101)) rfl ?_
  refine .gval rfl rfl (fun hg1 => (.fieldAddrI 2 (.gd hg1 rfl) Tryz.underlying101 rfl rfl Tryz.sizeOf9 rfl)) rfl (.gval rfl rfl (fun hg1 => (.ldI (.gd hg1 rfl) hS (At.add hx _) Tryz.isAgg9 rfl)) rfl (.gval rfl rfl (fun hg1 => (.len (.gd hg1 rfl) Tryz.underlying9)) rfl (.gval rfl rfl (fun hg1 => (.leq (.gd hg1 rfl) (.of rfl))) rfl (.val (.pand (.of rfl) (.of rfl) (.of rfl)) rfl (.run 1 rfl trivial (.gval rfl rfl (fun hg1 => (.move (.of rfl))) rfl (.gval rfl rfl (fun hg1 => (.move (.of rfl))) rfl ?_)))))))
  refine WL.gval rfl rfl (fun hg1 => (.indexAddrI (.gd hg1 rfl) (.gd hg1 rfl) (by (try simp only [Gk.cs0] at hg1); omega) (by (try simp only [Gk.cs0] at hg1); omega) Tryz.underlying27 Tryz.sizeOf101)) rfl ?_
  refine .gval rfl rfl (fun hg1 => (.fieldAddrI 6 (.gd hg1 rfl) Tryz.underlying101 rfl rfl Tryz.sizeOf9 rfl)) rfl (.gval rfl rfl (fun hg1 => (.ldI (.gd hg1 rfl) hS (At.add hx _) Tryz.isAgg9 rfl)) rfl (.gval rfl rfl (fun hg1 => (.len (.gd hg1 rfl) Tryz.underlying9)) rfl (.gval rfl rfl (fun hg1 => (.gtr (.gd hg1 rfl) (.of rfl))) rfl (.gval rfl rfl (fun hg1 => (.move (.gd hg1 rfl))) rfl (.gval2 rfl rfl rfl (fun hg1 hg2 => (.move (.of rfl))) rfl (.gval2 rfl rfl rfl (fun hg1 hg2 => (.move (.of rfl))) rfl ?_))))))
  refine WL.gval2 rfl rfl rfl (fun hg1 hg2 => (.indexAddrI (.gd2 hg1 hg2 rfl) (.gd2 hg1 hg2 rfl) (by (try simp only [Gk.cs0] at hg1 hg2); omega) (by (try simp only [Gk.cs0] at hg1 hg2); omega) Tryz.underlying27 Tryz.sizeOf101)) rfl ?_
  refine .gval2 rfl rfl rfl (fun hg1 hg2 => (.fieldAddrI 6 (.gd2 hg1 hg2 rfl) Tryz.underlying101 rfl rfl Tryz.sizeOf9 rfl)) rfl (.gval2 rfl rfl rfl (fun hg1 hg2 => (.ldI (.gd2 hg1 hg2 rfl) hS (At.add hx _) Tryz.isAgg9 rfl)) rfl (.gval2 rfl rfl rfl (fun hg1 hg2 => (.len (.gd2 hg1 hg2 rfl) Tryz.underlying9)) rfl (.gval2 rfl rfl rfl (fun hg1 hg2 => (.leq (.gd2 hg1 hg2 rfl) (.of rfl))) rfl (.gval rfl rfl (fun hg1 => (.pand (.gd hg1 rfl) (.gd hg1 rfl) (.of rfl))) rfl (.val (.por (.of rfl) (.of rfl) (.of rfl)) rfl (.run 1 rfl trivial (.gval rfl rfl (fun hg1 => (.move (.of rfl))) rfl (.gval rfl rfl (fun hg1 => (.move (.of rfl))) rfl ?_))))))))
  refine WL.gval rfl rfl (fun hg1 => (.indexAddrI (.gd hg1 rfl) (.gd hg1 rfl) (by (try simp only [Gk.cs0] at hg1); omega) (by (try simp only [Gk.cs0] at hg1); omega) Tryz.underlying27 Tryz.sizeOf101)) rfl ?_
  refine .gval rfl rfl (fun hg1 => (.fieldAddrI 7 (.gd hg1 rfl) Tryz.underlying101 rfl rfl Tryz.sizeOf41 rfl)) rfl (.gval rfl rfl (fun hg1 => (.ldI (.gd hg1 rfl) hS (At.add hx _) Tryz.isAgg41 rfl)) rfl (.gval rfl rfl (fun hg1 => (.lenSlice (.gd hg1 rfl) Tryz.underlying41)) rfl (.gval rfl rfl (fun hg1 => (.gtr (.gd hg1 rfl) (.of rfl))) rfl (.val (.por (.of rfl) (.of rfl) (.of rfl)) rfl (.nil ?_)))))
  refine WC.cond rfl (fun hb52 => ?_) (fun hb52 => ?_)
  ·
   have hc52 := hb52; try simp only [Gk.cs0] at hc52
   refine .seq (.region (.run 1 rfl trivial (.nil (.ret (ret1 Tryz.results107 rfl ?_)))))
   refine ⟨_, rfl, ?_, hS⟩
   have : few l = false := by
    unfold few
    rw [show l.all few1 = false from List.all_eq_false.2 ⟨s, List.mem_of_getElem? hs, by unfold few1; rw [hb52]; decide⟩]
    rfl
   rw [this]
  have hc52 := hb52; try simp only [Gk.cs0] at hc52
  refine .skip (.region (.run 3 rfl ⟨⟨by omega, by omega⟩, trivial⟩ (.nil ?_)))
  refine ⟨i + 1, ⟨rfl, rfl, trivial⟩, ⟨by omega, fun j u hj hu => ?_, hS⟩, by omega⟩
  rcases Nat.lt_or_ge j i with h1 | h1
  ·exact hok j u h1 hu
  ·have e : j = i := by omega
   subst e
   rw [hs] at hu; cases hu
   unfold few1; rw [hb52]; rfl
 have hc7 := hb7; try simp only [Gk.cs0] at hc7
 refine .exit (.seq (.region (.run 4 rfl ⟨⟨_, Tryz.underlying27⟩, trivial⟩ (.nil (.ret (ret1 Tryz.results107 rfl ?_))))))
 refine ⟨_, rfl, ?_, hS⟩
 have : l.all few1 = true := List.all_eq_true.2 fun s hs => by
  obtain ⟨j, hj⟩ := List.mem_iff_getElem?.1 hs
  exact hok j s (by have := (List.getElem?_eq_some_iff.1 hj).1; omega) hj
 unfold few
 rw [this, Bool.true_and]
end Go.Proofs.YtadhiihnnkcagaaGreatDoor
namespace Go.Proofs.YtadhiihnnkcagaaGreatDoor
open Gk Pat
set_option linter.unusedVariables false
set_option linter.unusedSimpArgs false
def bad (l : List Sv) (i : Nat) (s : Sv) : Nat :=
 if i = 16 then 5 else if (decide (s.id < 0) || decide (8 < (s.rel.length : Int))) = true then 1 else if (l.take i).any (fun t => t.id == s.id) = true then 7
 else if (((Pat.chk s.urls).1 != 0) || ((Pat.chk s.calls).1 != 0)) = true then 8 else 0
def wrongGo (l : List Sv) : Nat → List Sv → Nat × Nat
 | _, [] => (0, 0)
 | i, s :: r => if bad l i s ≠ 0 then (bad l i s, i) else wrongGo l (i + 1) r
def wrong (l : List Sv) : Nat × Nat := wrongGo l 0 l
theorem wrongGo_skip (l : List Sv) : ∀ (n i : Nat) (r : List Sv), (∀ j s, j < n → r[j]? = some s → bad l (i + j) s = 0) → wrongGo l i r = wrongGo l (i + min n r.length) (r.drop n)
 | 0, i, r, _ => by simp
 | n + 1, i, [], _ => by simp [wrongGo]
 | n + 1, i, s :: r, h => by
  have h0 := h 0 s (by omega) rfl
  rw [Nat.add_zero] at h0
  rw [wrongGo, if_neg (by rw [h0]; decide), wrongGo_skip l n (i + 1) r (fun j t hj ht => by have := h (j + 1) t (by omega) (by simpa using ht); rw [show i + 1 + j = i + (j + 1) by omega]; exact this), List.drop_succ_cons, List.length_cons]
  congr 1
  omega
theorem wrong_hit {l : List Sv} {i : Nat} {s : Sv} (h : ∀ j t, j < i → l[j]? = some t → bad l j t = 0) (hs : l[i]? = some s) (hb : bad l i s ≠ 0) : wrong l = (bad l i s, i) := by
 have hi := (List.getElem?_eq_some_iff.1 hs).1
 unfold wrong
 rw [wrongGo_skip l i 0 l (fun j t hj ht => by rw [Nat.zero_add]; exact h j t hj ht), Nat.zero_add, Nat.min_eq_left (by omega), List.drop_eq_getElem_cons hi, (List.getElem?_eq_some_iff.1 hs).2, wrongGo, if_pos hb]
theorem wrong_none {l : List Sv} (h : ∀ j t, l[j]? = some t → bad l j t = 0) : wrong l = (0, 0) := by
 unfold wrong
 rw [wrongGo_skip l l.length 0 l (fun j t _ ht => by rw [Nat.zero_add]; exact h j t ht), List.drop_length]
 rfl
end Go.Proofs.YtadhiihnnkcagaaGreatDoor
namespace Go.Proofs.YtadhiihnnkcagaaGreatDoor
open Gk
set_option linter.unusedVariables false
set_option linter.unusedSimpArgs false
def SvsIn (I : Im) (a : Option Addr) (L : List (List Value)) (l : List Sv) : Prop := L.length = l.length ∧ ∀ (i : Nat) (s : Sv), l[i]? = some s → ∃ p c, a = some p ∧ L[i]? = some c ∧ At I (p.add (i * 8)) c ∧ SvAt I s c
theorem SvsIn.mono {I J : Im} {a : Option Addr} {L : List (List Value)} {l : List Sv} (h : SvsIn I a L l) (hl : Le I J) : SvsIn J a L l := ⟨h.1, fun i s hs => by
 obtain ⟨p, c, e, h0, h1, h2⟩ := h.2 i s hs
 exact ⟨p, c, e, h0, h1.mono hl, h2.mono hl⟩⟩
theorem SvsIn.svs {I : Im} {a : Option Addr} {L : List (List Value)} {l : List Sv} (h : SvsIn I a L l) : SvsAt I a l := fun i s hs => by
 obtain ⟨p, c, e, h0, h1, ra, rc, rfl, h2, h3⟩ := h.2 i s hs
 exact ⟨p, ra, rc, e, h1, h2, h3⟩
def pickR (L : List (List Value)) (D : List Int) : List (List Value) := D.map fun d => L.getD d.toNat []
def ords (l : List Sv) : List Nat := l.map Sv.ord
end Go.Proofs.YtadhiihnnkcagaaGreatDoor
namespace Go.Proofs.YtadhiihnnkcagaaGreatDoor
open Gk Pat
set_option linter.unusedVariables false
set_option linter.unusedSimpArgs false
theorem set_last (xs : List Value) (x y : Value) (r : List Value) : ((xs ++ [x]) ++ r).set (0 + (xs.length : Int).toNat * 1) y = (xs ++ [y]) ++ r := by
 rw [Int.toNat_natCast, Nat.zero_add, Nat.mul_one, List.append_assoc, List.set_append_right _ _ (Nat.le_refl _)]
 simp
theorem hasPre2 {l : List UInt8} {k : Nat} (h : hasPre (l.drop (k : Int).toNat) [42, 42] = true) (hk : k < l.length) : k + 1 < l.length := by
 simp [hasPre] at h
 omega
theorem hasPre2c {l : List UInt8} {k : Nat} (h : hasPre (l.drop (k : Int).toNat) [42, 42] = true) (hk : k + 1 < l.length) : (at_ l ((k + 1 : Nat) : Int)).toNat = 42 := by
 rw [Int.toNat_natCast, drop_at l (k := k) (by omega), drop_at l (k := k + 1) hk] at h
 simp [hasPre] at h
 rw [show ((k + 1 : Nat) : Int) = (k : Int) + 1 from rfl, h.2.2]; rfl
theorem star1 {l : List UInt8} {k : Nat} {Q : List Pl} {stk : List PFr} {ats : List Int} {X : Except (Int × Int) (List Pl)} (h : hasPre (l.drop (k : Int).toNat) [42, 42] = false) (hk : k < l.length ∧ (at_ l (k : Int)).toNat = 42)
  (e : (match l.drop (k + 1) with
   | d :: r' => if d.toNat = 42 then cmpGo r' ((k : Int) + 2) (Q ++ [(2, 0, [])]) stk ats else cmpGo (d :: r') ((k : Int) + 1) (Q ++ [(3, 0, [])]) stk ats
   | [] => cmpGo [] ((k : Int) + 1) (Q ++ [(3, 0, [])]) stk ats) = X) : cmpGo (l.drop (k + 1)) ((k : Int) + 1) (Q ++ [(3, 0, [])]) stk ats = X := by
 cases hd : l.drop (k + 1) with
 | nil => rw [hd] at e; exact e
 | cons d r =>
  rw [hd] at e
  have hne : ¬ d.toNat = 42 := fun h42 => by
   rw [Int.toNat_natCast, drop_at l (k := k) hk.1, hd] at h
   have h1 : at_ l (k : Int) = 42 := UInt8.toNat_inj.1 hk.2
   have h2 : d = 42 := UInt8.toNat_inj.1 h42
   rw [h1, h2] at h
   simp [hasPre] at h
   omega
  simp only [hne, if_false] at e
  exact e
theorem info3_169 : Tryz.prog.info? 3 = some Tryz.t3 := by kernel_rfl
theorem bld221_169 : Bld Tryz.prog 221 [(0, 1), (1, 1)] [.slice none 0 0, .int .i64 0] := bld_of Tryz.underlying221 Tryz.zeroValue221 (fun w => by simp [go_sem])
theorem bld248_169 : Bld Tryz.prog 248 [(0, 1), (1, 1), (2, 1)] [.slice none 0 0, .slice none 0 0, .slice none 0 0] := bld_of Tryz.underlying248 Tryz.zeroValue248 (fun w => by simp [go_sem])
set_option maxHeartbeats 1600000 in
theorem Compile_any (l : List UInt8) (B w : World) (I : Im) (As : List Assn) (hS : Sat B w I As) (hl : l.length ≤ 9223372036854775807) :
  Calls Tryz.prog 169 [S l].toArray w (Ret fun v w' => (∃ e a J, cmp l = .error (e, a) ∧ v = .tuple #[.pointer none, I64 e, I64 a] ∧ Le I J ∧ Sat B w' J As) ∨
   (∃ Q p J, cmp l = .ok Q ∧ v = .tuple #[.pointer (some p), I64 0, I64 0] ∧ Le I J ∧ PatI J p Q l.length ∧ Sat B w' J As)) := by
 refine calls Tryz.func169 rfl Tryz.ntmps169 rfl (.seq (.region (.run 3 rfl trivial (.nil (.seq (.seq (.region (.run 3 rfl ⟨Tryz.underlying9, trivial⟩ (.nil ?_)))))))))
 refine WC.cond rfl (fun hb12 => ?_) (fun hb12 => ?_)
 ·
  have hc12 := hb12; try simp only [Gk.cs0] at hc12
  refine .seq (.region (.run 3 rfl trivial (.nil (.ret (ret3 Tryz.results169 rfl rfl rfl ?_)))))
  exact ⟨_, rfl, .inl ⟨_, _, I, by rw [cmp, if_pos (by omega)], rfl, Le.refl I, hS⟩⟩
 have hc12 := hb12; try simp only [Gk.cs0] at hc12
 refine .skip (.seq (.region (.val (.build (cs := [_, _, _]) parts_nil bld248_169 rfl) rfl (.boxA (cs := [_, _, _]) hS (.of rfl) rfl ?_))))
 clear hS; intro b14 w hS
 have hS := ((((Sat_sepNil hS).vecNil 3 1).vecNil 195 1).vecNil 224 3).pick 4 rfl; try dsimp only [List.eraseIdx] at hS
 refine .run 1 rfl trivial (.nil (.seq (.seq (.region (.run 1 rfl trivial (.nil (.block ?_)))))))
 refine WC.loop (σ := Nat × List PFr × List (Value × List Int) × List Pl × List Cell3 × Value × Value × Value × List Int × Im) (fun ⟨k, stk, st, Q, P, lv, sv, av, ats, J⟩ => [(0, S l), (5, ptr b14 0), (6, I64 (k : Nat))]) (fun ⟨k, stk, st, Q, P, lv, sv, av, ats, J⟩ w => k ≤ l.length ∧ Q.length ≤ k ∧ st.map (·.2) = stk.reverse.map mks ∧ stk.length ≤ 4 ∧ ats.length = stk.length ∧ Frames Q Q.length stk ∧ RelP J P Q ∧ Le I J ∧ cmpGo (l.drop k) k Q stk ats = cmp l ∧ Sat B w J (blk b14 [lv, sv, av] 248 :: Vec 224 3 lv P.length (P.flatMap enc) :: Vec 195 1 sv st.length (st.map (·.1)) :: Vec 3 1 av ats.length (ats.map I64) :: rowsA 3 st :: As)) (fun ⟨k, stk, st, Q, P, lv, sv, av, ats, J⟩ => l.length - k) (0, [], [], [], [], .slice none 0 0, .slice none 0 0, .slice none 0 0, [], I) ⟨rfl, rfl, rfl, trivial⟩ ⟨Nat.zero_le _, Nat.le_refl _, rfl, by simp, rfl, trivial, RelP.nil _, Le.refl _, by rw [cmp, if_neg (by omega)]; rfl, hS⟩ ?_
 rintro ⟨k, stk, st, Q, P, lv, sv, av, ats, J⟩ w ⟨hk, hQk, hst, hlen4, hats, hF, hR, hJ, hq, hS⟩
 change WC _ _ _ _ [(0, S l), (5, ptr b14 0), (6, I64 (k : Nat))] w
 obtain ⟨la, lc, rfl, hlc, _⟩ := hS.vecSlice (k := 1) rfl
 obtain ⟨sa, sc, rfl, hsc, _⟩ := hS.vecSlice (k := 2) rfl
 obtain ⟨aa, ac, rfl, hac, _⟩ := hS.vecSlice (k := 3) rfl
 have hst2 : st.length = stk.length := by have := congrArg List.length hst; simpa using this
 have hPQ := hR.1
 refine .seq (.seq (.region (.run 4 rfl ⟨Tryz.underlying9, trivial⟩ (.nil ?_))))
 refine WC.cond rfl (fun hb18 => ?_) (fun hb18 => ?_)
 ·
  have hc18 := hb18; try simp only [Gk.cs0] at hc18
  refine .skip (.seq (.block (.seq (.region (.run 2 rfl trivial (.val (.fieldAddr 1 (.of rfl) Tryz.underlying248 rfl rfl Tryz.sizeOf243 rfl) rfl (.val (.ld (.of rfl) hS (k := 0) rfl Tryz.isAgg243 rfl) rfl (.run 2 rfl ⟨⟨_, Tryz.underlying243⟩, trivial⟩ (.nil (.seq (.region (.run 4 rfl ⟨⟨⟨by omega, by omega⟩, Tryz.underlying9⟩, trivial⟩ (.nil (.seq (.region (.run 1 rfl trivial (.nil (.block (.seq (.region (.run 2 rfl trivial (.nil ?_))))))))))))))))))))))
  refine WC.cond rfl (fun hb33 => ?_) (fun hb33 => ?_)
  ·
   have hc33 := hb33; try simp only [Gk.cs0] at hc33
   refine .region (.run 1 rfl trivial (.call Tryz.func196 rfl (evs_cons (.of rfl) (evs_cons (.of rfl) (evs_cons (.of rfl) evs_nil))) rfl (put_any _ P.length _ _ _ _ _ _ _ _ _ _ hS (by omega)) ?_))
   clear hS
   rintro _ w ⟨rfl, lv2, hS⟩
   refine .nil (.region (.run 3 rfl ⟨⟨by omega, by omega⟩, trivial⟩ (.nil ?_)))
   have e9 := hq
   rw [drop_at l (by omega), cmpGo_cons, if_pos (by omega)] at e9
   refine ⟨(k + 1, stk, st, Q ++ [(1, 0, [])], P ++ [(1, 0, .slice none 0 0)], lv2, .slice sa st.length sc, .slice aa ats.length ac, ats, J), ⟨rfl, rfl, rfl, trivial⟩, ⟨by omega, by rw [List.length_append]; simp; omega, hst, hlen4, hats, hF.app _, hR.snoc _ _ _ _ (IntsI.nil _), hJ, e9, ?_⟩, by dsimp only; omega⟩
   rw [List.length_append, List.flatMap_append]; exact hS
  have hc33 := hb33; try simp only [Gk.cs0] at hc33
  refine .seq (.region (.run 2 rfl trivial (.nil ?_)))
  refine WC.cond rfl (fun hb37 => ?_) (fun hb37 => ?_)
  ·
   have hc37 := hb37; try simp only [Gk.cs0] at hc37
   refine .seq (.region (.run 2 rfl trivial (.val (.subFrom (.of rfl) (.of rfl) (by omega) (by omega) Tryz.underlying9) rfl ?_)))
   refine WL.call Tryz.func151 rfl (evs_cons (.of rfl) (evs_cons (.of rfl) evs_nil)) rfl (HasPrefix_any _ _ _ (by simp; omega) (by simp)) ?_
   rintro _ _ ⟨rfl, rfl⟩
   refine .nil ?_
   refine WC.cond rfl (fun hb42 => ?_) (fun hb42 => ?_)
   ·
    have hc42 := hb42; try simp only [Gk.cs0] at hc42
    refine .seq (.region (.run 1 rfl trivial (.call Tryz.func196 rfl (evs_cons (.of rfl) (evs_cons (.of rfl) (evs_cons (.of rfl) evs_nil))) rfl (put_any _ P.length _ _ _ _ _ _ _ _ _ _ hS (by omega)) ?_)))
    clear hS
    rintro _ w ⟨rfl, lv2, hS⟩
    refine .nil (.region (.run 3 rfl ⟨⟨by omega, by omega⟩, trivial⟩ (.nil (.region (.run 3 rfl ⟨⟨by omega, by omega⟩, trivial⟩ (.nil ?_))))))
    have e9 := hq
    have hk2 : k + 1 < l.length := hasPre2 hb42 (by omega)
    rw [drop_at l (by omega), cmpGo_cons, if_neg (by omega), if_pos (by omega), drop_at l hk2] at e9
    simp only [] at e9
    rw [if_pos (hasPre2c hb42 hk2)] at e9
    refine ⟨(k + 2, stk, st, Q ++ [(2, 0, [])], P ++ [(2, 0, .slice none 0 0)], lv2, .slice sa st.length sc, .slice aa ats.length ac, ats, J), ⟨rfl, rfl, rfl, trivial⟩, ⟨by omega, by rw [List.length_append]; simp; omega, hst, hlen4, hats, hF.app _, hR.snoc _ _ _ _ (IntsI.nil _), hJ, e9, ?_⟩, by dsimp only; omega⟩
    rw [List.length_append, List.flatMap_append]; exact hS
   have hc42 := hb42; try simp only [Gk.cs0] at hc42
   refine .region (.run 1 rfl trivial (.call Tryz.func196 rfl (evs_cons (.of rfl) (evs_cons (.of rfl) (evs_cons (.of rfl) evs_nil))) rfl (put_any _ P.length _ _ _ _ _ _ _ _ _ _ hS (by omega)) ?_))
   clear hS
   rintro _ w ⟨rfl, lv2, hS⟩
   refine .nil (.region (.run 3 rfl ⟨⟨by omega, by omega⟩, trivial⟩ (.nil ?_)))
   have e9 := hq
   rw [drop_at l (by omega), cmpGo_cons, if_neg (by omega), if_pos (by omega)] at e9
   have e9 := star1 hb42 (by omega) e9
   refine ⟨(k + 1, stk, st, Q ++ [(3, 0, [])], P ++ [(3, 0, .slice none 0 0)], lv2, .slice sa st.length sc, .slice aa ats.length ac, ats, J), ⟨rfl, rfl, rfl, trivial⟩, ⟨by omega, by rw [List.length_append]; simp; omega, hst, hlen4, hats, hF.app _, hR.snoc _ _ _ _ (IntsI.nil _), hJ, e9, ?_⟩, by dsimp only; omega⟩
   rw [List.length_append, List.flatMap_append]; exact hS
  have hc37 := hb37; try simp only [Gk.cs0] at hc37
  refine .seq (.region (.run 2 rfl trivial (.nil ?_)))
  refine WC.cond rfl (fun hb49 => ?_) (fun hb49 => ?_)
  ·
   have hc49 := hb49; try simp only [Gk.cs0] at hc49
   refine .seq (.seq (.region (.run 2 rfl trivial (.nil ?_))))
   refine WC.cond rfl (fun hb52 => ?_) (fun hb52 => ?_)
   ·
    have hc52 := hb52; try simp only [Gk.cs0] at hc52
    refine .seq (.region (.run 4 rfl trivial (.nil (.ret (ret3 Tryz.results169 rfl rfl rfl ?_)))))
    have e9 : cmp l = .error (24, (k : Int)) := by rw [← hq, drop_at l (by omega), cmpGo_cons, if_neg (by omega), if_neg (by omega), if_pos (by omega), if_pos (by omega)]
    exact ⟨_, rfl, .inl ⟨_, _, J, e9, rfl, hJ, ((((hS.drop (k := 0) rfl).drop (k := 0) rfl).drop (k := 0) rfl).drop (k := 0) rfl).drop (k := 0) rfl⟩⟩
   have hc52 := hb52; try simp only [Gk.cs0] at hc52
   refine .skip (.region (.run 2 rfl trivial (.call Tryz.func197 rfl (evs_cons (.of rfl) (evs_cons (.of rfl) evs_nil)) rfl (bracket_any _ P.length _ _ _ _ st ats _ _ _ _ _ hS (by omega) (by omega) (by omega)) ?_)))
   clear hS
   rintro _ w ⟨rfl, lv2, sv2, av2, mv2, hS⟩
   refine .nil (.region (.run 3 rfl ⟨⟨by omega, by omega⟩, trivial⟩ (.nil ?_)))
   have e9 := hq
   rw [drop_at l (by omega), cmpGo_cons, if_neg (by omega), if_neg (by omega), if_pos (by omega), if_neg (by omega)] at e9
   have hx := hR.1
   refine ⟨(k + 1, (Q.length, []) :: stk, st ++ [(mv2, [(P.length : Int)])], Q ++ [(4, 0, [])], P ++ [(4, 0, .slice none 0 0)], lv2, sv2, av2, ats ++ [(k : Int)], J), ⟨rfl, rfl, rfl, trivial⟩, ⟨by omega, by rw [List.length_append]; simp; omega, ?_, by simp; omega, by simp [hats], ⟨by simp, by simp, by simp, fun b hb => by simp at hb, hF.grow (by simp) (by simp) fun i hi hq2 => by rw [List.getElem?_append_left hi]; exact hq2⟩, hR.snoc _ _ _ _ (IntsI.nil _), hJ, e9, ?_⟩, by dsimp only; omega⟩
   ·simp [hst, mks, hx]
   ·simp only [List.length_append, List.flatMap_append, List.map_append, List.length_singleton, List.map_cons, List.map_nil]; exact hS
  have hc49 := hb49; try simp only [Gk.cs0] at hc49
  refine .seq (.seq (.region (.run 2 rfl trivial (.nil ?_))))
  refine WC.cond rfl (fun hb57 => ?_) (fun hb57 => ?_)
  ·
   have hc57 := hb57; try simp only [Gk.cs0] at hc57
   refine .skip ?_
   refine WC.cond rfl (fun hb57 => ?_) (fun hb57 => by exfalso; simp only [Gk.cs0] at hb57; omega)
   have hc57 := hb57; try simp only [Gk.cs0] at hc57
   refine .seq (.seq (.region (.run 2 rfl trivial (.nil ?_))))
   refine WC.cond rfl (fun hb61 => ?_) (fun hb61 => ?_)
   ·
    have hc61 := hb61; try simp only [Gk.cs0] at hc61
    refine .seq (.region (.run 4 rfl trivial (.nil (.ret (ret3 Tryz.results169 rfl rfl rfl ?_)))))
    obtain rfl : stk = [] := List.eq_nil_of_length_eq_zero (by omega)
    have e9 : cmp l = .error (10, (k : Int)) := by rw [← hq, drop_at l (by omega), cmpGo_cons, if_neg (by omega), if_neg (by omega), if_neg (by omega), if_pos (by omega)]
    exact ⟨_, rfl, .inl ⟨_, _, J, e9, rfl, hJ, ((((hS.drop (k := 0) rfl).drop (k := 0) rfl).drop (k := 0) rfl).drop (k := 0) rfl).drop (k := 0) rfl⟩⟩
   have hc61 := hb61; try simp only [Gk.cs0] at hc61
   refine .skip (.seq (.seq (.region (.run 2 rfl trivial (.nil ?_)))))
   refine WC.cond rfl (fun hb64 => by exfalso; simp only [Gk.cs0] at hb64; omega) (fun hb64 => ?_)
   have hc64 := hb64; try simp only [Gk.cs0] at hc64
   refine .skip (.seq ?_)
   obtain ⟨o, bs, rest, rfl⟩ : ∃ o bs rest, stk = (o, bs) :: rest := by
    cases stk with
    | nil => exfalso; have : st.length = 0 := hst2; omega
    | cons f r => exact ⟨f.1, f.2, r, rfl⟩
   obtain ⟨st0, mv, rfl, hst0⟩ := stk_snoc hst
   obtain ⟨hf1, hf2, hf3, hf4, hf5⟩ := id hF
   simp only [List.map_append, List.map_cons, List.map_nil, List.length_append, List.length_singleton] at hS
   have hl0 : st0.length + 1 = rest.length + 1 := by simpa using hst2
   have hats2 : ats.length = rest.length + 1 := by simpa using hats
   have hlen5 : rest.length + 1 ≤ 4 := by simpa using hlen4
   obtain ⟨gs, sc2, rs, hv8, hsc1, hsc2, hsc3, hsc4, hS⟩ := hS.vecOpen (k := 2) rfl (by omega)
   injection hv8 with hv8 _ hv9; subst hv8; subst hv9; try dsimp only [List.set] at hS
   have e4 : rowsA 3 (st0 ++ [(mv, mks (o, bs))]) = SepAll ((st0.map fun x => Vec 3 1 x.1 x.2.length (x.2.map I64)) ++ [Vec 3 1 mv (mks (o, bs)).length ((mks (o, bs)).map I64)]) := by rw [rowsA, List.map_append]; rfl
   rw [e4] at hS
   replace hS := hS.pop (k := 4) rfl; try dsimp only [List.set] at hS
   obtain ⟨ma, mc, rfl, hmc, _⟩ := hS.vecSlice (k := 0) rfl
   have hmk : (mks (o, bs)).length = bs.length + 1 := by simp [mks]
   have e28 : (((st0 ++ [(Value.slice ma (mks (o, bs)).length mc, mks (o, bs))]).length : Nat) : Int) - 1 = (st0.length : Int) := by simp
   refine .drawn (fun w => ∃ R, Sat B w J (blk gs ((st0.map (·.1) ++ [Value.slice ma (mks (o, bs)).length mc]) ++ rs) 195 :: blk b14 [.slice la P.length lc, .slice (some (ad gs 0)) (st0.length + 1) sc, .slice aa ats.length ac] 248 :: R)) (fun j => !([22].contains j)) (by kernel_rfl) ?_
   replace hS := hS.drew; generalize w.drew = w at hS ⊢
   have hH : ∃ R, Sat B w J (blk gs ((st0.map (·.1) ++ [Value.slice ma (mks (o, bs)).length mc]) ++ rs) 195 :: blk b14 [.slice la P.length lc, .slice (some (ad gs 0)) (st0.length + 1) sc, .slice aa ats.length ac] 248 :: R) := ⟨_, ((hS.pick 1 rfl).pick 3 rfl)⟩
   refine .takeP (i := 0) rfl (by kernel_rfl) (by kernel_rfl) (by kernel_rfl) (fun w => (.move (.of rfl))) rfl (.takeP (i := 1) rfl (by kernel_rfl) (by kernel_rfl) (by kernel_rfl) (fun w => (.nilCheck (.of rfl))) rfl (.takeP (i := 2) rfl (by kernel_rfl) (by kernel_rfl) (by kernel_rfl) (fun w => (.fieldAddr 1 (.of rfl) Tryz.underlying248 rfl rfl Tryz.sizeOf243 rfl)) rfl (.take (i := 3) rfl (by kernel_rfl) (by kernel_rfl) (by kernel_rfl) (by kernel_rfl) hH (fun w ⟨R, hS⟩ => (.ld (.of rfl) hS (k := 1) rfl Tryz.isAgg243 rfl)) rfl (.takeP (i := 4) rfl (by kernel_rfl) (by kernel_rfl) (by kernel_rfl) (fun w => (.move (.of rfl))) rfl (.takeP (i := 5) rfl (by kernel_rfl) (by kernel_rfl) (by kernel_rfl) (fun w => (.sub (.of rfl) (.of rfl) ⟨by omega, by omega⟩)) rfl (.takeP (i := 6) rfl (by kernel_rfl) (by kernel_rfl) (by kernel_rfl) (fun w => (.move (.of rfl))) rfl (.takeP (i := 7) rfl (by kernel_rfl) (by kernel_rfl) (by kernel_rfl) (fun w => (.nilCheck (.of rfl))) rfl (.takeP (i := 8) rfl (by kernel_rfl) (by kernel_rfl) (by kernel_rfl) (fun w => (.fieldAddr 1 (.of rfl) Tryz.underlying248 rfl rfl Tryz.sizeOf243 rfl)) rfl (.take (i := 9) rfl (by kernel_rfl) (by kernel_rfl) (by kernel_rfl) (by kernel_rfl) hH (fun w ⟨R, hS⟩ => (.ld (.of rfl) hS (k := 1) rfl Tryz.isAgg243 rfl)) rfl (.takeP (i := 10) rfl (by kernel_rfl) (by kernel_rfl) (by kernel_rfl) (fun w => (.move (.of rfl))) rfl (.takeP (i := 11) rfl (by kernel_rfl) (by kernel_rfl) (by kernel_rfl) (fun w => (.sub (.of rfl) (.of rfl) ⟨by omega, by omega⟩)) rfl (.takeP (i := 12) rfl (by kernel_rfl) (by kernel_rfl) (by kernel_rfl) (fun w => (.indexAddr (.of rfl) (.of rfl) (by omega) (by omega) Tryz.underlying243 Tryz.sizeOf195)) rfl ?_))))))))))))
   refine WD.take (i := 13) rfl (by kernel_rfl) (by kernel_rfl) (by kernel_rfl) (by kernel_rfl) hH (fun w ⟨R, hS⟩ => .ld (.of rfl) hS (k := 0) rfl Tryz.isAgg195 (v := Value.slice ma (mks (o, bs)).length mc) (by rw [e28]; simp)) rfl ?_
   refine .takeP (i := 14) rfl (by kernel_rfl) (by kernel_rfl) (by kernel_rfl) (fun w => (.move (.of rfl))) rfl (.takeP (i := 15) rfl (by kernel_rfl) (by kernel_rfl) (by kernel_rfl) (fun w => (.nilCheck (.of rfl))) rfl (.takeP (i := 16) rfl (by kernel_rfl) (by kernel_rfl) (by kernel_rfl) (fun w => (.fieldAddr 0 (.of rfl) Tryz.underlying248 rfl rfl Tryz.sizeOf219 rfl)) rfl (.take (i := 17) rfl (by kernel_rfl) (by kernel_rfl) (by kernel_rfl) (by kernel_rfl) hH (fun w ⟨R, hS⟩ => (.ld (.of rfl) hS (k := 1) rfl Tryz.isAgg219 rfl)) rfl (.takeP (i := 18) rfl (by kernel_rfl) (by kernel_rfl) (by kernel_rfl) (fun w => (.lenSlice (.of rfl) Tryz.underlying219)) rfl ?_))))
   refine WD.branch [19] (by kernel_rfl) rfl (WO.cons rfl ?_ (WO.nil))
   refine .buildSlice (cs := [_]) hS (parts_cons (.of rfl) parts_nil) Tryz.underlying195 Tryz.sizeOf3 Tryz.zeroValue3 rfl rfl rfl rfl ?_
   clear hS; intro b86 w hS
   refine .nil ?_
   clear hH
   have hH : ∃ R, Sat B w J (blk gs ((st0.map (·.1) ++ [Value.slice ma (mks (o, bs)).length mc]) ++ rs) 195 :: blk b14 [.slice la P.length lc, .slice (some (ad gs 0)) (st0.length + 1) sc, .slice aa ats.length ac] 248 :: R) := ⟨_, ((hS.pick 2 rfl).pick 4 rfl)⟩
   refine And.intro (by intro _ _; exact hH) ?_
   refine WD.branch [20] (by kernel_rfl) rfl (WO.cons rfl ?_ (WO.nil))
   refine WL.append (size := 1) (bytes := 8) hS (.of rfl) (.of rfl) (k := 0) rfl Tryz.underlying195 info3_169 rfl rfl rfl rfl rfl rfl rfl ⟨by omega, by unfold maxLen; omega⟩ rfl ?_
   clear hS; intro v87 w hS; try dsimp only [List.set] at hS
   obtain ⟨a87, c87, rfl, hcap87, _⟩ := hS.vecSlice (k := 0) (v := v87) rfl
   have hm28 : mks (o, bs ++ [Q.length]) = mks (o, bs) ++ [(P.length : Int)] := by simp [mks, hR.1]
   refine .nil ?_
   clear hH
   have hH : ∃ R, Sat B w J (blk gs ((st0.map (·.1) ++ [Value.slice ma (mks (o, bs)).length mc]) ++ rs) 195 :: blk b14 [.slice la P.length lc, .slice (some (ad gs 0)) (st0.length + 1) sc, .slice aa ats.length ac] 248 :: R) := ⟨_, ((hS.pick 1 rfl).pick 3 rfl)⟩
   refine And.intro (by intro _ _; exact hH) ?_
   refine .takeP (i := 21) rfl (by kernel_rfl) (by kernel_rfl) (by kernel_rfl) (fun w => (.indexAddr (.of rfl) (.of rfl) (by omega) (by omega) Tryz.underlying243 Tryz.sizeOf195)) rfl ?_
   refine WD.branch [22] (by kernel_rfl) rfl (WO.cons rfl ?_ (WO.nil))
   refine WL.st1 hS (k := 3) rfl (.of rfl) (.of rfl) rfl Tryz.sizeOf195 (by rw [e28]; simp) ?_
   clear hS; intro w hS; try dsimp only [List.set] at hS
   rw [e28, show (st0.length : Int) = ((st0.map (·.1)).length : Int) by simp, set_last] at hS
   replace hS := hS.vecShut (k := 3) (n := st0.length + 1) (cap := sc) (size := 1) rfl hsc1 hsc2 (by simp) (by simpa using hsc4); try dsimp only [List.set] at hS
   replace hS := hS.push (k := 4) rfl; try dsimp only [List.set] at hS
   replace hS := hS.say (k := 4) (A' := rowsA 3 (st0 ++ [(.slice a87 ((mks (o, bs)).length + 1) c87, mks (o, bs ++ [Q.length]))])) rfl (fun h hh => by rw [hm28, rowsA, List.map_append]; simp only [List.map_cons, List.map_nil, List.length_append, List.length_singleton, List.map_append]; exact hh); try dsimp only [List.set] at hS
   refine .nil ?_
   refine And.intro (by intro h; cases h) ?_
   refine .done (by kernel_rfl) (.region (.run 1 rfl trivial (.call Tryz.func196 rfl (evs_cons (.of rfl) (evs_cons (.of rfl) (evs_cons (.of rfl) evs_nil))) rfl (put_any _ P.length _ _ _ _ _ _ _ _ _ _ hS (by omega)) ?_)))
   clear hS
   rintro _ w ⟨rfl, lv2, hS⟩
   refine .nil (.region (.run 3 rfl ⟨⟨by omega, by omega⟩, trivial⟩ (.nil ?_)))
   have e9 := hq
   rw [drop_at l (by omega), cmpGo_cons, if_neg (by omega), if_neg (by omega), if_neg (by omega), if_pos (by omega)] at e9
   simp only [] at e9
   have hx := hR.1
   refine ⟨(k + 1, (o, bs ++ [Q.length]) :: rest, st0 ++ [(.slice a87 ((mks (o, bs)).length + 1) c87, mks (o, bs ++ [Q.length]))], Q ++ [(5, 0, [])], P ++ [(5, 0, .slice none 0 0)], lv2, .slice (some (ad gs 0)) (st0.length + 1) sc, .slice aa ats.length ac, ats, J), ⟨rfl, rfl, rfl, trivial⟩, ⟨by omega, by rw [List.length_append]; simp; omega, ?_, by simpa using hlen4, by simpa using hats, ⟨?_, ?_, ?_, ?_, ?_⟩, hR.snoc _ _ _ _ (IntsI.nil _), hJ, e9, ?_⟩, by dsimp only; omega⟩
   ·simp [hst0]
   ·simp; omega
   ·rw [List.getElem?_append_left hf1]; exact hf2
   ·simp; omega
   ·intro b hb
    rcases List.mem_append.1 hb with hb | hb
    ·have := hf4 b hb; simp; omega
    ·simp at hb; subst hb; simp; omega
   ·exact hf5.grow (Nat.le_refl _) (by simp) fun i hi hq2 => by rw [List.getElem?_append_left (by omega)]; exact hq2
   ·simp only [List.length_append, List.flatMap_append, List.map_append, List.length_singleton, List.map_cons, List.map_nil]; exact hS
  have hc57 := hb57; try simp only [Gk.cs0] at hc57
  refine .region (.run 2 rfl trivial (.nil ?_))
  refine WC.cond rfl (fun hb57 => ?_) (fun hb57 => ?_)
  ·
   have hc57 := hb57; try simp only [Gk.cs0] at hc57
   refine .seq (.seq (.region (.run 2 rfl trivial (.nil ?_))))
   refine WC.cond rfl (fun hb61 => ?_) (fun hb61 => ?_)
   ·
    have hc61 := hb61; try simp only [Gk.cs0] at hc61
    refine .seq (.region (.run 4 rfl trivial (.nil (.ret (ret3 Tryz.results169 rfl rfl rfl ?_)))))
    obtain rfl : stk = [] := List.eq_nil_of_length_eq_zero (by omega)
    have e9 : cmp l = .error (10, (k : Int)) := by rw [← hq, drop_at l (by omega), cmpGo_cons, if_neg (by omega), if_neg (by omega), if_neg (by omega), if_neg (by omega), if_pos (by omega)]
    exact ⟨_, rfl, .inl ⟨_, _, J, e9, rfl, hJ, ((((hS.drop (k := 0) rfl).drop (k := 0) rfl).drop (k := 0) rfl).drop (k := 0) rfl).drop (k := 0) rfl⟩⟩
   have hc61 := hb61; try simp only [Gk.cs0] at hc61
   refine .skip (.seq (.seq (.region (.run 2 rfl trivial (.nil ?_)))))
   refine WC.cond rfl (fun hb64 => ?_) (fun hb64 => by exfalso; simp only [Gk.cs0] at hb64; omega)
   have hc64 := hb64; try simp only [Gk.cs0] at hc64
   refine .seq (.region (.run 1 rfl trivial ?_))
   obtain ⟨o, bs, rest, rfl⟩ : ∃ o bs rest, stk = (o, bs) :: rest := by
    cases stk with
    | nil => exfalso; have : st.length = 0 := hst2; omega
    | cons f r => exact ⟨f.1, f.2, r, rfl⟩
   obtain ⟨st0, mv, rfl, hst0⟩ := stk_snoc hst
   obtain ⟨hf1, hf2, hf3, hf4, hf5⟩ := id hF
   simp only [List.map_append, List.map_cons, List.map_nil, List.length_append, List.length_singleton] at hS
   have hl0 : st0.length + 1 = rest.length + 1 := by simpa using hst2
   have hats2 : ats.length = rest.length + 1 := by simpa using hats
   have hlen5 : rest.length + 1 ≤ 4 := by simpa using hlen4
   refine WL.call Tryz.func198 rfl (evs_cons (.of rfl) evs_nil) rfl (close_any _ _ _ _ mv P Q st0 o bs ats _ _ _ _ hS hR (fun b hb => by have := hf4 b hb; have hx := hR.1; omega) (by have hx := hR.1; omega) 4 0 (hR.nil_of hf2) hf2 (by have hx := hR.1; omega) (by omega) (by omega) (by omega)) ?_
   clear hS
   rintro _ w ⟨rfl, lv2, sv2, av2, P2, J2, hJ2, hR2, hS⟩
   refine .nil (.exit (.region (.run 3 rfl ⟨⟨by omega, by omega⟩, trivial⟩ (.nil ?_))))
   have e9 := hq
   rw [drop_at l (by omega), cmpGo_cons, if_neg (by omega), if_neg (by omega), if_neg (by omega), if_neg (by omega), if_pos (by omega)] at e9
   simp only [] at e9
   have hx := hR.1
   refine ⟨(k + 1, rest, st0, closeGo Q.length o Q [] bs ++ [(6, 0, [])], P2, lv2, sv2, av2, ats.take rest.length, J2), ⟨rfl, rfl, rfl, trivial⟩, ⟨by omega, by rw [List.length_append, closeGo_len]; simp; omega, hst0, by simp at hlen4; omega, by simp at hats; simp; omega, hF.close _, by rw [hx] at hR2; exact hR2, hJ.trans hJ2, e9, ?_⟩, by dsimp only; omega⟩
   have e5 : (ats.take rest.length).length = st0.length := by simp at hats; rw [List.length_take]; omega
   have e6 : rest.length = st0.length := by omega
   rw [e5, e6]; exact hS
  have hc57 := hb57; try simp only [Gk.cs0] at hc57
  refine .seq (.region (.run 2 rfl trivial (.nil ?_)))
  refine WC.cond rfl (fun hb91 => ?_) (fun hb91 => ?_)
  ·
   have hc91 := hb91; try simp only [Gk.cs0] at hc91
   refine .seq (.seq (.region (.run 5 rfl ⟨⟨by omega, by omega⟩, Tryz.underlying9, trivial⟩ (.nil ?_))))
   refine WC.cond rfl (fun hb97 => ?_) (fun hb97 => ?_)
   ·
    have hc97 := hb97; try simp only [Gk.cs0] at hc97
    refine .seq (.region (.run 4 rfl trivial (.nil (.ret (ret3 Tryz.results169 rfl rfl rfl ?_)))))
    have e9 : cmp l = .error (10, (k : Int)) := by rw [← hq, drop_at l (by omega), cmpGo_cons, if_neg (by omega), if_neg (by omega), if_neg (by omega), if_neg (by omega), if_neg (by omega), if_pos (by omega), List.drop_of_length_le (by omega)]
    exact ⟨_, rfl, .inl ⟨_, _, J, e9, rfl, hJ, ((((hS.drop (k := 0) rfl).drop (k := 0) rfl).drop (k := 0) rfl).drop (k := 0) rfl).drop (k := 0) rfl⟩⟩
   have hc97 := hb97; try simp only [Gk.cs0] at hc97
   refine .skip (.seq (.region (.run 3 rfl ⟨⟨by omega, by omega⟩, trivial⟩ (.nil (.region (.run 4 rfl ⟨⟨⟨by omega, by omega⟩, Tryz.underlying9⟩, trivial⟩ (.call Tryz.func196 rfl (evs_cons (.of rfl) (evs_cons (.of rfl) (evs_cons (.of rfl) evs_nil))) rfl (put_any _ P.length _ _ _ _ _ _ _ _ _ _ hS (by omega)) ?_)))))))
   clear hS
   rintro _ w ⟨rfl, lv2, hS⟩
   refine .nil (.region (.run 3 rfl ⟨⟨by omega, by omega⟩, trivial⟩ (.nil ?_)))
   have e9 := hq
   rw [drop_at l (by omega), cmpGo_cons, if_neg (by omega), if_neg (by omega), if_neg (by omega), if_neg (by omega), if_neg (by omega), if_pos (by omega), drop_at l (k := k + 1) (by omega)] at e9
   simp only [] at e9
   refine ⟨(k + 2, stk, st, Q ++ [(0, ((at_ l ((k : Int) + 1)).toNat : Int), [])], P ++ [(0, ((at_ l ((k : Int) + 1)).toNat : Int), .slice none 0 0)], lv2, .slice sa st.length sc, .slice aa ats.length ac, ats, J), ⟨rfl, rfl, rfl, trivial⟩, ⟨by omega, by rw [List.length_append]; simp; omega, hst, hlen4, hats, hF.app _, hR.snoc _ _ _ _ (IntsI.nil _), hJ, e9, ?_⟩, by dsimp only; omega⟩
   rw [List.length_append, List.flatMap_append]; exact hS
  have hc91 := hb91; try simp only [Gk.cs0] at hc91
  refine .region (.run 2 rfl trivial (.call Tryz.func196 rfl (evs_cons (.of rfl) (evs_cons (.of rfl) (evs_cons (.of rfl) evs_nil))) rfl (put_any _ P.length _ _ _ _ _ _ _ _ _ _ hS (by omega)) ?_))
  clear hS
  rintro _ w ⟨rfl, lv2, hS⟩
  refine .nil (.region (.run 3 rfl ⟨⟨by omega, by omega⟩, trivial⟩ (.nil ?_)))
  have e9 := hq
  rw [drop_at l (by omega), cmpGo_cons, if_neg (by omega), if_neg (by omega), if_neg (by omega), if_neg (by omega), if_neg (by omega), if_neg (by omega)] at e9
  refine ⟨(k + 1, stk, st, Q ++ [(0, ((at_ l (k : Int)).toNat : Int), [])], P ++ [(0, ((at_ l (k : Int)).toNat : Int), .slice none 0 0)], lv2, .slice sa st.length sc, .slice aa ats.length ac, ats, J), ⟨rfl, rfl, rfl, trivial⟩, ⟨by omega, by rw [List.length_append]; simp; omega, hst, hlen4, hats, hF.app _, hR.snoc _ _ _ _ (IntsI.nil _), hJ, e9, ?_⟩, by dsimp only; omega⟩
  rw [List.length_append, List.flatMap_append]; exact hS
 have hc18 := hb18; try simp only [Gk.cs0] at hc18
 refine .exit (.seq (.seq (.region (.run 2 rfl trivial (.val (.fieldAddr 2 (.of rfl) Tryz.underlying248 rfl rfl Tryz.sizeOf195 rfl) rfl (.val (.ld (.of rfl) hS (k := 0) rfl Tryz.isAgg195 rfl) rfl (.run 2 rfl ⟨⟨_, Tryz.underlying195⟩, trivial⟩ (.nil (.seq (.region (.run 2 rfl trivial (.nil ?_))))))))))))
 refine WC.cond rfl (fun hb112 => ?_) (fun hb112 => ?_)
 ·
  have hc112 := hb112; try simp only [Gk.cs0] at hc112
  refine .seq ?_
  obtain ⟨b8, c8, r, hv8, _, _, _, _, hS⟩ := hS.vecOpen (k := 3) rfl (by omega)
  injection hv8 with hv8 _ hv9; subst hv8; subst hv9; try dsimp only [List.set] at hS
  refine .quiet (by kernel_rfl) (by kernel_rfl) hS (.val (fun w hS => (.move (.of rfl))) rfl (.val (fun w hS => (.nilCheck (.of rfl))) rfl (.val (fun w hS => (.fieldAddr 2 (.of rfl) Tryz.underlying248 rfl rfl Tryz.sizeOf195 rfl)) rfl (.val (fun w hS => (.ld (.of rfl) hS (k := 0) rfl Tryz.isAgg195 rfl)) rfl (.val (fun w hS => (.move (.of rfl))) rfl (.val (fun w hS => (.sub (.of rfl) (.of rfl) ⟨by omega, by omega⟩)) rfl (.val (fun w hS => (.indexAddr (.of rfl) (.of rfl) (by omega) (by omega) Tryz.underlying195 Tryz.sizeOf3)) rfl (.val (fun w hS => .ldE I64 ats 0 r (.of rfl) hS (k := 3) rfl rfl Tryz.isAgg3 (by omega) (by omega)) rfl (.val (fun w hS => (.assign (.of rfl))) rfl (.val (fun w hS => (.assign (.of rfl))) rfl (.val (fun w hS => (.assign (.of rfl))) rfl (.nil ?_))))))))))))
  clear hS; intro w hS
  refine .ret (ret3 Tryz.results169 rfl rfl rfl ?_)
  have e9 : cmp l = .error (23, ats.getD ((ats.length : Int) - 1).toNat 0) := by rw [← hq, show ((ats.length : Int) - 1).toNat = ats.length - 1 by omega, List.drop_of_length_le (by omega), cmpGo_nil, if_pos (by omega)]
  exact ⟨_, rfl, .inl ⟨_, _, J, e9, rfl, hJ, ((((hS.drop (k := 0) rfl).drop (k := 0) rfl).drop (k := 0) rfl).drop (k := 0) rfl).drop (k := 0) rfl⟩⟩
 have hc112 := hb112; try simp only [Gk.cs0] at hc112
 refine .skip (.seq (.region (.run 1 rfl trivial (.call Tryz.func196 rfl (evs_cons (.of rfl) (evs_cons (.of rfl) (evs_cons (.of rfl) evs_nil))) rfl (put_any _ P.length _ _ _ _ _ _ _ _ _ _ hS (by omega)) ?_))))
 clear hS
 rintro _ w ⟨rfl, lv2, hS⟩
 refine .nil (.seq ?_)
 obtain ⟨a9, c9, rfl, hcap9, _⟩ := hS.vecSlice (k := 1) rfl
 refine .region (.run 2 rfl trivial (.val (.fieldAddr 0 (.of rfl) Tryz.underlying248 rfl rfl Tryz.sizeOf219 rfl) rfl (.val (.ld (.of rfl) hS (k := 0) rfl Tryz.isAgg219 rfl) rfl (.run 2 rfl ⟨Tryz.underlying9, trivial⟩ (.val (.build (cs := [_, _]) (parts_cons (.of rfl) (parts_cons (.of rfl) parts_nil)) bld221_169 rfl) rfl (.boxA (cs := [_, _]) hS (.of rfl) rfl ?_))))))
 clear hS; intro b130 w hS
 refine .run 3 rfl trivial (.nil (.ret (ret3 Tryz.results169 rfl rfl rfl ?_)))
 have e9 : cmp l = .ok (Q ++ [(7, 0, [])]) := by rw [← hq, List.drop_of_length_le (by omega), cmpGo_nil, if_neg (by omega)]
 obtain ⟨J2, hJ2, hrs, hS⟩ := hS.freezeVec (k := 2) rfl; try dsimp only [List.eraseIdx] at hS
 obtain ⟨J3, hJ3, hb9, hS⟩ := hS.freeze (k := 0) rfl; try dsimp only [List.eraseIdx] at hS
 refine ⟨_, rfl, .inr ⟨_, _, J3, e9, rfl, (hJ.trans hJ2).trans hJ3, ⟨a9, c9, P ++ [(7, 0, .slice none 0 0)], ?_, ?_, ?_, ?_⟩, (((hS.drop (k := 0) rfl).drop (k := 0) rfl).drop (k := 0) rfl).drop (k := 0) rfl⟩⟩
 ·refine ⟨rfl, _, _, _, hb9, fun j u hj => ?_⟩
  rw [List.length_append] at hj
  simpa using hj
 ·simpa using hcap9
 ·rw [List.length_append, List.flatMap_append]; exact hrs.mono hJ3
 ·exact ((hR.snoc _ _ _ _ (IntsI.nil _)).mono hJ2).mono hJ3
end Go.Proofs.YtadhiihnnkcagaaGreatDoor
namespace Pat
set_option linter.unusedVariables false
set_option linter.unusedSimpArgs false
open Go Gk
def skips (k : Int) : Bool := (((k == 2) || (k == 3)) || (k == 4)) || (k == 6)
def addP (Q : List Pl) : Nat → List Bool → Nat → List Bool
 | 0, set, _ => set
 | f + 1, set, i => bif set.getD i false then set else
   bif skips (Q.getD i (7, 0, [])).1 then addP Q f ((Q.getD i (7, 0, [])).2.2.foldl (fun s t => addP Q f s t.toNat) (set.set i true)) (i + 1)
   else (Q.getD i (7, 0, [])).2.2.foldl (fun s t => addP Q f s t.toNat) (set.set i true)
def unset (s : List Bool) : Nat := s.countP (fun b => !b)
def SubB (s t : List Bool) : Prop := s.length = t.length ∧ ∀ i : Nat, s.getD i false = true → t.getD i false = true
theorem SubB.refl (s : List Bool) : SubB s s := ⟨rfl, fun _ h => h⟩
theorem SubB.trans {s t u : List Bool} (h : SubB s t) (k : SubB t u) : SubB s u := ⟨h.1.trans k.1, fun i hi => k.2 i (h.2 i hi)⟩
theorem SubB.set (s : List Bool) (i : Nat) : SubB s (s.set i true) := by
 refine ⟨by simp, fun j hj => ?_⟩
 rw [List.getD_eq_getElem?_getD] at hj ⊢
 rw [List.getElem?_set]
 by_cases e : i = j
 ·subst e
  have hlt : i < s.length := by
   apply Classical.byContradiction
   intro hn
   rw [List.getElem?_eq_none (by omega)] at hj
   cases hj
  simp [hlt]
 ·simpa [e] using hj
theorem unset_le : ∀ {s t : List Bool}, SubB s t → unset t ≤ unset s
 | [], [], _ => Nat.le_refl _
 | [], _ :: _, h => by cases h.1
 | _ :: _, [], h => by cases h.1
 | a :: s, b :: t, h => by
  have h1 : SubB s t := ⟨by simpa using h.1, fun i hi => by have := h.2 (i + 1) (by simpa using hi); simpa using this⟩
  have h2 := unset_le h1
  have h3 := h.2 0
  unfold unset at h2 ⊢
  cases a <;> cases b <;> simp_all <;> omega
theorem unset_set : ∀ {s : List Bool} {i : Nat}, i < s.length → s.getD i false = false → unset (s.set i true) + 1 = unset s
 | [], _, h, _ => by simp at h
 | a :: s, 0, _, h => by simp at h; subst h; simp [unset]
 | a :: s, i + 1, h, h2 => by
  have := unset_set (s := s) (i := i) (by simpa using h) (by simpa using h2)
  unfold unset at this ⊢
  cases a <;> simp_all
theorem addP_sub (Q : List Pl) : ∀ (f : Nat) (s : List Bool) (i : Nat), SubB s (addP Q f s i)
 | 0, s, _ => SubB.refl s
 | f + 1, s, i => by
  have fold : ∀ (l : List Int) (s : List Bool), SubB s (l.foldl (fun s t => addP Q f s t.toNat) s) := by
   intro l
   induction l with
   | nil => intro s; exact SubB.refl s
   | cons x l ih => intro s; exact (addP_sub Q f s x.toNat).trans (ih _)
  rw [addP]
  cases s.getD i false
  ·cases skips (Q.getD i (7, 0, [])).1
   ·exact (SubB.set s i).trans (fold _ _)
   ·exact ((SubB.set s i).trans (fold _ _)).trans (addP_sub Q f _ _)
  ·exact SubB.refl s
theorem fold_sub (Q : List Pl) (f : Nat) : ∀ (l : List Int) (s : List Bool), SubB s (l.foldl (fun s t => addP Q f s t.toNat) s)
 | [], s => SubB.refl s
 | x :: l, s => (addP_sub Q f s x.toNat).trans (fold_sub Q f l _)
def WF (Q : List Pl) : Prop := ∀ (i : Nat) (q : Pl), Q[i]? = some q → (∀ t ∈ q.2.2, 0 ≤ t ∧ t < (Q.length : Int)) ∧ (skips q.1 = true → i + 1 < Q.length) ∧ (0 ≤ q.1 ∧ q.1 ≤ 7) ∧ (q.1 ≠ 7 → i + 1 < Q.length) ∧ q.2.2.length ≤ Q.length
theorem take_fold {α β : Type} (f : β → α → β) (b : β) (l : List α) (k : Nat) (d : α) (h : k < l.length) : (l.take (k + 1)).foldl f b = f ((l.take k).foldl f b) (l.getD k d) := by
 rw [List.take_succ_eq_append_getElem h, List.foldl_append]
 simp [List.getD_eq_getElem?_getD, h]
theorem WF.at_ {Q : List Pl} (h : WF Q) {i : Nat} (hi : i < Q.length) : (∀ t ∈ (Q.getD i (7, 0, [])).2.2, 0 ≤ t ∧ t < (Q.length : Int)) ∧ (skips (Q.getD i (7, 0, [])).1 = true → i + 1 < Q.length) ∧ (0 ≤ (Q.getD i (7, 0, [])).1 ∧ (Q.getD i (7, 0, [])).1 ≤ 7) ∧ ((Q.getD i (7, 0, [])).1 ≠ 7 → i + 1 < Q.length) ∧ (Q.getD i (7, 0, [])).2.2.length ≤ Q.length := by
 have e : Q[i]? = some (Q.getD i (7, 0, [])) := by simp [List.getD_eq_getElem?_getD, hi]
 exact h i _ e
def fitsP (k c : Int) (b : UInt8) : Bool := bif k == 0 then c == (b.toNat : Int) else bif (k == 1) || (k == 3) then (b.toNat : Int) != 47 else k == 2
def runAt (Q : List Pl) (F : Nat) (c : UInt8) (now : List Bool) (st : List Bool × Bool × Nat) (k : Nat) : List Bool × Bool × Nat :=
 bif now.getD k false then
  bif fitsP (Q.getD k (7, 0, [])).1 (Q.getD k (7, 0, [])).2.1 c then
   (addP Q F st.1 (bif ((Q.getD k (7, 0, [])).1 == 2) || ((Q.getD k (7, 0, [])).1 == 3) then k else k + 1), true, st.2.2 + 1)
  else (st.1, st.2.1, st.2.2 + 1)
 else st
def runB (Q : List Pl) (F : Nat) (c : UInt8) (now : List Bool) (steps : Nat) : List Bool × Bool × Nat := iter (runAt Q F c now) (List.replicate Q.length false, false, steps) Q.length
def runS (Q : List Pl) (F : Nat) : List UInt8 → List Bool → Nat → List Bool × Nat
 | [], now, st => (now, st)
 | c :: r, now, st => bif (runB Q F c now st).2.1 then runS Q F r (runB Q F c now st).1 (runB Q F c now st).2.2 else ((runB Q F c now st).1, (runB Q F c now st).2.2)
def run (Q : List Pl) (l : List UInt8) : List Bool × Nat := runS Q (Q.length + 1) l (addP Q (Q.length + 1) (List.replicate Q.length false) 0) 1
theorem runAt_steps (Q : List Pl) (F : Nat) (c : UInt8) (now : List Bool) (st : List Bool × Bool × Nat) (k : Nat) : st.2.2 ≤ (runAt Q F c now st k).2.2 ∧ (runAt Q F c now st k).2.2 ≤ st.2.2 + 1 := by
 unfold runAt
 cases now.getD k false <;> cases fitsP (Q.getD k (7, 0, [])).1 (Q.getD k (7, 0, [])).2.1 c <;> simp
theorem runAt_len (Q : List Pl) (F : Nat) (c : UInt8) (now : List Bool) (st : List Bool × Bool × Nat) (k : Nat) : (runAt Q F c now st k).1.length = st.1.length := by
 unfold runAt
 cases now.getD k false <;> cases fitsP (Q.getD k (7, 0, [])).1 (Q.getD k (7, 0, [])).2.1 c <;> simp
 exact (addP_sub Q F _ _).1.symm
theorem runIter_facts (Q : List Pl) (F : Nat) (c : UInt8) (now : List Bool) (st : List Bool × Bool × Nat) : ∀ k, (iter (runAt Q F c now) st k).1.length = st.1.length ∧ st.2.2 ≤ (iter (runAt Q F c now) st k).2.2 ∧ (iter (runAt Q F c now) st k).2.2 ≤ st.2.2 + k
 | 0 => ⟨rfl, Nat.le_refl _, Nat.le_refl _⟩
 | k + 1 => by
  have h := runIter_facts Q F c now st k
  have h1 := runAt_steps Q F c now (iter (runAt Q F c now) st k) k
  have h2 := runAt_len Q F c now (iter (runAt Q F c now) st k) k
  rw [iter]
  omega
theorem At.sub {I : Im} {p : Addr} {vs us : List Value} (h : At I p vs) (hu : ∀ (j : Nat) (v : Value), us[j]? = some v → vs[j]? = some v) : At I p us := by
 obtain ⟨h1, arr, E, fr, h2, h3⟩ := h
 exact ⟨h1, arr, E, fr, h2, fun j v hj => h3 j v (hu j v hj)⟩
theorem At.place {I : Im} {la : Addr} {P : List Cell3} {i : Nat} {x : Cell3} (h : At I la (P.flatMap enc)) (hx : P[i]? = some x) : At I (la.add (i * 3)) [.int .u8 x.1, .int .u8 x.2.1, x.2.2] := by
 refine At.sub (h.add (i * 3)) fun j v hj => ?_
 have hl : j < 3 := by have := (List.getElem?_eq_some_iff.1 hj).1; simpa using this
 rw [List.getElem?_drop]
 have := flat_get enc 3 enc_len P [] i j x hx hl
 rw [List.append_nil] at this
 rw [this]; exact hj
theorem PatI.opened {I : Im} {p : Addr} {Q : List Pl} {n : Nat} (h : PatI I p Q n) (hQ : 0 < Q.length) : ∃ la c P, At I p [.slice (some la) Q.length c, I64 n] ∧ At I la (P.flatMap enc) ∧ RelP I P Q := by
 obtain ⟨a, c, P, h1, h2, h3, h4⟩ := h
 obtain ⟨la, rfl, h5⟩ := h3.2 (by rw [h4.1]; exact hQ)
 exact ⟨la, c, P, by rw [← h4.1]; exact h1, h5, h4⟩
theorem RelP.at_ {I : Im} {P : List Cell3} {Q : List Pl} (h : RelP I P Q) {i : Nat} (hi : i < Q.length) : ∃ xa xc, P[i]? = some ((Q.getD i (7, 0, [])).1, (Q.getD i (7, 0, [])).2.1, .slice xa (Q.getD i (7, 0, [])).2.2.length xc) ∧ ∃ xp, 0 < (Q.getD i (7, 0, [])).2.2.length → xa = some xp ∧ At I xp ((Q.getD i (7, 0, [])).2.2.map I64) := by
 have e : Q[i]? = some (Q.getD i (7, 0, [])) := by simp [List.getD_eq_getElem?_getD, hi]
 obtain ⟨⟨p1, p2, p3⟩, hp⟩ : ∃ p, P[i]? = some p := ⟨_, List.getElem?_eq_getElem (by rw [h.1]; exact hi)⟩
 obtain ⟨a, b, _, xa, xc, h1, _, h2⟩ := h.2 i _ _ hp e
 simp only at a b h1
 subst a; subst b; subst h1
 refine ⟨xa, xc, hp, ?_⟩
 by_cases h0 : 0 < (Q.getD i (7, 0, [])).2.2.length
 ·obtain ⟨xp, rfl, h3⟩ := h2.2 h0
  exact ⟨xp, fun _ => ⟨rfl, h3⟩⟩
 ·exact ⟨ad 0 0, fun h => absurd h h0⟩
end Pat
namespace Go.Proofs.YtadhiihnnkcagaaGreatDoor
open Gk Pat
set_option linter.unusedVariables false
set_option linter.unusedSimpArgs false
theorem getD_mem {l : List Int} {k : Nat} (h : k < l.length) : l.getD k 0 ∈ l := by
 rw [List.getD_eq_getElem?_getD, List.getElem?_eq_getElem h]; exact List.getElem_mem h
theorem unset_len (l : List Bool) : unset l ≤ l.length := List.countP_le_length
theorem info4_165 : Tryz.prog.info? 4 = some Tryz.t4 := by kernel_rfl
set_option maxHeartbeats 800000 in
theorem add_any (Q : List Pl) (p : Addr) (nn n : Nat) (hW : WF Q) (hn : Q.length = n) (hn2 : n ≤ 100000) : ∀ (f : Nat) (set : List Bool) (i : Int) (b c : Nat) (r : List Value) (B w : World) (I : Im) (As : List Assn),
  Sat B w I (blk b (set.map Value.bool ++ r) 4 :: As) → PatI I p Q nn → set.length = n → 0 ≤ i → i < n → unset set < f →
  Calls Tryz.prog 165 [.pointer (some p), .slice (some (ad b 0)) n c, I64 i].toArray w (Ret fun v w' => v = .tuple #[] ∧ Sat B w' I (blk b ((addP Q f set i.toNat).map Value.bool ++ r) 4 :: As)) := by
 intro f
 induction f with
 | zero => intros; omega
 | succ f ih =>
  intro set i b c r B w I As hS hp hset hi0 hi1 hf
  refine calls Tryz.func165 rfl Tryz.ntmps165 rfl (.seq (.seq (.region (.run 2 rfl trivial (.val (.indexAddr (.of rfl) (.of rfl) (by omega) (by omega) Tryz.underlying217 Tryz.sizeOf4) rfl (.val (.ldE .bool set false r (.of rfl) hS (k := 0) rfl rfl Tryz.isAgg4 (by omega) (by omega)) rfl (.nil ?_)))))))
  refine WC.cond rfl (fun hb12 => ?_) (fun hb12 => ?_)
  ·
   have hc12 := hb12; try simp only [Gk.cs0] at hc12
   refine .ret (ret0 Tryz.results165 ?_)
   exact ⟨_, rfl, rfl, by rw [addP, hb12]; exact hS⟩
  have hc12 := hb12; try simp only [Gk.cs0] at hc12
  refine .skip (.seq (.region (.run 2 rfl trivial (.val (.indexAddr (.of rfl) (.of rfl) (by omega) (by omega) Tryz.underlying217 Tryz.sizeOf4) rfl (.stE .bool set r (u := true) hS (k := 0) rfl (.of rfl) (.of rfl) rfl rfl Tryz.sizeOf4 (by omega) (by omega) ?_)))))
  clear hS; intro w hS; dsimp only [List.set] at hS
  refine .nil (.seq ?_)
  obtain ⟨la, lc, P, hpA, hlA, hR⟩ := hp.opened (by omega)
  obtain ⟨xa, xc, hx, xp, hxp⟩ := hR.at_ (i := i.toNat) (by omega)
  have hus := unset_set (s := set) (i := i.toNat) (by omega) hb12
  have hto := (hW.at_ (i := i.toNat) (by omega)).2.2.2.2
  refine .region (.run 2 rfl trivial (.val (.fieldAddrI 0 (.of rfl) Tryz.underlying221 rfl rfl Tryz.sizeOf219 rfl) rfl (.val (.ldI (.of rfl) hS hpA Tryz.isAgg219 rfl) rfl (.run 1 rfl trivial (.val (.indexAddrI (.of rfl) (.of rfl) (by omega) (by omega) Tryz.underlying219 Tryz.sizeOf224) rfl (.val (.ldsI (us := [_, _, _]) (.of rfl) hS (Pat.At.place hlA hx) Tryz.isAgg224 Tryz.sizeOf224 rfl (fun _ _ h => h)) rfl (.allocA (cs := [_, _, _]) hS Tryz.zeroValue224 rfl ?_)))))))
  clear hS; intro b6 w hS
  refine .stA hS (k := 0) rfl (.of rfl) (.of rfl) rfl Tryz.sizeOf224 rfl (by simp) ?_
  clear hS; intro w hS; try dsimp only [List.set] at hS
  refine .nil (.seq (.seq (.region (.val (.fieldAddr 2 (.of rfl) Tryz.underlying224 rfl rfl Tryz.sizeOf195 rfl) rfl (.val (.ld (.of rfl) hS (k := 0) rfl Tryz.isAgg195 rfl) rfl (.run 2 rfl ⟨⟨_, Tryz.underlying195⟩, trivial⟩ (.nil (.block (.loop (σ := Nat) (fun k => [(0, .pointer (some p)), (1, .slice (some (ad b 0)) n c), (2, I64 i), (6, ptr b6 0), (24, .slice xa (Q.getD i.toNat (7, 0, [])).2.2.length xc), (25, I64 (Q.getD i.toNat (7, 0, [])).2.2.length), (26, I64 (k : Nat))]) (fun k w => k ≤ (Q.getD i.toNat (7, 0, [])).2.2.length ∧ Sat B w I (blk b6 [.int .u8 (Q.getD i.toNat (7, 0, [])).1, .int .u8 (Q.getD i.toNat (7, 0, [])).2.1, .slice xa (Q.getD i.toNat (7, 0, [])).2.2.length xc] 224 :: blk b ((((Q.getD i.toNat (7, 0, [])).2.2.take k).foldl (fun s t => addP Q f s t.toNat) (set.set i.toNat true)).map Value.bool ++ r) 4 :: As)) (fun k => (Q.getD i.toNat (7, 0, [])).2.2.length - k) 0 ⟨rfl, rfl, rfl, rfl, rfl, rfl, rfl, trivial⟩ ⟨Nat.zero_le _, hS⟩ ?_)))))))))
  rintro k w ⟨hk, hS⟩
  change WC _ _ _ _ [(0, .pointer (some p)), (1, .slice (some (ad b 0)) n c), (2, I64 i), (6, ptr b6 0), (24, .slice xa (Q.getD i.toNat (7, 0, [])).2.2.length xc), (25, I64 (Q.getD i.toNat (7, 0, [])).2.2.length), (26, I64 (k : Nat))] w
  have hsub := fold_sub Q f ((Q.getD i.toNat (7, 0, [])).2.2.take k) (set.set i.toNat true)
  obtain ⟨S1, hS1⟩ : ∃ S1, S1 = ((Q.getD i.toNat (7, 0, [])).2.2.take k).foldl (fun s t => addP Q f s t.toNat) (set.set i.toNat true) := ⟨_, rfl⟩
  rw [← hS1] at hS hsub
  refine .seq (.region (.run 1 rfl trivial (.nil (.seq ?_))))
  refine WC.cond rfl (fun hb27 => ?_) (fun hb27 => ?_)
  ·
   have hc27 := hb27; try simp only [Gk.cs0] at hc27
   refine .skip (.seq (.block (.seq ?_)))
   obtain ⟨hxp1, hxA⟩ := hxp (by omega)
   rw [hxp1] at hS ⊢
   refine .region (.val (.indexAddrI (.of rfl) (.of rfl) (by omega) (by omega) Tryz.underlying195 Tryz.sizeOf3) rfl (.val (.ldEI I64 (Q.getD i.toNat (7, 0, [])).2.2 0 (.of rfl) hS hxA rfl Tryz.isAgg3 (by omega) (by omega)) rfl (.run 1 rfl trivial (.nil (.region (.run 3 rfl trivial ?_))))))
   replace hS := hS.pick 1 rfl; try dsimp only [List.eraseIdx] at hS
   have ht := (hW.at_ (i := i.toNat) (by omega)).1 ((Q.getD i.toNat (7, 0, [])).2.2.getD k 0) (getD_mem (by omega))
   refine WL.call Tryz.func165 rfl (evs_cons (.of rfl) (evs_cons (.of rfl) (evs_cons (.of rfl) evs_nil))) rfl (ih S1 ((Q.getD i.toNat (7, 0, [])).2.2.getD k 0) b c r B w I _ hS hp (by have := hsub.1; simp at this; omega) ht.1 (by omega) (by have := unset_le hsub; omega)) ?_
   clear hS
   rintro _ w ⟨rfl, hS⟩
   replace hS := hS.pick 1 rfl; try dsimp only [List.eraseIdx] at hS
   refine .nil (.region (.run 2 rfl ⟨⟨by omega, by omega⟩, trivial⟩ (.nil ?_)))
   refine ⟨k + 1, ⟨rfl, rfl, rfl, rfl, rfl, rfl, rfl, trivial⟩, ⟨by omega, ?_⟩, by omega⟩
   rw [take_fold _ _ _ _ 0 (by omega), ← hS1]; exact hS
  have hc27 := hb27; try simp only [Gk.cs0] at hc27
  refine .exit (.seq (.region (.val (.fieldAddr 0 (.of rfl) Tryz.underlying224 rfl rfl Tryz.sizeOf5 rfl) rfl (.val (.ld (.of rfl) hS (k := 0) rfl Tryz.isAgg5 rfl) rfl (.run 2 rfl trivial (.gval rfl rfl (fun hg1 => (.fieldAddr 0 (.of rfl) Tryz.underlying224 rfl rfl Tryz.sizeOf5 rfl)) rfl (.gval rfl rfl (fun hg1 => (.ld (.gd hg1 rfl) hS (k := 0) rfl Tryz.isAgg5 rfl)) rfl (.gval rfl rfl (fun hg1 => (.eql (.gd hg1 rfl) (.of rfl))) rfl (.val (.por (.of rfl) (.of rfl) (.of rfl)) rfl (.run 1 rfl trivial (.gval rfl rfl (fun hg1 => (.fieldAddr 0 (.of rfl) Tryz.underlying224 rfl rfl Tryz.sizeOf5 rfl)) rfl (.gval rfl rfl (fun hg1 => (.ld (.gd hg1 rfl) hS (k := 0) rfl Tryz.isAgg5 rfl)) rfl (.gval rfl rfl (fun hg1 => (.eql (.gd hg1 rfl) (.of rfl))) rfl (.val (.por (.of rfl) (.of rfl) (.of rfl)) rfl (.run 1 rfl trivial (.gval rfl rfl (fun hg1 => (.fieldAddr 0 (.of rfl) Tryz.underlying224 rfl rfl Tryz.sizeOf5 rfl)) rfl (.gval rfl rfl (fun hg1 => (.ld (.gd hg1 rfl) hS (k := 0) rfl Tryz.isAgg5 rfl)) rfl (.gval rfl rfl (fun hg1 => (.eql (.gd hg1 rfl) (.of rfl))) rfl (.val (.por (.of rfl) (.of rfl) (.of rfl)) rfl (.nil ?_))))))))))))))))))))
  refine WC.cond rfl (fun hb52 => ?_) (fun hb52 => ?_)
  ·
   have hc52 := hb52; try simp only [Gk.cs0] at hc52
   refine .region (.run 4 rfl ⟨⟨by omega, by omega⟩, trivial⟩ ?_)
   replace hS := hS.drop (k := 0) rfl; try dsimp only [List.eraseIdx] at hS
   rw [List.take_of_length_le (by omega)] at hS1
   have hsk : skips (Q.getD i.toNat (7, 0, [])).1 = true := hb52
   have hnx := (hW.at_ (i := i.toNat) (by omega)).2.1 hsk
   refine WL.call Tryz.func165 rfl (evs_cons (.of rfl) (evs_cons (.of rfl) (evs_cons (.of rfl) evs_nil))) rfl (ih S1 (i + 1) b c r B w I _ hS hp (by have := hsub.1; simp at this; omega) (by omega) (by omega) (by have := unset_le hsub; omega)) ?_
   clear hS
   rintro _ w ⟨rfl, hS⟩
   refine .nil (end0 Tryz.results165 ?_)
   refine ⟨_, rfl, rfl, ?_⟩
   rw [addP, hc12, hsk]; simp only [cond_true, cond_false]; rw [← hS1]; rw [show (i + 1).toNat = i.toNat + 1 by omega] at hS; exact hS
  have hc52 := hb52; try simp only [Gk.cs0] at hc52
  refine .skip (end0 Tryz.results165 ?_)
  have hsk : skips (Q.getD i.toNat (7, 0, [])).1 = false := hb52
  replace hS := hS.drop (k := 0) rfl; try dsimp only [List.eraseIdx] at hS
  rw [List.take_of_length_le (by omega)] at hS1
  refine ⟨_, rfl, rfl, ?_⟩
  rw [addP, hc12, hsk]; simp only [cond_true, cond_false]; rw [← hS1]; exact hS
theorem fits_any (k c : Int) (b : UInt8) (v : Value) (B w : World) (I : Im) (As : List Assn) (hS : Sat B w I As) :
  Calls Tryz.prog 166 [.agg [.int .u8 k, .int .u8 c, v].toArray, U8 b.toNat].toArray w (Ret fun v w' => v = .bool (fitsP k c b) ∧ Sat B w' I As) := by
 refine calls Tryz.func166 rfl Tryz.ntmps166 rfl (.seq (.region (.boxA (cs := [_, _, _]) hS (.of rfl) rfl ?_)))
 clear hS; intro b2 w hS
 refine .run 1 rfl trivial (.nil (.seq (.seq (.region (.val (.fieldAddr 0 (.of rfl) Tryz.underlying224 rfl rfl Tryz.sizeOf5 rfl) rfl (.val (.ld (.of rfl) hS (k := 0) rfl Tryz.isAgg5 rfl) rfl (.nil (.block (.seq (.region (.run 2 rfl trivial (.nil ?_))))))))))))
 refine WC.cond rfl (fun hb7 => ?_) (fun hb7 => ?_)
 ·
  have hc7 := hb7; try simp only [Gk.cs0] at hc7
  refine .seq (.region (.val (.fieldAddr 1 (.of rfl) Tryz.underlying224 rfl rfl Tryz.sizeOf5 rfl) rfl (.val (.ld (.of rfl) hS (k := 0) rfl Tryz.isAgg5 rfl) rfl (.run 3 rfl trivial (.nil (.ret (ret1 Tryz.results166 rfl ?_)))))))
  exact ⟨_, rfl, by rw [fitsP, hb7]; rfl, hS.drop (k := 0) rfl⟩
 have hc7 := hb7; try simp only [Gk.cs0] at hc7
 refine .seq (.seq (.region (.run 2 rfl trivial (.nil ?_))))
 refine WC.cond rfl (fun hb13 => ?_) (fun hb13 => ?_)
 ·
  have hc13 := hb13; try simp only [Gk.cs0] at hc13
  refine .skip ?_
  refine WC.cond rfl (fun hb13 => ?_) (fun hb13 => ?_)
  ·
   have hc13 := hb13; try simp only [Gk.cs0] at hc13
   refine .seq (.region (.run 3 rfl trivial (.nil (.ret (ret1 Tryz.results166 rfl ?_)))))
   exact ⟨_, rfl, by rw [fitsP, hb7, hb13]; rfl, hS.drop (k := 0) rfl⟩
  have hc13 := hb13; try simp only [Gk.cs0] at hc13
  refine .skip (.seq (.region (.val (.fieldAddr 0 (.of rfl) Tryz.underlying224 rfl rfl Tryz.sizeOf5 rfl) rfl (.val (.ld (.of rfl) hS (k := 0) rfl Tryz.isAgg5 rfl) rfl (.run 2 rfl trivial (.nil (.ret (ret1 Tryz.results166 rfl ?_))))))))
  exfalso; simp_all
 have hc13 := hb13; try simp only [Gk.cs0] at hc13
 refine .region (.run 2 rfl trivial (.nil ?_))
 refine WC.cond rfl (fun hb13 => ?_) (fun hb13 => ?_)
 ·
  have hc13 := hb13; try simp only [Gk.cs0] at hc13
  refine .seq (.region (.run 3 rfl trivial (.nil (.ret (ret1 Tryz.results166 rfl ?_)))))
  exact ⟨_, rfl, by rw [fitsP, hb7, show (k == 1) = false by assumption, hb13]; rfl, hS.drop (k := 0) rfl⟩
 have hc13 := hb13; try simp only [Gk.cs0] at hc13
 refine .skip (.seq (.region (.val (.fieldAddr 0 (.of rfl) Tryz.underlying224 rfl rfl Tryz.sizeOf5 rfl) rfl (.val (.ld (.of rfl) hS (k := 0) rfl Tryz.isAgg5 rfl) rfl (.run 2 rfl trivial (.nil (.ret (ret1 Tryz.results166 rfl ?_))))))))
 exact ⟨_, rfl, by rw [fitsP, hb7, show (k == 1) = false by assumption, hb13]; rfl, hS.drop (k := 0) rfl⟩
set_option maxHeartbeats 1600000 in
theorem run_any (Q : List Pl) (p : Addr) (nn : Nat) (s : List UInt8) (hW : WF Q) (hQ : 0 < Q.length) (hn2 : Q.length ≤ 1000) (hnn : nn ≤ 1000) (hs : s.length ≤ 1000000) (B w : World) (I : Im) (As : List Assn) (hS : Sat B w I As) (hp : PatI I p Q nn) :
  Calls Tryz.prog 128 [.pointer (some p), S s].toArray w (Ret fun v w' => v = .tuple #[.bool ((Pat.run Q s).1.getD (Q.length - 1) false), I64 (min ((Pat.run Q s).2 : Int) (((nn : Int) + 1) * ((s.length : Int) + 1)))] ∧ Sat B w' I As) := by
 refine calls Tryz.func128 rfl Tryz.ntmps128 rfl (.seq (.region (.run 2 rfl trivial (.nil (.scope (.seq ?_))))))
 obtain ⟨la, lc, P, hpA, hlA, hR⟩ := hp.opened (by omega)
 refine .region (.run 2 rfl trivial (.val (.fieldAddrI 0 (.of rfl) Tryz.underlying221 rfl rfl Tryz.sizeOf219 rfl) rfl (.val (.ldI (.of rfl) hS hpA Tryz.isAgg219 rfl) rfl (.run 1 rfl ⟨⟨_, Tryz.underlying219⟩, trivial⟩ ?_))))
 refine WL.make (l := Q.length) hS (.of rfl) (.of rfl) Tryz.underlying217 info4_165 rfl (by simp [Tryz.t4] <;> omega) (by omega) rfl rfl rfl ?_
 clear hS; intro b19 w hS
 refine .run 2 rfl trivial (.nil (.seq (.region (.run 2 rfl trivial ?_))))
 have hun := unset_len (List.replicate Q.length false)
 rw [List.length_replicate] at hun
 replace hS : Sat B w I (blk b19 ((List.replicate Q.length false).map Value.bool ++ []) 4 :: As) := by rw [List.map_replicate, List.append_nil]; exact hS
 refine .call Tryz.func165 rfl (evs_cons (.of rfl) (evs_cons (.of rfl) (evs_cons (.of rfl) evs_nil))) rfl (add_any Q p nn Q.length hW rfl (by omega) (Q.length + 1) (List.replicate Q.length false) 0 b19 _ [] B w I As hS hp (by simp) (by omega) (by omega) (by omega)) ?_
 clear hS
 rintro _ w ⟨rfl, hS⟩
 refine .nil (.seq (.label ?_))
 refine WC.cutS (σ := List Bool × Nat × Nat) (fun ⟨now, steps, bn⟩ => [(0, .pointer (some p)), (1, S s), (6, .slice (some (ad bn 0)) Q.length Q.length), (7, I64 (steps : Nat))]) (fun ⟨now, steps, bn⟩ w => now.length = Q.length ∧ (now, steps) = Pat.run Q s ∧ Sat B w I (blk bn (now.map Value.bool ++ []) 4 :: As)) ?_ ?_
 ·
  refine .seq (.region (.run 3 rfl ⟨Tryz.underlying9, trivial⟩ (.nil (.block ?_))))
  refine WC.loop (σ := List Bool × Nat × Nat × Nat) (fun ⟨now, steps0, bn, i⟩ => [(0, .pointer (some p)), (1, S s), (6, .slice (some (ad bn 0)) Q.length Q.length), (7, I64 (steps0 : Nat)), (24, I64 s.length), (25, I64 (i : Nat))]) (fun ⟨now, steps0, bn, i⟩ w => i ≤ s.length ∧ now.length = Q.length ∧ steps0 ≤ 1 + i * 1000 ∧ runS Q (Q.length + 1) (s.drop i) now steps0 = Pat.run Q s ∧ Sat B w I (blk bn (now.map Value.bool ++ []) 4 :: As)) (fun ⟨now, steps0, bn, i⟩ => s.length - i) (addP Q (Q.length + 1) (List.replicate Q.length false) 0, 1, b19, 0) ⟨rfl, rfl, rfl, rfl, rfl, rfl, trivial⟩ ⟨Nat.zero_le _, by rw [← (addP_sub Q _ _ _).1]; simp, by omega, rfl, hS⟩ ?_
  rintro ⟨now, steps0, bn, i⟩ w ⟨hi, hnow, hsteps, hrun, hS⟩
  change WC _ _ _ _ [(0, .pointer (some p)), (1, S s), (6, .slice (some (ad bn 0)) Q.length Q.length), (7, I64 (steps0 : Nat)), (24, I64 s.length), (25, I64 (i : Nat))] w
  have hit0 := runIter_facts Q (Q.length + 1) (at_ s (i : Int)) now (List.replicate Q.length false, false, steps0)
  refine .seq (.region (.run 1 rfl trivial (.nil (.seq ?_))))
  refine WC.cond rfl (fun hb26 => ?_) (fun hb26 => ?_)
  ·
   have hc26 := hb26; try simp only [Gk.cs0] at hc26
   refine .skip (.seq (.block (.seq (.region (.run 2 rfl trivial (.nil (.seq (.region (.run 2 rfl trivial (.val (.fieldAddrI 0 (.of rfl) Tryz.underlying221 rfl rfl Tryz.sizeOf219 rfl) rfl (.val (.ldI (.of rfl) hS hpA Tryz.isAgg219 rfl) rfl (.run 1 rfl ⟨⟨_, Tryz.underlying219⟩, trivial⟩ ?_))))))))))))
   refine WL.make (l := Q.length) hS (.of rfl) (.of rfl) Tryz.underlying217 info4_165 rfl (by simp [Tryz.t4] <;> omega) (by omega) rfl rfl rfl ?_
   clear hS; intro b33 w hS
   refine .run 2 rfl trivial (.nil (.seq (.seq (.region (.run 3 rfl ⟨⟨_, Tryz.underlying217⟩, trivial⟩ (.nil (.block ?_)))))))
   refine WC.loop (σ := List Bool × Bool × Nat × Nat) (fun ⟨next, any, steps, k⟩ => [(0, .pointer (some p)), (1, S s), (7, I64 (steps : Nat)), (8, I64 (i : Nat)), (9, .slice (some (ad b33 0)) Q.length Q.length), (10, .bool any), (24, I64 s.length), (25, I64 (i : Nat)), (34, .slice (some (ad bn 0)) Q.length Q.length), (35, I64 Q.length), (36, I64 (k : Nat))]) (fun ⟨next, any, steps, k⟩ w => k ≤ Q.length ∧ iter (runAt Q (Q.length + 1) (at_ s (i : Int)) now) (List.replicate Q.length false, false, steps0) k = (next, any, steps) ∧ Sat B w I (blk b33 (next.map Value.bool ++ []) 4 :: blk bn (now.map Value.bool ++ []) 4 :: As)) (fun ⟨next, any, steps, k⟩ => Q.length - k) (List.replicate Q.length false, false, steps0, 0) ⟨rfl, rfl, rfl, rfl, rfl, rfl, rfl, rfl, rfl, rfl, rfl, trivial⟩ ⟨Nat.zero_le _, rfl, by rw [List.map_replicate, List.append_nil]; exact hS⟩ ?_
   rintro ⟨next, any, steps, k⟩ w ⟨hk, hit, hS⟩
   change WC _ _ _ _ [(0, .pointer (some p)), (1, S s), (7, I64 (steps : Nat)), (8, I64 (i : Nat)), (9, .slice (some (ad b33 0)) Q.length Q.length), (10, .bool any), (24, I64 s.length), (25, I64 (i : Nat)), (34, .slice (some (ad bn 0)) Q.length Q.length), (35, I64 Q.length), (36, I64 (k : Nat))] w
   have hit1 := hit0 k
   rw [hit] at hit1; simp only [List.length_replicate] at hit1
   refine .seq (.region (.run 1 rfl trivial (.nil (.seq ?_))))
   refine WC.cond rfl (fun hb37 => ?_) (fun hb37 => ?_)
   ·
    have hc37 := hb37; try simp only [Gk.cs0] at hc37
    refine .skip (.seq (.block (.seq (.region (.run 1 rfl trivial (.val (.indexAddr (.of rfl) (.of rfl) (by omega) (by omega) Tryz.underlying217 Tryz.sizeOf4) rfl (.val (.ldE .bool now false [] (.of rfl) hS (k := 1) rfl rfl Tryz.isAgg4 (by omega) (by omega)) rfl (.run 2 rfl trivial (.nil (.seq (.seq (.region (.run 2 rfl trivial (.nil ?_))))))))))))))
    refine WC.cond rfl (fun hb42 => ?_) (fun hb42 => ?_)
    ·
     have hc42 := hb42; try simp only [Gk.cs0] at hc42
     refine .exit (.region (.run 2 rfl ⟨⟨by omega, by omega⟩, trivial⟩ (.nil ?_)))
     have hb42x : now.getD k false = false := by simpa using hb42
     have e9 : runAt Q (Q.length + 1) (at_ s (i : Int)) now (next, any, steps) k = (next, any, steps) := by rw [runAt, hb42x]; rfl
     refine ⟨(next, any, steps, k + 1), ⟨rfl, rfl, rfl, rfl, rfl, rfl, rfl, rfl, rfl, rfl, rfl, trivial⟩, ⟨by omega, by rw [iter, hit, e9], hS⟩, by dsimp only; omega⟩
    have hc42 := hb42; try simp only [Gk.cs0] at hc42
    refine .skip (.seq (.region (.run 3 rfl ⟨⟨by omega, by omega⟩, trivial⟩ (.nil (.seq ?_)))))
    have hnk : now.getD k false = true := by simpa using hb42
    obtain ⟨xa, xc, hx, _⟩ := hR.at_ (i := k) (by omega)
    refine .region (.run 2 rfl trivial (.val (.fieldAddrI 0 (.of rfl) Tryz.underlying221 rfl rfl Tryz.sizeOf219 rfl) rfl (.val (.ldI (.of rfl) hS hpA Tryz.isAgg219 rfl) rfl (.run 1 rfl trivial (.val (.indexAddrI (.of rfl) (.of rfl) (by omega) (by omega) Tryz.underlying219 Tryz.sizeOf224) rfl (.val (.ldsI (us := [_, _, _]) (.of rfl) hS (Pat.At.place hlA hx) Tryz.isAgg224 Tryz.sizeOf224 rfl (fun _ _ h => h)) rfl (.allocA (cs := [_, _, _]) hS Tryz.zeroValue224 rfl ?_)))))))
    clear hS; intro b13 w hS
    refine .stA hS (k := 0) rfl (.of rfl) (.of rfl) rfl Tryz.sizeOf224 rfl (by simp) ?_
    clear hS; intro w hS; try dsimp only [List.set] at hS
    refine .nil (.seq (.seq (.quiet (by kernel_rfl) (by kernel_rfl) hS (.val (fun w hS => .lds (vs := [.int .u8 (Q.getD k (7, 0, [])).1, .int .u8 (Q.getD k (7, 0, [])).2.1, .slice xa (Q.getD k (7, 0, [])).2.2.length xc]) (.of rfl) hS (k := 0) rfl Tryz.isAgg224 Tryz.sizeOf224 rfl (fun j v h => by simpa using h)) rfl (.val (fun w hS => (.move (.of rfl))) rfl (.val (fun w hS => (.move (.of rfl))) rfl (.val (fun w hS => (.index (.of rfl) (.of rfl) (by omega) (by omega) Tryz.underlying9)) rfl (.call Tryz.func166 rfl (evs_cons (.of rfl) (evs_cons (.of rfl) evs_nil)) rfl (fun w hS => fits_any _ _ _ _ _ _ _ _ hS) (.val (fun w hS => (.not (.of rfl))) rfl (.nil ?_))))))))))
    clear hS; intro w hS
    refine WC.cond rfl (fun hb57 => ?_) (fun hb57 => ?_)
    ·
     have hc57 := hb57; try simp only [Gk.cs0] at hc57
     refine .exit (.region (.run 2 rfl ⟨⟨by omega, by omega⟩, trivial⟩ (.nil ?_)))
     have hnk : now.getD k false = true := by simpa using hb42
     have hfk : fitsP (Q.getD k (7, 0, [])).1 (Q.getD k (7, 0, [])).2.1 (at_ s (i : Int)) = false := by simpa using hb57
     replace hS := hS.drop (k := 0) rfl; try dsimp only [List.eraseIdx] at hS
     have e9 : runAt Q (Q.length + 1) (at_ s (i : Int)) now (next, any, steps) k = (next, any, steps + 1) := by rw [runAt, hnk, hfk]; rfl
     refine ⟨(next, any, steps + 1, k + 1), ⟨rfl, rfl, rfl, rfl, rfl, rfl, rfl, rfl, rfl, rfl, rfl, trivial⟩, ⟨by omega, by rw [iter, hit, e9], hS⟩, by dsimp only; omega⟩
    have hc57 := hb57; try simp only [Gk.cs0] at hc57
    refine .skip (.seq (.region (.run 1 rfl trivial (.nil (.seq (.region (.val (.fieldAddr 0 (.of rfl) Tryz.underlying224 rfl rfl Tryz.sizeOf5 rfl) rfl (.val (.ld (.of rfl) hS (k := 0) rfl Tryz.isAgg5 rfl) rfl (.run 2 rfl trivial (.gval rfl rfl (fun hg1 => (.fieldAddr 0 (.of rfl) Tryz.underlying224 rfl rfl Tryz.sizeOf5 rfl)) rfl (.gval rfl rfl (fun hg1 => (.ld (.gd hg1 rfl) hS (k := 0) rfl Tryz.isAgg5 rfl)) rfl (.gval rfl rfl (fun hg1 => (.eql (.gd hg1 rfl) (.of rfl))) rfl (.val (.por (.of rfl) (.of rfl) (.of rfl)) rfl (.nil ?_))))))))))))))
    refine WC.cond rfl (fun hb65 => ?_) (fun hb65 => ?_)
    ·
     have hc65 := hb65; try simp only [Gk.cs0] at hc65
     refine .region (.run 3 rfl trivial ?_)
     have hfk : fitsP (Q.getD k (7, 0, [])).1 (Q.getD k (7, 0, [])).2.1 (at_ s (i : Int)) = true := by simpa using hb57
     replace hS := hS.pick 1 rfl; try dsimp only [List.eraseIdx] at hS
     have hun := unset_len next
     refine .call Tryz.func165 rfl (evs_cons (.of rfl) (evs_cons (.of rfl) (evs_cons (.of rfl) evs_nil))) rfl (add_any Q p nn Q.length hW rfl (by omega) (Q.length + 1) next k b33 _ [] B w I _ hS hp (by omega) (by omega) (by omega) (by omega)) ?_
     clear hS
     rintro _ w ⟨rfl, hS⟩
     refine .nil (.region (.run 2 rfl ⟨⟨by omega, by omega⟩, trivial⟩ (.nil ?_)))
     have hst : ((Q.getD k (7, 0, [])).1 == 2 || (Q.getD k (7, 0, [])).1 == 3) = true := hb65
     replace hS := hS.drop (k := 1) rfl; try dsimp only [List.eraseIdx] at hS
     have e9 : runAt Q (Q.length + 1) (at_ s (i : Int)) now (next, any, steps) k = (addP Q (Q.length + 1) next k, true, steps + 1) := by rw [runAt, hnk, hfk, hst]; rfl
     refine ⟨(addP Q (Q.length + 1) next k, true, steps + 1, k + 1), ⟨rfl, rfl, rfl, rfl, rfl, rfl, rfl, rfl, rfl, rfl, rfl, trivial⟩, ⟨by omega, by rw [iter, hit, e9], hS⟩, by dsimp only; omega⟩
    have hc65 := hb65; try simp only [Gk.cs0] at hc65
    refine .region (.run 4 rfl ⟨⟨by omega, by omega⟩, trivial⟩ ?_)
    have hfk : fitsP (Q.getD k (7, 0, [])).1 (Q.getD k (7, 0, [])).2.1 (at_ s (i : Int)) = true := by simpa using hb57
    have hk7 := (hW.at_ (i := k) (by omega)).2.2.2.1 (fun e => by rw [e, fitsP] at hfk; simp at hfk)
    replace hS := hS.pick 1 rfl; try dsimp only [List.eraseIdx] at hS
    have hun := unset_len next
    refine .call Tryz.func165 rfl (evs_cons (.of rfl) (evs_cons (.of rfl) (evs_cons (.of rfl) evs_nil))) rfl (add_any Q p nn Q.length hW rfl (by omega) (Q.length + 1) next (k + 1) b33 _ [] B w I _ hS hp (by omega) (by omega) (by omega) (by omega)) ?_
    clear hS
    rintro _ w ⟨rfl, hS⟩
    refine .nil (.region (.run 2 rfl ⟨⟨by omega, by omega⟩, trivial⟩ (.nil ?_)))
    have hst : ((Q.getD k (7, 0, [])).1 == 2 || (Q.getD k (7, 0, [])).1 == 3) = false := hb65
    replace hS := hS.drop (k := 1) rfl; try dsimp only [List.eraseIdx] at hS
    have e9 : runAt Q (Q.length + 1) (at_ s (i : Int)) now (next, any, steps) k = (addP Q (Q.length + 1) next (k + 1), true, steps + 1) := by rw [runAt, hnk, hfk, hst]; rfl
    refine ⟨(addP Q (Q.length + 1) next (k + 1), true, steps + 1, k + 1), ⟨rfl, rfl, rfl, rfl, rfl, rfl, rfl, rfl, rfl, rfl, rfl, trivial⟩, ⟨by omega, by rw [iter, hit, e9], hS⟩, by dsimp only; omega⟩
   have hc37 := hb37; try simp only [Gk.cs0] at hc37
   refine .exit (.seq (.region (.run 2 rfl trivial (.nil (.seq (.region (.run 2 rfl trivial (.nil ?_))))))))
   refine WC.cond rfl (fun hb78 => ?_) (fun hb78 => ?_)
   ·
    have hc78 := hb78; try simp only [Gk.cs0] at hc78
    refine .exit ?_
    have hkq : k = Q.length := by omega
    subst hkq
    have hB : runB Q (Q.length + 1) (at_ s (i : Int)) now steps0 = (next, any, steps) := hit
    replace hS := hS.drop (k := 1) rfl; try dsimp only [List.eraseIdx] at hS
    rw [drop_at s (by omega), runS, hB] at hrun
    rw [hc78] at hrun
    exact ⟨(next, steps, b33), ⟨rfl, rfl, rfl, rfl, trivial⟩, hit1.1, hrun, hS⟩
   have hc78 := hb78; try simp only [Gk.cs0] at hc78
   refine .skip (.region (.run 2 rfl ⟨⟨by omega, by omega⟩, trivial⟩ (.nil ?_)))
   have hkq : k = Q.length := by omega
   subst hkq
   have hB : runB Q (Q.length + 1) (at_ s (i : Int)) now steps0 = (next, any, steps) := hit
   replace hS := hS.drop (k := 1) rfl; try dsimp only [List.eraseIdx] at hS
   rw [drop_at s (by omega), runS, hB] at hrun
   have hany : any = true := by simpa using hb78
   rw [hany] at hrun
   exact ⟨(next, steps, b33, i + 1), ⟨rfl, rfl, rfl, rfl, rfl, rfl, trivial⟩, ⟨by omega, hit1.1, by omega, hrun, hS⟩, by dsimp only; omega⟩
  have hc26 := hb26; try simp only [Gk.cs0] at hc26
  refine .exit ?_
  rw [List.drop_of_length_le (by omega)] at hrun
  exact ⟨(now, steps0, bn), ⟨rfl, rfl, rfl, rfl, trivial⟩, hnow, hrun, hS⟩
 rintro ⟨now, steps, bn⟩ w ⟨hnow, hrun, hS⟩
 change WC _ _ _ _ [(0, .pointer (some p)), (1, S s), (6, .slice (some (ad bn 0)) Q.length Q.length), (7, I64 (steps : Nat))] w
 refine .seq ?_
 have hm1 : ((nn : Int) + 1) * ((s.length : Int) + 1) ≤ 1001 * 1000001 := Int.mul_le_mul (by omega) (by omega) (by omega) (by omega)
 have hm0 : 0 ≤ ((nn : Int) + 1) * ((s.length : Int) + 1) := Int.mul_nonneg (by omega) (by omega)
 have hmul : In64 (((nn : Int) + 1) * ((s.length : Int) + 1)) := ⟨by omega, by omega⟩
 refine .quiet (by kernel_rfl) (by kernel_rfl) hS (.val (fun w hS => (.move (.of rfl))) rfl (.val (fun w hS => (.move (.of rfl))) rfl (.val (fun w hS => (.nilCheck (.of rfl))) rfl (.val (fun w hS => (.fieldAddrI 0 (.of rfl) Tryz.underlying221 rfl rfl Tryz.sizeOf219 rfl)) rfl (.val (fun w hS => .ldI (.of rfl) hS hpA Tryz.isAgg219 rfl) rfl (.val (fun w hS => (.lenSlice (.of rfl) Tryz.underlying219)) rfl (.val (fun w hS => (.sub (.of rfl) (.of rfl) ⟨by omega, by omega⟩)) rfl (.val (fun w hS => (.indexAddr (.of rfl) (.of rfl) (by omega) (by omega) Tryz.underlying217 Tryz.sizeOf4)) rfl (.val (fun w hS => .ldE .bool now false [] (.of rfl) hS (k := 0) rfl rfl Tryz.isAgg4 (by omega) (by omega)) rfl (.val (fun w hS => (.move (.of rfl))) rfl (.val (fun w hS => (.move (.of rfl))) rfl (.val (fun w hS => (.nilCheck (.of rfl))) rfl (.val (fun w hS => (.fieldAddrI 1 (.of rfl) Tryz.underlying221 rfl rfl Tryz.sizeOf3 rfl)) rfl (.val (fun w hS => .ldI (.of rfl) hS (hpA.add 1) Tryz.isAgg3 rfl) rfl (.val (fun w hS => (.add (.of rfl) (.of rfl) ⟨by omega, by omega⟩)) rfl (.val (fun w hS => (.move (.of rfl))) rfl (.val (fun w hS => (.len (.of rfl) Tryz.underlying9)) rfl (.val (fun w hS => (.add (.of rfl) (.of rfl) ⟨by omega, by omega⟩)) rfl (.val (fun w hS => .mul (.of rfl) (.of rfl) hmul) rfl (.val (fun w hS => (.min2 (.of rfl) (.of rfl))) rfl (.val (fun w hS => (.assign (.of rfl))) rfl (.val (fun w hS => (.assign (.of rfl))) rfl (.nil ?_)))))))))))))))))))))))
 clear hS; intro w hS
 refine .ret (ret2 Tryz.results128 rfl rfl ?_)
 exact ⟨_, rfl, by rw [← hrun, show ((Q.length : Int) - 1).toNat = Q.length - 1 by omega], hS.drop (k := 0) rfl⟩
end Go.Proofs.YtadhiihnnkcagaaGreatDoor
namespace Pat
set_option linter.unusedVariables false
set_option linter.unusedSimpArgs false
open Go Gk
inductive Pt
 | nil
 | lit (k c : Int) (r : Pt)
 | bar (r : Pt)
 | grp (b r : Pt)
namespace Pt
def len : Pt → Nat
 | nil => 0
 | lit _ _ r => len r + 1
 | bar r => len r + 1
 | grp b r => len b + len r + 2
def dep : Pt → Nat
 | nil => 0
 | lit _ _ r => dep r
 | bar r => dep r
 | grp b r => max (dep b + 1) (dep r)
def flat : Pt → Prop
 | nil => True
 | lit _ _ r => flat r
 | bar _ => False
 | grp _ r => flat r
def app : Pt → Pt → Pt
 | nil, q => q
 | lit k c r, q => lit k c (app r q)
 | bar r, q => bar (app r q)
 | grp b r, q => grp b (app r q)
def tos : Pt → Nat → List Int
 | nil, _ => []
 | lit _ _ r, n => tos r (n + 1)
 | bar r, n => ((n : Int) + 1) :: tos r (n + 1)
 | grp b r, n => tos r (n + 2 + len b)
def marks : Pt → Nat → List Nat
 | nil, _ => []
 | lit _ _ r, n => marks r (n + 1)
 | bar r, n => n :: marks r (n + 1)
 | grp b r, n => marks r (n + 2 + len b)
def pls (es : List Int) : Pt → Nat → List Pl
 | nil, _ => []
 | lit k c r, n => (k, c, []) :: pls es r (n + 1)
 | bar r, n => (5, 0, es) :: pls es r (n + 1)
 | grp b r, n => (4, 0, tos b (n + 1)) :: (pls [((n + 1 + len b : Nat) : Int)] b (n + 1) ++ (6, 0, []) :: pls es r (n + 2 + len b))
theorem pls_len : ∀ (p : Pt) (es : List Int) (n : Nat), (pls es p n).length = p.len
 | nil, _, _ => rfl
 | lit _ _ r, es, n => by simp [pls, len, pls_len r]
 | bar r, es, n => by simp [pls, len, pls_len r]
 | grp b r, es, n => by simp [pls, len, pls_len b, pls_len r]; omega
end Pt
open Pt
inductive Rep : List UInt8 → Pt → Prop
 | nil : Rep [] .nil
 | one {l p} : Rep l p → Rep (63 :: l) (.lit 1 0 p)
 | all {l p} : Rep l p → Rep (42 :: 42 :: l) (.lit 2 0 p)
 | few {l p} : l.head? ≠ some 42 → Rep l p → Rep (42 :: l) (.lit 3 0 p)
 | grp {t l b p} : Rep t b → Rep l p → Rep (40 :: (t ++ 41 :: l)) (.grp b p)
 | bar {l p} : Rep l p → Rep (124 :: l) (.bar p)
 | esc {l p} (c : UInt8) : Rep l p → Rep (92 :: c :: l) (.lit 0 (c.toNat : Int) p)
 | byte {l p} (c : UInt8) : c ≠ 63 → c ≠ 42 → c ≠ 40 → c ≠ 124 → c ≠ 41 → c ≠ 92 → Rep l p → Rep (c :: l) (.lit 0 (c.toNat : Int) p)
theorem Rep.app {l m : List UInt8} {p q : Pt} (h : Rep l p) (k : Rep m q) (hs : l.getLast? = some 42 → m.head? ≠ some 42) : Rep (l ++ m) (p.app q) := by
 have sub : ∀ {x : UInt8} {l : List UInt8}, ((x :: l).getLast? = some 42 → m.head? ≠ some 42) → l.getLast? = some 42 → m.head? ≠ some 42 := by
  intro x l h1 h2
  refine h1 ?_
  cases l with
  | nil => simp at h2
  | cons y l => simpa using h2
 have suba : ∀ {t l : List UInt8}, ((t ++ 41 :: l).getLast? = some 42 → m.head? ≠ some 42) → l.getLast? = some 42 → m.head? ≠ some 42 := by
  intro t l h1 h2
  refine h1 ?_
  rw [List.getLast?_append]
  cases l with
  | nil => simp at h2
  | cons y l => simp at h2 ⊢; simp [h2]
 induction h with
 | nil => exact k
 | one _ ih => exact .one (ih (sub hs))
 | all _ ih => exact .all (ih (sub (sub hs)))
 | @few l p h1 _ ih =>
  refine .few ?_ (ih (sub hs))
  cases l with
  | nil => exact hs rfl
  | cons y l => exact h1
 | @grp t l b p hb _ _ ih =>
  have := Rep.grp hb (ih (suba (sub hs)))
  simpa [Pt.app] using this
 | bar _ ih => exact .bar (ih (sub hs))
 | esc c _ ih => exact .esc c (ih (sub (sub hs)))
 | byte c h1 h2 h3 h4 h5 h6 _ ih => exact .byte c h1 h2 h3 h4 h5 h6 (ih (sub hs))
def addm : List PFr → List Nat → List PFr
 | [], _ => []
 | (o, bs) :: r, ms => (o, bs ++ ms) :: r
theorem addm_cons (o : Nat) (bs : List Nat) (r : List PFr) (ms : List Nat) : addm ((o, bs) :: r) ms = (o, bs ++ ms) :: r := rfl
theorem addm_nil (s : List PFr) : addm s [] = s := by cases s <;> simp [addm]
theorem setToL_left {A B : List Pl} {o : Nat} (h : o < A.length) (xs : List Int) : setToL (A ++ B) o xs = setToL A o xs ++ B := by
 unfold setToL
 refine List.ext_getElem? fun i => ?_
 rw [List.getElem?_modify, List.getElem?_append, List.getElem?_append, List.length_modify, List.getElem?_modify]
 by_cases e : o = i
 ·subst e; simp [h]
 ·simp [e]
theorem setToL_last (A : List Pl) (k c : Int) (d xs : List Int) (B : List Pl) : setToL (A ++ (k, c, d) :: B) A.length xs = A ++ (k, c, xs) :: B := by
 unfold setToL
 refine List.ext_getElem? fun i => ?_
 rw [List.getElem?_modify]
 by_cases e : A.length = i
 ·subst e; simp
 ·simp [e]
  rcases Nat.lt_or_ge i A.length with hi | hi
  ·rw [List.getElem?_append_left hi, List.getElem?_append_left hi]
  ·obtain ⟨j, rfl⟩ : ∃ j, i = A.length + (j + 1) := ⟨i - A.length - 1, by omega⟩
   rw [List.getElem?_append_right (by omega), List.getElem?_append_right (by omega)]
   simp
theorem setToL_self {A : List Pl} {o : Nat} {k c : Int} {d : List Int} (h : A[o]? = some (k, c, d)) : setToL A o d = A := by
 unfold setToL
 refine List.ext_getElem? fun i => ?_
 rw [List.getElem?_modify]
 by_cases e : o = i
 ·subst e; simp [h]
 ·simp [e]
theorem setToL_twice (A : List Pl) (o : Nat) (x y : List Int) : setToL (setToL A o x) o y = setToL A o y := by
 unfold setToL
 refine List.ext_getElem? fun i => ?_
 rw [List.getElem?_modify, List.getElem?_modify, List.getElem?_modify]
 by_cases e : o = i
 ·subst e; simp [Option.map_map, Function.comp_def]
 ·simp [e]
theorem setToL_len (A : List Pl) (o : Nat) (x : List Int) : (setToL A o x).length = A.length := by simp [setToL]
theorem closeGo_pls (n o : Nat) : ∀ (p : Pt) (A : List Pl) (k c : Int) (d : List Int), A[o]? = some (k, c, d) →
  closeGo n o (A ++ pls [] p A.length) d (marks p A.length) = setToL A o (d ++ tos p A.length) ++ pls [(n : Int)] p A.length
 | .nil, A, k, c, d, h => by simp [pls, marks, closeGo, tos, setToL_self h]
 | .lit k' c' r, A, k, c, d, h => by
  have ho : o < A.length := (List.getElem?_eq_some_iff.1 h).1
  have ih := closeGo_pls n o r (A ++ [(k', c', [])]) k c d (by rw [List.getElem?_append_left ho]; exact h)
  rw [List.length_append, setToL_left ho] at ih
  simpa [pls, marks, tos] using ih
 | .bar r, A, k, c, d, h => by
  have ho : o < A.length := (List.getElem?_eq_some_iff.1 h).1
  have ih := closeGo_pls n o r (setToL A o (d ++ [(A.length : Int) + 1]) ++ [(5, 0, [(n : Int)])]) k c (d ++ [(A.length : Int) + 1]) (by
   rw [List.getElem?_append_left (by rw [setToL_len]; exact ho)]; simp [setToL, h])
  rw [List.length_append, setToL_len, setToL_left (by rw [setToL_len]; exact ho), setToL_twice] at ih
  rw [marks, closeGo, pls, setToL_left ho]
  have e := setToL_last (setToL A o (d ++ [(A.length : Int) + 1])) 5 0 [] [(n : Int)] (pls [] r (A.length + 1))
  rw [setToL_len] at e
  rw [e]
  simpa [pls, tos] using ih
 | .grp b r, A, k, c, d, h => by
  have ho : o < A.length := (List.getElem?_eq_some_iff.1 h).1
  have ih := closeGo_pls n o r (A ++ ((4, 0, tos b (A.length + 1)) :: (pls [((A.length + 1 + len b : Nat) : Int)] b (A.length + 1) ++ [(6, 0, [])]))) k c d (by rw [List.getElem?_append_left ho]; exact h)
  have e : (A ++ ((4, 0, tos b (A.length + 1)) :: (pls [((A.length + 1 + len b : Nat) : Int)] b (A.length + 1) ++ [(6, 0, [])]))).length = A.length + 2 + len b := by
   simp [pls_len]; omega
  rw [e, setToL_left ho] at ih
  simpa [pls, marks, tos] using ih
theorem hd_app {l rest : List UInt8} (h : l.head? ≠ some 42) (h2 : l = [] → rest.head? ≠ some 42) : (l ++ rest).head? ≠ some 42 := by
 cases l with
 | nil => exact h2 rfl
 | cons y l => exact h
theorem cmpGo_star {l : List UInt8} (h : l.head? ≠ some 42) (i : Int) (Q : List Pl) (stk : List PFr) (ats : List Int) : cmpGo (42 :: l) i Q stk ats = cmpGo l (i + 1) (Q ++ [(3, 0, [])]) stk ats := by
 rw [cmpGo_cons, if_neg (by decide), if_pos (by decide)]
 cases l with
 | nil => rfl
 | cons d r =>
  have hd : ¬ d.toNat = 42 := fun e => h (by rw [List.head?_cons]; exact congrArg _ (UInt8.toNat_inj.1 e))
  simp only [hd, if_false]
theorem ne_toNat {c : UInt8} {n : UInt8} (h : c ≠ n) : ¬ c.toNat = n.toNat := fun e => h (UInt8.toNat_inj.1 e)
theorem cmpGo_rep {l : List UInt8} {p : Pt} (h : Rep l p) : ∀ (rest : List UInt8) (i : Int) (Q : List Pl) (stk : List PFr) (ats : List Int), (l.getLast? = some 42 → rest.head? ≠ some 42) → (p.flat ∨ stk ≠ []) → ats.length = stk.length → stk.length ≤ 4 →
  (p.dep + stk.length ≤ 4 → cmpGo (l ++ rest) i Q stk ats = cmpGo rest (i + l.length) (Q ++ pls [] p Q.length) (addm stk (marks p Q.length)) ats) ∧ (4 < p.dep + stk.length → ∀ X, cmpGo (l ++ rest) i Q stk ats ≠ .ok X) := by
 have sub : ∀ {x : UInt8} {l rest : List UInt8}, ((x :: l).getLast? = some 42 → rest.head? ≠ some 42) → l.getLast? = some 42 → rest.head? ≠ some 42 := by
  intro x l rest h1 h2
  refine h1 ?_
  cases l with
  | nil => simp at h2
  | cons y l => simpa using h2
 have suba : ∀ {t l rest : List UInt8}, ((t ++ 41 :: l).getLast? = some 42 → rest.head? ≠ some 42) → l.getLast? = some 42 → rest.head? ≠ some 42 := by
  intro t l rest h1 h2
  refine h1 ?_
  rw [List.getLast?_append]
  cases l with
  | nil => simp at h2
  | cons y l => simp at h2 ⊢; simp [h2]
 induction h with
 | nil => intro rest i Q stk ats _ _ _ h4; simp [pls, marks, addm_nil, dep]; intro hh; omega
 | @one l p _ ih =>
  intro rest i Q stk ats hs hf ha h4
  have := ih rest (i + 1) (Q ++ [(1, 0, [])]) stk ats (sub hs) hf ha h4
  rw [List.cons_append, cmpGo_cons, if_pos (show (63 : UInt8).toNat = 63 by decide)]
  simpa [pls, marks, dep, Int.add_assoc, Int.add_comm, Int.add_left_comm] using this
 | @all l p _ ih =>
  intro rest i Q stk ats hs hf ha h4
  have := ih rest (i + 2) (Q ++ [(2, 0, [])]) stk ats (sub (sub hs)) hf ha h4
  rw [List.cons_append, cmpGo_cons, if_neg (show ¬ (42 : UInt8).toNat = 63 by decide), if_pos (show (42 : UInt8).toNat = 42 by decide)]
  simp only [List.cons_append]
  rw [if_pos (show (42 : UInt8).toNat = 42 by decide)]
  rw [show i + ((42 :: 42 :: l).length : Nat) = i + 2 + (l.length : Int) by simp; omega]
  simpa [pls, marks, dep] using this
 | @few l p h1 _ ih =>
  intro rest i Q stk ats hs hf ha h4
  have := ih rest (i + 1) (Q ++ [(3, 0, [])]) stk ats (sub hs) hf ha h4
  rw [List.cons_append, cmpGo_star (hd_app h1 fun e => by subst e; exact hs rfl)]
  rw [show i + ((42 :: l).length : Nat) = i + 1 + (l.length : Int) by simp; omega]
  simpa [pls, marks, dep] using this
 | @bar l p _ ih =>
  intro rest i Q stk ats hs hf ha h4
  cases stk with
  | nil => rcases hf with hf | hf; exact hf.elim; exact absurd rfl hf
  | cons f stk =>
   obtain ⟨o, bs⟩ := f
   have := ih rest (i + 1) (Q ++ [(5, 0, [])]) ((o, bs ++ [Q.length]) :: stk) ats (sub hs) (.inr (by simp)) ha h4
   rw [List.cons_append, cmpGo_cons, if_neg (show ¬ (124 : UInt8).toNat = 63 by decide), if_neg (show ¬ (124 : UInt8).toNat = 42 by decide), if_neg (show ¬ (124 : UInt8).toNat = 40 by decide), if_pos (show (124 : UInt8).toNat = 124 by decide)]
   simp only []
   rw [show i + ((124 :: l).length : Nat) = i + 1 + (l.length : Int) by simp; omega]
   simpa [pls, marks, dep, addm] using this
 | @esc l p c _ ih =>
  intro rest i Q stk ats hs hf ha h4
  have := ih rest (i + 2) (Q ++ [(0, (c.toNat : Int), [])]) stk ats (sub (sub hs)) hf ha h4
  rw [List.cons_append, cmpGo_cons, if_neg (show ¬ (92 : UInt8).toNat = 63 by decide), if_neg (show ¬ (92 : UInt8).toNat = 42 by decide), if_neg (show ¬ (92 : UInt8).toNat = 40 by decide), if_neg (show ¬ (92 : UInt8).toNat = 124 by decide), if_neg (show ¬ (92 : UInt8).toNat = 41 by decide), if_pos (show (92 : UInt8).toNat = 92 by decide)]
  simp only [List.cons_append]
  rw [show i + ((92 :: c :: l).length : Nat) = i + 2 + (l.length : Int) by simp; omega]
  simpa [pls, marks, dep] using this
 | @byte l p c h1 h2 h3 h4' h5 h6 _ ih =>
  intro rest i Q stk ats hs hf ha h4
  have := ih rest (i + 1) (Q ++ [(0, (c.toNat : Int), [])]) stk ats (sub hs) hf ha h4
  rw [List.cons_append, cmpGo_cons, if_neg (show ¬ c.toNat = 63 from ne_toNat h1), if_neg (show ¬ c.toNat = 42 from ne_toNat h2), if_neg (show ¬ c.toNat = 40 from ne_toNat h3), if_neg (show ¬ c.toNat = 124 from ne_toNat h4'), if_neg (show ¬ c.toNat = 41 from ne_toNat h5), if_neg (show ¬ c.toNat = 92 from ne_toNat h6)]
  rw [show i + ((c :: l).length : Nat) = i + 1 + (l.length : Int) by simp; omega]
  simpa [pls, marks, dep] using this
 | @grp t l b p _ _ ihb ih =>
  intro rest i Q stk ats hs hf ha h4
  rw [List.cons_append, List.append_assoc, List.cons_append, cmpGo_cons, if_neg (show ¬ (40 : UInt8).toNat = 63 by decide), if_neg (show ¬ (40 : UInt8).toNat = 42 by decide), if_pos (show (40 : UInt8).toNat = 40 by decide)]
  by_cases h5 : stk.length = 4
  ·rw [if_pos h5]
   refine ⟨fun h => ?_, fun _ X h => by cases h⟩
   simp [dep] at h
   omega
  ·rw [if_neg h5]
   have h1 := ihb (41 :: (l ++ rest)) (i + 1) (Q ++ [(4, 0, [])]) ((Q.length, []) :: stk) (ats ++ [i]) (fun _ => by simp) (.inr (by simp)) (by simp [ha]) (by simp; omega)
   by_cases h6 : b.dep + (stk.length + 1) ≤ 4
   ·have h7 := h1.1 (by simpa using h6)
    rw [h7]
    have h8 := ih rest (i + 1 + t.length + 1) (Q ++ ((4, 0, tos b (Q.length + 1)) :: (pls [((Q.length + 1 + len b : Nat) : Int)] b (Q.length + 1) ++ [(6, 0, [])]))) stk ats (suba (sub hs)) hf ha h4
    have hc := closeGo_pls (Q.length + 1 + len b) Q.length b (Q ++ [(4, 0, [])]) 4 0 [] (by simp)
    have hl := setToL_last Q 4 0 [] (tos b (Q.length + 1)) []
    simp only [List.length_append, List.length_singleton, List.nil_append] at hc
    rw [hl] at hc
    rw [cmpGo_cons, if_neg (show ¬ (41 : UInt8).toNat = 63 by decide), if_neg (show ¬ (41 : UInt8).toNat = 42 by decide), if_neg (show ¬ (41 : UInt8).toNat = 40 by decide), if_neg (show ¬ (41 : UInt8).toNat = 124 by decide), if_pos (show (41 : UInt8).toNat = 41 by decide)]
    simp only [addm_cons, List.length_append, List.length_singleton, List.nil_append, pls_len]
    rw [hc]
    have ht : (ats ++ [i]).take stk.length = ats := by rw [← ha]; simp
    rw [ht]
    have e1 : (Q ++ ((4, 0, tos b (Q.length + 1)) :: (pls [((Q.length + 1 + len b : Nat) : Int)] b (Q.length + 1) ++ [(6, 0, [])]))).length = Q.length + 2 + len b := by simp [pls_len]; omega
    rw [e1] at h8
    have e2 : i + ((40 :: (t ++ 41 :: l)).length : Nat) = i + 1 + t.length + 1 + l.length := by simp; omega
    rw [e2]
    have e3 : 4 < (Pt.grp b p).dep + stk.length ↔ 4 < p.dep + stk.length := by simp [dep]; omega
    have e4 : (Pt.grp b p).dep + stk.length ≤ 4 ↔ p.dep + stk.length ≤ 4 := by simp [dep]; omega
    rw [e3, e4]
    simpa [pls, marks] using h8
   ·refine ⟨fun h => ?_, fun _ => h1.2 (by simp; omega)⟩
    simp [dep] at h
    omega
end Pat
namespace Pat
set_option linter.unusedVariables false
set_option linter.unusedSimpArgs false
open Go Gk Pt
inductive Splits : Nat → List UInt8 → Prop
 | last {l p} : Rep l p → p.flat → p.dep ≤ 4 → Splits 0 l
 | more {d t l p} : Rep t p → p.dep + (d + 1) ≤ 4 → Splits d l → Splits (d + 1) (t ++ 41 :: l)
theorem Splits.lit {d : Nat} {l pre : List UInt8} {k c : Int} (h : Splits d l) (hp : ∀ {t p}, (t.head? = some 42 → l.head? = some 42) → Rep t p → Rep (pre ++ t) (.lit k c p)) : Splits d (pre ++ l) := by
 cases h with
 | last h1 h2 h3 => exact .last (hp (fun h => h) h1) h2 h3
 | @more d t l p h1 h2 h3 =>
  rw [← List.append_assoc]
  refine .more (hp ?_ h1) h2 h3
  intro e
  cases t with
  | nil => simp at e
  | cons x t => simpa using e
theorem Splits.grp {d : Nat} {t l : List UInt8} {b : Pt} (h : Splits d l) (h1 : Rep t b) (h2 : b.dep + (d + 1) ≤ 4) : Splits d (40 :: (t ++ 41 :: l)) := by
 cases h with
 | @last _ p k1 k2 k3 => exact .last (.grp h1 k1) k2 (by simp [dep]; omega)
 | @more d t2 l2 p k1 k2 k3 =>
  have := Splits.more (.grp h1 k1) (by simp [dep]; omega) k3
  simpa using this
theorem splits : ∀ (n : Nat) (l : List UInt8) (i : Int) (Q : List Pl) (stk : List PFr) (ats : List Int) (X : List Pl), l.length ≤ n → ats.length = stk.length → stk.length ≤ 4 → cmpGo l i Q stk ats = .ok X → Splits stk.length l
 | n, [], i, Q, stk, ats, X, _, ha, h4, h => by
  rw [cmpGo_nil] at h
  split at h
  ·cases h
  ·have e : stk.length = 0 := by omega
   rw [e]; exact .last .nil trivial (by simp [dep])
 | 0, c :: l, _, _, _, _, _, hn, _, _, _ => by simp at hn
 | n + 1, c :: l, i, Q, stk, ats, X, hn, ha, h4, h => by
  have hn' : l.length ≤ n := by simpa using hn
  rw [cmpGo_cons] at h
  split at h
  ·rename_i e
   have e : c = 63 := UInt8.toNat_inj.1 e
   subst e
   exact (splits n l _ _ stk ats X hn' ha h4 h).lit (pre := [63]) fun _ hr => .one hr
  split at h
  ·rename_i e
   have e : c = 42 := UInt8.toNat_inj.1 e
   subst e
   cases l with
   | nil => exact (splits n [] _ _ stk ats X hn' ha h4 h).lit (pre := [42]) fun {t p} hd hr => .few (fun e => by have := hd e; simp at this) hr
   | cons d r =>
    simp only at h
    split at h
    ·rename_i e2
     have e2 : d = 42 := UInt8.toNat_inj.1 e2
     subst e2
     exact (splits n r _ _ stk ats X (by simp at hn'; omega) ha h4 h).lit (pre := [42, 42]) fun _ hr => .all hr
    ·rename_i e2
     exact (splits n (d :: r) _ _ stk ats X hn' ha h4 h).lit (pre := [42]) fun {t p} hd hr => .few (fun e => by have := hd e; simp at this; subst this; exact e2 (by decide)) hr
  split at h
  ·rename_i e
   have e : c = 40 := UInt8.toNat_inj.1 e
   subst e
   split at h
   ·cases h
   ·rename_i h5
    have hs := splits n l _ _ ((Q.length, []) :: stk) (ats ++ [i]) X hn' (by simp [ha]) (by simp; omega) h
    generalize hm : ((Q.length, []) :: stk : List PFr).length = m at hs
    simp only [List.length_cons] at hm
    cases hs with
    | last => omega
    | @more d t l b h1 h2 h3 =>
     have hd : d = stk.length := by omega
     subst hd
     exact h3.grp h1 h2
  split at h
  ·rename_i e
   have e : c = 124 := UInt8.toNat_inj.1 e
   subst e
   cases stk with
   | nil => cases h
   | cons f stk =>
    obtain ⟨o, bs⟩ := f
    have hs := splits n l _ _ ((o, bs ++ [Q.length]) :: stk) ats X hn' ha h4 h
    cases hs with
    | more h1 h2 h3 => exact Splits.more (t := 124 :: _) (.bar h1) h2 h3
  split at h
  ·rename_i e
   have e : c = 41 := UInt8.toNat_inj.1 e
   subst e
   cases stk with
   | nil => cases h
   | cons f stk =>
    obtain ⟨o, bs⟩ := f
    have hs := splits n l _ _ stk _ X hn' (by simp at ha; simp; omega) (by simp at h4; omega) h
    exact Splits.more (t := []) .nil (by simp [dep] at *; omega) hs
  split at h
  ·rename_i e
   have e : c = 92 := UInt8.toNat_inj.1 e
   subst e
   cases l with
   | nil => cases h
   | cons d r => exact (splits n r _ _ stk ats X (by simp at hn'; omega) ha h4 h).lit (pre := [92, d]) fun _ hr => .esc d hr
  ·rename_i h1 h2 h3 h4' h5 h6
   have ne : ∀ {n : UInt8}, ¬ c.toNat = n.toNat → c ≠ n := fun h e => h (by rw [e])
   exact (splits n l _ _ stk ats X hn' ha h4 h).lit (pre := [c]) fun _ hr => .byte c (ne h1) (ne h2) (ne h3) (ne h4') (ne h5) (ne h6) hr
theorem cmp_ok {l : List UInt8} {Q : List Pl} (h : cmp l = .ok Q) : l.length ≤ 200 ∧ ∃ p, Rep l p ∧ p.flat ∧ p.dep ≤ 4 ∧ Q = pls [] p 0 ++ [(7, 0, [])] := by
 unfold cmp at h
 split at h
 ·cases h
 ·rename_i hl
  refine ⟨by omega, ?_⟩
  have hs := splits l.length l 0 [] [] [] Q (Nat.le_refl _) rfl (by simp) h
  cases hs with
  | @last _ p h1 h2 h3 =>
   refine ⟨p, h1, h2, h3, ?_⟩
   have h5 := (cmpGo_rep h1 [] 0 [] [] [] (fun _ => by simp) (.inl h2) rfl (by simp)).1 (by simpa using h3)
   rw [List.append_nil, h, cmpGo_nil] at h5
   simpa using h5
theorem cmpGo_chk : ∀ (n : Nat) (l : List UInt8) (i : Int) (Q : List Pl) (stk : List PFr) (o : List Int), l.length ≤ n → o.length = stk.length →
  (∀ e, cmpGo l i Q stk o = .error e → chkGo l i o = e ∧ e.1 ≠ 0) ∧ (∀ X, cmpGo l i Q stk o = .ok X → chkGo l i o = (0, 0))
 | n, [], i, Q, stk, o, _, ho => by
  rw [cmpGo_nil, chkGo_nil]
  split
  ·exact ⟨fun e h => by injection h with h; subst h; exact ⟨rfl, by simp⟩, fun X h => by cases h⟩
  ·exact ⟨fun e h => (by cases h), fun X h => rfl⟩
 | 0, c :: l, _, _, _, _, hn, _ => by simp at hn
 | n + 1, c :: l, i, Q, stk, o, hn, ho => by
  have hn' : l.length ≤ n := by simpa using hn
  rw [cmpGo_cons, chkGo_cons]
  by_cases h63 : c.toNat = 63
  ·rw [if_pos h63, if_neg (by omega), if_neg (by omega), if_neg (by omega), if_neg (by omega)]
   exact cmpGo_chk n l _ _ stk o hn' ho
  rw [if_neg h63]
  by_cases h42 : c.toNat = 42
  ·rw [if_pos h42, if_neg (by omega), if_neg (by omega), if_neg (by omega), if_neg (by omega)]
   cases l with
   | nil => exact cmpGo_chk n [] _ _ stk o hn' ho
   | cons d r =>
    simp only
    by_cases hd : d.toNat = 42
    ·rw [if_pos hd, chkGo_cons, if_neg (by omega), if_neg (by omega), if_neg (by omega), if_neg (by omega), show i + 1 + 1 = i + 2 by omega]
     exact cmpGo_chk n r _ _ stk o (by simp at hn'; omega) ho
    ·rw [if_neg hd]
     exact cmpGo_chk n (d :: r) _ _ stk o hn' ho
  rw [if_neg h42]
  by_cases h40 : c.toNat = 40
  ·rw [if_pos h40, if_pos h40, ← ho]
   by_cases h4 : o.length = 4
   ·rw [if_pos h4, if_pos h4]
    exact ⟨fun e h => by injection h with h; subst h; exact ⟨rfl, by simp⟩, fun X h => by cases h⟩
   ·rw [if_neg h4, if_neg h4]
    exact cmpGo_chk n l _ _ _ (o ++ [i]) hn' (by simp [ho])
  rw [if_neg h40, if_neg h40]
  by_cases h124 : c.toNat = 124
  ·rw [if_pos h124, if_neg (by omega), if_pos h124]
   cases stk with
   | nil => rw [if_pos (by simpa using ho)]; exact ⟨fun e h => by injection h with h; subst h; exact ⟨rfl, by simp⟩, fun X h => by cases h⟩
   | cons f stk =>
    rw [if_neg (by simp at ho; omega)]
    exact cmpGo_chk n l _ _ _ o hn' ho
  rw [if_neg h124, if_neg h124]
  by_cases h41 : c.toNat = 41
  ·rw [if_pos h41, if_pos h41]
   cases stk with
   | nil => rw [if_pos (by simpa using ho)]; exact ⟨fun e h => by injection h with h; subst h; exact ⟨rfl, by simp⟩, fun X h => by cases h⟩
   | cons f stk =>
    obtain ⟨fo, fb⟩ := f
    simp only [List.length_cons] at ho ⊢
    rw [if_neg (by omega), show stk.length = o.length - 1 by omega]
    exact cmpGo_chk n l _ _ _ _ hn' (by simp; omega)
  rw [if_neg h41, if_neg h41]
  by_cases h92 : c.toNat = 92
  ·rw [if_pos h92, if_pos h92]
   cases l with
   | nil => exact ⟨fun e h => by injection h with h; subst h; exact ⟨rfl, by simp⟩, fun X h => by cases h⟩
   | cons d r => exact cmpGo_chk n r _ _ stk o (by simp at hn'; omega) ho
  rw [if_neg h92, if_neg h92]
  exact cmpGo_chk n l _ _ stk o hn' ho
end Pat
namespace Pat
set_option linter.unusedVariables false
set_option linter.unusedSimpArgs false
open Go Gk Pt
def Succ (Q : List Pl) (i j : Nat) : Prop := (skips (Q.getD i (7, 0, [])).1 = true ∧ j = i + 1) ∨ (∃ t ∈ (Q.getD i (7, 0, [])).2.2, j = t.toNat)
def Cl (Q : List Pl) (a b : List Bool) : Prop := SubB a b ∧ ∀ x, b.getD x false = true → a.getD x false = false → ∀ y, Succ Q x y → b.getD y false = true
theorem Cl.refl (Q : List Pl) (a : List Bool) : Cl Q a a := ⟨SubB.refl a, fun x h k => by rw [h] at k; cases k⟩
theorem Cl.trans {Q : List Pl} {a b c : List Bool} (h : Cl Q a b) (k : Cl Q b c) : Cl Q a c := by
 refine ⟨h.1.trans k.1, fun x hx hn y hy => ?_⟩
 cases hb : b.getD x false with
 | true => exact k.1.2 y (h.2 x hb hn y hy)
 | false => exact k.2 x hx hb y hy
def Closed (Q : List Pl) (s : List Bool) : Prop := ∀ x, s.getD x false = true → ∀ y, Succ Q x y → s.getD y false = true
theorem Closed.cl {Q : List Pl} {a b : List Bool} (h : Closed Q a) (k : Cl Q a b) : Closed Q b := by
 intro x hx y hy
 cases ha : a.getD x false with
 | true => exact k.1.2 y (h x ha y hy)
 | false => exact k.2 x hx ha y hy
theorem getD_rep (n x : Nat) : (List.replicate n false).getD x false = false := by
 rw [List.getD_eq_getElem?_getD, List.getElem?_replicate]; split <;> rfl
section
variable {Q : List Pl} (hW : WF Q) {F : Nat} (hF : Q.length < F) (now : List Bool) (c : UInt8)
abbrev tgt (Q : List Pl) (i : Nat) : Nat := bif ((Q.getD i (7, 0, [])).1 == 2) || ((Q.getD i (7, 0, [])).1 == 3) then i else i + 1
end
def End7 (Q : List Pl) : Prop := 0 < Q.length ∧ ∀ j, j < Q.length → ((Q.getD j (7, 0, [])).1 = 7 ↔ j = Q.length - 1)
end Pat
namespace Pat
set_option linter.unusedVariables false
set_option linter.unusedSimpArgs false
open Go Gk Pt
abbrev Lang := List UInt8 → Prop
def cat (A B : Lang) : Lang := fun s => ∃ u v, s = u ++ v ∧ A u ∧ B v
namespace Pt
def ok : Pt → Prop
 | nil => True
 | lit k _ r => (0 ≤ k ∧ k ≤ 3) ∧ ok r
 | bar r => ok r
 | grp b r => ok b ∧ ok r
end Pt
theorem Rep.ok {l : List UInt8} {p : Pt} (h : Rep l p) : p.ok := by
 induction h with
 | nil => trivial
 | one _ ih => exact ⟨⟨by decide, by decide⟩, ih⟩
 | all _ ih => exact ⟨⟨by decide, by decide⟩, ih⟩
 | few _ _ ih => exact ⟨⟨by decide, by decide⟩, ih⟩
 | grp _ _ h1 h2 => exact ⟨h1, h2⟩
 | bar _ ih => exact ih
 | esc c _ ih => exact ⟨⟨by decide, by decide⟩, ih⟩
 | byte c _ _ _ _ _ _ _ ih => exact ⟨⟨by decide, by decide⟩, ih⟩
theorem Rep.len {l : List UInt8} {p : Pt} (h : Rep l p) : p.len ≤ l.length := by
 induction h <;> simp [Pt.len] at * <;> omega
theorem tos_len : ∀ (p : Pt) (n : Nat), (tos p n).length ≤ p.len
 | .nil, _ => by simp [tos]
 | .lit _ _ r, n => by have := tos_len r (n + 1); simp [tos, len]; omega
 | .bar r, n => by have := tos_len r (n + 1); simp [tos, len]; omega
 | .grp b r, n => by have := tos_len r (n + 2 + len b); simp [tos, len]; omega
theorem tos_in : ∀ (p : Pt) (n : Nat) (t : Int), t ∈ tos p n → (n : Int) < t ∧ t ≤ n + p.len
 | .nil, _, _, h => by simp [tos] at h
 | .lit _ _ r, n, t, h => by have := tos_in r (n + 1) t h; simp [len]; omega
 | .bar r, n, t, h => by
  simp only [tos, List.mem_cons] at h
  rcases h with rfl | h
  ·simp [len]; omega
  ·have := tos_in r (n + 1) t h; simp [len]; omega
 | .grp b r, n, t, h => by have := tos_in r (n + 2 + len b) t h; simp [len]; omega
theorem pls_all : ∀ (p : Pt) (es : List Int) (n N : Nat), p.ok → n + p.len < N → (∀ t ∈ es, 0 ≤ t ∧ t < (N : Int)) → es.length ≤ N → ∀ q ∈ pls es p n, (∀ t ∈ q.2.2, 0 ≤ t ∧ t < (N : Int)) ∧ (0 ≤ q.1 ∧ q.1 ≤ 6) ∧ q.2.2.length ≤ N
 | .nil, _, _, _, _, _, _, _, q, h => by simp [pls] at h
 | .lit k c r, es, n, N, ho, hl, he, hc, q, h => by
  simp only [len] at hl
  simp only [pls, List.mem_cons] at h
  rcases h with rfl | h
  ·exact ⟨by simp, ⟨ho.1.1, by have := ho.1.2; simp only; omega⟩, by simp⟩
  ·exact pls_all r es (n + 1) N ho.2 (by omega) he hc q h
 | .bar r, es, n, N, ho, hl, he, hc, q, h => by
  simp only [len] at hl
  simp only [pls, List.mem_cons] at h
  rcases h with rfl | h
  ·exact ⟨he, ⟨by simp, by simp⟩, hc⟩
  ·exact pls_all r es (n + 1) N ho (by omega) he hc q h
 | .grp b r, es, n, N, ho, hl, he, hc, q, h => by
  simp only [len] at hl
  simp only [pls, List.mem_cons, List.mem_append] at h
  rcases h with rfl | h | rfl | h
  ·exact ⟨fun t ht => by have := tos_in b (n + 1) t ht; omega, ⟨by simp, by simp⟩, by have := tos_len b (n + 1); simp only; omega⟩
  ·exact pls_all b _ (n + 1) N ho.1 (by omega) (fun t ht => by simp at ht; omega) (by simp; omega) q h
  ·exact ⟨by simp, ⟨by simp, by simp⟩, by simp⟩
  ·exact pls_all r es (n + 2 + len b) N ho.2 (by omega) he hc q h
def placesOf (p : Pt) : List Pl := pls [] p 0 ++ [(7, 0, [])]
theorem placesOf_len (p : Pt) : (placesOf p).length = p.len + 1 := by simp [placesOf, pls_len]
theorem placesOf_wf {p : Pt} (ho : p.ok) : WF (placesOf p) ∧ End7 (placesOf p) := by
 have hl := placesOf_len p
 have hall : ∀ (i : Nat) (q : Pl), (placesOf p)[i]? = some q → (i < p.len ∧ q ∈ pls [] p 0) ∨ (i = p.len ∧ q = (7, 0, [])) := by
  intro i q h
  unfold placesOf at h
  rcases Nat.lt_or_ge i p.len with hi | hi
  ·rw [List.getElem?_append_left (by rw [pls_len]; exact hi)] at h
   exact .inl ⟨hi, List.mem_of_getElem? h⟩
  ·rw [List.getElem?_append_right (by rw [pls_len]; exact hi), pls_len] at h
   by_cases e : i = p.len
   ·subst e; simp at h; exact .inr ⟨rfl, h.symm⟩
   ·rw [List.getElem?_eq_none (by simp; omega)] at h; cases h
 refine ⟨fun i q h => ?_, by omega, fun j hj => ?_⟩
 ·rw [hl]
  rcases hall i q h with ⟨hi, hm⟩ | ⟨hi, rfl⟩
  ·obtain ⟨h1, h2, h3⟩ := pls_all p [] 0 (p.len + 1) ho (by omega) (by simp) (by simp) q hm
   exact ⟨h1, fun _ => by omega, ⟨h2.1, by omega⟩, fun _ => by omega, h3⟩
  ·exact ⟨by simp, by simp [skips], ⟨by simp, by simp⟩, by simp, by simp⟩
 ·have e : (placesOf p)[j]? = some ((placesOf p).getD j (7, 0, [])) := by simp [List.getD_eq_getElem?_getD, hj]
  rcases hall j _ e with ⟨hi, hm⟩ | ⟨hi, e2⟩
  ·obtain ⟨h1, h2, h3⟩ := pls_all p [] 0 (p.len + 1) ho (by omega) (by simp) (by simp) _ hm
   constructor
   ·intro h; omega
   ·intro h; omega
  ·rw [e2]; simp; omega
def Seg (Q : List Pl) (n : Nat) (L : List Pl) : Prop := ∀ (i : Nat) (q : Pl), L[i]? = some q → Q[n + i]? = some q
theorem Seg.head {Q : List Pl} {n : Nat} {q : Pl} {L : List Pl} (h : Seg Q n (q :: L)) : Q[n]? = some q := h 0 q rfl
theorem Seg.tail {Q : List Pl} {n : Nat} {q : Pl} {L : List Pl} (h : Seg Q n (q :: L)) : Seg Q (n + 1) L := fun i x hx => by
 rw [show n + 1 + i = n + (i + 1) by omega]; exact h (i + 1) x (by simpa using hx)
theorem Seg.left {Q : List Pl} {n : Nat} {L M : List Pl} (h : Seg Q n (L ++ M)) : Seg Q n L := fun i x hx => h i x (by rw [List.getElem?_append_left (List.getElem?_eq_some_iff.1 hx).1]; exact hx)
theorem Seg.right {Q : List Pl} {n : Nat} {L M : List Pl} (h : Seg Q n (L ++ M)) : Seg Q (n + L.length) M := fun i x hx => by
 rw [Nat.add_assoc]; exact h (L.length + i) x (by rw [List.getElem?_append_right (by omega)]; simpa using hx)
end Pat
namespace Pat
set_option linter.unusedVariables false
set_option linter.unusedSimpArgs false
open Go Gk Pt
def mat (Q : List Pl) (s : List UInt8) : Bool := (run Q s).1.getD (Q.length - 1) false
end Pat
namespace Pat
set_option linter.unusedVariables false
set_option linter.unusedSimpArgs false
open Go Gk Pt
def mtch (l s : List UInt8) : Bool × Bool := match cmp l with
 | .ok Q => (mat Q s, true)
 | .error _ => (false, false)
end Pat
namespace Pat
set_option linter.unusedVariables false
set_option linter.unusedSimpArgs false
open Go Gk Pt
def seg (s : List UInt8) (i j : Nat) : List UInt8 := (s.drop i).take (j - i)
theorem seg_self (s : List UInt8) (i : Nat) : seg s i i = [] := by simp [seg]
theorem seg_split (s : List UInt8) {i m j : Nat} (h1 : i ≤ m) (h2 : m ≤ j) (hj : j ≤ s.length) : seg s i j = seg s i m ++ seg s m j := by
 unfold seg
 rw [show j - i = (m - i) + (j - m) by omega, List.take_add, List.drop_drop, show i + (m - i) = m by omega]
theorem seg_len (s : List UInt8) {i j : Nat} (hi : i ≤ j) (hj : j ≤ s.length) : (seg s i j).length = j - i := by simp [seg]; omega
theorem seg_cut (s : List UInt8) {i j : Nat} {u v : List UInt8} (hi : i ≤ j) (hj : j ≤ s.length) (h : seg s i j = u ++ v) : u = seg s i (i + u.length) ∧ v = seg s (i + u.length) j ∧ i + u.length ≤ j := by
 have hl := congrArg List.length h
 rw [seg_len s hi hj, List.length_append] at hl
 have hm : i + u.length ≤ j := by omega
 rw [seg_split s (Nat.le_add_right i u.length) hm hj] at h
 have := List.append_inj h (by rw [seg_len s (by omega) (by omega)]; omega)
 exact ⟨this.1.symm, this.2.symm, hm⟩
def EndsAt (s : List UInt8) (fr : List Bool) (L : Lang) (R : List Bool) : Prop := R.length = s.length + 1 ∧ ∀ j, j ≤ s.length → (R.getD j false = true ↔ ∃ i, i ≤ j ∧ fr.getD i false = true ∧ L (seg s i j))
theorem EndsAt.congr {s : List UInt8} {fr R : List Bool} {L M : Lang} (h : EndsAt s fr L R) (e : ∀ u, L u ↔ M u) : EndsAt s fr M R :=
 ⟨h.1, fun j hj => (h.2 j hj).trans ⟨fun ⟨i, a, b, c⟩ => ⟨i, a, b, (e _).1 c⟩, fun ⟨i, a, b, c⟩ => ⟨i, a, b, (e _).2 c⟩⟩⟩
theorem EndsAt.nil {s : List UInt8} {fr : List Bool} (h : fr.length = s.length + 1) : EndsAt s fr (fun u => u = []) fr := by
 refine ⟨h, fun j hj => ⟨fun h => ⟨j, Nat.le_refl _, h, seg_self s j⟩, ?_⟩⟩
 rintro ⟨i, h1, h2, h3⟩
 have := seg_len s h1 hj
 rw [h3] at this
 have e : i = j := by simp at this; omega
 subst e; exact h2
theorem EndsAt.cat {s : List UInt8} {fr R1 R2 : List Bool} {A B : Lang} (h : EndsAt s fr A R1) (k : EndsAt s R1 B R2) : EndsAt s fr (cat A B) R2 := by
 refine ⟨k.1, fun j hj => ?_⟩
 rw [k.2 j hj]
 constructor
 ·rintro ⟨m, h1, h2, h3⟩
  obtain ⟨i, h4, h5, h6⟩ := (h.2 m (by omega)).1 h2
  exact ⟨i, by omega, h5, _, _, seg_split s h4 h1 hj, h6, h3⟩
 ·rintro ⟨i, h1, h2, u, v, h3, h4, h5⟩
  obtain ⟨e1, e2, e3⟩ := seg_cut s h1 hj h3
  refine ⟨i + u.length, e3, (h.2 _ (by omega)).2 ⟨i, by omega, h2, ?_⟩, ?_⟩
  ·rw [← e1]; exact h4
  ·rw [← e2]; exact h5
def orAt (R1 : List Bool) (out : List Bool) (k : Nat) : List Bool := out.set k (out.getD k false || R1.getD k false)
theorem orAt_iter (R1 out : List Bool) : ∀ k, (iter (orAt R1) out k).length = out.length ∧ ∀ j, j < out.length → (iter (orAt R1) out k).getD j false = (out.getD j false || (decide (j < k) && R1.getD j false))
 | 0 => ⟨rfl, fun j _ => by simp [iter]⟩
 | k + 1 => by
  obtain ⟨h1, h2⟩ := orAt_iter R1 out k
  rw [iter]
  unfold orAt at h1 h2 ⊢
  refine ⟨by rw [List.length_set]; exact h1, fun j hj => ?_⟩
  rw [List.getD_eq_getElem?_getD, List.getElem?_set]
  by_cases e : k = j
  ·subst e
   simp only [if_true, h1, hj, Option.getD_some]
   rw [h2 k hj]
   simp
  ·simp only [e, if_false]
   rw [← List.getD_eq_getElem?_getD, h2 j hj]
   have : decide (j < k + 1) = decide (j < k) := by simp; omega
   rw [this]
theorem EndsAt.or {s : List UInt8} {fr R1 R2 : List Bool} {A B : Lang} (h : EndsAt s fr A R1) (k : EndsAt s fr B R2) : EndsAt s fr (fun u => A u ∨ B u) (iter (orAt R2) R1 (s.length + 1)) := by
 obtain ⟨h1, h2⟩ := orAt_iter R2 R1 (s.length + 1)
 refine ⟨h1.trans h.1, fun j hj => ?_⟩
 rw [h2 j (by rw [h.1]; omega), Bool.or_eq_true, Bool.and_eq_true, decide_eq_true_eq, h.2 j hj, k.2 j hj]
 constructor
 ·rintro (⟨i, a, b, c⟩ | ⟨_, i, a, b, c⟩)
  ·exact ⟨i, a, b, .inl c⟩
  ·exact ⟨i, a, b, .inr c⟩
 ·rintro ⟨i, a, b, c | c⟩
  ·exact .inl ⟨i, a, b, c⟩
  ·exact .inr ⟨by omega, i, a, b, c⟩
theorem EndsAt.none (s : List UInt8) (fr : List Bool) : EndsAt s fr (fun _ => False) (List.replicate (s.length + 1) false) :=
 ⟨by simp, fun j hj => ⟨fun h => (by rw [getD_rep] at h; cases h), fun ⟨_, _, _, h⟩ => h.elim⟩⟩
end Pat
namespace Pat
set_option linter.unusedVariables false
set_option linter.unusedSimpArgs false
open Go Gk Pt
inductive Alts : List UInt8 → Pt → Int → List Int → Prop
 | last {t b} (i : Int) : Rep t b → b.flat → Alts t b i []
 | more {t1 b1 t2 b2 ps} (i : Int) : Rep t1 b1 → b1.flat → Alts t2 b2 (i + t1.length + 1) ps → Alts (t1 ++ 124 :: t2) (b1.app (.bar b2)) i ((i + t1.length) :: ps)
theorem Alts.pre {x t : List UInt8} {b : Pt} {i : Int} {ps : List Int} {f : Pt → Pt} (hf : ∀ p, p.flat → (f p).flat) (hfa : ∀ p q, f (p.app q) = (f p).app q) (h : Alts t b (i + x.length) ps) (hp : ∀ {t1 p}, (t1.head? = some 42 → t.head? = some 42) → Rep t1 p → Rep (x ++ t1) (f p)) : Alts (x ++ t) (f b) i ps := by
 cases h with
 | last _ h1 h2 => exact .last i (hp (fun h => h) h1) (hf _ h2)
 | @more t1 b1 t2 b2 ps _ h1 h2 h3 =>
  rw [← List.append_assoc, hfa]
  have e : i + (x.length : Int) + (t1.length : Int) = i + ((x ++ t1).length : Int) := by simp; omega
  rw [e] at h3 ⊢
  refine .more i (hp ?_ h1) (hf _ h2) h3
  intro e
  cases t1 with
  | nil => simp at e
  | cons y t1 => simpa using e
end Pat
namespace Pat
set_option linter.unusedVariables false
set_option linter.unusedSimpArgs false
open Go Gk Pt
def spc (c : UInt8) : Bool := ((((((c.toNat : Int) == 63) || ((c.toNat : Int) == 42)) || ((c.toNat : Int) == 40)) || ((c.toNat : Int) == 41)) || ((c.toNat : Int) == 124)) || ((c.toNat : Int) == 92)
def lit : List UInt8 → List UInt8
 | [] => []
 | c :: l => (bif spc c then [92, c] else [c]) ++ lit l
end Pat
namespace Go.Proofs.YtadhiihnnkcagaaGreatDoor
open Gk Pat
set_option linter.unusedVariables false
set_option linter.unusedSimpArgs false
def z0 : Sv := ⟨0, 0, [], false, false, false, [], []⟩
def right (l : List Sv) : Prop := ∀ s ∈ l, (∃ Q, cmp s.urls = .ok Q) ∧ ∃ Q, cmp s.calls = .ok Q
end Go.Proofs.YtadhiihnnkcagaaGreatDoor
namespace Go.Proofs.YtadhiihnnkcagaaGreatDoor
open Gk Pat
set_option linter.unusedVariables false
set_option linter.unusedSimpArgs false
theorem Clone_any (a : Option Addr) (c : Nat) (l : List (List UInt8)) (hl : l.length ≤ 1000000) (B w : World) (I : Im) (hr : RS I a 1 l.length (l.map S)) (As : List Assn) (hS : Sat B w I As) :
  Calls Tryz.prog 129 [.slice a l.length c].toArray w (Ret fun v w' => ∃ J ra rc, v = .slice ra l.length rc ∧ Le I J ∧ l.length ≤ rc ∧ RS J ra 1 l.length (l.map S) ∧ Sat B w' J As) := by
 have fin : ∀ (v : Value) (w' : World) (n : Nat) (xs : List Value), n = l.length → xs = l.map S → Go.RowKit.Below w.heap.size w w' → w'.ownsRow w.heap.size 9 1 v n xs → ∃ J ra rc, v = .slice ra l.length rc ∧ Le I J ∧ l.length ≤ rc ∧ RS J ra 1 l.length (l.map S) ∧ Sat B w' J As := by
  intro v w' n xs hn hx hb ho
  subst hn; subst hx
  have h2 := hS.grownRow hb ho
  obtain ⟨ra, rc, rfl, h3, _⟩ := h2.vecSlice (k := 0) rfl
  obtain ⟨J, hJ, hRS, hS2⟩ := h2.freezeVec (k := 0) rfl
  exact ⟨J, ra, rc, rfl, hJ, h3, hRS, hS2⟩
 cases a with
 | none =>
  have h0 : l = [] := by
   rcases Nat.eq_zero_or_pos l.length with h | h
   ·exact List.eq_nil_of_length_eq_zero h
   ·obtain ⟨p, hp, _⟩ := hr.2 h; cases hp
  subst h0
  refine (Tryz.slices_Clone_string_nil 0 c w).mono fun e w' he => ?_
  obtain ⟨rfl, rfl⟩ := he
  exact ⟨_, rfl, I, none, 0, rfl, Le.refl _, Nat.le_refl _, RS.nil _ _, hS⟩
 | some p =>
  rcases Nat.eq_zero_or_pos l.length with h | h
  ·have h0 := List.eq_nil_of_length_eq_zero h
   subst h0
   refine (Tryz.slices_Clone_string_zero p c w).mono fun e w' he => ?_
   obtain ⟨v', rfl, ho, _, hb⟩ := he
   exact ⟨_, rfl, fin v' w' 0 [] rfl rfl hb ho⟩
  ·obtain ⟨q, hq, hA⟩ := hr.2 h
   injection hq with hq
   subst hq
   obtain ⟨b, off, sp⟩ := p
   have hsp : sp = none := hA.1
   subst hsp
   refine (Tryz.slices_Clone_string b off l.length c (l.map fun x => ⟨x.toArray⟩) w (by rw [List.length_map]; exact Nat.le_refl _) (by omega) (fun j hj => ?_)).mono fun e w' he => ?_
   ·rw [List.length_map] at hj
    have h2 := cell_at hS hA (j := j) (v := S (l[j])) (by rw [List.getElem?_map, List.getElem?_eq_getElem hj]; rfl)
    rw [show (⟨b, off, none⟩ : Addr).add j = ⟨b, off + j, none⟩ from add_ad b off j] at h2
    rw [h2, List.getD_eq_getElem?_getD, List.getElem?_map, List.getElem?_eq_getElem hj]
    rfl
   ·obtain ⟨v', rfl, ho, _, hb⟩ := he
    refine ⟨_, rfl, fin v' w' l.length _ rfl ?_ hb ho⟩
    rw [List.take_of_length_le (by rw [List.length_map]; exact Nat.le_refl _), List.map_map]
    rfl
theorem own_svc (s : Sv) (a : Option Addr) (c : Nat) (hrl : s.rel.length ≤ 1000000) (B w : World) (I : Im) (hr : RS I a 1 s.rel.length (s.rel.map S)) (As : List Assn) (hS : Sat B w I As) :
  Calls Tryz.prog 88 [.agg [I64 s.id, F64 s.ord, S s.urls, .bool s.login, .bool s.proxy, .bool s.back, S s.calls, .slice a s.rel.length c].toArray].toArray w (Ret fun v w' => ∃ J cs, Le I J ∧ v = .agg (List.toArray cs) ∧ SvAt J s cs ∧ Sat B w' J As) := by
 refine calls Tryz.func88 rfl Tryz.ntmps88 rfl (.seq (.region (.boxA (cs := [_, _, _, _, _, _, _, _]) hS (.of rfl) rfl ?_)))
 clear hS; intro b1 w hS
 refine .allocA (cs := [_, _, _, _, _, _, _, _]) hS Tryz.zeroValue101 rfl ?_
 clear hS; intro b2 w hS
 refine .nil (.seq (.region (.val (.fieldAddr 7 (.of rfl) Tryz.underlying101 rfl rfl Tryz.sizeOf41 rfl) rfl (.val (.ld (.of rfl) hS (k := 1) rfl Tryz.isAgg41 rfl) rfl (.call Tryz.func129 rfl (evs_cons (.of rfl) evs_nil) rfl (Clone_any a c s.rel hrl B _ I hr _ hS) ?_)))))
 clear hS
 rintro _ w ⟨J, ra, rc, rfl, hJ, hrc, hrr, hS⟩
 refine .val (.fieldAddr 7 (.of rfl) Tryz.underlying101 rfl rfl Tryz.sizeOf41 rfl) rfl (.st1 hS (k := 1) rfl (.of rfl) (.of rfl) rfl Tryz.sizeOf41 (by simp) ?_)
 clear hS; intro w hS; try dsimp only [List.set] at hS
 refine .nil (.seq (.region (.val (.ldsW (cs := [_, _, _, _, _, _, _, _]) (.of rfl) hS (k := 1) rfl Tryz.isAgg101 Tryz.sizeOf101 rfl) rfl (.stA hS (k := 0) rfl (.of rfl) (.of rfl) rfl Tryz.sizeOf101 rfl (by simp) ?_))))
 clear hS; intro w hS; try dsimp only [List.set] at hS
 try simp only [List.take_zero, List.nil_append, List.append_nil, List.drop_succ_cons, List.drop_zero, List.drop_nil, Nat.zero_add] at hS
 refine .nil (.ret (ret1c (b := _) (cs := [_, _, _, _, _, _, _, _]) Tryz.results88 hS (k := 0) rfl Tryz.isAgg101 Tryz.sizeOf101 rfl rfl ?_))
 exact ⟨_, rfl, J, [I64 s.id, F64 s.ord, S s.urls, .bool s.login, .bool s.proxy, .bool s.back, S s.calls, .slice ra s.rel.length rc], hJ, rfl, ⟨ra, rc, rfl, hrc, hrr⟩, (hS.drop (k := 0) rfl).drop (k := 0) rfl⟩
end Go.Proofs.YtadhiihnnkcagaaGreatDoor
namespace Go.Proofs.YtadhiihnnkcagaaGreatDoor
open Gk Pat
set_option linter.unusedVariables false
set_option linter.unusedSimpArgs false
def entCells (s : Sv) (a : Option Addr) (c : Nat) (p q : Addr) : List Value := [I64 s.id, F64 s.ord, S s.urls, .bool s.login, .bool s.proxy, .bool s.back, S s.calls, .slice a s.rel.length c, .pointer (some p), .pointer (some q)]
def EntAt (I : Im) (s : Sv) (l : List Value) : Prop := ∃ a c p q Q R, l = entCells s a c p q ∧ s.rel.length ≤ c ∧ RS I a 1 s.rel.length (s.rel.map S) ∧ cmp s.urls = .ok Q ∧ PatI I p Q s.urls.length ∧ cmp s.calls = .ok R ∧ PatI I q R s.calls.length
def EntsIn (I : Im) (a : Option Addr) (E : List (List Value)) (l : List Sv) : Prop := E.length = l.length ∧ ∀ (i : Nat) (s : Sv), l[i]? = some s → ∃ p c, a = some p ∧ E[i]? = some c ∧ At I (p.add (i * 10)) c ∧ EntAt I s c
def EntsW (w : World) (I : Im) (a : Option Addr) (l : List Sv) : Prop := ∀ (i : Nat) (s : Sv), l[i]? = some s → ∃ p c, a = some p ∧ (∀ (j : Nat) v, c[j]? = some v → w.cell? ((p.add (i * 10)).add j) = some v) ∧ EntAt I s c
theorem EntsIn.now {B w : World} {I : Im} {As : List Assn} {a : Option Addr} {E : List (List Value)} {l : List Sv} (h : EntsIn I a E l) (hS : Sat B w I As) : EntsW w I a l := fun i s hs => by
 obtain ⟨p, c, e, _, h1, h2⟩ := h.2 i s hs
 exact ⟨p, c, e, fun j v hj => cell_at hS h1 hj, h2⟩
theorem ents_vec {B w : World} {I : Im} {As : List Assn} {k T cap : Nat} {a : Option Addr} {E : List (List Value)} {l : List Sv} (hS : Sat B w I As) (hk : As[k]? = some (Vec T 10 (.slice a l.length cap) l.length E.flatten)) (h10 : ∀ c ∈ E, c.length = 10)
  (hE : ∀ (i : Nat) (s : Sv), l[i]? = some s → ∃ c, E[i]? = some c ∧ EntAt I s c) : EntsW w I a l := fun i s hs => by
 obtain ⟨c, hc, he⟩ := hE i s hs
 have hi := (List.getElem?_eq_some_iff.1 hs).1
 obtain ⟨g, cap', rest, hv, _, _, _, _, hS2⟩ := hS.vecOpen hk (by omega)
 injection hv with hv1 hv2 hv3
 have hlk : k < As.length := (List.getElem?_eq_some_iff.1 hk).1
 have hb : w.heap[g]? = some (cellsO (E.flatten ++ rest) T) := hS2.block (k := k) (by simp [hlk, blk])
 refine ⟨⟨g, 0, none⟩, c, hv1, fun j v hj => ?_, he⟩
 have hjl : j < 10 := by
  have h1 := (List.getElem?_eq_some_iff.1 hj).1
  rw [h10 c (List.mem_of_getElem? hc)] at h1
  exact h1
 rw [Addr.add_add, show (⟨g, 0, none⟩ : Addr).add (i * 10 + j) = ad g (0 + (i * 10 + j)) from add_ad g 0 _, Nat.zero_add]
 refine cell_own hb ?_
 have h2 := rowsF_get E h10 i j hjl
 rw [hc] at h2
 have h3 : E.flatten[i * 10 + j]? = some v := h2.trans hj
 rw [List.getElem?_append_left (List.getElem?_eq_some_iff.1 h3).1]
 exact h3
theorem ldsC {P : Program} {n : Nat} {L : Env} {w : World} {ty : TypeId} {pos : String} {af : Array Edge} {g : Option (Nat × Bool)} {t : TypeId} {x : Operand} {d : Option Nat} {p : Addr} {s : Nat} {vs : List Value} (hx : Ev n L x (.pointer (some p))) (hv : ∀ (j : Nat) v, vs[j]? = some v → w.cell? (p.add j) = some v) (ht : ∀ w, (isAgg t).run P w = .ok true w) (hs : ∀ w, (Go.sizeOf t).run P w = .ok s w)
  (hl : vs.length = s) : Ex P n L w ⟨d, .load t x, ty, pos, af, g⟩ (.agg vs.toArray) w := fun a ha => by
 have h := run_loadCells_list (P := P) w p vs hv
 rw [hl] at h
 simp [execOp, hx a ha, Instr.loadAt, Instr.sureAddr, loadVar, ht, hs, h]
def firstI (pr : Sv → Bool) : List Sv → Nat → Int
 | [], _ => -1
 | s :: r, i => if pr s then (i : Int) else firstI pr r (i + 1)
theorem firstI_skip (pr : Sv → Bool) : ∀ (n : Nat) (r : List Sv) (i : Nat), (∀ (j : Nat) s, j < n → r[j]? = some s → pr s = false) → firstI pr r i = firstI pr (r.drop n) (i + min n r.length)
 | 0, r, i, _ => by simp
 | n + 1, [], i, _ => by simp [firstI]
 | n + 1, s :: r, i, h => by
  rw [firstI, if_neg (by rw [h 0 s (by omega) rfl]; decide), firstI_skip pr n r (i + 1) (fun j t hj ht => h (j + 1) t (by omega) (by simpa using ht)), List.drop_succ_cons, List.length_cons]
  congr 1
  omega
theorem firstI_hit {pr : Sv → Bool} {l : List Sv} {i : Nat} {s : Sv} (h : ∀ (j : Nat) t, j < i → l[j]? = some t → pr t = false) (hs : l[i]? = some s) (hp : pr s = true) : firstI pr l 0 = (i : Int) := by
 have hi := (List.getElem?_eq_some_iff.1 hs).1
 rw [firstI_skip pr i l 0 h, Nat.zero_add, Nat.min_eq_left (by omega), List.drop_eq_getElem_cons hi, (List.getElem?_eq_some_iff.1 hs).2, firstI, if_pos hp]
theorem firstI_none {pr : Sv → Bool} {l : List Sv} (h : ∀ (j : Nat) t, l[j]? = some t → pr t = false) : firstI pr l 0 = -1 := by
 rw [firstI_skip pr l.length l 0 (fun j t _ ht => h j t ht), List.drop_length]
 rfl
theorem IndexFunc_any (a : Option Addr) (cap : Nat) (l : List Sv) (hln : l.length ≤ 100000) (pr : Sv → Bool) (fid : FuncId) (fn : Func) (hfn : Tryz.prog.funcs[fid]? = some fn) (hcal : callable fn = true) (capv : List Value) (B w : World) (I : Im) (As : List Assn) (hE : ∀ w, Sat B w I As → EntsW w I a l) (hf : ∀ (s : Sv) (c : List Value), EntAt I s c → ∀ w, Sat B w I As → Calls Tryz.prog fid ([Value.agg c.toArray] ++ capv).toArray w (Ret fun v w' => v = .bool (pr s) ∧ Sat B w' I As)) (hS : Sat B w I As) :
  Calls Tryz.prog 85 [.slice a l.length cap, .func (.func fid) #[] capv.toArray].toArray w (Ret fun v w' => v = I64 (firstI pr l 0) ∧ Sat B w' I As) := by
 refine calls Tryz.func85 rfl Tryz.ntmps85 rfl (.seq (.region (.run 1 rfl trivial (.nil (.seq (.seq (.region (.run 3 rfl ⟨⟨_, Tryz.underlying152⟩, trivial⟩ (.nil (.block (.loop (σ := Nat) (fun i => [(0, .slice a l.length cap), (1, .func (.func fid) #[] capv.toArray), (7, I64 (l.length : Nat)), (8, I64 (i : Nat))]) (fun i w => i ≤ l.length ∧ (∀ (j : Nat) t, j < i → l[j]? = some t → pr t = false) ∧ Sat B w I As) (fun i => l.length - i) 0 ⟨rfl, rfl, rfl, rfl, trivial⟩ ⟨Nat.zero_le _, fun _ _ h => absurd h (by omega), hS⟩ ?_)))))))))))
 rintro i w ⟨hi, hno, hS⟩
 change WC _ _ _ _ [(0, .slice a l.length cap), (1, .func (.func fid) #[] capv.toArray), (7, I64 (l.length : Nat)), (8, I64 (i : Nat))] w
 refine .seq (.region (.run 1 rfl trivial (.nil (.seq ?_))))
 refine WC.cond rfl (fun hb9 => ?_) (fun hb9 => ?_)
 ·
  have hc9 := hb9; try simp only [Gk.cs0] at hc9
  refine .skip (.seq (.block (.seq ?_)))
  obtain ⟨s, hs⟩ : ∃ s, l[i]? = some s := ⟨_, List.getElem?_eq_getElem (by omega)⟩
  obtain ⟨p, c, rfl, hx, he⟩ := hE w hS i s hs
  have he2 := he
  obtain ⟨ra, rc, pp, qq, Q, R, rfl, _⟩ := he2
  unfold entCells at hx he
  refine .region (.run 2 rfl trivial (.nil (.seq (.region (.run 3 rfl trivial (.val (.indexAddrI (.of rfl) (.of rfl) (by omega) (by omega) Tryz.underlying152 Tryz.sizeOf155) rfl (.val (ldsC (.of rfl) hx Tryz.isAgg155 Tryz.sizeOf155 rfl) rfl (.vcall (cap := capv) hfn hcal (.of rfl) (evs_cons (.of rfl) evs_nil) rfl (hf s _ he w hS) ?_))))))))
  clear hS
  rintro _ w ⟨rfl, hS⟩
  refine .nil ?_
  refine WC.cond rfl (fun hb16 => ?_) (fun hb16 => ?_)
  ·
   have hc16 := hb16; try simp only [Gk.cs0] at hc16
   refine .seq (.region (.run 2 rfl trivial (.nil (.ret (ret1 Tryz.results85 rfl ?_)))))
   exact ⟨_, rfl, by rw [firstI_hit hno hs hb16], hS⟩
  have hc16 := hb16; try simp only [Gk.cs0] at hc16
  refine .skip (.region (.run 2 rfl ⟨⟨by omega, by omega⟩, trivial⟩ (.nil ?_)))
  refine ⟨i + 1, ⟨rfl, rfl, rfl, rfl, trivial⟩, ⟨by omega, fun j t hj ht => ?_, hS⟩, by omega⟩
  rcases Nat.lt_or_ge j i with h1 | h1
  ·exact hno j t h1 ht
  ·have e : j = i := by omega
   subst e
   rw [hs] at ht; cases ht
   exact hb16
 have hc9 := hb9; try simp only [Gk.cs0] at hc9
 refine .exit (.seq (.region (.run 1 rfl trivial (.nil (.ret (ret1 Tryz.results85 rfl ?_))))))
 exact ⟨_, rfl, by rw [firstI_none (fun j t ht => hno j t (by have := (List.getElem?_eq_some_iff.1 ht).1; omega) ht)], hS⟩
theorem ContainsFunc_any (a : Option Addr) (cap : Nat) (l : List Sv) (hln : l.length ≤ 100000) (pr : Sv → Bool) (fid : FuncId) (fn : Func) (hfn : Tryz.prog.funcs[fid]? = some fn) (hcal : callable fn = true) (capv : List Value) (B w : World) (I : Im) (As : List Assn) (hE : ∀ w, Sat B w I As → EntsW w I a l) (hf : ∀ (s : Sv) (c : List Value), EntAt I s c → ∀ w, Sat B w I As → Calls Tryz.prog fid ([Value.agg c.toArray] ++ capv).toArray w (Ret fun v w' => v = .bool (pr s) ∧ Sat B w' I As)) (hS : Sat B w I As) :
  Calls Tryz.prog 167 [.slice a l.length cap, .func (.func fid) #[] capv.toArray].toArray w (Ret fun v w' => v = .bool (decide (0 ≤ firstI pr l 0)) ∧ Sat B w' I As) := by
 refine calls Tryz.func167 rfl Tryz.ntmps167 rfl (.seq (.region (.run 1 rfl trivial (.nil (.seq (.region (.run 2 rfl trivial (.call Tryz.func85 rfl (evs_cons (.of rfl) (evs_cons (.of rfl) evs_nil)) rfl (IndexFunc_any a cap l hln pr fid fn hfn hcal capv B _ I As hE hf hS) ?_))))))))
 clear hS
 rintro _ w ⟨rfl, hS⟩
 refine .run 2 rfl trivial (.nil (.ret (ret1 Tryz.results167 rfl ?_)))
 exact ⟨_, rfl, rfl, hS⟩
end Go.Proofs.YtadhiihnnkcagaaGreatDoor
namespace Go.Proofs.YtadhiihnnkcagaaGreatDoor
open Gk Ul Pc Tk Tr
set_option linter.unusedVariables false
set_option linter.unusedSimpArgs false
def rowsR (l : List Rec) : List Value := (l.map recCells).flatten
theorem rowsR_len (l : List Rec) : (rowsR l).length = l.length * 10 := by
 unfold rowsR
 induction l with
 | nil => rfl
 | cons r l ih => rw [List.map_cons, List.flatten_cons, List.length_append, ih, List.length_cons, show (recCells r).length = 10 from rfl]; omega
def RecsW (w : World) (a : Option Addr) (l : List Rec) : Prop := ∀ (i : Nat) (r : Rec), l[i]? = some r → ∃ p, a = some p ∧ (∀ (j : Nat) v, (recCells r)[j]? = some v → w.cell? ((p.add (i * 10)).add j) = some v)
theorem rowsR_get {l : List Rec} {i j : Nat} {r : Rec} {v : Value} (hr : l[i]? = some r) (hj : (recCells r)[j]? = some v) : (rowsR l)[i * 10 + j]? = some v := by
 have h2 := rowsF_get (l.map recCells) (fun c hc => by obtain ⟨x, _, rfl⟩ := List.mem_map.1 hc; rfl) i j (show j < 10 from (List.getElem?_eq_some_iff.1 hj).1)
 rw [List.getElem?_map, hr] at h2
 exact h2.trans hj
theorem recs_vec {B w : World} {I : Im} {As : List Assn} {k T cap : Nat} {a : Option Addr} {l : List Rec} (hS : Sat B w I As) (hk : As[k]? = some (Vec T 10 (.slice a l.length cap) l.length (rowsR l))) : RecsW w a l := fun i r hr => by
 have hi := (List.getElem?_eq_some_iff.1 hr).1
 obtain ⟨g, cap', rest, hv, _, _, _, _, hS2⟩ := hS.vecOpen hk (by omega)
 injection hv with hv1 hv2 hv3
 have hlk : k < As.length := (List.getElem?_eq_some_iff.1 hk).1
 have hb : w.heap[g]? = some (cellsO (rowsR l ++ rest) T) := hS2.block (k := k) (by simp [hlk, blk])
 refine ⟨⟨g, 0, none⟩, hv1, fun j v hj => ?_⟩
 rw [Addr.add_add, show (⟨g, 0, none⟩ : Addr).add (i * 10 + j) = ad g (0 + (i * 10 + j)) from add_ad g 0 _, Nat.zero_add]
 refine cell_own hb ?_
 have h3 := rowsR_get hr hj
 rw [List.getElem?_append_left (List.getElem?_eq_some_iff.1 h3).1]
 exact h3
theorem ldC {P : Program} {n : Nat} {L : Env} {w : World} {ty : TypeId} {pos : String} {af : Array Edge} {g : Option (Nat × Bool)} {t : TypeId} {x : Operand} {d : Option Nat} {p : Addr} {v : Value} (hx : Ev n L x (.pointer (some p))) (hv : w.cell? p = some v) (ht : ∀ w, (isAgg t).run P w = .ok false w) : Ex P n L w ⟨d, .load t x, ty, pos, af, g⟩ v w := fun a hh => by
 simp [execOp, hx a hh, Instr.loadAt, Instr.sureAddr, loadVar, ht, load, Sem.run, hv]
theorem Ex.slNil {P : Program} {n : Nat} {L : Env} {w : World} {ty t' : TypeId} {pos : String} {af : Array Edge} {g : Option (Nat × Bool)} {t e : TypeId} {x y : Operand} {d : Option Nat} {a : Option Addr} {m c : Nat} (hx : Ev n L x (.slice a m c)) (hy : Ev n L y (.slice none 0 0)) (hT : P.underlying t = some (.slice e)) : Ex P n L w ⟨d, .binOp .eql t x y t', ty, pos, af, g⟩ (.bool a.isNone) w :=
 ex_bin hx hy (fun _ _ => by unfold eqGuard; split <;> simp) (run_eql_slice_nil w t e a m c hT)
theorem SepAll.app : ∀ {Xs As : List Assn} {h : GHeap}, SepAll (Xs ++ As) h ↔ ∃ h1 h2, h = h1 ++ h2 ∧ SepAll Xs h1 ∧ SepAll As h2
 | [], As, h => ⟨fun hs => ⟨[], h, rfl, rfl, hs⟩, fun ⟨h1, h2, e, h3, h4⟩ => by
   have h3 : h1 = [] := h3
   subst h3; subst e; exact h4⟩
 | X :: Xs, As, h => by
  constructor
  ·rintro ⟨h1, h2, rfl, hx, hs⟩
   obtain ⟨h3, h4, rfl, h5, h6⟩ := (SepAll.app (Xs := Xs)).1 hs
   exact ⟨h1 ++ h3, h4, by rw [List.append_assoc], ⟨h1, h3, rfl, hx, h5⟩, h6⟩
  ·rintro ⟨h1, h2, rfl, ⟨h3, h4, rfl, hx, h5⟩, h6⟩
   exact ⟨h3, h4 ++ h2, by rw [List.append_assoc], hx, (SepAll.app (Xs := Xs)).2 ⟨h4, h2, rfl, h5, h6⟩⟩
def Box {X : Type} (T : X → List Assn) : Assn := fun h => ∃ x, SepAll (T x) h
theorem Sat.unbox {X : Type} {T : X → List Assn} {B w : World} {I : Im} {As : List Assn} (hS : Sat B w I (Box T :: As)) : ∃ x, Sat B w I (T x ++ As) := by
 obtain ⟨h, ⟨h1, h2, rfl, ⟨x, hx⟩, h3⟩, hg⟩ := hS
 exact ⟨x, h1 ++ h2, SepAll.app.2 ⟨h1, h2, rfl, hx, h3⟩, hg⟩
theorem Sat.box {X : Type} {T : X → List Assn} {B w : World} {I : Im} {As : List Assn} (x : X) (hS : Sat B w I (T x ++ As)) : Sat B w I (Box T :: As) := by
 obtain ⟨h, hs, hg⟩ := hS
 obtain ⟨h1, h2, rfl, h3, h4⟩ := SepAll.app.1 hs
 exact ⟨h1 ++ h2, ⟨h1, h2, rfl, ⟨x, h3⟩, h4⟩, hg⟩
theorem IndexFuncR_any (a : Option Addr) (cap : Nat) (l : List Rec) (hln : l.length ≤ 100000) (pr : Rec → Bool) (fid : FuncId) (fn : Func) (hfn : Tryz.prog.funcs[fid]? = some fn) (hcal : callable fn = true) (capv : List Value) (B w : World) (I : Im) (As : List Assn) (hE : ∀ w, Sat B w I As → RecsW w a l) (hf : ∀ (r : Rec) w, Sat B w I As → Calls Tryz.prog fid ([Value.agg (recCells r).toArray] ++ capv).toArray w (Ret fun v w' => v = .bool (pr r) ∧ Sat B w' I As)) (hS : Sat B w I As) :
  Calls Tryz.prog 109 [.slice a l.length cap, .func (.func fid) #[] capv.toArray].toArray w (Ret fun v w' => v = I64 (firstR pr l 0) ∧ Sat B w' I As) := by
 refine calls Tryz.func109 rfl Tryz.ntmps109 rfl (.seq (.region (.run 1 rfl trivial (.nil (.seq (.seq (.region (.run 3 rfl ⟨⟨_, Tryz.underlying35⟩, trivial⟩ (.nil (.block (.loop (σ := Nat) (fun i => [(0, .slice a l.length cap), (1, .func (.func fid) #[] capv.toArray), (7, I64 (l.length : Nat)), (8, I64 (i : Nat))]) (fun i w => i ≤ l.length ∧ (∀ (j : Nat) t, j < i → l[j]? = some t → pr t = false) ∧ Sat B w I As) (fun i => l.length - i) 0 ⟨rfl, rfl, rfl, rfl, trivial⟩ ⟨Nat.zero_le _, fun _ _ h => absurd h (by omega), hS⟩ ?_)))))))))))
 rintro i w ⟨hi, hno, hS⟩
 change WC _ _ _ _ [(0, .slice a l.length cap), (1, .func (.func fid) #[] capv.toArray), (7, I64 (l.length : Nat)), (8, I64 (i : Nat))] w
 refine .seq (.region (.run 1 rfl trivial (.nil (.seq ?_))))
 refine WC.cond rfl (fun hb9 => ?_) (fun hb9 => ?_)
 ·
  have hc9 := hb9; try simp only [Gk.cs0] at hc9
  refine .skip (.seq (.block (.seq ?_)))
  obtain ⟨r, hr⟩ : ∃ r, l[i]? = some r := ⟨_, List.getElem?_eq_getElem (by omega)⟩
  obtain ⟨p, rfl, hx⟩ := hE w hS i r hr
  refine .region (.run 2 rfl trivial (.nil (.seq (.region (.run 3 rfl trivial ?_)))))
  first | refine WL.val (.indexAddr (.of rfl) (.of rfl) (by omega) (by omega) Tryz.underlying35 Tryz.sizeOf45) rfl ?_ | refine WL.val (.indexAddrI (.of rfl) (.of rfl) (by omega) (by omega) Tryz.underlying35 Tryz.sizeOf45) rfl ?_
  refine .val (ldsC (.of rfl) hx Tryz.isAgg45 Tryz.sizeOf45 rfl) rfl (.vcall (cap := capv) hfn hcal (.of rfl) (evs_cons (.of rfl) evs_nil) rfl (hf r w hS) ?_)
  clear hS
  rintro _ w ⟨rfl, hS⟩
  refine .nil ?_
  refine WC.cond rfl (fun hb16 => ?_) (fun hb16 => ?_)
  ·
   have hc16 := hb16; try simp only [Gk.cs0] at hc16
   refine .seq (.region (.run 2 rfl trivial (.nil (.ret (ret1 Tryz.results109 rfl ?_)))))
   exact ⟨_, rfl, by rw [firstR_hit hno hr hb16], hS⟩
  have hc16 := hb16; try simp only [Gk.cs0] at hc16
  refine .skip (.region (.run 2 rfl ⟨⟨by omega, by omega⟩, trivial⟩ (.nil ?_)))
  refine ⟨i + 1, ⟨rfl, rfl, rfl, rfl, trivial⟩, ⟨by omega, fun j t hj ht => ?_, hS⟩, by omega⟩
  rcases Nat.lt_or_ge j i with h1 | h1
  ·exact hno j t h1 ht
  ·have e : j = i := by omega
   subst e
   rw [hr] at ht; cases ht
   exact hb16
 have hc9 := hb9; try simp only [Gk.cs0] at hc9
 refine .exit (.seq (.region (.run 1 rfl trivial (.nil (.ret (ret1 Tryz.results109 rfl ?_))))))
 exact ⟨_, rfl, by rw [firstR_none (fun j t ht => hno j t (by have := (List.getElem?_eq_some_iff.1 ht).1; omega) ht)], hS⟩
theorem atC_any (r : Rec) (name : List UInt8) (b : Nat) (B w : World) (I : Im) (As : List Assn) (hS : Sat B w I (blk b [S name] 9 :: As)) :
  Calls Tryz.prog 110 [.agg (recCells r).toArray, ptr b 0].toArray w (Ret fun v w' => v = .bool (decide (r.name = name)) ∧ Sat B w' I (blk b [S name] 9 :: As)) := by
 refine calls Tryz.func110 rfl Tryz.ntmps110 rfl (.seq (.region (.boxA (cs := [_, _, _, _, _, _, _, _, _, _]) hS (.of rfl) rfl ?_)))
 clear hS; intro b2 w hS
 refine .run 1 rfl trivial (.nil (.seq (.region ?_)))
 first | refine WL.val (.fieldAddr 1 (.of rfl) Tryz.underlying45 rfl rfl Tryz.sizeOf9 rfl) rfl ?_ | refine WL.val (.fieldAddrI 1 (.of rfl) Tryz.underlying45 rfl rfl Tryz.sizeOf9 rfl) rfl ?_
 first | refine WL.val (.ld (.of rfl) hS (k := 0) rfl Tryz.isAgg9 rfl) rfl ?_ | refine WL.val (.ld (.of rfl) hS (k := 1) rfl Tryz.isAgg9 rfl) rfl ?_ | refine WL.val (.ldI (.of rfl) hS (At.add hx _) Tryz.isAgg9 rfl) rfl ?_
 first | refine WL.val (.ld (.of rfl) hS (k := 0) rfl Tryz.isAgg9 rfl) rfl ?_ | refine WL.val (.ld (.of rfl) hS (k := 1) rfl Tryz.isAgg9 rfl) rfl ?_ | refine WL.val (.ldI (.of rfl) hS (At.add hx _) Tryz.isAgg9 rfl) rfl ?_
 refine .run 2 rfl trivial (.nil (.ret (ret1 Tryz.results110 rfl ?_)))
 exact ⟨_, rfl, congrArg Value.bool (by rw [Bool.eq_iff_iff]; simp), hS.drop (k := 0) rfl⟩
theorem at_any (tb : Nat) (room : Int) (a : Option Addr) (c : Nat) (l : List Rec) (hl : l.length ≤ 100000) (name : List UInt8) (B w : World) (I : Im) (As : List Assn) (hS : Sat B w I (blk tb [I64 room, .slice a l.length c] 127 :: Vec 45 10 (.slice a l.length c) l.length (rowsR l) :: As)) :
  Calls Tryz.prog 61 [ptr tb 0, S name].toArray w (Ret fun v w' => v = I64 (at0 l name) ∧ Sat B w' I (blk tb [I64 room, .slice a l.length c] 127 :: Vec 45 10 (.slice a l.length c) l.length (rowsR l) :: As)) := by
 refine calls Tryz.func61 rfl Tryz.ntmps61 rfl (.seq (.region (.box1 hS (.of rfl) rfl rfl ?_)))
 clear hS; intro b3 w hS
 refine .run 1 rfl trivial (.nil (.seq (.region (.run 2 rfl trivial ?_))))
 first | refine WL.val (.fieldAddr 1 (.of rfl) Tryz.underlying127 rfl rfl Tryz.sizeOf35 rfl) rfl ?_ | refine WL.val (.fieldAddrI 1 (.of rfl) Tryz.underlying127 rfl rfl Tryz.sizeOf35 rfl) rfl ?_
 first | refine WL.val (.ld (.of rfl) hS (k := 0) rfl Tryz.isAgg35 rfl) rfl ?_ | refine WL.val (.ld (.of rfl) hS (k := 1) rfl Tryz.isAgg35 rfl) rfl ?_ | refine WL.val (.ld (.of rfl) hS (k := 2) rfl Tryz.isAgg35 rfl) rfl ?_ | refine WL.val (.ld (.of rfl) hS (k := 3) rfl Tryz.isAgg35 rfl) rfl ?_ | refine WL.val (.ldI (.of rfl) hS (At.add hx _) Tryz.isAgg35 rfl) rfl ?_
 refine .val (.makeFunc (evs_cons (.of rfl) evs_nil)) rfl (.call Tryz.func109 rfl (evs_cons (.of rfl) (evs_cons (.of rfl) evs_nil)) rfl (IndexFuncR_any a c l hl (fun r => decide (r.name = name)) 110 _ Tryz.func110 rfl [ptr b3 0] B _ I (blk b3 [S name] 9 :: (blk tb [I64 room, .slice a l.length c] 127 :: Vec 45 10 (.slice a l.length c) l.length (rowsR l) :: As)) (fun w h => recs_vec h (k := 2) rfl) (fun r w h => atC_any r name b3 B w I _ h) hS) ?_)
 clear hS
 rintro _ w ⟨rfl, hS⟩
 refine .run 1 rfl trivial (.nil (.ret (ret1 Tryz.results61 rfl ?_)))
 exact ⟨_, rfl, by rw [first_at]; rfl, hS.drop (k := 0) rfl⟩
end Go.Proofs.YtadhiihnnkcagaaGreatDoor
namespace Go.Proofs.YtadhiihnnkcagaaGreatDoor
open Gk Ul Pc Tk Tr
set_option linter.unusedVariables false
set_option linter.unusedSimpArgs false
theorem info9_17 : Tryz.prog.info? 9 = some Tryz.t9 := by kernel_rfl
theorem bld45_17 : Bld Tryz.prog 45 [(0, 1), (1, 1), (2, 1), (3, 1), (4, 1), (5, 1), (6, 1), (7, 1), (8, 1), (9, 1)] [.int .i64 0, S [], S [], S [], S [], S [], .int .i64 0, .int .i64 0, .int .i64 0, .bool false] := bld_of Tryz.underlying45 Tryz.zeroValue45 (fun w => by simp [go_sem])
theorem Get_any (tb : Nat) (room : Int) (a : Option Addr) (c : Nat) (l : List Rec) (hl : l.length ≤ 100000) (name : List UInt8) (B w : World) (I : Im) (As : List Assn) (hS : Sat B w I (blk tb [I64 room, .slice a l.length c] 127 :: Vec 45 10 (.slice a l.length c) l.length (rowsR l) :: As)) :
  Calls Tryz.prog 17 [ptr tb 0, S name].toArray w (Ret fun v w' => v = .tuple #[.agg (recCells (getD l name)).toArray, .bool (get l name).isSome] ∧ Sat B w' I (blk tb [I64 room, .slice a l.length c] 127 :: Vec 45 10 (.slice a l.length c) l.length (rowsR l) :: As)) := by
 refine calls Tryz.func17 rfl Tryz.ntmps17 rfl (.seq (.region (.allocA (cs := [_, _, _, _, _, _, _, _, _, _]) hS Tryz.zeroValue45 rfl ?_)))
 clear hS; intro b4 w hS
 refine .run 1 rfl trivial (.nil (.seq (.seq (.region (.run 2 rfl trivial (.call Tryz.func61 rfl (evs_cons (.of rfl) (evs_cons (.of rfl) evs_nil)) rfl (at_any tb room a c l hl name B _ I _ ((hS.pick 2 rfl).pick 2 rfl)) ?_))))))
 clear hS
 rintro _ w ⟨rfl, hS⟩
 replace hS := hS.pick 2 rfl
 refine .run 1 rfl trivial (.nil (.seq (.region (.run 2 rfl trivial (.nil ?_)))))
 refine WC.cond rfl (fun hb11 => ?_) (fun hb11 => ?_)
 ·
  have hc11 := hb11; try simp only [Gk.cs0] at hc11
  refine .seq ?_
  have hq : 0 ≤ at0 l name := by simpa using hb11
  obtain ⟨j, r, hj, hr, hn⟩ : ∃ (j : Nat) (r : Rec), at0 l name = (j : Int) ∧ l[j]? = some r ∧ get l name = some r := by
   rcases Tr.get_at l name with ⟨h1, _⟩ | ⟨j, r, h1, h2, _, h3⟩
   ·omega
   ·exact ⟨j, r, h1, h2, h3⟩
  have hjl := (List.getElem?_eq_some_iff.1 hr).1
  obtain ⟨p, rfl, hx⟩ := recs_vec hS (k := 2) rfl j r hr
  rw [hj]
  refine .region (.run 2 rfl trivial ?_)
  first | refine WL.val (.fieldAddr 1 (.of rfl) Tryz.underlying127 rfl rfl Tryz.sizeOf35 rfl) rfl ?_ | refine WL.val (.fieldAddrI 1 (.of rfl) Tryz.underlying127 rfl rfl Tryz.sizeOf35 rfl) rfl ?_
  first | refine WL.val (.ld (.of rfl) hS (k := 0) rfl Tryz.isAgg35 rfl) rfl ?_ | refine WL.val (.ld (.of rfl) hS (k := 1) rfl Tryz.isAgg35 rfl) rfl ?_ | refine WL.val (.ld (.of rfl) hS (k := 2) rfl Tryz.isAgg35 rfl) rfl ?_
  refine .run 1 rfl trivial ?_
  first | refine WL.val (.indexAddr (.of rfl) (.of rfl) (by omega) (by omega) Tryz.underlying35 Tryz.sizeOf45) rfl ?_ | refine WL.val (.indexAddrI (.of rfl) (.of rfl) (by omega) (by omega) Tryz.underlying35 Tryz.sizeOf45) rfl ?_
  refine .val (ldsC (.of rfl) hx Tryz.isAgg45 Tryz.sizeOf45 rfl) rfl ?_
  first | refine WL.stA hS (k := 0) rfl (.of rfl) (.of rfl) rfl Tryz.sizeOf45 rfl (by simp) ?_ | refine WL.stA hS (k := 1) rfl (.of rfl) (.of rfl) rfl Tryz.sizeOf45 rfl (by simp) ?_ | refine WL.stA hS (k := 2) rfl (.of rfl) (.of rfl) rfl Tryz.sizeOf45 rfl (by simp) ?_
  clear hS; intro w hS; try dsimp only [List.set] at hS
  try simp only [List.take_zero, List.nil_append, List.append_nil, List.drop_succ_cons, List.drop_zero, List.drop_nil, Nat.zero_add] at hS
  refine .run 1 rfl trivial (.nil (.ret ?_))
  first | refine ret2c (b := _) (cs := [_, _, _, _, _, _, _, _, _, _]) Tryz.results17 hS (k := 0) rfl Tryz.isAgg45 Tryz.sizeOf45 rfl rfl rfl ?_ | refine ret2c (b := _) (cs := [_, _, _, _, _, _, _, _, _, _]) Tryz.results17 hS (k := 1) rfl Tryz.isAgg45 Tryz.sizeOf45 rfl rfl rfl ?_ | refine ret2c (b := _) (cs := [_, _, _, _, _, _, _, _, _, _]) Tryz.results17 hS (k := 2) rfl Tryz.isAgg45 Tryz.sizeOf45 rfl rfl rfl ?_
  exact ⟨_, rfl, by rw [getD, hn]; rfl, hS.drop (k := 0) rfl⟩
 have hc11 := hb11; try simp only [Gk.cs0] at hc11
 refine .skip (.seq (.region (.val (.build (cs := [_, _, _, _, _, _, _, _, _, _]) parts_nil bld45_17 rfl) rfl ?_)))
 first | refine WL.stA hS (k := 0) rfl (.of rfl) (.of rfl) rfl Tryz.sizeOf45 rfl (by simp) ?_ | refine WL.stA hS (k := 1) rfl (.of rfl) (.of rfl) rfl Tryz.sizeOf45 rfl (by simp) ?_ | refine WL.stA hS (k := 2) rfl (.of rfl) (.of rfl) rfl Tryz.sizeOf45 rfl (by simp) ?_
 clear hS; intro w hS; try dsimp only [List.set] at hS
 try simp only [List.take_zero, List.nil_append, List.append_nil, List.drop_succ_cons, List.drop_zero, List.drop_nil, Nat.zero_add] at hS
 refine .run 1 rfl trivial (.nil (.ret ?_))
 first | refine ret2c (b := _) (cs := [_, _, _, _, _, _, _, _, _, _]) Tryz.results17 hS (k := 0) rfl Tryz.isAgg45 Tryz.sizeOf45 rfl rfl rfl ?_ | refine ret2c (b := _) (cs := [_, _, _, _, _, _, _, _, _, _]) Tryz.results17 hS (k := 1) rfl Tryz.isAgg45 Tryz.sizeOf45 rfl rfl rfl ?_ | refine ret2c (b := _) (cs := [_, _, _, _, _, _, _, _, _, _]) Tryz.results17 hS (k := 2) rfl Tryz.isAgg45 Tryz.sizeOf45 rfl rfl rfl ?_
 refine ⟨_, rfl, ?_, hS.drop (k := 0) rfl⟩
 rcases Tr.get_at l name with ⟨h1, h2⟩ | ⟨j, r, h1, _⟩
 ·rw [getD, h2]; rfl
 ·exfalso; rw [h1] at hb11; simp at hb11
theorem kids_snoc {l : List Rec} {i : Nat} {r : Rec} (hr : l[i]? = some r) (name : List UInt8) : kids (l.take (i + 1)) name = kids (l.take i) name ++ (if name ≠ [] ∧ r.parent = name then [r.name] else []) := by
 unfold kids kidsR
 rw [List.take_add_one, hr, Option.toList_some, List.filter_append, List.map_append]
 congr 1
 by_cases h1 : name = []
 ·simp [h1]
 ·by_cases h2 : r.parent = name
  ·simp [h1, h2]
  ·simp [h1, h2]
theorem kids_le (l : List Rec) (name : List UInt8) : (kids l name).length ≤ l.length := by
 unfold kids kidsR
 rw [List.length_map]
 exact List.length_filter_le _ _
theorem Kids_any (tb : Nat) (room : Int) (a : Option Addr) (c : Nat) (l : List Rec) (hl : l.length ≤ 100000) (name : List UInt8) (B w : World) (I : Im) (As : List Assn) (hS : Sat B w I (blk tb [I64 room, .slice a l.length c] 127 :: Vec 45 10 (.slice a l.length c) l.length (rowsR l) :: As)) :
  Calls Tryz.prog 140 [ptr tb 0, S name].toArray w (Ret fun v w' => ∃ J ra rc, v = .slice ra (kids l name).length rc ∧ Le I J ∧ (kids l name).length ≤ rc ∧ RS J ra 1 (kids l name).length ((kids l name).map S) ∧ Sat B w' J (blk tb [I64 room, .slice a l.length c] 127 :: Vec 45 10 (.slice a l.length c) l.length (rowsR l) :: As)) := by
 refine calls Tryz.func140 rfl Tryz.ntmps140 rfl (.seq (.region (.run 1 rfl trivial (.nil (.seq (.region (.run 1 rfl trivial (.nil (.seq (.seq ?_))))))))))
 replace hS := hS.vecNil 9 1
 refine .region (.run 2 rfl trivial ?_)
 first | refine WL.val (.fieldAddr 1 (.of rfl) Tryz.underlying127 rfl rfl Tryz.sizeOf35 rfl) rfl ?_ | refine WL.val (.fieldAddrI 1 (.of rfl) Tryz.underlying127 rfl rfl Tryz.sizeOf35 rfl) rfl ?_
 first | refine WL.val (.ld (.of rfl) hS (k := 0) rfl Tryz.isAgg35 rfl) rfl ?_ | refine WL.val (.ld (.of rfl) hS (k := 1) rfl Tryz.isAgg35 rfl) rfl ?_ | refine WL.val (.ld (.of rfl) hS (k := 2) rfl Tryz.isAgg35 rfl) rfl ?_
 refine .run 2 rfl ⟨⟨_, Tryz.underlying35⟩, trivial⟩ (.nil (.block (.loop (σ := Value × Nat) (fun ⟨kv, i⟩ => [(0, ptr tb 0), (1, S name), (5, kv), (11, .slice a l.length c), (12, I64 (l.length : Nat)), (13, I64 (i : Nat))]) (fun ⟨kv, i⟩ w => i ≤ l.length ∧ Sat B w I (Vec 9 1 kv (kids (l.take i) name).length ((kids (l.take i) name).map S) :: blk tb [I64 room, .slice a l.length c] 127 :: Vec 45 10 (.slice a l.length c) l.length (rowsR l) :: As)) (fun ⟨kv, i⟩ => l.length - i) (.slice none 0 0, 0) ⟨rfl, rfl, rfl, rfl, rfl, rfl, trivial⟩ ⟨Nat.zero_le _, hS⟩ ?_)))
 rintro ⟨kv, i⟩ w ⟨hi, hS⟩
 change WC _ _ _ _ [(0, ptr tb 0), (1, S name), (5, kv), (11, .slice a l.length c), (12, I64 (l.length : Nat)), (13, I64 (i : Nat))] w
 refine .seq (.region (.run 1 rfl trivial (.nil (.seq ?_))))
 refine WC.cond rfl (fun hb14 => ?_) (fun hb14 => ?_)
 ·
  have hc14 := hb14; try simp only [Gk.cs0] at hc14
  refine .skip (.seq (.block (.seq ?_)))
  obtain ⟨r, hr⟩ : ∃ r, l[i]? = some r := ⟨_, List.getElem?_eq_getElem (by omega)⟩
  obtain ⟨p, rfl, hx⟩ := recs_vec hS (k := 2) rfl i r hr
  have hkl := kids_le (l.take i) name
  rw [List.length_take] at hkl
  refine .region ?_
  first | refine WL.val (.indexAddr (.of rfl) (.of rfl) (by omega) (by omega) Tryz.underlying35 Tryz.sizeOf45) rfl ?_ | refine WL.val (.indexAddrI (.of rfl) (.of rfl) (by omega) (by omega) Tryz.underlying35 Tryz.sizeOf45) rfl ?_
  refine .val (ldsC (.of rfl) hx Tryz.isAgg45 Tryz.sizeOf45 rfl) rfl (.allocA (cs := [_, _, _, _, _, _, _, _, _, _]) hS Tryz.zeroValue45 rfl ?_)
  clear hS; intro b7 w hS
  first | refine WL.stA hS (k := 0) rfl (.of rfl) (.of rfl) rfl Tryz.sizeOf45 rfl (by simp) ?_ | refine WL.stA hS (k := 1) rfl (.of rfl) (.of rfl) rfl Tryz.sizeOf45 rfl (by simp) ?_ | refine WL.stA hS (k := 2) rfl (.of rfl) (.of rfl) rfl Tryz.sizeOf45 rfl (by simp) ?_ | refine WL.stA hS (k := 3) rfl (.of rfl) (.of rfl) rfl Tryz.sizeOf45 rfl (by simp) ?_
  clear hS; intro w hS; try dsimp only [List.set] at hS
  try simp only [List.take_zero, List.nil_append, List.append_nil, List.drop_succ_cons, List.drop_zero, List.drop_nil, Nat.zero_add] at hS
  refine .nil (.seq (.region (.run 3 rfl trivial ?_)))
  refine WL.gval rfl rfl (fun hg1 => (by first | exact .fieldAddr 2 (.of rfl) Tryz.underlying45 rfl rfl Tryz.sizeOf9 rfl | exact .fieldAddrI 2 (.of rfl) Tryz.underlying45 rfl rfl Tryz.sizeOf9 rfl)) rfl ?_
  refine WL.gval rfl rfl (fun hg1 => (by first | exact (.ld (.gd hg1 rfl) hS (k := 0) rfl Tryz.isAgg9 rfl) | exact (.ld (.gd hg1 rfl) hS (k := 1) rfl Tryz.isAgg9 rfl) | exact (.ld (.gd hg1 rfl) hS (k := 2) rfl Tryz.isAgg9 rfl) | exact (.ld (.gd hg1 rfl) hS (k := 3) rfl Tryz.isAgg9 rfl))) rfl ?_
  refine .gval rfl rfl (fun hg1 => (.move (.of rfl))) rfl (.gval rfl rfl (fun hg1 => (.eqs (.gd hg1 rfl) (.gd hg1 rfl))) rfl (.val (.pand (.of rfl) (.of rfl) (.of rfl)) rfl (.nil ?_)))
  refine WC.cond rfl (fun hb24 => ?_) (fun hb24 => ?_)
  ·
   have hc24 := hb24; try simp only [Gk.cs0] at hc24
   refine .region (.run 1 rfl trivial ?_)
   first | refine WL.val (.fieldAddr 1 (.of rfl) Tryz.underlying45 rfl rfl Tryz.sizeOf9 rfl) rfl ?_ | refine WL.val (.fieldAddrI 1 (.of rfl) Tryz.underlying45 rfl rfl Tryz.sizeOf9 rfl) rfl ?_
   first | refine WL.val (.ld (.of rfl) hS (k := 0) rfl Tryz.isAgg9 rfl) rfl ?_ | refine WL.val (.ld (.of rfl) hS (k := 1) rfl Tryz.isAgg9 rfl) rfl ?_ | refine WL.val (.ld (.of rfl) hS (k := 2) rfl Tryz.isAgg9 rfl) rfl ?_ | refine WL.val (.ld (.of rfl) hS (k := 3) rfl Tryz.isAgg9 rfl) rfl ?_
   refine .buildSlice (cs := [_]) hS (parts_cons (.of rfl) parts_nil) Tryz.underlying41 Tryz.sizeOf9 Tryz.zeroValue9 rfl rfl rfl rfl ?_
   clear hS; intro b28 w hS
   first | refine WL.append (size := 1) (bytes := 16) hS (.of rfl) (.of rfl) (k := 0) rfl Tryz.underlying41 info9_17 rfl rfl rfl rfl rfl rfl rfl ⟨by omega, by unfold maxLen; omega⟩ rfl ?_ | refine WL.append (size := 1) (bytes := 16) hS (.of rfl) (.of rfl) (k := 1) rfl Tryz.underlying41 info9_17 rfl rfl rfl rfl rfl rfl rfl ⟨by omega, by unfold maxLen; omega⟩ rfl ?_ | refine WL.append (size := 1) (bytes := 16) hS (.of rfl) (.of rfl) (k := 2) rfl Tryz.underlying41 info9_17 rfl rfl rfl rfl rfl rfl rfl ⟨by omega, by unfold maxLen; omega⟩ rfl ?_ | refine WL.append (size := 1) (bytes := 16) hS (.of rfl) (.of rfl) (k := 3) rfl Tryz.underlying41 info9_17 rfl rfl rfl rfl rfl rfl rfl ⟨by omega, by unfold maxLen; omega⟩ rfl ?_
   clear hS; intro v29 w hS; try dsimp only [List.set] at hS
   first | obtain ⟨a29, c29, rfl, hcap29, _⟩ := hS.vecSlice (k := 0) (v := v29) rfl | obtain ⟨a29, c29, rfl, hcap29, _⟩ := hS.vecSlice (k := 1) (v := v29) rfl | obtain ⟨a29, c29, rfl, hcap29, _⟩ := hS.vecSlice (k := 2) (v := v29) rfl | obtain ⟨a29, c29, rfl, hcap29, _⟩ := hS.vecSlice (k := 3) (v := v29) rfl
   refine .run 1 rfl trivial (.nil (.region (.run 2 rfl ⟨⟨by omega, by omega⟩, trivial⟩ (.nil ?_))))
   have e := kids_snoc hr name
   rw [if_pos (by simpa using hb24)] at e
   refine ⟨(.slice a29 ((kids (l.take i) name).length + 1) c29, i + 1), ⟨rfl, rfl, rfl, rfl, rfl, rfl, trivial⟩, ⟨by (try dsimp only); omega, ?_⟩, by (try dsimp only); omega⟩
   (try dsimp only)
   rw [e, List.length_append, List.map_append]
   exact hS.drop (k := 0) rfl
  have hc24 := hb24; try simp only [Gk.cs0] at hc24
  refine .skip (.region (.run 2 rfl ⟨⟨by omega, by omega⟩, trivial⟩ (.nil ?_)))
  have e := kids_snoc hr name
  rw [if_neg (by simpa using hb24), List.append_nil] at e
  refine ⟨(kv, i + 1), ⟨rfl, rfl, rfl, rfl, rfl, rfl, trivial⟩, ⟨by (try dsimp only); omega, ?_⟩, by (try dsimp only); omega⟩
  (try dsimp only)
  rw [e]
  exact hS.drop (k := 0) rfl
 have hc14 := hb14; try simp only [Gk.cs0] at hc14
 refine .exit (.seq (.region (.run 2 rfl trivial (.nil (.ret (ret1 Tryz.results140 rfl ?_))))))
 have hin : i = l.length := by omega
 subst hin
 rw [List.take_length] at hS
 obtain ⟨ka, kc, rfl, hkc, _⟩ := hS.vecSlice (k := 0) rfl
 obtain ⟨J, hJ, hRS, hS⟩ := hS.freezeVec (k := 0) rfl
 exact ⟨_, rfl, J, ka, kc, rfl, hJ, hkc, hRS, hS⟩
theorem pathF_le (l : List Rec) : ∀ (f : Nat) (i : Int), (pathF l f i).length ≤ f
 | 0, _ => by simp [pathF]
 | f + 1, i => by
  rw [pathF]
  split
  ·simp
  ·cases l[i.toNat]? with
   | none => simp
   | some r =>
    have h := pathF_le l f (at0 l r.parent)
    simp only [List.length_cons]; omega
theorem path_le {l : List Rec} (h : Wf l) (name : List UInt8) : (path l name).length ≤ l.length := by
 unfold path pathI
 rcases at_case l name with ⟨h1, _⟩ | ⟨j, r, h1, h2, _⟩
 ·rw [h1, pathF_neg l _ (by omega)]; simp
 ·have h3 := (List.getElem?_eq_some_iff.1 h2).1
  have h4 := pathF_le l ((at0 l name).toNat + 1) (at0 l name)
  rw [h1] at h4 ⊢
  omega
theorem Path_any (tb : Nat) (room : Int) (a : Option Addr) (c : Nat) (l : List Rec) (hl : l.length ≤ 100000) (hwf : Wf l) (name : List UInt8) (B w : World) (I : Im) (As : List Assn) (hS : Sat B w I (blk tb [I64 room, .slice a l.length c] 127 :: Vec 45 10 (.slice a l.length c) l.length (rowsR l) :: As)) :
  Calls Tryz.prog 80 [ptr tb 0, S name].toArray w (Ret fun v w' => ∃ J ra rc, v = .slice ra (path l name).length rc ∧ Le I J ∧ (path l name).length ≤ rc ∧ RS J ra 1 (path l name).length ((path l name).map fun r => S r.name) ∧ Sat B w' J (blk tb [I64 room, .slice a l.length c] 127 :: Vec 45 10 (.slice a l.length c) l.length (rowsR l) :: As)) := by
 refine calls Tryz.func80 rfl Tryz.ntmps80 rfl (.seq (.region (.run 1 rfl trivial (.nil (.seq (.region (.run 1 rfl trivial (.nil (.seq (.seq (.region (.run 2 rfl trivial (.call Tryz.func61 rfl (evs_cons (.of rfl) (evs_cons (.of rfl) evs_nil)) rfl (at_any tb room a c l hl name B _ I _ hS) ?_)))))))))))))
 clear hS
 rintro _ w ⟨rfl, hS⟩
 replace hS := hS.vecNil 9 1
 refine .run 1 rfl trivial (.nil (.block (.loop (σ := Value × Int × List Rec) (fun ⟨kv, i, D⟩ => [(0, ptr tb 0), (1, S name), (5, kv), (6, I64 i)]) (fun ⟨kv, i, D⟩ w => path l name = D ++ pathI l i ∧ -1 ≤ i ∧ i < l.length ∧ Sat B w I (Vec 9 1 kv D.length (D.map fun r => S r.name) :: blk tb [I64 room, .slice a l.length c] 127 :: Vec 45 10 (.slice a l.length c) l.length (rowsR l) :: As)) (fun ⟨kv, i, D⟩ => (i + 1).toNat) (.slice none 0 0, at0 l name, []) ⟨rfl, rfl, rfl, rfl, trivial⟩ ⟨rfl, at_ge l name, at_lt l name, hS⟩ ?_)))
 rintro ⟨kv, i, D⟩ w ⟨hp2, hi1, hi2, hS⟩
 change WC _ _ _ _ [(0, ptr tb 0), (1, S name), (5, kv), (6, I64 i)] w
 refine .seq (.seq (.region (.run 2 rfl trivial (.nil ?_))))
 refine WC.cond rfl (fun hb11 => ?_) (fun hb11 => ?_)
 ·
  have hc11 := hb11; try simp only [Gk.cs0] at hc11
  refine .skip (.seq (.block ?_))
  obtain ⟨q, rfl⟩ : ∃ q : Nat, i = (q : Int) := ⟨i.toNat, by simp at hb11; omega⟩
  obtain ⟨r, hr⟩ : ∃ r, l[q]? = some r := ⟨_, List.getElem?_eq_getElem (by omega)⟩
  obtain ⟨p, rfl, hx⟩ := recs_vec hS (k := 2) rfl q r hr
  have hql : q < l.length := by omega
  have hup := (hwf.up q r hr).2
  have hDl : D.length ≤ l.length := by have h1 := path_le hwf name; rw [hp2, List.length_append] at h1; omega
  refine .region (.run 3 rfl trivial ?_)
  first | refine WL.val (.fieldAddr 1 (.of rfl) Tryz.underlying127 rfl rfl Tryz.sizeOf35 rfl) rfl ?_ | refine WL.val (.fieldAddrI 1 (.of rfl) Tryz.underlying127 rfl rfl Tryz.sizeOf35 rfl) rfl ?_
  first | refine WL.val (.ld (.of rfl) hS (k := 0) rfl Tryz.isAgg35 rfl) rfl ?_ | refine WL.val (.ld (.of rfl) hS (k := 1) rfl Tryz.isAgg35 rfl) rfl ?_ | refine WL.val (.ld (.of rfl) hS (k := 2) rfl Tryz.isAgg35 rfl) rfl ?_
  refine .run 1 rfl trivial ?_
  first | refine WL.val (.indexAddr (.of rfl) (.of rfl) (by omega) (by omega) Tryz.underlying35 Tryz.sizeOf45) rfl ?_ | refine WL.val (.indexAddrI (.of rfl) (.of rfl) (by omega) (by omega) Tryz.underlying35 Tryz.sizeOf45) rfl ?_
  first | refine WL.val (.fieldAddr 1 (.of rfl) Tryz.underlying45 rfl rfl Tryz.sizeOf9 rfl) rfl ?_ | refine WL.val (.fieldAddrI 1 (.of rfl) Tryz.underlying45 rfl rfl Tryz.sizeOf9 rfl) rfl ?_
  refine .val (ldC (.of rfl) (hx 1 _ rfl) Tryz.isAgg9) rfl (.buildSlice (cs := [_]) hS (parts_cons (.of rfl) parts_nil) Tryz.underlying41 Tryz.sizeOf9 Tryz.zeroValue9 rfl rfl rfl rfl ?_)
  clear hS; intro b31 w hS
  first | refine WL.append (size := 1) (bytes := 16) hS (.of rfl) (.of rfl) (k := 0) rfl Tryz.underlying41 info9_17 rfl rfl rfl rfl rfl rfl rfl ⟨by omega, by unfold maxLen; omega⟩ rfl ?_ | refine WL.append (size := 1) (bytes := 16) hS (.of rfl) (.of rfl) (k := 1) rfl Tryz.underlying41 info9_17 rfl rfl rfl rfl rfl rfl rfl ⟨by omega, by unfold maxLen; omega⟩ rfl ?_ | refine WL.append (size := 1) (bytes := 16) hS (.of rfl) (.of rfl) (k := 2) rfl Tryz.underlying41 info9_17 rfl rfl rfl rfl rfl rfl rfl ⟨by omega, by unfold maxLen; omega⟩ rfl ?_
  clear hS; intro v32 w hS; try dsimp only [List.set] at hS
  first | obtain ⟨a32, c32, rfl, hcap32, _⟩ := hS.vecSlice (k := 0) (v := v32) rfl | obtain ⟨a32, c32, rfl, hcap32, _⟩ := hS.vecSlice (k := 1) (v := v32) rfl | obtain ⟨a32, c32, rfl, hcap32, _⟩ := hS.vecSlice (k := 2) (v := v32) rfl
  refine .run 1 rfl trivial (.nil ?_)
  obtain ⟨p9, hp9, hx⟩ := recs_vec hS (k := 2) rfl q r hr
  cases hp9
  refine .region (.run 3 rfl trivial ?_)
  first | refine WL.val (.fieldAddr 1 (.of rfl) Tryz.underlying127 rfl rfl Tryz.sizeOf35 rfl) rfl ?_ | refine WL.val (.fieldAddrI 1 (.of rfl) Tryz.underlying127 rfl rfl Tryz.sizeOf35 rfl) rfl ?_
  first | refine WL.val (.ld (.of rfl) hS (k := 0) rfl Tryz.isAgg35 rfl) rfl ?_ | refine WL.val (.ld (.of rfl) hS (k := 1) rfl Tryz.isAgg35 rfl) rfl ?_ | refine WL.val (.ld (.of rfl) hS (k := 2) rfl Tryz.isAgg35 rfl) rfl ?_
  refine .run 1 rfl trivial ?_
  first | refine WL.val (.indexAddr (.of rfl) (.of rfl) (by omega) (by omega) Tryz.underlying35 Tryz.sizeOf45) rfl ?_ | refine WL.val (.indexAddrI (.of rfl) (.of rfl) (by omega) (by omega) Tryz.underlying35 Tryz.sizeOf45) rfl ?_
  first | refine WL.val (.fieldAddr 2 (.of rfl) Tryz.underlying45 rfl rfl Tryz.sizeOf9 rfl) rfl ?_ | refine WL.val (.fieldAddrI 2 (.of rfl) Tryz.underlying45 rfl rfl Tryz.sizeOf9 rfl) rfl ?_
  refine .val (ldC (.of rfl) (hx 2 _ rfl) Tryz.isAgg9) rfl (.call Tryz.func61 rfl (evs_cons (.of rfl) (evs_cons (.of rfl) evs_nil)) rfl (at_any tb room (some p) c l hl r.parent B _ I _ ((hS.pick 2 rfl).pick 2 rfl)) ?_)
  clear hS
  rintro _ w ⟨rfl, hS⟩
  refine .run 1 rfl trivial (.nil ?_)
  refine ⟨(.slice a32 (D.length + 1) c32, at0 l r.parent, D ++ [r]), ⟨rfl, rfl, rfl, rfl, trivial⟩, ⟨by (try dsimp only); rw [hp2, pathI_at hwf hr, List.append_assoc]; rfl, at_ge l _, at_lt l _, ?_⟩, by (try dsimp only); omega⟩
  (try dsimp only)
  rw [List.length_append, List.map_append]
  exact (hS.pick 2 rfl)
 have hc11 := hb11; try simp only [Gk.cs0] at hc11
 refine .exit (.seq (.region (.run 2 rfl trivial (.nil (.ret (ret1 Tryz.results80 rfl ?_))))))
 have hin : i < 0 := by simp at hb11; omega
 rw [pathI_neg l hin, List.append_nil] at hp2
 subst hp2
 obtain ⟨ka, kc, rfl, hkc, _⟩ := hS.vecSlice (k := 0) rfl
 obtain ⟨J, hJ, hRS, hS⟩ := hS.freezeVec (k := 0) rfl
 exact ⟨_, rfl, J, ka, kc, rfl, hJ, hkc, hRS, hS⟩
end Go.Proofs.YtadhiihnnkcagaaGreatDoor
