/- Chapter 16: the laws on orders. -/
import Derived.Test.YtfmdhpgfbojjaaaW16h
namespace Go.Proofs.Ytfmdhpgfbojjaaa
open Gk Rk
set_option linter.unusedVariables false
set_option linter.unusedSimpArgs false

theorem Order_n (l : List Nat) (n : Nat) (hn : l.length = n) (small : ∀ v ∈ l, v < 18446744073709551616) (hl : n ≤ 100000) (a : Option Addr) (c : Nat) (B w : World) (I : Im) (hr : RS I a 1 n (l.map F64)) (As : List Assn) (hS : Sat B w I As) :
    Calls Try.prog 12 [.slice a n c].toArray w (Ret fun v w' => ∃ D va vc J, v = .slice va n vc ∧ Srt.Ord (kx l) n D ∧ Le I J ∧ RS J va 1 n (D.map I64) ∧ Sat B w' J As) := by
  subst hn
  refine (Order_any l small hl a c B w I hr As hS).mono ?_
  rintro e w' ⟨v, rfl, D, va, vc, rfl, hD, hS'⟩
  obtain ⟨J, hJ, hRS, hS2⟩ := hS'.freezeVec (k := 0) rfl
  exact ⟨_, rfl, D, va, vc, J, rfl, hD, hJ, hRS, hS2⟩
theorem refOrder_n (l : List Nat) (n : Nat) (hn : l.length = n) (small : ∀ v ∈ l, v < 18446744073709551616) (hl : n ≤ 100000) (a : Option Addr) (c : Nat) (B w : World) (I : Im) (hr : RS I a 1 n (l.map F64)) (As : List Assn) (hS : Sat B w I As) :
    Calls Try.prog 13 [.slice a n c].toArray w (Ret fun v w' => ∃ D va vc J, v = .slice va n vc ∧ Srt.Ord (kx l) n D ∧ Le I J ∧ RS J va 1 n (D.map I64) ∧ Sat B w' J As) := by
  subst hn
  refine (refOrder_any l small hl a c B w I hr As hS).mono ?_
  rintro e w' ⟨v, rfl, D, va, vc, rfl, hD, hS'⟩
  obtain ⟨J, hJ, hRS, hS2⟩ := hS'.freezeVec (k := 0) rfl
  exact ⟨_, rfl, D, va, vc, J, rfl, hD, hJ, hRS, hS2⟩
theorem ord_two {x y : Nat} {D : List Int} (h : Srt.Ord (kx [x, y]) 2 D) : D = if keyN y < keyN x then [1, 0] else [0, 1] := by
  refine h.unique ?_
  split
  · rename_i hk
    refine ⟨?_, by decide⟩
    refine List.pairwise_cons.2 ⟨fun z hz => ?_, by simp⟩
    simp at hz; subst hz
    exact .inl hk
  · rename_i hk
    refine ⟨?_, by decide⟩
    refine List.pairwise_cons.2 ⟨fun z hz => ?_, by simp⟩
    simp at hz; subst hz
    rcases Nat.lt_or_ge (keyN x) (keyN y) with h1 | h1
    · exact .inl h1
    · exact .inr ⟨show keyN x = keyN y by omega, by decide⟩
theorem key_turn {a : Nat} (h : a < 18446744073709551616) : keyN (a ^^^ 9223372036854775808) = 18446744073709551615 - keyN a := by
  rw [xor_hi h]
  unfold keyN
  by_cases h1 : 9223372036854775808 ≤ a
  · rw [if_pos h1, if_pos h1, if_neg (by omega)] <;> omega
  · rw [if_neg h1, if_neg h1, if_pos (by omega)] <;> omega
theorem xor_small {a : Nat} (h : a < 18446744073709551616) : a ^^^ 9223372036854775808 < 18446744073709551616 := by rw [xor_hi h]; split <;> omega
set_option maxHeartbeats 400000 in
theorem RankTurned_any (a b : Int) (B w : World) (I : Im) (As : List Assn) (hS : Sat B w I As) (ha : (Lit.int .u64 a).wf = true) (hb : (Lit.int .u64 b).wf = true) :
    Calls Try.prog 9 [U64 a, U64 b].toArray w (Ret fun v w' => v = .bool true ∧ ∃ J, Le I J ∧ Sat B w' J As) := by
  obtain ⟨ha0, ha1⟩ := u64_wf ha
  obtain ⟨hb0, hb1⟩ := u64_wf hb
  have hax := xor_small (a := a.toNat) (by omega)
  have hbx := xor_small (a := b.toNat) (by omega)
  refine calls Try.func9 rfl Try.ntmps9 rfl ?_
  refine WC.seq ?_
  refine WC.region ?_
  refine WL.val (.assign (.of rfl)) rfl ?_
  refine WL.nil ?_
  refine WC.seq ?_
  refine WC.region ?_
  refine WL.call Try.func10 rfl evs_nil rfl (awake_any B w I As hS) ?_
  clear hS
  rintro _ w ⟨rfl, hS⟩
  refine WL.val (.assign (.of rfl)) rfl ?_
  refine WL.nil ?_
  refine WC.seq ?_
  refine WC.region ?_
  refine WL.val (.assign (.of rfl)) rfl ?_
  refine WL.nil ?_
  refine WC.seq ?_
  refine WC.region ?_
  refine WL.val (.move (.of rfl)) rfl ?_
  refine WL.call Try.func11 rfl (evs_cons (.of rfl) evs_nil) rfl (number_any _ w) ?_
  rintro _ _ ⟨rfl, rfl⟩
  refine WL.call Try.func18 rfl (evs_cons (.of rfl) evs_nil) rfl (Key_any _ (by omega) w) ?_
  rintro _ _ ⟨rfl, rfl⟩
  refine WL.val (.assign (.of rfl)) rfl ?_
  refine WL.nil ?_
  refine WC.seq ?_
  refine WC.region ?_
  refine WL.val (.move (.of rfl)) rfl ?_
  refine WL.val (.move (.of rfl)) rfl ?_
  refine WL.val (.xorHi ha0 ha1 (.of rfl) (.of rfl)) rfl ?_
  refine WL.call Try.func11 rfl (evs_cons (.of rfl) evs_nil) rfl (number_any _ w) ?_
  rintro _ _ ⟨rfl, rfl⟩
  refine WL.call Try.func18 rfl (evs_cons (.of rfl) evs_nil) rfl (Key_any _ (by omega) w) ?_
  rintro _ _ ⟨rfl, rfl⟩
  refine WL.val (.assign (.of rfl)) rfl ?_
  refine WL.nil ?_
  refine WC.seq ?_
  refine WC.region ?_
  refine WL.val (.move (.of rfl)) rfl ?_
  refine WL.call Try.func11 rfl (evs_cons (.of rfl) evs_nil) rfl (number_any _ w) ?_
  rintro _ _ ⟨rfl, rfl⟩
  refine WL.val (.move (.of rfl)) rfl ?_
  refine WL.call Try.func11 rfl (evs_cons (.of rfl) evs_nil) rfl (number_any _ w) ?_
  rintro _ _ ⟨rfl, rfl⟩
  refine WL.buildSlice (cs := [_, _]) hS (parts_cons (.of rfl) (parts_cons (.of rfl) parts_nil)) Try.underlying24 Try.sizeOf25 Try.zeroValue25 rfl rfl rfl rfl ?_
  clear hS; intro b24 w hS
  obtain ⟨KJ1, hKJ1, hKbJ1, hT⟩ := hS.freeze (k := 0) rfl; clear hS; have hS := hT; clear hT; try dsimp only [List.eraseIdx] at hS
  have hrsJ1 : RS KJ1 (some (ad b24 0)) 1 2 (([a.toNat, b.toNat]).map F64) := ⟨rfl, fun _ => ⟨_, rfl, rfl, _, _, _, hKbJ1, fun j v h => by simpa using h⟩⟩
  refine WL.call Try.func12 rfl (evs_cons (.of rfl) evs_nil) rfl (Order_n [a.toNat, b.toNat] 2 rfl (fun v hv => by simp at hv; omega) (by decide) _ _ B w KJ1 hrsJ1 As hS) ?_
  clear hS
  rintro _ w ⟨D1, xa, xc, J1, rfl, hD1, hJ1, hxr, hS⟩
  refine WL.val (.assign (.of rfl)) rfl ?_
  refine WL.nil ?_
  refine WC.seq ?_
  refine WC.region ?_
  refine WL.val (.move (.of rfl)) rfl ?_
  refine WL.val (.move (.of rfl)) rfl ?_
  refine WL.val (.xorHi ha0 ha1 (.of rfl) (.of rfl)) rfl ?_
  refine WL.call Try.func11 rfl (evs_cons (.of rfl) evs_nil) rfl (number_any _ w) ?_
  rintro _ _ ⟨rfl, rfl⟩
  refine WL.val (.move (.of rfl)) rfl ?_
  refine WL.val (.move (.of rfl)) rfl ?_
  refine WL.val (.xorHi hb0 hb1 (.of rfl) (.of rfl)) rfl ?_
  refine WL.call Try.func11 rfl (evs_cons (.of rfl) evs_nil) rfl (number_any _ w) ?_
  rintro _ _ ⟨rfl, rfl⟩
  refine WL.buildSlice (cs := [_, _]) hS (parts_cons (.of rfl) (parts_cons (.of rfl) parts_nil)) Try.underlying24 Try.sizeOf25 Try.zeroValue25 rfl rfl rfl rfl ?_
  clear hS; intro b34 w hS
  obtain ⟨KJ2, hKJ2, hKbJ2, hT⟩ := hS.freeze (k := 0) rfl; clear hS; have hS := hT; clear hT; try dsimp only [List.eraseIdx] at hS
  have hrsJ2 : RS KJ2 (some (ad b34 0)) 1 2 (([(a.toNat ^^^ 9223372036854775808), (b.toNat ^^^ 9223372036854775808)]).map F64) := ⟨rfl, fun _ => ⟨_, rfl, rfl, _, _, _, hKbJ2, fun j v h => by simpa using h⟩⟩
  refine WL.call Try.func12 rfl (evs_cons (.of rfl) evs_nil) rfl (Order_n [(a.toNat ^^^ 9223372036854775808), (b.toNat ^^^ 9223372036854775808)] 2 rfl (fun v hv => by simp at hv; omega) (by decide) _ _ B w KJ2 hrsJ2 As hS) ?_
  clear hS
  rintro _ w ⟨D2, ya, yc, J2, rfl, hD2, hJ2, hyr, hS⟩
  refine WL.val (.assign (.of rfl)) rfl ?_
  refine WL.nil ?_
  refine WC.seq ?_
  refine WC.seq ?_
  refine WC.region ?_
  refine WL.val (.move (.of rfl)) rfl ?_
  refine WL.val (.lenSlice (.of rfl) Try.underlying28) rfl ?_
  refine WL.val (.neq (.of rfl) (.of rfl)) rfl ?_
  refine WL.val (.move (.of rfl)) rfl ?_
  refine WL.gval rfl rfl (fun hg1 => (.move (.of rfl))) rfl ?_
  refine WL.gval rfl rfl (fun hg1 => (.lenSlice (.gd hg1 rfl) Try.underlying28)) rfl ?_
  refine WL.gval rfl rfl (fun hg1 => (.neq (.gd hg1 rfl) (.of rfl))) rfl ?_
  refine WL.val (.por (.of rfl) (.of rfl) (.of rfl)) rfl ?_
  refine WL.nil ?_
  refine WC.cond rfl (fun hb43 => ?_) (fun hb43 => ?_)
  ·
    have hc43 := hb43; try simp only [decide_eq_true_eq, decide_eq_false_iff_not, beq_iff_eq, beq_eq_false_iff_ne, bne_iff_ne, Bool.not_eq_true', Bool.not_eq_false', Bool.or_eq_true, Bool.and_eq_true, Bool.or_eq_false_iff, Bool.and_eq_false_iff, ne_eq, Int.not_lt, Int.not_le, bne_eq_false_iff_eq, Bool.not_eq_true, Bool.not_eq_false] at hc43
    refine WC.seq ?_
    refine WC.region ?_
    refine WL.val (.assign (.of rfl)) rfl ?_
    refine WL.nil ?_
    refine WC.ret ?_
    refine ret1 Try.results9 rfl ?_
    exfalso; simp at hb43
  ·
    have hc43 := hb43; try simp only [decide_eq_true_eq, decide_eq_false_iff_not, beq_iff_eq, beq_eq_false_iff_ne, bne_iff_ne, Bool.not_eq_true', Bool.not_eq_false', Bool.or_eq_true, Bool.and_eq_true, Bool.or_eq_false_iff, Bool.and_eq_false_iff, ne_eq, Int.not_lt, Int.not_le, bne_eq_false_iff_eq, Bool.not_eq_true, Bool.not_eq_false] at hc43
    refine WC.skip ?_
    refine WC.seq ?_
    obtain ⟨xp, rfl, hxp⟩ := hxr.2 (by decide)
    obtain ⟨yp, rfl, hyp⟩ := hyr.2 (by decide)
    replace hxp := hxp.mono (hKJ2.trans hJ2)
    have hD1l := hD1.len
    have hD2l := hD2.len
    refine WC.quiet (by kernel_rfl) (by kernel_rfl) hS ?_
    refine WQ.val (fun w hS => (.move (.of rfl))) rfl ?_
    refine WQ.val (fun w hS => (.move (.of rfl))) rfl ?_
    refine WQ.gval rfl rfl rfl (fun hg1 w hS => (.move (.of rfl))) rfl ?_
    refine WQ.gval rfl rfl rfl (fun hg1 w hS => (.move (.of rfl))) rfl ?_
    refine WQ.gval rfl rfl rfl (fun hg1 w hS => (.addw (.gd hg1 rfl) (.gd hg1 rfl))) rfl ?_
    refine WQ.gval rfl rfl rfl (fun hg1 w hS => (.eql (.gd hg1 rfl) (.of rfl))) rfl ?_
    refine WQ.val (fun w hS => (.pand (.of rfl) (.of rfl) (.of rfl))) rfl ?_
    refine WQ.val (fun w hS => (.move (.of rfl))) rfl ?_
    refine WQ.gval rfl rfl rfl (fun hg1 w hS => (.move (.of rfl))) rfl ?_
    refine WQ.gval rfl rfl rfl (fun hg1 w hS => (.move (.of rfl))) rfl ?_
    refine WQ.gval rfl rfl rfl (fun hg1 w hS => (.eql (.gd hg1 rfl) (.gd hg1 rfl))) rfl ?_
    refine WQ.gval rfl rfl rfl (fun hg1 w hS => (.move (.gd hg1 rfl))) rfl ?_
    refine WQ.gval2 rfl rfl rfl (fun hg1 hg2 w hS => (.move (.of rfl))) rfl ?_
    refine WQ.gval2 rfl rfl rfl (fun hg1 hg2 w hS => (by first | exact .indexAddr (.gd2 hg1 hg2 rfl) (.of rfl) (by (try simp only [decide_eq_true_eq, decide_eq_false_iff_not, beq_iff_eq, beq_eq_false_iff_ne, bne_iff_ne, Bool.not_eq_true', Bool.not_eq_false', Bool.or_eq_true, Bool.and_eq_true, Bool.or_eq_false_iff, Bool.and_eq_false_iff, ne_eq, Int.not_lt, Int.not_le, bne_eq_false_iff_eq, Bool.not_eq_true, Bool.not_eq_false] at hg1 hg2); omega) (by (try simp only [decide_eq_true_eq, decide_eq_false_iff_not, beq_iff_eq, beq_eq_false_iff_ne, bne_iff_ne, Bool.not_eq_true', Bool.not_eq_false', Bool.or_eq_true, Bool.and_eq_true, Bool.or_eq_false_iff, Bool.and_eq_false_iff, ne_eq, Int.not_lt, Int.not_le, bne_eq_false_iff_eq, Bool.not_eq_true, Bool.not_eq_false] at hg1 hg2); omega) Try.underlying28 Try.sizeOf3 | exact .indexAddrI (.gd2 hg1 hg2 rfl) (.of rfl) (by (try simp only [decide_eq_true_eq, decide_eq_false_iff_not, beq_iff_eq, beq_eq_false_iff_ne, bne_iff_ne, Bool.not_eq_true', Bool.not_eq_false', Bool.or_eq_true, Bool.and_eq_true, Bool.or_eq_false_iff, Bool.and_eq_false_iff, ne_eq, Int.not_lt, Int.not_le, bne_eq_false_iff_eq, Bool.not_eq_true, Bool.not_eq_false] at hg1 hg2); omega) (by (try simp only [decide_eq_true_eq, decide_eq_false_iff_not, beq_iff_eq, beq_eq_false_iff_ne, bne_iff_ne, Bool.not_eq_true', Bool.not_eq_false', Bool.or_eq_true, Bool.and_eq_true, Bool.or_eq_false_iff, Bool.and_eq_false_iff, ne_eq, Int.not_lt, Int.not_le, bne_eq_false_iff_eq, Bool.not_eq_true, Bool.not_eq_false] at hg1 hg2); omega) Try.underlying28 Try.sizeOf3)) rfl ?_
    refine WQ.gval2 rfl rfl rfl (fun hg1 hg2 w hS => .ldEI I64 D1 0 (i := 0) (.gd2 hg1 hg2 rfl) hS hxp rfl Try.isAgg3 (by (try simp only [decide_eq_true_eq, decide_eq_false_iff_not, beq_iff_eq, beq_eq_false_iff_ne, bne_iff_ne, Bool.not_eq_true', Bool.not_eq_false', Bool.or_eq_true, Bool.and_eq_true, Bool.or_eq_false_iff, Bool.and_eq_false_iff, ne_eq, Int.not_lt, Int.not_le, bne_eq_false_iff_eq, Bool.not_eq_true, Bool.not_eq_false] at hg1 hg2); omega) (by (try simp only [decide_eq_true_eq, decide_eq_false_iff_not, beq_iff_eq, beq_eq_false_iff_ne, bne_iff_ne, Bool.not_eq_true', Bool.not_eq_false', Bool.or_eq_true, Bool.and_eq_true, Bool.or_eq_false_iff, Bool.and_eq_false_iff, ne_eq, Int.not_lt, Int.not_le, bne_eq_false_iff_eq, Bool.not_eq_true, Bool.not_eq_false] at hg1 hg2); omega)) rfl ?_
    refine WQ.gval2 rfl rfl rfl (fun hg1 hg2 w hS => (.move (.of rfl))) rfl ?_
    refine WQ.gval2 rfl rfl rfl (fun hg1 hg2 w hS => (by first | exact .indexAddr (.gd2 hg1 hg2 rfl) (.of rfl) (by (try simp only [decide_eq_true_eq, decide_eq_false_iff_not, beq_iff_eq, beq_eq_false_iff_ne, bne_iff_ne, Bool.not_eq_true', Bool.not_eq_false', Bool.or_eq_true, Bool.and_eq_true, Bool.or_eq_false_iff, Bool.and_eq_false_iff, ne_eq, Int.not_lt, Int.not_le, bne_eq_false_iff_eq, Bool.not_eq_true, Bool.not_eq_false] at hg1 hg2); omega) (by (try simp only [decide_eq_true_eq, decide_eq_false_iff_not, beq_iff_eq, beq_eq_false_iff_ne, bne_iff_ne, Bool.not_eq_true', Bool.not_eq_false', Bool.or_eq_true, Bool.and_eq_true, Bool.or_eq_false_iff, Bool.and_eq_false_iff, ne_eq, Int.not_lt, Int.not_le, bne_eq_false_iff_eq, Bool.not_eq_true, Bool.not_eq_false] at hg1 hg2); omega) Try.underlying28 Try.sizeOf3 | exact .indexAddrI (.gd2 hg1 hg2 rfl) (.of rfl) (by (try simp only [decide_eq_true_eq, decide_eq_false_iff_not, beq_iff_eq, beq_eq_false_iff_ne, bne_iff_ne, Bool.not_eq_true', Bool.not_eq_false', Bool.or_eq_true, Bool.and_eq_true, Bool.or_eq_false_iff, Bool.and_eq_false_iff, ne_eq, Int.not_lt, Int.not_le, bne_eq_false_iff_eq, Bool.not_eq_true, Bool.not_eq_false] at hg1 hg2); omega) (by (try simp only [decide_eq_true_eq, decide_eq_false_iff_not, beq_iff_eq, beq_eq_false_iff_ne, bne_iff_ne, Bool.not_eq_true', Bool.not_eq_false', Bool.or_eq_true, Bool.and_eq_true, Bool.or_eq_false_iff, Bool.and_eq_false_iff, ne_eq, Int.not_lt, Int.not_le, bne_eq_false_iff_eq, Bool.not_eq_true, Bool.not_eq_false] at hg1 hg2); omega) Try.underlying28 Try.sizeOf3)) rfl ?_
    refine WQ.gval2 rfl rfl rfl (fun hg1 hg2 w hS => .ldEI I64 D2 0 (i := 0) (.gd2 hg1 hg2 rfl) hS hyp rfl Try.isAgg3 (by (try simp only [decide_eq_true_eq, decide_eq_false_iff_not, beq_iff_eq, beq_eq_false_iff_ne, bne_iff_ne, Bool.not_eq_true', Bool.not_eq_false', Bool.or_eq_true, Bool.and_eq_true, Bool.or_eq_false_iff, Bool.and_eq_false_iff, ne_eq, Int.not_lt, Int.not_le, bne_eq_false_iff_eq, Bool.not_eq_true, Bool.not_eq_false] at hg1 hg2); omega) (by (try simp only [decide_eq_true_eq, decide_eq_false_iff_not, beq_iff_eq, beq_eq_false_iff_ne, bne_iff_ne, Bool.not_eq_true', Bool.not_eq_false', Bool.or_eq_true, Bool.and_eq_true, Bool.or_eq_false_iff, Bool.and_eq_false_iff, ne_eq, Int.not_lt, Int.not_le, bne_eq_false_iff_eq, Bool.not_eq_true, Bool.not_eq_false] at hg1 hg2); omega)) rfl ?_
    refine WQ.gval2 rfl rfl rfl (fun hg1 hg2 w hS => (.neq (.gd2 hg1 hg2 rfl) (.gd2 hg1 hg2 rfl))) rfl ?_
    refine WQ.gval rfl rfl rfl (fun hg1 w hS => (.por (.gd hg1 rfl) (.of rfl) (.gd hg1 rfl))) rfl ?_
    refine WQ.val (fun w hS => (.pand (.of rfl) (.of rfl) (.of rfl))) rfl ?_
    refine WQ.val (fun w hS => (.move (.of rfl))) rfl ?_
    refine WQ.gval rfl rfl rfl (fun hg1 w hS => (.move (.of rfl))) rfl ?_
    refine WQ.gcall rfl rfl rfl Try.func11 rfl (fun hg1 => (evs_cons (.gd hg1 rfl) evs_nil)) rfl (fun hg1 w hS => quiet_of (number_any _ w) hS) ?_
    refine WQ.gval rfl rfl rfl (fun hg1 w hS => (.move (.of rfl))) rfl ?_
    refine WQ.gcall rfl rfl rfl Try.func11 rfl (fun hg1 => (evs_cons (.gd hg1 rfl) evs_nil)) rfl (fun hg1 w hS => quiet_of (number_any _ w) hS) ?_
    refine WQ.gcall rfl rfl rfl Try.func20 rfl (fun hg1 => (evs_cons (.gd hg1 rfl) (evs_cons (.gd hg1 rfl) evs_nil))) rfl (fun hg1 w hS => quiet_of (Less_any _ _ (by omega) (by omega) w) hS) ?_
    refine WQ.gval rfl rfl rfl (fun hg1 w hS => (.move (.of rfl))) rfl ?_
    refine WQ.gval rfl rfl rfl (fun hg1 w hS => (.move (.of rfl))) rfl ?_
    refine WQ.gval rfl rfl rfl (fun hg1 w hS => .xorHi hb0 hb1 (.gd hg1 rfl) (.gd hg1 rfl)) rfl ?_
    refine WQ.gcall rfl rfl rfl Try.func11 rfl (fun hg1 => (evs_cons (.gd hg1 rfl) evs_nil)) rfl (fun hg1 w hS => quiet_of (number_any _ w) hS) ?_
    refine WQ.gval rfl rfl rfl (fun hg1 w hS => (.move (.of rfl))) rfl ?_
    refine WQ.gval rfl rfl rfl (fun hg1 w hS => (.move (.of rfl))) rfl ?_
    refine WQ.gval rfl rfl rfl (fun hg1 w hS => .xorHi ha0 ha1 (.gd hg1 rfl) (.gd hg1 rfl)) rfl ?_
    refine WQ.gcall rfl rfl rfl Try.func11 rfl (fun hg1 => (evs_cons (.gd hg1 rfl) evs_nil)) rfl (fun hg1 w hS => quiet_of (number_any _ w) hS) ?_
    refine WQ.gcall rfl rfl rfl Try.func20 rfl (fun hg1 => (evs_cons (.gd hg1 rfl) (evs_cons (.gd hg1 rfl) evs_nil))) rfl (fun hg1 w hS => quiet_of (Less_any _ _ (by omega) (by omega) w) hS) ?_
    refine WQ.gval rfl rfl rfl (fun hg1 w hS => (.eqb (.gd hg1 rfl) (.gd hg1 rfl) Try.underlying4)) rfl ?_
    refine WQ.val (fun w hS => (.pand (.of rfl) (.of rfl) (.of rfl))) rfl ?_
    refine WQ.val (fun w hS => (.assign (.of rfl))) rfl ?_
    refine WQ.nil ?_
    clear hS; intro w hS
    refine WC.ret ?_
    refine ret1 Try.results9 rfl ?_
    refine ⟨_, rfl, ?_, J2, (hKJ1.trans hJ1).trans (hKJ2.trans hJ2), hS⟩
    refine congrArg Value.bool ?_
    have ka := key_turn (a := a.toNat) (by omega)
    have kb := key_turn (a := b.toNat) (by omega)
    have la := keyN_lt (b := a.toNat) (by omega)
    have lb := keyN_lt (b := b.toNat) (by omega)
    have e1 := ord_two hD1
    have e2 := ord_two hD2
    rw [ka, kb] at e2
    rw [e1, e2]
    simp only [Int.toNat_natCast, ka, kb]
    have hs : IntKind.u64.wrap (((keyN a.toNat : Nat) : Int) + ((18446744073709551615 - keyN a.toNat : Nat) : Int)) = 18446744073709551615 := by rw [IntKind.wrap_u64]; omega
    rw [hs]
    rcases Nat.lt_trichotomy (keyN a.toNat) (keyN b.toNat) with h | h | h
    · have h1 : ((keyN a.toNat : Nat) : Int) < ((keyN b.toNat : Nat) : Int) := by omega
      have h2 : ((18446744073709551615 - keyN b.toNat : Nat) : Int) < ((18446744073709551615 - keyN a.toNat : Nat) : Int) := by omega
      rw [if_neg (by omega), if_pos (by omega), decide_eq_true h1, decide_eq_true h2]
      simp
    · have e := key_inj (by omega) (by omega) h
      have hab : a = b := by omega
      subst hab
      simp
    · have h1 : ¬ ((keyN a.toNat : Nat) : Int) < ((keyN b.toNat : Nat) : Int) := by omega
      have h2 : ¬ ((18446744073709551615 - keyN b.toNat : Nat) : Int) < ((18446744073709551615 - keyN a.toNat : Nat) : Int) := by omega
      rw [if_pos (by omega), if_neg (by omega), decide_eq_false h1, decide_eq_false h2]
      simp
theorem RankOrders_any (p0 : Option Addr) (zs : List Int) (c0 : Nat) (B w : World) (I : Im) (As : List Assn) (hS : Sat B w I As) (hr : RS I p0 1 zs.length (zs.map fun z => .int .u64 z)) (hz : ∀ z ∈ zs, (Lit.int .u64 z).wf = true) :
    Calls Try.prog 3 [.slice p0 zs.length c0].toArray w (Ret fun v w' => v = .bool true ∧ ∃ J, Le I J ∧ Sat B w' J As) := by
  refine calls Try.func3 rfl Try.ntmps3 rfl ?_
  refine WC.seq ?_
  refine WC.region ?_
  refine WL.val (.assign (.of rfl)) rfl ?_
  refine WL.nil ?_
  refine WC.seq ?_
  refine WC.region ?_
  refine WL.call Try.func10 rfl evs_nil rfl (awake_any B w I As hS) ?_
  clear hS
  rintro _ w ⟨rfl, hS⟩
  refine WL.val (.assign (.of rfl)) rfl ?_
  refine WL.nil ?_
  refine WC.seq ?_
  refine WC.seq ?_
  refine WC.region ?_
  refine WL.val (.move (.of rfl)) rfl ?_
  refine WL.val (.lenSlice (.of rfl) Try.underlying22) rfl ?_
  refine WL.val (.gtr (.of rfl) (.of rfl)) rfl ?_
  refine WL.nil ?_
  refine WC.cond rfl (fun hb12 => ?_) (fun hb12 => ?_)
  ·
    have hc12 := hb12; try simp only [decide_eq_true_eq, decide_eq_false_iff_not, beq_iff_eq, beq_eq_false_iff_ne, bne_iff_ne, Bool.not_eq_true', Bool.not_eq_false', Bool.or_eq_true, Bool.and_eq_true, Bool.or_eq_false_iff, Bool.and_eq_false_iff, ne_eq, Int.not_lt, Int.not_le, bne_eq_false_iff_eq, Bool.not_eq_true, Bool.not_eq_false] at hc12
    refine WC.seq ?_
    refine WC.region ?_
    refine WL.val (.move (.of rfl)) rfl ?_
    refine WL.val (.assign (.of rfl)) rfl ?_
    refine WL.nil ?_
    refine WC.ret ?_
    refine ret1 Try.results3 rfl ?_
    exact ⟨_, rfl, rfl, I, Le.refl _, hS⟩
  ·
    have hc12 := hb12; try simp only [decide_eq_true_eq, decide_eq_false_iff_not, beq_iff_eq, beq_eq_false_iff_ne, bne_iff_ne, Bool.not_eq_true', Bool.not_eq_false', Bool.or_eq_true, Bool.and_eq_true, Bool.or_eq_false_iff, Bool.and_eq_false_iff, ne_eq, Int.not_lt, Int.not_le, bne_eq_false_iff_eq, Bool.not_eq_true, Bool.not_eq_false] at hc12
    refine WC.skip ?_
    refine WC.seq ?_
    refine WC.region ?_
    refine WL.val (.assign (.of rfl)) rfl ?_
    refine WL.nil ?_
    refine WC.seq ?_
    refine WC.seq ?_
    refine WC.region ?_
    refine WL.val (.assign (.of rfl)) rfl ?_
    refine WL.nil ?_
    refine WC.block ?_
    replace hS := hS.vecNil 25 1
    refine WC.loop (σ := Nat × Option Addr × Nat) (fun ⟨k, va, vc⟩ => [(0, .slice p0 zs.length c0), (3, .bool true), (4, .slice va k vc), (5, I64 (k : Nat))]) (fun ⟨k, va, vc⟩ w => k ≤ zs.length ∧ Sat B w I (Vec 25 1 (.slice va k vc) k (((zs.take k).map Int.toNat).map F64) :: As)) (fun ⟨k, va, vc⟩ => zs.length - k) (0, none, 0) ⟨rfl, rfl, rfl, rfl, trivial⟩ ⟨Nat.zero_le _, hS⟩ ?_
    rintro ⟨k, va, vc⟩ w ⟨hk, hS⟩
    change WC _ _ _ _ [(0, .slice p0 zs.length c0), (3, .bool true), (4, .slice va k vc), (5, I64 (k : Nat))] w
    refine WC.seq ?_
    refine WC.seq ?_
    refine WC.region ?_
    refine WL.val (.move (.of rfl)) rfl ?_
    refine WL.val (.move (.of rfl)) rfl ?_
    refine WL.val (.lenSlice (.of rfl) Try.underlying22) rfl ?_
    refine WL.val (.lss (.of rfl) (.of rfl)) rfl ?_
    refine WL.nil ?_
    refine WC.cond rfl (fun hb17 => ?_) (fun hb17 => ?_)
    ·
      have hc17 := hb17; try simp only [decide_eq_true_eq, decide_eq_false_iff_not, beq_iff_eq, beq_eq_false_iff_ne, bne_iff_ne, Bool.not_eq_true', Bool.not_eq_false', Bool.or_eq_true, Bool.and_eq_true, Bool.or_eq_false_iff, Bool.and_eq_false_iff, ne_eq, Int.not_lt, Int.not_le, bne_eq_false_iff_eq, Bool.not_eq_true, Bool.not_eq_false] at hc17
      refine WC.skip ?_
      refine WC.seq ?_
      refine WC.block ?_
      obtain ⟨pa, rfl, ha⟩ := hr.2 (by omega)
      refine WC.region ?_
      refine WL.val (.move (.of rfl)) rfl ?_
      refine WL.val (.move (.of rfl)) rfl ?_
      refine WL.val (.move (.of rfl)) rfl ?_
      first | refine WL.val (.indexAddr (.of rfl) (.of rfl) (by omega) (by omega) Try.underlying22 Try.sizeOf27) rfl ?_ | refine WL.val (.indexAddrI (.of rfl) (.of rfl) (by omega) (by omega) Try.underlying22 Try.sizeOf27) rfl ?_
      refine WL.val (.ldEI U64 zs 0 (i := (k : Int)) (.of rfl) hS ha rfl Try.isAgg27 (by omega) (by omega)) rfl ?_
      refine WL.call Try.func11 rfl (evs_cons (.of rfl) evs_nil) rfl (number_any _ w) ?_
      rintro _ _ ⟨rfl, rfl⟩
      refine WL.buildSlice (cs := [_]) hS (parts_cons (.of rfl) parts_nil) Try.underlying24 Try.sizeOf25 Try.zeroValue25 rfl rfl rfl rfl ?_
      clear hS; intro b26 w hS
      first | refine WL.append (size := 1) (bytes := 8) hS (.of rfl) (.of rfl) (k := 0) rfl Try.underlying24 Try.type25 rfl rfl rfl rfl rfl rfl rfl ⟨by omega, by unfold maxLen; omega⟩ rfl ?_
      clear hS; intro v27 w hS; try dsimp only [List.set] at hS
      first | obtain ⟨a27, c27, rfl, hcap27, _⟩ := hS.vecSlice (k := 0) (v := v27) rfl
      refine WL.val (.assign (.of rfl)) rfl ?_
      refine WL.nil ?_
      refine WC.region ?_
      refine WL.val (.move (.of rfl)) rfl ?_
      refine WL.val (.add (.of rfl) (.of rfl) ⟨by omega, by omega⟩) rfl ?_
      refine WL.val (.assign (.of rfl)) rfl ?_
      refine WL.nil ?_
      refine ⟨(k + 1, a27, c27), ⟨rfl, rfl, rfl, rfl, trivial⟩, ⟨by (try dsimp only); omega, ?_⟩, by (try dsimp only); omega⟩
      have e : (zs.take (k + 1)).map Int.toNat = (zs.take k).map Int.toNat ++ [(zs.getD (k : Int).toNat 0).toNat] := by
        rw [List.take_add_one, List.map_append, Int.toNat_natCast, List.getD_eq_getElem?_getD, List.getElem?_eq_getElem (by omega)]; rfl
      rw [e, List.map_append]; exact hS
    ·
      have hc17 := hb17; try simp only [decide_eq_true_eq, decide_eq_false_iff_not, beq_iff_eq, beq_eq_false_iff_ne, bne_iff_ne, Bool.not_eq_true', Bool.not_eq_false', Bool.or_eq_true, Bool.and_eq_true, Bool.or_eq_false_iff, Bool.and_eq_false_iff, ne_eq, Int.not_lt, Int.not_le, bne_eq_false_iff_eq, Bool.not_eq_true, Bool.not_eq_false] at hc17
      refine WC.exit ?_
      refine WC.seq ?_
      refine WC.region ?_
      refine WL.val (.move (.of rfl)) rfl ?_
      have hkn : k = zs.length := by omega
      subst hkn
      rw [List.take_of_length_le (Nat.le_refl _)] at hS
      obtain ⟨J1, hJ1, hflt, hT⟩ := hS.freezeVec (k := 0) rfl; clear hS; have hS := hT; clear hT; try dsimp only [List.eraseIdx] at hS
      have small : ∀ v ∈ zs.map Int.toNat, v < 18446744073709551616 := fun v hv => by
        obtain ⟨z, hz1, rfl⟩ := List.mem_map.1 hv
        have := u64_wf (hz z hz1)
        omega
      refine WL.call Try.func12 rfl (evs_cons (.of rfl) evs_nil) rfl (Order_n (zs.map Int.toNat) zs.length (List.length_map ..) small (by omega) _ _ B w J1 (hflt) As hS) ?_
      clear hS
      rintro _ w ⟨D1, xa, xc, J2, rfl, hD1, hJ2, hxr, hS⟩
      refine WL.val (.assign (.of rfl)) rfl ?_
      refine WL.nil ?_
      refine WC.seq ?_
      refine WC.region ?_
      refine WL.val (.move (.of rfl)) rfl ?_
      refine WL.call Try.func13 rfl (evs_cons (.of rfl) evs_nil) rfl (refOrder_n (zs.map Int.toNat) zs.length (List.length_map ..) small (by omega) _ _ B w J2 (hflt.mono hJ2) As hS) ?_
      clear hS
      rintro _ w ⟨D2, ya, yc, J3, rfl, hD2, hJ3, hyr, hS⟩
      refine WL.val (.assign (.of rfl)) rfl ?_
      refine WL.nil ?_
      refine WC.seq ?_
      refine WC.seq ?_
      refine WC.region ?_
      refine WL.val (.move (.of rfl)) rfl ?_
      refine WL.val (.lenSlice (.of rfl) Try.underlying28) rfl ?_
      refine WL.val (.move (.of rfl)) rfl ?_
      refine WL.val (.lenSlice (.of rfl) Try.underlying28) rfl ?_
      refine WL.val (.neq (.of rfl) (.of rfl)) rfl ?_
      refine WL.nil ?_
      refine WC.cond rfl (fun hb36 => ?_) (fun hb36 => ?_)
      ·
        have hc36 := hb36; try simp only [decide_eq_true_eq, decide_eq_false_iff_not, beq_iff_eq, beq_eq_false_iff_ne, bne_iff_ne, Bool.not_eq_true', Bool.not_eq_false', Bool.or_eq_true, Bool.and_eq_true, Bool.or_eq_false_iff, Bool.and_eq_false_iff, ne_eq, Int.not_lt, Int.not_le, bne_eq_false_iff_eq, Bool.not_eq_true, Bool.not_eq_false] at hc36
        refine WC.seq ?_
        refine WC.region ?_
        refine WL.val (.assign (.of rfl)) rfl ?_
        refine WL.nil ?_
        refine WC.ret ?_
        refine ret1 Try.results3 rfl ?_
        exfalso; simp at hb36
      ·
        have hc36 := hb36; try simp only [decide_eq_true_eq, decide_eq_false_iff_not, beq_iff_eq, beq_eq_false_iff_ne, bne_iff_ne, Bool.not_eq_true', Bool.not_eq_false', Bool.or_eq_true, Bool.and_eq_true, Bool.or_eq_false_iff, Bool.and_eq_false_iff, ne_eq, Int.not_lt, Int.not_le, bne_eq_false_iff_eq, Bool.not_eq_true, Bool.not_eq_false] at hc36
        refine WC.skip ?_
        refine WC.seq ?_
        refine WC.seq ?_
        obtain rfl := hD1.unique hD2
        have hDl := hD1.len
        have hxr2 := hxr.mono hJ3
        refine WC.region ?_
        refine WL.val (.assign (.of rfl)) rfl ?_
        refine WL.nil ?_
        refine WC.block ?_
        refine WC.loop (σ := Nat) (fun i => [(3, .bool true), (6, .slice xa zs.length xc), (7, .slice ya zs.length yc), (8, I64 (i : Nat))]) (fun i w => i ≤ zs.length ∧ Sat B w J3 As) (fun i => zs.length - i) 0 ⟨rfl, rfl, rfl, rfl, trivial⟩ ⟨Nat.zero_le _, hS⟩ ?_
        rintro i w ⟨hi, hS⟩
        change WC _ _ _ _ [(3, .bool true), (6, .slice xa zs.length xc), (7, .slice ya zs.length yc), (8, I64 (i : Nat))] w
        refine WC.seq ?_
        refine WC.seq ?_
        refine WC.region ?_
        refine WL.val (.move (.of rfl)) rfl ?_
        refine WL.val (.move (.of rfl)) rfl ?_
        refine WL.val (.lenSlice (.of rfl) Try.underlying28) rfl ?_
        refine WL.val (.lss (.of rfl) (.of rfl)) rfl ?_
        refine WL.nil ?_
        refine WC.cond rfl (fun hb40 => ?_) (fun hb40 => ?_)
        ·
          have hc40 := hb40; try simp only [decide_eq_true_eq, decide_eq_false_iff_not, beq_iff_eq, beq_eq_false_iff_ne, bne_iff_ne, Bool.not_eq_true', Bool.not_eq_false', Bool.or_eq_true, Bool.and_eq_true, Bool.or_eq_false_iff, Bool.and_eq_false_iff, ne_eq, Int.not_lt, Int.not_le, bne_eq_false_iff_eq, Bool.not_eq_true, Bool.not_eq_false] at hc40
          refine WC.skip ?_
          refine WC.seq ?_
          refine WC.block ?_
          refine WC.seq ?_
          obtain ⟨xp, rfl, hxp⟩ := hxr2.2 (by omega)
          obtain ⟨yp, rfl, hyp⟩ := hyr.2 (by omega)
          refine WC.quiet (by kernel_rfl) (by kernel_rfl) hS ?_
          refine WQ.val (fun w hS => (.move (.of rfl))) rfl ?_
          refine WQ.val (fun w hS => (.move (.of rfl))) rfl ?_
          refine WQ.val (fun w hS => (by first | exact .indexAddr (.of rfl) (.of rfl) (by omega) (by omega) Try.underlying28 Try.sizeOf3 | exact .indexAddrI (.of rfl) (.of rfl) (by omega) (by omega) Try.underlying28 Try.sizeOf3)) rfl ?_
          refine WQ.val (fun w hS => .ldEI I64 D1 0 (i := (i : Int)) (.of rfl) hS hxp rfl Try.isAgg3 (by omega) (by omega)) rfl ?_
          refine WQ.val (fun w hS => (.move (.of rfl))) rfl ?_
          refine WQ.val (fun w hS => (.move (.of rfl))) rfl ?_
          refine WQ.val (fun w hS => (by first | exact .indexAddr (.of rfl) (.of rfl) (by omega) (by omega) Try.underlying28 Try.sizeOf3 | exact .indexAddrI (.of rfl) (.of rfl) (by omega) (by omega) Try.underlying28 Try.sizeOf3)) rfl ?_
          refine WQ.val (fun w hS => .ldEI I64 D1 0 (i := (i : Int)) (.of rfl) hS hyp rfl Try.isAgg3 (by omega) (by omega)) rfl ?_
          refine WQ.val (fun w hS => (.neq (.of rfl) (.of rfl))) rfl ?_
          refine WQ.nil ?_
          clear hS; intro w hS
          refine WC.cond rfl (fun hb51 => ?_) (fun hb51 => ?_)
          ·
            have hc51 := hb51; try simp only [decide_eq_true_eq, decide_eq_false_iff_not, beq_iff_eq, beq_eq_false_iff_ne, bne_iff_ne, Bool.not_eq_true', Bool.not_eq_false', Bool.or_eq_true, Bool.and_eq_true, Bool.or_eq_false_iff, Bool.and_eq_false_iff, ne_eq, Int.not_lt, Int.not_le, bne_eq_false_iff_eq, Bool.not_eq_true, Bool.not_eq_false] at hc51
            refine WC.seq ?_
            refine WC.region ?_
            refine WL.val (.assign (.of rfl)) rfl ?_
            refine WL.nil ?_
            refine WC.ret ?_
            refine ret1 Try.results3 rfl ?_
            exfalso; simp at hb51
          ·
            have hc51 := hb51; try simp only [decide_eq_true_eq, decide_eq_false_iff_not, beq_iff_eq, beq_eq_false_iff_ne, bne_iff_ne, Bool.not_eq_true', Bool.not_eq_false', Bool.or_eq_true, Bool.and_eq_true, Bool.or_eq_false_iff, Bool.and_eq_false_iff, ne_eq, Int.not_lt, Int.not_le, bne_eq_false_iff_eq, Bool.not_eq_true, Bool.not_eq_false] at hc51
            refine WC.skip ?_
            refine WC.region ?_
            refine WL.val (.move (.of rfl)) rfl ?_
            refine WL.val (.add (.of rfl) (.of rfl) ⟨by omega, by omega⟩) rfl ?_
            refine WL.val (.assign (.of rfl)) rfl ?_
            refine WL.nil ?_
            exact ⟨i + 1, ⟨rfl, rfl, rfl, rfl, trivial⟩, ⟨by omega, hS⟩, by omega⟩
        ·
          have hc40 := hb40; try simp only [decide_eq_true_eq, decide_eq_false_iff_not, beq_iff_eq, beq_eq_false_iff_ne, bne_iff_ne, Bool.not_eq_true', Bool.not_eq_false', Bool.or_eq_true, Bool.and_eq_true, Bool.or_eq_false_iff, Bool.and_eq_false_iff, ne_eq, Int.not_lt, Int.not_le, bne_eq_false_iff_eq, Bool.not_eq_true, Bool.not_eq_false] at hc40
          refine WC.exit ?_
          refine WC.seq ?_
          refine WC.region ?_
          refine WL.val (.move (.of rfl)) rfl ?_
          refine WL.val (.assign (.of rfl)) rfl ?_
          refine WL.nil ?_
          refine WC.ret ?_
          refine ret1 Try.results3 rfl ?_
          exact ⟨_, rfl, rfl, J3, (hJ1.trans hJ2).trans hJ3, hS⟩
set_option maxHeartbeats 400000 in
theorem RankSorts_any (p0 : Option Addr) (zs : List Int) (c0 : Nat) (B w : World) (I : Im) (As : List Assn) (hS : Sat B w I As) (hr : RS I p0 1 zs.length (zs.map fun z => .int .u64 z)) (hz : ∀ z ∈ zs, (Lit.int .u64 z).wf = true) :
    Calls Try.prog 8 [.slice p0 zs.length c0].toArray w (Ret fun v w' => v = .bool true ∧ ∃ J, Le I J ∧ Sat B w' J As) := by
  refine calls Try.func8 rfl Try.ntmps8 rfl ?_
  refine WC.seq ?_
  refine WC.region ?_
  refine WL.val (.assign (.of rfl)) rfl ?_
  refine WL.nil ?_
  refine WC.seq ?_
  refine WC.region ?_
  refine WL.call Try.func10 rfl evs_nil rfl (awake_any B w I As hS) ?_
  clear hS
  rintro _ w ⟨rfl, hS⟩
  refine WL.val (.assign (.of rfl)) rfl ?_
  refine WL.nil ?_
  refine WC.seq ?_
  refine WC.seq ?_
  refine WC.region ?_
  refine WL.val (.move (.of rfl)) rfl ?_
  refine WL.val (.lenSlice (.of rfl) Try.underlying22) rfl ?_
  refine WL.val (.gtr (.of rfl) (.of rfl)) rfl ?_
  refine WL.nil ?_
  refine WC.cond rfl (fun hb12 => ?_) (fun hb12 => ?_)
  ·
    have hc12 := hb12; try simp only [decide_eq_true_eq, decide_eq_false_iff_not, beq_iff_eq, beq_eq_false_iff_ne, bne_iff_ne, Bool.not_eq_true', Bool.not_eq_false', Bool.or_eq_true, Bool.and_eq_true, Bool.or_eq_false_iff, Bool.and_eq_false_iff, ne_eq, Int.not_lt, Int.not_le, bne_eq_false_iff_eq, Bool.not_eq_true, Bool.not_eq_false] at hc12
    refine WC.seq ?_
    refine WC.region ?_
    refine WL.val (.move (.of rfl)) rfl ?_
    refine WL.val (.assign (.of rfl)) rfl ?_
    refine WL.nil ?_
    refine WC.ret ?_
    refine ret1 Try.results8 rfl ?_
    exact ⟨_, rfl, rfl, I, Le.refl _, hS⟩
  ·
    have hc12 := hb12; try simp only [decide_eq_true_eq, decide_eq_false_iff_not, beq_iff_eq, beq_eq_false_iff_ne, bne_iff_ne, Bool.not_eq_true', Bool.not_eq_false', Bool.or_eq_true, Bool.and_eq_true, Bool.or_eq_false_iff, Bool.and_eq_false_iff, ne_eq, Int.not_lt, Int.not_le, bne_eq_false_iff_eq, Bool.not_eq_true, Bool.not_eq_false] at hc12
    refine WC.skip ?_
    refine WC.seq ?_
    refine WC.region ?_
    refine WL.val (.assign (.of rfl)) rfl ?_
    refine WL.nil ?_
    refine WC.seq ?_
    refine WC.seq ?_
    refine WC.region ?_
    refine WL.val (.assign (.of rfl)) rfl ?_
    refine WL.nil ?_
    refine WC.block ?_
    replace hS := hS.vecNil 25 1
    refine WC.loop (σ := Nat × Option Addr × Nat) (fun ⟨k, va, vc⟩ => [(0, .slice p0 zs.length c0), (3, .bool true), (4, .slice va k vc), (5, I64 (k : Nat))]) (fun ⟨k, va, vc⟩ w => k ≤ zs.length ∧ Sat B w I (Vec 25 1 (.slice va k vc) k (((zs.take k).map Int.toNat).map F64) :: As)) (fun ⟨k, va, vc⟩ => zs.length - k) (0, none, 0) ⟨rfl, rfl, rfl, rfl, trivial⟩ ⟨Nat.zero_le _, hS⟩ ?_
    rintro ⟨k, va, vc⟩ w ⟨hk, hS⟩
    change WC _ _ _ _ [(0, .slice p0 zs.length c0), (3, .bool true), (4, .slice va k vc), (5, I64 (k : Nat))] w
    refine WC.seq ?_
    refine WC.seq ?_
    refine WC.region ?_
    refine WL.val (.move (.of rfl)) rfl ?_
    refine WL.val (.move (.of rfl)) rfl ?_
    refine WL.val (.lenSlice (.of rfl) Try.underlying22) rfl ?_
    refine WL.val (.lss (.of rfl) (.of rfl)) rfl ?_
    refine WL.nil ?_
    refine WC.cond rfl (fun hb17 => ?_) (fun hb17 => ?_)
    ·
      have hc17 := hb17; try simp only [decide_eq_true_eq, decide_eq_false_iff_not, beq_iff_eq, beq_eq_false_iff_ne, bne_iff_ne, Bool.not_eq_true', Bool.not_eq_false', Bool.or_eq_true, Bool.and_eq_true, Bool.or_eq_false_iff, Bool.and_eq_false_iff, ne_eq, Int.not_lt, Int.not_le, bne_eq_false_iff_eq, Bool.not_eq_true, Bool.not_eq_false] at hc17
      refine WC.skip ?_
      refine WC.seq ?_
      refine WC.block ?_
      obtain ⟨pa, rfl, ha⟩ := hr.2 (by omega)
      refine WC.region ?_
      refine WL.val (.move (.of rfl)) rfl ?_
      refine WL.val (.move (.of rfl)) rfl ?_
      refine WL.val (.move (.of rfl)) rfl ?_
      first | refine WL.val (.indexAddr (.of rfl) (.of rfl) (by omega) (by omega) Try.underlying22 Try.sizeOf27) rfl ?_ | refine WL.val (.indexAddrI (.of rfl) (.of rfl) (by omega) (by omega) Try.underlying22 Try.sizeOf27) rfl ?_
      refine WL.val (.ldEI U64 zs 0 (i := (k : Int)) (.of rfl) hS ha rfl Try.isAgg27 (by omega) (by omega)) rfl ?_
      refine WL.call Try.func11 rfl (evs_cons (.of rfl) evs_nil) rfl (number_any _ w) ?_
      rintro _ _ ⟨rfl, rfl⟩
      refine WL.buildSlice (cs := [_]) hS (parts_cons (.of rfl) parts_nil) Try.underlying24 Try.sizeOf25 Try.zeroValue25 rfl rfl rfl rfl ?_
      clear hS; intro b26 w hS
      first | refine WL.append (size := 1) (bytes := 8) hS (.of rfl) (.of rfl) (k := 0) rfl Try.underlying24 Try.type25 rfl rfl rfl rfl rfl rfl rfl ⟨by omega, by unfold maxLen; omega⟩ rfl ?_
      clear hS; intro v27 w hS; try dsimp only [List.set] at hS
      first | obtain ⟨a27, c27, rfl, hcap27, _⟩ := hS.vecSlice (k := 0) (v := v27) rfl
      refine WL.val (.assign (.of rfl)) rfl ?_
      refine WL.nil ?_
      refine WC.region ?_
      refine WL.val (.move (.of rfl)) rfl ?_
      refine WL.val (.add (.of rfl) (.of rfl) ⟨by omega, by omega⟩) rfl ?_
      refine WL.val (.assign (.of rfl)) rfl ?_
      refine WL.nil ?_
      refine ⟨(k + 1, a27, c27), ⟨rfl, rfl, rfl, rfl, trivial⟩, ⟨by (try dsimp only); omega, ?_⟩, by (try dsimp only); omega⟩
      have e : (zs.take (k + 1)).map Int.toNat = (zs.take k).map Int.toNat ++ [(zs.getD (k : Int).toNat 0).toNat] := by
        rw [List.take_add_one, List.map_append, Int.toNat_natCast, List.getD_eq_getElem?_getD, List.getElem?_eq_getElem (by omega)]; rfl
      rw [e, List.map_append]; exact hS
    ·
      have hc17 := hb17; try simp only [decide_eq_true_eq, decide_eq_false_iff_not, beq_iff_eq, beq_eq_false_iff_ne, bne_iff_ne, Bool.not_eq_true', Bool.not_eq_false', Bool.or_eq_true, Bool.and_eq_true, Bool.or_eq_false_iff, Bool.and_eq_false_iff, ne_eq, Int.not_lt, Int.not_le, bne_eq_false_iff_eq, Bool.not_eq_true, Bool.not_eq_false] at hc17
      refine WC.exit ?_
      refine WC.seq ?_
      refine WC.region ?_
      refine WL.val (.move (.of rfl)) rfl ?_
      have hkn : k = zs.length := by omega
      subst hkn
      rw [List.take_of_length_le (Nat.le_refl _)] at hS
      obtain ⟨J1, hJ1, hflt, hT⟩ := hS.freezeVec (k := 0) rfl; clear hS; have hS := hT; clear hT; try dsimp only [List.eraseIdx] at hS
      have small : ∀ v ∈ zs.map Int.toNat, v < 18446744073709551616 := fun v hv => by
        obtain ⟨z, hz1, rfl⟩ := List.mem_map.1 hv
        have := u64_wf (hz z hz1)
        omega
      refine WL.call Try.func12 rfl (evs_cons (.of rfl) evs_nil) rfl (Order_n (zs.map Int.toNat) zs.length (List.length_map ..) small (by omega) _ _ B w J1 (hflt) As hS) ?_
      clear hS
      rintro _ w ⟨D1, xa, xc, J2, rfl, hD1, hJ2, hxr, hS⟩
      refine WL.val (.assign (.of rfl)) rfl ?_
      refine WL.nil ?_
      refine WC.seq ?_
      refine WC.seq ?_
      refine WC.region ?_
      refine WL.val (.move (.of rfl)) rfl ?_
      refine WL.val (.lenSlice (.of rfl) Try.underlying28) rfl ?_
      refine WL.val (.move (.of rfl)) rfl ?_
      refine WL.val (.lenSlice (.of rfl) Try.underlying22) rfl ?_
      refine WL.val (.neq (.of rfl) (.of rfl)) rfl ?_
      refine WL.nil ?_
      refine WC.cond rfl (fun hb34 => ?_) (fun hb34 => ?_)
      ·
        have hc34 := hb34; try simp only [decide_eq_true_eq, decide_eq_false_iff_not, beq_iff_eq, beq_eq_false_iff_ne, bne_iff_ne, Bool.not_eq_true', Bool.not_eq_false', Bool.or_eq_true, Bool.and_eq_true, Bool.or_eq_false_iff, Bool.and_eq_false_iff, ne_eq, Int.not_lt, Int.not_le, bne_eq_false_iff_eq, Bool.not_eq_true, Bool.not_eq_false] at hc34
        refine WC.seq ?_
        refine WC.region ?_
        refine WL.val (.assign (.of rfl)) rfl ?_
        refine WL.nil ?_
        refine WC.ret ?_
        refine ret1 Try.results8 rfl ?_
        exfalso; simp at hb34
      ·
        have hc34 := hb34; try simp only [decide_eq_true_eq, decide_eq_false_iff_not, beq_iff_eq, beq_eq_false_iff_ne, bne_iff_ne, Bool.not_eq_true', Bool.not_eq_false', Bool.or_eq_true, Bool.and_eq_true, Bool.or_eq_false_iff, Bool.and_eq_false_iff, ne_eq, Int.not_lt, Int.not_le, bne_eq_false_iff_eq, Bool.not_eq_true, Bool.not_eq_false] at hc34
        refine WC.skip ?_
        refine WC.seq ?_
        have hDl := hD1.len
        have hDm : ∀ q : Nat, q < zs.length → 0 ≤ D1.getD q 0 ∧ D1.getD q 0 < (zs.length : Int) := fun q hq => Srt.upto_mem.1 (hD1.2.mem_iff.1 (Srt.getD_mem (by omega)))
        have hDn : D1.Nodup := hD1.2.nodup_iff.2 ((Srt.upto_lt zs.length).imp fun h => by omega)
        refine WC.region ?_
        refine WL.val (.move (.of rfl)) rfl ?_
        refine WL.val (.lenSlice (.of rfl) Try.underlying22) rfl ?_
        refine WL.make (l := zs.length) hS (.of rfl) (.of rfl) Try.underlying39 Try.type4 rfl (by simp [Try.t4] <;> omega) (by omega) rfl rfl rfl ?_
        clear hS; intro b37 w hS
        refine WL.val (.assign (.of rfl)) rfl ?_
        refine WL.nil ?_
        refine WC.seq ?_
        refine WC.seq ?_
        refine WC.region ?_
        refine WL.val (.assign (.of rfl)) rfl ?_
        refine WL.nil ?_
        refine WC.block ?_
        refine WC.loop (σ := Nat × List Bool) (fun ⟨i, us⟩ => [(0, .slice p0 zs.length c0), (3, .bool true), (4, .slice va zs.length vc), (6, .slice xa zs.length xc), (7, .slice (some (ad b37 0)) zs.length zs.length), (8, I64 (i : Nat))]) (fun ⟨i, us⟩ w => i ≤ zs.length ∧ us.length = zs.length ∧ (∀ q : Nat, i ≤ q → q < zs.length → us.getD (D1.getD q 0).toNat false = false) ∧ Sat B w J2 (blk b37 (us.map Value.bool ++ []) 4 :: As)) (fun ⟨i, us⟩ => zs.length - i) (0, List.replicate zs.length false) ⟨rfl, rfl, rfl, rfl, rfl, rfl, trivial⟩ ⟨Nat.zero_le _, List.length_replicate .., fun q _ hq => (by rw [List.getD_eq_getElem?_getD, List.getElem?_replicate]; split <;> rfl), by rw [List.map_replicate, List.append_nil]; exact hS⟩ ?_
        rintro ⟨i, us⟩ w ⟨hi, hus, hfree, hS⟩
        change WC _ _ _ _ [(0, .slice p0 zs.length c0), (3, .bool true), (4, .slice va zs.length vc), (6, .slice xa zs.length xc), (7, .slice (some (ad b37 0)) zs.length zs.length), (8, I64 (i : Nat))] w
        refine WC.seq ?_
        refine WC.seq ?_
        refine WC.region ?_
        refine WL.val (.move (.of rfl)) rfl ?_
        refine WL.val (.move (.of rfl)) rfl ?_
        refine WL.val (.lenSlice (.of rfl) Try.underlying28) rfl ?_
        refine WL.val (.lss (.of rfl) (.of rfl)) rfl ?_
        refine WL.nil ?_
        refine WC.cond rfl (fun hb41 => ?_) (fun hb41 => ?_)
        ·
          have hc41 := hb41; try simp only [decide_eq_true_eq, decide_eq_false_iff_not, beq_iff_eq, beq_eq_false_iff_ne, bne_iff_ne, Bool.not_eq_true', Bool.not_eq_false', Bool.or_eq_true, Bool.and_eq_true, Bool.or_eq_false_iff, Bool.and_eq_false_iff, ne_eq, Int.not_lt, Int.not_le, bne_eq_false_iff_eq, Bool.not_eq_true, Bool.not_eq_false] at hc41
          refine WC.skip ?_
          refine WC.seq ?_
          refine WC.block ?_
          refine WC.seq ?_
          refine WC.seq ?_
          obtain ⟨xp, rfl, hxp⟩ := hxr.2 (by omega)
          obtain ⟨fp, rfl, hfp0⟩ := hflt.2 (by omega)
          have hfp := hfp0.mono hJ2
          have hxl : (zs.map Int.toNat).length = zs.length := List.length_map ..
          have hdi := hDm i (by omega)
          have hdp := hDm ((i : Int) - 1).toNat (by omega)
          rw [show i = (i : Int).toNat from rfl] at hdi
          refine WC.region ?_
          refine WL.val (.move (.of rfl)) rfl ?_
          refine WL.val (.move (.of rfl)) rfl ?_
          first | refine WL.val (.indexAddr (.of rfl) (.of rfl) (by omega) (by omega) Try.underlying28 Try.sizeOf3) rfl ?_ | refine WL.val (.indexAddrI (.of rfl) (.of rfl) (by omega) (by omega) Try.underlying28 Try.sizeOf3) rfl ?_
          refine WL.val (.ldEI I64 D1 0 (i := (i : Int)) (.of rfl) hS hxp rfl Try.isAgg3 (by omega) (by omega)) rfl ?_
          refine WL.val (.lss (.of rfl) (.of rfl)) rfl ?_
          refine WL.val (.move (.of rfl)) rfl ?_
          refine WL.gval rfl rfl (fun hg1 => (.move (.of rfl))) rfl ?_
          refine WL.gval rfl rfl (fun hg1 => (.move (.of rfl))) rfl ?_
          refine WL.gval rfl rfl (fun hg1 => (by first | exact .indexAddr (.gd hg1 rfl) (.gd hg1 rfl) (by (try simp only [decide_eq_true_eq, decide_eq_false_iff_not, beq_iff_eq, beq_eq_false_iff_ne, bne_iff_ne, Bool.not_eq_true', Bool.not_eq_false', Bool.or_eq_true, Bool.and_eq_true, Bool.or_eq_false_iff, Bool.and_eq_false_iff, ne_eq, Int.not_lt, Int.not_le, bne_eq_false_iff_eq, Bool.not_eq_true, Bool.not_eq_false] at hg1); omega) (by (try simp only [decide_eq_true_eq, decide_eq_false_iff_not, beq_iff_eq, beq_eq_false_iff_ne, bne_iff_ne, Bool.not_eq_true', Bool.not_eq_false', Bool.or_eq_true, Bool.and_eq_true, Bool.or_eq_false_iff, Bool.and_eq_false_iff, ne_eq, Int.not_lt, Int.not_le, bne_eq_false_iff_eq, Bool.not_eq_true, Bool.not_eq_false] at hg1); omega) Try.underlying28 Try.sizeOf3 | exact .indexAddrI (.gd hg1 rfl) (.gd hg1 rfl) (by (try simp only [decide_eq_true_eq, decide_eq_false_iff_not, beq_iff_eq, beq_eq_false_iff_ne, bne_iff_ne, Bool.not_eq_true', Bool.not_eq_false', Bool.or_eq_true, Bool.and_eq_true, Bool.or_eq_false_iff, Bool.and_eq_false_iff, ne_eq, Int.not_lt, Int.not_le, bne_eq_false_iff_eq, Bool.not_eq_true, Bool.not_eq_false] at hg1); omega) (by (try simp only [decide_eq_true_eq, decide_eq_false_iff_not, beq_iff_eq, beq_eq_false_iff_ne, bne_iff_ne, Bool.not_eq_true', Bool.not_eq_false', Bool.or_eq_true, Bool.and_eq_true, Bool.or_eq_false_iff, Bool.and_eq_false_iff, ne_eq, Int.not_lt, Int.not_le, bne_eq_false_iff_eq, Bool.not_eq_true, Bool.not_eq_false] at hg1); omega) Try.underlying28 Try.sizeOf3)) rfl ?_
          refine WL.gval rfl rfl (fun hg1 => .ldEI I64 D1 0 (i := (i : Int)) (.gd hg1 rfl) hS hxp rfl Try.isAgg3 (by (try simp only [decide_eq_true_eq, decide_eq_false_iff_not, beq_iff_eq, beq_eq_false_iff_ne, bne_iff_ne, Bool.not_eq_true', Bool.not_eq_false', Bool.or_eq_true, Bool.and_eq_true, Bool.or_eq_false_iff, Bool.and_eq_false_iff, ne_eq, Int.not_lt, Int.not_le, bne_eq_false_iff_eq, Bool.not_eq_true, Bool.not_eq_false] at hg1); omega) (by (try simp only [decide_eq_true_eq, decide_eq_false_iff_not, beq_iff_eq, beq_eq_false_iff_ne, bne_iff_ne, Bool.not_eq_true', Bool.not_eq_false', Bool.or_eq_true, Bool.and_eq_true, Bool.or_eq_false_iff, Bool.and_eq_false_iff, ne_eq, Int.not_lt, Int.not_le, bne_eq_false_iff_eq, Bool.not_eq_true, Bool.not_eq_false] at hg1); omega)) rfl ?_
          refine WL.gval rfl rfl (fun hg1 => (.move (.of rfl))) rfl ?_
          refine WL.gval rfl rfl (fun hg1 => (.lenSlice (.gd hg1 rfl) Try.underlying22)) rfl ?_
          refine WL.gval rfl rfl (fun hg1 => (.geq (.gd hg1 rfl) (.gd hg1 rfl))) rfl ?_
          refine WL.val (.por (.of rfl) (.of rfl) (.of rfl)) rfl ?_
          refine WL.val (.move (.of rfl)) rfl ?_
          refine WL.gval rfl rfl (fun hg1 => (.move (.of rfl))) rfl ?_
          refine WL.gval rfl rfl (fun hg1 => (.move (.of rfl))) rfl ?_
          refine WL.gval rfl rfl (fun hg1 => (.move (.of rfl))) rfl ?_
          refine WL.gval rfl rfl (fun hg1 => (by first | exact .indexAddr (.gd hg1 rfl) (.gd hg1 rfl) (by (try simp only [decide_eq_true_eq, decide_eq_false_iff_not, beq_iff_eq, beq_eq_false_iff_ne, bne_iff_ne, Bool.not_eq_true', Bool.not_eq_false', Bool.or_eq_true, Bool.and_eq_true, Bool.or_eq_false_iff, Bool.and_eq_false_iff, ne_eq, Int.not_lt, Int.not_le, bne_eq_false_iff_eq, Bool.not_eq_true, Bool.not_eq_false] at hg1); omega) (by (try simp only [decide_eq_true_eq, decide_eq_false_iff_not, beq_iff_eq, beq_eq_false_iff_ne, bne_iff_ne, Bool.not_eq_true', Bool.not_eq_false', Bool.or_eq_true, Bool.and_eq_true, Bool.or_eq_false_iff, Bool.and_eq_false_iff, ne_eq, Int.not_lt, Int.not_le, bne_eq_false_iff_eq, Bool.not_eq_true, Bool.not_eq_false] at hg1); omega) Try.underlying28 Try.sizeOf3 | exact .indexAddrI (.gd hg1 rfl) (.gd hg1 rfl) (by (try simp only [decide_eq_true_eq, decide_eq_false_iff_not, beq_iff_eq, beq_eq_false_iff_ne, bne_iff_ne, Bool.not_eq_true', Bool.not_eq_false', Bool.or_eq_true, Bool.and_eq_true, Bool.or_eq_false_iff, Bool.and_eq_false_iff, ne_eq, Int.not_lt, Int.not_le, bne_eq_false_iff_eq, Bool.not_eq_true, Bool.not_eq_false] at hg1); omega) (by (try simp only [decide_eq_true_eq, decide_eq_false_iff_not, beq_iff_eq, beq_eq_false_iff_ne, bne_iff_ne, Bool.not_eq_true', Bool.not_eq_false', Bool.or_eq_true, Bool.and_eq_true, Bool.or_eq_false_iff, Bool.and_eq_false_iff, ne_eq, Int.not_lt, Int.not_le, bne_eq_false_iff_eq, Bool.not_eq_true, Bool.not_eq_false] at hg1); omega) Try.underlying28 Try.sizeOf3)) rfl ?_
          refine WL.gval rfl rfl (fun hg1 => .ldEI I64 D1 0 (i := (i : Int)) (.gd hg1 rfl) hS hxp rfl Try.isAgg3 (by (try simp only [decide_eq_true_eq, decide_eq_false_iff_not, beq_iff_eq, beq_eq_false_iff_ne, bne_iff_ne, Bool.not_eq_true', Bool.not_eq_false', Bool.or_eq_true, Bool.and_eq_true, Bool.or_eq_false_iff, Bool.and_eq_false_iff, ne_eq, Int.not_lt, Int.not_le, bne_eq_false_iff_eq, Bool.not_eq_true, Bool.not_eq_false] at hg1); omega) (by (try simp only [decide_eq_true_eq, decide_eq_false_iff_not, beq_iff_eq, beq_eq_false_iff_ne, bne_iff_ne, Bool.not_eq_true', Bool.not_eq_false', Bool.or_eq_true, Bool.and_eq_true, Bool.or_eq_false_iff, Bool.and_eq_false_iff, ne_eq, Int.not_lt, Int.not_le, bne_eq_false_iff_eq, Bool.not_eq_true, Bool.not_eq_false] at hg1); omega)) rfl ?_
          refine WL.gval rfl rfl (fun hg1 => (by first | exact .indexAddr (.gd hg1 rfl) (.gd hg1 rfl) (by (try simp only [decide_eq_true_eq, decide_eq_false_iff_not, beq_iff_eq, beq_eq_false_iff_ne, bne_iff_ne, Bool.not_eq_true', Bool.not_eq_false', Bool.or_eq_true, Bool.and_eq_true, Bool.or_eq_false_iff, Bool.and_eq_false_iff, ne_eq, Int.not_lt, Int.not_le, bne_eq_false_iff_eq, Bool.not_eq_true, Bool.not_eq_false] at hg1); omega) (by (try simp only [decide_eq_true_eq, decide_eq_false_iff_not, beq_iff_eq, beq_eq_false_iff_ne, bne_iff_ne, Bool.not_eq_true', Bool.not_eq_false', Bool.or_eq_true, Bool.and_eq_true, Bool.or_eq_false_iff, Bool.and_eq_false_iff, ne_eq, Int.not_lt, Int.not_le, bne_eq_false_iff_eq, Bool.not_eq_true, Bool.not_eq_false] at hg1); omega) Try.underlying39 Try.sizeOf4 | exact .indexAddrI (.gd hg1 rfl) (.gd hg1 rfl) (by (try simp only [decide_eq_true_eq, decide_eq_false_iff_not, beq_iff_eq, beq_eq_false_iff_ne, bne_iff_ne, Bool.not_eq_true', Bool.not_eq_false', Bool.or_eq_true, Bool.and_eq_true, Bool.or_eq_false_iff, Bool.and_eq_false_iff, ne_eq, Int.not_lt, Int.not_le, bne_eq_false_iff_eq, Bool.not_eq_true, Bool.not_eq_false] at hg1); omega) (by (try simp only [decide_eq_true_eq, decide_eq_false_iff_not, beq_iff_eq, beq_eq_false_iff_ne, bne_iff_ne, Bool.not_eq_true', Bool.not_eq_false', Bool.or_eq_true, Bool.and_eq_true, Bool.or_eq_false_iff, Bool.and_eq_false_iff, ne_eq, Int.not_lt, Int.not_le, bne_eq_false_iff_eq, Bool.not_eq_true, Bool.not_eq_false] at hg1); omega) Try.underlying39 Try.sizeOf4)) rfl ?_
          refine WL.gval rfl rfl (fun hg1 => .ldE .bool us false [] (i := D1.getD (i : Int).toNat 0) (.gd hg1 rfl) hS (k := 0) rfl rfl Try.isAgg4 (by omega) (by omega)) rfl ?_
          refine WL.val (.por (.of rfl) (.of rfl) (.of rfl)) rfl ?_
          refine WL.nil ?_
          refine WC.cond rfl (fun hb66 => ?_) (fun hb66 => ?_)
          ·
            have hc66 := hb66; try simp only [decide_eq_true_eq, decide_eq_false_iff_not, beq_iff_eq, beq_eq_false_iff_ne, bne_iff_ne, Bool.not_eq_true', Bool.not_eq_false', Bool.or_eq_true, Bool.and_eq_true, Bool.or_eq_false_iff, Bool.and_eq_false_iff, ne_eq, Int.not_lt, Int.not_le, bne_eq_false_iff_eq, Bool.not_eq_true, Bool.not_eq_false] at hc66
            refine WC.seq ?_
            refine WC.region ?_
            refine WL.val (.assign (.of rfl)) rfl ?_
            refine WL.nil ?_
            refine WC.ret ?_
            refine ret1 Try.results8 rfl ?_
            exfalso
            have h3 := hfree i (Nat.le_refl _) (by omega)
            rw [show (D1.getD i 0) = D1.getD (i : Int).toNat 0 from rfl] at h3
            rw [h3, decide_eq_false (by omega), decide_eq_false (by omega)] at hb66
            simp at hb66
          ·
            have hc66 := hb66; try simp only [decide_eq_true_eq, decide_eq_false_iff_not, beq_iff_eq, beq_eq_false_iff_ne, bne_iff_ne, Bool.not_eq_true', Bool.not_eq_false', Bool.or_eq_true, Bool.and_eq_true, Bool.or_eq_false_iff, Bool.and_eq_false_iff, ne_eq, Int.not_lt, Int.not_le, bne_eq_false_iff_eq, Bool.not_eq_true, Bool.not_eq_false] at hc66
            refine WC.skip ?_
            refine WC.seq ?_
            refine WC.region ?_
            refine WL.val (.move (.of rfl)) rfl ?_
            refine WL.val (.move (.of rfl)) rfl ?_
            refine WL.val (.move (.of rfl)) rfl ?_
            first | refine WL.val (.indexAddr (.of rfl) (.of rfl) (by omega) (by omega) Try.underlying28 Try.sizeOf3) rfl ?_ | refine WL.val (.indexAddrI (.of rfl) (.of rfl) (by omega) (by omega) Try.underlying28 Try.sizeOf3) rfl ?_
            refine WL.val (.ldEI I64 D1 0 (i := (i : Int)) (.of rfl) hS hxp rfl Try.isAgg3 (by omega) (by omega)) rfl ?_
            first | refine WL.val (.indexAddr (.of rfl) (.of rfl) (by omega) (by omega) Try.underlying39 Try.sizeOf4) rfl ?_ | refine WL.val (.indexAddrI (.of rfl) (.of rfl) (by omega) (by omega) Try.underlying39 Try.sizeOf4) rfl ?_
            refine WL.stE .bool us [] (u := true) hS (k := 0) rfl (.of rfl) (.of rfl) rfl rfl Try.sizeOf4 (by omega) (by omega) ?_
            clear hS; intro w hS; dsimp only [List.set] at hS
            refine WL.nil ?_
            refine WC.seq ?_
            refine WC.quiet (by kernel_rfl) (by kernel_rfl) hS ?_
            refine WQ.val (fun w hS => (.move (.of rfl))) rfl ?_
            refine WQ.val (fun w hS => (.gtr (.of rfl) (.of rfl))) rfl ?_
            refine WQ.val (fun w hS => (.move (.of rfl))) rfl ?_
            refine WQ.gval rfl rfl rfl (fun hg1 w hS => (.move (.of rfl))) rfl ?_
            refine WQ.gval rfl rfl rfl (fun hg1 w hS => (.move (.of rfl))) rfl ?_
            refine WQ.gval rfl rfl rfl (fun hg1 w hS => (.move (.of rfl))) rfl ?_
            refine WQ.gval rfl rfl rfl (fun hg1 w hS => (by first | exact .indexAddr (.gd hg1 rfl) (.gd hg1 rfl) (by (try simp only [decide_eq_true_eq, decide_eq_false_iff_not, beq_iff_eq, beq_eq_false_iff_ne, bne_iff_ne, Bool.not_eq_true', Bool.not_eq_false', Bool.or_eq_true, Bool.and_eq_true, Bool.or_eq_false_iff, Bool.and_eq_false_iff, ne_eq, Int.not_lt, Int.not_le, bne_eq_false_iff_eq, Bool.not_eq_true, Bool.not_eq_false] at hg1); omega) (by (try simp only [decide_eq_true_eq, decide_eq_false_iff_not, beq_iff_eq, beq_eq_false_iff_ne, bne_iff_ne, Bool.not_eq_true', Bool.not_eq_false', Bool.or_eq_true, Bool.and_eq_true, Bool.or_eq_false_iff, Bool.and_eq_false_iff, ne_eq, Int.not_lt, Int.not_le, bne_eq_false_iff_eq, Bool.not_eq_true, Bool.not_eq_false] at hg1); omega) Try.underlying28 Try.sizeOf3 | exact .indexAddrI (.gd hg1 rfl) (.gd hg1 rfl) (by (try simp only [decide_eq_true_eq, decide_eq_false_iff_not, beq_iff_eq, beq_eq_false_iff_ne, bne_iff_ne, Bool.not_eq_true', Bool.not_eq_false', Bool.or_eq_true, Bool.and_eq_true, Bool.or_eq_false_iff, Bool.and_eq_false_iff, ne_eq, Int.not_lt, Int.not_le, bne_eq_false_iff_eq, Bool.not_eq_true, Bool.not_eq_false] at hg1); omega) (by (try simp only [decide_eq_true_eq, decide_eq_false_iff_not, beq_iff_eq, beq_eq_false_iff_ne, bne_iff_ne, Bool.not_eq_true', Bool.not_eq_false', Bool.or_eq_true, Bool.and_eq_true, Bool.or_eq_false_iff, Bool.and_eq_false_iff, ne_eq, Int.not_lt, Int.not_le, bne_eq_false_iff_eq, Bool.not_eq_true, Bool.not_eq_false] at hg1); omega) Try.underlying28 Try.sizeOf3)) rfl ?_
            refine WQ.gval rfl rfl rfl (fun hg1 w hS => .ldEI I64 D1 0 (i := (i : Int)) (.gd hg1 rfl) hS hxp rfl Try.isAgg3 (by (try simp only [decide_eq_true_eq, decide_eq_false_iff_not, beq_iff_eq, beq_eq_false_iff_ne, bne_iff_ne, Bool.not_eq_true', Bool.not_eq_false', Bool.or_eq_true, Bool.and_eq_true, Bool.or_eq_false_iff, Bool.and_eq_false_iff, ne_eq, Int.not_lt, Int.not_le, bne_eq_false_iff_eq, Bool.not_eq_true, Bool.not_eq_false] at hg1); omega) (by (try simp only [decide_eq_true_eq, decide_eq_false_iff_not, beq_iff_eq, beq_eq_false_iff_ne, bne_iff_ne, Bool.not_eq_true', Bool.not_eq_false', Bool.or_eq_true, Bool.and_eq_true, Bool.or_eq_false_iff, Bool.and_eq_false_iff, ne_eq, Int.not_lt, Int.not_le, bne_eq_false_iff_eq, Bool.not_eq_true, Bool.not_eq_false] at hg1); omega)) rfl ?_
            refine WQ.gval rfl rfl rfl (fun hg1 w hS => (by first | exact .indexAddr (.gd hg1 rfl) (.gd hg1 rfl) (by (try simp only [decide_eq_true_eq, decide_eq_false_iff_not, beq_iff_eq, beq_eq_false_iff_ne, bne_iff_ne, Bool.not_eq_true', Bool.not_eq_false', Bool.or_eq_true, Bool.and_eq_true, Bool.or_eq_false_iff, Bool.and_eq_false_iff, ne_eq, Int.not_lt, Int.not_le, bne_eq_false_iff_eq, Bool.not_eq_true, Bool.not_eq_false] at hg1); omega) (by (try simp only [decide_eq_true_eq, decide_eq_false_iff_not, beq_iff_eq, beq_eq_false_iff_ne, bne_iff_ne, Bool.not_eq_true', Bool.not_eq_false', Bool.or_eq_true, Bool.and_eq_true, Bool.or_eq_false_iff, Bool.and_eq_false_iff, ne_eq, Int.not_lt, Int.not_le, bne_eq_false_iff_eq, Bool.not_eq_true, Bool.not_eq_false] at hg1); omega) Try.underlying24 Try.sizeOf25 | exact .indexAddrI (.gd hg1 rfl) (.gd hg1 rfl) (by (try simp only [decide_eq_true_eq, decide_eq_false_iff_not, beq_iff_eq, beq_eq_false_iff_ne, bne_iff_ne, Bool.not_eq_true', Bool.not_eq_false', Bool.or_eq_true, Bool.and_eq_true, Bool.or_eq_false_iff, Bool.and_eq_false_iff, ne_eq, Int.not_lt, Int.not_le, bne_eq_false_iff_eq, Bool.not_eq_true, Bool.not_eq_false] at hg1); omega) (by (try simp only [decide_eq_true_eq, decide_eq_false_iff_not, beq_iff_eq, beq_eq_false_iff_ne, bne_iff_ne, Bool.not_eq_true', Bool.not_eq_false', Bool.or_eq_true, Bool.and_eq_true, Bool.or_eq_false_iff, Bool.and_eq_false_iff, ne_eq, Int.not_lt, Int.not_le, bne_eq_false_iff_eq, Bool.not_eq_true, Bool.not_eq_false] at hg1); omega) Try.underlying24 Try.sizeOf25)) rfl ?_
            refine WQ.gval rfl rfl rfl (fun hg1 w hS => .ldEI F64 (zs.map Int.toNat) 0 (i := D1.getD (i : Int).toNat 0) (.gd hg1 rfl) hS hfp rfl Try.isAgg25 (by (try simp only [decide_eq_true_eq, decide_eq_false_iff_not, beq_iff_eq, beq_eq_false_iff_ne, bne_iff_ne, Bool.not_eq_true', Bool.not_eq_false', Bool.or_eq_true, Bool.and_eq_true, Bool.or_eq_false_iff, Bool.and_eq_false_iff, ne_eq, Int.not_lt, Int.not_le, bne_eq_false_iff_eq, Bool.not_eq_true, Bool.not_eq_false] at hg1); omega) (by (try simp only [decide_eq_true_eq, decide_eq_false_iff_not, beq_iff_eq, beq_eq_false_iff_ne, bne_iff_ne, Bool.not_eq_true', Bool.not_eq_false', Bool.or_eq_true, Bool.and_eq_true, Bool.or_eq_false_iff, Bool.and_eq_false_iff, ne_eq, Int.not_lt, Int.not_le, bne_eq_false_iff_eq, Bool.not_eq_true, Bool.not_eq_false] at hg1); omega)) rfl ?_
            refine WQ.gval rfl rfl rfl (fun hg1 w hS => (.move (.of rfl))) rfl ?_
            refine WQ.gval rfl rfl rfl (fun hg1 w hS => (.move (.of rfl))) rfl ?_
            refine WQ.gval rfl rfl rfl (fun hg1 w hS => (.move (.of rfl))) rfl ?_
            refine WQ.gval rfl rfl rfl (fun hg1 w hS => (.sub (.gd hg1 rfl) (.of rfl) ⟨by omega, by omega⟩)) rfl ?_
            refine WQ.gval rfl rfl rfl (fun hg1 w hS => (by first | exact .indexAddr (.gd hg1 rfl) (.gd hg1 rfl) (by (try simp only [decide_eq_true_eq, decide_eq_false_iff_not, beq_iff_eq, beq_eq_false_iff_ne, bne_iff_ne, Bool.not_eq_true', Bool.not_eq_false', Bool.or_eq_true, Bool.and_eq_true, Bool.or_eq_false_iff, Bool.and_eq_false_iff, ne_eq, Int.not_lt, Int.not_le, bne_eq_false_iff_eq, Bool.not_eq_true, Bool.not_eq_false] at hg1); omega) (by (try simp only [decide_eq_true_eq, decide_eq_false_iff_not, beq_iff_eq, beq_eq_false_iff_ne, bne_iff_ne, Bool.not_eq_true', Bool.not_eq_false', Bool.or_eq_true, Bool.and_eq_true, Bool.or_eq_false_iff, Bool.and_eq_false_iff, ne_eq, Int.not_lt, Int.not_le, bne_eq_false_iff_eq, Bool.not_eq_true, Bool.not_eq_false] at hg1); omega) Try.underlying28 Try.sizeOf3 | exact .indexAddrI (.gd hg1 rfl) (.gd hg1 rfl) (by (try simp only [decide_eq_true_eq, decide_eq_false_iff_not, beq_iff_eq, beq_eq_false_iff_ne, bne_iff_ne, Bool.not_eq_true', Bool.not_eq_false', Bool.or_eq_true, Bool.and_eq_true, Bool.or_eq_false_iff, Bool.and_eq_false_iff, ne_eq, Int.not_lt, Int.not_le, bne_eq_false_iff_eq, Bool.not_eq_true, Bool.not_eq_false] at hg1); omega) (by (try simp only [decide_eq_true_eq, decide_eq_false_iff_not, beq_iff_eq, beq_eq_false_iff_ne, bne_iff_ne, Bool.not_eq_true', Bool.not_eq_false', Bool.or_eq_true, Bool.and_eq_true, Bool.or_eq_false_iff, Bool.and_eq_false_iff, ne_eq, Int.not_lt, Int.not_le, bne_eq_false_iff_eq, Bool.not_eq_true, Bool.not_eq_false] at hg1); omega) Try.underlying28 Try.sizeOf3)) rfl ?_
            refine WQ.gval rfl rfl rfl (fun hg1 w hS => .ldEI I64 D1 0 (i := (i : Int) - 1) (.gd hg1 rfl) hS hxp rfl Try.isAgg3 (by (try simp only [decide_eq_true_eq, decide_eq_false_iff_not, beq_iff_eq, beq_eq_false_iff_ne, bne_iff_ne, Bool.not_eq_true', Bool.not_eq_false', Bool.or_eq_true, Bool.and_eq_true, Bool.or_eq_false_iff, Bool.and_eq_false_iff, ne_eq, Int.not_lt, Int.not_le, bne_eq_false_iff_eq, Bool.not_eq_true, Bool.not_eq_false] at hg1); omega) (by (try simp only [decide_eq_true_eq, decide_eq_false_iff_not, beq_iff_eq, beq_eq_false_iff_ne, bne_iff_ne, Bool.not_eq_true', Bool.not_eq_false', Bool.or_eq_true, Bool.and_eq_true, Bool.or_eq_false_iff, Bool.and_eq_false_iff, ne_eq, Int.not_lt, Int.not_le, bne_eq_false_iff_eq, Bool.not_eq_true, Bool.not_eq_false] at hg1); omega)) rfl ?_
            refine WQ.gval rfl rfl rfl (fun hg1 w hS => (by first | exact .indexAddr (.gd hg1 rfl) (.gd hg1 rfl) (by (try simp only [decide_eq_true_eq, decide_eq_false_iff_not, beq_iff_eq, beq_eq_false_iff_ne, bne_iff_ne, Bool.not_eq_true', Bool.not_eq_false', Bool.or_eq_true, Bool.and_eq_true, Bool.or_eq_false_iff, Bool.and_eq_false_iff, ne_eq, Int.not_lt, Int.not_le, bne_eq_false_iff_eq, Bool.not_eq_true, Bool.not_eq_false] at hg1); omega) (by (try simp only [decide_eq_true_eq, decide_eq_false_iff_not, beq_iff_eq, beq_eq_false_iff_ne, bne_iff_ne, Bool.not_eq_true', Bool.not_eq_false', Bool.or_eq_true, Bool.and_eq_true, Bool.or_eq_false_iff, Bool.and_eq_false_iff, ne_eq, Int.not_lt, Int.not_le, bne_eq_false_iff_eq, Bool.not_eq_true, Bool.not_eq_false] at hg1); omega) Try.underlying24 Try.sizeOf25 | exact .indexAddrI (.gd hg1 rfl) (.gd hg1 rfl) (by (try simp only [decide_eq_true_eq, decide_eq_false_iff_not, beq_iff_eq, beq_eq_false_iff_ne, bne_iff_ne, Bool.not_eq_true', Bool.not_eq_false', Bool.or_eq_true, Bool.and_eq_true, Bool.or_eq_false_iff, Bool.and_eq_false_iff, ne_eq, Int.not_lt, Int.not_le, bne_eq_false_iff_eq, Bool.not_eq_true, Bool.not_eq_false] at hg1); omega) (by (try simp only [decide_eq_true_eq, decide_eq_false_iff_not, beq_iff_eq, beq_eq_false_iff_ne, bne_iff_ne, Bool.not_eq_true', Bool.not_eq_false', Bool.or_eq_true, Bool.and_eq_true, Bool.or_eq_false_iff, Bool.and_eq_false_iff, ne_eq, Int.not_lt, Int.not_le, bne_eq_false_iff_eq, Bool.not_eq_true, Bool.not_eq_false] at hg1); omega) Try.underlying24 Try.sizeOf25)) rfl ?_
            refine WQ.gval rfl rfl rfl (fun hg1 w hS => .ldEI F64 (zs.map Int.toNat) 0 (i := D1.getD ((i : Int) - 1).toNat 0) (.gd hg1 rfl) hS hfp rfl Try.isAgg25 (by (try simp only [decide_eq_true_eq, decide_eq_false_iff_not, beq_iff_eq, beq_eq_false_iff_ne, bne_iff_ne, Bool.not_eq_true', Bool.not_eq_false', Bool.or_eq_true, Bool.and_eq_true, Bool.or_eq_false_iff, Bool.and_eq_false_iff, ne_eq, Int.not_lt, Int.not_le, bne_eq_false_iff_eq, Bool.not_eq_true, Bool.not_eq_false] at hg1); omega) (by (try simp only [decide_eq_true_eq, decide_eq_false_iff_not, beq_iff_eq, beq_eq_false_iff_ne, bne_iff_ne, Bool.not_eq_true', Bool.not_eq_false', Bool.or_eq_true, Bool.and_eq_true, Bool.or_eq_false_iff, Bool.and_eq_false_iff, ne_eq, Int.not_lt, Int.not_le, bne_eq_false_iff_eq, Bool.not_eq_true, Bool.not_eq_false] at hg1); omega)) rfl ?_
            refine WQ.gcall rfl rfl rfl Try.func20 rfl (fun hg1 => (evs_cons (.gd hg1 rfl) (evs_cons (.gd hg1 rfl) evs_nil))) rfl (fun hg1 w hS => quiet_of (Less_any _ _ (small_get small _) (small_get small _) w) hS) ?_
            refine WQ.gval rfl rfl rfl (fun hg1 w hS => (.move (.gd hg1 rfl))) rfl ?_
            refine WQ.gval2 rfl rfl rfl (fun hg1 hg2 w hS => (.move (.of rfl))) rfl ?_
            refine WQ.gval2 rfl rfl rfl (fun hg1 hg2 w hS => (.move (.of rfl))) rfl ?_
            refine WQ.gval2 rfl rfl rfl (fun hg1 hg2 w hS => (.move (.of rfl))) rfl ?_
            refine WQ.gval2 rfl rfl rfl (fun hg1 hg2 w hS => (by first | exact .indexAddr (.gd2 hg1 hg2 rfl) (.gd2 hg1 hg2 rfl) (by (try simp only [decide_eq_true_eq, decide_eq_false_iff_not, beq_iff_eq, beq_eq_false_iff_ne, bne_iff_ne, Bool.not_eq_true', Bool.not_eq_false', Bool.or_eq_true, Bool.and_eq_true, Bool.or_eq_false_iff, Bool.and_eq_false_iff, ne_eq, Int.not_lt, Int.not_le, bne_eq_false_iff_eq, Bool.not_eq_true, Bool.not_eq_false] at hg1 hg2); omega) (by (try simp only [decide_eq_true_eq, decide_eq_false_iff_not, beq_iff_eq, beq_eq_false_iff_ne, bne_iff_ne, Bool.not_eq_true', Bool.not_eq_false', Bool.or_eq_true, Bool.and_eq_true, Bool.or_eq_false_iff, Bool.and_eq_false_iff, ne_eq, Int.not_lt, Int.not_le, bne_eq_false_iff_eq, Bool.not_eq_true, Bool.not_eq_false] at hg1 hg2); omega) Try.underlying28 Try.sizeOf3 | exact .indexAddrI (.gd2 hg1 hg2 rfl) (.gd2 hg1 hg2 rfl) (by (try simp only [decide_eq_true_eq, decide_eq_false_iff_not, beq_iff_eq, beq_eq_false_iff_ne, bne_iff_ne, Bool.not_eq_true', Bool.not_eq_false', Bool.or_eq_true, Bool.and_eq_true, Bool.or_eq_false_iff, Bool.and_eq_false_iff, ne_eq, Int.not_lt, Int.not_le, bne_eq_false_iff_eq, Bool.not_eq_true, Bool.not_eq_false] at hg1 hg2); omega) (by (try simp only [decide_eq_true_eq, decide_eq_false_iff_not, beq_iff_eq, beq_eq_false_iff_ne, bne_iff_ne, Bool.not_eq_true', Bool.not_eq_false', Bool.or_eq_true, Bool.and_eq_true, Bool.or_eq_false_iff, Bool.and_eq_false_iff, ne_eq, Int.not_lt, Int.not_le, bne_eq_false_iff_eq, Bool.not_eq_true, Bool.not_eq_false] at hg1 hg2); omega) Try.underlying28 Try.sizeOf3)) rfl ?_
            refine WQ.gval2 rfl rfl rfl (fun hg1 hg2 w hS => .ldEI I64 D1 0 (i := (i : Int)) (.gd2 hg1 hg2 rfl) hS hxp rfl Try.isAgg3 (by (try simp only [decide_eq_true_eq, decide_eq_false_iff_not, beq_iff_eq, beq_eq_false_iff_ne, bne_iff_ne, Bool.not_eq_true', Bool.not_eq_false', Bool.or_eq_true, Bool.and_eq_true, Bool.or_eq_false_iff, Bool.and_eq_false_iff, ne_eq, Int.not_lt, Int.not_le, bne_eq_false_iff_eq, Bool.not_eq_true, Bool.not_eq_false] at hg1 hg2); omega) (by (try simp only [decide_eq_true_eq, decide_eq_false_iff_not, beq_iff_eq, beq_eq_false_iff_ne, bne_iff_ne, Bool.not_eq_true', Bool.not_eq_false', Bool.or_eq_true, Bool.and_eq_true, Bool.or_eq_false_iff, Bool.and_eq_false_iff, ne_eq, Int.not_lt, Int.not_le, bne_eq_false_iff_eq, Bool.not_eq_true, Bool.not_eq_false] at hg1 hg2); omega)) rfl ?_
            refine WQ.gval2 rfl rfl rfl (fun hg1 hg2 w hS => (by first | exact .indexAddr (.gd2 hg1 hg2 rfl) (.gd2 hg1 hg2 rfl) (by (try simp only [decide_eq_true_eq, decide_eq_false_iff_not, beq_iff_eq, beq_eq_false_iff_ne, bne_iff_ne, Bool.not_eq_true', Bool.not_eq_false', Bool.or_eq_true, Bool.and_eq_true, Bool.or_eq_false_iff, Bool.and_eq_false_iff, ne_eq, Int.not_lt, Int.not_le, bne_eq_false_iff_eq, Bool.not_eq_true, Bool.not_eq_false] at hg1 hg2); omega) (by (try simp only [decide_eq_true_eq, decide_eq_false_iff_not, beq_iff_eq, beq_eq_false_iff_ne, bne_iff_ne, Bool.not_eq_true', Bool.not_eq_false', Bool.or_eq_true, Bool.and_eq_true, Bool.or_eq_false_iff, Bool.and_eq_false_iff, ne_eq, Int.not_lt, Int.not_le, bne_eq_false_iff_eq, Bool.not_eq_true, Bool.not_eq_false] at hg1 hg2); omega) Try.underlying24 Try.sizeOf25 | exact .indexAddrI (.gd2 hg1 hg2 rfl) (.gd2 hg1 hg2 rfl) (by (try simp only [decide_eq_true_eq, decide_eq_false_iff_not, beq_iff_eq, beq_eq_false_iff_ne, bne_iff_ne, Bool.not_eq_true', Bool.not_eq_false', Bool.or_eq_true, Bool.and_eq_true, Bool.or_eq_false_iff, Bool.and_eq_false_iff, ne_eq, Int.not_lt, Int.not_le, bne_eq_false_iff_eq, Bool.not_eq_true, Bool.not_eq_false] at hg1 hg2); omega) (by (try simp only [decide_eq_true_eq, decide_eq_false_iff_not, beq_iff_eq, beq_eq_false_iff_ne, bne_iff_ne, Bool.not_eq_true', Bool.not_eq_false', Bool.or_eq_true, Bool.and_eq_true, Bool.or_eq_false_iff, Bool.and_eq_false_iff, ne_eq, Int.not_lt, Int.not_le, bne_eq_false_iff_eq, Bool.not_eq_true, Bool.not_eq_false] at hg1 hg2); omega) Try.underlying24 Try.sizeOf25)) rfl ?_
            refine WQ.gval2 rfl rfl rfl (fun hg1 hg2 w hS => .ldEI F64 (zs.map Int.toNat) 0 (i := D1.getD (i : Int).toNat 0) (.gd2 hg1 hg2 rfl) hS hfp rfl Try.isAgg25 (by (try simp only [decide_eq_true_eq, decide_eq_false_iff_not, beq_iff_eq, beq_eq_false_iff_ne, bne_iff_ne, Bool.not_eq_true', Bool.not_eq_false', Bool.or_eq_true, Bool.and_eq_true, Bool.or_eq_false_iff, Bool.and_eq_false_iff, ne_eq, Int.not_lt, Int.not_le, bne_eq_false_iff_eq, Bool.not_eq_true, Bool.not_eq_false] at hg1 hg2); omega) (by (try simp only [decide_eq_true_eq, decide_eq_false_iff_not, beq_iff_eq, beq_eq_false_iff_ne, bne_iff_ne, Bool.not_eq_true', Bool.not_eq_false', Bool.or_eq_true, Bool.and_eq_true, Bool.or_eq_false_iff, Bool.and_eq_false_iff, ne_eq, Int.not_lt, Int.not_le, bne_eq_false_iff_eq, Bool.not_eq_true, Bool.not_eq_false] at hg1 hg2); omega)) rfl ?_
            refine WQ.gcall2 rfl rfl rfl Try.func18 rfl (fun hg1 hg2 => (evs_cons (.gd2 hg1 hg2 rfl) evs_nil)) rfl (fun hg1 hg2 w hS => quiet_of (Key_any _ (small_get small _) w) hS) ?_
            refine WQ.gval2 rfl rfl rfl (fun hg1 hg2 w hS => (.move (.of rfl))) rfl ?_
            refine WQ.gval2 rfl rfl rfl (fun hg1 hg2 w hS => (.move (.of rfl))) rfl ?_
            refine WQ.gval2 rfl rfl rfl (fun hg1 hg2 w hS => (.move (.of rfl))) rfl ?_
            refine WQ.gval2 rfl rfl rfl (fun hg1 hg2 w hS => (.sub (.gd2 hg1 hg2 rfl) (.of rfl) ⟨by omega, by omega⟩)) rfl ?_
            refine WQ.gval2 rfl rfl rfl (fun hg1 hg2 w hS => (by first | exact .indexAddr (.gd2 hg1 hg2 rfl) (.gd2 hg1 hg2 rfl) (by (try simp only [decide_eq_true_eq, decide_eq_false_iff_not, beq_iff_eq, beq_eq_false_iff_ne, bne_iff_ne, Bool.not_eq_true', Bool.not_eq_false', Bool.or_eq_true, Bool.and_eq_true, Bool.or_eq_false_iff, Bool.and_eq_false_iff, ne_eq, Int.not_lt, Int.not_le, bne_eq_false_iff_eq, Bool.not_eq_true, Bool.not_eq_false] at hg1 hg2); omega) (by (try simp only [decide_eq_true_eq, decide_eq_false_iff_not, beq_iff_eq, beq_eq_false_iff_ne, bne_iff_ne, Bool.not_eq_true', Bool.not_eq_false', Bool.or_eq_true, Bool.and_eq_true, Bool.or_eq_false_iff, Bool.and_eq_false_iff, ne_eq, Int.not_lt, Int.not_le, bne_eq_false_iff_eq, Bool.not_eq_true, Bool.not_eq_false] at hg1 hg2); omega) Try.underlying28 Try.sizeOf3 | exact .indexAddrI (.gd2 hg1 hg2 rfl) (.gd2 hg1 hg2 rfl) (by (try simp only [decide_eq_true_eq, decide_eq_false_iff_not, beq_iff_eq, beq_eq_false_iff_ne, bne_iff_ne, Bool.not_eq_true', Bool.not_eq_false', Bool.or_eq_true, Bool.and_eq_true, Bool.or_eq_false_iff, Bool.and_eq_false_iff, ne_eq, Int.not_lt, Int.not_le, bne_eq_false_iff_eq, Bool.not_eq_true, Bool.not_eq_false] at hg1 hg2); omega) (by (try simp only [decide_eq_true_eq, decide_eq_false_iff_not, beq_iff_eq, beq_eq_false_iff_ne, bne_iff_ne, Bool.not_eq_true', Bool.not_eq_false', Bool.or_eq_true, Bool.and_eq_true, Bool.or_eq_false_iff, Bool.and_eq_false_iff, ne_eq, Int.not_lt, Int.not_le, bne_eq_false_iff_eq, Bool.not_eq_true, Bool.not_eq_false] at hg1 hg2); omega) Try.underlying28 Try.sizeOf3)) rfl ?_
            refine WQ.gval2 rfl rfl rfl (fun hg1 hg2 w hS => .ldEI I64 D1 0 (i := (i : Int) - 1) (.gd2 hg1 hg2 rfl) hS hxp rfl Try.isAgg3 (by (try simp only [decide_eq_true_eq, decide_eq_false_iff_not, beq_iff_eq, beq_eq_false_iff_ne, bne_iff_ne, Bool.not_eq_true', Bool.not_eq_false', Bool.or_eq_true, Bool.and_eq_true, Bool.or_eq_false_iff, Bool.and_eq_false_iff, ne_eq, Int.not_lt, Int.not_le, bne_eq_false_iff_eq, Bool.not_eq_true, Bool.not_eq_false] at hg1 hg2); omega) (by (try simp only [decide_eq_true_eq, decide_eq_false_iff_not, beq_iff_eq, beq_eq_false_iff_ne, bne_iff_ne, Bool.not_eq_true', Bool.not_eq_false', Bool.or_eq_true, Bool.and_eq_true, Bool.or_eq_false_iff, Bool.and_eq_false_iff, ne_eq, Int.not_lt, Int.not_le, bne_eq_false_iff_eq, Bool.not_eq_true, Bool.not_eq_false] at hg1 hg2); omega)) rfl ?_
            refine WQ.gval2 rfl rfl rfl (fun hg1 hg2 w hS => (by first | exact .indexAddr (.gd2 hg1 hg2 rfl) (.gd2 hg1 hg2 rfl) (by (try simp only [decide_eq_true_eq, decide_eq_false_iff_not, beq_iff_eq, beq_eq_false_iff_ne, bne_iff_ne, Bool.not_eq_true', Bool.not_eq_false', Bool.or_eq_true, Bool.and_eq_true, Bool.or_eq_false_iff, Bool.and_eq_false_iff, ne_eq, Int.not_lt, Int.not_le, bne_eq_false_iff_eq, Bool.not_eq_true, Bool.not_eq_false] at hg1 hg2); omega) (by (try simp only [decide_eq_true_eq, decide_eq_false_iff_not, beq_iff_eq, beq_eq_false_iff_ne, bne_iff_ne, Bool.not_eq_true', Bool.not_eq_false', Bool.or_eq_true, Bool.and_eq_true, Bool.or_eq_false_iff, Bool.and_eq_false_iff, ne_eq, Int.not_lt, Int.not_le, bne_eq_false_iff_eq, Bool.not_eq_true, Bool.not_eq_false] at hg1 hg2); omega) Try.underlying24 Try.sizeOf25 | exact .indexAddrI (.gd2 hg1 hg2 rfl) (.gd2 hg1 hg2 rfl) (by (try simp only [decide_eq_true_eq, decide_eq_false_iff_not, beq_iff_eq, beq_eq_false_iff_ne, bne_iff_ne, Bool.not_eq_true', Bool.not_eq_false', Bool.or_eq_true, Bool.and_eq_true, Bool.or_eq_false_iff, Bool.and_eq_false_iff, ne_eq, Int.not_lt, Int.not_le, bne_eq_false_iff_eq, Bool.not_eq_true, Bool.not_eq_false] at hg1 hg2); omega) (by (try simp only [decide_eq_true_eq, decide_eq_false_iff_not, beq_iff_eq, beq_eq_false_iff_ne, bne_iff_ne, Bool.not_eq_true', Bool.not_eq_false', Bool.or_eq_true, Bool.and_eq_true, Bool.or_eq_false_iff, Bool.and_eq_false_iff, ne_eq, Int.not_lt, Int.not_le, bne_eq_false_iff_eq, Bool.not_eq_true, Bool.not_eq_false] at hg1 hg2); omega) Try.underlying24 Try.sizeOf25)) rfl ?_
            refine WQ.gval2 rfl rfl rfl (fun hg1 hg2 w hS => .ldEI F64 (zs.map Int.toNat) 0 (i := D1.getD ((i : Int) - 1).toNat 0) (.gd2 hg1 hg2 rfl) hS hfp rfl Try.isAgg25 (by (try simp only [decide_eq_true_eq, decide_eq_false_iff_not, beq_iff_eq, beq_eq_false_iff_ne, bne_iff_ne, Bool.not_eq_true', Bool.not_eq_false', Bool.or_eq_true, Bool.and_eq_true, Bool.or_eq_false_iff, Bool.and_eq_false_iff, ne_eq, Int.not_lt, Int.not_le, bne_eq_false_iff_eq, Bool.not_eq_true, Bool.not_eq_false] at hg1 hg2); omega) (by (try simp only [decide_eq_true_eq, decide_eq_false_iff_not, beq_iff_eq, beq_eq_false_iff_ne, bne_iff_ne, Bool.not_eq_true', Bool.not_eq_false', Bool.or_eq_true, Bool.and_eq_true, Bool.or_eq_false_iff, Bool.and_eq_false_iff, ne_eq, Int.not_lt, Int.not_le, bne_eq_false_iff_eq, Bool.not_eq_true, Bool.not_eq_false] at hg1 hg2); omega)) rfl ?_
            refine WQ.gcall2 rfl rfl rfl Try.func18 rfl (fun hg1 hg2 => (evs_cons (.gd2 hg1 hg2 rfl) evs_nil)) rfl (fun hg1 hg2 w hS => quiet_of (Key_any _ (small_get small _) w) hS) ?_
            refine WQ.gval2 rfl rfl rfl (fun hg1 hg2 w hS => (.eql (.gd2 hg1 hg2 rfl) (.gd2 hg1 hg2 rfl))) rfl ?_
            refine WQ.gval2 rfl rfl rfl (fun hg1 hg2 w hS => (.move (.gd2 hg1 hg2 rfl))) rfl ?_
            refine WQ.gval3 rfl rfl rfl (fun hg1 hg2 hg3 w hS => (.move (.of rfl))) rfl ?_
            refine WQ.gval3 rfl rfl rfl (fun hg1 hg2 hg3 w hS => (.move (.of rfl))) rfl ?_
            refine WQ.gval3 rfl rfl rfl (fun hg1 hg2 hg3 w hS => (by first | exact .indexAddr (.gd3 hg1 hg2 hg3 rfl) (.gd3 hg1 hg2 hg3 rfl) (by (try simp only [decide_eq_true_eq, decide_eq_false_iff_not, beq_iff_eq, beq_eq_false_iff_ne, bne_iff_ne, Bool.not_eq_true', Bool.not_eq_false', Bool.or_eq_true, Bool.and_eq_true, Bool.or_eq_false_iff, Bool.and_eq_false_iff, ne_eq, Int.not_lt, Int.not_le, bne_eq_false_iff_eq, Bool.not_eq_true, Bool.not_eq_false] at hg1 hg2 hg3); omega) (by (try simp only [decide_eq_true_eq, decide_eq_false_iff_not, beq_iff_eq, beq_eq_false_iff_ne, bne_iff_ne, Bool.not_eq_true', Bool.not_eq_false', Bool.or_eq_true, Bool.and_eq_true, Bool.or_eq_false_iff, Bool.and_eq_false_iff, ne_eq, Int.not_lt, Int.not_le, bne_eq_false_iff_eq, Bool.not_eq_true, Bool.not_eq_false] at hg1 hg2 hg3); omega) Try.underlying28 Try.sizeOf3 | exact .indexAddrI (.gd3 hg1 hg2 hg3 rfl) (.gd3 hg1 hg2 hg3 rfl) (by (try simp only [decide_eq_true_eq, decide_eq_false_iff_not, beq_iff_eq, beq_eq_false_iff_ne, bne_iff_ne, Bool.not_eq_true', Bool.not_eq_false', Bool.or_eq_true, Bool.and_eq_true, Bool.or_eq_false_iff, Bool.and_eq_false_iff, ne_eq, Int.not_lt, Int.not_le, bne_eq_false_iff_eq, Bool.not_eq_true, Bool.not_eq_false] at hg1 hg2 hg3); omega) (by (try simp only [decide_eq_true_eq, decide_eq_false_iff_not, beq_iff_eq, beq_eq_false_iff_ne, bne_iff_ne, Bool.not_eq_true', Bool.not_eq_false', Bool.or_eq_true, Bool.and_eq_true, Bool.or_eq_false_iff, Bool.and_eq_false_iff, ne_eq, Int.not_lt, Int.not_le, bne_eq_false_iff_eq, Bool.not_eq_true, Bool.not_eq_false] at hg1 hg2 hg3); omega) Try.underlying28 Try.sizeOf3)) rfl ?_
            refine WQ.gval3 rfl rfl rfl (fun hg1 hg2 hg3 w hS => .ldEI I64 D1 0 (i := (i : Int)) (.gd3 hg1 hg2 hg3 rfl) hS hxp rfl Try.isAgg3 (by (try simp only [decide_eq_true_eq, decide_eq_false_iff_not, beq_iff_eq, beq_eq_false_iff_ne, bne_iff_ne, Bool.not_eq_true', Bool.not_eq_false', Bool.or_eq_true, Bool.and_eq_true, Bool.or_eq_false_iff, Bool.and_eq_false_iff, ne_eq, Int.not_lt, Int.not_le, bne_eq_false_iff_eq, Bool.not_eq_true, Bool.not_eq_false] at hg1 hg2 hg3); omega) (by (try simp only [decide_eq_true_eq, decide_eq_false_iff_not, beq_iff_eq, beq_eq_false_iff_ne, bne_iff_ne, Bool.not_eq_true', Bool.not_eq_false', Bool.or_eq_true, Bool.and_eq_true, Bool.or_eq_false_iff, Bool.and_eq_false_iff, ne_eq, Int.not_lt, Int.not_le, bne_eq_false_iff_eq, Bool.not_eq_true, Bool.not_eq_false] at hg1 hg2 hg3); omega)) rfl ?_
            refine WQ.gval3 rfl rfl rfl (fun hg1 hg2 hg3 w hS => (.move (.of rfl))) rfl ?_
            refine WQ.gval3 rfl rfl rfl (fun hg1 hg2 hg3 w hS => (.move (.of rfl))) rfl ?_
            refine WQ.gval3 rfl rfl rfl (fun hg1 hg2 hg3 w hS => (.sub (.gd3 hg1 hg2 hg3 rfl) (.of rfl) ⟨by omega, by omega⟩)) rfl ?_
            refine WQ.gval3 rfl rfl rfl (fun hg1 hg2 hg3 w hS => (by first | exact .indexAddr (.gd3 hg1 hg2 hg3 rfl) (.gd3 hg1 hg2 hg3 rfl) (by (try simp only [decide_eq_true_eq, decide_eq_false_iff_not, beq_iff_eq, beq_eq_false_iff_ne, bne_iff_ne, Bool.not_eq_true', Bool.not_eq_false', Bool.or_eq_true, Bool.and_eq_true, Bool.or_eq_false_iff, Bool.and_eq_false_iff, ne_eq, Int.not_lt, Int.not_le, bne_eq_false_iff_eq, Bool.not_eq_true, Bool.not_eq_false] at hg1 hg2 hg3); omega) (by (try simp only [decide_eq_true_eq, decide_eq_false_iff_not, beq_iff_eq, beq_eq_false_iff_ne, bne_iff_ne, Bool.not_eq_true', Bool.not_eq_false', Bool.or_eq_true, Bool.and_eq_true, Bool.or_eq_false_iff, Bool.and_eq_false_iff, ne_eq, Int.not_lt, Int.not_le, bne_eq_false_iff_eq, Bool.not_eq_true, Bool.not_eq_false] at hg1 hg2 hg3); omega) Try.underlying28 Try.sizeOf3 | exact .indexAddrI (.gd3 hg1 hg2 hg3 rfl) (.gd3 hg1 hg2 hg3 rfl) (by (try simp only [decide_eq_true_eq, decide_eq_false_iff_not, beq_iff_eq, beq_eq_false_iff_ne, bne_iff_ne, Bool.not_eq_true', Bool.not_eq_false', Bool.or_eq_true, Bool.and_eq_true, Bool.or_eq_false_iff, Bool.and_eq_false_iff, ne_eq, Int.not_lt, Int.not_le, bne_eq_false_iff_eq, Bool.not_eq_true, Bool.not_eq_false] at hg1 hg2 hg3); omega) (by (try simp only [decide_eq_true_eq, decide_eq_false_iff_not, beq_iff_eq, beq_eq_false_iff_ne, bne_iff_ne, Bool.not_eq_true', Bool.not_eq_false', Bool.or_eq_true, Bool.and_eq_true, Bool.or_eq_false_iff, Bool.and_eq_false_iff, ne_eq, Int.not_lt, Int.not_le, bne_eq_false_iff_eq, Bool.not_eq_true, Bool.not_eq_false] at hg1 hg2 hg3); omega) Try.underlying28 Try.sizeOf3)) rfl ?_
            refine WQ.gval3 rfl rfl rfl (fun hg1 hg2 hg3 w hS => .ldEI I64 D1 0 (i := (i : Int) - 1) (.gd3 hg1 hg2 hg3 rfl) hS hxp rfl Try.isAgg3 (by (try simp only [decide_eq_true_eq, decide_eq_false_iff_not, beq_iff_eq, beq_eq_false_iff_ne, bne_iff_ne, Bool.not_eq_true', Bool.not_eq_false', Bool.or_eq_true, Bool.and_eq_true, Bool.or_eq_false_iff, Bool.and_eq_false_iff, ne_eq, Int.not_lt, Int.not_le, bne_eq_false_iff_eq, Bool.not_eq_true, Bool.not_eq_false] at hg1 hg2 hg3); omega) (by (try simp only [decide_eq_true_eq, decide_eq_false_iff_not, beq_iff_eq, beq_eq_false_iff_ne, bne_iff_ne, Bool.not_eq_true', Bool.not_eq_false', Bool.or_eq_true, Bool.and_eq_true, Bool.or_eq_false_iff, Bool.and_eq_false_iff, ne_eq, Int.not_lt, Int.not_le, bne_eq_false_iff_eq, Bool.not_eq_true, Bool.not_eq_false] at hg1 hg2 hg3); omega)) rfl ?_
            refine WQ.gval3 rfl rfl rfl (fun hg1 hg2 hg3 w hS => (.lss (.gd3 hg1 hg2 hg3 rfl) (.gd3 hg1 hg2 hg3 rfl))) rfl ?_
            refine WQ.gval2 rfl rfl rfl (fun hg1 hg2 w hS => (.pand (.gd2 hg1 hg2 rfl) (.gd2 hg1 hg2 rfl) (.of rfl))) rfl ?_
            refine WQ.gval rfl rfl rfl (fun hg1 w hS => (.por (.gd hg1 rfl) (.of rfl) (.gd hg1 rfl))) rfl ?_
            refine WQ.val (fun w hS => (.pand (.of rfl) (.of rfl) (.of rfl))) rfl ?_
            refine WQ.nil ?_
            clear hS; intro w hS
            refine WC.cond rfl (fun hb124 => ?_) (fun hb124 => ?_)
            ·
              have hc124 := hb124; try simp only [decide_eq_true_eq, decide_eq_false_iff_not, beq_iff_eq, beq_eq_false_iff_ne, bne_iff_ne, Bool.not_eq_true', Bool.not_eq_false', Bool.or_eq_true, Bool.and_eq_true, Bool.or_eq_false_iff, Bool.and_eq_false_iff, ne_eq, Int.not_lt, Int.not_le, bne_eq_false_iff_eq, Bool.not_eq_true, Bool.not_eq_false] at hc124
              refine WC.seq ?_
              refine WC.region ?_
              refine WL.val (.assign (.of rfl)) rfl ?_
              refine WL.nil ?_
              refine WC.ret ?_
              refine ret1 Try.results8 rfl ?_
              exfalso
              rw [Bool.and_eq_true] at hb124
              have hi0 : 0 < i := by have := hb124.1; simp at this; exact this
              have hb := Srt.so_get hD1.1 (show ((i : Int) - 1).toNat < (i : Int).toNat by omega) (by omega)
              have h9 := hb124.2
              change (decide (((kx (zs.map Int.toNat) (D1.getD (i : Int).toNat 0) : Nat) : Int) < ((kx (zs.map Int.toNat) (D1.getD ((i : Int) - 1).toNat 0) : Nat) : Int)) || (((kx (zs.map Int.toNat) (D1.getD (i : Int).toNat 0) : Nat) : Int) == ((kx (zs.map Int.toNat) (D1.getD ((i : Int) - 1).toNat 0) : Nat) : Int) && decide (D1.getD (i : Int).toNat 0 < D1.getD ((i : Int) - 1).toNat 0))) = true at h9
              simp only [Bool.or_eq_true, Bool.and_eq_true, decide_eq_true_eq, beq_iff_eq] at h9
              unfold Srt.bef at hb
              omega
            ·
              have hc124 := hb124; try simp only [decide_eq_true_eq, decide_eq_false_iff_not, beq_iff_eq, beq_eq_false_iff_ne, bne_iff_ne, Bool.not_eq_true', Bool.not_eq_false', Bool.or_eq_true, Bool.and_eq_true, Bool.or_eq_false_iff, Bool.and_eq_false_iff, ne_eq, Int.not_lt, Int.not_le, bne_eq_false_iff_eq, Bool.not_eq_true, Bool.not_eq_false] at hc124
              refine WC.skip ?_
              refine WC.region ?_
              refine WL.val (.move (.of rfl)) rfl ?_
              refine WL.val (.add (.of rfl) (.of rfl) ⟨by omega, by omega⟩) rfl ?_
              refine WL.val (.assign (.of rfl)) rfl ?_
              refine WL.nil ?_
              refine ⟨(i + 1, us.set (D1.getD (i : Int).toNat 0).toNat true), ⟨rfl, rfl, rfl, rfl, rfl, rfl, trivial⟩, ⟨by (try dsimp only); omega, by (try dsimp only); rw [List.length_set]; exact hus, fun q h1 h2 => ?_, hS⟩, by (try dsimp only); omega⟩
              have h3 := hfree q (by omega) h2
              have hq := hDm q h2
              have hne : ¬ (D1.getD (i : Int).toNat 0).toNat = (D1.getD q 0).toNat := fun e => by
                have e2 : D1.getD i 0 = D1.getD q 0 := by simp only [Int.toNat_natCast] at e hdi; omega
                rw [List.getD_eq_getElem?_getD, List.getD_eq_getElem?_getD, List.getElem?_eq_getElem (show i < D1.length by omega), List.getElem?_eq_getElem (show q < D1.length by omega)] at e2
                have := (List.nodup_iff_pairwise_ne.1 hDn)
                have := List.pairwise_iff_getElem.1 this i q (by omega) (by omega) (by omega)
                exact this e2
              (try dsimp only)
              rw [List.getD_eq_getElem?_getD, List.getElem?_set_ne hne, ← List.getD_eq_getElem?_getD]
              exact h3
        ·
          have hc41 := hb41; try simp only [decide_eq_true_eq, decide_eq_false_iff_not, beq_iff_eq, beq_eq_false_iff_ne, bne_iff_ne, Bool.not_eq_true', Bool.not_eq_false', Bool.or_eq_true, Bool.and_eq_true, Bool.or_eq_false_iff, Bool.and_eq_false_iff, ne_eq, Int.not_lt, Int.not_le, bne_eq_false_iff_eq, Bool.not_eq_true, Bool.not_eq_false] at hc41
          refine WC.exit ?_
          refine WC.seq ?_
          refine WC.region ?_
          refine WL.val (.move (.of rfl)) rfl ?_
          refine WL.val (.assign (.of rfl)) rfl ?_
          refine WL.nil ?_
          refine WC.ret ?_
          refine ret1 Try.results8 rfl ?_
          exact ⟨_, rfl, rfl, J2, hJ1.trans hJ2, hS.drop (k := 0) rfl⟩
end Go.Proofs.Ytfmdhpgfbojjaaa
