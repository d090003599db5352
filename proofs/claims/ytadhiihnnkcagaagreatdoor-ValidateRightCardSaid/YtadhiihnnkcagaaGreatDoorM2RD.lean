/- Part 4 of what the proof stands on: W18j, Rk, W16a, Srt, W16c, W16d, W16e, W16f, W18l, W18m, W18n. -/
import Derived.Test.YtadhiihnnkcagaaGreatDoorM2RC
import Derived.Test.YtadhiihnnkcagaaGreatDoorChecked
namespace Go.Proofs.YtadhiihnnkcagaaGreatDoor
open Gk Pc Ul Pat
set_option linter.unusedVariables false
set_option linter.unusedSimpArgs false
theorem bld134_67 : Bld Tryz.prog 134 [(0, 1), (1, 1), (2, 1), (3, 1), (4, 1), (5, 1)] [S [], S [], .int .i64 0, S [], S [], .bool false] := bld_of Tryz.underlying134 Tryz.zeroValue134 (fun w => by simp [go_sem])
set_option maxHeartbeats 1000000 in
theorem refParse_any (s : List UInt8) (hl : s.length ≤ 1000000) (B w : World) (I : Im) (As : List Assn) (hS : Sat B w I As) :
  Calls Tryz.prog 67 [S s].toArray w (Ret fun v w' => v = .tuple #[.agg (uc (pU s).1).toArray, I64 ((pU s).2 : Nat)] ∧ Sat B w' I As) := by
 refine calls Tryz.func67 rfl Tryz.ntmps67 rfl (.seq (.region (.allocA (cs := [_, _, _, _, _, _]) hS Tryz.zeroValue134 rfl ?_)))
 clear hS; intro b2 w hS
 refine .run 1 rfl trivial (.nil (.seq (.seq (.region (.run 3 rfl ⟨Tryz.underlying9, trivial⟩ (.nil ?_))))))
 refine WC.cond rfl (fun hb20 => ?_) (fun hb20 => ?_)
 ·
  have hc20 := hb20; try simp only [Gk.cs0] at hc20
  refine .seq (.region (.val (.build (cs := [_, _, _, _, _, _]) parts_nil bld134_67 rfl) rfl (.stA hS (k := 0) rfl (.of rfl) (.of rfl) rfl Tryz.sizeOf134 rfl (by simp) ?_)))
  clear hS; intro w hS; try dsimp only [List.set] at hS
  try simp only [List.take_zero, List.nil_append, List.append_nil, List.drop_succ_cons, List.drop_zero, List.drop_nil, Nat.zero_add] at hS
  refine .run 1 rfl trivial (.nil (.ret (ret2c (b := _) (cs := [_, _, _, _, _, _]) Tryz.results67 hS (k := 0) rfl Tryz.isAgg134 Tryz.sizeOf134 rfl rfl rfl ?_)))
  exact ⟨_, rfl, by rw [pU, if_pos (by omega)]; rfl, (hS.drop (k := 0) rfl)⟩
 have hc20 := hb20; try simp only [Gk.cs0] at hc20
 refine .skip (.seq (.region (.run 1 rfl trivial (.nil (.seq (.region (.run 1 rfl trivial (.nil ?_))))))))
 refine WC.cutS (σ := List UInt8 × Nat) (fun ⟨sc0, k0⟩ => [(0, S s), (2, ptr b2 0), (4, I64 (k0 : Nat)), (5, S sc0)]) (fun ⟨sc0, k0⟩ w => (sc0 = [] ∧ k0 = 0 ∧ ¬ low (s.take 7) = [104, 116, 116, 112, 58, 47, 47] ∨ sc0 = http ∧ k0 = 7 ∧ low (s.take 7) = [104, 116, 116, 112, 58, 47, 47]) ∧ Sat B w I (blk b2 [S [], S [], I64 0, S [], S [], .bool false] 134 :: As)) ?_ ?_
 ·
  refine .seq (.region (.run 4 rfl ⟨Tryz.underlying9, trivial⟩ (.gval rfl rfl (fun hg1 => (.move (.of rfl))) rfl ?_)))
  refine WL.gval rfl rfl (fun hg1 => (.subTo (.gd hg1 rfl) (.of rfl) (by (try simp only [Gk.cs0] at hg1); omega) (by (try simp only [Gk.cs0] at hg1); omega) Tryz.underlying9)) rfl ?_
  refine WL.gcall (T := fun w => Sat B w I (blk b2 [S [], S [], I64 0, S [], S [], .bool false] 134 :: As)) rfl rfl rfl Tryz.func116 rfl (fun hg1 => (evs_cons (.gd hg1 rfl) evs_nil)) rfl (fun hg1 => small_any _ (by rw [List.length_take]; omega) B _ I _ hS) hS ?_
  clear hS; rintro w hS
  refine .gval rfl rfl (fun hg1 => (.eqs (.gd hg1 rfl) (.of rfl))) rfl (.val (.pand (.of rfl) (.of rfl) (.of rfl)) rfl (.nil ?_))
  refine WC.cond rfl (fun hb30 => ?_) (fun hb30 => ?_)
  ·
   have hc30 := hb30; try simp only [Gk.cs0] at hc30
   refine .seq (.region (.run 1 rfl trivial (.nil (.region (.run 1 rfl trivial (.nil ?_))))))
   exact ⟨(http, 7), ⟨rfl, rfl, rfl, rfl, trivial⟩, .inr ⟨rfl, rfl, (low_is (n := 7) rfl).1 hb30⟩, hS⟩
  have hc30 := hb30; try simp only [Gk.cs0] at hc30
  refine .skip ?_
  exact ⟨([], 0), ⟨rfl, rfl, rfl, rfl, trivial⟩, .inl ⟨rfl, rfl, fun e => by have := (low_is (n := 7) (X := [104, 116, 116, 112, 58, 47, 47]) rfl).2 e; exact absurd (this.symm.trans hb30) (by decide)⟩, hS⟩
 rintro ⟨sc0, k0⟩ w ⟨hs7, hS⟩
 change WC _ _ _ _ [(0, S s), (2, ptr b2 0), (4, I64 (k0 : Nat)), (5, S sc0)] w
 refine WC.cutS (σ := List UInt8 × Nat) (fun ⟨sch, k⟩ => [(0, S s), (2, ptr b2 0), (4, I64 (k : Nat)), (5, S sch)]) (fun ⟨sch, k⟩ w => (k = 0 ∧ schemeOf s = none ∨ schemeOf s = some (sch, s.drop k) ∧ 0 < k ∧ k ≤ s.length ∧ sch.length ≤ 5 ∧ (sch = http ∨ sch = https)) ∧ Sat B w I (blk b2 [S [], S [], I64 0, S [], S [], .bool false] 134 :: As)) ?_ ?_
 ·
  refine .seq (.region (.run 4 rfl ⟨Tryz.underlying9, trivial⟩ (.gval rfl rfl (fun hg1 => (.move (.of rfl))) rfl ?_)))
  refine WL.gval rfl rfl (fun hg1 => (.subTo (.gd hg1 rfl) (.of rfl) (by (try simp only [Gk.cs0] at hg1); omega) (by (try simp only [Gk.cs0] at hg1); omega) Tryz.underlying9)) rfl ?_
  refine WL.gcall (T := fun w => Sat B w I (blk b2 [S [], S [], I64 0, S [], S [], .bool false] 134 :: As)) rfl rfl rfl Tryz.func116 rfl (fun hg1 => (evs_cons (.gd hg1 rfl) evs_nil)) rfl (fun hg1 => small_any _ (by rw [List.length_take]; omega) B _ I _ hS) hS ?_
  clear hS; rintro w hS
  refine .gval rfl rfl (fun hg1 => (.eqs (.gd hg1 rfl) (.of rfl))) rfl (.val (.pand (.of rfl) (.of rfl) (.of rfl)) rfl (.nil ?_))
  refine WC.cond rfl (fun hb39 => ?_) (fun hb39 => ?_)
  ·
   have hc39 := hb39; try simp only [Gk.cs0] at hc39
   refine .seq (.region (.run 1 rfl trivial (.nil (.region (.run 1 rfl trivial (.nil ?_))))))
   have h8 : low (s.take 8) = [104, 116, 116, 112, 115, 58, 47, 47] := (low_is (n := 8) rfl).1 hb39
   rcases hs7 with ⟨_, _, h7⟩ | ⟨_, _, h7⟩
   ·refine ⟨(https, 8), ⟨rfl, rfl, rfl, rfl, trivial⟩, .inr ⟨?_, by decide, ?_, by decide, .inr rfl⟩, hS⟩
    ·rw [schemeOf, if_neg h7, if_pos h8]
    ·have := congrArg List.length h8
     rw [low_len, List.length_take] at this; simp at this; (try dsimp only); omega
   ·exact (not_both h7 h8).elim
  have hc39 := hb39; try simp only [Gk.cs0] at hc39
  refine .skip ?_
  have h8 : ¬ low (s.take 8) = [104, 116, 116, 112, 115, 58, 47, 47] := fun e => by have := (low_is (n := 8) (X := [104, 116, 116, 112, 115, 58, 47, 47]) rfl).2 e; exact absurd (this.symm.trans hb39) (by decide)
  rcases hs7 with ⟨rfl, rfl, h7⟩ | ⟨rfl, rfl, h7⟩
  ·refine ⟨([], 0), ⟨rfl, rfl, rfl, rfl, trivial⟩, .inl ⟨rfl, ?_⟩, hS⟩
   rw [schemeOf, if_neg h7, if_neg h8]
  ·refine ⟨(http, 7), ⟨rfl, rfl, rfl, rfl, trivial⟩, .inr ⟨?_, by decide, ?_, by decide, .inl rfl⟩, hS⟩
   ·rw [schemeOf, if_pos h7]
   ·have := congrArg List.length h7
    rw [low_len, List.length_take] at this; simp at this; (try dsimp only); omega
 rintro ⟨sch, k⟩ w ⟨hst, hS⟩
 change WC _ _ _ _ [(0, S s), (2, ptr b2 0), (4, I64 (k : Nat)), (5, S sch)] w
 refine .seq (.seq (.region (.run 2 rfl trivial (.nil ?_))))
 refine WC.cond rfl (fun hb41 => ?_) (fun hb41 => ?_)
 ·
  have hc41 := hb41; try simp only [Gk.cs0] at hc41
  refine .seq (.region (.val (.build (cs := [_, _, _, _, _, _]) parts_nil bld134_67 rfl) rfl (.stA hS (k := 0) rfl (.of rfl) (.of rfl) rfl Tryz.sizeOf134 rfl (by simp) ?_)))
  clear hS; intro w hS; try dsimp only [List.set] at hS
  try simp only [List.take_zero, List.nil_append, List.append_nil, List.drop_succ_cons, List.drop_zero, List.drop_nil, Nat.zero_add] at hS
  refine .run 1 rfl trivial (.nil (.ret (ret2c (b := _) (cs := [_, _, _, _, _, _]) Tryz.results67 hS (k := 0) rfl Tryz.isAgg134 Tryz.sizeOf134 rfl rfl rfl ?_)))
  refine ⟨_, rfl, ?_, (hS.drop (k := 0) rfl)⟩
  have hnone : schemeOf s = none := by
   rcases hst with h | h
   ·exact h.2
   ·exact absurd hc41 (by omega)
  rw [pU, if_neg (by omega), hnone]; rfl
 have hc41 := hb41; try simp only [Gk.cs0] at hc41
 refine .skip (.seq ?_)
 obtain ⟨hsome, hk1, hkl, hsl5, hsch⟩ : schemeOf s = some (sch, s.drop k) ∧ 0 < k ∧ k ≤ s.length ∧ sch.length ≤ 5 ∧ (sch = http ∨ sch = https) := by
  rcases hst with h | h
  ·exact absurd (by rw [h.1]; rfl) hc41
  ·exact h
 have hul := upto_from_len [47, 63, 35, 58] (s.drop k)
 rw [List.length_drop] at hul
 have hlow := low_len (upto [47, 63, 35, 58] (s.drop k))
 refine .region (.run 2 rfl trivial (.call Tryz.func117 rfl (evs_cons (.of rfl) (evs_cons (.of rfl) (evs_cons (.of rfl) evs_nil))) rfl (find_any s [47, 63, 35, 58] k hkl (by omega) (by decide) B _ I _ hS) ?_))
 clear hS
 rintro _ w ⟨rfl, hS⟩
 refine .run 1 rfl trivial (.nil (.seq (.region (.run 3 rfl trivial (.val (.sub3 (.of rfl) (.of rfl) (.of rfl) (by omega) (by omega) (by omega) Tryz.underlying9) rfl ?_)))))
 simp only [Int.toNat_natCast]
 have hup : (s.drop k).take (k + (upto [47, 63, 35, 58] (s.drop k)).length - k) = (upto [47, 63, 35, 58] (s.drop k)) := by rw [Nat.add_sub_cancel_left, upto_take]
 refine WL.call Tryz.func116 rfl (evs_cons (.of rfl) evs_nil) rfl (small_any _ (by rw [hup]; omega) B _ I _ hS) ?_
 clear hS
 rintro _ w ⟨rfl, hS⟩
 rw [hup]
 refine .run 1 rfl trivial (.nil (.seq (.seq (.region (.run 4 rfl trivial (.gval rfl rfl (fun hg1 => (.move (.of rfl))) rfl (.gval rfl rfl (fun hg1 => (.move (.of rfl))) rfl (.gval rfl rfl (fun hg1 => (.sub (.gd hg1 rfl) (.gd hg1 rfl) ⟨by omega, by omega⟩)) rfl (.gval rfl rfl (fun hg1 => (.gtr (.gd hg1 rfl) (.of rfl))) rfl (.val (.por (.of rfl) (.of rfl) (.of rfl)) rfl (.nil ?_)))))))))))
 refine WC.cond rfl (fun hb59 => ?_) (fun hb59 => ?_)
 ·
  have hc59 := hb59; try simp only [Gk.cs0] at hc59
  refine .seq (.region (.val (.build (cs := [_, _, _, _, _, _]) parts_nil bld134_67 rfl) rfl (.stA hS (k := 0) rfl (.of rfl) (.of rfl) rfl Tryz.sizeOf134 rfl (by simp) ?_)))
  clear hS; intro w hS; try dsimp only [List.set] at hS
  try simp only [List.take_zero, List.nil_append, List.append_nil, List.drop_succ_cons, List.drop_zero, List.drop_nil, Nat.zero_add] at hS
  refine .run 1 rfl trivial (.nil (.ret (ret2c (b := _) (cs := [_, _, _, _, _, _]) Tryz.results67 hS (k := 0) rfl Tryz.isAgg134 Tryz.sizeOf134 rfl rfl rfl ?_)))
  refine ⟨_, rfl, ?_, (hS.drop (k := 0) rfl)⟩
  rw [pU, if_neg (by omega), hsome]
  simp only
  rw [hostOf, if_neg]
  ·rfl
  ·rw [hostOk]
   rcases Bool.or_eq_true_iff.1 hb59 with h | h
   ·simp only [beq_iff_eq] at h
    have : (low (upto [47, 63, 35, 58] (s.drop k))) = [] := List.eq_nil_of_length_eq_zero (by rw [hlow]; omega)
    rw [this]; decide
   ·simp only [decide_eq_true_eq] at h
    rw [show decide (64 < (low (upto [47, 63, 35, 58] (s.drop k))).length) = true from decide_eq_true (by rw [hlow]; omega)]
    simp
 have hc59 := hb59; try simp only [Gk.cs0] at hc59
 refine .skip (.seq (.seq (.region (.run 1 rfl trivial (.nil (.block (.loop (σ := Nat) (fun i => [(0, S s), (2, ptr b2 0), (4, I64 (k : Nat)), (5, S sch), (6, I64 ((k + (upto [47, 63, 35, 58] (s.drop k)).length : Nat) : Int)), (7, S (low (upto [47, 63, 35, 58] (s.drop k)))), (8, I64 (i : Nat))]) (fun i w => i ≤ (low (upto [47, 63, 35, 58] (s.drop k))).length ∧ (∀ j, j < i → j < (low (upto [47, 63, 35, 58] (s.drop k))).length → hostB (at_ (low (upto [47, 63, 35, 58] (s.drop k))) (j : Int)) = true) ∧ Sat B w I (blk b2 [S [], S [], I64 0, S [], S [], .bool false] 134 :: As)) (fun i => (low (upto [47, 63, 35, 58] (s.drop k))).length - i) 0 ⟨rfl, rfl, rfl, rfl, rfl, rfl, rfl, trivial⟩ ⟨Nat.zero_le _, fun _ h => absurd h (by omega), hS⟩ ?_)))))))
 rintro i w ⟨hi, hok, hS⟩
 change WC _ _ _ _ [(0, S s), (2, ptr b2 0), (4, I64 (k : Nat)), (5, S sch), (6, I64 ((k + (upto [47, 63, 35, 58] (s.drop k)).length : Nat) : Int)), (7, S (low (upto [47, 63, 35, 58] (s.drop k)))), (8, I64 (i : Nat))] w
 refine .seq (.seq (.region (.run 4 rfl ⟨Tryz.underlying9, trivial⟩ (.nil ?_))))
 refine WC.cond rfl (fun hb64 => ?_) (fun hb64 => ?_)
 ·
  have hc64 := hb64; try simp only [Gk.cs0] at hc64
  refine .skip (.seq (.block (.seq (.region (.run 4 rfl ⟨⟨⟨by omega, by omega⟩, Tryz.underlying9⟩, trivial⟩ (.nil (.seq (.region (.run 3 rfl trivial (.gval rfl rfl (fun hg1 => (.move (.of rfl))) rfl (.gval rfl rfl (fun hg1 => (.gtr (.gd hg1 rfl) (.of rfl))) rfl (.val (.por (.of rfl) (.of rfl) (.of rfl)) rfl (.run 1 rfl trivial (.gval rfl rfl (fun hg1 => (.move (.of rfl))) rfl (.gval rfl rfl (fun hg1 => (.lss (.gd hg1 rfl) (.of rfl))) rfl (.gval rfl rfl (fun hg1 => (.move (.gd hg1 rfl))) rfl (.gval2 rfl rfl rfl (fun hg1 hg2 => (.move (.of rfl))) rfl (.gval2 rfl rfl rfl (fun hg1 hg2 => (.gtr (.gd2 hg1 hg2 rfl) (.of rfl))) rfl (.gval rfl rfl (fun hg1 => (.por (.gd hg1 rfl) (.of rfl) (.gd hg1 rfl))) rfl (.val (.pand (.of rfl) (.of rfl) (.of rfl)) rfl (.run 1 rfl trivial (.gval rfl rfl (fun hg1 => (.move (.of rfl))) rfl (.gval rfl rfl (fun hg1 => (.neq (.gd hg1 rfl) (.of rfl))) rfl (.val (.pand (.of rfl) (.of rfl) (.of rfl)) rfl (.run 1 rfl trivial (.gval rfl rfl (fun hg1 => (.move (.of rfl))) rfl (.gval rfl rfl (fun hg1 => (.neq (.gd hg1 rfl) (.of rfl))) rfl (.val (.pand (.of rfl) (.of rfl) (.of rfl)) rfl (.nil ?_)))))))))))))))))))))))))))))
  refine WC.cond rfl (fun hb91 => ?_) (fun hb91 => ?_)
  ·
   have hc91 := hb91; try simp only [Gk.cs0] at hc91
   refine .seq (.region (.val (.build (cs := [_, _, _, _, _, _]) parts_nil bld134_67 rfl) rfl (.stA hS (k := 0) rfl (.of rfl) (.of rfl) rfl Tryz.sizeOf134 rfl (by simp) ?_)))
   clear hS; intro w hS; try dsimp only [List.set] at hS
   try simp only [List.take_zero, List.nil_append, List.append_nil, List.drop_succ_cons, List.drop_zero, List.drop_nil, Nat.zero_add] at hS
   refine .run 1 rfl trivial (.nil (.ret (ret2c (b := _) (cs := [_, _, _, _, _, _]) Tryz.results67 hS (k := 0) rfl Tryz.isAgg134 Tryz.sizeOf134 rfl rfl rfl ?_)))
   refine ⟨_, rfl, ?_, (hS.drop (k := 0) rfl)⟩
   rw [pU, if_neg (by omega), hsome]
   simp only
   rw [hostOf, if_neg]
   ·rfl
   ·rw [at_low _ _ (by omega), hostB_ref] at hb91
    rw [hostOk, not_all (p := hostB) (i := i) (by omega) (by rw [at_low _ _ (by omega)]; simpa using hb91), Bool.and_false]; decide
  have hc91 := hb91; try simp only [Gk.cs0] at hc91
  refine .skip (.region (.run 3 rfl ⟨⟨by omega, by omega⟩, trivial⟩ (.nil ?_)))
  refine ⟨i + 1, ⟨rfl, rfl, rfl, rfl, rfl, rfl, rfl, trivial⟩, ⟨by omega, fun j hj hjl => ?_, hS⟩, by omega⟩
  rcases Nat.lt_or_ge j i with h1 | h1
  ·exact hok j h1 hjl
  ·have e : j = i := by omega
   subst e
   rw [at_low _ _ (by omega)] at hb91 ⊢
   rw [hostB_ref] at hb91
   simpa using hb91
 have hc64 := hb64; try simp only [Gk.cs0] at hc64
 refine .exit (.seq (.region (.run 2 rfl trivial (.val (.build (cs := [_, _, _, _, _, _]) (parts_cons (.of rfl) (parts_cons (.of rfl) parts_nil)) bld134_67 rfl) rfl (.allocA (cs := [_, _, _, _, _, _]) hS Tryz.zeroValue134 rfl ?_)))))
 clear hS; intro b10 w hS
 refine .stA hS (k := 0) rfl (.of rfl) (.of rfl) rfl Tryz.sizeOf134 rfl (by simp) ?_
 clear hS; intro w hS; try dsimp only [List.set] at hS
 try simp only [List.take_zero, List.nil_append, List.append_nil, List.drop_succ_cons, List.drop_zero, List.drop_nil, Nat.zero_add] at hS
 refine .nil ?_
 refine WC.cutS (σ := Nat × Nat) (fun ⟨port, te⟩ => [(0, S s), (2, ptr b2 0), (6, I64 (te : Nat)), (10, ptr b10 0)]) (fun ⟨port, te⟩ w => pU s = tailU sch (low (upto [47, 63, 35, 58] (s.drop k))) port (s.drop te) ∧ te ≤ s.length ∧ port ≤ 65535 ∧ Sat B w I (blk b10 [S sch, S (low (upto [47, 63, 35, 58] (s.drop k))), I64 (port : Nat), S [], S [], .bool false] 134 :: blk b2 [S [], S [], I64 0, S [], S [], .bool false] 134 :: As)) ?_ ?_
 ·
  refine .seq ?_
  have hhost : hostOk (low (upto [47, 63, 35, 58] (s.drop k))) = true := by
   rw [hostOk, all_of hok (by omega), Bool.and_true]
   rw [show decide (64 < (low (upto [47, 63, 35, 58] (s.drop k))).length) = false from decide_eq_false (by omega)]
   cases hh : (low (upto [47, 63, 35, 58] (s.drop k))) with
   | nil => have := congrArg List.length hh; rw [hlow, List.length_nil] at this; omega
   | cons a b => rfl
  have hfd : s.drop (k + (upto [47, 63, 35, 58] (s.drop k)).length) = (from_ [47, 63, 35, 58] (s.drop k)) := by rw [← from_drop [47, 63, 35, 58] (s.drop k), List.drop_drop]
  refine .region (.run 5 rfl ⟨Tryz.underlying9, trivial⟩ (.gval rfl rfl (fun hg1 => (.move (.of rfl))) rfl (.gval rfl rfl (fun hg1 => (.move (.of rfl))) rfl ?_)))
  refine WL.gval rfl rfl (fun hg1 => .index (.gd hg1 rfl) (.gd hg1 rfl) (by omega) (by have hg1x := of_decide_eq_true hg1; omega) Tryz.underlying9) rfl ?_
  refine .gval rfl rfl (fun hg1 => (.eql (.gd hg1 rfl) (.of rfl))) rfl (.val (.pand (.of rfl) (.of rfl) (.of rfl)) rfl (.nil ?_))
  refine WC.cond rfl (fun hb105 => ?_) (fun hb105 => ?_)
  ·
   have hc105 := hb105; try simp only [Gk.cs0] at hc105
   refine .seq ?_
   have htk : (from_ [47, 63, 35, 58] (s.drop k)).take 1 = [58] := by
    have h := hb105
    simp only [Bool.and_eq_true, beq_iff_eq, decide_eq_true_eq] at h
    rw [← hfd, drop_at s (show k + (upto [47, 63, 35, 58] (s.drop k)).length < s.length by omega)]
    show [at_ s ((k + (upto [47, 63, 35, 58] (s.drop k)).length : Nat) : Int)] = [58]
    congr 1
    exact UInt8.toNat_inj.1 (by show (at_ s _).toNat = 58; omega)
   have hlt : k + (upto [47, 63, 35, 58] (s.drop k)).length < s.length := by
    have h := hb105
    simp only [Bool.and_eq_true, beq_iff_eq, decide_eq_true_eq] at h
    omega
   have hfd1 : s.drop (k + (upto [47, 63, 35, 58] (s.drop k)).length + 1) = (from_ [47, 63, 35, 58] (s.drop k)).drop 1 := by rw [← hfd, List.drop_drop]
   have hdl := upto_from_len [47, 63, 35] ((from_ [47, 63, 35, 58] (s.drop k)).drop 1)
   have hr1l : ((from_ [47, 63, 35, 58] (s.drop k)).drop 1).length = s.length - (k + (upto [47, 63, 35, 58] (s.drop k)).length + 1) := by rw [← hfd1, List.length_drop]
   rw [hr1l] at hdl
   refine .region (.run 2 rfl trivial (.val (.add (.of rfl) (.of rfl) ⟨by omega, by omega⟩) rfl ?_))
   rw [show (((k + (upto [47, 63, 35, 58] (s.drop k)).length : Nat) : Int) + 1) = ((k + (upto [47, 63, 35, 58] (s.drop k)).length + 1 : Nat) : Int) by omega]
   refine .call Tryz.func117 rfl (evs_cons (.of rfl) (evs_cons (.of rfl) (evs_cons (.of rfl) evs_nil))) rfl (find_any s [47, 63, 35] (k + (upto [47, 63, 35, 58] (s.drop k)).length + 1) (by omega) (by omega) (by decide) B _ I _ hS) ?_
   clear hS
   rintro _ w ⟨rfl, hS⟩
   rw [hfd1]
   refine .run 1 rfl trivial (.nil (.seq (.region (.run 2 rfl trivial (.val (.add (.of rfl) (.of rfl) ⟨by omega, by omega⟩) rfl ?_)))))
   rw [show (((k + (upto [47, 63, 35, 58] (s.drop k)).length : Nat) : Int) + 1) = ((k + (upto [47, 63, 35, 58] (s.drop k)).length + 1 : Nat) : Int) by omega]
   refine .run 1 rfl trivial (.val (.sub3 (.of rfl) (.of rfl) (.of rfl) (by omega) (by omega) (by omega) Tryz.underlying9) rfl ?_)
   simp only [Int.toNat_natCast]
   rw [show (s.drop (k + (upto [47, 63, 35, 58] (s.drop k)).length + 1)).take (k + (upto [47, 63, 35, 58] (s.drop k)).length + 1 + (upto [47, 63, 35] ((from_ [47, 63, 35, 58] (s.drop k)).drop 1)).length - (k + (upto [47, 63, 35, 58] (s.drop k)).length + 1)) = (upto [47, 63, 35] ((from_ [47, 63, 35, 58] (s.drop k)).drop 1)) by rw [Nat.add_sub_cancel_left, hfd1, upto_take]]
   refine .run 1 rfl trivial (.nil (.seq (.region (.run 1 rfl trivial (.nil (.seq (.seq (.region (.run 1 rfl trivial (.nil (.block (.loop (σ := Nat) (fun i => [(0, S s), (2, ptr b2 0), (5, S sch), (10, ptr b10 0), (11, I64 ((k + (upto [47, 63, 35, 58] (s.drop k)).length + 1 + (upto [47, 63, 35] ((from_ [47, 63, 35, 58] (s.drop k)).drop 1)).length : Nat) : Int)), (12, S (upto [47, 63, 35] ((from_ [47, 63, 35, 58] (s.drop k)).drop 1))), (13, I64 (val ((upto [47, 63, 35] ((from_ [47, 63, 35, 58] (s.drop k)).drop 1)).take i) : Nat)), (14, I64 (i : Nat))]) (fun i w => i ≤ (upto [47, 63, 35] ((from_ [47, 63, 35, 58] (s.drop k)).drop 1)).length ∧ (∀ j, j < i → j < (upto [47, 63, 35] ((from_ [47, 63, 35, 58] (s.drop k)).drop 1)).length → digB (at_ (upto [47, 63, 35] ((from_ [47, 63, 35, 58] (s.drop k)).drop 1)) (j : Int)) = true) ∧ val ((upto [47, 63, 35] ((from_ [47, 63, 35, 58] (s.drop k)).drop 1)).take i) ≤ 655359 ∧ Sat B w I (blk b10 [S sch, S (low (upto [47, 63, 35, 58] (s.drop k))), I64 0, S [], S [], .bool false] 134 :: blk b2 [S [], S [], I64 0, S [], S [], .bool false] 134 :: As)) (fun i => (upto [47, 63, 35] ((from_ [47, 63, 35, 58] (s.drop k)).drop 1)).length - i) 0 ⟨rfl, rfl, rfl, rfl, rfl, rfl, rfl, rfl, trivial⟩ ⟨Nat.zero_le _, fun _ h => absurd h (by omega), by simp [val], hS⟩ ?_))))))))))))
   rintro i w ⟨hi, hok2, hvl, hS⟩
   change WC _ _ _ _ [(0, S s), (2, ptr b2 0), (5, S sch), (10, ptr b10 0), (11, I64 ((k + (upto [47, 63, 35, 58] (s.drop k)).length + 1 + (upto [47, 63, 35] ((from_ [47, 63, 35, 58] (s.drop k)).drop 1)).length : Nat) : Int)), (12, S (upto [47, 63, 35] ((from_ [47, 63, 35, 58] (s.drop k)).drop 1))), (13, I64 (val ((upto [47, 63, 35] ((from_ [47, 63, 35, 58] (s.drop k)).drop 1)).take i) : Nat)), (14, I64 (i : Nat))] w
   refine .seq (.seq (.region (.run 4 rfl ⟨Tryz.underlying9, trivial⟩ (.nil ?_))))
   refine WC.cond rfl (fun hb118 => ?_) (fun hb118 => ?_)
   ·
    have hc118 := hb118; try simp only [Gk.cs0] at hc118
    refine .skip (.seq (.block (.seq (.seq (.region (.run 5 rfl ⟨⟨⟨by omega, by omega⟩, Tryz.underlying9⟩, trivial⟩ (.gval rfl rfl (fun hg1 => (.move (.of rfl))) rfl (.gval rfl rfl (fun hg1 => (.move (.of rfl))) rfl ?_))))))))
    refine WL.gval rfl rfl (fun hg1 => (.index (.gd hg1 rfl) (.gd hg1 rfl) (by (try simp only [Gk.cs0] at hg1); omega) (by (try simp only [Gk.cs0] at hg1); omega) Tryz.underlying9)) rfl ?_
    refine .gval rfl rfl (fun hg1 => (.gtr (.gd hg1 rfl) (.of rfl))) rfl (.val (.por (.of rfl) (.of rfl) (.of rfl)) rfl (.run 1 rfl trivial (.gval rfl rfl (fun hg1 => (.move (.of rfl))) rfl (.gval rfl rfl (fun hg1 => (.gtr (.gd hg1 rfl) (.of rfl))) rfl (.val (.por (.of rfl) (.of rfl) (.of rfl)) rfl (.nil ?_))))))
    refine WC.cond rfl (fun hb134 => ?_) (fun hb134 => ?_)
    ·
     have hc134 := hb134; try simp only [Gk.cs0] at hc134
     refine .seq (.region (.val (.build (cs := [_, _, _, _, _, _]) parts_nil bld134_67 rfl) rfl (.stA hS (k := 1) rfl (.of rfl) (.of rfl) rfl Tryz.sizeOf134 rfl (by simp) ?_)))
     clear hS; intro w hS; try dsimp only [List.set] at hS
     try simp only [List.take_zero, List.nil_append, List.append_nil, List.drop_succ_cons, List.drop_zero, List.drop_nil, Nat.zero_add] at hS
     refine .run 1 rfl trivial (.nil (.ret (ret2c (b := _) (cs := [_, _, _, _, _, _]) Tryz.results67 hS (k := 1) rfl Tryz.isAgg134 Tryz.sizeOf134 rfl rfl rfl ?_)))
     refine ⟨_, rfl, ?_, ((hS.drop (k := 0) rfl).drop (k := 0) rfl)⟩
     rw [pU, if_neg (by omega), hsome]
     simp only
     rw [hostOf, if_pos hhost, behind, if_pos htk, if_neg]
     ·rfl
     ·rw [Bool.not_eq_true]
      unfold portOk
      rcases Bool.or_eq_true_iff.1 hb134 with h | h
      ·rw [digB_int] at h
       rw [not_all (p := digB) (i := i) (by omega) (by simpa using h)]; rfl
      ·simp only [decide_eq_true_eq] at h
       have hm := val_mono (upto [47, 63, 35] ((from_ [47, 63, 35, 58] (s.drop k)).drop 1)) i (upto [47, 63, 35] ((from_ [47, 63, 35, 58] (s.drop k)).drop 1)).length (by omega)
       rw [List.take_length] at hm
       rw [decide_eq_false (show ¬ val (upto [47, 63, 35] ((from_ [47, 63, 35, 58] (s.drop k)).drop 1)) ≤ 65535 by omega)]; simp
    have hc134 := hb134; try simp only [Gk.cs0] at hc134
    refine .skip ?_
    have hdig : digB (at_ (upto [47, 63, 35] ((from_ [47, 63, 35, 58] (s.drop k)).drop 1)) (i : Int)) = true := by
     cases hd : digB (at_ (upto [47, 63, 35] ((from_ [47, 63, 35, 58] (s.drop k)).drop 1)) (i : Int)) with
     | true => rfl
     | false =>
      have h := digB_int (at_ (upto [47, 63, 35] ((from_ [47, 63, 35, 58] (s.drop k)).drop 1)) (i : Int))
      rw [hd] at h
      rw [h] at hb134
      exact absurd hb134 (by simp)
    have hrg := digB_range hdig
    have hv65 : val ((upto [47, 63, 35] ((from_ [47, 63, 35, 58] (s.drop k)).drop 1)).take i) ≤ 65535 := by have := hc134.2; omega
    refine .region (.run 5 rfl ⟨⟨by omega, by omega⟩, ⟨⟨by omega, by omega⟩, Tryz.underlying9⟩, trivial⟩ ?_)
    refine WL.val (.subx (.of rfl) (.of rfl) (by rw [IntKind.wrap_u8]; omega)) rfl ?_
    refine WL.val (.cvi (.of rfl) Tryz.underlying5 Tryz.underlying3 (by rw [IntKind.wrap_i64]; omega)) rfl ?_
    refine .run 2 rfl ⟨⟨by omega, by omega⟩, trivial⟩ (.nil (.region (.run 3 rfl ⟨⟨by omega, by omega⟩, trivial⟩ (.nil ?_))))
    refine ⟨i + 1, ⟨rfl, rfl, rfl, rfl, rfl, rfl, ?_, rfl, trivial⟩, ⟨by omega, fun j hj hjl => ?_, ?_, hS⟩, by omega⟩
    ·rw [val_take _ i (by omega)]
     show some (I64 _) = some (I64 _)
     congr 2
     omega
    ·rcases Nat.lt_or_ge j i with h1 | h1
     ·exact hok2 j h1 hjl
     ·have e : j = i := by omega
      rw [e]; exact hdig
    ·rw [val_take _ i (by omega)]; omega
   have hc118 := hb118; try simp only [Gk.cs0] at hc118
   refine .exit (.seq (.seq (.region (.run 3 rfl trivial (.gval rfl rfl (fun hg1 => (.move (.of rfl))) rfl (.gval rfl rfl (fun hg1 => (.gtr (.gd hg1 rfl) (.of rfl))) rfl (.val (.por (.of rfl) (.of rfl) (.of rfl)) rfl (.run 1 rfl trivial (.gval rfl rfl (fun hg1 => (.move (.of rfl))) rfl ?_)))))))))
   refine WL.gval rfl rfl (fun hg1 => .index (.gd hg1 rfl) (.of rfl) (by omega) (by rcases Nat.eq_zero_or_pos ((upto [47, 63, 35] ((from_ [47, 63, 35, 58] (s.drop k)).drop 1))).length with h0 | h0; (have hnil := List.eq_nil_of_length_eq_zero h0; rw [hnil] at hg1; simp [val] at hg1); omega) Tryz.underlying9) rfl ?_
   refine .gval rfl rfl (fun hg1 => (.eql (.gd hg1 rfl) (.of rfl))) rfl (.val (.por (.of rfl) (.of rfl) (.of rfl)) rfl (.nil ?_))
   refine WC.cond rfl (fun hb154 => ?_) (fun hb154 => ?_)
   ·
    have hc154 := hb154; try simp only [Gk.cs0] at hc154
    refine .seq (.region (.val (.build (cs := [_, _, _, _, _, _]) parts_nil bld134_67 rfl) rfl (.stA hS (k := 1) rfl (.of rfl) (.of rfl) rfl Tryz.sizeOf134 rfl (by simp) ?_)))
    clear hS; intro w hS; try dsimp only [List.set] at hS
    try simp only [List.take_zero, List.nil_append, List.append_nil, List.drop_succ_cons, List.drop_zero, List.drop_nil, Nat.zero_add] at hS
    refine .run 1 rfl trivial (.nil (.ret (ret2c (b := _) (cs := [_, _, _, _, _, _]) Tryz.results67 hS (k := 1) rfl Tryz.isAgg134 Tryz.sizeOf134 rfl rfl rfl ?_)))
    refine ⟨_, rfl, ?_, ((hS.drop (k := 0) rfl).drop (k := 0) rfl)⟩
    have hdlen : (upto [47, 63, 35] ((from_ [47, 63, 35, 58] (s.drop k)).drop 1)).length = i := by omega
    have hb154' := hb154
    rw [← hdlen, List.take_length] at hb154'
    rw [pU, if_neg (by omega), hsome]
    simp only
    rw [hostOf, if_pos hhost, behind, if_pos htk, if_neg]
    ·rfl
    ·rw [Bool.not_eq_true]
     unfold portOk
     rcases Bool.or_eq_true_iff.1 hb154' with h | h
     ·rcases Bool.or_eq_true_iff.1 h with h | h
      ·simp only [decide_eq_true_eq] at h
       rw [decide_eq_false (show ¬ 1 ≤ val (upto [47, 63, 35] ((from_ [47, 63, 35, 58] (s.drop k)).drop 1)) by omega)]; simp
      ·simp only [decide_eq_true_eq] at h
       rw [decide_eq_false (show ¬ val (upto [47, 63, 35] ((from_ [47, 63, 35, 58] (s.drop k)).drop 1)) ≤ 65535 by omega)]; simp
     ·simp only [beq_iff_eq] at h
      have : (upto [47, 63, 35] ((from_ [47, 63, 35, 58] (s.drop k)).drop 1)).headD 0 = 48 := by
       have h2 : (at_ (upto [47, 63, 35] ((from_ [47, 63, 35, 58] (s.drop k)).drop 1)) 0).toNat = 48 := by omega
       have h3 : at_ (upto [47, 63, 35] ((from_ [47, 63, 35, 58] (s.drop k)).drop 1)) 0 = 48 := UInt8.toNat_inj.1 h2
       cases hh : (upto [47, 63, 35] ((from_ [47, 63, 35, 58] (s.drop k)).drop 1)) with
       | nil => rw [hh] at h3; simp [at_] at h3
       | cons a b => rw [hh] at h3; exact h3
      rw [this]; simp
   have hc154 := hb154; try simp only [Gk.cs0] at hc154
   refine .skip (.seq (.seq (.region (.run 3 rfl trivial (.gval rfl rfl (fun hg1 => (.move (.of rfl))) rfl (.gval rfl rfl (fun hg1 => (.eql (.gd hg1 rfl) (.of rfl))) rfl (.val (.pand (.of rfl) (.of rfl) (.of rfl)) rfl (.run 1 rfl trivial (.gval rfl rfl (fun hg1 => (.move (.of rfl))) rfl (.gval rfl rfl (fun hg1 => (.eqs (.gd hg1 rfl) (.of rfl))) rfl (.gval rfl rfl (fun hg1 => (.move (.gd hg1 rfl))) rfl (.gval2 rfl rfl rfl (fun hg1 hg2 => (.move (.of rfl))) rfl (.gval2 rfl rfl rfl (fun hg1 hg2 => (.eql (.gd2 hg1 hg2 rfl) (.of rfl))) rfl (.gval rfl rfl (fun hg1 => (.pand (.gd hg1 rfl) (.gd hg1 rfl) (.of rfl))) rfl (.val (.por (.of rfl) (.of rfl) (.of rfl)) rfl (.run 1 rfl trivial (.nil ?_)))))))))))))))))
   refine WC.cond rfl (fun hb170 => ?_) (fun hb170 => ?_)
   ·
    have hc170 := hb170; try simp only [Gk.cs0] at hc170
    refine .region (.run 1 rfl trivial (.val (.fieldAddr 2 (.of rfl) Tryz.underlying134 rfl rfl Tryz.sizeOf3 rfl) rfl (.st1 hS (k := 0) rfl (.of rfl) (.of rfl) rfl Tryz.sizeOf3 (by simp) ?_)))
    clear hS; intro w hS; try dsimp only [List.set] at hS
    refine .nil (.region (.run 2 rfl trivial (.nil ?_)))
    have hdlen : (upto [47, 63, 35] ((from_ [47, 63, 35, 58] (s.drop k)).drop 1)).length = i := by omega
    have hb154' := hb154
    rw [← hdlen, List.take_length] at hb154'
    obtain ⟨h12, h3⟩ := Bool.or_eq_false_iff.1 hb154'
    obtain ⟨h1, h2⟩ := Bool.or_eq_false_iff.1 h12
    simp only [decide_eq_false_iff_not] at h1 h2
    have hne : (upto [47, 63, 35] ((from_ [47, 63, 35, 58] (s.drop k)).drop 1)) ≠ [] := fun e => by rw [e] at h1; simp [val] at h1
    have hgood : portOk (upto [47, 63, 35] ((from_ [47, 63, 35, 58] (s.drop k)).drop 1)) = true := by
     unfold portOk
     have e : (upto [47, 63, 35] ((from_ [47, 63, 35, 58] (s.drop k)).drop 1)).headD 0 = at_ (upto [47, 63, 35] ((from_ [47, 63, 35, 58] (s.drop k)).drop 1)) 0 := by cases hh : (upto [47, 63, 35] ((from_ [47, 63, 35, 58] (s.drop k)).drop 1)) with | nil => exact absurd hh hne | cons a b => rfl
     rw [all_of hok2 (by omega), decide_eq_true (show 1 ≤ val (upto [47, 63, 35] ((from_ [47, 63, 35, 58] (s.drop k)).drop 1)) by omega), decide_eq_true (show val (upto [47, 63, 35] ((from_ [47, 63, 35, 58] (s.drop k)).drop 1)) ≤ 65535 by omega), e]
     simp only [beq_eq_false_iff_ne] at h3
     have : at_ (upto [47, 63, 35] ((from_ [47, 63, 35, 58] (s.drop k)).drop 1)) 0 ≠ 48 := fun e => h3 (by rw [e]; rfl)
     rw [beq_eq_false_iff_ne.2 this]; rfl
    have hfe : s.drop (k + (upto [47, 63, 35, 58] (s.drop k)).length + 1 + (upto [47, 63, 35] ((from_ [47, 63, 35, 58] (s.drop k)).drop 1)).length) = (from_ [47, 63, 35] ((from_ [47, 63, 35, 58] (s.drop k)).drop 1)) := by rw [← from_drop [47, 63, 35] ((from_ [47, 63, 35, 58] (s.drop k)).drop 1), ← hfd1, List.drop_drop]
    have hc170' := hc170
    rw [← hdlen, List.take_length] at hc170'
    have hpv : portV (upto [47, 63, 35] ((from_ [47, 63, 35, 58] (s.drop k)).drop 1)) sch = val (upto [47, 63, 35] ((from_ [47, 63, 35, 58] (s.drop k)).drop 1)) := by
     unfold portV ownP
     rw [if_neg]
     intro e
     rcases hsch with e1 | e1
     ·rw [e1, if_neg (by decide)] at e
      rcases hc170'.1 with h | h
      ·exact h e1
      ·omega
     ·rw [e1, if_pos (by decide)] at e
      rcases hc170'.2 with h | h
      ·exact h e1
      ·omega
    refine ⟨(val (upto [47, 63, 35] ((from_ [47, 63, 35, 58] (s.drop k)).drop 1)), _), ⟨rfl, rfl, rfl, rfl, trivial⟩, ?_, by (try dsimp only); omega, by (try dsimp only); omega, by rw [← hdlen, List.take_length] at hS; exact hS⟩
    ·rw [pU, if_neg (by omega), hsome]
     simp only
     rw [hostOf, if_pos hhost, behind, if_pos htk, if_pos hgood, hpv, hfe]
   have hc170 := hb170; try simp only [Gk.cs0] at hc170
   refine .skip (.region (.run 2 rfl trivial (.nil ?_)))
   have hdlen : (upto [47, 63, 35] ((from_ [47, 63, 35, 58] (s.drop k)).drop 1)).length = i := by omega
   have hb154' := hb154
   rw [← hdlen, List.take_length] at hb154'
   obtain ⟨h12, h3⟩ := Bool.or_eq_false_iff.1 hb154'
   obtain ⟨h1, h2⟩ := Bool.or_eq_false_iff.1 h12
   simp only [decide_eq_false_iff_not] at h1 h2
   have hne : (upto [47, 63, 35] ((from_ [47, 63, 35, 58] (s.drop k)).drop 1)) ≠ [] := fun e => by rw [e] at h1; simp [val] at h1
   have hgood : portOk (upto [47, 63, 35] ((from_ [47, 63, 35, 58] (s.drop k)).drop 1)) = true := by
    unfold portOk
    have e : (upto [47, 63, 35] ((from_ [47, 63, 35, 58] (s.drop k)).drop 1)).headD 0 = at_ (upto [47, 63, 35] ((from_ [47, 63, 35, 58] (s.drop k)).drop 1)) 0 := by cases hh : (upto [47, 63, 35] ((from_ [47, 63, 35, 58] (s.drop k)).drop 1)) with | nil => exact absurd hh hne | cons a b => rfl
    rw [all_of hok2 (by omega), decide_eq_true (show 1 ≤ val (upto [47, 63, 35] ((from_ [47, 63, 35, 58] (s.drop k)).drop 1)) by omega), decide_eq_true (show val (upto [47, 63, 35] ((from_ [47, 63, 35, 58] (s.drop k)).drop 1)) ≤ 65535 by omega), e]
    simp only [beq_eq_false_iff_ne] at h3
    have : at_ (upto [47, 63, 35] ((from_ [47, 63, 35, 58] (s.drop k)).drop 1)) 0 ≠ 48 := fun e => h3 (by rw [e]; rfl)
    rw [beq_eq_false_iff_ne.2 this]; rfl
   have hfe : s.drop (k + (upto [47, 63, 35, 58] (s.drop k)).length + 1 + (upto [47, 63, 35] ((from_ [47, 63, 35, 58] (s.drop k)).drop 1)).length) = (from_ [47, 63, 35] ((from_ [47, 63, 35, 58] (s.drop k)).drop 1)) := by rw [← from_drop [47, 63, 35] ((from_ [47, 63, 35, 58] (s.drop k)).drop 1), ← hfd1, List.drop_drop]
   have hc170' := hc170
   rw [← hdlen, List.take_length] at hc170'
   have hpv : portV (upto [47, 63, 35] ((from_ [47, 63, 35, 58] (s.drop k)).drop 1)) sch = 0 := by
    unfold portV ownP
    rw [if_pos]
    rcases hc170' with ⟨e1, e2⟩ | ⟨e1, e2⟩
    ·rw [e1, if_neg (by decide)]; omega
    ·rw [e1, if_pos (by decide)]; omega
   refine ⟨(0, _), ⟨rfl, rfl, rfl, rfl, trivial⟩, ?_, by (try dsimp only); omega, by (try dsimp only); omega, hS⟩
   ·rw [pU, if_neg (by omega), hsome]
    simp only
    rw [hostOf, if_pos hhost, behind, if_pos htk, if_pos hgood, hpv, hfe]
  have hc105 := hb105; try simp only [Gk.cs0] at hc105
  refine .skip ?_
  have htk : ¬ (from_ [47, 63, 35, 58] (s.drop k)).take 1 = [58] := fun e => by
   have hlt : k + (upto [47, 63, 35, 58] (s.drop k)).length < s.length := by
    rcases Nat.lt_or_ge (k + (upto [47, 63, 35, 58] (s.drop k)).length) s.length with h | h
    ·exact h
    ·rw [← hfd, List.drop_of_length_le h] at e; cases e
   rw [← hfd, drop_at s hlt] at e
   have e1 : at_ s ((k + (upto [47, 63, 35, 58] (s.drop k)).length : Nat) : Int) = 58 := by injection e
   rw [e1, decide_eq_true (by omega)] at hb105
   exact absurd hb105 (by decide)
  refine ⟨(0, _), ⟨rfl, rfl, rfl, rfl, trivial⟩, ?_, by (try dsimp only); omega, by decide, hS⟩
  ·rw [pU, if_neg (by omega), hsome]
   simp only
   rw [hostOf, if_pos hhost, behind, if_neg htk, hfd]
 rintro ⟨port, te⟩ w ⟨hpu, htl, hport, hS⟩
 change WC _ _ _ _ [(0, S s), (2, ptr b2 0), (6, I64 (te : Nat)), (10, ptr b10 0)] w
 refine .seq (.region (.run 2 rfl trivial (.call Tryz.func117 rfl (evs_cons (.of rfl) (evs_cons (.of rfl) (evs_cons (.of rfl) evs_nil))) rfl (find_any s [63] te htl (by omega) (by decide) B _ I _ hS) ?_)))
 clear hS
 rintro _ w ⟨rfl, hS⟩
 refine .run 1 rfl trivial (.nil (.seq (.region (.run 3 rfl trivial ?_))))
 refine WL.val (.sub3 (.of rfl) (.of rfl) (.of rfl) (by omega) (by omega) (by have := upto_le [63] (s.drop te); rw [List.length_drop] at this; omega) Tryz.underlying9) rfl ?_
 simp only [Int.toNat_natCast]
 rw [show (s.drop te).take (te + (upto [63] (s.drop te)).length - te) = (upto [63] (s.drop te)) by rw [Nat.add_sub_cancel_left, upto_take]]
 refine WL.call Tryz.func118 rfl (evs_cons (.of rfl) evs_nil) rfl (part_any (upto [63] (s.drop te)) (by have := upto_le [63] (s.drop te); rw [List.length_drop] at this; omega) B _ I _ hS) ?_
 clear hS
 rintro _ w ⟨p1, b1, rfl, hp1, hp1l, hS⟩
 refine .run 5 rfl trivial (.nil (.seq (.seq ?_)))
 have hml := upto_from_len [63] (s.drop te)
 rw [List.length_drop] at hml
 refine .region (.run 2 rfl trivial (.nil ?_))
 refine WC.cond rfl (fun hb186 => ?_) (fun hb186 => ?_)
 ·
  have hc186 := hb186; try simp only [Gk.cs0] at hc186
  refine .seq (.region (.val (.build (cs := [_, _, _, _, _, _]) parts_nil bld134_67 rfl) rfl (.stA hS (k := 1) rfl (.of rfl) (.of rfl) rfl Tryz.sizeOf134 rfl (by simp) ?_)))
  clear hS; intro w hS; try dsimp only [List.set] at hS
  try simp only [List.take_zero, List.nil_append, List.append_nil, List.drop_succ_cons, List.drop_zero, List.drop_nil, Nat.zero_add] at hS
  refine .run 1 rfl trivial (.nil (.ret (ret2c (b := _) (cs := [_, _, _, _, _, _]) Tryz.results67 hS (k := 1) rfl Tryz.isAgg134 Tryz.sizeOf134 rfl rfl rfl ?_)))
  refine ⟨_, rfl, ?_, ((hS.drop (k := 0) rfl).drop (k := 0) rfl)⟩
  rw [hpu, tailU]
  cases hp : partU (upto [63] (s.drop te)) with
  | none => rfl
  | some t => rw [hp] at hp1; rw [hp1.2] at hc186; cases hc186
 have hc186 := hb186; try simp only [Gk.cs0] at hc186
 refine .skip ?_
 refine WC.cutS (σ := List UInt8 × Bool) (fun ⟨q, ask⟩ => [(2, ptr b2 0), (10, ptr b10 0), (16, S p1)]) (fun ⟨q, ask⟩ w => tailU sch (low (upto [47, 63, 35, 58] (s.drop k))) port (s.drop te) = (⟨sch, (low (upto [47, 63, 35, 58] (s.drop k))), port, if p1 = [] then [47] else dots p1, q, ask⟩, 0) ∧ Sat B w I (blk b10 [S sch, S (low (upto [47, 63, 35, 58] (s.drop k))), I64 (port : Nat), S [], S q, .bool ask] 134 :: blk b2 [S [], S [], I64 0, S [], S [], .bool false] 134 :: As)) ?_ ?_
 ·
  refine .seq ?_
  have hpp : partU (upto [63] (s.drop te)) = some p1 := by
   cases hp : partU (upto [63] (s.drop te)) with
   | none => rw [hp] at hp1; rw [hp1] at hc186; cases hc186
   | some t => rw [hp] at hp1; rw [hp1.1]
  refine .region (.run 4 rfl ⟨Tryz.underlying9, trivial⟩ (.nil ?_))
  refine WC.cond rfl (fun hb191 => ?_) (fun hb191 => ?_)
  ·
   have hc191 := hb191; try simp only [Gk.cs0] at hc191
   refine .seq (.region (.val (.fieldAddr 5 (.of rfl) Tryz.underlying134 rfl rfl Tryz.sizeOf4 rfl) rfl (.st1 hS (k := 0) rfl (.of rfl) (.of rfl) rfl Tryz.sizeOf4 (by simp) ?_)))
   clear hS; intro w hS; try dsimp only [List.set] at hS
   refine .nil (.seq (.region (.run 2 rfl trivial (.val (.add (.of rfl) (.of rfl) ⟨by omega, by omega⟩) rfl ?_))))
   rw [show (((te + (upto [63] (s.drop te)).length : Nat) : Int) + 1) = ((te + (upto [63] (s.drop te)).length + 1 : Nat) : Int) by omega]
   refine .val (.subFrom (.of rfl) (.of rfl) (by omega) (by omega) Tryz.underlying9) rfl ?_
   simp only [Int.toNat_natCast]
   refine WL.call Tryz.func118 rfl (evs_cons (.of rfl) evs_nil) rfl (part_any _ (by rw [List.length_drop]; omega) B _ I _ hS) ?_
   clear hS
   rintro _ w ⟨q1, b2x, rfl, hq1, hq1l, hS⟩
   have hfm : s.drop (te + (upto [63] (s.drop te)).length + 1) = ((from_ [63] (s.drop te)).drop 1) := by rw [← from_drop [63] (s.drop te), List.drop_drop, List.drop_drop, Nat.add_assoc]
   refine .run 3 rfl trivial (.val (.fieldAddr 4 (.of rfl) Tryz.underlying134 rfl rfl Tryz.sizeOf9 rfl) rfl (.st1 hS (k := 0) rfl (.of rfl) (.of rfl) rfl Tryz.sizeOf9 (by simp) ?_))
   clear hS; intro w hS; try dsimp only [List.set] at hS
   refine .run 1 rfl trivial (.nil (.seq (.region (.run 2 rfl trivial (.nil ?_)))))
   refine WC.cond rfl (fun hb203 => ?_) (fun hb203 => ?_)
   ·
    have hc203 := hb203; try simp only [Gk.cs0] at hc203
    refine .seq (.region (.val (.build (cs := [_, _, _, _, _, _]) parts_nil bld134_67 rfl) rfl (.stA hS (k := 1) rfl (.of rfl) (.of rfl) rfl Tryz.sizeOf134 rfl (by simp) ?_)))
    clear hS; intro w hS; try dsimp only [List.set] at hS
    try simp only [List.take_zero, List.nil_append, List.append_nil, List.drop_succ_cons, List.drop_zero, List.drop_nil, Nat.zero_add] at hS
    refine .run 1 rfl trivial (.nil (.ret (ret2c (b := _) (cs := [_, _, _, _, _, _]) Tryz.results67 hS (k := 1) rfl Tryz.isAgg134 Tryz.sizeOf134 rfl rfl rfl ?_)))
    refine ⟨_, rfl, ?_, ((hS.drop (k := 0) rfl).drop (k := 0) rfl)⟩
    rw [hfm] at hq1
    rw [hpu, tailU, hpp]
    simp only
    cases hq : partU ((from_ [63] (s.drop te)).drop 1) with
    | none => rfl
    | some t => rw [hq] at hq1; rw [hq1.2] at hc203; cases hc203
   have hc203 := hb203; try simp only [Gk.cs0] at hc203
   refine .skip ?_
   refine ⟨(q1, true), ⟨rfl, rfl, rfl, trivial⟩, ?_, hS⟩
   rw [hfm] at hq1
   have : (from_ [63] (s.drop te)).isEmpty = false := by
    cases hh : from_ [63] (s.drop te) with
    | nil => have := congrArg List.length hh; rw [List.length_nil] at this; omega
    | cons a b => rfl
   rw [tailU, hpp]
   simp only
   cases hq : partU ((from_ [63] (s.drop te)).drop 1) with
   | none => rw [hq] at hq1; rw [hq1] at hc203; cases hc203
   | some q => rw [hq] at hq1; obtain ⟨rfl, _⟩ := hq1; simp only; rw [this]; rfl
  have hc191 := hb191; try simp only [Gk.cs0] at hc191
  refine .skip ?_
  refine ⟨([], false), ⟨rfl, rfl, rfl, trivial⟩, ?_, hS⟩
  have : from_ [63] (s.drop te) = [] := List.eq_nil_of_length_eq_zero (by omega)
  rw [tailU, hpp, this]
  rfl
 rintro ⟨q, ask⟩ w ⟨htu, hS⟩
 change WC _ _ _ _ [(2, ptr b2 0), (10, ptr b10 0), (16, S p1)] w
 refine .seq (.region (.run 1 rfl trivial ?_))
 refine WL.call Tryz.func119 rfl (evs_cons (.of rfl) evs_nil) rfl (refDots_any p1 (by have := upto_le [63] (s.drop te); rw [List.length_drop] at this; omega) B _ I _ hS) ?_
 clear hS
 rintro _ w ⟨rfl, hS⟩
 refine .val (.fieldAddr 3 (.of rfl) Tryz.underlying134 rfl rfl Tryz.sizeOf9 rfl) rfl (.st1 hS (k := 0) rfl (.of rfl) (.of rfl) rfl Tryz.sizeOf9 (by simp) ?_)
 clear hS; intro w hS; try dsimp only [List.set] at hS
 refine .nil (.seq (.seq (.region (.run 2 rfl trivial (.nil ?_)))))
 refine WC.cond rfl (fun hb209 => ?_) (fun hb209 => ?_)
 ·
  have hc209 := hb209; try simp only [Gk.cs0] at hc209
  refine .region (.val (.fieldAddr 3 (.of rfl) Tryz.underlying134 rfl rfl Tryz.sizeOf9 rfl) rfl (.st1 hS (k := 0) rfl (.of rfl) (.of rfl) rfl Tryz.sizeOf9 (by simp) ?_))
  clear hS; intro w hS; try dsimp only [List.set] at hS
  refine .nil (.seq (.region (.val (.ldsW (cs := [_, _, _, _, _, _]) (.of rfl) hS (k := 0) rfl Tryz.isAgg134 Tryz.sizeOf134 rfl) rfl (.stA hS (k := 1) rfl (.of rfl) (.of rfl) rfl Tryz.sizeOf134 rfl (by simp) ?_))))
  clear hS; intro w hS; try dsimp only [List.set] at hS
  try simp only [List.take_zero, List.nil_append, List.append_nil, List.drop_succ_cons, List.drop_zero, List.drop_nil, Nat.zero_add] at hS
  refine .run 1 rfl trivial (.nil (.ret (ret2c (b := _) (cs := [_, _, _, _, _, _]) Tryz.results67 hS (k := 1) rfl Tryz.isAgg134 Tryz.sizeOf134 rfl rfl rfl ?_)))
  refine ⟨_, rfl, ?_, ((hS.drop (k := 0) rfl).drop (k := 0) rfl)⟩
  rw [hpu, htu, if_pos hc209]
  rfl
 have hc209 := hb209; try simp only [Gk.cs0] at hc209
 refine .skip (.seq (.region (.val (.ldsW (cs := [_, _, _, _, _, _]) (.of rfl) hS (k := 0) rfl Tryz.isAgg134 Tryz.sizeOf134 rfl) rfl (.stA hS (k := 1) rfl (.of rfl) (.of rfl) rfl Tryz.sizeOf134 rfl (by simp) ?_))))
 clear hS; intro w hS; try dsimp only [List.set] at hS
 try simp only [List.take_zero, List.nil_append, List.append_nil, List.drop_succ_cons, List.drop_zero, List.drop_nil, Nat.zero_add] at hS
 refine .run 1 rfl trivial (.nil (.ret (ret2c (b := _) (cs := [_, _, _, _, _, _]) Tryz.results67 hS (k := 1) rfl Tryz.isAgg134 Tryz.sizeOf134 rfl rfl rfl ?_)))
 refine ⟨_, rfl, ?_, ((hS.drop (k := 0) rfl).drop (k := 0) rfl)⟩
 rw [hpu, htu, if_neg hc209]
 rfl
theorem refUNormal_any (s : List UInt8) (hl : s.length ≤ 1000000) (B w : World) (I : Im) (As : List Assn) (hS : Sat B w I As) :
  Calls Tryz.prog 23 [S s].toArray w (Ret fun v w' => v = .tuple #[S (nU s).1, I64 ((nU s).2 : Nat)] ∧ Sat B w' I As) := by
 refine calls Tryz.func23 rfl Tryz.ntmps23 rfl (.seq (.region (.run 2 rfl trivial (.nil (.seq (.region (.run 1 rfl trivial (.call Tryz.func67 rfl (evs_cons (.of rfl) evs_nil) rfl (refParse_any s hl B _ I _ hS) ?_))))))))
 clear hS
 rintro _ w ⟨rfl, hS⟩
 refine .run 3 rfl trivial (.allocA (cs := [_, _, _, _, _, _]) hS Tryz.zeroValue134 rfl ?_)
 clear hS; intro b4 w hS
 refine .stA hS (k := 0) rfl (.of rfl) (.of rfl) rfl Tryz.sizeOf134 rfl (by simp) ?_
 clear hS; intro w hS; try dsimp only [List.set] at hS
 try simp only [List.take_zero, List.nil_append, List.append_nil, List.drop_succ_cons, List.drop_zero, List.drop_nil, Nat.zero_add] at hS
 refine .run 1 rfl trivial (.nil (.seq (.seq (.region (.run 2 rfl trivial (.nil ?_))))))
 refine WC.cond rfl (fun hb12 => ?_) (fun hb12 => ?_)
 ·
  have hc12 := hb12; try simp only [Gk.cs0] at hc12
  refine .seq (.region (.run 3 rfl trivial (.nil (.ret (ret2 Tryz.results23 rfl rfl ?_)))))
  refine ⟨_, rfl, ?_, hS.drop (k := 0) rfl⟩
  rw [nU, if_neg (by omega)]
  rfl
 have hc12 := hb12; try simp only [Gk.cs0] at hc12
 refine .skip (.seq (.region (.val (.ldsW (cs := [_, _, _, _, _, _]) (.of rfl) hS (k := 0) rfl Tryz.isAgg134 Tryz.sizeOf134 rfl) rfl (.call Tryz.func68 rfl (evs_cons (.of rfl) evs_nil) rfl (refString_any (pU s).1 (small_pU s) B _ I _ hS) ?_))))
 clear hS
 rintro _ w ⟨rfl, hS⟩
 refine .run 2 rfl trivial (.nil (.ret (ret2 Tryz.results23 rfl rfl ?_)))
 refine ⟨_, rfl, ?_, hS.drop (k := 0) rfl⟩
 rw [nU, if_pos (by omega)]
 rfl
end Go.Proofs.YtadhiihnnkcagaaGreatDoor
namespace Rk
set_option linter.unusedVariables false
set_option linter.unusedSimpArgs false
open Flt
def keyN (b : Nat) : Nat := if 9223372036854775808 ≤ b then 18446744073709551615 - b else b + 9223372036854775808
theorem and_hi {b : Nat} (h : b < 18446744073709551616) : b &&& 9223372036854775808 = if 9223372036854775808 ≤ b then 9223372036854775808 else 0 := by
 apply Nat.eq_of_testBit_eq
 intro i
 have e63 : b.testBit 63 = decide (9223372036854775808 ≤ b) := by
  rw [Nat.testBit_eq_decide_div_mod_eq, show (2 : Nat) ^ 63 = 9223372036854775808 by decide]
  exact decide_eq_decide.2 (by omega)
 rw [Nat.testBit_and, show 9223372036854775808 = 2 ^ 63 by decide, Nat.testBit_two_pow]
 rw [show 9223372036854775808 = 2 ^ 63 by decide] at e63
 by_cases hi : 63 = i
 ·subst hi
  rw [e63]
  by_cases hb : 2 ^ 63 ≤ b
  ·rw [if_pos hb, Nat.testBit_two_pow]; simp [hb]
  ·rw [if_neg hb]; simp [hb]
 ·by_cases hb : 2 ^ 63 ≤ b
  ·rw [if_pos hb, Nat.testBit_two_pow]; simp [hi]
  ·rw [if_neg hb]; simp [hi]
theorem or_hi {b : Nat} (h : b < 9223372036854775808) : b ||| 9223372036854775808 = b + 9223372036854775808 := by
 have e := Nat.two_pow_add_eq_or_of_lt (i := 63) (b := b) (by rw [show (2 : Nat) ^ 63 = 9223372036854775808 by decide]; exact h) 1
 rw [show (2 : Nat) ^ 63 * 1 = 9223372036854775808 by decide, Nat.or_comm] at e
 rw [← e]; omega
def W (x y : Nat) : Nat → Option Nat
 | 0 => nf x
 | k + 1 => (W x y k).bind fun v => Ieee.double.mul v y
end Rk
namespace Go.Proofs.YtadhiihnnkcagaaGreatDoor
open Gk Rk Flt
set_option linter.unusedVariables false
set_option linter.unusedSimpArgs false
theorem Key_any (b : Nat) (hb : b < 18446744073709551616) (w : World) :
  Calls Tryz.prog 173 [F64 b].toArray w (Ret fun v w' => v = U64 (keyN b : Nat) ∧ w = w') := by
 refine calls Tryz.func173 rfl Tryz.ntmps173 rfl (.seq (.region (.run 1 rfl trivial (.nil (.seq (.region (.run 1 rfl trivial (.val (.extern Tryz.func201 (by kernel_rfl) (by kernel_rfl) (by kernel_rfl) (e := Extern.MathFloatBits.float64bits) (by kernel_rfl) (evs_cons (.of rfl) evs_nil) rfl) rfl (.run 1 rfl trivial (.nil (.seq (.seq (.region (.run 1 rfl trivial (.val (.andHi hb (.of rfl) (.of rfl)) rfl (.run 1 rfl trivial (.nil ?_)))))))))))))))))
 refine WC.cond rfl (fun hb8 => ?_) (fun hb8 => ?_)
 ·
  have hc8 := hb8; try simp only [Gk.cs0] at hc8
  refine .seq (.region (.run 1 rfl trivial (.val (.not64 (by omega) (.of rfl)) rfl (.run 1 rfl trivial (.nil (.ret (ret1 Tryz.results173 rfl ?_)))))))
  have e : 9223372036854775808 ≤ b := by
   rw [and_hi hb] at hc8
   split at hc8
   ·assumption
   ·simp at hc8
  exact ⟨_, rfl, by rw [keyN, if_pos e], rfl⟩
 have hc8 := hb8; try simp only [Gk.cs0] at hc8
 refine .skip (.seq (.region (.run 1 rfl trivial (.val (.orHi hb (.of rfl) (.of rfl)) rfl (.run 1 rfl trivial (.nil (.ret (ret1 Tryz.results173 rfl ?_))))))))
 have e : ¬ 9223372036854775808 ≤ b := by
  rw [and_hi hb] at hc8
  split at hc8
  ·simp at hc8
  ·assumption
 exact ⟨_, rfl, by rw [keyN, if_neg e, or_hi (by omega)], rfl⟩
theorem cmpIsNaN_any (a : Int) (w : World) :
  Calls Tryz.prog 200 [U64 a].toArray w (Ret fun v w' => v = .bool false ∧ w = w') := by
 refine calls Tryz.func200 rfl Tryz.ntmps200 rfl (.seq (.region (.run 1 rfl trivial (.nil (.seq (.region (.run 4 rfl trivial (.nil (.ret (ret1 Tryz.results200 rfl ?_))))))))))
 exact ⟨_, rfl, by simp, rfl⟩
theorem Compare_any (a b : Int) (w : World) :
  Calls Tryz.prog 172 [U64 a, U64 b].toArray w (Ret fun v w' => v = I64 (if a < b then -1 else if b < a then 1 else 0) ∧ w = w') := by
 refine calls Tryz.func172 rfl Tryz.ntmps172 rfl (.seq (.region (.run 1 rfl trivial (.nil (.seq (.region (.run 1 rfl trivial (.call Tryz.func200 rfl (evs_cons (.of rfl) evs_nil) rfl (cmpIsNaN_any _ _) ?_))))))))
 rintro _ _ ⟨rfl, rfl⟩
 refine .run 1 rfl trivial (.nil (.seq (.region (.run 1 rfl trivial (.call Tryz.func200 rfl (evs_cons (.of rfl) evs_nil) rfl (cmpIsNaN_any _ _) ?_)))))
 rintro _ _ ⟨rfl, rfl⟩
 refine .run 1 rfl trivial (.nil (.seq (.seq (.region (.run 1 rfl trivial (.nil (.condF (rfl) (.skip (.seq (.seq (.region (.run 1 rfl trivial (.nil (.condF (rfl) (.skip (.seq (.seq (.region (.run 3 rfl trivial (.nil ?_))))))))))))))))))))
 refine WC.cond rfl (fun hb16 => ?_) (fun hb16 => ?_)
 ·
  have hc16 := hb16; try simp only [Gk.cs0] at hc16
  refine .seq (.region (.run 1 rfl trivial (.nil (.ret (ret1 Tryz.results172 rfl ?_)))))
  exact ⟨_, rfl, by rw [if_pos hc16], rfl⟩
 have hc16 := hb16; try simp only [Gk.cs0] at hc16
 refine .skip (.seq (.seq (.region (.run 3 rfl trivial (.nil ?_)))))
 refine WC.cond rfl (fun hb19 => ?_) (fun hb19 => ?_)
 ·
  have hc19 := hb19; try simp only [Gk.cs0] at hc19
  refine .seq (.region (.run 1 rfl trivial (.nil (.ret (ret1 Tryz.results172 rfl ?_)))))
  exact ⟨_, rfl, by rw [if_neg (by omega), if_pos hc19], rfl⟩
 have hc19 := hb19; try simp only [Gk.cs0] at hc19
 refine .skip (.seq (.region (.run 1 rfl trivial (.nil (.ret (ret1 Tryz.results172 rfl ?_))))))
 exact ⟨_, rfl, by rw [if_neg (by omega), if_neg (by omega)], rfl⟩
end Go.Proofs.YtadhiihnnkcagaaGreatDoor
namespace Srt
set_option linter.unusedVariables false
set_option linter.unusedSimpArgs false
variable {k : Int → Nat}
def bef (k : Int → Nat) (x y : Int) : Prop := k x < k y ∨ (k x = k y ∧ x < y)
theorem bef_trans {x y z : Int} (h : bef k x y) (h2 : bef k y z) : bef k x z := by unfold bef at *; omega
theorem bef_irrefl {x : Int} : ¬ bef k x x := by unfold bef; omega
theorem bef_later {x y : Int} (h : x < y) : bef k y x ↔ k y < k x := by unfold bef; omega
theorem not_bef_later {x y : Int} (h : x < y) (h2 : ¬ k y < k x) : bef k x y := by unfold bef; omega
def cmpv (k : Int → Nat) (x y : Int) : Int := if k x < k y then -1 else if k y < k x then 1 else 0
theorem cmpv_neg {x y : Int} : cmpv k x y < 0 ↔ k x < k y := by unfold cmpv; split <;> (try split) <;> omega
abbrev So (k : Int → Nat) (l : List Int) : Prop := l.Pairwise (bef k)
def cross (A T : List Int) : Prop := ∀ a ∈ A, ∀ t ∈ T, a < t
def swp (D : List Int) (i j : Nat) : List Int := (D.set i (D.getD j 0)).set j (D.getD i 0)
theorem swp_comm {D : List Int} {i j : Nat} (h : i ≠ j) : swp D i j = swp D j i := by
 unfold swp; rw [List.set_comm _ _ h]
theorem at_app (A B : List Int) (x : Int) : (A ++ x :: B).getD A.length 0 = x := by simp [List.getD_eq_getElem?_getD]
theorem swp_eq (A M C : List Int) (p q : Int) : swp (A ++ p :: (M ++ q :: C)) A.length (A.length + 1 + M.length) = A ++ q :: (M ++ p :: C) := by
 have h1 := at_app A (M ++ q :: C) p
 have h2 : (A ++ p :: (M ++ q :: C)).getD (A.length + 1 + M.length) 0 = q := by
  have := at_app (A ++ p :: M) C q
  rw [List.length_append, List.length_cons, show A.length + (M.length + 1) = A.length + 1 + M.length by omega] at this
  simpa using this
 unfold swp
 rw [h1, h2]
 have e1 : (A ++ p :: (M ++ q :: C)).set A.length q = A ++ q :: (M ++ q :: C) := by
  rw [List.set_append_right _ _ (Nat.le_refl _), Nat.sub_self]; rfl
 rw [e1, List.set_append_right _ _ (by omega), show A.length + 1 + M.length - A.length = M.length + 1 by omega, List.set_cons_succ, List.set_append_right _ _ (Nat.le_refl _), Nat.sub_self]
 rfl
theorem swp_adj (A C : List Int) (p q : Int) : swp (A ++ p :: q :: C) A.length (A.length + 1) = A ++ q :: p :: C := by
 have := swp_eq A [] C p q
 simpa using this
theorem so_insert {U1 U2 : List Int} {x : Int} (h : So k (U1 ++ U2)) (h1 : ∀ u ∈ U1, bef k u x) (h2 : ∀ u ∈ U2, bef k x u) : So k (U1 ++ x :: U2) := by
 obtain ⟨a, b, c⟩ := List.pairwise_append.1 h
 refine List.pairwise_append.2 ⟨a, List.pairwise_cons.2 ⟨h2, b⟩, fun u hu v hv => ?_⟩
 rcases List.mem_cons.1 hv with rfl | hv
 ·exact h1 u hu
 ·exact c u hu v hv
theorem so_last {U : List Int} {p x : Int} (h : So k (U ++ [p])) (hp : bef k p x) : ∀ u ∈ U ++ [p], bef k u x := by
 intro u hu
 rcases List.mem_append.1 hu with hu | hu
 ·exact bef_trans ((List.pairwise_append.1 h).2.2 u hu p (by simp)) hp
 ·simp at hu; subst hu; exact hp
theorem so_get {V : List Int} (h : So k V) {p q : Nat} (hpq : p < q) (hq : q < V.length) : bef k (V.getD p 0) (V.getD q 0) := by
 have := List.pairwise_iff_getElem.1 h p q (by omega) hq hpq
 simpa [List.getD_eq_getElem?_getD, hq, (show p < V.length by omega)] using this
theorem getD_mem {V : List Int} {p : Nat} (h : p < V.length) : V.getD p 0 ∈ V := by
 rw [List.getD_eq_getElem?_getD, List.getElem?_eq_getElem h]; exact List.getElem_mem h
theorem mem_get {V : List Int} {v : Int} (h : v ∈ V) : ∃ p, p < V.length ∧ V.getD p 0 = v := by
 obtain ⟨p, hp, e⟩ := List.mem_iff_getElem.1 h
 exact ⟨p, hp, by rw [List.getD_eq_getElem?_getD, List.getElem?_eq_getElem hp, ← e]; rfl⟩
theorem mem_take {V : List Int} {n : Nat} {v : Int} (h : v ∈ V.take n) : ∃ p, p < n ∧ p < V.length ∧ V.getD p 0 = v := by
 obtain ⟨p, hp, e⟩ := mem_get h
 rw [List.length_take] at hp
 refine ⟨p, by omega, by omega, ?_⟩
 rw [← e]
 simp [List.getD_eq_getElem?_getD, List.getElem?_take, show p < n by omega]
theorem mem_drop {V : List Int} {n : Nat} {v : Int} (h : v ∈ V.drop n) : ∃ p, n ≤ p ∧ p < V.length ∧ V.getD p 0 = v := by
 obtain ⟨p, hp, e⟩ := mem_get h
 rw [List.length_drop] at hp
 refine ⟨n + p, by omega, by omega, ?_⟩
 rw [← e]
 simp [List.getD_eq_getElem?_getD, List.getElem?_drop]
theorem get_app1 {A B : List Int} {i : Nat} (h : i < A.length) : (A ++ B).getD i 0 = A.getD i 0 := by
 simp [List.getD_eq_getElem?_getD, List.getElem?_append, h]
theorem get_app2 {A B : List Int} {i : Nat} (h : A.length ≤ i) : (A ++ B).getD i 0 = B.getD (i - A.length) 0 := by
 simp [List.getD_eq_getElem?_getD, List.getElem?_append, Nat.not_lt.2 h]
theorem get_mid {F G E : List Int} {i : Nat} (h1 : F.length ≤ i) (h2 : i < F.length + G.length) : (F ++ (G ++ E)).getD i 0 ∈ G := by
 rw [get_app2 h1, get_app1 (by omega)]
 exact getD_mem (by omega)
theorem concat_of {U : List Int} (h : 0 < U.length) : ∃ V q, U = V ++ [q] := by
 have hne : U ≠ [] := fun e => by rw [e] at h; simp at h
 exact ⟨U.dropLast, U.getLast hne, (List.dropLast_concat_getLast hne).symm⟩
theorem cons_of {U : List Int} (h : 0 < U.length) : ∃ q V, U = q :: V := by
 cases U with
 | nil => simp at h
 | cons q V => exact ⟨q, V, rfl⟩
theorem so_key {V : List Int} (h : So k V) {p q : Nat} (hpq : p ≤ q) (hq : q < V.length) : k (V.getD p 0) ≤ k (V.getD q 0) := by
 rcases Nat.lt_or_ge p q with h1 | h1
 ·have := so_get h h1 hq
  unfold bef at this; omega
 ·rw [show p = q by omega]; exact Nat.le_refl _
theorem so_left {V : List Int} {x : Int} {i : Nat} (h : So k V) (hx : ∀ v ∈ V, x < v) (hi : i ≤ V.length) (h1 : i = 0 ∨ k (V.getD (i - 1) 0) < k x) (h2 : i = V.length ∨ ¬ k (V.getD i 0) < k x) : So k (V.take i ++ x :: V.drop i) := by
 refine so_insert (by rw [List.take_append_drop]; exact h) (fun u hu => ?_) (fun u hu => ?_)
 ·obtain ⟨p, p1, p2, rfl⟩ := mem_take hu
  rcases h1 with h1 | h1
  ·omega
  ·have := so_key h (show p ≤ i - 1 by omega) (by omega)
   exact .inl (by omega)
 ·obtain ⟨p, p1, p2, rfl⟩ := mem_drop hu
  rcases h2 with h2 | h2
  ·omega
  ·have := so_key h p1 p2
   exact not_bef_later (hx _ (getD_mem p2)) (by omega)
theorem so_right {V : List Int} {x : Int} {i : Nat} (h : So k V) (hx : ∀ v ∈ V, v < x) (hi : i ≤ V.length) (h1 : i = 0 ∨ ¬ k x < k (V.getD (i - 1) 0)) (h2 : i = V.length ∨ k x < k (V.getD i 0)) : So k (V.take i ++ x :: V.drop i) := by
 refine so_insert (by rw [List.take_append_drop]; exact h) (fun u hu => ?_) (fun u hu => ?_)
 ·obtain ⟨p, p1, p2, rfl⟩ := mem_take hu
  rcases h1 with h1 | h1
  ·omega
  ·have := so_key h (show p ≤ i - 1 by omega) (by omega)
   exact not_bef_later (hx _ (getD_mem p2)) (by omega)
 ·obtain ⟨p, p1, p2, rfl⟩ := mem_drop hu
  rcases h2 with h2 | h2
  ·omega
  ·have := so_key h p1 p2
   exact .inl (by omega)
theorem so_app {X Y : List Int} (hx : So k X) (hy : So k Y) (h : ∀ x ∈ X, ∀ y ∈ Y, bef k x y) : So k (X ++ Y) := List.pairwise_append.2 ⟨hx, hy, h⟩
theorem cross_sub {A T A' T' : List Int} (h : cross A T) (ha : ∀ x ∈ A', x ∈ A) (ht : ∀ x ∈ T', x ∈ T) : cross A' T' := fun a h1 t h2 => h a (ha a h1) t (ht t h2)
theorem split_lt {U V : List Int} (hU : So k U) (hV : So k V) (hc : cross U V) {s e : Nat} (hs : s ≤ U.length) (he : e ≤ V.length)
  (h1 : s = 0 ∨ e = V.length ∨ bef k (U.getD (s - 1) 0) (V.getD e 0)) (h2 : e = 0 ∨ s = U.length ∨ bef k (V.getD (e - 1) 0) (U.getD s 0)) :
  (∀ x ∈ U.take s ++ V.take e, ∀ y ∈ U.drop s ++ V.drop e, bef k x y) := by
 intro x hx y hy
 rcases List.mem_append.1 hx with hx | hx <;> rcases List.mem_append.1 hy with hy | hy
 ·obtain ⟨p, p1, p2, rfl⟩ := mem_take hx
  obtain ⟨q, q1, q2, rfl⟩ := mem_drop hy
  exact so_get hU (by omega) q2
 ·obtain ⟨p, p1, p2, rfl⟩ := mem_take hx
  obtain ⟨q, q1, q2, rfl⟩ := mem_drop hy
  have hb : bef k (U.getD (s - 1) 0) (V.getD e 0) := by
   rcases h1 with h | h | h
   ·omega
   ·omega
   ·exact h
  have e1 : U.getD p 0 = U.getD (s - 1) 0 ∨ bef k (U.getD p 0) (U.getD (s - 1) 0) := by
   rcases Nat.lt_or_ge p (s - 1) with h | h
   ·exact .inr (so_get hU h (by omega))
   ·exact .inl (by rw [show p = s - 1 by omega])
  have e2 : V.getD e 0 = V.getD q 0 ∨ bef k (V.getD e 0) (V.getD q 0) := by
   rcases Nat.lt_or_ge e q with h | h
   ·exact .inr (so_get hV h q2)
   ·exact .inl (by rw [show e = q by omega])
  rcases e1 with e1 | e1 <;> rcases e2 with e2 | e2
  ·rw [e1, ← e2]; exact hb
  ·rw [e1]; exact bef_trans hb e2
  ·rw [← e2]; exact bef_trans e1 hb
  ·exact bef_trans e1 (bef_trans hb e2)
 ·obtain ⟨p, p1, p2, rfl⟩ := mem_take hx
  obtain ⟨q, q1, q2, rfl⟩ := mem_drop hy
  have hb : bef k (V.getD (e - 1) 0) (U.getD s 0) := by
   rcases h2 with h | h | h
   ·omega
   ·omega
   ·exact h
  have e1 : V.getD p 0 = V.getD (e - 1) 0 ∨ bef k (V.getD p 0) (V.getD (e - 1) 0) := by
   rcases Nat.lt_or_ge p (e - 1) with h | h
   ·exact .inr (so_get hV h (by omega))
   ·exact .inl (by rw [show p = e - 1 by omega])
  have e2 : U.getD s 0 = U.getD q 0 ∨ bef k (U.getD s 0) (U.getD q 0) := by
   rcases Nat.lt_or_ge s q with h | h
   ·exact .inr (so_get hU h q2)
   ·exact .inl (by rw [show s = q by omega])
  rcases e1 with e1 | e1 <;> rcases e2 with e2 | e2
  ·rw [e1, ← e2]; exact hb
  ·rw [e1]; exact bef_trans hb e2
  ·rw [← e2]; exact bef_trans e1 hb
  ·exact bef_trans e1 (bef_trans hb e2)
 ·obtain ⟨p, p1, p2, rfl⟩ := mem_take hx
  obtain ⟨q, q1, q2, rfl⟩ := mem_drop hy
  exact so_get hV (by omega) q2
theorem so_unique : ∀ {X Y : List Int}, So k X → So k Y → X.Perm Y → X = Y
 | [], Y, _, _, h => (List.nil_perm.1 h).symm
 | x :: X, [], _, _, h => by have := h.length_eq; simp at this
 | x :: X, y :: Y, hx, hy, h => by
  obtain ⟨hx1, hx2⟩ := List.pairwise_cons.1 hx
  obtain ⟨hy1, hy2⟩ := List.pairwise_cons.1 hy
  have e : x = y := by
   apply Classical.byContradiction
   intro hne
   have m1 : x ∈ Y := by
    rcases List.mem_cons.1 (h.mem_iff.1 (List.mem_cons_self : x ∈ x :: X)) with h | h
    ·exact absurd h hne
    ·exact h
   have m2 : y ∈ X := by
    rcases List.mem_cons.1 (h.mem_iff.2 (List.mem_cons_self : y ∈ y :: Y)) with h | h
    ·exact absurd h.symm hne
    ·exact h
   exact bef_irrefl (bef_trans (hx1 y m2) (hy1 x m1))
  subst e
  rw [so_unique hx2 hy2 (List.Perm.cons_inv h)]
inductive Full (k : Int → Nat) (s : Nat) : List Int → Prop
 | nil : Full k s []
 | cons {U T : List Int} : U.length = s → So k U → cross U T → Full k s T → Full k s (U ++ T)
theorem Full.append {s : Nat} {A B : List Int} (ha : Full k s A) (hb : Full k s B) (hc : cross A B) : Full k s (A ++ B) := by
 induction ha with
 | nil => simpa using hb
 | cons h1 h2 h3 h4 ih =>
  rename_i U T
  rw [List.append_assoc]
  refine .cons h1 h2 (fun a ha t ht => ?_) (ih (cross_sub hc (fun x hx => List.mem_append_right _ hx) (fun x hx => hx)))
  rcases List.mem_append.1 ht with ht | ht
  ·exact h3 a ha t ht
  ·exact hc a (List.mem_append_left _ ha) t ht
theorem Full.one {s : Nat} {U : List Int} (h : U.length = s) (hs : So k U) : Full k s U := by
 have := Full.cons (T := []) h hs (fun _ _ _ h => by cases h) .nil
 simpa using this
def Runs (k : Int → Nat) (s : Nat) (D : List Int) : Prop := ∃ A U, D = A ++ U ∧ Full k s A ∧ U.length < s ∧ So k U ∧ cross A U
theorem Runs.sorted {s : Nat} {D : List Int} (h : Runs k s D) (hl : D.length ≤ s) (h0 : 0 < s) : So k D := by
 obtain ⟨A, U, rfl, hA, hU, hs, hc⟩ := h
 cases hA with
 | nil => simpa using hs
 | cons h1 h2 h3 h4 =>
  rename_i V T
  simp only [List.length_append] at hl
  have hU0 : U = [] := List.eq_nil_of_length_eq_zero (by omega)
  have hT0 : T = [] := List.eq_nil_of_length_eq_zero (by omega)
  subst hU0; subst hT0
  simpa using h2
theorem Full.two {s : Nat} {A : List Int} (h : Full k s A) (hl : s < A.length) : ∃ U V T, A = U ++ (V ++ T) ∧ U.length = s ∧ V.length = s ∧ So k U ∧ So k V ∧ cross U V ∧ cross U T ∧ cross V T ∧ Full k s T := by
 cases h with
 | nil => simp at hl
 | cons h1 h2 h3 h4 =>
  rename_i U T
  cases h4 with
  | nil => simp at hl; omega
  | cons g1 g2 g3 g4 =>
   rename_i V T
   exact ⟨U, V, T, rfl, h1, g1, h2, g2, cross_sub h3 (fun _ h => h) (fun _ h => List.mem_append_left _ h), cross_sub h3 (fun _ h => h) (fun _ h => List.mem_append_right _ h), g3, g4⟩
theorem Full.few {s : Nat} {A : List Int} (h : Full k s A) (hl : A.length < 2 * s) : A = [] ∨ (A.length = s ∧ So k A) := by
 cases h with
 | nil => exact .inl rfl
 | cons h1 h2 h3 h4 =>
  rename_i U T
  cases h4 with
  | nil => exact .inr ⟨by simpa using h1, by simpa using h2⟩
  | cons g1 g2 g3 g4 => simp only [List.length_append] at hl; omega
theorem cross_perm {A T M : List Int} (h : cross A T) (hp : M.Perm A) : cross M T := fun a ha => h a (hp.mem_iff.1 ha)
theorem cross_permr {A T M : List Int} (h : cross A T) (hp : M.Perm T) : cross A M := fun a ha t ht => h a ha t (hp.mem_iff.1 ht)
theorem cross_app {A B T : List Int} (h : cross A T) (h2 : cross B T) : cross (A ++ B) T := fun a ha t ht => by
 rcases List.mem_append.1 ha with ha | ha
 ·exact h a ha t ht
 ·exact h2 a ha t ht
theorem cross_appr {A B T : List Int} (h : cross A B) (h2 : cross A T) : cross A (B ++ T) := fun a ha t ht => by
 rcases List.mem_append.1 ht with ht | ht
 ·exact h a ha t ht
 ·exact h2 a ha t ht
def upto : Nat → List Int
 | 0 => []
 | n + 1 => upto n ++ [(n : Int)]
theorem upto_len : ∀ n, (upto n).length = n
 | 0 => rfl
 | n + 1 => by rw [upto, List.length_append, upto_len n]; rfl
theorem upto_mem : ∀ {n : Nat} {x : Int}, x ∈ upto n ↔ 0 ≤ x ∧ x < n
 | 0, x => by simp [upto] <;> omega
 | n + 1, x => by
  rw [upto, List.mem_append, upto_mem]
  simp
  omega
theorem upto_lt : ∀ n, (upto n).Pairwise (· < ·)
 | 0 => .nil
 | n + 1 => by
  rw [upto]
  refine List.pairwise_append.2 ⟨upto_lt n, by simp, fun a ha b hb => ?_⟩
  simp at hb
  have := upto_mem.1 ha
  omega
def Ord (k : Int → Nat) (n : Nat) (D : List Int) : Prop := So k D ∧ D.Perm (upto n)
theorem Ord.unique {n : Nat} {D D' : List Int} (h : Ord k n D) (h' : Ord k n D') : D = D' := so_unique h.1 h'.1 (h.2.trans h'.2.symm)
theorem Ord.len {n : Nat} {D : List Int} (h : Ord k n D) : D.length = n := by rw [h.2.length_eq, upto_len]
instance (k : Int → Nat) (x y : Int) : Decidable (bef k x y) := by unfold bef; infer_instance
structure Sel (k : Int → Nat) (n : Nat) (us : List Bool) (Os T : List Int) : Prop where
 len : us.length = n
 perm : (Os ++ T).Perm (upto n)
 so : So k Os
 before : ∀ o ∈ Os, ∀ t ∈ T, bef k o t
 used : ∀ o ∈ Os, us.getD o.toNat false = true
 free : ∀ t ∈ T, us.getD t.toNat false = false
def Best (k : Int → Nat) (T : List Int) (i : Nat) (b : Int) : Prop := (b = -1 ∧ ∀ t ∈ T, (i : Int) ≤ t) ∨ (b ∈ T ∧ b < i ∧ ∀ t ∈ T, t < i → t = b ∨ bef k b t)
theorem Sel.mem {n : Nat} {us : List Bool} {Os T : List Int} (h : Sel k n us Os T) {t : Int} (ht : t ∈ T) : 0 ≤ t ∧ t < n := upto_mem.1 (h.perm.mem_iff.1 (List.mem_append_right _ ht))
theorem Sel.lens {n : Nat} {us : List Bool} {Os T : List Int} (h : Sel k n us Os T) : Os.length + T.length = n := by
 have := h.perm.length_eq
 rw [List.length_append, upto_len] at this
 exact this
theorem Best.lt {T : List Int} {i : Nat} {b : Int} (h : Best k T i b) : b < i := by
 rcases h with ⟨h, _⟩ | ⟨_, h, _⟩ <;> omega
theorem Best.is {T : List Int} {i : Nat} {b : Int} (h : Best k T i b) (h0 : ¬ b < 0) : b ∈ T := by
 rcases h with ⟨h, _⟩ | ⟨h, _⟩
 ·omega
 ·exact h
theorem Best.take {n : Nat} {us : List Bool} {Os T : List Int} (h : Sel k n us Os T) {i : Nat} {b : Int} (hb : Best k T i b) (hi : i < n) (hu : us.getD i false = false) (hc : b < 0 ∨ k i < k b) : Best k T (i + 1) i := by
 have hiT : (i : Int) ∈ T := by
  rcases List.mem_append.1 (h.perm.mem_iff.2 (upto_mem.2 ⟨by omega, by omega⟩ : (i : Int) ∈ upto n)) with h1 | h1
  ·have := h.used _ h1
   rw [Int.toNat_natCast, hu] at this; cases this
  ·exact h1
 refine .inr ⟨hiT, by omega, fun t ht hti => ?_⟩
 rcases Int.lt_or_le t i with h1 | h1
 ·right
  rcases hb with ⟨_, h2⟩ | ⟨h2, h3, h4⟩
  ·have := h2 t ht; omega
  ·have hk : k i < k b := by
    rcases hc with hc | hc
    ·have := h.mem h2; omega
    ·exact hc
   rcases h4 t ht h1 with rfl | h5
   ·exact .inl hk
   ·exact bef_trans (.inl hk) h5
 ·left; omega
theorem Best.keep {n : Nat} {us : List Bool} {Os T : List Int} (h : Sel k n us Os T) {i : Nat} {b : Int} (hb : Best k T i b) (hc : us.getD i false = true ∨ (¬ b < 0 ∧ ¬ k i < k b)) : Best k T (i + 1) b := by
 rcases hb with ⟨h1, h2⟩ | ⟨h2, h3, h4⟩
 ·refine .inl ⟨h1, fun t ht => ?_⟩
  have h5 := h2 t ht
  rcases Int.lt_or_le i t with h6 | h6
  ·omega
  ·have e : t = i := by omega
   rcases hc with hc | hc
   ·have := h.free t ht
    rw [e, Int.toNat_natCast, hc] at this; cases this
   ·omega
 ·refine .inr ⟨h2, by omega, fun t ht hti => ?_⟩
  rcases Int.lt_or_le t i with h6 | h6
  ·exact h4 t ht h6
  ·have e : t = i := by omega
   rcases hc with hc | hc
   ·have := h.free t ht
    rw [e, Int.toNat_natCast, hc] at this; cases this
   ·right
    subst e
    unfold bef; omega
theorem Sel.step {n : Nat} {us : List Bool} {Os T : List Int} (h : Sel k n us Os T) {b : Int} (hb : Best k T n b) (hT : 0 < T.length) : 0 ≤ b ∧ b < n ∧ Sel k n (us.set b.toNat true) (Os ++ [b]) (T.erase b) := by
 obtain ⟨t0, ht0⟩ : ∃ t, t ∈ T := by cases T with | nil => simp at hT | cons t T => exact ⟨t, List.mem_cons_self⟩
 have h0 := h.mem ht0
 obtain ⟨h2, h3, h4⟩ : b ∈ T ∧ b < n ∧ ∀ t ∈ T, t < n → t = b ∨ bef k b t := by
  rcases hb with ⟨_, h2⟩ | h2
  ·have := h2 t0 ht0; omega
  ·exact h2
 have hb0 := h.mem h2
 have hp : T.Perm (b :: T.erase b) := List.perm_cons_erase h2
 have hPn : (Os ++ (b :: T.erase b)).Perm (upto n) := (List.Perm.append_left Os hp.symm).trans h.perm
 have hnd : (Os ++ (b :: T.erase b)).Nodup := hPn.nodup_iff.2 ((upto_lt n).imp fun h => by omega)
 have hd2 := (List.nodup_append.1 hnd).2.1
 have hnb : b ∉ T.erase b := (List.nodup_cons.1 hd2).1
 have hnO : b ∉ Os := fun ho => (List.nodup_append.1 hnd).2.2 b ho b List.mem_cons_self rfl
 have sub : ∀ t, t ∈ T.erase b → t ∈ T := fun t ht => List.mem_of_mem_erase ht
 refine ⟨hb0.1, h3, by simpa using h.len, by simpa using hPn, ?_, ?_, ?_, ?_⟩
 ·refine List.pairwise_append.2 ⟨h.so, by simp, fun o ho x hx => ?_⟩
  simp at hx; subst hx
  exact h.before o ho _ h2
 ·intro o ho t ht
  rcases List.mem_append.1 ho with ho | ho
  ·exact h.before o ho t (sub t ht)
  ·simp at ho; subst ho
   have hm := h.mem (sub t ht)
   rcases h4 t (sub t ht) (by omega) with e | e
   ·subst e; exact absurd ht hnb
   ·exact e
 ·intro o ho
  rcases List.mem_append.1 ho with ho | ho
  ·have := h.used o ho
   have hne : ¬ b.toNat = o.toNat := fun e => by
    have hm : 0 ≤ o := (upto_mem.1 (h.perm.mem_iff.1 (List.mem_append_left _ ho))).1
    have : b = o := by omega
    subst this; exact hnO ho
   simpa [List.getD_eq_getElem?_getD, List.getElem?_set, hne] using this
  ·simp at ho; subst ho
   have hl : o.toNat < us.length := by rw [h.len]; omega
   simp [List.getD_eq_getElem?_getD, List.getElem?_set, hl]
 ·intro t ht
  have := h.free t (sub t ht)
  have hne : ¬ b.toNat = t.toNat := fun e => by
   have hm := h.mem (sub t ht)
   have : b = t := by omega
   subst this; exact hnb ht
  simpa [List.getD_eq_getElem?_getD, List.getElem?_set, hne] using this
theorem Sel.done {n : Nat} {us : List Bool} {Os T : List Int} (h : Sel k n us Os T) (hl : n ≤ Os.length) : Ord k n Os := by
 have := h.lens
 have hT : T = [] := List.eq_nil_of_length_eq_zero (by omega)
 subst hT
 exact ⟨h.so, by simpa using h.perm⟩
end Srt
namespace Go.Proofs.YtadhiihnnkcagaaGreatDoor
open Gk Rk
set_option linter.unusedVariables false
set_option linter.unusedSimpArgs false
structure Cx (I : Im) (l : List Nat) (p : Addr) : Prop where
 ex : ∃ a c, At I p [.slice a l.length c] ∧ RS I a 1 l.length (l.map F64)
 small : ∀ v ∈ l, v < 18446744073709551616
def kx (l : List Nat) (x : Int) : Nat := keyN (l.getD x.toNat 0)
theorem Cx.mono {I J : Im} {l : List Nat} {p : Addr} (h : Cx I l p) (hl : Le I J) : Cx J l p := by
 obtain ⟨⟨a, c, h1, h2⟩, h3⟩ := h
 exact ⟨⟨a, c, h1.mono hl, h2.mono hl⟩, h3⟩
theorem small_get {l : List Nat} (h : ∀ v ∈ l, v < 18446744073709551616) (i : Nat) : l.getD i 0 < 18446744073709551616 := by
 by_cases hi : i < l.length
 ·refine h _ ?_
  rw [List.getD_eq_getElem?_getD, List.getElem?_eq_getElem hi]
  exact List.getElem_mem hi
 ·rw [List.getD_eq_getElem?_getD, List.getElem?_eq_none (by omega)]; decide
abbrev CF (p : Addr) : Value := .func (.func 171) #[] [.pointer (some p)].toArray
theorem cmp_any {l : List Nat} {p : Addr} {I : Im} (h : Cx I l p) (x y : Int) (h0 : 0 ≤ x) (h1 : x < (l.length : Int)) (g0 : 0 ≤ y) (g1 : y < (l.length : Int)) (B w : World) (As : List Assn) (hS : Sat B w I As) :
  Calls Tryz.prog 171 [I64 x, I64 y, .pointer (some p)].toArray w (Ret fun v w' => v = I64 (Srt.cmpv (kx l) x y) ∧ Sat B w' I As) := by
 obtain ⟨sa, sc, hp, hr⟩ := h.ex
 obtain ⟨pa, rfl, ha⟩ := hr.2 (by omega)
 refine calls Tryz.func171 rfl Tryz.ntmps171 rfl (.seq (.region (.run 1 rfl trivial (.nil (.seq (.quiet (by kernel_rfl) (by kernel_rfl) hS (.val (fun w hS => .ldI (.of rfl) hS hp Tryz.isAgg192 rfl) rfl (.val (fun w hS => (.move (.of rfl))) rfl (.val (fun w hS => (.indexAddrI (.of rfl) (.of rfl) (by omega) (by omega) Tryz.underlying192 Tryz.sizeOf32)) rfl (.val (fun w hS => .ldEI F64 l 0 (i := x) (.of rfl) hS ha rfl Tryz.isAgg32 h0 h1) rfl (.call Tryz.func173 rfl (evs_cons (.of rfl) evs_nil) rfl (fun w hS => quiet_of (Key_any _ (small_get h.small (x).toNat) w) hS) (.val (fun w hS => .ldI (.of rfl) hS hp Tryz.isAgg192 rfl) rfl (.val (fun w hS => (.move (.of rfl))) rfl (.val (fun w hS => (.indexAddrI (.of rfl) (.of rfl) (by omega) (by omega) Tryz.underlying192 Tryz.sizeOf32)) rfl (.val (fun w hS => .ldEI F64 l 0 (i := y) (.of rfl) hS ha rfl Tryz.isAgg32 g0 g1) rfl (.call Tryz.func173 rfl (evs_cons (.of rfl) evs_nil) rfl (fun w hS => quiet_of (Key_any _ (small_get h.small (y).toNat) w) hS) (.call Tryz.func172 rfl (evs_cons (.of rfl) (evs_cons (.of rfl) evs_nil)) rfl (fun w hS => quiet_of (Compare_any _ _ w) hS) (.val (fun w hS => (.assign (.of rfl))) rfl (.nil ?_)))))))))))))))))))
 clear hS; intro w hS
 refine .ret (ret1 Tryz.results171 rfl ?_)
 refine ⟨_, rfl, ?_, hS⟩
 unfold Srt.cmpv kx
 simp only [Int.ofNat_lt]
theorem swapRange_any (U X M Y C : List Int) (hl : X.length = Y.length) (cv : Value) (b0 n c : Nat) (r : List Value) (hn : ((U.length + (X.length + (M.length + Y.length)) : Nat) : Int) ≤ n) (hb : (U.length + (X.length + (M.length + (Y.length + C.length)))) ≤ 1000000) (B w : World) (I : Im) (As : List Assn) (hS : Sat B w I (blk b0 ((U ++ (X ++ (M ++ (Y ++ C)))).map I64 ++ r) 3 :: As)) :
  Calls Tryz.prog 243 [.slice (some (ad b0 0)) n c, I64 (U.length : Nat), I64 (U.length + Y.length + M.length : Nat), I64 (Y.length : Nat), cv].toArray w (Ret fun v w' => v = .tuple #[] ∧ Sat B w' I (blk b0 ((U ++ (Y ++ (M ++ (X ++ C)))).map I64 ++ r) 3 :: As)) := by
 refine calls Tryz.func243 rfl Tryz.ntmps243 rfl (.seq (.region (.run 1 rfl trivial (.nil (.block (.loop (σ := Int × List Int × List Int × List Int × List Int) (fun ⟨i, X1, X2, Y1, Y2⟩ => [(0, .slice (some (ad b0 0)) n c), (1, I64 (U.length : Nat)), (2, I64 (U.length + Y.length + M.length : Nat)), (3, I64 (Y.length : Nat)), (10, I64 i)]) (fun ⟨i, X1, X2, Y1, Y2⟩ w => i = (X1.length : Int) ∧ X1.length = Y1.length ∧ X1 ++ X2 = X ∧ Y1 ++ Y2 = Y ∧ Sat B w I (blk b0 ((U ++ (Y1 ++ (X2 ++ (M ++ (X1 ++ (Y2 ++ C)))))).map I64 ++ r) 3 :: As)) (fun ⟨i, X1, X2, Y1, Y2⟩ => Y2.length) (0, [], X, [], Y) ⟨rfl, rfl, rfl, rfl, rfl, trivial⟩ ⟨rfl, rfl, rfl, rfl, hS⟩ ?_))))))
 rintro ⟨i, X1, X2, Y1, Y2⟩ w ⟨hi, hxy, hX, hY, hS⟩
 change WC _ _ _ _ [(0, .slice (some (ad b0 0)) n c), (1, I64 (U.length : Nat)), (2, I64 (U.length + Y.length + M.length : Nat)), (3, I64 (Y.length : Nat)), (10, I64 i)] w
 have hXl : X1.length + X2.length = X.length := by rw [← hX, List.length_append]
 have hYl : Y1.length + Y2.length = Y.length := by rw [← hY, List.length_append]
 obtain ⟨D, hD⟩ : ∃ D, D = U ++ (Y1 ++ (X2 ++ (M ++ (X1 ++ (Y2 ++ C))))) := ⟨_, rfl⟩
 rw [← hD] at hS
 have hDl : D.length = U.length + (X.length + (M.length + (Y.length + C.length))) := by rw [hD]; simp only [List.length_append]; omega
 refine .seq (.seq (.region (.run 3 rfl trivial (.nil ?_))))
 refine WC.cond rfl (fun hb13 => ?_) (fun hb13 => ?_)
 ·
  have hc13 := hb13; try simp only [Gk.cs0] at hc13
  refine .skip (.seq (.block (.drawn (fun w => ∃ R, Sat B w I (blk b0 ((D).map I64 ++ r) 3 :: R)) (fun j => !([21, 23].contains j)) (by kernel_rfl) ?_)))
  replace hS := hS.drew; generalize w.drew = w at hS ⊢
  have hH : ∃ R, Sat B w I (blk b0 ((D).map I64 ++ r) 3 :: R) := ⟨_, (hS.pick 0 rfl)⟩
  refine .takeP (i := 0) rfl (by kernel_rfl) (by kernel_rfl) (by kernel_rfl) (fun w => (.move (.of rfl))) rfl (.takeP (i := 1) rfl (by kernel_rfl) (by kernel_rfl) (by kernel_rfl) (fun w => (.move (.of rfl))) rfl (.takeP (i := 2) rfl (by kernel_rfl) (by kernel_rfl) (by kernel_rfl) (fun w => (.move (.of rfl))) rfl (.takeP (i := 3) rfl (by kernel_rfl) (by kernel_rfl) (by kernel_rfl) (fun w => (.add (.of rfl) (.of rfl) ⟨by omega, by omega⟩)) rfl (.takeP (i := 4) rfl (by kernel_rfl) (by kernel_rfl) (by kernel_rfl) (fun w => (.move (.of rfl))) rfl (.takeP (i := 5) rfl (by kernel_rfl) (by kernel_rfl) (by kernel_rfl) (fun w => (.move (.of rfl))) rfl (.takeP (i := 6) rfl (by kernel_rfl) (by kernel_rfl) (by kernel_rfl) (fun w => (.move (.of rfl))) rfl (.takeP (i := 7) rfl (by kernel_rfl) (by kernel_rfl) (by kernel_rfl) (fun w => (.add (.of rfl) (.of rfl) ⟨by omega, by omega⟩)) rfl (.takeP (i := 8) rfl (by kernel_rfl) (by kernel_rfl) (by kernel_rfl) (fun w => (.move (.of rfl))) rfl (.takeP (i := 9) rfl (by kernel_rfl) (by kernel_rfl) (by kernel_rfl) (fun w => (.move (.of rfl))) rfl (.takeP (i := 10) rfl (by kernel_rfl) (by kernel_rfl) (by kernel_rfl) (fun w => (.move (.of rfl))) rfl (.takeP (i := 11) rfl (by kernel_rfl) (by kernel_rfl) (by kernel_rfl) (fun w => (.add (.of rfl) (.of rfl) ⟨by omega, by omega⟩)) rfl (.takeP (i := 12) rfl (by kernel_rfl) (by kernel_rfl) (by kernel_rfl) (fun w => (.indexAddr (.of rfl) (.of rfl) (by omega) (by omega) Tryz.underlying195 Tryz.sizeOf3)) rfl (.take (i := 13) rfl (by kernel_rfl) (by kernel_rfl) (by kernel_rfl) (by kernel_rfl) hH (fun w ⟨R, hS⟩ => .ldE I64 D 0 r (i := ((U.length + Y.length + M.length : Nat) : Int) + i) (.of rfl) hS (k := 0) rfl rfl Tryz.isAgg3 (by omega) (by omega)) rfl (.takeP (i := 14) rfl (by kernel_rfl) (by kernel_rfl) (by kernel_rfl) (fun w => (.move (.of rfl))) rfl (.takeP (i := 15) rfl (by kernel_rfl) (by kernel_rfl) (by kernel_rfl) (fun w => (.move (.of rfl))) rfl (.takeP (i := 16) rfl (by kernel_rfl) (by kernel_rfl) (by kernel_rfl) (fun w => (.move (.of rfl))) rfl (.takeP (i := 17) rfl (by kernel_rfl) (by kernel_rfl) (by kernel_rfl) (fun w => (.add (.of rfl) (.of rfl) ⟨by omega, by omega⟩)) rfl (.takeP (i := 18) rfl (by kernel_rfl) (by kernel_rfl) (by kernel_rfl) (fun w => (.indexAddr (.of rfl) (.of rfl) (by omega) (by omega) Tryz.underlying195 Tryz.sizeOf3)) rfl (.take (i := 19) rfl (by kernel_rfl) (by kernel_rfl) (by kernel_rfl) (by kernel_rfl) hH (fun w ⟨R, hS⟩ => .ldE I64 D 0 r (i := ((U.length : Nat) : Int) + i) (.of rfl) hS (k := 0) rfl rfl Tryz.isAgg3 (by omega) (by omega)) rfl (.takeP (i := 20) rfl (by kernel_rfl) (by kernel_rfl) (by kernel_rfl) (fun w => (.indexAddr (.of rfl) (.of rfl) (by omega) (by omega) Tryz.underlying195 Tryz.sizeOf3)) rfl ?_))))))))))))))))))))
  refine WD.branch [21] (by kernel_rfl) rfl (WO.cons rfl ?_ (WO.nil))
  refine WL.stE I64 _ r hS (k := 0) rfl (.of rfl) (.of rfl) rfl rfl Tryz.sizeOf3 (by omega) (by (try rw [List.length_set]); omega) ?_
  clear hS; intro w hS; dsimp only [List.set] at hS
  refine .nil ?_
  refine And.intro (by intro h; cases h) ?_
  refine .takeP (i := 22) rfl (by kernel_rfl) (by kernel_rfl) (by kernel_rfl) (fun w => (.indexAddr (.of rfl) (.of rfl) (by omega) (by omega) Tryz.underlying195 Tryz.sizeOf3)) rfl ?_
  refine WD.branch [23] (by kernel_rfl) rfl (WO.cons rfl ?_ (WO.nil))
  refine WL.stE I64 _ r hS (k := 0) rfl (.of rfl) (.of rfl) rfl rfl Tryz.sizeOf3 (by omega) (by (try rw [List.length_set]); omega) ?_
  clear hS; intro w hS; dsimp only [List.set] at hS
  refine .nil ?_
  refine And.intro (by intro h; cases h) ?_
  refine .done (by kernel_rfl) (.region (.run 3 rfl ⟨⟨by omega, by omega⟩, trivial⟩ (.nil ?_)))
  obtain ⟨p, X3, rfl⟩ : ∃ p X3, X2 = p :: X3 := by cases X2 with | nil => simp at hXl; omega | cons p X3 => exact ⟨p, X3, rfl⟩
  obtain ⟨q, Y3, rfl⟩ : ∃ q Y3, Y2 = q :: Y3 := by cases Y2 with | nil => simp at hYl; omega | cons q Y3 => exact ⟨q, Y3, rfl⟩
  have e := Srt.swp_eq (U ++ Y1) (X3 ++ (M ++ X1)) (Y3 ++ C) p q
  have e1 : D = (U ++ Y1) ++ p :: ((X3 ++ (M ++ X1)) ++ q :: (Y3 ++ C)) := by rw [hD]; simp only [List.append_assoc, List.cons_append]
  simp only [List.length_cons] at hXl hYl
  rw [← e1, show (U ++ Y1).length = (((U.length : Nat) : Int) + i).toNat by rw [List.length_append]; omega, show (((U.length : Nat) : Int) + i).toNat + 1 + (X3 ++ (M ++ X1)).length = (((U.length + Y.length + M.length : Nat) : Int) + i).toNat by simp only [List.length_append]; omega] at e
  unfold Srt.swp at e
  rw [e] at hS
  refine ⟨(i + 1, X1 ++ [p], X3, Y1 ++ [q], Y3), ⟨rfl, rfl, rfl, rfl, rfl, trivial⟩, ⟨by simp only [List.length_append, List.length_cons, List.length_nil]; omega, by simp only [List.length_append, List.length_cons, List.length_nil]; omega, by rw [← hX]; simp, by rw [← hY]; simp, ?_⟩, by simp⟩
  have e2 : (U ++ Y1) ++ q :: ((X3 ++ (M ++ X1)) ++ p :: (Y3 ++ C)) = U ++ ((Y1 ++ [q]) ++ (X3 ++ (M ++ ((X1 ++ [p]) ++ (Y3 ++ C))))) := by simp only [List.append_assoc, List.cons_append, List.nil_append]
  rw [← e2]; exact hS
 have hc13 := hb13; try simp only [Gk.cs0] at hc13
 refine .exit (end0 Tryz.results243 ?_)
 have hY2 : Y2 = [] := List.eq_nil_of_length_eq_zero (by omega)
 have hX2 : X2 = [] := List.eq_nil_of_length_eq_zero (by omega)
 subst hY2; subst hX2
 rw [List.append_nil] at hX hY
 rw [hX, hY] at hD
 rw [hD] at hS
 exact ⟨_, rfl, rfl, hS⟩
theorem swapRange_at (U X M Y C : List Int) (hl : X.length = Y.length) (cv : Value) (b0 n c : Nat) (r : List Value) (ia ib ic : Int) (ha : ia = U.length) (hib : ib = U.length + Y.length + M.length) (hic : ic = Y.length) (hn : ((U.length + (X.length + (M.length + Y.length)) : Nat) : Int) ≤ n) (hb : (U.length + (X.length + (M.length + (Y.length + C.length)))) ≤ 1000000) (B w : World) (I : Im) (As : List Assn) (hS : Sat B w I (blk b0 ((U ++ (X ++ (M ++ (Y ++ C)))).map I64 ++ r) 3 :: As)) :
  Calls Tryz.prog 243 [.slice (some (ad b0 0)) n c, I64 ia, I64 ib, I64 ic, cv].toArray w (Ret fun v w' => v = .tuple #[] ∧ Sat B w' I (blk b0 ((U ++ (Y ++ (M ++ (X ++ C)))).map I64 ++ r) 3 :: As)) := by
 subst ha; subst hic
 obtain rfl : ib = ((U.length + Y.length + M.length : Nat) : Int) := by omega
 exact swapRange_any U X M Y C hl cv b0 n c r hn hb B w I As hS
end Go.Proofs.YtadhiihnnkcagaaGreatDoor
namespace Go.Proofs.YtadhiihnnkcagaaGreatDoor
open Gk Rk
set_option linter.unusedVariables false
set_option linter.unusedSimpArgs false
set_option maxHeartbeats 400000 in
theorem ins_any {l : List Nat} {p : Addr} {I : Im} (hx : Cx I l p) (F R C : List Int) (hR : R.Pairwise (· < ·)) (hin : ∀ x ∈ R, 0 ≤ x ∧ x < (l.length : Int)) (b0 n c : Nat) (r : List Value) (ib : Int) (hib : ib = F.length + R.length) (hn : ib ≤ n) (hbb : F.length + R.length + C.length ≤ 1000000) (B w : World) (As : List Assn) (hS : Sat B w I (blk b0 ((F ++ (R ++ C)).map I64 ++ r) 3 :: As)) :
  Calls Tryz.prog 218 [.slice (some (ad b0 0)) n c, I64 (F.length : Nat), I64 ib, CF p].toArray w (Ret fun v w' => v = .tuple #[] ∧ ∃ M, M.Perm R ∧ Srt.So (kx l) M ∧ Sat B w' I (blk b0 ((F ++ (M ++ C)).map I64 ++ r) 3 :: As)) := by
 refine calls Tryz.func218 rfl Tryz.ntmps218 rfl (.seq (.region (.run 3 rfl ⟨⟨by omega, by omega⟩, trivial⟩ (.nil (.block ?_)))))
 have hst : (F.length : Int) + 1 = max ((F.length : Int) + (R.take 1).length) (F.length + 1) ∧ (R.take 1 = [] → R.drop 1 = []) ∧ Srt.So (kx l) (R.take 1) ∧ Srt.cross (R.take 1) (R.drop 1) ∧ (R.drop 1).Pairwise (· < ·) ∧ (R.take 1 ++ R.drop 1).Perm R ∧ Sat B w I (blk b0 ((F ++ (R.take 1 ++ (R.drop 1 ++ C))).map I64 ++ r) 3 :: As) := by
  refine ⟨?_, ?_, ?_, ?_, ?_, by rw [List.take_append_drop], ?_⟩
  ·cases R <;> simp <;> omega
  ·intro h; cases R with
   | nil => rfl
   | cons a R => simp at h
  ·cases R with
   | nil => exact .nil
   | cons a R => simp
  ·cases R with
   | nil => intro _ h; simp at h
   | cons a R => intro u hu t ht; simp at hu ht; subst hu; exact (List.pairwise_cons.1 hR).1 t ht
  ·exact hR.sublist (List.drop_sublist 1 R)
  ·have e : F ++ (R.take 1 ++ (R.drop 1 ++ C)) = F ++ (R ++ C) := by rw [← List.append_assoc (R.take 1), List.take_append_drop]
   rw [e]; exact hS
 refine .loop (σ := Int × List Int × List Int) (fun ⟨i, M, T⟩ => [(0, .slice (some (ad b0 0)) n c), (1, I64 (F.length : Nat)), (2, I64 ib), (3, CF p), (8, I64 i)]) (fun ⟨i, M, T⟩ w => i = max ((F.length : Int) + M.length) (F.length + 1) ∧ (M = [] → T = []) ∧ Srt.So (kx l) M ∧ Srt.cross M T ∧ T.Pairwise (· < ·) ∧ (M ++ T).Perm R ∧ Sat B w I (blk b0 ((F ++ (M ++ (T ++ C))).map I64 ++ r) 3 :: As)) (fun ⟨i, M, T⟩ => T.length) ((F.length : Int) + 1, R.take 1, R.drop 1) ⟨rfl, rfl, rfl, rfl, rfl, trivial⟩ hst ?_
 rintro ⟨i, M, T⟩ w ⟨hi, hMT, hM, hc, hT, hP, hS⟩
 change WC _ _ _ _ [(0, .slice (some (ad b0 0)) n c), (1, I64 (F.length : Nat)), (2, I64 ib), (3, CF p), (8, I64 i)] w
 have hPl := hP.length_eq
 rw [List.length_append] at hPl
 refine .seq (.seq (.region (.run 3 rfl trivial (.nil ?_))))
 refine WC.cond rfl (fun hb14 => ?_) (fun hb14 => ?_)
 ·
  have hc14 := hb14; try simp only [Gk.cs0] at hc14
  refine .skip (.seq (.block (.seq ?_)))
  have hMn : 0 < M.length := by
   rcases Nat.eq_zero_or_pos M.length with h | h
   ·have h2 := hMT (List.eq_nil_of_length_eq_zero h); rw [h2] at hPl; simp at hPl; omega
   ·exact h
  obtain ⟨x, T, rfl⟩ := Srt.cons_of (U := T) (by omega)
  simp only [List.length_cons] at hPl
  refine .region (.run 2 rfl trivial (.nil (.block ?_)))
  refine WC.loop (σ := Int × List Int × List Int) (fun ⟨j, U1, U2⟩ => [(0, .slice (some (ad b0 0)) n c), (1, I64 (F.length : Nat)), (2, I64 ib), (3, CF p), (8, I64 i), (9, I64 j)]) (fun ⟨j, U1, U2⟩ w => j = (F.length : Int) + U1.length ∧ Srt.So (kx l) (U1 ++ U2) ∧ (∀ u ∈ U2, Srt.bef (kx l) x u) ∧ (U1 ++ U2).Perm M ∧ Sat B w I (blk b0 ((F ++ (U1 ++ x :: (U2 ++ (T ++ C)))).map I64 ++ r) 3 :: As)) (fun ⟨j, U1, U2⟩ => U1.length) (i, M, []) ⟨rfl, rfl, rfl, rfl, rfl, rfl, trivial⟩ ⟨by (try dsimp only); omega, by rw [List.append_nil]; exact hM, (fun _ h => by cases h), by rw [List.append_nil], hS⟩ ?_
  rintro ⟨j, U1, U2⟩ w ⟨hj, hs, hb2, hp2, hS⟩
  change WC _ _ _ _ [(0, .slice (some (ad b0 0)) n c), (1, I64 (F.length : Nat)), (2, I64 ib), (3, CF p), (8, I64 i), (9, I64 j)] w
  obtain ⟨D, hD⟩ : ∃ D, D = F ++ (U1 ++ x :: (U2 ++ (T ++ C))) := ⟨_, rfl⟩
  rw [← hD] at hS
  have hp3 := hp2.length_eq
  rw [List.length_append] at hp3
  have hDl : D.length = F.length + (U1.length + 1 + U2.length + (T.length + C.length)) := by rw [hD]; simp only [List.length_append, List.length_cons]; omega
  have hinR : ∀ v ∈ U1 ++ x :: U2, 0 ≤ v ∧ v < (l.length : Int) := fun v hv => by
   refine hin v (hP.mem_iff.1 ?_)
   rcases List.mem_append.1 hv with h | h
   ·exact List.mem_append_left _ (hp2.mem_iff.1 (List.mem_append_left _ h))
   ·rcases List.mem_cons.1 h with rfl | h
    ·exact List.mem_append_right _ List.mem_cons_self
    ·exact List.mem_append_left _ (hp2.mem_iff.1 (List.mem_append_right _ h))
  have hin2 : ∀ q : Nat, F.length ≤ q → q < F.length + (U1.length + 1 + U2.length) → 0 ≤ D.getD q 0 ∧ D.getD q 0 < (l.length : Int) := fun q h1 h2 => by
   refine hinR _ ?_
   have e : D = F ++ ((U1 ++ x :: U2) ++ (T ++ C)) := by rw [hD]; simp only [List.append_assoc, List.cons_append]
   rw [e]
   exact Srt.get_mid h1 (by simp only [List.length_append, List.length_cons]; omega)
  have hx1 : D.getD j.toNat 0 = x := by
   have := Srt.at_app (F ++ U1) (U2 ++ (T ++ C)) x
   rw [show (F ++ U1).length = j.toNat by rw [List.length_append]; omega] at this
   rw [hD, ← List.append_assoc]
   exact this
  have hlt : ∀ u ∈ U1 ++ U2, u < x := fun u hu => hc u (hp2.mem_iff.1 hu) x List.mem_cons_self
  refine .seq (.seq (.quiet (by kernel_rfl) (by kernel_rfl) hS (.val (fun w hS => (.move (.of rfl))) rfl (.val (fun w hS => (.move (.of rfl))) rfl (.val (fun w hS => (.gtr (.of rfl) (.of rfl))) rfl (.val (fun w hS => (.move (.of rfl))) rfl (.gval rfl rfl rfl (fun hg1 w hS => (.move (.of rfl))) rfl (.gval rfl rfl rfl (fun hg1 w hS => (.move (.of rfl))) rfl (.gval rfl rfl rfl (fun hg1 w hS => (.move (.of rfl))) rfl ?_)))))))))
  refine WQ.gval rfl rfl rfl (fun hg1 w hS => (.indexAddr (.gd hg1 rfl) (.gd hg1 rfl) (by (try simp only [Gk.cs0] at hg1); omega) (by (try simp only [Gk.cs0] at hg1); omega) Tryz.underlying195 Tryz.sizeOf3)) rfl ?_
  refine WQ.gval rfl rfl rfl (fun hg1 w hS => .ldE I64 D 0 r (i := j) (.gd hg1 rfl) hS (k := 0) rfl rfl Tryz.isAgg3 (by (try simp only [Gk.cs0] at hg1); omega) (by (try simp only [Gk.cs0] at hg1); omega)) rfl ?_
  refine .gval rfl rfl rfl (fun hg1 w hS => (.move (.of rfl))) rfl (.gval rfl rfl rfl (fun hg1 w hS => (.move (.of rfl))) rfl (.gval rfl rfl rfl (fun hg1 w hS => (.sub (.gd hg1 rfl) (.of rfl) ⟨by omega, by omega⟩)) rfl ?_))
  refine WQ.gval rfl rfl rfl (fun hg1 w hS => (.indexAddr (.gd hg1 rfl) (.gd hg1 rfl) (by (try simp only [Gk.cs0] at hg1); omega) (by (try simp only [Gk.cs0] at hg1); omega) Tryz.underlying195 Tryz.sizeOf3)) rfl ?_
  refine WQ.gval rfl rfl rfl (fun hg1 w hS => .ldE I64 D 0 r (i := j - 1) (.gd hg1 rfl) hS (k := 0) rfl rfl Tryz.isAgg3 (by (try simp only [Gk.cs0] at hg1); omega) (by (try simp only [Gk.cs0] at hg1); omega)) rfl ?_
  refine WQ.gvcall rfl rfl rfl Tryz.func171 rfl (fun hg1 => .gd hg1 rfl) (fun hg1 => evs_cons (.gd hg1 rfl) (evs_cons (.gd hg1 rfl) evs_nil)) rfl (fun hg1 w hS => by have hj1 := hin2 j.toNat (by (try simp only [Gk.cs0] at hg1); omega) (by (try simp only [Gk.cs0] at hg1); omega); have hj2 := hin2 (j - 1).toNat (by (try simp only [Gk.cs0] at hg1); omega) (by (try simp only [Gk.cs0] at hg1); omega); exact cmp_any hx _ _ hj1.1 hj1.2 hj2.1 hj2.2 B w _ hS) ?_
  refine .gval rfl rfl rfl (fun hg1 w hS => (.lss (.gd hg1 rfl) (.of rfl))) rfl (.val (fun w hS => (.pand (.of rfl) (.of rfl) (.of rfl))) rfl (.nil ?_))
  clear hS; intro w hS
  refine WC.cond rfl (fun hb34 => ?_) (fun hb34 => ?_)
  ·
   have hc34 := hb34; try simp only [Gk.cs0] at hc34
   refine .skip (.seq (.block (.drawn (fun w => ∃ R, Sat B w I (blk b0 ((D).map I64 ++ r) 3 :: R)) (fun j => !([15, 17].contains j)) (by kernel_rfl) ?_)))
   replace hS := hS.drew; generalize w.drew = w at hS ⊢
   have hH : ∃ R, Sat B w I (blk b0 ((D).map I64 ++ r) 3 :: R) := ⟨_, (hS.pick 0 rfl)⟩
   refine .takeP (i := 0) rfl (by kernel_rfl) (by kernel_rfl) (by kernel_rfl) (fun w => (.move (.of rfl))) rfl (.takeP (i := 1) rfl (by kernel_rfl) (by kernel_rfl) (by kernel_rfl) (fun w => (.move (.of rfl))) rfl (.takeP (i := 2) rfl (by kernel_rfl) (by kernel_rfl) (by kernel_rfl) (fun w => (.move (.of rfl))) rfl (.takeP (i := 3) rfl (by kernel_rfl) (by kernel_rfl) (by kernel_rfl) (fun w => (.move (.of rfl))) rfl (.takeP (i := 4) rfl (by kernel_rfl) (by kernel_rfl) (by kernel_rfl) (fun w => (.sub (.of rfl) (.of rfl) ⟨by omega, by omega⟩)) rfl (.takeP (i := 5) rfl (by kernel_rfl) (by kernel_rfl) (by kernel_rfl) (fun w => (.move (.of rfl))) rfl (.takeP (i := 6) rfl (by kernel_rfl) (by kernel_rfl) (by kernel_rfl) (fun w => (.move (.of rfl))) rfl (.takeP (i := 7) rfl (by kernel_rfl) (by kernel_rfl) (by kernel_rfl) (fun w => (.sub (.of rfl) (.of rfl) ⟨by omega, by omega⟩)) rfl (.takeP (i := 8) rfl (by kernel_rfl) (by kernel_rfl) (by kernel_rfl) (fun w => (.indexAddr (.of rfl) (.of rfl) (by omega) (by omega) Tryz.underlying195 Tryz.sizeOf3)) rfl (.take (i := 9) rfl (by kernel_rfl) (by kernel_rfl) (by kernel_rfl) (by kernel_rfl) hH (fun w ⟨R, hS⟩ => .ldE I64 D 0 r (i := j - 1) (.of rfl) hS (k := 0) rfl rfl Tryz.isAgg3 (by omega) (by omega)) rfl (.takeP (i := 10) rfl (by kernel_rfl) (by kernel_rfl) (by kernel_rfl) (fun w => (.move (.of rfl))) rfl (.takeP (i := 11) rfl (by kernel_rfl) (by kernel_rfl) (by kernel_rfl) (fun w => (.move (.of rfl))) rfl (.takeP (i := 12) rfl (by kernel_rfl) (by kernel_rfl) (by kernel_rfl) (fun w => (.indexAddr (.of rfl) (.of rfl) (by omega) (by omega) Tryz.underlying195 Tryz.sizeOf3)) rfl (.take (i := 13) rfl (by kernel_rfl) (by kernel_rfl) (by kernel_rfl) (by kernel_rfl) hH (fun w ⟨R, hS⟩ => .ldE I64 D 0 r (i := j) (.of rfl) hS (k := 0) rfl rfl Tryz.isAgg3 (by omega) (by omega)) rfl (.takeP (i := 14) rfl (by kernel_rfl) (by kernel_rfl) (by kernel_rfl) (fun w => (.indexAddr (.of rfl) (.of rfl) (by omega) (by omega) Tryz.underlying195 Tryz.sizeOf3)) rfl ?_))))))))))))))
   refine WD.branch [15] (by kernel_rfl) rfl (WO.cons rfl ?_ (WO.nil))
   refine WL.stE I64 _ r hS (k := 0) rfl (.of rfl) (.of rfl) rfl rfl Tryz.sizeOf3 (by omega) (by (try rw [List.length_set]); omega) ?_
   clear hS; intro w hS; dsimp only [List.set] at hS
   refine .nil ?_
   refine And.intro (by intro h; cases h) ?_
   refine .takeP (i := 16) rfl (by kernel_rfl) (by kernel_rfl) (by kernel_rfl) (fun w => (.indexAddr (.of rfl) (.of rfl) (by omega) (by omega) Tryz.underlying195 Tryz.sizeOf3)) rfl ?_
   refine WD.branch [17] (by kernel_rfl) rfl (WO.cons rfl ?_ (WO.nil))
   refine WL.stE I64 _ r hS (k := 0) rfl (.of rfl) (.of rfl) rfl rfl Tryz.sizeOf3 (by omega) (by (try rw [List.length_set]); omega) ?_
   clear hS; intro w hS; dsimp only [List.set] at hS
   refine .nil ?_
   refine And.intro (by intro h; cases h) ?_
   refine .done (by kernel_rfl) (.region (.run 3 rfl ⟨⟨by omega, by omega⟩, trivial⟩ (.nil ?_)))
   obtain ⟨U3, q, rfl⟩ := Srt.concat_of (U := U1) (by omega)
   have e1 : D = (F ++ U3) ++ q :: x :: (U2 ++ (T ++ C)) := by rw [hD]; simp only [List.append_assoc, List.cons_append, List.nil_append]
   have hq : D.getD (j - 1).toNat 0 = q := by
    have := Srt.at_app (F ++ U3) (x :: (U2 ++ (T ++ C))) q
    rw [show (F ++ U3).length = (j - 1).toNat by rw [List.length_append]; simp only [List.length_append, List.length_cons, List.length_nil] at hj; omega] at this
    rw [e1]; exact this
   have hbq : Srt.bef (kx l) x q := by
    have h := Srt.cmpv_neg.1 hc34.2
    rw [hx1, hq] at h
    exact (Srt.bef_later (hlt q (by simp))).2 h
   have e := Srt.swp_adj (F ++ U3) (U2 ++ (T ++ C)) q x
   rw [← e1, show (F ++ U3).length = (j - 1).toNat by rw [List.length_append]; simp only [List.length_append, List.length_cons, List.length_nil] at hj; omega, show (j - 1).toNat + 1 = j.toNat by omega, Srt.swp_comm (by omega)] at e
   unfold Srt.swp at e
   rw [e] at hS
   refine ⟨(j - 1, U3, q :: U2), ⟨rfl, rfl, rfl, rfl, rfl, rfl, trivial⟩, ⟨by simp only [List.length_append, List.length_cons, List.length_nil] at hj; (try dsimp only); omega, by simpa using hs, ?_, by simpa using hp2, ?_⟩, by simp⟩
   ·intro u hu
    rcases List.mem_cons.1 hu with rfl | hu
    ·exact hbq
    ·exact hb2 u hu
   ·rw [List.append_assoc] at hS; exact hS
  have hc34 := hb34; try simp only [Gk.cs0] at hc34
  refine .exit (.region (.run 3 rfl ⟨⟨by omega, by omega⟩, trivial⟩ (.nil ?_)))
  have hLQ : ∀ u ∈ U1, Srt.bef (kx l) u x := by
   intro u hu
   obtain ⟨U3, q, rfl⟩ := Srt.concat_of (U := U1) (List.length_pos_of_mem hu)
   have e1 : D = (F ++ U3) ++ q :: x :: (U2 ++ (T ++ C)) := by rw [hD]; simp only [List.append_assoc, List.cons_append, List.nil_append]
   have hq : D.getD (j - 1).toNat 0 = q := by
    have := Srt.at_app (F ++ U3) (x :: (U2 ++ (T ++ C))) q
    rw [show (F ++ U3).length = (j - 1).toNat by rw [List.length_append]; simp only [List.length_append, List.length_cons, List.length_nil] at hj; omega] at this
    rw [e1]; exact this
   simp only [List.length_append, List.length_cons, List.length_nil] at hj
   have h34 : ¬ (Srt.cmpv (kx l) (D.getD j.toNat 0) (D.getD (j - 1).toNat 0) < 0) := by
    rcases hc34 with h | h
    ·omega
    ·omega
   rw [Srt.cmpv_neg, hx1, hq] at h34
   exact Srt.so_last (List.pairwise_append.1 hs).1 (Srt.not_bef_later (hlt q (by simp)) h34) u hu
  have hU : Srt.So (kx l) (U1 ++ x :: U2) := Srt.so_insert hs (hLQ) hb2
  refine ⟨(i + 1, U1 ++ x :: U2, T), ⟨rfl, rfl, rfl, rfl, rfl, trivial⟩, ⟨by simp only [List.length_append, List.length_cons]; have := hp2.length_eq; rw [List.length_append] at this; omega, fun h => by simp at h, hU, ?_, (List.pairwise_cons.1 hT).2, ?_, ?_⟩, by simp⟩
  ·intro u hu t ht
   have h1 : u ∈ U1 ++ U2 ∨ u = x := by
    rcases List.mem_append.1 hu with h | h
    ·exact .inl (List.mem_append_left _ h)
    ·rcases List.mem_cons.1 h with h | h
     ·exact .inr h
     ·exact .inl (List.mem_append_right _ h)
   rcases h1 with h1 | rfl
   ·exact hc u (hp2.mem_iff.1 h1) t (List.mem_cons_of_mem _ ht)
   ·exact (List.pairwise_cons.1 hT).1 t ht
  ·refine List.Perm.trans ?_ hP
   refine List.Perm.trans (List.Perm.append_right T List.perm_middle) ?_
   rw [List.cons_append]
   refine List.Perm.trans (List.Perm.cons x (hp2.append_right T)) ?_
   exact List.perm_middle.symm
  ·rw [hD] at hS
   have e : F ++ (U1 ++ x :: (U2 ++ (T ++ C))) = F ++ ((U1 ++ x :: U2) ++ (T ++ C)) := by simp only [List.append_assoc, List.cons_append]
   rw [e] at hS; exact hS
 have hc14 := hb14; try simp only [Gk.cs0] at hc14
 refine .exit (end0 Tryz.results218 ?_)
 have hT0 : T = [] := by
  refine List.eq_nil_of_length_eq_zero ?_
  rcases Nat.eq_zero_or_pos M.length with h | h
  ·have := hMT (List.eq_nil_of_length_eq_zero h); rw [this]; rfl
  ·omega
 subst hT0
 rw [List.append_nil] at hP
 exact ⟨_, rfl, rfl, M, hP, hM, by simpa using hS⟩
theorem ins_at {l : List Nat} {p : Addr} {I : Im} (hx : Cx I l p) (F R C : List Int) (hR : R.Pairwise (· < ·)) (hin : ∀ x ∈ R, 0 ≤ x ∧ x < (l.length : Int)) (b0 n c : Nat) (r : List Value) (ia ib : Int) (hia : ia = F.length) (hib : ib = F.length + R.length) (hn : ib ≤ n) (hbb : F.length + R.length + C.length ≤ 1000000) (B w : World) (As : List Assn) (hS : Sat B w I (blk b0 ((F ++ (R ++ C)).map I64 ++ r) 3 :: As)) :
  Calls Tryz.prog 218 [.slice (some (ad b0 0)) n c, I64 ia, I64 ib, CF p].toArray w (Ret fun v w' => v = .tuple #[] ∧ ∃ M, M.Perm R ∧ Srt.So (kx l) M ∧ Sat B w' I (blk b0 ((F ++ (M ++ C)).map I64 ++ r) 3 :: As)) := by
 subst hia
 exact ins_any hx F R C hR hin b0 n c r ib hib hn hbb B w As hS
end Go.Proofs.YtadhiihnnkcagaaGreatDoor
namespace Go.Proofs.YtadhiihnnkcagaaGreatDoor
open Gk Rk
set_option linter.unusedVariables false
set_option linter.unusedSimpArgs false
theorem rot_any (F X Y C : List Int) (hX0 : 0 < X.length) (hY0 : 0 < Y.length) (cv : Value) (b0 n c : Nat) (r : List Value) (ia im ib : Int) (hia : ia = F.length) (him : im = F.length + X.length) (hib : ib = F.length + X.length + Y.length) (hn : ib ≤ n) (hbb : F.length + (X.length + (Y.length + C.length)) ≤ 1000000) (B w : World) (I : Im) (As : List Assn) (hS : Sat B w I (blk b0 ((F ++ (X ++ (Y ++ C))).map I64 ++ r) 3 :: As)) :
  Calls Tryz.prog 232 [.slice (some (ad b0 0)) n c, I64 ia, I64 im, I64 ib, cv].toArray w (Ret fun v w' => v = .tuple #[] ∧ Sat B w' I (blk b0 ((F ++ (Y ++ (X ++ C))).map I64 ++ r) 3 :: As)) := by
 refine calls Tryz.func232 rfl Tryz.ntmps232 rfl (.seq (.region (.run 4 rfl ⟨⟨by omega, by omega⟩, trivial⟩ (.nil (.seq (.region (.run 4 rfl ⟨⟨by omega, by omega⟩, trivial⟩ (.nil (.seq (.block ?_))))))))))
 refine WC.loop (σ := Int × Int × List Int × List Int × List Int × List Int) (fun ⟨i, j, F1, X1, Y1, C1⟩ => [(0, .slice (some (ad b0 0)) n c), (2, I64 im), (4, cv), (10, I64 i), (11, I64 j)]) (fun ⟨i, j, F1, X1, Y1, C1⟩ w => F1 ++ (Y1 ++ (X1 ++ C1)) = F ++ (Y ++ (X ++ C)) ∧ i = X1.length ∧ j = Y1.length ∧ 0 < X1.length ∧ 0 < Y1.length ∧ F1.length + X1.length = F.length + X.length ∧ X1.length + Y1.length ≤ X.length + Y.length ∧ Y1.length ≤ Y.length ∧ Sat B w I (blk b0 ((F1 ++ (X1 ++ (Y1 ++ C1))).map I64 ++ r) 3 :: As)) (fun ⟨i, j, F1, X1, Y1, C1⟩ => X1.length + Y1.length) (im - ia, ib - im, F, X, Y, C) ⟨rfl, rfl, rfl, rfl, rfl, trivial⟩ ⟨rfl, by (try dsimp only); omega, by (try dsimp only); omega, hX0, hY0, rfl, Nat.le_refl _, Nat.le_refl _, hS⟩ ?_
 rintro ⟨i, j, F1, X1, Y1, C1⟩ w ⟨hG, hi, hj, hx0, hy0, hFX, hXY, hYY, hS⟩
 change WC _ _ _ _ [(0, .slice (some (ad b0 0)) n c), (2, I64 im), (4, cv), (10, I64 i), (11, I64 j)] w
 have hGl := congrArg List.length hG
 simp only [List.length_append] at hGl
 refine .seq (.seq (.region (.run 3 rfl trivial (.nil ?_))))
 refine WC.cond rfl (fun hb20 => ?_) (fun hb20 => ?_)
 ·
  have hc20 := hb20; try simp only [Gk.cs0] at hc20
  refine .skip (.block (.seq (.region (.run 3 rfl trivial (.nil ?_)))))
  refine WC.cond rfl (fun hb23 => ?_) (fun hb23 => ?_)
  ·
   have hc23 := hb23; try simp only [Gk.cs0] at hc23
   refine .seq (.region (.run 7 rfl ⟨⟨by omega, by omega⟩, trivial⟩ ?_))
   obtain ⟨Xa, Xb, rfl, hXa⟩ : ∃ Xa Xb, X1 = Xa ++ Xb ∧ Xa.length = Y1.length := ⟨X1.take Y1.length, X1.drop Y1.length, (List.take_append_drop _ _).symm, by rw [List.length_take]; omega⟩
   simp only [List.length_append] at hi hx0 hFX hXY hGl
   rw [List.append_assoc] at hS
   refine .call Tryz.func243 rfl (evs_cons (.of rfl) (evs_cons (.of rfl) (evs_cons (.of rfl) (evs_cons (.of rfl) (evs_cons (.of rfl) evs_nil))))) rfl (swapRange_at F1 Xa Xb Y1 C1 (by omega) cv b0 n c r _ _ _ (by omega) (by omega) (by omega) (by omega) (by omega) B w I As hS) ?_
   clear hS
   rintro _ w ⟨rfl, hS⟩
   refine .nil (.region (.run 4 rfl ⟨⟨by omega, by omega⟩, trivial⟩ (.nil ?_)))
   refine ⟨(i - j, j, F1 ++ Y1, Xb, Xa, C1), ⟨rfl, rfl, rfl, rfl, rfl, trivial⟩, ⟨by rw [← hG]; simp only [List.append_assoc], by (try dsimp only); omega, by (try dsimp only); omega, by omega, by omega, by simp only [List.length_append]; omega, by omega, by omega, ?_⟩, by (try dsimp only); simp only [List.length_append]; omega⟩
   rw [List.append_assoc]; exact hS
  have hc23 := hb23; try simp only [Gk.cs0] at hc23
  refine .seq (.region (.run 11 rfl ⟨⟨by omega, by omega⟩, ⟨by omega, by omega⟩, ⟨by omega, by omega⟩, trivial⟩ ?_))
  obtain ⟨Ya, Yb, rfl, hYb⟩ : ∃ Ya Yb, Y1 = Ya ++ Yb ∧ Yb.length = X1.length := ⟨Y1.take (Y1.length - X1.length), Y1.drop (Y1.length - X1.length), (List.take_append_drop _ _).symm, by rw [List.length_drop]; omega⟩
  simp only [List.length_append] at hj hy0 hXY hGl hYY
  rw [List.append_assoc Ya] at hS
  refine .call Tryz.func243 rfl (evs_cons (.of rfl) (evs_cons (.of rfl) (evs_cons (.of rfl) (evs_cons (.of rfl) (evs_cons (.of rfl) evs_nil))))) rfl (swapRange_at F1 X1 Ya Yb C1 (by omega) cv b0 n c r _ _ _ (by omega) (by omega) (by omega) (by omega) (by omega) B w I As hS) ?_
  clear hS
  rintro _ w ⟨rfl, hS⟩
  refine .nil (.region (.run 4 rfl ⟨⟨by omega, by omega⟩, trivial⟩ (.nil ?_)))
  refine ⟨(i, j - i, F1, Yb, Ya, X1 ++ C1), ⟨rfl, rfl, rfl, rfl, rfl, trivial⟩, ⟨by rw [← hG]; simp only [List.append_assoc], by (try dsimp only); omega, by (try dsimp only); omega, by omega, by omega, by omega, by omega, by omega, hS⟩, by (try dsimp only); simp only [List.length_append]; omega⟩
 have hc20 := hb20; try simp only [Gk.cs0] at hc20
 refine .exit (.region (.run 7 rfl ⟨⟨by omega, by omega⟩, trivial⟩ ?_))
 refine WL.call Tryz.func243 rfl (evs_cons (.of rfl) (evs_cons (.of rfl) (evs_cons (.of rfl) (evs_cons (.of rfl) (evs_cons (.of rfl) evs_nil))))) rfl (swapRange_at F1 X1 [] Y1 C1 (by omega) cv b0 n c r _ _ _ (by omega) (by simp only [List.length_nil]; omega) (by omega) (by simp only [List.length_nil]; omega) (by simp only [List.length_nil]; omega) B w I As hS) ?_
 clear hS
 rintro _ w ⟨rfl, hS⟩
 refine .nil (end0 Tryz.results232 ?_)
 rw [List.nil_append, hG] at hS
 exact ⟨_, rfl, rfl, hS⟩
set_option maxHeartbeats 1000000 in
theorem sym_any {l : List Nat} {p : Addr} {I : Im} (hx : Cx I l p) : ∀ (N : Nat) (F U V C : List Int), Srt.So (kx l) U → Srt.So (kx l) V → Srt.cross U V → (∀ x ∈ U ++ V, 0 ≤ x ∧ x < (l.length : Int)) → 0 < U.length → 0 < V.length → U.length + V.length ≤ N →
  ∀ (b0 n c : Nat) (r : List Value) (ia im ib : Int), ia = F.length → im = F.length + U.length → ib = F.length + U.length + V.length → ib ≤ n → F.length + (U.length + (V.length + C.length)) ≤ 1000000 → ∀ (B w : World) (As : List Assn), Sat B w I (blk b0 ((F ++ (U ++ (V ++ C))).map I64 ++ r) 3 :: As) →
  Calls Tryz.prog 219 [.slice (some (ad b0 0)) n c, I64 ia, I64 im, I64 ib, CF p].toArray w (Ret fun v w' => v = .tuple #[] ∧ ∃ M, M.Perm (U ++ V) ∧ Srt.So (kx l) M ∧ Sat B w' I (blk b0 ((F ++ (M ++ C)).map I64 ++ r) 3 :: As)) := by
 intro N
 induction N with
 | zero => intros; omega
 | succ N ih =>
  intro F U V C hU hV hc hin hU0 hV0 hN b0 n c r ia im ib hia him hib hn hbb B w As hS
  refine calls Tryz.func219 rfl Tryz.ntmps219 rfl (.seq (.seq ?_))
  have hUV : ∀ v ∈ U ++ V, 0 ≤ v ∧ v < (l.length : Int) := hin
  obtain ⟨D, hD⟩ : ∃ D, D = F ++ (U ++ (V ++ C)) := ⟨_, rfl⟩
  rw [← hD] at hS
  have hDl : D.length = F.length + (U.length + (V.length + C.length)) := by rw [hD]; simp only [List.length_append]
  have hin2 : ∀ q : Nat, F.length ≤ q → q < F.length + (U.length + V.length) → 0 ≤ D.getD q 0 ∧ D.getD q 0 < (l.length : Int) := fun q h1 h2 => by
   refine hUV _ ?_
   have e : D = F ++ ((U ++ V) ++ C) := by rw [hD]; simp only [List.append_assoc]
   rw [e]
   exact Srt.get_mid h1 (by rw [List.length_append]; exact h2)
  have hDU : ∀ q : Nat, q < U.length → D.getD (F.length + q) 0 = U.getD q 0 := fun q hq => by
   rw [hD, Srt.get_app2 (by omega), show F.length + q - F.length = q by omega, Srt.get_app1 hq]
  have hDV : ∀ q : Nat, q < V.length → D.getD (F.length + U.length + q) 0 = V.getD q 0 := fun q hq => by
   rw [hD, Srt.get_app2 (by omega), Srt.get_app2 (by omega), show F.length + U.length + q - F.length - U.length = q by omega, Srt.get_app1 hq]
  refine .region (.run 4 rfl ⟨⟨by omega, by omega⟩, trivial⟩ (.nil ?_))
  refine WC.cond rfl (fun hb28 => ?_) (fun hb28 => ?_)
  ·
   have hc28 := hb28; try simp only [Gk.cs0] at hc28
   refine .seq ?_
   obtain ⟨x, U0, rfl⟩ := Srt.cons_of hU0
   obtain rfl : U0 = [] := List.eq_nil_of_length_eq_zero (by simp only [List.length_cons] at him; omega)
   have hDx : D.getD ia.toNat 0 = x := by have := hDU 0 (by simp); rw [show ia.toNat = F.length + 0 by omega]; simpa using this
   simp only [List.length_cons, List.length_nil] at him hib hbb hDl hin2 hDV
   refine .region (.run 2 rfl trivial (.nil (.seq (.region (.run 2 rfl trivial (.nil (.seq (.block ?_))))))))
   refine WC.loop (σ := Int × Int) (fun ⟨i, j⟩ => [(0, .slice (some (ad b0 0)) n c), (1, I64 ia), (2, I64 im), (3, I64 ib), (4, CF p), (10, I64 i), (11, I64 j)]) (fun ⟨i, j⟩ w => im ≤ i ∧ i ≤ j ∧ j ≤ ib ∧ (i = im ∨ kx l (D.getD (i - 1).toNat 0) < kx l x) ∧ (j = ib ∨ ¬ kx l (D.getD j.toNat 0) < kx l x) ∧ Sat B w I (blk b0 ((D).map I64 ++ r) 3 :: As)) (fun ⟨i, j⟩ => (j - i).toNat) (im, ib) ⟨rfl, rfl, rfl, rfl, rfl, rfl, rfl, trivial⟩ ⟨Int.le_refl _, by (try dsimp only); omega, Int.le_refl _, .inl rfl, .inl rfl, hS⟩ ?_
   rintro ⟨i, j⟩ w ⟨hi1, hij, hj1, hb1, hb2, hS⟩
   change WC _ _ _ _ [(0, .slice (some (ad b0 0)) n c), (1, I64 ia), (2, I64 im), (3, I64 ib), (4, CF p), (10, I64 i), (11, I64 j)] w
   refine .seq (.seq (.region (.run 3 rfl trivial (.nil ?_))))
   refine WC.cond rfl (fun hb33 => ?_) (fun hb33 => ?_)
   ·
    have hc33 := hb33; try simp only [Gk.cs0] at hc33
    refine .skip (.block (.seq (.region (.run 3 rfl ⟨⟨by omega, by omega⟩, trivial⟩ ?_))))
    refine WL.val (.cvi (.of rfl) Tryz.underlying3 Tryz.underlying238 (by rw [IntKind.wrap_u64]; omega)) rfl ?_
    refine .val (.shr1 (.of rfl) (.of rfl) (by decide)) rfl ?_
    refine WL.val (.cvi (.of rfl) Tryz.underlying238 Tryz.underlying3 (by rw [IntKind.wrap_i64]; omega)) rfl ?_
    refine .run 1 rfl trivial (.nil (.seq (.quiet (by kernel_rfl) (by kernel_rfl) hS (.val (fun w hS => (.move (.of rfl))) rfl (.val (fun w hS => (.move (.of rfl))) rfl (.val (fun w hS => (.move (.of rfl))) rfl (.val (fun w hS => (.indexAddr (.of rfl) (.of rfl) (by omega) (by omega) Tryz.underlying195 Tryz.sizeOf3)) rfl (.val (fun w hS => .ldE I64 D 0 r (i := ((i + j) / 2)) (.of rfl) hS (k := 0) rfl rfl Tryz.isAgg3 (by omega) (by omega)) rfl (.val (fun w hS => (.move (.of rfl))) rfl (.val (fun w hS => (.move (.of rfl))) rfl (.val (fun w hS => (.indexAddr (.of rfl) (.of rfl) (by omega) (by omega) Tryz.underlying195 Tryz.sizeOf3)) rfl (.val (fun w hS => .ldE I64 D 0 r (i := ia) (.of rfl) hS (k := 0) rfl rfl Tryz.isAgg3 (by omega) (by omega)) rfl ?_))))))))))))
    refine WQ.vcall Tryz.func171 rfl (.of rfl) (evs_cons (.of rfl) (evs_cons (.of rfl) evs_nil)) rfl (fun w hS => by have hj1 := hin2 (((i + j) / 2)).toNat (by omega) (by omega); have hj2 := hin2 (ia).toNat (by omega) (by omega); exact cmp_any hx _ _ hj1.1 hj1.2 hj2.1 hj2.2 B w _ hS) ?_
    refine .val (fun w hS => (.lss (.of rfl) (.of rfl))) rfl (.nil ?_)
    clear hS; intro w hS
    refine WC.cond rfl (fun hb50 => ?_) (fun hb50 => ?_)
    ·
     have hc50 := hb50; try simp only [Gk.cs0] at hc50
     refine .region (.run 3 rfl ⟨⟨by omega, by omega⟩, trivial⟩ (.nil ?_))
     have h9 := Srt.cmpv_neg.1 hc50
     rw [hDx] at h9
     exact ⟨((i + j) / 2 + 1, j), ⟨rfl, rfl, rfl, rfl, rfl, rfl, rfl, trivial⟩, ⟨by (try dsimp only); omega, by (try dsimp only); omega, hj1, .inr (by (try dsimp only); rw [show (i + j) / 2 + 1 - 1 = (i + j) / 2 by omega]; exact h9), hb2, hS⟩, by (try dsimp only); omega⟩
    have hc50 := hb50; try simp only [Gk.cs0] at hc50
    refine .region (.run 2 rfl trivial (.nil ?_))
    have h9 : ¬ _ := fun h => (Int.not_lt.2 hc50) (Srt.cmpv_neg.2 h)
    rw [hDx] at h9
    exact ⟨(i, (i + j) / 2), ⟨rfl, rfl, rfl, rfl, rfl, rfl, rfl, trivial⟩, ⟨hi1, by (try dsimp only); omega, by (try dsimp only); omega, hb1, .inr h9, hS⟩, by (try dsimp only); omega⟩
   have hc33 := hb33; try simp only [Gk.cs0] at hc33
   refine .exit (.seq (.seq ?_))
   have hij : i = j := by omega
   subst hij
   have hiV : (i - im).toNat ≤ V.length := by omega
   have hso : Srt.So (kx l) (V.take (i - im).toNat ++ x :: V.drop (i - im).toNat) := by
    refine Srt.so_left hV (fun v hv => hc x (by simp) v hv) hiV ?_ ?_
    ·by_cases hz : i = im
     ·exact .inl (by omega)
     ·refine .inr ?_
      have h := hb1.resolve_left hz
      rw [← hDV ((i - im).toNat - 1) (by omega), show F.length + (0 + 1) + ((i - im).toNat - 1) = (i - 1).toNat by omega]
      exact h
    ·by_cases hz : i = ib
     ·exact .inl (by omega)
     ·refine .inr ?_
      have h := hb2.resolve_left hz
      rw [← hDV (i - im).toNat (by omega), show F.length + (0 + 1) + (i - im).toNat = i.toNat by omega]
      exact h
   obtain ⟨Va, Vb, hVab, hVal, hso2⟩ : ∃ Va Vb, V = Va ++ Vb ∧ (Va.length : Int) = i - im ∧ Srt.So (kx l) (Va ++ x :: Vb) := ⟨_, _, (List.take_append_drop (i - im).toNat V).symm, by rw [List.length_take]; omega, hso⟩
   refine .region (.run 2 rfl trivial (.nil (.block ?_)))
   refine WC.loop (σ := Int × List Int × List Int) (fun ⟨k, Vc, Vd⟩ => [(0, .slice (some (ad b0 0)) n c), (10, I64 i), (13, I64 k)]) (fun ⟨k, Vc, Vd⟩ w => k = (F.length : Int) + Vc.length ∧ Vc ++ Vd = Va ∧ Sat B w I (blk b0 ((F ++ (Vc ++ x :: (Vd ++ (Vb ++ C)))).map I64 ++ r) 3 :: As)) (fun ⟨k, Vc, Vd⟩ => Vd.length) (ia, [], Va) ⟨rfl, rfl, rfl, trivial⟩ ⟨by simp only [List.length_nil]; omega, rfl, by rw [hD, hVab] at hS; simpa using hS⟩ ?_
   rintro ⟨k, Vc, Vd⟩ w ⟨hk, hcd, hS⟩
   change WC _ _ _ _ [(0, .slice (some (ad b0 0)) n c), (10, I64 i), (13, I64 k)] w
   have hcl := congrArg List.length hcd
   rw [List.length_append] at hcl
   have hVl := congrArg List.length hVab
   rw [List.length_append] at hVl
   obtain ⟨E, hE⟩ : ∃ E, E = F ++ (Vc ++ x :: (Vd ++ (Vb ++ C))) := ⟨_, rfl⟩
   rw [← hE] at hS
   have hEl : E.length = F.length + (Vc.length + 1 + Vd.length + (Vb.length + C.length)) := by rw [hE]; simp only [List.length_append, List.length_cons]; omega
   refine .seq (.seq (.region (.run 4 rfl ⟨⟨by omega, by omega⟩, trivial⟩ (.nil ?_))))
   refine WC.cond rfl (fun hb58 => ?_) (fun hb58 => ?_)
   ·
    have hc58 := hb58; try simp only [Gk.cs0] at hc58
    refine .skip (.seq (.block (.drawn (fun w => ∃ R, Sat B w I (blk b0 ((E).map I64 ++ r) 3 :: R)) (fun j => !([15, 17].contains j)) (by kernel_rfl) ?_)))
    replace hS := hS.drew; generalize w.drew = w at hS ⊢
    have hH : ∃ R, Sat B w I (blk b0 ((E).map I64 ++ r) 3 :: R) := ⟨_, (hS.pick 0 rfl)⟩
    refine .takeP (i := 0) rfl (by kernel_rfl) (by kernel_rfl) (by kernel_rfl) (fun w => (.move (.of rfl))) rfl (.takeP (i := 1) rfl (by kernel_rfl) (by kernel_rfl) (by kernel_rfl) (fun w => (.move (.of rfl))) rfl (.takeP (i := 2) rfl (by kernel_rfl) (by kernel_rfl) (by kernel_rfl) (fun w => (.move (.of rfl))) rfl (.takeP (i := 3) rfl (by kernel_rfl) (by kernel_rfl) (by kernel_rfl) (fun w => (.move (.of rfl))) rfl (.takeP (i := 4) rfl (by kernel_rfl) (by kernel_rfl) (by kernel_rfl) (fun w => (.add (.of rfl) (.of rfl) ⟨by omega, by omega⟩)) rfl (.takeP (i := 5) rfl (by kernel_rfl) (by kernel_rfl) (by kernel_rfl) (fun w => (.move (.of rfl))) rfl (.takeP (i := 6) rfl (by kernel_rfl) (by kernel_rfl) (by kernel_rfl) (fun w => (.move (.of rfl))) rfl (.takeP (i := 7) rfl (by kernel_rfl) (by kernel_rfl) (by kernel_rfl) (fun w => (.add (.of rfl) (.of rfl) ⟨by omega, by omega⟩)) rfl (.takeP (i := 8) rfl (by kernel_rfl) (by kernel_rfl) (by kernel_rfl) (fun w => (.indexAddr (.of rfl) (.of rfl) (by omega) (by omega) Tryz.underlying195 Tryz.sizeOf3)) rfl (.take (i := 9) rfl (by kernel_rfl) (by kernel_rfl) (by kernel_rfl) (by kernel_rfl) hH (fun w ⟨R, hS⟩ => .ldE I64 E 0 r (i := k + 1) (.of rfl) hS (k := 0) rfl rfl Tryz.isAgg3 (by omega) (by omega)) rfl (.takeP (i := 10) rfl (by kernel_rfl) (by kernel_rfl) (by kernel_rfl) (fun w => (.move (.of rfl))) rfl (.takeP (i := 11) rfl (by kernel_rfl) (by kernel_rfl) (by kernel_rfl) (fun w => (.move (.of rfl))) rfl (.takeP (i := 12) rfl (by kernel_rfl) (by kernel_rfl) (by kernel_rfl) (fun w => (.indexAddr (.of rfl) (.of rfl) (by omega) (by omega) Tryz.underlying195 Tryz.sizeOf3)) rfl (.take (i := 13) rfl (by kernel_rfl) (by kernel_rfl) (by kernel_rfl) (by kernel_rfl) hH (fun w ⟨R, hS⟩ => .ldE I64 E 0 r (i := k) (.of rfl) hS (k := 0) rfl rfl Tryz.isAgg3 (by omega) (by omega)) rfl (.takeP (i := 14) rfl (by kernel_rfl) (by kernel_rfl) (by kernel_rfl) (fun w => (.indexAddr (.of rfl) (.of rfl) (by omega) (by omega) Tryz.underlying195 Tryz.sizeOf3)) rfl ?_))))))))))))))
    refine WD.branch [15] (by kernel_rfl) rfl (WO.cons rfl ?_ (WO.nil))
    refine WL.stE I64 _ r hS (k := 0) rfl (.of rfl) (.of rfl) rfl rfl Tryz.sizeOf3 (by omega) (by (try rw [List.length_set]); omega) ?_
    clear hS; intro w hS; dsimp only [List.set] at hS
    refine .nil ?_
    refine And.intro (by intro h; cases h) ?_
    refine .takeP (i := 16) rfl (by kernel_rfl) (by kernel_rfl) (by kernel_rfl) (fun w => (.indexAddr (.of rfl) (.of rfl) (by omega) (by omega) Tryz.underlying195 Tryz.sizeOf3)) rfl ?_
    refine WD.branch [17] (by kernel_rfl) rfl (WO.cons rfl ?_ (WO.nil))
    refine WL.stE I64 _ r hS (k := 0) rfl (.of rfl) (.of rfl) rfl rfl Tryz.sizeOf3 (by omega) (by (try rw [List.length_set]); omega) ?_
    clear hS; intro w hS; dsimp only [List.set] at hS
    refine .nil ?_
    refine And.intro (by intro h; cases h) ?_
    refine .done (by kernel_rfl) (.region (.run 3 rfl ⟨⟨by omega, by omega⟩, trivial⟩ (.nil ?_)))
    obtain ⟨y, Ve, rfl⟩ := Srt.cons_of (U := Vd) (by omega)
    have e1 : E = (F ++ Vc) ++ x :: y :: (Ve ++ (Vb ++ C)) := by rw [hE]; simp only [List.append_assoc, List.cons_append]
    have e := Srt.swp_adj (F ++ Vc) (Ve ++ (Vb ++ C)) x y
    rw [← e1, show (F ++ Vc).length = k.toNat by rw [List.length_append]; omega, show k.toNat + 1 = (k + 1).toNat by omega] at e
    unfold Srt.swp at e
    rw [e] at hS
    refine ⟨(k + 1, Vc ++ [y], Ve), ⟨rfl, rfl, rfl, trivial⟩, ⟨by simp only [List.length_append, List.length_cons, List.length_nil]; omega, by rw [← hcd]; simp, ?_⟩, by simp⟩
    have e2 : F ++ ((Vc ++ [y]) ++ x :: (Ve ++ (Vb ++ C))) = (F ++ Vc) ++ y :: x :: (Ve ++ (Vb ++ C)) := by simp only [List.append_assoc, List.cons_append, List.nil_append]
    rw [e2]; exact hS
   have hc58 := hb58; try simp only [Gk.cs0] at hc58
   refine .exit (.ret (ret0 Tryz.results219 ?_))
   have hd0 : Vd = [] := List.eq_nil_of_length_eq_zero (by have := congrArg List.length hVab; rw [List.length_append] at this; omega)
   subst hd0
   rw [List.append_nil] at hcd
   rw [hE, hcd] at hS
   refine ⟨_, rfl, rfl, Va ++ x :: Vb, ?_, hso2, by simpa using hS⟩
   rw [hVab]
   exact List.perm_middle
  have hc28 := hb28; try simp only [Gk.cs0] at hc28
  refine .skip (.seq (.seq (.region (.run 4 rfl ⟨⟨by omega, by omega⟩, trivial⟩ (.nil ?_)))))
  refine WC.cond rfl (fun hb80 => ?_) (fun hb80 => ?_)
  ·
   have hc80 := hb80; try simp only [Gk.cs0] at hc80
   refine .seq ?_
   obtain ⟨y, V0, rfl⟩ := Srt.cons_of hV0
   obtain rfl : V0 = [] := List.eq_nil_of_length_eq_zero (by simp only [List.length_cons] at hib; omega)
   have hDy : D.getD im.toNat 0 = y := by have := hDV 0 (by simp); rw [show im.toNat = F.length + U.length + 0 by omega]; simpa using this
   simp only [List.length_cons, List.length_nil] at hib hbb hDl hin2
   refine .region (.run 2 rfl trivial (.nil (.seq (.region (.run 2 rfl trivial (.nil (.seq (.block ?_))))))))
   refine WC.loop (σ := Int × Int) (fun ⟨i, j⟩ => [(0, .slice (some (ad b0 0)) n c), (1, I64 ia), (2, I64 im), (3, I64 ib), (4, CF p), (14, I64 i), (15, I64 j)]) (fun ⟨i, j⟩ w => ia ≤ i ∧ i ≤ j ∧ j ≤ im ∧ (i = ia ∨ ¬ kx l y < kx l (D.getD (i - 1).toNat 0)) ∧ (j = im ∨ kx l y < kx l (D.getD j.toNat 0)) ∧ Sat B w I (blk b0 ((D).map I64 ++ r) 3 :: As)) (fun ⟨i, j⟩ => (j - i).toNat) (ia, im) ⟨rfl, rfl, rfl, rfl, rfl, rfl, rfl, trivial⟩ ⟨Int.le_refl _, by (try dsimp only); omega, Int.le_refl _, .inl rfl, .inl rfl, hS⟩ ?_
   rintro ⟨i, j⟩ w ⟨hi1, hij, hj1, hb1, hb2, hS⟩
   change WC _ _ _ _ [(0, .slice (some (ad b0 0)) n c), (1, I64 ia), (2, I64 im), (3, I64 ib), (4, CF p), (14, I64 i), (15, I64 j)] w
   refine .seq (.seq (.region (.run 3 rfl trivial (.nil ?_))))
   refine WC.cond rfl (fun hb85 => ?_) (fun hb85 => ?_)
   ·
    have hc85 := hb85; try simp only [Gk.cs0] at hc85
    refine .skip (.block (.seq (.region (.run 3 rfl ⟨⟨by omega, by omega⟩, trivial⟩ ?_))))
    refine WL.val (.cvi (.of rfl) Tryz.underlying3 Tryz.underlying238 (by rw [IntKind.wrap_u64]; omega)) rfl ?_
    refine .val (.shr1 (.of rfl) (.of rfl) (by decide)) rfl ?_
    refine WL.val (.cvi (.of rfl) Tryz.underlying238 Tryz.underlying3 (by rw [IntKind.wrap_i64]; omega)) rfl ?_
    refine .run 1 rfl trivial (.nil (.seq (.quiet (by kernel_rfl) (by kernel_rfl) hS (.val (fun w hS => (.move (.of rfl))) rfl (.val (fun w hS => (.move (.of rfl))) rfl (.val (fun w hS => (.move (.of rfl))) rfl (.val (fun w hS => (.indexAddr (.of rfl) (.of rfl) (by omega) (by omega) Tryz.underlying195 Tryz.sizeOf3)) rfl (.val (fun w hS => .ldE I64 D 0 r (i := im) (.of rfl) hS (k := 0) rfl rfl Tryz.isAgg3 (by omega) (by omega)) rfl (.val (fun w hS => (.move (.of rfl))) rfl (.val (fun w hS => (.move (.of rfl))) rfl (.val (fun w hS => (.indexAddr (.of rfl) (.of rfl) (by omega) (by omega) Tryz.underlying195 Tryz.sizeOf3)) rfl (.val (fun w hS => .ldE I64 D 0 r (i := ((i + j) / 2)) (.of rfl) hS (k := 0) rfl rfl Tryz.isAgg3 (by omega) (by omega)) rfl ?_))))))))))))
    refine WQ.vcall Tryz.func171 rfl (.of rfl) (evs_cons (.of rfl) (evs_cons (.of rfl) evs_nil)) rfl (fun w hS => by have hj1 := hin2 (im).toNat (by omega) (by omega); have hj2 := hin2 (((i + j) / 2)).toNat (by omega) (by omega); exact cmp_any hx _ _ hj1.1 hj1.2 hj2.1 hj2.2 B w _ hS) ?_
    refine .val (fun w hS => (.lss (.of rfl) (.of rfl))) rfl (.val (fun w hS => (.not (.of rfl))) rfl (.nil ?_))
    clear hS; intro w hS
    refine WC.cond rfl (fun hb103 => ?_) (fun hb103 => ?_)
    ·
     have hc103 := hb103; try simp only [Gk.cs0] at hc103
     refine .region (.run 3 rfl ⟨⟨by omega, by omega⟩, trivial⟩ (.nil ?_))
     have h9 : ¬ _ := fun h => (Int.not_lt.2 hc103) (Srt.cmpv_neg.2 h)
     rw [hDy] at h9
     exact ⟨((i + j) / 2 + 1, j), ⟨rfl, rfl, rfl, rfl, rfl, rfl, rfl, trivial⟩, ⟨by (try dsimp only); omega, by (try dsimp only); omega, hj1, .inr (by (try dsimp only); rw [show (i + j) / 2 + 1 - 1 = (i + j) / 2 by omega]; exact h9), hb2, hS⟩, by (try dsimp only); omega⟩
    have hc103 := hb103; try simp only [Gk.cs0] at hc103
    refine .region (.run 2 rfl trivial (.nil ?_))
    have h9 := Srt.cmpv_neg.1 hc103
    rw [hDy] at h9
    exact ⟨(i, (i + j) / 2), ⟨rfl, rfl, rfl, rfl, rfl, rfl, rfl, trivial⟩, ⟨hi1, by (try dsimp only); omega, by (try dsimp only); omega, hb1, .inr h9, hS⟩, by (try dsimp only); omega⟩
   have hc85 := hb85; try simp only [Gk.cs0] at hc85
   refine .exit (.seq (.seq ?_))
   have hij : i = j := by omega
   subst hij
   have hso : Srt.So (kx l) (U.take (i - ia).toNat ++ y :: U.drop (i - ia).toNat) := by
    refine Srt.so_right hU (fun v hv => hc v hv y (by simp)) (by omega) ?_ ?_
    ·by_cases hz : i = ia
     ·exact .inl (by omega)
     ·refine .inr ?_
      have h := hb1.resolve_left hz
      rw [← hDU ((i - ia).toNat - 1) (by omega), show F.length + ((i - ia).toNat - 1) = (i - 1).toNat by omega]
      exact h
    ·by_cases hz : i = im
     ·exact .inl (by omega)
     ·refine .inr ?_
      have h := hb2.resolve_left hz
      rw [← hDU (i - ia).toNat (by omega), show F.length + (i - ia).toNat = i.toNat by omega]
      exact h
   obtain ⟨Ua, Ub, hUab, hUal, hso2⟩ : ∃ Ua Ub, U = Ua ++ Ub ∧ (Ua.length : Int) = i - ia ∧ Srt.So (kx l) (Ua ++ y :: Ub) := ⟨_, _, (List.take_append_drop (i - ia).toNat U).symm, by rw [List.length_take]; omega, hso⟩
   have hUl := congrArg List.length hUab
   rw [List.length_append] at hUl
   refine .region (.run 2 rfl trivial (.nil (.block ?_)))
   refine WC.loop (σ := Int × List Int × List Int) (fun ⟨k, Uc, Ud⟩ => [(0, .slice (some (ad b0 0)) n c), (14, I64 i), (17, I64 k)]) (fun ⟨k, Uc, Ud⟩ w => k = (F.length : Int) + Ua.length + Uc.length ∧ Uc ++ Ud = Ub ∧ Sat B w I (blk b0 ((F ++ (Ua ++ (Uc ++ y :: (Ud ++ C)))).map I64 ++ r) 3 :: As)) (fun ⟨k, Uc, Ud⟩ => Uc.length) (im, Ub, []) ⟨rfl, rfl, rfl, trivial⟩ ⟨by (try dsimp only); omega, by simp, by rw [hD, hUab] at hS; simpa using hS⟩ ?_
   rintro ⟨k, Uc, Ud⟩ w ⟨hk, hcd, hS⟩
   change WC _ _ _ _ [(0, .slice (some (ad b0 0)) n c), (14, I64 i), (17, I64 k)] w
   have hcl := congrArg List.length hcd
   rw [List.length_append] at hcl
   obtain ⟨E, hE⟩ : ∃ E, E = F ++ (Ua ++ (Uc ++ y :: (Ud ++ C))) := ⟨_, rfl⟩
   rw [← hE] at hS
   have hEl : E.length = F.length + (Ua.length + (Uc.length + 1 + Ud.length + C.length)) := by rw [hE]; simp only [List.length_append, List.length_cons]; omega
   refine .seq (.seq (.region (.run 3 rfl trivial (.nil ?_))))
   refine WC.cond rfl (fun hb110 => ?_) (fun hb110 => ?_)
   ·
    have hc110 := hb110; try simp only [Gk.cs0] at hc110
    refine .skip (.seq (.block (.drawn (fun w => ∃ R, Sat B w I (blk b0 ((E).map I64 ++ r) 3 :: R)) (fun j => !([15, 17].contains j)) (by kernel_rfl) ?_)))
    replace hS := hS.drew; generalize w.drew = w at hS ⊢
    have hH : ∃ R, Sat B w I (blk b0 ((E).map I64 ++ r) 3 :: R) := ⟨_, (hS.pick 0 rfl)⟩
    refine .takeP (i := 0) rfl (by kernel_rfl) (by kernel_rfl) (by kernel_rfl) (fun w => (.move (.of rfl))) rfl (.takeP (i := 1) rfl (by kernel_rfl) (by kernel_rfl) (by kernel_rfl) (fun w => (.move (.of rfl))) rfl (.takeP (i := 2) rfl (by kernel_rfl) (by kernel_rfl) (by kernel_rfl) (fun w => (.move (.of rfl))) rfl (.takeP (i := 3) rfl (by kernel_rfl) (by kernel_rfl) (by kernel_rfl) (fun w => (.move (.of rfl))) rfl (.takeP (i := 4) rfl (by kernel_rfl) (by kernel_rfl) (by kernel_rfl) (fun w => (.sub (.of rfl) (.of rfl) ⟨by omega, by omega⟩)) rfl (.takeP (i := 5) rfl (by kernel_rfl) (by kernel_rfl) (by kernel_rfl) (fun w => (.move (.of rfl))) rfl (.takeP (i := 6) rfl (by kernel_rfl) (by kernel_rfl) (by kernel_rfl) (fun w => (.move (.of rfl))) rfl (.takeP (i := 7) rfl (by kernel_rfl) (by kernel_rfl) (by kernel_rfl) (fun w => (.sub (.of rfl) (.of rfl) ⟨by omega, by omega⟩)) rfl (.takeP (i := 8) rfl (by kernel_rfl) (by kernel_rfl) (by kernel_rfl) (fun w => (.indexAddr (.of rfl) (.of rfl) (by omega) (by omega) Tryz.underlying195 Tryz.sizeOf3)) rfl (.take (i := 9) rfl (by kernel_rfl) (by kernel_rfl) (by kernel_rfl) (by kernel_rfl) hH (fun w ⟨R, hS⟩ => .ldE I64 E 0 r (i := k - 1) (.of rfl) hS (k := 0) rfl rfl Tryz.isAgg3 (by omega) (by omega)) rfl (.takeP (i := 10) rfl (by kernel_rfl) (by kernel_rfl) (by kernel_rfl) (fun w => (.move (.of rfl))) rfl (.takeP (i := 11) rfl (by kernel_rfl) (by kernel_rfl) (by kernel_rfl) (fun w => (.move (.of rfl))) rfl (.takeP (i := 12) rfl (by kernel_rfl) (by kernel_rfl) (by kernel_rfl) (fun w => (.indexAddr (.of rfl) (.of rfl) (by omega) (by omega) Tryz.underlying195 Tryz.sizeOf3)) rfl (.take (i := 13) rfl (by kernel_rfl) (by kernel_rfl) (by kernel_rfl) (by kernel_rfl) hH (fun w ⟨R, hS⟩ => .ldE I64 E 0 r (i := k) (.of rfl) hS (k := 0) rfl rfl Tryz.isAgg3 (by omega) (by omega)) rfl (.takeP (i := 14) rfl (by kernel_rfl) (by kernel_rfl) (by kernel_rfl) (fun w => (.indexAddr (.of rfl) (.of rfl) (by omega) (by omega) Tryz.underlying195 Tryz.sizeOf3)) rfl ?_))))))))))))))
    refine WD.branch [15] (by kernel_rfl) rfl (WO.cons rfl ?_ (WO.nil))
    refine WL.stE I64 _ r hS (k := 0) rfl (.of rfl) (.of rfl) rfl rfl Tryz.sizeOf3 (by omega) (by (try rw [List.length_set]); omega) ?_
    clear hS; intro w hS; dsimp only [List.set] at hS
    refine .nil ?_
    refine And.intro (by intro h; cases h) ?_
    refine .takeP (i := 16) rfl (by kernel_rfl) (by kernel_rfl) (by kernel_rfl) (fun w => (.indexAddr (.of rfl) (.of rfl) (by omega) (by omega) Tryz.underlying195 Tryz.sizeOf3)) rfl ?_
    refine WD.branch [17] (by kernel_rfl) rfl (WO.cons rfl ?_ (WO.nil))
    refine WL.stE I64 _ r hS (k := 0) rfl (.of rfl) (.of rfl) rfl rfl Tryz.sizeOf3 (by omega) (by (try rw [List.length_set]); omega) ?_
    clear hS; intro w hS; dsimp only [List.set] at hS
    refine .nil ?_
    refine And.intro (by intro h; cases h) ?_
    refine .done (by kernel_rfl) (.region (.run 3 rfl ⟨⟨by omega, by omega⟩, trivial⟩ (.nil ?_)))
    obtain ⟨Ue, q, rfl⟩ := Srt.concat_of (U := Uc) (by omega)
    simp only [List.length_append, List.length_cons, List.length_nil] at hk hEl hcl
    have e1 : E = (F ++ (Ua ++ Ue)) ++ q :: y :: (Ud ++ C) := by rw [hE]; simp only [List.append_assoc, List.cons_append, List.nil_append]
    have e := Srt.swp_adj (F ++ (Ua ++ Ue)) (Ud ++ C) q y
    rw [← e1, show (F ++ (Ua ++ Ue)).length = (k - 1).toNat by simp only [List.length_append]; omega, show (k - 1).toNat + 1 = k.toNat by omega, Srt.swp_comm (by omega)] at e
    unfold Srt.swp at e
    rw [e] at hS
    refine ⟨(k - 1, Ue, q :: Ud), ⟨rfl, rfl, rfl, trivial⟩, ⟨by (try dsimp only); omega, by rw [← hcd]; simp, ?_⟩, by simp⟩
    have e2 : F ++ (Ua ++ (Ue ++ y :: ((q :: Ud) ++ C))) = (F ++ (Ua ++ Ue)) ++ y :: q :: (Ud ++ C) := by simp only [List.append_assoc, List.cons_append]
    rw [e2]; exact hS
   have hc110 := hb110; try simp only [Gk.cs0] at hc110
   refine .exit (.ret (ret0 Tryz.results219 ?_))
   have hc0 : Uc = [] := List.eq_nil_of_length_eq_zero (by omega)
   subst hc0
   rw [List.nil_append] at hcd
   rw [hE, hcd] at hS
   refine ⟨_, rfl, rfl, Ua ++ y :: Ub, ?_, hso2, by simpa using hS⟩
   rw [hUab, List.append_assoc]
   exact List.Perm.append_left Ua (List.perm_append_comm : ([y] ++ Ub).Perm (Ub ++ [y]))
  have hc80 := hb80; try simp only [Gk.cs0] at hc80
  refine .skip (.seq (.region (.run 3 rfl ⟨⟨by omega, by omega⟩, trivial⟩ ?_)))
  refine WL.val (.cvi (.of rfl) Tryz.underlying3 Tryz.underlying238 (by rw [IntKind.wrap_u64]; omega)) rfl ?_
  refine .val (.shr1 (.of rfl) (.of rfl) (by decide)) rfl ?_
  refine WL.val (.cvi (.of rfl) Tryz.underlying238 Tryz.underlying3 (by rw [IntKind.wrap_i64]; omega)) rfl ?_
  refine .run 1 rfl trivial (.nil (.seq (.region (.run 4 rfl ⟨⟨by omega, by omega⟩, trivial⟩ (.nil (.seq (.region (.run 2 rfl trivial (.nil ?_)))))))))
  refine WC.cutS (σ := Int × Int) (fun ⟨s0, r0⟩ => [(0, .slice (some (ad b0 0)) n c), (1, I64 ia), (2, I64 im), (3, I64 ib), (4, CF p), (18, I64 ((ia + ib) / 2)), (19, I64 (((ia + ib) / 2) + im)), (20, I64 s0), (21, I64 r0)]) (fun ⟨s0, r0⟩ w => ((((ia + ib) / 2) < im ∧ s0 = ((ia + ib) / 2) + im - ib ∧ r0 = ((ia + ib) / 2)) ∨ (im ≤ ((ia + ib) / 2) ∧ s0 = ia ∧ r0 = im)) ∧ Sat B w I (blk b0 ((D).map I64 ++ r) 3 :: As)) ?_ ?_
  ·
   refine .seq (.region (.run 3 rfl trivial (.nil ?_)))
   refine WC.cond rfl (fun hb140 => ?_) (fun hb140 => ?_)
   ·
    have hc140 := hb140; try simp only [Gk.cs0] at hc140
    refine .seq (.region (.run 4 rfl ⟨⟨by omega, by omega⟩, trivial⟩ (.nil (.region (.run 2 rfl trivial (.nil ?_))))))
    exact ⟨(((ia + ib) / 2) + im - ib, ((ia + ib) / 2)), ⟨rfl, rfl, rfl, rfl, rfl, rfl, rfl, rfl, rfl, trivial⟩, .inl ⟨hc140, rfl, rfl⟩, hS⟩
   have hc140 := hb140; try simp only [Gk.cs0] at hc140
   refine .seq (.region (.run 2 rfl trivial (.nil (.region (.run 2 rfl trivial (.nil ?_))))))
   exact ⟨(ia, im), ⟨rfl, rfl, rfl, rfl, rfl, rfl, rfl, rfl, rfl, trivial⟩, .inr ⟨hc140, rfl, rfl⟩, hS⟩
  rintro ⟨s0, r0⟩ w ⟨h0, hS⟩
  change WC _ _ _ _ [(0, .slice (some (ad b0 0)) n c), (1, I64 ia), (2, I64 im), (3, I64 ib), (4, CF p), (18, I64 ((ia + ib) / 2)), (19, I64 (((ia + ib) / 2) + im)), (20, I64 s0), (21, I64 r0)] w
  refine .seq (.region (.run 3 rfl ⟨⟨by omega, by omega⟩, trivial⟩ (.nil (.seq (.block ?_)))))
  refine WC.loop (σ := Int × Int) (fun ⟨s, q⟩ => [(0, .slice (some (ad b0 0)) n c), (1, I64 ia), (2, I64 im), (3, I64 ib), (4, CF p), (18, I64 ((ia + ib) / 2)), (19, I64 (((ia + ib) / 2) + im)), (20, I64 s), (21, I64 q), (22, I64 (((ia + ib) / 2) + im - 1))]) (fun ⟨s, q⟩ w => s0 ≤ s ∧ s ≤ q ∧ q ≤ r0 ∧ (s = s0 ∨ ¬ kx l (D.getD (((ia + ib) / 2) + im - 1 - (s - 1)).toNat 0) < kx l (D.getD (s - 1).toNat 0)) ∧ (q = r0 ∨ kx l (D.getD (((ia + ib) / 2) + im - 1 - q).toNat 0) < kx l (D.getD q.toNat 0)) ∧ Sat B w I (blk b0 ((D).map I64 ++ r) 3 :: As)) (fun ⟨s, q⟩ => (q - s).toNat) (s0, r0) ⟨rfl, rfl, rfl, rfl, rfl, rfl, rfl, rfl, rfl, rfl, trivial⟩ ⟨Int.le_refl _, by (try dsimp only); omega, Int.le_refl _, .inl rfl, .inl rfl, hS⟩ ?_
  rintro ⟨s, q⟩ w ⟨hs0, hsq, hq0, hb1, hb2, hS⟩
  change WC _ _ _ _ [(0, .slice (some (ad b0 0)) n c), (1, I64 ia), (2, I64 im), (3, I64 ib), (4, CF p), (18, I64 ((ia + ib) / 2)), (19, I64 (((ia + ib) / 2) + im)), (20, I64 s), (21, I64 q), (22, I64 (((ia + ib) / 2) + im - 1))] w
  refine .seq (.seq (.region (.run 3 rfl trivial (.nil ?_))))
  refine WC.cond rfl (fun hb151 => ?_) (fun hb151 => ?_)
  ·
   have hc151 := hb151; try simp only [Gk.cs0] at hc151
   refine .skip (.block (.seq (.region (.run 3 rfl ⟨⟨by omega, by omega⟩, trivial⟩ ?_))))
   refine WL.val (.cvi (.of rfl) Tryz.underlying3 Tryz.underlying238 (by rw [IntKind.wrap_u64]; omega)) rfl ?_
   refine .val (.shr1 (.of rfl) (.of rfl) (by decide)) rfl ?_
   refine WL.val (.cvi (.of rfl) Tryz.underlying238 Tryz.underlying3 (by rw [IntKind.wrap_i64]; omega)) rfl ?_
   refine .run 1 rfl trivial (.nil (.seq (.quiet (by kernel_rfl) (by kernel_rfl) hS (.val (fun w hS => (.move (.of rfl))) rfl (.val (fun w hS => (.move (.of rfl))) rfl (.val (fun w hS => (.move (.of rfl))) rfl (.val (fun w hS => (.move (.of rfl))) rfl (.val (fun w hS => (.sub (.of rfl) (.of rfl) ⟨by omega, by omega⟩)) rfl (.val (fun w hS => (.indexAddr (.of rfl) (.of rfl) (by omega) (by omega) Tryz.underlying195 Tryz.sizeOf3)) rfl (.val (fun w hS => .ldE I64 D 0 r (i := ((ia + ib) / 2) + im - 1 - ((s + q) / 2)) (.of rfl) hS (k := 0) rfl rfl Tryz.isAgg3 (by omega) (by omega)) rfl (.val (fun w hS => (.move (.of rfl))) rfl (.val (fun w hS => (.move (.of rfl))) rfl (.val (fun w hS => (.indexAddr (.of rfl) (.of rfl) (by omega) (by omega) Tryz.underlying195 Tryz.sizeOf3)) rfl (.val (fun w hS => .ldE I64 D 0 r (i := ((s + q) / 2)) (.of rfl) hS (k := 0) rfl rfl Tryz.isAgg3 (by omega) (by omega)) rfl ?_))))))))))))))
   refine WQ.vcall Tryz.func171 rfl (.of rfl) (evs_cons (.of rfl) (evs_cons (.of rfl) evs_nil)) rfl (fun w hS => by have hj1 := hin2 (((ia + ib) / 2) + im - 1 - ((s + q) / 2)).toNat (by omega) (by omega); have hj2 := hin2 (((s + q) / 2)).toNat (by omega) (by omega); exact cmp_any hx _ _ hj1.1 hj1.2 hj2.1 hj2.2 B w _ hS) ?_
   refine .val (fun w hS => (.lss (.of rfl) (.of rfl))) rfl (.val (fun w hS => (.not (.of rfl))) rfl (.nil ?_))
   clear hS; intro w hS
   refine WC.cond rfl (fun hb171 => ?_) (fun hb171 => ?_)
   ·
    have hc171 := hb171; try simp only [Gk.cs0] at hc171
    refine .region (.run 3 rfl ⟨⟨by omega, by omega⟩, trivial⟩ (.nil ?_))
    have h9 : ¬ _ := fun h => (Int.not_lt.2 hc171) (Srt.cmpv_neg.2 h)
    exact ⟨((s + q) / 2 + 1, q), ⟨rfl, rfl, rfl, rfl, rfl, rfl, rfl, rfl, rfl, rfl, trivial⟩, ⟨by (try dsimp only); omega, by (try dsimp only); omega, hq0, .inr (by (try dsimp only); rw [show (s + q) / 2 + 1 - 1 = (s + q) / 2 by omega]; exact h9), hb2, hS⟩, by (try dsimp only); omega⟩
   have hc171 := hb171; try simp only [Gk.cs0] at hc171
   refine .region (.run 2 rfl trivial (.nil ?_))
   have h9 := Srt.cmpv_neg.1 hc171
   exact ⟨(s, (s + q) / 2), ⟨rfl, rfl, rfl, rfl, rfl, rfl, rfl, rfl, rfl, rfl, trivial⟩, ⟨hs0, by (try dsimp only); omega, by (try dsimp only); omega, hb1, .inr h9, hS⟩, by (try dsimp only); omega⟩
  have hc151 := hb151; try simp only [Gk.cs0] at hc151
  refine .exit (.seq ?_)
  have hsq : s = q := by omega
  subst hsq
  have hsp := Srt.split_lt hU hV hc (s := (s - ia).toNat) (e := (((ia + ib) / 2) - s).toNat) (by omega) (by omega) (by
   by_cases hz1 : s = ia
   ·exact .inl (by omega)
   by_cases hz2 : (((ia + ib) / 2) - s).toNat = V.length
   ·exact .inr (.inl hz2)
   rcases hb1 with h | h
   ·rcases h0 with h0 | h0
    ·exact .inr (.inl (by omega))
    ·exact .inl (by omega)
   ·refine .inr (.inr ?_)
    rw [show (((ia + ib) / 2) + im - 1 - (s - 1)).toNat = F.length + U.length + (((ia + ib) / 2) - s).toNat by omega, hDV (((ia + ib) / 2) - s).toNat (by omega), show (s - 1).toNat = F.length + ((s - ia).toNat - 1) by omega, hDU ((s - ia).toNat - 1) (by omega)] at h
    exact Srt.not_bef_later (hc _ (Srt.getD_mem (by omega)) _ (Srt.getD_mem (by omega))) h) (by
   by_cases hz1 : s = ((ia + ib) / 2)
   ·exact .inl (by omega)
   by_cases hz2 : (s - ia).toNat = U.length
   ·exact .inr (.inl hz2)
   rcases hb2 with h | h
   ·rcases h0 with h0 | h0
    ·exact .inl (by omega)
    ·exact .inr (.inl (by omega))
   ·refine .inr (.inr ?_)
    rw [show (((ia + ib) / 2) + im - 1 - s).toNat = F.length + U.length + ((((ia + ib) / 2) - s).toNat - 1) by omega, hDV ((((ia + ib) / 2) - s).toNat - 1) (by omega), show s.toNat = F.length + (s - ia).toNat by omega, hDU (s - ia).toNat (by omega)] at h
    exact (Srt.bef_later (hc _ (Srt.getD_mem (by omega)) _ (Srt.getD_mem (by omega)))).2 h)
  have hs1 : 0 ≤ s - ia ∧ s - ia ≤ U.length ∧ 0 ≤ ((ia + ib) / 2) - s ∧ ((ia + ib) / 2) - s ≤ V.length := by omega
  obtain ⟨Ua, Ub, Va, Vb, hUab, hVab, hUal, hVal, hsp2⟩ : ∃ Ua Ub Va Vb, U = Ua ++ Ub ∧ V = Va ++ Vb ∧ (Ua.length : Int) = s - ia ∧ (Va.length : Int) = ((ia + ib) / 2) - s ∧ (∀ x ∈ Ua ++ Va, ∀ y ∈ Ub ++ Vb, Srt.bef (kx l) x y) :=
   ⟨_, _, _, _, (List.take_append_drop (s - ia).toNat U).symm, (List.take_append_drop (((ia + ib) / 2) - s).toNat V).symm, by rw [List.length_take]; omega, by rw [List.length_take]; omega, hsp⟩
  clear hsp
  have hUl := congrArg List.length hUab
  rw [List.length_append] at hUl
  have hVl := congrArg List.length hVab
  rw [List.length_append] at hVl
  rw [hD, hUab, hVab] at hS
  rw [hUab] at hU
  rw [hVab] at hV
  rw [hUab, hVab] at hc hin
  have hUa := (List.pairwise_append.1 hU).1
  have hUb := (List.pairwise_append.1 hU).2.1
  have hVa := (List.pairwise_append.1 hV).1
  have hVb := (List.pairwise_append.1 hV).2.1
  refine .region (.run 4 rfl ⟨⟨by omega, by omega⟩, trivial⟩ (.nil ?_))
  refine WC.cutS (σ := Unit) (fun _ => [(0, .slice (some (ad b0 0)) n c), (1, I64 ia), (3, I64 ib), (4, CF p), (18, I64 ((ia + ib) / 2)), (20, I64 s), (24, I64 (((ia + ib) / 2) + im - s))]) (fun _ w => Sat B w I (blk b0 ((F ++ (Ua ++ (Va ++ (Ub ++ (Vb ++ C))))).map I64 ++ r) 3 :: As)) ?_ ?_
  ·
   refine .seq (.region (.run 4 rfl trivial (.gval rfl rfl (fun hg1 => (.move (.of rfl))) rfl (.gval rfl rfl (fun hg1 => (.move (.of rfl))) rfl (.gval rfl rfl (fun hg1 => (.lss (.gd hg1 rfl) (.gd hg1 rfl))) rfl (.val (.pand (.of rfl) (.of rfl) (.of rfl)) rfl (.nil ?_)))))))
   refine WC.cond rfl (fun hb185 => ?_) (fun hb185 => ?_)
   ·
    have hc185 := hb185; try simp only [Gk.cs0] at hc185
    refine .region (.run 5 rfl trivial ?_)
    rw [show F ++ ((Ua ++ Ub) ++ ((Va ++ Vb) ++ C)) = (F ++ Ua) ++ (Ub ++ (Va ++ (Vb ++ C))) by simp only [List.append_assoc]] at hS
    refine WL.call Tryz.func232 rfl (evs_cons (.of rfl) (evs_cons (.of rfl) (evs_cons (.of rfl) (evs_cons (.of rfl) (evs_cons (.of rfl) evs_nil))))) rfl (rot_any (F ++ Ua) Ub Va (Vb ++ C) (by omega) (by omega) (CF p) b0 n c r _ _ _ (by rw [List.length_append]; omega) (by rw [List.length_append]; omega) (by rw [List.length_append]; omega) (by omega) (by simp only [List.length_append]; omega) B w I As hS) ?_
    clear hS
    rintro _ w ⟨rfl, hS⟩
    refine .nil ?_
    rw [show (F ++ Ua) ++ (Va ++ (Ub ++ (Vb ++ C))) = F ++ (Ua ++ (Va ++ (Ub ++ (Vb ++ C)))) by simp only [List.append_assoc]] at hS
    exact ⟨(), ⟨rfl, rfl, rfl, rfl, rfl, rfl, rfl, trivial⟩, hS⟩
   have hc185 := hb185; try simp only [Gk.cs0] at hc185
   refine .skip ?_
   have e : F ++ ((Ua ++ Ub) ++ ((Va ++ Vb) ++ C)) = F ++ (Ua ++ (Va ++ (Ub ++ (Vb ++ C)))) := by
    rcases hc185 with h | h
    ·obtain rfl : Ub = [] := List.eq_nil_of_length_eq_zero (by omega)
     simp only [List.append_assoc, List.nil_append]
    ·obtain rfl : Va = [] := List.eq_nil_of_length_eq_zero (by omega)
     simp only [List.append_assoc, List.nil_append]
   rw [e] at hS
   exact ⟨(), ⟨rfl, rfl, rfl, rfl, rfl, rfl, rfl, trivial⟩, hS⟩
  rintro _ w hS
  change WC _ _ _ _ [(0, .slice (some (ad b0 0)) n c), (1, I64 ia), (3, I64 ib), (4, CF p), (18, I64 ((ia + ib) / 2)), (20, I64 s), (24, I64 (((ia + ib) / 2) + im - s))] w
  refine WC.cutS (σ := List Int) (fun M1 => [(0, .slice (some (ad b0 0)) n c), (1, I64 ia), (3, I64 ib), (4, CF p), (18, I64 ((ia + ib) / 2)), (20, I64 s), (24, I64 (((ia + ib) / 2) + im - s))]) (fun M1 w => M1.Perm (Ua ++ Va) ∧ Srt.So (kx l) M1 ∧ Sat B w I (blk b0 ((F ++ (M1 ++ (Ub ++ (Vb ++ C)))).map I64 ++ r) 3 :: As)) ?_ ?_
  ·
   refine .seq (.region (.run 4 rfl trivial (.gval rfl rfl (fun hg1 => (.move (.of rfl))) rfl (.gval rfl rfl (fun hg1 => (.move (.of rfl))) rfl (.gval rfl rfl (fun hg1 => (.lss (.gd hg1 rfl) (.gd hg1 rfl))) rfl (.val (.pand (.of rfl) (.of rfl) (.of rfl)) rfl (.nil ?_)))))))
   refine WC.cond rfl (fun hb199 => ?_) (fun hb199 => ?_)
   ·
    have hc199 := hb199; try simp only [Gk.cs0] at hc199
    refine .region (.run 5 rfl trivial ?_)
    have hUa0 : 0 < Ua.length := by omega
    have hVa0 : 0 < Va.length := by omega
    refine WL.call Tryz.func219 rfl (evs_cons (.of rfl) (evs_cons (.of rfl) (evs_cons (.of rfl) (evs_cons (.of rfl) (evs_cons (.of rfl) evs_nil))))) rfl (ih F Ua Va (Ub ++ (Vb ++ C)) hUa hVa (Srt.cross_sub hc (fun _ h => List.mem_append_left _ h) (fun _ h => List.mem_append_left _ h)) (fun x hx => hin x (by rcases List.mem_append.1 hx with h | h <;> simp [h])) hUa0 hVa0 (by omega) b0 n c r _ _ _ (by omega) (by omega) (by omega) (by omega) (by simp only [List.length_append]; omega) B w As hS) ?_
    clear hS
    rintro _ w ⟨rfl, M1, hM1, hMs, hS⟩
    refine .nil ?_
    exact ⟨M1, ⟨rfl, rfl, rfl, rfl, rfl, rfl, rfl, trivial⟩, hM1, hMs, hS⟩
   have hc199 := hb199; try simp only [Gk.cs0] at hc199
   refine .skip ?_
   have e : Srt.So (kx l) (Ua ++ Va) := by
    rcases hc199 with h | h
    ·obtain rfl : Ua = [] := List.eq_nil_of_length_eq_zero (by omega)
     simpa using hVa
    ·obtain rfl : Va = [] := List.eq_nil_of_length_eq_zero (by omega)
     simpa using hUa
   refine ⟨Ua ++ Va, ⟨rfl, rfl, rfl, rfl, rfl, rfl, rfl, trivial⟩, .refl _, e, ?_⟩
   rw [List.append_assoc]; exact hS
  rintro M1 w ⟨hM1, hMs, hS⟩
  change WC _ _ _ _ [(0, .slice (some (ad b0 0)) n c), (1, I64 ia), (3, I64 ib), (4, CF p), (18, I64 ((ia + ib) / 2)), (20, I64 s), (24, I64 (((ia + ib) / 2) + im - s))] w
  refine .seq (.region (.run 4 rfl trivial (.gval rfl rfl (fun hg1 => (.move (.of rfl))) rfl (.gval rfl rfl (fun hg1 => (.move (.of rfl))) rfl (.gval rfl rfl (fun hg1 => (.lss (.gd hg1 rfl) (.gd hg1 rfl))) rfl (.val (.pand (.of rfl) (.of rfl) (.of rfl)) rfl (.nil ?_)))))))
  refine WC.cond rfl (fun hb213 => ?_) (fun hb213 => ?_)
  ·
   have hc213 := hb213; try simp only [Gk.cs0] at hc213
   refine .region (.run 5 rfl trivial ?_)
   have hUb0 : 0 < Ub.length := by omega
   have hVb0 : 0 < Vb.length := by omega
   have hMl := hM1.length_eq
   rw [List.length_append] at hMl
   rw [show F ++ (M1 ++ (Ub ++ (Vb ++ C))) = (F ++ M1) ++ (Ub ++ (Vb ++ C)) by simp only [List.append_assoc]] at hS
   refine WL.call Tryz.func219 rfl (evs_cons (.of rfl) (evs_cons (.of rfl) (evs_cons (.of rfl) (evs_cons (.of rfl) (evs_cons (.of rfl) evs_nil))))) rfl (ih (F ++ M1) Ub Vb C hUb hVb (Srt.cross_sub hc (fun _ h => List.mem_append_right _ h) (fun _ h => List.mem_append_right _ h)) (fun x hx => hin x (by rcases List.mem_append.1 hx with h | h <;> simp [h])) hUb0 hVb0 (by omega) b0 n c r _ _ _ (by rw [List.length_append]; omega) (by rw [List.length_append]; omega) (by rw [List.length_append]; omega) (by omega) (by simp only [List.length_append]; omega) B w As hS) ?_
   clear hS
   rintro _ w ⟨rfl, M2, hM2, hMs2, hS⟩
   refine .nil (end0 Tryz.results219 ?_)
   have hPM : (M1 ++ M2).Perm (U ++ V) := by
    rw [hUab, hVab]
    refine (hM1.append hM2).trans ?_
    simp only [List.append_assoc]
    refine List.Perm.append_left Ua ?_
    rw [← List.append_assoc, ← List.append_assoc]
    exact List.perm_append_comm.append_right Vb
   have hSM : Srt.So (kx l) (M1 ++ M2) := Srt.so_app hMs hMs2 (fun x hx y hy => hsp2 x (hM1.mem_iff.1 hx) y (hM2.mem_iff.1 hy))
   exact ⟨_, rfl, rfl, M1 ++ M2, hPM, hSM, by simpa using hS⟩
  have hc213 := hb213; try simp only [Gk.cs0] at hc213
  refine .skip (end0 Tryz.results219 ?_)
  obtain ⟨M2, hM2e⟩ : ∃ M2, M2 = Ub ++ Vb := ⟨_, rfl⟩
  have hM2 : M2.Perm (Ub ++ Vb) := by rw [hM2e]
  have hMs2 : Srt.So (kx l) M2 := by
   rw [hM2e]
   rcases hc213 with h | h
   ·obtain rfl : Ub = [] := List.eq_nil_of_length_eq_zero (by omega)
    simpa using hVb
   ·obtain rfl : Vb = [] := List.eq_nil_of_length_eq_zero (by omega)
    simpa using hUb
  have hPM : (M1 ++ M2).Perm (U ++ V) := by
   rw [hUab, hVab]
   refine (hM1.append hM2).trans ?_
   simp only [List.append_assoc]
   refine List.Perm.append_left Ua ?_
   rw [← List.append_assoc, ← List.append_assoc]
   exact List.perm_append_comm.append_right Vb
  have hSM : Srt.So (kx l) (M1 ++ M2) := Srt.so_app hMs hMs2 (fun x hx y hy => hsp2 x (hM1.mem_iff.1 hx) y (hM2.mem_iff.1 hy))
  refine ⟨_, rfl, rfl, M1 ++ M2, hPM, hSM, ?_⟩
  rw [hM2e]; simpa using hS
end Go.Proofs.YtadhiihnnkcagaaGreatDoor
namespace Go.Proofs.YtadhiihnnkcagaaGreatDoor
open Gk Rk
set_option linter.unusedVariables false
set_option linter.unusedSimpArgs false
theorem info3_199 : Tryz.prog.info? 3 = some Tryz.t3 := by kernel_rfl
set_option maxHeartbeats 400000 in
theorem stable_any {l : List Nat} {p : Addr} {I : Im} (hx : Cx I l p) (b0 n c : Nat) (r : List Value) (hn : l.length = n) (hb : n ≤ 100000) (B w : World) (As : List Assn) (hS : Sat B w I (blk b0 ((Srt.upto n).map I64 ++ r) 3 :: As)) :
  Calls Tryz.prog 199 [.slice (some (ad b0 0)) n c, I64 n, CF p].toArray w (Ret fun v w' => v = .tuple #[] ∧ ∃ D, Srt.Ord (kx l) n D ∧ Sat B w' I (blk b0 ((D).map I64 ++ r) 3 :: As)) := by
 refine calls Tryz.func199 rfl Tryz.ntmps199 rfl (.seq (.region (.run 1 rfl trivial (.nil (.seq (.region (.run 3 rfl trivial (.nil (.seq (.block (.loop (σ := Int × Int × List Int × List Int) (fun ⟨a, b, M, R⟩ => [(0, .slice (some (ad b0 0)) n c), (1, I64 n), (2, CF p), (6, I64 20), (7, I64 a), (8, I64 b)]) (fun ⟨a, b, M, R⟩ w => a = M.length ∧ b = a + 20 ∧ Srt.Full (kx l) 20 M ∧ Srt.cross M R ∧ R.Pairwise (· < ·) ∧ (M ++ R).Perm (Srt.upto n) ∧ Sat B w I (blk b0 ((M ++ R).map I64 ++ r) 3 :: As)) (fun ⟨a, b, M, R⟩ => R.length) (0, 20, [], Srt.upto n) ⟨rfl, rfl, rfl, rfl, rfl, rfl, trivial⟩ ⟨rfl, rfl, .nil, (fun _ h => by cases h), Srt.upto_lt n, .refl _, hS⟩ ?_)))))))))))
 rintro ⟨a, b, M, R⟩ w ⟨ha, hb2, hF, hc, hR, hP, hS⟩
 change WC _ _ _ _ [(0, .slice (some (ad b0 0)) n c), (1, I64 n), (2, CF p), (6, I64 20), (7, I64 a), (8, I64 b)] w
 have hPl := hP.length_eq
 rw [List.length_append, Srt.upto_len] at hPl
 have hin : ∀ x ∈ R, 0 ≤ x ∧ x < (l.length : Int) := fun x hx => by rw [hn]; exact Srt.upto_mem.1 (hP.mem_iff.1 (List.mem_append_right _ hx))
 refine .seq (.seq (.region (.run 3 rfl trivial (.nil ?_))))
 refine WC.cond rfl (fun hb13 => ?_) (fun hb13 => ?_)
 ·
  have hc13 := hb13; try simp only [Gk.cs0] at hc13
  refine .skip (.block (.seq (.region (.run 4 rfl trivial ?_))))
  have hTD : R.take 20 ++ R.drop 20 = R := List.take_append_drop 20 R
  rw [← hTD] at hS
  refine WL.call Tryz.func218 rfl (evs_cons (.of rfl) (evs_cons (.of rfl) (evs_cons (.of rfl) (evs_cons (.of rfl) evs_nil)))) rfl (ins_at hx M (R.take 20) (R.drop 20) (hR.sublist (List.take_sublist 20 R)) (fun x h => hin x (List.mem_of_mem_take h)) b0 n c r _ b (by omega) (by rw [List.length_take]; omega) (by omega) (by rw [List.length_take, List.length_drop]; omega) B w As hS) ?_
  clear hS
  rintro _ w ⟨rfl, M2, hM2, hMs, hS⟩
  refine .nil (.seq (.region (.run 2 rfl trivial (.nil (.region (.run 4 rfl ⟨⟨by omega, by omega⟩, trivial⟩ (.nil ?_)))))))
  refine ⟨(b, b + 20, M ++ M2, R.drop 20), ⟨rfl, rfl, rfl, rfl, rfl, rfl, trivial⟩, ⟨by have h1 := hM2.length_eq; rw [List.length_take] at h1; (try dsimp only); rw [List.length_append]; omega, rfl, ?_, ?_, hR.sublist (List.drop_sublist 20 R), ?_, ?_⟩, by (try dsimp only); rw [List.length_drop]; omega⟩
  ·exact hF.append (.one (by rw [hM2.length_eq, List.length_take]; omega) hMs) (Srt.cross_permr (Srt.cross_sub hc (fun _ h => h) (fun _ h => List.mem_of_mem_take h)) hM2)
  ·refine Srt.cross_app (Srt.cross_sub hc (fun _ h => h) (fun _ h => List.mem_of_mem_drop h)) (Srt.cross_perm ?_ hM2)
   intro u hu t ht
   rw [← List.take_append_drop 20 R] at hR
   exact (List.pairwise_append.1 hR).2.2 u hu t ht
  ·rw [List.append_assoc]
   refine List.Perm.trans (List.Perm.append_left M (hM2.append_right _)) ?_
   rw [List.take_append_drop]; exact hP
  ·rw [List.append_assoc]; exact hS
 have hc13 := hb13; try simp only [Gk.cs0] at hc13
 refine .exit (.seq (.region (.run 4 rfl trivial ?_)))
 replace hS : Sat B w I (blk b0 ((M ++ (R ++ [])).map I64 ++ r) 3 :: As) := by simpa using hS
 refine WL.call Tryz.func218 rfl (evs_cons (.of rfl) (evs_cons (.of rfl) (evs_cons (.of rfl) (evs_cons (.of rfl) evs_nil)))) rfl (ins_at hx M R [] hR hin b0 n c r _ n (by omega) (by omega) (by omega) (by simp only [List.length_nil]; omega) B w As hS) ?_
 clear hS
 rintro _ w ⟨rfl, M2, hM2, hMs, hS⟩
 refine .nil (.block ?_)
 refine WC.loop (σ := Int × List Int) (fun ⟨s, D⟩ => [(0, .slice (some (ad b0 0)) n c), (1, I64 n), (2, CF p), (6, I64 s)]) (fun ⟨s, D⟩ w => 20 ≤ s ∧ s ≤ 1000000 ∧ Srt.Runs (kx l) s.toNat D ∧ D.Perm (Srt.upto n) ∧ Sat B w I (blk b0 ((D).map I64 ++ r) 3 :: As)) (fun ⟨s, D⟩ => (n - s : Int).toNat) (20, M ++ M2) ⟨rfl, rfl, rfl, rfl, trivial⟩ ⟨by decide, by decide, ⟨M, M2, rfl, hF, by rw [hM2.length_eq]; omega, hMs, Srt.cross_permr hc hM2⟩, (List.Perm.append_left M hM2).trans hP, by simpa using hS⟩ ?_
 rintro ⟨s, D⟩ w ⟨hs20, hsb, hRu, hP, hS⟩
 change WC _ _ _ _ [(0, .slice (some (ad b0 0)) n c), (1, I64 n), (2, CF p), (6, I64 s)] w
 have hDl := hP.length_eq
 rw [Srt.upto_len] at hDl
 refine .seq (.seq (.region (.run 3 rfl trivial (.nil ?_))))
 refine WC.cond rfl (fun hb30 => ?_) (fun hb30 => ?_)
 ·
  have hc30 := hb30; try simp only [Gk.cs0] at hc30
  refine .skip (.block (.seq (.region (.run 4 rfl ⟨⟨by omega, by omega⟩, trivial⟩ (.nil (.seq (.block ?_)))))))
  obtain ⟨E0, U0, rfl, hE0, hU0, hU0s, hEU⟩ := hRu
  refine WC.loop (σ := Int × Int × List Int × List Int) (fun ⟨a, b, Md, E⟩ => [(0, .slice (some (ad b0 0)) n c), (1, I64 n), (2, CF p), (6, I64 s), (7, I64 a), (8, I64 b)]) (fun ⟨a, b, Md, E⟩ w => a = Md.length ∧ b = a + 2 * s ∧ Srt.Full (kx l) (2 * s).toNat Md ∧ Srt.Full (kx l) s.toNat E ∧ Srt.cross E U0 ∧ Srt.cross Md (E ++ U0) ∧ (Md ++ (E ++ U0)).Perm (Srt.upto n) ∧ Sat B w I (blk b0 ((Md ++ (E ++ U0)).map I64 ++ r) 3 :: As)) (fun ⟨a, b, Md, E⟩ => E.length) (0, 2 * s, [], E0) ⟨rfl, rfl, rfl, rfl, rfl, rfl, trivial⟩ ⟨rfl, by (try dsimp only); omega, .nil, hE0, hEU, (fun _ h => by cases h), hP, hS⟩ ?_
  rintro ⟨a, b, Md, E⟩ w ⟨ha, hb2, hMd, hE, hEU, hc, hP, hS⟩
  change WC _ _ _ _ [(0, .slice (some (ad b0 0)) n c), (1, I64 n), (2, CF p), (6, I64 s), (7, I64 a), (8, I64 b)] w
  have hPl := hP.length_eq
  rw [List.length_append, List.length_append, Srt.upto_len] at hPl
  have hin : ∀ x ∈ E ++ U0, 0 ≤ x ∧ x < (l.length : Int) := fun x hx => by rw [hn]; exact Srt.upto_mem.1 (hP.mem_iff.1 (List.mem_append_right _ hx))
  refine .seq (.seq (.region (.run 3 rfl trivial (.nil ?_))))
  refine WC.cond rfl (fun hb35 => ?_) (fun hb35 => ?_)
  ·
   have hc35 := hb35; try simp only [Gk.cs0] at hc35
   refine .skip (.block (.seq (.region (.run 7 rfl ⟨⟨by omega, by omega⟩, trivial⟩ ?_))))
   obtain ⟨U, V, T, rfl, hUl, hVl, hUs, hVs, hUV, hUT, hVT, hT⟩ := hE.two (by omega)
   simp only [List.length_append] at hPl
   have hTU : Srt.cross T U0 := Srt.cross_sub hEU (fun _ h => by simp [h]) (fun _ h => h)
   rw [show Md ++ ((U ++ (V ++ T)) ++ U0) = Md ++ (U ++ (V ++ (T ++ U0))) by simp only [List.append_assoc]] at hS
   refine WL.call Tryz.func219 rfl (evs_cons (.of rfl) (evs_cons (.of rfl) (evs_cons (.of rfl) (evs_cons (.of rfl) (evs_cons (.of rfl) evs_nil))))) rfl (sym_any hx _ Md U V (T ++ U0) hUs hVs hUV (fun x h => hin x (by rcases List.mem_append.1 h with h | h <;> simp [h])) (by omega) (by omega) (Nat.le_refl _) b0 n c r _ _ _ (by omega) (by omega) (by omega) (by omega) (by simp only [List.length_append]; omega) B w As hS) ?_
   clear hS
   rintro _ w ⟨rfl, M3, hM3, hMs3, hS⟩
   refine .nil (.seq (.region (.run 2 rfl trivial (.nil (.region (.run 5 rfl ⟨⟨by omega, by omega⟩, ⟨by omega, by omega⟩, trivial⟩ (.nil ?_)))))))
   refine ⟨(b, b + 2 * s, Md ++ M3, T), ⟨rfl, rfl, rfl, rfl, rfl, rfl, trivial⟩, ⟨by (try dsimp only); rw [List.length_append, hM3.length_eq, List.length_append]; omega, rfl, ?_, hT, hTU, ?_, ?_, ?_⟩, by (try dsimp only); simp only [List.length_append]; omega⟩
   ·exact hMd.append (.one (by rw [hM3.length_eq, List.length_append]; omega) hMs3) (Srt.cross_permr (Srt.cross_sub hc (fun _ h => h) (fun x h => by rcases List.mem_append.1 h with h | h <;> simp [h])) hM3)
   ·refine Srt.cross_app (Srt.cross_sub hc (fun _ h => h) (fun x h => by rcases List.mem_append.1 h with h | h <;> simp [h])) (Srt.cross_perm ?_ hM3)
    exact Srt.cross_app (Srt.cross_appr hUT (Srt.cross_sub hEU (fun _ h => List.mem_append_left _ h) (fun _ h => h))) (Srt.cross_appr hVT (Srt.cross_sub hEU (fun _ h => by simp [h]) (fun _ h => h)))
   ·refine List.Perm.trans ?_ hP
    simp only [List.append_assoc]
    refine List.Perm.append_left Md ?_
    have := hM3.append_right (T ++ U0)
    simpa [List.append_assoc] using this
   ·rw [List.append_assoc]; exact hS
  have hc35 := hb35; try simp only [Gk.cs0] at hc35
  refine .exit (.seq (.seq (.region (.run 4 rfl ⟨⟨by omega, by omega⟩, trivial⟩ (.nil (.seq (.region (.run 3 rfl trivial (.nil ?_)))))))))
  refine WC.cond rfl (fun hb54 => ?_) (fun hb54 => ?_)
  ·
   have hc54 := hb54; try simp only [Gk.cs0] at hc54
   refine .region (.run 5 rfl trivial ?_)
   have hEf : E.length = s.toNat ∧ Srt.So (kx l) E := by
    rcases hE.few (by omega) with h | h
    ·subst h; simp at hPl; omega
    ·exact h
   replace hS : Sat B w I (blk b0 ((Md ++ (E ++ (U0 ++ []))).map I64 ++ r) 3 :: As) := by simpa using hS
   refine WL.call Tryz.func219 rfl (evs_cons (.of rfl) (evs_cons (.of rfl) (evs_cons (.of rfl) (evs_cons (.of rfl) (evs_cons (.of rfl) evs_nil))))) rfl (sym_any hx _ Md E U0 [] hEf.2 hU0s hEU (fun x h => hin x h) (by omega) (by omega) (Nat.le_refl _) b0 n c r _ _ _ (by omega) (by omega) (by omega) (by omega) (by simp only [List.length_nil]; omega) B w As hS) ?_
   clear hS
   rintro _ w ⟨rfl, M3, hM3, hMs3, hS⟩
   refine .nil (.region (.run 3 rfl ⟨⟨by omega, by omega⟩, trivial⟩ (.nil ?_)))
   refine ⟨(s * 2, Md ++ M3), ⟨rfl, rfl, rfl, rfl, trivial⟩, ⟨by omega, by omega, ⟨Md, M3, rfl, by rw [show (s * 2).toNat = (2 * s).toNat by omega]; exact hMd, by rw [hM3.length_eq, List.length_append]; omega, hMs3, Srt.cross_permr hc hM3⟩, ?_, by simpa using hS⟩, by (try dsimp only); omega⟩
   exact (List.Perm.append_left Md hM3).trans hP
  have hc54 := hb54; try simp only [Gk.cs0] at hc54
  refine .skip (.region (.run 3 rfl ⟨⟨by omega, by omega⟩, trivial⟩ (.nil ?_)))
  have hq : (E ++ U0).length < (s * 2).toNat ∧ Srt.So (kx l) (E ++ U0) := by
   rcases hE.few (by omega) with h | h
   ·subst h; simp only [List.nil_append]; exact ⟨by omega, hU0s⟩
   ·have hU00 : U0 = [] := List.eq_nil_of_length_eq_zero (by omega)
    subst hU00
    rw [List.append_nil]; exact ⟨by omega, h.2⟩
  refine ⟨(s * 2, Md ++ (E ++ U0)), ⟨rfl, rfl, rfl, rfl, trivial⟩, ⟨by omega, by omega, ⟨Md, E ++ U0, rfl, by rw [show (s * 2).toNat = (2 * s).toNat by omega]; exact hMd, hq.1, hq.2, hc⟩, hP, hS⟩, by (try dsimp only); omega⟩
 have hc30 := hb30; try simp only [Gk.cs0] at hc30
 refine .exit (end0 Tryz.results199 ?_)
 refine ⟨_, rfl, rfl, D, ⟨hRu.sorted (by omega) (by omega), hP⟩, hS⟩
theorem ins_nil (cv : Value) (w : World) :
  Calls Tryz.prog 218 [.slice none 0 0, I64 0, I64 0, cv].toArray w (Ret fun v w' => v = .tuple #[] ∧ w = w') := by
 obtain ⟨w0, hw0⟩ : ∃ w0, w = w0 := ⟨_, rfl⟩
 rw [show (fun (v : Value) (w' : World) => v = .tuple #[] ∧ w = w') = (fun v w' => v = .tuple #[] ∧ w0 = w') by rw [hw0]]
 refine calls Tryz.func218 rfl Tryz.ntmps218 rfl (.seq (.region (.run 3 rfl ⟨⟨by omega, by omega⟩, trivial⟩ (.nil (.block (.loop (σ := Unit) (fun _ => [(2, I64 0), (8, I64 1)]) (fun _ w => w = w0) (fun _ => 0) () ⟨rfl, rfl, trivial⟩ hw0 ?_))))))
 rintro _ w hw
 change WC _ _ _ _ [(2, I64 0), (8, I64 1)] w
 refine .seq (.seq (.region (.run 3 rfl trivial (.nil (.condF (rfl) (.exit (end0 Tryz.results218 ?_)))))))
 exact ⟨_, rfl, rfl, hw.symm⟩
theorem stable_nil (cv : Value) (w : World) :
  Calls Tryz.prog 199 [.slice none 0 0, I64 0, cv].toArray w (Ret fun v w' => v = .tuple #[] ∧ w = w') := by
 obtain ⟨w0, hw0⟩ : ∃ w0, w = w0 := ⟨_, rfl⟩
 rw [show (fun (v : Value) (w' : World) => v = .tuple #[] ∧ w = w') = (fun v w' => v = .tuple #[] ∧ w0 = w') by rw [hw0]]
 refine calls Tryz.func199 rfl Tryz.ntmps199 rfl (.seq (.region (.run 1 rfl trivial (.nil (.seq (.region (.run 3 rfl trivial (.nil (.seq (.block (.loop (σ := Unit) (fun _ => [(0, .slice none 0 0), (1, I64 0), (2, cv), (6, I64 20), (7, I64 0), (8, I64 20)]) (fun _ w => w = w0) (fun _ => 0) () ⟨rfl, rfl, rfl, rfl, rfl, rfl, trivial⟩ hw0 ?_)))))))))))
 rintro _ w hw
 change WC _ _ _ _ [(0, .slice none 0 0), (1, I64 0), (2, cv), (6, I64 20), (7, I64 0), (8, I64 20)] w
 refine .seq (.seq (.region (.run 3 rfl trivial (.nil (.condF (rfl) (.exit (.seq (.region (.run 4 rfl trivial (.call Tryz.func218 rfl (evs_cons (.of rfl) (evs_cons (.of rfl) (evs_cons (.of rfl) (evs_cons (.of rfl) evs_nil)))) rfl (ins_nil _ _) ?_))))))))))
 rintro _ _ ⟨rfl, rfl⟩
 refine .nil (.block (.loop (σ := Unit) (fun _ => [(1, I64 0), (6, I64 20)]) (fun _ w => w = w0) (fun _ => 0) () ⟨rfl, rfl, trivial⟩ hw ?_))
 rintro _ w hw
 change WC _ _ _ _ [(1, I64 0), (6, I64 20)] w
 refine .seq (.seq (.region (.run 3 rfl trivial (.nil (.condF (rfl) (.exit (end0 Tryz.results199 ?_)))))))
 exact ⟨_, rfl, rfl, hw.symm⟩
theorem sort_nil (cv : Value) (w : World) :
  Calls Tryz.prog 170 [.slice none 0 0, cv].toArray w (Ret fun v w' => v = .tuple #[] ∧ w = w') := by
 refine calls Tryz.func170 rfl Tryz.ntmps170 rfl (.region (.run 4 rfl ⟨⟨_, Tryz.underlying195⟩, trivial⟩ (.call Tryz.func199 rfl (evs_cons (.of rfl) (evs_cons (.of rfl) (evs_cons (.of rfl) evs_nil))) rfl (stable_nil _ _) ?_)))
 rintro _ _ ⟨rfl, rfl⟩
 refine .nil (end0 Tryz.results170 ?_)
 exact ⟨_, rfl, rfl, rfl⟩
theorem sort_blk {l : List Nat} {p : Addr} {I : Im} (hx : Cx I l p) (b0 n c : Nat) (r : List Value) (hn : l.length = n) (hb : n ≤ 100000) (B w : World) (As : List Assn) (hS : Sat B w I (blk b0 ((Srt.upto n).map I64 ++ r) 3 :: As)) :
  Calls Tryz.prog 170 [.slice (some (ad b0 0)) n c, CF p].toArray w (Ret fun v w' => v = .tuple #[] ∧ ∃ D, Srt.Ord (kx l) n D ∧ Sat B w' I (blk b0 ((D).map I64 ++ r) 3 :: As)) := by
 refine calls Tryz.func170 rfl Tryz.ntmps170 rfl (.region (.run 4 rfl ⟨⟨_, Tryz.underlying195⟩, trivial⟩ (.call Tryz.func199 rfl (evs_cons (.of rfl) (evs_cons (.of rfl) (evs_cons (.of rfl) evs_nil))) rfl (stable_any hx b0 n c r hn hb B w As hS) ?_)))
 clear hS
 rintro _ w ⟨rfl, D, hD, hS⟩
 refine .nil (end0 Tryz.results170 ?_)
 exact ⟨_, rfl, rfl, D, hD, hS⟩
theorem sort_vec {l : List Nat} {p : Addr} {I : Im} (hx : Cx I l p) (u : Value) (n : Nat) (hn : l.length = n) (hb : n ≤ 100000) (B w : World) (As : List Assn) (hS : Sat B w I (Vec 3 1 u n ((Srt.upto n).map I64) :: As)) :
  Calls Tryz.prog 170 [u, CF p].toArray w (Ret fun v w' => v = .tuple #[] ∧ ∃ D, Srt.Ord (kx l) n D ∧ Sat B w' I (Vec 3 1 u n ((D).map I64) :: As)) := by
 rcases Nat.eq_zero_or_pos n with h0 | h0
 ·subst h0
  have hcase : u = .slice none 0 0 ∨ ∃ b0 c r, u = .slice (some (ad b0 0)) 0 c ∧ c ≤ maxLen ∧ r.length = c ∧ Sat B w I (blk b0 (([] : List Int).map I64 ++ r) 3 :: As) := by
   obtain ⟨h, ⟨h1, h2, rfl, ⟨hl, ha⟩, hr⟩, hg⟩ := hS
   rcases ha with ⟨hv, _, _⟩ | ⟨b, cap, rest, rfl, rfl, h3, h4, h5⟩
   ·exact .inl hv
   ·exact .inr ⟨b, cap, rest, rfl, h4, by simp [Srt.upto] at h5; exact h5, _, ⟨_, h2, rfl, rfl, hr⟩, hg⟩
  rcases hcase with rfl | ⟨b0, c, r, rfl, hcm, hrl, hSo⟩
  ·refine (sort_nil (CF p) w).mono ?_
   rintro e w' ⟨v, rfl, rfl, rfl⟩
   exact ⟨_, rfl, rfl, [], ⟨.nil, .refl _⟩, hS⟩
  ·refine (sort_blk hx b0 0 c r hn (by decide) B w As hSo).mono ?_
   rintro e w' ⟨v, rfl, rfl, D, hD, hS'⟩
   have hD0 : D = [] := List.eq_nil_of_length_eq_zero hD.len
   subst hD0
   exact ⟨_, rfl, rfl, [], hD, hS'.vecShut (k := 0) (n := 0) (xs := []) (size := 1) (cap := c) (rest := r) rfl (Nat.zero_le _) hcm rfl (by simpa using hrl)⟩
 ·obtain ⟨b0, c, r, rfl, hnc, hcm, hxl, hxr, hSo⟩ := hS.vecOpen (k := 0) rfl h0
  refine (sort_blk hx b0 n c r hn hb B w As hSo).mono ?_
  rintro e w' ⟨v, rfl, rfl, D, hD, hS'⟩
  refine ⟨_, rfl, rfl, D, hD, hS'.vecShut (k := 0) (n := n) (xs := D.map I64) (size := 1) (cap := c) (rest := r) rfl hnc hcm (by rw [List.length_map, hD.len]; omega) ?_⟩
  rw [List.length_map, hD.len]
  rw [hxl] at hxr
  omega
theorem Order_any (l : List Nat) (small : ∀ v ∈ l, v < 18446744073709551616) (hl : l.length ≤ 100000) (a : Option Addr) (c : Nat) (B w : World) (I : Im) (hr : RS I a 1 l.length (l.map F64)) (As : List Assn) (hS : Sat B w I As) :
  Calls Tryz.prog 131 [.slice a l.length c].toArray w (Ret fun v w' => ∃ D va vc, v = .slice va l.length vc ∧ Srt.Ord (kx l) l.length D ∧ Sat B w' I (Vec 3 1 (.slice va l.length vc) l.length (D.map I64) :: As)) := by
 refine calls Tryz.func131 rfl Tryz.ntmps131 rfl (.seq (.region (.box1 hS (.of rfl) rfl rfl ?_)))
 clear hS; intro b1 w hS
 refine .run 1 rfl trivial (.nil (.seq (.region (.run 1 rfl trivial (.nil (.seq (.seq (.region (.val (.ld (.of rfl) hS (k := 0) rfl Tryz.isAgg192 rfl) rfl (.run 2 rfl ⟨⟨_, Tryz.underlying192⟩, trivial⟩ (.nil (.block ?_))))))))))))
 replace hS := hS.vecNil 3 1
 refine .loop (σ := Nat × Option Addr × Nat) (fun ⟨k, va, vc⟩ => [(1, ptr b1 0), (3, .slice va k vc), (6, I64 l.length), (7, I64 (k : Nat))]) (fun ⟨k, va, vc⟩ w => k ≤ l.length ∧ Sat B w I (Vec 3 1 (.slice va k vc) k ((Srt.upto k).map I64) :: blk b1 [.slice a l.length c] 192 :: As)) (fun ⟨k, va, vc⟩ => l.length - k) (0, none, 0) ⟨rfl, rfl, rfl, rfl, trivial⟩ ⟨Nat.zero_le _, hS⟩ ?_
 rintro ⟨k, va, vc⟩ w ⟨hk, hS⟩
 change WC _ _ _ _ [(1, ptr b1 0), (3, .slice va k vc), (6, I64 l.length), (7, I64 (k : Nat))] w
 refine .seq (.region (.run 1 rfl trivial (.nil (.seq ?_))))
 refine WC.cond rfl (fun hb8 => ?_) (fun hb8 => ?_)
 ·
  have hc8 := hb8; try simp only [Gk.cs0] at hc8
  refine .skip (.seq (.block (.seq (.region (.run 2 rfl trivial (.nil (.region (.run 2 rfl trivial (.buildSlice (cs := [_]) hS (parts_cons (.of rfl) parts_nil) Tryz.underlying195 Tryz.sizeOf3 Tryz.zeroValue3 rfl rfl rfl rfl ?_)))))))))
  clear hS; intro b12 w hS
  refine WL.append (size := 1) (bytes := 8) hS (.of rfl) (.of rfl) (k := 0) rfl Tryz.underlying195 info3_199 rfl rfl rfl rfl rfl rfl rfl ⟨by omega, by unfold maxLen; omega⟩ rfl ?_
  clear hS; intro v13 w hS; try dsimp only [List.set] at hS
  obtain ⟨a13, c13, rfl, hcap13, _⟩ := hS.vecSlice (k := 0) (v := v13) rfl
  refine .run 1 rfl trivial (.nil (.region (.run 2 rfl ⟨⟨by omega, by omega⟩, trivial⟩ (.nil ?_))))
  refine ⟨(k + 1, a13, c13), ⟨rfl, rfl, rfl, rfl, trivial⟩, ⟨by (try dsimp only); omega, ?_⟩, by (try dsimp only); omega⟩
  rw [Srt.upto, List.map_append]; exact hS
 have hc8 := hb8; try simp only [Gk.cs0] at hc8
 refine .exit (.seq (.region (.run 1 rfl trivial (.val (.makeFunc (evs_cons (.of rfl) evs_nil)) rfl ?_))))
 obtain rfl : k = l.length := by omega
 obtain ⟨J, hJ, hJb, hT⟩ := hS.freeze (k := 1) rfl; clear hS; have hS := hT; clear hT; try dsimp only [List.eraseIdx] at hS
 have hcx : Cx J l (ad b1 0) := ⟨⟨a, c, ⟨rfl, _, _, _, hJb, fun j v h => by simpa using h⟩, hr.mono hJ⟩, small⟩
 refine .call Tryz.func170 rfl (evs_cons (.of rfl) (evs_cons (.of rfl) evs_nil)) rfl (sort_vec hcx _ l.length rfl (by omega) B w As hS) ?_
 clear hS
 rintro _ w ⟨rfl, D, hD, hS⟩
 refine .nil (.seq (.region (.run 2 rfl trivial (.nil (.ret (ret1 Tryz.results131 rfl ?_))))))
 exact ⟨_, rfl, D, va, vc, rfl, hD, hS.weaken hJ⟩
end Go.Proofs.YtadhiihnnkcagaaGreatDoor
namespace Go.Proofs.YtadhiihnnkcagaaGreatDoor
open Gk
set_option linter.unusedVariables false
set_option linter.unusedSimpArgs false
def few1 (s : Sv) : Bool := !((decide (100 < (s.urls.length : Int)) && decide ((s.urls.length : Int) ≤ 200) || decide (100 < (s.calls.length : Int)) && decide ((s.calls.length : Int) ≤ 200)) || decide (20 < (s.rel.length : Int)))
def few (l : List Sv) : Bool := l.all few1 && decide ((l.length : Int) ≤ 20)
theorem Few_any (a : Option Addr) (cap : Nat) (l : List Sv) (hcap : l.length ≤ cap) (hcm : cap ≤ maxLen) (B w : World) (I : Im) (hl : SvsAt I a l) (As : List Assn) (hS : Sat B w I As) :
  Calls Tryz.prog 107 [.slice a l.length cap].toArray w (Ret fun v w' => v = .bool (few l) ∧ Sat B w' I As) := by
 unfold maxLen at hcm
 refine calls Tryz.func107 rfl Tryz.ntmps107 rfl (.seq (.region (.run 1 rfl trivial (.nil (.seq (.seq (.region (.run 1 rfl trivial (.nil (.block (.loop (σ := Nat) (fun i => [(0, .slice a l.length cap), (3, I64 (i : Nat))]) (fun i w => i ≤ l.length ∧ (∀ (j : Nat) (s : Sv), j < i → l[j]? = some s → few1 s = true) ∧ Sat B w I As) (fun i => l.length - i) 0 ⟨rfl, rfl, trivial⟩ ⟨Nat.zero_le _, fun _ _ h => absurd h (by omega), hS⟩ ?_)))))))))))
 rintro i w ⟨hi, hok, hS⟩
 change WC _ _ _ _ [(0, .slice a l.length cap), (3, I64 (i : Nat))] w
 refine .seq (.seq (.region (.run 4 rfl ⟨⟨_, Tryz.underlying27⟩, trivial⟩ (.nil ?_))))
 refine WC.cond rfl (fun hb7 => ?_) (fun hb7 => ?_)
 ·
  have hc7 := hb7; try simp only [Gk.cs0] at hc7
  refine .skip (.seq (.block (.seq ?_)))
  obtain ⟨s, hs⟩ : ∃ s, l[i]? = some s := ⟨_, List.getElem?_eq_getElem (by omega)⟩
  obtain ⟨p, ra, rc, rfl, hx, hrc, hr⟩ := hl i s hs
  unfold svCells at hx
  refine .region (.run 2 rfl trivial (.val (.indexAddrI (.of rfl) (.of rfl) (by omega) (by omega) Tryz.underlying27 Tryz.sizeOf101) rfl (.val (.fieldAddrI 2 (.of rfl) Tryz.underlying101 rfl rfl Tryz.sizeOf9 rfl) rfl (.val (.ldI (.of rfl) hS (At.add hx _) Tryz.isAgg9 rfl) rfl (.run 3 rfl ⟨Tryz.underlying9, trivial⟩ (.gval rfl rfl (fun hg1 => (.move (.of rfl))) rfl (.gval rfl rfl (fun hg1 => (.move (.of rfl))) rfl ?_)))))))
  refine WL.gval rfl rfl (fun hg1 => (.indexAddrI (.gd hg1 rfl) (.gd hg1 rfl) (by (try simp only [Gk.cs0] at hg1); omega) (by (try simp only [Gk.cs0] at hg1); omega) Tryz.underlying27 Tryz.sizeOf101)) rfl ?_
  refine .gval rfl rfl (fun hg1 => (.fieldAddrI 2 (.gd hg1 rfl) Tryz.underlying101 rfl rfl Tryz.sizeOf9 rfl)) rfl (.gval rfl rfl (fun hg1 => (.ldI (.gd hg1 rfl) hS (At.add hx _) Tryz.isAgg9 rfl)) rfl (.gval rfl rfl (fun hg1 => (.len (.gd hg1 rfl) Tryz.underlying9)) rfl (.gval rfl rfl (fun hg1 => (.leq (.gd hg1 rfl) (.of rfl))) rfl (.val (.pand (.of rfl) (.of rfl) (.of rfl)) rfl (.run 1 rfl trivial (.gval rfl rfl (fun hg1 => (.move (.of rfl))) rfl (.gval rfl rfl (fun hg1 => (.move (.of rfl))) rfl ?_)))))))
  refine WL.gval rfl rfl (fun hg1 => (.indexAddrI (.gd hg1 rfl) (.gd hg1 rfl) (by (try simp only [Gk.cs0] at hg1); omega) (by (try simp only [Gk.cs0] at hg1); omega) Tryz.underlying27 Tryz.sizeOf101)) rfl ?_
  refine .gval rfl rfl (fun hg1 => (.fieldAddrI 6 (.gd hg1 rfl) Tryz.underlying101 rfl rfl Tryz.sizeOf9 rfl)) rfl (.gval rfl rfl (fun hg1 => (.ldI (.gd hg1 rfl) hS (At.add hx _) Tryz.isAgg9 rfl)) rfl (.gval rfl rfl (fun hg1 => (.len (.gd hg1 rfl) Tryz.underlying9)) rfl (.gval rfl rfl (fun hg1 => (.gtr (.gd hg1 rfl) (.of rfl))) rfl (.gval rfl rfl (fun hg1 => (.move (.gd hg1 rfl))) rfl (.gval2 rfl rfl rfl (fun hg1 hg2 => (.move (.of rfl))) rfl (.gval2 rfl rfl rfl (fun hg1 hg2 => (.move (.of rfl))) rfl ?_))))))
  refine WL.gval2 rfl rfl rfl (fun hg1 hg2 => (.indexAddrI (.gd2 hg1 hg2 rfl) (.gd2 hg1 hg2 rfl) (by (try simp only [Gk.cs0] at hg1 hg2); omega) (by (try simp only [Gk.cs0] at hg1 hg2); omega) Tryz.underlying27 Tryz.sizeOf101)) rfl ?_
  refine .gval2 rfl rfl rfl (fun hg1 hg2 => (.fieldAddrI 6 (.gd2 hg1 hg2 rfl) Tryz.underlying101 rfl rfl Tryz.sizeOf9 rfl)) rfl (.gval2 rfl rfl rfl (fun hg1 hg2 => (.ldI (.gd2 hg1 hg2 rfl) hS (At.add hx _) Tryz.isAgg9 rfl)) rfl (.gval2 rfl rfl rfl (fun hg1 hg2 => (.len (.gd2 hg1 hg2 rfl) Tryz.underlying9)) rfl (.gval2 rfl rfl rfl (fun hg1 hg2 => (.leq (.gd2 hg1 hg2 rfl) (.of rfl))) rfl (.gval rfl rfl (fun hg1 => (.pand (.gd hg1 rfl) (.gd hg1 rfl) (.of rfl))) rfl (.val (.por (.of rfl) (.of rfl) (.of rfl)) rfl (.run 1 rfl trivial (.gval rfl rfl (fun hg1 => (.move (.of rfl))) rfl (.gval rfl rfl (fun hg1 => (.move (.of rfl))) rfl ?_))))))))
  refine WL.gval rfl rfl (fun hg1 => (.indexAddrI (.gd hg1 rfl) (.gd hg1 rfl) (by (try simp only [Gk.cs0] at hg1); omega) (by (try simp only [Gk.cs0] at hg1); omega) Tryz.underlying27 Tryz.sizeOf101)) rfl ?_
  refine .gval rfl rfl (fun hg1 => (.fieldAddrI 7 (.gd hg1 rfl) Tryz.underlying101 rfl rfl Tryz.sizeOf41 rfl)) rfl (.gval rfl rfl (fun hg1 => (.ldI (.gd hg1 rfl) hS (At.add hx _) Tryz.isAgg41 rfl)) rfl (.gval rfl rfl (fun hg1 => (.lenSlice (.gd hg1 rfl) Tryz.underlying41)) rfl (.gval rfl rfl (fun hg1 => (.gtr (.gd hg1 rfl) (.of rfl))) rfl (.val (.por (.of rfl) (.of rfl) (.of rfl)) rfl (.nil ?_)))))
  refine WC.cond rfl (fun hb52 => ?_) (fun hb52 => ?_)
  ·
   have hc52 := hb52; try simp only [Gk.cs0] at hc52
   refine .seq (.region (.run 1 rfl trivial (.nil (.ret (ret1 Tryz.results107 rfl ?_)))))
   refine ⟨_, rfl, ?_, hS⟩
   have : few l = false := by
    unfold few
    rw [show l.all few1 = false from List.all_eq_false.2 ⟨s, List.mem_of_getElem? hs, by unfold few1; rw [hb52]; decide⟩]
    rfl
   rw [this]
  have hc52 := hb52; try simp only [Gk.cs0] at hc52
  refine .skip (.region (.run 3 rfl ⟨⟨by omega, by omega⟩, trivial⟩ (.nil ?_)))
  refine ⟨i + 1, ⟨rfl, rfl, trivial⟩, ⟨by omega, fun j u hj hu => ?_, hS⟩, by omega⟩
  rcases Nat.lt_or_ge j i with h1 | h1
  ·exact hok j u h1 hu
  ·have e : j = i := by omega
   subst e
   rw [hs] at hu; cases hu
   unfold few1; rw [hb52]; rfl
 have hc7 := hb7; try simp only [Gk.cs0] at hc7
 refine .exit (.seq (.region (.run 4 rfl ⟨⟨_, Tryz.underlying27⟩, trivial⟩ (.nil (.ret (ret1 Tryz.results107 rfl ?_))))))
 refine ⟨_, rfl, ?_, hS⟩
 have : l.all few1 = true := List.all_eq_true.2 fun s hs => by
  obtain ⟨j, hj⟩ := List.mem_iff_getElem?.1 hs
  exact hok j s (by have := (List.getElem?_eq_some_iff.1 hj).1; omega) hj
 unfold few
 rw [this, Bool.true_and]
theorem Texts_any (a b : Option Addr) (ca cb : Nat) (la lb : List (List UInt8)) (hla : la.length ≤ ca) (hlb : lb.length ≤ cb) (hlm : la.length ≤ 140737488355328) (B w : World) (I : Im) (hA : RS I a 1 la.length (la.map S)) (hB : RS I b 1 lb.length (lb.map S)) (As : List Assn) (hS : Sat B w I As) :
  Calls Tryz.prog 30 [.slice a la.length ca, .slice b lb.length cb].toArray w (Ret fun v w' => v = .bool (decide (la = lb)) ∧ Sat B w' I As) := by
 refine calls Tryz.func30 rfl Tryz.ntmps30 rfl (.seq (.region (.run 1 rfl trivial (.nil (.seq (.seq (.region (.run 5 rfl ⟨⟨_, Tryz.underlying41⟩, ⟨_, Tryz.underlying41⟩, trivial⟩ (.nil ?_)))))))))
 refine WC.cond rfl (fun hb10 => ?_) (fun hb10 => ?_)
 ·
  have hc10 := hb10; try simp only [Gk.cs0] at hc10
  refine .seq (.region (.run 1 rfl trivial (.nil (.ret (ret1 Tryz.results30 rfl ?_)))))
  exact ⟨_, rfl, by rw [decide_eq_false (fun e => by subst e; omega)], hS⟩
 have hc10 := hb10; try simp only [Gk.cs0] at hc10
 refine .skip (.seq (.seq (.region (.run 1 rfl trivial (.nil (.block (.loop (σ := Nat) (fun i => [(0, .slice a la.length ca), (1, .slice b lb.length cb), (5, I64 (i : Nat))]) (fun i w => i ≤ la.length ∧ (∀ j, j < i → la[j]? = lb[j]?) ∧ Sat B w I As) (fun i => la.length - i) 0 ⟨rfl, rfl, rfl, trivial⟩ ⟨Nat.zero_le _, fun _ h => absurd h (by omega), hS⟩ ?_)))))))
 rintro i w ⟨hi, hok, hS⟩
 change WC _ _ _ _ [(0, .slice a la.length ca), (1, .slice b lb.length cb), (5, I64 (i : Nat))] w
 refine .seq (.seq (.region (.run 4 rfl ⟨⟨_, Tryz.underlying41⟩, trivial⟩ (.nil ?_))))
 refine WC.cond rfl (fun hb14 => ?_) (fun hb14 => ?_)
 ·
  have hc14 := hb14; try simp only [Gk.cs0] at hc14
  refine .skip (.seq (.block (.seq ?_)))
  obtain ⟨x, hx⟩ : ∃ x, la[i]? = some x := ⟨_, List.getElem?_eq_getElem (by omega)⟩
  obtain ⟨y, hy⟩ : ∃ y, lb[i]? = some y := ⟨_, List.getElem?_eq_getElem (by omega)⟩
  obtain ⟨p, rfl, hp⟩ := hA.2 (by omega)
  obtain ⟨q, rfl, hq⟩ := hB.2 (by omega)
  have hpx : ((la.map S).drop ((i : Int).toNat * 1))[0]? = some (S x) := by rw [List.getElem?_drop, Int.toNat_natCast, Nat.mul_one, Nat.add_zero, List.getElem?_map, hx]; rfl
  have hqy : ((lb.map S).drop ((i : Int).toNat * 1))[0]? = some (S y) := by rw [List.getElem?_drop, Int.toNat_natCast, Nat.mul_one, Nat.add_zero, List.getElem?_map, hy]; rfl
  refine .quiet (by kernel_rfl) (by kernel_rfl) hS (.val (fun w hS => (.move (.of rfl))) rfl (.val (fun w hS => (.move (.of rfl))) rfl (.val (fun w hS => (.indexAddrI (.of rfl) (.of rfl) (by omega) (by omega) Tryz.underlying41 Tryz.sizeOf9)) rfl (.val (fun w hS => (.ldI (v := S x) (.of rfl) hS (hp.add _) Tryz.isAgg9 hpx)) rfl (.val (fun w hS => (.move (.of rfl))) rfl (.val (fun w hS => (.move (.of rfl))) rfl (.val (fun w hS => (.indexAddrI (.of rfl) (.of rfl) (by omega) (by omega) Tryz.underlying41 Tryz.sizeOf9)) rfl (.val (fun w hS => (.ldI (v := S y) (.of rfl) hS (hq.add _) Tryz.isAgg9 hqy)) rfl (.val (fun w hS => (.nes (.of rfl) (.of rfl))) rfl (.nil ?_))))))))))
  clear hS; intro w hS
  refine WC.cond rfl (fun hb25 => ?_) (fun hb25 => ?_)
  ·
   have hc25 := hb25; try simp only [Gk.cs0] at hc25
   refine .seq (.region (.run 1 rfl trivial (.nil (.ret (ret1 Tryz.results30 rfl ?_)))))
   exact ⟨_, rfl, by rw [decide_eq_false (fun e => by subst e; rw [hx] at hy; cases hy; simp at hb25)], hS⟩
  have hc25 := hb25; try simp only [Gk.cs0] at hc25
  refine .skip (.region (.run 3 rfl ⟨⟨by omega, by omega⟩, trivial⟩ (.nil ?_)))
  refine ⟨i + 1, ⟨rfl, rfl, rfl, trivial⟩, ⟨by omega, fun j hj => ?_, hS⟩, by omega⟩
  rcases Nat.lt_or_ge j i with h1 | h1
  ·exact hok j h1
  ·have e : j = i := by omega
   subst e
   rw [hx, hy, show x = y by simpa using hb25]
 have hc14 := hb14; try simp only [Gk.cs0] at hc14
 refine .exit (.seq (.region (.run 1 rfl trivial (.nil (.ret (ret1 Tryz.results30 rfl ?_))))))
 refine ⟨_, rfl, ?_, hS⟩
 rw [decide_eq_true (List.ext_getElem? fun j => ?_)]
 rcases Nat.lt_or_ge j la.length with h | h
 ·exact hok j (by omega)
 ·rw [List.getElem?_eq_none h, List.getElem?_eq_none (by omega)]
end Go.Proofs.YtadhiihnnkcagaaGreatDoor
namespace Go.Proofs.YtadhiihnnkcagaaGreatDoor
open Gk Pat
set_option linter.unusedVariables false
set_option linter.unusedSimpArgs false
def bad (l : List Sv) (i : Nat) (s : Sv) : Nat :=
 if i = 16 then 5 else if (decide (s.id < 0) || decide (8 < (s.rel.length : Int))) = true then 1 else if (l.take i).any (fun t => t.id == s.id) = true then 7
 else if (((Pat.chk s.urls).1 != 0) || ((Pat.chk s.calls).1 != 0)) = true then 8 else 0
def wrongGo (l : List Sv) : Nat → List Sv → Nat × Nat
 | _, [] => (0, 0)
 | i, s :: r => if bad l i s ≠ 0 then (bad l i s, i) else wrongGo l (i + 1) r
def wrong (l : List Sv) : Nat × Nat := wrongGo l 0 l
theorem wrongGo_skip (l : List Sv) : ∀ (n i : Nat) (r : List Sv), (∀ j s, j < n → r[j]? = some s → bad l (i + j) s = 0) → wrongGo l i r = wrongGo l (i + min n r.length) (r.drop n)
 | 0, i, r, _ => by simp
 | n + 1, i, [], _ => by simp [wrongGo]
 | n + 1, i, s :: r, h => by
  have h0 := h 0 s (by omega) rfl
  rw [Nat.add_zero] at h0
  rw [wrongGo, if_neg (by rw [h0]; decide), wrongGo_skip l n (i + 1) r (fun j t hj ht => by have := h (j + 1) t (by omega) (by simpa using ht); rw [show i + 1 + j = i + (j + 1) by omega]; exact this), List.drop_succ_cons, List.length_cons]
  congr 1
  omega
theorem wrong_hit {l : List Sv} {i : Nat} {s : Sv} (h : ∀ j t, j < i → l[j]? = some t → bad l j t = 0) (hs : l[i]? = some s) (hb : bad l i s ≠ 0) : wrong l = (bad l i s, i) := by
 have hi := (List.getElem?_eq_some_iff.1 hs).1
 unfold wrong
 rw [wrongGo_skip l i 0 l (fun j t hj ht => by rw [Nat.zero_add]; exact h j t hj ht), Nat.zero_add, Nat.min_eq_left (by omega), List.drop_eq_getElem_cons hi, (List.getElem?_eq_some_iff.1 hs).2, wrongGo, if_pos hb]
theorem wrong_none {l : List Sv} (h : ∀ j t, l[j]? = some t → bad l j t = 0) : wrong l = (0, 0) := by
 unfold wrong
 rw [wrongGo_skip l l.length 0 l (fun j t _ ht => by rw [Nat.zero_add]; exact h j t ht), List.drop_length]
 rfl
end Go.Proofs.YtadhiihnnkcagaaGreatDoor
namespace Go.Proofs.YtadhiihnnkcagaaGreatDoor
open Gk
set_option linter.unusedVariables false
set_option linter.unusedSimpArgs false
def SvsIn (I : Im) (a : Option Addr) (L : List (List Value)) (l : List Sv) : Prop := L.length = l.length ∧ ∀ (i : Nat) (s : Sv), l[i]? = some s → ∃ p c, a = some p ∧ L[i]? = some c ∧ At I (p.add (i * 8)) c ∧ SvAt I s c
theorem SvsIn.mono {I J : Im} {a : Option Addr} {L : List (List Value)} {l : List Sv} (h : SvsIn I a L l) (hl : Le I J) : SvsIn J a L l := ⟨h.1, fun i s hs => by
 obtain ⟨p, c, e, h0, h1, h2⟩ := h.2 i s hs
 exact ⟨p, c, e, h0, h1.mono hl, h2.mono hl⟩⟩
theorem SvsIn.svs {I : Im} {a : Option Addr} {L : List (List Value)} {l : List Sv} (h : SvsIn I a L l) : SvsAt I a l := fun i s hs => by
 obtain ⟨p, c, e, h0, h1, ra, rc, rfl, h2, h3⟩ := h.2 i s hs
 exact ⟨p, ra, rc, e, h1, h2, h3⟩
def pickR (L : List (List Value)) (D : List Int) : List (List Value) := D.map fun d => L.getD d.toNat []
def ords (l : List Sv) : List Nat := l.map Sv.ord
end Go.Proofs.YtadhiihnnkcagaaGreatDoor
