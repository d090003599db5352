/- Part 4 of what the proof stands on: W18i, W18j, Rk, W16a, Srt, W16c, W16d. -/
import Derived.Test.YtchgkcbloeoopaaGreatDoorM18C
import Derived.Test.YtchgkcbloeoopaaGreatDoorChecked
namespace Go.Proofs.YtchgkcbloeoopaaGreatDoor
open Gk Pc Ul Pat
set_option linter.unusedVariables false
set_option linter.unusedSimpArgs false
theorem info9_47 : Tryz.prog.info? 9 = some Tryz.t9 := by kernel_rfl
set_option maxHeartbeats 800000 in
theorem refDots_any (p : List UInt8) (hl : p.length ≤ 1000000) (B w : World) (I : Im) (As : List Assn) (hS : Sat B w I As) :
  Calls Tryz.prog 47 [S p].toArray w (Ret fun v w' => v = S (dots p) ∧ Sat B w' I As) := by
 refine calls Tryz.func47 rfl Tryz.ntmps47 rfl ?_
 refine WC.seq ?_
 refine WC.region ?_
 refine WL.val (.assign (.of rfl)) rfl ?_
 refine WL.nil ?_
 refine WC.seq ?_
 refine WC.seq ?_
 refine WC.region ?_
 refine WL.val (.move (.of rfl)) rfl ?_
 refine WL.val (.eqs (.of rfl) (.of rfl)) rfl ?_
 refine WL.val (.move (.of rfl)) rfl ?_
 refine WL.gval rfl rfl (fun hg1 => (.move (.of rfl))) rfl ?_
 refine WL.gval rfl rfl (fun hg1 => .index (.gd hg1 rfl) (.of rfl) (by omega) (by cases p with | nil => simp at hg1 | cons a b => simp only [List.length_cons]; omega) Tryz.underlying9) rfl ?_
 refine WL.gval rfl rfl (fun hg1 => (.neq (.gd hg1 rfl) (.of rfl))) rfl ?_
 refine WL.val (.por (.of rfl) (.of rfl) (.of rfl)) rfl ?_
 refine WL.nil ?_
 refine WC.cond rfl (fun hb15 => ?_) (fun hb15 => ?_)
 ·
  have hc15 := hb15; try simp only [Gk.cs0] at hc15
  refine WC.seq ?_
  refine WC.region ?_
  refine WL.val (.move (.of rfl)) rfl ?_
  refine WL.val (.assign (.of rfl)) rfl ?_
  refine WL.nil ?_
  refine WC.ret ?_
  refine ret1 Tryz.results47 rfl ?_
  refine ⟨_, rfl, ?_, hS⟩
  cases p with
  | nil => rfl
  | cons a b =>
   rw [dots, if_neg (fun e => ?_)]
   subst e
   rcases hc15 with h | h
   ·cases h
   ·exact absurd (show (((47 : UInt8).toNat : Nat) : Int) = 47 from rfl) h
 ·
  have hc15 := hb15; try simp only [Gk.cs0] at hc15
  refine WC.skip ?_
  refine WC.seq ?_
  have hp1 : 1 ≤ p.length := by cases p with | nil => simp at hb15 | cons a b => simp
  have hpn := len_tot (spl (p.drop 1))
  rw [spl_tot, List.length_drop] at hpn
  have hn1 : 0 < (spl (p.drop 1)).length := List.length_pos_iff.2 (spl_ne _)
  refine WC.region ?_
  refine WL.val (.move (.of rfl)) rfl ?_
  refine WL.val (.subFrom (.of rfl) (.of rfl) (by omega) (by omega) Tryz.underlying9) rfl ?_
  refine WL.call Tryz.func64 rfl (evs_cons (.of rfl) (evs_cons (.of rfl) evs_nil)) rfl (refCut_any (p.drop 1) (by rw [List.length_drop]; omega) B _ I _ hS) ?_
  clear hS
  rintro _ w hS
  obtain ⟨gl, cl, rl, rfl, _, _, _, _, hS⟩ := hS.vecOpen (k := 0) rfl hn1
  try dsimp only [List.set] at hS
  refine WL.val (.assign (.of rfl)) rfl ?_
  refine WL.nil ?_
  refine WC.seq ?_
  refine WC.region ?_
  refine WL.val (.assign (.of rfl)) rfl ?_
  refine WL.nil ?_
  refine WC.seq ?_
  refine WC.seq ?_
  refine WC.region ?_
  refine WL.val (.assign (.of rfl)) rfl ?_
  refine WL.nil ?_
  refine WC.block ?_
  replace hS := hS.vecNil 9 1
  refine WC.loop (σ := Value × Nat) (fun ⟨kv, i⟩ => [(3, .slice (some (ad gl 0)) (spl (p.drop 1)).length cl), (4, kv), (5, I64 (i : Nat))]) (fun ⟨kv, i⟩ w => i ≤ (spl (p.drop 1)).length ∧ Sat B w I (Vec 9 1 kv (List.foldl keep [] ((spl (p.drop 1)).take i)).length ((List.foldl keep [] ((spl (p.drop 1)).take i)).map S) :: blk gl ((spl (p.drop 1)).map S ++ rl) 9 :: As)) (fun ⟨kv, i⟩ => (spl (p.drop 1)).length - i) (.slice none 0 0, 0) ⟨rfl, rfl, rfl, trivial⟩ ⟨Nat.zero_le _, hS⟩ ?_
  rintro ⟨kv, i⟩ w ⟨hi, hS⟩
  change WC _ _ _ _ [(3, .slice (some (ad gl 0)) (spl (p.drop 1)).length cl), (4, kv), (5, I64 (i : Nat))] w
  refine WC.seq ?_
  refine WC.seq ?_
  refine WC.region ?_
  refine WL.val (.move (.of rfl)) rfl ?_
  refine WL.val (.move (.of rfl)) rfl ?_
  refine WL.val (.lenSlice (.of rfl) Tryz.underlying35) rfl ?_
  refine WL.val (.lss (.of rfl) (.of rfl)) rfl ?_
  refine WL.nil ?_
  refine WC.cond rfl (fun hb23 => ?_) (fun hb23 => ?_)
  ·
   have hc23 := hb23; try simp only [Gk.cs0] at hc23
   refine WC.skip ?_
   refine WC.seq ?_
   refine WC.block ?_
   refine WC.seq ?_
   refine WC.seq ?_
   obtain ⟨x, hx⟩ : ∃ x, (spl (p.drop 1))[i]? = some x := ⟨_, List.getElem?_eq_getElem (by omega)⟩
   have hxb : ((spl (p.drop 1)).map S ++ rl)[0 + (i : Int).toNat * 1]? = some (S x) := by rw [Nat.zero_add, Int.toNat_natCast, Nat.mul_one, List.getElem?_append_left (by rw [List.length_map]; omega), List.getElem?_map, hx]; rfl
   have hKn : (List.foldl keep [] ((spl (p.drop 1)).take (i + 1))) = keep (List.foldl keep [] ((spl (p.drop 1)).take i)) x := by rw [List.take_add_one, hx, List.foldl_append]; rfl
   obtain ⟨ka, kc, rfl, hkc, _⟩ := hS.vecSlice (k := 0) (v := kv) rfl
   have hKl : (List.foldl keep [] ((spl (p.drop 1)).take i)).length ≤ 1000001 := by
    have h1 := len_tot (List.foldl keep [] ((spl (p.drop 1)).take i))
    have h2 := tot_fold ((spl (p.drop 1)).take i) []
    have h3 : tot (spl (p.drop 1)) = tot ((spl (p.drop 1)).take i) + tot ((spl (p.drop 1)).drop i) := by rw [← tot_app, List.take_append_drop]
    have h4 := spl_tot (p.drop 1)
    rw [List.length_drop] at h4
    rw [show tot [] = 0 from rfl] at h2
    omega
   refine WC.region ?_
   refine WL.val (.move (.of rfl)) rfl ?_
   refine WL.val (.move (.of rfl)) rfl ?_
   first | refine WL.val (.indexAddr (.of rfl) (.of rfl) (by omega) (by omega) Tryz.underlying35 Tryz.sizeOf9) rfl ?_ | refine WL.val (.indexAddrI (.of rfl) (.of rfl) (by omega) (by omega) Tryz.underlying35 Tryz.sizeOf9) rfl ?_
   refine WL.val (.ld (v := S x) (.of rfl) hS (k := 1) rfl Tryz.isAgg9 hxb) rfl ?_
   refine WL.val (.eqs (.of rfl) (.of rfl)) rfl ?_
   refine WL.val (.move (.of rfl)) rfl ?_
   refine WL.gval rfl rfl (fun hg1 => (.move (.of rfl))) rfl ?_
   refine WL.gval rfl rfl (fun hg1 => (.lenSlice (.gd hg1 rfl) Tryz.underlying35)) rfl ?_
   refine WL.gval rfl rfl (fun hg1 => (.gtr (.gd hg1 rfl) (.of rfl))) rfl ?_
   refine WL.val (.pand (.of rfl) (.of rfl) (.of rfl)) rfl ?_
   refine WL.nil ?_
   refine WC.cond rfl (fun hb35 => ?_) (fun hb35 => ?_)
   ·
    have hc35 := hb35; try simp only [Gk.cs0] at hc35
    have hx2 : x = [46, 46] ∧ 0 < (List.foldl keep [] ((spl (p.drop 1)).take i)).length := by
     simp only [Bool.and_eq_true, beq_iff_eq, decide_eq_true_eq] at hb35
     exact ⟨hb35.1, by omega⟩
    obtain ⟨gk, ck, rk, hvv, _, _, _, _, hS⟩ := hS.vecOpen (k := 0) rfl hx2.2
    injection hvv with hv1 hv2 hv3
    subst hv1; subst hv3
    try dsimp only [List.set] at hS
    refine WC.region ?_
    refine WL.buildSlice (cs := []) hS parts_nil Tryz.underlying35 Tryz.sizeOf9 Tryz.zeroValue9 rfl rfl rfl rfl ?_
    clear hS; intro b36 w hS
    refine WL.val (.move (.of rfl)) rfl ?_
    refine WL.val (.move (.of rfl)) rfl ?_
    refine WL.val (.lenSlice (.of rfl) Tryz.underlying35) rfl ?_
    refine WL.val (.sub (.of rfl) (.of rfl) ⟨by omega, by omega⟩) rfl ?_
    refine WL.val (.slcTo (.of rfl) (.of rfl) (by omega) (by omega) Tryz.underlying35 Tryz.sizeOf9) rfl ?_
    rw [sliced_zero]
    refine WL.append0p (bytes := 16) (news := (List.foldl keep [] ((spl (p.drop 1)).take i)).map S) (rest' := rk) hS (.of rfl) (.of rfl) (k := 0) rfl (by rw [List.length_map]; omega) Tryz.underlying35 info9_47 rfl rfl rfl rfl (fun u hu => by obtain ⟨y, _, rfl⟩ := List.mem_map.1 hu; rfl) ⟨by omega, by unfold maxLen; omega⟩ rfl ?_
    clear hS; intro v42 w hS
    replace hS : Sat B w I (Vec 9 1 v42 ((List.foldl keep [] ((spl (p.drop 1)).take i)).take ((List.foldl keep [] ((spl (p.drop 1)).take i)).length - 1)).length (((List.foldl keep [] ((spl (p.drop 1)).take i)).take ((List.foldl keep [] ((spl (p.drop 1)).take i)).length - 1)).map S) :: blk gl ((spl (p.drop 1)).map S ++ rl) 9 :: As) := by
     have h := hS.drop (k := 1) rfl
     rw [show (((List.foldl keep [] ((spl (p.drop 1)).take i)).length : Int) - 1).toNat = (List.foldl keep [] ((spl (p.drop 1)).take i)).length - 1 by omega, ← List.map_take] at h
     rw [show ((List.foldl keep [] ((spl (p.drop 1)).take i)).take ((List.foldl keep [] ((spl (p.drop 1)).take i)).length - 1)).length = (List.foldl keep [] ((spl (p.drop 1)).take i)).length - 1 by rw [List.length_take]; omega]
     exact h
    refine WL.val (.assign (.of rfl)) rfl ?_
    refine WL.nil ?_
    refine WC.seq ?_
    refine WC.region ?_
    refine WL.val (.move (.of rfl)) rfl ?_
    refine WL.val (.move (.of rfl)) rfl ?_
    first | refine WL.val (.indexAddr (.of rfl) (.of rfl) (by omega) (by omega) Tryz.underlying35 Tryz.sizeOf9) rfl ?_ | refine WL.val (.indexAddrI (.of rfl) (.of rfl) (by omega) (by omega) Tryz.underlying35 Tryz.sizeOf9) rfl ?_
    refine WL.val (.ld (v := S x) (.of rfl) hS (k := 1) rfl Tryz.isAgg9 hxb) rfl ?_
    refine WL.val (.nes (.of rfl) (.of rfl)) rfl ?_
    refine WL.val (.move (.of rfl)) rfl ?_
    refine WL.gval rfl rfl (fun hg1 => (.move (.of rfl))) rfl ?_
    refine WL.gval rfl rfl (fun hg1 => (.move (.of rfl))) rfl ?_
    refine WL.gval rfl rfl (fun hg1 => (by first | exact .indexAddr (.gd hg1 rfl) (.gd hg1 rfl) (by (try simp only [Gk.cs0] at hg1); omega) (by (try simp only [Gk.cs0] at hg1); omega) Tryz.underlying35 Tryz.sizeOf9 | exact .indexAddrI (.gd hg1 rfl) (.gd hg1 rfl) (by (try simp only [Gk.cs0] at hg1); omega) (by (try simp only [Gk.cs0] at hg1); omega) Tryz.underlying35 Tryz.sizeOf9)) rfl ?_
    refine WL.gval rfl rfl (fun hg1 => .ld (v := S x) (.gd hg1 rfl) hS (k := 1) rfl Tryz.isAgg9 hxb) rfl ?_
    refine WL.gval rfl rfl (fun hg1 => (.nes (.gd hg1 rfl) (.of rfl))) rfl ?_
    refine WL.val (.pand (.of rfl) (.of rfl) (.of rfl)) rfl ?_
    refine WL.nil ?_
    refine WC.condF (by show some (Value.bool (x != [46] && x != [46, 46])) = _; rw [hx2.1]; rfl) ?_
    refine WC.skip ?_
    refine WC.region ?_
    refine WL.val (.move (.of rfl)) rfl ?_
    refine WL.val (.add (.of rfl) (.of rfl) ⟨by omega, by omega⟩) rfl ?_
    refine WL.val (.assign (.of rfl)) rfl ?_
    refine WL.nil ?_
    refine ⟨(_, i + 1), ⟨rfl, rfl, rfl, trivial⟩, ⟨by (try dsimp only); omega, ?_⟩, by (try dsimp only); omega⟩
    rw [hKn, keep, if_neg (by rw [hx2.1]; decide), if_pos hx2.1, List.dropLast_eq_take]
    exact hS
   ·
    have hc35 := hb35; try simp only [Gk.cs0] at hc35
    refine WC.skip ?_
    refine WC.seq ?_
    refine WC.region ?_
    refine WL.val (.move (.of rfl)) rfl ?_
    refine WL.val (.move (.of rfl)) rfl ?_
    first | refine WL.val (.indexAddr (.of rfl) (.of rfl) (by omega) (by omega) Tryz.underlying35 Tryz.sizeOf9) rfl ?_ | refine WL.val (.indexAddrI (.of rfl) (.of rfl) (by omega) (by omega) Tryz.underlying35 Tryz.sizeOf9) rfl ?_
    refine WL.val (.ld (v := S x) (.of rfl) hS (k := 1) rfl Tryz.isAgg9 hxb) rfl ?_
    refine WL.val (.nes (.of rfl) (.of rfl)) rfl ?_
    refine WL.val (.move (.of rfl)) rfl ?_
    refine WL.gval rfl rfl (fun hg1 => (.move (.of rfl))) rfl ?_
    refine WL.gval rfl rfl (fun hg1 => (.move (.of rfl))) rfl ?_
    refine WL.gval rfl rfl (fun hg1 => (by first | exact .indexAddr (.gd hg1 rfl) (.gd hg1 rfl) (by (try simp only [Gk.cs0] at hg1); omega) (by (try simp only [Gk.cs0] at hg1); omega) Tryz.underlying35 Tryz.sizeOf9 | exact .indexAddrI (.gd hg1 rfl) (.gd hg1 rfl) (by (try simp only [Gk.cs0] at hg1); omega) (by (try simp only [Gk.cs0] at hg1); omega) Tryz.underlying35 Tryz.sizeOf9)) rfl ?_
    refine WL.gval rfl rfl (fun hg1 => .ld (v := S x) (.gd hg1 rfl) hS (k := 1) rfl Tryz.isAgg9 hxb) rfl ?_
    refine WL.gval rfl rfl (fun hg1 => (.nes (.gd hg1 rfl) (.of rfl))) rfl ?_
    refine WL.val (.pand (.of rfl) (.of rfl) (.of rfl)) rfl ?_
    refine WL.nil ?_
    refine WC.cond rfl (fun hb54 => ?_) (fun hb54 => ?_)
    ·
     have hc54 := hb54; try simp only [Gk.cs0] at hc54
     refine WC.region ?_
     refine WL.val (.move (.of rfl)) rfl ?_
     refine WL.val (.move (.of rfl)) rfl ?_
     refine WL.val (.move (.of rfl)) rfl ?_
     first | refine WL.val (.indexAddr (.of rfl) (.of rfl) (by omega) (by omega) Tryz.underlying35 Tryz.sizeOf9) rfl ?_ | refine WL.val (.indexAddrI (.of rfl) (.of rfl) (by omega) (by omega) Tryz.underlying35 Tryz.sizeOf9) rfl ?_
     refine WL.val (.ld (v := S x) (.of rfl) hS (k := 1) rfl Tryz.isAgg9 hxb) rfl ?_
     refine WL.buildSlice (cs := [_]) hS (parts_cons (.of rfl) parts_nil) Tryz.underlying35 Tryz.sizeOf9 Tryz.zeroValue9 rfl rfl rfl rfl ?_
     clear hS; intro b60 w hS
     first | refine WL.append (size := 1) (bytes := 16) hS (.of rfl) (.of rfl) (k := 0) rfl Tryz.underlying35 info9_47 rfl rfl rfl rfl rfl rfl rfl ⟨by omega, by unfold maxLen; omega⟩ rfl ?_ | refine WL.append (size := 1) (bytes := 16) hS (.of rfl) (.of rfl) (k := 1) rfl Tryz.underlying35 info9_47 rfl rfl rfl rfl rfl rfl rfl ⟨by omega, by unfold maxLen; omega⟩ rfl ?_
     clear hS; intro v61 w hS; try dsimp only [List.set] at hS
     first | obtain ⟨a61, c61, rfl, hcap61, _⟩ := hS.vecSlice (k := 0) (v := v61) rfl | obtain ⟨a61, c61, rfl, hcap61, _⟩ := hS.vecSlice (k := 1) (v := v61) rfl
     refine WL.val (.assign (.of rfl)) rfl ?_
     refine WL.nil ?_
     refine WC.region ?_
     refine WL.val (.move (.of rfl)) rfl ?_
     refine WL.val (.add (.of rfl) (.of rfl) ⟨by omega, by omega⟩) rfl ?_
     refine WL.val (.assign (.of rfl)) rfl ?_
     refine WL.nil ?_
     refine ⟨(_, i + 1), ⟨rfl, rfl, rfl, trivial⟩, ⟨by (try dsimp only); omega, ?_⟩, by (try dsimp only); omega⟩
     rw [hKn, keep, if_neg hc54.1, if_neg hc54.2, List.map_append, List.length_append]
     exact hS
    ·
     have hc54 := hb54; try simp only [Gk.cs0] at hc54
     refine WC.skip ?_
     refine WC.region ?_
     refine WL.val (.move (.of rfl)) rfl ?_
     refine WL.val (.add (.of rfl) (.of rfl) ⟨by omega, by omega⟩) rfl ?_
     refine WL.val (.assign (.of rfl)) rfl ?_
     refine WL.nil ?_
     refine ⟨(_, i + 1), ⟨rfl, rfl, rfl, trivial⟩, ⟨by (try dsimp only); omega, ?_⟩, by (try dsimp only); omega⟩
     have hke := keep_same (k := (List.foldl keep [] ((spl (p.drop 1)).take i))) hc54 (fun e => List.eq_nil_of_length_eq_zero (by rcases hc35 with h | h; exact absurd e h; omega))
     rw [hKn, hke]
     exact hS
  ·
   have hc23 := hb23; try simp only [Gk.cs0] at hc23
   refine WC.exit ?_
   refine WC.seq ?_
   have hin : i = (spl (p.drop 1)).length := by omega
   subst hin
   rw [List.take_length] at hS
   obtain ⟨ka, kc, rfl, hkc, _⟩ := hS.vecSlice (k := 0) (v := kv) rfl
   have htot := tot_fold (spl (p.drop 1)) []
   rw [spl_tot, show tot [] = 0 from rfl, Nat.zero_add, List.length_drop] at htot
   have hkt := len_tot (List.foldl keep [] (spl (p.drop 1)))
   refine WC.region ?_
   refine WL.val (.assign (.of rfl)) rfl ?_
   refine WL.nil ?_
   refine WC.seq ?_
   refine WC.seq ?_
   refine WC.region ?_
   refine WL.val (.assign (.of rfl)) rfl ?_
   refine WL.nil ?_
   refine WC.block ?_
   refine WC.loop (σ := Nat) (fun j => [(3, .slice (some (ad gl 0)) (spl (p.drop 1)).length cl), (4, .slice ka (List.foldl keep [] (spl (p.drop 1))).length kc), (6, S (slashed ((List.foldl keep [] (spl (p.drop 1))).take j))), (7, I64 (j : Nat))]) (fun j w => j ≤ (List.foldl keep [] (spl (p.drop 1))).length ∧ Sat B w I (Vec 9 1 (.slice ka (List.foldl keep [] (spl (p.drop 1))).length kc) (List.foldl keep [] (spl (p.drop 1))).length ((List.foldl keep [] (spl (p.drop 1))).map S) :: blk gl ((spl (p.drop 1)).map S ++ rl) 9 :: As)) (fun j => (List.foldl keep [] (spl (p.drop 1))).length - j) 0 ⟨rfl, rfl, rfl, rfl, trivial⟩ ⟨Nat.zero_le _, hS⟩ ?_
   rintro j w ⟨hj, hS⟩
   change WC _ _ _ _ [(3, .slice (some (ad gl 0)) (spl (p.drop 1)).length cl), (4, .slice ka (List.foldl keep [] (spl (p.drop 1))).length kc), (6, S (slashed ((List.foldl keep [] (spl (p.drop 1))).take j))), (7, I64 (j : Nat))] w
   refine WC.seq ?_
   refine WC.seq ?_
   refine WC.region ?_
   refine WL.val (.move (.of rfl)) rfl ?_
   refine WL.val (.move (.of rfl)) rfl ?_
   refine WL.val (.lenSlice (.of rfl) Tryz.underlying35) rfl ?_
   refine WL.val (.lss (.of rfl) (.of rfl)) rfl ?_
   refine WL.nil ?_
   refine WC.cond rfl (fun hb65 => ?_) (fun hb65 => ?_)
   ·
    have hc65 := hb65; try simp only [Gk.cs0] at hc65
    refine WC.skip ?_
    refine WC.seq ?_
    refine WC.block ?_
    obtain ⟨x, hx⟩ : ∃ x, (List.foldl keep [] (spl (p.drop 1)))[j]? = some x := ⟨_, List.getElem?_eq_getElem (by omega)⟩
    have hsn : slashed ((List.foldl keep [] (spl (p.drop 1))).take (j + 1)) = slashed ((List.foldl keep [] (spl (p.drop 1))).take j) ++ 47 :: x := by rw [List.take_add_one, hx]; exact slashed_app _ _
    have hsl : (slashed ((List.foldl keep [] (spl (p.drop 1))).take j)).length + (x.length + 1) ≤ tot (List.foldl keep [] (spl (p.drop 1))) := by
     rw [show x.length + 1 = (47 :: x).length from rfl, ← List.length_append, ← hsn, slashed_len]
     have : tot (List.foldl keep [] (spl (p.drop 1))) = tot ((List.foldl keep [] (spl (p.drop 1))).take (j + 1)) + tot ((List.foldl keep [] (spl (p.drop 1))).drop (j + 1)) := by rw [← tot_app, List.take_append_drop]
     omega
    obtain ⟨g19, rest19, hS19⟩ : ∃ g rest, ka = some (ad g 0) ∧ Sat B w I (blk g ((List.foldl keep [] (spl (p.drop 1))).map S ++ rest) 9 :: blk gl ((spl (p.drop 1)).map S ++ rl) 9 :: As) := by
     obtain ⟨g, c, rest, hv, _, _, _, _, hs⟩ := hS.vecOpen (k := 0) rfl (by omega)
     injection hv with hv1 hv2 hv3
     exact ⟨g, rest, hv1, hs⟩
    obtain ⟨rfl, hS19⟩ := hS19
    refine WC.region ?_
    refine WL.val (.move (.of rfl)) rfl ?_
    refine WL.val (.cat (.of rfl) (.of rfl) (by (try simp only [List.length_append, List.length_cons, List.length_nil]); omega)) rfl ?_
    refine WL.val (.move (.of rfl)) rfl ?_
    refine WL.val (.move (.of rfl)) rfl ?_
    refine WL.val (.indexAddr (b := g19) (o := 0) (.of rfl) (.of rfl) (by omega) (by omega) Tryz.underlying35 Tryz.sizeOf9) rfl ?_
    refine WL.val (.ld (v := S x) (.of rfl) hS19 (k := 0) rfl Tryz.isAgg9 (by rw [Nat.zero_add, Int.toNat_natCast, Nat.mul_one, List.getElem?_append_left (by rw [List.length_map]; omega), List.getElem?_map, hx]; rfl)) rfl ?_
    clear hS19
    refine WL.val (.cat (.of rfl) (.of rfl) (by (try simp only [List.length_append, List.length_cons, List.length_nil]); omega)) rfl ?_
    refine WL.val (.assign (.of rfl)) rfl ?_
    refine WL.nil ?_
    refine WC.region ?_
    refine WL.val (.move (.of rfl)) rfl ?_
    refine WL.val (.add (.of rfl) (.of rfl) ⟨by omega, by omega⟩) rfl ?_
    refine WL.val (.assign (.of rfl)) rfl ?_
    refine WL.nil ?_
    refine ⟨j + 1, ⟨rfl, rfl, by show some (S _) = some _; rw [hsn]; simp, rfl, trivial⟩, ⟨by omega, hS⟩, by omega⟩
   ·
    have hc65 := hb65; try simp only [Gk.cs0] at hc65
    refine WC.exit ?_
    refine WC.seq ?_
    have hjn : (List.foldl keep [] (spl (p.drop 1))).take j = (List.foldl keep [] (spl (p.drop 1))) := List.take_of_length_le (by omega)
    have hsl2 : (slashed ((List.foldl keep [] (spl (p.drop 1))).take j)).length ≤ tot (List.foldl keep [] (spl (p.drop 1))) := by rw [hjn, slashed_len]; exact Nat.le_refl _
    have hn1 : 1 ≤ (spl (p.drop 1)).length := List.length_pos_iff.2 (spl_ne _)
    obtain ⟨x, hx⟩ : ∃ x, (spl (p.drop 1))[(spl (p.drop 1)).length - 1]? = some x := ⟨_, List.getElem?_eq_getElem (by omega)⟩
    have hxb : ((spl (p.drop 1)).map S ++ rl)[0 + (((spl (p.drop 1)).length : Int) - 1).toNat * 1]? = some (S x) := by rw [Nat.zero_add, show (((spl (p.drop 1)).length : Int) - 1).toNat = (spl (p.drop 1)).length - 1 by omega, Nat.mul_one, List.getElem?_append_left (by rw [List.length_map]; omega), List.getElem?_map, hx]; rfl
    have hlast : (spl (p.drop 1)).getLastD [] = x := by rw [List.getLastD_eq_getLast?, List.getLast?_eq_getElem?, hx]; rfl
    have hpc : p = 47 :: p.drop 1 := by
     cases p with
     | nil => simp at hb15
     | cons a b =>
      have h := hb15
      rw [show ((a :: b : List UInt8) == []) = false from rfl, Bool.false_or] at h
      have : a = 47 := UInt8.toNat_inj.1 (by
       have h2 : (((a.toNat : Int)) != 47) = false := h
       simp only [bne_eq_false_iff_eq] at h2
       show a.toNat = 47
       omega)
      rw [this]; rfl
    have hall : dots p = slashed (List.foldl keep [] (spl (p.drop 1))) ++ (if isDot ((spl (p.drop 1)).getLastD []) || (List.foldl keep [] (spl (p.drop 1))).length == 0 then [47] else []) := by rw [hpc, dots, if_pos rfl]; rfl
    refine WC.region ?_
    refine WL.val (.move (.of rfl)) rfl ?_
    refine WL.val (.move (.of rfl)) rfl ?_
    refine WL.val (.lenSlice (.of rfl) Tryz.underlying35) rfl ?_
    refine WL.val (.sub (.of rfl) (.of rfl) ⟨by omega, by omega⟩) rfl ?_
    first | refine WL.val (.indexAddr (.of rfl) (.of rfl) (by omega) (by omega) Tryz.underlying35 Tryz.sizeOf9) rfl ?_ | refine WL.val (.indexAddrI (.of rfl) (.of rfl) (by omega) (by omega) Tryz.underlying35 Tryz.sizeOf9) rfl ?_
    refine WL.val (.ld (v := S x) (.of rfl) hS (k := 1) rfl Tryz.isAgg9 hxb) rfl ?_
    refine WL.val (.assign (.of rfl)) rfl ?_
    refine WL.nil ?_
    refine WC.seq ?_
    refine WC.seq ?_
    refine WC.region ?_
    refine WL.val (.move (.of rfl)) rfl ?_
    refine WL.val (.eqs (.of rfl) (.of rfl)) rfl ?_
    refine WL.val (.move (.of rfl)) rfl ?_
    refine WL.gval rfl rfl (fun hg1 => (.move (.of rfl))) rfl ?_
    refine WL.gval rfl rfl (fun hg1 => (.eqs (.gd hg1 rfl) (.of rfl))) rfl ?_
    refine WL.val (.por (.of rfl) (.of rfl) (.of rfl)) rfl ?_
    refine WL.val (.move (.of rfl)) rfl ?_
    refine WL.gval rfl rfl (fun hg1 => (.move (.of rfl))) rfl ?_
    refine WL.gval rfl rfl (fun hg1 => (.lenSlice (.gd hg1 rfl) Tryz.underlying35)) rfl ?_
    refine WL.gval rfl rfl (fun hg1 => (.eql (.gd hg1 rfl) (.of rfl))) rfl ?_
    refine WL.val (.por (.of rfl) (.of rfl) (.of rfl)) rfl ?_
    refine WL.nil ?_
    refine WC.cond rfl (fun hb91 => ?_) (fun hb91 => ?_)
    ·
     have hc91 := hb91; try simp only [Gk.cs0] at hc91
     refine WC.region ?_
     refine WL.val (.move (.of rfl)) rfl ?_
     refine WL.val (.cat (.of rfl) (.of rfl) (by (try simp only [List.length_append, List.length_cons, List.length_nil]); omega)) rfl ?_
     refine WL.val (.assign (.of rfl)) rfl ?_
     refine WL.nil ?_
     refine WC.seq ?_
     refine WC.region ?_
     refine WL.val (.move (.of rfl)) rfl ?_
     refine WL.val (.assign (.of rfl)) rfl ?_
     refine WL.nil ?_
     refine WC.ret ?_
     refine ret1 Tryz.results47 rfl ?_
     refine ⟨_, rfl, ?_, (hS.drop (k := 0) rfl).drop (k := 0) rfl⟩
     rw [hall, hjn, hlast]
     rw [if_pos (by simpa [isDot] using hb91)]
    ·
     have hc91 := hb91; try simp only [Gk.cs0] at hc91
     refine WC.skip ?_
     refine WC.seq ?_
     refine WC.region ?_
     refine WL.val (.move (.of rfl)) rfl ?_
     refine WL.val (.assign (.of rfl)) rfl ?_
     refine WL.nil ?_
     refine WC.ret ?_
     refine ret1 Tryz.results47 rfl ?_
     refine ⟨_, rfl, ?_, (hS.drop (k := 0) rfl).drop (k := 0) rfl⟩
     rw [hall, hjn, hlast]
     rw [if_neg (by rw [Bool.not_eq_true]; simpa [isDot] using hb91), List.append_nil]
theorem refOrigin_any (u : U) (hu : SmallU u) (B w : World) (I : Im) (As : List Assn) (hS : Sat B w I As) :
  Calls Tryz.prog 48 [.agg [S u.sch, S u.host, I64 (u.port : Nat), S u.path, S u.query, .bool u.ask].toArray].toArray w (Ret fun v w' => v = S (origin u) ∧ Sat B w' I As) := by
 refine calls Tryz.func48 rfl Tryz.ntmps48 rfl ?_
 refine WC.seq ?_
 refine WC.region ?_
 refine WL.boxA (cs := [_, _, _, _, _, _]) hS (.of rfl) rfl ?_
 clear hS; intro b1 w hS
 refine WL.val (.assign (.of rfl)) rfl ?_
 refine WL.nil ?_
 refine WC.seq ?_
 obtain ⟨hs1, hs2, hp, hs4, hs5⟩ := hu
 have hd5 := dec_len u.port hp
 refine WC.region ?_
 first | refine WL.val (.fieldAddr 0 (.of rfl) Tryz.underlying55 rfl rfl Tryz.sizeOf9 rfl) rfl ?_ | refine WL.val (.fieldAddrI 0 (.of rfl) Tryz.underlying55 rfl rfl Tryz.sizeOf9 rfl) rfl ?_
 first | refine WL.val (.ld (.of rfl) hS (k := 0) rfl Tryz.isAgg9 rfl) rfl ?_
 refine WL.val (.cat (.of rfl) (.of rfl) (by (try simp only [List.length_append, List.length_cons, List.length_nil]); omega)) rfl ?_
 first | refine WL.val (.fieldAddr 1 (.of rfl) Tryz.underlying55 rfl rfl Tryz.sizeOf9 rfl) rfl ?_ | refine WL.val (.fieldAddrI 1 (.of rfl) Tryz.underlying55 rfl rfl Tryz.sizeOf9 rfl) rfl ?_
 first | refine WL.val (.ld (.of rfl) hS (k := 0) rfl Tryz.isAgg9 rfl) rfl ?_
 refine WL.val (.cat (.of rfl) (.of rfl) (by (try simp only [List.length_append, List.length_cons, List.length_nil]); omega)) rfl ?_
 refine WL.val (.assign (.of rfl)) rfl ?_
 refine WL.nil ?_
 refine WC.seq ?_
 refine WC.seq ?_
 refine WC.region ?_
 first | refine WL.val (.fieldAddr 2 (.of rfl) Tryz.underlying55 rfl rfl Tryz.sizeOf3 rfl) rfl ?_ | refine WL.val (.fieldAddrI 2 (.of rfl) Tryz.underlying55 rfl rfl Tryz.sizeOf3 rfl) rfl ?_
 first | refine WL.val (.ld (.of rfl) hS (k := 0) rfl Tryz.isAgg3 rfl) rfl ?_
 refine WL.val (.neq (.of rfl) (.of rfl)) rfl ?_
 refine WL.nil ?_
 refine WC.cond rfl (fun hb12 => ?_) (fun hb12 => ?_)
 ·
  have hc12 := hb12; try simp only [Gk.cs0] at hc12
  refine WC.region ?_
  refine WL.val (.move (.of rfl)) rfl ?_
  refine WL.val (.cat (.of rfl) (.of rfl) (by (try simp only [List.length_append, List.length_cons, List.length_nil]); omega)) rfl ?_
  first | refine WL.val (.fieldAddr 2 (.of rfl) Tryz.underlying55 rfl rfl Tryz.sizeOf3 rfl) rfl ?_ | refine WL.val (.fieldAddrI 2 (.of rfl) Tryz.underlying55 rfl rfl Tryz.sizeOf3 rfl) rfl ?_
  first | refine WL.val (.ld (.of rfl) hS (k := 0) rfl Tryz.isAgg3 rfl) rfl ?_
  refine WL.call Tryz.func65 rfl (evs_cons (.of rfl) evs_nil) rfl (Digits_any u.port hp B _ I _ hS) ?_
  clear hS
  rintro _ w ⟨rfl, hS⟩
  refine WL.val (.cat (.of rfl) (.of rfl) (by (try simp only [List.length_append, List.length_cons, List.length_nil]); omega)) rfl ?_
  refine WL.val (.assign (.of rfl)) rfl ?_
  refine WL.nil ?_
  refine WC.seq ?_
  refine WC.region ?_
  refine WL.val (.move (.of rfl)) rfl ?_
  refine WL.val (.assign (.of rfl)) rfl ?_
  refine WL.nil ?_
  refine WC.ret ?_
  refine ret1 Tryz.results48 rfl ?_
  refine ⟨_, rfl, ?_, hS.drop (k := 0) rfl⟩
  rw [origin, if_neg (by omega)]
  simp [List.append_assoc]
 ·
  have hc12 := hb12; try simp only [Gk.cs0] at hc12
  refine WC.skip ?_
  refine WC.seq ?_
  refine WC.region ?_
  refine WL.val (.move (.of rfl)) rfl ?_
  refine WL.val (.assign (.of rfl)) rfl ?_
  refine WL.nil ?_
  refine WC.ret ?_
  refine ret1 Tryz.results48 rfl ?_
  refine ⟨_, rfl, ?_, hS.drop (k := 0) rfl⟩
  rw [origin, if_pos (by omega)]
  simp [List.append_assoc]
theorem refString_any (u : U) (hu : SmallU u) (B w : World) (I : Im) (As : List Assn) (hS : Sat B w I As) :
  Calls Tryz.prog 24 [.agg [S u.sch, S u.host, I64 (u.port : Nat), S u.path, S u.query, .bool u.ask].toArray].toArray w (Ret fun v w' => v = S (strU u) ∧ Sat B w' I As) := by
 refine calls Tryz.func24 rfl Tryz.ntmps24 rfl ?_
 refine WC.seq ?_
 refine WC.region ?_
 refine WL.boxA (cs := [_, _, _, _, _, _]) hS (.of rfl) rfl ?_
 clear hS; intro b1 w hS
 refine WL.val (.assign (.of rfl)) rfl ?_
 refine WL.nil ?_
 refine WC.seq ?_
 have hol := origin_len u hu
 obtain ⟨hs1, hs2, hp, hs4, hs5⟩ := id hu
 refine WC.drawn (fun w => ∃ R, Sat B w I (blk b1 [S u.sch, S u.host, I64 (u.port : Nat), S u.path, S u.query, .bool u.ask] 55 :: R)) (fun j => !([].contains j)) (by kernel_rfl) ?_
 replace hS := hS.drew; generalize w.drew = w at hS ⊢
 have hH : ∃ R, Sat B w I (blk b1 [S u.sch, S u.host, I64 (u.port : Nat), S u.path, S u.query, .bool u.ask] 55 :: R) := ⟨_, (hS.pick 0 rfl)⟩
 refine WD.take (i := 0) rfl (by kernel_rfl) (by kernel_rfl) (by kernel_rfl) (by kernel_rfl) hH (fun w ⟨R, hS⟩ => (by first | exact (.ldsW (cs := [_, _, _, _, _, _]) (.of rfl) hS (k := 0) rfl Tryz.isAgg55 Tryz.sizeOf55 rfl) | exact (.lds (vs := [_, _, _, _, _, _]) (.of rfl) hS (k := 0) rfl Tryz.isAgg55 Tryz.sizeOf55 rfl (fun _ _ h => h)))) rfl ?_
 refine WD.takeP (i := 2) rfl (by kernel_rfl) (by kernel_rfl) (by kernel_rfl) (fun w => (by first | exact .fieldAddr 3 (.of rfl) Tryz.underlying55 rfl rfl Tryz.sizeOf9 rfl | exact .fieldAddrI 3 (.of rfl) Tryz.underlying55 rfl rfl Tryz.sizeOf9 rfl)) rfl ?_
 refine WD.take (i := 3) rfl (by kernel_rfl) (by kernel_rfl) (by kernel_rfl) (by kernel_rfl) hH (fun w ⟨R, hS⟩ => (by first | exact (.ld (.of rfl) hS (k := 0) rfl Tryz.isAgg9 rfl))) rfl ?_
 refine WD.branch [1] (by kernel_rfl) rfl (WO.cons rfl ?_ (WO.nil))
 refine WL.call Tryz.func48 rfl (evs_cons (.of rfl) evs_nil) rfl (refOrigin_any u hu B _ I _ hS) ?_
 clear hS
 rintro _ w ⟨rfl, hS⟩
 refine WL.nil ?_
 clear hH
 have hH : ∃ R, Sat B w I (blk b1 [S u.sch, S u.host, I64 (u.port : Nat), S u.path, S u.query, .bool u.ask] 55 :: R) := ⟨_, (hS.pick 0 rfl)⟩
 refine And.intro (by intro _ _; exact hH) ?_
 refine WD.takeP (i := 4) rfl (by kernel_rfl) (by kernel_rfl) (by kernel_rfl) (fun w => (.cat (.of rfl) (.of rfl) (by (try simp only [List.length_append, List.length_cons, List.length_nil]); omega))) rfl ?_
 refine WD.takeP (i := 5) rfl (by kernel_rfl) (by kernel_rfl) (by kernel_rfl) (fun w => (.assign (.of rfl))) rfl ?_
 refine WD.done (by kernel_rfl) ?_
 refine WC.seq ?_
 refine WC.seq ?_
 refine WC.region ?_
 first | refine WL.val (.fieldAddr 5 (.of rfl) Tryz.underlying55 rfl rfl Tryz.sizeOf4 rfl) rfl ?_ | refine WL.val (.fieldAddrI 5 (.of rfl) Tryz.underlying55 rfl rfl Tryz.sizeOf4 rfl) rfl ?_
 first | refine WL.val (.ld (.of rfl) hS (k := 0) rfl Tryz.isAgg4 rfl) rfl ?_
 refine WL.nil ?_
 refine WC.cond rfl (fun hb10 => ?_) (fun hb10 => ?_)
 ·
  have hc10 := hb10; try simp only [Gk.cs0] at hc10
  refine WC.region ?_
  refine WL.val (.move (.of rfl)) rfl ?_
  refine WL.val (.cat (.of rfl) (.of rfl) (by (try simp only [List.length_append, List.length_cons, List.length_nil]); omega)) rfl ?_
  first | refine WL.val (.fieldAddr 4 (.of rfl) Tryz.underlying55 rfl rfl Tryz.sizeOf9 rfl) rfl ?_ | refine WL.val (.fieldAddrI 4 (.of rfl) Tryz.underlying55 rfl rfl Tryz.sizeOf9 rfl) rfl ?_
  first | refine WL.val (.ld (.of rfl) hS (k := 0) rfl Tryz.isAgg9 rfl) rfl ?_
  refine WL.val (.cat (.of rfl) (.of rfl) (by (try simp only [List.length_append, List.length_cons, List.length_nil]); omega)) rfl ?_
  refine WL.val (.assign (.of rfl)) rfl ?_
  refine WL.nil ?_
  refine WC.seq ?_
  refine WC.region ?_
  refine WL.val (.move (.of rfl)) rfl ?_
  refine WL.val (.assign (.of rfl)) rfl ?_
  refine WL.nil ?_
  refine WC.ret ?_
  refine ret1 Tryz.results24 rfl ?_
  refine ⟨_, rfl, ?_, hS.drop (k := 0) rfl⟩
  rw [strU, if_pos hc10]
  simp [List.append_assoc]
 ·
  have hc10 := hb10; try simp only [Gk.cs0] at hc10
  refine WC.skip ?_
  refine WC.seq ?_
  refine WC.region ?_
  refine WL.val (.move (.of rfl)) rfl ?_
  refine WL.val (.assign (.of rfl)) rfl ?_
  refine WL.nil ?_
  refine WC.ret ?_
  refine ret1 Tryz.results24 rfl ?_
  refine ⟨_, rfl, ?_, hS.drop (k := 0) rfl⟩
  rw [strU, if_neg (by rw [hc10]; decide), List.append_nil]
end Go.Proofs.YtchgkcbloeoopaaGreatDoor
namespace Go.Proofs.YtchgkcbloeoopaaGreatDoor
open Gk Pc Ul Pat
set_option linter.unusedVariables false
set_option linter.unusedSimpArgs false
theorem bld55_23 : Bld Tryz.prog 55 [(0, 1), (1, 1), (2, 1), (3, 1), (4, 1), (5, 1)] [S [], S [], .int .i64 0, S [], S [], .bool false] := bld_of Tryz.underlying55 Tryz.zeroValue55 (fun w => by simp [go_sem])
set_option maxHeartbeats 1000000 in
theorem refParse_any (s : List UInt8) (hl : s.length ≤ 1000000) (B w : World) (I : Im) (As : List Assn) (hS : Sat B w I As) :
  Calls Tryz.prog 23 [S s].toArray w (Ret fun v w' => v = .tuple #[.agg (uc (pU s).1).toArray, I64 ((pU s).2 : Nat)] ∧ Sat B w' I As) := by
 refine calls Tryz.func23 rfl Tryz.ntmps23 rfl ?_
 refine WC.seq ?_
 refine WC.region ?_
 refine WL.allocA (cs := [_, _, _, _, _, _]) hS Tryz.zeroValue55 rfl ?_
 clear hS; intro b2 w hS
 refine WL.val (.assign (.of rfl)) rfl ?_
 refine WL.nil ?_
 refine WC.seq ?_
 refine WC.seq ?_
 refine WC.region ?_
 refine WL.val (.move (.of rfl)) rfl ?_
 refine WL.val (.len (.of rfl) Tryz.underlying9) rfl ?_
 refine WL.val (.gtr (.of rfl) (.of rfl)) rfl ?_
 refine WL.nil ?_
 refine WC.cond rfl (fun hb20 => ?_) (fun hb20 => ?_)
 ·
  have hc20 := hb20; try simp only [Gk.cs0] at hc20
  refine WC.seq ?_
  refine WC.region ?_
  refine WL.val (.build (cs := [_, _, _, _, _, _]) parts_nil bld55_23 rfl) rfl ?_
  first | refine WL.stA hS (k := 0) rfl (.of rfl) (.of rfl) rfl Tryz.sizeOf55 rfl (by simp) ?_
  clear hS; intro w hS; try dsimp only [List.set] at hS
  try simp only [List.take_zero, List.nil_append, List.append_nil, List.drop_succ_cons, List.drop_zero, List.drop_nil, Nat.zero_add] at hS
  refine WL.val (.assign (.of rfl)) rfl ?_
  refine WL.nil ?_
  refine WC.ret ?_
  first | refine ret2c (b := _) (cs := [_, _, _, _, _, _]) Tryz.results23 hS (k := 0) rfl Tryz.isAgg55 Tryz.sizeOf55 rfl rfl rfl ?_
  exact ⟨_, rfl, by rw [pU, if_pos (by omega)]; rfl, (hS.drop (k := 0) rfl)⟩
 ·
  have hc20 := hb20; try simp only [Gk.cs0] at hc20
  refine WC.skip ?_
  refine WC.seq ?_
  refine WC.region ?_
  refine WL.val (.assign (.of rfl)) rfl ?_
  refine WL.nil ?_
  refine WC.seq ?_
  refine WC.region ?_
  refine WL.val (.assign (.of rfl)) rfl ?_
  refine WL.nil ?_
  refine WC.cutS (σ := List UInt8 × Nat) (fun ⟨sc0, k0⟩ => [(0, S s), (2, ptr b2 0), (4, I64 (k0 : Nat)), (5, S sc0)]) (fun ⟨sc0, k0⟩ w => (sc0 = [] ∧ k0 = 0 ∧ ¬ low (s.take 7) = [104, 116, 116, 112, 58, 47, 47] ∨ sc0 = http ∧ k0 = 7 ∧ low (s.take 7) = [104, 116, 116, 112, 58, 47, 47]) ∧ Sat B w I (blk b2 [S [], S [], I64 0, S [], S [], .bool false] 55 :: As)) ?_ ?_
  ·
   refine WC.seq ?_
   refine WC.region ?_
   refine WL.val (.move (.of rfl)) rfl ?_
   refine WL.val (.len (.of rfl) Tryz.underlying9) rfl ?_
   refine WL.val (.geq (.of rfl) (.of rfl)) rfl ?_
   refine WL.val (.move (.of rfl)) rfl ?_
   refine WL.gval rfl rfl (fun hg1 => (.move (.of rfl))) rfl ?_
   refine WL.gval rfl rfl (fun hg1 => (.subTo (.gd hg1 rfl) (.of rfl) (by (try simp only [Gk.cs0] at hg1); omega) (by (try simp only [Gk.cs0] at hg1); omega) Tryz.underlying9)) rfl ?_
   refine WL.gcall (T := fun w => Sat B w I (blk b2 [S [], S [], I64 0, S [], S [], .bool false] 55 :: As)) rfl rfl rfl Tryz.func44 rfl (fun hg1 => (evs_cons (.gd hg1 rfl) evs_nil)) rfl (fun hg1 => small_any _ (by rw [List.length_take]; omega) B _ I _ hS) hS ?_
   clear hS; rintro w hS
   refine WL.gval rfl rfl (fun hg1 => (.eqs (.gd hg1 rfl) (.of rfl))) rfl ?_
   refine WL.val (.pand (.of rfl) (.of rfl) (.of rfl)) rfl ?_
   refine WL.nil ?_
   refine WC.cond rfl (fun hb30 => ?_) (fun hb30 => ?_)
   ·
    have hc30 := hb30; try simp only [Gk.cs0] at hc30
    refine WC.seq ?_
    refine WC.region ?_
    refine WL.val (.assign (.of rfl)) rfl ?_
    refine WL.nil ?_
    refine WC.region ?_
    refine WL.val (.assign (.of rfl)) rfl ?_
    refine WL.nil ?_
    exact ⟨(http, 7), ⟨rfl, rfl, rfl, rfl, trivial⟩, .inr ⟨rfl, rfl, (low_is (n := 7) rfl).1 hb30⟩, hS⟩
   ·
    have hc30 := hb30; try simp only [Gk.cs0] at hc30
    refine WC.skip ?_
    exact ⟨([], 0), ⟨rfl, rfl, rfl, rfl, trivial⟩, .inl ⟨rfl, rfl, fun e => by have := (low_is (n := 7) (X := [104, 116, 116, 112, 58, 47, 47]) rfl).2 e; exact absurd (this.symm.trans hb30) (by decide)⟩, hS⟩
  ·
   rintro ⟨sc0, k0⟩ w ⟨hs7, hS⟩
   change WC _ _ _ _ [(0, S s), (2, ptr b2 0), (4, I64 (k0 : Nat)), (5, S sc0)] w
   refine WC.cutS (σ := List UInt8 × Nat) (fun ⟨sch, k⟩ => [(0, S s), (2, ptr b2 0), (4, I64 (k : Nat)), (5, S sch)]) (fun ⟨sch, k⟩ w => (k = 0 ∧ schemeOf s = none ∨ schemeOf s = some (sch, s.drop k) ∧ 0 < k ∧ k ≤ s.length ∧ sch.length ≤ 5 ∧ (sch = http ∨ sch = https)) ∧ Sat B w I (blk b2 [S [], S [], I64 0, S [], S [], .bool false] 55 :: As)) ?_ ?_
   ·
    refine WC.seq ?_
    refine WC.region ?_
    refine WL.val (.move (.of rfl)) rfl ?_
    refine WL.val (.len (.of rfl) Tryz.underlying9) rfl ?_
    refine WL.val (.geq (.of rfl) (.of rfl)) rfl ?_
    refine WL.val (.move (.of rfl)) rfl ?_
    refine WL.gval rfl rfl (fun hg1 => (.move (.of rfl))) rfl ?_
    refine WL.gval rfl rfl (fun hg1 => (.subTo (.gd hg1 rfl) (.of rfl) (by (try simp only [Gk.cs0] at hg1); omega) (by (try simp only [Gk.cs0] at hg1); omega) Tryz.underlying9)) rfl ?_
    refine WL.gcall (T := fun w => Sat B w I (blk b2 [S [], S [], I64 0, S [], S [], .bool false] 55 :: As)) rfl rfl rfl Tryz.func44 rfl (fun hg1 => (evs_cons (.gd hg1 rfl) evs_nil)) rfl (fun hg1 => small_any _ (by rw [List.length_take]; omega) B _ I _ hS) hS ?_
    clear hS; rintro w hS
    refine WL.gval rfl rfl (fun hg1 => (.eqs (.gd hg1 rfl) (.of rfl))) rfl ?_
    refine WL.val (.pand (.of rfl) (.of rfl) (.of rfl)) rfl ?_
    refine WL.nil ?_
    refine WC.cond rfl (fun hb39 => ?_) (fun hb39 => ?_)
    ·
     have hc39 := hb39; try simp only [Gk.cs0] at hc39
     refine WC.seq ?_
     refine WC.region ?_
     refine WL.val (.assign (.of rfl)) rfl ?_
     refine WL.nil ?_
     refine WC.region ?_
     refine WL.val (.assign (.of rfl)) rfl ?_
     refine WL.nil ?_
     have h8 : low (s.take 8) = [104, 116, 116, 112, 115, 58, 47, 47] := (low_is (n := 8) rfl).1 hb39
     rcases hs7 with ⟨_, _, h7⟩ | ⟨_, _, h7⟩
     ·refine ⟨(https, 8), ⟨rfl, rfl, rfl, rfl, trivial⟩, .inr ⟨?_, by decide, ?_, by decide, .inr rfl⟩, hS⟩
      ·rw [schemeOf, if_neg h7, if_pos h8]
      ·have := congrArg List.length h8
       rw [low_len, List.length_take] at this; simp at this; (try dsimp only); omega
     ·exact (not_both h7 h8).elim
    ·
     have hc39 := hb39; try simp only [Gk.cs0] at hc39
     refine WC.skip ?_
     have h8 : ¬ low (s.take 8) = [104, 116, 116, 112, 115, 58, 47, 47] := fun e => by have := (low_is (n := 8) (X := [104, 116, 116, 112, 115, 58, 47, 47]) rfl).2 e; exact absurd (this.symm.trans hb39) (by decide)
     rcases hs7 with ⟨rfl, rfl, h7⟩ | ⟨rfl, rfl, h7⟩
     ·refine ⟨([], 0), ⟨rfl, rfl, rfl, rfl, trivial⟩, .inl ⟨rfl, ?_⟩, hS⟩
      rw [schemeOf, if_neg h7, if_neg h8]
     ·refine ⟨(http, 7), ⟨rfl, rfl, rfl, rfl, trivial⟩, .inr ⟨?_, by decide, ?_, by decide, .inl rfl⟩, hS⟩
      ·rw [schemeOf, if_pos h7]
      ·have := congrArg List.length h7
       rw [low_len, List.length_take] at this; simp at this; (try dsimp only); omega
   ·
    rintro ⟨sch, k⟩ w ⟨hst, hS⟩
    change WC _ _ _ _ [(0, S s), (2, ptr b2 0), (4, I64 (k : Nat)), (5, S sch)] w
    refine WC.seq ?_
    refine WC.seq ?_
    refine WC.region ?_
    refine WL.val (.move (.of rfl)) rfl ?_
    refine WL.val (.eql (.of rfl) (.of rfl)) rfl ?_
    refine WL.nil ?_
    refine WC.cond rfl (fun hb41 => ?_) (fun hb41 => ?_)
    ·
     have hc41 := hb41; try simp only [Gk.cs0] at hc41
     refine WC.seq ?_
     refine WC.region ?_
     refine WL.val (.build (cs := [_, _, _, _, _, _]) parts_nil bld55_23 rfl) rfl ?_
     first | refine WL.stA hS (k := 0) rfl (.of rfl) (.of rfl) rfl Tryz.sizeOf55 rfl (by simp) ?_
     clear hS; intro w hS; try dsimp only [List.set] at hS
     try simp only [List.take_zero, List.nil_append, List.append_nil, List.drop_succ_cons, List.drop_zero, List.drop_nil, Nat.zero_add] at hS
     refine WL.val (.assign (.of rfl)) rfl ?_
     refine WL.nil ?_
     refine WC.ret ?_
     first | refine ret2c (b := _) (cs := [_, _, _, _, _, _]) Tryz.results23 hS (k := 0) rfl Tryz.isAgg55 Tryz.sizeOf55 rfl rfl rfl ?_
     refine ⟨_, rfl, ?_, (hS.drop (k := 0) rfl)⟩
     have hnone : schemeOf s = none := by
      rcases hst with h | h
      ·exact h.2
      ·exact absurd hc41 (by omega)
     rw [pU, if_neg (by omega), hnone]; rfl
    ·
     have hc41 := hb41; try simp only [Gk.cs0] at hc41
     refine WC.skip ?_
     refine WC.seq ?_
     obtain ⟨hsome, hk1, hkl, hsl5, hsch⟩ : schemeOf s = some (sch, s.drop k) ∧ 0 < k ∧ k ≤ s.length ∧ sch.length ≤ 5 ∧ (sch = http ∨ sch = https) := by
      rcases hst with h | h
      ·exact absurd (by rw [h.1]; rfl) hc41
      ·exact h
     have hul := upto_from_len [47, 63, 35, 58] (s.drop k)
     rw [List.length_drop] at hul
     have hlow := low_len (upto [47, 63, 35, 58] (s.drop k))
     refine WC.region ?_
     refine WL.val (.move (.of rfl)) rfl ?_
     refine WL.val (.move (.of rfl)) rfl ?_
     refine WL.call Tryz.func45 rfl (evs_cons (.of rfl) (evs_cons (.of rfl) (evs_cons (.of rfl) evs_nil))) rfl (find_any s [47, 63, 35, 58] k hkl (by omega) (by decide) B _ I _ hS) ?_
     clear hS
     rintro _ w ⟨rfl, hS⟩
     refine WL.val (.assign (.of rfl)) rfl ?_
     refine WL.nil ?_
     refine WC.seq ?_
     refine WC.region ?_
     refine WL.val (.move (.of rfl)) rfl ?_
     refine WL.val (.move (.of rfl)) rfl ?_
     refine WL.val (.move (.of rfl)) rfl ?_
     refine WL.val (.sub3 (.of rfl) (.of rfl) (.of rfl) (by omega) (by omega) (by omega) Tryz.underlying9) rfl ?_
     simp only [Int.toNat_natCast]
     have hup : (s.drop k).take (k + (upto [47, 63, 35, 58] (s.drop k)).length - k) = (upto [47, 63, 35, 58] (s.drop k)) := by rw [Nat.add_sub_cancel_left, upto_take]
     refine WL.call Tryz.func44 rfl (evs_cons (.of rfl) evs_nil) rfl (small_any _ (by rw [hup]; omega) B _ I _ hS) ?_
     clear hS
     rintro _ w ⟨rfl, hS⟩
     rw [hup]
     refine WL.val (.assign (.of rfl)) rfl ?_
     refine WL.nil ?_
     refine WC.seq ?_
     refine WC.seq ?_
     refine WC.region ?_
     refine WL.val (.move (.of rfl)) rfl ?_
     refine WL.val (.move (.of rfl)) rfl ?_
     refine WL.val (.eql (.of rfl) (.of rfl)) rfl ?_
     refine WL.val (.move (.of rfl)) rfl ?_
     refine WL.gval rfl rfl (fun hg1 => (.move (.of rfl))) rfl ?_
     refine WL.gval rfl rfl (fun hg1 => (.move (.of rfl))) rfl ?_
     refine WL.gval rfl rfl (fun hg1 => (.sub (.gd hg1 rfl) (.gd hg1 rfl) ⟨by omega, by omega⟩)) rfl ?_
     refine WL.gval rfl rfl (fun hg1 => (.gtr (.gd hg1 rfl) (.of rfl))) rfl ?_
     refine WL.val (.por (.of rfl) (.of rfl) (.of rfl)) rfl ?_
     refine WL.nil ?_
     refine WC.cond rfl (fun hb59 => ?_) (fun hb59 => ?_)
     ·
      have hc59 := hb59; try simp only [Gk.cs0] at hc59
      refine WC.seq ?_
      refine WC.region ?_
      refine WL.val (.build (cs := [_, _, _, _, _, _]) parts_nil bld55_23 rfl) rfl ?_
      first | refine WL.stA hS (k := 0) rfl (.of rfl) (.of rfl) rfl Tryz.sizeOf55 rfl (by simp) ?_
      clear hS; intro w hS; try dsimp only [List.set] at hS
      try simp only [List.take_zero, List.nil_append, List.append_nil, List.drop_succ_cons, List.drop_zero, List.drop_nil, Nat.zero_add] at hS
      refine WL.val (.assign (.of rfl)) rfl ?_
      refine WL.nil ?_
      refine WC.ret ?_
      first | refine ret2c (b := _) (cs := [_, _, _, _, _, _]) Tryz.results23 hS (k := 0) rfl Tryz.isAgg55 Tryz.sizeOf55 rfl rfl rfl ?_
      refine ⟨_, rfl, ?_, (hS.drop (k := 0) rfl)⟩
      rw [pU, if_neg (by omega), hsome]
      simp only
      rw [hostOf, if_neg]
      ·rfl
      ·rw [hostOk]
       rcases Bool.or_eq_true_iff.1 hb59 with h | h
       ·simp only [beq_iff_eq] at h
        have : (low (upto [47, 63, 35, 58] (s.drop k))) = [] := List.eq_nil_of_length_eq_zero (by rw [hlow]; omega)
        rw [this]; decide
       ·simp only [decide_eq_true_eq] at h
        rw [show decide (64 < (low (upto [47, 63, 35, 58] (s.drop k))).length) = true from decide_eq_true (by rw [hlow]; omega)]
        simp
     ·
      have hc59 := hb59; try simp only [Gk.cs0] at hc59
      refine WC.skip ?_
      refine WC.seq ?_
      refine WC.seq ?_
      refine WC.region ?_
      refine WL.val (.assign (.of rfl)) rfl ?_
      refine WL.nil ?_
      refine WC.block ?_
      refine WC.loop (σ := Nat) (fun i => [(0, S s), (2, ptr b2 0), (4, I64 (k : Nat)), (5, S sch), (6, I64 ((k + (upto [47, 63, 35, 58] (s.drop k)).length : Nat) : Int)), (7, S (low (upto [47, 63, 35, 58] (s.drop k)))), (8, I64 (i : Nat))]) (fun i w => i ≤ (low (upto [47, 63, 35, 58] (s.drop k))).length ∧ (∀ j, j < i → j < (low (upto [47, 63, 35, 58] (s.drop k))).length → hostB (at_ (low (upto [47, 63, 35, 58] (s.drop k))) (j : Int)) = true) ∧ Sat B w I (blk b2 [S [], S [], I64 0, S [], S [], .bool false] 55 :: As)) (fun i => (low (upto [47, 63, 35, 58] (s.drop k))).length - i) 0 ⟨rfl, rfl, rfl, rfl, rfl, rfl, rfl, trivial⟩ ⟨Nat.zero_le _, fun _ h => absurd h (by omega), hS⟩ ?_
      rintro i w ⟨hi, hok, hS⟩
      change WC _ _ _ _ [(0, S s), (2, ptr b2 0), (4, I64 (k : Nat)), (5, S sch), (6, I64 ((k + (upto [47, 63, 35, 58] (s.drop k)).length : Nat) : Int)), (7, S (low (upto [47, 63, 35, 58] (s.drop k)))), (8, I64 (i : Nat))] w
      refine WC.seq ?_
      refine WC.seq ?_
      refine WC.region ?_
      refine WL.val (.move (.of rfl)) rfl ?_
      refine WL.val (.move (.of rfl)) rfl ?_
      refine WL.val (.len (.of rfl) Tryz.underlying9) rfl ?_
      refine WL.val (.lss (.of rfl) (.of rfl)) rfl ?_
      refine WL.nil ?_
      refine WC.cond rfl (fun hb64 => ?_) (fun hb64 => ?_)
      ·
       have hc64 := hb64; try simp only [Gk.cs0] at hc64
       refine WC.skip ?_
       refine WC.seq ?_
       refine WC.block ?_
       refine WC.seq ?_
       refine WC.region ?_
       refine WL.val (.move (.of rfl)) rfl ?_
       refine WL.val (.move (.of rfl)) rfl ?_
       refine WL.val (.index (.of rfl) (.of rfl) (by omega) (by omega) Tryz.underlying9) rfl ?_
       refine WL.val (.assign (.of rfl)) rfl ?_
       refine WL.nil ?_
       refine WC.seq ?_
       refine WC.region ?_
       refine WL.val (.move (.of rfl)) rfl ?_
       refine WL.val (.lss (.of rfl) (.of rfl)) rfl ?_
       refine WL.val (.move (.of rfl)) rfl ?_
       refine WL.gval rfl rfl (fun hg1 => (.move (.of rfl))) rfl ?_
       refine WL.gval rfl rfl (fun hg1 => (.gtr (.gd hg1 rfl) (.of rfl))) rfl ?_
       refine WL.val (.por (.of rfl) (.of rfl) (.of rfl)) rfl ?_
       refine WL.val (.move (.of rfl)) rfl ?_
       refine WL.gval rfl rfl (fun hg1 => (.move (.of rfl))) rfl ?_
       refine WL.gval rfl rfl (fun hg1 => (.lss (.gd hg1 rfl) (.of rfl))) rfl ?_
       refine WL.gval rfl rfl (fun hg1 => (.move (.gd hg1 rfl))) rfl ?_
       refine WL.gval2 rfl rfl rfl (fun hg1 hg2 => (.move (.of rfl))) rfl ?_
       refine WL.gval2 rfl rfl rfl (fun hg1 hg2 => (.gtr (.gd2 hg1 hg2 rfl) (.of rfl))) rfl ?_
       refine WL.gval rfl rfl (fun hg1 => (.por (.gd hg1 rfl) (.of rfl) (.gd hg1 rfl))) rfl ?_
       refine WL.val (.pand (.of rfl) (.of rfl) (.of rfl)) rfl ?_
       refine WL.val (.move (.of rfl)) rfl ?_
       refine WL.gval rfl rfl (fun hg1 => (.move (.of rfl))) rfl ?_
       refine WL.gval rfl rfl (fun hg1 => (.neq (.gd hg1 rfl) (.of rfl))) rfl ?_
       refine WL.val (.pand (.of rfl) (.of rfl) (.of rfl)) rfl ?_
       refine WL.val (.move (.of rfl)) rfl ?_
       refine WL.gval rfl rfl (fun hg1 => (.move (.of rfl))) rfl ?_
       refine WL.gval rfl rfl (fun hg1 => (.neq (.gd hg1 rfl) (.of rfl))) rfl ?_
       refine WL.val (.pand (.of rfl) (.of rfl) (.of rfl)) rfl ?_
       refine WL.nil ?_
       refine WC.cond rfl (fun hb91 => ?_) (fun hb91 => ?_)
       ·
        have hc91 := hb91; try simp only [Gk.cs0] at hc91
        refine WC.seq ?_
        refine WC.region ?_
        refine WL.val (.build (cs := [_, _, _, _, _, _]) parts_nil bld55_23 rfl) rfl ?_
        first | refine WL.stA hS (k := 0) rfl (.of rfl) (.of rfl) rfl Tryz.sizeOf55 rfl (by simp) ?_
        clear hS; intro w hS; try dsimp only [List.set] at hS
        try simp only [List.take_zero, List.nil_append, List.append_nil, List.drop_succ_cons, List.drop_zero, List.drop_nil, Nat.zero_add] at hS
        refine WL.val (.assign (.of rfl)) rfl ?_
        refine WL.nil ?_
        refine WC.ret ?_
        first | refine ret2c (b := _) (cs := [_, _, _, _, _, _]) Tryz.results23 hS (k := 0) rfl Tryz.isAgg55 Tryz.sizeOf55 rfl rfl rfl ?_
        refine ⟨_, rfl, ?_, (hS.drop (k := 0) rfl)⟩
        rw [pU, if_neg (by omega), hsome]
        simp only
        rw [hostOf, if_neg]
        ·rfl
        ·rw [at_low _ _ (by omega), hostB_ref] at hb91
         rw [hostOk, not_all (p := hostB) (i := i) (by omega) (by rw [at_low _ _ (by omega)]; simpa using hb91), Bool.and_false]; decide
       ·
        have hc91 := hb91; try simp only [Gk.cs0] at hc91
        refine WC.skip ?_
        refine WC.region ?_
        refine WL.val (.move (.of rfl)) rfl ?_
        refine WL.val (.add (.of rfl) (.of rfl) ⟨by omega, by omega⟩) rfl ?_
        refine WL.val (.assign (.of rfl)) rfl ?_
        refine WL.nil ?_
        refine ⟨i + 1, ⟨rfl, rfl, rfl, rfl, rfl, rfl, rfl, trivial⟩, ⟨by omega, fun j hj hjl => ?_, hS⟩, by omega⟩
        rcases Nat.lt_or_ge j i with h1 | h1
        ·exact hok j h1 hjl
        ·have e : j = i := by omega
         subst e
         rw [at_low _ _ (by omega)] at hb91 ⊢
         rw [hostB_ref] at hb91
         simpa using hb91
      ·
       have hc64 := hb64; try simp only [Gk.cs0] at hc64
       refine WC.exit ?_
       refine WC.seq ?_
       refine WC.region ?_
       refine WL.val (.move (.of rfl)) rfl ?_
       refine WL.val (.move (.of rfl)) rfl ?_
       refine WL.val (.build (cs := [_, _, _, _, _, _]) (parts_cons (.of rfl) (parts_cons (.of rfl) parts_nil)) bld55_23 rfl) rfl ?_
       refine WL.allocA (cs := [_, _, _, _, _, _]) hS Tryz.zeroValue55 rfl ?_
       clear hS; intro b10 w hS
       first | refine WL.stA hS (k := 0) rfl (.of rfl) (.of rfl) rfl Tryz.sizeOf55 rfl (by simp) ?_ | refine WL.stA hS (k := 1) rfl (.of rfl) (.of rfl) rfl Tryz.sizeOf55 rfl (by simp) ?_
       clear hS; intro w hS; try dsimp only [List.set] at hS
       try simp only [List.take_zero, List.nil_append, List.append_nil, List.drop_succ_cons, List.drop_zero, List.drop_nil, Nat.zero_add] at hS
       refine WL.nil ?_
       refine WC.cutS (σ := Nat × Nat) (fun ⟨port, te⟩ => [(0, S s), (2, ptr b2 0), (6, I64 (te : Nat)), (10, ptr b10 0)]) (fun ⟨port, te⟩ w => pU s = tailU sch (low (upto [47, 63, 35, 58] (s.drop k))) port (s.drop te) ∧ te ≤ s.length ∧ port ≤ 65535 ∧ Sat B w I (blk b10 [S sch, S (low (upto [47, 63, 35, 58] (s.drop k))), I64 (port : Nat), S [], S [], .bool false] 55 :: blk b2 [S [], S [], I64 0, S [], S [], .bool false] 55 :: As)) ?_ ?_
       ·
        refine WC.seq ?_
        have hhost : hostOk (low (upto [47, 63, 35, 58] (s.drop k))) = true := by
         rw [hostOk, all_of hok (by omega), Bool.and_true]
         rw [show decide (64 < (low (upto [47, 63, 35, 58] (s.drop k))).length) = false from decide_eq_false (by omega)]
         cases hh : (low (upto [47, 63, 35, 58] (s.drop k))) with
         | nil => have := congrArg List.length hh; rw [hlow, List.length_nil] at this; omega
         | cons a b => rfl
        have hfd : s.drop (k + (upto [47, 63, 35, 58] (s.drop k)).length) = (from_ [47, 63, 35, 58] (s.drop k)) := by rw [← from_drop [47, 63, 35, 58] (s.drop k), List.drop_drop]
        refine WC.region ?_
        refine WL.val (.move (.of rfl)) rfl ?_
        refine WL.val (.move (.of rfl)) rfl ?_
        refine WL.val (.len (.of rfl) Tryz.underlying9) rfl ?_
        refine WL.val (.lss (.of rfl) (.of rfl)) rfl ?_
        refine WL.val (.move (.of rfl)) rfl ?_
        refine WL.gval rfl rfl (fun hg1 => (.move (.of rfl))) rfl ?_
        refine WL.gval rfl rfl (fun hg1 => (.move (.of rfl))) rfl ?_
        refine WL.gval rfl rfl (fun hg1 => .index (.gd hg1 rfl) (.gd hg1 rfl) (by omega) (by have hg1x := of_decide_eq_true hg1; omega) Tryz.underlying9) rfl ?_
        refine WL.gval rfl rfl (fun hg1 => (.eql (.gd hg1 rfl) (.of rfl))) rfl ?_
        refine WL.val (.pand (.of rfl) (.of rfl) (.of rfl)) rfl ?_
        refine WL.nil ?_
        refine WC.cond rfl (fun hb105 => ?_) (fun hb105 => ?_)
        ·
         have hc105 := hb105; try simp only [Gk.cs0] at hc105
         refine WC.seq ?_
         have htk : (from_ [47, 63, 35, 58] (s.drop k)).take 1 = [58] := by
          have h := hb105
          simp only [Bool.and_eq_true, beq_iff_eq, decide_eq_true_eq] at h
          rw [← hfd, drop_at s (show k + (upto [47, 63, 35, 58] (s.drop k)).length < s.length by omega)]
          show [at_ s ((k + (upto [47, 63, 35, 58] (s.drop k)).length : Nat) : Int)] = [58]
          congr 1
          exact UInt8.toNat_inj.1 (by show (at_ s _).toNat = 58; omega)
         have hlt : k + (upto [47, 63, 35, 58] (s.drop k)).length < s.length := by
          have h := hb105
          simp only [Bool.and_eq_true, beq_iff_eq, decide_eq_true_eq] at h
          omega
         have hfd1 : s.drop (k + (upto [47, 63, 35, 58] (s.drop k)).length + 1) = (from_ [47, 63, 35, 58] (s.drop k)).drop 1 := by rw [← hfd, List.drop_drop]
         have hdl := upto_from_len [47, 63, 35] ((from_ [47, 63, 35, 58] (s.drop k)).drop 1)
         have hr1l : ((from_ [47, 63, 35, 58] (s.drop k)).drop 1).length = s.length - (k + (upto [47, 63, 35, 58] (s.drop k)).length + 1) := by rw [← hfd1, List.length_drop]
         rw [hr1l] at hdl
         refine WC.region ?_
         refine WL.val (.move (.of rfl)) rfl ?_
         refine WL.val (.move (.of rfl)) rfl ?_
         refine WL.val (.add (.of rfl) (.of rfl) ⟨by omega, by omega⟩) rfl ?_
         rw [show (((k + (upto [47, 63, 35, 58] (s.drop k)).length : Nat) : Int) + 1) = ((k + (upto [47, 63, 35, 58] (s.drop k)).length + 1 : Nat) : Int) by omega]
         refine WL.call Tryz.func45 rfl (evs_cons (.of rfl) (evs_cons (.of rfl) (evs_cons (.of rfl) evs_nil))) rfl (find_any s [47, 63, 35] (k + (upto [47, 63, 35, 58] (s.drop k)).length + 1) (by omega) (by omega) (by decide) B _ I _ hS) ?_
         clear hS
         rintro _ w ⟨rfl, hS⟩
         rw [hfd1]
         refine WL.val (.assign (.of rfl)) rfl ?_
         refine WL.nil ?_
         refine WC.seq ?_
         refine WC.region ?_
         refine WL.val (.move (.of rfl)) rfl ?_
         refine WL.val (.move (.of rfl)) rfl ?_
         refine WL.val (.add (.of rfl) (.of rfl) ⟨by omega, by omega⟩) rfl ?_
         rw [show (((k + (upto [47, 63, 35, 58] (s.drop k)).length : Nat) : Int) + 1) = ((k + (upto [47, 63, 35, 58] (s.drop k)).length + 1 : Nat) : Int) by omega]
         refine WL.val (.move (.of rfl)) rfl ?_
         refine WL.val (.sub3 (.of rfl) (.of rfl) (.of rfl) (by omega) (by omega) (by omega) Tryz.underlying9) rfl ?_
         simp only [Int.toNat_natCast]
         rw [show (s.drop (k + (upto [47, 63, 35, 58] (s.drop k)).length + 1)).take (k + (upto [47, 63, 35, 58] (s.drop k)).length + 1 + (upto [47, 63, 35] ((from_ [47, 63, 35, 58] (s.drop k)).drop 1)).length - (k + (upto [47, 63, 35, 58] (s.drop k)).length + 1)) = (upto [47, 63, 35] ((from_ [47, 63, 35, 58] (s.drop k)).drop 1)) by rw [Nat.add_sub_cancel_left, hfd1, upto_take]]
         refine WL.val (.assign (.of rfl)) rfl ?_
         refine WL.nil ?_
         refine WC.seq ?_
         refine WC.region ?_
         refine WL.val (.assign (.of rfl)) rfl ?_
         refine WL.nil ?_
         refine WC.seq ?_
         refine WC.seq ?_
         refine WC.region ?_
         refine WL.val (.assign (.of rfl)) rfl ?_
         refine WL.nil ?_
         refine WC.block ?_
         refine WC.loop (σ := Nat) (fun i => [(0, S s), (2, ptr b2 0), (5, S sch), (10, ptr b10 0), (11, I64 ((k + (upto [47, 63, 35, 58] (s.drop k)).length + 1 + (upto [47, 63, 35] ((from_ [47, 63, 35, 58] (s.drop k)).drop 1)).length : Nat) : Int)), (12, S (upto [47, 63, 35] ((from_ [47, 63, 35, 58] (s.drop k)).drop 1))), (13, I64 (val ((upto [47, 63, 35] ((from_ [47, 63, 35, 58] (s.drop k)).drop 1)).take i) : Nat)), (14, I64 (i : Nat))]) (fun i w => i ≤ (upto [47, 63, 35] ((from_ [47, 63, 35, 58] (s.drop k)).drop 1)).length ∧ (∀ j, j < i → j < (upto [47, 63, 35] ((from_ [47, 63, 35, 58] (s.drop k)).drop 1)).length → digB (at_ (upto [47, 63, 35] ((from_ [47, 63, 35, 58] (s.drop k)).drop 1)) (j : Int)) = true) ∧ val ((upto [47, 63, 35] ((from_ [47, 63, 35, 58] (s.drop k)).drop 1)).take i) ≤ 655359 ∧ Sat B w I (blk b10 [S sch, S (low (upto [47, 63, 35, 58] (s.drop k))), I64 0, S [], S [], .bool false] 55 :: blk b2 [S [], S [], I64 0, S [], S [], .bool false] 55 :: As)) (fun i => (upto [47, 63, 35] ((from_ [47, 63, 35, 58] (s.drop k)).drop 1)).length - i) 0 ⟨rfl, rfl, rfl, rfl, rfl, rfl, rfl, rfl, trivial⟩ ⟨Nat.zero_le _, fun _ h => absurd h (by omega), by simp [val], hS⟩ ?_
         rintro i w ⟨hi, hok2, hvl, hS⟩
         change WC _ _ _ _ [(0, S s), (2, ptr b2 0), (5, S sch), (10, ptr b10 0), (11, I64 ((k + (upto [47, 63, 35, 58] (s.drop k)).length + 1 + (upto [47, 63, 35] ((from_ [47, 63, 35, 58] (s.drop k)).drop 1)).length : Nat) : Int)), (12, S (upto [47, 63, 35] ((from_ [47, 63, 35, 58] (s.drop k)).drop 1))), (13, I64 (val ((upto [47, 63, 35] ((from_ [47, 63, 35, 58] (s.drop k)).drop 1)).take i) : Nat)), (14, I64 (i : Nat))] w
         refine WC.seq ?_
         refine WC.seq ?_
         refine WC.region ?_
         refine WL.val (.move (.of rfl)) rfl ?_
         refine WL.val (.move (.of rfl)) rfl ?_
         refine WL.val (.len (.of rfl) Tryz.underlying9) rfl ?_
         refine WL.val (.lss (.of rfl) (.of rfl)) rfl ?_
         refine WL.nil ?_
         refine WC.cond rfl (fun hb118 => ?_) (fun hb118 => ?_)
         ·
          have hc118 := hb118; try simp only [Gk.cs0] at hc118
          refine WC.skip ?_
          refine WC.seq ?_
          refine WC.block ?_
          refine WC.seq ?_
          refine WC.seq ?_
          refine WC.region ?_
          refine WL.val (.move (.of rfl)) rfl ?_
          refine WL.val (.move (.of rfl)) rfl ?_
          refine WL.val (.index (.of rfl) (.of rfl) (by omega) (by omega) Tryz.underlying9) rfl ?_
          refine WL.val (.lss (.of rfl) (.of rfl)) rfl ?_
          refine WL.val (.move (.of rfl)) rfl ?_
          refine WL.gval rfl rfl (fun hg1 => (.move (.of rfl))) rfl ?_
          refine WL.gval rfl rfl (fun hg1 => (.move (.of rfl))) rfl ?_
          refine WL.gval rfl rfl (fun hg1 => (.index (.gd hg1 rfl) (.gd hg1 rfl) (by (try simp only [Gk.cs0] at hg1); omega) (by (try simp only [Gk.cs0] at hg1); omega) Tryz.underlying9)) rfl ?_
          refine WL.gval rfl rfl (fun hg1 => (.gtr (.gd hg1 rfl) (.of rfl))) rfl ?_
          refine WL.val (.por (.of rfl) (.of rfl) (.of rfl)) rfl ?_
          refine WL.val (.move (.of rfl)) rfl ?_
          refine WL.gval rfl rfl (fun hg1 => (.move (.of rfl))) rfl ?_
          refine WL.gval rfl rfl (fun hg1 => (.gtr (.gd hg1 rfl) (.of rfl))) rfl ?_
          refine WL.val (.por (.of rfl) (.of rfl) (.of rfl)) rfl ?_
          refine WL.nil ?_
          refine WC.cond rfl (fun hb134 => ?_) (fun hb134 => ?_)
          ·
           have hc134 := hb134; try simp only [Gk.cs0] at hc134
           refine WC.seq ?_
           refine WC.region ?_
           refine WL.val (.build (cs := [_, _, _, _, _, _]) parts_nil bld55_23 rfl) rfl ?_
           first | refine WL.stA hS (k := 0) rfl (.of rfl) (.of rfl) rfl Tryz.sizeOf55 rfl (by simp) ?_ | refine WL.stA hS (k := 1) rfl (.of rfl) (.of rfl) rfl Tryz.sizeOf55 rfl (by simp) ?_
           clear hS; intro w hS; try dsimp only [List.set] at hS
           try simp only [List.take_zero, List.nil_append, List.append_nil, List.drop_succ_cons, List.drop_zero, List.drop_nil, Nat.zero_add] at hS
           refine WL.val (.assign (.of rfl)) rfl ?_
           refine WL.nil ?_
           refine WC.ret ?_
           first | refine ret2c (b := _) (cs := [_, _, _, _, _, _]) Tryz.results23 hS (k := 0) rfl Tryz.isAgg55 Tryz.sizeOf55 rfl rfl rfl ?_ | refine ret2c (b := _) (cs := [_, _, _, _, _, _]) Tryz.results23 hS (k := 1) rfl Tryz.isAgg55 Tryz.sizeOf55 rfl rfl rfl ?_
           refine ⟨_, rfl, ?_, ((hS.drop (k := 0) rfl).drop (k := 0) rfl)⟩
           rw [pU, if_neg (by omega), hsome]
           simp only
           rw [hostOf, if_pos hhost, behind, if_pos htk, if_neg]
           ·rfl
           ·rw [Bool.not_eq_true]
            unfold portOk
            rcases Bool.or_eq_true_iff.1 hb134 with h | h
            ·rw [digB_int] at h
             rw [not_all (p := digB) (i := i) (by omega) (by simpa using h)]; rfl
            ·simp only [decide_eq_true_eq] at h
             have hm := val_mono (upto [47, 63, 35] ((from_ [47, 63, 35, 58] (s.drop k)).drop 1)) i (upto [47, 63, 35] ((from_ [47, 63, 35, 58] (s.drop k)).drop 1)).length (by omega)
             rw [List.take_length] at hm
             rw [decide_eq_false (show ¬ val (upto [47, 63, 35] ((from_ [47, 63, 35, 58] (s.drop k)).drop 1)) ≤ 65535 by omega)]; simp
          ·
           have hc134 := hb134; try simp only [Gk.cs0] at hc134
           refine WC.skip ?_
           have hdig : digB (at_ (upto [47, 63, 35] ((from_ [47, 63, 35, 58] (s.drop k)).drop 1)) (i : Int)) = true := by
            cases hd : digB (at_ (upto [47, 63, 35] ((from_ [47, 63, 35, 58] (s.drop k)).drop 1)) (i : Int)) with
            | true => rfl
            | false =>
             have h := digB_int (at_ (upto [47, 63, 35] ((from_ [47, 63, 35, 58] (s.drop k)).drop 1)) (i : Int))
             rw [hd] at h
             rw [h] at hb134
             exact absurd hb134 (by simp)
           have hrg := digB_range hdig
           have hv65 : val ((upto [47, 63, 35] ((from_ [47, 63, 35, 58] (s.drop k)).drop 1)).take i) ≤ 65535 := by have := hc134.2; omega
           refine WC.region ?_
           refine WL.val (.move (.of rfl)) rfl ?_
           refine WL.val (.mul (.of rfl) (.of rfl) ⟨by omega, by omega⟩) rfl ?_
           refine WL.val (.move (.of rfl)) rfl ?_
           refine WL.val (.move (.of rfl)) rfl ?_
           refine WL.val (.index (.of rfl) (.of rfl) (by omega) (by omega) Tryz.underlying9) rfl ?_
           refine WL.val (.subx (.of rfl) (.of rfl) (by rw [IntKind.wrap_u8]; omega)) rfl ?_
           refine WL.val (.cvi (.of rfl) Tryz.underlying5 Tryz.underlying3 (by rw [IntKind.wrap_i64]; omega)) rfl ?_
           refine WL.val (.add (.of rfl) (.of rfl) ⟨by omega, by omega⟩) rfl ?_
           refine WL.val (.assign (.of rfl)) rfl ?_
           refine WL.nil ?_
           refine WC.region ?_
           refine WL.val (.move (.of rfl)) rfl ?_
           refine WL.val (.add (.of rfl) (.of rfl) ⟨by omega, by omega⟩) rfl ?_
           refine WL.val (.assign (.of rfl)) rfl ?_
           refine WL.nil ?_
           refine ⟨i + 1, ⟨rfl, rfl, rfl, rfl, rfl, rfl, ?_, rfl, trivial⟩, ⟨by omega, fun j hj hjl => ?_, ?_, hS⟩, by omega⟩
           ·rw [val_take _ i (by omega)]
            show some (I64 _) = some (I64 _)
            congr 2
            omega
           ·rcases Nat.lt_or_ge j i with h1 | h1
            ·exact hok2 j h1 hjl
            ·have e : j = i := by omega
             rw [e]; exact hdig
           ·rw [val_take _ i (by omega)]; omega
         ·
          have hc118 := hb118; try simp only [Gk.cs0] at hc118
          refine WC.exit ?_
          refine WC.seq ?_
          refine WC.seq ?_
          refine WC.region ?_
          refine WL.val (.move (.of rfl)) rfl ?_
          refine WL.val (.lss (.of rfl) (.of rfl)) rfl ?_
          refine WL.val (.move (.of rfl)) rfl ?_
          refine WL.gval rfl rfl (fun hg1 => (.move (.of rfl))) rfl ?_
          refine WL.gval rfl rfl (fun hg1 => (.gtr (.gd hg1 rfl) (.of rfl))) rfl ?_
          refine WL.val (.por (.of rfl) (.of rfl) (.of rfl)) rfl ?_
          refine WL.val (.move (.of rfl)) rfl ?_
          refine WL.gval rfl rfl (fun hg1 => (.move (.of rfl))) rfl ?_
          refine WL.gval rfl rfl (fun hg1 => .index (.gd hg1 rfl) (.of rfl) (by omega) (by rcases Nat.eq_zero_or_pos ((upto [47, 63, 35] ((from_ [47, 63, 35, 58] (s.drop k)).drop 1))).length with h0 | h0; (have hnil := List.eq_nil_of_length_eq_zero h0; rw [hnil] at hg1; simp [val] at hg1); omega) Tryz.underlying9) rfl ?_
          refine WL.gval rfl rfl (fun hg1 => (.eql (.gd hg1 rfl) (.of rfl))) rfl ?_
          refine WL.val (.por (.of rfl) (.of rfl) (.of rfl)) rfl ?_
          refine WL.nil ?_
          refine WC.cond rfl (fun hb154 => ?_) (fun hb154 => ?_)
          ·
           have hc154 := hb154; try simp only [Gk.cs0] at hc154
           refine WC.seq ?_
           refine WC.region ?_
           refine WL.val (.build (cs := [_, _, _, _, _, _]) parts_nil bld55_23 rfl) rfl ?_
           first | refine WL.stA hS (k := 0) rfl (.of rfl) (.of rfl) rfl Tryz.sizeOf55 rfl (by simp) ?_ | refine WL.stA hS (k := 1) rfl (.of rfl) (.of rfl) rfl Tryz.sizeOf55 rfl (by simp) ?_
           clear hS; intro w hS; try dsimp only [List.set] at hS
           try simp only [List.take_zero, List.nil_append, List.append_nil, List.drop_succ_cons, List.drop_zero, List.drop_nil, Nat.zero_add] at hS
           refine WL.val (.assign (.of rfl)) rfl ?_
           refine WL.nil ?_
           refine WC.ret ?_
           first | refine ret2c (b := _) (cs := [_, _, _, _, _, _]) Tryz.results23 hS (k := 0) rfl Tryz.isAgg55 Tryz.sizeOf55 rfl rfl rfl ?_ | refine ret2c (b := _) (cs := [_, _, _, _, _, _]) Tryz.results23 hS (k := 1) rfl Tryz.isAgg55 Tryz.sizeOf55 rfl rfl rfl ?_
           refine ⟨_, rfl, ?_, ((hS.drop (k := 0) rfl).drop (k := 0) rfl)⟩
           have hdlen : (upto [47, 63, 35] ((from_ [47, 63, 35, 58] (s.drop k)).drop 1)).length = i := by omega
           have hb154' := hb154
           rw [← hdlen, List.take_length] at hb154'
           rw [pU, if_neg (by omega), hsome]
           simp only
           rw [hostOf, if_pos hhost, behind, if_pos htk, if_neg]
           ·rfl
           ·rw [Bool.not_eq_true]
            unfold portOk
            rcases Bool.or_eq_true_iff.1 hb154' with h | h
            ·rcases Bool.or_eq_true_iff.1 h with h | h
             ·simp only [decide_eq_true_eq] at h
              rw [decide_eq_false (show ¬ 1 ≤ val (upto [47, 63, 35] ((from_ [47, 63, 35, 58] (s.drop k)).drop 1)) by omega)]; simp
             ·simp only [decide_eq_true_eq] at h
              rw [decide_eq_false (show ¬ val (upto [47, 63, 35] ((from_ [47, 63, 35, 58] (s.drop k)).drop 1)) ≤ 65535 by omega)]; simp
            ·simp only [beq_iff_eq] at h
             have : (upto [47, 63, 35] ((from_ [47, 63, 35, 58] (s.drop k)).drop 1)).headD 0 = 48 := by
              have h2 : (at_ (upto [47, 63, 35] ((from_ [47, 63, 35, 58] (s.drop k)).drop 1)) 0).toNat = 48 := by omega
              have h3 : at_ (upto [47, 63, 35] ((from_ [47, 63, 35, 58] (s.drop k)).drop 1)) 0 = 48 := UInt8.toNat_inj.1 h2
              cases hh : (upto [47, 63, 35] ((from_ [47, 63, 35, 58] (s.drop k)).drop 1)) with
              | nil => rw [hh] at h3; simp [at_] at h3
              | cons a b => rw [hh] at h3; exact h3
             rw [this]; simp
          ·
           have hc154 := hb154; try simp only [Gk.cs0] at hc154
           refine WC.skip ?_
           refine WC.seq ?_
           refine WC.seq ?_
           refine WC.region ?_
           refine WL.val (.move (.of rfl)) rfl ?_
           refine WL.val (.eqs (.of rfl) (.of rfl)) rfl ?_
           refine WL.val (.move (.of rfl)) rfl ?_
           refine WL.gval rfl rfl (fun hg1 => (.move (.of rfl))) rfl ?_
           refine WL.gval rfl rfl (fun hg1 => (.eql (.gd hg1 rfl) (.of rfl))) rfl ?_
           refine WL.val (.pand (.of rfl) (.of rfl) (.of rfl)) rfl ?_
           refine WL.val (.move (.of rfl)) rfl ?_
           refine WL.gval rfl rfl (fun hg1 => (.move (.of rfl))) rfl ?_
           refine WL.gval rfl rfl (fun hg1 => (.eqs (.gd hg1 rfl) (.of rfl))) rfl ?_
           refine WL.gval rfl rfl (fun hg1 => (.move (.gd hg1 rfl))) rfl ?_
           refine WL.gval2 rfl rfl rfl (fun hg1 hg2 => (.move (.of rfl))) rfl ?_
           refine WL.gval2 rfl rfl rfl (fun hg1 hg2 => (.eql (.gd2 hg1 hg2 rfl) (.of rfl))) rfl ?_
           refine WL.gval rfl rfl (fun hg1 => (.pand (.gd hg1 rfl) (.gd hg1 rfl) (.of rfl))) rfl ?_
           refine WL.val (.por (.of rfl) (.of rfl) (.of rfl)) rfl ?_
           refine WL.val (.not (.of rfl)) rfl ?_
           refine WL.nil ?_
           refine WC.cond rfl (fun hb170 => ?_) (fun hb170 => ?_)
           ·
            have hc170 := hb170; try simp only [Gk.cs0] at hc170
            refine WC.region ?_
            refine WL.val (.move (.of rfl)) rfl ?_
            first | refine WL.val (.fieldAddr 2 (.of rfl) Tryz.underlying55 rfl rfl Tryz.sizeOf3 rfl) rfl ?_ | refine WL.val (.fieldAddrI 2 (.of rfl) Tryz.underlying55 rfl rfl Tryz.sizeOf3 rfl) rfl ?_
            first | refine WL.st1 hS (k := 0) rfl (.of rfl) (.of rfl) rfl Tryz.sizeOf3 (by simp) ?_ | refine WL.st1 hS (k := 1) rfl (.of rfl) (.of rfl) rfl Tryz.sizeOf3 (by simp) ?_
            clear hS; intro w hS; try dsimp only [List.set] at hS
            refine WL.nil ?_
            refine WC.region ?_
            refine WL.val (.move (.of rfl)) rfl ?_
            refine WL.val (.assign (.of rfl)) rfl ?_
            refine WL.nil ?_
            have hdlen : (upto [47, 63, 35] ((from_ [47, 63, 35, 58] (s.drop k)).drop 1)).length = i := by omega
            have hb154' := hb154
            rw [← hdlen, List.take_length] at hb154'
            obtain ⟨h12, h3⟩ := Bool.or_eq_false_iff.1 hb154'
            obtain ⟨h1, h2⟩ := Bool.or_eq_false_iff.1 h12
            simp only [decide_eq_false_iff_not] at h1 h2
            have hne : (upto [47, 63, 35] ((from_ [47, 63, 35, 58] (s.drop k)).drop 1)) ≠ [] := fun e => by rw [e] at h1; simp [val] at h1
            have hgood : portOk (upto [47, 63, 35] ((from_ [47, 63, 35, 58] (s.drop k)).drop 1)) = true := by
             unfold portOk
             have e : (upto [47, 63, 35] ((from_ [47, 63, 35, 58] (s.drop k)).drop 1)).headD 0 = at_ (upto [47, 63, 35] ((from_ [47, 63, 35, 58] (s.drop k)).drop 1)) 0 := by cases hh : (upto [47, 63, 35] ((from_ [47, 63, 35, 58] (s.drop k)).drop 1)) with | nil => exact absurd hh hne | cons a b => rfl
             rw [all_of hok2 (by omega), decide_eq_true (show 1 ≤ val (upto [47, 63, 35] ((from_ [47, 63, 35, 58] (s.drop k)).drop 1)) by omega), decide_eq_true (show val (upto [47, 63, 35] ((from_ [47, 63, 35, 58] (s.drop k)).drop 1)) ≤ 65535 by omega), e]
             simp only [beq_eq_false_iff_ne] at h3
             have : at_ (upto [47, 63, 35] ((from_ [47, 63, 35, 58] (s.drop k)).drop 1)) 0 ≠ 48 := fun e => h3 (by rw [e]; rfl)
             rw [beq_eq_false_iff_ne.2 this]; rfl
            have hfe : s.drop (k + (upto [47, 63, 35, 58] (s.drop k)).length + 1 + (upto [47, 63, 35] ((from_ [47, 63, 35, 58] (s.drop k)).drop 1)).length) = (from_ [47, 63, 35] ((from_ [47, 63, 35, 58] (s.drop k)).drop 1)) := by rw [← from_drop [47, 63, 35] ((from_ [47, 63, 35, 58] (s.drop k)).drop 1), ← hfd1, List.drop_drop]
            have hc170' := hc170
            rw [← hdlen, List.take_length] at hc170'
            have hpv : portV (upto [47, 63, 35] ((from_ [47, 63, 35, 58] (s.drop k)).drop 1)) sch = val (upto [47, 63, 35] ((from_ [47, 63, 35, 58] (s.drop k)).drop 1)) := by
             unfold portV ownP
             rw [if_neg]
             intro e
             rcases hsch with e1 | e1
             ·rw [e1, if_neg (by decide)] at e
              rcases hc170'.1 with h | h
              ·exact h e1
              ·omega
             ·rw [e1, if_pos (by decide)] at e
              rcases hc170'.2 with h | h
              ·exact h e1
              ·omega
            refine ⟨(val (upto [47, 63, 35] ((from_ [47, 63, 35, 58] (s.drop k)).drop 1)), _), ⟨rfl, rfl, rfl, rfl, trivial⟩, ?_, by (try dsimp only); omega, by (try dsimp only); omega, by rw [← hdlen, List.take_length] at hS; exact hS⟩
            ·rw [pU, if_neg (by omega), hsome]
             simp only
             rw [hostOf, if_pos hhost, behind, if_pos htk, if_pos hgood, hpv, hfe]
           ·
            have hc170 := hb170; try simp only [Gk.cs0] at hc170
            refine WC.skip ?_
            refine WC.region ?_
            refine WL.val (.move (.of rfl)) rfl ?_
            refine WL.val (.assign (.of rfl)) rfl ?_
            refine WL.nil ?_
            have hdlen : (upto [47, 63, 35] ((from_ [47, 63, 35, 58] (s.drop k)).drop 1)).length = i := by omega
            have hb154' := hb154
            rw [← hdlen, List.take_length] at hb154'
            obtain ⟨h12, h3⟩ := Bool.or_eq_false_iff.1 hb154'
            obtain ⟨h1, h2⟩ := Bool.or_eq_false_iff.1 h12
            simp only [decide_eq_false_iff_not] at h1 h2
            have hne : (upto [47, 63, 35] ((from_ [47, 63, 35, 58] (s.drop k)).drop 1)) ≠ [] := fun e => by rw [e] at h1; simp [val] at h1
            have hgood : portOk (upto [47, 63, 35] ((from_ [47, 63, 35, 58] (s.drop k)).drop 1)) = true := by
             unfold portOk
             have e : (upto [47, 63, 35] ((from_ [47, 63, 35, 58] (s.drop k)).drop 1)).headD 0 = at_ (upto [47, 63, 35] ((from_ [47, 63, 35, 58] (s.drop k)).drop 1)) 0 := by cases hh : (upto [47, 63, 35] ((from_ [47, 63, 35, 58] (s.drop k)).drop 1)) with | nil => exact absurd hh hne | cons a b => rfl
             rw [all_of hok2 (by omega), decide_eq_true (show 1 ≤ val (upto [47, 63, 35] ((from_ [47, 63, 35, 58] (s.drop k)).drop 1)) by omega), decide_eq_true (show val (upto [47, 63, 35] ((from_ [47, 63, 35, 58] (s.drop k)).drop 1)) ≤ 65535 by omega), e]
             simp only [beq_eq_false_iff_ne] at h3
             have : at_ (upto [47, 63, 35] ((from_ [47, 63, 35, 58] (s.drop k)).drop 1)) 0 ≠ 48 := fun e => h3 (by rw [e]; rfl)
             rw [beq_eq_false_iff_ne.2 this]; rfl
            have hfe : s.drop (k + (upto [47, 63, 35, 58] (s.drop k)).length + 1 + (upto [47, 63, 35] ((from_ [47, 63, 35, 58] (s.drop k)).drop 1)).length) = (from_ [47, 63, 35] ((from_ [47, 63, 35, 58] (s.drop k)).drop 1)) := by rw [← from_drop [47, 63, 35] ((from_ [47, 63, 35, 58] (s.drop k)).drop 1), ← hfd1, List.drop_drop]
            have hc170' := hc170
            rw [← hdlen, List.take_length] at hc170'
            have hpv : portV (upto [47, 63, 35] ((from_ [47, 63, 35, 58] (s.drop k)).drop 1)) sch = 0 := by
             unfold portV ownP
             rw [if_pos]
             rcases hc170' with ⟨e1, e2⟩ | ⟨e1, e2⟩
             ·rw [e1, if_neg (by decide)]; omega
             ·rw [e1, if_pos (by decide)]; omega
            refine ⟨(0, _), ⟨rfl, rfl, rfl, rfl, trivial⟩, ?_, by (try dsimp only); omega, by (try dsimp only); omega, hS⟩
            ·rw [pU, if_neg (by omega), hsome]
             simp only
             rw [hostOf, if_pos hhost, behind, if_pos htk, if_pos hgood, hpv, hfe]
        ·
         have hc105 := hb105; try simp only [Gk.cs0] at hc105
         refine WC.skip ?_
         have htk : ¬ (from_ [47, 63, 35, 58] (s.drop k)).take 1 = [58] := fun e => by
          have hlt : k + (upto [47, 63, 35, 58] (s.drop k)).length < s.length := by
           rcases Nat.lt_or_ge (k + (upto [47, 63, 35, 58] (s.drop k)).length) s.length with h | h
           ·exact h
           ·rw [← hfd, List.drop_of_length_le h] at e; cases e
          rw [← hfd, drop_at s hlt] at e
          have e1 : at_ s ((k + (upto [47, 63, 35, 58] (s.drop k)).length : Nat) : Int) = 58 := by injection e
          rw [e1, decide_eq_true (by omega)] at hb105
          exact absurd hb105 (by decide)
         refine ⟨(0, _), ⟨rfl, rfl, rfl, rfl, trivial⟩, ?_, by (try dsimp only); omega, by decide, hS⟩
         ·rw [pU, if_neg (by omega), hsome]
          simp only
          rw [hostOf, if_pos hhost, behind, if_neg htk, hfd]
       ·
        rintro ⟨port, te⟩ w ⟨hpu, htl, hport, hS⟩
        change WC _ _ _ _ [(0, S s), (2, ptr b2 0), (6, I64 (te : Nat)), (10, ptr b10 0)] w
        refine WC.seq ?_
        refine WC.region ?_
        refine WL.val (.move (.of rfl)) rfl ?_
        refine WL.val (.move (.of rfl)) rfl ?_
        refine WL.call Tryz.func45 rfl (evs_cons (.of rfl) (evs_cons (.of rfl) (evs_cons (.of rfl) evs_nil))) rfl (find_any s [63] te htl (by omega) (by decide) B _ I _ hS) ?_
        clear hS
        rintro _ w ⟨rfl, hS⟩
        refine WL.val (.assign (.of rfl)) rfl ?_
        refine WL.nil ?_
        refine WC.seq ?_
        refine WC.region ?_
        refine WL.val (.move (.of rfl)) rfl ?_
        refine WL.val (.move (.of rfl)) rfl ?_
        refine WL.val (.move (.of rfl)) rfl ?_
        refine WL.val (.sub3 (.of rfl) (.of rfl) (.of rfl) (by omega) (by omega) (by have := upto_le [63] (s.drop te); rw [List.length_drop] at this; omega) Tryz.underlying9) rfl ?_
        simp only [Int.toNat_natCast]
        rw [show (s.drop te).take (te + (upto [63] (s.drop te)).length - te) = (upto [63] (s.drop te)) by rw [Nat.add_sub_cancel_left, upto_take]]
        refine WL.call Tryz.func46 rfl (evs_cons (.of rfl) evs_nil) rfl (part_any (upto [63] (s.drop te)) (by have := upto_le [63] (s.drop te); rw [List.length_drop] at this; omega) B _ I _ hS) ?_
        clear hS
        rintro _ w ⟨p1, b1, rfl, hp1, hp1l, hS⟩
        refine WL.val (.move (.of rfl)) rfl ?_
        refine WL.val (.extract (.of rfl) rfl) rfl ?_
        refine WL.val (.extract (.of rfl) rfl) rfl ?_
        refine WL.val (.assign (.of rfl)) rfl ?_
        refine WL.val (.assign (.of rfl)) rfl ?_
        refine WL.nil ?_
        refine WC.seq ?_
        refine WC.seq ?_
        have hml := upto_from_len [63] (s.drop te)
        rw [List.length_drop] at hml
        refine WC.region ?_
        refine WL.val (.move (.of rfl)) rfl ?_
        refine WL.val (.not (.of rfl)) rfl ?_
        refine WL.nil ?_
        refine WC.cond rfl (fun hb186 => ?_) (fun hb186 => ?_)
        ·
         have hc186 := hb186; try simp only [Gk.cs0] at hc186
         refine WC.seq ?_
         refine WC.region ?_
         refine WL.val (.build (cs := [_, _, _, _, _, _]) parts_nil bld55_23 rfl) rfl ?_
         first | refine WL.stA hS (k := 0) rfl (.of rfl) (.of rfl) rfl Tryz.sizeOf55 rfl (by simp) ?_ | refine WL.stA hS (k := 1) rfl (.of rfl) (.of rfl) rfl Tryz.sizeOf55 rfl (by simp) ?_
         clear hS; intro w hS; try dsimp only [List.set] at hS
         try simp only [List.take_zero, List.nil_append, List.append_nil, List.drop_succ_cons, List.drop_zero, List.drop_nil, Nat.zero_add] at hS
         refine WL.val (.assign (.of rfl)) rfl ?_
         refine WL.nil ?_
         refine WC.ret ?_
         first | refine ret2c (b := _) (cs := [_, _, _, _, _, _]) Tryz.results23 hS (k := 0) rfl Tryz.isAgg55 Tryz.sizeOf55 rfl rfl rfl ?_ | refine ret2c (b := _) (cs := [_, _, _, _, _, _]) Tryz.results23 hS (k := 1) rfl Tryz.isAgg55 Tryz.sizeOf55 rfl rfl rfl ?_
         refine ⟨_, rfl, ?_, ((hS.drop (k := 0) rfl).drop (k := 0) rfl)⟩
         rw [hpu, tailU]
         cases hp : partU (upto [63] (s.drop te)) with
         | none => rfl
         | some t => rw [hp] at hp1; rw [hp1.2] at hc186; cases hc186
        ·
         have hc186 := hb186; try simp only [Gk.cs0] at hc186
         refine WC.skip ?_
         refine WC.cutS (σ := List UInt8 × Bool) (fun ⟨q, ask⟩ => [(2, ptr b2 0), (10, ptr b10 0), (16, S p1)]) (fun ⟨q, ask⟩ w => tailU sch (low (upto [47, 63, 35, 58] (s.drop k))) port (s.drop te) = (⟨sch, (low (upto [47, 63, 35, 58] (s.drop k))), port, if p1 = [] then [47] else dots p1, q, ask⟩, 0) ∧ Sat B w I (blk b10 [S sch, S (low (upto [47, 63, 35, 58] (s.drop k))), I64 (port : Nat), S [], S q, .bool ask] 55 :: blk b2 [S [], S [], I64 0, S [], S [], .bool false] 55 :: As)) ?_ ?_
         ·
          refine WC.seq ?_
          have hpp : partU (upto [63] (s.drop te)) = some p1 := by
           cases hp : partU (upto [63] (s.drop te)) with
           | none => rw [hp] at hp1; rw [hp1] at hc186; cases hc186
           | some t => rw [hp] at hp1; rw [hp1.1]
          refine WC.region ?_
          refine WL.val (.move (.of rfl)) rfl ?_
          refine WL.val (.move (.of rfl)) rfl ?_
          refine WL.val (.len (.of rfl) Tryz.underlying9) rfl ?_
          refine WL.val (.lss (.of rfl) (.of rfl)) rfl ?_
          refine WL.nil ?_
          refine WC.cond rfl (fun hb191 => ?_) (fun hb191 => ?_)
          ·
           have hc191 := hb191; try simp only [Gk.cs0] at hc191
           refine WC.seq ?_
           refine WC.region ?_
           first | refine WL.val (.fieldAddr 5 (.of rfl) Tryz.underlying55 rfl rfl Tryz.sizeOf4 rfl) rfl ?_ | refine WL.val (.fieldAddrI 5 (.of rfl) Tryz.underlying55 rfl rfl Tryz.sizeOf4 rfl) rfl ?_
           first | refine WL.st1 hS (k := 0) rfl (.of rfl) (.of rfl) rfl Tryz.sizeOf4 (by simp) ?_ | refine WL.st1 hS (k := 1) rfl (.of rfl) (.of rfl) rfl Tryz.sizeOf4 (by simp) ?_
           clear hS; intro w hS; try dsimp only [List.set] at hS
           refine WL.nil ?_
           refine WC.seq ?_
           refine WC.region ?_
           refine WL.val (.move (.of rfl)) rfl ?_
           refine WL.val (.move (.of rfl)) rfl ?_
           refine WL.val (.add (.of rfl) (.of rfl) ⟨by omega, by omega⟩) rfl ?_
           rw [show (((te + (upto [63] (s.drop te)).length : Nat) : Int) + 1) = ((te + (upto [63] (s.drop te)).length + 1 : Nat) : Int) by omega]
           refine WL.val (.subFrom (.of rfl) (.of rfl) (by omega) (by omega) Tryz.underlying9) rfl ?_
           simp only [Int.toNat_natCast]
           refine WL.call Tryz.func46 rfl (evs_cons (.of rfl) evs_nil) rfl (part_any _ (by rw [List.length_drop]; omega) B _ I _ hS) ?_
           clear hS
           rintro _ w ⟨q1, b2x, rfl, hq1, hq1l, hS⟩
           have hfm : s.drop (te + (upto [63] (s.drop te)).length + 1) = ((from_ [63] (s.drop te)).drop 1) := by rw [← from_drop [63] (s.drop te), List.drop_drop, List.drop_drop, Nat.add_assoc]
           refine WL.val (.move (.of rfl)) rfl ?_
           refine WL.val (.extract (.of rfl) rfl) rfl ?_
           refine WL.val (.extract (.of rfl) rfl) rfl ?_
           first | refine WL.val (.fieldAddr 4 (.of rfl) Tryz.underlying55 rfl rfl Tryz.sizeOf9 rfl) rfl ?_ | refine WL.val (.fieldAddrI 4 (.of rfl) Tryz.underlying55 rfl rfl Tryz.sizeOf9 rfl) rfl ?_
           first | refine WL.st1 hS (k := 0) rfl (.of rfl) (.of rfl) rfl Tryz.sizeOf9 (by simp) ?_ | refine WL.st1 hS (k := 1) rfl (.of rfl) (.of rfl) rfl Tryz.sizeOf9 (by simp) ?_
           clear hS; intro w hS; try dsimp only [List.set] at hS
           refine WL.val (.assign (.of rfl)) rfl ?_
           refine WL.nil ?_
           refine WC.seq ?_
           refine WC.region ?_
           refine WL.val (.move (.of rfl)) rfl ?_
           refine WL.val (.not (.of rfl)) rfl ?_
           refine WL.nil ?_
           refine WC.cond rfl (fun hb203 => ?_) (fun hb203 => ?_)
           ·
            have hc203 := hb203; try simp only [Gk.cs0] at hc203
            refine WC.seq ?_
            refine WC.region ?_
            refine WL.val (.build (cs := [_, _, _, _, _, _]) parts_nil bld55_23 rfl) rfl ?_
            first | refine WL.stA hS (k := 0) rfl (.of rfl) (.of rfl) rfl Tryz.sizeOf55 rfl (by simp) ?_ | refine WL.stA hS (k := 1) rfl (.of rfl) (.of rfl) rfl Tryz.sizeOf55 rfl (by simp) ?_
            clear hS; intro w hS; try dsimp only [List.set] at hS
            try simp only [List.take_zero, List.nil_append, List.append_nil, List.drop_succ_cons, List.drop_zero, List.drop_nil, Nat.zero_add] at hS
            refine WL.val (.assign (.of rfl)) rfl ?_
            refine WL.nil ?_
            refine WC.ret ?_
            first | refine ret2c (b := _) (cs := [_, _, _, _, _, _]) Tryz.results23 hS (k := 0) rfl Tryz.isAgg55 Tryz.sizeOf55 rfl rfl rfl ?_ | refine ret2c (b := _) (cs := [_, _, _, _, _, _]) Tryz.results23 hS (k := 1) rfl Tryz.isAgg55 Tryz.sizeOf55 rfl rfl rfl ?_
            refine ⟨_, rfl, ?_, ((hS.drop (k := 0) rfl).drop (k := 0) rfl)⟩
            rw [hfm] at hq1
            rw [hpu, tailU, hpp]
            simp only
            cases hq : partU ((from_ [63] (s.drop te)).drop 1) with
            | none => rfl
            | some t => rw [hq] at hq1; rw [hq1.2] at hc203; cases hc203
           ·
            have hc203 := hb203; try simp only [Gk.cs0] at hc203
            refine WC.skip ?_
            refine ⟨(q1, true), ⟨rfl, rfl, rfl, trivial⟩, ?_, hS⟩
            rw [hfm] at hq1
            have : (from_ [63] (s.drop te)).isEmpty = false := by
             cases hh : from_ [63] (s.drop te) with
             | nil => have := congrArg List.length hh; rw [List.length_nil] at this; omega
             | cons a b => rfl
            rw [tailU, hpp]
            simp only
            cases hq : partU ((from_ [63] (s.drop te)).drop 1) with
            | none => rw [hq] at hq1; rw [hq1] at hc203; cases hc203
            | some q => rw [hq] at hq1; obtain ⟨rfl, _⟩ := hq1; simp only; rw [this]; rfl
          ·
           have hc191 := hb191; try simp only [Gk.cs0] at hc191
           refine WC.skip ?_
           refine ⟨([], false), ⟨rfl, rfl, rfl, trivial⟩, ?_, hS⟩
           have : from_ [63] (s.drop te) = [] := List.eq_nil_of_length_eq_zero (by omega)
           rw [tailU, hpp, this]
           rfl
         ·
          rintro ⟨q, ask⟩ w ⟨htu, hS⟩
          change WC _ _ _ _ [(2, ptr b2 0), (10, ptr b10 0), (16, S p1)] w
          refine WC.seq ?_
          refine WC.region ?_
          refine WL.val (.move (.of rfl)) rfl ?_
          refine WL.call Tryz.func47 rfl (evs_cons (.of rfl) evs_nil) rfl (refDots_any p1 (by have := upto_le [63] (s.drop te); rw [List.length_drop] at this; omega) B _ I _ hS) ?_
          clear hS
          rintro _ w ⟨rfl, hS⟩
          first | refine WL.val (.fieldAddr 3 (.of rfl) Tryz.underlying55 rfl rfl Tryz.sizeOf9 rfl) rfl ?_ | refine WL.val (.fieldAddrI 3 (.of rfl) Tryz.underlying55 rfl rfl Tryz.sizeOf9 rfl) rfl ?_
          first | refine WL.st1 hS (k := 0) rfl (.of rfl) (.of rfl) rfl Tryz.sizeOf9 (by simp) ?_ | refine WL.st1 hS (k := 1) rfl (.of rfl) (.of rfl) rfl Tryz.sizeOf9 (by simp) ?_
          clear hS; intro w hS; try dsimp only [List.set] at hS
          refine WL.nil ?_
          refine WC.seq ?_
          refine WC.seq ?_
          refine WC.region ?_
          refine WL.val (.move (.of rfl)) rfl ?_
          refine WL.val (.eqs (.of rfl) (.of rfl)) rfl ?_
          refine WL.nil ?_
          refine WC.cond rfl (fun hb209 => ?_) (fun hb209 => ?_)
          ·
           have hc209 := hb209; try simp only [Gk.cs0] at hc209
           refine WC.region ?_
           first | refine WL.val (.fieldAddr 3 (.of rfl) Tryz.underlying55 rfl rfl Tryz.sizeOf9 rfl) rfl ?_ | refine WL.val (.fieldAddrI 3 (.of rfl) Tryz.underlying55 rfl rfl Tryz.sizeOf9 rfl) rfl ?_
           first | refine WL.st1 hS (k := 0) rfl (.of rfl) (.of rfl) rfl Tryz.sizeOf9 (by simp) ?_ | refine WL.st1 hS (k := 1) rfl (.of rfl) (.of rfl) rfl Tryz.sizeOf9 (by simp) ?_
           clear hS; intro w hS; try dsimp only [List.set] at hS
           refine WL.nil ?_
           refine WC.seq ?_
           refine WC.region ?_
           first | refine WL.val (.ldsW (cs := [_, _, _, _, _, _]) (.of rfl) hS (k := 0) rfl Tryz.isAgg55 Tryz.sizeOf55 rfl) rfl ?_ | refine WL.val (.lds (vs := [_, _, _, _, _, _]) (.of rfl) hS (k := 0) rfl Tryz.isAgg55 Tryz.sizeOf55 rfl (fun _ _ h => h)) rfl ?_ | refine WL.val (.ldsW (cs := [_, _, _, _, _, _]) (.of rfl) hS (k := 1) rfl Tryz.isAgg55 Tryz.sizeOf55 rfl) rfl ?_ | refine WL.val (.lds (vs := [_, _, _, _, _, _]) (.of rfl) hS (k := 1) rfl Tryz.isAgg55 Tryz.sizeOf55 rfl (fun _ _ h => h)) rfl ?_
           first | refine WL.stA hS (k := 0) rfl (.of rfl) (.of rfl) rfl Tryz.sizeOf55 rfl (by simp) ?_ | refine WL.stA hS (k := 1) rfl (.of rfl) (.of rfl) rfl Tryz.sizeOf55 rfl (by simp) ?_
           clear hS; intro w hS; try dsimp only [List.set] at hS
           try simp only [List.take_zero, List.nil_append, List.append_nil, List.drop_succ_cons, List.drop_zero, List.drop_nil, Nat.zero_add] at hS
           refine WL.val (.assign (.of rfl)) rfl ?_
           refine WL.nil ?_
           refine WC.ret ?_
           first | refine ret2c (b := _) (cs := [_, _, _, _, _, _]) Tryz.results23 hS (k := 0) rfl Tryz.isAgg55 Tryz.sizeOf55 rfl rfl rfl ?_ | refine ret2c (b := _) (cs := [_, _, _, _, _, _]) Tryz.results23 hS (k := 1) rfl Tryz.isAgg55 Tryz.sizeOf55 rfl rfl rfl ?_
           refine ⟨_, rfl, ?_, ((hS.drop (k := 0) rfl).drop (k := 0) rfl)⟩
           rw [hpu, htu, if_pos hc209]
           rfl
          ·
           have hc209 := hb209; try simp only [Gk.cs0] at hc209
           refine WC.skip ?_
           refine WC.seq ?_
           refine WC.region ?_
           first | refine WL.val (.ldsW (cs := [_, _, _, _, _, _]) (.of rfl) hS (k := 0) rfl Tryz.isAgg55 Tryz.sizeOf55 rfl) rfl ?_ | refine WL.val (.lds (vs := [_, _, _, _, _, _]) (.of rfl) hS (k := 0) rfl Tryz.isAgg55 Tryz.sizeOf55 rfl (fun _ _ h => h)) rfl ?_ | refine WL.val (.ldsW (cs := [_, _, _, _, _, _]) (.of rfl) hS (k := 1) rfl Tryz.isAgg55 Tryz.sizeOf55 rfl) rfl ?_ | refine WL.val (.lds (vs := [_, _, _, _, _, _]) (.of rfl) hS (k := 1) rfl Tryz.isAgg55 Tryz.sizeOf55 rfl (fun _ _ h => h)) rfl ?_
           first | refine WL.stA hS (k := 0) rfl (.of rfl) (.of rfl) rfl Tryz.sizeOf55 rfl (by simp) ?_ | refine WL.stA hS (k := 1) rfl (.of rfl) (.of rfl) rfl Tryz.sizeOf55 rfl (by simp) ?_
           clear hS; intro w hS; try dsimp only [List.set] at hS
           try simp only [List.take_zero, List.nil_append, List.append_nil, List.drop_succ_cons, List.drop_zero, List.drop_nil, Nat.zero_add] at hS
           refine WL.val (.assign (.of rfl)) rfl ?_
           refine WL.nil ?_
           refine WC.ret ?_
           first | refine ret2c (b := _) (cs := [_, _, _, _, _, _]) Tryz.results23 hS (k := 0) rfl Tryz.isAgg55 Tryz.sizeOf55 rfl rfl rfl ?_ | refine ret2c (b := _) (cs := [_, _, _, _, _, _]) Tryz.results23 hS (k := 1) rfl Tryz.isAgg55 Tryz.sizeOf55 rfl rfl rfl ?_
           refine ⟨_, rfl, ?_, ((hS.drop (k := 0) rfl).drop (k := 0) rfl)⟩
           rw [hpu, htu, if_neg hc209]
           rfl
theorem refUNormal_any (s : List UInt8) (hl : s.length ≤ 1000000) (B w : World) (I : Im) (As : List Assn) (hS : Sat B w I As) :
  Calls Tryz.prog 15 [S s].toArray w (Ret fun v w' => v = .tuple #[S (nU s).1, I64 ((nU s).2 : Nat)] ∧ Sat B w' I As) := by
 refine calls Tryz.func15 rfl Tryz.ntmps15 rfl ?_
 refine WC.seq ?_
 refine WC.region ?_
 refine WL.val (.assign (.of rfl)) rfl ?_
 refine WL.val (.assign (.of rfl)) rfl ?_
 refine WL.nil ?_
 refine WC.seq ?_
 refine WC.region ?_
 refine WL.val (.move (.of rfl)) rfl ?_
 refine WL.call Tryz.func23 rfl (evs_cons (.of rfl) evs_nil) rfl (refParse_any s hl B _ I _ hS) ?_
 clear hS
 rintro _ w ⟨rfl, hS⟩
 refine WL.val (.move (.of rfl)) rfl ?_
 refine WL.val (.extract (.of rfl) rfl) rfl ?_
 refine WL.val (.extract (.of rfl) rfl) rfl ?_
 refine WL.allocA (cs := [_, _, _, _, _, _]) hS Tryz.zeroValue55 rfl ?_
 clear hS; intro b4 w hS
 first | refine WL.stA hS (k := 0) rfl (.of rfl) (.of rfl) rfl Tryz.sizeOf55 rfl (by simp) ?_
 clear hS; intro w hS; try dsimp only [List.set] at hS
 try simp only [List.take_zero, List.nil_append, List.append_nil, List.drop_succ_cons, List.drop_zero, List.drop_nil, Nat.zero_add] at hS
 refine WL.val (.assign (.of rfl)) rfl ?_
 refine WL.nil ?_
 refine WC.seq ?_
 refine WC.seq ?_
 refine WC.region ?_
 refine WL.val (.move (.of rfl)) rfl ?_
 refine WL.val (.neq (.of rfl) (.of rfl)) rfl ?_
 refine WL.nil ?_
 refine WC.cond rfl (fun hb12 => ?_) (fun hb12 => ?_)
 ·
  have hc12 := hb12; try simp only [Gk.cs0] at hc12
  refine WC.seq ?_
  refine WC.region ?_
  refine WL.val (.move (.of rfl)) rfl ?_
  refine WL.val (.assign (.of rfl)) rfl ?_
  refine WL.val (.assign (.of rfl)) rfl ?_
  refine WL.nil ?_
  refine WC.ret ?_
  refine ret2 Tryz.results15 rfl rfl ?_
  refine ⟨_, rfl, ?_, hS.drop (k := 0) rfl⟩
  rw [nU, if_neg (by omega)]
  rfl
 ·
  have hc12 := hb12; try simp only [Gk.cs0] at hc12
  refine WC.skip ?_
  refine WC.seq ?_
  refine WC.region ?_
  first | refine WL.val (.ldsW (cs := [_, _, _, _, _, _]) (.of rfl) hS (k := 0) rfl Tryz.isAgg55 Tryz.sizeOf55 rfl) rfl ?_ | refine WL.val (.lds (vs := [_, _, _, _, _, _]) (.of rfl) hS (k := 0) rfl Tryz.isAgg55 Tryz.sizeOf55 rfl (fun _ _ h => h)) rfl ?_
  refine WL.call Tryz.func24 rfl (evs_cons (.of rfl) evs_nil) rfl (refString_any (pU s).1 (small_pU s) B _ I _ hS) ?_
  clear hS
  rintro _ w ⟨rfl, hS⟩
  refine WL.val (.assign (.of rfl)) rfl ?_
  refine WL.val (.assign (.of rfl)) rfl ?_
  refine WL.nil ?_
  refine WC.ret ?_
  refine ret2 Tryz.results15 rfl rfl ?_
  refine ⟨_, rfl, ?_, hS.drop (k := 0) rfl⟩
  rw [nU, if_pos (by omega)]
  rfl
end Go.Proofs.YtchgkcbloeoopaaGreatDoor
namespace Rk
set_option linter.unusedVariables false
set_option linter.unusedSimpArgs false
open Flt
def keyN (b : Nat) : Nat := if 9223372036854775808 ≤ b then 18446744073709551615 - b else b + 9223372036854775808
theorem and_hi {b : Nat} (h : b < 18446744073709551616) : b &&& 9223372036854775808 = if 9223372036854775808 ≤ b then 9223372036854775808 else 0 := by
 apply Nat.eq_of_testBit_eq
 intro i
 have e63 : b.testBit 63 = decide (9223372036854775808 ≤ b) := by
  rw [Nat.testBit_eq_decide_div_mod_eq, show (2 : Nat) ^ 63 = 9223372036854775808 by decide]
  exact decide_eq_decide.2 (by omega)
 rw [Nat.testBit_and, show 9223372036854775808 = 2 ^ 63 by decide, Nat.testBit_two_pow]
 rw [show 9223372036854775808 = 2 ^ 63 by decide] at e63
 by_cases hi : 63 = i
 ·subst hi
  rw [e63]
  by_cases hb : 2 ^ 63 ≤ b
  ·rw [if_pos hb, Nat.testBit_two_pow]; simp [hb]
  ·rw [if_neg hb]; simp [hb]
 ·by_cases hb : 2 ^ 63 ≤ b
  ·rw [if_pos hb, Nat.testBit_two_pow]; simp [hi]
  ·rw [if_neg hb]; simp [hi]
theorem or_hi {b : Nat} (h : b < 9223372036854775808) : b ||| 9223372036854775808 = b + 9223372036854775808 := by
 have e := Nat.two_pow_add_eq_or_of_lt (i := 63) (b := b) (by rw [show (2 : Nat) ^ 63 = 9223372036854775808 by decide]; exact h) 1
 rw [show (2 : Nat) ^ 63 * 1 = 9223372036854775808 by decide, Nat.or_comm] at e
 rw [← e]; omega
def sl : Nat → Nat → List Int
 | 0, _ => []
 | k + 1, b => ((b / 2 ^ k % 2 : Nat) : Int) :: sl k b
theorem sl_len : ∀ k b, (sl k b).length = k
 | 0, _ => rfl
 | k + 1, b => by rw [sl, List.length_cons, sl_len k b]
theorem sl_get : ∀ {k b i : Nat}, i < k → (sl k b).getD i 0 = ((b / 2 ^ (k - 1 - i) % 2 : Nat) : Int)
 | 0, _, _, h => by omega
 | k + 1, b, 0, _ => by simp [sl]
 | k + 1, b, i + 1, h => by
  rw [sl, List.getD_cons_succ, sl_get (by omega : i < k), show k - 1 - i = k + 1 - 1 - (i + 1) by omega]
def bt (b i : Nat) : Nat := if 9223372036854775808 ≤ b then 1 - b / 2 ^ (63 - i) % 2 else if i = 0 then 1 else b / 2 ^ (63 - i) % 2
theorem bt_le (b i : Nat) : bt b i ≤ 1 := by
 unfold bt
 split
 ·omega
 ·split
  ·omega
  ·have := Nat.mod_lt (b / 2 ^ (63 - i)) (show 0 < 2 by decide); omega
def kf (b : Nat) : Nat → Nat
 | 0 => 0
 | i + 1 => 2 * kf b i + bt b i
theorem kf_lt (b : Nat) : ∀ i, kf b i < 2 ^ i
 | 0 => by simp [kf]
 | i + 1 => by
  have h1 := kf_lt b i
  have h2 := bt_le b i
  rw [kf, Nat.pow_succ]; omega
theorem kf_small (b : Nat) {i : Nat} (h : i < 64) : kf b i < 9223372036854775808 := by
 refine Nat.lt_of_lt_of_le (kf_lt b i) ?_
 rw [show 9223372036854775808 = 2 ^ 63 by decide]
 exact Nat.pow_le_pow_right (by decide) (by omega)
theorem div_step (b : Nat) {i : Nat} (h : i < 64) : b / 2 ^ (63 - i) = 2 * (b / 2 ^ (64 - i)) + b / 2 ^ (63 - i) % 2 := by
 have e : b / 2 ^ (64 - i) = b / 2 ^ (63 - i) / 2 := by
  rw [Nat.div_div_eq_div_mul, ← Nat.pow_succ, show (63 - i).succ = 64 - i by omega]
 rw [e]; omega
theorem kf_hi {b : Nat} (h : 9223372036854775808 ≤ b) (hb : b < 18446744073709551616) : ∀ i, i ≤ 64 → kf b i + b / 2 ^ (64 - i) + 1 = 2 ^ i
 | 0, _ => by
  have : b / 2 ^ 64 = 0 := Nat.div_eq_of_lt (by rw [show (2 : Nat) ^ 64 = 18446744073709551616 by decide]; exact hb)
  simp [kf, this]
 | i + 1, hi => by
  have ih := kf_hi h hb i (by omega)
  have d := div_step b (show i < 64 by omega)
  have m := Nat.mod_lt (b / 2 ^ (63 - i)) (show 0 < 2 by decide)
  rw [kf, bt, if_pos h, Nat.pow_succ, show 64 - (i + 1) = 63 - i by omega]
  omega
theorem kf_lo {b : Nat} (h : b < 9223372036854775808) : ∀ i, i < 64 → kf b (i + 1) = 2 ^ i + b / 2 ^ (63 - i)
 | 0, _ => by
  have : b / 2 ^ 63 = 0 := Nat.div_eq_of_lt (by rw [show (2 : Nat) ^ 63 = 9223372036854775808 by decide]; exact h)
  simp only [kf, bt]
  rw [if_neg (by omega), if_pos trivial, show 63 - 0 = 63 from rfl, this]
 | i + 1, hi => by
  have ih := kf_lo h i (by omega)
  have d := div_step b (show i + 1 < 64 by omega)
  rw [kf, bt, if_neg (by omega), if_neg (by omega), ih, Nat.pow_succ]
  rw [show 64 - (i + 1) = 63 - i by omega] at d
  omega
theorem kf_key {b : Nat} (h : b < 18446744073709551616) : kf b 64 = keyN b := by
 unfold keyN
 split
 ·rename_i hb
  have := kf_hi hb h 64 (by omega)
  rw [show (2 : Nat) ^ 64 = 18446744073709551616 by decide] at this
  simp at this
  omega
 ·rename_i hb
  have := kf_lo (b := b) (by omega) 63 (by omega)
  rw [show (2 : Nat) ^ 63 = 9223372036854775808 by decide] at this
  simp at this
  omega
def W (x y : Nat) : Nat → Option Nat
 | 0 => nf x
 | k + 1 => (W x y k).bind fun v => Ieee.double.mul v y
end Rk
namespace Go.Proofs.YtchgkcbloeoopaaGreatDoor
open Gk Rk Flt
set_option linter.unusedVariables false
set_option linter.unusedSimpArgs false
theorem info3_31 : Tryz.prog.info? 3 = some Tryz.t3 := by kernel_rfl
theorem Same_any (a b : Nat) (w : World) :
  Calls Tryz.prog 31 [F64 a, F64 b].toArray w (Ret fun v w' => v = .bool ((a : Int) == (b : Int)) ∧ w = w') := by
 refine calls Tryz.func31 rfl Tryz.ntmps31 rfl ?_
 refine WC.seq ?_
 refine WC.region ?_
 refine WL.val (.assign (.of rfl)) rfl ?_
 refine WL.nil ?_
 refine WC.seq ?_
 refine WC.region ?_
 refine WL.val (.move (.of rfl)) rfl ?_
 refine WL.val (.extern Tryz.func56 (by kernel_rfl) (by kernel_rfl) (by kernel_rfl) (e := Extern.MathFloatBits.float64bits) (by kernel_rfl) (evs_cons (.of rfl) evs_nil) rfl) rfl ?_
 refine WL.val (.move (.of rfl)) rfl ?_
 refine WL.val (.extern Tryz.func56 (by kernel_rfl) (by kernel_rfl) (by kernel_rfl) (e := Extern.MathFloatBits.float64bits) (by kernel_rfl) (evs_cons (.of rfl) evs_nil) rfl) rfl ?_
 refine WL.val (.eql (.of rfl) (.of rfl)) rfl ?_
 refine WL.val (.assign (.of rfl)) rfl ?_
 refine WL.nil ?_
 refine WC.ret ?_
 refine ret1 Tryz.results31 rfl ?_
 exact ⟨_, rfl, rfl, rfl⟩
theorem Key_any (b : Nat) (hb : b < 18446744073709551616) (w : World) :
  Calls Tryz.prog 55 [F64 b].toArray w (Ret fun v w' => v = U64 (keyN b : Nat) ∧ w = w') := by
 refine calls Tryz.func55 rfl Tryz.ntmps55 rfl ?_
 refine WC.seq ?_
 refine WC.region ?_
 refine WL.val (.assign (.of rfl)) rfl ?_
 refine WL.nil ?_
 refine WC.seq ?_
 refine WC.region ?_
 refine WL.val (.move (.of rfl)) rfl ?_
 refine WL.val (.extern Tryz.func56 (by kernel_rfl) (by kernel_rfl) (by kernel_rfl) (e := Extern.MathFloatBits.float64bits) (by kernel_rfl) (evs_cons (.of rfl) evs_nil) rfl) rfl ?_
 refine WL.val (.assign (.of rfl)) rfl ?_
 refine WL.nil ?_
 refine WC.seq ?_
 refine WC.seq ?_
 refine WC.region ?_
 refine WL.val (.move (.of rfl)) rfl ?_
 refine WL.val (.andHi hb (.of rfl) (.of rfl)) rfl ?_
 refine WL.val (.neq (.of rfl) (.of rfl)) rfl ?_
 refine WL.nil ?_
 refine WC.cond rfl (fun hb8 => ?_) (fun hb8 => ?_)
 ·
  have hc8 := hb8; try simp only [Gk.cs0] at hc8
  refine WC.seq ?_
  refine WC.region ?_
  refine WL.val (.move (.of rfl)) rfl ?_
  refine WL.val (.not64 (by omega) (.of rfl)) rfl ?_
  refine WL.val (.assign (.of rfl)) rfl ?_
  refine WL.nil ?_
  refine WC.ret ?_
  refine ret1 Tryz.results55 rfl ?_
  have e : 9223372036854775808 ≤ b := by
   rw [and_hi hb] at hc8
   split at hc8
   ·assumption
   ·simp at hc8
  exact ⟨_, rfl, by rw [keyN, if_pos e], rfl⟩
 ·
  have hc8 := hb8; try simp only [Gk.cs0] at hc8
  refine WC.skip ?_
  refine WC.seq ?_
  refine WC.region ?_
  refine WL.val (.move (.of rfl)) rfl ?_
  refine WL.val (.orHi hb (.of rfl) (.of rfl)) rfl ?_
  refine WL.val (.assign (.of rfl)) rfl ?_
  refine WL.nil ?_
  refine WC.ret ?_
  refine ret1 Tryz.results55 rfl ?_
  have e : ¬ 9223372036854775808 ≤ b := by
   rw [and_hi hb] at hc8
   split at hc8
   ·simp at hc8
   ·assumption
  exact ⟨_, rfl, by rw [keyN, if_neg e, or_hi (by omega)], rfl⟩
theorem refBits_any (b : Nat) (hb : b < 18446744073709551616) (B w : World) (I : Im) (As : List Assn) (hS : Sat B w I As) :
  Calls Tryz.prog 36 [F64 b].toArray w (Ret fun v w' => ∃ q, v = .slice (some (ad q 0)) 64 64 ∧ Sat B w' I (blk q ((sl 64 b).map I64 ++ []) 3 :: As)) := by
 refine calls Tryz.func36 rfl Tryz.ntmps36 rfl ?_
 refine WC.seq ?_
 refine WC.region ?_
 refine WL.val (.assign (.of rfl)) rfl ?_
 refine WL.nil ?_
 refine WC.seq ?_
 refine WC.region ?_
 refine WL.val (.move (.of rfl)) rfl ?_
 refine WL.val (.extern Tryz.func56 (by kernel_rfl) (by kernel_rfl) (by kernel_rfl) (e := Extern.MathFloatBits.float64bits) (by kernel_rfl) (evs_cons (.of rfl) evs_nil) rfl) rfl ?_
 refine WL.val (.assign (.of rfl)) rfl ?_
 refine WL.nil ?_
 refine WC.seq ?_
 refine WC.region ?_
 refine WL.make (l := 64) hS (.of rfl) (.of rfl) Tryz.underlying68 info3_31 rfl (by simp [Tryz.t3] <;> omega) (by omega) rfl rfl rfl ?_
 clear hS; intro b8 w hS
 refine WL.val (.assign (.of rfl)) rfl ?_
 refine WL.nil ?_
 refine WC.seq ?_
 refine WC.seq ?_
 refine WC.region ?_
 refine WL.val (.assign (.of rfl)) rfl ?_
 refine WL.nil ?_
 refine WC.block ?_
 refine WC.loop (σ := Nat × Int × Nat) (fun ⟨k, i, m⟩ => [(3, U64 (m : Nat)), (4, .slice (some (ad b8 0)) 64 64), (5, I64 i)]) (fun ⟨k, i, m⟩ w => (k : Int) + i = 63 ∧ -1 ≤ i ∧ m = b / 2 ^ k ∧ Sat B w I (blk b8 ((List.replicate (i + 1).toNat 0 ++ sl k b).map I64 ++ []) 3 :: As)) (fun ⟨k, i, m⟩ => (i + 1).toNat) (0, 63, b) ⟨rfl, rfl, rfl, trivial⟩ ⟨rfl, by decide, by simp, by simpa [sl] using hS⟩ ?_
 rintro ⟨k, i, m⟩ w ⟨hki, hi, hm, hS⟩
 change WC _ _ _ _ [(3, U64 (m : Nat)), (4, .slice (some (ad b8 0)) 64 64), (5, I64 i)] w
 have hb2 : b / 2 ^ k < 18446744073709551616 := Nat.lt_of_le_of_lt (Nat.div_le_self _ _) hb
 refine WC.seq ?_
 refine WC.seq ?_
 refine WC.region ?_
 refine WL.val (.move (.of rfl)) rfl ?_
 refine WL.val (.geq (.of rfl) (.of rfl)) rfl ?_
 refine WL.nil ?_
 refine WC.cond rfl (fun hb10 => ?_) (fun hb10 => ?_)
 ·
  have hc10 := hb10; try simp only [Gk.cs0] at hc10
  refine WC.skip ?_
  refine WC.seq ?_
  refine WC.block ?_
  refine WC.seq ?_
  refine WC.region ?_
  refine WL.val (.move (.of rfl)) rfl ?_
  refine WL.val (.move (.of rfl)) rfl ?_
  refine WL.val (.move (.of rfl)) rfl ?_
  refine WL.val (.rem (.of rfl) (.of rfl) (by omega) (by omega)) rfl ?_
  refine WL.val (.cvi (.of rfl) Tryz.underlying42 Tryz.underlying3 (by rw [IntKind.wrap_i64]; omega)) rfl ?_
  first | refine WL.val (.indexAddr (.of rfl) (.of rfl) (by omega) (by omega) Tryz.underlying68 Tryz.sizeOf3) rfl ?_ | refine WL.val (.indexAddrI (.of rfl) (.of rfl) (by omega) (by omega) Tryz.underlying68 Tryz.sizeOf3) rfl ?_
  refine WL.stE I64 (List.replicate (i + 1).toNat 0 ++ sl k b) [] (i := i) (u := ((m : Int) % 2)) hS (k := 0) rfl (.of rfl) (.of rfl) rfl rfl Tryz.sizeOf3 (by omega) (by rw [List.length_append, List.length_replicate]; omega) ?_
  clear hS; intro w hS; dsimp only [List.set] at hS
  refine WL.nil ?_
  refine WC.region ?_
  refine WL.val (.move (.of rfl)) rfl ?_
  refine WL.val (.quo (.of rfl) (.of rfl) (by omega) (by omega) (by rw [IntKind.wrap_u64]; omega)) rfl ?_
  refine WL.val (.assign (.of rfl)) rfl ?_
  refine WL.nil ?_
  refine WC.region ?_
  refine WL.val (.move (.of rfl)) rfl ?_
  refine WL.val (.sub (.of rfl) (.of rfl) ⟨by omega, by omega⟩) rfl ?_
  refine WL.val (.assign (.of rfl)) rfl ?_
  refine WL.nil ?_
  refine ⟨(k + 1, i - 1, m / 2), ⟨rfl, rfl, rfl, trivial⟩, ⟨by (try dsimp only); omega, by (try dsimp only); omega, by (try dsimp only); rw [hm, Nat.pow_succ, Nat.div_div_eq_div_mul], ?_⟩, by (try dsimp only); omega⟩
  have e : (List.replicate (i + 1).toNat 0 ++ sl k b).set i.toNat ((m : Int) % 2) = List.replicate (i - 1 + 1).toNat 0 ++ sl (k + 1) b := by
   rw [show (i + 1).toNat = i.toNat + 1 by omega, show (i - 1 + 1).toNat = i.toNat by omega, List.replicate_succ', List.append_assoc, List.set_append_right _ _ (by simp), List.length_replicate, Nat.sub_self, hm]
   rfl
  rw [← e]; exact hS
 ·
  have hc10 := hb10; try simp only [Gk.cs0] at hc10
  refine WC.exit ?_
  refine WC.seq ?_
  refine WC.region ?_
  refine WL.val (.move (.of rfl)) rfl ?_
  refine WL.val (.assign (.of rfl)) rfl ?_
  refine WL.nil ?_
  refine WC.ret ?_
  refine ret1 Tryz.results36 rfl ?_
  have : i = -1 := by omega
  subst this
  have : k = 64 := by omega
  subst this
  exact ⟨_, rfl, _, rfl, by simpa using hS⟩
theorem refKey_any (b : Nat) (hb : b < 18446744073709551616) (B w : World) (I : Im) (As : List Assn) (hS : Sat B w I As) :
  Calls Tryz.prog 17 [F64 b].toArray w (Ret fun v w' => v = U64 (keyN b : Nat) ∧ Sat B w' I As) := by
 refine calls Tryz.func17 rfl Tryz.ntmps17 rfl ?_
 refine WC.seq ?_
 refine WC.region ?_
 refine WL.val (.assign (.of rfl)) rfl ?_
 refine WL.nil ?_
 refine WC.seq ?_
 refine WC.region ?_
 refine WL.val (.move (.of rfl)) rfl ?_
 refine WL.call Tryz.func36 rfl (evs_cons (.of rfl) evs_nil) rfl (refBits_any _ hb _ _ _ _ hS) ?_
 clear hS
 rintro _ w ⟨q, rfl, hS⟩
 refine WL.val (.assign (.of rfl)) rfl ?_
 refine WL.nil ?_
 refine WC.seq ?_
 refine WC.region ?_
 refine WL.val (.assign (.of rfl)) rfl ?_
 refine WL.nil ?_
 refine WC.seq ?_
 refine WC.seq ?_
 refine WC.region ?_
 refine WL.val (.assign (.of rfl)) rfl ?_
 refine WL.nil ?_
 refine WC.block ?_
 refine WC.loop (σ := Nat) (fun j => [(3, .slice (some (ad q 0)) 64 64), (4, U64 (kf b j : Nat)), (5, I64 (j : Nat))]) (fun j w => j ≤ 64 ∧ Sat B w I (blk q ((sl 64 b).map I64 ++ []) 3 :: As)) (fun j => 64 - j) 0 ⟨rfl, rfl, rfl, trivial⟩ ⟨by decide, hS⟩ ?_
 rintro j w ⟨hj, hS⟩
 change WC _ _ _ _ [(3, .slice (some (ad q 0)) 64 64), (4, U64 (kf b j : Nat)), (5, I64 (j : Nat))] w
 have kl := kf_small b (i := j)
 refine WC.seq ?_
 refine WC.seq ?_
 refine WC.region ?_
 refine WL.val (.move (.of rfl)) rfl ?_
 refine WL.val (.lss (.of rfl) (.of rfl)) rfl ?_
 refine WL.nil ?_
 refine WC.cond rfl (fun hb10 => ?_) (fun hb10 => ?_)
 ·
  have hc10 := hb10; try simp only [Gk.cs0] at hc10
  refine WC.skip ?_
  refine WC.seq ?_
  refine WC.block ?_
  refine WC.seq ?_
  refine WC.region ?_
  refine WL.val (.move (.of rfl)) rfl ?_
  refine WL.val (.move (.of rfl)) rfl ?_
  first | refine WL.val (.indexAddr (.of rfl) (.of rfl) (by omega) (by omega) Tryz.underlying68 Tryz.sizeOf3) rfl ?_ | refine WL.val (.indexAddrI (.of rfl) (.of rfl) (by omega) (by omega) Tryz.underlying68 Tryz.sizeOf3) rfl ?_
  refine WL.val (.ldE I64 (sl 64 b) 0 [] (i := ((j : Nat) : Int)) (.of rfl) hS (k := 0) rfl rfl Tryz.isAgg3 (by omega) (by rw [sl_len]; omega)) rfl ?_
  have hv0 := sl_get (k := 64) (b := b) (i := (((j : Nat) : Int) : Int).toNat) (by omega)
  have hm0 := Nat.mod_lt (b / 2 ^ (64 - 1 - (((j : Nat) : Int) : Int).toNat)) (show 0 < 2 by decide)
  refine WL.val (.assign (.of rfl)) rfl ?_
  refine WL.nil ?_
  refine WC.seq ?_
  refine WC.seq ?_
  refine WC.region ?_
  refine WL.val (.move (.of rfl)) rfl ?_
  first | refine WL.val (.indexAddr (.of rfl) (.of rfl) (by omega) (by omega) Tryz.underlying68 Tryz.sizeOf3) rfl ?_ | refine WL.val (.indexAddrI (.of rfl) (.of rfl) (by omega) (by omega) Tryz.underlying68 Tryz.sizeOf3) rfl ?_
  refine WL.val (.ldE I64 (sl 64 b) 0 [] (i := 0) (.of rfl) hS (k := 0) rfl rfl Tryz.isAgg3 (by omega) (by rw [sl_len]; omega)) rfl ?_
  have hv1 := sl_get (k := 64) (b := b) (i := (0 : Int).toNat) (by omega)
  have hm1 := Nat.mod_lt (b / 2 ^ (64 - 1 - (0 : Int).toNat)) (show 0 < 2 by decide)
  refine WL.val (.eql (.of rfl) (.of rfl)) rfl ?_
  refine WL.nil ?_
  refine WC.cond rfl (fun hb20 => ?_) (fun hb20 => ?_)
  ·
   have hc20 := hb20; try simp only [Gk.cs0] at hc20
   refine WC.region ?_
   refine WL.val (.move (.of rfl)) rfl ?_
   refine WL.val (.sub (.of rfl) (.of rfl) ⟨by omega, by omega⟩) rfl ?_
   refine WL.val (.assign (.of rfl)) rfl ?_
   refine WL.nil ?_
   refine WC.region ?_
   refine WL.val (.move (.of rfl)) rfl ?_
   first | refine WL.val (.mulx (.of rfl) (.of rfl) (by rw [IntKind.wrap_u64]; omega)) rfl ?_ | refine WL.val (.mulw (.of rfl) (.of rfl)) rfl ?_
   refine WL.val (.move (.of rfl)) rfl ?_
   refine WL.val (.cvi (.of rfl) Tryz.underlying3 Tryz.underlying42 (by rw [IntKind.wrap_u64]; omega)) rfl ?_
   first | refine WL.val (.addx (.of rfl) (.of rfl) (by rw [IntKind.wrap_u64]; omega)) rfl ?_ | refine WL.val (.addw (.of rfl) (.of rfl)) rfl ?_
   refine WL.val (.assign (.of rfl)) rfl ?_
   refine WL.nil ?_
   refine WC.region ?_
   refine WL.val (.move (.of rfl)) rfl ?_
   refine WL.val (.add (.of rfl) (.of rfl) ⟨by omega, by omega⟩) rfl ?_
   refine WL.val (.assign (.of rfl)) rfl ?_
   refine WL.nil ?_
   have HI : 9223372036854775808 ≤ b := by
    have e63 : b / 2 ^ 63 = b / 9223372036854775808 := by rw [show (2 : Nat) ^ 63 = 9223372036854775808 by decide]
    simp only [Int.toNat_zero, show 64 - 1 - 0 = 63 from rfl, e63] at hv1 hm1
    simp only [Int.toNat_zero] at hc20
    omega
   have e : bt b j = 1 - b / 2 ^ (63 - j) % 2 := by rw [bt, if_pos HI]
   have m2 := Nat.mod_lt (b / 2 ^ (63 - j)) (show 0 < 2 by decide)
   refine ⟨j + 1, ⟨rfl, ?_, rfl, trivial⟩, ⟨by omega, hS⟩, by omega⟩
   show some (U64 _) = some (U64 _)
   congr 2
   rw [kf, e]
   simp only [Int.toNat_natCast] at hv0 hm0 ⊢
   rw [show 64 - 1 - j = 63 - j from rfl] at hv0 hm0
   omega
  ·
   have hc20 := hb20; try simp only [Gk.cs0] at hc20
   refine WC.seq ?_
   refine WC.region ?_
   refine WL.val (.move (.of rfl)) rfl ?_
   refine WL.val (.eql (.of rfl) (.of rfl)) rfl ?_
   refine WL.nil ?_
   refine WC.cond rfl (fun hb24 => ?_) (fun hb24 => ?_)
   ·
    have hc24 := hb24; try simp only [Gk.cs0] at hc24
    refine WC.region ?_
    refine WL.val (.assign (.of rfl)) rfl ?_
    refine WL.nil ?_
    refine WC.region ?_
    refine WL.val (.move (.of rfl)) rfl ?_
    first | refine WL.val (.mulx (.of rfl) (.of rfl) (by rw [IntKind.wrap_u64]; omega)) rfl ?_ | refine WL.val (.mulw (.of rfl) (.of rfl)) rfl ?_
    refine WL.val (.move (.of rfl)) rfl ?_
    refine WL.val (.cvi (.of rfl) Tryz.underlying3 Tryz.underlying42 (by rw [IntKind.wrap_u64]; omega)) rfl ?_
    first | refine WL.val (.addx (.of rfl) (.of rfl) (by rw [IntKind.wrap_u64]; omega)) rfl ?_ | refine WL.val (.addw (.of rfl) (.of rfl)) rfl ?_
    refine WL.val (.assign (.of rfl)) rfl ?_
    refine WL.nil ?_
    refine WC.region ?_
    refine WL.val (.move (.of rfl)) rfl ?_
    refine WL.val (.add (.of rfl) (.of rfl) ⟨by omega, by omega⟩) rfl ?_
    refine WL.val (.assign (.of rfl)) rfl ?_
    refine WL.nil ?_
    have HI : ¬ 9223372036854775808 ≤ b := by
     have e63 : b / 2 ^ 63 = b / 9223372036854775808 := by rw [show (2 : Nat) ^ 63 = 9223372036854775808 by decide]
     simp only [Int.toNat_zero, show 64 - 1 - 0 = 63 from rfl, e63] at hv1 hm1
     simp only [Int.toNat_zero] at hc20
     omega
    have e : bt b j = 1 := by rw [bt, if_neg HI, if_pos (by omega)]
    have m2 := Nat.mod_lt (b / 2 ^ (63 - j)) (show 0 < 2 by decide)
    refine ⟨j + 1, ⟨rfl, ?_, rfl, trivial⟩, ⟨by omega, hS⟩, by omega⟩
    show some (U64 _) = some (U64 _)
    congr 2
    rw [kf, e]
    simp only [Int.toNat_natCast] at hv0 hm0 ⊢
    rw [show 64 - 1 - j = 63 - j from rfl] at hv0 hm0
    omega
   ·
    have hc24 := hb24; try simp only [Gk.cs0] at hc24
    refine WC.skip ?_
    refine WC.region ?_
    refine WL.val (.move (.of rfl)) rfl ?_
    first | refine WL.val (.mulx (.of rfl) (.of rfl) (by rw [IntKind.wrap_u64]; omega)) rfl ?_ | refine WL.val (.mulw (.of rfl) (.of rfl)) rfl ?_
    refine WL.val (.move (.of rfl)) rfl ?_
    refine WL.val (.cvi (.of rfl) Tryz.underlying3 Tryz.underlying42 (by rw [IntKind.wrap_u64]; omega)) rfl ?_
    first | refine WL.val (.addx (.of rfl) (.of rfl) (by rw [IntKind.wrap_u64]; omega)) rfl ?_ | refine WL.val (.addw (.of rfl) (.of rfl)) rfl ?_
    refine WL.val (.assign (.of rfl)) rfl ?_
    refine WL.nil ?_
    refine WC.region ?_
    refine WL.val (.move (.of rfl)) rfl ?_
    refine WL.val (.add (.of rfl) (.of rfl) ⟨by omega, by omega⟩) rfl ?_
    refine WL.val (.assign (.of rfl)) rfl ?_
    refine WL.nil ?_
    have HI : ¬ 9223372036854775808 ≤ b := by
     have e63 : b / 2 ^ 63 = b / 9223372036854775808 := by rw [show (2 : Nat) ^ 63 = 9223372036854775808 by decide]
     simp only [Int.toNat_zero, show 64 - 1 - 0 = 63 from rfl, e63] at hv1 hm1
     simp only [Int.toNat_zero] at hc20
     omega
    have e : bt b j = b / 2 ^ (63 - j) % 2 := by rw [bt, if_neg HI, if_neg (by omega)]
    have m2 := Nat.mod_lt (b / 2 ^ (63 - j)) (show 0 < 2 by decide)
    refine ⟨j + 1, ⟨rfl, ?_, rfl, trivial⟩, ⟨by omega, hS⟩, by omega⟩
    show some (U64 _) = some (U64 _)
    congr 2
    rw [kf, e]
    simp only [Int.toNat_natCast] at hv0 hm0 ⊢
    rw [show 64 - 1 - j = 63 - j from rfl] at hv0 hm0
    omega
 ·
  have hc10 := hb10; try simp only [Gk.cs0] at hc10
  refine WC.exit ?_
  refine WC.seq ?_
  refine WC.region ?_
  refine WL.val (.move (.of rfl)) rfl ?_
  refine WL.val (.assign (.of rfl)) rfl ?_
  refine WL.nil ?_
  refine WC.ret ?_
  refine ret1 Tryz.results17 rfl ?_
  exact ⟨_, rfl, by rw [← kf_key hb, show 64 = j by omega], hS.drop (k := 0) rfl⟩
theorem cmpIsNaN_any (a : Int) (w : World) :
  Calls Tryz.prog 67 [U64 a].toArray w (Ret fun v w' => v = .bool false ∧ w = w') := by
 refine calls Tryz.func67 rfl Tryz.ntmps67 rfl ?_
 refine WC.seq ?_
 refine WC.region ?_
 refine WL.val (.assign (.of rfl)) rfl ?_
 refine WL.nil ?_
 refine WC.seq ?_
 refine WC.region ?_
 refine WL.val (.move (.of rfl)) rfl ?_
 refine WL.val (.move (.of rfl)) rfl ?_
 refine WL.val (.neq (.of rfl) (.of rfl)) rfl ?_
 refine WL.val (.assign (.of rfl)) rfl ?_
 refine WL.nil ?_
 refine WC.ret ?_
 refine ret1 Tryz.results67 rfl ?_
 exact ⟨_, rfl, by simp, rfl⟩
theorem Compare_any (a b : Int) (w : World) :
  Calls Tryz.prog 54 [U64 a, U64 b].toArray w (Ret fun v w' => v = I64 (if a < b then -1 else if b < a then 1 else 0) ∧ w = w') := by
 refine calls Tryz.func54 rfl Tryz.ntmps54 rfl ?_
 refine WC.seq ?_
 refine WC.region ?_
 refine WL.val (.assign (.of rfl)) rfl ?_
 refine WL.nil ?_
 refine WC.seq ?_
 refine WC.region ?_
 refine WL.val (.move (.of rfl)) rfl ?_
 refine WL.call Tryz.func67 rfl (evs_cons (.of rfl) evs_nil) rfl (cmpIsNaN_any _ _) ?_
 rintro _ _ ⟨rfl, rfl⟩
 refine WL.val (.assign (.of rfl)) rfl ?_
 refine WL.nil ?_
 refine WC.seq ?_
 refine WC.region ?_
 refine WL.val (.move (.of rfl)) rfl ?_
 refine WL.call Tryz.func67 rfl (evs_cons (.of rfl) evs_nil) rfl (cmpIsNaN_any _ _) ?_
 rintro _ _ ⟨rfl, rfl⟩
 refine WL.val (.assign (.of rfl)) rfl ?_
 refine WL.nil ?_
 refine WC.seq ?_
 refine WC.seq ?_
 refine WC.region ?_
 refine WL.val (.move (.of rfl)) rfl ?_
 refine WL.nil ?_
 refine WC.condF (rfl) ?_
 refine WC.skip ?_
 refine WC.seq ?_
 refine WC.seq ?_
 refine WC.region ?_
 refine WL.val (.move (.of rfl)) rfl ?_
 refine WL.nil ?_
 refine WC.condF (rfl) ?_
 refine WC.skip ?_
 refine WC.seq ?_
 refine WC.seq ?_
 refine WC.region ?_
 refine WL.val (.move (.of rfl)) rfl ?_
 refine WL.val (.move (.of rfl)) rfl ?_
 refine WL.val (.lss (.of rfl) (.of rfl)) rfl ?_
 refine WL.nil ?_
 refine WC.cond rfl (fun hb16 => ?_) (fun hb16 => ?_)
 ·
  have hc16 := hb16; try simp only [Gk.cs0] at hc16
  refine WC.seq ?_
  refine WC.region ?_
  refine WL.val (.assign (.of rfl)) rfl ?_
  refine WL.nil ?_
  refine WC.ret ?_
  refine ret1 Tryz.results54 rfl ?_
  exact ⟨_, rfl, by rw [if_pos hc16], rfl⟩
 ·
  have hc16 := hb16; try simp only [Gk.cs0] at hc16
  refine WC.skip ?_
  refine WC.seq ?_
  refine WC.seq ?_
  refine WC.region ?_
  refine WL.val (.move (.of rfl)) rfl ?_
  refine WL.val (.move (.of rfl)) rfl ?_
  refine WL.val (.gtr (.of rfl) (.of rfl)) rfl ?_
  refine WL.nil ?_
  refine WC.cond rfl (fun hb19 => ?_) (fun hb19 => ?_)
  ·
   have hc19 := hb19; try simp only [Gk.cs0] at hc19
   refine WC.seq ?_
   refine WC.region ?_
   refine WL.val (.assign (.of rfl)) rfl ?_
   refine WL.nil ?_
   refine WC.ret ?_
   refine ret1 Tryz.results54 rfl ?_
   exact ⟨_, rfl, by rw [if_neg (by omega), if_pos hc19], rfl⟩
  ·
   have hc19 := hb19; try simp only [Gk.cs0] at hc19
   refine WC.skip ?_
   refine WC.seq ?_
   refine WC.region ?_
   refine WL.val (.assign (.of rfl)) rfl ?_
   refine WL.nil ?_
   refine WC.ret ?_
   refine ret1 Tryz.results54 rfl ?_
   exact ⟨_, rfl, by rw [if_neg (by omega), if_neg (by omega)], rfl⟩
end Go.Proofs.YtchgkcbloeoopaaGreatDoor
namespace Srt
set_option linter.unusedVariables false
set_option linter.unusedSimpArgs false
variable {k : Int → Nat}
def bef (k : Int → Nat) (x y : Int) : Prop := k x < k y ∨ (k x = k y ∧ x < y)
theorem bef_trans {x y z : Int} (h : bef k x y) (h2 : bef k y z) : bef k x z := by unfold bef at *; omega
theorem bef_irrefl {x : Int} : ¬ bef k x x := by unfold bef; omega
theorem bef_later {x y : Int} (h : x < y) : bef k y x ↔ k y < k x := by unfold bef; omega
theorem not_bef_later {x y : Int} (h : x < y) (h2 : ¬ k y < k x) : bef k x y := by unfold bef; omega
def cmpv (k : Int → Nat) (x y : Int) : Int := if k x < k y then -1 else if k y < k x then 1 else 0
theorem cmpv_neg {x y : Int} : cmpv k x y < 0 ↔ k x < k y := by unfold cmpv; split <;> (try split) <;> omega
abbrev So (k : Int → Nat) (l : List Int) : Prop := l.Pairwise (bef k)
def cross (A T : List Int) : Prop := ∀ a ∈ A, ∀ t ∈ T, a < t
def swp (D : List Int) (i j : Nat) : List Int := (D.set i (D.getD j 0)).set j (D.getD i 0)
theorem swp_comm {D : List Int} {i j : Nat} (h : i ≠ j) : swp D i j = swp D j i := by
 unfold swp; rw [List.set_comm _ _ h]
theorem at_app (A B : List Int) (x : Int) : (A ++ x :: B).getD A.length 0 = x := by simp [List.getD_eq_getElem?_getD]
theorem swp_eq (A M C : List Int) (p q : Int) : swp (A ++ p :: (M ++ q :: C)) A.length (A.length + 1 + M.length) = A ++ q :: (M ++ p :: C) := by
 have h1 := at_app A (M ++ q :: C) p
 have h2 : (A ++ p :: (M ++ q :: C)).getD (A.length + 1 + M.length) 0 = q := by
  have := at_app (A ++ p :: M) C q
  rw [List.length_append, List.length_cons, show A.length + (M.length + 1) = A.length + 1 + M.length by omega] at this
  simpa using this
 unfold swp
 rw [h1, h2]
 have e1 : (A ++ p :: (M ++ q :: C)).set A.length q = A ++ q :: (M ++ q :: C) := by
  rw [List.set_append_right _ _ (Nat.le_refl _), Nat.sub_self]; rfl
 rw [e1, List.set_append_right _ _ (by omega), show A.length + 1 + M.length - A.length = M.length + 1 by omega, List.set_cons_succ, List.set_append_right _ _ (Nat.le_refl _), Nat.sub_self]
 rfl
theorem swp_adj (A C : List Int) (p q : Int) : swp (A ++ p :: q :: C) A.length (A.length + 1) = A ++ q :: p :: C := by
 have := swp_eq A [] C p q
 simpa using this
theorem so_insert {U1 U2 : List Int} {x : Int} (h : So k (U1 ++ U2)) (h1 : ∀ u ∈ U1, bef k u x) (h2 : ∀ u ∈ U2, bef k x u) : So k (U1 ++ x :: U2) := by
 obtain ⟨a, b, c⟩ := List.pairwise_append.1 h
 refine List.pairwise_append.2 ⟨a, List.pairwise_cons.2 ⟨h2, b⟩, fun u hu v hv => ?_⟩
 rcases List.mem_cons.1 hv with rfl | hv
 ·exact h1 u hu
 ·exact c u hu v hv
theorem so_last {U : List Int} {p x : Int} (h : So k (U ++ [p])) (hp : bef k p x) : ∀ u ∈ U ++ [p], bef k u x := by
 intro u hu
 rcases List.mem_append.1 hu with hu | hu
 ·exact bef_trans ((List.pairwise_append.1 h).2.2 u hu p (by simp)) hp
 ·simp at hu; subst hu; exact hp
theorem so_get {V : List Int} (h : So k V) {p q : Nat} (hpq : p < q) (hq : q < V.length) : bef k (V.getD p 0) (V.getD q 0) := by
 have := List.pairwise_iff_getElem.1 h p q (by omega) hq hpq
 simpa [List.getD_eq_getElem?_getD, hq, (show p < V.length by omega)] using this
theorem getD_mem {V : List Int} {p : Nat} (h : p < V.length) : V.getD p 0 ∈ V := by
 rw [List.getD_eq_getElem?_getD, List.getElem?_eq_getElem h]; exact List.getElem_mem h
theorem mem_get {V : List Int} {v : Int} (h : v ∈ V) : ∃ p, p < V.length ∧ V.getD p 0 = v := by
 obtain ⟨p, hp, e⟩ := List.mem_iff_getElem.1 h
 exact ⟨p, hp, by rw [List.getD_eq_getElem?_getD, List.getElem?_eq_getElem hp, ← e]; rfl⟩
theorem mem_take {V : List Int} {n : Nat} {v : Int} (h : v ∈ V.take n) : ∃ p, p < n ∧ p < V.length ∧ V.getD p 0 = v := by
 obtain ⟨p, hp, e⟩ := mem_get h
 rw [List.length_take] at hp
 refine ⟨p, by omega, by omega, ?_⟩
 rw [← e]
 simp [List.getD_eq_getElem?_getD, List.getElem?_take, show p < n by omega]
theorem mem_drop {V : List Int} {n : Nat} {v : Int} (h : v ∈ V.drop n) : ∃ p, n ≤ p ∧ p < V.length ∧ V.getD p 0 = v := by
 obtain ⟨p, hp, e⟩ := mem_get h
 rw [List.length_drop] at hp
 refine ⟨n + p, by omega, by omega, ?_⟩
 rw [← e]
 simp [List.getD_eq_getElem?_getD, List.getElem?_drop]
theorem get_app1 {A B : List Int} {i : Nat} (h : i < A.length) : (A ++ B).getD i 0 = A.getD i 0 := by
 simp [List.getD_eq_getElem?_getD, List.getElem?_append, h]
theorem get_app2 {A B : List Int} {i : Nat} (h : A.length ≤ i) : (A ++ B).getD i 0 = B.getD (i - A.length) 0 := by
 simp [List.getD_eq_getElem?_getD, List.getElem?_append, Nat.not_lt.2 h]
theorem get_mid {F G E : List Int} {i : Nat} (h1 : F.length ≤ i) (h2 : i < F.length + G.length) : (F ++ (G ++ E)).getD i 0 ∈ G := by
 rw [get_app2 h1, get_app1 (by omega)]
 exact getD_mem (by omega)
theorem concat_of {U : List Int} (h : 0 < U.length) : ∃ V q, U = V ++ [q] := by
 have hne : U ≠ [] := fun e => by rw [e] at h; simp at h
 exact ⟨U.dropLast, U.getLast hne, (List.dropLast_concat_getLast hne).symm⟩
theorem cons_of {U : List Int} (h : 0 < U.length) : ∃ q V, U = q :: V := by
 cases U with
 | nil => simp at h
 | cons q V => exact ⟨q, V, rfl⟩
theorem so_key {V : List Int} (h : So k V) {p q : Nat} (hpq : p ≤ q) (hq : q < V.length) : k (V.getD p 0) ≤ k (V.getD q 0) := by
 rcases Nat.lt_or_ge p q with h1 | h1
 ·have := so_get h h1 hq
  unfold bef at this; omega
 ·rw [show p = q by omega]; exact Nat.le_refl _
theorem so_left {V : List Int} {x : Int} {i : Nat} (h : So k V) (hx : ∀ v ∈ V, x < v) (hi : i ≤ V.length) (h1 : i = 0 ∨ k (V.getD (i - 1) 0) < k x) (h2 : i = V.length ∨ ¬ k (V.getD i 0) < k x) : So k (V.take i ++ x :: V.drop i) := by
 refine so_insert (by rw [List.take_append_drop]; exact h) (fun u hu => ?_) (fun u hu => ?_)
 ·obtain ⟨p, p1, p2, rfl⟩ := mem_take hu
  rcases h1 with h1 | h1
  ·omega
  ·have := so_key h (show p ≤ i - 1 by omega) (by omega)
   exact .inl (by omega)
 ·obtain ⟨p, p1, p2, rfl⟩ := mem_drop hu
  rcases h2 with h2 | h2
  ·omega
  ·have := so_key h p1 p2
   exact not_bef_later (hx _ (getD_mem p2)) (by omega)
theorem so_right {V : List Int} {x : Int} {i : Nat} (h : So k V) (hx : ∀ v ∈ V, v < x) (hi : i ≤ V.length) (h1 : i = 0 ∨ ¬ k x < k (V.getD (i - 1) 0)) (h2 : i = V.length ∨ k x < k (V.getD i 0)) : So k (V.take i ++ x :: V.drop i) := by
 refine so_insert (by rw [List.take_append_drop]; exact h) (fun u hu => ?_) (fun u hu => ?_)
 ·obtain ⟨p, p1, p2, rfl⟩ := mem_take hu
  rcases h1 with h1 | h1
  ·omega
  ·have := so_key h (show p ≤ i - 1 by omega) (by omega)
   exact not_bef_later (hx _ (getD_mem p2)) (by omega)
 ·obtain ⟨p, p1, p2, rfl⟩ := mem_drop hu
  rcases h2 with h2 | h2
  ·omega
  ·have := so_key h p1 p2
   exact .inl (by omega)
theorem so_app {X Y : List Int} (hx : So k X) (hy : So k Y) (h : ∀ x ∈ X, ∀ y ∈ Y, bef k x y) : So k (X ++ Y) := List.pairwise_append.2 ⟨hx, hy, h⟩
theorem cross_sub {A T A' T' : List Int} (h : cross A T) (ha : ∀ x ∈ A', x ∈ A) (ht : ∀ x ∈ T', x ∈ T) : cross A' T' := fun a h1 t h2 => h a (ha a h1) t (ht t h2)
theorem split_lt {U V : List Int} (hU : So k U) (hV : So k V) (hc : cross U V) {s e : Nat} (hs : s ≤ U.length) (he : e ≤ V.length)
  (h1 : s = 0 ∨ e = V.length ∨ bef k (U.getD (s - 1) 0) (V.getD e 0)) (h2 : e = 0 ∨ s = U.length ∨ bef k (V.getD (e - 1) 0) (U.getD s 0)) :
  (∀ x ∈ U.take s ++ V.take e, ∀ y ∈ U.drop s ++ V.drop e, bef k x y) := by
 intro x hx y hy
 rcases List.mem_append.1 hx with hx | hx <;> rcases List.mem_append.1 hy with hy | hy
 ·obtain ⟨p, p1, p2, rfl⟩ := mem_take hx
  obtain ⟨q, q1, q2, rfl⟩ := mem_drop hy
  exact so_get hU (by omega) q2
 ·obtain ⟨p, p1, p2, rfl⟩ := mem_take hx
  obtain ⟨q, q1, q2, rfl⟩ := mem_drop hy
  have hb : bef k (U.getD (s - 1) 0) (V.getD e 0) := by
   rcases h1 with h | h | h
   ·omega
   ·omega
   ·exact h
  have e1 : U.getD p 0 = U.getD (s - 1) 0 ∨ bef k (U.getD p 0) (U.getD (s - 1) 0) := by
   rcases Nat.lt_or_ge p (s - 1) with h | h
   ·exact .inr (so_get hU h (by omega))
   ·exact .inl (by rw [show p = s - 1 by omega])
  have e2 : V.getD e 0 = V.getD q 0 ∨ bef k (V.getD e 0) (V.getD q 0) := by
   rcases Nat.lt_or_ge e q with h | h
   ·exact .inr (so_get hV h q2)
   ·exact .inl (by rw [show e = q by omega])
  rcases e1 with e1 | e1 <;> rcases e2 with e2 | e2
  ·rw [e1, ← e2]; exact hb
  ·rw [e1]; exact bef_trans hb e2
  ·rw [← e2]; exact bef_trans e1 hb
  ·exact bef_trans e1 (bef_trans hb e2)
 ·obtain ⟨p, p1, p2, rfl⟩ := mem_take hx
  obtain ⟨q, q1, q2, rfl⟩ := mem_drop hy
  have hb : bef k (V.getD (e - 1) 0) (U.getD s 0) := by
   rcases h2 with h | h | h
   ·omega
   ·omega
   ·exact h
  have e1 : V.getD p 0 = V.getD (e - 1) 0 ∨ bef k (V.getD p 0) (V.getD (e - 1) 0) := by
   rcases Nat.lt_or_ge p (e - 1) with h | h
   ·exact .inr (so_get hV h (by omega))
   ·exact .inl (by rw [show p = e - 1 by omega])
  have e2 : U.getD s 0 = U.getD q 0 ∨ bef k (U.getD s 0) (U.getD q 0) := by
   rcases Nat.lt_or_ge s q with h | h
   ·exact .inr (so_get hU h q2)
   ·exact .inl (by rw [show s = q by omega])
  rcases e1 with e1 | e1 <;> rcases e2 with e2 | e2
  ·rw [e1, ← e2]; exact hb
  ·rw [e1]; exact bef_trans hb e2
  ·rw [← e2]; exact bef_trans e1 hb
  ·exact bef_trans e1 (bef_trans hb e2)
 ·obtain ⟨p, p1, p2, rfl⟩ := mem_take hx
  obtain ⟨q, q1, q2, rfl⟩ := mem_drop hy
  exact so_get hV (by omega) q2
theorem so_unique : ∀ {X Y : List Int}, So k X → So k Y → X.Perm Y → X = Y
 | [], Y, _, _, h => (List.nil_perm.1 h).symm
 | x :: X, [], _, _, h => by have := h.length_eq; simp at this
 | x :: X, y :: Y, hx, hy, h => by
  obtain ⟨hx1, hx2⟩ := List.pairwise_cons.1 hx
  obtain ⟨hy1, hy2⟩ := List.pairwise_cons.1 hy
  have e : x = y := by
   apply Classical.byContradiction
   intro hne
   have m1 : x ∈ Y := by
    rcases List.mem_cons.1 (h.mem_iff.1 (List.mem_cons_self : x ∈ x :: X)) with h | h
    ·exact absurd h hne
    ·exact h
   have m2 : y ∈ X := by
    rcases List.mem_cons.1 (h.mem_iff.2 (List.mem_cons_self : y ∈ y :: Y)) with h | h
    ·exact absurd h.symm hne
    ·exact h
   exact bef_irrefl (bef_trans (hx1 y m2) (hy1 x m1))
  subst e
  rw [so_unique hx2 hy2 (List.Perm.cons_inv h)]
inductive Full (k : Int → Nat) (s : Nat) : List Int → Prop
 | nil : Full k s []
 | cons {U T : List Int} : U.length = s → So k U → cross U T → Full k s T → Full k s (U ++ T)
theorem Full.append {s : Nat} {A B : List Int} (ha : Full k s A) (hb : Full k s B) (hc : cross A B) : Full k s (A ++ B) := by
 induction ha with
 | nil => simpa using hb
 | cons h1 h2 h3 h4 ih =>
  rename_i U T
  rw [List.append_assoc]
  refine .cons h1 h2 (fun a ha t ht => ?_) (ih (cross_sub hc (fun x hx => List.mem_append_right _ hx) (fun x hx => hx)))
  rcases List.mem_append.1 ht with ht | ht
  ·exact h3 a ha t ht
  ·exact hc a (List.mem_append_left _ ha) t ht
theorem Full.one {s : Nat} {U : List Int} (h : U.length = s) (hs : So k U) : Full k s U := by
 have := Full.cons (T := []) h hs (fun _ _ _ h => by cases h) .nil
 simpa using this
def Runs (k : Int → Nat) (s : Nat) (D : List Int) : Prop := ∃ A U, D = A ++ U ∧ Full k s A ∧ U.length < s ∧ So k U ∧ cross A U
theorem Runs.sorted {s : Nat} {D : List Int} (h : Runs k s D) (hl : D.length ≤ s) (h0 : 0 < s) : So k D := by
 obtain ⟨A, U, rfl, hA, hU, hs, hc⟩ := h
 cases hA with
 | nil => simpa using hs
 | cons h1 h2 h3 h4 =>
  rename_i V T
  simp only [List.length_append] at hl
  have hU0 : U = [] := List.eq_nil_of_length_eq_zero (by omega)
  have hT0 : T = [] := List.eq_nil_of_length_eq_zero (by omega)
  subst hU0; subst hT0
  simpa using h2
theorem Full.two {s : Nat} {A : List Int} (h : Full k s A) (hl : s < A.length) : ∃ U V T, A = U ++ (V ++ T) ∧ U.length = s ∧ V.length = s ∧ So k U ∧ So k V ∧ cross U V ∧ cross U T ∧ cross V T ∧ Full k s T := by
 cases h with
 | nil => simp at hl
 | cons h1 h2 h3 h4 =>
  rename_i U T
  cases h4 with
  | nil => simp at hl; omega
  | cons g1 g2 g3 g4 =>
   rename_i V T
   exact ⟨U, V, T, rfl, h1, g1, h2, g2, cross_sub h3 (fun _ h => h) (fun _ h => List.mem_append_left _ h), cross_sub h3 (fun _ h => h) (fun _ h => List.mem_append_right _ h), g3, g4⟩
theorem Full.few {s : Nat} {A : List Int} (h : Full k s A) (hl : A.length < 2 * s) : A = [] ∨ (A.length = s ∧ So k A) := by
 cases h with
 | nil => exact .inl rfl
 | cons h1 h2 h3 h4 =>
  rename_i U T
  cases h4 with
  | nil => exact .inr ⟨by simpa using h1, by simpa using h2⟩
  | cons g1 g2 g3 g4 => simp only [List.length_append] at hl; omega
theorem cross_perm {A T M : List Int} (h : cross A T) (hp : M.Perm A) : cross M T := fun a ha => h a (hp.mem_iff.1 ha)
theorem cross_permr {A T M : List Int} (h : cross A T) (hp : M.Perm T) : cross A M := fun a ha t ht => h a ha t (hp.mem_iff.1 ht)
theorem cross_app {A B T : List Int} (h : cross A T) (h2 : cross B T) : cross (A ++ B) T := fun a ha t ht => by
 rcases List.mem_append.1 ha with ha | ha
 ·exact h a ha t ht
 ·exact h2 a ha t ht
theorem cross_appr {A B T : List Int} (h : cross A B) (h2 : cross A T) : cross A (B ++ T) := fun a ha t ht => by
 rcases List.mem_append.1 ht with ht | ht
 ·exact h a ha t ht
 ·exact h2 a ha t ht
def upto : Nat → List Int
 | 0 => []
 | n + 1 => upto n ++ [(n : Int)]
theorem upto_len : ∀ n, (upto n).length = n
 | 0 => rfl
 | n + 1 => by rw [upto, List.length_append, upto_len n]; rfl
theorem upto_mem : ∀ {n : Nat} {x : Int}, x ∈ upto n ↔ 0 ≤ x ∧ x < n
 | 0, x => by simp [upto] <;> omega
 | n + 1, x => by
  rw [upto, List.mem_append, upto_mem]
  simp
  omega
theorem upto_lt : ∀ n, (upto n).Pairwise (· < ·)
 | 0 => .nil
 | n + 1 => by
  rw [upto]
  refine List.pairwise_append.2 ⟨upto_lt n, by simp, fun a ha b hb => ?_⟩
  simp at hb
  have := upto_mem.1 ha
  omega
def Ord (k : Int → Nat) (n : Nat) (D : List Int) : Prop := So k D ∧ D.Perm (upto n)
theorem Ord.unique {n : Nat} {D D' : List Int} (h : Ord k n D) (h' : Ord k n D') : D = D' := so_unique h.1 h'.1 (h.2.trans h'.2.symm)
theorem Ord.len {n : Nat} {D : List Int} (h : Ord k n D) : D.length = n := by rw [h.2.length_eq, upto_len]
instance (k : Int → Nat) (x y : Int) : Decidable (bef k x y) := by unfold bef; infer_instance
structure Sel (k : Int → Nat) (n : Nat) (us : List Bool) (Os T : List Int) : Prop where
 len : us.length = n
 perm : (Os ++ T).Perm (upto n)
 so : So k Os
 before : ∀ o ∈ Os, ∀ t ∈ T, bef k o t
 used : ∀ o ∈ Os, us.getD o.toNat false = true
 free : ∀ t ∈ T, us.getD t.toNat false = false
def Best (k : Int → Nat) (T : List Int) (i : Nat) (b : Int) : Prop := (b = -1 ∧ ∀ t ∈ T, (i : Int) ≤ t) ∨ (b ∈ T ∧ b < i ∧ ∀ t ∈ T, t < i → t = b ∨ bef k b t)
theorem Sel.start (k : Int → Nat) (n : Nat) : Sel k n (List.replicate n false) [] (upto n) :=
 ⟨by simp, .refl _, .nil, (fun _ h => by cases h), (fun _ h => by cases h), fun t ht => by
  have := upto_mem.1 ht
  simp [List.getD_eq_getElem?_getD, List.getElem?_replicate, show t.toNat < n by omega]⟩
theorem Sel.mem {n : Nat} {us : List Bool} {Os T : List Int} (h : Sel k n us Os T) {t : Int} (ht : t ∈ T) : 0 ≤ t ∧ t < n := upto_mem.1 (h.perm.mem_iff.1 (List.mem_append_right _ ht))
theorem Sel.lens {n : Nat} {us : List Bool} {Os T : List Int} (h : Sel k n us Os T) : Os.length + T.length = n := by
 have := h.perm.length_eq
 rw [List.length_append, upto_len] at this
 exact this
theorem Best.lt {T : List Int} {i : Nat} {b : Int} (h : Best k T i b) : b < i := by
 rcases h with ⟨h, _⟩ | ⟨_, h, _⟩ <;> omega
theorem Best.is {T : List Int} {i : Nat} {b : Int} (h : Best k T i b) (h0 : ¬ b < 0) : b ∈ T := by
 rcases h with ⟨h, _⟩ | ⟨h, _⟩
 ·omega
 ·exact h
theorem Best.take {n : Nat} {us : List Bool} {Os T : List Int} (h : Sel k n us Os T) {i : Nat} {b : Int} (hb : Best k T i b) (hi : i < n) (hu : us.getD i false = false) (hc : b < 0 ∨ k i < k b) : Best k T (i + 1) i := by
 have hiT : (i : Int) ∈ T := by
  rcases List.mem_append.1 (h.perm.mem_iff.2 (upto_mem.2 ⟨by omega, by omega⟩ : (i : Int) ∈ upto n)) with h1 | h1
  ·have := h.used _ h1
   rw [Int.toNat_natCast, hu] at this; cases this
  ·exact h1
 refine .inr ⟨hiT, by omega, fun t ht hti => ?_⟩
 rcases Int.lt_or_le t i with h1 | h1
 ·right
  rcases hb with ⟨_, h2⟩ | ⟨h2, h3, h4⟩
  ·have := h2 t ht; omega
  ·have hk : k i < k b := by
    rcases hc with hc | hc
    ·have := h.mem h2; omega
    ·exact hc
   rcases h4 t ht h1 with rfl | h5
   ·exact .inl hk
   ·exact bef_trans (.inl hk) h5
 ·left; omega
theorem Best.keep {n : Nat} {us : List Bool} {Os T : List Int} (h : Sel k n us Os T) {i : Nat} {b : Int} (hb : Best k T i b) (hc : us.getD i false = true ∨ (¬ b < 0 ∧ ¬ k i < k b)) : Best k T (i + 1) b := by
 rcases hb with ⟨h1, h2⟩ | ⟨h2, h3, h4⟩
 ·refine .inl ⟨h1, fun t ht => ?_⟩
  have h5 := h2 t ht
  rcases Int.lt_or_le i t with h6 | h6
  ·omega
  ·have e : t = i := by omega
   rcases hc with hc | hc
   ·have := h.free t ht
    rw [e, Int.toNat_natCast, hc] at this; cases this
   ·omega
 ·refine .inr ⟨h2, by omega, fun t ht hti => ?_⟩
  rcases Int.lt_or_le t i with h6 | h6
  ·exact h4 t ht h6
  ·have e : t = i := by omega
   rcases hc with hc | hc
   ·have := h.free t ht
    rw [e, Int.toNat_natCast, hc] at this; cases this
   ·right
    subst e
    unfold bef; omega
theorem Sel.step {n : Nat} {us : List Bool} {Os T : List Int} (h : Sel k n us Os T) {b : Int} (hb : Best k T n b) (hT : 0 < T.length) : 0 ≤ b ∧ b < n ∧ Sel k n (us.set b.toNat true) (Os ++ [b]) (T.erase b) := by
 obtain ⟨t0, ht0⟩ : ∃ t, t ∈ T := by cases T with | nil => simp at hT | cons t T => exact ⟨t, List.mem_cons_self⟩
 have h0 := h.mem ht0
 obtain ⟨h2, h3, h4⟩ : b ∈ T ∧ b < n ∧ ∀ t ∈ T, t < n → t = b ∨ bef k b t := by
  rcases hb with ⟨_, h2⟩ | h2
  ·have := h2 t0 ht0; omega
  ·exact h2
 have hb0 := h.mem h2
 have hp : T.Perm (b :: T.erase b) := List.perm_cons_erase h2
 have hPn : (Os ++ (b :: T.erase b)).Perm (upto n) := (List.Perm.append_left Os hp.symm).trans h.perm
 have hnd : (Os ++ (b :: T.erase b)).Nodup := hPn.nodup_iff.2 ((upto_lt n).imp fun h => by omega)
 have hd2 := (List.nodup_append.1 hnd).2.1
 have hnb : b ∉ T.erase b := (List.nodup_cons.1 hd2).1
 have hnO : b ∉ Os := fun ho => (List.nodup_append.1 hnd).2.2 b ho b List.mem_cons_self rfl
 have sub : ∀ t, t ∈ T.erase b → t ∈ T := fun t ht => List.mem_of_mem_erase ht
 refine ⟨hb0.1, h3, by simpa using h.len, by simpa using hPn, ?_, ?_, ?_, ?_⟩
 ·refine List.pairwise_append.2 ⟨h.so, by simp, fun o ho x hx => ?_⟩
  simp at hx; subst hx
  exact h.before o ho _ h2
 ·intro o ho t ht
  rcases List.mem_append.1 ho with ho | ho
  ·exact h.before o ho t (sub t ht)
  ·simp at ho; subst ho
   have hm := h.mem (sub t ht)
   rcases h4 t (sub t ht) (by omega) with e | e
   ·subst e; exact absurd ht hnb
   ·exact e
 ·intro o ho
  rcases List.mem_append.1 ho with ho | ho
  ·have := h.used o ho
   have hne : ¬ b.toNat = o.toNat := fun e => by
    have hm : 0 ≤ o := (upto_mem.1 (h.perm.mem_iff.1 (List.mem_append_left _ ho))).1
    have : b = o := by omega
    subst this; exact hnO ho
   simpa [List.getD_eq_getElem?_getD, List.getElem?_set, hne] using this
  ·simp at ho; subst ho
   have hl : o.toNat < us.length := by rw [h.len]; omega
   simp [List.getD_eq_getElem?_getD, List.getElem?_set, hl]
 ·intro t ht
  have := h.free t (sub t ht)
  have hne : ¬ b.toNat = t.toNat := fun e => by
   have hm := h.mem (sub t ht)
   have : b = t := by omega
   subst this; exact hnb ht
  simpa [List.getD_eq_getElem?_getD, List.getElem?_set, hne] using this
theorem Sel.done {n : Nat} {us : List Bool} {Os T : List Int} (h : Sel k n us Os T) (hl : n ≤ Os.length) : Ord k n Os := by
 have := h.lens
 have hT : T = [] := List.eq_nil_of_length_eq_zero (by omega)
 subst hT
 exact ⟨h.so, by simpa using h.perm⟩
end Srt
namespace Go.Proofs.YtchgkcbloeoopaaGreatDoor
open Gk Rk
set_option linter.unusedVariables false
set_option linter.unusedSimpArgs false
structure Cx (I : Im) (l : List Nat) (p : Addr) : Prop where
 ex : ∃ a c, At I p [.slice a l.length c] ∧ RS I a 1 l.length (l.map F64)
 small : ∀ v ∈ l, v < 18446744073709551616
def kx (l : List Nat) (x : Int) : Nat := keyN (l.getD x.toNat 0)
theorem Cx.mono {I J : Im} {l : List Nat} {p : Addr} (h : Cx I l p) (hl : Le I J) : Cx J l p := by
 obtain ⟨⟨a, c, h1, h2⟩, h3⟩ := h
 exact ⟨⟨a, c, h1.mono hl, h2.mono hl⟩, h3⟩
theorem small_get {l : List Nat} (h : ∀ v ∈ l, v < 18446744073709551616) (i : Nat) : l.getD i 0 < 18446744073709551616 := by
 by_cases hi : i < l.length
 ·refine h _ ?_
  rw [List.getD_eq_getElem?_getD, List.getElem?_eq_getElem hi]
  exact List.getElem_mem hi
 ·rw [List.getD_eq_getElem?_getD, List.getElem?_eq_none (by omega)]; decide
abbrev CF (p : Addr) : Value := .func (.func 53) #[] [.pointer (some p)].toArray
theorem cmp_any {l : List Nat} {p : Addr} {I : Im} (h : Cx I l p) (x y : Int) (h0 : 0 ≤ x) (h1 : x < (l.length : Int)) (g0 : 0 ≤ y) (g1 : y < (l.length : Int)) (B w : World) (As : List Assn) (hS : Sat B w I As) :
  Calls Tryz.prog 53 [I64 x, I64 y, .pointer (some p)].toArray w (Ret fun v w' => v = I64 (Srt.cmpv (kx l) x y) ∧ Sat B w' I As) := by
 obtain ⟨sa, sc, hp, hr⟩ := h.ex
 obtain ⟨pa, rfl, ha⟩ := hr.2 (by omega)
 refine calls Tryz.func53 rfl Tryz.ntmps53 rfl ?_
 refine WC.seq ?_
 refine WC.region ?_
 refine WL.val (.assign (.of rfl)) rfl ?_
 refine WL.nil ?_
 refine WC.seq ?_
 refine WC.quiet (by kernel_rfl) (by kernel_rfl) hS ?_
 refine WQ.val (fun w hS => .ldI (.of rfl) hS hp Tryz.isAgg61 rfl) rfl ?_
 refine WQ.val (fun w hS => (.move (.of rfl))) rfl ?_
 refine WQ.val (fun w hS => (by first | exact .indexAddr (.of rfl) (.of rfl) (by omega) (by omega) Tryz.underlying61 Tryz.sizeOf34 | exact .indexAddrI (.of rfl) (.of rfl) (by omega) (by omega) Tryz.underlying61 Tryz.sizeOf34)) rfl ?_
 refine WQ.val (fun w hS => .ldEI F64 l 0 (i := x) (.of rfl) hS ha rfl Tryz.isAgg34 h0 h1) rfl ?_
 refine WQ.call Tryz.func55 rfl (evs_cons (.of rfl) evs_nil) rfl (fun w hS => quiet_of (Key_any _ (small_get h.small (x).toNat) w) hS) ?_
 refine WQ.val (fun w hS => .ldI (.of rfl) hS hp Tryz.isAgg61 rfl) rfl ?_
 refine WQ.val (fun w hS => (.move (.of rfl))) rfl ?_
 refine WQ.val (fun w hS => (by first | exact .indexAddr (.of rfl) (.of rfl) (by omega) (by omega) Tryz.underlying61 Tryz.sizeOf34 | exact .indexAddrI (.of rfl) (.of rfl) (by omega) (by omega) Tryz.underlying61 Tryz.sizeOf34)) rfl ?_
 refine WQ.val (fun w hS => .ldEI F64 l 0 (i := y) (.of rfl) hS ha rfl Tryz.isAgg34 g0 g1) rfl ?_
 refine WQ.call Tryz.func55 rfl (evs_cons (.of rfl) evs_nil) rfl (fun w hS => quiet_of (Key_any _ (small_get h.small (y).toNat) w) hS) ?_
 refine WQ.call Tryz.func54 rfl (evs_cons (.of rfl) (evs_cons (.of rfl) evs_nil)) rfl (fun w hS => quiet_of (Compare_any _ _ w) hS) ?_
 refine WQ.val (fun w hS => (.assign (.of rfl))) rfl ?_
 refine WQ.nil ?_
 clear hS; intro w hS
 refine WC.ret ?_
 refine ret1 Tryz.results53 rfl ?_
 refine ⟨_, rfl, ?_, hS⟩
 unfold Srt.cmpv kx
 simp only [Int.ofNat_lt]
theorem swapRange_any (U X M Y C : List Int) (hl : X.length = Y.length) (cv : Value) (b0 n c : Nat) (r : List Value) (hn : ((U.length + (X.length + (M.length + Y.length)) : Nat) : Int) ≤ n) (hb : (U.length + (X.length + (M.length + (Y.length + C.length)))) ≤ 1000000) (B w : World) (I : Im) (As : List Assn) (hS : Sat B w I (blk b0 ((U ++ (X ++ (M ++ (Y ++ C)))).map I64 ++ r) 3 :: As)) :
  Calls Tryz.prog 105 [.slice (some (ad b0 0)) n c, I64 (U.length : Nat), I64 (U.length + Y.length + M.length : Nat), I64 (Y.length : Nat), cv].toArray w (Ret fun v w' => v = .tuple #[] ∧ Sat B w' I (blk b0 ((U ++ (Y ++ (M ++ (X ++ C)))).map I64 ++ r) 3 :: As)) := by
 refine calls Tryz.func105 rfl Tryz.ntmps105 rfl ?_
 refine WC.seq ?_
 refine WC.region ?_
 refine WL.val (.assign (.of rfl)) rfl ?_
 refine WL.nil ?_
 refine WC.block ?_
 refine WC.loop (σ := Int × List Int × List Int × List Int × List Int) (fun ⟨i, X1, X2, Y1, Y2⟩ => [(0, .slice (some (ad b0 0)) n c), (1, I64 (U.length : Nat)), (2, I64 (U.length + Y.length + M.length : Nat)), (3, I64 (Y.length : Nat)), (10, I64 i)]) (fun ⟨i, X1, X2, Y1, Y2⟩ w => i = (X1.length : Int) ∧ X1.length = Y1.length ∧ X1 ++ X2 = X ∧ Y1 ++ Y2 = Y ∧ Sat B w I (blk b0 ((U ++ (Y1 ++ (X2 ++ (M ++ (X1 ++ (Y2 ++ C)))))).map I64 ++ r) 3 :: As)) (fun ⟨i, X1, X2, Y1, Y2⟩ => Y2.length) (0, [], X, [], Y) ⟨rfl, rfl, rfl, rfl, rfl, trivial⟩ ⟨rfl, rfl, rfl, rfl, hS⟩ ?_
 rintro ⟨i, X1, X2, Y1, Y2⟩ w ⟨hi, hxy, hX, hY, hS⟩
 change WC _ _ _ _ [(0, .slice (some (ad b0 0)) n c), (1, I64 (U.length : Nat)), (2, I64 (U.length + Y.length + M.length : Nat)), (3, I64 (Y.length : Nat)), (10, I64 i)] w
 have hXl : X1.length + X2.length = X.length := by rw [← hX, List.length_append]
 have hYl : Y1.length + Y2.length = Y.length := by rw [← hY, List.length_append]
 obtain ⟨D, hD⟩ : ∃ D, D = U ++ (Y1 ++ (X2 ++ (M ++ (X1 ++ (Y2 ++ C))))) := ⟨_, rfl⟩
 rw [← hD] at hS
 have hDl : D.length = U.length + (X.length + (M.length + (Y.length + C.length))) := by rw [hD]; simp only [List.length_append]; omega
 refine WC.seq ?_
 refine WC.seq ?_
 refine WC.region ?_
 refine WL.val (.move (.of rfl)) rfl ?_
 refine WL.val (.move (.of rfl)) rfl ?_
 refine WL.val (.lss (.of rfl) (.of rfl)) rfl ?_
 refine WL.nil ?_
 refine WC.cond rfl (fun hb13 => ?_) (fun hb13 => ?_)
 ·
  have hc13 := hb13; try simp only [Gk.cs0] at hc13
  refine WC.skip ?_
  refine WC.seq ?_
  refine WC.block ?_
  refine WC.drawn (fun w => ∃ R, Sat B w I (blk b0 ((D).map I64 ++ r) 3 :: R)) (fun j => !([21, 23].contains j)) (by kernel_rfl) ?_
  replace hS := hS.drew; generalize w.drew = w at hS ⊢
  have hH : ∃ R, Sat B w I (blk b0 ((D).map I64 ++ r) 3 :: R) := ⟨_, (hS.pick 0 rfl)⟩
  refine WD.takeP (i := 0) rfl (by kernel_rfl) (by kernel_rfl) (by kernel_rfl) (fun w => (.move (.of rfl))) rfl ?_
  refine WD.takeP (i := 1) rfl (by kernel_rfl) (by kernel_rfl) (by kernel_rfl) (fun w => (.move (.of rfl))) rfl ?_
  refine WD.takeP (i := 2) rfl (by kernel_rfl) (by kernel_rfl) (by kernel_rfl) (fun w => (.move (.of rfl))) rfl ?_
  refine WD.takeP (i := 3) rfl (by kernel_rfl) (by kernel_rfl) (by kernel_rfl) (fun w => (.add (.of rfl) (.of rfl) ⟨by omega, by omega⟩)) rfl ?_
  refine WD.takeP (i := 4) rfl (by kernel_rfl) (by kernel_rfl) (by kernel_rfl) (fun w => (.move (.of rfl))) rfl ?_
  refine WD.takeP (i := 5) rfl (by kernel_rfl) (by kernel_rfl) (by kernel_rfl) (fun w => (.move (.of rfl))) rfl ?_
  refine WD.takeP (i := 6) rfl (by kernel_rfl) (by kernel_rfl) (by kernel_rfl) (fun w => (.move (.of rfl))) rfl ?_
  refine WD.takeP (i := 7) rfl (by kernel_rfl) (by kernel_rfl) (by kernel_rfl) (fun w => (.add (.of rfl) (.of rfl) ⟨by omega, by omega⟩)) rfl ?_
  refine WD.takeP (i := 8) rfl (by kernel_rfl) (by kernel_rfl) (by kernel_rfl) (fun w => (.move (.of rfl))) rfl ?_
  refine WD.takeP (i := 9) rfl (by kernel_rfl) (by kernel_rfl) (by kernel_rfl) (fun w => (.move (.of rfl))) rfl ?_
  refine WD.takeP (i := 10) rfl (by kernel_rfl) (by kernel_rfl) (by kernel_rfl) (fun w => (.move (.of rfl))) rfl ?_
  refine WD.takeP (i := 11) rfl (by kernel_rfl) (by kernel_rfl) (by kernel_rfl) (fun w => (.add (.of rfl) (.of rfl) ⟨by omega, by omega⟩)) rfl ?_
  refine WD.takeP (i := 12) rfl (by kernel_rfl) (by kernel_rfl) (by kernel_rfl) (fun w => (by first | exact .indexAddr (.of rfl) (.of rfl) (by omega) (by omega) Tryz.underlying68 Tryz.sizeOf3 | exact .indexAddrI (.of rfl) (.of rfl) (by omega) (by omega) Tryz.underlying68 Tryz.sizeOf3)) rfl ?_
  refine WD.take (i := 13) rfl (by kernel_rfl) (by kernel_rfl) (by kernel_rfl) (by kernel_rfl) hH (fun w ⟨R, hS⟩ => .ldE I64 D 0 r (i := ((U.length + Y.length + M.length : Nat) : Int) + i) (.of rfl) hS (k := 0) rfl rfl Tryz.isAgg3 (by omega) (by omega)) rfl ?_
  refine WD.takeP (i := 14) rfl (by kernel_rfl) (by kernel_rfl) (by kernel_rfl) (fun w => (.move (.of rfl))) rfl ?_
  refine WD.takeP (i := 15) rfl (by kernel_rfl) (by kernel_rfl) (by kernel_rfl) (fun w => (.move (.of rfl))) rfl ?_
  refine WD.takeP (i := 16) rfl (by kernel_rfl) (by kernel_rfl) (by kernel_rfl) (fun w => (.move (.of rfl))) rfl ?_
  refine WD.takeP (i := 17) rfl (by kernel_rfl) (by kernel_rfl) (by kernel_rfl) (fun w => (.add (.of rfl) (.of rfl) ⟨by omega, by omega⟩)) rfl ?_
  refine WD.takeP (i := 18) rfl (by kernel_rfl) (by kernel_rfl) (by kernel_rfl) (fun w => (by first | exact .indexAddr (.of rfl) (.of rfl) (by omega) (by omega) Tryz.underlying68 Tryz.sizeOf3 | exact .indexAddrI (.of rfl) (.of rfl) (by omega) (by omega) Tryz.underlying68 Tryz.sizeOf3)) rfl ?_
  refine WD.take (i := 19) rfl (by kernel_rfl) (by kernel_rfl) (by kernel_rfl) (by kernel_rfl) hH (fun w ⟨R, hS⟩ => .ldE I64 D 0 r (i := ((U.length : Nat) : Int) + i) (.of rfl) hS (k := 0) rfl rfl Tryz.isAgg3 (by omega) (by omega)) rfl ?_
  refine WD.takeP (i := 20) rfl (by kernel_rfl) (by kernel_rfl) (by kernel_rfl) (fun w => (by first | exact .indexAddr (.of rfl) (.of rfl) (by omega) (by omega) Tryz.underlying68 Tryz.sizeOf3 | exact .indexAddrI (.of rfl) (.of rfl) (by omega) (by omega) Tryz.underlying68 Tryz.sizeOf3)) rfl ?_
  refine WD.branch [21] (by kernel_rfl) rfl (WO.cons rfl ?_ (WO.nil))
  refine WL.stE I64 _ r hS (k := 0) rfl (.of rfl) (.of rfl) rfl rfl Tryz.sizeOf3 (by omega) (by (try rw [List.length_set]); omega) ?_
  clear hS; intro w hS; dsimp only [List.set] at hS
  refine WL.nil ?_
  refine And.intro (by intro h; cases h) ?_
  refine WD.takeP (i := 22) rfl (by kernel_rfl) (by kernel_rfl) (by kernel_rfl) (fun w => (by first | exact .indexAddr (.of rfl) (.of rfl) (by omega) (by omega) Tryz.underlying68 Tryz.sizeOf3 | exact .indexAddrI (.of rfl) (.of rfl) (by omega) (by omega) Tryz.underlying68 Tryz.sizeOf3)) rfl ?_
  refine WD.branch [23] (by kernel_rfl) rfl (WO.cons rfl ?_ (WO.nil))
  refine WL.stE I64 _ r hS (k := 0) rfl (.of rfl) (.of rfl) rfl rfl Tryz.sizeOf3 (by omega) (by (try rw [List.length_set]); omega) ?_
  clear hS; intro w hS; dsimp only [List.set] at hS
  refine WL.nil ?_
  refine And.intro (by intro h; cases h) ?_
  refine WD.done (by kernel_rfl) ?_
  refine WC.region ?_
  refine WL.val (.move (.of rfl)) rfl ?_
  refine WL.val (.add (.of rfl) (.of rfl) ⟨by omega, by omega⟩) rfl ?_
  refine WL.val (.assign (.of rfl)) rfl ?_
  refine WL.nil ?_
  obtain ⟨p, X3, rfl⟩ : ∃ p X3, X2 = p :: X3 := by cases X2 with | nil => simp at hXl; omega | cons p X3 => exact ⟨p, X3, rfl⟩
  obtain ⟨q, Y3, rfl⟩ : ∃ q Y3, Y2 = q :: Y3 := by cases Y2 with | nil => simp at hYl; omega | cons q Y3 => exact ⟨q, Y3, rfl⟩
  have e := Srt.swp_eq (U ++ Y1) (X3 ++ (M ++ X1)) (Y3 ++ C) p q
  have e1 : D = (U ++ Y1) ++ p :: ((X3 ++ (M ++ X1)) ++ q :: (Y3 ++ C)) := by rw [hD]; simp only [List.append_assoc, List.cons_append]
  simp only [List.length_cons] at hXl hYl
  rw [← e1, show (U ++ Y1).length = (((U.length : Nat) : Int) + i).toNat by rw [List.length_append]; omega, show (((U.length : Nat) : Int) + i).toNat + 1 + (X3 ++ (M ++ X1)).length = (((U.length + Y.length + M.length : Nat) : Int) + i).toNat by simp only [List.length_append]; omega] at e
  unfold Srt.swp at e
  rw [e] at hS
  refine ⟨(i + 1, X1 ++ [p], X3, Y1 ++ [q], Y3), ⟨rfl, rfl, rfl, rfl, rfl, trivial⟩, ⟨by simp only [List.length_append, List.length_cons, List.length_nil]; omega, by simp only [List.length_append, List.length_cons, List.length_nil]; omega, by rw [← hX]; simp, by rw [← hY]; simp, ?_⟩, by simp⟩
  have e2 : (U ++ Y1) ++ q :: ((X3 ++ (M ++ X1)) ++ p :: (Y3 ++ C)) = U ++ ((Y1 ++ [q]) ++ (X3 ++ (M ++ ((X1 ++ [p]) ++ (Y3 ++ C))))) := by simp only [List.append_assoc, List.cons_append, List.nil_append]
  rw [← e2]; exact hS
 ·
  have hc13 := hb13; try simp only [Gk.cs0] at hc13
  refine WC.exit ?_
  refine end0 Tryz.results105 ?_
  have hY2 : Y2 = [] := List.eq_nil_of_length_eq_zero (by omega)
  have hX2 : X2 = [] := List.eq_nil_of_length_eq_zero (by omega)
  subst hY2; subst hX2
  rw [List.append_nil] at hX hY
  rw [hX, hY] at hD
  rw [hD] at hS
  exact ⟨_, rfl, rfl, hS⟩
theorem swapRange_at (U X M Y C : List Int) (hl : X.length = Y.length) (cv : Value) (b0 n c : Nat) (r : List Value) (ia ib ic : Int) (ha : ia = U.length) (hib : ib = U.length + Y.length + M.length) (hic : ic = Y.length) (hn : ((U.length + (X.length + (M.length + Y.length)) : Nat) : Int) ≤ n) (hb : (U.length + (X.length + (M.length + (Y.length + C.length)))) ≤ 1000000) (B w : World) (I : Im) (As : List Assn) (hS : Sat B w I (blk b0 ((U ++ (X ++ (M ++ (Y ++ C)))).map I64 ++ r) 3 :: As)) :
  Calls Tryz.prog 105 [.slice (some (ad b0 0)) n c, I64 ia, I64 ib, I64 ic, cv].toArray w (Ret fun v w' => v = .tuple #[] ∧ Sat B w' I (blk b0 ((U ++ (Y ++ (M ++ (X ++ C)))).map I64 ++ r) 3 :: As)) := by
 subst ha; subst hic
 obtain rfl : ib = ((U.length + Y.length + M.length : Nat) : Int) := by omega
 exact swapRange_any U X M Y C hl cv b0 n c r hn hb B w I As hS
end Go.Proofs.YtchgkcbloeoopaaGreatDoor
namespace Go.Proofs.YtchgkcbloeoopaaGreatDoor
open Gk Rk
set_option linter.unusedVariables false
set_option linter.unusedSimpArgs false
set_option maxHeartbeats 400000 in
theorem ins_any {l : List Nat} {p : Addr} {I : Im} (hx : Cx I l p) (F R C : List Int) (hR : R.Pairwise (· < ·)) (hin : ∀ x ∈ R, 0 ≤ x ∧ x < (l.length : Int)) (b0 n c : Nat) (r : List Value) (ib : Int) (hib : ib = F.length + R.length) (hn : ib ≤ n) (hbb : F.length + R.length + C.length ≤ 1000000) (B w : World) (As : List Assn) (hS : Sat B w I (blk b0 ((F ++ (R ++ C)).map I64 ++ r) 3 :: As)) :
  Calls Tryz.prog 81 [.slice (some (ad b0 0)) n c, I64 (F.length : Nat), I64 ib, CF p].toArray w (Ret fun v w' => v = .tuple #[] ∧ ∃ M, M.Perm R ∧ Srt.So (kx l) M ∧ Sat B w' I (blk b0 ((F ++ (M ++ C)).map I64 ++ r) 3 :: As)) := by
 refine calls Tryz.func81 rfl Tryz.ntmps81 rfl ?_
 refine WC.seq ?_
 refine WC.region ?_
 refine WL.val (.move (.of rfl)) rfl ?_
 refine WL.val (.add (.of rfl) (.of rfl) ⟨by omega, by omega⟩) rfl ?_
 refine WL.val (.assign (.of rfl)) rfl ?_
 refine WL.nil ?_
 refine WC.block ?_
 have hst : (F.length : Int) + 1 = max ((F.length : Int) + (R.take 1).length) (F.length + 1) ∧ (R.take 1 = [] → R.drop 1 = []) ∧ Srt.So (kx l) (R.take 1) ∧ Srt.cross (R.take 1) (R.drop 1) ∧ (R.drop 1).Pairwise (· < ·) ∧ (R.take 1 ++ R.drop 1).Perm R ∧ Sat B w I (blk b0 ((F ++ (R.take 1 ++ (R.drop 1 ++ C))).map I64 ++ r) 3 :: As) := by
  refine ⟨?_, ?_, ?_, ?_, ?_, by rw [List.take_append_drop], ?_⟩
  ·cases R <;> simp <;> omega
  ·intro h; cases R with
   | nil => rfl
   | cons a R => simp at h
  ·cases R with
   | nil => exact .nil
   | cons a R => simp
  ·cases R with
   | nil => intro _ h; simp at h
   | cons a R => intro u hu t ht; simp at hu ht; subst hu; exact (List.pairwise_cons.1 hR).1 t ht
  ·exact hR.sublist (List.drop_sublist 1 R)
  ·have e : F ++ (R.take 1 ++ (R.drop 1 ++ C)) = F ++ (R ++ C) := by rw [← List.append_assoc (R.take 1), List.take_append_drop]
   rw [e]; exact hS
 refine WC.loop (σ := Int × List Int × List Int) (fun ⟨i, M, T⟩ => [(0, .slice (some (ad b0 0)) n c), (1, I64 (F.length : Nat)), (2, I64 ib), (3, CF p), (8, I64 i)]) (fun ⟨i, M, T⟩ w => i = max ((F.length : Int) + M.length) (F.length + 1) ∧ (M = [] → T = []) ∧ Srt.So (kx l) M ∧ Srt.cross M T ∧ T.Pairwise (· < ·) ∧ (M ++ T).Perm R ∧ Sat B w I (blk b0 ((F ++ (M ++ (T ++ C))).map I64 ++ r) 3 :: As)) (fun ⟨i, M, T⟩ => T.length) ((F.length : Int) + 1, R.take 1, R.drop 1) ⟨rfl, rfl, rfl, rfl, rfl, trivial⟩ hst ?_
 rintro ⟨i, M, T⟩ w ⟨hi, hMT, hM, hc, hT, hP, hS⟩
 change WC _ _ _ _ [(0, .slice (some (ad b0 0)) n c), (1, I64 (F.length : Nat)), (2, I64 ib), (3, CF p), (8, I64 i)] w
 have hPl := hP.length_eq
 rw [List.length_append] at hPl
 refine WC.seq ?_
 refine WC.seq ?_
 refine WC.region ?_
 refine WL.val (.move (.of rfl)) rfl ?_
 refine WL.val (.move (.of rfl)) rfl ?_
 refine WL.val (.lss (.of rfl) (.of rfl)) rfl ?_
 refine WL.nil ?_
 refine WC.cond rfl (fun hb14 => ?_) (fun hb14 => ?_)
 ·
  have hc14 := hb14; try simp only [Gk.cs0] at hc14
  refine WC.skip ?_
  refine WC.seq ?_
  refine WC.block ?_
  refine WC.seq ?_
  have hMn : 0 < M.length := by
   rcases Nat.eq_zero_or_pos M.length with h | h
   ·have h2 := hMT (List.eq_nil_of_length_eq_zero h); rw [h2] at hPl; simp at hPl; omega
   ·exact h
  obtain ⟨x, T, rfl⟩ := Srt.cons_of (U := T) (by omega)
  simp only [List.length_cons] at hPl
  refine WC.region ?_
  refine WL.val (.move (.of rfl)) rfl ?_
  refine WL.val (.assign (.of rfl)) rfl ?_
  refine WL.nil ?_
  refine WC.block ?_
  refine WC.loop (σ := Int × List Int × List Int) (fun ⟨j, U1, U2⟩ => [(0, .slice (some (ad b0 0)) n c), (1, I64 (F.length : Nat)), (2, I64 ib), (3, CF p), (8, I64 i), (9, I64 j)]) (fun ⟨j, U1, U2⟩ w => j = (F.length : Int) + U1.length ∧ Srt.So (kx l) (U1 ++ U2) ∧ (∀ u ∈ U2, Srt.bef (kx l) x u) ∧ (U1 ++ U2).Perm M ∧ Sat B w I (blk b0 ((F ++ (U1 ++ x :: (U2 ++ (T ++ C)))).map I64 ++ r) 3 :: As)) (fun ⟨j, U1, U2⟩ => U1.length) (i, M, []) ⟨rfl, rfl, rfl, rfl, rfl, rfl, trivial⟩ ⟨by (try dsimp only); omega, by rw [List.append_nil]; exact hM, (fun _ h => by cases h), by rw [List.append_nil], hS⟩ ?_
  rintro ⟨j, U1, U2⟩ w ⟨hj, hs, hb2, hp2, hS⟩
  change WC _ _ _ _ [(0, .slice (some (ad b0 0)) n c), (1, I64 (F.length : Nat)), (2, I64 ib), (3, CF p), (8, I64 i), (9, I64 j)] w
  obtain ⟨D, hD⟩ : ∃ D, D = F ++ (U1 ++ x :: (U2 ++ (T ++ C))) := ⟨_, rfl⟩
  rw [← hD] at hS
  have hp3 := hp2.length_eq
  rw [List.length_append] at hp3
  have hDl : D.length = F.length + (U1.length + 1 + U2.length + (T.length + C.length)) := by rw [hD]; simp only [List.length_append, List.length_cons]; omega
  have hinR : ∀ v ∈ U1 ++ x :: U2, 0 ≤ v ∧ v < (l.length : Int) := fun v hv => by
   refine hin v (hP.mem_iff.1 ?_)
   rcases List.mem_append.1 hv with h | h
   ·exact List.mem_append_left _ (hp2.mem_iff.1 (List.mem_append_left _ h))
   ·rcases List.mem_cons.1 h with rfl | h
    ·exact List.mem_append_right _ List.mem_cons_self
    ·exact List.mem_append_left _ (hp2.mem_iff.1 (List.mem_append_right _ h))
  have hin2 : ∀ q : Nat, F.length ≤ q → q < F.length + (U1.length + 1 + U2.length) → 0 ≤ D.getD q 0 ∧ D.getD q 0 < (l.length : Int) := fun q h1 h2 => by
   refine hinR _ ?_
   have e : D = F ++ ((U1 ++ x :: U2) ++ (T ++ C)) := by rw [hD]; simp only [List.append_assoc, List.cons_append]
   rw [e]
   exact Srt.get_mid h1 (by simp only [List.length_append, List.length_cons]; omega)
  have hx1 : D.getD j.toNat 0 = x := by
   have := Srt.at_app (F ++ U1) (U2 ++ (T ++ C)) x
   rw [show (F ++ U1).length = j.toNat by rw [List.length_append]; omega] at this
   rw [hD, ← List.append_assoc]
   exact this
  have hlt : ∀ u ∈ U1 ++ U2, u < x := fun u hu => hc u (hp2.mem_iff.1 hu) x List.mem_cons_self
  refine WC.seq ?_
  refine WC.seq ?_
  refine WC.quiet (by kernel_rfl) (by kernel_rfl) hS ?_
  refine WQ.val (fun w hS => (.move (.of rfl))) rfl ?_
  refine WQ.val (fun w hS => (.move (.of rfl))) rfl ?_
  refine WQ.val (fun w hS => (.gtr (.of rfl) (.of rfl))) rfl ?_
  refine WQ.val (fun w hS => (.move (.of rfl))) rfl ?_
  refine WQ.gval rfl rfl rfl (fun hg1 w hS => (.move (.of rfl))) rfl ?_
  refine WQ.gval rfl rfl rfl (fun hg1 w hS => (.move (.of rfl))) rfl ?_
  refine WQ.gval rfl rfl rfl (fun hg1 w hS => (.move (.of rfl))) rfl ?_
  refine WQ.gval rfl rfl rfl (fun hg1 w hS => (by first | exact .indexAddr (.gd hg1 rfl) (.gd hg1 rfl) (by (try simp only [Gk.cs0] at hg1); omega) (by (try simp only [Gk.cs0] at hg1); omega) Tryz.underlying68 Tryz.sizeOf3 | exact .indexAddrI (.gd hg1 rfl) (.gd hg1 rfl) (by (try simp only [Gk.cs0] at hg1); omega) (by (try simp only [Gk.cs0] at hg1); omega) Tryz.underlying68 Tryz.sizeOf3)) rfl ?_
  refine WQ.gval rfl rfl rfl (fun hg1 w hS => .ldE I64 D 0 r (i := j) (.gd hg1 rfl) hS (k := 0) rfl rfl Tryz.isAgg3 (by (try simp only [Gk.cs0] at hg1); omega) (by (try simp only [Gk.cs0] at hg1); omega)) rfl ?_
  refine WQ.gval rfl rfl rfl (fun hg1 w hS => (.move (.of rfl))) rfl ?_
  refine WQ.gval rfl rfl rfl (fun hg1 w hS => (.move (.of rfl))) rfl ?_
  refine WQ.gval rfl rfl rfl (fun hg1 w hS => (.sub (.gd hg1 rfl) (.of rfl) ⟨by omega, by omega⟩)) rfl ?_
  refine WQ.gval rfl rfl rfl (fun hg1 w hS => (by first | exact .indexAddr (.gd hg1 rfl) (.gd hg1 rfl) (by (try simp only [Gk.cs0] at hg1); omega) (by (try simp only [Gk.cs0] at hg1); omega) Tryz.underlying68 Tryz.sizeOf3 | exact .indexAddrI (.gd hg1 rfl) (.gd hg1 rfl) (by (try simp only [Gk.cs0] at hg1); omega) (by (try simp only [Gk.cs0] at hg1); omega) Tryz.underlying68 Tryz.sizeOf3)) rfl ?_
  refine WQ.gval rfl rfl rfl (fun hg1 w hS => .ldE I64 D 0 r (i := j - 1) (.gd hg1 rfl) hS (k := 0) rfl rfl Tryz.isAgg3 (by (try simp only [Gk.cs0] at hg1); omega) (by (try simp only [Gk.cs0] at hg1); omega)) rfl ?_
  refine WQ.gvcall rfl rfl rfl Tryz.func53 rfl (fun hg1 => .gd hg1 rfl) (fun hg1 => evs_cons (.gd hg1 rfl) (evs_cons (.gd hg1 rfl) evs_nil)) rfl (fun hg1 w hS => by have hj1 := hin2 j.toNat (by (try simp only [Gk.cs0] at hg1); omega) (by (try simp only [Gk.cs0] at hg1); omega); have hj2 := hin2 (j - 1).toNat (by (try simp only [Gk.cs0] at hg1); omega) (by (try simp only [Gk.cs0] at hg1); omega); exact cmp_any hx _ _ hj1.1 hj1.2 hj2.1 hj2.2 B w _ hS) ?_
  refine WQ.gval rfl rfl rfl (fun hg1 w hS => (.lss (.gd hg1 rfl) (.of rfl))) rfl ?_
  refine WQ.val (fun w hS => (.pand (.of rfl) (.of rfl) (.of rfl))) rfl ?_
  refine WQ.nil ?_
  clear hS; intro w hS
  refine WC.cond rfl (fun hb34 => ?_) (fun hb34 => ?_)
  ·
   have hc34 := hb34; try simp only [Gk.cs0] at hc34
   refine WC.skip ?_
   refine WC.seq ?_
   refine WC.block ?_
   refine WC.drawn (fun w => ∃ R, Sat B w I (blk b0 ((D).map I64 ++ r) 3 :: R)) (fun j => !([15, 17].contains j)) (by kernel_rfl) ?_
   replace hS := hS.drew; generalize w.drew = w at hS ⊢
   have hH : ∃ R, Sat B w I (blk b0 ((D).map I64 ++ r) 3 :: R) := ⟨_, (hS.pick 0 rfl)⟩
   refine WD.takeP (i := 0) rfl (by kernel_rfl) (by kernel_rfl) (by kernel_rfl) (fun w => (.move (.of rfl))) rfl ?_
   refine WD.takeP (i := 1) rfl (by kernel_rfl) (by kernel_rfl) (by kernel_rfl) (fun w => (.move (.of rfl))) rfl ?_
   refine WD.takeP (i := 2) rfl (by kernel_rfl) (by kernel_rfl) (by kernel_rfl) (fun w => (.move (.of rfl))) rfl ?_
   refine WD.takeP (i := 3) rfl (by kernel_rfl) (by kernel_rfl) (by kernel_rfl) (fun w => (.move (.of rfl))) rfl ?_
   refine WD.takeP (i := 4) rfl (by kernel_rfl) (by kernel_rfl) (by kernel_rfl) (fun w => (.sub (.of rfl) (.of rfl) ⟨by omega, by omega⟩)) rfl ?_
   refine WD.takeP (i := 5) rfl (by kernel_rfl) (by kernel_rfl) (by kernel_rfl) (fun w => (.move (.of rfl))) rfl ?_
   refine WD.takeP (i := 6) rfl (by kernel_rfl) (by kernel_rfl) (by kernel_rfl) (fun w => (.move (.of rfl))) rfl ?_
   refine WD.takeP (i := 7) rfl (by kernel_rfl) (by kernel_rfl) (by kernel_rfl) (fun w => (.sub (.of rfl) (.of rfl) ⟨by omega, by omega⟩)) rfl ?_
   refine WD.takeP (i := 8) rfl (by kernel_rfl) (by kernel_rfl) (by kernel_rfl) (fun w => (by first | exact .indexAddr (.of rfl) (.of rfl) (by omega) (by omega) Tryz.underlying68 Tryz.sizeOf3 | exact .indexAddrI (.of rfl) (.of rfl) (by omega) (by omega) Tryz.underlying68 Tryz.sizeOf3)) rfl ?_
   refine WD.take (i := 9) rfl (by kernel_rfl) (by kernel_rfl) (by kernel_rfl) (by kernel_rfl) hH (fun w ⟨R, hS⟩ => .ldE I64 D 0 r (i := j - 1) (.of rfl) hS (k := 0) rfl rfl Tryz.isAgg3 (by omega) (by omega)) rfl ?_
   refine WD.takeP (i := 10) rfl (by kernel_rfl) (by kernel_rfl) (by kernel_rfl) (fun w => (.move (.of rfl))) rfl ?_
   refine WD.takeP (i := 11) rfl (by kernel_rfl) (by kernel_rfl) (by kernel_rfl) (fun w => (.move (.of rfl))) rfl ?_
   refine WD.takeP (i := 12) rfl (by kernel_rfl) (by kernel_rfl) (by kernel_rfl) (fun w => (by first | exact .indexAddr (.of rfl) (.of rfl) (by omega) (by omega) Tryz.underlying68 Tryz.sizeOf3 | exact .indexAddrI (.of rfl) (.of rfl) (by omega) (by omega) Tryz.underlying68 Tryz.sizeOf3)) rfl ?_
   refine WD.take (i := 13) rfl (by kernel_rfl) (by kernel_rfl) (by kernel_rfl) (by kernel_rfl) hH (fun w ⟨R, hS⟩ => .ldE I64 D 0 r (i := j) (.of rfl) hS (k := 0) rfl rfl Tryz.isAgg3 (by omega) (by omega)) rfl ?_
   refine WD.takeP (i := 14) rfl (by kernel_rfl) (by kernel_rfl) (by kernel_rfl) (fun w => (by first | exact .indexAddr (.of rfl) (.of rfl) (by omega) (by omega) Tryz.underlying68 Tryz.sizeOf3 | exact .indexAddrI (.of rfl) (.of rfl) (by omega) (by omega) Tryz.underlying68 Tryz.sizeOf3)) rfl ?_
   refine WD.branch [15] (by kernel_rfl) rfl (WO.cons rfl ?_ (WO.nil))
   refine WL.stE I64 _ r hS (k := 0) rfl (.of rfl) (.of rfl) rfl rfl Tryz.sizeOf3 (by omega) (by (try rw [List.length_set]); omega) ?_
   clear hS; intro w hS; dsimp only [List.set] at hS
   refine WL.nil ?_
   refine And.intro (by intro h; cases h) ?_
   refine WD.takeP (i := 16) rfl (by kernel_rfl) (by kernel_rfl) (by kernel_rfl) (fun w => (by first | exact .indexAddr (.of rfl) (.of rfl) (by omega) (by omega) Tryz.underlying68 Tryz.sizeOf3 | exact .indexAddrI (.of rfl) (.of rfl) (by omega) (by omega) Tryz.underlying68 Tryz.sizeOf3)) rfl ?_
   refine WD.branch [17] (by kernel_rfl) rfl (WO.cons rfl ?_ (WO.nil))
   refine WL.stE I64 _ r hS (k := 0) rfl (.of rfl) (.of rfl) rfl rfl Tryz.sizeOf3 (by omega) (by (try rw [List.length_set]); omega) ?_
   clear hS; intro w hS; dsimp only [List.set] at hS
   refine WL.nil ?_
   refine And.intro (by intro h; cases h) ?_
   refine WD.done (by kernel_rfl) ?_
   refine WC.region ?_
   refine WL.val (.move (.of rfl)) rfl ?_
   refine WL.val (.sub (.of rfl) (.of rfl) ⟨by omega, by omega⟩) rfl ?_
   refine WL.val (.assign (.of rfl)) rfl ?_
   refine WL.nil ?_
   obtain ⟨U3, q, rfl⟩ := Srt.concat_of (U := U1) (by omega)
   have e1 : D = (F ++ U3) ++ q :: x :: (U2 ++ (T ++ C)) := by rw [hD]; simp only [List.append_assoc, List.cons_append, List.nil_append]
   have hq : D.getD (j - 1).toNat 0 = q := by
    have := Srt.at_app (F ++ U3) (x :: (U2 ++ (T ++ C))) q
    rw [show (F ++ U3).length = (j - 1).toNat by rw [List.length_append]; simp only [List.length_append, List.length_cons, List.length_nil] at hj; omega] at this
    rw [e1]; exact this
   have hbq : Srt.bef (kx l) x q := by
    have h := Srt.cmpv_neg.1 hc34.2
    rw [hx1, hq] at h
    exact (Srt.bef_later (hlt q (by simp))).2 h
   have e := Srt.swp_adj (F ++ U3) (U2 ++ (T ++ C)) q x
   rw [← e1, show (F ++ U3).length = (j - 1).toNat by rw [List.length_append]; simp only [List.length_append, List.length_cons, List.length_nil] at hj; omega, show (j - 1).toNat + 1 = j.toNat by omega, Srt.swp_comm (by omega)] at e
   unfold Srt.swp at e
   rw [e] at hS
   refine ⟨(j - 1, U3, q :: U2), ⟨rfl, rfl, rfl, rfl, rfl, rfl, trivial⟩, ⟨by simp only [List.length_append, List.length_cons, List.length_nil] at hj; (try dsimp only); omega, by simpa using hs, ?_, by simpa using hp2, ?_⟩, by simp⟩
   ·intro u hu
    rcases List.mem_cons.1 hu with rfl | hu
    ·exact hbq
    ·exact hb2 u hu
   ·rw [List.append_assoc] at hS; exact hS
  ·
   have hc34 := hb34; try simp only [Gk.cs0] at hc34
   refine WC.exit ?_
   refine WC.region ?_
   refine WL.val (.move (.of rfl)) rfl ?_
   refine WL.val (.add (.of rfl) (.of rfl) ⟨by omega, by omega⟩) rfl ?_
   refine WL.val (.assign (.of rfl)) rfl ?_
   refine WL.nil ?_
   have hLQ : ∀ u ∈ U1, Srt.bef (kx l) u x := by
    intro u hu
    obtain ⟨U3, q, rfl⟩ := Srt.concat_of (U := U1) (List.length_pos_of_mem hu)
    have e1 : D = (F ++ U3) ++ q :: x :: (U2 ++ (T ++ C)) := by rw [hD]; simp only [List.append_assoc, List.cons_append, List.nil_append]
    have hq : D.getD (j - 1).toNat 0 = q := by
     have := Srt.at_app (F ++ U3) (x :: (U2 ++ (T ++ C))) q
     rw [show (F ++ U3).length = (j - 1).toNat by rw [List.length_append]; simp only [List.length_append, List.length_cons, List.length_nil] at hj; omega] at this
     rw [e1]; exact this
    simp only [List.length_append, List.length_cons, List.length_nil] at hj
    have h34 : ¬ (Srt.cmpv (kx l) (D.getD j.toNat 0) (D.getD (j - 1).toNat 0) < 0) := by
     rcases hc34 with h | h
     ·omega
     ·omega
    rw [Srt.cmpv_neg, hx1, hq] at h34
    exact Srt.so_last (List.pairwise_append.1 hs).1 (Srt.not_bef_later (hlt q (by simp)) h34) u hu
   have hU : Srt.So (kx l) (U1 ++ x :: U2) := Srt.so_insert hs (hLQ) hb2
   refine ⟨(i + 1, U1 ++ x :: U2, T), ⟨rfl, rfl, rfl, rfl, rfl, trivial⟩, ⟨by simp only [List.length_append, List.length_cons]; have := hp2.length_eq; rw [List.length_append] at this; omega, fun h => by simp at h, hU, ?_, (List.pairwise_cons.1 hT).2, ?_, ?_⟩, by simp⟩
   ·intro u hu t ht
    have h1 : u ∈ U1 ++ U2 ∨ u = x := by
     rcases List.mem_append.1 hu with h | h
     ·exact .inl (List.mem_append_left _ h)
     ·rcases List.mem_cons.1 h with h | h
      ·exact .inr h
      ·exact .inl (List.mem_append_right _ h)
    rcases h1 with h1 | rfl
    ·exact hc u (hp2.mem_iff.1 h1) t (List.mem_cons_of_mem _ ht)
    ·exact (List.pairwise_cons.1 hT).1 t ht
   ·refine List.Perm.trans ?_ hP
    refine List.Perm.trans (List.Perm.append_right T List.perm_middle) ?_
    rw [List.cons_append]
    refine List.Perm.trans (List.Perm.cons x (hp2.append_right T)) ?_
    exact List.perm_middle.symm
   ·rw [hD] at hS
    have e : F ++ (U1 ++ x :: (U2 ++ (T ++ C))) = F ++ ((U1 ++ x :: U2) ++ (T ++ C)) := by simp only [List.append_assoc, List.cons_append]
    rw [e] at hS; exact hS
 ·
  have hc14 := hb14; try simp only [Gk.cs0] at hc14
  refine WC.exit ?_
  refine end0 Tryz.results81 ?_
  have hT0 : T = [] := by
   refine List.eq_nil_of_length_eq_zero ?_
   rcases Nat.eq_zero_or_pos M.length with h | h
   ·have := hMT (List.eq_nil_of_length_eq_zero h); rw [this]; rfl
   ·omega
  subst hT0
  rw [List.append_nil] at hP
  exact ⟨_, rfl, rfl, M, hP, hM, by simpa using hS⟩
theorem ins_at {l : List Nat} {p : Addr} {I : Im} (hx : Cx I l p) (F R C : List Int) (hR : R.Pairwise (· < ·)) (hin : ∀ x ∈ R, 0 ≤ x ∧ x < (l.length : Int)) (b0 n c : Nat) (r : List Value) (ia ib : Int) (hia : ia = F.length) (hib : ib = F.length + R.length) (hn : ib ≤ n) (hbb : F.length + R.length + C.length ≤ 1000000) (B w : World) (As : List Assn) (hS : Sat B w I (blk b0 ((F ++ (R ++ C)).map I64 ++ r) 3 :: As)) :
  Calls Tryz.prog 81 [.slice (some (ad b0 0)) n c, I64 ia, I64 ib, CF p].toArray w (Ret fun v w' => v = .tuple #[] ∧ ∃ M, M.Perm R ∧ Srt.So (kx l) M ∧ Sat B w' I (blk b0 ((F ++ (M ++ C)).map I64 ++ r) 3 :: As)) := by
 subst hia
 exact ins_any hx F R C hR hin b0 n c r ib hib hn hbb B w As hS
end Go.Proofs.YtchgkcbloeoopaaGreatDoor
