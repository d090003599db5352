/- Chapter 16: what the functions on single numbers compute. -/
import Derived.Test.YtfmdhpgfbojjaaaRk
import Derived.Test.YtfmdhpgfbojjaaaGkH
import Derived.Test.YtfmdhpgfbojjaaaChecked
namespace Go.Proofs.Ytfmdhpgfbojjaaa
open Gk Rk Flt
set_option linter.unusedVariables false
set_option linter.unusedSimpArgs false

theorem number_any (i : Int) (w : World) :
    Calls Try.prog 11 [U64 i].toArray w (Ret fun v w' => v = F64 i.toNat ∧ w = w') := by
  refine calls Try.func11 rfl Try.ntmps11 rfl ?_
  refine WC.seq ?_
  refine WC.region ?_
  refine WL.val (.assign (.of rfl)) rfl ?_
  refine WL.nil ?_
  refine WC.seq ?_
  refine WC.region ?_
  refine WL.val (.move (.of rfl)) rfl ?_
  refine WL.val (.extern Try.func23 (by kernel_rfl) (by kernel_rfl) (by kernel_rfl) (e := Extern.MathFloatBits.float64frombits) (by kernel_rfl) (evs_cons (.of rfl) evs_nil) rfl) rfl ?_
  refine WL.val (.assign (.of rfl)) rfl ?_
  refine WL.nil ?_
  refine WC.ret ?_
  refine ret1 Try.results11 rfl ?_
  exact ⟨_, rfl, rfl, rfl⟩
theorem IsNaN_any (a : Nat) (w : World) :
    Calls Try.prog 27 [F64 a].toArray w (Ret fun v w' => v = .bool (Flt.nan a) ∧ w = w') := by
  refine calls Try.func27 rfl Try.ntmps27 rfl ?_
  refine WC.seq ?_
  refine WC.region ?_
  refine WL.val (.assign (.of rfl)) rfl ?_
  refine WL.nil ?_
  refine WC.seq ?_
  refine WC.region ?_
  refine WL.val (.move (.of rfl)) rfl ?_
  refine WL.val (.move (.of rfl)) rfl ?_
  refine WL.val (.fneq (.of rfl) (.of rfl)) rfl ?_
  refine WL.val (.assign (.of rfl)) rfl ?_
  refine WL.nil ?_
  refine WC.ret ?_
  refine ret1 Try.results27 rfl ?_
  exact ⟨_, rfl, by rw [feq_self], rfl⟩
theorem NaN_any (a : Nat) (w : World) :
    Calls Try.prog 15 [F64 a].toArray w (Ret fun v w' => v = .bool (Flt.nan a) ∧ w = w') := by
  refine calls Try.func15 rfl Try.ntmps15 rfl ?_
  refine WC.seq ?_
  refine WC.region ?_
  refine WL.val (.assign (.of rfl)) rfl ?_
  refine WL.nil ?_
  refine WC.seq ?_
  refine WC.region ?_
  refine WL.val (.move (.of rfl)) rfl ?_
  refine WL.val (.move (.of rfl)) rfl ?_
  refine WL.val (.fneq (.of rfl) (.of rfl)) rfl ?_
  refine WL.val (.assign (.of rfl)) rfl ?_
  refine WL.nil ?_
  refine WC.ret ?_
  refine ret1 Try.results15 rfl ?_
  exact ⟨_, rfl, by rw [feq_self], rfl⟩
theorem Same_any (a b : Nat) (w : World) :
    Calls Try.prog 16 [F64 a, F64 b].toArray w (Ret fun v w' => v = .bool ((a : Int) == (b : Int)) ∧ w = w') := by
  refine calls Try.func16 rfl Try.ntmps16 rfl ?_
  refine WC.seq ?_
  refine WC.region ?_
  refine WL.val (.assign (.of rfl)) rfl ?_
  refine WL.nil ?_
  refine WC.seq ?_
  refine WC.region ?_
  refine WL.val (.move (.of rfl)) rfl ?_
  refine WL.val (.extern Try.func28 (by kernel_rfl) (by kernel_rfl) (by kernel_rfl) (e := Extern.MathFloatBits.float64bits) (by kernel_rfl) (evs_cons (.of rfl) evs_nil) rfl) rfl ?_
  refine WL.val (.move (.of rfl)) rfl ?_
  refine WL.val (.extern Try.func28 (by kernel_rfl) (by kernel_rfl) (by kernel_rfl) (e := Extern.MathFloatBits.float64bits) (by kernel_rfl) (evs_cons (.of rfl) evs_nil) rfl) rfl ?_
  refine WL.val (.eql (.of rfl) (.of rfl)) rfl ?_
  refine WL.val (.assign (.of rfl)) rfl ?_
  refine WL.nil ?_
  refine WC.ret ?_
  refine ret1 Try.results16 rfl ?_
  exact ⟨_, rfl, rfl, rfl⟩
theorem Key_any (b : Nat) (hb : b < 18446744073709551616) (w : World) :
    Calls Try.prog 18 [F64 b].toArray w (Ret fun v w' => v = U64 (keyN b : Nat) ∧ w = w') := by
  refine calls Try.func18 rfl Try.ntmps18 rfl ?_
  refine WC.seq ?_
  refine WC.region ?_
  refine WL.val (.assign (.of rfl)) rfl ?_
  refine WL.nil ?_
  refine WC.seq ?_
  refine WC.region ?_
  refine WL.val (.move (.of rfl)) rfl ?_
  refine WL.val (.extern Try.func28 (by kernel_rfl) (by kernel_rfl) (by kernel_rfl) (e := Extern.MathFloatBits.float64bits) (by kernel_rfl) (evs_cons (.of rfl) evs_nil) rfl) rfl ?_
  refine WL.val (.assign (.of rfl)) rfl ?_
  refine WL.nil ?_
  refine WC.seq ?_
  refine WC.seq ?_
  refine WC.region ?_
  refine WL.val (.move (.of rfl)) rfl ?_
  refine WL.val (.andHi hb (.of rfl) (.of rfl)) rfl ?_
  refine WL.val (.neq (.of rfl) (.of rfl)) rfl ?_
  refine WL.nil ?_
  refine WC.cond rfl (fun hb8 => ?_) (fun hb8 => ?_)
  ·
    have hc8 := hb8; try simp only [decide_eq_true_eq, decide_eq_false_iff_not, beq_iff_eq, beq_eq_false_iff_ne, bne_iff_ne, Bool.not_eq_true', Bool.not_eq_false', Bool.or_eq_true, Bool.and_eq_true, Bool.or_eq_false_iff, Bool.and_eq_false_iff, ne_eq, Int.not_lt, Int.not_le, bne_eq_false_iff_eq, Bool.not_eq_true, Bool.not_eq_false] at hc8
    refine WC.seq ?_
    refine WC.region ?_
    refine WL.val (.move (.of rfl)) rfl ?_
    refine WL.val (.not64 (by omega) (.of rfl)) rfl ?_
    refine WL.val (.assign (.of rfl)) rfl ?_
    refine WL.nil ?_
    refine WC.ret ?_
    refine ret1 Try.results18 rfl ?_
    have e : 9223372036854775808 ≤ b := by
      rw [and_hi hb] at hc8
      split at hc8
      · assumption
      · simp at hc8
    exact ⟨_, rfl, by rw [keyN, if_pos e], rfl⟩
  ·
    have hc8 := hb8; try simp only [decide_eq_true_eq, decide_eq_false_iff_not, beq_iff_eq, beq_eq_false_iff_ne, bne_iff_ne, Bool.not_eq_true', Bool.not_eq_false', Bool.or_eq_true, Bool.and_eq_true, Bool.or_eq_false_iff, Bool.and_eq_false_iff, ne_eq, Int.not_lt, Int.not_le, bne_eq_false_iff_eq, Bool.not_eq_true, Bool.not_eq_false] at hc8
    refine WC.skip ?_
    refine WC.seq ?_
    refine WC.region ?_
    refine WL.val (.move (.of rfl)) rfl ?_
    refine WL.val (.orHi hb (.of rfl) (.of rfl)) rfl ?_
    refine WL.val (.assign (.of rfl)) rfl ?_
    refine WL.nil ?_
    refine WC.ret ?_
    refine ret1 Try.results18 rfl ?_
    have e : ¬ 9223372036854775808 ≤ b := by
      rw [and_hi hb] at hc8
      split at hc8
      · simp at hc8
      · assumption
    exact ⟨_, rfl, by rw [keyN, if_neg e, or_hi (by omega)], rfl⟩
theorem Less_any (a b : Nat) (ha : a < 18446744073709551616) (hb : b < 18446744073709551616) (w : World) :
    Calls Try.prog 20 [F64 a, F64 b].toArray w (Ret fun v w' => v = .bool (decide ((keyN a : Int) < (keyN b : Int))) ∧ w = w') := by
  refine calls Try.func20 rfl Try.ntmps20 rfl ?_
  refine WC.seq ?_
  refine WC.region ?_
  refine WL.val (.assign (.of rfl)) rfl ?_
  refine WL.nil ?_
  refine WC.seq ?_
  refine WC.region ?_
  refine WL.val (.move (.of rfl)) rfl ?_
  refine WL.call Try.func18 rfl (evs_cons (.of rfl) evs_nil) rfl (Key_any _ (by assumption) _) ?_
  rintro _ _ ⟨rfl, rfl⟩
  refine WL.val (.move (.of rfl)) rfl ?_
  refine WL.call Try.func18 rfl (evs_cons (.of rfl) evs_nil) rfl (Key_any _ (by assumption) _) ?_
  rintro _ _ ⟨rfl, rfl⟩
  refine WL.val (.lss (.of rfl) (.of rfl)) rfl ?_
  refine WL.val (.assign (.of rfl)) rfl ?_
  refine WL.nil ?_
  refine WC.ret ?_
  refine ret1 Try.results20 rfl ?_
  exact ⟨_, rfl, rfl, rfl⟩
theorem refBits_any (b : Nat) (hb : b < 18446744073709551616) (B w : World) (I : Im) (As : List Assn) (hS : Sat B w I As) :
    Calls Try.prog 30 [F64 b].toArray w (Ret fun v w' => ∃ q, v = .slice (some (ad q 0)) 64 64 ∧ Sat B w' I (blk q ((sl 64 b).map I64 ++ []) 3 :: As)) := by
  refine calls Try.func30 rfl Try.ntmps30 rfl ?_
  refine WC.seq ?_
  refine WC.region ?_
  refine WL.val (.assign (.of rfl)) rfl ?_
  refine WL.nil ?_
  refine WC.seq ?_
  refine WC.region ?_
  refine WL.val (.move (.of rfl)) rfl ?_
  refine WL.val (.extern Try.func28 (by kernel_rfl) (by kernel_rfl) (by kernel_rfl) (e := Extern.MathFloatBits.float64bits) (by kernel_rfl) (evs_cons (.of rfl) evs_nil) rfl) rfl ?_
  refine WL.val (.assign (.of rfl)) rfl ?_
  refine WL.nil ?_
  refine WC.seq ?_
  refine WC.region ?_
  refine WL.make (l := 64) hS (.of rfl) (.of rfl) Try.underlying28 Try.type3 rfl (by simp [Try.t3] <;> omega) (by omega) rfl rfl rfl ?_
  clear hS; intro b8 w hS
  refine WL.val (.assign (.of rfl)) rfl ?_
  refine WL.nil ?_
  refine WC.seq ?_
  refine WC.seq ?_
  refine WC.region ?_
  refine WL.val (.assign (.of rfl)) rfl ?_
  refine WL.nil ?_
  refine WC.block ?_
  refine WC.loop (σ := Nat × Int × Nat) (fun ⟨k, i, m⟩ => [(3, U64 (m : Nat)), (4, .slice (some (ad b8 0)) 64 64), (5, I64 i)]) (fun ⟨k, i, m⟩ w => (k : Int) + i = 63 ∧ -1 ≤ i ∧ m = b / 2 ^ k ∧ Sat B w I (blk b8 ((List.replicate (i + 1).toNat 0 ++ sl k b).map I64 ++ []) 3 :: As)) (fun ⟨k, i, m⟩ => (i + 1).toNat) (0, 63, b) ⟨rfl, rfl, rfl, trivial⟩ ⟨rfl, by decide, by simp, by simpa [sl] using hS⟩ ?_
  rintro ⟨k, i, m⟩ w ⟨hki, hi, hm, hS⟩
  change WC _ _ _ _ [(3, U64 (m : Nat)), (4, .slice (some (ad b8 0)) 64 64), (5, I64 i)] w
  have hb2 : b / 2 ^ k < 18446744073709551616 := Nat.lt_of_le_of_lt (Nat.div_le_self _ _) hb
  refine WC.seq ?_
  refine WC.seq ?_
  refine WC.region ?_
  refine WL.val (.move (.of rfl)) rfl ?_
  refine WL.val (.geq (.of rfl) (.of rfl)) rfl ?_
  refine WL.nil ?_
  refine WC.cond rfl (fun hb10 => ?_) (fun hb10 => ?_)
  ·
    have hc10 := hb10; try simp only [decide_eq_true_eq, decide_eq_false_iff_not, beq_iff_eq, beq_eq_false_iff_ne, bne_iff_ne, Bool.not_eq_true', Bool.not_eq_false', Bool.or_eq_true, Bool.and_eq_true, Bool.or_eq_false_iff, Bool.and_eq_false_iff, ne_eq, Int.not_lt, Int.not_le, bne_eq_false_iff_eq, Bool.not_eq_true, Bool.not_eq_false] at hc10
    refine WC.skip ?_
    refine WC.seq ?_
    refine WC.block ?_
    refine WC.seq ?_
    refine WC.region ?_
    refine WL.val (.move (.of rfl)) rfl ?_
    refine WL.val (.move (.of rfl)) rfl ?_
    refine WL.val (.move (.of rfl)) rfl ?_
    refine WL.val (.rem (.of rfl) (.of rfl) (by omega) (by omega)) rfl ?_
    refine WL.val (.cvi (.of rfl) Try.underlying27 Try.underlying3 (by rw [IntKind.wrap_i64]; omega)) rfl ?_
    first | refine WL.val (.indexAddr (.of rfl) (.of rfl) (by omega) (by omega) Try.underlying28 Try.sizeOf3) rfl ?_ | refine WL.val (.indexAddrI (.of rfl) (.of rfl) (by omega) (by omega) Try.underlying28 Try.sizeOf3) rfl ?_
    refine WL.stE I64 (List.replicate (i + 1).toNat 0 ++ sl k b) [] (i := i) (u := ((m : Int) % 2)) hS (k := 0) rfl (.of rfl) (.of rfl) rfl rfl Try.sizeOf3 (by omega) (by rw [List.length_append, List.length_replicate]; omega) ?_
    clear hS; intro w hS; dsimp only [List.set] at hS
    refine WL.nil ?_
    refine WC.region ?_
    refine WL.val (.move (.of rfl)) rfl ?_
    refine WL.val (.quo (.of rfl) (.of rfl) (by omega) (by omega) (by rw [IntKind.wrap_u64]; omega)) rfl ?_
    refine WL.val (.assign (.of rfl)) rfl ?_
    refine WL.nil ?_
    refine WC.region ?_
    refine WL.val (.move (.of rfl)) rfl ?_
    refine WL.val (.sub (.of rfl) (.of rfl) ⟨by omega, by omega⟩) rfl ?_
    refine WL.val (.assign (.of rfl)) rfl ?_
    refine WL.nil ?_
    refine ⟨(k + 1, i - 1, m / 2), ⟨rfl, rfl, rfl, trivial⟩, ⟨by (try dsimp only); omega, by (try dsimp only); omega, by (try dsimp only); rw [hm, Nat.pow_succ, Nat.div_div_eq_div_mul], ?_⟩, by (try dsimp only); omega⟩
    have e : (List.replicate (i + 1).toNat 0 ++ sl k b).set i.toNat ((m : Int) % 2) = List.replicate (i - 1 + 1).toNat 0 ++ sl (k + 1) b := by
      rw [show (i + 1).toNat = i.toNat + 1 by omega, show (i - 1 + 1).toNat = i.toNat by omega, List.replicate_succ', List.append_assoc, List.set_append_right _ _ (by simp), List.length_replicate, Nat.sub_self, hm]
      rfl
    rw [← e]; exact hS
  ·
    have hc10 := hb10; try simp only [decide_eq_true_eq, decide_eq_false_iff_not, beq_iff_eq, beq_eq_false_iff_ne, bne_iff_ne, Bool.not_eq_true', Bool.not_eq_false', Bool.or_eq_true, Bool.and_eq_true, Bool.or_eq_false_iff, Bool.and_eq_false_iff, ne_eq, Int.not_lt, Int.not_le, bne_eq_false_iff_eq, Bool.not_eq_true, Bool.not_eq_false] at hc10
    refine WC.exit ?_
    refine WC.seq ?_
    refine WC.region ?_
    refine WL.val (.move (.of rfl)) rfl ?_
    refine WL.val (.assign (.of rfl)) rfl ?_
    refine WL.nil ?_
    refine WC.ret ?_
    refine ret1 Try.results30 rfl ?_
    have : i = -1 := by omega
    subst this
    have : k = 64 := by omega
    subst this
    exact ⟨_, rfl, _, rfl, by simpa using hS⟩
theorem refKey_any (b : Nat) (hb : b < 18446744073709551616) (B w : World) (I : Im) (As : List Assn) (hS : Sat B w I As) :
    Calls Try.prog 19 [F64 b].toArray w (Ret fun v w' => v = U64 (keyN b : Nat) ∧ Sat B w' I As) := by
  refine calls Try.func19 rfl Try.ntmps19 rfl ?_
  refine WC.seq ?_
  refine WC.region ?_
  refine WL.val (.assign (.of rfl)) rfl ?_
  refine WL.nil ?_
  refine WC.seq ?_
  refine WC.region ?_
  refine WL.val (.move (.of rfl)) rfl ?_
  refine WL.call Try.func30 rfl (evs_cons (.of rfl) evs_nil) rfl (refBits_any _ hb _ _ _ _ hS) ?_
  clear hS
  rintro _ w ⟨q, rfl, hS⟩
  refine WL.val (.assign (.of rfl)) rfl ?_
  refine WL.nil ?_
  refine WC.seq ?_
  refine WC.region ?_
  refine WL.val (.assign (.of rfl)) rfl ?_
  refine WL.nil ?_
  refine WC.seq ?_
  refine WC.seq ?_
  refine WC.region ?_
  refine WL.val (.assign (.of rfl)) rfl ?_
  refine WL.nil ?_
  refine WC.block ?_
  refine WC.loop (σ := Nat) (fun j => [(3, .slice (some (ad q 0)) 64 64), (4, U64 (kf b j : Nat)), (5, I64 (j : Nat))]) (fun j w => j ≤ 64 ∧ Sat B w I (blk q ((sl 64 b).map I64 ++ []) 3 :: As)) (fun j => 64 - j) 0 ⟨rfl, rfl, rfl, trivial⟩ ⟨by decide, hS⟩ ?_
  rintro j w ⟨hj, hS⟩
  change WC _ _ _ _ [(3, .slice (some (ad q 0)) 64 64), (4, U64 (kf b j : Nat)), (5, I64 (j : Nat))] w
  have kl := kf_small b (i := j)
  refine WC.seq ?_
  refine WC.seq ?_
  refine WC.region ?_
  refine WL.val (.move (.of rfl)) rfl ?_
  refine WL.val (.lss (.of rfl) (.of rfl)) rfl ?_
  refine WL.nil ?_
  refine WC.cond rfl (fun hb10 => ?_) (fun hb10 => ?_)
  ·
    have hc10 := hb10; try simp only [decide_eq_true_eq, decide_eq_false_iff_not, beq_iff_eq, beq_eq_false_iff_ne, bne_iff_ne, Bool.not_eq_true', Bool.not_eq_false', Bool.or_eq_true, Bool.and_eq_true, Bool.or_eq_false_iff, Bool.and_eq_false_iff, ne_eq, Int.not_lt, Int.not_le, bne_eq_false_iff_eq, Bool.not_eq_true, Bool.not_eq_false] at hc10
    refine WC.skip ?_
    refine WC.seq ?_
    refine WC.block ?_
    refine WC.seq ?_
    refine WC.region ?_
    refine WL.val (.move (.of rfl)) rfl ?_
    refine WL.val (.move (.of rfl)) rfl ?_
    first | refine WL.val (.indexAddr (.of rfl) (.of rfl) (by omega) (by omega) Try.underlying28 Try.sizeOf3) rfl ?_ | refine WL.val (.indexAddrI (.of rfl) (.of rfl) (by omega) (by omega) Try.underlying28 Try.sizeOf3) rfl ?_
    refine WL.val (.ldE I64 (sl 64 b) 0 [] (i := ((j : Nat) : Int)) (.of rfl) hS (k := 0) rfl rfl Try.isAgg3 (by omega) (by rw [sl_len]; omega)) rfl ?_
    have hv0 := sl_get (k := 64) (b := b) (i := (((j : Nat) : Int) : Int).toNat) (by omega)
    have hm0 := Nat.mod_lt (b / 2 ^ (64 - 1 - (((j : Nat) : Int) : Int).toNat)) (show 0 < 2 by decide)
    refine WL.val (.assign (.of rfl)) rfl ?_
    refine WL.nil ?_
    refine WC.seq ?_
    refine WC.seq ?_
    refine WC.region ?_
    refine WL.val (.move (.of rfl)) rfl ?_
    first | refine WL.val (.indexAddr (.of rfl) (.of rfl) (by omega) (by omega) Try.underlying28 Try.sizeOf3) rfl ?_ | refine WL.val (.indexAddrI (.of rfl) (.of rfl) (by omega) (by omega) Try.underlying28 Try.sizeOf3) rfl ?_
    refine WL.val (.ldE I64 (sl 64 b) 0 [] (i := 0) (.of rfl) hS (k := 0) rfl rfl Try.isAgg3 (by omega) (by rw [sl_len]; omega)) rfl ?_
    have hv1 := sl_get (k := 64) (b := b) (i := (0 : Int).toNat) (by omega)
    have hm1 := Nat.mod_lt (b / 2 ^ (64 - 1 - (0 : Int).toNat)) (show 0 < 2 by decide)
    refine WL.val (.eql (.of rfl) (.of rfl)) rfl ?_
    refine WL.nil ?_
    refine WC.cond rfl (fun hb20 => ?_) (fun hb20 => ?_)
    ·
      have hc20 := hb20; try simp only [decide_eq_true_eq, decide_eq_false_iff_not, beq_iff_eq, beq_eq_false_iff_ne, bne_iff_ne, Bool.not_eq_true', Bool.not_eq_false', Bool.or_eq_true, Bool.and_eq_true, Bool.or_eq_false_iff, Bool.and_eq_false_iff, ne_eq, Int.not_lt, Int.not_le, bne_eq_false_iff_eq, Bool.not_eq_true, Bool.not_eq_false] at hc20
      refine WC.region ?_
      refine WL.val (.move (.of rfl)) rfl ?_
      refine WL.val (.sub (.of rfl) (.of rfl) ⟨by omega, by omega⟩) rfl ?_
      refine WL.val (.assign (.of rfl)) rfl ?_
      refine WL.nil ?_
      refine WC.region ?_
      refine WL.val (.move (.of rfl)) rfl ?_
      first | refine WL.val (.mulx (.of rfl) (.of rfl) (by rw [IntKind.wrap_u64]; omega)) rfl ?_ | refine WL.val (.mulw (.of rfl) (.of rfl)) rfl ?_
      refine WL.val (.move (.of rfl)) rfl ?_
      refine WL.val (.cvi (.of rfl) Try.underlying3 Try.underlying27 (by rw [IntKind.wrap_u64]; omega)) rfl ?_
      first | refine WL.val (.addx (.of rfl) (.of rfl) (by rw [IntKind.wrap_u64]; omega)) rfl ?_ | refine WL.val (.addw (.of rfl) (.of rfl)) rfl ?_
      refine WL.val (.assign (.of rfl)) rfl ?_
      refine WL.nil ?_
      refine WC.region ?_
      refine WL.val (.move (.of rfl)) rfl ?_
      refine WL.val (.add (.of rfl) (.of rfl) ⟨by omega, by omega⟩) rfl ?_
      refine WL.val (.assign (.of rfl)) rfl ?_
      refine WL.nil ?_
      have HI : 9223372036854775808 ≤ b := by
        have e63 : b / 2 ^ 63 = b / 9223372036854775808 := by rw [show (2 : Nat) ^ 63 = 9223372036854775808 by decide]
        simp only [Int.toNat_zero, show 64 - 1 - 0 = 63 from rfl, e63] at hv1 hm1
        simp only [Int.toNat_zero] at hc20
        omega
      have e : bt b j = 1 - b / 2 ^ (63 - j) % 2 := by rw [bt, if_pos HI]
      have m2 := Nat.mod_lt (b / 2 ^ (63 - j)) (show 0 < 2 by decide)
      refine ⟨j + 1, ⟨rfl, ?_, rfl, trivial⟩, ⟨by omega, hS⟩, by omega⟩
      show some (U64 _) = some (U64 _)
      congr 2
      rw [kf, e]
      simp only [Int.toNat_natCast] at hv0 hm0 ⊢
      rw [show 64 - 1 - j = 63 - j from rfl] at hv0 hm0
      omega
    ·
      have hc20 := hb20; try simp only [decide_eq_true_eq, decide_eq_false_iff_not, beq_iff_eq, beq_eq_false_iff_ne, bne_iff_ne, Bool.not_eq_true', Bool.not_eq_false', Bool.or_eq_true, Bool.and_eq_true, Bool.or_eq_false_iff, Bool.and_eq_false_iff, ne_eq, Int.not_lt, Int.not_le, bne_eq_false_iff_eq, Bool.not_eq_true, Bool.not_eq_false] at hc20
      refine WC.seq ?_
      refine WC.region ?_
      refine WL.val (.move (.of rfl)) rfl ?_
      refine WL.val (.eql (.of rfl) (.of rfl)) rfl ?_
      refine WL.nil ?_
      refine WC.cond rfl (fun hb24 => ?_) (fun hb24 => ?_)
      ·
        have hc24 := hb24; try simp only [decide_eq_true_eq, decide_eq_false_iff_not, beq_iff_eq, beq_eq_false_iff_ne, bne_iff_ne, Bool.not_eq_true', Bool.not_eq_false', Bool.or_eq_true, Bool.and_eq_true, Bool.or_eq_false_iff, Bool.and_eq_false_iff, ne_eq, Int.not_lt, Int.not_le, bne_eq_false_iff_eq, Bool.not_eq_true, Bool.not_eq_false] at hc24
        refine WC.region ?_
        refine WL.val (.assign (.of rfl)) rfl ?_
        refine WL.nil ?_
        refine WC.region ?_
        refine WL.val (.move (.of rfl)) rfl ?_
        first | refine WL.val (.mulx (.of rfl) (.of rfl) (by rw [IntKind.wrap_u64]; omega)) rfl ?_ | refine WL.val (.mulw (.of rfl) (.of rfl)) rfl ?_
        refine WL.val (.move (.of rfl)) rfl ?_
        refine WL.val (.cvi (.of rfl) Try.underlying3 Try.underlying27 (by rw [IntKind.wrap_u64]; omega)) rfl ?_
        first | refine WL.val (.addx (.of rfl) (.of rfl) (by rw [IntKind.wrap_u64]; omega)) rfl ?_ | refine WL.val (.addw (.of rfl) (.of rfl)) rfl ?_
        refine WL.val (.assign (.of rfl)) rfl ?_
        refine WL.nil ?_
        refine WC.region ?_
        refine WL.val (.move (.of rfl)) rfl ?_
        refine WL.val (.add (.of rfl) (.of rfl) ⟨by omega, by omega⟩) rfl ?_
        refine WL.val (.assign (.of rfl)) rfl ?_
        refine WL.nil ?_
        have HI : ¬ 9223372036854775808 ≤ b := by
          have e63 : b / 2 ^ 63 = b / 9223372036854775808 := by rw [show (2 : Nat) ^ 63 = 9223372036854775808 by decide]
          simp only [Int.toNat_zero, show 64 - 1 - 0 = 63 from rfl, e63] at hv1 hm1
          simp only [Int.toNat_zero] at hc20
          omega
        have e : bt b j = 1 := by rw [bt, if_neg HI, if_pos (by omega)]
        have m2 := Nat.mod_lt (b / 2 ^ (63 - j)) (show 0 < 2 by decide)
        refine ⟨j + 1, ⟨rfl, ?_, rfl, trivial⟩, ⟨by omega, hS⟩, by omega⟩
        show some (U64 _) = some (U64 _)
        congr 2
        rw [kf, e]
        simp only [Int.toNat_natCast] at hv0 hm0 ⊢
        rw [show 64 - 1 - j = 63 - j from rfl] at hv0 hm0
        omega
      ·
        have hc24 := hb24; try simp only [decide_eq_true_eq, decide_eq_false_iff_not, beq_iff_eq, beq_eq_false_iff_ne, bne_iff_ne, Bool.not_eq_true', Bool.not_eq_false', Bool.or_eq_true, Bool.and_eq_true, Bool.or_eq_false_iff, Bool.and_eq_false_iff, ne_eq, Int.not_lt, Int.not_le, bne_eq_false_iff_eq, Bool.not_eq_true, Bool.not_eq_false] at hc24
        refine WC.skip ?_
        refine WC.region ?_
        refine WL.val (.move (.of rfl)) rfl ?_
        first | refine WL.val (.mulx (.of rfl) (.of rfl) (by rw [IntKind.wrap_u64]; omega)) rfl ?_ | refine WL.val (.mulw (.of rfl) (.of rfl)) rfl ?_
        refine WL.val (.move (.of rfl)) rfl ?_
        refine WL.val (.cvi (.of rfl) Try.underlying3 Try.underlying27 (by rw [IntKind.wrap_u64]; omega)) rfl ?_
        first | refine WL.val (.addx (.of rfl) (.of rfl) (by rw [IntKind.wrap_u64]; omega)) rfl ?_ | refine WL.val (.addw (.of rfl) (.of rfl)) rfl ?_
        refine WL.val (.assign (.of rfl)) rfl ?_
        refine WL.nil ?_
        refine WC.region ?_
        refine WL.val (.move (.of rfl)) rfl ?_
        refine WL.val (.add (.of rfl) (.of rfl) ⟨by omega, by omega⟩) rfl ?_
        refine WL.val (.assign (.of rfl)) rfl ?_
        refine WL.nil ?_
        have HI : ¬ 9223372036854775808 ≤ b := by
          have e63 : b / 2 ^ 63 = b / 9223372036854775808 := by rw [show (2 : Nat) ^ 63 = 9223372036854775808 by decide]
          simp only [Int.toNat_zero, show 64 - 1 - 0 = 63 from rfl, e63] at hv1 hm1
          simp only [Int.toNat_zero] at hc20
          omega
        have e : bt b j = b / 2 ^ (63 - j) % 2 := by rw [bt, if_neg HI, if_neg (by omega)]
        have m2 := Nat.mod_lt (b / 2 ^ (63 - j)) (show 0 < 2 by decide)
        refine ⟨j + 1, ⟨rfl, ?_, rfl, trivial⟩, ⟨by omega, hS⟩, by omega⟩
        show some (U64 _) = some (U64 _)
        congr 2
        rw [kf, e]
        simp only [Int.toNat_natCast] at hv0 hm0 ⊢
        rw [show 64 - 1 - j = 63 - j from rfl] at hv0 hm0
        omega
  ·
    have hc10 := hb10; try simp only [decide_eq_true_eq, decide_eq_false_iff_not, beq_iff_eq, beq_eq_false_iff_ne, bne_iff_ne, Bool.not_eq_true', Bool.not_eq_false', Bool.or_eq_true, Bool.and_eq_true, Bool.or_eq_false_iff, Bool.and_eq_false_iff, ne_eq, Int.not_lt, Int.not_le, bne_eq_false_iff_eq, Bool.not_eq_true, Bool.not_eq_false] at hc10
    refine WC.exit ?_
    refine WC.seq ?_
    refine WC.region ?_
    refine WL.val (.move (.of rfl)) rfl ?_
    refine WL.val (.assign (.of rfl)) rfl ?_
    refine WL.nil ?_
    refine WC.ret ?_
    refine ret1 Try.results19 rfl ?_
    exact ⟨_, rfl, by rw [← kf_key hb, show 64 = j by omega], hS.drop (k := 0) rfl⟩
theorem cmpIsNaN_any (a : Int) (w : World) :
    Calls Try.prog 32 [U64 a].toArray w (Ret fun v w' => v = .bool false ∧ w = w') := by
  refine calls Try.func32 rfl Try.ntmps32 rfl ?_
  refine WC.seq ?_
  refine WC.region ?_
  refine WL.val (.assign (.of rfl)) rfl ?_
  refine WL.nil ?_
  refine WC.seq ?_
  refine WC.region ?_
  refine WL.val (.move (.of rfl)) rfl ?_
  refine WL.val (.move (.of rfl)) rfl ?_
  refine WL.val (.neq (.of rfl) (.of rfl)) rfl ?_
  refine WL.val (.assign (.of rfl)) rfl ?_
  refine WL.nil ?_
  refine WC.ret ?_
  refine ret1 Try.results32 rfl ?_
  exact ⟨_, rfl, by simp, rfl⟩
theorem Compare_any (a b : Int) (w : World) :
    Calls Try.prog 26 [U64 a, U64 b].toArray w (Ret fun v w' => v = I64 (if a < b then -1 else if b < a then 1 else 0) ∧ w = w') := by
  refine calls Try.func26 rfl Try.ntmps26 rfl ?_
  refine WC.seq ?_
  refine WC.region ?_
  refine WL.val (.assign (.of rfl)) rfl ?_
  refine WL.nil ?_
  refine WC.seq ?_
  refine WC.region ?_
  refine WL.val (.move (.of rfl)) rfl ?_
  refine WL.call Try.func32 rfl (evs_cons (.of rfl) evs_nil) rfl (cmpIsNaN_any _ _) ?_
  rintro _ _ ⟨rfl, rfl⟩
  refine WL.val (.assign (.of rfl)) rfl ?_
  refine WL.nil ?_
  refine WC.seq ?_
  refine WC.region ?_
  refine WL.val (.move (.of rfl)) rfl ?_
  refine WL.call Try.func32 rfl (evs_cons (.of rfl) evs_nil) rfl (cmpIsNaN_any _ _) ?_
  rintro _ _ ⟨rfl, rfl⟩
  refine WL.val (.assign (.of rfl)) rfl ?_
  refine WL.nil ?_
  refine WC.seq ?_
  refine WC.seq ?_
  refine WC.region ?_
  refine WL.val (.move (.of rfl)) rfl ?_
  refine WL.nil ?_
  refine WC.condF (rfl) ?_
  refine WC.skip ?_
  refine WC.seq ?_
  refine WC.seq ?_
  refine WC.region ?_
  refine WL.val (.move (.of rfl)) rfl ?_
  refine WL.nil ?_
  refine WC.condF (rfl) ?_
  refine WC.skip ?_
  refine WC.seq ?_
  refine WC.seq ?_
  refine WC.region ?_
  refine WL.val (.move (.of rfl)) rfl ?_
  refine WL.val (.move (.of rfl)) rfl ?_
  refine WL.val (.lss (.of rfl) (.of rfl)) rfl ?_
  refine WL.nil ?_
  refine WC.cond rfl (fun hb16 => ?_) (fun hb16 => ?_)
  ·
    have hc16 := hb16; try simp only [decide_eq_true_eq, decide_eq_false_iff_not, beq_iff_eq, beq_eq_false_iff_ne, bne_iff_ne, Bool.not_eq_true', Bool.not_eq_false', Bool.or_eq_true, Bool.and_eq_true, Bool.or_eq_false_iff, Bool.and_eq_false_iff, ne_eq, Int.not_lt, Int.not_le, bne_eq_false_iff_eq, Bool.not_eq_true, Bool.not_eq_false] at hc16
    refine WC.seq ?_
    refine WC.region ?_
    refine WL.val (.assign (.of rfl)) rfl ?_
    refine WL.nil ?_
    refine WC.ret ?_
    refine ret1 Try.results26 rfl ?_
    exact ⟨_, rfl, by rw [if_pos hc16], rfl⟩
  ·
    have hc16 := hb16; try simp only [decide_eq_true_eq, decide_eq_false_iff_not, beq_iff_eq, beq_eq_false_iff_ne, bne_iff_ne, Bool.not_eq_true', Bool.not_eq_false', Bool.or_eq_true, Bool.and_eq_true, Bool.or_eq_false_iff, Bool.and_eq_false_iff, ne_eq, Int.not_lt, Int.not_le, bne_eq_false_iff_eq, Bool.not_eq_true, Bool.not_eq_false] at hc16
    refine WC.skip ?_
    refine WC.seq ?_
    refine WC.seq ?_
    refine WC.region ?_
    refine WL.val (.move (.of rfl)) rfl ?_
    refine WL.val (.move (.of rfl)) rfl ?_
    refine WL.val (.gtr (.of rfl) (.of rfl)) rfl ?_
    refine WL.nil ?_
    refine WC.cond rfl (fun hb19 => ?_) (fun hb19 => ?_)
    ·
      have hc19 := hb19; try simp only [decide_eq_true_eq, decide_eq_false_iff_not, beq_iff_eq, beq_eq_false_iff_ne, bne_iff_ne, Bool.not_eq_true', Bool.not_eq_false', Bool.or_eq_true, Bool.and_eq_true, Bool.or_eq_false_iff, Bool.and_eq_false_iff, ne_eq, Int.not_lt, Int.not_le, bne_eq_false_iff_eq, Bool.not_eq_true, Bool.not_eq_false] at hc19
      refine WC.seq ?_
      refine WC.region ?_
      refine WL.val (.assign (.of rfl)) rfl ?_
      refine WL.nil ?_
      refine WC.ret ?_
      refine ret1 Try.results26 rfl ?_
      exact ⟨_, rfl, by rw [if_neg (by omega), if_pos hc19], rfl⟩
    ·
      have hc19 := hb19; try simp only [decide_eq_true_eq, decide_eq_false_iff_not, beq_iff_eq, beq_eq_false_iff_ne, bne_iff_ne, Bool.not_eq_true', Bool.not_eq_false', Bool.or_eq_true, Bool.and_eq_true, Bool.or_eq_false_iff, Bool.and_eq_false_iff, ne_eq, Int.not_lt, Int.not_le, bne_eq_false_iff_eq, Bool.not_eq_true, Bool.not_eq_false] at hc19
      refine WC.skip ?_
      refine WC.seq ?_
      refine WC.region ?_
      refine WL.val (.assign (.of rfl)) rfl ?_
      refine WL.nil ?_
      refine WC.ret ?_
      refine ret1 Try.results26 rfl ?_
      exact ⟨_, rfl, by rw [if_neg (by omega), if_neg (by omega)], rfl⟩
end Go.Proofs.Ytfmdhpgfbojjaaa
