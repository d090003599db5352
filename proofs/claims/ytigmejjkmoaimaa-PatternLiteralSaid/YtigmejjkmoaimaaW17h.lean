/- Chapter 17: literals. -/
import Derived.Test.YtigmejjkmoaimaaW17f
import Derived.Test.YtigmejjkmoaimaaPatL
import Derived.Test.YtigmejjkmoaimaaGkS
import Derived.Lib.IndexAny
namespace Go.Proofs.Ytigmejjkmoaimaa
open Gk Pat
set_option linter.unusedVariables false
set_option linter.unusedSimpArgs false

theorem copyCheck_any (bb : Nat) (p v : Value) (hp : p = .pointer none ∨ p = ptr bb 0) (B w : World) (I : Im) (F : List Assn) (hS : Sat B w I (blk bb [p, v] 54 :: F)) :
    Calls Try.prog 34 [ptr bb 0].toArray w (Ret fun u w' => u = .tuple #[] ∧ Sat B w' I (blk bb [ptr bb 0, v] 54 :: F)) := by
  rcases hp with rfl | rfl
  ·
    refine calls Try.func34 rfl Try.ntmps34 rfl ?_
    refine WC.seq ?_
    refine WC.region ?_
    refine WL.val (.move (.of rfl)) rfl ?_
    refine WL.val (.nilCheck (.of rfl)) rfl ?_
    first | refine WL.val (.fieldAddr 0 (.of rfl) Try.underlying54 rfl rfl Try.sizeOf51 rfl) rfl ?_ | refine WL.val (.fieldAddrI 0 (.of rfl) Try.underlying54 rfl rfl Try.sizeOf51 rfl) rfl ?_
    first | refine WL.val (.ld (.of rfl) hS (k := 0) rfl Try.isAgg51 rfl) rfl ?_
    refine WL.val (.eqp (.of rfl) (.of rfl) Try.underlying51) rfl ?_
    refine WL.nil ?_
    refine WC.condT (rfl) ?_
    refine WC.region ?_
    refine WL.val (.move (.of rfl)) rfl ?_
    refine WL.val (.move (.of rfl)) rfl ?_
    refine WL.val (.toUnsafe (.of rfl) hS (k := 0) rfl Try.underlying51 Try.underlying68 Try.type54 (by decide) (by simp)) rfl ?_
    refine WL.val (.extern Try.func37 (by kernel_rfl) (by kernel_rfl) (by kernel_rfl) (e := Extern.AbiNoEscape.same) (by kernel_rfl) (evs_cons (.of rfl) evs_nil) (Go.Lib.run_noEscape w _)) rfl ?_
    refine WL.val (.fromUnsafe (.of rfl) hS (k := 0) rfl Try.underlying68 Try.underlying51 Try.type54 (by kernel_rfl)) rfl ?_
    refine WL.val (.nilCheck (.of rfl)) rfl ?_
    first | refine WL.val (.fieldAddr 0 (.of rfl) Try.underlying54 rfl rfl Try.sizeOf51 rfl) rfl ?_ | refine WL.val (.fieldAddrI 0 (.of rfl) Try.underlying54 rfl rfl Try.sizeOf51 rfl) rfl ?_
    first | refine WL.st1 hS (k := 0) rfl (.of rfl) (.of rfl) rfl Try.sizeOf51 (by simp) ?_
    clear hS; intro w hS; try dsimp only [List.set] at hS
    refine WL.nil ?_
    refine end0 Try.results34 ?_
    exact ⟨_, rfl, rfl, hS⟩
  ·
    refine calls Try.func34 rfl Try.ntmps34 rfl ?_
    refine WC.seq ?_
    refine WC.region ?_
    refine WL.val (.move (.of rfl)) rfl ?_
    refine WL.val (.nilCheck (.of rfl)) rfl ?_
    first | refine WL.val (.fieldAddr 0 (.of rfl) Try.underlying54 rfl rfl Try.sizeOf51 rfl) rfl ?_ | refine WL.val (.fieldAddrI 0 (.of rfl) Try.underlying54 rfl rfl Try.sizeOf51 rfl) rfl ?_
    first | refine WL.val (.ld (.of rfl) hS (k := 0) rfl Try.isAgg51 rfl) rfl ?_
    refine WL.val (.eqp (.of rfl) (.of rfl) Try.underlying51) rfl ?_
    refine WL.nil ?_
    refine WC.condF (rfl) ?_
    refine WC.seq ?_
    refine WC.region ?_
    refine WL.val (.move (.of rfl)) rfl ?_
    refine WL.val (.nilCheck (.of rfl)) rfl ?_
    first | refine WL.val (.fieldAddr 0 (.of rfl) Try.underlying54 rfl rfl Try.sizeOf51 rfl) rfl ?_ | refine WL.val (.fieldAddrI 0 (.of rfl) Try.underlying54 rfl rfl Try.sizeOf51 rfl) rfl ?_
    first | refine WL.val (.ld (.of rfl) hS (k := 0) rfl Try.isAgg51 rfl) rfl ?_
    refine WL.val (.move (.of rfl)) rfl ?_
    refine WL.val (.nepSame (.of rfl) (.of rfl) Try.underlying51 Try.type54 trivial) rfl ?_
    refine WL.nil ?_
    refine WC.condF (rfl) ?_
    refine WC.skip ?_
    refine end0 Try.results34 ?_
    exact ⟨_, rfl, rfl, hS⟩
theorem WriteByte_any (bb : Nat) (p v : Value) (l : List UInt8) (c : UInt8) (hp : p = .pointer none ∨ p = ptr bb 0) (B w : World) (I : Im) (F : List Assn) (hS : Sat B w I (blk bb [p, v] 54 :: Vec 5 1 v l.length (bcs l) :: F)) (hl : l.length ≤ 140737488000000) :
    Calls Try.prog 26 [ptr bb 0, U8 c.toNat].toArray w (Ret fun u w' => u = .nilIface ∧ ∃ v', Sat B w' I (blk bb [ptr bb 0, v'] 54 :: Vec 5 1 v' (l ++ [c]).length (bcs (l ++ [c])) :: F)) := by
  refine calls Try.func26 rfl Try.ntmps26 rfl ?_
  refine WC.seq ?_
  refine WC.region ?_
  refine WL.val (.assign (.of rfl)) rfl ?_
  refine WL.nil ?_
  refine WC.seq ?_
  refine WC.region ?_
  refine WL.val (.move (.of rfl)) rfl ?_
  refine WL.call Try.func34 rfl (evs_cons (.of rfl) evs_nil) rfl (copyCheck_any bb p v hp B w I _ hS) ?_
  clear hS
  rintro _ w ⟨rfl, hS⟩
  refine WL.nil ?_
  refine WC.seq ?_
  obtain ⟨va, vc, rfl, hvc, _⟩ := hS.vecSlice (k := 1) rfl
  refine WC.region ?_
  refine WL.val (.move (.of rfl)) rfl ?_
  refine WL.val (.move (.of rfl)) rfl ?_
  refine WL.val (.nilCheck (.of rfl)) rfl ?_
  first | refine WL.val (.fieldAddr 1 (.of rfl) Try.underlying54 rfl rfl Try.sizeOf52 rfl) rfl ?_ | refine WL.val (.fieldAddrI 1 (.of rfl) Try.underlying54 rfl rfl Try.sizeOf52 rfl) rfl ?_
  first | refine WL.val (.ld (.of rfl) hS (k := 0) rfl Try.isAgg52 rfl) rfl ?_ | refine WL.val (.ld (.of rfl) hS (k := 1) rfl Try.isAgg52 rfl) rfl ?_
  refine WL.val (.move (.of rfl)) rfl ?_
  refine WL.buildSlice (cs := [_]) hS (parts_cons (.of rfl) parts_nil) Try.underlying52 Try.sizeOf5 Try.zeroValue5 rfl rfl rfl rfl ?_
  clear hS; intro b13 w hS
  first | refine WL.append (size := 1) (bytes := 1) hS (.of rfl) (.of rfl) (k := 0) rfl Try.underlying52 Try.type5 rfl rfl rfl rfl rfl rfl rfl ⟨by omega, by unfold maxLen; omega⟩ rfl ?_ | refine WL.append (size := 1) (bytes := 1) hS (.of rfl) (.of rfl) (k := 1) rfl Try.underlying52 Try.type5 rfl rfl rfl rfl rfl rfl rfl ⟨by omega, by unfold maxLen; omega⟩ rfl ?_
  clear hS; intro v14 w hS; try dsimp only [List.set] at hS
  first | obtain ⟨a14, c14, rfl, hcap14, _⟩ := hS.vecSlice (k := 0) (v := v14) rfl | obtain ⟨a14, c14, rfl, hcap14, _⟩ := hS.vecSlice (k := 1) (v := v14) rfl
  refine WL.val (.nilCheck (.of rfl)) rfl ?_
  first | refine WL.val (.fieldAddr 1 (.of rfl) Try.underlying54 rfl rfl Try.sizeOf52 rfl) rfl ?_ | refine WL.val (.fieldAddrI 1 (.of rfl) Try.underlying54 rfl rfl Try.sizeOf52 rfl) rfl ?_
  first | refine WL.st1 hS (k := 0) rfl (.of rfl) (.of rfl) rfl Try.sizeOf52 (by simp) ?_ | refine WL.st1 hS (k := 1) rfl (.of rfl) (.of rfl) rfl Try.sizeOf52 (by simp) ?_
  clear hS; intro w hS; try dsimp only [List.set] at hS
  refine WL.nil ?_
  refine WC.seq ?_
  refine WC.region ?_
  refine WL.val (.assign (.of rfl)) rfl ?_
  refine WL.nil ?_
  refine WC.ret ?_
  refine ret1 Try.results26 rfl ?_
  exact ⟨_, rfl, rfl, _, by simpa using hS⟩
theorem String_any (bb : Nat) (p v : Value) (l : List UInt8) (hv : l = [] → v = .slice none 0 0) (B w : World) (I : Im) (F : List Assn) (hS : Sat B w I (blk bb [p, v] 54 :: Vec 5 1 v l.length (bcs l) :: F)) :
    Calls Try.prog 27 [ptr bb 0].toArray w (Ret fun u w' => u = S l ∧ Sat B w' I F) := by
  by_cases h0 : l = []
  · obtain rfl := hv h0
    subst h0
    refine calls Try.func27 rfl Try.ntmps27 rfl ?_
    refine WC.seq ?_
    refine WC.region ?_
    refine WL.val (.assign (.of rfl)) rfl ?_
    refine WL.nil ?_
    refine WC.seq ?_
    refine WC.tail 10 (by kernel_rfl) (by kernel_rfl) ?_
    replace hS := hS.drew; generalize w.drew = w at hS ⊢
    refine WT.val (.move (.of rfl)) rfl ?_
    refine WT.val (.nilCheck (.of rfl)) rfl ?_
    refine WT.val (by first | exact .fieldAddr 1 (.of rfl) Try.underlying54 rfl rfl Try.sizeOf52 rfl | exact .fieldAddrI 1 (.of rfl) Try.underlying54 rfl rfl Try.sizeOf52 rfl) rfl ?_
    refine WT.val (by first | exact (.ld (.of rfl) hS (k := 0) rfl Try.isAgg52 rfl) | exact (.ld (.of rfl) hS (k := 1) rfl Try.isAgg52 rfl)) rfl ?_
    refine WT.val (.sliceDataNil (.of rfl)) rfl ?_
    refine WT.val (.move (.of rfl)) rfl ?_
    refine WT.val (.nilCheck (.of rfl)) rfl ?_
    refine WT.val (by first | exact .fieldAddr 1 (.of rfl) Try.underlying54 rfl rfl Try.sizeOf52 rfl | exact .fieldAddrI 1 (.of rfl) Try.underlying54 rfl rfl Try.sizeOf52 rfl) rfl ?_
    refine WT.val (by first | exact (.ld (.of rfl) hS (k := 0) rfl Try.isAgg52 rfl) | exact (.ld (.of rfl) hS (k := 1) rfl Try.isAgg52 rfl)) rfl ?_
    refine WT.val (.lenSlice (.of rfl) Try.underlying52) rfl ?_
    refine WT.nil ?_
    show WL _ _ _ _ _ _ _
    refine WL.val (.unsafeStringNone (.of rfl) (.of rfl)) rfl ?_
    refine WL.val (.assign (.of rfl)) rfl ?_
    refine WL.nil ?_
    refine WC.ret ?_
    refine ret1 Try.results27 rfl ?_
    exact ⟨_, rfl, rfl, (hS.drop (k := 0) rfl).drop (k := 0) rfl⟩
  · have h1 : 0 < l.length := List.length_pos_iff.2 h0
    obtain ⟨vb, vc, r, rfl, hv1, hv2, hv3, hv4, hT⟩ := hS.vecOpen (k := 1) rfl h1
    clear hS; have hS := hT; clear hT; try dsimp only [List.set] at hS
    have h63 : l.length ≤ 9223372036854775807 := by unfold maxLen at hv2; omega
    refine calls Try.func27 rfl Try.ntmps27 rfl ?_
    refine WC.seq ?_
    refine WC.region ?_
    refine WL.val (.assign (.of rfl)) rfl ?_
    refine WL.nil ?_
    refine WC.seq ?_
    refine WC.tail 10 (by kernel_rfl) (by kernel_rfl) ?_
    replace hS := hS.drew; generalize w.drew = w at hS ⊢
    refine WT.val (.move (.of rfl)) rfl ?_
    refine WT.val (.nilCheck (.of rfl)) rfl ?_
    refine WT.val (by first | exact .fieldAddr 1 (.of rfl) Try.underlying54 rfl rfl Try.sizeOf52 rfl | exact .fieldAddrI 1 (.of rfl) Try.underlying54 rfl rfl Try.sizeOf52 rfl) rfl ?_
    refine WT.val (by first | exact (.ld (.of rfl) hS (k := 0) rfl Try.isAgg52 rfl) | exact (.ld (.of rfl) hS (k := 1) rfl Try.isAgg52 rfl)) rfl ?_
    refine WT.val (.sliceData (.of rfl) (by omega)) rfl ?_
    refine WT.val (.move (.of rfl)) rfl ?_
    refine WT.val (.nilCheck (.of rfl)) rfl ?_
    refine WT.val (by first | exact .fieldAddr 1 (.of rfl) Try.underlying54 rfl rfl Try.sizeOf52 rfl | exact .fieldAddrI 1 (.of rfl) Try.underlying54 rfl rfl Try.sizeOf52 rfl) rfl ?_
    refine WT.val (by first | exact (.ld (.of rfl) hS (k := 0) rfl Try.isAgg52 rfl) | exact (.ld (.of rfl) hS (k := 1) rfl Try.isAgg52 rfl)) rfl ?_
    refine WT.val (.lenSlice (.of rfl) Try.underlying52) rfl ?_
    refine WT.nil ?_
    show WL _ _ _ _ _ _ _
    refine WL.unsafeString hS (k := 1) rfl (.of rfl) (.of rfl) h0 Try.underlying66 (by kernel_rfl) (by omega) rfl ?_
    clear hS; intro w hS; try dsimp only [List.eraseIdx] at hS
    refine WL.val (.assign (.of rfl)) rfl ?_
    refine WL.nil ?_
    refine WC.ret ?_
    refine ret1 Try.results27 rfl ?_
    exact ⟨_, rfl, rfl, hS.drop (k := 0) rfl⟩
theorem slIndexByte_any (l : List UInt8) (c : UInt8) (w : World) : Calls Try.prog 33 [S l, U8 c.toNat].toArray w (Ret fun v w' => v = I64 (Go.Lib.indexByte l c) ∧ w = w') := by
  refine calls Try.func33 rfl Try.ntmps33 rfl ?_
  refine WC.seq ?_
  refine WC.region ?_
  refine WL.val (.assign (.of rfl)) rfl ?_
  refine WL.nil ?_
  refine WC.seq ?_
  refine WC.region ?_
  refine WL.val (.move (.of rfl)) rfl ?_
  refine WL.val (.move (.of rfl)) rfl ?_
  refine WL.val (.extern Try.func36 (by kernel_rfl) (by kernel_rfl) (by kernel_rfl) (e := Extern.BytealgIndexByte.indexByte) (by kernel_rfl) (evs_cons (.of rfl) (evs_cons (.of rfl) evs_nil)) (Go.Lib.run_indexByteString _ _ w)) rfl ?_
  refine WL.val (.assign (.of rfl)) rfl ?_
  refine WL.nil ?_
  refine WC.ret ?_
  refine ret1 Try.results33 rfl ?_
  exact ⟨_, rfl, by simp, rfl⟩
theorem IndexByte_any (l : List UInt8) (c : UInt8) (w : World) : Calls Try.prog 25 [S l, U8 c.toNat].toArray w (Ret fun v w' => v = I64 (Go.Lib.indexByte l c) ∧ w = w') := by
  refine calls Try.func25 rfl Try.ntmps25 rfl ?_
  refine WC.seq ?_
  refine WC.region ?_
  refine WL.val (.assign (.of rfl)) rfl ?_
  refine WL.nil ?_
  refine WC.seq ?_
  refine WC.region ?_
  refine WL.val (.move (.of rfl)) rfl ?_
  refine WL.val (.move (.of rfl)) rfl ?_
  refine WL.call Try.func33 rfl (evs_cons (.of rfl) (evs_cons (.of rfl) evs_nil)) rfl (slIndexByte_any _ _ _) ?_
  rintro _ _ ⟨rfl, rfl⟩
  refine WL.val (.assign (.of rfl)) rfl ?_
  refine WL.nil ?_
  refine WC.ret ?_
  refine ret1 Try.results25 rfl ?_
  exact ⟨_, rfl, rfl, rfl⟩
theorem spc_index (c : UInt8) : spc c = decide (0 ≤ Go.Lib.indexByte [63, 42, 40, 41, 124, 92] c) := by
  rw [← Go.Lib.contains_iff_indexByte]
  have e : ∀ (d : UInt8) (n : Int), (d.toNat : Int) = n → ((c.toNat : Int) = n ↔ c = d) := fun d n h => by
    constructor
    · intro h2; exact UInt8.toNat_inj.1 (by omega)
    · rintro rfl; exact h
  refine Bool.eq_iff_iff.2 ?_
  simp only [spc, Bool.or_eq_true, beq_iff_eq, List.contains_iff_mem, List.mem_cons, List.not_mem_nil, or_false, e 63 63 rfl, e 42 42 rfl, e 40 40 rfl, e 41 41 rfl, e 124 124 rfl, e 92 92 rfl, or_assoc]
theorem lit_take (s : List UInt8) {k : Nat} (hk : k < s.length) : lit (s.take (k + 1)) = lit (s.take k) ++ (bif spc (at_ s (k : Int)) then [92, at_ s (k : Int)] else [at_ s (k : Int)]) := by
  rw [List.take_succ_eq_append_getElem hk, lit_snoc]
  have e : at_ s (k : Int) = s[k] := by simp [at_, List.getD_eq_getElem?_getD, hk]
  rw [e]
set_option maxHeartbeats 400000 in
theorem Literal_any (s : List UInt8) (hs : s.length ≤ 1000000) (B w : World) (I : Im) (As : List Assn) (hS : Sat B w I As) :
    Calls Try.prog 17 [S s].toArray w (Ret fun u w' => u = S (lit s) ∧ Sat B w' I As) := by
  refine calls Try.func17 rfl Try.ntmps17 rfl ?_
  refine WC.seq ?_
  refine WC.region ?_
  refine WL.val (.assign (.of rfl)) rfl ?_
  refine WL.nil ?_
  refine WC.seq ?_
  refine WC.region ?_
  refine WL.allocA (cs := [_, _]) hS Try.zeroValue54 rfl ?_
  clear hS; intro b3 w hS
  refine WL.nil ?_
  refine WC.seq ?_
  refine WC.seq ?_
  refine WC.region ?_
  refine WL.val (.move (.of rfl)) rfl ?_
  refine WL.val (.len (.of rfl) Try.underlying9) rfl ?_
  refine WL.val (.move (.of rfl)) rfl ?_
  refine WL.nil ?_
  refine WC.block ?_
  refine WC.loop (σ := Nat × Value × Value) (fun ⟨k, p, v⟩ => [(0, S s), (3, ptr b3 0), (6, I64 s.length), (7, I64 (k : Nat))]) (fun ⟨k, p, v⟩ w => k ≤ s.length ∧ (p = .pointer none ∨ p = ptr b3 0) ∧ (lit (s.take k) = [] → v = .slice none 0 0) ∧ Sat B w I (blk b3 [p, v] 54 :: Vec 5 1 v (lit (s.take k)).length (bcs (lit (s.take k))) :: As)) (fun ⟨k, p, v⟩ => s.length - k) (0, .pointer none, .slice none 0 0) ⟨rfl, rfl, rfl, rfl, trivial⟩ ⟨Nat.zero_le _, .inl rfl, fun _ => rfl, (hS.vecNil 5 1).pick 1 rfl⟩ ?_
  rintro ⟨k, p, v⟩ w ⟨hk, hp, hv, hS⟩
  change WC _ _ _ _ [(0, S s), (3, ptr b3 0), (6, I64 s.length), (7, I64 (k : Nat))] w
  refine WC.seq ?_
  refine WC.region ?_
  refine WL.val (.lss (.of rfl) (.of rfl)) rfl ?_
  refine WL.nil ?_
  refine WC.seq ?_
  refine WC.cond rfl (fun hb8 => ?_) (fun hb8 => ?_)
  ·
    have hc8 := hb8; try simp only [decide_eq_true_eq, decide_eq_false_iff_not, beq_iff_eq, beq_eq_false_iff_ne, bne_iff_ne, Bool.not_eq_true', Bool.not_eq_false', Bool.or_eq_true, Bool.and_eq_true, Bool.or_eq_false_iff, Bool.and_eq_false_iff, ne_eq, Int.not_lt, Int.not_le, bne_eq_false_iff_eq, Bool.not_eq_true, Bool.not_eq_false] at hc8
    refine WC.skip ?_
    refine WC.seq ?_
    refine WC.block ?_
    refine WC.seq ?_
    have hk2 : k < s.length := by omega
    refine WC.region ?_
    refine WL.val (.move (.of rfl)) rfl ?_
    refine WL.val (.assign (.of rfl)) rfl ?_
    refine WL.nil ?_
    refine WC.seq ?_
    refine WC.seq ?_
    refine WC.region ?_
    refine WL.val (.move (.of rfl)) rfl ?_
    refine WL.val (.move (.of rfl)) rfl ?_
    refine WL.val (.index (.of rfl) (.of rfl) (by omega) (by omega) Try.underlying9) rfl ?_
    refine WL.call Try.func25 rfl (evs_cons (.of rfl) (evs_cons (.of rfl) evs_nil)) rfl (IndexByte_any _ _ _) ?_
    rintro _ _ ⟨rfl, rfl⟩
    refine WL.val (.geq (.of rfl) (.of rfl)) rfl ?_
    refine WL.nil ?_
    refine WC.cond rfl (fun hb14 => ?_) (fun hb14 => ?_)
    ·
      have hc14 := hb14; try simp only [decide_eq_true_eq, decide_eq_false_iff_not, beq_iff_eq, beq_eq_false_iff_ne, bne_iff_ne, Bool.not_eq_true', Bool.not_eq_false', Bool.or_eq_true, Bool.and_eq_true, Bool.or_eq_false_iff, Bool.and_eq_false_iff, ne_eq, Int.not_lt, Int.not_le, bne_eq_false_iff_eq, Bool.not_eq_true, Bool.not_eq_false] at hc14
      refine WC.region ?_
      refine WL.call Try.func26 rfl (evs_cons (.of rfl) (evs_cons (.of rfl) evs_nil)) rfl (WriteByte_any b3 _ _ (lit (s.take k)) (92) hp B w I As hS (by have := lit_len (s.take k); simp at this ⊢; omega)) ?_
      clear hS
      rintro _ w ⟨rfl, v, hS⟩
      refine WL.nil ?_
      refine WC.region ?_
      refine WL.val (.move (.of rfl)) rfl ?_
      refine WL.val (.move (.of rfl)) rfl ?_
      refine WL.val (.index (.of rfl) (.of rfl) (by omega) (by omega) Try.underlying9) rfl ?_
      refine WL.call Try.func26 rfl (evs_cons (.of rfl) (evs_cons (.of rfl) evs_nil)) rfl (WriteByte_any b3 _ _ (lit (s.take k) ++ [92]) (at_ s (k : Int)) (.inr rfl) B w I As hS (by have := lit_len (s.take k); simp at this ⊢; omega)) ?_
      clear hS
      rintro _ w ⟨rfl, v, hS⟩
      refine WL.nil ?_
      refine WC.region ?_
      refine WL.val (.add (.of rfl) (.of rfl) ⟨by omega, by omega⟩) rfl ?_
      refine WL.val (.move (.of rfl)) rfl ?_
      refine WL.nil ?_
      have hsp : spc (at_ s (k : Int)) = true := by rw [spc_index]; simpa using hb14
      refine ⟨(k + 1, ptr b3 0, v), ⟨rfl, rfl, rfl, rfl, trivial⟩, ⟨by omega, .inr rfl, fun h => absurd h (by rw [lit_take s hk2]; simp [hsp]), ?_⟩, by dsimp only; omega⟩
      rw [lit_take s hk2, hsp]; simpa using hS
    ·
      have hc14 := hb14; try simp only [decide_eq_true_eq, decide_eq_false_iff_not, beq_iff_eq, beq_eq_false_iff_ne, bne_iff_ne, Bool.not_eq_true', Bool.not_eq_false', Bool.or_eq_true, Bool.and_eq_true, Bool.or_eq_false_iff, Bool.and_eq_false_iff, ne_eq, Int.not_lt, Int.not_le, bne_eq_false_iff_eq, Bool.not_eq_true, Bool.not_eq_false] at hc14
      refine WC.skip ?_
      refine WC.region ?_
      refine WL.val (.move (.of rfl)) rfl ?_
      refine WL.val (.move (.of rfl)) rfl ?_
      refine WL.val (.index (.of rfl) (.of rfl) (by omega) (by omega) Try.underlying9) rfl ?_
      refine WL.call Try.func26 rfl (evs_cons (.of rfl) (evs_cons (.of rfl) evs_nil)) rfl (WriteByte_any b3 _ _ (lit (s.take k)) (at_ s (k : Int)) hp B w I As hS (by have := lit_len (s.take k); simp at this ⊢; omega)) ?_
      clear hS
      rintro _ w ⟨rfl, v, hS⟩
      refine WL.nil ?_
      refine WC.region ?_
      refine WL.val (.add (.of rfl) (.of rfl) ⟨by omega, by omega⟩) rfl ?_
      refine WL.val (.move (.of rfl)) rfl ?_
      refine WL.nil ?_
      have hsp : spc (at_ s (k : Int)) = false := by rw [spc_index]; simpa using hb14
      refine ⟨(k + 1, ptr b3 0, v), ⟨rfl, rfl, rfl, rfl, trivial⟩, ⟨by omega, .inr rfl, fun h => absurd h (by rw [lit_take s hk2]; simp [hsp]), ?_⟩, by dsimp only; omega⟩
      rw [lit_take s hk2, hsp]; simpa using hS
  ·
    have hc8 := hb8; try simp only [decide_eq_true_eq, decide_eq_false_iff_not, beq_iff_eq, beq_eq_false_iff_ne, bne_iff_ne, Bool.not_eq_true', Bool.not_eq_false', Bool.or_eq_true, Bool.and_eq_true, Bool.or_eq_false_iff, Bool.and_eq_false_iff, ne_eq, Int.not_lt, Int.not_le, bne_eq_false_iff_eq, Bool.not_eq_true, Bool.not_eq_false] at hc8
    refine WC.exit ?_
    refine WC.seq ?_
    refine WC.region ?_
    refine WL.call Try.func27 rfl (evs_cons (.of rfl) evs_nil) rfl (String_any b3 p v (lit (s.take k)) hv B w I As hS) ?_
    clear hS
    rintro _ w ⟨rfl, hS⟩
    refine WL.val (.assign (.of rfl)) rfl ?_
    refine WL.nil ?_
    refine WC.ret ?_
    refine ret1 Try.results17 rfl ?_
    rw [List.take_of_length_le (by omega)]
    exact ⟨_, rfl, rfl, hS⟩
theorem sub_one {s : List UInt8} {k : Nat} (hk : k < s.length) : (s.drop ((k : Int)).toNat).take (((k : Int) + 1).toNat - ((k : Int)).toNat) = [at_ s (k : Int)] := by
  rw [show ((k : Int) + 1).toNat - ((k : Int)).toNat = 1 by omega, Int.toNat_natCast, drop_at s hk]; rfl
theorem RefLiteral_any (s : List UInt8) (hs : s.length ≤ 1000000) (B w : World) (I : Im) (As : List Assn) (hS : Sat B w I As) :
    Calls Try.prog 18 [S s].toArray w (Ret fun u w' => u = S (lit s) ∧ Sat B w' I As) := by
  refine calls Try.func18 rfl Try.ntmps18 rfl ?_
  refine WC.seq ?_
  refine WC.region ?_
  refine WL.val (.assign (.of rfl)) rfl ?_
  refine WL.nil ?_
  refine WC.seq ?_
  refine WC.region ?_
  refine WL.val (.assign (.of rfl)) rfl ?_
  refine WL.nil ?_
  refine WC.seq ?_
  refine WC.seq ?_
  refine WC.region ?_
  refine WL.val (.assign (.of rfl)) rfl ?_
  refine WL.nil ?_
  refine WC.block ?_
  refine WC.loop (σ := Nat) (fun k => [(0, S s), (3, S (lit (s.take k))), (4, I64 (k : Nat))]) (fun k w => k ≤ s.length ∧ Sat B w I As) (fun k => s.length - k) 0 ⟨rfl, rfl, rfl, trivial⟩ ⟨Nat.zero_le _, hS⟩ ?_
  rintro k w ⟨hk, hS⟩
  change WC _ _ _ _ [(0, S s), (3, S (lit (s.take k))), (4, I64 (k : Nat))] w
  refine WC.seq ?_
  refine WC.seq ?_
  refine WC.region ?_
  refine WL.val (.move (.of rfl)) rfl ?_
  refine WL.val (.move (.of rfl)) rfl ?_
  refine WL.val (.len (.of rfl) Try.underlying9) rfl ?_
  refine WL.val (.lss (.of rfl) (.of rfl)) rfl ?_
  refine WL.nil ?_
  refine WC.cond rfl (fun hb9 => ?_) (fun hb9 => ?_)
  ·
    have hc9 := hb9; try simp only [decide_eq_true_eq, decide_eq_false_iff_not, beq_iff_eq, beq_eq_false_iff_ne, bne_iff_ne, Bool.not_eq_true', Bool.not_eq_false', Bool.or_eq_true, Bool.and_eq_true, Bool.or_eq_false_iff, Bool.and_eq_false_iff, ne_eq, Int.not_lt, Int.not_le, bne_eq_false_iff_eq, Bool.not_eq_true, Bool.not_eq_false] at hc9
    refine WC.skip ?_
    refine WC.seq ?_
    refine WC.block ?_
    refine WC.seq ?_
    have hk2 : k < s.length := by omega
    have hll := lit_len (s.take k)
    simp only [List.length_take] at hll
    refine WC.region ?_
    refine WL.val (.move (.of rfl)) rfl ?_
    refine WL.val (.move (.of rfl)) rfl ?_
    refine WL.val (.index (.of rfl) (.of rfl) (by omega) (by omega) Try.underlying9) rfl ?_
    refine WL.val (.assign (.of rfl)) rfl ?_
    refine WL.nil ?_
    refine WC.seq ?_
    refine WC.seq ?_
    refine WC.region ?_
    refine WL.val (.move (.of rfl)) rfl ?_
    refine WL.val (.eql (.of rfl) (.of rfl)) rfl ?_
    refine WL.val (.move (.of rfl)) rfl ?_
    refine WL.gval rfl rfl (fun hg1 => (.move (.of rfl))) rfl ?_
    refine WL.gval rfl rfl (fun hg1 => (.eql (.gd hg1 rfl) (.of rfl))) rfl ?_
    refine WL.val (.por (.of rfl) (.of rfl) (.of rfl)) rfl ?_
    refine WL.val (.move (.of rfl)) rfl ?_
    refine WL.gval rfl rfl (fun hg1 => (.move (.of rfl))) rfl ?_
    refine WL.gval rfl rfl (fun hg1 => (.eql (.gd hg1 rfl) (.of rfl))) rfl ?_
    refine WL.val (.por (.of rfl) (.of rfl) (.of rfl)) rfl ?_
    refine WL.val (.move (.of rfl)) rfl ?_
    refine WL.gval rfl rfl (fun hg1 => (.move (.of rfl))) rfl ?_
    refine WL.gval rfl rfl (fun hg1 => (.eql (.gd hg1 rfl) (.of rfl))) rfl ?_
    refine WL.val (.por (.of rfl) (.of rfl) (.of rfl)) rfl ?_
    refine WL.val (.move (.of rfl)) rfl ?_
    refine WL.gval rfl rfl (fun hg1 => (.move (.of rfl))) rfl ?_
    refine WL.gval rfl rfl (fun hg1 => (.eql (.gd hg1 rfl) (.of rfl))) rfl ?_
    refine WL.val (.por (.of rfl) (.of rfl) (.of rfl)) rfl ?_
    refine WL.val (.move (.of rfl)) rfl ?_
    refine WL.gval rfl rfl (fun hg1 => (.move (.of rfl))) rfl ?_
    refine WL.gval rfl rfl (fun hg1 => (.eql (.gd hg1 rfl) (.of rfl))) rfl ?_
    refine WL.val (.por (.of rfl) (.of rfl) (.of rfl)) rfl ?_
    refine WL.nil ?_
    refine WC.cond rfl (fun hb36 => ?_) (fun hb36 => ?_)
    ·
      have hc36 := hb36; try simp only [decide_eq_true_eq, decide_eq_false_iff_not, beq_iff_eq, beq_eq_false_iff_ne, bne_iff_ne, Bool.not_eq_true', Bool.not_eq_false', Bool.or_eq_true, Bool.and_eq_true, Bool.or_eq_false_iff, Bool.and_eq_false_iff, ne_eq, Int.not_lt, Int.not_le, bne_eq_false_iff_eq, Bool.not_eq_true, Bool.not_eq_false] at hc36
      refine WC.region ?_
      refine WL.val (.move (.of rfl)) rfl ?_
      refine WL.buildSlice (cs := [_]) hS (parts_cons (.of rfl) parts_nil) Try.underlying52 Try.sizeOf5 Try.zeroValue5 rfl rfl rfl rfl ?_
      clear hS; intro b38 w hS
      refine WL.val (.bytesStr (o := 0) (l := [92]) (.of rfl) hS (k := 0) rfl Try.underlying52 Try.underlying5 Try.underlying9 (fun j hj => by
        obtain rfl : j = 0 := by simp at hj; omega
        rfl)) rfl ?_
      replace hS := hS.drop (k := 0) rfl; try dsimp only [List.eraseIdx] at hS
      refine WL.val (.cat (.of rfl) (.of rfl) (by (try simp only [List.length_append, List.length_cons, List.length_nil]); omega)) rfl ?_
      refine WL.val (.assign (.of rfl)) rfl ?_
      refine WL.nil ?_
      refine WC.region ?_
      refine WL.val (.move (.of rfl)) rfl ?_
      refine WL.val (.move (.of rfl)) rfl ?_
      refine WL.val (.move (.of rfl)) rfl ?_
      refine WL.val (.move (.of rfl)) rfl ?_
      refine WL.val (.add (.of rfl) (.of rfl) ⟨by omega, by omega⟩) rfl ?_
      refine WL.val (.sub3 (.of rfl) (.of rfl) (.of rfl) (by omega) (by omega) (by omega) Try.underlying9) rfl ?_
      rw [sub_one hk2]
      refine WL.val (.cat (.of rfl) (.of rfl) (by (try simp only [List.length_append, List.length_cons, List.length_nil]); omega)) rfl ?_
      refine WL.val (.assign (.of rfl)) rfl ?_
      refine WL.nil ?_
      refine WC.region ?_
      refine WL.val (.move (.of rfl)) rfl ?_
      refine WL.val (.add (.of rfl) (.of rfl) ⟨by omega, by omega⟩) rfl ?_
      refine WL.val (.assign (.of rfl)) rfl ?_
      refine WL.nil ?_
      have hsp : spc (at_ s (k : Int)) = true := hb36
      refine ⟨k + 1, ⟨rfl, ?_, rfl, trivial⟩, ⟨by omega, hS⟩, by omega⟩
      rw [lit_take s hk2, hsp]
      show some (S (lit (s.take k) ++ [92] ++ [at_ s (k : Int)])) = some (S (lit (s.take k) ++ [92, at_ s (k : Int)]))
      rw [List.append_assoc]; rfl
    ·
      have hc36 := hb36; try simp only [decide_eq_true_eq, decide_eq_false_iff_not, beq_iff_eq, beq_eq_false_iff_ne, bne_iff_ne, Bool.not_eq_true', Bool.not_eq_false', Bool.or_eq_true, Bool.and_eq_true, Bool.or_eq_false_iff, Bool.and_eq_false_iff, ne_eq, Int.not_lt, Int.not_le, bne_eq_false_iff_eq, Bool.not_eq_true, Bool.not_eq_false] at hc36
      refine WC.skip ?_
      refine WC.region ?_
      refine WL.val (.move (.of rfl)) rfl ?_
      refine WL.val (.move (.of rfl)) rfl ?_
      refine WL.val (.move (.of rfl)) rfl ?_
      refine WL.val (.move (.of rfl)) rfl ?_
      refine WL.val (.add (.of rfl) (.of rfl) ⟨by omega, by omega⟩) rfl ?_
      refine WL.val (.sub3 (.of rfl) (.of rfl) (.of rfl) (by omega) (by omega) (by omega) Try.underlying9) rfl ?_
      rw [sub_one hk2]
      refine WL.val (.cat (.of rfl) (.of rfl) (by (try simp only [List.length_append, List.length_cons, List.length_nil]); omega)) rfl ?_
      refine WL.val (.assign (.of rfl)) rfl ?_
      refine WL.nil ?_
      refine WC.region ?_
      refine WL.val (.move (.of rfl)) rfl ?_
      refine WL.val (.add (.of rfl) (.of rfl) ⟨by omega, by omega⟩) rfl ?_
      refine WL.val (.assign (.of rfl)) rfl ?_
      refine WL.nil ?_
      have hsp : spc (at_ s (k : Int)) = false := hb36
      refine ⟨k + 1, ⟨rfl, ?_, rfl, trivial⟩, ⟨by omega, hS⟩, by omega⟩
      rw [lit_take s hk2, hsp]
      rfl
  ·
    have hc9 := hb9; try simp only [decide_eq_true_eq, decide_eq_false_iff_not, beq_iff_eq, beq_eq_false_iff_ne, bne_iff_ne, Bool.not_eq_true', Bool.not_eq_false', Bool.or_eq_true, Bool.and_eq_true, Bool.or_eq_false_iff, Bool.and_eq_false_iff, ne_eq, Int.not_lt, Int.not_le, bne_eq_false_iff_eq, Bool.not_eq_true, Bool.not_eq_false] at hc9
    refine WC.exit ?_
    refine WC.seq ?_
    refine WC.region ?_
    refine WL.val (.move (.of rfl)) rfl ?_
    refine WL.val (.assign (.of rfl)) rfl ?_
    refine WL.nil ?_
    refine WC.ret ?_
    refine ret1 Try.results18 rfl ?_
    rw [List.take_of_length_le (by omega)]
    exact ⟨_, rfl, rfl, hS⟩
end Go.Proofs.Ytigmejjkmoaimaa
