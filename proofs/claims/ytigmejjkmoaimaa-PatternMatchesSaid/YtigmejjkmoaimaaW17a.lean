/- Chapter 17: what the reference's functions compute. -/
import Derived.Test.YtigmejjkmoaimaaGkF
import Derived.Test.YtigmejjkmoaimaaChecked
import Derived.Test.YtigmejjkmoaimaaPat
namespace Go.Proofs.Ytigmejjkmoaimaa
open Gk Pat
set_option linter.unusedVariables false
set_option linter.unusedSimpArgs false

theorem takes_any (kind : Int) (own c : UInt8) (w : World) :
    Calls Try.prog 35 [I64 kind, U8 own.toNat, U8 c.toNat].toArray w (Ret fun v w' => v = .bool (takes kind own c) ∧ w = w') := by
  refine calls Try.func35 rfl Try.ntmps35 rfl ?_
  refine WC.seq ?_
  refine WC.region ?_
  refine WL.val (.assign (.of rfl)) rfl ?_
  refine WL.nil ?_
  refine WC.seq ?_
  refine WC.region ?_
  refine WL.val (.move (.of rfl)) rfl ?_
  refine WL.val (.eql (.of rfl) (.of rfl)) rfl ?_
  refine WL.val (.move (.of rfl)) rfl ?_
  refine WL.gval rfl rfl (fun hg1 => (.move (.of rfl))) rfl ?_
  refine WL.gval rfl rfl (fun hg1 => (.eql (.gd hg1 rfl) (.of rfl))) rfl ?_
  refine WL.gval rfl rfl (fun hg1 => (.move (.gd hg1 rfl))) rfl ?_
  refine WL.gval2 rfl rfl rfl (fun hg1 hg2 => (.move (.of rfl))) rfl ?_
  refine WL.gval2 rfl rfl rfl (fun hg1 hg2 => (.neq (.gd2 hg1 hg2 rfl) (.of rfl))) rfl ?_
  refine WL.gval rfl rfl (fun hg1 => (.pand (.gd hg1 rfl) (.gd hg1 rfl) (.of rfl))) rfl ?_
  refine WL.val (.por (.of rfl) (.of rfl) (.of rfl)) rfl ?_
  refine WL.val (.move (.of rfl)) rfl ?_
  refine WL.gval rfl rfl (fun hg1 => (.move (.of rfl))) rfl ?_
  refine WL.gval rfl rfl (fun hg1 => (.eql (.gd hg1 rfl) (.of rfl))) rfl ?_
  refine WL.gval rfl rfl (fun hg1 => (.move (.gd hg1 rfl))) rfl ?_
  refine WL.gval2 rfl rfl rfl (fun hg1 hg2 => (.move (.of rfl))) rfl ?_
  refine WL.gval2 rfl rfl rfl (fun hg1 hg2 => (.move (.of rfl))) rfl ?_
  refine WL.gval2 rfl rfl rfl (fun hg1 hg2 => (.eql (.gd2 hg1 hg2 rfl) (.gd2 hg1 hg2 rfl))) rfl ?_
  refine WL.gval rfl rfl (fun hg1 => (.pand (.gd hg1 rfl) (.gd hg1 rfl) (.of rfl))) rfl ?_
  refine WL.val (.por (.of rfl) (.of rfl) (.of rfl)) rfl ?_
  refine WL.val (.assign (.of rfl)) rfl ?_
  refine WL.nil ?_
  refine WC.ret ?_
  refine ret1 Try.results35 rfl ?_
  exact ⟨_, rfl, rfl, rfl⟩
set_option maxHeartbeats 400000 in
theorem ends_any (s : List UInt8) (fr : List Bool) (p : Addr) (c : Nat) (kind : Int) (own : UInt8) (many : Bool) (B w : World) (I : Im) (As : List Assn) (hS : Sat B w I As) (hp : At I p (fr.map Value.bool)) (hl : fr.length = s.length + 1) (hb : s.length ≤ 1000000) :
    Calls Try.prog 31 [S s, .slice (some p) fr.length c, I64 kind, U8 own.toNat, .bool many].toArray w (Ret fun v w' => ∃ J q, Le I J ∧ v = .slice (some q) (s.length + 1) (s.length + 1) ∧ At J q ((ends s fr kind own many).map Value.bool) ∧ Sat B w' J As) := by
  refine calls Try.func31 rfl Try.ntmps31 rfl ?_
  refine WC.seq ?_
  refine WC.region ?_
  refine WL.val (.assign (.of rfl)) rfl ?_
  refine WL.nil ?_
  refine WC.seq ?_
  refine WC.region ?_
  refine WL.val (.move (.of rfl)) rfl ?_
  refine WL.val (.len (.of rfl) Try.underlying9) rfl ?_
  refine WL.val (.add (.of rfl) (.of rfl) ⟨by omega, by omega⟩) rfl ?_
  refine WL.make (l := s.length + 1) hS (.of rfl) (.of rfl) Try.underlying49 Try.type4 rfl (by simp [Try.t4]; omega) (by omega) rfl rfl rfl ?_
  clear hS; intro b17 w hS
  refine WL.val (.assign (.of rfl)) rfl ?_
  refine WL.nil ?_
  refine WC.seq ?_
  refine WC.seq ?_
  refine WC.region ?_
  refine WL.val (.assign (.of rfl)) rfl ?_
  refine WL.nil ?_
  refine WC.block ?_
  refine WC.loop (σ := Nat) (fun k => [(0, S s), (1, .slice (some p) fr.length c), (2, I64 kind), (3, U8 own.toNat), (4, .bool many), (11, .slice (some (ad b17 0)) (s.length + 1) (s.length + 1)), (12, I64 (k : Nat))]) (fun k w => k ≤ s.length + 1 ∧ Sat B w I (blk b17 ((iter (endAt s fr kind own many) (List.replicate (s.length + 1) false) k).map Value.bool ++ []) 4 :: As)) (fun k => s.length + 1 - k) 0 ⟨rfl, rfl, rfl, rfl, rfl, rfl, rfl, trivial⟩ ⟨Nat.zero_le _, by rw [iter, List.map_replicate, List.append_nil]; exact hS⟩ ?_
  rintro k w ⟨hk, hS⟩
  change WC _ _ _ _ [(0, S s), (1, .slice (some p) fr.length c), (2, I64 kind), (3, U8 own.toNat), (4, .bool many), (11, .slice (some (ad b17 0)) (s.length + 1) (s.length + 1)), (12, I64 (k : Nat))] w
  have ho := endIter_length s fr kind own many (List.replicate (s.length + 1) false) k
  rw [List.length_replicate] at ho
  refine WC.seq ?_
  refine WC.seq ?_
  refine WC.region ?_
  refine WL.val (.move (.of rfl)) rfl ?_
  refine WL.val (.move (.of rfl)) rfl ?_
  refine WL.val (.len (.of rfl) Try.underlying9) rfl ?_
  refine WL.val (.leq (.of rfl) (.of rfl)) rfl ?_
  refine WL.nil ?_
  refine WC.cond rfl (fun hb21 => ?_) (fun hb21 => ?_)
  ·
    have hc21 := hb21; try simp only [decide_eq_true_eq, decide_eq_false_iff_not, beq_iff_eq, beq_eq_false_iff_ne, bne_iff_ne, Bool.not_eq_true', Bool.not_eq_false', Bool.or_eq_true, Bool.and_eq_true, Bool.or_eq_false_iff, Bool.and_eq_false_iff, ne_eq, Int.not_lt, Int.not_le, bne_eq_false_iff_eq, Bool.not_eq_true, Bool.not_eq_false] at hc21
    refine WC.skip ?_
    refine WC.seq ?_
    refine WC.block ?_
    refine WC.cutS (σ := Unit) (fun u => [(0, S s), (1, .slice (some p) fr.length c), (2, I64 kind), (3, U8 own.toNat), (4, .bool many), (11, .slice (some (ad b17 0)) (s.length + 1) (s.length + 1)), (12, I64 (k : Nat))]) (fun u w => Sat B w I (blk b17 ((end1 fr many (iter (endAt s fr kind own many) (List.replicate (s.length + 1) false) k) k).map Value.bool ++ []) 4 :: As)) ?_ ?_
    ·
      refine WC.seq ?_
      refine WC.region ?_
      refine WL.val (.move (.of rfl)) rfl ?_
      refine WL.val (.move (.of rfl)) rfl ?_
      refine WL.gval rfl rfl (fun hg1 => (.move (.of rfl))) rfl ?_
      refine WL.gval rfl rfl (fun hg1 => (.move (.of rfl))) rfl ?_
      refine WL.gval rfl rfl (fun hg1 => (by first | exact .indexAddr (.gd hg1 rfl) (.gd hg1 rfl) (by (try simp only [decide_eq_true_eq, decide_eq_false_iff_not, beq_iff_eq, beq_eq_false_iff_ne, bne_iff_ne, Bool.not_eq_true', Bool.not_eq_false', Bool.or_eq_true, Bool.and_eq_true, Bool.or_eq_false_iff, Bool.and_eq_false_iff, ne_eq, Int.not_lt, Int.not_le, bne_eq_false_iff_eq, Bool.not_eq_true, Bool.not_eq_false] at hg1); omega) (by (try simp only [decide_eq_true_eq, decide_eq_false_iff_not, beq_iff_eq, beq_eq_false_iff_ne, bne_iff_ne, Bool.not_eq_true', Bool.not_eq_false', Bool.or_eq_true, Bool.and_eq_true, Bool.or_eq_false_iff, Bool.and_eq_false_iff, ne_eq, Int.not_lt, Int.not_le, bne_eq_false_iff_eq, Bool.not_eq_true, Bool.not_eq_false] at hg1); omega) Try.underlying49 Try.sizeOf4 | exact .indexAddrI (.gd hg1 rfl) (.gd hg1 rfl) (by (try simp only [decide_eq_true_eq, decide_eq_false_iff_not, beq_iff_eq, beq_eq_false_iff_ne, bne_iff_ne, Bool.not_eq_true', Bool.not_eq_false', Bool.or_eq_true, Bool.and_eq_true, Bool.or_eq_false_iff, Bool.and_eq_false_iff, ne_eq, Int.not_lt, Int.not_le, bne_eq_false_iff_eq, Bool.not_eq_true, Bool.not_eq_false] at hg1); omega) (by (try simp only [decide_eq_true_eq, decide_eq_false_iff_not, beq_iff_eq, beq_eq_false_iff_ne, bne_iff_ne, Bool.not_eq_true', Bool.not_eq_false', Bool.or_eq_true, Bool.and_eq_true, Bool.or_eq_false_iff, Bool.and_eq_false_iff, ne_eq, Int.not_lt, Int.not_le, bne_eq_false_iff_eq, Bool.not_eq_true, Bool.not_eq_false] at hg1); omega) Try.underlying49 Try.sizeOf4)) rfl ?_
      refine WL.gval rfl rfl (fun hg1 => .ldEI .bool fr false (.gd hg1 rfl) hS hp rfl Try.isAgg4 (by omega) (by omega)) rfl ?_
      refine WL.val (.pand (.of rfl) (.of rfl) (.of rfl)) rfl ?_
      refine WL.nil ?_
      refine WC.cond rfl (fun hb30 => ?_) (fun hb30 => ?_)
      ·
        have hc30 := hb30; try simp only [decide_eq_true_eq, decide_eq_false_iff_not, beq_iff_eq, beq_eq_false_iff_ne, bne_iff_ne, Bool.not_eq_true', Bool.not_eq_false', Bool.or_eq_true, Bool.and_eq_true, Bool.or_eq_false_iff, Bool.and_eq_false_iff, ne_eq, Int.not_lt, Int.not_le, bne_eq_false_iff_eq, Bool.not_eq_true, Bool.not_eq_false] at hc30
        refine WC.region ?_
        refine WL.val (.move (.of rfl)) rfl ?_
        refine WL.val (.move (.of rfl)) rfl ?_
        first | refine WL.val (.indexAddr (.of rfl) (.of rfl) (by omega) (by omega) Try.underlying49 Try.sizeOf4) rfl ?_ | refine WL.val (.indexAddrI (.of rfl) (.of rfl) (by omega) (by omega) Try.underlying49 Try.sizeOf4) rfl ?_
        refine WL.stE .bool (iter (endAt s fr kind own many) (List.replicate (s.length + 1) false) k) [] (u := true) hS (k := 0) rfl (.of rfl) (.of rfl) rfl rfl Try.sizeOf4 (by omega) (by omega) ?_
        clear hS; intro w hS; dsimp only [List.set] at hS
        refine WL.nil ?_
        refine ⟨(), ⟨rfl, rfl, rfl, rfl, rfl, rfl, rfl, trivial⟩, ?_⟩
        rw [end1, hb30]; exact hS
      ·
        have hc30 := hb30; try simp only [decide_eq_true_eq, decide_eq_false_iff_not, beq_iff_eq, beq_eq_false_iff_ne, bne_iff_ne, Bool.not_eq_true', Bool.not_eq_false', Bool.or_eq_true, Bool.and_eq_true, Bool.or_eq_false_iff, Bool.and_eq_false_iff, ne_eq, Int.not_lt, Int.not_le, bne_eq_false_iff_eq, Bool.not_eq_true, Bool.not_eq_false] at hc30
        refine WC.skip ?_
        refine ⟨(), ⟨rfl, rfl, rfl, rfl, rfl, rfl, rfl, trivial⟩, ?_⟩
        rw [end1, hb30]; exact hS
    ·
      rintro u w hS
      change WC _ _ _ _ [(0, S s), (1, .slice (some p) fr.length c), (2, I64 kind), (3, U8 own.toNat), (4, .bool many), (11, .slice (some (ad b17 0)) (s.length + 1) (s.length + 1)), (12, I64 (k : Nat))] w
      have ho1 := end1_length fr many (iter (endAt s fr kind own many) (List.replicate (s.length + 1) false) k) k
      rw [ho] at ho1
      obtain ⟨o1, ho1e⟩ : ∃ o1, o1 = end1 fr many (iter (endAt s fr kind own many) (List.replicate (s.length + 1) false) k) k := ⟨_, rfl⟩
      rw [← ho1e] at hS ho1
      refine WC.seq ?_
      refine WC.region ?_
      refine WL.val (.move (.of rfl)) rfl ?_
      refine WL.val (.gtr (.of rfl) (.of rfl)) rfl ?_
      refine WL.nil ?_
      refine WC.cond rfl (fun hb35 => ?_) (fun hb35 => ?_)
      ·
        have hc35 := hb35; try simp only [decide_eq_true_eq, decide_eq_false_iff_not, beq_iff_eq, beq_eq_false_iff_ne, bne_iff_ne, Bool.not_eq_true', Bool.not_eq_false', Bool.or_eq_true, Bool.and_eq_true, Bool.or_eq_false_iff, Bool.and_eq_false_iff, ne_eq, Int.not_lt, Int.not_le, bne_eq_false_iff_eq, Bool.not_eq_true, Bool.not_eq_false] at hc35
        refine WC.seq ?_
        refine WC.region ?_
        refine WL.val (.move (.of rfl)) rfl ?_
        refine WL.val (.move (.of rfl)) rfl ?_
        refine WL.val (.move (.of rfl)) rfl ?_
        refine WL.val (.move (.of rfl)) rfl ?_
        refine WL.val (.sub (.of rfl) (.of rfl) ⟨by omega, by omega⟩) rfl ?_
        refine WL.val (.index (.of rfl) (.of rfl) (by omega) (by omega) Try.underlying9) rfl ?_
        refine WL.call Try.func35 rfl (evs_cons (.of rfl) (evs_cons (.of rfl) (evs_cons (.of rfl) evs_nil))) rfl (takes_any _ _ _ _) ?_
        rintro _ _ ⟨rfl, rfl⟩
        refine WL.val (.assign (.of rfl)) rfl ?_
        refine WL.nil ?_
        refine WC.seq ?_
        refine WC.region ?_
        refine WL.val (.move (.of rfl)) rfl ?_
        refine WL.val (.move (.of rfl)) rfl ?_
        refine WL.gval rfl rfl (fun hg1 => (.move (.of rfl))) rfl ?_
        refine WL.gval rfl rfl (fun hg1 => (.move (.of rfl))) rfl ?_
        refine WL.gval rfl rfl (fun hg1 => (.sub (.gd hg1 rfl) (.of rfl) ⟨by omega, by omega⟩)) rfl ?_
        refine WL.gval rfl rfl (fun hg1 => (by first | exact .indexAddr (.gd hg1 rfl) (.gd hg1 rfl) (by (try simp only [decide_eq_true_eq, decide_eq_false_iff_not, beq_iff_eq, beq_eq_false_iff_ne, bne_iff_ne, Bool.not_eq_true', Bool.not_eq_false', Bool.or_eq_true, Bool.and_eq_true, Bool.or_eq_false_iff, Bool.and_eq_false_iff, ne_eq, Int.not_lt, Int.not_le, bne_eq_false_iff_eq, Bool.not_eq_true, Bool.not_eq_false] at hg1); omega) (by (try simp only [decide_eq_true_eq, decide_eq_false_iff_not, beq_iff_eq, beq_eq_false_iff_ne, bne_iff_ne, Bool.not_eq_true', Bool.not_eq_false', Bool.or_eq_true, Bool.and_eq_true, Bool.or_eq_false_iff, Bool.and_eq_false_iff, ne_eq, Int.not_lt, Int.not_le, bne_eq_false_iff_eq, Bool.not_eq_true, Bool.not_eq_false] at hg1); omega) Try.underlying49 Try.sizeOf4 | exact .indexAddrI (.gd hg1 rfl) (.gd hg1 rfl) (by (try simp only [decide_eq_true_eq, decide_eq_false_iff_not, beq_iff_eq, beq_eq_false_iff_ne, bne_iff_ne, Bool.not_eq_true', Bool.not_eq_false', Bool.or_eq_true, Bool.and_eq_true, Bool.or_eq_false_iff, Bool.and_eq_false_iff, ne_eq, Int.not_lt, Int.not_le, bne_eq_false_iff_eq, Bool.not_eq_true, Bool.not_eq_false] at hg1); omega) (by (try simp only [decide_eq_true_eq, decide_eq_false_iff_not, beq_iff_eq, beq_eq_false_iff_ne, bne_iff_ne, Bool.not_eq_true', Bool.not_eq_false', Bool.or_eq_true, Bool.and_eq_true, Bool.or_eq_false_iff, Bool.and_eq_false_iff, ne_eq, Int.not_lt, Int.not_le, bne_eq_false_iff_eq, Bool.not_eq_true, Bool.not_eq_false] at hg1); omega) Try.underlying49 Try.sizeOf4)) rfl ?_
        refine WL.gval rfl rfl (fun hg1 => .ldEI .bool fr false (.gd hg1 rfl) hS hp rfl Try.isAgg4 (by omega) (by omega)) rfl ?_
        refine WL.gval rfl rfl (fun hg1 => (.move (.gd hg1 rfl))) rfl ?_
        refine WL.gval2 rfl rfl rfl (fun hg1 hg2 => (.move (.of rfl))) rfl ?_
        refine WL.gval2 rfl rfl rfl (fun hg1 hg2 => (.move (.gd2 hg1 hg2 rfl))) rfl ?_
        refine WL.gval3 rfl rfl rfl (fun hg1 hg2 hg3 => (.move (.of rfl))) rfl ?_
        refine WL.gval3 rfl rfl rfl (fun hg1 hg2 hg3 => (.move (.of rfl))) rfl ?_
        refine WL.gval3 rfl rfl rfl (fun hg1 hg2 hg3 => (.sub (.gd3 hg1 hg2 hg3 rfl) (.of rfl) ⟨by omega, by omega⟩)) rfl ?_
        refine WL.gval3 rfl rfl rfl (fun hg1 hg2 hg3 => (by first | exact .indexAddr (.gd3 hg1 hg2 hg3 rfl) (.gd3 hg1 hg2 hg3 rfl) (by (try simp only [decide_eq_true_eq, decide_eq_false_iff_not, beq_iff_eq, beq_eq_false_iff_ne, bne_iff_ne, Bool.not_eq_true', Bool.not_eq_false', Bool.or_eq_true, Bool.and_eq_true, Bool.or_eq_false_iff, Bool.and_eq_false_iff, ne_eq, Int.not_lt, Int.not_le, bne_eq_false_iff_eq, Bool.not_eq_true, Bool.not_eq_false] at hg1 hg2 hg3); omega) (by (try simp only [decide_eq_true_eq, decide_eq_false_iff_not, beq_iff_eq, beq_eq_false_iff_ne, bne_iff_ne, Bool.not_eq_true', Bool.not_eq_false', Bool.or_eq_true, Bool.and_eq_true, Bool.or_eq_false_iff, Bool.and_eq_false_iff, ne_eq, Int.not_lt, Int.not_le, bne_eq_false_iff_eq, Bool.not_eq_true, Bool.not_eq_false] at hg1 hg2 hg3); omega) Try.underlying49 Try.sizeOf4 | exact .indexAddrI (.gd3 hg1 hg2 hg3 rfl) (.gd3 hg1 hg2 hg3 rfl) (by (try simp only [decide_eq_true_eq, decide_eq_false_iff_not, beq_iff_eq, beq_eq_false_iff_ne, bne_iff_ne, Bool.not_eq_true', Bool.not_eq_false', Bool.or_eq_true, Bool.and_eq_true, Bool.or_eq_false_iff, Bool.and_eq_false_iff, ne_eq, Int.not_lt, Int.not_le, bne_eq_false_iff_eq, Bool.not_eq_true, Bool.not_eq_false] at hg1 hg2 hg3); omega) (by (try simp only [decide_eq_true_eq, decide_eq_false_iff_not, beq_iff_eq, beq_eq_false_iff_ne, bne_iff_ne, Bool.not_eq_true', Bool.not_eq_false', Bool.or_eq_true, Bool.and_eq_true, Bool.or_eq_false_iff, Bool.and_eq_false_iff, ne_eq, Int.not_lt, Int.not_le, bne_eq_false_iff_eq, Bool.not_eq_true, Bool.not_eq_false] at hg1 hg2 hg3); omega) Try.underlying49 Try.sizeOf4)) rfl ?_
        refine WL.gval3 rfl rfl rfl (fun hg1 hg2 hg3 => .ldE .bool o1 false [] (.gd3 hg1 hg2 hg3 rfl) hS (k := 0) rfl rfl Try.isAgg4 (by omega) (by omega)) rfl ?_
        refine WL.gval2 rfl rfl rfl (fun hg1 hg2 => (.pand (.gd2 hg1 hg2 rfl) (.gd2 hg1 hg2 rfl) (.of rfl))) rfl ?_
        refine WL.gval rfl rfl (fun hg1 => (.por (.gd hg1 rfl) (.of rfl) (.gd hg1 rfl))) rfl ?_
        refine WL.val (.pand (.of rfl) (.of rfl) (.of rfl)) rfl ?_
        refine WL.nil ?_
        refine WC.cond rfl (fun hb60 => ?_) (fun hb60 => ?_)
        ·
          have hc60 := hb60; try simp only [decide_eq_true_eq, decide_eq_false_iff_not, beq_iff_eq, beq_eq_false_iff_ne, bne_iff_ne, Bool.not_eq_true', Bool.not_eq_false', Bool.or_eq_true, Bool.and_eq_true, Bool.or_eq_false_iff, Bool.and_eq_false_iff, ne_eq, Int.not_lt, Int.not_le, bne_eq_false_iff_eq, Bool.not_eq_true, Bool.not_eq_false] at hc60
          refine WC.region ?_
          refine WL.val (.move (.of rfl)) rfl ?_
          refine WL.val (.move (.of rfl)) rfl ?_
          first | refine WL.val (.indexAddr (.of rfl) (.of rfl) (by omega) (by omega) Try.underlying49 Try.sizeOf4) rfl ?_ | refine WL.val (.indexAddrI (.of rfl) (.of rfl) (by omega) (by omega) Try.underlying49 Try.sizeOf4) rfl ?_
          refine WL.stE .bool o1 [] (u := true) hS (k := 0) rfl (.of rfl) (.of rfl) rfl rfl Try.sizeOf4 (by omega) (by omega) ?_
          clear hS; intro w hS; dsimp only [List.set] at hS
          refine WL.nil ?_
          refine WC.region ?_
          refine WL.val (.move (.of rfl)) rfl ?_
          refine WL.val (.add (.of rfl) (.of rfl) ⟨by omega, by omega⟩) rfl ?_
          refine WL.val (.assign (.of rfl)) rfl ?_
          refine WL.nil ?_
          refine ⟨k + 1, ⟨rfl, rfl, rfl, rfl, rfl, rfl, rfl, trivial⟩, ⟨by omega, ?_⟩, by omega⟩
          have e : iter (endAt s fr kind own many) (List.replicate (s.length + 1) false) (k + 1) = o1.set (k : Int).toNat true := by
            rw [iter, endAt, ← ho1e]
            simp only [end2]
            rw [hb60, hb35]; rfl
          rw [e]; exact hS
        ·
          have hc60 := hb60; try simp only [decide_eq_true_eq, decide_eq_false_iff_not, beq_iff_eq, beq_eq_false_iff_ne, bne_iff_ne, Bool.not_eq_true', Bool.not_eq_false', Bool.or_eq_true, Bool.and_eq_true, Bool.or_eq_false_iff, Bool.and_eq_false_iff, ne_eq, Int.not_lt, Int.not_le, bne_eq_false_iff_eq, Bool.not_eq_true, Bool.not_eq_false] at hc60
          refine WC.skip ?_
          refine WC.region ?_
          refine WL.val (.move (.of rfl)) rfl ?_
          refine WL.val (.add (.of rfl) (.of rfl) ⟨by omega, by omega⟩) rfl ?_
          refine WL.val (.assign (.of rfl)) rfl ?_
          refine WL.nil ?_
          refine ⟨k + 1, ⟨rfl, rfl, rfl, rfl, rfl, rfl, rfl, trivial⟩, ⟨by omega, ?_⟩, by omega⟩
          have e : iter (endAt s fr kind own many) (List.replicate (s.length + 1) false) (k + 1) = o1 := by
            rw [iter, endAt, ← ho1e]
            simp only [end2]
            rw [hb60, hb35]; rfl
          rw [e]; exact hS
      ·
        have hc35 := hb35; try simp only [decide_eq_true_eq, decide_eq_false_iff_not, beq_iff_eq, beq_eq_false_iff_ne, bne_iff_ne, Bool.not_eq_true', Bool.not_eq_false', Bool.or_eq_true, Bool.and_eq_true, Bool.or_eq_false_iff, Bool.and_eq_false_iff, ne_eq, Int.not_lt, Int.not_le, bne_eq_false_iff_eq, Bool.not_eq_true, Bool.not_eq_false] at hc35
        refine WC.skip ?_
        refine WC.region ?_
        refine WL.val (.move (.of rfl)) rfl ?_
        refine WL.val (.add (.of rfl) (.of rfl) ⟨by omega, by omega⟩) rfl ?_
        refine WL.val (.assign (.of rfl)) rfl ?_
        refine WL.nil ?_
        refine ⟨k + 1, ⟨rfl, rfl, rfl, rfl, rfl, rfl, rfl, trivial⟩, ⟨by omega, ?_⟩, by omega⟩
        have e : iter (endAt s fr kind own many) (List.replicate (s.length + 1) false) (k + 1) = o1 := by
          rw [iter, endAt, ← ho1e]
          simp only [end2]
          rw [hb35]; rfl
        rw [e]; exact hS
  ·
    have hc21 := hb21; try simp only [decide_eq_true_eq, decide_eq_false_iff_not, beq_iff_eq, beq_eq_false_iff_ne, bne_iff_ne, Bool.not_eq_true', Bool.not_eq_false', Bool.or_eq_true, Bool.and_eq_true, Bool.or_eq_false_iff, Bool.and_eq_false_iff, ne_eq, Int.not_lt, Int.not_le, bne_eq_false_iff_eq, Bool.not_eq_true, Bool.not_eq_false] at hc21
    refine WC.exit ?_
    refine WC.seq ?_
    refine WC.region ?_
    refine WL.val (.move (.of rfl)) rfl ?_
    refine WL.val (.assign (.of rfl)) rfl ?_
    refine WL.nil ?_
    refine WC.ret ?_
    refine ret1 Try.results31 rfl ?_
    obtain rfl : k = s.length + 1 := by omega
    obtain ⟨J, hJ, hb, hS⟩ := hS.freeze (k := 0) rfl
    refine ⟨_, rfl, J, _, hJ, rfl, ⟨rfl, _, _, _, hb, ?_⟩, hS⟩
    intro j v hj
    rw [List.append_nil, ← ends] 
    simpa using hj
set_option maxHeartbeats 400000 in
theorem Check_any (l : List UInt8) (B w : World) (I : Im) (As : List Assn) (hS : Sat B w I As) (hl : l.length ≤ 140737488351232) :
    Calls Try.prog 12 [S l].toArray w (Ret fun v w' => v = .tuple #[I64 (chk l).1, I64 (chk l).2] ∧ Sat B w' I As) := by
  refine calls Try.func12 rfl Try.ntmps12 rfl ?_
  refine WC.seq ?_
  refine WC.region ?_
  refine WL.val (.assign (.of rfl)) rfl ?_
  refine WL.val (.assign (.of rfl)) rfl ?_
  refine WL.nil ?_
  refine WC.seq ?_
  refine WC.seq ?_
  refine WC.region ?_
  refine WL.val (.move (.of rfl)) rfl ?_
  refine WL.val (.len (.of rfl) Try.underlying9) rfl ?_
  refine WL.val (.gtr (.of rfl) (.of rfl)) rfl ?_
  refine WL.nil ?_
  refine WC.cond rfl (fun hb8 => ?_) (fun hb8 => ?_)
  ·
    have hc8 := hb8; try simp only [decide_eq_true_eq, decide_eq_false_iff_not, beq_iff_eq, beq_eq_false_iff_ne, bne_iff_ne, Bool.not_eq_true', Bool.not_eq_false', Bool.or_eq_true, Bool.and_eq_true, Bool.or_eq_false_iff, Bool.and_eq_false_iff, ne_eq, Int.not_lt, Int.not_le, bne_eq_false_iff_eq, Bool.not_eq_true, Bool.not_eq_false] at hc8
    refine WC.seq ?_
    refine WC.region ?_
    refine WL.val (.assign (.of rfl)) rfl ?_
    refine WL.val (.assign (.of rfl)) rfl ?_
    refine WL.nil ?_
    refine WC.ret ?_
    refine ret2 Try.results12 rfl rfl ?_
    exact ⟨_, rfl, by rw [chk, if_pos (by omega)], hS⟩
  ·
    have hc8 := hb8; try simp only [decide_eq_true_eq, decide_eq_false_iff_not, beq_iff_eq, beq_eq_false_iff_ne, bne_iff_ne, Bool.not_eq_true', Bool.not_eq_false', Bool.or_eq_true, Bool.and_eq_true, Bool.or_eq_false_iff, Bool.and_eq_false_iff, ne_eq, Int.not_lt, Int.not_le, bne_eq_false_iff_eq, Bool.not_eq_true, Bool.not_eq_false] at hc8
    refine WC.skip ?_
    refine WC.seq ?_
    refine WC.region ?_
    refine WL.val (.assign (.of rfl)) rfl ?_
    refine WL.nil ?_
    refine WC.seq ?_
    refine WC.seq ?_
    refine WC.region ?_
    refine WL.val (.assign (.of rfl)) rfl ?_
    refine WL.nil ?_
    refine WC.block ?_
    refine WC.loop (σ := Nat × Option Addr × Nat × List Int) (fun ⟨k, a, c, o⟩ => [(0, S l), (4, .slice a o.length c), (5, I64 (k : Nat))]) (fun ⟨k, a, c, o⟩ w => k ≤ l.length ∧ o.length ≤ 4 ∧ chkGo (l.drop k) k o = chk l ∧ Sat B w I (Vec 3 1 (.slice a o.length c) o.length (o.map I64) :: As)) (fun ⟨k, a, c, o⟩ => l.length - k) (0, none, 0, []) ⟨rfl, rfl, rfl, trivial⟩ ⟨Nat.zero_le _, Nat.zero_le _, by rw [chk, if_neg (by omega)]; rfl, hS.vecNil _ _⟩ ?_
    rintro ⟨k, a, c, o⟩ w ⟨hk, ho4, hq, hS⟩
    change WC _ _ _ _ [(0, S l), (4, .slice a o.length c), (5, I64 (k : Nat))] w
    have hcap := hS.vecCap (k := 0) rfl
    refine WC.seq ?_
    refine WC.seq ?_
    refine WC.region ?_
    refine WL.val (.move (.of rfl)) rfl ?_
    refine WL.val (.move (.of rfl)) rfl ?_
    refine WL.val (.len (.of rfl) Try.underlying9) rfl ?_
    refine WL.val (.lss (.of rfl) (.of rfl)) rfl ?_
    refine WL.nil ?_
    refine WC.cond rfl (fun hb12 => ?_) (fun hb12 => ?_)
    ·
      have hc12 := hb12; try simp only [decide_eq_true_eq, decide_eq_false_iff_not, beq_iff_eq, beq_eq_false_iff_ne, bne_iff_ne, Bool.not_eq_true', Bool.not_eq_false', Bool.or_eq_true, Bool.and_eq_true, Bool.or_eq_false_iff, Bool.and_eq_false_iff, ne_eq, Int.not_lt, Int.not_le, bne_eq_false_iff_eq, Bool.not_eq_true, Bool.not_eq_false] at hc12
      refine WC.skip ?_
      refine WC.seq ?_
      refine WC.block ?_
      refine WC.seq ?_
      refine WC.region ?_
      refine WL.val (.move (.of rfl)) rfl ?_
      refine WL.val (.move (.of rfl)) rfl ?_
      refine WL.val (.index (.of rfl) (.of rfl) (by omega) (by omega) Try.underlying9) rfl ?_
      refine WL.nil ?_
      refine WC.block ?_
      refine WC.seq ?_
      refine WC.region ?_
      refine WL.val (.eql (.of rfl) (.of rfl)) rfl ?_
      refine WL.val (.assign (.of rfl)) rfl ?_
      refine WL.nil ?_
      refine WC.cond rfl (fun hb18 => ?_) (fun hb18 => ?_)
      ·
        have hc18 := hb18; try simp only [decide_eq_true_eq, decide_eq_false_iff_not, beq_iff_eq, beq_eq_false_iff_ne, bne_iff_ne, Bool.not_eq_true', Bool.not_eq_false', Bool.or_eq_true, Bool.and_eq_true, Bool.or_eq_false_iff, Bool.and_eq_false_iff, ne_eq, Int.not_lt, Int.not_le, bne_eq_false_iff_eq, Bool.not_eq_true, Bool.not_eq_false] at hc18
        refine WC.seq ?_
        refine WC.seq ?_
        refine WC.region ?_
        refine WL.val (.move (.of rfl)) rfl ?_
        refine WL.val (.lenSlice (.of rfl) Try.underlying40) rfl ?_
        refine WL.val (.eql (.of rfl) (.of rfl)) rfl ?_
        refine WL.nil ?_
        refine WC.cond rfl (fun hb22 => ?_) (fun hb22 => ?_)
        ·
          have hc22 := hb22; try simp only [decide_eq_true_eq, decide_eq_false_iff_not, beq_iff_eq, beq_eq_false_iff_ne, bne_iff_ne, Bool.not_eq_true', Bool.not_eq_false', Bool.or_eq_true, Bool.and_eq_true, Bool.or_eq_false_iff, Bool.and_eq_false_iff, ne_eq, Int.not_lt, Int.not_le, bne_eq_false_iff_eq, Bool.not_eq_true, Bool.not_eq_false] at hc22
          refine WC.seq ?_
          refine WC.region ?_
          refine WL.val (.move (.of rfl)) rfl ?_
          refine WL.val (.assign (.of rfl)) rfl ?_
          refine WL.val (.assign (.of rfl)) rfl ?_
          refine WL.nil ?_
          refine WC.ret ?_
          refine ret2 Try.results12 rfl rfl ?_
          have e9 : chk l = (24, (k : Int)) := by rw [← hq, drop_at l (by omega), chkGo_cons, if_pos (by omega), if_pos (by omega)]
          exact ⟨_, rfl, by rw [e9], hS.drop (k := 0) rfl⟩
        ·
          have hc22 := hb22; try simp only [decide_eq_true_eq, decide_eq_false_iff_not, beq_iff_eq, beq_eq_false_iff_ne, bne_iff_ne, Bool.not_eq_true', Bool.not_eq_false', Bool.or_eq_true, Bool.and_eq_true, Bool.or_eq_false_iff, Bool.and_eq_false_iff, ne_eq, Int.not_lt, Int.not_le, bne_eq_false_iff_eq, Bool.not_eq_true, Bool.not_eq_false] at hc22
          refine WC.skip ?_
          refine WC.region ?_
          refine WL.buildSlice (cs := []) hS parts_nil Try.underlying40 Try.sizeOf3 Try.zeroValue3 rfl rfl rfl rfl ?_
          clear hS; intro b24 w hS
          have hS := hS.vecOf (k := 0) (E := 3) (size := 1) (n := 0) rfl rfl (by unfold maxLen; omega); dsimp only [List.set] at hS
          refine WL.val (.move (.of rfl)) rfl ?_
          refine WL.appendV (size := 1) (bytes := 8) hS (.of rfl) (.of rfl) (k := 0) (j := 1) rfl rfl Try.underlying40 Try.type3 rfl rfl rfl rfl (one_i64 _) ⟨by omega, by unfold maxLen; omega⟩ rfl ?_
          clear hS; intro v26 w hS; dsimp only [List.set] at hS
          refine WL.val (.move (.of rfl)) rfl ?_
          refine WL.buildSlice (cs := [_]) hS (parts_cons (.of rfl) parts_nil) Try.underlying40 Try.sizeOf3 Try.zeroValue3 rfl rfl rfl rfl ?_
          clear hS; intro b28 w hS
          skip
          first | refine WL.append (size := 1) (bytes := 8) hS (.of rfl) (.of rfl) (k := 0) rfl Try.underlying40 Try.type3 rfl rfl rfl rfl rfl rfl rfl ⟨by omega, by unfold maxLen; omega⟩ rfl ?_ | refine WL.append (size := 1) (bytes := 8) hS (.of rfl) (.of rfl) (k := 1) rfl Try.underlying40 Try.type3 rfl rfl rfl rfl rfl rfl rfl ⟨by omega, by unfold maxLen; omega⟩ rfl ?_
          clear hS; intro v29 w hS; try dsimp only [List.set] at hS
          first | obtain ⟨a29, c29, rfl, hcap29, _⟩ := hS.vecSlice (k := 0) (v := v29) rfl | obtain ⟨a29, c29, rfl, hcap29, _⟩ := hS.vecSlice (k := 1) (v := v29) rfl
          have hS := hS.drop (k := 1) rfl; dsimp only [List.eraseIdx] at hS
          have e8 : 0 + o.length + 1 = (o ++ [(k : Int)]).length := by simp
          rw [e8] at hS ⊢
          refine WL.val (.assign (.of rfl)) rfl ?_
          refine WL.nil ?_
          refine WC.region ?_
          refine WL.val (.move (.of rfl)) rfl ?_
          refine WL.val (.add (.of rfl) (.of rfl) ⟨by omega, by omega⟩) rfl ?_
          refine WL.val (.assign (.of rfl)) rfl ?_
          refine WL.nil ?_
          refine ⟨(k + 1, a29, c29, o ++ [(k : Int)]), ⟨rfl, rfl, rfl, trivial⟩, ⟨by omega, by simp; omega, ?_, by simpa using hS⟩, by dsimp only; omega⟩
          have e9 := hq
          rw [drop_at l (by omega), chkGo_cons, if_pos (by omega), if_neg (by omega)] at e9
          exact e9
      ·
        have hc18 := hb18; try simp only [decide_eq_true_eq, decide_eq_false_iff_not, beq_iff_eq, beq_eq_false_iff_ne, bne_iff_ne, Bool.not_eq_true', Bool.not_eq_false', Bool.or_eq_true, Bool.and_eq_true, Bool.or_eq_false_iff, Bool.and_eq_false_iff, ne_eq, Int.not_lt, Int.not_le, bne_eq_false_iff_eq, Bool.not_eq_true, Bool.not_eq_false] at hc18
        refine WC.seq ?_
        refine WC.region ?_
        refine WL.val (.eql (.of rfl) (.of rfl)) rfl ?_
        refine WL.val (.assign (.of rfl)) rfl ?_
        refine WL.nil ?_
        refine WC.cond rfl (fun hb30 => ?_) (fun hb30 => ?_)
        ·
          have hc30 := hb30; try simp only [decide_eq_true_eq, decide_eq_false_iff_not, beq_iff_eq, beq_eq_false_iff_ne, bne_iff_ne, Bool.not_eq_true', Bool.not_eq_false', Bool.or_eq_true, Bool.and_eq_true, Bool.or_eq_false_iff, Bool.and_eq_false_iff, ne_eq, Int.not_lt, Int.not_le, bne_eq_false_iff_eq, Bool.not_eq_true, Bool.not_eq_false] at hc30
          refine WC.seq ?_
          refine WC.seq ?_
          refine WC.region ?_
          refine WL.val (.move (.of rfl)) rfl ?_
          refine WL.val (.lenSlice (.of rfl) Try.underlying40) rfl ?_
          refine WL.val (.eql (.of rfl) (.of rfl)) rfl ?_
          refine WL.nil ?_
          refine WC.cond rfl (fun hb34 => ?_) (fun hb34 => ?_)
          ·
            have hc34 := hb34; try simp only [decide_eq_true_eq, decide_eq_false_iff_not, beq_iff_eq, beq_eq_false_iff_ne, bne_iff_ne, Bool.not_eq_true', Bool.not_eq_false', Bool.or_eq_true, Bool.and_eq_true, Bool.or_eq_false_iff, Bool.and_eq_false_iff, ne_eq, Int.not_lt, Int.not_le, bne_eq_false_iff_eq, Bool.not_eq_true, Bool.not_eq_false] at hc34
            refine WC.seq ?_
            refine WC.region ?_
            refine WL.val (.move (.of rfl)) rfl ?_
            refine WL.val (.assign (.of rfl)) rfl ?_
            refine WL.val (.assign (.of rfl)) rfl ?_
            refine WL.nil ?_
            refine WC.ret ?_
            refine ret2 Try.results12 rfl rfl ?_
            have e9 : chk l = (10, (k : Int)) := by rw [← hq, drop_at l (by omega), chkGo_cons, if_neg (by omega), if_pos (by omega), if_pos (by omega)]
            exact ⟨_, rfl, by rw [e9], hS.drop (k := 0) rfl⟩
          ·
            have hc34 := hb34; try simp only [decide_eq_true_eq, decide_eq_false_iff_not, beq_iff_eq, beq_eq_false_iff_ne, bne_iff_ne, Bool.not_eq_true', Bool.not_eq_false', Bool.or_eq_true, Bool.and_eq_true, Bool.or_eq_false_iff, Bool.and_eq_false_iff, ne_eq, Int.not_lt, Int.not_le, bne_eq_false_iff_eq, Bool.not_eq_true, Bool.not_eq_false] at hc34
            refine WC.skip ?_
            refine WC.region ?_
            refine WL.val (.move (.of rfl)) rfl ?_
            refine WL.val (.move (.of rfl)) rfl ?_
            refine WL.val (.lenSlice (.of rfl) Try.underlying40) rfl ?_
            refine WL.val (.sub (.of rfl) (.of rfl) ⟨by omega, by omega⟩) rfl ?_
            refine WL.val (.slcTo (.of rfl) (.of rfl) (by omega) (by omega) Try.underlying40 Try.sizeOf3) rfl ?_
            obtain ⟨a2, c2, e2, hS⟩ := hS.vecTakeI (k := 0) (f := I64) (m := ((o.length : Int) - 1).toNat) rfl (by omega)
            rw [e2]; dsimp only [List.set] at hS
            refine WL.val (.assign (.of rfl)) rfl ?_
            refine WL.nil ?_
            refine WC.region ?_
            refine WL.val (.move (.of rfl)) rfl ?_
            refine WL.val (.add (.of rfl) (.of rfl) ⟨by omega, by omega⟩) rfl ?_
            refine WL.val (.assign (.of rfl)) rfl ?_
            refine WL.nil ?_
            refine ⟨(k + 1, a2, c2, o.take ((o.length : Int) - 1).toNat), ⟨rfl, rfl, rfl, trivial⟩, ⟨by omega, by simp; omega, ?_, hS⟩, by dsimp only; omega⟩
            have e9 := hq
            rw [drop_at l (by omega), chkGo_cons, if_neg (by omega), if_pos (by omega), if_neg (by omega)] at e9
            rw [show ((o.length : Int) - 1).toNat = o.length - 1 by omega]
            exact e9
        ·
          have hc30 := hb30; try simp only [decide_eq_true_eq, decide_eq_false_iff_not, beq_iff_eq, beq_eq_false_iff_ne, bne_iff_ne, Bool.not_eq_true', Bool.not_eq_false', Bool.or_eq_true, Bool.and_eq_true, Bool.or_eq_false_iff, Bool.and_eq_false_iff, ne_eq, Int.not_lt, Int.not_le, bne_eq_false_iff_eq, Bool.not_eq_true, Bool.not_eq_false] at hc30
          refine WC.seq ?_
          refine WC.region ?_
          refine WL.val (.eql (.of rfl) (.of rfl)) rfl ?_
          refine WL.val (.assign (.of rfl)) rfl ?_
          refine WL.nil ?_
          refine WC.cond rfl (fun hb41 => ?_) (fun hb41 => ?_)
          ·
            have hc41 := hb41; try simp only [decide_eq_true_eq, decide_eq_false_iff_not, beq_iff_eq, beq_eq_false_iff_ne, bne_iff_ne, Bool.not_eq_true', Bool.not_eq_false', Bool.or_eq_true, Bool.and_eq_true, Bool.or_eq_false_iff, Bool.and_eq_false_iff, ne_eq, Int.not_lt, Int.not_le, bne_eq_false_iff_eq, Bool.not_eq_true, Bool.not_eq_false] at hc41
            refine WC.seq ?_
            refine WC.region ?_
            refine WL.val (.move (.of rfl)) rfl ?_
            refine WL.val (.lenSlice (.of rfl) Try.underlying40) rfl ?_
            refine WL.val (.eql (.of rfl) (.of rfl)) rfl ?_
            refine WL.nil ?_
            refine WC.cond rfl (fun hb45 => ?_) (fun hb45 => ?_)
            ·
              have hc45 := hb45; try simp only [decide_eq_true_eq, decide_eq_false_iff_not, beq_iff_eq, beq_eq_false_iff_ne, bne_iff_ne, Bool.not_eq_true', Bool.not_eq_false', Bool.or_eq_true, Bool.and_eq_true, Bool.or_eq_false_iff, Bool.and_eq_false_iff, ne_eq, Int.not_lt, Int.not_le, bne_eq_false_iff_eq, Bool.not_eq_true, Bool.not_eq_false] at hc45
              refine WC.seq ?_
              refine WC.region ?_
              refine WL.val (.move (.of rfl)) rfl ?_
              refine WL.val (.assign (.of rfl)) rfl ?_
              refine WL.val (.assign (.of rfl)) rfl ?_
              refine WL.nil ?_
              refine WC.ret ?_
              refine ret2 Try.results12 rfl rfl ?_
              have e9 : chk l = (10, (k : Int)) := by rw [← hq, drop_at l (by omega), chkGo_cons, if_neg (by omega), if_neg (by omega), if_pos (by omega), if_pos (by omega)]
              exact ⟨_, rfl, by rw [e9], hS.drop (k := 0) rfl⟩
            ·
              have hc45 := hb45; try simp only [decide_eq_true_eq, decide_eq_false_iff_not, beq_iff_eq, beq_eq_false_iff_ne, bne_iff_ne, Bool.not_eq_true', Bool.not_eq_false', Bool.or_eq_true, Bool.and_eq_true, Bool.or_eq_false_iff, Bool.and_eq_false_iff, ne_eq, Int.not_lt, Int.not_le, bne_eq_false_iff_eq, Bool.not_eq_true, Bool.not_eq_false] at hc45
              refine WC.skip ?_
              refine WC.region ?_
              refine WL.val (.move (.of rfl)) rfl ?_
              refine WL.val (.add (.of rfl) (.of rfl) ⟨by omega, by omega⟩) rfl ?_
              refine WL.val (.assign (.of rfl)) rfl ?_
              refine WL.nil ?_
              refine ⟨(k + 1, a, c, o), ⟨rfl, rfl, rfl, trivial⟩, ⟨by omega, by omega, ?_, hS⟩, by dsimp only; omega⟩
              have e9 := hq
              rw [drop_at l (by omega), chkGo_cons, if_neg (by omega), if_neg (by omega), if_pos (by omega), if_neg (by omega)] at e9
              exact e9
          ·
            have hc41 := hb41; try simp only [decide_eq_true_eq, decide_eq_false_iff_not, beq_iff_eq, beq_eq_false_iff_ne, bne_iff_ne, Bool.not_eq_true', Bool.not_eq_false', Bool.or_eq_true, Bool.and_eq_true, Bool.or_eq_false_iff, Bool.and_eq_false_iff, ne_eq, Int.not_lt, Int.not_le, bne_eq_false_iff_eq, Bool.not_eq_true, Bool.not_eq_false] at hc41
            refine WC.seq ?_
            refine WC.region ?_
            refine WL.val (.eql (.of rfl) (.of rfl)) rfl ?_
            refine WL.val (.assign (.of rfl)) rfl ?_
            refine WL.nil ?_
            refine WC.cond rfl (fun hb47 => ?_) (fun hb47 => ?_)
            ·
              have hc47 := hb47; try simp only [decide_eq_true_eq, decide_eq_false_iff_not, beq_iff_eq, beq_eq_false_iff_ne, bne_iff_ne, Bool.not_eq_true', Bool.not_eq_false', Bool.or_eq_true, Bool.and_eq_true, Bool.or_eq_false_iff, Bool.and_eq_false_iff, ne_eq, Int.not_lt, Int.not_le, bne_eq_false_iff_eq, Bool.not_eq_true, Bool.not_eq_false] at hc47
              refine WC.seq ?_
              refine WC.seq ?_
              refine WC.region ?_
              refine WL.val (.move (.of rfl)) rfl ?_
              refine WL.val (.add (.of rfl) (.of rfl) ⟨by omega, by omega⟩) rfl ?_
              refine WL.val (.move (.of rfl)) rfl ?_
              refine WL.val (.len (.of rfl) Try.underlying9) rfl ?_
              refine WL.val (.eql (.of rfl) (.of rfl)) rfl ?_
              refine WL.nil ?_
              refine WC.cond rfl (fun hb53 => ?_) (fun hb53 => ?_)
              ·
                have hc53 := hb53; try simp only [decide_eq_true_eq, decide_eq_false_iff_not, beq_iff_eq, beq_eq_false_iff_ne, bne_iff_ne, Bool.not_eq_true', Bool.not_eq_false', Bool.or_eq_true, Bool.and_eq_true, Bool.or_eq_false_iff, Bool.and_eq_false_iff, ne_eq, Int.not_lt, Int.not_le, bne_eq_false_iff_eq, Bool.not_eq_true, Bool.not_eq_false] at hc53
                refine WC.seq ?_
                refine WC.region ?_
                refine WL.val (.move (.of rfl)) rfl ?_
                refine WL.val (.assign (.of rfl)) rfl ?_
                refine WL.val (.assign (.of rfl)) rfl ?_
                refine WL.nil ?_
                refine WC.ret ?_
                refine ret2 Try.results12 rfl rfl ?_
                have e9 : chk l = (10, (k : Int)) := by rw [← hq, drop_at l (by omega), chkGo_cons, if_neg (by omega), if_neg (by omega), if_neg (by omega), if_pos (by omega), List.drop_of_length_le (by omega)]
                exact ⟨_, rfl, by rw [e9], hS.drop (k := 0) rfl⟩
              ·
                have hc53 := hb53; try simp only [decide_eq_true_eq, decide_eq_false_iff_not, beq_iff_eq, beq_eq_false_iff_ne, bne_iff_ne, Bool.not_eq_true', Bool.not_eq_false', Bool.or_eq_true, Bool.and_eq_true, Bool.or_eq_false_iff, Bool.and_eq_false_iff, ne_eq, Int.not_lt, Int.not_le, bne_eq_false_iff_eq, Bool.not_eq_true, Bool.not_eq_false] at hc53
                refine WC.skip ?_
                refine WC.region ?_
                refine WL.val (.move (.of rfl)) rfl ?_
                refine WL.val (.add (.of rfl) (.of rfl) ⟨by omega, by omega⟩) rfl ?_
                refine WL.val (.assign (.of rfl)) rfl ?_
                refine WL.nil ?_
                refine WC.region ?_
                refine WL.val (.move (.of rfl)) rfl ?_
                refine WL.val (.add (.of rfl) (.of rfl) ⟨by omega, by omega⟩) rfl ?_
                refine WL.val (.assign (.of rfl)) rfl ?_
                refine WL.nil ?_
                refine ⟨(k + 2, a, c, o), ⟨rfl, rfl, rfl, trivial⟩, ⟨by omega, by omega, ?_, hS⟩, by dsimp only; omega⟩
                have e9 := hq
                rw [drop_at l (by omega), chkGo_cons, if_neg (by omega), if_neg (by omega), if_neg (by omega), if_pos (by omega), drop_at l (k := k + 1) (by omega)] at e9
                exact e9
            ·
              have hc47 := hb47; try simp only [decide_eq_true_eq, decide_eq_false_iff_not, beq_iff_eq, beq_eq_false_iff_ne, bne_iff_ne, Bool.not_eq_true', Bool.not_eq_false', Bool.or_eq_true, Bool.and_eq_true, Bool.or_eq_false_iff, Bool.and_eq_false_iff, ne_eq, Int.not_lt, Int.not_le, bne_eq_false_iff_eq, Bool.not_eq_true, Bool.not_eq_false] at hc47
              refine WC.skip ?_
              refine WC.region ?_
              refine WL.val (.move (.of rfl)) rfl ?_
              refine WL.val (.add (.of rfl) (.of rfl) ⟨by omega, by omega⟩) rfl ?_
              refine WL.val (.assign (.of rfl)) rfl ?_
              refine WL.nil ?_
              refine ⟨(k + 1, a, c, o), ⟨rfl, rfl, rfl, trivial⟩, ⟨by omega, by omega, ?_, hS⟩, by dsimp only; omega⟩
              have e9 := hq
              rw [drop_at l (by omega), chkGo_cons, if_neg (by omega), if_neg (by omega), if_neg (by omega), if_neg (by omega)] at e9
              exact e9
    ·
      have hc12 := hb12; try simp only [decide_eq_true_eq, decide_eq_false_iff_not, beq_iff_eq, beq_eq_false_iff_ne, bne_iff_ne, Bool.not_eq_true', Bool.not_eq_false', Bool.or_eq_true, Bool.and_eq_true, Bool.or_eq_false_iff, Bool.and_eq_false_iff, ne_eq, Int.not_lt, Int.not_le, bne_eq_false_iff_eq, Bool.not_eq_true, Bool.not_eq_false] at hc12
      refine WC.exit ?_
      refine WC.seq ?_
      refine WC.seq ?_
      refine WC.region ?_
      refine WL.val (.move (.of rfl)) rfl ?_
      refine WL.val (.lenSlice (.of rfl) Try.underlying40) rfl ?_
      refine WL.val (.gtr (.of rfl) (.of rfl)) rfl ?_
      refine WL.nil ?_
      refine WC.cond rfl (fun hb59 => ?_) (fun hb59 => ?_)
      ·
        have hc59 := hb59; try simp only [decide_eq_true_eq, decide_eq_false_iff_not, beq_iff_eq, beq_eq_false_iff_ne, bne_iff_ne, Bool.not_eq_true', Bool.not_eq_false', Bool.or_eq_true, Bool.and_eq_true, Bool.or_eq_false_iff, Bool.and_eq_false_iff, ne_eq, Int.not_lt, Int.not_le, bne_eq_false_iff_eq, Bool.not_eq_true, Bool.not_eq_false] at hc59
        refine WC.seq ?_
        obtain ⟨b8, c8, r, hv8, _, _, _, _, hS⟩ := hS.vecOpen (k := 0) rfl (by omega)
        injection hv8 with hv8 _ hv9; subst hv8; subst hv9
        dsimp only [List.set] at hS
        refine WC.quiet (by kernel_rfl) (by kernel_rfl) hS ?_
        refine WQ.val (fun w hS => (.move (.of rfl))) rfl ?_
        refine WQ.val (fun w hS => (.move (.of rfl))) rfl ?_
        refine WQ.val (fun w hS => (.lenSlice (.of rfl) Try.underlying40)) rfl ?_
        refine WQ.val (fun w hS => (.sub (.of rfl) (.of rfl) ⟨by omega, by omega⟩)) rfl ?_
        refine WQ.val (fun w hS => (by first | exact .indexAddr (.of rfl) (.of rfl) (by omega) (by omega) Try.underlying40 Try.sizeOf3 | exact .indexAddrI (.of rfl) (.of rfl) (by omega) (by omega) Try.underlying40 Try.sizeOf3)) rfl ?_
        refine WQ.val (fun w hS => .ldE I64 o 0 r (.of rfl) hS (k := 0) rfl rfl Try.isAgg3 (by omega) (by omega)) rfl ?_
        refine WQ.val (fun w hS => (.assign (.of rfl))) rfl ?_
        refine WQ.val (fun w hS => (.assign (.of rfl))) rfl ?_
        refine WQ.nil ?_
        clear hS; intro w hS
        refine WC.ret ?_
        refine ret2 Try.results12 rfl rfl ?_
        have e9 : chk l = (23, o.getD ((o.length : Int) - 1).toNat 0) := by rw [← hq, show ((o.length : Int) - 1).toNat = o.length - 1 by omega, List.drop_of_length_le (by omega), chkGo_nil, if_pos (by omega)]
        exact ⟨_, rfl, by rw [e9], hS.drop (k := 0) rfl⟩
      ·
        have hc59 := hb59; try simp only [decide_eq_true_eq, decide_eq_false_iff_not, beq_iff_eq, beq_eq_false_iff_ne, bne_iff_ne, Bool.not_eq_true', Bool.not_eq_false', Bool.or_eq_true, Bool.and_eq_true, Bool.or_eq_false_iff, Bool.and_eq_false_iff, ne_eq, Int.not_lt, Int.not_le, bne_eq_false_iff_eq, Bool.not_eq_true, Bool.not_eq_false] at hc59
        refine WC.skip ?_
        refine WC.seq ?_
        refine WC.region ?_
        refine WL.val (.assign (.of rfl)) rfl ?_
        refine WL.val (.assign (.of rfl)) rfl ?_
        refine WL.nil ?_
        refine WC.ret ?_
        refine ret2 Try.results12 rfl rfl ?_
        have e9 : chk l = (0, 0) := by rw [← hq, List.drop_of_length_le (by omega), chkGo_nil, if_neg (by omega)]
        exact ⟨_, rfl, by rw [e9], hS.drop (k := 0) rfl⟩
end Go.Proofs.Ytigmejjkmoaimaa
