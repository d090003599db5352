/- Chapter 17: matching. -/
import Derived.Test.YtigmejjkmoaimaaW17c
import Derived.Test.YtigmejjkmoaimaaPatN
import Derived.Test.YtigmejjkmoaimaaGkH
namespace Go.Proofs.Ytigmejjkmoaimaa
open Gk Pat
set_option linter.unusedVariables false
set_option linter.unusedSimpArgs false
theorem getD_mem {l : List Int} {k : Nat} (h : k < l.length) : l.getD k 0 ∈ l := by
  rw [List.getD_eq_getElem?_getD, List.getElem?_eq_getElem h]; exact List.getElem_mem h
theorem unset_len (l : List Bool) : unset l ≤ l.length := List.countP_le_length

set_option maxHeartbeats 800000 in
theorem add_any (Q : List Pl) (p : Addr) (nn n : Nat) (hW : WF Q) (hn : Q.length = n) (hn2 : n ≤ 100000) : ∀ (f : Nat) (set : List Bool) (i : Int) (b c : Nat) (r : List Value) (B w : World) (I : Im) (As : List Assn),
    Sat B w I (blk b (set.map Value.bool ++ r) 4 :: As) → PatI I p Q nn → set.length = n → 0 ≤ i → i < n → unset set < f →
    Calls Try.prog 29 [.pointer (some p), .slice (some (ad b 0)) n c, I64 i].toArray w (Ret fun v w' => v = .tuple #[] ∧ Sat B w' I (blk b ((addP Q f set i.toNat).map Value.bool ++ r) 4 :: As)) := by
  intro f
  induction f with
  | zero => intros; omega
  | succ f ih =>
    intro set i b c r B w I As hS hp hset hi0 hi1 hf
    refine calls Try.func29 rfl Try.ntmps29 rfl ?_
    refine WC.seq ?_
    refine WC.seq ?_
    refine WC.region ?_
    refine WL.val (.move (.of rfl)) rfl ?_
    refine WL.val (.move (.of rfl)) rfl ?_
    first | refine WL.val (.indexAddr (.of rfl) (.of rfl) (by omega) (by omega) Try.underlying49 Try.sizeOf4) rfl ?_ | refine WL.val (.indexAddrI (.of rfl) (.of rfl) (by omega) (by omega) Try.underlying49 Try.sizeOf4) rfl ?_
    refine WL.val (.ldE .bool set false r (.of rfl) hS (k := 0) rfl rfl Try.isAgg4 (by omega) (by omega)) rfl ?_
    refine WL.nil ?_
    refine WC.cond rfl (fun hb12 => ?_) (fun hb12 => ?_)
    ·
      have hc12 := hb12; try simp only [decide_eq_true_eq, decide_eq_false_iff_not, beq_iff_eq, beq_eq_false_iff_ne, bne_iff_ne, Bool.not_eq_true', Bool.not_eq_false', Bool.or_eq_true, Bool.and_eq_true, Bool.or_eq_false_iff, Bool.and_eq_false_iff, ne_eq, Int.not_lt, Int.not_le, bne_eq_false_iff_eq, Bool.not_eq_true, Bool.not_eq_false] at hc12
      refine WC.ret ?_
      refine ret0 Try.results29 ?_
      exact ⟨_, rfl, rfl, by rw [addP, hb12]; exact hS⟩
    ·
      have hc12 := hb12; try simp only [decide_eq_true_eq, decide_eq_false_iff_not, beq_iff_eq, beq_eq_false_iff_ne, bne_iff_ne, Bool.not_eq_true', Bool.not_eq_false', Bool.or_eq_true, Bool.and_eq_true, Bool.or_eq_false_iff, Bool.and_eq_false_iff, ne_eq, Int.not_lt, Int.not_le, bne_eq_false_iff_eq, Bool.not_eq_true, Bool.not_eq_false] at hc12
      refine WC.skip ?_
      refine WC.seq ?_
      refine WC.region ?_
      refine WL.val (.move (.of rfl)) rfl ?_
      refine WL.val (.move (.of rfl)) rfl ?_
      first | refine WL.val (.indexAddr (.of rfl) (.of rfl) (by omega) (by omega) Try.underlying49 Try.sizeOf4) rfl ?_ | refine WL.val (.indexAddrI (.of rfl) (.of rfl) (by omega) (by omega) Try.underlying49 Try.sizeOf4) rfl ?_
      refine WL.stE .bool set r (u := true) hS (k := 0) rfl (.of rfl) (.of rfl) rfl rfl Try.sizeOf4 (by omega) (by omega) ?_
      clear hS; intro w hS; dsimp only [List.set] at hS
      refine WL.nil ?_
      refine WC.seq ?_
      obtain ⟨la, lc, P, hpA, hlA, hR⟩ := hp.opened (by omega)
      obtain ⟨xa, xc, hx, xp, hxp⟩ := hR.at_ (i := i.toNat) (by omega)
      have hus := unset_set (s := set) (i := i.toNat) (by omega) hb12
      have hto := (hW.at_ (i := i.toNat) (by omega)).2.2.2.2
      refine WC.region ?_
      refine WL.val (.move (.of rfl)) rfl ?_
      refine WL.val (.nilCheck (.of rfl)) rfl ?_
      first | refine WL.val (.fieldAddr 0 (.of rfl) Try.underlying46 rfl rfl Try.sizeOf38 rfl) rfl ?_ | refine WL.val (.fieldAddrI 0 (.of rfl) Try.underlying46 rfl rfl Try.sizeOf38 rfl) rfl ?_
      refine WL.val (.ldI (.of rfl) hS hpA Try.isAgg38 rfl) rfl ?_
      refine WL.val (.move (.of rfl)) rfl ?_
      first | refine WL.val (.indexAddr (.of rfl) (.of rfl) (by omega) (by omega) Try.underlying38 Try.sizeOf61) rfl ?_ | refine WL.val (.indexAddrI (.of rfl) (.of rfl) (by omega) (by omega) Try.underlying38 Try.sizeOf61) rfl ?_
      refine WL.val (.ldsI (us := [_, _, _]) (.of rfl) hS (Pat.At.place hlA hx) Try.isAgg61 Try.sizeOf61 rfl (fun _ _ h => h)) rfl ?_
      refine WL.allocA (cs := [_, _, _]) hS Try.zeroValue61 rfl ?_
      clear hS; intro b6 w hS
      first | refine WL.stA hS (k := 0) rfl (.of rfl) (.of rfl) rfl Try.sizeOf61 rfl (by simp) ?_ | refine WL.stA hS (k := 1) rfl (.of rfl) (.of rfl) rfl Try.sizeOf61 rfl (by simp) ?_
      clear hS; intro w hS; try dsimp only [List.set] at hS
      refine WL.nil ?_
      refine WC.seq ?_
      refine WC.seq ?_
      refine WC.region ?_
      first | refine WL.val (.fieldAddr 2 (.of rfl) Try.underlying61 rfl rfl Try.sizeOf40 rfl) rfl ?_ | refine WL.val (.fieldAddrI 2 (.of rfl) Try.underlying61 rfl rfl Try.sizeOf40 rfl) rfl ?_
      first | refine WL.val (.ld (.of rfl) hS (k := 0) rfl Try.isAgg40 rfl) rfl ?_ | refine WL.val (.ld (.of rfl) hS (k := 1) rfl Try.isAgg40 rfl) rfl ?_
      refine WL.val (.lenSlice (.of rfl) Try.underlying40) rfl ?_
      refine WL.val (.move (.of rfl)) rfl ?_
      refine WL.nil ?_
      refine WC.block ?_
      refine WC.loop (σ := Nat) (fun k => [(0, .pointer (some p)), (1, .slice (some (ad b 0)) n c), (2, I64 i), (6, ptr b6 0), (24, .slice xa (Q.getD i.toNat (7, 0, [])).2.2.length xc), (25, I64 (Q.getD i.toNat (7, 0, [])).2.2.length), (26, I64 (k : Nat))]) (fun k w => k ≤ (Q.getD i.toNat (7, 0, [])).2.2.length ∧ Sat B w I (blk b6 [.int .u8 (Q.getD i.toNat (7, 0, [])).1, .int .u8 (Q.getD i.toNat (7, 0, [])).2.1, .slice xa (Q.getD i.toNat (7, 0, [])).2.2.length xc] 61 :: blk b ((((Q.getD i.toNat (7, 0, [])).2.2.take k).foldl (fun s t => addP Q f s t.toNat) (set.set i.toNat true)).map Value.bool ++ r) 4 :: As)) (fun k => (Q.getD i.toNat (7, 0, [])).2.2.length - k) 0 ⟨rfl, rfl, rfl, rfl, rfl, rfl, rfl, trivial⟩ ⟨Nat.zero_le _, hS⟩ ?_
      rintro k w ⟨hk, hS⟩
      change WC _ _ _ _ [(0, .pointer (some p)), (1, .slice (some (ad b 0)) n c), (2, I64 i), (6, ptr b6 0), (24, .slice xa (Q.getD i.toNat (7, 0, [])).2.2.length xc), (25, I64 (Q.getD i.toNat (7, 0, [])).2.2.length), (26, I64 (k : Nat))] w
      have hsub := fold_sub Q f ((Q.getD i.toNat (7, 0, [])).2.2.take k) (set.set i.toNat true)
      obtain ⟨S1, hS1⟩ : ∃ S1, S1 = ((Q.getD i.toNat (7, 0, [])).2.2.take k).foldl (fun s t => addP Q f s t.toNat) (set.set i.toNat true) := ⟨_, rfl⟩
      rw [← hS1] at hS hsub
      refine WC.seq ?_
      refine WC.region ?_
      refine WL.val (.lss (.of rfl) (.of rfl)) rfl ?_
      refine WL.nil ?_
      refine WC.seq ?_
      refine WC.cond rfl (fun hb27 => ?_) (fun hb27 => ?_)
      ·
        have hc27 := hb27; try simp only [decide_eq_true_eq, decide_eq_false_iff_not, beq_iff_eq, beq_eq_false_iff_ne, bne_iff_ne, Bool.not_eq_true', Bool.not_eq_false', Bool.or_eq_true, Bool.and_eq_true, Bool.or_eq_false_iff, Bool.and_eq_false_iff, ne_eq, Int.not_lt, Int.not_le, bne_eq_false_iff_eq, Bool.not_eq_true, Bool.not_eq_false] at hc27
        refine WC.skip ?_
        refine WC.seq ?_
        refine WC.block ?_
        refine WC.seq ?_
        obtain ⟨hxp1, hxA⟩ := hxp (by omega)
        rw [hxp1] at hS ⊢
        refine WC.region ?_
        first | refine WL.val (.indexAddr (.of rfl) (.of rfl) (by omega) (by omega) Try.underlying40 Try.sizeOf3) rfl ?_ | refine WL.val (.indexAddrI (.of rfl) (.of rfl) (by omega) (by omega) Try.underlying40 Try.sizeOf3) rfl ?_
        refine WL.val (.ldEI I64 (Q.getD i.toNat (7, 0, [])).2.2 0 (.of rfl) hS hxA rfl Try.isAgg3 (by omega) (by omega)) rfl ?_
        refine WL.val (.assign (.of rfl)) rfl ?_
        refine WL.nil ?_
        refine WC.region ?_
        refine WL.val (.move (.of rfl)) rfl ?_
        refine WL.val (.move (.of rfl)) rfl ?_
        refine WL.val (.move (.of rfl)) rfl ?_
        replace hS := hS.pick 1 rfl; try dsimp only [List.eraseIdx] at hS
        have ht := (hW.at_ (i := i.toNat) (by omega)).1 ((Q.getD i.toNat (7, 0, [])).2.2.getD k 0) (getD_mem (by omega))
        refine WL.call Try.func29 rfl (evs_cons (.of rfl) (evs_cons (.of rfl) (evs_cons (.of rfl) evs_nil))) rfl (ih S1 ((Q.getD i.toNat (7, 0, [])).2.2.getD k 0) b c r B w I _ hS hp (by have := hsub.1; simp at this; omega) ht.1 (by omega) (by have := unset_le hsub; omega)) ?_
        clear hS
        rintro _ w ⟨rfl, hS⟩
        replace hS := hS.pick 1 rfl; try dsimp only [List.eraseIdx] at hS
        refine WL.nil ?_
        refine WC.region ?_
        refine WL.val (.add (.of rfl) (.of rfl) ⟨by omega, by omega⟩) rfl ?_
        refine WL.val (.move (.of rfl)) rfl ?_
        refine WL.nil ?_
        refine ⟨k + 1, ⟨rfl, rfl, rfl, rfl, rfl, rfl, rfl, trivial⟩, ⟨by omega, ?_⟩, by omega⟩
        rw [take_fold _ _ _ _ 0 (by omega), ← hS1]; exact hS
      ·
        have hc27 := hb27; try simp only [decide_eq_true_eq, decide_eq_false_iff_not, beq_iff_eq, beq_eq_false_iff_ne, bne_iff_ne, Bool.not_eq_true', Bool.not_eq_false', Bool.or_eq_true, Bool.and_eq_true, Bool.or_eq_false_iff, Bool.and_eq_false_iff, ne_eq, Int.not_lt, Int.not_le, bne_eq_false_iff_eq, Bool.not_eq_true, Bool.not_eq_false] at hc27
        refine WC.exit ?_
        refine WC.seq ?_
        refine WC.region ?_
        first | refine WL.val (.fieldAddr 0 (.of rfl) Try.underlying61 rfl rfl Try.sizeOf5 rfl) rfl ?_ | refine WL.val (.fieldAddrI 0 (.of rfl) Try.underlying61 rfl rfl Try.sizeOf5 rfl) rfl ?_
        first | refine WL.val (.ld (.of rfl) hS (k := 0) rfl Try.isAgg5 rfl) rfl ?_ | refine WL.val (.ld (.of rfl) hS (k := 1) rfl Try.isAgg5 rfl) rfl ?_
        refine WL.val (.eql (.of rfl) (.of rfl)) rfl ?_
        refine WL.val (.move (.of rfl)) rfl ?_
        refine WL.gval rfl rfl (fun hg1 => (by first | exact .fieldAddr 0 (.of rfl) Try.underlying61 rfl rfl Try.sizeOf5 rfl | exact .fieldAddrI 0 (.of rfl) Try.underlying61 rfl rfl Try.sizeOf5 rfl)) rfl ?_
        refine WL.gval rfl rfl (fun hg1 => (by first | exact (.ld (.gd hg1 rfl) hS (k := 0) rfl Try.isAgg5 rfl) | exact (.ld (.gd hg1 rfl) hS (k := 1) rfl Try.isAgg5 rfl))) rfl ?_
        refine WL.gval rfl rfl (fun hg1 => (.eql (.gd hg1 rfl) (.of rfl))) rfl ?_
        refine WL.val (.por (.of rfl) (.of rfl) (.of rfl)) rfl ?_
        refine WL.val (.move (.of rfl)) rfl ?_
        refine WL.gval rfl rfl (fun hg1 => (by first | exact .fieldAddr 0 (.of rfl) Try.underlying61 rfl rfl Try.sizeOf5 rfl | exact .fieldAddrI 0 (.of rfl) Try.underlying61 rfl rfl Try.sizeOf5 rfl)) rfl ?_
        refine WL.gval rfl rfl (fun hg1 => (by first | exact (.ld (.gd hg1 rfl) hS (k := 0) rfl Try.isAgg5 rfl) | exact (.ld (.gd hg1 rfl) hS (k := 1) rfl Try.isAgg5 rfl))) rfl ?_
        refine WL.gval rfl rfl (fun hg1 => (.eql (.gd hg1 rfl) (.of rfl))) rfl ?_
        refine WL.val (.por (.of rfl) (.of rfl) (.of rfl)) rfl ?_
        refine WL.val (.move (.of rfl)) rfl ?_
        refine WL.gval rfl rfl (fun hg1 => (by first | exact .fieldAddr 0 (.of rfl) Try.underlying61 rfl rfl Try.sizeOf5 rfl | exact .fieldAddrI 0 (.of rfl) Try.underlying61 rfl rfl Try.sizeOf5 rfl)) rfl ?_
        refine WL.gval rfl rfl (fun hg1 => (by first | exact (.ld (.gd hg1 rfl) hS (k := 0) rfl Try.isAgg5 rfl) | exact (.ld (.gd hg1 rfl) hS (k := 1) rfl Try.isAgg5 rfl))) rfl ?_
        refine WL.gval rfl rfl (fun hg1 => (.eql (.gd hg1 rfl) (.of rfl))) rfl ?_
        refine WL.val (.por (.of rfl) (.of rfl) (.of rfl)) rfl ?_
        refine WL.nil ?_
        refine WC.cond rfl (fun hb52 => ?_) (fun hb52 => ?_)
        ·
          have hc52 := hb52; try simp only [decide_eq_true_eq, decide_eq_false_iff_not, beq_iff_eq, beq_eq_false_iff_ne, bne_iff_ne, Bool.not_eq_true', Bool.not_eq_false', Bool.or_eq_true, Bool.and_eq_true, Bool.or_eq_false_iff, Bool.and_eq_false_iff, ne_eq, Int.not_lt, Int.not_le, bne_eq_false_iff_eq, Bool.not_eq_true, Bool.not_eq_false] at hc52
          refine WC.region ?_
          refine WL.val (.move (.of rfl)) rfl ?_
          refine WL.val (.move (.of rfl)) rfl ?_
          refine WL.val (.move (.of rfl)) rfl ?_
          refine WL.val (.add (.of rfl) (.of rfl) ⟨by omega, by omega⟩) rfl ?_
          replace hS := hS.drop (k := 0) rfl; try dsimp only [List.eraseIdx] at hS
          rw [List.take_of_length_le (by omega)] at hS1
          have hsk : skips (Q.getD i.toNat (7, 0, [])).1 = true := hb52
          have hnx := (hW.at_ (i := i.toNat) (by omega)).2.1 hsk
          refine WL.call Try.func29 rfl (evs_cons (.of rfl) (evs_cons (.of rfl) (evs_cons (.of rfl) evs_nil))) rfl (ih S1 (i + 1) b c r B w I _ hS hp (by have := hsub.1; simp at this; omega) (by omega) (by omega) (by have := unset_le hsub; omega)) ?_
          clear hS
          rintro _ w ⟨rfl, hS⟩
          refine WL.nil ?_
          refine end0 Try.results29 ?_
          refine ⟨_, rfl, rfl, ?_⟩
          rw [addP, hc12, hsk]; simp only [cond_true, cond_false]; rw [← hS1]; rw [show (i + 1).toNat = i.toNat + 1 by omega] at hS; exact hS
        ·
          have hc52 := hb52; try simp only [decide_eq_true_eq, decide_eq_false_iff_not, beq_iff_eq, beq_eq_false_iff_ne, bne_iff_ne, Bool.not_eq_true', Bool.not_eq_false', Bool.or_eq_true, Bool.and_eq_true, Bool.or_eq_false_iff, Bool.and_eq_false_iff, ne_eq, Int.not_lt, Int.not_le, bne_eq_false_iff_eq, Bool.not_eq_true, Bool.not_eq_false] at hc52
          refine WC.skip ?_
          refine end0 Try.results29 ?_
          have hsk : skips (Q.getD i.toNat (7, 0, [])).1 = false := hb52
          replace hS := hS.drop (k := 0) rfl; try dsimp only [List.eraseIdx] at hS
          rw [List.take_of_length_le (by omega)] at hS1
          refine ⟨_, rfl, rfl, ?_⟩
          rw [addP, hc12, hsk]; simp only [cond_true, cond_false]; rw [← hS1]; exact hS
theorem fits_any (k c : Int) (b : UInt8) (v : Value) (B w : World) (I : Im) (As : List Assn) (hS : Sat B w I As) :
    Calls Try.prog 30 [.agg [.int .u8 k, .int .u8 c, v].toArray, U8 b.toNat].toArray w (Ret fun v w' => v = .bool (fitsP k c b) ∧ Sat B w' I As) := by
  refine calls Try.func30 rfl Try.ntmps30 rfl ?_
  refine WC.seq ?_
  refine WC.region ?_
  refine WL.boxA (cs := [_, _, _]) hS (.of rfl) rfl ?_
  clear hS; intro b2 w hS
  refine WL.val (.assign (.of rfl)) rfl ?_
  refine WL.nil ?_
  refine WC.seq ?_
  refine WC.seq ?_
  refine WC.region ?_
  first | refine WL.val (.fieldAddr 0 (.of rfl) Try.underlying61 rfl rfl Try.sizeOf5 rfl) rfl ?_ | refine WL.val (.fieldAddrI 0 (.of rfl) Try.underlying61 rfl rfl Try.sizeOf5 rfl) rfl ?_
  first | refine WL.val (.ld (.of rfl) hS (k := 0) rfl Try.isAgg5 rfl) rfl ?_
  refine WL.nil ?_
  refine WC.block ?_
  refine WC.seq ?_
  refine WC.region ?_
  refine WL.val (.eql (.of rfl) (.of rfl)) rfl ?_
  refine WL.val (.assign (.of rfl)) rfl ?_
  refine WL.nil ?_
  refine WC.cond rfl (fun hb7 => ?_) (fun hb7 => ?_)
  ·
    have hc7 := hb7; try simp only [decide_eq_true_eq, decide_eq_false_iff_not, beq_iff_eq, beq_eq_false_iff_ne, bne_iff_ne, Bool.not_eq_true', Bool.not_eq_false', Bool.or_eq_true, Bool.and_eq_true, Bool.or_eq_false_iff, Bool.and_eq_false_iff, ne_eq, Int.not_lt, Int.not_le, bne_eq_false_iff_eq, Bool.not_eq_true, Bool.not_eq_false] at hc7
    refine WC.seq ?_
    refine WC.region ?_
    first | refine WL.val (.fieldAddr 1 (.of rfl) Try.underlying61 rfl rfl Try.sizeOf5 rfl) rfl ?_ | refine WL.val (.fieldAddrI 1 (.of rfl) Try.underlying61 rfl rfl Try.sizeOf5 rfl) rfl ?_
    first | refine WL.val (.ld (.of rfl) hS (k := 0) rfl Try.isAgg5 rfl) rfl ?_
    refine WL.val (.move (.of rfl)) rfl ?_
    refine WL.val (.eql (.of rfl) (.of rfl)) rfl ?_
    refine WL.val (.assign (.of rfl)) rfl ?_
    refine WL.nil ?_
    refine WC.ret ?_
    refine ret1 Try.results30 rfl ?_
    exact ⟨_, rfl, by rw [fitsP, hb7]; rfl, hS.drop (k := 0) rfl⟩
  ·
    have hc7 := hb7; try simp only [decide_eq_true_eq, decide_eq_false_iff_not, beq_iff_eq, beq_eq_false_iff_ne, bne_iff_ne, Bool.not_eq_true', Bool.not_eq_false', Bool.or_eq_true, Bool.and_eq_true, Bool.or_eq_false_iff, Bool.and_eq_false_iff, ne_eq, Int.not_lt, Int.not_le, bne_eq_false_iff_eq, Bool.not_eq_true, Bool.not_eq_false] at hc7
    refine WC.seq ?_
    refine WC.seq ?_
    refine WC.region ?_
    refine WL.val (.eql (.of rfl) (.of rfl)) rfl ?_
    refine WL.val (.assign (.of rfl)) rfl ?_
    refine WL.nil ?_
    refine WC.cond rfl (fun hb13 => ?_) (fun hb13 => ?_)
    ·
      have hc13 := hb13; try simp only [decide_eq_true_eq, decide_eq_false_iff_not, beq_iff_eq, beq_eq_false_iff_ne, bne_iff_ne, Bool.not_eq_true', Bool.not_eq_false', Bool.or_eq_true, Bool.and_eq_true, Bool.or_eq_false_iff, Bool.and_eq_false_iff, ne_eq, Int.not_lt, Int.not_le, bne_eq_false_iff_eq, Bool.not_eq_true, Bool.not_eq_false] at hc13
      refine WC.skip ?_
      refine WC.cond rfl (fun hb13 => ?_) (fun hb13 => ?_)
      ·
        have hc13 := hb13; try simp only [decide_eq_true_eq, decide_eq_false_iff_not, beq_iff_eq, beq_eq_false_iff_ne, bne_iff_ne, Bool.not_eq_true', Bool.not_eq_false', Bool.or_eq_true, Bool.and_eq_true, Bool.or_eq_false_iff, Bool.and_eq_false_iff, ne_eq, Int.not_lt, Int.not_le, bne_eq_false_iff_eq, Bool.not_eq_true, Bool.not_eq_false] at hc13
        refine WC.seq ?_
        refine WC.region ?_
        refine WL.val (.move (.of rfl)) rfl ?_
        refine WL.val (.neq (.of rfl) (.of rfl)) rfl ?_
        refine WL.val (.assign (.of rfl)) rfl ?_
        refine WL.nil ?_
        refine WC.ret ?_
        refine ret1 Try.results30 rfl ?_
        exact ⟨_, rfl, by rw [fitsP, hb7, hb13]; rfl, hS.drop (k := 0) rfl⟩
      ·
        have hc13 := hb13; try simp only [decide_eq_true_eq, decide_eq_false_iff_not, beq_iff_eq, beq_eq_false_iff_ne, bne_iff_ne, Bool.not_eq_true', Bool.not_eq_false', Bool.or_eq_true, Bool.and_eq_true, Bool.or_eq_false_iff, Bool.and_eq_false_iff, ne_eq, Int.not_lt, Int.not_le, bne_eq_false_iff_eq, Bool.not_eq_true, Bool.not_eq_false] at hc13
        refine WC.skip ?_
        refine WC.seq ?_
        refine WC.region ?_
        first | refine WL.val (.fieldAddr 0 (.of rfl) Try.underlying61 rfl rfl Try.sizeOf5 rfl) rfl ?_ | refine WL.val (.fieldAddrI 0 (.of rfl) Try.underlying61 rfl rfl Try.sizeOf5 rfl) rfl ?_
        first | refine WL.val (.ld (.of rfl) hS (k := 0) rfl Try.isAgg5 rfl) rfl ?_
        refine WL.val (.eql (.of rfl) (.of rfl)) rfl ?_
        refine WL.val (.assign (.of rfl)) rfl ?_
        refine WL.nil ?_
        refine WC.ret ?_
        refine ret1 Try.results30 rfl ?_
        exfalso; simp_all
    ·
      have hc13 := hb13; try simp only [decide_eq_true_eq, decide_eq_false_iff_not, beq_iff_eq, beq_eq_false_iff_ne, bne_iff_ne, Bool.not_eq_true', Bool.not_eq_false', Bool.or_eq_true, Bool.and_eq_true, Bool.or_eq_false_iff, Bool.and_eq_false_iff, ne_eq, Int.not_lt, Int.not_le, bne_eq_false_iff_eq, Bool.not_eq_true, Bool.not_eq_false] at hc13
      refine WC.region ?_
      refine WL.val (.eql (.of rfl) (.of rfl)) rfl ?_
      refine WL.val (.assign (.of rfl)) rfl ?_
      refine WL.nil ?_
      refine WC.cond rfl (fun hb13 => ?_) (fun hb13 => ?_)
      ·
        have hc13 := hb13; try simp only [decide_eq_true_eq, decide_eq_false_iff_not, beq_iff_eq, beq_eq_false_iff_ne, bne_iff_ne, Bool.not_eq_true', Bool.not_eq_false', Bool.or_eq_true, Bool.and_eq_true, Bool.or_eq_false_iff, Bool.and_eq_false_iff, ne_eq, Int.not_lt, Int.not_le, bne_eq_false_iff_eq, Bool.not_eq_true, Bool.not_eq_false] at hc13
        refine WC.seq ?_
        refine WC.region ?_
        refine WL.val (.move (.of rfl)) rfl ?_
        refine WL.val (.neq (.of rfl) (.of rfl)) rfl ?_
        refine WL.val (.assign (.of rfl)) rfl ?_
        refine WL.nil ?_
        refine WC.ret ?_
        refine ret1 Try.results30 rfl ?_
        exact ⟨_, rfl, by rw [fitsP, hb7, show (k == 1) = false by assumption, hb13]; rfl, hS.drop (k := 0) rfl⟩
      ·
        have hc13 := hb13; try simp only [decide_eq_true_eq, decide_eq_false_iff_not, beq_iff_eq, beq_eq_false_iff_ne, bne_iff_ne, Bool.not_eq_true', Bool.not_eq_false', Bool.or_eq_true, Bool.and_eq_true, Bool.or_eq_false_iff, Bool.and_eq_false_iff, ne_eq, Int.not_lt, Int.not_le, bne_eq_false_iff_eq, Bool.not_eq_true, Bool.not_eq_false] at hc13
        refine WC.skip ?_
        refine WC.seq ?_
        refine WC.region ?_
        first | refine WL.val (.fieldAddr 0 (.of rfl) Try.underlying61 rfl rfl Try.sizeOf5 rfl) rfl ?_ | refine WL.val (.fieldAddrI 0 (.of rfl) Try.underlying61 rfl rfl Try.sizeOf5 rfl) rfl ?_
        first | refine WL.val (.ld (.of rfl) hS (k := 0) rfl Try.isAgg5 rfl) rfl ?_
        refine WL.val (.eql (.of rfl) (.of rfl)) rfl ?_
        refine WL.val (.assign (.of rfl)) rfl ?_
        refine WL.nil ?_
        refine WC.ret ?_
        refine ret1 Try.results30 rfl ?_
        exact ⟨_, rfl, by rw [fitsP, hb7, show (k == 1) = false by assumption, hb13]; rfl, hS.drop (k := 0) rfl⟩
set_option maxHeartbeats 1600000 in
theorem run_any (Q : List Pl) (p : Addr) (nn : Nat) (s : List UInt8) (hW : WF Q) (hQ : 0 < Q.length) (hn2 : Q.length ≤ 1000) (hnn : nn ≤ 1000) (hs : s.length ≤ 1000000) (B w : World) (I : Im) (As : List Assn) (hS : Sat B w I As) (hp : PatI I p Q nn) :
    Calls Try.prog 23 [.pointer (some p), S s].toArray w (Ret fun v w' => v = .tuple #[.bool ((Pat.run Q s).1.getD (Q.length - 1) false), I64 (min ((Pat.run Q s).2 : Int) (((nn : Int) + 1) * ((s.length : Int) + 1)))] ∧ Sat B w' I As) := by
  refine calls Try.func23 rfl Try.ntmps23 rfl ?_
  refine WC.seq ?_
  refine WC.region ?_
  refine WL.val (.assign (.of rfl)) rfl ?_
  refine WL.val (.assign (.of rfl)) rfl ?_
  refine WL.nil ?_
  refine WC.scope ?_
  refine WC.seq ?_
  obtain ⟨la, lc, P, hpA, hlA, hR⟩ := hp.opened (by omega)
  refine WC.region ?_
  refine WL.val (.move (.of rfl)) rfl ?_
  refine WL.val (.nilCheck (.of rfl)) rfl ?_
  first | refine WL.val (.fieldAddr 0 (.of rfl) Try.underlying46 rfl rfl Try.sizeOf38 rfl) rfl ?_ | refine WL.val (.fieldAddrI 0 (.of rfl) Try.underlying46 rfl rfl Try.sizeOf38 rfl) rfl ?_
  refine WL.val (.ldI (.of rfl) hS hpA Try.isAgg38 rfl) rfl ?_
  refine WL.val (.lenSlice (.of rfl) Try.underlying38) rfl ?_
  refine WL.make (l := Q.length) hS (.of rfl) (.of rfl) Try.underlying49 Try.type4 rfl (by simp [Try.t4]; omega) (by omega) rfl rfl rfl ?_
  clear hS; intro b19 w hS
  refine WL.val (.assign (.of rfl)) rfl ?_
  refine WL.val (.assign (.of rfl)) rfl ?_
  refine WL.nil ?_
  refine WC.seq ?_
  refine WC.region ?_
  refine WL.val (.move (.of rfl)) rfl ?_
  refine WL.val (.move (.of rfl)) rfl ?_
  have hun := unset_len (List.replicate Q.length false)
  rw [List.length_replicate] at hun
  replace hS : Sat B w I (blk b19 ((List.replicate Q.length false).map Value.bool ++ []) 4 :: As) := by rw [List.map_replicate, List.append_nil]; exact hS
  refine WL.call Try.func29 rfl (evs_cons (.of rfl) (evs_cons (.of rfl) (evs_cons (.of rfl) evs_nil))) rfl (add_any Q p nn Q.length hW rfl (by omega) (Q.length + 1) (List.replicate Q.length false) 0 b19 _ [] B w I As hS hp (by simp) (by omega) (by omega) (by omega)) ?_
  clear hS
  rintro _ w ⟨rfl, hS⟩
  refine WL.nil ?_
  refine WC.seq ?_
  refine WC.label ?_
  refine WC.cutS (σ := List Bool × Nat × Nat) (fun ⟨now, steps, bn⟩ => [(0, .pointer (some p)), (1, S s), (6, .slice (some (ad bn 0)) Q.length Q.length), (7, I64 (steps : Nat))]) (fun ⟨now, steps, bn⟩ w => now.length = Q.length ∧ (now, steps) = Pat.run Q s ∧ Sat B w I (blk bn (now.map Value.bool ++ []) 4 :: As)) ?_ ?_
  ·
    refine WC.seq ?_
    refine WC.region ?_
    refine WL.val (.move (.of rfl)) rfl ?_
    refine WL.val (.len (.of rfl) Try.underlying9) rfl ?_
    refine WL.val (.move (.of rfl)) rfl ?_
    refine WL.nil ?_
    refine WC.block ?_
    refine WC.loop (σ := List Bool × Nat × Nat × Nat) (fun ⟨now, steps0, bn, i⟩ => [(0, .pointer (some p)), (1, S s), (6, .slice (some (ad bn 0)) Q.length Q.length), (7, I64 (steps0 : Nat)), (24, I64 s.length), (25, I64 (i : Nat))]) (fun ⟨now, steps0, bn, i⟩ w => i ≤ s.length ∧ now.length = Q.length ∧ steps0 ≤ 1 + i * 1000 ∧ runS Q (Q.length + 1) (s.drop i) now steps0 = Pat.run Q s ∧ Sat B w I (blk bn (now.map Value.bool ++ []) 4 :: As)) (fun ⟨now, steps0, bn, i⟩ => s.length - i) (addP Q (Q.length + 1) (List.replicate Q.length false) 0, 1, b19, 0) ⟨rfl, rfl, rfl, rfl, rfl, rfl, trivial⟩ ⟨Nat.zero_le _, by rw [← (addP_sub Q _ _ _).1]; simp, by omega, rfl, hS⟩ ?_
    rintro ⟨now, steps0, bn, i⟩ w ⟨hi, hnow, hsteps, hrun, hS⟩
    change WC _ _ _ _ [(0, .pointer (some p)), (1, S s), (6, .slice (some (ad bn 0)) Q.length Q.length), (7, I64 (steps0 : Nat)), (24, I64 s.length), (25, I64 (i : Nat))] w
    have hit0 := runIter_facts Q (Q.length + 1) (at_ s (i : Int)) now (List.replicate Q.length false, false, steps0)
    refine WC.seq ?_
    refine WC.region ?_
    refine WL.val (.lss (.of rfl) (.of rfl)) rfl ?_
    refine WL.nil ?_
    refine WC.seq ?_
    refine WC.cond rfl (fun hb26 => ?_) (fun hb26 => ?_)
    ·
      have hc26 := hb26; try simp only [decide_eq_true_eq, decide_eq_false_iff_not, beq_iff_eq, beq_eq_false_iff_ne, bne_iff_ne, Bool.not_eq_true', Bool.not_eq_false', Bool.or_eq_true, Bool.and_eq_true, Bool.or_eq_false_iff, Bool.and_eq_false_iff, ne_eq, Int.not_lt, Int.not_le, bne_eq_false_iff_eq, Bool.not_eq_true, Bool.not_eq_false] at hc26
      refine WC.skip ?_
      refine WC.seq ?_
      refine WC.block ?_
      refine WC.seq ?_
      refine WC.region ?_
      refine WL.val (.move (.of rfl)) rfl ?_
      refine WL.val (.assign (.of rfl)) rfl ?_
      refine WL.nil ?_
      refine WC.seq ?_
      refine WC.region ?_
      refine WL.val (.move (.of rfl)) rfl ?_
      refine WL.val (.nilCheck (.of rfl)) rfl ?_
      first | refine WL.val (.fieldAddr 0 (.of rfl) Try.underlying46 rfl rfl Try.sizeOf38 rfl) rfl ?_ | refine WL.val (.fieldAddrI 0 (.of rfl) Try.underlying46 rfl rfl Try.sizeOf38 rfl) rfl ?_
      refine WL.val (.ldI (.of rfl) hS hpA Try.isAgg38 rfl) rfl ?_
      refine WL.val (.lenSlice (.of rfl) Try.underlying38) rfl ?_
      refine WL.make (l := Q.length) hS (.of rfl) (.of rfl) Try.underlying49 Try.type4 rfl (by simp [Try.t4]; omega) (by omega) rfl rfl rfl ?_
      clear hS; intro b33 w hS
      refine WL.val (.assign (.of rfl)) rfl ?_
      refine WL.val (.assign (.of rfl)) rfl ?_
      refine WL.nil ?_
      refine WC.seq ?_
      refine WC.seq ?_
      refine WC.region ?_
      refine WL.val (.move (.of rfl)) rfl ?_
      refine WL.val (.lenSlice (.of rfl) Try.underlying49) rfl ?_
      refine WL.val (.move (.of rfl)) rfl ?_
      refine WL.nil ?_
      refine WC.block ?_
      refine WC.loop (σ := List Bool × Bool × Nat × Nat) (fun ⟨next, any, steps, k⟩ => [(0, .pointer (some p)), (1, S s), (7, I64 (steps : Nat)), (8, I64 (i : Nat)), (9, .slice (some (ad b33 0)) Q.length Q.length), (10, .bool any), (24, I64 s.length), (25, I64 (i : Nat)), (34, .slice (some (ad bn 0)) Q.length Q.length), (35, I64 Q.length), (36, I64 (k : Nat))]) (fun ⟨next, any, steps, k⟩ w => k ≤ Q.length ∧ iter (runAt Q (Q.length + 1) (at_ s (i : Int)) now) (List.replicate Q.length false, false, steps0) k = (next, any, steps) ∧ Sat B w I (blk b33 (next.map Value.bool ++ []) 4 :: blk bn (now.map Value.bool ++ []) 4 :: As)) (fun ⟨next, any, steps, k⟩ => Q.length - k) (List.replicate Q.length false, false, steps0, 0) ⟨rfl, rfl, rfl, rfl, rfl, rfl, rfl, rfl, rfl, rfl, rfl, trivial⟩ ⟨Nat.zero_le _, rfl, by rw [List.map_replicate, List.append_nil]; exact hS⟩ ?_
      rintro ⟨next, any, steps, k⟩ w ⟨hk, hit, hS⟩
      change WC _ _ _ _ [(0, .pointer (some p)), (1, S s), (7, I64 (steps : Nat)), (8, I64 (i : Nat)), (9, .slice (some (ad b33 0)) Q.length Q.length), (10, .bool any), (24, I64 s.length), (25, I64 (i : Nat)), (34, .slice (some (ad bn 0)) Q.length Q.length), (35, I64 Q.length), (36, I64 (k : Nat))] w
      have hit1 := hit0 k
      rw [hit] at hit1; simp only [List.length_replicate] at hit1
      refine WC.seq ?_
      refine WC.region ?_
      refine WL.val (.lss (.of rfl) (.of rfl)) rfl ?_
      refine WL.nil ?_
      refine WC.seq ?_
      refine WC.cond rfl (fun hb37 => ?_) (fun hb37 => ?_)
      ·
        have hc37 := hb37; try simp only [decide_eq_true_eq, decide_eq_false_iff_not, beq_iff_eq, beq_eq_false_iff_ne, bne_iff_ne, Bool.not_eq_true', Bool.not_eq_false', Bool.or_eq_true, Bool.and_eq_true, Bool.or_eq_false_iff, Bool.and_eq_false_iff, ne_eq, Int.not_lt, Int.not_le, bne_eq_false_iff_eq, Bool.not_eq_true, Bool.not_eq_false] at hc37
        refine WC.skip ?_
        refine WC.seq ?_
        refine WC.block ?_
        refine WC.seq ?_
        refine WC.region ?_
        refine WL.val (.move (.of rfl)) rfl ?_
        first | refine WL.val (.indexAddr (.of rfl) (.of rfl) (by omega) (by omega) Try.underlying49 Try.sizeOf4) rfl ?_ | refine WL.val (.indexAddrI (.of rfl) (.of rfl) (by omega) (by omega) Try.underlying49 Try.sizeOf4) rfl ?_
        refine WL.val (.ldE .bool now false [] (.of rfl) hS (k := 1) rfl rfl Try.isAgg4 (by omega) (by omega)) rfl ?_
        refine WL.val (.assign (.of rfl)) rfl ?_
        refine WL.val (.assign (.of rfl)) rfl ?_
        refine WL.nil ?_
        refine WC.seq ?_
        refine WC.seq ?_
        refine WC.region ?_
        refine WL.val (.move (.of rfl)) rfl ?_
        refine WL.val (.not (.of rfl)) rfl ?_
        refine WL.nil ?_
        refine WC.cond rfl (fun hb42 => ?_) (fun hb42 => ?_)
        ·
          have hc42 := hb42; try simp only [decide_eq_true_eq, decide_eq_false_iff_not, beq_iff_eq, beq_eq_false_iff_ne, bne_iff_ne, Bool.not_eq_true', Bool.not_eq_false', Bool.or_eq_true, Bool.and_eq_true, Bool.or_eq_false_iff, Bool.and_eq_false_iff, ne_eq, Int.not_lt, Int.not_le, bne_eq_false_iff_eq, Bool.not_eq_true, Bool.not_eq_false] at hc42
          refine WC.exit ?_
          refine WC.region ?_
          refine WL.val (.add (.of rfl) (.of rfl) ⟨by omega, by omega⟩) rfl ?_
          refine WL.val (.move (.of rfl)) rfl ?_
          refine WL.nil ?_
          have hb42x : now.getD k false = false := by simpa using hb42
          have e9 : runAt Q (Q.length + 1) (at_ s (i : Int)) now (next, any, steps) k = (next, any, steps) := by rw [runAt, hb42x]; rfl
          refine ⟨(next, any, steps, k + 1), ⟨rfl, rfl, rfl, rfl, rfl, rfl, rfl, rfl, rfl, rfl, rfl, trivial⟩, ⟨by omega, by rw [iter, hit, e9], hS⟩, by dsimp only; omega⟩
        ·
          have hc42 := hb42; try simp only [decide_eq_true_eq, decide_eq_false_iff_not, beq_iff_eq, beq_eq_false_iff_ne, bne_iff_ne, Bool.not_eq_true', Bool.not_eq_false', Bool.or_eq_true, Bool.and_eq_true, Bool.or_eq_false_iff, Bool.and_eq_false_iff, ne_eq, Int.not_lt, Int.not_le, bne_eq_false_iff_eq, Bool.not_eq_true, Bool.not_eq_false] at hc42
          refine WC.skip ?_
          refine WC.seq ?_
          refine WC.region ?_
          refine WL.val (.move (.of rfl)) rfl ?_
          refine WL.val (.add (.of rfl) (.of rfl) ⟨by omega, by omega⟩) rfl ?_
          refine WL.val (.assign (.of rfl)) rfl ?_
          refine WL.nil ?_
          refine WC.seq ?_
          have hnk : now.getD k false = true := by simpa using hb42
          obtain ⟨xa, xc, hx, _⟩ := hR.at_ (i := k) (by omega)
          refine WC.region ?_
          refine WL.val (.move (.of rfl)) rfl ?_
          refine WL.val (.nilCheck (.of rfl)) rfl ?_
          first | refine WL.val (.fieldAddr 0 (.of rfl) Try.underlying46 rfl rfl Try.sizeOf38 rfl) rfl ?_ | refine WL.val (.fieldAddrI 0 (.of rfl) Try.underlying46 rfl rfl Try.sizeOf38 rfl) rfl ?_
          refine WL.val (.ldI (.of rfl) hS hpA Try.isAgg38 rfl) rfl ?_
          refine WL.val (.move (.of rfl)) rfl ?_
          first | refine WL.val (.indexAddr (.of rfl) (.of rfl) (by omega) (by omega) Try.underlying38 Try.sizeOf61) rfl ?_ | refine WL.val (.indexAddrI (.of rfl) (.of rfl) (by omega) (by omega) Try.underlying38 Try.sizeOf61) rfl ?_
          refine WL.val (.ldsI (us := [_, _, _]) (.of rfl) hS (Pat.At.place hlA hx) Try.isAgg61 Try.sizeOf61 rfl (fun _ _ h => h)) rfl ?_
          refine WL.allocA (cs := [_, _, _]) hS Try.zeroValue61 rfl ?_
          clear hS; intro b13 w hS
          first | refine WL.stA hS (k := 0) rfl (.of rfl) (.of rfl) rfl Try.sizeOf61 rfl (by simp) ?_ | refine WL.stA hS (k := 1) rfl (.of rfl) (.of rfl) rfl Try.sizeOf61 rfl (by simp) ?_ | refine WL.stA hS (k := 2) rfl (.of rfl) (.of rfl) rfl Try.sizeOf61 rfl (by simp) ?_
          clear hS; intro w hS; try dsimp only [List.set] at hS
          refine WL.nil ?_
          refine WC.seq ?_
          refine WC.seq ?_
          refine WC.quiet (by kernel_rfl) (by kernel_rfl) hS ?_
          refine WQ.val (fun w hS => .lds (vs := [.int .u8 (Q.getD k (7, 0, [])).1, .int .u8 (Q.getD k (7, 0, [])).2.1, .slice xa (Q.getD k (7, 0, [])).2.2.length xc]) (.of rfl) hS (k := 0) rfl Try.isAgg61 Try.sizeOf61 rfl (fun j v h => by simpa using h)) rfl ?_
          refine WQ.val (fun w hS => (.move (.of rfl))) rfl ?_
          refine WQ.val (fun w hS => (.move (.of rfl))) rfl ?_
          refine WQ.val (fun w hS => (.index (.of rfl) (.of rfl) (by omega) (by omega) Try.underlying9)) rfl ?_
          refine WQ.call Try.func30 rfl (evs_cons (.of rfl) (evs_cons (.of rfl) evs_nil)) rfl (fun w hS => fits_any _ _ _ _ _ _ _ _ hS) ?_
          refine WQ.val (fun w hS => (.not (.of rfl))) rfl ?_
          refine WQ.nil ?_
          clear hS; intro w hS
          refine WC.cond rfl (fun hb57 => ?_) (fun hb57 => ?_)
          ·
            have hc57 := hb57; try simp only [decide_eq_true_eq, decide_eq_false_iff_not, beq_iff_eq, beq_eq_false_iff_ne, bne_iff_ne, Bool.not_eq_true', Bool.not_eq_false', Bool.or_eq_true, Bool.and_eq_true, Bool.or_eq_false_iff, Bool.and_eq_false_iff, ne_eq, Int.not_lt, Int.not_le, bne_eq_false_iff_eq, Bool.not_eq_true, Bool.not_eq_false] at hc57
            refine WC.exit ?_
            refine WC.region ?_
            refine WL.val (.add (.of rfl) (.of rfl) ⟨by omega, by omega⟩) rfl ?_
            refine WL.val (.move (.of rfl)) rfl ?_
            refine WL.nil ?_
            have hnk : now.getD k false = true := by simpa using hb42
            have hfk : fitsP (Q.getD k (7, 0, [])).1 (Q.getD k (7, 0, [])).2.1 (at_ s (i : Int)) = false := by simpa using hb57
            replace hS := hS.drop (k := 0) rfl; try dsimp only [List.eraseIdx] at hS
            have e9 : runAt Q (Q.length + 1) (at_ s (i : Int)) now (next, any, steps) k = (next, any, steps + 1) := by rw [runAt, hnk, hfk]; rfl
            refine ⟨(next, any, steps + 1, k + 1), ⟨rfl, rfl, rfl, rfl, rfl, rfl, rfl, rfl, rfl, rfl, rfl, trivial⟩, ⟨by omega, by rw [iter, hit, e9], hS⟩, by dsimp only; omega⟩
          ·
            have hc57 := hb57; try simp only [decide_eq_true_eq, decide_eq_false_iff_not, beq_iff_eq, beq_eq_false_iff_ne, bne_iff_ne, Bool.not_eq_true', Bool.not_eq_false', Bool.or_eq_true, Bool.and_eq_true, Bool.or_eq_false_iff, Bool.and_eq_false_iff, ne_eq, Int.not_lt, Int.not_le, bne_eq_false_iff_eq, Bool.not_eq_true, Bool.not_eq_false] at hc57
            refine WC.skip ?_
            refine WC.seq ?_
            refine WC.region ?_
            refine WL.val (.assign (.of rfl)) rfl ?_
            refine WL.nil ?_
            refine WC.seq ?_
            refine WC.region ?_
            first | refine WL.val (.fieldAddr 0 (.of rfl) Try.underlying61 rfl rfl Try.sizeOf5 rfl) rfl ?_ | refine WL.val (.fieldAddrI 0 (.of rfl) Try.underlying61 rfl rfl Try.sizeOf5 rfl) rfl ?_
            first | refine WL.val (.ld (.of rfl) hS (k := 0) rfl Try.isAgg5 rfl) rfl ?_ | refine WL.val (.ld (.of rfl) hS (k := 1) rfl Try.isAgg5 rfl) rfl ?_ | refine WL.val (.ld (.of rfl) hS (k := 2) rfl Try.isAgg5 rfl) rfl ?_
            refine WL.val (.eql (.of rfl) (.of rfl)) rfl ?_
            refine WL.val (.move (.of rfl)) rfl ?_
            refine WL.gval rfl rfl (fun hg1 => (by first | exact .fieldAddr 0 (.of rfl) Try.underlying61 rfl rfl Try.sizeOf5 rfl | exact .fieldAddrI 0 (.of rfl) Try.underlying61 rfl rfl Try.sizeOf5 rfl)) rfl ?_
            refine WL.gval rfl rfl (fun hg1 => (by first | exact (.ld (.gd hg1 rfl) hS (k := 0) rfl Try.isAgg5 rfl) | exact (.ld (.gd hg1 rfl) hS (k := 1) rfl Try.isAgg5 rfl) | exact (.ld (.gd hg1 rfl) hS (k := 2) rfl Try.isAgg5 rfl))) rfl ?_
            refine WL.gval rfl rfl (fun hg1 => (.eql (.gd hg1 rfl) (.of rfl))) rfl ?_
            refine WL.val (.por (.of rfl) (.of rfl) (.of rfl)) rfl ?_
            refine WL.nil ?_
            refine WC.cond rfl (fun hb65 => ?_) (fun hb65 => ?_)
            ·
              have hc65 := hb65; try simp only [decide_eq_true_eq, decide_eq_false_iff_not, beq_iff_eq, beq_eq_false_iff_ne, bne_iff_ne, Bool.not_eq_true', Bool.not_eq_false', Bool.or_eq_true, Bool.and_eq_true, Bool.or_eq_false_iff, Bool.and_eq_false_iff, ne_eq, Int.not_lt, Int.not_le, bne_eq_false_iff_eq, Bool.not_eq_true, Bool.not_eq_false] at hc65
              refine WC.region ?_
              refine WL.val (.move (.of rfl)) rfl ?_
              refine WL.val (.move (.of rfl)) rfl ?_
              refine WL.val (.move (.of rfl)) rfl ?_
              have hfk : fitsP (Q.getD k (7, 0, [])).1 (Q.getD k (7, 0, [])).2.1 (at_ s (i : Int)) = true := by simpa using hb57
              replace hS := hS.pick 1 rfl; try dsimp only [List.eraseIdx] at hS
              have hun := unset_len next
              refine WL.call Try.func29 rfl (evs_cons (.of rfl) (evs_cons (.of rfl) (evs_cons (.of rfl) evs_nil))) rfl (add_any Q p nn Q.length hW rfl (by omega) (Q.length + 1) next k b33 _ [] B w I _ hS hp (by omega) (by omega) (by omega) (by omega)) ?_
              clear hS
              rintro _ w ⟨rfl, hS⟩
              refine WL.nil ?_
              refine WC.region ?_
              refine WL.val (.add (.of rfl) (.of rfl) ⟨by omega, by omega⟩) rfl ?_
              refine WL.val (.move (.of rfl)) rfl ?_
              refine WL.nil ?_
              have hst : ((Q.getD k (7, 0, [])).1 == 2 || (Q.getD k (7, 0, [])).1 == 3) = true := hb65
              replace hS := hS.drop (k := 1) rfl; try dsimp only [List.eraseIdx] at hS
              have e9 : runAt Q (Q.length + 1) (at_ s (i : Int)) now (next, any, steps) k = (addP Q (Q.length + 1) next k, true, steps + 1) := by rw [runAt, hnk, hfk, hst]; rfl
              refine ⟨(addP Q (Q.length + 1) next k, true, steps + 1, k + 1), ⟨rfl, rfl, rfl, rfl, rfl, rfl, rfl, rfl, rfl, rfl, rfl, trivial⟩, ⟨by omega, by rw [iter, hit, e9], hS⟩, by dsimp only; omega⟩
            ·
              have hc65 := hb65; try simp only [decide_eq_true_eq, decide_eq_false_iff_not, beq_iff_eq, beq_eq_false_iff_ne, bne_iff_ne, Bool.not_eq_true', Bool.not_eq_false', Bool.or_eq_true, Bool.and_eq_true, Bool.or_eq_false_iff, Bool.and_eq_false_iff, ne_eq, Int.not_lt, Int.not_le, bne_eq_false_iff_eq, Bool.not_eq_true, Bool.not_eq_false] at hc65
              refine WC.region ?_
              refine WL.val (.move (.of rfl)) rfl ?_
              refine WL.val (.move (.of rfl)) rfl ?_
              refine WL.val (.move (.of rfl)) rfl ?_
              refine WL.val (.add (.of rfl) (.of rfl) ⟨by omega, by omega⟩) rfl ?_
              have hfk : fitsP (Q.getD k (7, 0, [])).1 (Q.getD k (7, 0, [])).2.1 (at_ s (i : Int)) = true := by simpa using hb57
              have hk7 := (hW.at_ (i := k) (by omega)).2.2.2.1 (fun e => by rw [e, fitsP] at hfk; simp at hfk)
              replace hS := hS.pick 1 rfl; try dsimp only [List.eraseIdx] at hS
              have hun := unset_len next
              refine WL.call Try.func29 rfl (evs_cons (.of rfl) (evs_cons (.of rfl) (evs_cons (.of rfl) evs_nil))) rfl (add_any Q p nn Q.length hW rfl (by omega) (Q.length + 1) next (k + 1) b33 _ [] B w I _ hS hp (by omega) (by omega) (by omega) (by omega)) ?_
              clear hS
              rintro _ w ⟨rfl, hS⟩
              refine WL.nil ?_
              refine WC.region ?_
              refine WL.val (.add (.of rfl) (.of rfl) ⟨by omega, by omega⟩) rfl ?_
              refine WL.val (.move (.of rfl)) rfl ?_
              refine WL.nil ?_
              have hst : ((Q.getD k (7, 0, [])).1 == 2 || (Q.getD k (7, 0, [])).1 == 3) = false := hb65
              replace hS := hS.drop (k := 1) rfl; try dsimp only [List.eraseIdx] at hS
              have e9 : runAt Q (Q.length + 1) (at_ s (i : Int)) now (next, any, steps) k = (addP Q (Q.length + 1) next (k + 1), true, steps + 1) := by rw [runAt, hnk, hfk, hst]; rfl
              refine ⟨(addP Q (Q.length + 1) next (k + 1), true, steps + 1, k + 1), ⟨rfl, rfl, rfl, rfl, rfl, rfl, rfl, rfl, rfl, rfl, rfl, trivial⟩, ⟨by omega, by rw [iter, hit, e9], hS⟩, by dsimp only; omega⟩
      ·
        have hc37 := hb37; try simp only [decide_eq_true_eq, decide_eq_false_iff_not, beq_iff_eq, beq_eq_false_iff_ne, bne_iff_ne, Bool.not_eq_true', Bool.not_eq_false', Bool.or_eq_true, Bool.and_eq_true, Bool.or_eq_false_iff, Bool.and_eq_false_iff, ne_eq, Int.not_lt, Int.not_le, bne_eq_false_iff_eq, Bool.not_eq_true, Bool.not_eq_false] at hc37
        refine WC.exit ?_
        refine WC.seq ?_
        refine WC.region ?_
        refine WL.val (.move (.of rfl)) rfl ?_
        refine WL.val (.assign (.of rfl)) rfl ?_
        refine WL.nil ?_
        refine WC.seq ?_
        refine WC.region ?_
        refine WL.val (.move (.of rfl)) rfl ?_
        refine WL.val (.not (.of rfl)) rfl ?_
        refine WL.nil ?_
        refine WC.cond rfl (fun hb78 => ?_) (fun hb78 => ?_)
        ·
          have hc78 := hb78; try simp only [decide_eq_true_eq, decide_eq_false_iff_not, beq_iff_eq, beq_eq_false_iff_ne, bne_iff_ne, Bool.not_eq_true', Bool.not_eq_false', Bool.or_eq_true, Bool.and_eq_true, Bool.or_eq_false_iff, Bool.and_eq_false_iff, ne_eq, Int.not_lt, Int.not_le, bne_eq_false_iff_eq, Bool.not_eq_true, Bool.not_eq_false] at hc78
          refine WC.exit ?_
          have hkq : k = Q.length := by omega
          subst hkq
          have hB : runB Q (Q.length + 1) (at_ s (i : Int)) now steps0 = (next, any, steps) := hit
          replace hS := hS.drop (k := 1) rfl; try dsimp only [List.eraseIdx] at hS
          rw [drop_at s (by omega), runS, hB] at hrun
          rw [hc78] at hrun
          exact ⟨(next, steps, b33), ⟨rfl, rfl, rfl, rfl, trivial⟩, hit1.1, hrun, hS⟩
        ·
          have hc78 := hb78; try simp only [decide_eq_true_eq, decide_eq_false_iff_not, beq_iff_eq, beq_eq_false_iff_ne, bne_iff_ne, Bool.not_eq_true', Bool.not_eq_false', Bool.or_eq_true, Bool.and_eq_true, Bool.or_eq_false_iff, Bool.and_eq_false_iff, ne_eq, Int.not_lt, Int.not_le, bne_eq_false_iff_eq, Bool.not_eq_true, Bool.not_eq_false] at hc78
          refine WC.skip ?_
          refine WC.region ?_
          refine WL.val (.add (.of rfl) (.of rfl) ⟨by omega, by omega⟩) rfl ?_
          refine WL.val (.move (.of rfl)) rfl ?_
          refine WL.nil ?_
          have hkq : k = Q.length := by omega
          subst hkq
          have hB : runB Q (Q.length + 1) (at_ s (i : Int)) now steps0 = (next, any, steps) := hit
          replace hS := hS.drop (k := 1) rfl; try dsimp only [List.eraseIdx] at hS
          rw [drop_at s (by omega), runS, hB] at hrun
          have hany : any = true := by simpa using hb78
          rw [hany] at hrun
          exact ⟨(next, steps, b33, i + 1), ⟨rfl, rfl, rfl, rfl, rfl, rfl, trivial⟩, ⟨by omega, hit1.1, by omega, hrun, hS⟩, by dsimp only; omega⟩
    ·
      have hc26 := hb26; try simp only [decide_eq_true_eq, decide_eq_false_iff_not, beq_iff_eq, beq_eq_false_iff_ne, bne_iff_ne, Bool.not_eq_true', Bool.not_eq_false', Bool.or_eq_true, Bool.and_eq_true, Bool.or_eq_false_iff, Bool.and_eq_false_iff, ne_eq, Int.not_lt, Int.not_le, bne_eq_false_iff_eq, Bool.not_eq_true, Bool.not_eq_false] at hc26
      refine WC.exit ?_
      rw [List.drop_of_length_le (by omega)] at hrun
      exact ⟨(now, steps0, bn), ⟨rfl, rfl, rfl, rfl, trivial⟩, hnow, hrun, hS⟩
  ·
    rintro ⟨now, steps, bn⟩ w ⟨hnow, hrun, hS⟩
    change WC _ _ _ _ [(0, .pointer (some p)), (1, S s), (6, .slice (some (ad bn 0)) Q.length Q.length), (7, I64 (steps : Nat))] w
    refine WC.seq ?_
    have hm1 : ((nn : Int) + 1) * ((s.length : Int) + 1) ≤ 1001 * 1000001 := Int.mul_le_mul (by omega) (by omega) (by omega) (by omega)
    have hm0 : 0 ≤ ((nn : Int) + 1) * ((s.length : Int) + 1) := Int.mul_nonneg (by omega) (by omega)
    have hmul : In64 (((nn : Int) + 1) * ((s.length : Int) + 1)) := ⟨by omega, by omega⟩
    refine WC.quiet (by kernel_rfl) (by kernel_rfl) hS ?_
    refine WQ.val (fun w hS => (.move (.of rfl))) rfl ?_
    refine WQ.val (fun w hS => (.move (.of rfl))) rfl ?_
    refine WQ.val (fun w hS => (.nilCheck (.of rfl))) rfl ?_
    refine WQ.val (fun w hS => (by first | exact .fieldAddr 0 (.of rfl) Try.underlying46 rfl rfl Try.sizeOf38 rfl | exact .fieldAddrI 0 (.of rfl) Try.underlying46 rfl rfl Try.sizeOf38 rfl)) rfl ?_
    refine WQ.val (fun w hS => .ldI (.of rfl) hS hpA Try.isAgg38 rfl) rfl ?_
    refine WQ.val (fun w hS => (.lenSlice (.of rfl) Try.underlying38)) rfl ?_
    refine WQ.val (fun w hS => (.sub (.of rfl) (.of rfl) ⟨by omega, by omega⟩)) rfl ?_
    refine WQ.val (fun w hS => (by first | exact .indexAddr (.of rfl) (.of rfl) (by omega) (by omega) Try.underlying49 Try.sizeOf4 | exact .indexAddrI (.of rfl) (.of rfl) (by omega) (by omega) Try.underlying49 Try.sizeOf4)) rfl ?_
    refine WQ.val (fun w hS => .ldE .bool now false [] (.of rfl) hS (k := 0) rfl rfl Try.isAgg4 (by omega) (by omega)) rfl ?_
    refine WQ.val (fun w hS => (.move (.of rfl))) rfl ?_
    refine WQ.val (fun w hS => (.move (.of rfl))) rfl ?_
    refine WQ.val (fun w hS => (.nilCheck (.of rfl))) rfl ?_
    refine WQ.val (fun w hS => (by first | exact .fieldAddr 1 (.of rfl) Try.underlying46 rfl rfl Try.sizeOf3 rfl | exact .fieldAddrI 1 (.of rfl) Try.underlying46 rfl rfl Try.sizeOf3 rfl)) rfl ?_
    refine WQ.val (fun w hS => .ldI (.of rfl) hS (hpA.add 1) Try.isAgg3 rfl) rfl ?_
    refine WQ.val (fun w hS => (.add (.of rfl) (.of rfl) ⟨by omega, by omega⟩)) rfl ?_
    refine WQ.val (fun w hS => (.move (.of rfl))) rfl ?_
    refine WQ.val (fun w hS => (.len (.of rfl) Try.underlying9)) rfl ?_
    refine WQ.val (fun w hS => (.add (.of rfl) (.of rfl) ⟨by omega, by omega⟩)) rfl ?_
    refine WQ.val (fun w hS => .mul (.of rfl) (.of rfl) hmul) rfl ?_
    refine WQ.val (fun w hS => (.min2 (.of rfl) (.of rfl))) rfl ?_
    refine WQ.val (fun w hS => (.assign (.of rfl))) rfl ?_
    refine WQ.val (fun w hS => (.assign (.of rfl))) rfl ?_
    refine WQ.nil ?_
    clear hS; intro w hS
    refine WC.ret ?_
    refine ret2 Try.results23 rfl rfl ?_
    exact ⟨_, rfl, by rw [← hrun, show ((Q.length : Int) - 1).toNat = Q.length - 1 by omega], hS.drop (k := 0) rfl⟩
end Go.Proofs.Ytigmejjkmoaimaa
