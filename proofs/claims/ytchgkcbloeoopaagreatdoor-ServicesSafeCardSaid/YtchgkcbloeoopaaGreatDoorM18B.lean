/- Part 2 of what the proof stands on: W18a, W18b, W18c, GkU, Url, Shelf, W18d, Urn, W18e. -/
import Derived.Test.YtchgkcbloeoopaaGreatDoorM18A
import Derived.Test.YtchgkcbloeoopaaGreatDoorChecked
import Derived.Laws.RangeAny
import Derived.Laws.IdiomStrings
import Derived.Lib.MapLaws
import Derived.Lib.IndexAny
import Derived.Lib.IndexLaws
import Derived.Shelf.Strings.Builder1
import Derived.Shelf.Small.Utf8
import Derived.Shelf.Small.Strs
import Derived.Shelf.Utf8.RuneCount
import Derived.Shelf.Strconv.Itoa0
import Derived.Shelf.Strconv.Itoa1
import Derived.Shelf.LaysM
import Derived.Shelf.Strconv.Itoa2
import Derived.Shelf.Strconv.Itoa3
import Derived.Shelf.Strings.Search1
import Derived.Shelf.Strings.Search2
import Derived.Shelf.Strings.Search3
import Derived.Shelf.Strings.Cut
import Derived.Shelf.Strings.Count
import Derived.Shelf.Strings.Shaped
import Derived.Shelf.Strings.Prefix
import Derived.Shelf.Strings.Split
import Derived.Shelf.Strings.SplitShaped
import Derived.Shelf.Unicode.Decode
import Derived.Shelf.Strings.Runes
import Derived.Shelf.Strings.RuneCount
import Derived.Shelf.Strings.IndexAny
import Derived.Shelf.Strings.AsciiSet
import Derived.Shelf.Strings.IndexAnyAll
import Derived.Shelf.Unicode.DecodeSlow
import Derived.Shelf.Unicode.DecodeAny
import Derived.Ground.Names2Prog
import Derived.Shelf.Slices.Clone
import Derived.Test.YtchgkcbloeoopaaGreatDoorProg
import Derived.Lib.CountLaws
import Derived.Lib.Split
import Derived.Lib.ItoaNum
import Derived.Lib.IndexBytes
namespace Go.Proofs.YtchgkcbloeoopaaGreatDoor
open Gk Pc
set_option linter.unusedVariables false
set_option linter.unusedSimpArgs false
theorem refDigit_any (c : UInt8) (w : World) :
  Calls Tryz.prog 92 [U8 c.toNat].toArray w (Ret fun v w' => v = I64 (hexv c) ∧ w = w') := by
 obtain ⟨w0, hw0⟩ : ∃ w0, w = w0 := ⟨_, rfl⟩
 rw [show (fun (v : Value) (w' : World) => v = I64 (hexv c) ∧ w = w') = (fun v w' => v = I64 (hexv c) ∧ w0 = w') by rw [hw0]]
 refine calls Tryz.func92 rfl Tryz.ntmps92 rfl ?_
 refine WC.seq ?_
 refine WC.region ?_
 refine WL.val (.assign (.of rfl)) rfl ?_
 refine WL.nil ?_
 refine WC.seq ?_
 refine WC.region ?_
 refine WL.val (.assign (.of rfl)) rfl ?_
 refine WL.nil ?_
 refine WC.seq ?_
 refine WC.region ?_
 refine WL.val (.assign (.of rfl)) rfl ?_
 refine WL.nil ?_
 refine WC.seq ?_
 refine WC.seq ?_
 refine WC.region ?_
 refine WL.val (.assign (.of rfl)) rfl ?_
 refine WL.nil ?_
 refine WC.block ?_
 refine WC.loop (σ := Nat) (fun i => [(0, U8 c.toNat), (3, S LOW), (4, S HIGH), (5, I64 (i : Nat))]) (fun i w => i ≤ 16 ∧ (∀ j, j < i → LOW.getD j 0 ≠ c ∧ HIGH.getD j 0 ≠ c) ∧ w = w0) (fun i => 16 - i) 0 ⟨rfl, rfl, rfl, rfl, trivial⟩ ⟨by decide, fun _ h => absurd h (by omega), hw0⟩ ?_
 rintro i w ⟨hi, hno, hw⟩
 change WC _ _ _ _ [(0, U8 c.toNat), (3, S LOW), (4, S HIGH), (5, I64 (i : Nat))] w
 have hLW : LOW.length = 16 := rfl
 have hHI : HIGH.length = 16 := rfl
 refine WC.seq ?_
 refine WC.seq ?_
 refine WC.region ?_
 refine WL.val (.move (.of rfl)) rfl ?_
 refine WL.val (.lss (.of rfl) (.of rfl)) rfl ?_
 refine WL.nil ?_
 refine WC.cond rfl (fun hb7 => ?_) (fun hb7 => ?_)
 ·
  have hc7 := hb7; try simp only [Gk.cs0] at hc7
  refine WC.skip ?_
  refine WC.seq ?_
  refine WC.block ?_
  refine WC.seq ?_
  refine WC.region ?_
  refine WL.val (.move (.of rfl)) rfl ?_
  refine WL.val (.move (.of rfl)) rfl ?_
  refine WL.val (.index8 (l := LOW) (i := (i : Int)) (.of rfl) (.of rfl) (by omega) (by omega) Tryz.underlying9) rfl ?_
  refine WL.val (.move (.of rfl)) rfl ?_
  refine WL.val (.eql (.of rfl) (.of rfl)) rfl ?_
  refine WL.val (.move (.of rfl)) rfl ?_
  refine WL.gval rfl rfl (fun hg1 => (.move (.of rfl))) rfl ?_
  refine WL.gval rfl rfl (fun hg1 => (.move (.of rfl))) rfl ?_
  refine WL.gval rfl rfl (fun hg1 => .index8 (l := HIGH) (i := (i : Int)) (.gd hg1 rfl) (.gd hg1 rfl) (by omega) (by omega) Tryz.underlying9) rfl ?_
  refine WL.gval rfl rfl (fun hg1 => (.move (.of rfl))) rfl ?_
  refine WL.gval rfl rfl (fun hg1 => (.eql (.gd hg1 rfl) (.gd hg1 rfl))) rfl ?_
  refine WL.val (.por (.of rfl) (.of rfl) (.of rfl)) rfl ?_
  refine WL.nil ?_
  refine WC.cond rfl (fun hb21 => ?_) (fun hb21 => ?_)
  ·
   have hc21 := hb21; try simp only [Gk.cs0] at hc21
   refine WC.seq ?_
   refine WC.region ?_
   refine WL.val (.move (.of rfl)) rfl ?_
   refine WL.val (.assign (.of rfl)) rfl ?_
   refine WL.nil ?_
   refine WC.ret ?_
   refine ret1 Tryz.results92 rfl ?_
   refine ⟨_, rfl, ?_, hw.symm⟩
   rw [hex_hit (c := c) (i := i) (by omega)]
   simp only [Bool.or_eq_true, beq_iff_eq, at_, Int.toNat_natCast] at hb21
   rcases hb21 with h | h
   ·exact .inl (UInt8.toNat_inj.1 (by omega))
   ·exact .inr (UInt8.toNat_inj.1 (by omega))
  ·
   have hc21 := hb21; try simp only [Gk.cs0] at hc21
   refine WC.skip ?_
   refine WC.region ?_
   refine WL.val (.move (.of rfl)) rfl ?_
   refine WL.val (.add (.of rfl) (.of rfl) ⟨by omega, by omega⟩) rfl ?_
   refine WL.val (.assign (.of rfl)) rfl ?_
   refine WL.nil ?_
   refine ⟨i + 1, ⟨rfl, rfl, rfl, rfl, trivial⟩, ⟨by omega, fun j hj => ?_, hw⟩, by omega⟩
   rcases Nat.lt_or_ge j i with h1 | h1
   ·exact hno j h1
   ·have e : j = i := by omega
    subst e
    simp only [Bool.or_eq_false_iff, beq_eq_false_iff_ne, at_, Int.toNat_natCast] at hb21
    exact ⟨fun e => hb21.1 (by rw [e]), fun e => hb21.2 (by rw [e])⟩
 ·
  have hc7 := hb7; try simp only [Gk.cs0] at hc7
  refine WC.exit ?_
  refine WC.seq ?_
  refine WC.region ?_
  refine WL.val (.assign (.of rfl)) rfl ?_
  refine WL.nil ?_
  refine WC.ret ?_
  refine ret1 Tryz.results92 rfl ?_
  exact ⟨_, rfl, by rw [hex_miss (fun j hj => hno j (by omega))], hw.symm⟩
theorem refPlain_any (c : UInt8) (w : World) :
  Calls Tryz.prog 79 [U8 c.toNat].toArray w (Ret fun v w' => v = .bool (plain c) ∧ w = w') := by
 obtain ⟨w0, hw0⟩ : ∃ w0, w = w0 := ⟨_, rfl⟩
 rw [show (fun (v : Value) (w' : World) => v = .bool (plain c) ∧ w = w') = (fun v w' => v = .bool (plain c) ∧ w0 = w') by rw [hw0]]
 refine calls Tryz.func79 rfl Tryz.ntmps79 rfl ?_
 refine WC.seq ?_
 refine WC.region ?_
 refine WL.val (.assign (.of rfl)) rfl ?_
 refine WL.nil ?_
 refine WC.seq ?_
 refine WC.region ?_
 refine WL.val (.assign (.of rfl)) rfl ?_
 refine WL.nil ?_
 refine WC.seq ?_
 refine WC.seq ?_
 refine WC.region ?_
 refine WL.val (.assign (.of rfl)) rfl ?_
 refine WL.nil ?_
 refine WC.block ?_
 refine WC.loop (σ := Nat) (fun i => [(0, U8 c.toNat), (3, S PLAINS), (4, I64 (i : Nat))]) (fun i w => i ≤ 66 ∧ (∀ j, j < i → PLAINS.getD j 0 ≠ c) ∧ w = w0) (fun i => 66 - i) 0 ⟨rfl, rfl, rfl, trivial⟩ ⟨by decide, fun _ h => absurd h (by omega), hw0⟩ ?_
 rintro i w ⟨hi, hno, hw⟩
 change WC _ _ _ _ [(0, U8 c.toNat), (3, S PLAINS), (4, I64 (i : Nat))] w
 have hPL : PLAINS.length = 66 := rfl
 refine WC.seq ?_
 refine WC.seq ?_
 refine WC.region ?_
 refine WL.val (.move (.of rfl)) rfl ?_
 refine WL.val (.move (.of rfl)) rfl ?_
 refine WL.val (.len (l := PLAINS) (.of rfl) Tryz.underlying9) rfl ?_
 refine WL.val (.lss (.of rfl) (.of rfl)) rfl ?_
 refine WL.nil ?_
 refine WC.cond rfl (fun hb8 => ?_) (fun hb8 => ?_)
 ·
  have hc8 := hb8; try simp only [Gk.cs0] at hc8
  refine WC.skip ?_
  refine WC.seq ?_
  refine WC.block ?_
  refine WC.seq ?_
  refine WC.region ?_
  refine WL.val (.move (.of rfl)) rfl ?_
  refine WL.val (.move (.of rfl)) rfl ?_
  refine WL.val (.index8 (l := PLAINS) (i := (i : Int)) (.of rfl) (.of rfl) (by omega) (by omega) Tryz.underlying9) rfl ?_
  refine WL.val (.move (.of rfl)) rfl ?_
  refine WL.val (.eql (.of rfl) (.of rfl)) rfl ?_
  refine WL.nil ?_
  refine WC.cond rfl (fun hb15 => ?_) (fun hb15 => ?_)
  ·
   have hc15 := hb15; try simp only [Gk.cs0] at hc15
   refine WC.seq ?_
   refine WC.region ?_
   refine WL.val (.assign (.of rfl)) rfl ?_
   refine WL.nil ?_
   refine WC.ret ?_
   refine ret1 Tryz.results79 rfl ?_
   refine ⟨_, rfl, ?_, hw.symm⟩
   rw [show plain c = true by
    rw [plain_all, List.contains_iff_mem]
    simp only [beq_iff_eq, at_, Int.toNat_natCast] at hb15
    have e : PLAINS.getD i 0 = c := UInt8.toNat_inj.1 (by omega)
    have hm : c ∈ PLAINS := by
     rw [← e, List.getD_eq_getElem?_getD, List.getElem?_eq_getElem (by omega)]
     exact List.getElem_mem _
    exact hm]
  ·
   have hc15 := hb15; try simp only [Gk.cs0] at hc15
   refine WC.skip ?_
   refine WC.region ?_
   refine WL.val (.move (.of rfl)) rfl ?_
   refine WL.val (.add (.of rfl) (.of rfl) ⟨by omega, by omega⟩) rfl ?_
   refine WL.val (.assign (.of rfl)) rfl ?_
   refine WL.nil ?_
   refine ⟨i + 1, ⟨rfl, rfl, rfl, trivial⟩, ⟨by omega, fun j hj => ?_, hw⟩, by omega⟩
   rcases Nat.lt_or_ge j i with h1 | h1
   ·exact hno j h1
   ·have e : j = i := by omega
    subst e
    simp only [beq_eq_false_iff_ne, at_, Int.toNat_natCast] at hb15
    exact fun e => hb15 (by rw [e])
 ·
  have hc8 := hb8; try simp only [Gk.cs0] at hc8
  refine WC.exit ?_
  refine WC.seq ?_
  refine WC.region ?_
  refine WL.val (.assign (.of rfl)) rfl ?_
  refine WL.nil ?_
  refine WC.ret ?_
  refine ret1 Tryz.results79 rfl ?_
  refine ⟨_, rfl, ?_, hw.symm⟩
  rw [show plain c = false by
   rw [plain_all, ← Bool.not_eq_true, List.contains_iff_mem]
   intro hm
   obtain ⟨j, hj, e⟩ := List.mem_iff_getElem.1 (show c ∈ PLAINS from hm)
   refine hno j (by omega) ?_
   rw [List.getD_eq_getElem?_getD, List.getElem?_eq_getElem hj, ← e]; rfl]
theorem refPercent_any (c : UInt8) (B w : World) (I : Im) (As : List Assn) (hS : Sat B w I As) :
  Calls Tryz.prog 80 [U8 c.toNat].toArray w (Ret fun v w' => v = S (pctB c) ∧ Sat B w' I As) := by
 refine calls Tryz.func80 rfl Tryz.ntmps80 rfl ?_
 refine WC.seq ?_
 refine WC.region ?_
 refine WL.val (.assign (.of rfl)) rfl ?_
 refine WL.nil ?_
 refine WC.seq ?_
 refine WC.region ?_
 refine WL.val (.assign (.of rfl)) rfl ?_
 refine WL.nil ?_
 refine WC.seq ?_
 have hHI : HIGH.length = 16 := rfl
 have hc := c.toNat_lt
 refine WC.quiet (by kernel_rfl) (by kernel_rfl) hS ?_
 refine WQ.val (fun w hS => (.move (.of rfl))) rfl ?_
 refine WQ.val (fun w hS => (.move (.of rfl))) rfl ?_
 refine WQ.val (fun w hS => .quo (.of rfl) (.of rfl) (by omega) (by omega) (by rw [IntKind.wrap_u8]; omega)) rfl ?_
 refine WQ.val (fun w hS => (.move (.of rfl))) rfl ?_
 refine WQ.val (fun w hS => .quo (.of rfl) (.of rfl) (by omega) (by omega) (by rw [IntKind.wrap_u8]; omega)) rfl ?_
 refine WQ.val (fun w hS => .addx (.of rfl) (.of rfl) (by rw [IntKind.wrap_u8]; omega)) rfl ?_
 refine WQ.val (fun w hS => .sub3k (l := HIGH) (.of rfl) (.of rfl) (.of rfl) (by omega) (by omega) (by omega) Tryz.underlying9) rfl ?_
 refine WQ.val (fun w hS => .cat (l := [37]) (.of rfl) (.of rfl) (by simp only [List.length_append, List.length_take, List.length_drop, List.length_cons, List.length_nil]; omega)) rfl ?_
 refine WQ.val (fun w hS => (.move (.of rfl))) rfl ?_
 refine WQ.val (fun w hS => (.move (.of rfl))) rfl ?_
 refine WQ.val (fun w hS => (.rem (.of rfl) (.of rfl) (by omega) (by omega))) rfl ?_
 refine WQ.val (fun w hS => (.move (.of rfl))) rfl ?_
 refine WQ.val (fun w hS => (.rem (.of rfl) (.of rfl) (by omega) (by omega))) rfl ?_
 refine WQ.val (fun w hS => .addx (.of rfl) (.of rfl) (by rw [IntKind.wrap_u8]; omega)) rfl ?_
 refine WQ.val (fun w hS => .sub3k (l := HIGH) (.of rfl) (.of rfl) (.of rfl) (by omega) (by omega) (by omega) Tryz.underlying9) rfl ?_
 refine WQ.val (fun w hS => .cat (.of rfl) (.of rfl) (by simp only [List.length_append, List.length_take, List.length_drop, List.length_cons, List.length_nil]; omega)) rfl ?_
 refine WQ.val (fun w hS => (.assign (.of rfl))) rfl ?_
 refine WQ.nil ?_
 clear hS; intro w hS
 refine WC.ret ?_
 refine ret1 Tryz.results80 rfl ?_
 refine ⟨_, rfl, ?_, hS⟩
 rw [← pct_of c]
 have e1 : ((c.toNat : Int) / 16).toNat = c.toNat / 16 := by omega
 have e2 : ((c.toNat : Int) % 16).toNat = c.toNat % 16 := by omega
 have e3 : ((c.toNat : Int) / 16 + 1).toNat - c.toNat / 16 = 1 := by omega
 have e4 : ((c.toNat : Int) % 16 + 1).toNat - c.toNat % 16 = 1 := by omega
 rw [e1, e2, e3, e4]
theorem refTold_any (s : List UInt8) (i : Int) (h0 : 0 ≤ i) (h1 : i ≤ 9223372036854775800) (w : World) :
  Calls Tryz.prog 78 [S s, I64 i].toArray w (Ret fun v w' => v = I64 (if (s.length : Int) ≤ i + 2 then -1 else if hexv (at_ s (i + 1)) < 0 ∨ hexv (at_ s (i + 2)) < 0 then -1 else 16 * hexv (at_ s (i + 1)) + hexv (at_ s (i + 2))) ∧ w = w') := by
 refine calls Tryz.func78 rfl Tryz.ntmps78 rfl ?_
 refine WC.seq ?_
 refine WC.region ?_
 refine WL.val (.assign (.of rfl)) rfl ?_
 refine WL.nil ?_
 refine WC.seq ?_
 refine WC.seq ?_
 refine WC.region ?_
 refine WL.val (.move (.of rfl)) rfl ?_
 refine WL.val (.add (.of rfl) (.of rfl) ⟨by omega, by omega⟩) rfl ?_
 refine WL.val (.move (.of rfl)) rfl ?_
 refine WL.val (.len (.of rfl) Tryz.underlying9) rfl ?_
 refine WL.val (.geq (.of rfl) (.of rfl)) rfl ?_
 refine WL.nil ?_
 refine WC.cond rfl (fun hb11 => ?_) (fun hb11 => ?_)
 ·
  have hc11 := hb11; try simp only [Gk.cs0] at hc11
  refine WC.seq ?_
  refine WC.region ?_
  refine WL.val (.assign (.of rfl)) rfl ?_
  refine WL.nil ?_
  refine WC.ret ?_
  refine ret1 Tryz.results78 rfl ?_
  exact ⟨_, rfl, by rw [if_pos hc11], rfl⟩
 ·
  have hc11 := hb11; try simp only [Gk.cs0] at hc11
  refine WC.skip ?_
  refine WC.seq ?_
  refine WC.region ?_
  refine WL.val (.move (.of rfl)) rfl ?_
  refine WL.val (.move (.of rfl)) rfl ?_
  refine WL.val (.add (.of rfl) (.of rfl) ⟨by omega, by omega⟩) rfl ?_
  refine WL.val (.index (.of rfl) (.of rfl) (by omega) (by omega) Tryz.underlying9) rfl ?_
  refine WL.call Tryz.func92 rfl (evs_cons (.of rfl) evs_nil) rfl (refDigit_any _ _) ?_
  rintro _ _ ⟨rfl, rfl⟩
  refine WL.val (.assign (.of rfl)) rfl ?_
  refine WL.nil ?_
  refine WC.seq ?_
  refine WC.region ?_
  refine WL.val (.move (.of rfl)) rfl ?_
  refine WL.val (.move (.of rfl)) rfl ?_
  refine WL.val (.add (.of rfl) (.of rfl) ⟨by omega, by omega⟩) rfl ?_
  refine WL.val (.index (.of rfl) (.of rfl) (by omega) (by omega) Tryz.underlying9) rfl ?_
  refine WL.call Tryz.func92 rfl (evs_cons (.of rfl) evs_nil) rfl (refDigit_any _ _) ?_
  rintro _ _ ⟨rfl, rfl⟩
  refine WL.val (.assign (.of rfl)) rfl ?_
  refine WL.nil ?_
  refine WC.seq ?_
  refine WC.seq ?_
  refine WC.region ?_
  refine WL.val (.move (.of rfl)) rfl ?_
  refine WL.val (.lss (.of rfl) (.of rfl)) rfl ?_
  refine WL.val (.move (.of rfl)) rfl ?_
  refine WL.gval rfl rfl (fun hg1 => (.move (.of rfl))) rfl ?_
  refine WL.gval rfl rfl (fun hg1 => (.lss (.gd hg1 rfl) (.of rfl))) rfl ?_
  refine WL.val (.por (.of rfl) (.of rfl) (.of rfl)) rfl ?_
  refine WL.nil ?_
  refine WC.cond rfl (fun hb27 => ?_) (fun hb27 => ?_)
  ·
   have hc27 := hb27; try simp only [Gk.cs0] at hc27
   refine WC.seq ?_
   refine WC.region ?_
   refine WL.val (.assign (.of rfl)) rfl ?_
   refine WL.nil ?_
   refine WC.ret ?_
   refine ret1 Tryz.results78 rfl ?_
   exact ⟨_, rfl, by rw [if_neg (by omega), if_pos hc27], rfl⟩
  ·
   have hc27 := hb27; try simp only [Gk.cs0] at hc27
   refine WC.skip ?_
   refine WC.seq ?_
   have hr1 := hexv_range (at_ s (i + 1))
   have hr2 := hexv_range (at_ s (i + 2))
   refine WC.region ?_
   refine WL.val (.move (.of rfl)) rfl ?_
   refine WL.val (.mul (.of rfl) (.of rfl) ⟨by omega, by omega⟩) rfl ?_
   refine WL.val (.move (.of rfl)) rfl ?_
   refine WL.val (.add (.of rfl) (.of rfl) ⟨by omega, by omega⟩) rfl ?_
   refine WL.val (.assign (.of rfl)) rfl ?_
   refine WL.nil ?_
   refine WC.ret ?_
   refine ret1 Tryz.results78 rfl ?_
   exact ⟨_, rfl, by rw [if_neg (by omega), if_neg (by omega)], rfl⟩
theorem told_at (s : List UInt8) (i : Nat) : (if (s.length : Int) ≤ (i : Int) + 2 then (-1 : Int) else if hexv (at_ s ((i : Int) + 1)) < 0 ∨ hexv (at_ s ((i : Int) + 2)) < 0 then -1 else 16 * hexv (at_ s ((i : Int) + 1)) + hexv (at_ s ((i : Int) + 2))) = match told (s.drop (i + 1)) with | none => -1 | some v => (v.toNat : Int) := by
 by_cases h : s.length ≤ i + 2
 ·rw [if_pos (by omega)]
  have : told (s.drop (i + 1)) = none := by
   have hl : (s.drop (i + 1)).length ≤ 1 := by rw [List.length_drop]; omega
   match s.drop (i + 1), hl with
   | [], _ => rfl
   | [_], _ => rfl
  rw [this]
 ·rw [if_neg (by omega)]
  have e1 : s.drop (i + 1) = at_ s ((i : Int) + 1) :: at_ s ((i : Int) + 2) :: s.drop (i + 3) := by
   rw [drop_at s (show i + 1 < s.length by omega), drop_at s (show i + 1 + 1 < s.length by omega)]
   rfl
  rw [e1]
  simp only [told]
  split
  ·rfl
  ·rename_i hn
   have hn1 := hexv_range (at_ s ((i : Int) + 1))
   have hn2 := hexv_range (at_ s ((i : Int) + 2))
   exact (byteOf_toNat _ _ (by omega) (by omega)).symm
set_option maxHeartbeats 400000 in
theorem refNormal_any (s : List UInt8) (hl : s.length ≤ 1000000) (B w : World) (I : Im) (As : List Assn) (hS : Sat B w I As) :
  Calls Tryz.prog 63 [S s].toArray w (Ret fun v w' => v = (match norm s with | none => .tuple #[S [], I64 11] | some t => .tuple #[S t, I64 0]) ∧ Sat B w' I As) := by
 refine calls Tryz.func63 rfl Tryz.ntmps63 rfl ?_
 refine WC.seq ?_
 refine WC.region ?_
 refine WL.val (.assign (.of rfl)) rfl ?_
 refine WL.val (.assign (.of rfl)) rfl ?_
 refine WL.nil ?_
 refine WC.seq ?_
 refine WC.region ?_
 refine WL.val (.assign (.of rfl)) rfl ?_
 refine WL.nil ?_
 refine WC.seq ?_
 refine WC.seq ?_
 refine WC.region ?_
 refine WL.val (.assign (.of rfl)) rfl ?_
 refine WL.nil ?_
 refine WC.block ?_
 refine WC.loop (σ := List UInt8 × Nat) (fun ⟨out, i⟩ => [(0, S s), (4, S out), (5, I64 (i : Nat))]) (fun ⟨out, i⟩ w => i ≤ s.length ∧ out.length + (s.length - i) * 3 ≤ s.length * 3 ∧ norm s = (norm (s.drop i)).map (out ++ ·) ∧ Sat B w I As) (fun ⟨out, i⟩ => s.length - i) ([], 0) ⟨rfl, rfl, rfl, trivial⟩ ⟨Nat.zero_le _, by simp, by simp, hS⟩ ?_
 rintro ⟨out, i⟩ w ⟨hi, hol, hno, hS⟩
 change WC _ _ _ _ [(0, S s), (4, S out), (5, I64 (i : Nat))] w
 refine WC.seq ?_
 refine WC.seq ?_
 refine WC.region ?_
 refine WL.val (.move (.of rfl)) rfl ?_
 refine WL.val (.move (.of rfl)) rfl ?_
 refine WL.val (.len (.of rfl) Tryz.underlying9) rfl ?_
 refine WL.val (.lss (.of rfl) (.of rfl)) rfl ?_
 refine WL.nil ?_
 refine WC.cond rfl (fun hb11 => ?_) (fun hb11 => ?_)
 ·
  have hc11 := hb11; try simp only [Gk.cs0] at hc11
  refine WC.skip ?_
  refine WC.seq ?_
  refine WC.block ?_
  refine WC.seq ?_
  refine WC.seq ?_
  refine WC.region ?_
  refine WL.val (.move (.of rfl)) rfl ?_
  refine WL.val (.move (.of rfl)) rfl ?_
  refine WL.val (.index (.of rfl) (.of rfl) (by omega) (by omega) Tryz.underlying9) rfl ?_
  refine WL.val (.neq (.of rfl) (.of rfl)) rfl ?_
  refine WL.nil ?_
  refine WC.cond rfl (fun hb17 => ?_) (fun hb17 => ?_)
  ·
   have hc17 := hb17; try simp only [Gk.cs0] at hc17
   refine WC.seq ?_
   refine WC.region ?_
   refine WL.val (.move (.of rfl)) rfl ?_
   refine WL.val (.move (.of rfl)) rfl ?_
   refine WL.val (.move (.of rfl)) rfl ?_
   refine WL.val (.move (.of rfl)) rfl ?_
   refine WL.val (.add (.of rfl) (.of rfl) ⟨by omega, by omega⟩) rfl ?_
   refine WL.val (.sub3 (l := s) (i := (i : Int)) (j := (i : Int) + 1) (.of rfl) (.of rfl) (.of rfl) (by omega) (by omega) (by omega) Tryz.underlying9) rfl ?_
   rw [show (s.drop (i : Int).toNat).take (((i : Int) + 1).toNat - (i : Int).toNat) = [at_ s (i : Int)] by rw [Int.toNat_natCast, show ((i : Int) + 1).toNat - i = 1 by omega, drop_at s (by omega)]; rfl]
   refine WL.val (.cat (.of rfl) (.of rfl) (by simp only [List.length_cons, List.length_nil]; omega)) rfl ?_
   refine WL.val (.assign (.of rfl)) rfl ?_
   refine WL.nil ?_
   refine WC.exit ?_
   refine WC.region ?_
   refine WL.val (.move (.of rfl)) rfl ?_
   refine WL.val (.add (.of rfl) (.of rfl) ⟨by omega, by omega⟩) rfl ?_
   refine WL.val (.assign (.of rfl)) rfl ?_
   refine WL.nil ?_
   have e37 : at_ s (i : Int) ≠ 37 := fun e => by rw [e] at hb17; simp at hb17
   refine ⟨(out ++ [at_ s (i : Int)], i + 1), ⟨rfl, rfl, rfl, trivial⟩, ⟨by (try dsimp only); omega, by (try dsimp only); rw [List.length_append]; simp only [List.length_cons, List.length_nil]; omega, ?_, hS⟩, by (try dsimp only); omega⟩
   rw [hno, drop_at s (by omega), norm_cons, if_neg e37]
   cases norm (s.drop (i + 1)) <;> simp
  ·
   have hc17 := hb17; try simp only [Gk.cs0] at hc17
   refine WC.skip ?_
   refine WC.seq ?_
   refine WC.region ?_
   refine WL.val (.move (.of rfl)) rfl ?_
   refine WL.val (.move (.of rfl)) rfl ?_
   refine WL.call Tryz.func78 rfl (evs_cons (.of rfl) (evs_cons (.of rfl) evs_nil)) rfl (refTold_any s (i : Int) (by omega) (by omega) _) ?_
   rintro _ _ ⟨rfl, rfl⟩
   rw [told_at]
   refine WL.val (.assign (.of rfl)) rfl ?_
   refine WL.nil ?_
   refine WC.seq ?_
   refine WC.seq ?_
   refine WC.region ?_
   refine WL.val (.move (.of rfl)) rfl ?_
   refine WL.val (.lss (.of rfl) (.of rfl)) rfl ?_
   refine WL.nil ?_
   refine WC.cond rfl (fun hb29 => ?_) (fun hb29 => ?_)
   ·
    have hc29 := hb29; try simp only [Gk.cs0] at hc29
    refine WC.seq ?_
    refine WC.region ?_
    refine WL.val (.assign (.of rfl)) rfl ?_
    refine WL.val (.assign (.of rfl)) rfl ?_
    refine WL.nil ?_
    refine WC.ret ?_
    refine ret2 Tryz.results63 rfl rfl ?_
    refine ⟨_, rfl, ?_, hS⟩
    have e37 : at_ s (i : Int) = 37 := UInt8.toNat_inj.1 (by simp only [bne_eq_false_iff_eq] at hb17; show (at_ s (i : Int)).toNat = 37; omega)
    have ht : told (s.drop (i + 1)) = none := by
     cases ht : told (s.drop (i + 1)) with
     | none => rfl
     | some v => rw [ht] at hc29; simp at hc29; omega
    have : norm s = none := by rw [hno, drop_at s (by omega), norm_cons, if_pos e37, ht]; rfl
    rw [this]
   ·
    have hc29 := hb29; try simp only [Gk.cs0] at hc29
    refine WC.skip ?_
    refine WC.seq ?_
    have e37 : at_ s (i : Int) = 37 := UInt8.toNat_inj.1 (by simp only [bne_eq_false_iff_eq] at hb17; show (at_ s (i : Int)).toNat = 37; omega)
    obtain ⟨v, hv⟩ : ∃ v, told (s.drop (i + 1)) = some v := by
     cases ht : told (s.drop (i + 1)) with
     | some v => exact ⟨v, rfl⟩
     | none => rw [ht] at hc29; simp at hc29
    rw [hv]
    try dsimp only
    have hvl := told_len hv
    rw [List.length_drop] at hvl
    have hv8 := v.toNat_lt
    refine WC.region ?_
    refine WL.val (.move (.of rfl)) rfl ?_
    refine WL.val (.cvi (.of rfl) Tryz.underlying3 Tryz.underlying5 (by rw [IntKind.wrap_u8]; omega)) rfl ?_
    refine WL.call Tryz.func79 rfl (evs_cons (.of rfl) evs_nil) rfl (refPlain_any v _) ?_
    rintro _ _ ⟨rfl, rfl⟩
    refine WL.val (.assign (.of rfl)) rfl ?_
    refine WL.nil ?_
    refine WC.seq ?_
    refine WC.seq ?_
    refine WC.region ?_
    refine WL.val (.move (.of rfl)) rfl ?_
    refine WL.nil ?_
    refine WC.cond rfl (fun hb33 => ?_) (fun hb33 => ?_)
    ·
     have hc33 := hb33; try simp only [Gk.cs0] at hc33
     have hpl : plain v = true := hb33
     refine WC.region ?_
     refine WL.val (.move (.of rfl)) rfl ?_
     refine WL.val (.move (.of rfl)) rfl ?_
     refine WL.val (.cvi (.of rfl) Tryz.underlying3 Tryz.underlying5 (by rw [IntKind.wrap_u8]; omega)) rfl ?_
     refine WL.buildSlice (cs := [_]) hS (parts_cons (.of rfl) parts_nil) Tryz.underlying103 Tryz.sizeOf5 Tryz.zeroValue5 rfl rfl rfl rfl ?_
     clear hS; intro b37 w hS
     refine WL.val (.str1 (c := v) (.of rfl) hS (k := 0) rfl rfl Tryz.underlying103 Tryz.underlying5 Tryz.underlying9) rfl ?_
     replace hS := hS.drop (k := 0) rfl; try dsimp only [List.eraseIdx] at hS
     refine WL.val (.cat (.of rfl) (.of rfl) (by simp only [List.length_cons, List.length_nil]; omega)) rfl ?_
     refine WL.val (.assign (.of rfl)) rfl ?_
     refine WL.nil ?_
     refine WC.region ?_
     refine WL.val (.move (.of rfl)) rfl ?_
     refine WL.val (.add (.of rfl) (.of rfl) ⟨by omega, by omega⟩) rfl ?_
     refine WL.val (.assign (.of rfl)) rfl ?_
     refine WL.nil ?_
     refine WC.region ?_
     refine WL.val (.move (.of rfl)) rfl ?_
     refine WL.val (.add (.of rfl) (.of rfl) ⟨by omega, by omega⟩) rfl ?_
     refine WL.val (.assign (.of rfl)) rfl ?_
     refine WL.nil ?_
     refine ⟨(out ++ one v, i + 3), ⟨rfl, by rw [one, if_pos hpl]; rfl, rfl, trivial⟩, ⟨by (try dsimp only); omega, by (try dsimp only); rw [List.length_append]; have : (one v).length ≤ 3 := (by unfold one; split <;> simp [pctB]); omega, ?_, hS⟩, by (try dsimp only); omega⟩
     rw [hno, drop_at s (by omega), norm_cons, if_pos e37, hv]
     simp only [List.drop_drop]
     cases norm (s.drop (i + 3)) <;> simp [List.append_assoc, Nat.add_assoc]
    ·
     have hc33 := hb33; try simp only [Gk.cs0] at hc33
     have hpl : plain v = false := hb33
     refine WC.region ?_
     refine WL.val (.move (.of rfl)) rfl ?_
     refine WL.val (.move (.of rfl)) rfl ?_
     refine WL.val (.cvi (.of rfl) Tryz.underlying3 Tryz.underlying5 (by rw [IntKind.wrap_u8]; omega)) rfl ?_
     refine WL.call Tryz.func80 rfl (evs_cons (.of rfl) evs_nil) rfl (refPercent_any v B w I _ hS) ?_
     clear hS
     rintro _ w ⟨rfl, hS⟩
     refine WL.val (.cat (.of rfl) (.of rfl) (by simp only [pctB, List.length_cons, List.length_nil]; omega)) rfl ?_
     refine WL.val (.assign (.of rfl)) rfl ?_
     refine WL.nil ?_
     refine WC.region ?_
     refine WL.val (.move (.of rfl)) rfl ?_
     refine WL.val (.add (.of rfl) (.of rfl) ⟨by omega, by omega⟩) rfl ?_
     refine WL.val (.assign (.of rfl)) rfl ?_
     refine WL.nil ?_
     refine WC.region ?_
     refine WL.val (.move (.of rfl)) rfl ?_
     refine WL.val (.add (.of rfl) (.of rfl) ⟨by omega, by omega⟩) rfl ?_
     refine WL.val (.assign (.of rfl)) rfl ?_
     refine WL.nil ?_
     refine ⟨(out ++ one v, i + 3), ⟨rfl, by rw [one, if_neg (by rw [hpl]; simp)]; rfl, rfl, trivial⟩, ⟨by (try dsimp only); omega, by (try dsimp only); rw [List.length_append]; have : (one v).length ≤ 3 := (by unfold one; split <;> simp [pctB]); omega, ?_, hS⟩, by (try dsimp only); omega⟩
     rw [hno, drop_at s (by omega), norm_cons, if_pos e37, hv]
     simp only [List.drop_drop]
     cases norm (s.drop (i + 3)) <;> simp [List.append_assoc, Nat.add_assoc]
 ·
  have hc11 := hb11; try simp only [Gk.cs0] at hc11
  refine WC.exit ?_
  refine WC.seq ?_
  refine WC.region ?_
  refine WL.val (.move (.of rfl)) rfl ?_
  refine WL.val (.assign (.of rfl)) rfl ?_
  refine WL.val (.assign (.of rfl)) rfl ?_
  refine WL.nil ?_
  refine WC.ret ?_
  refine ret2 Tryz.results63 rfl rfl ?_
  refine ⟨_, rfl, ?_, hS⟩
  have : norm s = some out := by rw [hno, List.drop_of_length_le (by omega), norm_nil]; simp
  rw [this]
end Go.Proofs.YtchgkcbloeoopaaGreatDoor
namespace Go.Proofs.YtchgkcbloeoopaaGreatDoor
open Gk Pc
set_option linter.unusedVariables false
set_option linter.unusedSimpArgs false
theorem info5_85 : Tryz.prog.info? 5 = some Tryz.t5 := by kernel_rfl
theorem info141_85 : Tryz.prog.info? 141 = some Tryz.t141 := by kernel_rfl
def DigAt (I : Im) : Prop := At I (ad 2 0) (bcs HIGH)
theorem DigAt.mono {I J : Im} (h : DigAt I) (hl : Le I J) : DigAt J := At.mono h hl
theorem plain_int (c : UInt8) : ((((((decide (97 ≤ (c.toNat : Int)) && decide ((c.toNat : Int) ≤ 122)) || (decide (65 ≤ (c.toNat : Int)) && decide ((c.toNat : Int) ≤ 90))) || (decide (48 ≤ (c.toNat : Int)) && decide ((c.toNat : Int) ≤ 57))) || ((c.toNat : Int) == 45)) || ((c.toNat : Int) == 46)) || ((c.toNat : Int) == 95) || ((c.toNat : Int) == 126)) = plain c :=
 eq_of_beq (all_bytes (p := fun c => ((((((decide (97 ≤ (c.toNat : Int)) && decide ((c.toNat : Int) ≤ 122)) || (decide (65 ≤ (c.toNat : Int)) && decide ((c.toNat : Int) ≤ 90))) || (decide (48 ≤ (c.toNat : Int)) && decide ((c.toNat : Int) ≤ 57))) || ((c.toNat : Int) == 45)) || ((c.toNat : Int) == 46)) || ((c.toNat : Int) == 95) || ((c.toNat : Int) == 126)) == plain c) (by decide +kernel) c)
theorem high_at {n : Nat} (h : n < 16) : (bcs HIGH)[n]? = some (U8 (hexd n).toNat) := by
 have : ∀ n : Fin 16, HIGH[n.val]? = some (hexd n.val) := by decide +kernel
 rw [List.getElem?_map, this ⟨n, h⟩]; rfl
theorem shr4 (c : UInt8) : ((c.toNat : Int) / 2 ^ (4 : Int).toNat) = ((c.toNat / 16 : Nat) : Int) := by
 show (c.toNat : Int) / 16 = _
 omega
theorem and15 (c : UInt8) : bits .and .u8 (c.toNat : Int) 15 = ((c.toNat % 16 : Nat) : Int) :=
 eq_of_beq (all_bytes (p := fun c => bits .and .u8 (c.toNat : Int) 15 == ((c.toNat % 16 : Nat) : Int)) (by decide +kernel) c)
theorem Plain_any (c : UInt8) (w : World) :
  Calls Tryz.prog 85 [U8 c.toNat].toArray w (Ret fun v w' => v = .bool (plain c) ∧ w = w') := by
 refine calls Tryz.func85 rfl Tryz.ntmps85 rfl ?_
 refine WC.seq ?_
 refine WC.region ?_
 refine WL.val (.assign (.of rfl)) rfl ?_
 refine WL.nil ?_
 refine WC.seq ?_
 refine WC.region ?_
 refine WL.val (.move (.of rfl)) rfl ?_
 refine WL.val (.geq (.of rfl) (.of rfl)) rfl ?_
 refine WL.val (.move (.of rfl)) rfl ?_
 refine WL.gval rfl rfl (fun hg1 => (.move (.of rfl))) rfl ?_
 refine WL.gval rfl rfl (fun hg1 => (.leq (.gd hg1 rfl) (.of rfl))) rfl ?_
 refine WL.val (.pand (.of rfl) (.of rfl) (.of rfl)) rfl ?_
 refine WL.val (.move (.of rfl)) rfl ?_
 refine WL.gval rfl rfl (fun hg1 => (.move (.of rfl))) rfl ?_
 refine WL.gval rfl rfl (fun hg1 => (.geq (.gd hg1 rfl) (.of rfl))) rfl ?_
 refine WL.gval rfl rfl (fun hg1 => (.move (.gd hg1 rfl))) rfl ?_
 refine WL.gval2 rfl rfl rfl (fun hg1 hg2 => (.move (.of rfl))) rfl ?_
 refine WL.gval2 rfl rfl rfl (fun hg1 hg2 => (.leq (.gd2 hg1 hg2 rfl) (.of rfl))) rfl ?_
 refine WL.gval rfl rfl (fun hg1 => (.pand (.gd hg1 rfl) (.gd hg1 rfl) (.of rfl))) rfl ?_
 refine WL.val (.por (.of rfl) (.of rfl) (.of rfl)) rfl ?_
 refine WL.val (.move (.of rfl)) rfl ?_
 refine WL.gval rfl rfl (fun hg1 => (.move (.of rfl))) rfl ?_
 refine WL.gval rfl rfl (fun hg1 => (.geq (.gd hg1 rfl) (.of rfl))) rfl ?_
 refine WL.gval rfl rfl (fun hg1 => (.move (.gd hg1 rfl))) rfl ?_
 refine WL.gval2 rfl rfl rfl (fun hg1 hg2 => (.move (.of rfl))) rfl ?_
 refine WL.gval2 rfl rfl rfl (fun hg1 hg2 => (.leq (.gd2 hg1 hg2 rfl) (.of rfl))) rfl ?_
 refine WL.gval rfl rfl (fun hg1 => (.pand (.gd hg1 rfl) (.gd hg1 rfl) (.of rfl))) rfl ?_
 refine WL.val (.por (.of rfl) (.of rfl) (.of rfl)) rfl ?_
 refine WL.val (.move (.of rfl)) rfl ?_
 refine WL.gval rfl rfl (fun hg1 => (.move (.of rfl))) rfl ?_
 refine WL.gval rfl rfl (fun hg1 => (.eql (.gd hg1 rfl) (.of rfl))) rfl ?_
 refine WL.val (.por (.of rfl) (.of rfl) (.of rfl)) rfl ?_
 refine WL.val (.move (.of rfl)) rfl ?_
 refine WL.gval rfl rfl (fun hg1 => (.move (.of rfl))) rfl ?_
 refine WL.gval rfl rfl (fun hg1 => (.eql (.gd hg1 rfl) (.of rfl))) rfl ?_
 refine WL.val (.por (.of rfl) (.of rfl) (.of rfl)) rfl ?_
 refine WL.val (.move (.of rfl)) rfl ?_
 refine WL.gval rfl rfl (fun hg1 => (.move (.of rfl))) rfl ?_
 refine WL.gval rfl rfl (fun hg1 => (.eql (.gd hg1 rfl) (.of rfl))) rfl ?_
 refine WL.val (.por (.of rfl) (.of rfl) (.of rfl)) rfl ?_
 refine WL.val (.move (.of rfl)) rfl ?_
 refine WL.gval rfl rfl (fun hg1 => (.move (.of rfl))) rfl ?_
 refine WL.gval rfl rfl (fun hg1 => (.eql (.gd hg1 rfl) (.of rfl))) rfl ?_
 refine WL.val (.por (.of rfl) (.of rfl) (.of rfl)) rfl ?_
 refine WL.val (.assign (.of rfl)) rfl ?_
 refine WL.nil ?_
 refine WC.ret ?_
 refine ret1 Tryz.results85 rfl ?_
 exact ⟨_, rfl, congrArg Value.bool (plain_int c), rfl⟩
theorem percent_any (c : UInt8) (B w : World) (I : Im) (hd : DigAt I) (As : List Assn) (hS : Sat B w I As) :
  Calls Tryz.prog 102 [U8 c.toNat].toArray w (Ret fun v w' => v = S (pctB c) ∧ Sat B w' I As) := by
 refine calls Tryz.func102 rfl Tryz.ntmps102 rfl ?_
 refine WC.seq ?_
 refine WC.region ?_
 refine WL.val (.assign (.of rfl)) rfl ?_
 refine WL.nil ?_
 refine WC.seq ?_
 have h16 : c.toNat / 16 < 16 := by have := c.toNat_lt; omega
 have h15 : c.toNat % 16 < 16 := by omega
 refine WC.tail 8 (by kernel_rfl) (by kernel_rfl) ?_
 replace hS := hS.drew; generalize w.drew = w at hS ⊢
 refine WT.val (.move (.of rfl)) rfl ?_
 refine WT.val (.shr (.of rfl) (.of rfl) (by decide) (by decide)) rfl ?_
 rw [shr4 c]
 refine WT.val (.arrAddrI (i := ((c.toNat / 16 : Nat) : Int)) (.of rfl) (.of rfl) (by omega) (by omega) Tryz.underlying149 Tryz.sizeOf5) rfl ?_
 refine WT.val (.ldI (.of rfl) hS (hd.add _) Tryz.isAgg5 (by rw [List.getElem?_drop, Nat.add_zero, Nat.mul_one, Int.toNat_natCast]; exact high_at (n := c.toNat / 16) h16)) rfl ?_
 refine WT.val (.move (.of rfl)) rfl ?_
 refine WT.val (.ibits (.inl rfl) (.of rfl) (.of rfl)) rfl ?_
 rw [and15 c]
 refine WT.val (.arrAddrI (i := ((c.toNat % 16 : Nat) : Int)) (.of rfl) (.of rfl) (by omega) (by omega) Tryz.underlying149 Tryz.sizeOf5) rfl ?_
 refine WT.val (.ldI (.of rfl) hS (hd.add _) Tryz.isAgg5 (by rw [List.getElem?_drop, Nat.add_zero, Nat.mul_one, Int.toNat_natCast]; exact high_at (n := c.toNat % 16) h15)) rfl ?_
 refine WT.nil ?_
 show WL _ _ _ _ _ _ _
 refine WL.buildSlice (cs := [_, _, _]) hS (parts_cons (.of rfl) (parts_cons (.of rfl) (parts_cons (.of rfl) parts_nil))) Tryz.underlying103 Tryz.sizeOf5 Tryz.zeroValue5 rfl rfl rfl rfl ?_
 clear hS; intro b11 w hS
 refine WL.val (.bytesStr (l := pctB c) (b := b11) (o := 0) (cap := 3) (.of rfl) hS (k := 0) rfl Tryz.underlying103 Tryz.underlying5 Tryz.underlying9 (fun j hj => by
  have hj3 : j < 3 := hj
  match j, hj3 with
  | 0, _ => rfl
  | 1, _ => rfl
  | 2, _ => rfl)) rfl ?_
 refine WL.val (.assign (.of rfl)) rfl ?_
 refine WL.nil ?_
 refine WC.ret ?_
 refine ret1 Tryz.results102 rfl ?_
 exact ⟨_, rfl, rfl, hS.drop (k := 0) rfl⟩
def upB (c : UInt8) : UInt8 := if 97 ≤ c && c ≤ 102 then c - 32 else c
theorem up_low {c : UInt8} (h : 97 ≤ c.toNat ∧ c.toNat ≤ 102) : (c.toNat : Int) - 32 = ((upB c).toNat : Int) := by
 have := all_bytes (p := fun c => !(decide (97 ≤ c.toNat ∧ c.toNat ≤ 102)) || (c.toNat : Int) - 32 == ((upB c).toNat : Int)) (by decide +kernel) c
 simpa [h] using this
theorem up_not {c : UInt8} (h : ¬ (97 ≤ c.toNat ∧ c.toNat ≤ 102)) : upB c = c := by
 have := all_bytes (p := fun c => decide (97 ≤ c.toNat ∧ c.toNat ≤ 102) || upB c == c) (by decide +kernel) c
 simpa [h] using this
theorem up_hit {c : UInt8} {i : Nat} (h : i < 16) (he : upB c = HIGH.getD i 0) : hexv c = (i : Int) := by
 have := all_bytes (p := fun c => (List.range 16).all fun i => !(upB c == HIGH.getD i 0) || hexv c == (i : Int)) (by decide +kernel) c
 have := List.all_eq_true.1 this i (List.mem_range.2 h)
 simpa [he] using this
theorem up_miss {c : UInt8} (h : ∀ i, i < 16 → HIGH.getD i 0 ≠ upB c) : hexv c = -1 := by
 have := all_bytes (p := fun c => (List.range 16).any (fun i => HIGH.getD i 0 == upB c) || hexv c == -1) (by decide +kernel) c
 simp only [Bool.or_eq_true, beq_iff_eq] at this
 rcases this with h1 | h1
 ·obtain ⟨i, hi, h2⟩ := List.any_eq_true.1 h1
  simp only [beq_iff_eq] at h2
  exact absurd h2 (h i (List.mem_range.1 hi))
 ·exact h1
theorem digit_any (c : UInt8) (B w : World) (I : Im) (hd : DigAt I) (As : List Assn) (hS : Sat B w I As) :
  Calls Tryz.prog 121 [U8 c.toNat].toArray w (Ret fun v w' => v = I64 (hexv c) ∧ Sat B w' I As) := by
 refine calls Tryz.func121 rfl Tryz.ntmps121 rfl ?_
 refine WC.seq ?_
 refine WC.region ?_
 refine WL.val (.assign (.of rfl)) rfl ?_
 refine WL.nil ?_
 refine WC.cutS (σ := UInt8) (fun u => [(0, U8 u.toNat)]) (fun u w => u = upB c ∧ Sat B w I As) ?_ ?_
 ·
  refine WC.seq ?_
  refine WC.region ?_
  refine WL.val (.move (.of rfl)) rfl ?_
  refine WL.val (.geq (.of rfl) (.of rfl)) rfl ?_
  refine WL.val (.move (.of rfl)) rfl ?_
  refine WL.gval rfl rfl (fun hg1 => (.move (.of rfl))) rfl ?_
  refine WL.gval rfl rfl (fun hg1 => (.leq (.gd hg1 rfl) (.of rfl))) rfl ?_
  refine WL.val (.pand (.of rfl) (.of rfl) (.of rfl)) rfl ?_
  refine WL.nil ?_
  refine WC.cond rfl (fun hb10 => ?_) (fun hb10 => ?_)
  ·
   have hc10 := hb10; try simp only [Gk.cs0] at hc10
   refine WC.region ?_
   refine WL.val (.move (.of rfl)) rfl ?_
   refine WL.val (.subx (.of rfl) (.of rfl) (by rw [IntKind.wrap_u8]; simp only [Bool.and_eq_true, decide_eq_true_eq] at hb10; omega)) rfl ?_
   refine WL.val (.assign (.of rfl)) rfl ?_
   refine WL.nil ?_
   refine ⟨upB c, ⟨?_, trivial⟩, rfl, hS⟩
   have h97 : 97 ≤ c.toNat ∧ c.toNat ≤ 102 := by simp only [Bool.and_eq_true, decide_eq_true_eq] at hb10; omega
   show some (Value.int .u8 ((c.toNat : Int) - 32)) = some (U8 ((upB c).toNat : Int))
   rw [up_low h97]
  ·
   have hc10 := hb10; try simp only [Gk.cs0] at hc10
   refine WC.skip ?_
   refine ⟨upB c, ⟨?_, trivial⟩, rfl, hS⟩
   have h97 : ¬ (97 ≤ c.toNat ∧ c.toNat ≤ 102) := by simp only [Bool.and_eq_false_iff, decide_eq_false_iff_not] at hb10; omega
   show some (U8 (c.toNat : Int)) = some (U8 ((upB c).toNat : Int))
   rw [up_not h97]
 ·
  rintro u w ⟨hu, hS⟩
  change WC _ _ _ _ [(0, U8 u.toNat)] w
  refine WC.seq ?_
  refine WC.seq ?_
  refine WC.region ?_
  refine WL.val (.ldsI (us := bcs HIGH) (.of rfl) hS hd Tryz.isAgg149 Tryz.sizeOf149 rfl (fun _ _ h => h)) rfl ?_
  refine WL.val (.move (.of rfl)) rfl ?_
  refine WL.nil ?_
  refine WC.block ?_
  refine WC.loop (σ := Nat) (fun i => [(0, U8 u.toNat), (13, .agg (bcs HIGH).toArray), (14, I64 (i : Nat))]) (fun i w => i ≤ 16 ∧ (∀ j, j < i → HIGH.getD j 0 ≠ u) ∧ Sat B w I As) (fun i => 16 - i) 0 ⟨rfl, rfl, rfl, trivial⟩ ⟨by decide, fun _ h => absurd h (by omega), hS⟩ ?_
  rintro i w ⟨hi, hno, hS⟩
  change WC _ _ _ _ [(0, U8 u.toNat), (13, .agg (bcs HIGH).toArray), (14, I64 (i : Nat))] w
  refine WC.seq ?_
  refine WC.region ?_
  refine WL.val (.lss (.of rfl) (.of rfl)) rfl ?_
  refine WL.nil ?_
  refine WC.seq ?_
  refine WC.cond rfl (fun hb15 => ?_) (fun hb15 => ?_)
  ·
   have hc15 := hb15; try simp only [Gk.cs0] at hc15
   refine WC.skip ?_
   refine WC.seq ?_
   refine WC.block ?_
   refine WC.seq ?_
   refine WC.region ?_
   refine WL.val (.move (.of rfl)) rfl ?_
   refine WL.val (.indexArr (vs := bcs HIGH) (v := U8 (HIGH.getD i 0).toNat) (.of rfl) (.of rfl) (by omega) (by omega) Tryz.underlying149 Tryz.sizeOf5 Tryz.isAgg5 (by rw [List.getElem?_map, Int.toNat_natCast, List.getD_eq_getElem?_getD, List.getElem?_eq_getElem (show i < HIGH.length by have : HIGH.length = 16 := rfl; omega)]; rfl)) rfl ?_
   refine WL.val (.assign (.of rfl)) rfl ?_
   refine WL.val (.assign (.of rfl)) rfl ?_
   refine WL.nil ?_
   refine WC.seq ?_
   refine WC.region ?_
   refine WL.val (.move (.of rfl)) rfl ?_
   refine WL.val (.move (.of rfl)) rfl ?_
   refine WL.val (.eql (.of rfl) (.of rfl)) rfl ?_
   refine WL.nil ?_
   refine WC.cond rfl (fun hb20 => ?_) (fun hb20 => ?_)
   ·
    have hc20 := hb20; try simp only [Gk.cs0] at hc20
    refine WC.seq ?_
    refine WC.region ?_
    refine WL.val (.move (.of rfl)) rfl ?_
    refine WL.val (.assign (.of rfl)) rfl ?_
    refine WL.nil ?_
    refine WC.ret ?_
    refine ret1 Tryz.results121 rfl ?_
    refine ⟨_, rfl, ?_, hS⟩
    simp only [beq_iff_eq] at hb20
    rw [hu] at hb20
    rw [up_hit (c := c) (i := i) (by omega) (UInt8.toNat_inj.1 (by omega))]
   ·
    have hc20 := hb20; try simp only [Gk.cs0] at hc20
    refine WC.skip ?_
    refine WC.region ?_
    refine WL.val (.add (.of rfl) (.of rfl) ⟨by omega, by omega⟩) rfl ?_
    refine WL.val (.move (.of rfl)) rfl ?_
    refine WL.nil ?_
    refine ⟨i + 1, ⟨rfl, rfl, rfl, trivial⟩, ⟨by omega, fun j hj => ?_, hS⟩, by omega⟩
    rcases Nat.lt_or_ge j i with h1 | h1
    ·exact hno j h1
    ·have e : j = i := by omega
     subst e
     simp only [beq_eq_false_iff_ne] at hb20
     exact fun e => hb20 (by rw [e])
  ·
   have hc15 := hb15; try simp only [Gk.cs0] at hc15
   refine WC.exit ?_
   refine WC.seq ?_
   refine WC.region ?_
   refine WL.val (.assign (.of rfl)) rfl ?_
   refine WL.nil ?_
   refine WC.ret ?_
   refine ret1 Tryz.results121 rfl ?_
   refine ⟨_, rfl, ?_, hS⟩
   rw [hu] at hno
   rw [up_miss (c := c) (fun j hj => hno j (by omega))]
def tval (a b : Int) : Int := IntKind.u8.wrap (bits .or .i64 (IntKind.i64.wrap (a * 2 ^ (4 : Int).toNat)) (bits .and .i64 b 15))
theorem tval_byte (a b : UInt8) (ha : 0 ≤ hexv a) (hb : 0 ≤ hexv b) : tval (hexv a) (hexv b) = ((Pc.byteOf a b).toNat : Int) := by
 rw [byteOf_toNat a b ha hb]
 have h1 := hexv_range a
 have h2 := hexv_range b
 have h : ∀ x y : Fin 16, tval (x.val : Int) (y.val : Int) = 16 * (x.val : Int) + (y.val : Int) := by decide +kernel
 have := h ⟨(hexv a).toNat, by omega⟩ ⟨(hexv b).toNat, by omega⟩
 simp only [Int.toNat_of_nonneg ha, Int.toNat_of_nonneg hb] at this
 exact this
theorem told_any (s : List UInt8) (i : Int) (h0 : 0 ≤ i) (h1 : i ≤ 9223372036854775800) (B w : World) (I : Im) (hd : DigAt I) (As : List Assn) (hS : Sat B w I As) :
  Calls Tryz.prog 112 [S s, I64 i].toArray w (Ret fun v w' => v = (if (s.length : Int) ≤ i + 2 then .tuple #[.int .u8 0, .bool false] else .tuple #[.int .u8 (tval (hexv (at_ s (i + 1))) (hexv (at_ s (i + 2)))), .bool (decide (0 ≤ hexv (at_ s (i + 1))) && decide (0 ≤ hexv (at_ s (i + 2))))]) ∧ Sat B w' I As) := by
 refine calls Tryz.func112 rfl Tryz.ntmps112 rfl ?_
 refine WC.seq ?_
 refine WC.region ?_
 refine WL.val (.assign (.of rfl)) rfl ?_
 refine WL.val (.assign (.of rfl)) rfl ?_
 refine WL.nil ?_
 refine WC.seq ?_
 refine WC.seq ?_
 refine WC.region ?_
 refine WL.val (.move (.of rfl)) rfl ?_
 refine WL.val (.add (.of rfl) (.of rfl) ⟨by omega, by omega⟩) rfl ?_
 refine WL.val (.move (.of rfl)) rfl ?_
 refine WL.val (.len (.of rfl) Tryz.underlying9) rfl ?_
 refine WL.val (.geq (.of rfl) (.of rfl)) rfl ?_
 refine WL.nil ?_
 refine WC.cond rfl (fun hb12 => ?_) (fun hb12 => ?_)
 ·
  have hc12 := hb12; try simp only [Gk.cs0] at hc12
  refine WC.seq ?_
  refine WC.region ?_
  refine WL.val (.assign (.of rfl)) rfl ?_
  refine WL.val (.assign (.of rfl)) rfl ?_
  refine WL.nil ?_
  refine WC.ret ?_
  refine ret2 Tryz.results112 rfl rfl ?_
  exact ⟨_, rfl, by rw [if_pos hc12], hS⟩
 ·
  have hc12 := hb12; try simp only [Gk.cs0] at hc12
  refine WC.skip ?_
  refine WC.seq ?_
  refine WC.quiet (by kernel_rfl) (by kernel_rfl) hS ?_
  refine WQ.val (fun w hS => (.move (.of rfl))) rfl ?_
  refine WQ.val (fun w hS => (.move (.of rfl))) rfl ?_
  refine WQ.val (fun w hS => (.add (.of rfl) (.of rfl) ⟨by omega, by omega⟩)) rfl ?_
  refine WQ.val (fun w hS => (.index (.of rfl) (.of rfl) (by omega) (by omega) Tryz.underlying9)) rfl ?_
  refine WQ.call Tryz.func121 rfl (evs_cons (.of rfl) evs_nil) rfl (fun w hS => digit_any (at_ s (i + 1)) B w I hd _ hS) ?_
  refine WQ.val (fun w hS => (.move (.of rfl))) rfl ?_
  refine WQ.val (fun w hS => (.move (.of rfl))) rfl ?_
  refine WQ.val (fun w hS => (.add (.of rfl) (.of rfl) ⟨by omega, by omega⟩)) rfl ?_
  refine WQ.val (fun w hS => (.index (.of rfl) (.of rfl) (by omega) (by omega) Tryz.underlying9)) rfl ?_
  refine WQ.call Tryz.func121 rfl (evs_cons (.of rfl) evs_nil) rfl (fun w hS => digit_any (at_ s (i + 2)) B w I hd _ hS) ?_
  refine WQ.val (fun w hS => (.assign (.of rfl))) rfl ?_
  refine WQ.val (fun w hS => (.assign (.of rfl))) rfl ?_
  refine WQ.nil ?_
  clear hS; intro w hS
  refine WC.seq ?_
  refine WC.region ?_
  refine WL.val (.move (.of rfl)) rfl ?_
  refine WL.val (.shl (.of rfl) (.of rfl) (by decide) (by decide)) rfl ?_
  refine WL.val (.move (.of rfl)) rfl ?_
  refine WL.val (.ibits (.inl rfl) (.of rfl) (.of rfl)) rfl ?_
  refine WL.val (.ibits (.inr (.inl rfl)) (.of rfl) (.of rfl)) rfl ?_
  refine WL.val (.cvw (.of rfl) Tryz.underlying3 Tryz.underlying5) rfl ?_
  refine WL.val (.move (.of rfl)) rfl ?_
  refine WL.val (.geq (.of rfl) (.of rfl)) rfl ?_
  refine WL.val (.move (.of rfl)) rfl ?_
  refine WL.gval rfl rfl (fun hg1 => (.move (.of rfl))) rfl ?_
  refine WL.gval rfl rfl (fun hg1 => (.geq (.gd hg1 rfl) (.of rfl))) rfl ?_
  refine WL.val (.pand (.of rfl) (.of rfl) (.of rfl)) rfl ?_
  refine WL.val (.assign (.of rfl)) rfl ?_
  refine WL.val (.assign (.of rfl)) rfl ?_
  refine WL.nil ?_
  refine WC.ret ?_
  refine ret2 Tryz.results112 rfl rfl ?_
  exact ⟨_, rfl, by rw [if_neg (by omega)]; rfl, hS⟩
theorem NormalC_any (c : UInt8) (b : Bool) (B w : World) (I : Im) (hd : DigAt I) (As : List Assn) (hS : Sat B w I As) :
  Calls Tryz.prog 101 [U8 c.toNat, .bool b].toArray w (Ret fun v w' => v = S (if (b && !plain c) = true then pctB c else [c]) ∧ Sat B w' I As) := by
 refine calls Tryz.func101 rfl Tryz.ntmps101 rfl ?_
 refine WC.seq ?_
 refine WC.region ?_
 refine WL.val (.assign (.of rfl)) rfl ?_
 refine WL.nil ?_
 refine WC.seq ?_
 refine WC.seq ?_
 refine WC.region ?_
 refine WL.val (.move (.of rfl)) rfl ?_
 refine WL.val (.move (.of rfl)) rfl ?_
 refine WL.gval rfl rfl (fun hg1 => (.move (.of rfl))) rfl ?_
 refine WL.gcall (T := fun w => Sat B w I As) rfl rfl rfl Tryz.func85 rfl (fun hg1 => (evs_cons (.gd hg1 rfl) evs_nil)) rfl (fun hg1 => quiet_of (Plain_any c w) hS) hS ?_
 clear hS; rintro w hS
 refine WL.gval rfl rfl (fun hg1 => (.not (.gd hg1 rfl))) rfl ?_
 refine WL.val (.pand (.of rfl) (.of rfl) (.of rfl)) rfl ?_
 refine WL.nil ?_
 refine WC.cond rfl (fun hb10 => ?_) (fun hb10 => ?_)
 ·
  have hc10 := hb10; try simp only [Gk.cs0] at hc10
  refine WC.seq ?_
  refine WC.region ?_
  refine WL.val (.move (.of rfl)) rfl ?_
  refine WL.call Tryz.func102 rfl (evs_cons (.of rfl) evs_nil) rfl (percent_any c B w I hd _ hS) ?_
  clear hS
  rintro _ w ⟨rfl, hS⟩
  refine WL.val (.assign (.of rfl)) rfl ?_
  refine WL.nil ?_
  refine WC.ret ?_
  refine ret1 Tryz.results101 rfl ?_
  exact ⟨_, rfl, by rw [if_pos hb10], hS⟩
 ·
  have hc10 := hb10; try simp only [Gk.cs0] at hc10
  refine WC.skip ?_
  refine WC.seq ?_
  refine WC.region ?_
  refine WL.val (.move (.of rfl)) rfl ?_
  refine WL.buildSlice (cs := [_]) hS (parts_cons (.of rfl) parts_nil) Tryz.underlying103 Tryz.sizeOf5 Tryz.zeroValue5 rfl rfl rfl rfl ?_
  clear hS; intro b14 w hS
  refine WL.val (.str1 (c := c) (.of rfl) hS (k := 0) rfl rfl Tryz.underlying103 Tryz.underlying5 Tryz.underlying9) rfl ?_
  refine WL.val (.assign (.of rfl)) rfl ?_
  refine WL.nil ?_
  refine WC.ret ?_
  refine ret1 Tryz.results101 rfl ?_
  exact ⟨_, rfl, by rw [if_neg (by rw [hb10]; simp)], hS.drop (k := 0) rfl⟩
theorem copyCheck_any (bb : Nat) (p v : Value) (hp : p = .pointer none ∨ p = ptr bb 0) (B w : World) (I : Im) (F : List Assn) (hS : Sat B w I (blk bb [p, v] 141 :: F)) :
  Calls Tryz.prog 120 [ptr bb 0].toArray w (Ret fun u w' => u = .tuple #[] ∧ Sat B w' I (blk bb [ptr bb 0, v] 141 :: F)) := by
 rcases hp with rfl | rfl
 ·
  refine calls Tryz.func120 rfl Tryz.ntmps120 rfl ?_
  refine WC.seq ?_
  refine WC.region ?_
  refine WL.val (.move (.of rfl)) rfl ?_
  refine WL.val (.nilCheck (.of rfl)) rfl ?_
  first | refine WL.val (.fieldAddr 0 (.of rfl) Tryz.underlying141 rfl rfl Tryz.sizeOf139 rfl) rfl ?_ | refine WL.val (.fieldAddrI 0 (.of rfl) Tryz.underlying141 rfl rfl Tryz.sizeOf139 rfl) rfl ?_
  first | refine WL.val (.ld (.of rfl) hS (k := 0) rfl Tryz.isAgg139 rfl) rfl ?_
  refine WL.val (.eqp (.of rfl) (.of rfl) Tryz.underlying139) rfl ?_
  refine WL.nil ?_
  refine WC.condT (rfl) ?_
  refine WC.region ?_
  refine WL.val (.move (.of rfl)) rfl ?_
  refine WL.val (.move (.of rfl)) rfl ?_
  refine WL.val (.toUnsafe (.of rfl) hS (k := 0) rfl Tryz.underlying139 Tryz.underlying163 info141_85 (by decide) (by simp)) rfl ?_
  refine WL.val (.extern Tryz.func129 (by kernel_rfl) (by kernel_rfl) (by kernel_rfl) (e := Extern.AbiNoEscape.same) (by kernel_rfl) (evs_cons (.of rfl) evs_nil) (Go.Lib.run_noEscape w _)) rfl ?_
  refine WL.val (.fromUnsafe (.of rfl) hS (k := 0) rfl Tryz.underlying163 Tryz.underlying139 info141_85 (by kernel_rfl)) rfl ?_
  refine WL.val (.nilCheck (.of rfl)) rfl ?_
  first | refine WL.val (.fieldAddr 0 (.of rfl) Tryz.underlying141 rfl rfl Tryz.sizeOf139 rfl) rfl ?_ | refine WL.val (.fieldAddrI 0 (.of rfl) Tryz.underlying141 rfl rfl Tryz.sizeOf139 rfl) rfl ?_
  first | refine WL.st1 hS (k := 0) rfl (.of rfl) (.of rfl) rfl Tryz.sizeOf139 (by simp) ?_
  clear hS; intro w hS; try dsimp only [List.set] at hS
  refine WL.nil ?_
  refine end0 Tryz.results120 ?_
  exact ⟨_, rfl, rfl, hS⟩
 ·
  refine calls Tryz.func120 rfl Tryz.ntmps120 rfl ?_
  refine WC.seq ?_
  refine WC.region ?_
  refine WL.val (.move (.of rfl)) rfl ?_
  refine WL.val (.nilCheck (.of rfl)) rfl ?_
  first | refine WL.val (.fieldAddr 0 (.of rfl) Tryz.underlying141 rfl rfl Tryz.sizeOf139 rfl) rfl ?_ | refine WL.val (.fieldAddrI 0 (.of rfl) Tryz.underlying141 rfl rfl Tryz.sizeOf139 rfl) rfl ?_
  first | refine WL.val (.ld (.of rfl) hS (k := 0) rfl Tryz.isAgg139 rfl) rfl ?_
  refine WL.val (.eqp (.of rfl) (.of rfl) Tryz.underlying139) rfl ?_
  refine WL.nil ?_
  refine WC.condF (rfl) ?_
  refine WC.seq ?_
  refine WC.region ?_
  refine WL.val (.move (.of rfl)) rfl ?_
  refine WL.val (.nilCheck (.of rfl)) rfl ?_
  first | refine WL.val (.fieldAddr 0 (.of rfl) Tryz.underlying141 rfl rfl Tryz.sizeOf139 rfl) rfl ?_ | refine WL.val (.fieldAddrI 0 (.of rfl) Tryz.underlying141 rfl rfl Tryz.sizeOf139 rfl) rfl ?_
  first | refine WL.val (.ld (.of rfl) hS (k := 0) rfl Tryz.isAgg139 rfl) rfl ?_
  refine WL.val (.move (.of rfl)) rfl ?_
  refine WL.val (.nepSame (.of rfl) (.of rfl) Tryz.underlying139 info141_85 trivial) rfl ?_
  refine WL.nil ?_
  refine WC.condF (rfl) ?_
  refine WC.skip ?_
  refine end0 Tryz.results120 ?_
  exact ⟨_, rfl, rfl, hS⟩
theorem WriteString_any (bb : Nat) (p v : Value) (l s : List UInt8) (hp : p = .pointer none ∨ p = ptr bb 0) (B w : World) (I : Im) (F : List Assn) (hS : Sat B w I (blk bb [p, v] 141 :: Vec 5 1 v l.length (bcs l) :: F)) (hl : l.length + s.length ≤ 140737488000000) :
  Calls Tryz.prog 111 [ptr bb 0, S s].toArray w (Ret fun u w' => u = .tuple #[I64 s.length, .nilIface] ∧ ∃ v', Sat B w' I (blk bb [ptr bb 0, v'] 141 :: Vec 5 1 v' (l ++ s).length (bcs (l ++ s)) :: F)) := by
 refine calls Tryz.func111 rfl Tryz.ntmps111 rfl ?_
 refine WC.seq ?_
 refine WC.region ?_
 refine WL.val (.assign (.of rfl)) rfl ?_
 refine WL.val (.assign (.of rfl)) rfl ?_
 refine WL.nil ?_
 refine WC.seq ?_
 refine WC.region ?_
 refine WL.val (.move (.of rfl)) rfl ?_
 refine WL.call Tryz.func120 rfl (evs_cons (.of rfl) evs_nil) rfl (copyCheck_any bb p v hp B w I _ hS) ?_
 clear hS
 rintro _ w ⟨rfl, hS⟩
 refine WL.nil ?_
 refine WC.seq ?_
 obtain ⟨va, vc, rfl, hvc, _⟩ := hS.vecSlice (k := 1) rfl
 refine WC.region ?_
 refine WL.val (.move (.of rfl)) rfl ?_
 refine WL.val (.move (.of rfl)) rfl ?_
 refine WL.val (.nilCheck (.of rfl)) rfl ?_
 first | refine WL.val (.fieldAddr 1 (.of rfl) Tryz.underlying141 rfl rfl Tryz.sizeOf103 rfl) rfl ?_ | refine WL.val (.fieldAddrI 1 (.of rfl) Tryz.underlying141 rfl rfl Tryz.sizeOf103 rfl) rfl ?_
 first | refine WL.val (.ld (.of rfl) hS (k := 0) rfl Tryz.isAgg103 rfl) rfl ?_ | refine WL.val (.ld (.of rfl) hS (k := 1) rfl Tryz.isAgg103 rfl) rfl ?_
 refine WL.val (.move (.of rfl)) rfl ?_
 refine WL.appendStr hS (.of rfl) (.of rfl) (k := 1) rfl Tryz.underlying103 Tryz.underlying9 info5_85 rfl rfl rfl (by omega) rfl ?_
 clear hS; intro v14 w hS; dsimp only [List.set] at hS
 obtain ⟨a14, c14, rfl, hcap14, _⟩ := hS.vecSlice (k := 1) (v := v14) rfl
 refine WL.val (.nilCheck (.of rfl)) rfl ?_
 first | refine WL.val (.fieldAddr 1 (.of rfl) Tryz.underlying141 rfl rfl Tryz.sizeOf103 rfl) rfl ?_ | refine WL.val (.fieldAddrI 1 (.of rfl) Tryz.underlying141 rfl rfl Tryz.sizeOf103 rfl) rfl ?_
 first | refine WL.st1 hS (k := 0) rfl (.of rfl) (.of rfl) rfl Tryz.sizeOf103 (by simp) ?_ | refine WL.st1 hS (k := 1) rfl (.of rfl) (.of rfl) rfl Tryz.sizeOf103 (by simp) ?_
 clear hS; intro w hS; try dsimp only [List.set] at hS
 refine WL.nil ?_
 refine WC.seq ?_
 refine WC.region ?_
 refine WL.val (.move (.of rfl)) rfl ?_
 refine WL.val (.len (.of rfl) Tryz.underlying9) rfl ?_
 refine WL.val (.assign (.of rfl)) rfl ?_
 refine WL.val (.assign (.of rfl)) rfl ?_
 refine WL.nil ?_
 refine WC.ret ?_
 refine ret2 Tryz.results111 rfl rfl ?_
 exact ⟨_, rfl, rfl, _, by simpa using hS⟩
set_option maxRecDepth 8000 in
theorem String_any (bb : Nat) (p v : Value) (l : List UInt8) (hv : l = [] → v = .slice none 0 0) (B w : World) (I : Im) (F : List Assn) (hS : Sat B w I (blk bb [p, v] 141 :: Vec 5 1 v l.length (bcs l) :: F)) :
  Calls Tryz.prog 113 [ptr bb 0].toArray w (Ret fun u w' => u = S l ∧ Sat B w' I F) := by
 by_cases h0 : l = []
 ·obtain rfl := hv h0
  subst h0
  refine calls Tryz.func113 rfl Tryz.ntmps113 rfl ?_
  refine WC.seq ?_
  refine WC.region ?_
  refine WL.val (.assign (.of rfl)) rfl ?_
  refine WL.nil ?_
  refine WC.seq ?_
  refine WC.tail 10 (by kernel_rfl) (by kernel_rfl) ?_
  replace hS := hS.drew; generalize w.drew = w at hS ⊢
  refine WT.val (.move (.of rfl)) rfl ?_
  refine WT.val (.nilCheck (.of rfl)) rfl ?_
  refine WT.val (by first | exact .fieldAddr 1 (.of rfl) Tryz.underlying141 rfl rfl Tryz.sizeOf103 rfl | exact .fieldAddrI 1 (.of rfl) Tryz.underlying141 rfl rfl Tryz.sizeOf103 rfl) rfl ?_
  refine WT.val (by first | exact (.ld (.of rfl) hS (k := 0) rfl Tryz.isAgg103 rfl) | exact (.ld (.of rfl) hS (k := 1) rfl Tryz.isAgg103 rfl)) rfl ?_
  refine WT.val (.sliceDataNil (.of rfl)) rfl ?_
  refine WT.val (.move (.of rfl)) rfl ?_
  refine WT.val (.nilCheck (.of rfl)) rfl ?_
  refine WT.val (by first | exact .fieldAddr 1 (.of rfl) Tryz.underlying141 rfl rfl Tryz.sizeOf103 rfl | exact .fieldAddrI 1 (.of rfl) Tryz.underlying141 rfl rfl Tryz.sizeOf103 rfl) rfl ?_
  refine WT.val (by first | exact (.ld (.of rfl) hS (k := 0) rfl Tryz.isAgg103 rfl) | exact (.ld (.of rfl) hS (k := 1) rfl Tryz.isAgg103 rfl)) rfl ?_
  refine WT.val (.lenSlice (.of rfl) Tryz.underlying103) rfl ?_
  refine WT.nil ?_
  show WL _ _ _ _ _ _ _
  refine WL.val (.unsafeStringNone (.of rfl) (.of rfl)) rfl ?_
  refine WL.val (.assign (.of rfl)) rfl ?_
  refine WL.nil ?_
  refine WC.ret ?_
  refine ret1 Tryz.results113 rfl ?_
  exact ⟨_, rfl, rfl, (hS.drop (k := 0) rfl).drop (k := 0) rfl⟩
 ·have h1 : 0 < l.length := List.length_pos_iff.2 h0
  obtain ⟨vb, vc, r, rfl, hv1, hv2, hv3, hv4, hT⟩ := hS.vecOpen (k := 1) rfl h1
  clear hS; have hS := hT; clear hT; try dsimp only [List.set] at hS
  have h63 : l.length ≤ 9223372036854775807 := by unfold maxLen at hv2; omega
  refine calls Tryz.func113 rfl Tryz.ntmps113 rfl ?_
  refine WC.seq ?_
  refine WC.region ?_
  refine WL.val (.assign (.of rfl)) rfl ?_
  refine WL.nil ?_
  refine WC.seq ?_
  refine WC.tail 10 (by kernel_rfl) (by kernel_rfl) ?_
  replace hS := hS.drew; generalize w.drew = w at hS ⊢
  refine WT.val (.move (.of rfl)) rfl ?_
  refine WT.val (.nilCheck (.of rfl)) rfl ?_
  refine WT.val (by first | exact .fieldAddr 1 (.of rfl) Tryz.underlying141 rfl rfl Tryz.sizeOf103 rfl | exact .fieldAddrI 1 (.of rfl) Tryz.underlying141 rfl rfl Tryz.sizeOf103 rfl) rfl ?_
  refine WT.val (by first | exact (.ld (.of rfl) hS (k := 0) rfl Tryz.isAgg103 rfl) | exact (.ld (.of rfl) hS (k := 1) rfl Tryz.isAgg103 rfl)) rfl ?_
  refine WT.val (.sliceData (.of rfl) (by omega)) rfl ?_
  refine WT.val (.move (.of rfl)) rfl ?_
  refine WT.val (.nilCheck (.of rfl)) rfl ?_
  refine WT.val (by first | exact .fieldAddr 1 (.of rfl) Tryz.underlying141 rfl rfl Tryz.sizeOf103 rfl | exact .fieldAddrI 1 (.of rfl) Tryz.underlying141 rfl rfl Tryz.sizeOf103 rfl) rfl ?_
  refine WT.val (by first | exact (.ld (.of rfl) hS (k := 0) rfl Tryz.isAgg103 rfl) | exact (.ld (.of rfl) hS (k := 1) rfl Tryz.isAgg103 rfl)) rfl ?_
  refine WT.val (.lenSlice (.of rfl) Tryz.underlying103) rfl ?_
  refine WT.nil ?_
  show WL _ _ _ _ _ _ _
  refine WL.unsafeString hS (k := 1) rfl (.of rfl) (.of rfl) h0 Tryz.underlying155 (by kernel_rfl) (by omega) rfl ?_
  clear hS; intro w hS; try dsimp only [List.eraseIdx] at hS
  refine WL.val (.assign (.of rfl)) rfl ?_
  refine WL.nil ?_
  refine WC.ret ?_
  refine ret1 Tryz.results113 rfl ?_
  exact ⟨_, rfl, rfl, hS.drop (k := 0) rfl⟩
end Go.Proofs.YtchgkcbloeoopaaGreatDoor
namespace Go.Proofs.YtchgkcbloeoopaaGreatDoor
open Gk Pc
set_option linter.unusedVariables false
set_option linter.unusedSimpArgs false
theorem NormalC_f (c : UInt8) (B w : World) (I : Im) (hd : DigAt I) (As : List Assn) (hS : Sat B w I As) : Calls Tryz.prog 101 [U8 c.toNat, .bool false].toArray w (Ret fun v w' => v = S [c] ∧ Sat B w' I As) :=
 (NormalC_any c false B w I hd As hS).mono fun e w' he => by
  obtain ⟨v, rfl, rfl, h⟩ := he
  exact ⟨_, rfl, by simp, h⟩
theorem NormalC_t (c : UInt8) (B w : World) (I : Im) (hd : DigAt I) (As : List Assn) (hS : Sat B w I As) : Calls Tryz.prog 101 [U8 c.toNat, .bool true].toArray w (Ret fun v w' => v = S (one c) ∧ Sat B w' I As) :=
 (NormalC_any c true B w I hd As hS).mono fun e w' he => by
  obtain ⟨v, rfl, rfl, h⟩ := he
  refine ⟨_, rfl, ?_, h⟩
  unfold one
  cases plain c <;> rfl
theorem told_e (s : List UInt8) (i : Nat) (h1 : i ≤ 9223372036854775800) (B w : World) (I : Im) (hd : DigAt I) (As : List Assn) (hS : Sat B w I As) : Calls Tryz.prog 112 [S s, I64 (i : Nat)].toArray w (Ret fun v w' => ∃ tv ok, v = .tuple #[.int .u8 tv, .bool ok] ∧ (match Pc.told (s.drop (i + 1)) with | none => ok = false | some b => ok = true ∧ tv = (b.toNat : Int)) ∧ Sat B w' I As) :=
 (told_any s (i : Int) (by omega) (by omega) B w I hd As hS).mono fun e w' he => by
  obtain ⟨v, rfl, rfl, h⟩ := he
  by_cases hl : s.length ≤ i + 2
  ·have : Pc.told (s.drop (i + 1)) = none := by
    have hl : (s.drop (i + 1)).length ≤ 1 := by rw [List.length_drop]; omega
    match s.drop (i + 1), hl with
    | [], _ => rfl
    | [_], _ => rfl
   rw [if_pos (by omega), this]
   exact ⟨_, rfl, 0, false, rfl, rfl, h⟩
  ·have e1 : s.drop (i + 1) = at_ s ((i : Int) + 1) :: at_ s ((i : Int) + 2) :: s.drop (i + 3) := by
    rw [drop_at s (show i + 1 < s.length by omega), drop_at s (show i + 1 + 1 < s.length by omega)]
    rfl
   rw [if_neg (by omega), e1]
   refine ⟨_, rfl, _, _, rfl, ?_, h⟩
   simp only [Pc.told]
   by_cases hn : hexv (at_ s ((i : Int) + 1)) < 0 ∨ hexv (at_ s ((i : Int) + 2)) < 0
   ·rw [if_pos hn]
    simp only [Bool.and_eq_false_iff, decide_eq_false_iff_not]
    omega
   ·rw [if_neg hn]
    refine ⟨?_, tval_byte _ _ (by omega) (by omega)⟩
    simp only [Bool.and_eq_true, decide_eq_true_eq]
    omega
set_option maxHeartbeats 400000 in
set_option maxRecDepth 4000 in
theorem each_any (s : List UInt8) (hl : s.length ≤ 1000000) (B w : World) (I : Im) (hd : DigAt I) (As : List Assn) (hS : Sat B w I As) :
  Calls Tryz.prog 100 [S s, .func (.func 101) #[] #[]].toArray w (Ret fun v w' => v = (match norm s with | none => .tuple #[S [], I64 11] | some t => .tuple #[S t, I64 0]) ∧ Sat B w' I As) := by
 refine calls Tryz.func100 rfl Tryz.ntmps100 rfl ?_
 refine WC.seq ?_
 refine WC.region ?_
 refine WL.val (.assign (.of rfl)) rfl ?_
 refine WL.val (.assign (.of rfl)) rfl ?_
 refine WL.nil ?_
 refine WC.seq ?_
 refine WC.region ?_
 refine WL.allocA (cs := [_, _]) hS Tryz.zeroValue141 rfl ?_
 clear hS; intro b6 w hS
 refine WL.nil ?_
 refine WC.seq ?_
 refine WC.seq ?_
 refine WC.region ?_
 refine WL.val (.assign (.of rfl)) rfl ?_
 refine WL.nil ?_
 refine WC.block ?_
 replace hS := (hS.vecNil 5 1).pick 1 rfl; try dsimp only [List.eraseIdx] at hS
 refine WC.loop (σ := List UInt8 × Value × Value × Nat) (fun ⟨out, p, v, i⟩ => [(0, S s), (1, .func (.func 101) #[] #[]), (6, ptr b6 0), (7, I64 (i : Nat))]) (fun ⟨out, p, v, i⟩ w => i ≤ s.length ∧ out.length + (s.length - i) * 3 ≤ s.length * 3 ∧ norm s = (norm (s.drop i)).map (out ++ ·) ∧ (p = .pointer none ∨ p = ptr b6 0) ∧ (out = [] → v = .slice none 0 0) ∧ Sat B w I (blk b6 [p, v] 141 :: Vec 5 1 v (out).length (bcs (out)) :: As)) (fun ⟨out, p, v, i⟩ => s.length - i) ([], .pointer none, .slice none 0 0, 0) ⟨rfl, rfl, rfl, rfl, trivial⟩ ⟨Nat.zero_le _, by simp, by simp, .inl rfl, fun _ => rfl, hS⟩ ?_
 rintro ⟨out, p, v, i⟩ w ⟨hi, hol, hno, hp, hpv, hS⟩
 change WC _ _ _ _ [(0, S s), (1, .func (.func 101) #[] #[]), (6, ptr b6 0), (7, I64 (i : Nat))] w
 refine WC.seq ?_
 refine WC.seq ?_
 refine WC.region ?_
 refine WL.val (.move (.of rfl)) rfl ?_
 refine WL.val (.move (.of rfl)) rfl ?_
 refine WL.val (.len (.of rfl) Tryz.underlying9) rfl ?_
 refine WL.val (.lss (.of rfl) (.of rfl)) rfl ?_
 refine WL.nil ?_
 refine WC.cond rfl (fun hb13 => ?_) (fun hb13 => ?_)
 ·
  have hc13 := hb13; try simp only [Gk.cs0] at hc13
  refine WC.skip ?_
  refine WC.seq ?_
  refine WC.block ?_
  refine WC.seq ?_
  refine WC.seq ?_
  refine WC.region ?_
  refine WL.val (.move (.of rfl)) rfl ?_
  refine WL.val (.move (.of rfl)) rfl ?_
  refine WL.val (.index (.of rfl) (.of rfl) (by omega) (by omega) Tryz.underlying9) rfl ?_
  refine WL.val (.neq (.of rfl) (.of rfl)) rfl ?_
  refine WL.nil ?_
  refine WC.cond rfl (fun hb19 => ?_) (fun hb19 => ?_)
  ·
   have hc19 := hb19; try simp only [Gk.cs0] at hc19
   refine WC.seq ?_
   refine WC.region ?_
   refine WL.val (.move (.of rfl)) rfl ?_
   refine WL.val (.move (.of rfl)) rfl ?_
   refine WL.val (.move (.of rfl)) rfl ?_
   refine WL.val (.index (.of rfl) (.of rfl) (by omega) (by omega) Tryz.underlying9) rfl ?_
   refine WL.vcall (cap := []) Tryz.func101 rfl (.of rfl) (evs_cons (.of rfl) (evs_cons (.of rfl) evs_nil)) rfl (NormalC_f (at_ s (i : Int)) B w I hd _ hS) ?_
   clear hS
   rintro _ w ⟨rfl, hS⟩
   refine WL.call Tryz.func111 rfl (evs_cons (.of rfl) (evs_cons (.of rfl) evs_nil)) rfl (WriteString_any b6 p v out ([at_ s (i : Int)]) hp B w I _ hS (by simp only [List.length_cons, List.length_nil]; omega)) ?_
   clear hS
   rintro _ w ⟨rfl, v2, hS⟩
   refine WL.nil ?_
   refine WC.exit ?_
   refine WC.region ?_
   refine WL.val (.move (.of rfl)) rfl ?_
   refine WL.val (.add (.of rfl) (.of rfl) ⟨by omega, by omega⟩) rfl ?_
   refine WL.val (.assign (.of rfl)) rfl ?_
   refine WL.nil ?_
   have e37 : at_ s (i : Int) ≠ 37 := fun e => by rw [e] at hb19; simp at hb19
   refine ⟨(out ++ [at_ s (i : Int)], ptr b6 0, v2, i + 1), ⟨rfl, rfl, rfl, rfl, trivial⟩, ⟨by (try dsimp only); omega, by (try dsimp only); rw [List.length_append]; simp only [List.length_cons, List.length_nil]; omega, ?_, .inr rfl, fun h => absurd h (by simp), hS⟩, by (try dsimp only); omega⟩
   rw [hno, drop_at s (by omega), norm_cons, if_neg e37]
   cases norm (s.drop (i + 1)) <;> simp
  ·
   have hc19 := hb19; try simp only [Gk.cs0] at hc19
   refine WC.skip ?_
   refine WC.seq ?_
   refine WC.region ?_
   refine WL.val (.move (.of rfl)) rfl ?_
   refine WL.val (.move (.of rfl)) rfl ?_
   refine WL.call Tryz.func112 rfl (evs_cons (.of rfl) (evs_cons (.of rfl) evs_nil)) rfl (told_e s i (by omega) B w I hd _ hS) ?_
   clear hS
   rintro _ w ⟨tv, ok, rfl, htv, hS⟩
   refine WL.val (.move (.of rfl)) rfl ?_
   refine WL.val (.extract (.of rfl) rfl) rfl ?_
   refine WL.val (.extract (.of rfl) rfl) rfl ?_
   refine WL.val (.assign (.of rfl)) rfl ?_
   refine WL.val (.assign (.of rfl)) rfl ?_
   refine WL.nil ?_
   refine WC.seq ?_
   refine WC.seq ?_
   refine WC.region ?_
   refine WL.val (.move (.of rfl)) rfl ?_
   refine WL.val (.not (.of rfl)) rfl ?_
   refine WL.nil ?_
   refine WC.cond rfl (fun hb33 => ?_) (fun hb33 => ?_)
   ·
    have hc33 := hb33; try simp only [Gk.cs0] at hc33
    refine WC.seq ?_
    refine WC.region ?_
    refine WL.val (.assign (.of rfl)) rfl ?_
    refine WL.val (.assign (.of rfl)) rfl ?_
    refine WL.nil ?_
    refine WC.ret ?_
    refine ret2 Tryz.results100 rfl rfl ?_
    refine ⟨_, rfl, ?_, (hS.drop (k := 0) rfl).drop (k := 0) rfl⟩
    have e37 : at_ s (i : Int) = 37 := UInt8.toNat_inj.1 (by simp only [bne_eq_false_iff_eq] at hb19; show (at_ s (i : Int)).toNat = 37; omega)
    have ht : Pc.told (s.drop (i + 1)) = none := by
     cases ht : Pc.told (s.drop (i + 1)) with
     | none => rfl
     | some v => rw [ht] at htv; rw [htv.1] at hb33; simp at hb33
    have : norm s = none := by rw [hno, drop_at s (by omega), norm_cons, if_pos e37, ht]; rfl
    rw [this]
   ·
    have hc33 := hb33; try simp only [Gk.cs0] at hc33
    refine WC.skip ?_
    refine WC.seq ?_
    have e37 : at_ s (i : Int) = 37 := UInt8.toNat_inj.1 (by simp only [bne_eq_false_iff_eq] at hb19; show (at_ s (i : Int)).toNat = 37; omega)
    obtain ⟨vb, hv⟩ : ∃ v, Pc.told (s.drop (i + 1)) = some v := by
     cases ht : Pc.told (s.drop (i + 1)) with
     | some v => exact ⟨v, rfl⟩
     | none => rw [ht] at htv; simp only at htv; rw [htv] at hb33; simp at hb33
    rw [hv] at htv
    obtain ⟨_, rfl⟩ := htv
    have hvl := told_len hv
    rw [List.length_drop] at hvl
    have hone3 : (one vb).length ≤ 3 := by unfold one; split <;> simp [pctB]
    have hone0 : out ++ one vb ≠ [] := fun e => by
     have := (List.append_eq_nil_iff.1 e).2
     unfold one at this; split at this <;> simp [pctB] at this
    refine WC.region ?_
    refine WL.val (.move (.of rfl)) rfl ?_
    refine WL.val (.move (.of rfl)) rfl ?_
    refine WL.vcall (cap := []) Tryz.func101 rfl (.of rfl) (evs_cons (.of rfl) (evs_cons (.of rfl) evs_nil)) rfl (NormalC_t vb B w I hd _ hS) ?_
    clear hS
    rintro _ w ⟨rfl, hS⟩
    refine WL.call Tryz.func111 rfl (evs_cons (.of rfl) (evs_cons (.of rfl) evs_nil)) rfl (WriteString_any b6 p v out (one vb) hp B w I _ hS (by omega)) ?_
    clear hS
    rintro _ w ⟨rfl, v2, hS⟩
    refine WL.nil ?_
    refine WC.region ?_
    refine WL.val (.move (.of rfl)) rfl ?_
    refine WL.val (.add (.of rfl) (.of rfl) ⟨by omega, by omega⟩) rfl ?_
    refine WL.val (.assign (.of rfl)) rfl ?_
    refine WL.nil ?_
    refine WC.region ?_
    refine WL.val (.move (.of rfl)) rfl ?_
    refine WL.val (.add (.of rfl) (.of rfl) ⟨by omega, by omega⟩) rfl ?_
    refine WL.val (.assign (.of rfl)) rfl ?_
    refine WL.nil ?_
    refine ⟨(out ++ one vb, ptr b6 0, v2, i + 3), ⟨rfl, rfl, rfl, rfl, trivial⟩, ⟨by (try dsimp only); omega, by (try dsimp only); rw [List.length_append]; omega, ?_, .inr rfl, fun h => absurd h hone0, hS⟩, by (try dsimp only); omega⟩
    rw [hno, drop_at s (by omega), norm_cons, if_pos e37, hv]
    simp only [List.drop_drop]
    cases norm (s.drop (i + 3)) <;> simp [List.append_assoc, Nat.add_assoc]
 ·
  have hc13 := hb13; try simp only [Gk.cs0] at hc13
  refine WC.exit ?_
  refine WC.seq ?_
  refine WC.region ?_
  refine WL.call Tryz.func113 rfl (evs_cons (.of rfl) evs_nil) rfl (String_any b6 p v out hpv B w I _ hS) ?_
  clear hS
  rintro _ w ⟨rfl, hS⟩
  refine WL.val (.assign (.of rfl)) rfl ?_
  refine WL.val (.assign (.of rfl)) rfl ?_
  refine WL.nil ?_
  refine WC.ret ?_
  refine ret2 Tryz.results100 rfl rfl ?_
  refine ⟨_, rfl, ?_, hS⟩
  have : norm s = some out := by rw [hno, List.drop_of_length_le (by omega), norm_nil]; simp
  rw [this]
theorem each_e (s : List UInt8) (hl : s.length ≤ 1000000) (B w : World) (I : Im) (hd : DigAt I) (As : List Assn) (hS : Sat B w I As) : Calls Tryz.prog 100 [S s, .func (.func 101) #[] #[]].toArray w (Ret fun v w' => ∃ n1 n2, v = .tuple #[n1, n2] ∧ .tuple #[n1, n2] = (match norm s with | none => Value.tuple #[S [], I64 11] | some t => .tuple #[S t, I64 0]) ∧ Sat B w' I As) :=
 (each_any s hl B w I hd As hS).mono fun e w' he => by
  obtain ⟨v, rfl, rfl, h⟩ := he
  cases norm s with
  | none => exact ⟨_, rfl, _, _, rfl, rfl, h⟩
  | some t => exact ⟨_, rfl, _, _, rfl, rfl, h⟩
theorem pNormal_any (s : List UInt8) (hl : s.length ≤ 1000000) (B w : World) (I : Im) (hd : DigAt I) (As : List Assn) (hS : Sat B w I As) :
  Calls Tryz.prog 88 [S s].toArray w (Ret fun v w' => v = (match norm s with | none => .tuple #[S [], I64 11] | some t => .tuple #[S t, I64 0]) ∧ Sat B w' I As) := by
 refine calls Tryz.func88 rfl Tryz.ntmps88 rfl ?_
 refine WC.seq ?_
 refine WC.region ?_
 refine WL.val (.assign (.of rfl)) rfl ?_
 refine WL.val (.assign (.of rfl)) rfl ?_
 refine WL.nil ?_
 refine WC.seq ?_
 refine WC.region ?_
 refine WL.val (.move (.of rfl)) rfl ?_
 refine WL.call Tryz.func100 rfl (evs_cons (.of rfl) (evs_cons (.of rfl) evs_nil)) rfl (each_e s hl B w I hd _ hS) ?_
 clear hS
 rintro _ w ⟨n1, n2, rfl, hn, hS⟩
 refine WL.val (.extract (.of rfl) rfl) rfl ?_
 refine WL.val (.extract (.of rfl) rfl) rfl ?_
 refine WL.val (.assign (.of rfl)) rfl ?_
 refine WL.val (.assign (.of rfl)) rfl ?_
 refine WL.nil ?_
 refine WC.ret ?_
 refine ret2 Tryz.results88 rfl rfl ?_
 exact ⟨_, rfl, hn, hS⟩
end Go.Proofs.YtchgkcbloeoopaaGreatDoor
namespace Gk
set_option linter.unusedVariables false
set_option linter.unusedSimpArgs false
open Go
section
variable {P : Program} {n : Nat} {K : Kont} {L : Env} {w w' : World} {ops : Array Oper} {rest : List Oper}
variable {B : World} {I : Im} {As : List Assn} {k : Nat} {ty : TypeId} {pos : String} {af : Array Edge} {g : Option (Nat × Bool)} {t t' : TypeId} {x y : Operand}
def cellsM (cs : List Value) (E : TypeId) : Obj := .cells cs.toArray E (cs.length, cs.length + 1)
def blkM (b : Nat) (cs : List Value) (E : TypeId) : Assn := own b (cellsM cs E)
theorem Sat.blockO {b : Nat} {o : Obj} (hS : Sat B w I As) (hk : As[k]? = some (own b o)) : w.heap[b]? = some o := by
 obtain ⟨h, hs, hg⟩ := hS
 obtain ⟨g1, g2, hp, ha, _, _⟩ := hs.at_ hk
 rw [own] at ha
 subst ha
 exact hg.own _ _ (hp.mem_iff.2 (by simp))
theorem cell_M {b : Nat} {cs : List Value} {E : TypeId} (hb : w.heap[b]? = some (cellsM cs E)) {o : Nat} {v : Value} (hv : cs[o]? = some v) : w.cell? (ad b o) = some v := by
 unfold cellsM at hb
 simp [World.cell?, hb, hv]
theorem WL.strBytes {d : Nat} {src dst e : TypeId} {s : List UInt8} (hS : Sat B w I As) (hx : Ev n L x (S s)) (hs : P.underlying src = some .string) (hd' : P.underlying dst = some (.slice e)) (he : P.underlying e = some (.int .u8)) (hd : Nat.blt d n = true)
  (h : ∀ b cap r w', Sat B w' I (blkM b (bcs s ++ List.replicate r (.int .u8 0)) e :: As) → WL P n ops K rest ((d, .slice (some (ad b 0)) s.length cap) :: L) w') :
  WL P n ops K (⟨some d, .convert src dst x, ty, pos, af, none⟩ :: rest) L w := by
 have hr := run_bytes_of_string (P := P) w src dst e ⟨s.toArray⟩ hs hd' he
 have hrow : bytesRow ⟨s.toArray⟩ (grownCap w s.length 0 e) = (bcs s ++ List.replicate (grownCap w s.length 0 e - s.length) (Value.int .u8 0)).toArray := by
  simp [bytesRow, bcs, U8]
  rfl
 refine WL.val (v := .slice (some (ad w.heap.size 0)) s.length (grownCap w s.length 0 e)) (w' := w.drew.alloc (cellsM (bcs s ++ List.replicate (grownCap w s.length 0 e - s.length) (Value.int .u8 0)) e)) (fun a ha => ?_) hd (h _ _ _ _ (hS.drew.alloc _))
 have hz : ByteArray.size ⟨s.toArray⟩ = s.length := rfl
 rw [hz, hrow] at hr
 have hx' := hx a ha
 simp [execOp, hx', hr, cellsM]
theorem Ex.ldM {d : Option Nat} {b o : Nat} {cs : List Value} {E : TypeId} {v : Value} (hx : Ev n L x (ptr b o)) (hS : Sat B w I As) (hk : As[k]? = some (blkM b cs E)) (ht : ∀ w, (isAgg t).run P w = .ok false w) (hv : cs[o]? = some v) :
  Ex P n L w ⟨d, .load t x, ty, pos, af, g⟩ v w := fun a ha => by
 have h := cell_M (hS.blockO hk) hv
 simp [execOp, hx a ha, Instr.loadAt, Instr.sureAddr, loadVar, ht, load, Sem.run, h]
theorem Ex.bytesStrM {d : Option Nat} {src dst E : TypeId} {b o cap : Nat} {l : List UInt8} {cs : List Value} (hx : Ev n L x (.slice (some (ad b o)) l.length cap)) (hS : Sat B w I As) (hk : As[k]? = some (blkM b cs E)) (hs : P.underlying src = some (.slice E)) (he : P.underlying E = some (.int .u8)) (hd : P.underlying dst = some .string)
  (hc : ∀ j (hj : j < l.length), cs[o + j]? = some (U8 (l[j].toNat : Int))) : Ex P n L w ⟨d, .convert src dst x, ty, pos, af, g⟩ (S l) w := fun a ha => by
 have hb := hS.blockO hk
 have h := run_convert_bytes_back (P := P) w src dst E (ad b o) cap l hs he hd (fun j hj => by rw [add_ad]; exact cell_M hb (hc j hj))
 simp [execOp, hx a ha, h]
theorem WL.st1M {b o : Nat} {cs : List Value} {E : TypeId} {v : Value} (hS : Sat B w I As) (hk : As[k]? = some (blkM b cs E)) (hx : Ev n L x (ptr b o)) (hy : Ev n L y v) (h1 : v.oneCell' = true) (hs : ∀ w, (Go.sizeOf t).run P w = .ok 1 w) (ho : o < cs.length)
  (h : ∀ w', Sat B w' I (As.set k (blkM b (cs.set o v) E)) → WL P n ops K rest L w') : WL P n ops K (⟨none, .store t x y, ty, pos, af, none⟩ :: rest) L w := by
 have hb := hS.blockO hk
 have hcell := cell_M hb (List.getElem?_eq_getElem ho)
 have hfro : w.frozen? (ad b o) = false := by
  unfold cellsM at hb
  simp [World.frozen?, hb]
  omega
 have hc : v.cells = #[v] := by cases v <;> first | rfl | cases h1
 have hlt : b < w.heap.size := (Array.getElem?_eq_some_iff.1 hb).1
 have hst := run_store P w (ad b o) v .plain h1
 rw [hcell] at hst
 simp only [hfro] at hst
 have hb' := hb
 unfold cellsM at hb'
 have hset : (w.setCell (ad b o) v).heap = w.heap.setIfInBounds b (cellsM (cs.set o v) E) := by
  apply Array.ext
  ·simp [World.setCell]
  ·intro i h1 h2
   simp only [World.setCell, Array.getElem_modify, Array.getElem_setIfInBounds, cellsM]
   by_cases e : b = i
   ·subst e
    have := (Array.getElem?_eq_some_iff.1 hb').2
    simp [this]
   ·have h3 : i < w.heap.size := by simpa using h2
    simp [e, Array.getElem_setIfInBounds h3]
 refine WL.st (w' := w.setCell (ad b o) v) (fun a ha => ?_) (h _ (hS.write (o' := cellsM (cs.set o v) E) hk ?_ ?_ ?_ ?_ fun c hc => ?_))
 ·have e0 : (ad b o).add 0 = ad b o := rfl
  simp [execOp, hx a ha, hy a ha, Instr.storeAt, Instr.sureAddr, storeVar, hs, hc, storeCells, e0, hst]
 ·simp [World.setCell]
 ·simp [World.setCell]
 ·simp [World.setCell]
 ·rw [hset]
  simp [hlt]
 ·rw [hset]
  simp [Array.getElem?_setIfInBounds, Ne.symm hc]
theorem WL.range {d : Nat} {s : List UInt8} (hS : Sat B w I As) (hx : Ev n L x (S s)) (hT : P.underlying t = some .string) (hd : Nat.blt d n = true)
  (h : ∀ b w', Sat B w' I (own b (.stringIter ⟨s.toArray⟩ 0) :: As) → WL P n ops K rest ((d, ptr b 0) :: L) w') :
  WL P n ops K (⟨some d, .range t x, ty, pos, af, none⟩ :: rest) L w := by
 refine WL.val (v := ptr w.heap.size 0) (w' := w.iter ⟨s.toArray⟩ 0) (fun a ha => ?_) hd (h _ _ (hS.alloc _))
 have hr := run_range_string (P := P) w t ⟨s.toArray⟩ hT
 have hx' := hx a ha
 simp [execOp, hx', hr]
theorem WL.next {d : Nat} {s : List UInt8} {i b : Nat} (hS : Sat B w I As) (hk : As[k]? = some (own b (.stringIter ⟨s.toArray⟩ i))) (hx : Ev n L x (ptr b 0)) (hd : Nat.blt d n = true)
  (h0 : ¬ i < s.length → WL P n ops K rest ((d, .tuple #[.bool false]) :: L) w)
  (h1 : i < s.length → ∀ w', Sat B w' I (As.set k (own b (.stringIter ⟨s.toArray⟩ (i + (Utf8.decode ⟨s.toArray⟩ i).2)))) → WL P n ops K rest ((d, .tuple #[.bool true, I64 (i : Nat), .int .i32 (Utf8.decode ⟨s.toArray⟩ i).1]) :: L) w') :
  WL P n ops K (⟨some d, .next x true, ty, pos, af, none⟩ :: rest) L w := by
 have hb := hS.blockO hk
 have hlt : b < w.heap.size := (Array.getElem?_eq_some_iff.1 hb).1
 have hz : ByteArray.size ⟨s.toArray⟩ = s.length := rfl
 by_cases hi : i < s.length
 ·have hi' : i < ByteArray.size ⟨s.toArray⟩ := hi
  refine WL.val (v := .tuple #[.bool true, I64 (i : Nat), .int .i32 (Utf8.decode ⟨s.toArray⟩ i).1]) (w' := { w with heap := w.heap.setIfInBounds b (.stringIter ⟨s.toArray⟩ (i + (Utf8.decode ⟨s.toArray⟩ i).2)) }) (fun a ha => ?_) hd (h1 hi _ (hS.write hk rfl rfl rfl ?_ fun c hc => ?_))
  ·simp only [execOp, hx a ha]
   simp [Instr.next, getObj, setObj, Sem.run, hb, hi', goInt, Result.andThen]
   try rfl
  ·simp [hlt]
  ·simp [Array.getElem?_setIfInBounds, Ne.symm hc]
 ·have hi' : ¬ i < ByteArray.size ⟨s.toArray⟩ := hi
  refine WL.val (v := .tuple #[.bool false]) (w' := w) (fun a ha => ?_) hd (h0 hi)
  simp only [execOp, hx a ha]
  simp [Instr.next, getObj, Sem.run, hb, hi']
theorem decode_lo (s : List UInt8) (i : Nat) (h : i < s.length) (ha : (at_ s i).toNat < 128) : Utf8.decode ⟨s.toArray⟩ i = ((at_ s i).toNat, 1) := by
 have h' : i < ByteArray.size ⟨s.toArray⟩ := h
 have e : (⟨s.toArray⟩ : ByteArray)[i]'h' = at_ s i := by
  rw [at_, Int.toNat_natCast, List.getD_eq_getElem?_getD, List.getElem?_eq_getElem h]; rfl
 rw [decode_ascii _ i h' (by rw [e]; exact ha), e]
theorem get_at_ (s : List UInt8) (i : Nat) : (ByteArray.get! ⟨s.toArray⟩ i) = at_ s i := by
 show s.toArray[i]! = _
 simp [at_, List.getD_eq_getElem?_getD]
 try rfl
theorem decode_hi (s : List UInt8) (i : Nat) (h : i < s.length) (ha : 128 ≤ (at_ s i).toNat) :
  128 ≤ (Utf8.decode ⟨s.toArray⟩ i).1 ∧ (Utf8.decode ⟨s.toArray⟩ i).1 ≤ 1114111 ∧ 1 ≤ (Utf8.decode ⟨s.toArray⟩ i).2 ∧ i + (Utf8.decode ⟨s.toArray⟩ i).2 ≤ s.length ∧ ∀ j, i ≤ j → j < i + (Utf8.decode ⟨s.toArray⟩ i).2 → 128 ≤ (at_ s j).toNat := by
 have hz : ByteArray.size ⟨s.toArray⟩ = s.length := rfl
 rw [Go.Lib.decode_at, hz, get_at_, get_at_, get_at_, get_at_]
 generalize hb0 : (at_ s i).toNat = b0 at *
 generalize hb1 : (at_ s (i + 1 : Nat)).toNat = b1 at *
 generalize hb2 : (at_ s (i + 2 : Nat)).toNat = b2 at *
 generalize hb3 : (at_ s (i + 3 : Nat)).toNat = b3 at *
 rcases Go.Lib.decodeN_shape (s.length - i) b0 b1 b2 b3 with ⟨c, e⟩ | ⟨c1, c2, c3, cv, e⟩ | ⟨c1, c2, c3, c4, cv, cs, e⟩ | ⟨c1, c2, c3, c4, c5, cv, cw, e⟩ | e
 ·omega
 all_goals rw [e]; dsimp only
 ·refine ⟨by omega, by omega, by omega, by omega, fun j h1 h2 => ?_⟩
  obtain rfl | rfl : j = i ∨ j = i + 1 := by omega
  ·omega
  ·omega
 ·refine ⟨by omega, by omega, by omega, by omega, fun j h1 h2 => ?_⟩
  obtain rfl | rfl | rfl : j = i ∨ j = i + 1 ∨ j = i + 2 := by omega
  all_goals omega
 ·refine ⟨by omega, by omega, by omega, by omega, fun j h1 h2 => ?_⟩
  obtain rfl | rfl | rfl | rfl : j = i ∨ j = i + 1 ∨ j = i + 2 ∨ j = i + 3 := by omega
  all_goals omega
 ·refine ⟨by omega, by omega, by omega, by omega, fun j h1 h2 => ?_⟩
  obtain rfl : j = i := by omega
  omega
theorem ba_getD (x : ByteArray) (i : Nat) (h : i < x.size) : x.data.toList.getD i 0 = x[i]'h := by
 rw [List.getD_eq_getElem?_getD, List.getElem?_eq_getElem h]
 rfl
def encR (r : Int) : List UInt8 := (Utf8.encode r).data.toList
theorem Ex.runeStr {d : Option Nat} {src dst : TypeId} {q : IntKind} {r : Int} (hx : Ev n L x (.int q r)) (hs : (P.underlying src).isSome = true) (hd : P.underlying dst = some .string) :
  Ex P n L w ⟨d, .convert src dst x, ty, pos, af, g⟩ (S (encR r)) w := fun a ha => by
 have h := run_convert_int_string (P := P) w src dst q r hs hd
 have hx' := hx a ha
 simp [execOp, hx', h, encR]
theorem enc_facts (r : Int) (hv : Utf8.valid r = true) (h128 : 128 ≤ r) : 2 ≤ (encR r).length ∧ (encR r).length ≤ 4 ∧ 128 ≤ (at_ (encR r) ((encR r).length - 1 : Int)).toNat := by
 obtain ⟨h1, h2, h3⟩ := encode_facts r hv h128
 have hz : (encR r).length = (Utf8.encode r).size := by unfold encR; generalize Utf8.encode r = x; rfl
 have hlt : (Utf8.encode r).size - 1 < (Utf8.encode r).size := by omega
 refine ⟨by omega, by omega, ?_⟩
 have e : at_ (encR r) ((encR r).length - 1 : Int) = (Utf8.encode r)[(Utf8.encode r).size - 1]'hlt := by
  rw [at_, show ((encR r).length - 1 : Int).toNat = (Utf8.encode r).size - 1 by omega]
  exact ba_getD _ _ hlt
 rw [e]
 exact h3 hlt
theorem valid_eq (r : Int) (h : Go.Lib.validRune r = true) : Utf8.valid r = true := by
 simp only [Go.Lib.validRune, decide_eq_true_eq] at h
 simp only [Utf8.valid, Bool.or_eq_true, Bool.and_eq_true, decide_eq_true_eq]
 omega
theorem Ex.ldsW {d : Option Nat} {b s : Nat} {cs : List Value} {E : TypeId} (hx : Ev n L x (ptr b 0)) (hS : Sat B w I As) (hk : As[k]? = some (blk b cs E)) (ht : ∀ w, (isAgg t).run P w = .ok true w) (hs : ∀ w, (Go.sizeOf t).run P w = .ok s w)
  (hl : cs.length = s) : Ex P n L w ⟨d, .load t x, ty, pos, af, g⟩ (.agg cs.toArray) w := Ex.lds hx hS hk ht hs hl (fun j v h => by rw [Nat.zero_add]; exact h)
theorem sliced_zero (p : Addr) (m c s : Nat) : sliced (some p) 0 m c s = .slice (some p) m c := by
 simp only [sliced, Nat.zero_mul, Nat.sub_zero, Option.map_some]
 congr 1
 split <;> rfl
theorem WL.append0p {E m c b gb : Nat} {d : Nat} {news rest' : List Value} {i : TypeInfo} {z : Value} {bytes : Nat} (hS : Sat B w I (blk b [] E :: As)) (hx : Ev n L x (.slice (some (ad b 0)) 0 0)) (hy : Ev n L y (.slice (some (ad gb 0)) m c))
  (hk : As[k]? = some (blk gb (news ++ rest') E)) (hm : m ≤ news.length) (ht : P.underlying t = some (.slice E)) (hi : P.info? E = some i) (hz : i.zero = some z) (hsize : i.size = 1) (hby : i.bytes = bytes) (hzs : z.cells.size = 1)
  (h1 : ∀ u ∈ news, u.oneCell' = true) (h63 : m * bytes ≤ 140737488355328 ∧ m ≤ maxLen) (hd : Nat.blt d n = true)
  (h : ∀ v' w', Sat B w' I (Vec E 1 v' m (news.take m) :: As) → WL P n ops K rest ((d, v') :: L) w') :
  WL P n ops K (⟨some d, .call ⟨.builtin .append, #[x, y], #[t, t]⟩, ty, pos, af, none⟩ :: rest) L w := by
 have hgb : w.heap[gb]? = some (cellsO (news ++ rest') E) := hS.block (k := k + 1) (show As[k]? = some (blk gb (news ++ rest') E) from hk)
 have hnews : ∀ j u, (news.take m)[j]? = some u → w.cell? ((ad gb 0).add j) = some u := fun j u hu => by
  rw [add_ad, Nat.zero_add]
  refine cell_own hgb ?_
  rw [List.getElem?_take] at hu
  split at hu
  ·rw [List.getElem?_append_left (List.getElem?_eq_some_iff.1 hu).1]; exact hu
  ·cases hu
 have hlt : (news.take m).length = m := by rw [List.length_take]; omega
 have h1' : ∀ u ∈ news.take m, u.oneCell' = true := fun u hu => h1 u (List.mem_of_mem_take hu)
 rcases Nat.eq_zero_or_pos m with h0 | hp
 ·subst h0
  have hb := hS.block (k := 0) rfl
  have hr := run_append_room (P := P) w t ty E i ht hi b 0 0 #[] hb (ad gb 0) 0 c [] (by simp) (fun j u hu => by simp at hu) (fun u hu => by simp at hu) (Nat.le_refl _) (by rw [Nat.zero_mul]; exact Nat.le_refl _)
  have hlt : b < w.heap.size := (Array.getElem?_eq_some_iff.1 hb).1
  have hw := hS.write (k := 0) (w' := w.setRow b #[]) (o' := cellsO [] E) rfl rfl rfl rfl (setRow_heap w b _ _ E _ hb) (fun q hq => setRow_other w b q _ hq)
  have hv := Sat.vecOf (k := 0) (n := 0) (size := 1) (E := E) (g := b) (cs := []) hw rfl rfl (Nat.zero_le _)
  refine WL.val (v := .slice (some (ad b 0)) 0 0) (w' := w.setRow b #[]) (fun a ha => ?_) hd (h _ _ (by simpa using hv))
  have hx' := hx a ha
  have hy' := hy a ha
  simp at hr
  simp [execOp, resolve, invoke, builtin, hx', hy', hr]
 ·have hv := Sat.vecOf (k := 0) (n := 0) (size := 1) (E := E) (g := b) (cs := []) hS rfl rfl (Nat.zero_le _)
  obtain ⟨v', w', hr, hS'⟩ := run_append_vec (P := P) (ty := ty) (k := 0) hv ht hi hz hsize hby hzs rfl (p := ad gb 0) (m := m) (c := c) (news := news.take m) (by rw [hlt, Nat.mul_one]) hp hnews h1' (by rw [Nat.zero_add]; exact h63.2) (by rw [Nat.zero_add]; exact h63.1)
  refine WL.val (v := v') (w' := w') (fun a ha => ?_) hd (h _ _ (by simpa using hS'))
  have hx' := hx a ha
  have hy' := hy a ha
  simp [execOp, resolve, invoke, builtin, hx', hy', hr]
section rets
variable {fn : Func} {R : Ending → World → Prop}
theorem ret2c {t u b s : Nat} {ty E : TypeId} {cs : List Value} {x : Value} (h : fn.results = #[.cell t ty, .tmp u]) (hS : Sat B w I As) (hk : As[k]? = some (blk b cs E)) (ht : ∀ w, (isAgg ty).run P w = .ok true w) (hs : ∀ w, (Go.sizeOf ty).run P w = .ok s w) (hl : cs.length = s)
  (hv : look L t = some (ptr b 0)) (hx : look L u = some x) (hR : R (.returned (.tuple #[.agg cs.toArray, x])) w) : fnPost P n fn R .ret L w := fun a ha => by
 have hb := hS.block hk
 have hld := run_loadCells_list (P := P) w (ad b 0) cs (fun j v hj => by rw [add_ad]; exact cell_own hb (by simpa using hj))
 rw [hl] at hld
 have h1 := ha.get t _ hv
 have h2 := ha.get u x hx
 simp only [Array.getD_eq_getD_getElem?] at h1 h2
 exact ⟨_, by simp [results, h, h1, h2, loadVar, ht, hs]; simp [asAddr, hld], hR⟩
theorem ret1c {t b s : Nat} {ty E : TypeId} {cs : List Value} (h : fn.results = #[.cell t ty]) (hS : Sat B w I As) (hk : As[k]? = some (blk b cs E)) (ht : ∀ w, (isAgg ty).run P w = .ok true w) (hs : ∀ w, (Go.sizeOf ty).run P w = .ok s w) (hl : cs.length = s)
  (hv : look L t = some (ptr b 0)) (hR : R (.returned (.agg cs.toArray)) w) : fnPost P n fn R .ret L w := fun a ha => by
 have hb := hS.block hk
 have hld := run_loadCells_list (P := P) w (ad b 0) cs (fun j v hj => by rw [add_ad]; exact cell_own hb (by simpa using hj))
 rw [hl] at hld
 have h1 := ha.get t _ hv
 simp only [Array.getD_eq_getD_getElem?] at h1
 exact ⟨_, by simp [results, h, h1, loadVar, ht, hs]; simp [asAddr, hld], hR⟩
theorem ret3c {t u r b s : Nat} {ty E : TypeId} {cs : List Value} {x y : Value} (h : fn.results = #[.cell t ty, .tmp u, .tmp r]) (hS : Sat B w I As) (hk : As[k]? = some (blk b cs E)) (ht : ∀ w, (isAgg ty).run P w = .ok true w) (hs : ∀ w, (Go.sizeOf ty).run P w = .ok s w) (hl : cs.length = s)
  (hv : look L t = some (ptr b 0)) (hx : look L u = some x) (hy : look L r = some y) (hR : R (.returned (.tuple #[.agg cs.toArray, x, y])) w) : fnPost P n fn R .ret L w := fun a ha => by
 have hb := hS.block hk
 have hld := run_loadCells_list (P := P) w (ad b 0) cs (fun j v hj => by rw [add_ad]; exact cell_own hb (by simpa using hj))
 rw [hl] at hld
 have h1 := ha.get t _ hv
 have h2 := ha.get u x hx
 have h3 := ha.get r y hy
 simp only [Array.getD_eq_getD_getElem?] at h1 h2 h3
 exact ⟨_, by simp [results, h, h1, h2, h3, loadVar, ht, hs]; simp [asAddr, hld], hR⟩
end rets
end
end Gk
namespace Ul
open Pc Gk
set_option linter.unusedVariables false
set_option linter.unusedSimpArgs false
def lo (c : UInt8) : UInt8 := if 65 ≤ c && c ≤ 90 then c + 32 else c
def low (s : List UInt8) : List UInt8 := s.map lo
theorem low_len (s : List UInt8) : (low s).length = s.length := List.length_map ..
def mid (s : List UInt8) (i : Nat) : List UInt8 := low (s.take i) ++ s.drop i
theorem mid_zero (s : List UInt8) : mid s 0 = s := by simp [mid, low]
theorem mid_end (s : List UInt8) (i : Nat) (h : s.length ≤ i) : mid s i = low s := by
 simp [mid, List.take_of_length_le h, List.drop_of_length_le h]
theorem mid_len (s : List UInt8) (i : Nat) : (mid s i).length = s.length := by
 simp [mid, low]; omega
theorem mid_at (s : List UInt8) (i : Nat) (h : i < s.length) : (mid s i)[i]? = some (at_ s i) := by
 have e : (low (s.take i)).length = i := by rw [low_len, List.length_take]; omega
 unfold mid
 rw [List.getElem?_append_right (by omega), e, Nat.sub_self, drop_at s h]
 rfl
theorem mid_succ (s : List UInt8) (i : Nat) (h : i < s.length) : (mid s i).set i (lo (at_ s i)) = mid s (i + 1) := by
 have e : (low (s.take i)).length = i := by rw [low_len, List.length_take]; omega
 unfold mid
 rw [List.set_append_right _ _ (by omega), e, Nat.sub_self, drop_at s h, List.set_cons_zero, List.take_add_one, low, low, List.map_append, List.append_assoc]
 congr 1
 have : s[i]? = some (at_ s i) := by
  rw [List.getElem?_eq_getElem h, at_, Int.toNat_natCast, List.getD_eq_getElem?_getD, List.getElem?_eq_getElem h]; rfl
 rw [this]
 rfl
theorem lo_up {c : UInt8} (h : 65 ≤ (c.toNat : Int) ∧ (c.toNat : Int) ≤ 90) : ((lo c).toNat : Int) = c.toNat + 32 := by
 have h1 : (65 ≤ c && c ≤ 90) = true := by
  simp only [Bool.and_eq_true, decide_eq_true_eq, UInt8.le_iff_toNat_le]
  have e1 : (65 : UInt8).toNat = 65 := rfl
  have e2 : (90 : UInt8).toNat = 90 := rfl
  rw [e1, e2]; omega
 rw [lo, if_pos h1, UInt8.toNat_add]
 have : (32 : UInt8).toNat = 32 := rfl
 rw [this]; omega
theorem lo_no {c : UInt8} (h : ¬ (65 ≤ (c.toNat : Int) ∧ (c.toNat : Int) ≤ 90)) : lo c = c := by
 have h1 : ¬ (65 ≤ c && c ≤ 90) = true := by
  simp only [Bool.and_eq_true, decide_eq_true_eq, UInt8.le_iff_toNat_le]
  have e1 : (65 : UInt8).toNat = 65 := rfl
  have e2 : (90 : UInt8).toNat = 90 := rfl
  rw [e1, e2]; omega
 rw [lo, if_neg h1]
theorem set_same {α : Type} {l : List α} {i : Nat} {a : α} (h : l[i]? = some a) : l.set i a = l := by
 apply List.ext_getElem?
 intro j
 rw [List.getElem?_set]
 split
 ·rename_i e
  subst e
  rw [h, if_pos (List.getElem?_eq_some_iff.1 h).1]
 ·rfl
theorem mid_same (s : List UInt8) (i : Nat) (h : i < s.length) (hn : lo (at_ s i) = at_ s i) : mid s i = mid s (i + 1) := by
 rw [← mid_succ s i h, hn]
 exact (set_same (mid_at s i h)).symm
def hostB (c : UInt8) : Bool := plain c && !(c == 95 || c == 126)
def hostOk (s : List UInt8) : Bool := !(s.isEmpty || decide (64 < s.length)) && s.all hostB
theorem hostB_int (c : UInt8) : ((!plain c || ((c.toNat : Int) == 95)) || ((c.toNat : Int) == 126)) = !hostB c :=
 eq_of_beq (all_bytes (p := fun c => ((!plain c || ((c.toNat : Int) == 95)) || ((c.toNat : Int) == 126)) == !hostB c) (by decide +kernel) c)
def BAD : List UInt8 := [34, 60, 62, 35, 92, 94, 123, 124, 125, 96]
def standB (c : UInt8) : Bool := (33 ≤ c && c ≤ 126) && !BAD.contains c
theorem standB_int (c : UInt8) : ((decide ((c.toNat : Int) < 33) || decide (126 < (c.toNat : Int))) || decide (0 ≤ Go.Lib.indexByte BAD c)) = !standB c :=
 eq_of_beq (all_bytes (p := fun c => ((decide ((c.toNat : Int) < 33) || decide (126 < (c.toNat : Int))) || decide (0 ≤ Go.Lib.indexByte BAD c)) == !standB c) (by decide +kernel) c)
theorem all_of {p : UInt8 → Bool} {s : List UInt8} {i : Nat} (h : ∀ j, j < i → j < s.length → p (at_ s (j : Int)) = true) (hi : s.length ≤ i) : s.all p = true := by
 rw [List.all_eq_true]
 intro x hx
 obtain ⟨j, hj, e⟩ := List.mem_iff_getElem.1 hx
 have := h j (by omega) hj
 rw [at_, Int.toNat_natCast, List.getD_eq_getElem?_getD, List.getElem?_eq_getElem hj] at this
 rw [← e]; exact this
theorem not_all {p : UInt8 → Bool} {s : List UInt8} {i : Nat} (hi : i < s.length) (h : p (at_ s (i : Int)) = false) : s.all p = false := by
 rw [List.all_eq_false]
 refine ⟨at_ s (i : Int), ?_, by rw [h]; decide⟩
 rw [at_, Int.toNat_natCast, List.getD_eq_getElem?_getD, List.getElem?_eq_getElem hi]
 exact List.getElem_mem _
def digB (c : UInt8) : Bool := 48 ≤ c && c ≤ 57
def val (s : List UInt8) : Nat := s.foldl (fun n c => 10 * n + (c.toNat - 48)) 0
def portOk (s : List UInt8) : Bool := s.all digB && !(s.headD 0 == 48) && decide (1 ≤ val s) && decide (val s ≤ 65535)
theorem digB_int (c : UInt8) : (decide ((c.toNat : Int) < 48) || decide (57 < (c.toNat : Int))) = !digB c :=
 eq_of_beq (all_bytes (p := fun c => (decide ((c.toNat : Int) < 48) || decide (57 < (c.toNat : Int))) == !digB c) (by decide +kernel) c)
theorem val_app (s : List UInt8) (c : UInt8) : val (s ++ [c]) = 10 * val s + (c.toNat - 48) := by simp [val, List.foldl_append]
theorem val_take (s : List UInt8) (i : Nat) (h : i < s.length) : val (s.take (i + 1)) = 10 * val (s.take i) + ((at_ s (i : Int)).toNat - 48) := by
 have : s[i]? = some (at_ s i) := by
  rw [List.getElem?_eq_getElem h, at_, Int.toNat_natCast, List.getD_eq_getElem?_getD, List.getElem?_eq_getElem h]; rfl
 rw [List.take_add_one, this]
 exact val_app _ _
theorem val_mono (s : List UInt8) : ∀ (i j : Nat), i ≤ j → val (s.take i) ≤ val (s.take j) := by
 intro i j h
 induction j with
 | zero => rw [show i = 0 by omega]; exact Nat.le_refl _
 | succ j ih =>
  by_cases e : i = j + 1
  ·rw [e]; exact Nat.le_refl _
  ·by_cases hj : j < s.length
   ·have := ih (by omega)
    rw [val_take s j hj]; omega
   ·have := ih (by omega)
    have e2 : s.take (j + 1) = s.take j := by rw [List.take_of_length_le (by omega), List.take_of_length_le (by omega)]
    rw [e2]; exact this
theorem val_six (s : List UInt8) (h : 6 ≤ s.length) (h0 : digB (at_ s 0) = true) (h1 : at_ s 0 ≠ 48) : 65535 < val s := by
 have h2 : 1 ≤ val (s.take 1) := by
  rw [val_take s 0 (by omega)]
  have hd := h0
  simp only [digB, Bool.and_eq_true, decide_eq_true_eq, UInt8.le_iff_toNat_le] at hd
  have e1 : (48 : UInt8).toNat = 48 := rfl
  rw [e1] at hd
  have : (at_ s 0).toNat ≠ 48 := fun e => h1 (UInt8.toNat_inj.1 e)
  show 1 ≤ _ + ((at_ s 0).toNat - 48)
  omega
 have step : ∀ i, i < s.length → 10 * val (s.take i) ≤ val (s.take (i + 1)) := fun i hi => by rw [val_take s i hi]; omega
 have a1 : 10 * val (s.take 1) ≤ val (s.take 2) := step 1 (by omega)
 have a2 : 10 * val (s.take 2) ≤ val (s.take 3) := step 2 (by omega)
 have a3 : 10 * val (s.take 3) ≤ val (s.take 4) := step 3 (by omega)
 have a4 : 10 * val (s.take 4) ≤ val (s.take 5) := step 4 (by omega)
 have a5 : 10 * val (s.take 5) ≤ val (s.take 6) := step 5 (by omega)
 have a6 := val_mono s 6 s.length h
 rw [List.take_length] at a6
 omega
def http : List UInt8 := [104, 116, 116, 112]
def https : List UInt8 := [104, 116, 116, 112, 115]
def ownP (s : List UInt8) : Nat := if s = https then 443 else 80
def portV (s sch : List UInt8) : Nat := if val s = ownP sch then 0 else val s
def upto (ats s : List UInt8) : List UInt8 := s.takeWhile fun c => !ats.contains c
def from_ (ats s : List UInt8) : List UInt8 := s.dropWhile fun c => !ats.contains c
theorem upto_from (ats s : List UInt8) : upto ats s ++ from_ ats s = s := List.takeWhile_append_dropWhile
theorem cut_hit {ats : List UInt8} : ∀ {s : List UInt8} {i : Nat}, Go.Lib.indexAny s ats = i → upto ats s = s.take i ∧ from_ ats s = s.drop i ∧ i < s.length
 | [], i, h => by simp [Go.Lib.indexAny] at h
 | b :: l, i, h => by
  rw [Go.Lib.indexAny] at h
  split at h
  ·rename_i hb
   have : i = 0 := by omega
   subst this
   have hb' : b ∈ ats := by simpa using hb
   simp [upto, from_, hb']
  ·rename_i hb
   have hb' : ats.contains b = false := by simpa using hb
   split at h
   ·omega
   ·have hge := Go.Lib.indexAny_ge ats l
    rename_i hne
    have hne' : Go.Lib.indexAny l ats ≠ -1 := fun e => hne (beq_iff_eq.2 e)
    obtain ⟨k, hk⟩ : ∃ k : Nat, Go.Lib.indexAny l ats = k := ⟨(Go.Lib.indexAny l ats).toNat, by omega⟩
    obtain ⟨a, b', c⟩ := cut_hit hk
    have : i = k + 1 := by omega
    subst this
    refine ⟨?_, ?_, by simp; omega⟩
    ·show (b :: l).takeWhile _ = _
     rw [List.takeWhile_cons]
     simp only [hb', Bool.not_false, if_true, List.take_succ_cons]
     rw [← a]; rfl
    ·show (b :: l).dropWhile _ = _
     rw [List.dropWhile_cons]
     simp only [hb', Bool.not_false, if_true, List.drop_succ_cons]
     rw [← b']; rfl
theorem cut_none {ats : List UInt8} : ∀ {s : List UInt8}, Go.Lib.indexAny s ats = -1 → upto ats s = s ∧ from_ ats s = []
 | [], _ => ⟨rfl, rfl⟩
 | b :: l, h => by
  rw [Go.Lib.indexAny] at h
  split at h
  ·omega
  ·rename_i hb
   have hb' : ats.contains b = false := by simpa using hb
   split at h
   ·rename_i hne
    obtain ⟨a, c⟩ := cut_none (s := l) (ats := ats) (beq_iff_eq.1 hne)
    refine ⟨?_, ?_⟩
    ·show (b :: l).takeWhile _ = _
     rw [List.takeWhile_cons]
     simp only [hb', Bool.not_false, if_true]
     show b :: upto ats l = _
     rw [a]
    ·show (b :: l).dropWhile _ = _
     rw [List.dropWhile_cons]
     simp only [hb', Bool.not_false, if_true]
     exact c
   ·have hge := Go.Lib.indexAny_ge ats l
    omega
theorem indexByte_hi {l : List UInt8} {c : UInt8} (h : 128 ≤ c.toNat) (hl : ∀ (j : Nat) b, l[j]? = some b → b.toNat < 128) : Go.Lib.indexByte l c = -1 := by
 have hge := Go.Lib.indexByte_ge l c
 by_cases e : Go.Lib.indexByte l c = -1
 ·exact e
 ·obtain ⟨k, hk⟩ : ∃ k : Nat, Go.Lib.indexByte l c = k := ⟨(Go.Lib.indexByte l c).toNat, by omega⟩
  have := (Go.Lib.indexByte_some hk).1
  have := hl _ _ this
  omega
theorem indexByte_in {l : List UInt8} {c : UInt8} : (0 ≤ Go.Lib.indexByte l c) ↔ l.contains c = true := by
 have hge := Go.Lib.indexByte_ge l c
 constructor
 ·intro h
  obtain ⟨k, hk⟩ : ∃ k : Nat, Go.Lib.indexByte l c = k := ⟨(Go.Lib.indexByte l c).toNat, by omega⟩
  have := (Go.Lib.indexByte_some hk).1
  rw [List.contains_iff_mem]
  exact List.mem_of_getElem? this
 ·intro h
  by_cases e : Go.Lib.indexByte l c = -1
  ·have := Go.Lib.indexByte_none e
   rw [List.contains_iff_mem] at h
   obtain ⟨k, hk⟩ := List.mem_iff_getElem?.1 h
   exact absurd hk (this k)
  ·omega
theorem at_some {s : List UInt8} {i : Nat} (h : i < s.length) : s[i]? = some (at_ s i) := by
 rw [List.getElem?_eq_getElem h, at_, Int.toNat_natCast, List.getD_eq_getElem?_getD, List.getElem?_eq_getElem h]; rfl
def Asc (s : List UInt8) : Prop := ∀ (j : Nat) b, s[j]? = some b → b.toNat < 128
def rv (s cs : List UInt8) (i : Nat) : Int := if (Go.Utf8.decode ⟨s.toArray⟩ i).1 < 128 then Go.Lib.indexByte cs (UInt8.ofNat (Go.Utf8.decode ⟨s.toArray⟩ i).1) else -1
theorem any_step {s cs : List UInt8} (hcs : Asc cs) {i : Nat} (hi : i < s.length) (hno : Go.Lib.NoAny s cs i) :
  (0 ≤ rv s cs i → Go.Lib.indexAny s cs = i) ∧ (rv s cs i < 0 → Go.Lib.NoAny s cs (i + (Go.Utf8.decode ⟨s.toArray⟩ i).2) ∧ i + (Go.Utf8.decode ⟨s.toArray⟩ i).2 ≤ s.length ∧ 1 ≤ (Go.Utf8.decode ⟨s.toArray⟩ i).2) := by
 unfold rv
 rcases Nat.lt_or_ge (at_ s (i : Int)).toNat 128 with h | h
 ·rw [decode_lo s i hi h]
  dsimp only
  rw [if_pos h, show UInt8.ofNat (at_ s (i : Int)).toNat = at_ s (i : Int) by simp, indexByte_in]
  refine ⟨fun hc => Go.Lib.indexAny_hit hno (at_some hi) hc, fun hc => ⟨hno.succ (at_some hi) ?_, by omega, by omega⟩⟩
  cases hb : cs.contains (at_ s (i : Int)) with
  | false => rfl
  | true => have := indexByte_in.2 hb; omega
 ·obtain ⟨h1, h2, h3, h4, h5⟩ := decode_hi s i hi h
  rw [if_neg (by omega)]
  refine ⟨fun hc => by omega, fun _ => ⟨fun j b hj hb => ?_, h4, h3⟩⟩
  rcases Nat.lt_or_ge j i with hji | hji
  ·exact hno j b hji hb
  ·have hb2 := h5 j hji hj
   have hjl : j < s.length := (List.getElem?_eq_some_iff.1 hb).1
   rw [at_some hjl] at hb
   cases hb
   cases hc : cs.contains (at_ s (j : Int)) with
   | false => rfl
   | true =>
    rw [List.contains_iff_mem] at hc
    obtain ⟨k, hk⟩ := List.mem_iff_getElem?.1 hc
    have := hcs k _ hk
    omega
end Ul
namespace Go.Proofs
open Go.Shelf
open Go.RowKit in
open Go.RowKit in
open Go.RowKit in
def Tryz.lays119_ren : Go.Shelf.Ren := ⟨fun | 119 => 110 | n => n, fun | 21 => 21 | 4 => 4 | n => n, fun | n => n⟩
theorem Tryz.lays119 : Go.Proofs.Lays.n119 Tryz.prog Tryz.lays119_ren := {
 mixed := by kernel_rfl
 f119 := Tryz.func110.trans (congrArg some (by kernel_rfl))
 t4 := Tryz.underlying4
 a4 := Tryz.isAgg4
 z4 := Tryz.sizeOf4
 v4 := Tryz.zeroValue4
 t21 := Tryz.underlying21
 a21 := Tryz.isAgg21
 z21 := Tryz.sizeOf21
 v21 := Tryz.zeroValue21 }
theorem Tryz.utf8_ValidRune (r : Int) (w : World) :
  Calls Tryz.prog 110 #[.int .i32 r] w fun e w' => e = .returned (.bool (Lib.validRune r)) ∧ w' = w := Any.utf8_ValidRune Tryz.lays119 r w
def Tryz.lays137_ren : Go.Shelf.Ren := ⟨fun | 137 => 99 | 217 => 106 | 266 => 118 | n => n, fun | 9 => 9 | 5 => 5 | 3 => 3 | n => n, fun | n => n⟩
theorem Tryz.lays137 : Go.Proofs.Lays.n137 Tryz.prog Tryz.lays137_ren := {
 mixed := by kernel_rfl
 f137 := Tryz.func99.trans (congrArg some (by kernel_rfl))
 f217 := Tryz.func106.trans (congrArg some (by kernel_rfl))
 f266 := Tryz.func118.trans (congrArg some (by kernel_rfl))
 t3 := Tryz.underlying3
 a3 := Tryz.isAgg3
 z3 := Tryz.sizeOf3
 v3 := Tryz.zeroValue3
 t5 := Tryz.underlying5
 a5 := Tryz.isAgg5
 z5 := Tryz.sizeOf5
 v5 := Tryz.zeroValue5
 t9 := Tryz.underlying9
 a9 := Tryz.isAgg9
 z9 := Tryz.sizeOf9
 v9 := Tryz.zeroValue9 }
open Go.RowKit in
theorem Tryz.strings_IndexByte (s : ByteArray) (c : Int) (w : World) :
  Calls Tryz.prog 99 #[.string s, .int .u8 c] w fun e w' => e = .returned (.int .i64 (Lib.indexByte s.data.toList c.toNat.toUInt8)) ∧ w' = w := Any.strings_IndexByte Tryz.lays137 s c w
open Go.RowKit in
open Go.Lib in
open Go.Lib in
open Go.Lib in
open Go.Lib in
open Go.RowKit Go.Sort Go.Lib in
open Go.RowKit Go.Sort Go.Lib in
open Go.RowKit Go.Sort Go.Lib in
open Go.RowKit Go.Sort Go.Lib in
open Go.RowKit Go.Sort Go.Lib in
def Tryz.laysM171_ren : Go.Shelf.Ren := ⟨fun | 171 => 90 | 243 => 104 | 246 => 117 | 283 => 125 | 284 => 126 | 285 => 127 | 286 => 128 | 129 => 132 | 317 => 131 | 318 => 133 | 319 => 134 | 320 => 135 | 337 => 136 | 338 => 137 | n => n, fun | 3 => 3 | 9 => 9 | 2 => 2 | 4 => 4 | 171 => 158 | 0 => 0 | 53 => 42 | 37 => 103 | 5 => 5 | 173 => 161 | 212 => 166 | 51 => 152 | 20 => 20 | 213 => 167 | 46 => 125 | 232 => 174 | 233 => 175 | n => n, fun | 17 => 3 | 18 => 6 | 19 => 7 | n => n⟩
theorem Tryz.laysM171 : Go.Proofs.LaysM.n171 Tryz.prog Tryz.laysM171_ren := {
 mixed := by kernel_rfl
 f129 := Tryz.func132.trans (congrArg some (by kernel_rfl))
 f171 := Tryz.func90.trans (congrArg some (by kernel_rfl))
 f243 := Tryz.func104.trans (congrArg some (by kernel_rfl))
 f246 := Tryz.func117.trans (congrArg some (by kernel_rfl))
 f283 := Tryz.func125.trans (congrArg some (by kernel_rfl))
 f284 := Tryz.func126.trans (congrArg some (by kernel_rfl))
 f285 := Tryz.func127.trans (congrArg some (by kernel_rfl))
 f286 := Tryz.func128.trans (congrArg some (by kernel_rfl))
 f317 := Tryz.func131.trans (congrArg some (by kernel_rfl))
 f318 := Tryz.func133.trans (congrArg some (by kernel_rfl))
 f319 := Tryz.func134.trans (congrArg some (by kernel_rfl))
 f320 := Tryz.func135.trans (congrArg some (by kernel_rfl))
 f337 := Tryz.func136.trans (congrArg some (by kernel_rfl))
 f338 := Tryz.func137.trans (congrArg some (by kernel_rfl))
 t0 := Tryz.underlying0
 a0 := Tryz.isAgg0
 z0 := Tryz.sizeOf0
 v0 := Tryz.zeroValue0
 t2 := Tryz.underlying2
 a2 := Tryz.isAgg2
 z2 := Tryz.sizeOf2
 v2 := Tryz.zeroValue2
 t3 := Tryz.underlying3
 a3 := Tryz.isAgg3
 z3 := Tryz.sizeOf3
 v3 := Tryz.zeroValue3
 t4 := Tryz.underlying4
 a4 := Tryz.isAgg4
 z4 := Tryz.sizeOf4
 v4 := Tryz.zeroValue4
 t5 := Tryz.underlying5
 a5 := Tryz.isAgg5
 z5 := Tryz.sizeOf5
 v5 := Tryz.zeroValue5
 t9 := Tryz.underlying9
 a9 := Tryz.isAgg9
 z9 := Tryz.sizeOf9
 v9 := Tryz.zeroValue9
 t20 := Tryz.underlying20
 a20 := Tryz.isAgg20
 z20 := Tryz.sizeOf20
 v20 := Tryz.zeroValue20
 t37 := Tryz.underlying103
 a37 := Tryz.isAgg103
 z37 := Tryz.sizeOf103
 v37 := Tryz.zeroValue103
 t46 := Tryz.underlying125
 a46 := Tryz.isAgg125
 z46 := Tryz.sizeOf125
 v46 := Tryz.zeroValue125
 t51 := Tryz.underlying152
 a51 := Tryz.isAgg152
 z51 := Tryz.sizeOf152
 v51 := Tryz.zeroValue152
 t53 := Tryz.underlying42
 a53 := Tryz.isAgg42
 z53 := Tryz.sizeOf42
 v53 := Tryz.zeroValue42
 t171 := Tryz.underlying158
 a171 := Tryz.isAgg158
 z171 := Tryz.sizeOf158
 v171 := Tryz.zeroValue158
 t173 := Tryz.underlying161
 a173 := Tryz.isAgg161
 z173 := Tryz.sizeOf161
 v173 := Tryz.zeroValue161
 t212 := Tryz.underlying166
 a212 := Tryz.isAgg166
 z212 := Tryz.sizeOf166
 v212 := Tryz.zeroValue166
 t213 := Tryz.underlying167
 a213 := Tryz.isAgg167
 z213 := Tryz.sizeOf167
 t232 := Tryz.underlying174
 a232 := Tryz.isAgg174
 z232 := Tryz.sizeOf174
 v232 := Tryz.zeroValue174
 t233 := Tryz.underlying175
 a233 := Tryz.isAgg175
 z233 := Tryz.sizeOf175
 v233 := Tryz.zeroValue175
 g17 := by kernel_rfl
 g18 := by kernel_rfl
 g19 := by kernel_rfl
 i0 := by kernel_rfl
 i2 := by kernel_rfl
 i3 := by kernel_rfl
 i4 := by kernel_rfl
 i5 := by kernel_rfl
 i9 := by kernel_rfl
 i20 := by kernel_rfl
 i37 := by kernel_rfl
 i46 := by kernel_rfl
 i51 := by kernel_rfl
 i53 := by kernel_rfl
 i171 := by kernel_rfl
 i173 := by kernel_rfl
 i212 := by kernel_rfl
 i232 := by kernel_rfl
 i233 := by kernel_rfl
 m17 := by kernel_rfl
 m18 := by kernel_rfl
 m19 := by kernel_rfl }
open Go.RowKit Go.Sort Go.Lib in
theorem Tryz.strconv_Itoa (n : Int) (h0 : -9223372036854775808 ≤ n) (h1 : n ≤ 9223372036854775807) (w : World) (htab : Lib.TabIs Tryz.prog w "internal/strconv.uint64pow10" .u64 Lib.pow10Tab) :
  Calls Tryz.prog 90 #[.int .i64 n] w fun e w' => e = .returned (.string ⟨(Lib.itoa n).toArray⟩) ∧ ∃ k os, w' = grow (w.drewN k) os := Any.strconv_Itoa Tryz.laysM171 n h0 h1 w htab
open Go.RowKit Go.Sort Go.Lib in
open Go.RowKit Go.Lib in
open Go.RowKit Go.Lib in
open Go.RowKit Go.Lib in
open Go.RowKit Go.Lib in
open Go.RowKit Go.Lib in
open Go.RowKit Go.Lib in
open Go.RowKit Go.Lib in
open Go.RowKit Go.Lib in
open Go.RowKit Go.Lib in
def Tryz.lays145_ren : Go.Shelf.Ren := ⟨fun | 145 => 68 | 220 => 83 | 219 => 94 | 217 => 106 | 225 => 107 | 224 => 108 | 267 => 109 | 266 => 118 | 314 => 119 | n => n, fun | 9 => 9 | 4 => 4 | 59 => 108 | 3 => 3 | 5 => 5 | 46 => 125 | 146 => 153 | 51 => 152 | n => n, fun | 1 => 1 | n => n⟩
theorem Tryz.lays145 : Go.Proofs.Lays.n145 Tryz.prog Tryz.lays145_ren := {
 mixed := by kernel_rfl
 f145 := Tryz.func68.trans (congrArg some (by kernel_rfl))
 f217 := Tryz.func106.trans (congrArg some (by kernel_rfl))
 f219 := Tryz.func94.trans (congrArg some (by kernel_rfl))
 f220 := Tryz.func83.trans (congrArg some (by kernel_rfl))
 f224 := Tryz.func108.trans (congrArg some (by kernel_rfl))
 f225 := Tryz.func107.trans (congrArg some (by kernel_rfl))
 f266 := Tryz.func118.trans (congrArg some (by kernel_rfl))
 f267 := Tryz.func109.trans (congrArg some (by kernel_rfl))
 f314 := Tryz.func119.trans (congrArg some (by kernel_rfl))
 t3 := Tryz.underlying3
 a3 := Tryz.isAgg3
 z3 := Tryz.sizeOf3
 v3 := Tryz.zeroValue3
 t4 := Tryz.underlying4
 a4 := Tryz.isAgg4
 z4 := Tryz.sizeOf4
 v4 := Tryz.zeroValue4
 t5 := Tryz.underlying5
 a5 := Tryz.isAgg5
 z5 := Tryz.sizeOf5
 v5 := Tryz.zeroValue5
 t9 := Tryz.underlying9
 a9 := Tryz.isAgg9
 z9 := Tryz.sizeOf9
 v9 := Tryz.zeroValue9
 t46 := Tryz.underlying125
 a46 := Tryz.isAgg125
 z46 := Tryz.sizeOf125
 v46 := Tryz.zeroValue125
 t51 := Tryz.underlying152
 a51 := Tryz.isAgg152
 z51 := Tryz.sizeOf152
 v51 := Tryz.zeroValue152
 t59 := Tryz.underlying108
 a59 := Tryz.isAgg108
 z59 := Tryz.sizeOf108
 v59 := Tryz.zeroValue108
 t146 := Tryz.underlying153
 a146 := Tryz.isAgg153
 z146 := Tryz.sizeOf153
 v146 := Tryz.zeroValue153
 g1 := by kernel_rfl }
open Go.RowKit Go.Lib in
theorem Tryz.strings_Cut (s sep : ByteArray) (m : Int) (w : World) (hs : s.size < 4294967281) (hm : w.cell? ⟨1, 0, none⟩ = some (.int .i64 m)) :
  Calls Tryz.prog 68 #[.string s, .string sep] w fun e w' => e = .returned (.tuple #[.string ⟨(Lib.cut s.data.toList sep.data.toList).1.toArray⟩, .string ⟨(Lib.cut s.data.toList sep.data.toList).2.1.toArray⟩, .bool (Lib.cut s.data.toList sep.data.toList).2.2]) ∧ ∃ n, w' = w.drewN n := Any.strings_Cut Tryz.lays145 s sep m w hs hm
open Go.RowKit Go.Lib in
open Go.RowKit Go.Lib in
open Go.RowKit Go.Lib in
open Go.RowKit Go.Lib in
open Go.RowKit Go.Lib in
open Go.RowKit Go.Lib in
open Go.RowKit Go.Lib in
open Go.RowKit Go.Lib in
open Go.RowKit Go.Lib in
open Go.RowKit Go.Lib in
open Go.RowKit Go.Lib in
def Tryz.lays146_ren : Go.Shelf.Ren := ⟨fun | 146 => 89 | 221 => 103 | 268 => 114 | 138 => 115 | 143 => 116 | 195 => 122 | 197 => 123 | 218 => 124 | 219 => 94 | 260 => 130 | 217 => 106 | 225 => 107 | 224 => 108 | 267 => 109 | 266 => 118 | 314 => 119 | n => n, fun | 9 => 9 | 31 => 35 | 3 => 3 | 4 => 4 | 0 => 0 | 105 => 156 | 21 => 21 | 5 => 5 | 46 => 125 | 119 => 169 | 139 => 172 | 138 => 171 | 146 => 153 | 51 => 152 | n => n, fun | 1 => 1 | 3 => 4 | 4 => 5 | n => n⟩
theorem Tryz.lays146 : Go.Proofs.Lays.n146 Tryz.prog Tryz.lays146_ren := {
 mixed := by kernel_rfl
 f138 := Tryz.func115.trans (congrArg some (by kernel_rfl))
 f143 := Tryz.func116.trans (congrArg some (by kernel_rfl))
 f146 := Tryz.func89.trans (congrArg some (by kernel_rfl))
 f195 := Tryz.func122.trans (congrArg some (by kernel_rfl))
 f197 := Tryz.func123.trans (congrArg some (by kernel_rfl))
 f217 := Tryz.func106.trans (congrArg some (by kernel_rfl))
 f218 := Tryz.func124.trans (congrArg some (by kernel_rfl))
 f219 := Tryz.func94.trans (congrArg some (by kernel_rfl))
 f221 := Tryz.func103.trans (congrArg some (by kernel_rfl))
 f224 := Tryz.func108.trans (congrArg some (by kernel_rfl))
 f225 := Tryz.func107.trans (congrArg some (by kernel_rfl))
 f260 := Tryz.func130.trans (congrArg some (by kernel_rfl))
 f266 := Tryz.func118.trans (congrArg some (by kernel_rfl))
 f267 := Tryz.func109.trans (congrArg some (by kernel_rfl))
 f268 := Tryz.func114.trans (congrArg some (by kernel_rfl))
 f314 := Tryz.func119.trans (congrArg some (by kernel_rfl))
 t0 := Tryz.underlying0
 a0 := Tryz.isAgg0
 z0 := Tryz.sizeOf0
 v0 := Tryz.zeroValue0
 t3 := Tryz.underlying3
 a3 := Tryz.isAgg3
 z3 := Tryz.sizeOf3
 v3 := Tryz.zeroValue3
 t4 := Tryz.underlying4
 a4 := Tryz.isAgg4
 z4 := Tryz.sizeOf4
 v4 := Tryz.zeroValue4
 t5 := Tryz.underlying5
 a5 := Tryz.isAgg5
 z5 := Tryz.sizeOf5
 v5 := Tryz.zeroValue5
 t9 := Tryz.underlying9
 a9 := Tryz.isAgg9
 z9 := Tryz.sizeOf9
 v9 := Tryz.zeroValue9
 t21 := Tryz.underlying21
 a21 := Tryz.isAgg21
 z21 := Tryz.sizeOf21
 v21 := Tryz.zeroValue21
 t31 := Tryz.underlying35
 a31 := Tryz.isAgg35
 z31 := Tryz.sizeOf35
 v31 := Tryz.zeroValue35
 t46 := Tryz.underlying125
 a46 := Tryz.isAgg125
 z46 := Tryz.sizeOf125
 v46 := Tryz.zeroValue125
 t51 := Tryz.underlying152
 a51 := Tryz.isAgg152
 z51 := Tryz.sizeOf152
 v51 := Tryz.zeroValue152
 t105 := Tryz.underlying156
 a105 := Tryz.isAgg156
 z105 := Tryz.sizeOf156
 v105 := Tryz.zeroValue156
 t119 := Tryz.underlying169
 a119 := Tryz.isAgg169
 z119 := Tryz.sizeOf169
 t138 := Tryz.underlying171
 a138 := Tryz.isAgg171
 z138 := Tryz.sizeOf171
 v138 := Tryz.zeroValue171
 t139 := Tryz.underlying172
 a139 := Tryz.isAgg172
 z139 := Tryz.sizeOf172
 v139 := Tryz.zeroValue172
 t146 := Tryz.underlying153
 a146 := Tryz.isAgg153
 z146 := Tryz.sizeOf153
 v146 := Tryz.zeroValue153
 g1 := by kernel_rfl
 g3 := by kernel_rfl
 g4 := by kernel_rfl }
open Go.RowKit Go.Lib in
theorem Tryz.strings_Split (s sep : ByteArray) (m : Int) (w : World) (hs : s.size < 4294967281) (hm : w.cell? ⟨1, 0, none⟩ = some (.int .i64 m)) (h1 : 1 ≤ sep.size) :
  Calls Tryz.prog 89 #[.string s, .string sep] w fun e w' =>
   e = .returned (.slice (some ⟨w.heap.size, 0, none⟩) (Lib.countB s sep + 1) (Lib.countB s sep + 1)) ∧ w' = w.alloc (.cells ((Lib.splitB sep 0 (Lib.countB s sep) s).map Value.string).toArray 9) := Any.strings_Split Tryz.lays146 (by kernel_rfl) s sep m w hs hm h1
open Go.RowKit Go.Lib in
open Go.RowKit Go.Lib in
def Tryz.lays152_ren : Go.Shelf.Ren := ⟨fun | 152 => 95 | 137 => 99 | 119 => 110 | 224 => 108 | 225 => 107 | 217 => 106 | 266 => 118 | n => n, fun | 9 => 9 | 21 => 21 | 3 => 3 | 4 => 4 | 5 => 5 | 0 => 0 | 46 => 125 | n => n, fun | n => n⟩
theorem Tryz.lays152 : Go.Proofs.Lays.n152 Tryz.prog Tryz.lays152_ren := {
 mixed := by kernel_rfl
 f119 := Tryz.func110.trans (congrArg some (by kernel_rfl))
 f137 := Tryz.func99.trans (congrArg some (by kernel_rfl))
 f152 := Tryz.func95.trans (congrArg some (by kernel_rfl))
 f217 := Tryz.func106.trans (congrArg some (by kernel_rfl))
 f224 := Tryz.func108.trans (congrArg some (by kernel_rfl))
 f225 := Tryz.func107.trans (congrArg some (by kernel_rfl))
 f266 := Tryz.func118.trans (congrArg some (by kernel_rfl))
 t0 := Tryz.underlying0
 a0 := Tryz.isAgg0
 z0 := Tryz.sizeOf0
 v0 := Tryz.zeroValue0
 t3 := Tryz.underlying3
 a3 := Tryz.isAgg3
 z3 := Tryz.sizeOf3
 v3 := Tryz.zeroValue3
 t4 := Tryz.underlying4
 a4 := Tryz.isAgg4
 z4 := Tryz.sizeOf4
 v4 := Tryz.zeroValue4
 t5 := Tryz.underlying5
 a5 := Tryz.isAgg5
 z5 := Tryz.sizeOf5
 v5 := Tryz.zeroValue5
 t9 := Tryz.underlying9
 a9 := Tryz.isAgg9
 z9 := Tryz.sizeOf9
 v9 := Tryz.zeroValue9
 t21 := Tryz.underlying21
 a21 := Tryz.isAgg21
 z21 := Tryz.sizeOf21
 v21 := Tryz.zeroValue21
 t46 := Tryz.underlying125
 a46 := Tryz.isAgg125
 z46 := Tryz.sizeOf125
 v46 := Tryz.zeroValue125 }
open Go.RowKit Go.Lib in
theorem Tryz.strings_IndexRune_ascii (s : ByteArray) (r : Int) (w : World) (h0 : 0 ≤ r) (h1 : r < 128) :
  Calls Tryz.prog 95 #[.string s, .int .i32 r] w fun e w' => e = .returned (.int .i64 (Lib.indexByte s.data.toList r.toNat.toUInt8)) ∧ w' = w := Any.strings_IndexRune_ascii Tryz.lays152 s r w h0 h1
open Go.RowKit Go.Lib in
open Go.RowKit Go.Lib in
def Tryz.lays153_ren : Go.Shelf.Ren := ⟨fun | 153 => 84 | 152 => 95 | 226 => 96 | 227 => 97 | 228 => 98 | 137 => 99 | 119 => 110 | 224 => 108 | 225 => 107 | 217 => 106 | 266 => 118 | n => n, fun | 9 => 9 | 3 => 3 | 4 => 4 | 5 => 5 | 21 => 21 | 117 => 130 | 116 => 129 | 0 => 0 | 46 => 125 | 124 => 138 | n => n, fun | n => n⟩
theorem Tryz.lays153 : Go.Proofs.Lays.n153 Tryz.prog Tryz.lays153_ren := {
 mixed := by kernel_rfl
 f119 := Tryz.func110.trans (congrArg some (by kernel_rfl))
 f137 := Tryz.func99.trans (congrArg some (by kernel_rfl))
 f152 := Tryz.func95.trans (congrArg some (by kernel_rfl))
 f153 := Tryz.func84.trans (congrArg some (by kernel_rfl))
 f217 := Tryz.func106.trans (congrArg some (by kernel_rfl))
 f224 := Tryz.func108.trans (congrArg some (by kernel_rfl))
 f225 := Tryz.func107.trans (congrArg some (by kernel_rfl))
 f226 := Tryz.func96.trans (congrArg some (by kernel_rfl))
 f227 := Tryz.func97.trans (congrArg some (by kernel_rfl))
 f228 := Tryz.func98.trans (congrArg some (by kernel_rfl))
 f266 := Tryz.func118.trans (congrArg some (by kernel_rfl))
 t0 := Tryz.underlying0
 a0 := Tryz.isAgg0
 z0 := Tryz.sizeOf0
 v0 := Tryz.zeroValue0
 t3 := Tryz.underlying3
 a3 := Tryz.isAgg3
 z3 := Tryz.sizeOf3
 v3 := Tryz.zeroValue3
 t4 := Tryz.underlying4
 a4 := Tryz.isAgg4
 z4 := Tryz.sizeOf4
 v4 := Tryz.zeroValue4
 t5 := Tryz.underlying5
 a5 := Tryz.isAgg5
 z5 := Tryz.sizeOf5
 v5 := Tryz.zeroValue5
 t9 := Tryz.underlying9
 a9 := Tryz.isAgg9
 z9 := Tryz.sizeOf9
 v9 := Tryz.zeroValue9
 t21 := Tryz.underlying21
 a21 := Tryz.isAgg21
 z21 := Tryz.sizeOf21
 v21 := Tryz.zeroValue21
 t46 := Tryz.underlying125
 a46 := Tryz.isAgg125
 z46 := Tryz.sizeOf125
 v46 := Tryz.zeroValue125
 t116 := Tryz.underlying129
 a116 := Tryz.isAgg129
 z116 := Tryz.sizeOf129
 t117 := Tryz.underlying130
 a117 := Tryz.isAgg130
 z117 := Tryz.sizeOf130
 v117 := Tryz.zeroValue130
 t124 := Tryz.underlying138
 a124 := Tryz.isAgg138
 z124 := Tryz.sizeOf138
 v124 := Tryz.zeroValue138 }
open Go.RowKit Go.Lib in
open Go.RowKit Go.Lib in
open Go.RowKit Go.Lib in
open Go.RowKit Go.Lib in
open Go.RowKit Go.Lib in
open Go.RowKit Go.Lib in
theorem Tryz.strings_IndexAny_long (hv116 : ∀ w, (zeroValue 129).run Tryz.prog w = .ok (.agg (Array.replicate 256 (.bool false))) w) (s chars : ByteArray) (w : World) (h2 : 2 ≤ chars.size) (h8 : 8 < s.size) (hs : s.size < 4294967281) (hcs : chars.size < 4294967281) (hascii : ∀ (j : Nat) b, chars.data.toList[j]? = some b → b.toNat < 128) :
  Calls Tryz.prog 84 #[.string s, .string chars] w fun e w' => e = .returned (.int .i64 (Lib.indexAny s.data.toList chars.data.toList)) ∧ w' = ((w.alloc (.cells (Lib.setCells chars.data.toList) 129)).alloc (.cells (Lib.setCells chars.data.toList) 129)) := Any.strings_IndexAny_long Tryz.lays153 hv116 (by kernel_rfl) s chars w h2 h8 hs hcs hascii
open Go.RowKit Go.Lib in
open Go.RowKit Go.Lib in
open Go.RowKit Go.Lib in
open Go.RowKit Go.Lib in
def Tryz.laysNm216_ren : Go.Shelf.Ren := ⟨fun | 16 => 51 | n => n, fun | 24 => 35 | 9 => 9 | 4 => 4 | n => n, fun | n => n⟩
theorem Tryz.laysNm216 : Go.Proofs.Lays2.n16 Tryz.prog Tryz.laysNm216_ren := {
 mixed := by kernel_rfl
 f16 := Tryz.func51.trans (congrArg some (by kernel_rfl))
 t4 := Tryz.underlying4
 a4 := Tryz.isAgg4
 z4 := Tryz.sizeOf4
 v4 := Tryz.zeroValue4
 t9 := Tryz.underlying9
 a9 := Tryz.isAgg9
 z9 := Tryz.sizeOf9
 v9 := Tryz.zeroValue9
 t24 := Tryz.underlying35
 a24 := Tryz.isAgg35
 z24 := Tryz.sizeOf35
 v24 := Tryz.zeroValue35
 i9 := by kernel_rfl }
open Go.RowKit Go.Lib in
theorem Tryz.slices_Clone_string (b off n c : Nat) (zs : List ByteArray) (w : World) (hz : n ≤ zs.length) (hbig : n * 16 ≤ 140737488355328) (hc : ∀ j, j < zs.length → w.cell? ⟨b, off + j, none⟩ = some (.string (zs.getD j ByteArray.empty))) :
  Calls Tryz.prog 51 #[.slice (some ⟨b, off, none⟩) n c] w fun e w' => ∃ v', e = .returned v' ∧ w'.ownsRow w.heap.size 9 1 v' n ((zs.take n).map (Value.string)) ∧ v' ≠ .slice none 0 0 ∧ Below w.heap.size w w' := Any.slices_Clone_string Tryz.laysNm216 b off n c zs w hz hbig hc
open Go.RowKit Go.Lib in
theorem Tryz.slices_Clone_string_nil (n c : Nat) (w : World) :
  Calls Tryz.prog 51 #[.slice none n c] w fun e w' => e = .returned (.slice none 0 0) ∧ w' = w := Any.slices_Clone_string_nil Tryz.laysNm216 n c w
open Go.RowKit Go.Lib in
theorem Tryz.slices_Clone_string_zero (a : Addr) (c : Nat) (w : World) :
  Calls Tryz.prog 51 #[.slice (some a) 0 c] w fun e w' => ∃ v', e = .returned v' ∧ w'.ownsRow w.heap.size 9 1 v' 0 [] ∧ v' ≠ .slice none 0 0 ∧ Below w.heap.size w w' := Any.slices_Clone_string_zero Tryz.laysNm216 a c w
end Go.Proofs
namespace Go.Proofs.YtchgkcbloeoopaaGreatDoor
open Gk Pc Ul
set_option linter.unusedVariables false
set_option linter.unusedSimpArgs false
theorem IndexByte_any (s : List UInt8) (c : UInt8) (w : World) : Calls Tryz.prog 99 [S s, U8 c.toNat].toArray w (Ret fun v w' => v = I64 (Go.Lib.indexByte s c) ∧ w = w') :=
 (Tryz.strings_IndexByte ⟨s.toArray⟩ c.toNat w).mono fun e w' he => by
  obtain ⟨rfl, rfl⟩ := he
  refine ⟨_, rfl, ?_, rfl⟩
  congr 2
  simp
theorem own_any (s : List UInt8) (w : World) :
  Calls Tryz.prog 86 [S s].toArray w (Ret fun v w' => v = I64 (ownP s : Nat) ∧ w = w') := by
 refine calls Tryz.func86 rfl Tryz.ntmps86 rfl ?_
 refine WC.seq ?_
 refine WC.region ?_
 refine WL.val (.assign (.of rfl)) rfl ?_
 refine WL.nil ?_
 refine WC.seq ?_
 refine WC.seq ?_
 refine WC.region ?_
 refine WL.val (.move (.of rfl)) rfl ?_
 refine WL.val (.eqs (.of rfl) (.of rfl)) rfl ?_
 refine WL.nil ?_
 refine WC.cond rfl (fun hb4 => ?_) (fun hb4 => ?_)
 ·
  have hc4 := hb4; try simp only [Gk.cs0] at hc4
  refine WC.seq ?_
  refine WC.region ?_
  refine WL.val (.assign (.of rfl)) rfl ?_
  refine WL.nil ?_
  refine WC.ret ?_
  refine ret1 Tryz.results86 rfl ?_
  exact ⟨_, rfl, by rw [ownP, if_pos (show s = https from hc4)]; rfl, rfl⟩
 ·
  have hc4 := hb4; try simp only [Gk.cs0] at hc4
  refine WC.skip ?_
  refine WC.seq ?_
  refine WC.region ?_
  refine WL.val (.assign (.of rfl)) rfl ?_
  refine WL.nil ?_
  refine WC.ret ?_
  refine ret1 Tryz.results86 rfl ?_
  exact ⟨_, rfl, by rw [ownP, if_neg (show ¬ s = https from hc4)]; rfl, rfl⟩
theorem lower_any (s : List UInt8) (hl : s.length ≤ 1000000) (B w : World) (I : Im) (As : List Assn) (hS : Sat B w I As) :
  Calls Tryz.prog 69 [S s].toArray w (Ret fun v w' => v = S (low s) ∧ Sat B w' I As) := by
 refine calls Tryz.func69 rfl Tryz.ntmps69 rfl ?_
 refine WC.seq ?_
 refine WC.region ?_
 refine WL.val (.assign (.of rfl)) rfl ?_
 refine WL.nil ?_
 refine WC.seq ?_
 refine WC.region ?_
 refine WL.val (.move (.of rfl)) rfl ?_
 refine WL.strBytes (s := s) hS (.of rfl) Tryz.underlying9 Tryz.underlying103 Tryz.underlying5 rfl ?_
 clear hS; intro m7 cap7 r7 w hS
 refine WL.val (.assign (.of rfl)) rfl ?_
 refine WL.nil ?_
 refine WC.seq ?_
 refine WC.seq ?_
 refine WC.region ?_
 refine WL.val (.move (.of rfl)) rfl ?_
 refine WL.val (.lenSlice (.of rfl) Tryz.underlying103) rfl ?_
 refine WL.val (.move (.of rfl)) rfl ?_
 refine WL.nil ?_
 refine WC.block ?_
 refine WC.loop (σ := Nat) (fun i => [(3, .slice (some (ad m7 0)) s.length cap7), (8, .slice (some (ad m7 0)) s.length cap7), (9, I64 (s.length : Nat)), (10, I64 (i : Nat))]) (fun i w => i ≤ s.length ∧ Sat B w I (blkM m7 (bcs (mid s i) ++ List.replicate r7 (Value.int .u8 0)) 5 :: As)) (fun i => s.length - i) 0 ⟨rfl, rfl, rfl, rfl, trivial⟩ ⟨Nat.zero_le _, by rw [mid_zero]; exact hS⟩ ?_
 rintro i w ⟨hi, hS⟩
 change WC _ _ _ _ [(3, .slice (some (ad m7 0)) s.length cap7), (8, .slice (some (ad m7 0)) s.length cap7), (9, I64 (s.length : Nat)), (10, I64 (i : Nat))] w
 refine WC.seq ?_
 refine WC.region ?_
 refine WL.val (.lss (.of rfl) (.of rfl)) rfl ?_
 refine WL.nil ?_
 refine WC.seq ?_
 refine WC.cond rfl (fun hb11 => ?_) (fun hb11 => ?_)
 ·
  have hc11 := hb11; try simp only [Gk.cs0] at hc11
  refine WC.skip ?_
  refine WC.seq ?_
  refine WC.block ?_
  refine WC.seq ?_
  have hl1 : (bcs (mid s i)).length = s.length := by rw [List.length_map, mid_len]
  have hld : (bcs (mid s i) ++ List.replicate r7 (Value.int .u8 0))[i]? = some (U8 (at_ s i).toNat) := by
   rw [List.getElem?_append_left (by omega), List.getElem?_map, mid_at s i (by omega)]; rfl
  refine WC.region ?_
  refine WL.val (.move (.of rfl)) rfl ?_
  first | refine WL.val (.indexAddr (.of rfl) (.of rfl) (by omega) (by omega) Tryz.underlying103 Tryz.sizeOf5) rfl ?_ | refine WL.val (.indexAddrI (.of rfl) (.of rfl) (by omega) (by omega) Tryz.underlying103 Tryz.sizeOf5) rfl ?_
  refine WL.val (.ldM (.of rfl) hS (k := 0) rfl Tryz.isAgg5 (by rw [Nat.zero_add, Int.toNat_natCast, Nat.mul_one]; exact hld)) rfl ?_
  refine WL.val (.assign (.of rfl)) rfl ?_
  refine WL.val (.assign (.of rfl)) rfl ?_
  refine WL.nil ?_
  refine WC.seq ?_
  refine WC.region ?_
  refine WL.val (.move (.of rfl)) rfl ?_
  refine WL.val (.geq (.of rfl) (.of rfl)) rfl ?_
  refine WL.val (.move (.of rfl)) rfl ?_
  refine WL.gval rfl rfl (fun hg1 => (.move (.of rfl))) rfl ?_
  refine WL.gval rfl rfl (fun hg1 => (.leq (.gd hg1 rfl) (.of rfl))) rfl ?_
  refine WL.val (.pand (.of rfl) (.of rfl) (.of rfl)) rfl ?_
  refine WL.nil ?_
  refine WC.cond rfl (fun hb20 => ?_) (fun hb20 => ?_)
  ·
   have hc20 := hb20; try simp only [Gk.cs0] at hc20
   refine WC.region ?_
   refine WL.val (.move (.of rfl)) rfl ?_
   refine WL.val (.move (.of rfl)) rfl ?_
   refine WL.val (.move (.of rfl)) rfl ?_
   refine WL.val (.addw (.of rfl) (.of rfl)) rfl ?_
   refine WL.val (.subw (.of rfl) (.of rfl)) rfl ?_
   first | refine WL.val (.indexAddr (.of rfl) (.of rfl) (by omega) (by omega) Tryz.underlying103 Tryz.sizeOf5) rfl ?_ | refine WL.val (.indexAddrI (.of rfl) (.of rfl) (by omega) (by omega) Tryz.underlying103 Tryz.sizeOf5) rfl ?_
   refine WL.st1M hS (k := 0) rfl (.of rfl) (.of rfl) rfl Tryz.sizeOf5 (by rw [List.length_append, hl1, List.length_replicate]; omega) ?_
   clear hS; intro w hS; try dsimp only [List.set] at hS
   refine WL.nil ?_
   refine WC.region ?_
   refine WL.val (.add (.of rfl) (.of rfl) ⟨by omega, by omega⟩) rfl ?_
   refine WL.val (.move (.of rfl)) rfl ?_
   refine WL.nil ?_
   refine ⟨i + 1, ⟨rfl, rfl, rfl, rfl, trivial⟩, ⟨by omega, ?_⟩, by omega⟩
   have e := mid_succ s i (by omega)
   rw [Nat.zero_add, Int.toNat_natCast, Nat.mul_one] at hS
   rw [List.set_append_left _ _ (by omega), show Value.int .u8 (IntKind.u8.wrap ((IntKind.u8.wrap (((at_ s (i : Int)).toNat : Int) + 97)) - 65)) = U8 (lo (at_ s (i : Int))).toNat by
    have := lo_up (c := at_ s (i : Int)) (by simpa only [Bool.and_eq_true, decide_eq_true_eq] using hb20)
    rw [this, IntKind.wrap_u8, IntKind.wrap_u8]; congr 1; omega, ← List.map_set, e] at hS
   exact hS
  ·
   have hc20 := hb20; try simp only [Gk.cs0] at hc20
   refine WC.skip ?_
   refine WC.region ?_
   refine WL.val (.add (.of rfl) (.of rfl) ⟨by omega, by omega⟩) rfl ?_
   refine WL.val (.move (.of rfl)) rfl ?_
   refine WL.nil ?_
   refine ⟨i + 1, ⟨rfl, rfl, rfl, rfl, trivial⟩, ⟨by omega, ?_⟩, by omega⟩
   rw [← mid_same s i (by omega) (lo_no (fun hh => by
    have : (decide (65 ≤ ((at_ s (i : Int)).toNat : Int)) && decide (((at_ s (i : Int)).toNat : Int) ≤ 90)) = true := by simp only [Bool.and_eq_true, decide_eq_true_eq]; exact hh
    rw [this] at hb20; cases hb20))]
   exact hS
 ·
  have hc11 := hb11; try simp only [Gk.cs0] at hc11
  refine WC.exit ?_
  refine WC.seq ?_
  refine WC.region ?_
  refine WL.val (.move (.of rfl)) rfl ?_
  refine WL.val (.bytesStrM (l := low s) (b := m7) (o := 0) (cap := cap7) (.of (by rw [low_len]; rfl)) hS (k := 0) rfl Tryz.underlying103 Tryz.underlying5 Tryz.underlying9 (fun j hj => by
   rw [low_len] at hj
   rw [Nat.zero_add, List.getElem?_append_left (by rw [List.length_map, mid_len]; omega), List.getElem?_map, mid_end s i (by omega), List.getElem?_eq_getElem (by rw [low_len]; omega)]
   rfl)) rfl ?_
  refine WL.val (.assign (.of rfl)) rfl ?_
  refine WL.nil ?_
  refine WC.ret ?_
  refine ret1 Tryz.results69 rfl ?_
  exact ⟨_, rfl, rfl, hS.drop (k := 0) rfl⟩
theorem host_any (s : List UInt8) (w : World) :
  Calls Tryz.prog 71 [S s].toArray w (Ret fun v w' => v = .bool (hostOk s) ∧ w = w') := by
 obtain ⟨w0, hw0⟩ : ∃ w0, w = w0 := ⟨_, rfl⟩
 rw [show (fun (v : Value) (w' : World) => v = .bool (hostOk s) ∧ w = w') = (fun v w' => v = .bool (hostOk s) ∧ w0 = w') by rw [hw0]]
 refine calls Tryz.func71 rfl Tryz.ntmps71 rfl ?_
 refine WC.seq ?_
 refine WC.region ?_
 refine WL.val (.assign (.of rfl)) rfl ?_
 refine WL.nil ?_
 refine WC.seq ?_
 refine WC.seq ?_
 refine WC.region ?_
 refine WL.val (.move (.of rfl)) rfl ?_
 refine WL.val (.eqs (.of rfl) (.of rfl)) rfl ?_
 refine WL.val (.move (.of rfl)) rfl ?_
 refine WL.gval rfl rfl (fun hg1 => (.move (.of rfl))) rfl ?_
 refine WL.gval rfl rfl (fun hg1 => (.len (.gd hg1 rfl) Tryz.underlying9)) rfl ?_
 refine WL.gval rfl rfl (fun hg1 => (.gtr (.gd hg1 rfl) (.of rfl))) rfl ?_
 refine WL.val (.por (.of rfl) (.of rfl) (.of rfl)) rfl ?_
 refine WL.nil ?_
 refine WC.cond rfl (fun hb11 => ?_) (fun hb11 => ?_)
 ·
  have hc11 := hb11; try simp only [Gk.cs0] at hc11
  refine WC.seq ?_
  refine WC.region ?_
  refine WL.val (.assign (.of rfl)) rfl ?_
  refine WL.nil ?_
  refine WC.ret ?_
  refine ret1 Tryz.results71 rfl ?_
  refine ⟨_, rfl, ?_, hw0.symm⟩
  congr 1
  rw [hostOk]
  rcases Bool.or_eq_true_iff.1 hb11 with h | h
  ·rw [show s = [] by simpa using h]; rfl
  ·simp only [decide_eq_true_eq] at h
   rw [show decide (64 < s.length) = true from decide_eq_true (by omega)]; simp
 ·
  have hc11 := hb11; try simp only [Gk.cs0] at hc11
  refine WC.skip ?_
  refine WC.seq ?_
  refine WC.seq ?_
  refine WC.region ?_
  refine WL.val (.move (.of rfl)) rfl ?_
  refine WL.val (.len (.of rfl) Tryz.underlying9) rfl ?_
  refine WL.val (.move (.of rfl)) rfl ?_
  refine WL.nil ?_
  refine WC.block ?_
  refine WC.loop (σ := Nat) (fun i => [(0, S s), (13, I64 (s.length : Nat)), (14, I64 (i : Nat))]) (fun i w => i ≤ s.length ∧ (∀ j, j < i → j < s.length → hostB (at_ s (j : Int)) = true) ∧ w = w0) (fun i => s.length - i) 0 ⟨rfl, rfl, rfl, trivial⟩ ⟨Nat.zero_le _, fun _ h => absurd h (by omega), hw0⟩ ?_
  rintro i w ⟨hi, hok, hw⟩
  change WC _ _ _ _ [(0, S s), (13, I64 (s.length : Nat)), (14, I64 (i : Nat))] w
  refine WC.seq ?_
  refine WC.region ?_
  refine WL.val (.lss (.of rfl) (.of rfl)) rfl ?_
  refine WL.nil ?_
  refine WC.seq ?_
  refine WC.cond rfl (fun hb15 => ?_) (fun hb15 => ?_)
  ·
   have hc15 := hb15; try simp only [Gk.cs0] at hc15
   refine WC.skip ?_
   refine WC.seq ?_
   refine WC.block ?_
   refine WC.seq ?_
   refine WC.region ?_
   refine WL.val (.move (.of rfl)) rfl ?_
   refine WL.val (.assign (.of rfl)) rfl ?_
   refine WL.nil ?_
   refine WC.seq ?_
   refine WC.region ?_
   refine WL.val (.move (.of rfl)) rfl ?_
   refine WL.val (.move (.of rfl)) rfl ?_
   refine WL.val (.index (.of rfl) (.of rfl) (by omega) (by omega) Tryz.underlying9) rfl ?_
   refine WL.val (.assign (.of rfl)) rfl ?_
   refine WL.nil ?_
   refine WC.seq ?_
   refine WC.region ?_
   refine WL.val (.move (.of rfl)) rfl ?_
   refine WL.call Tryz.func85 rfl (evs_cons (.of rfl) evs_nil) rfl (Plain_any _ _) ?_
   rintro _ _ ⟨rfl, rfl⟩
   refine WL.val (.not (.of rfl)) rfl ?_
   refine WL.val (.move (.of rfl)) rfl ?_
   refine WL.gval rfl rfl (fun hg1 => (.move (.of rfl))) rfl ?_
   refine WL.gval rfl rfl (fun hg1 => (.eql (.gd hg1 rfl) (.of rfl))) rfl ?_
   refine WL.val (.por (.of rfl) (.of rfl) (.of rfl)) rfl ?_
   refine WL.val (.move (.of rfl)) rfl ?_
   refine WL.gval rfl rfl (fun hg1 => (.move (.of rfl))) rfl ?_
   refine WL.gval rfl rfl (fun hg1 => (.eql (.gd hg1 rfl) (.of rfl))) rfl ?_
   refine WL.val (.por (.of rfl) (.of rfl) (.of rfl)) rfl ?_
   refine WL.nil ?_
   refine WC.cond rfl (fun hb30 => ?_) (fun hb30 => ?_)
   ·
    have hc30 := hb30; try simp only [Gk.cs0] at hc30
    refine WC.seq ?_
    refine WC.region ?_
    refine WL.val (.assign (.of rfl)) rfl ?_
    refine WL.nil ?_
    refine WC.ret ?_
    refine ret1 Tryz.results71 rfl ?_
    refine ⟨_, rfl, ?_, hw.symm⟩
    rw [hostB_int] at hb30
    rw [hostOk, not_all (p := hostB) (i := i) (by omega) (by simpa using hb30), Bool.and_false]
   ·
    have hc30 := hb30; try simp only [Gk.cs0] at hc30
    refine WC.skip ?_
    refine WC.region ?_
    refine WL.val (.add (.of rfl) (.of rfl) ⟨by omega, by omega⟩) rfl ?_
    refine WL.val (.move (.of rfl)) rfl ?_
    refine WL.nil ?_
    refine ⟨i + 1, ⟨rfl, rfl, rfl, trivial⟩, ⟨by omega, fun j hj hjl => ?_, hw⟩, by omega⟩
    rcases Nat.lt_or_ge j i with h1 | h1
    ·exact hok j h1 hjl
    ·have e : j = i := by omega
     subst e
     rw [hostB_int] at hb30
     simpa using hb30
  ·
   have hc15 := hb15; try simp only [Gk.cs0] at hc15
   refine WC.exit ?_
   refine WC.seq ?_
   refine WC.region ?_
   refine WL.val (.assign (.of rfl)) rfl ?_
   refine WL.nil ?_
   refine WC.ret ?_
   refine ret1 Tryz.results71 rfl ?_
   refine ⟨_, rfl, ?_, hw.symm⟩
   rw [hostOk, all_of hok (by omega), Bool.and_true]
   obtain ⟨h1, h2⟩ := (Bool.or_eq_false_iff).1 hb11
   rw [show decide (64 < s.length) = false from decide_eq_false (by simp only [decide_eq_false_iff_not] at h2; omega), show s.isEmpty = false by cases s with | nil => simp at h1 | cons a b => rfl]
   rfl
theorem stands_any (s : List UInt8) (hl : s.length ≤ 1000000) (w : World) :
  Calls Tryz.prog 87 [S s].toArray w (Ret fun v w' => v = .bool (s.all standB) ∧ w = w') := by
 obtain ⟨w0, hw0⟩ : ∃ w0, w = w0 := ⟨_, rfl⟩
 rw [show (fun (v : Value) (w' : World) => v = .bool (s.all standB) ∧ w = w') = (fun v w' => v = .bool (s.all standB) ∧ w0 = w') by rw [hw0]]
 refine calls Tryz.func87 rfl Tryz.ntmps87 rfl ?_
 refine WC.seq ?_
 refine WC.region ?_
 refine WL.val (.assign (.of rfl)) rfl ?_
 refine WL.nil ?_
 refine WC.seq ?_
 refine WC.seq ?_
 refine WC.region ?_
 refine WL.val (.move (.of rfl)) rfl ?_
 refine WL.val (.len (.of rfl) Tryz.underlying9) rfl ?_
 refine WL.val (.move (.of rfl)) rfl ?_
 refine WL.nil ?_
 refine WC.block ?_
 refine WC.loop (σ := Nat) (fun i => [(0, S s), (6, I64 (s.length : Nat)), (7, I64 (i : Nat))]) (fun i w => i ≤ s.length ∧ (∀ j, j < i → j < s.length → standB (at_ s (j : Int)) = true) ∧ w = w0) (fun i => s.length - i) 0 ⟨rfl, rfl, rfl, trivial⟩ ⟨Nat.zero_le _, fun _ h => absurd h (by omega), hw0⟩ ?_
 rintro i w ⟨hi, hok, hw⟩
 change WC _ _ _ _ [(0, S s), (6, I64 (s.length : Nat)), (7, I64 (i : Nat))] w
 refine WC.seq ?_
 refine WC.region ?_
 refine WL.val (.lss (.of rfl) (.of rfl)) rfl ?_
 refine WL.nil ?_
 refine WC.seq ?_
 refine WC.cond rfl (fun hb8 => ?_) (fun hb8 => ?_)
 ·
  have hc8 := hb8; try simp only [Gk.cs0] at hc8
  refine WC.skip ?_
  refine WC.seq ?_
  refine WC.block ?_
  refine WC.seq ?_
  refine WC.region ?_
  refine WL.val (.move (.of rfl)) rfl ?_
  refine WL.val (.assign (.of rfl)) rfl ?_
  refine WL.nil ?_
  refine WC.seq ?_
  refine WC.region ?_
  refine WL.val (.move (.of rfl)) rfl ?_
  refine WL.val (.move (.of rfl)) rfl ?_
  refine WL.val (.index (.of rfl) (.of rfl) (by omega) (by omega) Tryz.underlying9) rfl ?_
  refine WL.val (.assign (.of rfl)) rfl ?_
  refine WL.nil ?_
  refine WC.seq ?_
  refine WC.region ?_
  refine WL.val (.move (.of rfl)) rfl ?_
  refine WL.val (.lss (.of rfl) (.of rfl)) rfl ?_
  refine WL.val (.move (.of rfl)) rfl ?_
  refine WL.gval rfl rfl (fun hg1 => (.move (.of rfl))) rfl ?_
  refine WL.gval rfl rfl (fun hg1 => (.gtr (.gd hg1 rfl) (.of rfl))) rfl ?_
  refine WL.val (.por (.of rfl) (.of rfl) (.of rfl)) rfl ?_
  refine WL.val (.move (.of rfl)) rfl ?_
  refine WL.gval rfl rfl (fun hg1 => (.move (.of rfl))) rfl ?_
  refine WL.gcall (T := fun w => w = w0) rfl rfl rfl Tryz.func99 rfl (fun hg1 => (evs_cons (.of rfl) (evs_cons (.gd hg1 rfl) evs_nil))) rfl (fun hg1 => (IndexByte_any BAD (at_ s (i : Int)) _).mono (fun e w2 he => by obtain ⟨v, a, b, c⟩ := he; exact ⟨v, a, b, by rw [← c]; exact hw⟩)) hw ?_
  rintro w hw
  refine WL.gval rfl rfl (fun hg1 => (.geq (.gd hg1 rfl) (.of rfl))) rfl ?_
  refine WL.val (.por (.of rfl) (.of rfl) (.of rfl)) rfl ?_
  refine WL.nil ?_
  refine WC.cond rfl (fun hb23 => ?_) (fun hb23 => ?_)
  ·
   have hc23 := hb23; try simp only [Gk.cs0] at hc23
   refine WC.seq ?_
   refine WC.region ?_
   refine WL.val (.assign (.of rfl)) rfl ?_
   refine WL.nil ?_
   refine WC.ret ?_
   refine ret1 Tryz.results87 rfl ?_
   refine ⟨_, rfl, ?_, hw.symm⟩
   rw [standB_int] at hb23
   rw [not_all (p := standB) (i := i) (by omega) (by simpa using hb23)]
  ·
   have hc23 := hb23; try simp only [Gk.cs0] at hc23
   refine WC.skip ?_
   refine WC.region ?_
   refine WL.val (.add (.of rfl) (.of rfl) ⟨by omega, by omega⟩) rfl ?_
   refine WL.val (.move (.of rfl)) rfl ?_
   refine WL.nil ?_
   refine ⟨i + 1, ⟨rfl, rfl, rfl, trivial⟩, ⟨by omega, fun j hj hjl => ?_, hw⟩, by omega⟩
   rcases Nat.lt_or_ge j i with h1 | h1
   ·exact hok j h1 hjl
   ·have e : j = i := by omega
    subst e
    rw [standB_int] at hb23
    simpa using hb23
 ·
  have hc8 := hb8; try simp only [Gk.cs0] at hc8
  refine WC.exit ?_
  refine WC.seq ?_
  refine WC.region ?_
  refine WL.val (.assign (.of rfl)) rfl ?_
  refine WL.nil ?_
  refine WC.ret ?_
  refine ret1 Tryz.results87 rfl ?_
  refine ⟨_, rfl, ?_, hw.symm⟩
  rw [all_of hok (by omega)]
theorem val_small (s : List UInt8) (i : Nat) (h4 : i ≤ 4) (h : ∀ j, j < i → j < s.length → digB (at_ s (j : Int)) = true) : val (s.take i) ≤ 9999 := by
 have step : ∀ k, k ≤ i → val (s.take k) + 1 ≤ 10 ^ k := by
  intro k
  induction k with
  | zero => intro _; simp [val]
  | succ k ih =>
   intro hk
   have := ih (by omega)
   rcases Nat.lt_or_ge k s.length with hl | hl
   ·rw [val_take s k hl, Nat.pow_succ]
    have hd := h k (by omega) hl
    simp only [digB, Bool.and_eq_true, decide_eq_true_eq, UInt8.le_iff_toNat_le] at hd
    have e1 : (48 : UInt8).toNat = 48 := rfl
    have e2 : (57 : UInt8).toNat = 57 := rfl
    rw [e1, e2] at hd
    omega
   ·rw [show s.take (k + 1) = s.take k by rw [List.take_of_length_le (by omega), List.take_of_length_le (by omega)], Nat.pow_succ]
    omega
 have h1 := step i (Nat.le_refl _)
 have h2 : 10 ^ i ≤ 10 ^ 4 := Nat.pow_le_pow_right (by decide) h4
 have h3 : 10 ^ 4 = 10000 := by decide
 omega
theorem port_any (s sch : List UInt8) (hl : s.length ≤ 1000000) (w : World) :
  Calls Tryz.prog 72 [S s, S sch].toArray w (Ret fun v w' => v = (if portOk s then Value.tuple #[I64 (portV s sch : Nat), .bool true] else .tuple #[I64 0, .bool false]) ∧ w = w') := by
 obtain ⟨w0, hw0⟩ : ∃ w0, w = w0 := ⟨_, rfl⟩
 rw [show (fun (v : Value) (w' : World) => v = (if portOk s then Value.tuple #[I64 (portV s sch : Nat), .bool true] else .tuple #[I64 0, .bool false]) ∧ w = w') = (fun v w' => v = (if portOk s then Value.tuple #[I64 (portV s sch : Nat), .bool true] else .tuple #[I64 0, .bool false]) ∧ w0 = w') by rw [hw0]]
 refine calls Tryz.func72 rfl Tryz.ntmps72 rfl ?_
 refine WC.seq ?_
 refine WC.region ?_
 refine WL.val (.assign (.of rfl)) rfl ?_
 refine WL.val (.assign (.of rfl)) rfl ?_
 refine WL.nil ?_
 refine WC.seq ?_
 refine WC.region ?_
 refine WL.val (.assign (.of rfl)) rfl ?_
 refine WL.nil ?_
 refine WC.seq ?_
 refine WC.seq ?_
 refine WC.region ?_
 refine WL.val (.move (.of rfl)) rfl ?_
 refine WL.val (.len (.of rfl) Tryz.underlying9) rfl ?_
 refine WL.val (.move (.of rfl)) rfl ?_
 refine WL.nil ?_
 refine WC.block ?_
 refine WC.loop (σ := Nat) (fun i => [(0, S s), (1, S sch), (6, I64 (val (s.take i) : Nat)), (10, I64 (s.length : Nat)), (11, I64 (i : Nat))]) (fun i w => i ≤ s.length ∧ i ≤ 5 ∧ (∀ j, j < i → j < s.length → digB (at_ s (j : Int)) = true) ∧ (0 < i → at_ s 0 ≠ 48) ∧ w = w0) (fun i => s.length - i) 0 ⟨rfl, rfl, rfl, rfl, rfl, trivial⟩ ⟨Nat.zero_le _, by decide, fun _ h => absurd h (by omega), fun h => absurd h (by omega), hw0⟩ ?_
 rintro i w ⟨hi, hi5, hok, h0, hw⟩
 change WC _ _ _ _ [(0, S s), (1, S sch), (6, I64 (val (s.take i) : Nat)), (10, I64 (s.length : Nat)), (11, I64 (i : Nat))] w
 refine WC.seq ?_
 refine WC.region ?_
 refine WL.val (.lss (.of rfl) (.of rfl)) rfl ?_
 refine WL.nil ?_
 refine WC.seq ?_
 refine WC.cond rfl (fun hb12 => ?_) (fun hb12 => ?_)
 ·
  have hc12 := hb12; try simp only [Gk.cs0] at hc12
  refine WC.skip ?_
  refine WC.seq ?_
  refine WC.block ?_
  refine WC.seq ?_
  refine WC.region ?_
  refine WL.val (.move (.of rfl)) rfl ?_
  refine WL.val (.assign (.of rfl)) rfl ?_
  refine WL.nil ?_
  refine WC.seq ?_
  refine WC.region ?_
  refine WL.val (.move (.of rfl)) rfl ?_
  refine WL.val (.move (.of rfl)) rfl ?_
  refine WL.val (.index (.of rfl) (.of rfl) (by omega) (by omega) Tryz.underlying9) rfl ?_
  refine WL.val (.assign (.of rfl)) rfl ?_
  refine WL.nil ?_
  refine WC.seq ?_
  refine WC.seq ?_
  refine WC.region ?_
  refine WL.val (.move (.of rfl)) rfl ?_
  refine WL.val (.lss (.of rfl) (.of rfl)) rfl ?_
  refine WL.val (.move (.of rfl)) rfl ?_
  refine WL.gval rfl rfl (fun hg1 => (.move (.of rfl))) rfl ?_
  refine WL.gval rfl rfl (fun hg1 => (.gtr (.gd hg1 rfl) (.of rfl))) rfl ?_
  refine WL.val (.por (.of rfl) (.of rfl) (.of rfl)) rfl ?_
  refine WL.val (.move (.of rfl)) rfl ?_
  refine WL.gval rfl rfl (fun hg1 => (.move (.of rfl))) rfl ?_
  refine WL.gval rfl rfl (fun hg1 => (.eql (.gd hg1 rfl) (.of rfl))) rfl ?_
  refine WL.gval rfl rfl (fun hg1 => (.move (.gd hg1 rfl))) rfl ?_
  refine WL.gval2 rfl rfl rfl (fun hg1 hg2 => (.move (.of rfl))) rfl ?_
  refine WL.gval2 rfl rfl rfl (fun hg1 hg2 => (.eql (.gd2 hg1 hg2 rfl) (.of rfl))) rfl ?_
  refine WL.gval rfl rfl (fun hg1 => (.pand (.gd hg1 rfl) (.gd hg1 rfl) (.of rfl))) rfl ?_
  refine WL.val (.por (.of rfl) (.of rfl) (.of rfl)) rfl ?_
  refine WL.val (.move (.of rfl)) rfl ?_
  refine WL.gval rfl rfl (fun hg1 => (.move (.of rfl))) rfl ?_
  refine WL.gval rfl rfl (fun hg1 => (.gtr (.gd hg1 rfl) (.of rfl))) rfl ?_
  refine WL.val (.por (.of rfl) (.of rfl) (.of rfl)) rfl ?_
  refine WL.nil ?_
  refine WC.cond rfl (fun hb34 => ?_) (fun hb34 => ?_)
  ·
   have hc34 := hb34; try simp only [Gk.cs0] at hc34
   refine WC.seq ?_
   refine WC.region ?_
   refine WL.val (.assign (.of rfl)) rfl ?_
   refine WL.val (.assign (.of rfl)) rfl ?_
   refine WL.nil ?_
   refine WC.ret ?_
   refine ret2 Tryz.results72 rfl rfl ?_
   have hbad : portOk s = false := by
    have h := hb34
    rcases Bool.or_eq_true_iff.1 h with h | h
    ·rcases Bool.or_eq_true_iff.1 h with h | h
     ·rw [digB_int] at h
      unfold portOk
      rw [not_all (p := digB) (i := i) (by omega) (by simpa using h)]
      rfl
     ·simp only [Bool.and_eq_true, beq_iff_eq] at h
      have e0 : i = 0 := by omega
      subst e0
      unfold portOk
      have : s.headD 0 = 48 := by
       have h2 : (at_ s ((0 : Nat) : Int)).toNat = 48 := by omega
       have h3 : at_ s ((0 : Nat) : Int) = 48 := UInt8.toNat_inj.1 h2
       cases s with
       | nil => simp at hc12
       | cons a b => exact h3
      rw [this]
      simp
    ·simp only [decide_eq_true_eq] at h
     have e5 : i = 5 := by omega
     have hd0 := hok 0 (by omega) (by omega)
     unfold portOk
     rw [decide_eq_false (show ¬ val s ≤ 65535 from fun hh => by have := val_six s (by omega) hd0 (h0 (by omega)); omega)]
     simp
   refine ⟨_, rfl, ?_, hw.symm⟩
   rw [if_neg (by rw [Bool.not_eq_true]; exact hbad)]
  ·
   have hc34 := hb34; try simp only [Gk.cs0] at hc34
   refine WC.skip ?_
   have hbyte := (at_ s (i : Int)).toNat_lt
   have hnb : ¬ (((decide (((at_ s (i : Int)).toNat : Int) < 48) || decide (57 < ((at_ s (i : Int)).toNat : Int))) || ((i : Int) == 0) && (((at_ s (i : Int)).toNat : Int) == 48)) || decide (4 < (i : Int))) = true := by rw [hb34]; decide
   have hdig : digB (at_ s (i : Int)) = true := by
    cases hd : digB (at_ s (i : Int)) with
    | true => rfl
    | false => exact absurd (by rw [digB_int, hd]; rfl) hnb
   have hrg : 48 ≤ (at_ s (i : Int)).toNat ∧ (at_ s (i : Int)).toNat ≤ 57 := by
    have := hdig
    simp only [digB, Bool.and_eq_true, decide_eq_true_eq, UInt8.le_iff_toNat_le] at this
    have e1 : (48 : UInt8).toNat = 48 := rfl
    have e2 : (57 : UInt8).toNat = 57 := rfl
    rw [e1, e2] at this; exact this
   have hi4 : i ≤ 4 := by
    rcases Nat.lt_or_ge 4 i with h | h
    ·exact absurd (by rw [decide_eq_true (show 4 < (i : Int) by omega), Bool.or_true]) hnb
    ·exact h
   have hh0 : i = 0 → (at_ s (i : Int)).toNat ≠ 48 := fun e h => absurd (by
    rw [show ((i : Int) == 0) = true by simp [e], show (((at_ s (i : Int)).toNat : Int) == 48) = true by simp [h]]; simp) hnb
   have hv4 := val_small s i hi4 hok
   refine WC.region ?_
   refine WL.val (.move (.of rfl)) rfl ?_
   refine WL.val (.mul (.of rfl) (.of rfl) ⟨by omega, by omega⟩) rfl ?_
   refine WL.val (.move (.of rfl)) rfl ?_
   refine WL.val (.subx (.of rfl) (.of rfl) (by rw [IntKind.wrap_u8]; omega)) rfl ?_
   refine WL.val (.cvi (.of rfl) Tryz.underlying5 Tryz.underlying3 (by rw [IntKind.wrap_i64]; omega)) rfl ?_
   refine WL.val (.add (.of rfl) (.of rfl) ⟨by omega, by omega⟩) rfl ?_
   refine WL.val (.assign (.of rfl)) rfl ?_
   refine WL.nil ?_
   refine WC.region ?_
   refine WL.val (.add (.of rfl) (.of rfl) ⟨by omega, by omega⟩) rfl ?_
   refine WL.val (.move (.of rfl)) rfl ?_
   refine WL.nil ?_
   refine ⟨i + 1, ⟨rfl, rfl, ?_, rfl, rfl, trivial⟩, ⟨by omega, by omega, fun j hj hjl => ?_, fun _ => ?_, hw⟩, by omega⟩
   ·rw [val_take s i (by omega)]
    show some _ = some _
    congr 3
    omega
   ·rcases Nat.lt_or_ge j i with h1 | h1
    ·exact hok j h1 hjl
    ·have e : j = i := by omega
     rw [e]; exact hdig
   ·rcases Nat.eq_zero_or_pos i with e | e
    ·subst e
     intro h
     exact hh0 rfl (by show (at_ s ((0 : Nat) : Int)).toNat = 48; rw [show ((0 : Nat) : Int) = 0 from rfl, h]; rfl)
    ·exact h0 e
 ·
  have hc12 := hb12; try simp only [Gk.cs0] at hc12
  refine WC.exit ?_
  refine WC.seq ?_
  refine WC.seq ?_
  refine WC.region ?_
  refine WL.val (.move (.of rfl)) rfl ?_
  refine WL.val (.lss (.of rfl) (.of rfl)) rfl ?_
  refine WL.val (.move (.of rfl)) rfl ?_
  refine WL.gval rfl rfl (fun hg1 => (.move (.of rfl))) rfl ?_
  refine WL.gval rfl rfl (fun hg1 => (.gtr (.gd hg1 rfl) (.of rfl))) rfl ?_
  refine WL.val (.por (.of rfl) (.of rfl) (.of rfl)) rfl ?_
  refine WL.nil ?_
  refine WC.cond rfl (fun hb47 => ?_) (fun hb47 => ?_)
  ·
   have hc47 := hb47; try simp only [Gk.cs0] at hc47
   refine WC.seq ?_
   refine WC.region ?_
   refine WL.val (.assign (.of rfl)) rfl ?_
   refine WL.val (.assign (.of rfl)) rfl ?_
   refine WL.nil ?_
   refine WC.ret ?_
   refine ret2 Tryz.results72 rfl rfl ?_
   have hlen : s.length = i := by omega
   rw [← hlen, List.take_length] at hb47
   have hbad : portOk s = false := by
    unfold portOk
    rcases Bool.or_eq_true_iff.1 hb47 with h | h
    ·simp only [decide_eq_true_eq] at h
     rw [decide_eq_false (show ¬ 1 ≤ val s by omega)]; simp
    ·simp only [decide_eq_true_eq] at h
     rw [decide_eq_false (show ¬ val s ≤ 65535 by omega)]; simp
   refine ⟨_, rfl, ?_, hw.symm⟩
   rw [if_neg (by rw [Bool.not_eq_true]; exact hbad)]
  ·
   have hc47 := hb47; try simp only [Gk.cs0] at hc47
   refine WC.skip ?_
   refine WC.seq ?_
   refine WC.seq ?_
   refine WC.region ?_
   refine WL.val (.move (.of rfl)) rfl ?_
   refine WL.val (.move (.of rfl)) rfl ?_
   refine WL.call Tryz.func86 rfl (evs_cons (.of rfl) evs_nil) rfl (own_any sch _) ?_
   rintro _ w ⟨rfl, hw1⟩
   rw [hw] at hw1
   refine WL.val (.eql (.of rfl) (.of rfl)) rfl ?_
   refine WL.nil ?_
   refine WC.cond rfl (fun hb51 => ?_) (fun hb51 => ?_)
   ·
    have hc51 := hb51; try simp only [Gk.cs0] at hc51
    refine WC.region ?_
    refine WL.val (.assign (.of rfl)) rfl ?_
    refine WL.nil ?_
    refine WC.seq ?_
    refine WC.region ?_
    refine WL.val (.move (.of rfl)) rfl ?_
    refine WL.val (.assign (.of rfl)) rfl ?_
    refine WL.val (.assign (.of rfl)) rfl ?_
    refine WL.nil ?_
    refine WC.ret ?_
    refine ret2 Tryz.results72 rfl rfl ?_
    have hlen : s.length = i := by omega
    have hb47' := hb47
    rw [← hlen, List.take_length] at hb47'
    have hgood : portOk s = true := by
     unfold portOk
     obtain ⟨h1, h2⟩ := Bool.or_eq_false_iff.1 hb47'
     simp only [decide_eq_false_iff_not] at h1 h2
     have hne : s ≠ [] := fun e => by rw [e] at h1; simp [val] at h1
     have hp : 0 < s.length := List.length_pos_iff.2 hne
     rw [all_of hok (by omega), decide_eq_true (show 1 ≤ val s by omega), decide_eq_true (show val s ≤ 65535 by omega)]
     have := h0 (by omega)
     have e : s.headD 0 = at_ s 0 := by cases s with | nil => exact absurd rfl hne | cons a b => rfl
     rw [e]
     simp [this]
    refine ⟨_, rfl, ?_, hw1⟩
    rw [if_pos hgood, portV]
    have hb51' := hb51
    rw [← hlen, List.take_length] at hb51'
    rw [if_pos (by simp only [beq_iff_eq] at hb51'; omega)]; rfl
   ·
    have hc51 := hb51; try simp only [Gk.cs0] at hc51
    refine WC.skip ?_
    refine WC.seq ?_
    refine WC.region ?_
    refine WL.val (.move (.of rfl)) rfl ?_
    refine WL.val (.assign (.of rfl)) rfl ?_
    refine WL.val (.assign (.of rfl)) rfl ?_
    refine WL.nil ?_
    refine WC.ret ?_
    refine ret2 Tryz.results72 rfl rfl ?_
    have hlen : s.length = i := by omega
    have hb47' := hb47
    rw [← hlen, List.take_length] at hb47'
    have hgood : portOk s = true := by
     unfold portOk
     obtain ⟨h1, h2⟩ := Bool.or_eq_false_iff.1 hb47'
     simp only [decide_eq_false_iff_not] at h1 h2
     have hne : s ≠ [] := fun e => by rw [e] at h1; simp [val] at h1
     have hp : 0 < s.length := List.length_pos_iff.2 hne
     rw [all_of hok (by omega), decide_eq_true (show 1 ≤ val s by omega), decide_eq_true (show val s ≤ 65535 by omega)]
     have := h0 (by omega)
     have e : s.headD 0 = at_ s 0 := by cases s with | nil => exact absurd rfl hne | cons a b => rfl
     rw [e]
     simp [this]
    refine ⟨_, rfl, ?_, hw1⟩
    rw [if_pos hgood, portV]
    have hb51' := hb51
    rw [← hlen, List.take_length] at hb51'
    rw [if_neg (by simp only [beq_eq_false_iff_ne] at hb51'; omega), ← hlen, List.take_length]
end Go.Proofs.YtchgkcbloeoopaaGreatDoor
namespace Ul
open Pc Gk
set_option linter.unusedVariables false
set_option linter.unusedSimpArgs false
def partU (s : List UInt8) : Option (List UInt8) := if s.all standB then norm s else none
def spl : List UInt8 → List (List UInt8)
 | [] => [[]]
 | c :: r => if c = 47 then [] :: spl r else match spl r with
  | [] => [[c]]
  | h :: t => (c :: h) :: t
theorem spl_ne (s : List UInt8) : spl s ≠ [] := by
 cases s with
 | nil => simp [spl]
 | cons c r =>
  simp only [spl]
  split
  ·simp
  ·split <;> simp
theorem spl_none : ∀ (s : List UInt8), (∀ x ∈ s, x ≠ 47) → spl s = [s]
 | [], _ => rfl
 | c :: r, h => by
  rw [spl, if_neg (h c (by simp)), spl_none r (fun x hx => h x (by simp [hx]))]
theorem spl_hit : ∀ (a b : List UInt8), (∀ x ∈ a, x ≠ 47) → spl (a ++ 47 :: b) = a :: spl b
 | [], b, _ => by show spl (47 :: b) = _; rw [spl, if_pos rfl]
 | c :: r, b, h => by
  show spl (c :: (r ++ 47 :: b)) = _
  rw [spl, if_neg (h c (by simp)), spl_hit r b (fun x hx => h x (by simp [hx]))]
theorem split_at {s : List UInt8} {i : Nat} (h : s[i]? = some 47) (hno : ∀ k, k < i → s[k]? ≠ some 47) : spl s = s.take i :: spl (s.drop (i + 1)) := by
 have hi : i < s.length := (List.getElem?_eq_some_iff.1 h).1
 have e : s = s.take i ++ 47 :: s.drop (i + 1) := by
  conv => lhs; rw [← List.take_append_drop i s]
  rw [List.drop_eq_getElem_cons hi, (List.getElem?_eq_some_iff.1 h).2]
 conv => lhs; rw [e]
 refine spl_hit _ _ fun x hx ex => ?_
 obtain ⟨k, hk⟩ := List.mem_iff_getElem?.1 hx
 rw [List.getElem?_take] at hk
 split at hk
 ·rename_i hki
  exact hno k hki (by rw [hk, ex])
 ·cases hk
theorem splitK_spl : ∀ (n : Nat) (s : List UInt8), s.length ≤ n → Go.Lib.splitK [47] 0 (Go.Lib.count s [47]) s = spl s := by
 intro n
 induction n with
 | zero =>
  intro s h
  have : s = [] := List.eq_nil_of_length_eq_zero (by omega)
  subst this
  rfl
 | succ n ih =>
  intro s h
  have hge := Go.Lib.indexByte_ge s 47
  by_cases e : Go.Lib.indexByte s 47 = -1
  ·have hi : Go.Lib.index s [47] = -1 := by rw [Go.Lib.index_one]; exact e
   rw [Go.Lib.count_miss hi]
   refine (spl_none s fun x hx ex => ?_).symm
   obtain ⟨k, hk⟩ := List.mem_iff_getElem?.1 hx
   exact Go.Lib.indexByte_none e k (by rw [hk, ex])
  ·obtain ⟨i, hk⟩ : ∃ k : Nat, Go.Lib.indexByte s 47 = k := ⟨(Go.Lib.indexByte s 47).toNat, by omega⟩
   have hi : Go.Lib.index s [47] = i := by rw [Go.Lib.index_one]; exact hk
   obtain ⟨h1, h2⟩ := Go.Lib.indexByte_some hk
   have hlt : i < s.length := (List.getElem?_eq_some_iff.1 h1).1
   rw [Go.Lib.count_hit (by simp) hi, Nat.add_comm 1, Go.Lib.splitK, hi, if_neg (by simp), split_at h1 h2]
   show s.take ((i : Int).toNat + 0) :: Go.Lib.splitK [47] 0 (Go.Lib.count (s.drop (i + 1)) [47]) (s.drop ((i : Int).toNat + 1)) = _
   rw [Int.toNat_natCast, Nat.add_zero, ih (s.drop (i + 1)) (by rw [List.length_drop]; omega)]
theorem spl_len : ∀ (n : Nat) (s : List UInt8), s.length ≤ n → (spl s).length = Go.Lib.count s [47] + 1 := by
 intro n
 induction n with
 | zero =>
  intro s h
  have : s = [] := List.eq_nil_of_length_eq_zero (by omega)
  subst this
  rfl
 | succ n ih =>
  intro s h
  have hge := Go.Lib.indexByte_ge s 47
  by_cases e : Go.Lib.indexByte s 47 = -1
  ·have hi : Go.Lib.index s [47] = -1 := by rw [Go.Lib.index_one]; exact e
   rw [Go.Lib.count_miss hi, spl_none s fun x hx ex => ?_]
   ·rfl
   ·obtain ⟨k, hk⟩ := List.mem_iff_getElem?.1 hx
    exact Go.Lib.indexByte_none e k (by rw [hk, ex])
  ·obtain ⟨i, hk⟩ : ∃ k : Nat, Go.Lib.indexByte s 47 = k := ⟨(Go.Lib.indexByte s 47).toNat, by omega⟩
   have hi : Go.Lib.index s [47] = i := by rw [Go.Lib.index_one]; exact hk
   obtain ⟨h1, h2⟩ := Go.Lib.indexByte_some hk
   have hlt : i < s.length := (List.getElem?_eq_some_iff.1 h1).1
   rw [Go.Lib.count_hit (by simp) hi, split_at h1 h2, List.length_cons, ih (s.drop (i + 1)) (by rw [List.length_drop]; omega)]
   show _ = 1 + Go.Lib.count (s.drop (i + 1)) [47] + 1
   omega
def keep (k : List (List UInt8)) (x : List UInt8) : List (List UInt8) := if x = [46] then k else if x = [46, 46] then k.dropLast else k ++ [x]
theorem keep_same {k : List (List UInt8)} {x : List UInt8} (h : x = [46] ∨ x = [46, 46]) (h2 : x = [46, 46] → k = []) : keep k x = k := by
 unfold keep
 by_cases e1 : x = [46]
 ·rw [if_pos e1]
 ·have e2 := h.resolve_left e1
  rw [if_neg e1, if_pos e2, h2 e2]; rfl
def slashed (k : List (List UInt8)) : List UInt8 := (k.map (47 :: ·)).flatten
def isDot (x : List UInt8) : Bool := x == [46] || x == [46, 46]
def dots : List UInt8 → List UInt8
 | [] => []
 | c :: r => if c = 47 then slashed ((spl r).foldl keep []) ++ (if isDot ((spl r).getLastD []) || ((spl r).foldl keep []).length == 0 then [47] else []) else c :: r
theorem dots_nil (p : List UInt8) : (dots p == []) = (p == []) := by
 cases p with
 | nil => rfl
 | cons c r =>
  rw [show ((c :: r : List UInt8) == []) = false from rfl]
  rw [dots]
  split
  ·cases hk : (spl r).foldl keep [] with
   | nil => simp [slashed]
   | cons a b => simp [slashed]
  ·rfl
theorem slashed_app (k : List (List UInt8)) (x : List UInt8) : slashed (k ++ [x]) = slashed k ++ 47 :: x := by simp [slashed]
def tot (k : List (List UInt8)) : Nat := (k.map (fun x => x.length + 1)).sum
theorem slashed_len (k : List (List UInt8)) : (slashed k).length = tot k := by
 induction k with
 | nil => rfl
 | cons a b ih =>
  rw [tot, List.map_cons, List.sum_cons, slashed, List.map_cons, List.flatten_cons, List.length_append, List.length_cons]
  show _ + (slashed b).length = _
  rw [ih]; rfl
theorem spl_tot : ∀ (s : List UInt8), tot (spl s) = s.length + 1
 | [] => rfl
 | c :: r => by
  have ih := spl_tot r
  simp only [spl]
  split
  ·simp only [tot, List.map_cons, List.sum_cons] at ih ⊢
   simp only [List.length_nil, List.length_cons]
   omega
  ·split
   ·rename_i h; exact absurd h (spl_ne r)
   ·rename_i h
    rw [h] at ih
    simp only [tot, List.map_cons, List.sum_cons, List.length_cons] at ih ⊢
    omega
theorem len_tot (k : List (List UInt8)) : k.length ≤ tot k := by
 induction k with
 | nil => exact Nat.le_refl _
 | cons a b ih =>
  simp only [tot, List.map_cons, List.sum_cons, List.length_cons] at ih ⊢
  omega
theorem tot_app (a b : List (List UInt8)) : tot (a ++ b) = tot a + tot b := by simp [tot]
theorem tot_keep (k : List (List UInt8)) (x : List UInt8) : tot (keep k x) ≤ tot k + (x.length + 1) := by
 unfold keep
 split
 ·omega
 ·split
  ·rcases List.eq_nil_or_concat k with e | ⟨a, b, e⟩
   ·subst e; simp [tot]
   ·subst e
    rw [List.concat_eq_append, List.dropLast_concat, tot_app]
    omega
  ·rw [tot_app]; simp [tot]
theorem tot_fold (l : List (List UInt8)) : ∀ k, tot (l.foldl keep k) ≤ tot k + tot l := by
 induction l with
 | nil => intro k; simp [tot]
 | cons a b ih =>
  intro k
  have h1 := ih (keep k a)
  have h2 := tot_keep k a
  rw [List.foldl_cons]
  have : tot (a :: b) = a.length + 1 + tot b := by simp [tot]
  omega
def schemeOf (s : List UInt8) : Option (List UInt8 × List UInt8) :=
 if low (s.take 7) = [104, 116, 116, 112, 58, 47, 47] then some (http, s.drop 7)
 else if low (s.take 8) = [104, 116, 116, 112, 115, 58, 47, 47] then some (https, s.drop 8) else none
structure U where
 sch : List UInt8
 host : List UInt8
 port : Nat
 path : List UInt8
 query : List UInt8
 ask : Bool
def U0 : U := ⟨[], [], 0, [], [], false⟩
def uc (u : U) : List Go.Value := [S u.sch, S u.host, I64 (u.port : Nat), S u.path, S u.query, .bool u.ask]
def tailU (sch host : List UInt8) (port : Nat) (r : List UInt8) : U × Nat :=
 match partU (upto [63] r) with
 | none => (U0, 15)
 | some p => match partU ((from_ [63] r).drop 1) with
  | none => (U0, 15)
  | some q => (⟨sch, host, port, if p = [] then [47] else dots p, q, !(from_ [63] r).isEmpty⟩, 0)
def hostOf (r : List UInt8) : List UInt8 := low (upto [47, 63, 35, 58] r)
def behind (sch host : List UInt8) (r : List UInt8) : U × Nat :=
 if r.take 1 = [58] then
  if portOk (upto [47, 63, 35] (r.drop 1)) then tailU sch host (portV (upto [47, 63, 35] (r.drop 1)) sch) (from_ [47, 63, 35] (r.drop 1)) else (U0, 14)
 else tailU sch host 0 r
def pU (s : List UInt8) : U × Nat :=
 if 2000 < s.length then (U0, 2) else match schemeOf s with
 | none => (U0, 12)
 | some (sch, r) => if hostOk (hostOf r) then behind sch (hostOf r) (from_ [47, 63, 35, 58] r) else (U0, 13)
def origin (u : U) : List UInt8 := u.sch ++ [58, 47, 47] ++ u.host ++ (if u.port = 0 then [] else 58 :: Go.Lib.decDigits u.port)
def strU (u : U) : List UInt8 := origin u ++ u.path ++ (if u.ask then 63 :: u.query else [])
def nU (s : List UInt8) : List UInt8 × Nat := if (pU s).2 = 0 then (strU (pU s).1, 0) else ([], (pU s).2)
theorem lo_sign {c : UInt8} (h : lo c = 58 ∨ lo c = 47) : c = lo c := by
 have := all_bytes (p := fun c => !(lo c == 58 || lo c == 47) || c == lo c) (by decide +kernel) c
 simp only [Bool.or_eq_true, Bool.not_eq_true', Bool.or_eq_false_iff, beq_eq_false_iff_ne, beq_iff_eq] at this
 rcases this with h1 | h1
 ·rcases h with h | h
  ·exact absurd h h1.1
  ·exact absurd h h1.2
 ·exact h1
theorem low_drop (s : List UInt8) (k : Nat) : low (s.drop k) = (low s).drop k := by simp [low]
theorem low_take (s : List UInt8) (k : Nat) : low (s.take k) = (low s).take k := by simp [low]
theorem low_sign : ∀ (s : List UInt8), low s = [58, 47, 47] → s = [58, 47, 47]
 | [], h => by simp [low] at h
 | [_], h => by simp [low] at h
 | [_, _], h => by simp [low] at h
 | [a, b, c], h => by
  simp only [low, List.map_cons, List.map_nil, List.cons.injEq, and_true] at h
  obtain ⟨h1, h2, h3⟩ := h
  rw [lo_sign (.inl h1), h1, lo_sign (.inr h2), h2, lo_sign (.inr h3), h3]
 | _ :: _ :: _ :: _ :: _, h => by simp [low] at h
abbrev SIGN : List UInt8 := [58, 47, 47]
theorem occ_of {s : List UInt8} {i : Nat} (h : (s.drop i).take 3 = SIGN) : Go.Lib.occAt s SIGN i = true := by
 unfold Go.Lib.occAt
 rw [List.isPrefixOf_iff_prefix]
 rw [← h]
 exact List.take_prefix _ _
theorem of_occ {s : List UInt8} {i : Nat} (h : Go.Lib.occAt s SIGN i = true) : (s.drop i).take 3 = SIGN := by
 unfold Go.Lib.occAt at h
 rw [List.isPrefixOf_iff_prefix] at h
 obtain ⟨t, e⟩ := h
 rw [← e]; rfl
theorem sign_at {s : List UInt8} {k : Nat} {h : List UInt8} (hk : h.length = k) (hl : low (s.take (k + 3)) = h ++ SIGN) (hh : h.all (· != 58) = true) : Go.Lib.index s SIGN = k ∧ low (s.take k) = h := by
 have e1 : low (s.take k) = h := by
  have := congrArg (List.take k) hl
  rw [← low_take, List.take_take, Nat.min_eq_left (by omega), List.take_append_of_le_length (by omega), List.take_of_length_le (l := h) (by omega)] at this
  exact this
 have e2 : (s.drop k).take 3 = SIGN := by
  apply low_sign
  have := congrArg (List.drop k) hl
  rw [← low_drop, List.drop_take, show k + 3 - k = 3 by omega, List.drop_append_of_le_length (by omega), List.drop_of_length_le (l := h) (by omega)] at this
  exact this
 have hlen : k ≤ s.length := by
  have := congrArg List.length e1
  rw [low_len, List.length_take, hk] at this
  omega
 refine ⟨Go.Lib.index_first hlen (occ_of e2) (fun j hj => ?_), e1⟩
 cases ho : Go.Lib.occAt s SIGN j with
 | false => rfl
 | true =>
  have h3 := of_occ ho
  have h0 : s[j]? = some 58 := by
   have := congrArg (fun l => l[0]?) h3
   simpa [List.getElem?_take, List.getElem?_drop] using this
  have h4 : h[j]? = some 58 := by
   rw [← e1, low, List.getElem?_map, List.getElem?_take, if_pos hj, h0]; rfl
  have := List.all_eq_true.1 hh 58 (List.mem_of_getElem? h4)
  simp at this
theorem scheme_cut (s : List UInt8) : schemeOf s = (let c := Go.Lib.cut s SIGN; if c.2.2 = true ∧ (low c.1 = http ∨ low c.1 = https) then some (low c.1, c.2.1) else none) := by
 have none_of : ∀ (h : List UInt8) (k : Nat), h.length = k → Go.Lib.index s SIGN = (k : Nat) → low (s.take k) = h → low (s.take (k + 3)) = h ++ SIGN := by
  intro h k hk hi e
  have ho : Go.Lib.occAt s SIGN k = true := by
   rcases Go.Lib.index_spec s SIGN with ⟨h1, _⟩ | ⟨j, h1, _, h2, _⟩
   ·omega
   ·have : j = k := by omega
    subst this; exact h2
  have h3 := of_occ ho
  rw [List.take_add, low, List.map_append, h3]
  show low (s.take k) ++ _ = _
  rw [e]; rfl
 simp only [schemeOf]
 split
 ·rename_i h
  obtain ⟨hi, e⟩ := sign_at (s := s) (k := 4) (h := http) rfl h (by decide)
  have hc : Go.Lib.cut s SIGN = (s.take 4, s.drop 7, true) := by
   unfold Go.Lib.cut
   rw [hi, if_pos (by decide)]; rfl
  rw [hc]
  simp only
  rw [if_pos ⟨trivial, .inl e⟩, e]
 ·rename_i hn
  split
  ·rename_i h
   obtain ⟨hi, e⟩ := sign_at (s := s) (k := 5) (h := https) rfl h (by decide)
   have hc : Go.Lib.cut s SIGN = (s.take 5, s.drop 8, true) := by
    unfold Go.Lib.cut
    rw [hi, if_pos (by decide)]; rfl
   rw [hc]
   simp only
   rw [if_pos ⟨trivial, .inr e⟩, e]
  ·rename_i hn2
   refine (if_neg ?_).symm
   rintro ⟨hc, ho⟩
   unfold Go.Lib.cut at hc ho
   split at hc
   ·rename_i hi
    rw [if_pos hi] at ho
    obtain ⟨k, hk⟩ : ∃ k : Nat, Go.Lib.index s SIGN = k := ⟨(Go.Lib.index s SIGN).toNat, by omega⟩
    rw [hk, Int.toNat_natCast] at ho
    simp only at ho
    have hkl : k ≤ s.length := by
     have := Go.Lib.index_le s SIGN
     omega
    have hlen : (low (s.take k)).length = k := by rw [low_len, List.length_take]; omega
    rcases ho with ho | ho
    ·have k4 : k = 4 := by rw [← hlen, ho]; rfl
     subst k4
     exact hn (none_of http 4 rfl hk ho)
    ·have k5 : k = 5 := by rw [← hlen, ho]; rfl
     subst k5
     exact hn2 (none_of https 5 rfl hk ho)
   ·cases hc
theorem cut_one (s : List UInt8) (c : UInt8) : Go.Lib.cut s [c] = (upto [c] s, (from_ [c] s).drop 1, !(from_ [c] s).isEmpty) := by
 have hge := Go.Lib.indexByte_ge s c
 have key : Go.Lib.indexAny s [c] = Go.Lib.indexByte s c := by
  clear hge
  induction s with
  | nil => rfl
  | cons b l ih =>
   rw [Go.Lib.indexAny, Go.Lib.indexByte, ih]
   have : ([c].contains b) = (b == c) := by rw [List.contains_cons]; simp
   rw [this]
 unfold Go.Lib.cut
 rw [Go.Lib.index_one]
 by_cases e : Go.Lib.indexByte s c = -1
 ·rw [e, if_neg (by decide)]
  obtain ⟨h1, h2⟩ := cut_none (s := s) (ats := [c]) (by rw [key]; exact e)
  rw [h1, h2]; rfl
 ·obtain ⟨k, hk⟩ : ∃ k : Nat, Go.Lib.indexByte s c = k := ⟨(Go.Lib.indexByte s c).toNat, by omega⟩
  obtain ⟨h1, h2, h3⟩ := cut_hit (s := s) (ats := [c]) (i := k) (by rw [key]; exact hk)
  rw [hk, if_pos (by omega), h1, h2, Int.toNat_natCast, List.drop_drop]
  have : (s.drop k).isEmpty = false := by
   cases hd : s.drop k with
   | nil =>
    have := congrArg List.length hd
    rw [List.length_drop, List.length_nil] at this
    omega
   | cons a b => rfl
  rw [this]
  rfl
theorem dots_len (p : List UInt8) : (dots p).length ≤ p.length + 1 := by
 cases p with
 | nil => simp [dots]
 | cons c r =>
  rw [dots]
  split
  ·have h1 := tot_fold (spl r) []
   rw [spl_tot, show tot [] = 0 from rfl] at h1
   rw [List.length_append, slashed_len, List.length_cons]
   have : (if (isDot ((spl r).getLastD []) || ((spl r).foldl keep []).length == 0) = true then [47] else ([] : List UInt8)).length ≤ 1 := by split <;> simp
   omega
  ·simp
theorem upto_le (a s : List UInt8) : (upto a s).length ≤ s.length := by
 have := congrArg List.length (upto_from a s)
 rw [List.length_append] at this; omega
theorem from_le (a s : List UInt8) : (from_ a s).length ≤ s.length := by
 have := congrArg List.length (upto_from a s)
 rw [List.length_append] at this; omega
theorem part_le {s t : List UInt8} (h : partU s = some t) : t.length ≤ s.length := by
 unfold partU at h
 split at h
 ·exact norm_len s t h
 ·cases h
def SmallU (u : U) : Prop := u.sch.length ≤ 1000000 ∧ u.host.length ≤ 1000000 ∧ u.port ≤ 65535 ∧ u.path.length ≤ 10000000 ∧ u.query.length ≤ 10000000
theorem small0 : SmallU U0 := ⟨by decide, by decide, by decide, by decide, by decide⟩
theorem small_tail (sch host : List UInt8) (port : Nat) (r : List UInt8) (h1 : sch.length ≤ 1000000) (h2 : host.length ≤ 1000000) (h3 : port ≤ 65535) (h4 : r.length ≤ 100000) : SmallU (tailU sch host port r).1 := by
 unfold tailU
 split
 ·exact small0
 ·rename_i p hp
  split
  ·exact small0
  ·rename_i q hq
   have a1 := part_le hp
   have a2 := part_le hq
   have a3 := upto_le [63] r
   have a4 := from_le [63] r
   have a5 := dots_len p
   rw [List.length_drop] at a2
   refine ⟨h1, h2, h3, ?_, by show q.length ≤ _; omega⟩
   show (if p = [] then [47] else dots p).length ≤ _
   split
   ·simp
   ·omega
theorem port_le {s sch : List UInt8} (hp : portOk s = true) : portV s sch ≤ 65535 := by
 unfold portV
 split
 ·decide
 ·unfold portOk at hp
  simp only [Bool.and_eq_true, decide_eq_true_eq] at hp
  exact hp.2
theorem small_pU (s : List UInt8) : SmallU (pU s).1 := by
 unfold pU
 split
 ·exact small0
 ·split
  ·exact small0
  ·rename_i sch r hs
   split
   ·have hr : r.length ≤ 2000 ∧ sch.length ≤ 5 := by
     unfold schemeOf at hs
     split at hs
     ·injection hs with hs; injection hs with e1 e2; subst e1; subst e2; rw [List.length_drop]; exact ⟨by omega, by decide⟩
     ·split at hs
      ·injection hs with hs; injection hs with e1 e2; subst e1; subst e2; rw [List.length_drop]; exact ⟨by omega, by decide⟩
      ·cases hs
    have hh : (hostOf r).length ≤ 1000000 := by unfold hostOf; rw [low_len]; have := upto_le [47, 63, 35, 58] r; omega
    have a3 := from_le [47, 63, 35, 58] r
    unfold behind
    split
    ·split
     ·rename_i hp
      refine small_tail _ _ _ _ (by omega) hh (port_le hp) ?_
      have := from_le [47, 63, 35] ((from_ [47, 63, 35, 58] r).drop 1)
      rw [List.length_drop] at this
      omega
     ·exact small0
    ·exact small_tail _ _ _ _ (by omega) hh (by decide) (by omega)
   ·exact small0
theorem upto_take (a s : List UInt8) : s.take (upto a s).length = upto a s := by
 have h := List.take_left (l₁ := upto a s) (l₂ := from_ a s)
 rw [upto_from] at h; exact h
theorem from_drop (a s : List UInt8) : s.drop (upto a s).length = from_ a s := by
 have h := List.drop_left (l₁ := upto a s) (l₂ := from_ a s)
 rw [upto_from] at h; exact h
theorem upto_from_len (a s : List UInt8) : (upto a s).length + (from_ a s).length = s.length := by
 have := congrArg List.length (upto_from a s)
 rw [List.length_append] at this; omega
theorem low_is {s X : List UInt8} {n : Nat} (hX : X.length = n) : (decide ((n : Int) ≤ (s.length : Int)) && (low (s.take n) == X)) = true ↔ low (s.take n) = X := by
 constructor
 ·intro h
  simp only [Bool.and_eq_true, beq_iff_eq] at h
  exact h.2
 ·intro h
  have := congrArg List.length h
  rw [low_len, List.length_take, hX] at this
  simp only [Bool.and_eq_true, beq_iff_eq, decide_eq_true_eq]
  exact ⟨by omega, h⟩
theorem not_both {s : List UInt8} (h1 : low (s.take 7) = [104, 116, 116, 112, 58, 47, 47]) (h2 : low (s.take 8) = [104, 116, 116, 112, 115, 58, 47, 47]) : False := by
 have := congrArg (List.take 7) h2
 rw [← low_take, List.take_take, show min 7 8 = 7 from rfl, h1] at this
 simp at this
theorem hostB_ref (d : UInt8) : (((((decide (((lo d).toNat : Int) < 97) || decide (122 < ((lo d).toNat : Int))) && (decide (((lo d).toNat : Int) < 48) || decide (57 < ((lo d).toNat : Int)))) && (((lo d).toNat : Int) != 45)) && (((lo d).toNat : Int) != 46))) = !hostB (lo d) :=
 eq_of_beq (all_bytes (p := fun d => (((((decide (((lo d).toNat : Int) < 97) || decide (122 < ((lo d).toNat : Int))) && (decide (((lo d).toNat : Int) < 48) || decide (57 < ((lo d).toNat : Int)))) && (((lo d).toNat : Int) != 45)) && (((lo d).toNat : Int) != 46))) == !hostB (lo d)) (by decide +kernel) d)
theorem at_low (s : List UInt8) (i : Nat) (h : i < s.length) : at_ (low s) (i : Int) = lo (at_ s (i : Int)) := by
 rw [at_, at_, Int.toNat_natCast, low, List.getD_eq_getElem?_getD, List.getElem?_map, at_some h, List.getD_eq_getElem?_getD, at_some h]
 rfl
theorem digB_range {c : UInt8} (h : digB c = true) : 48 ≤ c.toNat ∧ c.toNat ≤ 57 := by
 simp only [digB, Bool.and_eq_true, decide_eq_true_eq, UInt8.le_iff_toNat_le] at h
 have e1 : (48 : UInt8).toNat = 48 := rfl
 have e2 : (57 : UInt8).toNat = 57 := rfl
 rw [e1, e2] at h; exact h
end Ul
namespace Go.Proofs.YtchgkcbloeoopaaGreatDoor
open Gk Pc Ul
set_option linter.unusedVariables false
set_option linter.unusedSimpArgs false
theorem Should_any (n : Int) (w : World) :
  Calls Tryz.prog 96 [I64 n].toArray w (Ret fun v w' => v = .bool (decide (8 < n)) ∧ w = w') := by
 refine calls Tryz.func96 rfl Tryz.ntmps96 rfl ?_
 refine WC.seq ?_
 refine WC.region ?_
 refine WL.val (.assign (.of rfl)) rfl ?_
 refine WL.nil ?_
 refine WC.seq ?_
 refine WC.region ?_
 refine WL.val (.move (.of rfl)) rfl ?_
 refine WL.val (.gtr (.of rfl) (.of rfl)) rfl ?_
 refine WL.val (.assign (.of rfl)) rfl ?_
 refine WL.nil ?_
 refine WC.ret ?_
 refine ret1 Tryz.results96 rfl ?_
 exact ⟨_, rfl, rfl, rfl⟩
theorem ValidRune_any (r : Int) (w : World) : Calls Tryz.prog 110 [.int .i32 r].toArray w (Ret fun v w' => v = .bool (Go.Lib.validRune r) ∧ w = w') :=
 (Tryz.utf8_ValidRune r w).mono fun e w' he => by
  obtain ⟨rfl, rfl⟩ := he
  exact ⟨_, rfl, rfl, rfl⟩
theorem IndexRune_hi (cs : List UInt8) (hca : Asc cs) (hl : cs.length ≤ 1000) (r : Int) (h0 : 128 ≤ r) (h1 : r ≤ 1114111) (B w : World) (I : Im) (As : List Assn) (hS : Sat B w I As) :
  Calls Tryz.prog 95 [S cs, .int .i32 r].toArray w (Ret fun v w' => v = I64 (-1) ∧ Sat B w' I As) := by
 refine calls Tryz.func95 rfl Tryz.ntmps95 rfl ?_
 refine WC.seq ?_
 refine WC.region ?_
 refine WL.val (.assign (.of rfl)) rfl ?_
 refine WL.nil ?_
 refine WC.block ?_
 refine WC.seq ?_
 refine WC.region ?_
 refine WL.val (.move (.of rfl)) rfl ?_
 refine WL.val (.leq (.of rfl) (.of rfl)) rfl ?_
 refine WL.val (.move (.of rfl)) rfl ?_
 refine WL.gval rfl rfl (fun hg1 => (.move (.of rfl))) rfl ?_
 refine WL.gval rfl rfl (fun hg1 => (.lss (.gd hg1 rfl) (.of rfl))) rfl ?_
 refine WL.val (.pand (.of rfl) (.of rfl) (.of rfl)) rfl ?_
 refine WL.val (.assign (.of rfl)) rfl ?_
 refine WL.nil ?_
 refine WC.cond rfl (fun hb160 => by exfalso; simp only [Gk.cs0] at hb160; omega) (fun hb160 => ?_)
 have hc160 := hb160; try simp only [Gk.cs0] at hc160
 refine WC.seq ?_
 refine WC.region ?_
 refine WL.val (.move (.of rfl)) rfl ?_
 refine WL.val (.eql (.of rfl) (.of rfl)) rfl ?_
 refine WL.val (.assign (.of rfl)) rfl ?_
 refine WL.nil ?_
 refine WC.cond rfl (fun hb171 => ?_) (fun hb171 => ?_)
 ·
  have hc171 := hb171; try simp only [Gk.cs0] at hc171
  refine WC.seq ?_
  refine WC.seq ?_
  refine WC.region ?_
  refine WL.val (.move (.of rfl)) rfl ?_
  refine WL.range (s := cs) hS (.of rfl) Tryz.underlying9 rfl ?_
  clear hS; intro b175 w hS
  refine WL.nil ?_
  refine WC.block ?_
  refine WC.loop (σ := Nat) (fun i => [(175, ptr b175 0)]) (fun i w => i ≤ cs.length ∧ Sat B w I (own b175 (.stringIter ⟨cs.toArray⟩ i) :: As)) (fun i => cs.length - i) 0 ⟨rfl, trivial⟩ ⟨Nat.zero_le _, hS⟩ ?_
  rintro i w ⟨hi, hS⟩
  change WC _ _ _ _ [(175, ptr b175 0)] w
  refine WC.seq ?_
  refine WC.region ?_
  refine WL.next (i := i) hS (k := 0) rfl (.of rfl) rfl (fun hn => ?_) (fun hn => ?_)
  ·
   refine WL.val (.extract (.of rfl) rfl) rfl ?_
   refine WL.nil ?_
   refine WC.seq ?_
   refine WC.condF (rfl) ?_
   refine WC.exit ?_
   refine WC.seq ?_
   refine WC.region ?_
   refine WL.val (.assign (.of rfl)) rfl ?_
   refine WL.nil ?_
   refine WC.ret ?_
   refine ret1 Tryz.results95 rfl ?_
   exact ⟨_, rfl, rfl, hS.drop (k := 0) rfl⟩
  ·
   rw [decode_lo cs i hn (hca i _ (at_some hn))]
   have hb7 := hca i _ (at_some hn)
   clear hS; intro w hS; try dsimp only [List.set] at hS
   refine WL.val (.extract (.of rfl) rfl) rfl ?_
   refine WL.nil ?_
   refine WC.seq ?_
   refine WC.condT (rfl) ?_
   refine WC.skip ?_
   refine WC.block ?_
   refine WC.seq ?_
   refine WC.region ?_
   refine WL.val (.extract (.of rfl) rfl) rfl ?_
   refine WL.val (.extract (.of rfl) rfl) rfl ?_
   refine WL.val (.assign (.of rfl)) rfl ?_
   refine WL.val (.assign (.of rfl)) rfl ?_
   refine WL.nil ?_
   refine WC.seq ?_
   refine WC.region ?_
   refine WL.val (.move (.of rfl)) rfl ?_
   refine WL.val (.eql (.of rfl) (.of rfl)) rfl ?_
   refine WL.nil ?_
   refine WC.cond rfl (fun hb181 => by exfalso; simp only [Gk.cs0] at hb181; omega) (fun hb181 => ?_)
   have hc181 := hb181; try simp only [Gk.cs0] at hc181
   refine WC.skip ?_
   exact ⟨i + 1, ⟨rfl, trivial⟩, ⟨by omega, hS⟩, by omega⟩
 ·
  have hc171 := hb171; try simp only [Gk.cs0] at hc171
  refine WC.seq ?_
  refine WC.region ?_
  refine WL.val (.move (.of rfl)) rfl ?_
  refine WL.call Tryz.func110 rfl (evs_cons (.of rfl) evs_nil) rfl (ValidRune_any r _) ?_
  rintro _ _ ⟨rfl, rfl⟩
  refine WL.val (.not (.of rfl)) rfl ?_
  refine WL.val (.assign (.of rfl)) rfl ?_
  refine WL.nil ?_
  refine WC.cond rfl (fun hb183 => ?_) (fun hb183 => ?_)
  ·
   have hc183 := hb183; try simp only [Gk.cs0] at hc183
   refine WC.seq ?_
   refine WC.region ?_
   refine WL.val (.assign (.of rfl)) rfl ?_
   refine WL.nil ?_
   refine WC.ret ?_
   refine ret1 Tryz.results95 rfl ?_
   exact ⟨_, rfl, rfl, hS⟩
  ·
   have hc183 := hb183; try simp only [Gk.cs0] at hc183
   refine WC.scope ?_
   refine WC.seq ?_
   have hvv : Go.Utf8.valid r = true := valid_eq r (by simpa using hb183)
   obtain ⟨he2, he4, heb⟩ := enc_facts r hvv h0
   refine WC.region ?_
   refine WL.val (.move (.of rfl)) rfl ?_
   refine WL.val (.runeStr (.of rfl) (by rw [Tryz.underlying21]; rfl) Tryz.underlying9) rfl ?_
   refine WL.val (.assign (.of rfl)) rfl ?_
   refine WL.nil ?_
   refine WC.seq ?_
   refine WC.region ?_
   refine WL.val (.move (.of rfl)) rfl ?_
   refine WL.val (.len (.of rfl) Tryz.underlying9) rfl ?_
   refine WL.val (.sub (.of rfl) (.of rfl) ⟨by omega, by omega⟩) rfl ?_
   refine WL.val (.assign (.of rfl)) rfl ?_
   refine WL.nil ?_
   refine WC.seq ?_
   refine WC.region ?_
   refine WL.val (.move (.of rfl)) rfl ?_
   refine WL.val (.assign (.of rfl)) rfl ?_
   refine WL.nil ?_
   refine WC.seq ?_
   refine WC.region ?_
   refine WL.val (.assign (.of rfl)) rfl ?_
   refine WL.nil ?_
   refine WC.seq ?_
   refine WC.block ?_
   refine WC.loop (σ := Unit) (fun _ => [(0, S cs), (7, S (encR r)), (8, I64 ((((encR r).length : Nat) : Int) - 1)), (9, I64 ((((encR r).length : Nat) : Int) - 1))]) (fun _ w => Sat B w I As) (fun _ => 0) () ⟨rfl, rfl, rfl, rfl, trivial⟩ hS ?_
   rintro _ w hS
   change WC _ _ _ _ [(0, S cs), (7, S (encR r)), (8, I64 ((((encR r).length : Nat) : Int) - 1)), (9, I64 ((((encR r).length : Nat) : Int) - 1))] w
   refine WC.seq ?_
   refine WC.seq ?_
   refine WC.region ?_
   refine WL.val (.move (.of rfl)) rfl ?_
   refine WL.val (.move (.of rfl)) rfl ?_
   refine WL.val (.len (.of rfl) Tryz.underlying9) rfl ?_
   refine WL.val (.lss (.of rfl) (.of rfl)) rfl ?_
   refine WL.nil ?_
   refine WC.cond rfl (fun hb26 => ?_) (fun hb26 => ?_)
   ·
    have hc26 := hb26; try simp only [Gk.cs0] at hc26
    refine WC.skip ?_
    refine WC.block ?_
    refine WC.scope ?_
    refine WC.seq ?_
    refine WC.seq ?_
    have hA : (at_ cs ((((encR r).length : Nat) : Int) - 1)).toNat < 128 := hca ((((encR r).length : Nat) : Int) - 1).toNat _ (by rw [at_, List.getD_eq_getElem?_getD, List.getElem?_eq_getElem (by omega)]; rfl)
    refine WC.quiet (by kernel_rfl) (by kernel_rfl) hS ?_
    refine WQ.val (fun w hS => (.move (.of rfl))) rfl ?_
    refine WQ.val (fun w hS => (.move (.of rfl))) rfl ?_
    refine WQ.val (fun w hS => (.index (.of rfl) (.of rfl) (by omega) (by omega) Tryz.underlying9)) rfl ?_
    refine WQ.val (fun w hS => (.move (.of rfl))) rfl ?_
    refine WQ.val (fun w hS => (.move (.of rfl))) rfl ?_
    refine WQ.val (fun w hS => (.index (.of rfl) (.of rfl) (by omega) (by omega) Tryz.underlying9)) rfl ?_
    refine WQ.val (fun w hS => (.neq (.of rfl) (.of rfl))) rfl ?_
    refine WQ.nil ?_
    clear hS; intro w hS
    refine WC.cond rfl (fun hb33 => ?_) (fun hb33 => by exfalso; simp only [Gk.cs0] at hb33; omega)
    have hc33 := hb33; try simp only [Gk.cs0] at hc33
    refine WC.seq ?_
    refine WC.quiet (by kernel_rfl) (by kernel_rfl) hS ?_
    refine WQ.val (fun w hS => (.move (.of rfl))) rfl ?_
    refine WQ.val (fun w hS => (.move (.of rfl))) rfl ?_
    refine WQ.val (fun w hS => (.add (.of rfl) (.of rfl) ⟨by omega, by omega⟩)) rfl ?_
    refine WQ.val (fun w hS => (.subFrom (.of rfl) (.of rfl) (by omega) (by omega) Tryz.underlying9)) rfl ?_
    refine WQ.val (fun w hS => (.move (.of rfl))) rfl ?_
    refine WQ.val (fun w hS => (.move (.of rfl))) rfl ?_
    refine WQ.val (fun w hS => (.index (.of rfl) (.of rfl) (by omega) (by omega) Tryz.underlying9)) rfl ?_
    refine WQ.call Tryz.func99 rfl (evs_cons (.of rfl) (evs_cons (.of rfl) evs_nil)) rfl (fun w hS => quiet_of (IndexByte_any _ (at_ (encR r) ((((encR r).length : Nat) : Int) - 1)) w) hS) ?_
    refine WQ.val (fun w hS => (.assign (.of rfl))) rfl ?_
    refine WQ.nil ?_
    clear hS; intro w hS
    refine WC.seq ?_
    refine WC.seq ?_
    have hN := indexByte_hi (l := cs.drop ((((encR r).length : Nat) : Int) - 1 + 1).toNat) (c := at_ (encR r) ((((encR r).length : Nat) : Int) - 1)) heb (fun j b h => by rw [List.getElem?_drop] at h; exact hca _ _ h)
    refine WC.region ?_
    refine WL.val (.move (.of rfl)) rfl ?_
    refine WL.val (.lss (.of rfl) (.of rfl)) rfl ?_
    refine WL.nil ?_
    refine WC.cond rfl (fun hb43 => ?_) (fun hb43 => by exfalso; simp only [Gk.cs0] at hb43; omega)
    have hc43 := hb43; try simp only [Gk.cs0] at hc43
    refine WC.seq ?_
    refine WC.region ?_
    refine WL.val (.assign (.of rfl)) rfl ?_
    refine WL.nil ?_
    refine WC.ret ?_
    refine ret1 Tryz.results95 rfl ?_
    exact ⟨_, rfl, rfl, hS⟩
   ·
    have hc26 := hb26; try simp only [Gk.cs0] at hc26
    refine WC.exit ?_
    refine WC.seq ?_
    refine WC.seq ?_
    refine WC.region ?_
    refine WL.val (.assign (.of rfl)) rfl ?_
    refine WL.nil ?_
    refine WC.ret ?_
    refine ret1 Tryz.results95 rfl ?_
    exact ⟨_, rfl, rfl, hS⟩
theorem IndexRune_any (cs : List UInt8) (hca : Asc cs) (hl : cs.length ≤ 1000) (r : Nat) (h1 : r ≤ 1114111) (B w : World) (I : Im) (As : List Assn) (hS : Sat B w I As) : Calls Tryz.prog 95 [S cs, .int .i32 r].toArray w (Ret fun v w' => v = I64 (if r < 128 then Go.Lib.indexByte cs (UInt8.ofNat r) else -1) ∧ Sat B w' I As) := by
 rcases Nat.lt_or_ge r 128 with h | h
 ·refine (Tryz.strings_IndexRune_ascii ⟨cs.toArray⟩ r w (by omega) (by omega)).mono fun e w' he => ?_
  obtain ⟨rfl, rfl⟩ := he
  refine ⟨_, rfl, ?_, hS⟩
  rw [if_pos h]
  simp
 ·rw [if_neg (by omega)]
  exact IndexRune_hi cs hca hl r (by omega) (by omega) B w I As hS
theorem IndexAny_few (s cs : List UInt8) (hca : Asc cs) (hl : cs.length ≤ 1000) (h2 : 2 ≤ cs.length) (h8 : s.length ≤ 8) (hne : (cs == []) = false) (B w : World) (I : Im) (As : List Assn) (hS : Sat B w I As) :
  Calls Tryz.prog 84 [S s, S cs].toArray w (Ret fun v w' => v = I64 (Go.Lib.indexAny s cs) ∧ Sat B w' I As) := by
 refine calls Tryz.func84 rfl Tryz.ntmps84 rfl ?_
 refine WC.seq ?_
 refine WC.region ?_
 refine WL.val (.assign (.of rfl)) rfl ?_
 refine WL.nil ?_
 refine WC.seq ?_
 refine WC.seq ?_
 refine WC.region ?_
 refine WL.val (.move (.of rfl)) rfl ?_
 refine WL.val (.eqs (.of rfl) (.of rfl)) rfl ?_
 refine WL.nil ?_
 refine WC.condF (by show some (Value.bool (cs == [])) = _; rw [hne]) ?_
 refine WC.skip ?_
 refine WC.seq ?_
 refine WC.seq ?_
 refine WC.region ?_
 refine WL.val (.move (.of rfl)) rfl ?_
 refine WL.val (.len (.of rfl) Tryz.underlying9) rfl ?_
 refine WL.val (.eql (.of rfl) (.of rfl)) rfl ?_
 refine WL.nil ?_
 refine WC.cond rfl (fun hb15 => by exfalso; simp only [Gk.cs0] at hb15; omega) (fun hb15 => ?_)
 have hc15 := hb15; try simp only [Gk.cs0] at hc15
 refine WC.skip ?_
 refine WC.seq ?_
 refine WC.seq ?_
 refine WC.region ?_
 refine WL.val (.move (.of rfl)) rfl ?_
 refine WL.val (.len (.of rfl) Tryz.underlying9) rfl ?_
 refine WL.call Tryz.func96 rfl (evs_cons (.of rfl) evs_nil) rfl (Should_any _ _) ?_
 rintro _ _ ⟨rfl, rfl⟩
 refine WL.nil ?_
 refine WC.cond rfl (fun hb26 => by exfalso; simp only [Gk.cs0] at hb26; omega) (fun hb26 => ?_)
 have hc26 := hb26; try simp only [Gk.cs0] at hc26
 refine WC.skip ?_
 refine WC.seq ?_
 refine WC.seq ?_
 refine WC.region ?_
 refine WL.val (.move (.of rfl)) rfl ?_
 refine WL.range (s := s) hS (.of rfl) Tryz.underlying9 rfl ?_
 clear hS; intro b45 w hS
 refine WL.nil ?_
 refine WC.block ?_
 refine WC.loop (σ := Nat) (fun i => [(1, S cs), (45, ptr b45 0)]) (fun i w => i ≤ s.length ∧ Go.Lib.NoAny s cs i ∧ Sat B w I (own b45 (.stringIter ⟨s.toArray⟩ i) :: As)) (fun i => s.length - i) 0 ⟨rfl, rfl, trivial⟩ ⟨Nat.zero_le _, Go.Lib.NoAny.zero _ _, hS⟩ ?_
 rintro i w ⟨hi, hno, hS⟩
 change WC _ _ _ _ [(1, S cs), (45, ptr b45 0)] w
 refine WC.seq ?_
 refine WC.region ?_
 refine WL.next (i := i) hS (k := 0) rfl (.of rfl) rfl (fun hn => ?_) (fun hn => ?_)
 ·
  refine WL.val (.extract (.of rfl) rfl) rfl ?_
  refine WL.nil ?_
  refine WC.seq ?_
  refine WC.condF (rfl) ?_
  refine WC.exit ?_
  refine WC.seq ?_
  refine WC.region ?_
  refine WL.val (.assign (.of rfl)) rfl ?_
  refine WL.nil ?_
  refine WC.ret ?_
  refine ret1 Tryz.results84 rfl ?_
  exact ⟨_, rfl, by rw [Go.Lib.indexAny_none (by rw [show s.length = i by omega]; exact hno)], hS.drop (k := 0) rfl⟩
 ·
  clear hS; intro w hS; try dsimp only [List.set] at hS
  refine WL.val (.extract (.of rfl) rfl) rfl ?_
  refine WL.nil ?_
  refine WC.seq ?_
  refine WC.condT (rfl) ?_
  refine WC.skip ?_
  refine WC.block ?_
  refine WC.seq ?_
  have hdm : (Go.Utf8.decode ⟨s.toArray⟩ i).1 ≤ 1114111 := by
   rcases Nat.lt_or_ge (at_ s (i : Int)).toNat 128 with h | h
   ·rw [decode_lo s i hn h]; dsimp only; omega
   ·exact (decode_hi s i hn h).2.1
  obtain ⟨hyes, hnot⟩ := any_step hca hn hno
  unfold rv at hyes hnot
  refine WC.region ?_
  refine WL.val (.extract (.of rfl) rfl) rfl ?_
  refine WL.val (.extract (.of rfl) rfl) rfl ?_
  refine WL.val (.assign (.of rfl)) rfl ?_
  refine WL.val (.assign (.of rfl)) rfl ?_
  refine WL.nil ?_
  refine WC.seq ?_
  refine WC.region ?_
  refine WL.val (.move (.of rfl)) rfl ?_
  refine WL.val (.move (.of rfl)) rfl ?_
  refine WL.call Tryz.func95 rfl (evs_cons (.of rfl) (evs_cons (.of rfl) evs_nil)) rfl (IndexRune_any cs hca hl (Go.Utf8.decode ⟨s.toArray⟩ i).1 hdm B _ I _ hS) ?_
  clear hS
  rintro _ w ⟨rfl, hS⟩
  refine WL.val (.geq (.of rfl) (.of rfl)) rfl ?_
  refine WL.nil ?_
  refine WC.cond rfl (fun hb53 => ?_) (fun hb53 => ?_)
  ·
   have hc53 := hb53; try simp only [Gk.cs0] at hc53
   refine WC.seq ?_
   refine WC.region ?_
   refine WL.val (.move (.of rfl)) rfl ?_
   refine WL.val (.assign (.of rfl)) rfl ?_
   refine WL.nil ?_
   refine WC.ret ?_
   refine ret1 Tryz.results84 rfl ?_
   refine ⟨_, rfl, ?_, hS.drop (k := 0) rfl⟩
   rw [hyes (by omega)]
   rfl
  ·
   have hc53 := hb53; try simp only [Gk.cs0] at hc53
   refine WC.skip ?_
   obtain ⟨hn1, hn2, hn3⟩ := hnot (by omega)
   exact ⟨_, ⟨rfl, rfl, trivial⟩, ⟨hn2, hn1, hS⟩, by omega⟩
theorem IndexAny_any (s cs : List UInt8) (hs : s.length ≤ 1000000) (hca : Asc cs) (hl : cs.length ≤ 1000) (h2 : 2 ≤ cs.length) (B w : World) (I : Im) (As : List Assn) (hS : Sat B w I As) : Calls Tryz.prog 84 [S s, S cs].toArray w (Ret fun v w' => v = I64 (Go.Lib.indexAny s cs) ∧ Sat B w' I As) := by
 rcases Nat.lt_or_ge 8 s.length with h | h
 ·refine (Tryz.strings_IndexAny_long (zero_of_info (n := 256) (by kernel_rfl)).1 ⟨s.toArray⟩ ⟨cs.toArray⟩ w h2 h (by show s.length < _; omega) (by show cs.length < _; omega) hca).mono fun e w' he => ?_
  obtain ⟨rfl, rfl⟩ := he
  exact ⟨_, rfl, rfl, (((hS.alloc _).alloc _).drop (k := 0) rfl).drop (k := 0) rfl⟩
 ·exact IndexAny_few s cs hca hl h2 h (by cases cs with | nil => simp at h2 | cons a b => rfl) B w I As hS
theorem cut_any (s cs : List UInt8) (hs : s.length ≤ 1000000) (hca : Asc cs) (hl : cs.length ≤ 1000) (h2 : 2 ≤ cs.length) (B w : World) (I : Im) (As : List Assn) (hS : Sat B w I As) :
  Calls Tryz.prog 70 [S s, S cs].toArray w (Ret fun v w' => v = .tuple #[S (upto cs s), S (from_ cs s)] ∧ Sat B w' I As) := by
 refine calls Tryz.func70 rfl Tryz.ntmps70 rfl ?_
 refine WC.seq ?_
 refine WC.region ?_
 refine WL.val (.assign (.of rfl)) rfl ?_
 refine WL.val (.assign (.of rfl)) rfl ?_
 refine WL.nil ?_
 refine WC.seq ?_
 refine WC.seq ?_
 refine WC.region ?_
 refine WL.val (.move (.of rfl)) rfl ?_
 refine WL.val (.move (.of rfl)) rfl ?_
 refine WL.call Tryz.func84 rfl (evs_cons (.of rfl) (evs_cons (.of rfl) evs_nil)) rfl (IndexAny_any s cs hs hca hl h2 B _ I As hS) ?_
 clear hS
 rintro _ w ⟨rfl, hS⟩
 refine WL.val (.assign (.of rfl)) rfl ?_
 refine WL.nil ?_
 refine WC.seq ?_
 have hge := Go.Lib.indexAny_ge cs s
 refine WC.region ?_
 refine WL.val (.move (.of rfl)) rfl ?_
 refine WL.val (.geq (.of rfl) (.of rfl)) rfl ?_
 refine WL.nil ?_
 refine WC.cond rfl (fun hb11 => ?_) (fun hb11 => ?_)
 ·
  have hc11 := hb11; try simp only [Gk.cs0] at hc11
  refine WC.seq ?_
  obtain ⟨k, hk⟩ : ∃ k : Nat, Go.Lib.indexAny s cs = k := ⟨(Go.Lib.indexAny s cs).toNat, by omega⟩
  obtain ⟨hc1, hc2, hc3⟩ := cut_hit hk
  rw [hk]
  refine WC.quiet (by kernel_rfl) (by kernel_rfl) hS ?_
  refine WQ.val (fun w hS => (.move (.of rfl))) rfl ?_
  refine WQ.val (fun w hS => (.move (.of rfl))) rfl ?_
  refine WQ.val (fun w hS => (.subTo (.of rfl) (.of rfl) (by omega) (by omega) Tryz.underlying9)) rfl ?_
  refine WQ.val (fun w hS => (.move (.of rfl))) rfl ?_
  refine WQ.val (fun w hS => (.move (.of rfl))) rfl ?_
  refine WQ.val (fun w hS => (.subFrom (.of rfl) (.of rfl) (by omega) (by omega) Tryz.underlying9)) rfl ?_
  refine WQ.val (fun w hS => (.assign (.of rfl))) rfl ?_
  refine WQ.val (fun w hS => (.assign (.of rfl))) rfl ?_
  refine WQ.nil ?_
  clear hS; intro w hS
  refine WC.ret ?_
  refine ret2 Tryz.results70 rfl rfl ?_
  exact ⟨_, rfl, by rw [hc1, hc2, Int.toNat_natCast], hS⟩
 ·
  have hc11 := hb11; try simp only [Gk.cs0] at hc11
  refine WC.skip ?_
  refine WC.seq ?_
  refine WC.region ?_
  refine WL.val (.move (.of rfl)) rfl ?_
  refine WL.val (.assign (.of rfl)) rfl ?_
  refine WL.val (.assign (.of rfl)) rfl ?_
  refine WL.nil ?_
  refine WC.ret ?_
  refine ret2 Tryz.results70 rfl rfl ?_
  obtain ⟨hc1, hc2⟩ := cut_none (s := s) (ats := cs) (by omega)
  exact ⟨_, rfl, by rw [hc1, hc2], hS⟩
theorem pNormal_e (s : List UInt8) (hl : s.length ≤ 1000000) (B w : World) (I : Im) (hd : DigAt I) (As : List Assn) (hS : Sat B w I As) : Calls Tryz.prog 88 [S s].toArray w (Ret fun v w' => ∃ n1 e1, v = .tuple #[S n1, I64 e1] ∧ (match norm s with | none => n1 = [] ∧ e1 = 11 | some t => n1 = t ∧ e1 = 0) ∧ Sat B w' I As) :=
 (pNormal_any s hl B w I hd As hS).mono fun e w' he => by
  obtain ⟨v, rfl, rfl, h⟩ := he
  cases norm s with
  | none => exact ⟨_, rfl, _, _, rfl, ⟨rfl, rfl⟩, h⟩
  | some t => exact ⟨_, rfl, _, _, rfl, ⟨rfl, rfl⟩, h⟩
theorem normal_any (s : List UInt8) (hl : s.length ≤ 1000000) (B w : World) (I : Im) (hd : DigAt I) (As : List Assn) (hS : Sat B w I As) :
  Calls Tryz.prog 73 [S s].toArray w (Ret fun v w' => v = (match partU s with | none => .tuple #[S [], I64 15] | some t => .tuple #[S t, I64 0]) ∧ Sat B w' I As) := by
 refine calls Tryz.func73 rfl Tryz.ntmps73 rfl ?_
 refine WC.seq ?_
 refine WC.region ?_
 refine WL.val (.assign (.of rfl)) rfl ?_
 refine WL.val (.assign (.of rfl)) rfl ?_
 refine WL.nil ?_
 refine WC.seq ?_
 refine WC.seq ?_
 refine WC.region ?_
 refine WL.val (.move (.of rfl)) rfl ?_
 refine WL.call Tryz.func87 rfl (evs_cons (.of rfl) evs_nil) rfl (stands_any s hl _) ?_
 rintro _ _ ⟨rfl, rfl⟩
 refine WL.val (.not (.of rfl)) rfl ?_
 refine WL.nil ?_
 refine WC.cond rfl (fun hb8 => ?_) (fun hb8 => ?_)
 ·
  have hc8 := hb8; try simp only [Gk.cs0] at hc8
  refine WC.seq ?_
  refine WC.region ?_
  refine WL.val (.assign (.of rfl)) rfl ?_
  refine WL.val (.assign (.of rfl)) rfl ?_
  refine WL.nil ?_
  refine WC.ret ?_
  refine ret2 Tryz.results73 rfl rfl ?_
  exact ⟨_, rfl, by rw [partU, if_neg (by rw [hc8]; decide)], hS⟩
 ·
  have hc8 := hb8; try simp only [Gk.cs0] at hc8
  refine WC.skip ?_
  refine WC.seq ?_
  refine WC.region ?_
  refine WL.val (.move (.of rfl)) rfl ?_
  refine WL.call Tryz.func88 rfl (evs_cons (.of rfl) evs_nil) rfl (pNormal_e s hl B _ I hd As hS) ?_
  clear hS
  rintro _ w ⟨n1, e1, rfl, hne, hS⟩
  refine WL.val (.move (.of rfl)) rfl ?_
  refine WL.val (.extract (.of rfl) rfl) rfl ?_
  refine WL.val (.extract (.of rfl) rfl) rfl ?_
  refine WL.val (.assign (.of rfl)) rfl ?_
  refine WL.val (.assign (.of rfl)) rfl ?_
  refine WL.nil ?_
  refine WC.seq ?_
  refine WC.seq ?_
  refine WC.region ?_
  refine WL.val (.move (.of rfl)) rfl ?_
  refine WL.val (.neq (.of rfl) (.of rfl)) rfl ?_
  refine WL.nil ?_
  refine WC.cond rfl (fun hb15 => ?_) (fun hb15 => ?_)
  ·
   have hc15 := hb15; try simp only [Gk.cs0] at hc15
   refine WC.seq ?_
   refine WC.region ?_
   refine WL.val (.assign (.of rfl)) rfl ?_
   refine WL.val (.assign (.of rfl)) rfl ?_
   refine WL.nil ?_
   refine WC.ret ?_
   refine ret2 Tryz.results73 rfl rfl ?_
   refine ⟨_, rfl, ?_, hS⟩
   rw [partU, if_pos hc8]
   cases hn : norm s with
   | none => rfl
   | some t => rw [hn] at hne; exact absurd hne.2 hc15
  ·
   have hc15 := hb15; try simp only [Gk.cs0] at hc15
   refine WC.skip ?_
   refine WC.seq ?_
   refine WC.region ?_
   refine WL.val (.move (.of rfl)) rfl ?_
   refine WL.val (.assign (.of rfl)) rfl ?_
   refine WL.val (.assign (.of rfl)) rfl ?_
   refine WL.nil ?_
   refine WC.ret ?_
   refine ret2 Tryz.results73 rfl rfl ?_
   refine ⟨_, rfl, ?_, hS⟩
   rw [partU, if_pos hc8]
   cases hn : norm s with
   | none => rw [hn] at hne; have := hne.2; omega
   | some t => rw [hn] at hne; obtain ⟨rfl, rfl⟩ := hne; rfl
end Go.Proofs.YtchgkcbloeoopaaGreatDoor
