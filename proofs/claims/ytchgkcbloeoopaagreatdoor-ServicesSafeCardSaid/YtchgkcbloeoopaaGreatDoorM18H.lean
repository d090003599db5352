/- Part 8 of what the proof stands on: W18x, GkK, Kn, Uid, W18y. -/
import Derived.Test.YtchgkcbloeoopaaGreatDoorM18G
import Derived.KernelRfl
import Derived.Lib.LaidTab
import Derived.Lib.LaidU8
import Derived.Lay
import Derived.Shelf.Vars
import Derived.HandedShaped
import Derived.MakeChecks
import Derived.Test.YtchgkcbloeoopaaGreatDoorRows
namespace Go.Proofs.YtchgkcbloeoopaaGreatDoor
open Gk Pat
set_option linter.unusedVariables false
set_option linter.unusedSimpArgs false
theorem bld37_8 : Bld Tryz.prog 37 [(0, 1), (1, 1), (2, 1), (3, 1), (4, 1), (5, 1), (6, 1), (7, 1)] [.int .i64 0, .float .f64 0, S [], .bool false, .bool false, .bool false, S [], .slice none 0 0] := bld_of Tryz.underlying37 Tryz.zeroValue37 (fun w => by simp [go_sem])
def AW1 : Sv := ⟨1, 4611686018427387904, [104, 116, 116, 112, 58, 47, 47, 42, 42], false, false, false, [], []⟩
def AW2 : Sv := ⟨2, 9223372036854775808, [104, 116, 116, 112, 58, 47, 47, 97, 47, 42, 42], false, false, false, [], []⟩
abbrev AWU : List UInt8 := [72, 84, 84, 80, 58, 47, 47, 65, 47, 120]
theorem aw_wrong : wrong [AW1, AW2] = (0, 0) := by kernel_rfl
theorem aw_find : findR [AW2, AW1] AWU = (AW2, [104, 116, 116, 112, 58, 47, 47, 97, 47, 120], 0) := by kernel_rfl
theorem aw_ord : Srt.Ord (kx (ords [AW1, AW2])) 2 [1, 0] := ⟨by decide +kernel, by decide +kernel⟩
theorem few_facts {l : List Sv} (h : few l = true) : l.length ≤ 20 ∧ ∀ s ∈ l, s.rel.length ≤ 20 := by
 unfold few at h
 simp only [Bool.and_eq_true, decide_eq_true_eq] at h
 refine ⟨by omega, fun s hs => ?_⟩
 have := List.all_eq_true.1 h.1 s hs
 unfold few1 at this
 simp only [Bool.not_eq_true', Bool.or_eq_false_iff, decide_eq_false_iff_not] at this
 omega
theorem fits_ord {l : List Sv} (h : ∀ s ∈ l, s.fits) : ∀ v ∈ ords l, v < 18446744073709551616 := fun v hv => by
 obtain ⟨s, hs, rfl⟩ := List.mem_map.1 hv
 exact (h s hs).ord
theorem fits_fit {l : List Sv} (h : ∀ s ∈ l, s.fits) (hr : ∀ s ∈ l, s.rel.length ≤ 20) : ∀ s ∈ l, s.urls.length ≤ 9223372036854775807 ∧ s.calls.length ≤ 9223372036854775807 ∧ s.rel.length ≤ 1000000 := fun s hs => by
 have h1 := (h s hs).urls
 have h2 := (h s hs).calls
 have h3 := hr s hs
 unfold maxLen at h1 h2
 exact ⟨by omega, by omega, by omega⟩
theorem wrongGo_none (l : List Sv) : ∀ (r : List Sv) (i : Nat), (wrongGo l i r).1 = 0 → ∀ (j : Nat) t, r[j]? = some t → bad l (i + j) t = 0
 | [], _, _, j, t, h => by simp at h
 | s :: r, i, h, j, t, ht => by
  rw [wrongGo] at h
  split at h
  ·rename_i hb; exact absurd h hb
  ·rename_i hb
   cases j with
   | zero => simp at ht; subst ht; simpa using hb
   | succ j =>
    have := wrongGo_none l r (i + 1) h j t (by simpa using ht)
    rw [show i + (j + 1) = i + 1 + j by omega]; exact this
theorem wrong_zero {l : List Sv} (h : (wrong l).1 = 0) (j : Nat) (t : Sv) (ht : l[j]? = some t) : bad l j t = 0 := by
 have := wrongGo_none l l 0 h j t ht
 rw [Nat.zero_add] at this; exact this
theorem wrong_two {l : List Sv} (h : (wrong l).1 = 0) : (wrong l).2 = 0 := by rw [wrong_none (wrong_zero h)]
theorem bad_zero {l : List Sv} {i : Nat} {s : Sv} (h : bad l i s = 0) : i ≠ 16 ∧ (l.take i).any (fun t => t.id == s.id) = false ∧ (chk s.urls).1 = 0 ∧ (chk s.calls).1 = 0 := by
 unfold bad at h
 split at h
 ·cases h
 ·rename_i h16
  split at h
  ·cases h
  ·split at h
   ·cases h
   ·rename_i h7
    split at h
    ·cases h
    ·rename_i h8
     simp only [Bool.or_eq_true, not_or, bne_iff_ne, ne_eq, Decidable.not_not] at h8
     exact ⟨h16, by simpa using h7, h8.1, h8.2⟩
theorem right_of {l : List Sv} (h : (wrong l).1 = 0) : right l := fun s hs => by
 obtain ⟨j, hj⟩ := List.mem_iff_getElem?.1 hs
 obtain ⟨_, _, h1, h2⟩ := bad_zero (wrong_zero h j s hj)
 exact ⟨cmp_of_chk h1, cmp_of_chk h2⟩
theorem ids_one {l : List Sv} (h : (wrong l).1 = 0) {i j : Nat} {s t : Sv} (hi : l[i]? = some s) (hj : l[j]? = some t) (he : s.id = t.id) : s = t := by
 have key : ∀ (i j : Nat) (s t : Sv), i < j → l[i]? = some s → l[j]? = some t → s.id ≠ t.id := fun i j s t hij hi hj he => by
  have h2 := (bad_zero (wrong_zero h j t hj)).2.1
  rw [List.any_eq_false] at h2
  have := h2 s (List.mem_of_getElem? (i := i) (by rw [List.getElem?_take, if_pos hij]; exact hi))
  simp [he] at this
 rcases Nat.lt_trichotomy i j with h1 | h1 | h1
 ·exact absurd he (key i j s t h1 hi hj)
 ·subst h1; rw [hi] at hj; exact Option.some.inj hj
 ·exact absurd he.symm (key j i t s h1 hj hi)
theorem pick_len {l : List Sv} {D : List Int} (hD : Srt.Ord (kx (ords l)) l.length D) : (pickS l D).length = l.length := by unfold pickS; rw [List.length_map, hD.len]
theorem pick_get {l : List Sv} {D : List Int} (hD : Srt.Ord (kx (ords l)) l.length D) {i : Nat} {u : Sv} (hu : (pickS l D)[i]? = some u) : ∃ d, D[i]? = some d ∧ 0 ≤ d ∧ l[d.toNat]? = some u := by
 unfold pickS at hu
 rw [List.getElem?_map] at hu
 cases hd : D[i]? with
 | none => rw [hd] at hu; cases hu
 | some d =>
  rw [hd, Option.map_some] at hu
  have hdr := Srt.upto_mem.1 (hD.2.mem_iff.1 (List.mem_of_getElem? hd))
  refine ⟨d, rfl, hdr.1, ?_⟩
  rw [List.getD_eq_getElem?_getD, List.getElem?_eq_getElem (show d.toNat < l.length by omega)] at hu
  rw [List.getElem?_eq_getElem (show d.toNat < l.length by omega)]
  exact hu
theorem pick_mem {l : List Sv} {D : List Int} (hD : Srt.Ord (kx (ords l)) l.length D) {s : Sv} : s ∈ pickS l D ↔ s ∈ l := by
 constructor
 ·intro h
  obtain ⟨i, hi⟩ := List.mem_iff_getElem?.1 h
  obtain ⟨d, _, _, h2⟩ := pick_get hD hi
  exact List.mem_of_getElem? h2
 ·intro h
  obtain ⟨i, hi⟩ := List.mem_iff_getElem?.1 h
  have hil := (List.getElem?_eq_some_iff.1 hi).1
  unfold pickS
  refine List.mem_map.2 ⟨(i : Int), hD.2.mem_iff.2 (Srt.upto_mem.2 ⟨by omega, by omega⟩), ?_⟩
  rw [List.getD_eq_getElem?_getD, Int.toNat_natCast, hi]; rfl
theorem find_eq {l : List Sv} {D : List Int} (s : List UInt8) : findS l D s = findR (pickS l D) s := by
 unfold findS findR pickS
 rw [List.find?_map]
 split
 ·rfl
 ·split
  ·rfl
  ·show (match D.find? (fun d => (mtch (l.getD d.toNat z0).urls (Ul.nU s).1).1) with
    | none => (z0, [], 31)
    | some d => (l.getD d.toNat z0, (Ul.nU s).1, 0)) = (match (D.find? ((fun t => (mtch t.urls (Ul.nU s).1).1) ∘ fun d => l.getD d.toNat z0)).map (fun d => l.getD d.toNat z0) with
    | none => (z0, [], 31)
    | some t => (t, (Ul.nU s).1, 0))
   rw [show ((fun t => (mtch t.urls (Ul.nU s).1).1) ∘ fun d => l.getD d.toNat z0) = (fun d : Int => (mtch (l.getD d.toNat z0).urls (Ul.nU s).1).1) from rfl]
   cases D.find? (fun d => (mtch (l.getD d.toNat z0).urls (Ul.nU s).1).1) <;> rfl
theorem find_rel {lo : List Sv} {s : List UInt8} {u : Sv} {n : List UInt8} {e : Nat} (h : findR lo s = (u, n, e)) (hr : ∀ s ∈ lo, s.rel.length ≤ 1000000) : u.rel.length ≤ 140737488355328 := by
 unfold findR at h
 split at h
 ·cases h; exact Nat.zero_le _
 ·split at h
  ·cases h; exact Nat.zero_le _
  ·split at h
   ·cases h; exact Nat.zero_le _
   ·rename_i t ht
    simp only [Prod.mk.injEq] at h
    obtain ⟨rfl, _, _⟩ := h
    have := hr t (List.mem_of_find?_eq_some ht)
    omega
theorem nU_sch {s : List UInt8} (h : (Ul.nU s).2 = 0) : ∃ r, (Ul.nU s).1 = (Ul.pU s).1.sch ++ 58 :: r ∧ ((Ul.pU s).1.sch = Ul.http ∨ (Ul.pU s).1.sch = Ul.https) := by
 obtain ⟨h1, h2⟩ := nU_ok h
 refine ⟨[47, 47] ++ (Ul.pU s).1.host ++ (if (Ul.pU s).1.port = 0 then [] else 58 :: Go.Lib.decDigits (Ul.pU s).1.port) ++ (Ul.pU s).1.path ++ (if (Ul.pU s).1.ask then 63 :: (Ul.pU s).1.query else []), ?_, pU_sch s h1⟩
 rw [h2, Ul.strU, Ul.origin]
 simp
theorem pre_sec {s : List UInt8} (h : (Ul.nU s).2 = 0) : hasPre (Ul.nU s).1 HTTPSC = ((Ul.nU s).1.take 5 == Ul.https) ∧ (hasPre (Ul.nU s).1 HTTPSC = true → (Ul.pU s).1.sch = Ul.https) := by
 obtain ⟨r, h1, h2⟩ := nU_sch h
 rcases h2 with h2 | h2
 ·rw [h1, h2]
  refine ⟨?_, fun h => ?_⟩
  ·have e1 : hasPre (Ul.http ++ 58 :: r) HTTPSC = false := by simp [hasPre, Ul.http, HTTPSC]
   have e2 : ((Ul.http ++ 58 :: r).take 5 == Ul.https) = false := by simp [Ul.http, Ul.https]
   rw [e1, e2]
  ·simp [hasPre, Ul.http, HTTPSC] at h
 ·rw [h1, h2]
  refine ⟨?_, fun _ => rfl⟩
  have e1 : hasPre (Ul.https ++ 58 :: r) HTTPSC = true := by
   simp [hasPre, Ul.https, HTTPSC]
   omega
  have e2 : ((Ul.https ++ 58 :: r).take 5 == Ul.https) = true := by simp [Ul.https]
  rw [e1, e2]
theorem call_eq {l : List Sv} {D : List Int} (hw : (wrong l).1 = 0) (hD : Srt.Ord (kx (ords l)) l.length D) (id : Int) (s : List UInt8) : callS l id s = callR (pickS l D) id s := by
 unfold callS callR
 by_cases h0 : (Ul.nU s).2 = 0
 ·have hp := (pre_sec h0).1
  by_cases hc : (((((Ul.nU s).2 : Int) != 0) || decide (100 < ((Ul.nU s).1.length : Int))) || !((Ul.nU s).1.take 5 == Ul.https)) = true
  ·rw [if_pos hc]
   split
   ·rfl
   ·rw [hp, if_pos (by rw [hc]; rfl)]
  ·rw [if_neg hc]
   rw [Bool.not_eq_true] at hc
   cases hf : (pickS l D).find? (fun t => t.id == id) with
   | none =>
    rw [if_neg]
    rw [Bool.not_eq_true, List.any_eq_false]
    intro t ht
    have := List.find?_eq_none.1 hf t ((pick_mem hD).2 ht)
    simp only [Bool.not_eq_true] at this ⊢
    rw [this]; rfl
   | some u =>
    have hu := (pick_mem hD).1 (List.mem_of_find?_eq_some hf)
    have hid := List.find?_some hf
    simp only [hp, hc, Bool.false_or]
    by_cases hm : (mtch u.calls (Ul.nU s).1).1 = true
    ·rw [if_pos (List.any_eq_true.2 ⟨u, hu, by rw [hm, Bool.and_true]; exact hid⟩), if_neg (by rw [hm]; decide)]
    ·rw [if_neg, if_pos (by rw [Bool.not_eq_true] at hm; rw [hm]; rfl)]
     rw [Bool.not_eq_true, List.any_eq_false]
     intro t ht
     rw [Bool.not_eq_true]
     cases ht2 : (t.id == id) with
     | false => rfl
     | true =>
      obtain ⟨i, hi⟩ := List.mem_iff_getElem?.1 ht
      obtain ⟨j, hj⟩ := List.mem_iff_getElem?.1 hu
      have := ids_one hw hi hj (by rw [eq_of_beq ht2]; exact (eq_of_beq hid).symm)
      subst this
      rw [Bool.true_and]; rw [Bool.not_eq_true] at hm; exact hm
 ·rw [if_pos (by simp; exact .inl (.inl h0))]
  split
  ·rfl
  ·rw [if_pos (by simp; exact .inl (.inl (.inl h0)))]
theorem rows8 {J : Im} {C : List (List Value)} {l : List Sv} (h : RowsOf J C l) : ∀ c ∈ C, c.length = 8 := fun c hc => by
 obtain ⟨i, hi⟩ := List.mem_iff_getElem?.1 hc
 have hil := (List.getElem?_eq_some_iff.1 hi).1
 obtain ⟨c', h1, _, _, rfl, _⟩ := h.2 i _ (List.getElem?_eq_getElem (by rw [← h.1]; exact hil))
 rw [hi] at h1; cases h1
 rfl
set_option maxHeartbeats 400000 in
theorem awake18_any (B w : World) (I : Im) (hK : Known I) (As : List Assn) (hS : Sat B w I As) :
  Calls Tryz.prog 8 [].toArray w (Ret fun v w' => v = .bool true ∧ Sat B w' I As) := by
 refine calls Tryz.func8 rfl Tryz.ntmps8 rfl ?_
 refine WC.seq ?_
 refine WC.region ?_
 refine WL.val (.assign (.of rfl)) rfl ?_
 refine WL.nil ?_
 refine WC.seq ?_
 refine WC.region ?_
 refine WL.val (.build (cs := [_, _, _, _, _, _, _, _]) (parts_cons (.of rfl) (parts_cons (.of rfl) (parts_cons (.of rfl) parts_nil))) bld37_8 rfl) rfl ?_
 refine WL.val (.extern Tryz.func25 (by kernel_rfl) (by kernel_rfl) (by kernel_rfl) (e := Extern.MathFloatBits.float64frombits) (by kernel_rfl) (evs_cons (.of rfl) evs_nil) rfl) rfl ?_
 refine WL.val (.build (cs := [_, _, _, _, _, _, _, _]) (parts_cons (.of rfl) (parts_cons (.of rfl) (parts_cons (.of rfl) parts_nil))) bld37_8 rfl) rfl ?_
 refine WL.buildSlice (cs := [_, _, _, _, _, _, _, _, _, _, _, _, _, _, _, _]) hS (parts_cons (.of rfl) (parts_cons (.of rfl) parts_nil)) Tryz.underlying22 Tryz.sizeOf37 Tryz.zeroValue37 rfl rfl rfl rfl ?_
 clear hS; intro b11 w hS
 obtain ⟨J, hJ, hJb, hT⟩ := hS.freeze (k := 0) rfl; clear hS; have hS := hT; clear hT; try dsimp only [List.eraseIdx] at hS
 have hat : At J (ad b11 0) (svCells AW1 none 0 ++ svCells AW2 none 0) := ⟨rfl, _, _, _, hJb, fun j v h => by simpa [svCells, AW1, AW2] using h⟩
 have hsv : SvsAt J (some (ad b11 0)) [AW1, AW2] := fun i s hs => by
  match i, hs with
  | 0, hs => cases hs; exact ⟨_, none, 0, rfl, at_take (hat.add 0) 8, Nat.le_refl _, RS.nil _ _⟩
  | 1, hs => cases hs; exact ⟨_, none, 0, rfl, at_take (hat.add 8) 8, Nat.le_refl _, RS.nil _ _⟩
  | i + 2, hs => simp at hs
 refine WL.call Tryz.func10 rfl (evs_cons (.of rfl) evs_nil) rfl (New_any (some (ad b11 0)) 2 [AW1, AW2] (by decide) (by decide +kernel) (by decide +kernel) B w J hsv _ hS) ?_
 clear hS
 rintro _ w ⟨J2, hJ2, hS, hcase⟩
 obtain ⟨_, pr, D, rfl, hD, ra, rcc, E, hreg, hrcc, hE⟩ := hcase.resolve_left (fun h => h.1 (by rw [aw_wrong]))
 obtain rfl : D = [1, 0] := hD.unique aw_ord
 refine WL.val (.move (.of rfl)) rfl ?_
 refine WL.val (.extract (.of rfl) rfl) rfl ?_
 refine WL.val (.extract (.of rfl) rfl) rfl ?_
 refine WL.val (.extract (.of rfl) rfl) rfl ?_
 refine WL.val (.assign (.of rfl)) rfl ?_
 refine WL.val (.assign (.of rfl)) rfl ?_
 refine WL.val (.assign (.of rfl)) rfl ?_
 refine WL.nil ?_
 refine WC.seq ?_
 refine WC.seq ?_
 refine WC.region ?_
 refine WL.val (.move (.of rfl)) rfl ?_
 refine WL.val (.eqp (.of rfl) (.of rfl) Tryz.underlying25) rfl ?_
 refine WL.val (.move (.of rfl)) rfl ?_
 refine WL.gval rfl rfl (fun hg1 => (.move (.of rfl))) rfl ?_
 refine WL.gval rfl rfl (fun hg1 => (.neq (.gd hg1 rfl) (.of rfl))) rfl ?_
 refine WL.val (.por (.of rfl) (.of rfl) (.of rfl)) rfl ?_
 refine WL.nil ?_
 refine WC.condF (rfl) ?_
 refine WC.skip ?_
 refine WC.seq ?_
 refine WC.region ?_
 refine WL.val (.move (.of rfl)) rfl ?_
 refine WL.call Tryz.func16 rfl (evs_cons (.of rfl) (evs_cons (.of rfl) evs_nil)) rfl (RegFind_any pr [AW2, AW1] (by decide) (by decide +kernel) AWU (by decide) ra rcc E B _ J2 (hK.mono (Le.trans hJ hJ2)) hreg hE _ hS) ?_
 clear hS
 rintro _ w ⟨J3, u, c, n, e, hJ3, rfl, ⟨ua, uc, rfl, _, _⟩, hf, hS⟩
 rw [aw_find] at hf
 simp only [Prod.mk.injEq] at hf
 obtain ⟨rfl, rfl, rfl⟩ := hf
 unfold svCells AW2
 refine WL.val (.move (.of rfl)) rfl ?_
 refine WL.val (.extract (.of rfl) rfl) rfl ?_
 refine WL.val (.extract (.of rfl) rfl) rfl ?_
 refine WL.val (.extract (.of rfl) rfl) rfl ?_
 refine WL.allocA (cs := [_, _, _, _, _, _, _, _]) hS Tryz.zeroValue37 rfl ?_
 clear hS; intro b4 w hS
 first | refine WL.stA hS (k := 0) rfl (.of rfl) (.of rfl) rfl Tryz.sizeOf37 rfl (by simp) ?_
 clear hS; intro w hS; try dsimp only [List.set] at hS
 try simp only [List.take_zero, List.nil_append, List.append_nil, List.drop_succ_cons, List.drop_zero, List.drop_nil, Nat.zero_add] at hS
 refine WL.val (.assign (.of rfl)) rfl ?_
 refine WL.val (.assign (.of rfl)) rfl ?_
 refine WL.nil ?_
 refine WC.seq ?_
 refine WC.region ?_
 refine WL.val (.move (.of rfl)) rfl ?_
 refine WL.val (.eql (.of rfl) (.of rfl)) rfl ?_
 refine WL.val (.move (.of rfl)) rfl ?_
 refine WL.gval rfl rfl (fun hg1 => (by first | exact .fieldAddr 0 (.of rfl) Tryz.underlying37 rfl rfl Tryz.sizeOf3 rfl | exact .fieldAddrI 0 (.of rfl) Tryz.underlying37 rfl rfl Tryz.sizeOf3 rfl)) rfl ?_
 refine WL.gval rfl rfl (fun hg1 => (by first | exact (.ld (.gd hg1 rfl) hS (k := 0) rfl Tryz.isAgg3 rfl))) rfl ?_
 refine WL.gval rfl rfl (fun hg1 => (.eql (.gd hg1 rfl) (.of rfl))) rfl ?_
 refine WL.val (.pand (.of rfl) (.of rfl) (.of rfl)) rfl ?_
 refine WL.val (.move (.of rfl)) rfl ?_
 refine WL.gval rfl rfl (fun hg1 => (.move (.of rfl))) rfl ?_
 refine WL.gval rfl rfl (fun hg1 => (.eqs (.gd hg1 rfl) (.of rfl))) rfl ?_
 refine WL.val (.pand (.of rfl) (.of rfl) (.of rfl)) rfl ?_
 refine WL.val (.assign (.of rfl)) rfl ?_
 refine WL.nil ?_
 refine WC.ret ?_
 refine ret1 Tryz.results8 rfl ?_
 refine ⟨_, rfl, ?_, (hS.drop (k := 0) rfl).weaken (Le.trans hJ (Le.trans hJ2 hJ3))⟩
 exact congrArg Value.bool (by decide +kernel)
set_option maxHeartbeats 400000 in
theorem ServicesMakes_any (a : Option Addr) (cap : Nat) (L : List (List Value)) (l : List Sv) (hcap : l.length ≤ cap) (hcm : cap ≤ maxLen) (hfits : ∀ s ∈ l, s.fits) (B w : World) (I : Im) (hK : Known I) (hl : SvsIn I a L l) (As : List Assn) (hS : Sat B w I As) :
  Calls Tryz.prog 3 [.slice a l.length cap].toArray w (Ret fun v w' => v = .bool true ∧ ∃ J, Le I J ∧ Sat B w' J As) := by
 refine calls Tryz.func3 rfl Tryz.ntmps3 rfl ?_
 refine WC.seq ?_
 refine WC.region ?_
 refine WL.val (.assign (.of rfl)) rfl ?_
 refine WL.nil ?_
 refine WC.seq ?_
 refine WC.region ?_
 refine WL.call Tryz.func8 rfl evs_nil rfl (awake18_any B _ I hK As hS) ?_
 clear hS
 rintro _ w ⟨rfl, hS⟩
 refine WL.val (.assign (.of rfl)) rfl ?_
 refine WL.nil ?_
 refine WC.seq ?_
 refine WC.region ?_
 refine WL.val (.move (.of rfl)) rfl ?_
 refine WL.call Tryz.func9 rfl (evs_cons (.of rfl) evs_nil) rfl (Few_any a cap l hcap hcm B _ I hl.svs As hS) ?_
 clear hS
 rintro _ w ⟨rfl, hS⟩
 refine WL.val (.assign (.of rfl)) rfl ?_
 refine WL.nil ?_
 refine WC.seq ?_
 refine WC.seq ?_
 refine WC.region ?_
 refine WL.val (.move (.of rfl)) rfl ?_
 refine WL.val (.not (.of rfl)) rfl ?_
 refine WL.nil ?_
 refine WC.cond rfl (fun hb17 => ?_) (fun hb17 => ?_)
 ·
  have hc17 := hb17; try simp only [Gk.cs0] at hc17
  refine WC.seq ?_
  refine WC.region ?_
  refine WL.val (.move (.of rfl)) rfl ?_
  refine WL.val (.assign (.of rfl)) rfl ?_
  refine WL.nil ?_
  refine WC.ret ?_
  refine ret1 Tryz.results3 rfl ?_
  exact ⟨_, rfl, rfl, I, Le.refl _, hS⟩
 ·
  have hc17 := hb17; try simp only [Gk.cs0] at hc17
  refine WC.skip ?_
  refine WC.seq ?_
  have hfew : few l = true := by
   have := hb17
   simpa using this
  obtain ⟨hln, hrel⟩ := few_facts hfew
  have hom := fits_ord hfits
  have hfit := fits_fit hfits hrel
  have hfit2 : ∀ s ∈ l, s.urls.length ≤ 9223372036854775807 ∧ s.calls.length ≤ 9223372036854775807 := fun s hs => ⟨(hfit s hs).1, (hfit s hs).2.1⟩
  refine WC.region ?_
  refine WL.val (.move (.of rfl)) rfl ?_
  refine WL.call Tryz.func10 rfl (evs_cons (.of rfl) evs_nil) rfl (New_any a cap l (by omega) hom hfit B _ I hl.svs As hS) ?_
  clear hS
  rintro _ w ⟨J, hJ, hS, hcase⟩
  replace hl := hl.mono hJ
  replace hK := hK.mono hJ
  rcases hcase with ⟨hne, rfl⟩ | ⟨hw0, pr, D, rfl, hD, ra, rcc, E, hreg, hrcc, hE⟩
  ·
   refine WL.val (.move (.of rfl)) rfl ?_
   refine WL.val (.extract (.of rfl) rfl) rfl ?_
   refine WL.val (.extract (.of rfl) rfl) rfl ?_
   refine WL.val (.extract (.of rfl) rfl) rfl ?_
   refine WL.val (.assign (.of rfl)) rfl ?_
   refine WL.val (.assign (.of rfl)) rfl ?_
   refine WL.val (.assign (.of rfl)) rfl ?_
   refine WL.nil ?_
   refine WC.seq ?_
   refine WC.region ?_
   refine WL.val (.move (.of rfl)) rfl ?_
   refine WL.call Tryz.func11 rfl (evs_cons (.of rfl) evs_nil) rfl (Wrong_any a cap l (by omega) hfit2 B _ J hl.svs As hS) ?_
   clear hS
   rintro _ w ⟨rfl, hS⟩
   refine WL.val (.move (.of rfl)) rfl ?_
   refine WL.val (.extract (.of rfl) rfl) rfl ?_
   refine WL.val (.extract (.of rfl) rfl) rfl ?_
   refine WL.val (.assign (.of rfl)) rfl ?_
   refine WL.val (.assign (.of rfl)) rfl ?_
   refine WL.nil ?_
   refine WC.seq ?_
   refine WC.seq ?_
   refine WC.region ?_
   refine WL.val (.move (.of rfl)) rfl ?_
   refine WL.val (.move (.of rfl)) rfl ?_
   refine WL.val (.neq (.of rfl) (.of rfl)) rfl ?_
   refine WL.val (.move (.of rfl)) rfl ?_
   refine WL.gval rfl rfl (fun hg1 => (.move (.of rfl))) rfl ?_
   refine WL.gval rfl rfl (fun hg1 => (.move (.of rfl))) rfl ?_
   refine WL.gval rfl rfl (fun hg1 => (.neq (.gd hg1 rfl) (.gd hg1 rfl))) rfl ?_
   refine WL.val (.por (.of rfl) (.of rfl) (.of rfl)) rfl ?_
   refine WL.val (.move (.of rfl)) rfl ?_
   refine WL.gval rfl rfl (fun hg1 => (.move (.of rfl))) rfl ?_
   refine WL.gval rfl rfl (fun hg1 => (.eqp (.gd hg1 rfl) (.of rfl) Tryz.underlying25)) rfl ?_
   refine WL.gval rfl rfl (fun hg1 => (.move (.of rfl))) rfl ?_
   refine WL.gval rfl rfl (fun hg1 => (.neq (.gd hg1 rfl) (.of rfl))) rfl ?_
   refine WL.gval rfl rfl (fun hg1 => (.neb (.gd hg1 rfl) (.gd hg1 rfl) Tryz.underlying4)) rfl ?_
   refine WL.val (.por (.of rfl) (.of rfl) (.of rfl)) rfl ?_
   refine WL.nil ?_
   refine WC.cond rfl (fun hb44 => ?_) (fun hb44 => ?_)
   ·
    have hc44 := hb44; try simp only [Gk.cs0] at hc44
    refine WC.seq ?_
    refine WC.region ?_
    refine WL.val (.assign (.of rfl)) rfl ?_
    refine WL.nil ?_
    refine WC.ret ?_
    refine ret1 Tryz.results3 rfl ?_
    exfalso; simp [hne] at hb44
   ·
    have hc44 := hb44; try simp only [Gk.cs0] at hc44
    refine WC.skip ?_
    refine WC.seq ?_
    refine WC.seq ?_
    refine WC.region ?_
    refine WL.val (.move (.of rfl)) rfl ?_
    refine WL.val (.eqp (.of rfl) (.of rfl) Tryz.underlying25) rfl ?_
    refine WL.nil ?_
    refine WC.condT (rfl) ?_
    refine WC.seq ?_
    refine WC.region ?_
    refine WL.val (.move (.of rfl)) rfl ?_
    refine WL.val (.assign (.of rfl)) rfl ?_
    refine WL.nil ?_
    refine WC.ret ?_
    refine ret1 Tryz.results3 rfl ?_
    exact ⟨_, rfl, rfl, J, hJ, hS⟩
  ·
   have hpl := pick_len hD
   have hplo : (pickS l D).length ≤ 100000 := by omega
   have hprl : ∀ s ∈ pickS l D, s.rel.length ≤ 1000000 := fun s hs => (hfit s ((pick_mem hD).1 hs)).2.2
   refine WL.val (.move (.of rfl)) rfl ?_
   refine WL.val (.extract (.of rfl) rfl) rfl ?_
   refine WL.val (.extract (.of rfl) rfl) rfl ?_
   refine WL.val (.extract (.of rfl) rfl) rfl ?_
   refine WL.val (.assign (.of rfl)) rfl ?_
   refine WL.val (.assign (.of rfl)) rfl ?_
   refine WL.val (.assign (.of rfl)) rfl ?_
   refine WL.nil ?_
   refine WC.seq ?_
   refine WC.region ?_
   refine WL.val (.move (.of rfl)) rfl ?_
   refine WL.call Tryz.func11 rfl (evs_cons (.of rfl) evs_nil) rfl (Wrong_any a cap l (by omega) hfit2 B _ J hl.svs As hS) ?_
   clear hS
   rintro _ w ⟨rfl, hS⟩
   refine WL.val (.move (.of rfl)) rfl ?_
   refine WL.val (.extract (.of rfl) rfl) rfl ?_
   refine WL.val (.extract (.of rfl) rfl) rfl ?_
   refine WL.val (.assign (.of rfl)) rfl ?_
   refine WL.val (.assign (.of rfl)) rfl ?_
   refine WL.nil ?_
   refine WC.seq ?_
   refine WC.seq ?_
   refine WC.region ?_
   refine WL.val (.move (.of rfl)) rfl ?_
   refine WL.val (.move (.of rfl)) rfl ?_
   refine WL.val (.neq (.of rfl) (.of rfl)) rfl ?_
   refine WL.val (.move (.of rfl)) rfl ?_
   refine WL.gval rfl rfl (fun hg1 => (.move (.of rfl))) rfl ?_
   refine WL.gval rfl rfl (fun hg1 => (.move (.of rfl))) rfl ?_
   refine WL.gval rfl rfl (fun hg1 => (.neq (.gd hg1 rfl) (.gd hg1 rfl))) rfl ?_
   refine WL.val (.por (.of rfl) (.of rfl) (.of rfl)) rfl ?_
   refine WL.val (.move (.of rfl)) rfl ?_
   refine WL.gval rfl rfl (fun hg1 => (.move (.of rfl))) rfl ?_
   refine WL.gval rfl rfl (fun hg1 => (.eqp (.gd hg1 rfl) (.of rfl) Tryz.underlying25)) rfl ?_
   refine WL.gval rfl rfl (fun hg1 => (.move (.of rfl))) rfl ?_
   refine WL.gval rfl rfl (fun hg1 => (.neq (.gd hg1 rfl) (.of rfl))) rfl ?_
   refine WL.gval rfl rfl (fun hg1 => (.neb (.gd hg1 rfl) (.gd hg1 rfl) Tryz.underlying4)) rfl ?_
   refine WL.val (.por (.of rfl) (.of rfl) (.of rfl)) rfl ?_
   refine WL.nil ?_
   refine WC.cond rfl (fun hb44 => ?_) (fun hb44 => ?_)
   ·
    have hc44 := hb44; try simp only [Gk.cs0] at hc44
    refine WC.seq ?_
    refine WC.region ?_
    refine WL.val (.assign (.of rfl)) rfl ?_
    refine WL.nil ?_
    refine WC.ret ?_
    refine ret1 Tryz.results3 rfl ?_
    exfalso
    have hw1 : (wrong l).2 = 0 := wrong_two hw0
    simp [hw0, hw1] at hb44
   ·
    have hc44 := hb44; try simp only [Gk.cs0] at hc44
    refine WC.skip ?_
    refine WC.seq ?_
    refine WC.seq ?_
    refine WC.region ?_
    refine WL.val (.move (.of rfl)) rfl ?_
    refine WL.val (.eqp (.of rfl) (.of rfl) Tryz.underlying25) rfl ?_
    refine WL.nil ?_
    refine WC.condF (rfl) ?_
    refine WC.skip ?_
    refine WC.seq ?_
    refine WC.region ?_
    refine WL.val (.move (.of rfl)) rfl ?_
    refine WL.call Tryz.func12 rfl (evs_cons (.of rfl) evs_nil) rfl (RegAll_any pr (pickS l D) hplo hprl ra rcc E B _ J hreg hE As hS) ?_
    clear hS
    rintro _ w ⟨J1, C, hJ1, hC, hS⟩
    obtain ⟨xa, xc, rfl, hxc, _⟩ := hS.vecSlice (k := 0) rfl
    obtain ⟨J2, hJ2, hXR, hS2⟩ := hS.freezeVec (k := 0) rfl
    clear hS
    have hS := hS2
    clear hS2
    try dsimp only [List.eraseIdx] at hS
    replace hl := hl.mono (Le.trans hJ1 hJ2)
    replace hC := hC.mono hJ2
    rw [hpl] at hXR ⊢
    refine WL.val (.assign (.of rfl)) rfl ?_
    refine WL.nil ?_
    refine WC.seq ?_
    refine WC.region ?_
    refine WL.val (.move (.of rfl)) rfl ?_
    refine WL.call Tryz.func13 rfl (evs_cons (.of rfl) evs_nil) rfl (All_any a cap L l (by omega) hom B _ J2 hl As hS) ?_
    clear hS
    rintro _ w ⟨J3, D2, hJ3, hD2, hS⟩
    obtain ⟨ya, yc, rfl, hyc, _⟩ := hS.vecSlice (k := 0) rfl
    obtain ⟨J4, hJ4, hYR, hS2⟩ := hS.freezeVec (k := 0) rfl
    clear hS
    have hS := hS2
    clear hS2
    try dsimp only [List.eraseIdx] at hS
    have hDD := (hD2.unique hD).symm
    subst hDD
    have hJ24 := Le.trans hJ3 hJ4
    replace hl := hl.mono hJ24
    replace hC := hC.mono hJ24
    replace hXR := hXR.mono hJ24
    refine WL.val (.assign (.of rfl)) rfl ?_
    refine WL.nil ?_
    refine WC.seq ?_
    refine WC.seq ?_
    refine WC.region ?_
    refine WL.val (.move (.of rfl)) rfl ?_
    refine WL.val (.lenSlice (.of rfl) Tryz.underlying22) rfl ?_
    refine WL.val (.move (.of rfl)) rfl ?_
    refine WL.val (.lenSlice (.of rfl) Tryz.underlying22) rfl ?_
    refine WL.val (.neq (.of rfl) (.of rfl)) rfl ?_
    refine WL.nil ?_
    refine WC.cond rfl (fun hb56 => ?_) (fun hb56 => ?_)
    ·
     have hc56 := hb56; try simp only [Gk.cs0] at hc56
     refine WC.seq ?_
     refine WC.region ?_
     refine WL.val (.assign (.of rfl)) rfl ?_
     refine WL.nil ?_
     refine WC.ret ?_
     refine ret1 Tryz.results3 rfl ?_
     exfalso; simp at hb56
    ·
     have hc56 := hb56; try simp only [Gk.cs0] at hc56
     refine WC.skip ?_
     refine WC.seq ?_
     refine WC.seq ?_
     refine WC.region ?_
     refine WL.val (.assign (.of rfl)) rfl ?_
     refine WL.nil ?_
     refine WC.block ?_
     refine WC.loop (σ := Nat) (fun i => [(3, .bool true), (10, .slice xa l.length xc), (11, .slice ya l.length yc), (12, I64 (i : Nat))]) (fun i w => i ≤ l.length ∧ Sat B w J4 As) (fun i => l.length - i) 0 ⟨rfl, rfl, rfl, rfl, trivial⟩ ⟨Nat.zero_le _, hS⟩ ?_
     rintro i w ⟨hi, hS⟩
     change WC _ _ _ _ [(3, .bool true), (10, .slice xa l.length xc), (11, .slice ya l.length yc), (12, I64 (i : Nat))] w
     refine WC.seq ?_
     refine WC.seq ?_
     refine WC.region ?_
     refine WL.val (.move (.of rfl)) rfl ?_
     refine WL.val (.move (.of rfl)) rfl ?_
     refine WL.val (.lenSlice (.of rfl) Tryz.underlying22) rfl ?_
     refine WL.val (.lss (.of rfl) (.of rfl)) rfl ?_
     refine WL.nil ?_
     refine WC.cond rfl (fun hb60 => ?_) (fun hb60 => ?_)
     ·
      have hc60 := hb60; try simp only [Gk.cs0] at hc60
      refine WC.skip ?_
      refine WC.seq ?_
      refine WC.block ?_
      refine WC.seq ?_
      obtain ⟨u, hu⟩ : ∃ u, (pickS l D)[i]? = some u := ⟨_, List.getElem?_eq_getElem (by omega)⟩
      have hur := hprl u (List.mem_of_getElem? hu)
      obtain ⟨c1, hc1, x1, x2, rfl, hx3, hx4⟩ := hC.2 i u hu
      obtain ⟨xp, rfl, hxp⟩ := hXR.2 (by omega)
      have hx := at_take (hxp.add (i * 8)) 8
      rw [flat_piece C (rows8 hC) i _ hc1] at hx
      unfold svCells at hx
      obtain ⟨d, hd, hd0, hlu⟩ := pick_get hD hu
      have hDm : ∀ d ∈ D, 0 ≤ d ∧ d < l.length := fun d hd => Srt.upto_mem.1 (hD.2.mem_iff.1 hd)
      obtain ⟨_, c2, _, hc2, _, y1, y2, rfl, hy3, hy4⟩ := hl.2 d.toNat u hlu
      obtain ⟨yp, rfl, hyp⟩ := hYR.2 (by omega)
      have hy := at_take (hyp.add (i * 8)) 8
      have hpk : (pickR L D)[i]? = some (svCells u y1 y2) := by unfold pickR; rw [List.getElem?_map, hd]; simp [List.getD_eq_getElem?_getD, hc2]
      rw [flat_piece _ (pick8 hl hDm) i _ hpk] at hy
      unfold svCells at hy
      refine WC.quiet (by kernel_rfl) (by kernel_rfl) hS ?_
      refine WQ.val (fun w hS => (.move (.of rfl))) rfl ?_
      refine WQ.val (fun w hS => (.move (.of rfl))) rfl ?_
      refine WQ.val (fun w hS => (by first | exact .indexAddr (.of rfl) (.of rfl) (by omega) (by omega) Tryz.underlying22 Tryz.sizeOf37 | exact .indexAddrI (.of rfl) (.of rfl) (by omega) (by omega) Tryz.underlying22 Tryz.sizeOf37)) rfl ?_
      refine WQ.val (fun w hS => (by first | exact (.ldsI (.of rfl) hS hx Tryz.isAgg37 Tryz.sizeOf37 rfl (fun _ _ h => h)) | exact (.ldsI (.of rfl) hS (At.add hx _) Tryz.isAgg37 Tryz.sizeOf37 rfl (fun _ _ h => h)) | exact (.ldsI (.of rfl) hS hy Tryz.isAgg37 Tryz.sizeOf37 rfl (fun _ _ h => h)) | exact (.ldsI (.of rfl) hS (At.add hy _) Tryz.isAgg37 Tryz.sizeOf37 rfl (fun _ _ h => h)))) rfl ?_
      refine WQ.val (fun w hS => (.move (.of rfl))) rfl ?_
      refine WQ.val (fun w hS => (.move (.of rfl))) rfl ?_
      refine WQ.val (fun w hS => (by first | exact .indexAddr (.of rfl) (.of rfl) (by omega) (by omega) Tryz.underlying22 Tryz.sizeOf37 | exact .indexAddrI (.of rfl) (.of rfl) (by omega) (by omega) Tryz.underlying22 Tryz.sizeOf37)) rfl ?_
      refine WQ.val (fun w hS => (by first | exact (.ldsI (.of rfl) hS hx Tryz.isAgg37 Tryz.sizeOf37 rfl (fun _ _ h => h)) | exact (.ldsI (.of rfl) hS (At.add hx _) Tryz.isAgg37 Tryz.sizeOf37 rfl (fun _ _ h => h)) | exact (.ldsI (.of rfl) hS hy Tryz.isAgg37 Tryz.sizeOf37 rfl (fun _ _ h => h)) | exact (.ldsI (.of rfl) hS (At.add hy _) Tryz.isAgg37 Tryz.sizeOf37 rfl (fun _ _ h => h)))) rfl ?_
      refine WQ.call Tryz.func14 rfl (evs_cons (.of rfl) (evs_cons (.of rfl) evs_nil)) rfl (fun w hS => SameSv_any u u x1 y1 x2 y2 hx3 hy3 (by omega) B _ J4 hx4 hy4 As hS) ?_
      refine WQ.val (fun w hS => (.not (.of rfl))) rfl ?_
      refine WQ.nil ?_
      clear hS; intro w hS
      refine WC.cond rfl (fun hb72 => ?_) (fun hb72 => ?_)
      ·
       have hc72 := hb72; try simp only [Gk.cs0] at hc72
       refine WC.seq ?_
       refine WC.region ?_
       refine WL.val (.assign (.of rfl)) rfl ?_
       refine WL.nil ?_
       refine WC.ret ?_
       refine ret1 Tryz.results3 rfl ?_
       exfalso
       rw [(sameSv_iff u u).2 rfl] at hb72
       cases hb72
      ·
       have hc72 := hb72; try simp only [Gk.cs0] at hc72
       refine WC.skip ?_
       refine WC.region ?_
       refine WL.val (.move (.of rfl)) rfl ?_
       refine WL.val (.add (.of rfl) (.of rfl) ⟨by omega, by omega⟩) rfl ?_
       refine WL.val (.assign (.of rfl)) rfl ?_
       refine WL.nil ?_
       exact ⟨i + 1, ⟨rfl, rfl, rfl, rfl, trivial⟩, ⟨by omega, hS⟩, by omega⟩
     ·
      have hc60 := hb60; try simp only [Gk.cs0] at hc60
      refine WC.exit ?_
      refine WC.seq ?_
      refine WC.region ?_
      refine WL.val (.move (.of rfl)) rfl ?_
      refine WL.val (.assign (.of rfl)) rfl ?_
      refine WL.nil ?_
      refine WC.ret ?_
      refine ret1 Tryz.results3 rfl ?_
      exact ⟨_, rfl, rfl, J4, Le.trans hJ (Le.trans (Le.trans hJ1 hJ2) hJ24), hS⟩
end Go.Proofs.YtchgkcbloeoopaaGreatDoor
namespace Gk
set_option linter.unusedVariables false
set_option linter.unusedSimpArgs false
open Go Go.RowKit Go.WideShapes Go.ChangeShapes
section
variable {H : Type} {enc : TypeId × Value → H}
def WitT (enc : TypeId × Value → H) (a : Assume) (C : Checked) (os : Os) (f : FuncId) (fn : Func) (s : ChangeSpec) (conds : List PathCond) (apart : Bool) (X : World → Array Value → Prop) : Prop :=
  ∃ (w : World) (tape : Tape) (i : Input), w.os = os ∧ (w.forCall tape i).Shaped C.prog ∧ i.vars = [] ∧ Input.okWide C.prog (w.forCall tape i) .any w.heap.size f i ∧
   ((s.pre enc C.prog fn conds apart (w.forCall tape i).memory i.args ∧ X (w.forCall tape i).memory i.args) ∧ sizedMet enc C.prog fn (OpenSpec.ofChange s) apart (w.forCall tape i).memory i.args) ∧ a.holds C.prog (lone (Frame.enter C.prog f i.args .normal) [] (w.forCall tape i))
theorem returns_and_shaped {a : Assume} {C : Checked} {os : Os} {f : FuncId} {fn : Func} {s : ChangeSpec} {conds : List PathCond} {apart fresh handsOn again : Bool} {X : World → Array Value → Prop}
  (hX : ∀ (w w' : World) (args : Array Value), w.heap = w'.heap → X w args → X w' args)
  (own : ownKnob C.prog.godebug = none) (started : os.Started) (noInit : C.prog.inits.idxOf? f = none) (hfn : C.prog.funcs[f]? = some fn)
  (witness : WitT enc a C os f fn s conds apart X)
  (contract : ∀ (W : World) (base : Nat) (args : Array Value) (ds gs : List (DataW H)) (before : List MemPlace),
   (∀ (j : Nat) t v, fn.params[j]? = some t → args[j]? = some v → Value.okWide C.prog W .any base t v) →
   DataW.Whole enc C.prog fn.params.toList s.vars apart W args.toList ds gs before → X W args → W.ShapedOpen C.prog →
   Calls C.prog f args W fun e W' => ∃ v, e = .returned v ∧ s.post enc C.prog fn apart fresh handsOn again W args v W') :
  ReturnsInHanded a C os f .any (fun w args => (s.pre enc C.prog fn conds apart w args ∧ X w args) ∧ sizedMet enc C.prog fn (OpenSpec.ofChange s) apart w args) (s.post enc C.prog fn apart fresh handsOn again) := by
 refine returnsInHanded_of_calls own started noInit witness ?_
 intro w tape i _ hsh _ hok hpre _
 obtain ⟨_, _, _, fn', hfn', _, _, _, _, hval⟩ := hok
 have e : fn' = fn := Option.some.inj (hfn'.symm.trans hfn)
 subst e
 obtain ⟨⟨⟨ds, gs, before, hw, hc⟩, hx⟩, hz⟩ := hpre
 have hw' := DataW.Whole.of_heap (w' := w.forCall tape i) (by rfl) hw
 refine (contract (w.forCall tape i) w.heap.size i.args ds gs before hval hw' (hX _ _ _ (by rfl) hx) hsh).mono fun e W' ⟨v, he, hp⟩ => ?_
 subst he
 exact ChangeSpec.post_blind hp
end
section
variable {P : Program} {W : World}
theorem tabIs_of_reads {name : String} {k : IntKind} {zs : List Int} {g : Nat} {t e : TypeId} {n : Nat}
  (hg : P.globalNamed name = some g) (hty : (P.globals[g]?).map (·.type) = some t) (ht : P.underlying t = some (.array n e)) (he : P.underlying e = some (.int k)) (hce : P.cellsOf e = 1) (hct : P.cellsOf t = n)
  (h : Lib.VarReads P W name (Lib.tabData k zs)) : Lib.TabIs P W name k zs := by
 obtain ⟨g', t', cs, fuel, p, hg', ht', hvar, hd⟩ := h
 obtain rfl := Option.some.inj (hg.symm.trans hg')
 obtain rfl := Option.some.inj (hty.symm.trans ht')
 unfold Lib.TabIs
 rw [hvar, ← Lib.cells_of_tab ht he hce hct hd]
theorem tab_at {name : String} {k : IntKind} {zs : List Int} {g : Nat} (hg : P.globalNamed name = some g) (h : Lib.TabIs P W name k zs) (h0 : 0 < zs.length) : At (im0 W) (ad g 0) (zs.map fun z => .int k z) := by
 refine at_im0 (by rw [List.length_map]; exact h0) fun j v hj => ?_
 rw [List.getElem?_map] at hj
 cases hz : zs[j]? with
 | none => rw [hz] at hj; cases hj
 | some z =>
  rw [hz] at hj
  have hjl := (List.getElem?_eq_some_iff.1 hz).1
  have hc := h.cell hg j hjl
  rw [add_ad, Nat.zero_add, hc, List.getD_eq_getElem?_getD, hz, ← hj]
  rfl
variable {B w : World} {As : List Assn}
theorem block_sat {b : Nat} {o : Obj} (h : W.heap[b]? = some o) (hS : Sat B w (im0 W) As) : w.heap[b]? = some o := by
 obtain ⟨_, _, hg⟩ := hS
 exact hg.imm b o h
theorem tab_sat {name : String} {k : IntKind} {zs : List Int} (h : Lib.TabIs P W name k zs) (hS : Sat B w (im0 W) As) : Lib.TabIs P w name k zs := by
 unfold Lib.TabIs World.var? at h ⊢
 cases hg : P.globalNamed name with
 | none => rw [hg] at h; cases h
 | some g =>
  rw [hg] at h
  simp only [Option.bind_some] at h ⊢
  cases hb : W.heap[g]? with
  | none => rw [hb] at h; cases h
  | some o =>
   rw [block_sat hb hS]
   rw [hb] at h
   exact h
theorem cell_sat {a : Addr} {v : Value} (h : W.cell? a = some v) (hS : Sat B w (im0 W) As) : w.cell? a = some v := by
 unfold World.cell? at h ⊢
 cases hb : W.heap[a.block]? with
 | none => rw [hb] at h; cases h
 | some o => rw [block_sat hb hS]; rw [hb] at h; exact h
end
end Gk
namespace Go.Proofs.YtchgkcbloeoopaaGreatDoor
open Gk Pc
set_option linter.unusedVariables false
theorem digits_tab : Rows.laid_matricula_pct_digits (H := Unit) = Lib.tabData .u8 (HIGH.map fun c => (c.toNat : Int)) := by kernel_rfl
theorem pow_tab : Rows.laid_internal_strconv_uint64pow10 (H := Unit) = Lib.tabData .u64 Lib.pow10Tab := by kernel_rfl
theorem known_of {W : World} (h1 : Lib.VarReads Tryz.prog W "matricula/pct.digits" Rows.laid_matricula_pct_digits) (h2 : Lib.VarReads Tryz.prog W "internal/strconv.uint64pow10" Rows.laid_internal_strconv_uint64pow10) (hsh : W.ShapedOpen Tryz.prog) : Known (im0 W) := by
 rw [digits_tab] at h1
 rw [pow_tab] at h2
 have t1 := tabIs_of_reads (g := 2) (by kernel_rfl) (by kernel_rfl) Tryz.underlying149 Tryz.underlying5 (by kernel_rfl) (by kernel_rfl) h1
 have t2 := tabIs_of_reads (g := 3) (by kernel_rfl) (by kernel_rfl) Tryz.underlying166 Tryz.underlying42 (by kernel_rfl) (by kernel_rfl) h2
 refine ⟨tab_at (g := 2) (by kernel_rfl) t1 (by decide), fun B w As hS => tab_sat t2 hS, fun B w As hS => ?_⟩
 obtain ⟨m, hm⟩ := Go.Proofs.cell_of_shapedOpen_int (g := 1) (t := 3) (zero := #[.int .i64 0]) (k := .i64) hsh (by decide +kernel) (by kernel_rfl) (by kernel_rfl) (by kernel_rfl) (by kernel_rfl) Tryz.underlying3
 exact ⟨m, cell_sat hm hS⟩
end Go.Proofs.YtchgkcbloeoopaaGreatDoor
namespace Ul
open Pc Gk
set_option linter.unusedVariables false
set_option linter.unusedSimpArgs false
theorem told_app {r t : List UInt8} {v : UInt8} (h : told r = some v) : told (r ++ t) = some v := by
 match r, h with
 | a :: b :: _, h => exact h
 | [_], h => simp [told] at h
 | [], h => simp [told] at h
theorem norm_app : ∀ (n : Nat) (a b a' : List UInt8), a.length ≤ n → norm a = some a' → norm (a ++ b) = (norm b).map (a' ++ ·) := by
 intro n
 induction n with
 | zero =>
  intro a b a' hn h
  have := List.eq_nil_of_length_eq_zero (Nat.le_zero.1 hn)
  subst this
  rw [norm_nil] at h; injection h with h; subst h
  rw [List.nil_append]
  cases hb : norm b <;> simp
 | succ n ih =>
  intro a b a' hn h
  cases a with
  | nil =>
   rw [norm_nil] at h; injection h with h; subst h
   cases hb : norm b <;> simp [hb]
  | cons c r =>
   simp only [List.length_cons] at hn
   rw [norm_cons] at h
   rw [List.cons_append, norm_cons]
   by_cases hc : c = 37
   ·rw [if_pos hc] at h ⊢
    cases ht : told r with
    | none => rw [ht] at h; cases h
    | some v =>
     rw [ht] at h
     rw [told_app ht]
     simp only at h ⊢
     have hl := told_len ht
     obtain ⟨u, hu, rfl⟩ := Option.map_eq_some_iff.1 h
     rw [List.drop_append_of_le_length hl, ih (r.drop 2) b u (by rw [List.length_drop]; omega) hu, Option.map_map]
     congr 1
     funext x
     simp
   ·rw [if_neg hc] at h ⊢
    obtain ⟨u, hu, rfl⟩ := Option.map_eq_some_iff.1 h
    rw [ih r b u (by omega) hu, Option.map_map]
    rfl
def Fix (s : List UInt8) : Prop := norm s = some s
theorem Fix.nil : Fix [] := norm_nil
theorem Fix.app {a b : List UInt8} (h : Fix a) (k : Fix b) : Fix (a ++ b) := by
 unfold Fix at *
 rw [norm_app a.length a b a (Nat.le_refl _) h, k]; rfl
theorem Fix.cons {c : UInt8} {b : List UInt8} (h : c ≠ 37) (k : Fix b) : Fix (c :: b) := by
 unfold Fix at *
 rw [norm_cons, if_neg h, k]; rfl
theorem pct_back (v : UInt8) (u : List UInt8) : told (hexd (v.toNat / 16) :: hexd (v.toNat % 16) :: u) = some v := by
 have := all_bytes (p := fun v => decide (0 ≤ hexv (hexd (v.toNat / 16))) && decide (0 ≤ hexv (hexd (v.toNat % 16))) && (byteOf (hexd (v.toNat / 16)) (hexd (v.toNat % 16)) == v)) (by decide +kernel) v
 simp only [Bool.and_eq_true, decide_eq_true_eq, beq_iff_eq] at this
 show (if hexv (hexd (v.toNat / 16)) < 0 ∨ hexv (hexd (v.toNat % 16)) < 0 then none else some (byteOf (hexd (v.toNat / 16)) (hexd (v.toNat % 16)))) = some v
 rw [if_neg (by omega), this.2]
theorem plain_not37 {v : UInt8} (h : plain v = true) : v ≠ 37 := fun e => by subst e; revert h; decide
theorem fix_one (v : UInt8) : Fix (one v) := by
 unfold one
 by_cases h : plain v = true
 ·rw [if_pos h]; exact Fix.cons (plain_not37 h) Fix.nil
 ·rw [if_neg h]
  unfold Fix pctB
  rw [norm_cons, if_pos rfl, pct_back]
  simp only [List.drop_succ_cons, List.drop_zero, norm_nil, Option.map_some, List.append_nil]
  unfold one
  rw [if_neg h]; rfl
theorem norm_fix : ∀ (n : Nat) (s t : List UInt8), s.length ≤ n → norm s = some t → Fix t := by
 intro n
 induction n with
 | zero =>
  intro s t hn h
  have := List.eq_nil_of_length_eq_zero (Nat.le_zero.1 hn)
  subst this
  rw [norm_nil] at h; injection h with h; subst h; exact Fix.nil
 | succ n ih =>
  intro s t hn h
  cases s with
  | nil => rw [norm_nil] at h; injection h with h; subst h; exact Fix.nil
  | cons c r =>
   simp only [List.length_cons] at hn
   rw [norm_cons] at h
   by_cases hc : c = 37
   ·rw [if_pos hc] at h
    cases ht : told r with
    | none => rw [ht] at h; cases h
    | some v =>
     rw [ht] at h
     simp only at h
     obtain ⟨u, hu, rfl⟩ := Option.map_eq_some_iff.1 h
     exact (fix_one v).app (ih _ u (by rw [List.length_drop]; omega) hu)
   ·rw [if_neg hc] at h
    obtain ⟨u, hu, rfl⟩ := Option.map_eq_some_iff.1 h
    exact Fix.cons hc (ih r u (by omega) hu)
theorem fix_split : ∀ (n : Nat) (a b : List UInt8), a.length ≤ n → Fix (a ++ 47 :: b) → Fix a ∧ Fix b := by
 intro n
 induction n with
 | zero =>
  intro a b hn h
  have := List.eq_nil_of_length_eq_zero (Nat.le_zero.1 hn)
  subst this
  refine ⟨Fix.nil, ?_⟩
  unfold Fix at h ⊢
  rw [List.nil_append, norm_cons, if_neg (by decide)] at h
  obtain ⟨u, hu, e⟩ := Option.map_eq_some_iff.1 h
  injection e with _ e
  rw [hu, e]
 | succ n ih =>
  intro a b hn h
  cases a with
  | nil => exact ih [] b (by simp) h
  | cons c r =>
   simp only [List.length_cons] at hn
   unfold Fix at h
   rw [List.cons_append, norm_cons] at h
   by_cases hc : c = 37
   ·subst hc
    rw [if_pos rfl] at h
    match r, hn, h with
    | [], _, h =>
     exfalso
     cases b with
     | nil => simp [told] at h
     | cons x b => simp [told, show hexv 47 = -1 from by decide] at h
    | [x], _, h =>
     exfalso
     simp [told, show hexv 47 = -1 from by decide] at h
    | x :: y :: r, hn, h =>
     cases ht : told ((x :: y :: r) ++ 47 :: b) with
     | none => rw [ht] at h; cases h
     | some v =>
      rw [ht] at h
      simp only [List.cons_append, List.drop_succ_cons, List.drop_zero] at h
      obtain ⟨u, hu, e⟩ := Option.map_eq_some_iff.1 h
      by_cases hp : plain v = true
      ·exfalso
       unfold one at e
       rw [if_pos hp] at e
       injection e with e _
       exact plain_not37 hp e
      ·unfold one at e
       rw [if_neg hp] at e
       simp only [pctB, List.cons_append, List.nil_append, List.cons.injEq, true_and] at e
       obtain ⟨e1, e2, e3⟩ := e
       subst e3
       obtain ⟨h1, h2⟩ := ih r b (by simp only [List.length_cons] at hn; omega) hu
       refine ⟨?_, h2⟩
       have := (fix_one v).app h1
       unfold one at this
       rw [if_neg hp] at this
       simp only [pctB, e1, e2, List.cons_append, List.nil_append] at this
       exact this
   ·rw [if_neg hc] at h
    obtain ⟨u, hu, e⟩ := Option.map_eq_some_iff.1 h
    injection e with _ e
    subst e
    obtain ⟨h1, h2⟩ := ih r b (by omega) hu
    exact ⟨Fix.cons hc h1, h2⟩
theorem spl_cons (s : List UInt8) : (∀ x ∈ s, x ≠ 47) ∧ spl s = [s] ∨ ∃ a b, s = a ++ 47 :: b ∧ (∀ x ∈ a, x ≠ 47) ∧ spl s = a :: spl b := by
 induction s with
 | nil => exact .inl ⟨fun x h => by simp at h, rfl⟩
 | cons c r ih =>
  by_cases hc : c = 47
  ·subst hc
   exact .inr ⟨[], r, rfl, fun x h => by simp at h, by rw [spl, if_pos rfl]⟩
  ·rcases ih with ⟨h1, h2⟩ | ⟨a, b, rfl, h1, h2⟩
   ·have h3 : ∀ x ∈ c :: r, x ≠ 47 := fun x hx => by
     rcases List.mem_cons.1 hx with e | e
     ·subst e; exact hc
     ·exact h1 x e
    exact .inl ⟨h3, spl_none _ h3⟩
   ·have h3 : ∀ x ∈ c :: a, x ≠ 47 := fun x hx => by
     rcases List.mem_cons.1 hx with e | e
     ·subst e; exact hc
     ·exact h1 x e
    exact .inr ⟨c :: a, b, rfl, h3, spl_hit (c :: a) b h3⟩
structure Piece (p : UInt8 → Bool) (x : List UInt8) : Prop where
 fix : Fix x
 no : ∀ c ∈ x, c ≠ 47
 all : x.all p = true
theorem spl_piece {p : UInt8 → Bool} : ∀ (n : Nat) (s : List UInt8), s.length ≤ n → Fix s → s.all p = true → ∀ x ∈ spl s, Piece p x := by
 intro n
 induction n with
 | zero =>
  intro s hn h hp x hx
  have := List.eq_nil_of_length_eq_zero (Nat.le_zero.1 hn)
  subst this
  simp [spl] at hx
  subst hx
  exact ⟨Fix.nil, fun c h => by simp at h, rfl⟩
 | succ n ih =>
  intro s hn h hp x hx
  rcases spl_cons s with ⟨h1, h2⟩ | ⟨a, b, rfl, h1, h2⟩
  ·rw [h2] at hx
   simp at hx
   subst hx
   exact ⟨h, h1, hp⟩
  ·rw [h2] at hx
   obtain ⟨f1, f2⟩ := fix_split a.length a b (Nat.le_refl _) h
   rw [List.all_append, Bool.and_eq_true, List.all_cons, Bool.and_eq_true] at hp
   rcases List.mem_cons.1 hx with e | e
   ·subst e; exact ⟨f1, h1, hp.1⟩
   ·refine ih b ?_ f2 hp.2.2 x e
    simp only [List.length_append, List.length_cons] at hn; omega
theorem keep_sub {Q : List UInt8 → Prop} : ∀ (l k : List (List UInt8)), (∀ x ∈ l, Q x) → (∀ x ∈ k, Q x ∧ isDot x = false) → ∀ x ∈ l.foldl keep k, Q x ∧ isDot x = false
 | [], k, _, hk, x, hx => hk x hx
 | a :: l, k, hl, hk, x, hx => by
  rw [List.foldl_cons] at hx
  refine keep_sub l (keep k a) (fun x hx => hl x (by simp [hx])) (fun y hy => ?_) x hx
  unfold keep at hy
  split at hy
  ·exact hk y hy
  ·rename_i h1
   split at hy
   ·exact hk y (List.dropLast_subset _ hy)
   ·rename_i h2
    rcases List.mem_append.1 hy with e | e
    ·exact hk y e
    ·simp at e
     subst e
     refine ⟨hl _ (by simp), ?_⟩
     unfold isDot
     simp [h1, h2]
theorem keep_all : ∀ (l k : List (List UInt8)), (∀ x ∈ l, isDot x = false) → l.foldl keep k = k ++ l
 | [], k, _ => by simp
 | a :: l, k, h => by
  have ha := h a (by simp)
  unfold isDot at ha
  simp only [Bool.or_eq_false_iff, beq_eq_false_iff_ne] at ha
  rw [List.foldl_cons, keep_all l _ (fun x hx => h x (by simp [hx])), keep, if_neg ha.1, if_neg ha.2, List.append_assoc]
  rfl
theorem slashed_spl : ∀ (k : List (List UInt8)) (e : List UInt8), (∀ x ∈ k, ∀ c ∈ x, c ≠ 47) → (∀ c ∈ e, c ≠ 47) → slashed k ++ 47 :: e = 47 :: ((k.map (· ++ [47])).flatten ++ e) ∧ spl ((k.map (· ++ [47])).flatten ++ e) = k ++ [e]
 | [], e, _, he => ⟨by simp [slashed], by simpa using spl_none e he⟩
 | a :: k, e, hk, he => by
  obtain ⟨h1, h2⟩ := slashed_spl k e (fun x hx => hk x (by simp [hx])) he
  refine ⟨?_, ?_⟩
  ·have : slashed (a :: k) = 47 :: a ++ slashed k := by simp [slashed]
   rw [this, List.append_assoc, h1]
   simp
  ·rw [List.map_cons, List.flatten_cons, List.append_assoc, List.append_assoc, List.cons_append, List.nil_append, spl_hit a _ (hk a (by simp)), h2]
   rfl
theorem dots_slashed (k : List (List UInt8)) (e : List UInt8) (hk : ∀ x ∈ k, ∀ c ∈ x, c ≠ 47) (he : ∀ c ∈ e, c ≠ 47) (hkd : ∀ x ∈ k, isDot x = false) (hed : isDot e = false) : dots (slashed k ++ 47 :: e) = slashed k ++ 47 :: e := by
 obtain ⟨h1, h2⟩ := slashed_spl k e hk he
 have h3 : ∀ x ∈ k ++ [e], isDot x = false := fun x hx => by
  rcases List.mem_append.1 hx with h | h
  ·exact hkd x h
  ·simp at h; subst h; exact hed
 rw [h1, dots, if_pos rfl, h2, keep_all _ _ h3, List.nil_append, ← h1, slashed_app]
 have : ((k ++ [e]).getLastD []) = e := by simp [List.getLastD_eq_getLast?]
 rw [this, hed]
 simp
theorem slashed_all {p : UInt8 → Bool} (h47 : p 47 = true) : ∀ (k : List (List UInt8)), (∀ x ∈ k, x.all p = true) → (slashed k).all p = true
 | [], _ => rfl
 | a :: k, h => by
  have : slashed (a :: k) = 47 :: a ++ slashed k := by simp [slashed]
  rw [this, List.all_append, List.all_cons, h47, h a (by simp), slashed_all h47 k (fun x hx => h x (by simp [hx]))]
  rfl
theorem slashed_fix : ∀ (k : List (List UInt8)), (∀ x ∈ k, Fix x) → Fix (slashed k)
 | [], _ => Fix.nil
 | a :: k, h => by
  have : slashed (a :: k) = 47 :: a ++ slashed k := by simp [slashed]
  rw [this]
  exact (Fix.cons (by decide) (h a (by simp))).app (slashed_fix k (fun x hx => h x (by simp [hx])))
theorem dots_good {p : UInt8 → Bool} (h47 : p 47 = true) {s : List UInt8} (hf : Fix s) (hp : s.all p = true) (h0 : s.head? = some 47) : dots (dots s) = dots s ∧ Fix (dots s) ∧ (dots s).all p = true ∧ (dots s).head? = some 47 := by
 cases s with
 | nil => cases h0
 | cons c r =>
  simp at h0
  subst h0
  have hfr : Fix r := (fix_split 0 [] r (Nat.le_refl _) hf).2
  rw [List.all_cons, Bool.and_eq_true] at hp
  have hpc := spl_piece r.length r (Nat.le_refl _) hfr hp.2
  have hk := keep_sub (Q := Piece p) (spl r) [] hpc (fun x h => by simp at h)
  rw [show dots (47 :: r) = slashed ((spl r).foldl keep []) ++ (if isDot ((spl r).getLastD []) || ((spl r).foldl keep []).length == 0 then [47] else []) from by rw [dots, if_pos rfl]]
  generalize (spl r).foldl keep [] = k at hk ⊢
  have noe : ∀ c ∈ ([] : List UInt8), c ≠ 47 := fun c h => by simp at h
  have hsf := slashed_fix k (fun x hx => (hk x hx).1.fix)
  have hsa := slashed_all h47 k (fun x hx => (hk x hx).1.all)
  split
  ·refine ⟨dots_slashed k [] (fun x hx => (hk x hx).1.no) noe (fun x hx => (hk x hx).2) rfl, hsf.app (Fix.cons (by decide) Fix.nil), ?_, ?_⟩
   ·rw [List.all_append, hsa, List.all_cons, h47]; rfl
   ·cases k with
    | nil => rfl
    | cons a k => rfl
  ·rename_i hc
   simp only [Bool.or_eq_true, not_or, beq_iff_eq] at hc
   rw [List.append_nil]
   obtain ⟨k', e, rfl⟩ : ∃ k' e, k = k' ++ [e] := ⟨k.dropLast, k.getLast (fun h => hc.2 (by rw [h]; rfl)), (List.dropLast_concat_getLast _).symm⟩
   have he := hk e (by simp)
   refine ⟨?_, hsf, hsa, ?_⟩
   ·rw [slashed_app]
    exact dots_slashed k' e (fun x hx => (hk x (by simp [hx])).1.no) he.1.no (fun x hx => (hk x (by simp [hx])).2) he.2
   ·cases k' with
    | nil => rfl
    | cons a k' => rfl
theorem one_all {p : UInt8 → Bool} (hp : ∀ v, plain v = true → p v = true) (h37 : p 37 = true) (v : UInt8) : (one v).all p = true := by
 unfold one
 by_cases h : plain v = true
 ·rw [if_pos h, List.all_cons, hp v h]; rfl
 ·have hx := all_bytes (p := fun v => plain (hexd (v.toNat / 16)) && plain (hexd (v.toNat % 16))) (by decide +kernel) v
  rw [Bool.and_eq_true] at hx
  rw [if_neg h, pctB, List.all_cons, h37, List.all_cons, hp _ hx.1, List.all_cons, hp _ hx.2]
  rfl
theorem norm_all {p : UInt8 → Bool} (hp : ∀ v, plain v = true → p v = true) (h37 : p 37 = true) : ∀ (n : Nat) (s t : List UInt8), s.length ≤ n → s.all p = true → norm s = some t → t.all p = true := by
 intro n
 induction n with
 | zero =>
  intro s t hn hs h
  have := List.eq_nil_of_length_eq_zero (Nat.le_zero.1 hn)
  subst this
  rw [norm_nil] at h; injection h with h; subst h; rfl
 | succ n ih =>
  intro s t hn hs h
  cases s with
  | nil => rw [norm_nil] at h; injection h with h; subst h; rfl
  | cons c r =>
   simp only [List.length_cons] at hn
   rw [List.all_cons, Bool.and_eq_true] at hs
   rw [norm_cons] at h
   by_cases hc : c = 37
   ·rw [if_pos hc] at h
    cases ht : told r with
    | none => rw [ht] at h; cases h
    | some v =>
     rw [ht] at h
     simp only at h
     obtain ⟨u, hu, rfl⟩ := Option.map_eq_some_iff.1 h
     rw [List.all_append, one_all hp h37 v, ih _ u (by rw [List.length_drop]; omega) (List.all_eq_true.2 fun x hx => List.all_eq_true.1 hs.2 x (List.mem_of_mem_drop hx)) hu]
     rfl
   ·rw [if_neg hc] at h
    obtain ⟨u, hu, rfl⟩ := Option.map_eq_some_iff.1 h
    rw [List.all_cons, hs.1, ih r u (by omega) hs.2 hu]; rfl
def standQ (c : UInt8) : Bool := standB c && c != 63
theorem plain_stand (v : UInt8) (h : plain v = true) : standQ v = true := by
 have := all_bytes (p := fun v => !plain v || standQ v) (by decide +kernel) v
 simp only [h, Bool.not_true, Bool.false_or] at this
 exact this
theorem standQ_stand {s : List UInt8} (h : s.all standQ = true) : s.all standB = true := by
 rw [List.all_eq_true] at h ⊢
 intro x hx
 have := h x hx
 unfold standQ at this
 rw [Bool.and_eq_true] at this
 exact this.1
theorem upto_stop {ats a b : List UInt8} (ha : ∀ c ∈ a, ats.contains c = false) (hb : ∀ c, b.head? = some c → ats.contains c = true) : upto ats (a ++ b) = a ∧ from_ ats (a ++ b) = b := by
 induction a with
 | nil =>
  cases b with
  | nil => exact ⟨rfl, rfl⟩
  | cons c b =>
   have := hb c rfl
   unfold upto from_
   rw [List.nil_append, List.takeWhile_cons, List.dropWhile_cons, this]
   exact ⟨rfl, rfl⟩
 | cons c a ih =>
  have h1 := ha c (by simp)
  obtain ⟨h2, h3⟩ := ih (fun x hx => ha x (by simp [hx]))
  simp only [upto, from_] at h2 h3 ⊢
  rw [List.cons_append, List.takeWhile_cons, List.dropWhile_cons, h1]
  exact ⟨congrArg (c :: ·) h2, h3⟩
theorem mem_tw {p : UInt8 → Bool} : ∀ {l : List UInt8} {x : UInt8}, x ∈ l.takeWhile p → p x = true
 | [], _, h => by simp at h
 | a :: l, x, h => by
  rw [List.takeWhile_cons] at h
  split at h
  ·rename_i ha
   rcases List.mem_cons.1 h with e | e
   ·subst e; exact ha
   ·exact mem_tw e
  ·simp at h
theorem lo_lo (c : UInt8) : lo (lo c) = lo c := eq_of_beq (all_bytes (p := fun c => lo (lo c) == lo c) (by decide +kernel) c)
theorem low_low (s : List UInt8) : low (low s) = low s := by
 unfold low
 rw [List.map_map]
 exact List.map_congr_left fun c _ => lo_lo c
theorem val_digits : ∀ (n : Nat), val (Go.Lib.decDigits n) = n ∧ (Go.Lib.decDigits n).all digB = true ∧ (0 < n → (Go.Lib.decDigits n).head? ≠ some 48) ∧ Go.Lib.decDigits n ≠ [] := by
 have dig : ∀ d, d < 10 → (UInt8.ofNat (48 + d)).toNat = 48 + d ∧ digB (UInt8.ofNat (48 + d)) = true := fun d hd => by
  have h := (by decide : ∀ d : Fin 10, (UInt8.ofNat (48 + d.val)).toNat = 48 + d.val ∧ digB (UInt8.ofNat (48 + d.val)) = true) ⟨d, hd⟩
  exact h
 intro n
 induction n using Nat.strongRecOn with
 | _ n ih =>
  rw [Go.Lib.decDigits]
  by_cases h : n < 10
  ·rw [dif_pos h]
   obtain ⟨h1, h2⟩ := dig n h
   refine ⟨?_, ?_, fun h0 => ?_, by simp⟩
   ·simp only [val, List.foldl_cons, List.foldl_nil, h1]; omega
   ·rw [List.all_cons, h2]; rfl
   ·simp only [List.head?_cons, Option.some.injEq, ne_eq]
    intro e
    rw [e] at h1
    have : (48 : UInt8).toNat = 48 := rfl
    omega
  ·rw [dif_neg h]
   obtain ⟨h1, h2⟩ := dig (n % 10) (by omega)
   obtain ⟨i1, i2, i3, i4⟩ := ih (n / 10) (by omega)
   refine ⟨?_, ?_, fun _ => ?_, by simp⟩
   ·rw [val_app, i1, h1]; omega
   ·rw [List.all_append, i2, List.all_cons, h2]; rfl
   ·rw [List.head?_append]
    cases hd : (Go.Lib.decDigits (n / 10)).head? with
    | none => exact absurd (List.head?_eq_none_iff.1 hd) i4
    | some x =>
     have := i3 (by omega)
     rw [hd] at this
     exact this
structure Good (u : U) : Prop where
 sch : u.sch = http ∨ u.sch = https
 host : hostOk u.host = true ∧ low u.host = u.host
 port : u.port ≤ 65535 ∧ u.port ≠ ownP u.sch
 path : dots u.path = u.path ∧ Fix u.path ∧ u.path.all standQ = true ∧ u.path.head? = some 47
 query : Fix u.query ∧ u.query.all standB = true ∧ (u.ask = false → u.query = [])
theorem tail_good {sch host : List UInt8} {port : Nat} {r : List UInt8} (h1 : sch = http ∨ sch = https) (h2 : hostOk host = true ∧ low host = host) (h3 : port ≤ 65535 ∧ port ≠ ownP sch) (hr : ∀ c, r.head? = some c → c = 47 ∨ c = 63 ∨ c = 35) (h : (tailU sch host port r).2 = 0) : Good (tailU sch host port r).1 := by
 unfold tailU at h ⊢
 cases hp : partU (upto [63] r) with
 | none => rw [hp] at h; cases h
 | some p =>
  rw [hp] at h
  cases hq : partU ((from_ [63] r).drop 1) with
  | none => rw [hq] at h; cases h
  | some q =>
   simp only
   have hps : (upto [63] r).all standB = true ∧ norm (upto [63] r) = some p := by
    unfold partU at hp
    split at hp
    ·rename_i e; exact ⟨e, hp⟩
    ·cases hp
   have hqs : ((from_ [63] r).drop 1).all standB = true ∧ norm ((from_ [63] r).drop 1) = some q := by
    unfold partU at hq
    split at hq
    ·rename_i e; exact ⟨e, hq⟩
    ·cases hq
   have hus : (upto [63] r).all standQ = true := by
    rw [List.all_eq_true]
    intro x hx
    unfold standQ
    rw [List.all_eq_true.1 hps.1 x hx, Bool.true_and, bne_iff_ne]
    intro e
    subst e
    unfold upto at hx
    have := mem_tw hx
    simp at this
   have hpf : Fix p := norm_fix _ _ _ (Nat.le_refl _) hps.2
   have hpa : p.all standQ = true := norm_all plain_stand (by decide) _ _ _ (Nat.le_refl _) hus hps.2
   have hqf : Fix q := norm_fix _ _ _ (Nat.le_refl _) hqs.2
   have hqa : q.all standB = true := norm_all (fun v hv => by have := plain_stand v hv; unfold standQ at this; rw [Bool.and_eq_true] at this; exact this.1) (by decide) _ _ _ (Nat.le_refl _) hqs.1 hqs.2
   refine ⟨h1, h2, h3, ?_, hqf, hqa, fun ha => ?_⟩
   ·show dots (if p = [] then [47] else dots p) = _ ∧ Fix (if p = [] then [47] else dots p) ∧ (if p = [] then [47] else dots p).all standQ = true ∧ (if p = [] then [47] else dots p).head? = some 47
    by_cases e : p = []
    ·rw [if_pos e]
     exact ⟨(by decide : dots [47] = [47]), Fix.cons (by decide) Fix.nil, (by decide : ([47] : List UInt8).all standQ = true), rfl⟩
    ·rw [if_neg e]
     refine dots_good (by decide) hpf hpa ?_
     -- the path's first byte
     cases hu : upto [63] r with
     | nil =>
      rw [hu, norm_nil] at hps
      exact absurd (Option.some.inj hps.2).symm e
     | cons c s =>
      rw [hu] at hps
      have hc : r.head? = some c := by
       have := upto_from [63] r
       rw [hu] at this
       rw [← this]; rfl
      have hc2 := List.all_eq_true.1 hus c (by rw [hu]; simp)
      rcases hr c hc with e1 | e1 | e1
      ·subst e1
       have h4 := hps.2
       rw [norm_cons, if_neg (by decide)] at h4
       obtain ⟨u, _, rfl⟩ := Option.map_eq_some_iff.1 h4
       rfl
      ·subst e1; exact absurd hc2 (by decide)
      ·subst e1; exact absurd hc2 (by decide)
   ·have hf : from_ [63] r = [] := by simpa using ha
    rw [hf, List.drop_nil, norm_nil] at hqs
    exact (Option.some.inj hqs.2).symm
theorem from_head {ats s : List UInt8} {c : UInt8} (h : (from_ ats s).head? = some c) : ats.contains c = true := by
 unfold from_ at h
 have := List.head?_dropWhile_not (fun c => !ats.contains c) s
 rw [h] at this
 simpa using this
theorem pU_good {s : List UInt8} (h : (pU s).2 = 0) : Good (pU s).1 := by
 unfold pU at h ⊢
 by_cases h1 : 2000 < s.length
 ·rw [if_pos h1] at h; cases h
 ·rw [if_neg h1] at h ⊢
  cases hs : schemeOf s with
  | none => rw [hs] at h; cases h
  | some x =>
   obtain ⟨sch, r⟩ := x
   rw [hs] at h
   have hsch : sch = http ∨ sch = https := by
    unfold schemeOf at hs
    split at hs
    ·injection hs with hs; injection hs with e1 _; exact .inl e1.symm
    ·split at hs
     ·injection hs with hs; injection hs with e1 _; exact .inr e1.symm
     ·cases hs
   simp only at h ⊢
   by_cases hh : hostOk (hostOf r) = true
   ·rw [if_pos hh] at h ⊢
    have hho : hostOk (hostOf r) = true ∧ low (hostOf r) = hostOf r := ⟨hh, low_low _⟩
    have own0 : ownP sch ≠ 0 := by unfold ownP; split <;> decide
    unfold behind at h ⊢
    by_cases ht : (from_ [47, 63, 35, 58] r).take 1 = [58]
    ·rw [if_pos ht] at h ⊢
     by_cases hp : portOk (upto [47, 63, 35] ((from_ [47, 63, 35, 58] r).drop 1)) = true
     ·rw [if_pos hp] at h ⊢
      refine tail_good hsch hho ⟨port_le hp, ?_⟩ (fun c hc => ?_) h
      ·unfold portV
       split
       ·exact fun e => own0 e.symm
       ·rename_i e; exact e
      ·have := from_head hc
       simpa using this
     ·rw [if_neg hp] at h; cases h
    ·rw [if_neg ht] at h ⊢
     refine tail_good hsch hho ⟨by decide, fun e => own0 e.symm⟩ (fun c hc => ?_) h
     have := from_head hc
     have h58 : c ≠ 58 := fun e => by
      subst e
      cases hx : from_ [47, 63, 35, 58] r with
      | nil => rw [hx] at hc; cases hc
      | cons a b => rw [hx] at hc ht; simp at hc; subst hc; exact ht rfl
     simp only [List.contains_cons, List.contains_nil, Bool.or_eq_true, beq_iff_eq, Bool.or_false] at this
     rcases this with e | e | e | e
     ·exact .inl e
     ·exact .inr (.inl e)
     ·exact .inr (.inr e)
     ·exact absurd e h58
   ·rw [if_neg hh] at h; cases h
theorem tail_back {u : U} (hu : Good u) : tailU u.sch u.host u.port (u.path ++ (if u.ask then 63 :: u.query else [])) = (u, 0) := by
 obtain ⟨h1, h2, h3, ⟨p1, p2, p3, p4⟩, q1, q2, q3⟩ := hu
 have hn : ∀ c ∈ u.path, ([63] : List UInt8).contains c = false := fun c hc => by
  have := List.all_eq_true.1 p3 c hc
  unfold standQ at this
  simp only [Bool.and_eq_true, bne_iff_ne] at this
  simp [this.2]
 have hst := upto_stop (ats := [63]) (a := u.path) (b := if u.ask then 63 :: u.query else []) hn (fun c hc => by
  cases ha : u.ask with
  | true => rw [ha] at hc; simp at hc; subst hc; rfl
  | false => rw [ha] at hc; simp at hc)
 have hp : partU u.path = some u.path := by unfold partU; rw [if_pos (standQ_stand p3)]; exact p2
 have hne : u.path ≠ [] := fun e => by rw [e] at p4; cases p4
 unfold tailU
 rw [hst.1, hst.2, hp]
 simp only
 have hq : partU ((if u.ask = true then 63 :: u.query else []).drop 1) = some u.query := by
  cases ha : u.ask with
  | true =>
   rw [if_pos rfl, List.drop_succ_cons, List.drop_zero]
   unfold partU; rw [if_pos q2]; exact q1
  | false =>
   rw [if_neg (by decide), q3 ha]; rfl
 rw [hq]
 simp only
 rw [if_neg hne, p1]
 have : (!(if u.ask = true then 63 :: u.query else []).isEmpty) = u.ask := by cases u.ask <;> rfl
 rw [this]
theorem strU_back {u : U} (hu : Good u) (hl : (strU u).length ≤ 2000) : pU (strU u) = (u, 0) := by
 have hu' := hu
 obtain ⟨h1, ⟨ho, hlow⟩, h3, ⟨p1, p2, p3, p4⟩, q1, q2, q3⟩ := hu'
 have hhost : ∀ c ∈ u.host, hostB c = true := by
  unfold hostOk at ho
  rw [Bool.and_eq_true] at ho
  exact fun c hc => List.all_eq_true.1 ho.2 c hc
 have hb : ∀ c, hostB c = true → ([47, 63, 35, 58] : List UInt8).contains c = false := fun c hc => by
  have := all_bytes (p := fun c => !hostB c || !([47, 63, 35, 58] : List UInt8).contains c) (by decide +kernel) c
  rw [hc] at this
  simpa using this
 have hlen : ¬ 2000 < (strU u).length := by omega
 have hse : schemeOf (strU u) = some (u.sch, u.host ++ ((if u.port = 0 then [] else 58 :: Go.Lib.decDigits u.port) ++ (u.path ++ (if u.ask then 63 :: u.query else [])))) := by
  have e : strU u = u.sch ++ ([58, 47, 47] ++ (u.host ++ ((if u.port = 0 then [] else 58 :: Go.Lib.decDigits u.port) ++ (u.path ++ (if u.ask then 63 :: u.query else []))))) := by
   unfold strU origin
   simp only [List.append_assoc]
  rw [e]
  generalize u.host ++ ((if u.port = 0 then [] else 58 :: Go.Lib.decDigits u.port) ++ (u.path ++ (if u.ask then 63 :: u.query else []))) = R
  unfold schemeOf
  rcases h1 with h1 | h1
  ·rw [h1]
   have h7 : low (List.take 7 (http ++ ([58, 47, 47] ++ R))) = [104, 116, 116, 112, 58, 47, 47] := rfl
   simp only [h7, if_true]
   rfl
  ·rw [h1]
   have h7 : low (List.take 7 (https ++ ([58, 47, 47] ++ R))) = [104, 116, 116, 112, 115, 58, 47] := rfl
   have h8 : low (List.take 8 (https ++ ([58, 47, 47] ++ R))) = [104, 116, 116, 112, 115, 58, 47, 47] := rfl
   have hne : ¬ ([104, 116, 116, 112, 115, 58, 47] : List UInt8) = [104, 116, 116, 112, 58, 47, 47] := by decide
   simp only [h7, h8, hne, if_true, if_false]
   rfl
 obtain ⟨ps, hps⟩ : ∃ ps, u.path = 47 :: ps := by
  cases hp : u.path with
  | nil => rw [hp] at p4; cases p4
  | cons c ps => rw [hp] at p4; simp at p4; subst p4; exact ⟨ps, rfl⟩
 have hst := upto_stop (ats := [47, 63, 35, 58]) (a := u.host) (b := (if u.port = 0 then [] else 58 :: Go.Lib.decDigits u.port) ++ (u.path ++ (if u.ask then 63 :: u.query else []))) (fun c hc => hb c (hhost c hc)) (fun c hc => by
  by_cases h0 : u.port = 0
  ·rw [if_pos h0, hps] at hc; simp at hc; subst hc; rfl
  ·rw [if_neg h0] at hc; simp at hc; subst hc; rfl)
 have hho : hostOf (u.host ++ ((if u.port = 0 then [] else 58 :: Go.Lib.decDigits u.port) ++ (u.path ++ (if u.ask then 63 :: u.query else [])))) = u.host := by
  unfold hostOf
  rw [hst.1, hlow]
 unfold pU
 rw [if_neg hlen, hse]
 simp only
 rw [hho, if_pos ho, hst.2]
 unfold behind
 by_cases h0 : u.port = 0
 ·rw [if_pos h0, List.nil_append, if_neg (by rw [hps]; simp)]
  have := tail_back hu
  rw [h0] at this
  exact this
 ·rw [if_neg h0]
  obtain ⟨v1, v2, v3, v4⟩ := val_digits u.port
  have hd : ∀ c ∈ Go.Lib.decDigits u.port, ([47, 63, 35] : List UInt8).contains c = false := fun c hc => by
   have h5 := List.all_eq_true.1 v2 c hc
   have := all_bytes (p := fun c => !digB c || !([47, 63, 35] : List UInt8).contains c) (by decide +kernel) c
   rw [h5] at this
   simpa using this
  have hst2 := upto_stop (ats := [47, 63, 35]) (a := Go.Lib.decDigits u.port) (b := u.path ++ (if u.ask then 63 :: u.query else [])) hd (fun c hc => by rw [hps] at hc; simp at hc; subst hc; rfl)
  rw [if_pos (by simp), List.cons_append, List.drop_succ_cons, List.drop_zero, hst2.1, hst2.2]
  have hpk : portOk (Go.Lib.decDigits u.port) = true := by
   unfold portOk
   rw [v1, v2]
   have : ((Go.Lib.decDigits u.port).headD 0 == 48) = false := by
    have h6 := v3 (by omega)
    cases hx : Go.Lib.decDigits u.port with
    | nil => exact absurd hx v4
    | cons a b => rw [hx] at h6; simpa using h6
   rw [this]
   simp only [Bool.not_false, Bool.and_true, Bool.true_and, Bool.and_eq_true, decide_eq_true_eq]
   exact ⟨by omega, h3.1⟩
  rw [if_pos hpk]
  have hpv : portV (Go.Lib.decDigits u.port) u.sch = u.port := by
   unfold portV
   rw [v1, if_neg h3.2]
  rw [hpv]
  exact tail_back hu
theorem nU_idem {s : List UInt8} (h : (nU s).2 = 0) (hl : (nU s).1.length ≤ 2000) : nU (nU s).1 = nU s := by
 have h1 : (pU s).2 = 0 := by
  unfold nU at h
  by_cases h1 : (pU s).2 = 0
  ·exact h1
  ·rw [if_neg h1] at h; exact absurd h h1
 have e : nU s = (strU (pU s).1, 0) := by unfold nU; rw [if_pos h1]
 rw [e] at hl ⊢
 have hb := strU_back (pU_good h1) hl
 unfold nU
 rw [hb]
 rfl
end Ul
namespace Go.Proofs.YtchgkcbloeoopaaGreatDoor
open Gk Pat Rk
set_option linter.unusedVariables false
set_option linter.unusedSimpArgs false
theorem nU_same {a b : List UInt8} {lo : List Sv} (h : Ul.nU a = Ul.nU b) (id : Int) : findR lo a = findR lo b ∧ callR lo id a = callR lo id b := by
 unfold findR callR
 rw [h]
 exact ⟨rfl, rfl⟩
theorem find_n {lo : List Sv} {s : List UInt8} {u : Sv} {n : List UInt8} {e : Nat} (h : findR lo s = (u, n, e)) (he : e = 0) : n = (Ul.nU s).1 := by
 subst he
 unfold findR at h
 split at h
 ·rename_i h1; simp only [Prod.mk.injEq] at h; exact absurd h.2.2 h1
 ·split at h
  ·simp at h
  ·split at h
   ·simp at h
   ·simp only [Prod.mk.injEq] at h; exact h.2.1.symm
theorem call_n {lo : List Sv} {id : Int} {s : List UInt8} : ((callR lo id s).2 = true → (callR lo id s).1 = (Ul.nU s).1) ∧ ((callR lo id s).2 = false → (callR lo id s).1 = []) := by
 unfold callR
 split
 ·exact ⟨fun h => (by cases h), fun _ => rfl⟩
 ·split
  ·exact ⟨fun h => (by cases h), fun _ => rfl⟩
  ·exact ⟨fun _ => rfl, fun h => (by cases h)⟩
theorem call_is {lo : List Sv} {id : Int} {s : List UInt8} (h : (callR lo id s).2 = true) : lo.any (fun t => t.id == id) = true ∧ (Ul.nU s).2 = 0 ∧ (Ul.pU s).1.sch = Ul.https := by
 unfold callR at h
 split at h
 ·cases h
 ·rename_i u hu
  split at h
  ·cases h
  ·rename_i hc
   simp only [Bool.or_eq_true, not_or, bne_iff_ne, ne_eq, Decidable.not_not, Bool.not_eq_true', Bool.not_eq_false, decide_eq_true_eq] at hc
   have hz : (Ul.nU s).2 = 0 := by omega
   exact ⟨List.any_eq_true.2 ⟨u, List.mem_of_find?_eq_some hu, (List.find?_some (p := fun (t : Sv) => t.id == id) hu)⟩, hz, (pre_sec hz).2 hc.1.2⟩
theorem pick_any {l : List Sv} {D : List Int} (hD : Srt.Ord (kx (ords l)) l.length D) (p : Sv → Bool) : (pickS l D).any p = l.any p := by
 rw [Bool.eq_iff_iff, List.any_eq_true, List.any_eq_true]
 constructor
 ·rintro ⟨x, h1, h2⟩; exact ⟨x, (pick_mem hD).1 h1, h2⟩
 ·rintro ⟨x, h1, h2⟩; exact ⟨x, (pick_mem hD).2 h1, h2⟩
theorem pick_key {l : List Sv} {D : List Int} (hD : Srt.Ord (kx (ords l)) l.length D) {i : Nat} {u v : Sv} (h0 : 0 < i) (hu : (pickS l D)[i]? = some u) (hv : (pickS l D)[i - 1]? = some v) : ¬ keyN u.ord < keyN v.ord := by
 obtain ⟨d, hd, _, hlu⟩ := pick_get hD hu
 obtain ⟨e, he, _, hlv⟩ := pick_get hD hv
 have hi := (List.getElem?_eq_some_iff.1 hd).1
 have := Srt.so_key hD.1 (show i - 1 ≤ i by omega) hi
 rw [List.getD_eq_getElem?_getD, List.getD_eq_getElem?_getD, hd, he] at this
 have e1 : ∀ (d : Int) (u : Sv), l[d.toNat]? = some u → kx (ords l) d = keyN u.ord := fun d u h => by
  show keyN ((ords l).getD d.toNat 0) = _
  unfold ords
  rw [List.getD_eq_getElem?_getD, List.getElem?_map, h]; rfl
 rw [show (some d : Option Int).getD 0 = d from rfl, show (some e : Option Int).getD 0 = e from rfl, e1 d u hlu, e1 e v hlv] at this
 omega
theorem find_hit {lo : List Sv} {s : List UInt8} {i : Nat} {u u1 : Sv} {n1 : List UInt8} {e1 : Nat} (hz : (Ul.nU s).2 = 0) (hn : ¬ 100 < (Ul.nU s).1.length) (hf : findR lo s = (u1, n1, e1)) (hno : ∀ (j : Nat) t, j < i → lo[j]? = some t → (mtch t.urls (Ul.nU s).1).1 = false) (hu : lo[i]? = some u) (hm : (mtch u.urls (Ul.nU s).1).1 = true) : u1 = u ∧ e1 = 0 := by
 unfold findR at hf
 rw [if_neg (by omega), if_neg hn, find_at (p := fun t => (mtch t.urls (Ul.nU s).1).1) (j := i) (d := u) (fun q e hq he => hno q e hq he) hu hm] at hf
 simp only [Prod.mk.injEq] at hf
 exact ⟨hf.1.symm, hf.2.2.symm⟩
theorem find_miss {lo : List Sv} {s : List UInt8} {u1 : Sv} {n1 : List UInt8} {e1 : Nat} (hz : (Ul.nU s).2 = 0) (hn : ¬ 100 < (Ul.nU s).1.length) (hf : findR lo s = (u1, n1, e1)) (hno : ∀ (j : Nat) t, lo[j]? = some t → (mtch t.urls (Ul.nU s).1).1 = false) : e1 = 31 := by
 unfold findR at hf
 rw [if_neg (by omega), if_neg hn, find_no (p := fun t => (mtch t.urls (Ul.nU s).1).1) (fun q e he => hno q e he)] at hf
 simp only [Prod.mk.injEq] at hf
 exact hf.2.2.symm
set_option maxHeartbeats 600000 in
theorem ServicesFinds_any (a : Option Addr) (cap : Nat) (L : List (List Value)) (l : List Sv) (hcap : l.length ≤ cap) (hcm : cap ≤ maxLen) (hfits : ∀ s ∈ l, s.fits) (s : List UInt8) (id : Int) (B w : World) (I : Im) (hK : Known I) (hl : SvsIn I a L l) (As : List Assn) (hS : Sat B w I As) :
  Calls Tryz.prog 5 [.slice a l.length cap, S s, I64 id].toArray w (Ret fun v w' => v = .bool true ∧ ∃ J, Le I J ∧ Sat B w' J As) := by
 refine calls Tryz.func5 rfl Tryz.ntmps5 rfl ?_
 refine WC.seq ?_
 refine WC.region ?_
 refine WL.val (.assign (.of rfl)) rfl ?_
 refine WL.nil ?_
 refine WC.seq ?_
 refine WC.region ?_
 refine WL.call Tryz.func8 rfl evs_nil rfl (awake18_any B _ I hK As hS) ?_
 clear hS
 rintro _ w ⟨rfl, hS⟩
 refine WL.val (.assign (.of rfl)) rfl ?_
 refine WL.nil ?_
 refine WC.seq ?_
 refine WC.region ?_
 refine WL.val (.move (.of rfl)) rfl ?_
 refine WL.call Tryz.func9 rfl (evs_cons (.of rfl) evs_nil) rfl (Few_any a cap l hcap hcm B _ I hl.svs As hS) ?_
 clear hS
 rintro _ w ⟨rfl, hS⟩
 refine WL.val (.assign (.of rfl)) rfl ?_
 refine WL.nil ?_
 refine WC.seq ?_
 refine WC.seq ?_
 refine WC.region ?_
 refine WL.val (.move (.of rfl)) rfl ?_
 refine WL.val (.not (.of rfl)) rfl ?_
 refine WL.val (.move (.of rfl)) rfl ?_
 refine WL.gval rfl rfl (fun hg1 => (.move (.of rfl))) rfl ?_
 refine WL.gval rfl rfl (fun hg1 => (.len (.gd hg1 rfl) Tryz.underlying9)) rfl ?_
 refine WL.gval rfl rfl (fun hg1 => (.gtr (.gd hg1 rfl) (.of rfl))) rfl ?_
 refine WL.val (.por (.of rfl) (.of rfl) (.of rfl)) rfl ?_
 refine WL.nil ?_
 refine WC.cond rfl (fun hb33 => ?_) (fun hb33 => ?_)
 ·
  have hc33 := hb33; try simp only [Gk.cs0] at hc33
  refine WC.seq ?_
  refine WC.region ?_
  refine WL.val (.move (.of rfl)) rfl ?_
  refine WL.val (.assign (.of rfl)) rfl ?_
  refine WL.nil ?_
  refine WC.ret ?_
  refine ret1 Tryz.results5 rfl ?_
  exact ⟨_, rfl, rfl, I, Le.refl _, hS⟩
 ·
  have hc33 := hb33; try simp only [Gk.cs0] at hc33
  refine WC.skip ?_
  refine WC.seq ?_
  have hfew : few l = true ∧ s.length ≤ 200 := by
   have := hb33
   simp only [Bool.or_eq_false_iff, Bool.not_eq_false', decide_eq_false_iff_not] at this
   exact ⟨this.1, by omega⟩
  have hs100 := hfew.2
  obtain ⟨hln, hrel⟩ := few_facts hfew.1
  have hom := fits_ord hfits
  have hfit := fits_fit hfits hrel
  have hfit2 : ∀ s ∈ l, s.urls.length ≤ 9223372036854775807 ∧ s.calls.length ≤ 9223372036854775807 := fun s hs => ⟨(hfit s hs).1, (hfit s hs).2.1⟩
  have hs1 : s.length ≤ 1000000 := by omega
  refine WC.region ?_
  refine WL.val (.move (.of rfl)) rfl ?_
  refine WL.call Tryz.func10 rfl (evs_cons (.of rfl) evs_nil) rfl (New_any a cap l (by omega) hom hfit B _ I hl.svs As hS) ?_
  clear hS
  rintro _ w ⟨J, hJ, hS, hcase⟩
  replace hl := hl.mono hJ
  replace hK := hK.mono hJ
  rcases hcase with ⟨hne, rfl⟩ | ⟨hw0, pr, D, rfl, hD, ra, rcc, E, hreg, hrcc, hE⟩
  ·
   refine WL.val (.move (.of rfl)) rfl ?_
   refine WL.val (.extract (.of rfl) rfl) rfl ?_
   refine WL.val (.extract (.of rfl) rfl) rfl ?_
   refine WL.val (.extract (.of rfl) rfl) rfl ?_
   refine WL.val (.assign (.of rfl)) rfl ?_
   refine WL.val (.assign (.of rfl)) rfl ?_
   refine WL.val (.assign (.of rfl)) rfl ?_
   refine WL.nil ?_
   refine WC.seq ?_
   refine WC.region ?_
   refine WL.val (.move (.of rfl)) rfl ?_
   refine WL.call Tryz.func11 rfl (evs_cons (.of rfl) evs_nil) rfl (Wrong_any a cap l (by omega) hfit2 B _ J hl.svs As hS) ?_
   clear hS
   rintro _ w ⟨rfl, hS⟩
   refine WL.val (.move (.of rfl)) rfl ?_
   refine WL.val (.extract (.of rfl) rfl) rfl ?_
   refine WL.val (.extract (.of rfl) rfl) rfl ?_
   refine WL.val (.assign (.of rfl)) rfl ?_
   refine WL.val (.assign (.of rfl)) rfl ?_
   refine WL.nil ?_
   refine WC.seq ?_
   refine WC.seq ?_
   refine WC.region ?_
   refine WL.val (.move (.of rfl)) rfl ?_
   refine WL.val (.move (.of rfl)) rfl ?_
   refine WL.val (.neq (.of rfl) (.of rfl)) rfl ?_
   refine WL.val (.move (.of rfl)) rfl ?_
   refine WL.gval rfl rfl (fun hg1 => (.move (.of rfl))) rfl ?_
   refine WL.gval rfl rfl (fun hg1 => (.eqp (.gd hg1 rfl) (.of rfl) Tryz.underlying25)) rfl ?_
   refine WL.gval rfl rfl (fun hg1 => (.move (.of rfl))) rfl ?_
   refine WL.gval rfl rfl (fun hg1 => (.neq (.gd hg1 rfl) (.of rfl))) rfl ?_
   refine WL.gval rfl rfl (fun hg1 => (.neb (.gd hg1 rfl) (.gd hg1 rfl) Tryz.underlying4)) rfl ?_
   refine WL.val (.por (.of rfl) (.of rfl) (.of rfl)) rfl ?_
   refine WL.nil ?_
   refine WC.cond rfl (fun hb55 => ?_) (fun hb55 => ?_)
   ·
    have hc55 := hb55; try simp only [Gk.cs0] at hc55
    refine WC.seq ?_
    refine WC.region ?_
    refine WL.val (.assign (.of rfl)) rfl ?_
    refine WL.nil ?_
    refine WC.ret ?_
    refine ret1 Tryz.results5 rfl ?_
    exfalso; simp [hne] at hb55
   ·
    have hc55 := hb55; try simp only [Gk.cs0] at hc55
    refine WC.skip ?_
    refine WC.seq ?_
    refine WC.seq ?_
    refine WC.region ?_
    refine WL.val (.move (.of rfl)) rfl ?_
    refine WL.val (.eqp (.of rfl) (.of rfl) Tryz.underlying25) rfl ?_
    refine WL.nil ?_
    refine WC.condT (rfl) ?_
    refine WC.seq ?_
    refine WC.region ?_
    refine WL.val (.move (.of rfl)) rfl ?_
    refine WL.val (.assign (.of rfl)) rfl ?_
    refine WL.nil ?_
    refine WC.ret ?_
    refine ret1 Tryz.results5 rfl ?_
    exact ⟨_, rfl, rfl, J, hJ, hS⟩
  ·
   have hpl := pick_len hD
   have hplo : (pickS l D).length ≤ 100000 := by omega
   have hprl : ∀ s ∈ pickS l D, s.rel.length ≤ 1000000 := fun s hs => (hfit s ((pick_mem hD).1 hs)).2.2
   refine WL.val (.move (.of rfl)) rfl ?_
   refine WL.val (.extract (.of rfl) rfl) rfl ?_
   refine WL.val (.extract (.of rfl) rfl) rfl ?_
   refine WL.val (.extract (.of rfl) rfl) rfl ?_
   refine WL.val (.assign (.of rfl)) rfl ?_
   refine WL.val (.assign (.of rfl)) rfl ?_
   refine WL.val (.assign (.of rfl)) rfl ?_
   refine WL.nil ?_
   refine WC.seq ?_
   refine WC.region ?_
   refine WL.val (.move (.of rfl)) rfl ?_
   refine WL.call Tryz.func11 rfl (evs_cons (.of rfl) evs_nil) rfl (Wrong_any a cap l (by omega) hfit2 B _ J hl.svs As hS) ?_
   clear hS
   rintro _ w ⟨rfl, hS⟩
   refine WL.val (.move (.of rfl)) rfl ?_
   refine WL.val (.extract (.of rfl) rfl) rfl ?_
   refine WL.val (.extract (.of rfl) rfl) rfl ?_
   refine WL.val (.assign (.of rfl)) rfl ?_
   refine WL.val (.assign (.of rfl)) rfl ?_
   refine WL.nil ?_
   refine WC.seq ?_
   refine WC.seq ?_
   refine WC.region ?_
   refine WL.val (.move (.of rfl)) rfl ?_
   refine WL.val (.move (.of rfl)) rfl ?_
   refine WL.val (.neq (.of rfl) (.of rfl)) rfl ?_
   refine WL.val (.move (.of rfl)) rfl ?_
   refine WL.gval rfl rfl (fun hg1 => (.move (.of rfl))) rfl ?_
   refine WL.gval rfl rfl (fun hg1 => (.eqp (.gd hg1 rfl) (.of rfl) Tryz.underlying25)) rfl ?_
   refine WL.gval rfl rfl (fun hg1 => (.move (.of rfl))) rfl ?_
   refine WL.gval rfl rfl (fun hg1 => (.neq (.gd hg1 rfl) (.of rfl))) rfl ?_
   refine WL.gval rfl rfl (fun hg1 => (.neb (.gd hg1 rfl) (.gd hg1 rfl) Tryz.underlying4)) rfl ?_
   refine WL.val (.por (.of rfl) (.of rfl) (.of rfl)) rfl ?_
   refine WL.nil ?_
   refine WC.cond rfl (fun hb55 => ?_) (fun hb55 => ?_)
   ·
    have hc55 := hb55; try simp only [Gk.cs0] at hc55
    refine WC.seq ?_
    refine WC.region ?_
    refine WL.val (.assign (.of rfl)) rfl ?_
    refine WL.nil ?_
    refine WC.ret ?_
    refine ret1 Tryz.results5 rfl ?_
    exfalso; simp [hw0] at hb55
   ·
    have hc55 := hb55; try simp only [Gk.cs0] at hc55
    refine WC.skip ?_
    refine WC.seq ?_
    refine WC.seq ?_
    refine WC.region ?_
    refine WL.val (.move (.of rfl)) rfl ?_
    refine WL.val (.eqp (.of rfl) (.of rfl) Tryz.underlying25) rfl ?_
    refine WL.nil ?_
    refine WC.condF (rfl) ?_
    refine WC.skip ?_
    refine WC.seq ?_
    refine WC.region ?_
    refine WL.val (.move (.of rfl)) rfl ?_
    refine WL.val (.move (.of rfl)) rfl ?_
    refine WL.call Tryz.func16 rfl (evs_cons (.of rfl) (evs_cons (.of rfl) evs_nil)) rfl (RegFind_any pr (pickS l D) hplo hprl s hs1 ra rcc E B _ J hK hreg hE _ hS) ?_
    clear hS
    rintro _ w ⟨J1, u1, c1, n1, e1, hJ1, rfl, ⟨x1, x2, rfl, hx3, hx4⟩, hf1, hS⟩
    have hur := find_rel hf1 hprl
    replace hl := hl.mono hJ1
    replace hK := hK.mono hJ1
    replace hreg := hreg.mono hJ1
    replace hE := hE.mono hJ1
    unfold svCells
    refine WL.val (.move (.of rfl)) rfl ?_
    refine WL.val (.extract (.of rfl) rfl) rfl ?_
    refine WL.val (.extract (.of rfl) rfl) rfl ?_
    refine WL.val (.extract (.of rfl) rfl) rfl ?_
    refine WL.allocA (cs := [_, _, _, _, _, _, _, _]) hS Tryz.zeroValue37 rfl ?_
    clear hS; intro b14 w hS
    first | refine WL.stA hS (k := 0) rfl (.of rfl) (.of rfl) rfl Tryz.sizeOf37 rfl (by simp) ?_
    clear hS; intro w hS; try dsimp only [List.set] at hS
    try simp only [List.take_zero, List.nil_append, List.append_nil, List.drop_succ_cons, List.drop_zero, List.drop_nil, Nat.zero_add] at hS
    refine WL.val (.assign (.of rfl)) rfl ?_
    refine WL.val (.assign (.of rfl)) rfl ?_
    refine WL.nil ?_
    refine WC.seq ?_
    refine WC.region ?_
    refine WL.val (.move (.of rfl)) rfl ?_
    refine WL.val (.move (.of rfl)) rfl ?_
    refine WL.call Tryz.func20 rfl (evs_cons (.of rfl) (evs_cons (.of rfl) evs_nil)) rfl (refFind_any a cap L l (by omega) hom (right_of hw0) s hs1 B _ J1 hl _ hS) ?_
    clear hS
    rintro _ w ⟨J2, u2, c2, n2, e2, hJ2, rfl, ⟨y1, y2, rfl, hy3, hy4⟩, hf2, hS⟩
    have hff := hf2 D hD
    rw [find_eq, hf1] at hff
    simp only [Prod.mk.injEq] at hff
    obtain ⟨rfl, rfl, rfl⟩ := hff
    replace hl := hl.mono hJ2
    replace hK := hK.mono hJ2
    replace hreg := hreg.mono hJ2
    replace hE := hE.mono hJ2
    replace hx4 := hx4.mono hJ2
    unfold svCells
    refine WL.val (.move (.of rfl)) rfl ?_
    refine WL.val (.extract (.of rfl) rfl) rfl ?_
    refine WL.val (.extract (.of rfl) rfl) rfl ?_
    refine WL.val (.extract (.of rfl) rfl) rfl ?_
    refine WL.allocA (cs := [_, _, _, _, _, _, _, _]) hS Tryz.zeroValue37 rfl ?_
    clear hS; intro b17 w hS
    first | refine WL.stA hS (k := 0) rfl (.of rfl) (.of rfl) rfl Tryz.sizeOf37 rfl (by simp) ?_ | refine WL.stA hS (k := 1) rfl (.of rfl) (.of rfl) rfl Tryz.sizeOf37 rfl (by simp) ?_
    clear hS; intro w hS; try dsimp only [List.set] at hS
    try simp only [List.take_zero, List.nil_append, List.append_nil, List.drop_succ_cons, List.drop_zero, List.drop_nil, Nat.zero_add] at hS
    refine WL.val (.assign (.of rfl)) rfl ?_
    refine WL.val (.assign (.of rfl)) rfl ?_
    refine WL.nil ?_
    refine WC.seq ?_
    refine WC.region ?_
    refine WL.val (.move (.of rfl)) rfl ?_
    refine WL.val (.move (.of rfl)) rfl ?_
    refine WL.val (.move (.of rfl)) rfl ?_
    refine WL.call Tryz.func21 rfl (evs_cons (.of rfl) (evs_cons (.of rfl) (evs_cons (.of rfl) evs_nil))) rfl (RegCalls_any pr (pickS l D) hplo hprl id s hs1 ra rcc E B _ J2 hK hreg hE _ hS) ?_
    clear hS
    rintro _ w ⟨rfl, hS⟩
    refine WL.val (.move (.of rfl)) rfl ?_
    refine WL.val (.extract (.of rfl) rfl) rfl ?_
    refine WL.val (.extract (.of rfl) rfl) rfl ?_
    refine WL.val (.assign (.of rfl)) rfl ?_
    refine WL.val (.assign (.of rfl)) rfl ?_
    refine WL.nil ?_
    refine WC.seq ?_
    refine WC.region ?_
    refine WL.val (.move (.of rfl)) rfl ?_
    refine WL.val (.move (.of rfl)) rfl ?_
    refine WL.val (.move (.of rfl)) rfl ?_
    refine WL.call Tryz.func22 rfl (evs_cons (.of rfl) (evs_cons (.of rfl) (evs_cons (.of rfl) evs_nil))) rfl (refCalls_any a cap L l (by omega) (right_of hw0) id s hs1 B _ J2 hl _ hS) ?_
    clear hS
    rintro _ w ⟨J3, hJ3, rfl, hS⟩
    rw [call_eq hw0 hD id s]
    replace hx4 := hx4.mono hJ3
    replace hy4 := hy4.mono hJ3
    refine WL.val (.move (.of rfl)) rfl ?_
    refine WL.val (.extract (.of rfl) rfl) rfl ?_
    refine WL.val (.extract (.of rfl) rfl) rfl ?_
    refine WL.val (.assign (.of rfl)) rfl ?_
    refine WL.val (.assign (.of rfl)) rfl ?_
    refine WL.nil ?_
    refine WC.seq ?_
    refine WC.region ?_
    refine WL.val (.move (.of rfl)) rfl ?_
    refine WL.val (.move (.of rfl)) rfl ?_
    refine WL.gval rfl rfl (fun hg1 => (by first | exact (.ldsW (cs := [_, _, _, _, _, _, _, _]) (.of rfl) hS (k := 0) rfl Tryz.isAgg37 Tryz.sizeOf37 rfl) | exact (.lds (vs := [_, _, _, _, _, _, _, _]) (.of rfl) hS (k := 0) rfl Tryz.isAgg37 Tryz.sizeOf37 rfl (fun _ _ h => h)) | exact (.ldsW (cs := [_, _, _, _, _, _, _, _]) (.of rfl) hS (k := 1) rfl Tryz.isAgg37 Tryz.sizeOf37 rfl) | exact (.lds (vs := [_, _, _, _, _, _, _, _]) (.of rfl) hS (k := 1) rfl Tryz.isAgg37 Tryz.sizeOf37 rfl (fun _ _ h => h)))) rfl ?_
    refine WL.gval rfl rfl (fun hg1 => (by first | exact (.ldsW (cs := [_, _, _, _, _, _, _, _]) (.of rfl) hS (k := 0) rfl Tryz.isAgg37 Tryz.sizeOf37 rfl) | exact (.lds (vs := [_, _, _, _, _, _, _, _]) (.of rfl) hS (k := 0) rfl Tryz.isAgg37 Tryz.sizeOf37 rfl (fun _ _ h => h)) | exact (.ldsW (cs := [_, _, _, _, _, _, _, _]) (.of rfl) hS (k := 1) rfl Tryz.isAgg37 Tryz.sizeOf37 rfl) | exact (.lds (vs := [_, _, _, _, _, _, _, _]) (.of rfl) hS (k := 1) rfl Tryz.isAgg37 Tryz.sizeOf37 rfl (fun _ _ h => h)))) rfl ?_
    refine WL.gcall (T := fun w => Sat B w J3 _) rfl rfl rfl Tryz.func14 rfl (fun hg1 => (evs_cons (.gd hg1 rfl) (evs_cons (.gd hg1 rfl) evs_nil))) rfl (fun hg1 => SameSv_any u1 u1 x1 y1 x2 y2 hx3 hy3 hur B _ J3 hx4 hy4 _ hS) hS ?_
    clear hS; rintro w hS
    refine WL.val (.pand (.of rfl) (.of rfl) (.of rfl)) rfl ?_
    refine WL.val (.move (.of rfl)) rfl ?_
    refine WL.gval rfl rfl (fun hg1 => (.move (.of rfl))) rfl ?_
    refine WL.gval rfl rfl (fun hg1 => (.move (.of rfl))) rfl ?_
    refine WL.gval rfl rfl (fun hg1 => (.eqs (.gd hg1 rfl) (.gd hg1 rfl))) rfl ?_
    refine WL.val (.pand (.of rfl) (.of rfl) (.of rfl)) rfl ?_
    refine WL.val (.move (.of rfl)) rfl ?_
    refine WL.gval rfl rfl (fun hg1 => (.move (.of rfl))) rfl ?_
    refine WL.gval rfl rfl (fun hg1 => (.move (.of rfl))) rfl ?_
    refine WL.gval rfl rfl (fun hg1 => (.eql (.gd hg1 rfl) (.gd hg1 rfl))) rfl ?_
    refine WL.val (.pand (.of rfl) (.of rfl) (.of rfl)) rfl ?_
    refine WL.val (.move (.of rfl)) rfl ?_
    refine WL.gval rfl rfl (fun hg1 => (.move (.of rfl))) rfl ?_
    refine WL.gval rfl rfl (fun hg1 => (.move (.of rfl))) rfl ?_
    refine WL.gval rfl rfl (fun hg1 => (.eqs (.gd hg1 rfl) (.gd hg1 rfl))) rfl ?_
    refine WL.val (.pand (.of rfl) (.of rfl) (.of rfl)) rfl ?_
    refine WL.val (.move (.of rfl)) rfl ?_
    refine WL.gval rfl rfl (fun hg1 => (.move (.of rfl))) rfl ?_
    refine WL.gval rfl rfl (fun hg1 => (.move (.of rfl))) rfl ?_
    refine WL.gval rfl rfl (fun hg1 => (.eqb (.gd hg1 rfl) (.gd hg1 rfl) Tryz.underlying4)) rfl ?_
    refine WL.val (.pand (.of rfl) (.of rfl) (.of rfl)) rfl ?_
    refine WL.val (.assign (.of rfl)) rfl ?_
    refine WL.nil ?_
    refine WC.ret ?_
    refine ret1 Tryz.results5 rfl ?_
    refine ⟨_, rfl, congrArg Value.bool ?_, J3, Le.trans hJ (Le.trans hJ1 (Le.trans hJ2 hJ3)), (hS.drop (k := 0) rfl).drop (k := 0) rfl⟩
    rw [(sameSv_iff u1 u1).2 rfl]
    simp
set_option maxHeartbeats 600000 in
theorem ServicesOneWay_any (a : Option Addr) (cap : Nat) (L : List (List Value)) (l : List Sv) (hcap : l.length ≤ cap) (hcm : cap ≤ maxLen) (hfits : ∀ s ∈ l, s.fits) (s : List UInt8) (id : Int) (B w : World) (I : Im) (hK : Known I) (hl : SvsIn I a L l) (As : List Assn) (hS : Sat B w I As) :
  Calls Tryz.prog 6 [.slice a l.length cap, S s, I64 id].toArray w (Ret fun v w' => v = .bool true ∧ ∃ J, Le I J ∧ Sat B w' J As) := by
 refine calls Tryz.func6 rfl Tryz.ntmps6 rfl ?_
 refine WC.seq ?_
 refine WC.region ?_
 refine WL.val (.assign (.of rfl)) rfl ?_
 refine WL.nil ?_
 refine WC.seq ?_
 refine WC.region ?_
 refine WL.call Tryz.func8 rfl evs_nil rfl (awake18_any B _ I hK As hS) ?_
 clear hS
 rintro _ w ⟨rfl, hS⟩
 refine WL.val (.assign (.of rfl)) rfl ?_
 refine WL.nil ?_
 refine WC.seq ?_
 refine WC.region ?_
 refine WL.val (.move (.of rfl)) rfl ?_
 refine WL.call Tryz.func9 rfl (evs_cons (.of rfl) evs_nil) rfl (Few_any a cap l hcap hcm B _ I hl.svs As hS) ?_
 clear hS
 rintro _ w ⟨rfl, hS⟩
 refine WL.val (.assign (.of rfl)) rfl ?_
 refine WL.nil ?_
 refine WC.seq ?_
 refine WC.seq ?_
 refine WC.region ?_
 refine WL.val (.move (.of rfl)) rfl ?_
 refine WL.val (.not (.of rfl)) rfl ?_
 refine WL.val (.move (.of rfl)) rfl ?_
 refine WL.gval rfl rfl (fun hg1 => (.move (.of rfl))) rfl ?_
 refine WL.gval rfl rfl (fun hg1 => (.len (.gd hg1 rfl) Tryz.underlying9)) rfl ?_
 refine WL.gval rfl rfl (fun hg1 => (.gtr (.gd hg1 rfl) (.of rfl))) rfl ?_
 refine WL.val (.por (.of rfl) (.of rfl) (.of rfl)) rfl ?_
 refine WL.nil ?_
 refine WC.cond rfl (fun hb33 => ?_) (fun hb33 => ?_)
 ·
  have hc33 := hb33; try simp only [Gk.cs0] at hc33
  refine WC.seq ?_
  refine WC.region ?_
  refine WL.val (.move (.of rfl)) rfl ?_
  refine WL.val (.assign (.of rfl)) rfl ?_
  refine WL.nil ?_
  refine WC.ret ?_
  refine ret1 Tryz.results6 rfl ?_
  exact ⟨_, rfl, rfl, I, Le.refl _, hS⟩
 ·
  have hc33 := hb33; try simp only [Gk.cs0] at hc33
  refine WC.skip ?_
  refine WC.seq ?_
  have hfew : few l = true ∧ s.length ≤ 100 := by
   have := hb33
   simp only [Bool.or_eq_false_iff, Bool.not_eq_false', decide_eq_false_iff_not] at this
   exact ⟨this.1, by omega⟩
  have hs100 := hfew.2
  obtain ⟨hln, hrel⟩ := few_facts hfew.1
  have hom := fits_ord hfits
  have hfit := fits_fit hfits hrel
  have hfit2 : ∀ s ∈ l, s.urls.length ≤ 9223372036854775807 ∧ s.calls.length ≤ 9223372036854775807 := fun s hs => ⟨(hfit s hs).1, (hfit s hs).2.1⟩
  have hs1 : s.length ≤ 1000000 := by omega
  refine WC.region ?_
  refine WL.val (.move (.of rfl)) rfl ?_
  refine WL.call Tryz.func10 rfl (evs_cons (.of rfl) evs_nil) rfl (New_any a cap l (by omega) hom hfit B _ I hl.svs As hS) ?_
  clear hS
  rintro _ w ⟨J, hJ, hS, hcase⟩
  replace hl := hl.mono hJ
  replace hK := hK.mono hJ
  rcases hcase with ⟨hne, rfl⟩ | ⟨hw0, pr, D, rfl, hD, ra, rcc, E, hreg, hrcc, hE⟩
  ·
   refine WL.val (.move (.of rfl)) rfl ?_
   refine WL.val (.extract (.of rfl) rfl) rfl ?_
   refine WL.val (.extract (.of rfl) rfl) rfl ?_
   refine WL.val (.extract (.of rfl) rfl) rfl ?_
   refine WL.val (.assign (.of rfl)) rfl ?_
   refine WL.val (.assign (.of rfl)) rfl ?_
   refine WL.val (.assign (.of rfl)) rfl ?_
   refine WL.nil ?_
   refine WC.seq ?_
   refine WC.region ?_
   refine WL.val (.move (.of rfl)) rfl ?_
   refine WL.call Tryz.func15 rfl (evs_cons (.of rfl) evs_nil) rfl (refUNormal_any s hs1 B _ J _ hS) ?_
   clear hS
   rintro _ w ⟨rfl, hS⟩
   refine WL.val (.move (.of rfl)) rfl ?_
   refine WL.val (.extract (.of rfl) rfl) rfl ?_
   refine WL.val (.extract (.of rfl) rfl) rfl ?_
   refine WL.val (.assign (.of rfl)) rfl ?_
   refine WL.val (.assign (.of rfl)) rfl ?_
   refine WL.nil ?_
   refine WC.seq ?_
   refine WC.seq ?_
   refine WC.region ?_
   refine WL.val (.move (.of rfl)) rfl ?_
   refine WL.val (.eqp (.of rfl) (.of rfl) Tryz.underlying25) rfl ?_
   refine WL.val (.move (.of rfl)) rfl ?_
   refine WL.gval rfl rfl (fun hg1 => (.move (.of rfl))) rfl ?_
   refine WL.gval rfl rfl (fun hg1 => (.neq (.gd hg1 rfl) (.of rfl))) rfl ?_
   refine WL.val (.por (.of rfl) (.of rfl) (.of rfl)) rfl ?_
   refine WL.val (.move (.of rfl)) rfl ?_
   refine WL.gval rfl rfl (fun hg1 => (.move (.of rfl))) rfl ?_
   refine WL.gval rfl rfl (fun hg1 => (.neq (.gd hg1 rfl) (.of rfl))) rfl ?_
   refine WL.val (.por (.of rfl) (.of rfl) (.of rfl)) rfl ?_
   refine WL.val (.move (.of rfl)) rfl ?_
   refine WL.gval rfl rfl (fun hg1 => (.move (.of rfl))) rfl ?_
   refine WL.gval rfl rfl (fun hg1 => (.len (.gd hg1 rfl) Tryz.underlying9)) rfl ?_
   refine WL.gval rfl rfl (fun hg1 => (.gtr (.gd hg1 rfl) (.of rfl))) rfl ?_
   refine WL.val (.por (.of rfl) (.of rfl) (.of rfl)) rfl ?_
   refine WL.nil ?_
   refine WC.condT (rfl) ?_
   refine WC.seq ?_
   refine WC.region ?_
   refine WL.val (.move (.of rfl)) rfl ?_
   refine WL.val (.assign (.of rfl)) rfl ?_
   refine WL.nil ?_
   refine WC.ret ?_
   refine ret1 Tryz.results6 rfl ?_
   exact ⟨_, rfl, rfl, J, hJ, hS⟩
  ·
   have hpl := pick_len hD
   have hplo : (pickS l D).length ≤ 100000 := by omega
   have hprl : ∀ s ∈ pickS l D, s.rel.length ≤ 1000000 := fun s hs => (hfit s ((pick_mem hD).1 hs)).2.2
   refine WL.val (.move (.of rfl)) rfl ?_
   refine WL.val (.extract (.of rfl) rfl) rfl ?_
   refine WL.val (.extract (.of rfl) rfl) rfl ?_
   refine WL.val (.extract (.of rfl) rfl) rfl ?_
   refine WL.val (.assign (.of rfl)) rfl ?_
   refine WL.val (.assign (.of rfl)) rfl ?_
   refine WL.val (.assign (.of rfl)) rfl ?_
   refine WL.nil ?_
   refine WC.seq ?_
   refine WC.region ?_
   refine WL.val (.move (.of rfl)) rfl ?_
   refine WL.call Tryz.func15 rfl (evs_cons (.of rfl) evs_nil) rfl (refUNormal_any s hs1 B _ J _ hS) ?_
   clear hS
   rintro _ w ⟨rfl, hS⟩
   refine WL.val (.move (.of rfl)) rfl ?_
   refine WL.val (.extract (.of rfl) rfl) rfl ?_
   refine WL.val (.extract (.of rfl) rfl) rfl ?_
   refine WL.val (.assign (.of rfl)) rfl ?_
   refine WL.val (.assign (.of rfl)) rfl ?_
   refine WL.nil ?_
   refine WC.seq ?_
   refine WC.seq ?_
   refine WC.region ?_
   refine WL.val (.move (.of rfl)) rfl ?_
   refine WL.val (.eqp (.of rfl) (.of rfl) Tryz.underlying25) rfl ?_
   refine WL.val (.move (.of rfl)) rfl ?_
   refine WL.gval rfl rfl (fun hg1 => (.move (.of rfl))) rfl ?_
   refine WL.gval rfl rfl (fun hg1 => (.neq (.gd hg1 rfl) (.of rfl))) rfl ?_
   refine WL.val (.por (.of rfl) (.of rfl) (.of rfl)) rfl ?_
   refine WL.val (.move (.of rfl)) rfl ?_
   refine WL.gval rfl rfl (fun hg1 => (.move (.of rfl))) rfl ?_
   refine WL.gval rfl rfl (fun hg1 => (.neq (.gd hg1 rfl) (.of rfl))) rfl ?_
   refine WL.val (.por (.of rfl) (.of rfl) (.of rfl)) rfl ?_
   refine WL.val (.move (.of rfl)) rfl ?_
   refine WL.gval rfl rfl (fun hg1 => (.move (.of rfl))) rfl ?_
   refine WL.gval rfl rfl (fun hg1 => (.len (.gd hg1 rfl) Tryz.underlying9)) rfl ?_
   refine WL.gval rfl rfl (fun hg1 => (.gtr (.gd hg1 rfl) (.of rfl))) rfl ?_
   refine WL.val (.por (.of rfl) (.of rfl) (.of rfl)) rfl ?_
   refine WL.nil ?_
   refine WC.cond rfl (fun hb60 => ?_) (fun hb60 => ?_)
   ·
    have hc60 := hb60; try simp only [Gk.cs0] at hc60
    refine WC.seq ?_
    refine WC.region ?_
    refine WL.val (.move (.of rfl)) rfl ?_
    refine WL.val (.assign (.of rfl)) rfl ?_
    refine WL.nil ?_
    refine WC.ret ?_
    refine ret1 Tryz.results6 rfl ?_
    exact ⟨_, rfl, rfl, J, hJ, hS⟩
   ·
    have hc60 := hb60; try simp only [Gk.cs0] at hc60
    refine WC.skip ?_
    refine WC.seq ?_
    have hzn : (Ul.nU s).2 = 0 ∧ ¬ 100 < (Ul.nU s).1.length := by
     have := hb60
     simp only [Bool.or_eq_false_iff, bne_eq_false_iff_eq, decide_eq_false_iff_not] at this
     exact ⟨by omega, by omega⟩
    obtain ⟨hz, hn100⟩ := hzn
    have hid := Ul.nU_idem hz (by omega)
    refine WC.region ?_
    refine WL.val (.move (.of rfl)) rfl ?_
    refine WL.val (.move (.of rfl)) rfl ?_
    refine WL.call Tryz.func16 rfl (evs_cons (.of rfl) (evs_cons (.of rfl) evs_nil)) rfl (RegFind_any pr (pickS l D) hplo hprl s hs1 ra rcc E B _ J hK hreg hE _ hS) ?_
    clear hS
    rintro _ w ⟨J1, u1, c1, n1, e1, hJ1, rfl, ⟨x1, x2, rfl, hx3, hx4⟩, hf1, hS⟩
    have hur := find_rel hf1 hprl
    replace hl := hl.mono hJ1
    replace hK := hK.mono hJ1
    replace hreg := hreg.mono hJ1
    replace hE := hE.mono hJ1
    unfold svCells
    refine WL.val (.move (.of rfl)) rfl ?_
    refine WL.val (.extract (.of rfl) rfl) rfl ?_
    refine WL.val (.extract (.of rfl) rfl) rfl ?_
    refine WL.val (.extract (.of rfl) rfl) rfl ?_
    refine WL.allocA (cs := [_, _, _, _, _, _, _, _]) hS Tryz.zeroValue37 rfl ?_
    clear hS; intro b14 w hS
    first | refine WL.stA hS (k := 0) rfl (.of rfl) (.of rfl) rfl Tryz.sizeOf37 rfl (by simp) ?_
    clear hS; intro w hS; try dsimp only [List.set] at hS
    try simp only [List.take_zero, List.nil_append, List.append_nil, List.drop_succ_cons, List.drop_zero, List.drop_nil, Nat.zero_add] at hS
    refine WL.val (.assign (.of rfl)) rfl ?_
    refine WL.val (.assign (.of rfl)) rfl ?_
    refine WL.nil ?_
    refine WC.seq ?_
    refine WC.region ?_
    refine WL.val (.move (.of rfl)) rfl ?_
    refine WL.val (.move (.of rfl)) rfl ?_
    refine WL.call Tryz.func16 rfl (evs_cons (.of rfl) (evs_cons (.of rfl) evs_nil)) rfl (RegFind_any pr (pickS l D) hplo hprl (Ul.nU s).1 (by omega) ra rcc E B _ J1 hK hreg hE _ hS) ?_
    clear hS
    rintro _ w ⟨J2, u2, c2, n2, e2, hJ2, rfl, ⟨y1, y2, rfl, hy3, hy4⟩, hf2, hS⟩
    rw [(nU_same hid id).1, hf1] at hf2
    simp only [Prod.mk.injEq] at hf2
    obtain ⟨rfl, rfl, rfl⟩ := hf2
    replace hl := hl.mono hJ2
    replace hK := hK.mono hJ2
    replace hreg := hreg.mono hJ2
    replace hE := hE.mono hJ2
    replace hx4 := hx4.mono hJ2
    unfold svCells
    refine WL.val (.move (.of rfl)) rfl ?_
    refine WL.val (.extract (.of rfl) rfl) rfl ?_
    refine WL.val (.extract (.of rfl) rfl) rfl ?_
    refine WL.val (.extract (.of rfl) rfl) rfl ?_
    refine WL.allocA (cs := [_, _, _, _, _, _, _, _]) hS Tryz.zeroValue37 rfl ?_
    clear hS; intro b17 w hS
    first | refine WL.stA hS (k := 0) rfl (.of rfl) (.of rfl) rfl Tryz.sizeOf37 rfl (by simp) ?_ | refine WL.stA hS (k := 1) rfl (.of rfl) (.of rfl) rfl Tryz.sizeOf37 rfl (by simp) ?_
    clear hS; intro w hS; try dsimp only [List.set] at hS
    try simp only [List.take_zero, List.nil_append, List.append_nil, List.drop_succ_cons, List.drop_zero, List.drop_nil, Nat.zero_add] at hS
    refine WL.val (.assign (.of rfl)) rfl ?_
    refine WL.val (.assign (.of rfl)) rfl ?_
    refine WL.nil ?_
    refine WC.seq ?_
    refine WC.region ?_
    refine WL.val (.move (.of rfl)) rfl ?_
    refine WL.val (.move (.of rfl)) rfl ?_
    refine WL.val (.move (.of rfl)) rfl ?_
    refine WL.call Tryz.func21 rfl (evs_cons (.of rfl) (evs_cons (.of rfl) (evs_cons (.of rfl) evs_nil))) rfl (RegCalls_any pr (pickS l D) hplo hprl id s hs1 ra rcc E B _ J2 hK hreg hE _ hS) ?_
    clear hS
    rintro _ w ⟨rfl, hS⟩
    refine WL.val (.move (.of rfl)) rfl ?_
    refine WL.val (.extract (.of rfl) rfl) rfl ?_
    refine WL.val (.extract (.of rfl) rfl) rfl ?_
    refine WL.val (.assign (.of rfl)) rfl ?_
    refine WL.val (.assign (.of rfl)) rfl ?_
    refine WL.nil ?_
    refine WC.seq ?_
    refine WC.region ?_
    refine WL.val (.move (.of rfl)) rfl ?_
    refine WL.val (.move (.of rfl)) rfl ?_
    refine WL.val (.move (.of rfl)) rfl ?_
    refine WL.call Tryz.func21 rfl (evs_cons (.of rfl) (evs_cons (.of rfl) (evs_cons (.of rfl) evs_nil))) rfl (RegCalls_any pr (pickS l D) hplo hprl id (Ul.nU s).1 (by omega) ra rcc E B _ J2 hK hreg hE _ hS) ?_
    clear hS
    rintro _ w ⟨rfl, hS⟩
    rw [(nU_same hid id).2]
    refine WL.val (.move (.of rfl)) rfl ?_
    refine WL.val (.extract (.of rfl) rfl) rfl ?_
    refine WL.val (.extract (.of rfl) rfl) rfl ?_
    refine WL.val (.assign (.of rfl)) rfl ?_
    refine WL.val (.assign (.of rfl)) rfl ?_
    refine WL.nil ?_
    refine WC.seq ?_
    refine WC.region ?_
    refine WL.val (.move (.of rfl)) rfl ?_
    refine WL.val (.move (.of rfl)) rfl ?_
    refine WL.gval rfl rfl (fun hg1 => (by first | exact (.ldsW (cs := [_, _, _, _, _, _, _, _]) (.of rfl) hS (k := 0) rfl Tryz.isAgg37 Tryz.sizeOf37 rfl) | exact (.lds (vs := [_, _, _, _, _, _, _, _]) (.of rfl) hS (k := 0) rfl Tryz.isAgg37 Tryz.sizeOf37 rfl (fun _ _ h => h)) | exact (.ldsW (cs := [_, _, _, _, _, _, _, _]) (.of rfl) hS (k := 1) rfl Tryz.isAgg37 Tryz.sizeOf37 rfl) | exact (.lds (vs := [_, _, _, _, _, _, _, _]) (.of rfl) hS (k := 1) rfl Tryz.isAgg37 Tryz.sizeOf37 rfl (fun _ _ h => h)))) rfl ?_
    refine WL.gval rfl rfl (fun hg1 => (by first | exact (.ldsW (cs := [_, _, _, _, _, _, _, _]) (.of rfl) hS (k := 0) rfl Tryz.isAgg37 Tryz.sizeOf37 rfl) | exact (.lds (vs := [_, _, _, _, _, _, _, _]) (.of rfl) hS (k := 0) rfl Tryz.isAgg37 Tryz.sizeOf37 rfl (fun _ _ h => h)) | exact (.ldsW (cs := [_, _, _, _, _, _, _, _]) (.of rfl) hS (k := 1) rfl Tryz.isAgg37 Tryz.sizeOf37 rfl) | exact (.lds (vs := [_, _, _, _, _, _, _, _]) (.of rfl) hS (k := 1) rfl Tryz.isAgg37 Tryz.sizeOf37 rfl (fun _ _ h => h)))) rfl ?_
    refine WL.gcall (T := fun w => Sat B w J2 _) rfl rfl rfl Tryz.func14 rfl (fun hg1 => (evs_cons (.gd hg1 rfl) (evs_cons (.gd hg1 rfl) evs_nil))) rfl (fun hg1 => SameSv_any u1 u1 x1 y1 x2 y2 hx3 hy3 hur B _ J2 hx4 hy4 _ hS) hS ?_
    clear hS; rintro w hS
    refine WL.val (.pand (.of rfl) (.of rfl) (.of rfl)) rfl ?_
    refine WL.val (.move (.of rfl)) rfl ?_
    refine WL.gval rfl rfl (fun hg1 => (.move (.of rfl))) rfl ?_
    refine WL.gval rfl rfl (fun hg1 => (.move (.of rfl))) rfl ?_
    refine WL.gval rfl rfl (fun hg1 => (.eqs (.gd hg1 rfl) (.gd hg1 rfl))) rfl ?_
    refine WL.val (.pand (.of rfl) (.of rfl) (.of rfl)) rfl ?_
    refine WL.val (.move (.of rfl)) rfl ?_
    refine WL.gval rfl rfl (fun hg1 => (.move (.of rfl))) rfl ?_
    refine WL.gval rfl rfl (fun hg1 => (.move (.of rfl))) rfl ?_
    refine WL.gval rfl rfl (fun hg1 => (.eql (.gd hg1 rfl) (.gd hg1 rfl))) rfl ?_
    refine WL.val (.pand (.of rfl) (.of rfl) (.of rfl)) rfl ?_
    refine WL.val (.move (.of rfl)) rfl ?_
    refine WL.gval rfl rfl (fun hg1 => (.move (.of rfl))) rfl ?_
    refine WL.gval rfl rfl (fun hg1 => (.neq (.gd hg1 rfl) (.of rfl))) rfl ?_
    refine WL.gval rfl rfl (fun hg1 => (.move (.gd hg1 rfl))) rfl ?_
    refine WL.gval2 rfl rfl rfl (fun hg1 hg2 => (.move (.of rfl))) rfl ?_
    refine WL.gval2 rfl rfl rfl (fun hg1 hg2 => (.move (.of rfl))) rfl ?_
    refine WL.gval2 rfl rfl rfl (fun hg1 hg2 => (.eqs (.gd2 hg1 hg2 rfl) (.gd2 hg1 hg2 rfl))) rfl ?_
    refine WL.gval rfl rfl (fun hg1 => (.por (.gd hg1 rfl) (.of rfl) (.gd hg1 rfl))) rfl ?_
    refine WL.val (.pand (.of rfl) (.of rfl) (.of rfl)) rfl ?_
    refine WL.val (.move (.of rfl)) rfl ?_
    refine WL.gval rfl rfl (fun hg1 => (.move (.of rfl))) rfl ?_
    refine WL.gval rfl rfl (fun hg1 => (.move (.of rfl))) rfl ?_
    refine WL.gval rfl rfl (fun hg1 => (.eqs (.gd hg1 rfl) (.gd hg1 rfl))) rfl ?_
    refine WL.val (.pand (.of rfl) (.of rfl) (.of rfl)) rfl ?_
    refine WL.val (.move (.of rfl)) rfl ?_
    refine WL.gval rfl rfl (fun hg1 => (.move (.of rfl))) rfl ?_
    refine WL.gval rfl rfl (fun hg1 => (.move (.of rfl))) rfl ?_
    refine WL.gval rfl rfl (fun hg1 => (.eqb (.gd hg1 rfl) (.gd hg1 rfl) Tryz.underlying4)) rfl ?_
    refine WL.val (.pand (.of rfl) (.of rfl) (.of rfl)) rfl ?_
    refine WL.val (.move (.of rfl)) rfl ?_
    refine WL.gval rfl rfl (fun hg1 => (.move (.of rfl))) rfl ?_
    refine WL.gval rfl rfl (fun hg1 => (.not (.gd hg1 rfl))) rfl ?_
    refine WL.gval rfl rfl (fun hg1 => (.move (.gd hg1 rfl))) rfl ?_
    refine WL.gval2 rfl rfl rfl (fun hg1 hg2 => (.move (.of rfl))) rfl ?_
    refine WL.gval2 rfl rfl rfl (fun hg1 hg2 => (.move (.of rfl))) rfl ?_
    refine WL.gval2 rfl rfl rfl (fun hg1 hg2 => (.eqs (.gd2 hg1 hg2 rfl) (.gd2 hg1 hg2 rfl))) rfl ?_
    refine WL.gval rfl rfl (fun hg1 => (.por (.gd hg1 rfl) (.of rfl) (.gd hg1 rfl))) rfl ?_
    refine WL.val (.pand (.of rfl) (.of rfl) (.of rfl)) rfl ?_
    refine WL.val (.assign (.of rfl)) rfl ?_
    refine WL.nil ?_
    refine WC.ret ?_
    refine ret1 Tryz.results6 rfl ?_
    refine ⟨_, rfl, congrArg Value.bool ?_, J2, Le.trans hJ (Le.trans hJ1 hJ2), (hS.drop (k := 0) rfl).drop (k := 0) rfl⟩
    rw [(sameSv_iff u1 u1).2 rfl]
    have h1 := find_n hf1
    have h2 := (call_n (lo := pickS l D) (id := id) (s := s)).1
    generalize callR (pickS l D) id s = q at h2 ⊢
    obtain ⟨q1, q2⟩ := q
    cases q2 with
    | false =>
     by_cases he : e1 = 0
     ·rw [h1 he]; simp
     ·simp [he]
    | true =>
     rw [h2 rfl]
     by_cases he : e1 = 0
     ·rw [h1 he]; simp
     ·simp [he]
set_option maxHeartbeats 600000 in
theorem ServicesSafe_any (a : Option Addr) (cap : Nat) (L : List (List Value)) (l : List Sv) (hcap : l.length ≤ cap) (hcm : cap ≤ maxLen) (hfits : ∀ s ∈ l, s.fits) (s : List UInt8) (id : Int) (B w : World) (I : Im) (hK : Known I) (hl : SvsIn I a L l) (As : List Assn) (hS : Sat B w I As) :
  Calls Tryz.prog 7 [.slice a l.length cap, S s, I64 id].toArray w (Ret fun v w' => v = .bool true ∧ ∃ J, Le I J ∧ Sat B w' J As) := by
 refine calls Tryz.func7 rfl Tryz.ntmps7 rfl ?_
 refine WC.seq ?_
 refine WC.region ?_
 refine WL.val (.assign (.of rfl)) rfl ?_
 refine WL.nil ?_
 refine WC.seq ?_
 refine WC.region ?_
 refine WL.call Tryz.func8 rfl evs_nil rfl (awake18_any B _ I hK As hS) ?_
 clear hS
 rintro _ w ⟨rfl, hS⟩
 refine WL.val (.assign (.of rfl)) rfl ?_
 refine WL.nil ?_
 refine WC.seq ?_
 refine WC.region ?_
 refine WL.val (.move (.of rfl)) rfl ?_
 refine WL.call Tryz.func9 rfl (evs_cons (.of rfl) evs_nil) rfl (Few_any a cap l hcap hcm B _ I hl.svs As hS) ?_
 clear hS
 rintro _ w ⟨rfl, hS⟩
 refine WL.val (.assign (.of rfl)) rfl ?_
 refine WL.nil ?_
 refine WC.seq ?_
 refine WC.seq ?_
 refine WC.region ?_
 refine WL.val (.move (.of rfl)) rfl ?_
 refine WL.val (.not (.of rfl)) rfl ?_
 refine WL.val (.move (.of rfl)) rfl ?_
 refine WL.gval rfl rfl (fun hg1 => (.move (.of rfl))) rfl ?_
 refine WL.gval rfl rfl (fun hg1 => (.len (.gd hg1 rfl) Tryz.underlying9)) rfl ?_
 refine WL.gval rfl rfl (fun hg1 => (.gtr (.gd hg1 rfl) (.of rfl))) rfl ?_
 refine WL.val (.por (.of rfl) (.of rfl) (.of rfl)) rfl ?_
 refine WL.nil ?_
 refine WC.cond rfl (fun hb27 => ?_) (fun hb27 => ?_)
 ·
  have hc27 := hb27; try simp only [Gk.cs0] at hc27
  refine WC.seq ?_
  refine WC.region ?_
  refine WL.val (.move (.of rfl)) rfl ?_
  refine WL.val (.assign (.of rfl)) rfl ?_
  refine WL.nil ?_
  refine WC.ret ?_
  refine ret1 Tryz.results7 rfl ?_
  exact ⟨_, rfl, rfl, I, Le.refl _, hS⟩
 ·
  have hc27 := hb27; try simp only [Gk.cs0] at hc27
  refine WC.skip ?_
  refine WC.seq ?_
  have hfew : few l = true ∧ s.length ≤ 100 := by
   have := hb27
   simp only [Bool.or_eq_false_iff, Bool.not_eq_false', decide_eq_false_iff_not] at this
   exact ⟨this.1, by omega⟩
  have hs100 := hfew.2
  obtain ⟨hln, hrel⟩ := few_facts hfew.1
  have hom := fits_ord hfits
  have hfit := fits_fit hfits hrel
  have hfit2 : ∀ s ∈ l, s.urls.length ≤ 9223372036854775807 ∧ s.calls.length ≤ 9223372036854775807 := fun s hs => ⟨(hfit s hs).1, (hfit s hs).2.1⟩
  have hs1 : s.length ≤ 1000000 := by omega
  refine WC.region ?_
  refine WL.val (.move (.of rfl)) rfl ?_
  refine WL.call Tryz.func10 rfl (evs_cons (.of rfl) evs_nil) rfl (New_any a cap l (by omega) hom hfit B _ I hl.svs As hS) ?_
  clear hS
  rintro _ w ⟨J, hJ, hS, hcase⟩
  replace hl := hl.mono hJ
  replace hK := hK.mono hJ
  rcases hcase with ⟨hne, rfl⟩ | ⟨hw0, pr, D, rfl, hD, ra, rcc, E, hreg, hrcc, hE⟩
  ·
   refine WL.val (.move (.of rfl)) rfl ?_
   refine WL.val (.extract (.of rfl) rfl) rfl ?_
   refine WL.val (.extract (.of rfl) rfl) rfl ?_
   refine WL.val (.extract (.of rfl) rfl) rfl ?_
   refine WL.val (.assign (.of rfl)) rfl ?_
   refine WL.val (.assign (.of rfl)) rfl ?_
   refine WL.val (.assign (.of rfl)) rfl ?_
   refine WL.nil ?_
   refine WC.seq ?_
   refine WC.seq ?_
   refine WC.region ?_
   refine WL.val (.move (.of rfl)) rfl ?_
   refine WL.val (.eqp (.of rfl) (.of rfl) Tryz.underlying25) rfl ?_
   refine WL.val (.move (.of rfl)) rfl ?_
   refine WL.gval rfl rfl (fun hg1 => (.move (.of rfl))) rfl ?_
   refine WL.gval rfl rfl (fun hg1 => (.neq (.gd hg1 rfl) (.of rfl))) rfl ?_
   refine WL.val (.por (.of rfl) (.of rfl) (.of rfl)) rfl ?_
   refine WL.nil ?_
   refine WC.condT (rfl) ?_
   refine WC.seq ?_
   refine WC.region ?_
   refine WL.val (.move (.of rfl)) rfl ?_
   refine WL.val (.assign (.of rfl)) rfl ?_
   refine WL.nil ?_
   refine WC.ret ?_
   refine ret1 Tryz.results7 rfl ?_
   exact ⟨_, rfl, rfl, J, hJ, hS⟩
  ·
   have hpl := pick_len hD
   have hplo : (pickS l D).length ≤ 100000 := by omega
   have hprl : ∀ s ∈ pickS l D, s.rel.length ≤ 1000000 := fun s hs => (hfit s ((pick_mem hD).1 hs)).2.2
   refine WL.val (.move (.of rfl)) rfl ?_
   refine WL.val (.extract (.of rfl) rfl) rfl ?_
   refine WL.val (.extract (.of rfl) rfl) rfl ?_
   refine WL.val (.extract (.of rfl) rfl) rfl ?_
   refine WL.val (.assign (.of rfl)) rfl ?_
   refine WL.val (.assign (.of rfl)) rfl ?_
   refine WL.val (.assign (.of rfl)) rfl ?_
   refine WL.nil ?_
   refine WC.seq ?_
   refine WC.seq ?_
   refine WC.region ?_
   refine WL.val (.move (.of rfl)) rfl ?_
   refine WL.val (.eqp (.of rfl) (.of rfl) Tryz.underlying25) rfl ?_
   refine WL.val (.move (.of rfl)) rfl ?_
   refine WL.gval rfl rfl (fun hg1 => (.move (.of rfl))) rfl ?_
   refine WL.gval rfl rfl (fun hg1 => (.neq (.gd hg1 rfl) (.of rfl))) rfl ?_
   refine WL.val (.por (.of rfl) (.of rfl) (.of rfl)) rfl ?_
   refine WL.nil ?_
   refine WC.condF (rfl) ?_
   refine WC.skip ?_
   refine WC.seq ?_
   refine WC.region ?_
   refine WL.val (.move (.of rfl)) rfl ?_
   refine WL.val (.move (.of rfl)) rfl ?_
   refine WL.val (.move (.of rfl)) rfl ?_
   refine WL.call Tryz.func21 rfl (evs_cons (.of rfl) (evs_cons (.of rfl) (evs_cons (.of rfl) evs_nil))) rfl (RegCalls_any pr (pickS l D) hplo hprl id s hs1 ra rcc E B _ J hK hreg hE _ hS) ?_
   clear hS
   rintro _ w ⟨rfl, hS⟩
   refine WL.val (.move (.of rfl)) rfl ?_
   refine WL.val (.extract (.of rfl) rfl) rfl ?_
   refine WL.val (.extract (.of rfl) rfl) rfl ?_
   refine WL.val (.assign (.of rfl)) rfl ?_
   refine WL.val (.assign (.of rfl)) rfl ?_
   refine WL.nil ?_
   refine WC.seq ?_
   refine WC.region ?_
   refine WL.val (.assign (.of rfl)) rfl ?_
   refine WL.nil ?_
   refine WC.seq ?_
   refine WC.seq ?_
   refine WC.region ?_
   refine WL.val (.assign (.of rfl)) rfl ?_
   refine WL.nil ?_
   refine WC.block ?_
   refine WC.loop (σ := Nat) (fun i => [(0, .slice a l.length cap), (1, S s), (2, I64 id), (7, .bool true), (12, S (callR (pickS l D) id s).1), (13, .bool (callR (pickS l D) id s).2), (14, .bool ((l.take i).any fun t => t.id == id)), (15, I64 (i : Nat))]) (fun i w => i ≤ l.length ∧ Sat B w J As) (fun i => l.length - i) 0 ⟨rfl, rfl, rfl, rfl, rfl, rfl, rfl, rfl, trivial⟩ ⟨Nat.zero_le _, hS⟩ ?_
   rintro i w ⟨hi, hS⟩
   change WC _ _ _ _ [(0, .slice a l.length cap), (1, S s), (2, I64 id), (7, .bool true), (12, S (callR (pickS l D) id s).1), (13, .bool (callR (pickS l D) id s).2), (14, .bool ((l.take i).any fun t => t.id == id)), (15, I64 (i : Nat))] w
   refine WC.seq ?_
   refine WC.seq ?_
   refine WC.region ?_
   refine WL.val (.move (.of rfl)) rfl ?_
   refine WL.val (.move (.of rfl)) rfl ?_
   refine WL.val (.lenSlice (.of rfl) Tryz.underlying22) rfl ?_
   refine WL.val (.lss (.of rfl) (.of rfl)) rfl ?_
   refine WL.nil ?_
   refine WC.cond rfl (fun hb52 => ?_) (fun hb52 => ?_)
   ·
    have hc52 := hb52; try simp only [Gk.cs0] at hc52
    refine WC.skip ?_
    refine WC.seq ?_
    refine WC.block ?_
    obtain ⟨u, hu⟩ : ∃ u, l[i]? = some u := ⟨_, List.getElem?_eq_getElem (by omega)⟩
    obtain ⟨p, y1, y2, rfl, hx, _, _⟩ := hl.svs i u hu
    unfold svCells at hx
    have htn : (l.take (i + 1)).any (fun t => t.id == id) = ((l.take i).any (fun t => t.id == id) || u.id == id) := by rw [List.take_add_one, hu, List.any_append]; simp
    refine WC.region ?_
    refine WL.val (.move (.of rfl)) rfl ?_
    refine WL.val (.move (.of rfl)) rfl ?_
    refine WL.gval rfl rfl (fun hg1 => (.move (.of rfl))) rfl ?_
    refine WL.gval rfl rfl (fun hg1 => (.move (.of rfl))) rfl ?_
    refine WL.gval rfl rfl (fun hg1 => (by first | exact .indexAddr (.gd hg1 rfl) (.gd hg1 rfl) (by (try simp only [Gk.cs0] at hg1); omega) (by (try simp only [Gk.cs0] at hg1); omega) Tryz.underlying22 Tryz.sizeOf37 | exact .indexAddrI (.gd hg1 rfl) (.gd hg1 rfl) (by (try simp only [Gk.cs0] at hg1); omega) (by (try simp only [Gk.cs0] at hg1); omega) Tryz.underlying22 Tryz.sizeOf37)) rfl ?_
    refine WL.gval rfl rfl (fun hg1 => (by first | exact .fieldAddr 0 (.gd hg1 rfl) Tryz.underlying37 rfl rfl Tryz.sizeOf3 rfl | exact .fieldAddrI 0 (.gd hg1 rfl) Tryz.underlying37 rfl rfl Tryz.sizeOf3 rfl)) rfl ?_
    refine WL.gval rfl rfl (fun hg1 => (by first | exact (.ldI (.gd hg1 rfl) hS (At.add hx _) Tryz.isAgg3 rfl))) rfl ?_
    refine WL.gval rfl rfl (fun hg1 => (.move (.of rfl))) rfl ?_
    refine WL.gval rfl rfl (fun hg1 => (.eql (.gd hg1 rfl) (.gd hg1 rfl))) rfl ?_
    refine WL.val (.por (.of rfl) (.of rfl) (.of rfl)) rfl ?_
    refine WL.val (.assign (.of rfl)) rfl ?_
    refine WL.nil ?_
    refine WC.region ?_
    refine WL.val (.move (.of rfl)) rfl ?_
    refine WL.val (.add (.of rfl) (.of rfl) ⟨by omega, by omega⟩) rfl ?_
    refine WL.val (.assign (.of rfl)) rfl ?_
    refine WL.nil ?_
    refine ⟨i + 1, ⟨rfl, rfl, rfl, rfl, rfl, rfl, ?_, rfl, trivial⟩, ⟨by omega, hS⟩, by omega⟩
    rw [htn]; rfl
   ·
    have hc52 := hb52; try simp only [Gk.cs0] at hc52
    refine WC.exit ?_
    refine WC.seq ?_
    have hil : i = l.length := by omega
    subst hil
    rw [List.take_length]
    refine WC.region ?_
    refine WL.val (.move (.of rfl)) rfl ?_
    refine WL.call Tryz.func23 rfl (evs_cons (.of rfl) evs_nil) rfl (refParse_any s hs1 B _ J _ hS) ?_
    clear hS
    rintro _ w ⟨rfl, hS⟩
    unfold Ul.uc
    refine WL.val (.move (.of rfl)) rfl ?_
    refine WL.val (.extract (.of rfl) rfl) rfl ?_
    refine WL.val (.extract (.of rfl) rfl) rfl ?_
    refine WL.allocA (cs := [_, _, _, _, _, _]) hS Tryz.zeroValue55 rfl ?_
    clear hS; intro b16 w hS
    first | refine WL.stA hS (k := 0) rfl (.of rfl) (.of rfl) rfl Tryz.sizeOf55 rfl (by simp) ?_
    clear hS; intro w hS; try dsimp only [List.set] at hS
    try simp only [List.take_zero, List.nil_append, List.append_nil, List.drop_succ_cons, List.drop_zero, List.drop_nil, Nat.zero_add] at hS
    refine WL.val (.assign (.of rfl)) rfl ?_
    refine WL.nil ?_
    refine WC.seq ?_
    refine WC.seq ?_
    refine WC.region ?_
    refine WL.val (.move (.of rfl)) rfl ?_
    refine WL.val (.not (.of rfl)) rfl ?_
    refine WL.nil ?_
    refine WC.cond rfl (fun hb71 => ?_) (fun hb71 => ?_)
    ·
     have hc71 := hb71; try simp only [Gk.cs0] at hc71
     refine WC.seq ?_
     refine WC.region ?_
     refine WL.val (.move (.of rfl)) rfl ?_
     refine WL.val (.move (.of rfl)) rfl ?_
     refine WL.gval rfl rfl (fun hg1 => (.move (.of rfl))) rfl ?_
     refine WL.gval rfl rfl (fun hg1 => (.eqs (.gd hg1 rfl) (.of rfl))) rfl ?_
     refine WL.val (.pand (.of rfl) (.of rfl) (.of rfl)) rfl ?_
     refine WL.val (.assign (.of rfl)) rfl ?_
     refine WL.nil ?_
     refine WC.ret ?_
     refine ret1 Tryz.results7 rfl ?_
     refine ⟨_, rfl, congrArg Value.bool ?_, J, hJ, hS.drop (k := 0) rfl⟩
     have h2 := (call_n (lo := pickS l D) (id := id) (s := s)).2 (by simpa using hb71)
     rw [h2]
     rfl
    ·
     have hc71 := hb71; try simp only [Gk.cs0] at hc71
     refine WC.skip ?_
     refine WC.seq ?_
     refine WC.region ?_
     refine WL.val (.move (.of rfl)) rfl ?_
     refine WL.val (.move (.of rfl)) rfl ?_
     refine WL.gval rfl rfl (fun hg1 => (.move (.of rfl))) rfl ?_
     refine WL.val (.pand (.of rfl) (.of rfl) (.of rfl)) rfl ?_
     refine WL.val (.move (.of rfl)) rfl ?_
     refine WL.gval rfl rfl (fun hg1 => (.move (.of rfl))) rfl ?_
     refine WL.gval rfl rfl (fun hg1 => (.eql (.gd hg1 rfl) (.of rfl))) rfl ?_
     refine WL.val (.pand (.of rfl) (.of rfl) (.of rfl)) rfl ?_
     refine WL.val (.move (.of rfl)) rfl ?_
     refine WL.gval rfl rfl (fun hg1 => (by first | exact .fieldAddr 0 (.of rfl) Tryz.underlying55 rfl rfl Tryz.sizeOf9 rfl | exact .fieldAddrI 0 (.of rfl) Tryz.underlying55 rfl rfl Tryz.sizeOf9 rfl)) rfl ?_
     refine WL.gval rfl rfl (fun hg1 => (by first | exact (.ld (.gd hg1 rfl) hS (k := 0) rfl Tryz.isAgg9 rfl) | exact (.ldI (.gd hg1 rfl) hS (At.add hx _) Tryz.isAgg9 rfl))) rfl ?_
     refine WL.gval rfl rfl (fun hg1 => (.eqs (.gd hg1 rfl) (.of rfl))) rfl ?_
     refine WL.val (.pand (.of rfl) (.of rfl) (.of rfl)) rfl ?_
     refine WL.val (.move (.of rfl)) rfl ?_
     refine WL.gval rfl rfl (fun hg1 => (.move (.of rfl))) rfl ?_
     refine WL.gval rfl rfl (fun hg1 => (by first | exact (.ldsW (cs := [_, _, _, _, _, _]) (.of rfl) hS (k := 0) rfl Tryz.isAgg55 Tryz.sizeOf55 rfl) | exact (.lds (vs := [_, _, _, _, _, _]) (.of rfl) hS (k := 0) rfl Tryz.isAgg55 Tryz.sizeOf55 rfl (fun _ _ h => h)) | exact (.ldsI (.of rfl) hS hx Tryz.isAgg55 Tryz.sizeOf55 rfl (fun _ _ h => h)) | exact (.ldsI (.of rfl) hS (At.add hx _) Tryz.isAgg55 Tryz.sizeOf55 rfl (fun _ _ h => h)))) rfl ?_
     refine WL.gcall (T := fun w => Sat B w J _) rfl rfl rfl Tryz.func24 rfl (fun hg1 => (evs_cons (.gd hg1 rfl) evs_nil)) rfl (fun hg1 => refString_any (Ul.pU s).1 (Ul.small_pU s) B _ J _ hS) hS ?_
     clear hS; rintro w hS
     refine WL.gval rfl rfl (fun hg1 => (.eqs (.gd hg1 rfl) (.gd hg1 rfl))) rfl ?_
     refine WL.val (.pand (.of rfl) (.of rfl) (.of rfl)) rfl ?_
     refine WL.val (.assign (.of rfl)) rfl ?_
     refine WL.nil ?_
     refine WC.ret ?_
     refine ret1 Tryz.results7 rfl ?_
     refine ⟨_, rfl, congrArg Value.bool ?_, J, hJ, hS.drop (k := 0) rfl⟩
     have hci : (callR (pickS l D) id s).2 = true := by simpa using hb71
     obtain ⟨h1, h2, h3⟩ := call_is hci
     obtain ⟨h4, h5⟩ := nU_ok h2
     rw [(call_n (lo := pickS l D) (id := id) (s := s)).1 hci, h5, h3, h4, ← pick_any hD, h1]
     simp [Ul.https]
set_option maxHeartbeats 600000 in
theorem ServicesFirst_any (a : Option Addr) (cap : Nat) (L : List (List Value)) (l : List Sv) (hcap : l.length ≤ cap) (hcm : cap ≤ maxLen) (hfits : ∀ s ∈ l, s.fits) (s : List UInt8) (B w : World) (I : Im) (hK : Known I) (hl : SvsIn I a L l) (As : List Assn) (hS : Sat B w I As) :
  Calls Tryz.prog 4 [.slice a l.length cap, S s].toArray w (Ret fun v w' => v = .bool true ∧ ∃ J, Le I J ∧ Sat B w' J As) := by
 refine calls Tryz.func4 rfl Tryz.ntmps4 rfl ?_
 refine WC.seq ?_
 refine WC.region ?_
 refine WL.val (.assign (.of rfl)) rfl ?_
 refine WL.nil ?_
 refine WC.seq ?_
 refine WC.region ?_
 refine WL.call Tryz.func8 rfl evs_nil rfl (awake18_any B _ I hK As hS) ?_
 clear hS
 rintro _ w ⟨rfl, hS⟩
 refine WL.val (.assign (.of rfl)) rfl ?_
 refine WL.nil ?_
 refine WC.seq ?_
 refine WC.region ?_
 refine WL.val (.move (.of rfl)) rfl ?_
 refine WL.call Tryz.func9 rfl (evs_cons (.of rfl) evs_nil) rfl (Few_any a cap l hcap hcm B _ I hl.svs As hS) ?_
 clear hS
 rintro _ w ⟨rfl, hS⟩
 refine WL.val (.assign (.of rfl)) rfl ?_
 refine WL.nil ?_
 refine WC.seq ?_
 refine WC.seq ?_
 refine WC.region ?_
 refine WL.val (.move (.of rfl)) rfl ?_
 refine WL.val (.not (.of rfl)) rfl ?_
 refine WL.val (.move (.of rfl)) rfl ?_
 refine WL.gval rfl rfl (fun hg1 => (.move (.of rfl))) rfl ?_
 refine WL.gval rfl rfl (fun hg1 => (.len (.gd hg1 rfl) Tryz.underlying9)) rfl ?_
 refine WL.gval rfl rfl (fun hg1 => (.gtr (.gd hg1 rfl) (.of rfl))) rfl ?_
 refine WL.val (.por (.of rfl) (.of rfl) (.of rfl)) rfl ?_
 refine WL.nil ?_
 refine WC.cond rfl (fun hb29 => ?_) (fun hb29 => ?_)
 ·
  have hc29 := hb29; try simp only [Gk.cs0] at hc29
  refine WC.seq ?_
  refine WC.region ?_
  refine WL.val (.move (.of rfl)) rfl ?_
  refine WL.val (.assign (.of rfl)) rfl ?_
  refine WL.nil ?_
  refine WC.ret ?_
  refine ret1 Tryz.results4 rfl ?_
  exact ⟨_, rfl, rfl, I, Le.refl _, hS⟩
 ·
  have hc29 := hb29; try simp only [Gk.cs0] at hc29
  refine WC.skip ?_
  refine WC.seq ?_
  have hfew : few l = true ∧ s.length ≤ 100 := by
   have := hb29
   simp only [Bool.or_eq_false_iff, Bool.not_eq_false', decide_eq_false_iff_not] at this
   exact ⟨this.1, by omega⟩
  have hs100 := hfew.2
  obtain ⟨hln, hrel⟩ := few_facts hfew.1
  have hom := fits_ord hfits
  have hfit := fits_fit hfits hrel
  have hfit2 : ∀ s ∈ l, s.urls.length ≤ 9223372036854775807 ∧ s.calls.length ≤ 9223372036854775807 := fun s hs => ⟨(hfit s hs).1, (hfit s hs).2.1⟩
  have hs1 : s.length ≤ 1000000 := by omega
  refine WC.region ?_
  refine WL.val (.move (.of rfl)) rfl ?_
  refine WL.call Tryz.func10 rfl (evs_cons (.of rfl) evs_nil) rfl (New_any a cap l (by omega) hom hfit B _ I hl.svs As hS) ?_
  clear hS
  rintro _ w ⟨J, hJ, hS, hcase⟩
  replace hl := hl.mono hJ
  replace hK := hK.mono hJ
  rcases hcase with ⟨hne, rfl⟩ | ⟨hw0, pr, D, rfl, hD, ra, rcc, E, hreg, hrcc, hE⟩
  ·
   refine WL.val (.move (.of rfl)) rfl ?_
   refine WL.val (.extract (.of rfl) rfl) rfl ?_
   refine WL.val (.extract (.of rfl) rfl) rfl ?_
   refine WL.val (.extract (.of rfl) rfl) rfl ?_
   refine WL.val (.assign (.of rfl)) rfl ?_
   refine WL.val (.assign (.of rfl)) rfl ?_
   refine WL.val (.assign (.of rfl)) rfl ?_
   refine WL.nil ?_
   refine WC.seq ?_
   refine WC.region ?_
   refine WL.val (.move (.of rfl)) rfl ?_
   refine WL.call Tryz.func15 rfl (evs_cons (.of rfl) evs_nil) rfl (refUNormal_any s hs1 B _ J _ hS) ?_
   clear hS
   rintro _ w ⟨rfl, hS⟩
   refine WL.val (.move (.of rfl)) rfl ?_
   refine WL.val (.extract (.of rfl) rfl) rfl ?_
   refine WL.val (.extract (.of rfl) rfl) rfl ?_
   refine WL.val (.assign (.of rfl)) rfl ?_
   refine WL.val (.assign (.of rfl)) rfl ?_
   refine WL.nil ?_
   refine WC.seq ?_
   refine WC.seq ?_
   refine WC.region ?_
   refine WL.val (.move (.of rfl)) rfl ?_
   refine WL.val (.eqp (.of rfl) (.of rfl) Tryz.underlying25) rfl ?_
   refine WL.val (.move (.of rfl)) rfl ?_
   refine WL.gval rfl rfl (fun hg1 => (.move (.of rfl))) rfl ?_
   refine WL.gval rfl rfl (fun hg1 => (.neq (.gd hg1 rfl) (.of rfl))) rfl ?_
   refine WL.val (.por (.of rfl) (.of rfl) (.of rfl)) rfl ?_
   refine WL.val (.move (.of rfl)) rfl ?_
   refine WL.gval rfl rfl (fun hg1 => (.move (.of rfl))) rfl ?_
   refine WL.gval rfl rfl (fun hg1 => (.neq (.gd hg1 rfl) (.of rfl))) rfl ?_
   refine WL.val (.por (.of rfl) (.of rfl) (.of rfl)) rfl ?_
   refine WL.val (.move (.of rfl)) rfl ?_
   refine WL.gval rfl rfl (fun hg1 => (.move (.of rfl))) rfl ?_
   refine WL.gval rfl rfl (fun hg1 => (.len (.gd hg1 rfl) Tryz.underlying9)) rfl ?_
   refine WL.gval rfl rfl (fun hg1 => (.gtr (.gd hg1 rfl) (.of rfl))) rfl ?_
   refine WL.val (.por (.of rfl) (.of rfl) (.of rfl)) rfl ?_
   refine WL.nil ?_
   refine WC.condT (rfl) ?_
   refine WC.seq ?_
   refine WC.region ?_
   refine WL.val (.move (.of rfl)) rfl ?_
   refine WL.val (.assign (.of rfl)) rfl ?_
   refine WL.nil ?_
   refine WC.ret ?_
   refine ret1 Tryz.results4 rfl ?_
   exact ⟨_, rfl, rfl, J, hJ, hS⟩
  ·
   have hpl := pick_len hD
   have hplo : (pickS l D).length ≤ 100000 := by omega
   have hprl : ∀ s ∈ pickS l D, s.rel.length ≤ 1000000 := fun s hs => (hfit s ((pick_mem hD).1 hs)).2.2
   refine WL.val (.move (.of rfl)) rfl ?_
   refine WL.val (.extract (.of rfl) rfl) rfl ?_
   refine WL.val (.extract (.of rfl) rfl) rfl ?_
   refine WL.val (.extract (.of rfl) rfl) rfl ?_
   refine WL.val (.assign (.of rfl)) rfl ?_
   refine WL.val (.assign (.of rfl)) rfl ?_
   refine WL.val (.assign (.of rfl)) rfl ?_
   refine WL.nil ?_
   refine WC.seq ?_
   refine WC.region ?_
   refine WL.val (.move (.of rfl)) rfl ?_
   refine WL.call Tryz.func15 rfl (evs_cons (.of rfl) evs_nil) rfl (refUNormal_any s hs1 B _ J _ hS) ?_
   clear hS
   rintro _ w ⟨rfl, hS⟩
   refine WL.val (.move (.of rfl)) rfl ?_
   refine WL.val (.extract (.of rfl) rfl) rfl ?_
   refine WL.val (.extract (.of rfl) rfl) rfl ?_
   refine WL.val (.assign (.of rfl)) rfl ?_
   refine WL.val (.assign (.of rfl)) rfl ?_
   refine WL.nil ?_
   refine WC.seq ?_
   refine WC.seq ?_
   refine WC.region ?_
   refine WL.val (.move (.of rfl)) rfl ?_
   refine WL.val (.eqp (.of rfl) (.of rfl) Tryz.underlying25) rfl ?_
   refine WL.val (.move (.of rfl)) rfl ?_
   refine WL.gval rfl rfl (fun hg1 => (.move (.of rfl))) rfl ?_
   refine WL.gval rfl rfl (fun hg1 => (.neq (.gd hg1 rfl) (.of rfl))) rfl ?_
   refine WL.val (.por (.of rfl) (.of rfl) (.of rfl)) rfl ?_
   refine WL.val (.move (.of rfl)) rfl ?_
   refine WL.gval rfl rfl (fun hg1 => (.move (.of rfl))) rfl ?_
   refine WL.gval rfl rfl (fun hg1 => (.neq (.gd hg1 rfl) (.of rfl))) rfl ?_
   refine WL.val (.por (.of rfl) (.of rfl) (.of rfl)) rfl ?_
   refine WL.val (.move (.of rfl)) rfl ?_
   refine WL.gval rfl rfl (fun hg1 => (.move (.of rfl))) rfl ?_
   refine WL.gval rfl rfl (fun hg1 => (.len (.gd hg1 rfl) Tryz.underlying9)) rfl ?_
   refine WL.gval rfl rfl (fun hg1 => (.gtr (.gd hg1 rfl) (.of rfl))) rfl ?_
   refine WL.val (.por (.of rfl) (.of rfl) (.of rfl)) rfl ?_
   refine WL.nil ?_
   refine WC.cond rfl (fun hb56 => ?_) (fun hb56 => ?_)
   ·
    have hc56 := hb56; try simp only [Gk.cs0] at hc56
    refine WC.seq ?_
    refine WC.region ?_
    refine WL.val (.move (.of rfl)) rfl ?_
    refine WL.val (.assign (.of rfl)) rfl ?_
    refine WL.nil ?_
    refine WC.ret ?_
    refine ret1 Tryz.results4 rfl ?_
    exact ⟨_, rfl, rfl, J, hJ, hS⟩
   ·
    have hc56 := hb56; try simp only [Gk.cs0] at hc56
    refine WC.skip ?_
    refine WC.seq ?_
    have hzn : (Ul.nU s).2 = 0 ∧ ¬ 100 < (Ul.nU s).1.length := by
     have := hb56
     simp only [Bool.or_eq_false_iff, bne_eq_false_iff_eq, decide_eq_false_iff_not] at this
     exact ⟨by omega, by omega⟩
    obtain ⟨hz, hn100⟩ := hzn
    refine WC.region ?_
    refine WL.val (.move (.of rfl)) rfl ?_
    refine WL.val (.move (.of rfl)) rfl ?_
    refine WL.call Tryz.func16 rfl (evs_cons (.of rfl) (evs_cons (.of rfl) evs_nil)) rfl (RegFind_any pr (pickS l D) hplo hprl s hs1 ra rcc E B _ J hK hreg hE _ hS) ?_
    clear hS
    rintro _ w ⟨J1, u1, c1, n1, e1, hJ1, rfl, ⟨x1, x2, rfl, hx3, hx4⟩, hf1, hS⟩
    have hur := find_rel hf1 hprl
    replace hl := hl.mono hJ1
    replace hK := hK.mono hJ1
    replace hreg := hreg.mono hJ1
    replace hE := hE.mono hJ1
    unfold svCells
    refine WL.val (.move (.of rfl)) rfl ?_
    refine WL.val (.extract (.of rfl) rfl) rfl ?_
    refine WL.val (.extract (.of rfl) rfl) rfl ?_
    refine WL.val (.extract (.of rfl) rfl) rfl ?_
    refine WL.allocA (cs := [_, _, _, _, _, _, _, _]) hS Tryz.zeroValue37 rfl ?_
    clear hS; intro b12 w hS
    first | refine WL.stA hS (k := 0) rfl (.of rfl) (.of rfl) rfl Tryz.sizeOf37 rfl (by simp) ?_
    clear hS; intro w hS; try dsimp only [List.set] at hS
    try simp only [List.take_zero, List.nil_append, List.append_nil, List.drop_succ_cons, List.drop_zero, List.drop_nil, Nat.zero_add] at hS
    refine WL.val (.assign (.of rfl)) rfl ?_
    refine WL.val (.assign (.of rfl)) rfl ?_
    refine WL.nil ?_
    refine WC.seq ?_
    refine WC.region ?_
    refine WL.val (.move (.of rfl)) rfl ?_
    refine WL.call Tryz.func12 rfl (evs_cons (.of rfl) evs_nil) rfl (RegAll_any pr (pickS l D) hplo hprl ra rcc E B _ J1 hreg hE _ hS) ?_
    clear hS
    rintro _ w ⟨JA, C, hJA, hC, hS⟩
    obtain ⟨xa, xc, rfl, hxc, _⟩ := hS.vecSlice (k := 0) rfl
    obtain ⟨J2, hJ2, hXR, hS2⟩ := hS.freezeVec (k := 0) rfl
    clear hS
    have hS := hS2
    clear hS2
    try dsimp only [List.eraseIdx] at hS
    replace hC := hC.mono hJ2
    rw [hpl] at hXR ⊢
    replace hx4 := hx4.mono (Le.trans hJA hJ2)
    refine WL.val (.assign (.of rfl)) rfl ?_
    refine WL.nil ?_
    refine WC.seq ?_
    refine WC.seq ?_
    refine WC.region ?_
    refine WL.val (.assign (.of rfl)) rfl ?_
    refine WL.nil ?_
    refine WC.block ?_
    refine WC.loop (σ := Nat × Im) (fun ⟨i, J3⟩ => [(5, .bool true), (10, S (Ul.nU s).1), (12, ptr b12 0), (14, I64 (e1 : Nat)), (15, .slice xa l.length xc), (16, I64 (i : Nat))]) (fun ⟨i, J3⟩ w => i ≤ l.length ∧ Le J2 J3 ∧ (∀ (j : Nat) t, j < i → (pickS l D)[j]? = some t → (mtch t.urls (Ul.nU s).1).1 = false) ∧ Sat B w J3 (blk b12 [I64 u1.id, F64 u1.ord, S u1.urls, .bool u1.login, .bool u1.proxy, .bool u1.back, S u1.calls, .slice x1 u1.rel.length x2] 37 :: As)) (fun ⟨i, J3⟩ => l.length - i) (0, J2) ⟨rfl, rfl, rfl, rfl, rfl, rfl, trivial⟩ ⟨Nat.zero_le _, Le.refl _, fun _ _ h => absurd h (by omega), hS⟩ ?_
    rintro ⟨i, J3⟩ w ⟨hi, hJ3, hno, hS⟩
    change WC _ _ _ _ [(5, .bool true), (10, S (Ul.nU s).1), (12, ptr b12 0), (14, I64 (e1 : Nat)), (15, .slice xa l.length xc), (16, I64 (i : Nat))] w
    refine WC.seq ?_
    refine WC.seq ?_
    refine WC.region ?_
    refine WL.val (.move (.of rfl)) rfl ?_
    refine WL.val (.move (.of rfl)) rfl ?_
    refine WL.val (.lenSlice (.of rfl) Tryz.underlying22) rfl ?_
    refine WL.val (.lss (.of rfl) (.of rfl)) rfl ?_
    refine WL.nil ?_
    refine WC.cond rfl (fun hb70 => ?_) (fun hb70 => ?_)
    ·
     have hc70 := hb70; try simp only [Gk.cs0] at hc70
     refine WC.skip ?_
     refine WC.seq ?_
     refine WC.block ?_
     refine WC.seq ?_
     refine WC.seq ?_
     obtain ⟨u, hu⟩ : ∃ u, (pickS l D)[i]? = some u := ⟨_, List.getElem?_eq_getElem (by omega)⟩
     obtain ⟨v, hv⟩ : ∃ v, (pickS l D)[i - 1]? = some v := ⟨_, List.getElem?_eq_getElem (by omega)⟩
     have hum := (pick_mem hD).1 (List.mem_of_getElem? hu)
     have huo := (hfits u hum).ord
     have hvo := (hfits v ((pick_mem hD).1 (List.mem_of_getElem? hv))).ord
     have huu := (hfit u hum).1
     obtain ⟨⟨Q, hQ⟩, _⟩ := right_of hw0 u hum
     obtain ⟨c1, hc1, z1, z2, rfl, hz3, hz4⟩ := hC.2 i u hu
     obtain ⟨c2, hc2, w1, w2, rfl, hw3, hw4⟩ := hC.2 (i - 1) v hv
     obtain ⟨xp, rfl, hxp⟩ := hXR.2 (by omega)
     have hx := at_take ((hxp.mono hJ3).add (i * 8)) 8
     rw [flat_piece C (rows8 hC) i _ hc1] at hx
     have hz2 := at_take ((hxp.mono hJ3).add ((i - 1) * 8)) 8
     rw [flat_piece C (rows8 hC) (i - 1) _ hc2, show i - 1 = ((i : Int) - 1).toNat by omega] at hz2
     unfold svCells at hx hz2
     refine WC.quiet (by kernel_rfl) (by kernel_rfl) hS ?_
     refine WQ.val (fun w hS => (.move (.of rfl))) rfl ?_
     refine WQ.val (fun w hS => (.gtr (.of rfl) (.of rfl))) rfl ?_
     refine WQ.val (fun w hS => (.move (.of rfl))) rfl ?_
     refine WQ.gval rfl rfl rfl (fun hg1 w hS => (.move (.of rfl))) rfl ?_
     refine WQ.gval rfl rfl rfl (fun hg1 w hS => (.move (.of rfl))) rfl ?_
     refine WQ.gval rfl rfl rfl (fun hg1 w hS => (by first | exact .indexAddr (.gd hg1 rfl) (.gd hg1 rfl) (by (try simp only [Gk.cs0] at hg1); omega) (by (try simp only [Gk.cs0] at hg1); omega) Tryz.underlying22 Tryz.sizeOf37 | exact .indexAddrI (.gd hg1 rfl) (.gd hg1 rfl) (by (try simp only [Gk.cs0] at hg1); omega) (by (try simp only [Gk.cs0] at hg1); omega) Tryz.underlying22 Tryz.sizeOf37)) rfl ?_
     refine WQ.gval rfl rfl rfl (fun hg1 w hS => (by first | exact .fieldAddr 1 (.gd hg1 rfl) Tryz.underlying37 rfl rfl Tryz.sizeOf34 rfl | exact .fieldAddrI 1 (.gd hg1 rfl) Tryz.underlying37 rfl rfl Tryz.sizeOf34 rfl)) rfl ?_
     refine WQ.gval rfl rfl rfl (fun hg1 w hS => (by first | exact (.ld (.gd hg1 rfl) hS (k := 0) rfl Tryz.isAgg34 rfl) | exact (.ldI (.gd hg1 rfl) hS (At.add hx _) Tryz.isAgg34 rfl) | exact (.ldI (.gd hg1 rfl) hS (At.add hz2 _) Tryz.isAgg34 rfl))) rfl ?_
     refine WQ.gcall rfl rfl rfl Tryz.func17 rfl (fun hg1 => (evs_cons (.gd hg1 rfl) evs_nil)) rfl (fun hg1 w hS => refKey_any u.ord huo B _ J3 _ hS) ?_
     refine WQ.gval rfl rfl rfl (fun hg1 w hS => (.move (.of rfl))) rfl ?_
     refine WQ.gval rfl rfl rfl (fun hg1 w hS => (.move (.of rfl))) rfl ?_
     refine WQ.gval rfl rfl rfl (fun hg1 w hS => (.sub (.gd hg1 rfl) (.of rfl) ⟨by omega, by omega⟩)) rfl ?_
     refine WQ.gval rfl rfl rfl (fun hg1 w hS => (by first | exact .indexAddr (.gd hg1 rfl) (.gd hg1 rfl) (by (try simp only [Gk.cs0] at hg1); omega) (by (try simp only [Gk.cs0] at hg1); omega) Tryz.underlying22 Tryz.sizeOf37 | exact .indexAddrI (.gd hg1 rfl) (.gd hg1 rfl) (by (try simp only [Gk.cs0] at hg1); omega) (by (try simp only [Gk.cs0] at hg1); omega) Tryz.underlying22 Tryz.sizeOf37)) rfl ?_
     refine WQ.gval rfl rfl rfl (fun hg1 w hS => (by first | exact .fieldAddr 1 (.gd hg1 rfl) Tryz.underlying37 rfl rfl Tryz.sizeOf34 rfl | exact .fieldAddrI 1 (.gd hg1 rfl) Tryz.underlying37 rfl rfl Tryz.sizeOf34 rfl)) rfl ?_
     refine WQ.gval rfl rfl rfl (fun hg1 w hS => (by first | exact (.ld (.gd hg1 rfl) hS (k := 0) rfl Tryz.isAgg34 rfl) | exact (.ldI (.gd hg1 rfl) hS (At.add hx _) Tryz.isAgg34 rfl) | exact (.ldI (.gd hg1 rfl) hS (At.add hz2 _) Tryz.isAgg34 rfl))) rfl ?_
     refine WQ.gcall rfl rfl rfl Tryz.func17 rfl (fun hg1 => (evs_cons (.gd hg1 rfl) evs_nil)) rfl (fun hg1 w hS => refKey_any v.ord hvo B _ J3 _ hS) ?_
     refine WQ.gval rfl rfl rfl (fun hg1 w hS => (.lss (.gd hg1 rfl) (.gd hg1 rfl))) rfl ?_
     refine WQ.val (fun w hS => (.pand (.of rfl) (.of rfl) (.of rfl))) rfl ?_
     refine WQ.nil ?_
     clear hS; intro w hS
     refine WC.cond rfl (fun hb90 => ?_) (fun hb90 => ?_)
     ·
      have hc90 := hb90; try simp only [Gk.cs0] at hc90
      refine WC.seq ?_
      refine WC.region ?_
      refine WL.val (.assign (.of rfl)) rfl ?_
      refine WL.nil ?_
      refine WC.ret ?_
      refine ret1 Tryz.results4 rfl ?_
      exfalso
      rw [Bool.and_eq_true] at hb90
      have := pick_key hD (i := i) (by have := hb90.1; simp at this; omega) hu hv
      have h9 := hb90.2
      simp only [decide_eq_true_eq] at h9
      omega
     ·
      have hc90 := hb90; try simp only [Gk.cs0] at hc90
      refine WC.skip ?_
      refine WC.seq ?_
      refine WC.region ?_
      refine WL.val (.move (.of rfl)) rfl ?_
      refine WL.val (.move (.of rfl)) rfl ?_
      first | refine WL.val (.indexAddr (.of rfl) (.of rfl) (by omega) (by omega) Tryz.underlying22 Tryz.sizeOf37) rfl ?_ | refine WL.val (.indexAddrI (.of rfl) (.of rfl) (by omega) (by omega) Tryz.underlying22 Tryz.sizeOf37) rfl ?_
      first | refine WL.val (.fieldAddr 2 (.of rfl) Tryz.underlying37 rfl rfl Tryz.sizeOf9 rfl) rfl ?_ | refine WL.val (.fieldAddrI 2 (.of rfl) Tryz.underlying37 rfl rfl Tryz.sizeOf9 rfl) rfl ?_
      first | refine WL.val (.ld (.of rfl) hS (k := 0) rfl Tryz.isAgg9 rfl) rfl ?_ | refine WL.val (.ldI (.of rfl) hS (At.add hx _) Tryz.isAgg9 rfl) rfl ?_ | refine WL.val (.ldI (.of rfl) hS (At.add hz2 _) Tryz.isAgg9 rfl) rfl ?_
      refine WL.call Tryz.func18 rfl (evs_cons (.of rfl) evs_nil) rfl (Compile_ok hQ B _ J3 _ hS huu) ?_
      clear hS
      rintro _ w ⟨po, J4, rfl, hJ4, hpo, hS⟩
      replace hx := hx.mono hJ4
      have hx4b := hx4.mono (Le.trans hJ3 hJ4)
      have hz4b := hz4.mono (Le.trans hJ3 hJ4)
      refine WL.val (.move (.of rfl)) rfl ?_
      refine WL.val (.extract (.of rfl) rfl) rfl ?_
      refine WL.val (.extract (.of rfl) rfl) rfl ?_
      refine WL.val (.extract (.of rfl) rfl) rfl ?_
      refine WL.val (.assign (.of rfl)) rfl ?_
      refine WL.val (.assign (.of rfl)) rfl ?_
      refine WL.val (.assign (.of rfl)) rfl ?_
      refine WL.nil ?_
      refine WC.seq ?_
      refine WC.seq ?_
      refine WC.region ?_
      refine WL.val (.move (.of rfl)) rfl ?_
      refine WL.val (.eqp (.of rfl) (.of rfl) Tryz.underlying44) rfl ?_
      refine WL.val (.move (.of rfl)) rfl ?_
      refine WL.gval rfl rfl (fun hg1 => (.move (.of rfl))) rfl ?_
      refine WL.gval rfl rfl (fun hg1 => (.neq (.gd hg1 rfl) (.of rfl))) rfl ?_
      refine WL.val (.por (.of rfl) (.of rfl) (.of rfl)) rfl ?_
      refine WL.nil ?_
      refine WC.condF (rfl) ?_
      refine WC.skip ?_
      refine WC.seq ?_
      refine WC.region ?_
      refine WL.val (.move (.of rfl)) rfl ?_
      refine WL.val (.move (.of rfl)) rfl ?_
      refine WL.call Tryz.func19 rfl (evs_cons (.of rfl) (evs_cons (.of rfl) evs_nil)) rfl (Match_any hQ po (Ul.nU s).1 (by omega) B _ J4 _ hS hpo) ?_
      clear hS
      rintro _ w ⟨rfl, hS⟩
      refine WL.nil ?_
      refine WC.cond rfl (fun hb109 => ?_) (fun hb109 => ?_)
      ·
       have hc109 := hb109; try simp only [Gk.cs0] at hc109
       refine WC.seq ?_
       refine WC.quiet (by kernel_rfl) (by kernel_rfl) hS ?_
       refine WQ.val (fun w hS => (.move (.of rfl))) rfl ?_
       refine WQ.val (fun w hS => (.move (.of rfl))) rfl ?_
       refine WQ.gval rfl rfl rfl (fun hg1 w hS => (.move (.of rfl))) rfl ?_
       refine WQ.gval rfl rfl rfl (fun hg1 w hS => (.eql (.gd hg1 rfl) (.of rfl))) rfl ?_
       refine WQ.val (fun w hS => (.pand (.of rfl) (.of rfl) (.of rfl))) rfl ?_
       refine WQ.val (fun w hS => (.move (.of rfl))) rfl ?_
       refine WQ.gval rfl rfl rfl (fun hg1 w hS => (by first | exact (.ldsW (cs := [_, _, _, _, _, _, _, _]) (.of rfl) hS (k := 0) rfl Tryz.isAgg37 Tryz.sizeOf37 rfl) | exact (.lds (vs := [_, _, _, _, _, _, _, _]) (.of rfl) hS (k := 0) rfl Tryz.isAgg37 Tryz.sizeOf37 rfl (fun _ _ h => h)) | exact (.ldsI (.of rfl) hS hx Tryz.isAgg37 Tryz.sizeOf37 rfl (fun _ _ h => h)) | exact (.ldsI (.of rfl) hS (At.add hx _) Tryz.isAgg37 Tryz.sizeOf37 rfl (fun _ _ h => h)) | exact (.ldsI (.of rfl) hS hz2 Tryz.isAgg37 Tryz.sizeOf37 rfl (fun _ _ h => h)) | exact (.ldsI (.of rfl) hS (At.add hz2 _) Tryz.isAgg37 Tryz.sizeOf37 rfl (fun _ _ h => h)))) rfl ?_
       refine WQ.gval rfl rfl rfl (fun hg1 w hS => (.move (.of rfl))) rfl ?_
       refine WQ.gval rfl rfl rfl (fun hg1 w hS => (.move (.of rfl))) rfl ?_
       refine WQ.gval rfl rfl rfl (fun hg1 w hS => (by first | exact .indexAddr (.gd hg1 rfl) (.gd hg1 rfl) (by (try simp only [Gk.cs0] at hg1); omega) (by (try simp only [Gk.cs0] at hg1); omega) Tryz.underlying22 Tryz.sizeOf37 | exact .indexAddrI (.gd hg1 rfl) (.gd hg1 rfl) (by (try simp only [Gk.cs0] at hg1); omega) (by (try simp only [Gk.cs0] at hg1); omega) Tryz.underlying22 Tryz.sizeOf37)) rfl ?_
       refine WQ.gval rfl rfl rfl (fun hg1 w hS => (by first | exact (.ldsW (cs := [_, _, _, _, _, _, _, _]) (.gd hg1 rfl) hS (k := 0) rfl Tryz.isAgg37 Tryz.sizeOf37 rfl) | exact (.lds (vs := [_, _, _, _, _, _, _, _]) (.gd hg1 rfl) hS (k := 0) rfl Tryz.isAgg37 Tryz.sizeOf37 rfl (fun _ _ h => h)) | exact (.ldsI (.gd hg1 rfl) hS hx Tryz.isAgg37 Tryz.sizeOf37 rfl (fun _ _ h => h)) | exact (.ldsI (.gd hg1 rfl) hS (At.add hx _) Tryz.isAgg37 Tryz.sizeOf37 rfl (fun _ _ h => h)) | exact (.ldsI (.gd hg1 rfl) hS hz2 Tryz.isAgg37 Tryz.sizeOf37 rfl (fun _ _ h => h)) | exact (.ldsI (.gd hg1 rfl) hS (At.add hz2 _) Tryz.isAgg37 Tryz.sizeOf37 rfl (fun _ _ h => h)))) rfl ?_
       refine WQ.gcall rfl rfl rfl Tryz.func14 rfl (fun hg1 => (evs_cons (.gd hg1 rfl) (evs_cons (.gd hg1 rfl) evs_nil))) rfl (fun hg1 w hS => SameSv_any u1 u x1 z1 x2 z2 hx3 hz3 hur B _ J4 hx4b hz4b _ hS) ?_
       refine WQ.val (fun w hS => (.pand (.of rfl) (.of rfl) (.of rfl))) rfl ?_
       refine WQ.val (fun w hS => (.assign (.of rfl))) rfl ?_
       refine WQ.nil ?_
       clear hS; intro w hS
       refine WC.ret ?_
       refine ret1 Tryz.results4 rfl ?_
       obtain ⟨rfl, rfl⟩ := find_hit hz hn100 hf1 hno hu (by rw [mtch_mat hQ]; exact hb109)
       refine ⟨_, rfl, congrArg Value.bool ?_, J4, Le.trans hJ (Le.trans hJ1 (Le.trans hJA (Le.trans hJ2 (Le.trans hJ3 hJ4)))), hS.drop (k := 0) rfl⟩
       rw [(sameSv_iff u1 u1).2 rfl]
       rfl
      ·
       have hc109 := hb109; try simp only [Gk.cs0] at hc109
       refine WC.skip ?_
       refine WC.region ?_
       refine WL.val (.move (.of rfl)) rfl ?_
       refine WL.val (.add (.of rfl) (.of rfl) ⟨by omega, by omega⟩) rfl ?_
       refine WL.val (.assign (.of rfl)) rfl ?_
       refine WL.nil ?_
       refine ⟨(i + 1, J4), ⟨rfl, rfl, rfl, rfl, rfl, rfl, trivial⟩, ⟨by (try dsimp only); omega, Le.trans hJ3 hJ4, fun j t hj ht => ?_, hS⟩, by (try dsimp only); omega⟩
       rcases Nat.lt_or_ge j i with h1 | h1
       ·exact hno j t h1 ht
       ·have e : j = i := by (try dsimp only at hj); omega
        subst e
        rw [hu] at ht; cases ht
        rw [mtch_mat hQ]; exact hb109
    ·
     have hc70 := hb70; try simp only [Gk.cs0] at hc70
     refine WC.exit ?_
     refine WC.seq ?_
     refine WC.region ?_
     refine WL.val (.move (.of rfl)) rfl ?_
     refine WL.val (.move (.of rfl)) rfl ?_
     refine WL.gval rfl rfl (fun hg1 => (.move (.of rfl))) rfl ?_
     refine WL.gval rfl rfl (fun hg1 => (.eql (.gd hg1 rfl) (.of rfl))) rfl ?_
     refine WL.val (.pand (.of rfl) (.of rfl) (.of rfl)) rfl ?_
     refine WL.val (.assign (.of rfl)) rfl ?_
     refine WL.nil ?_
     refine WC.ret ?_
     refine ret1 Tryz.results4 rfl ?_
     have := find_miss hz hn100 hf1 (fun j t ht => hno j t (by have := (List.getElem?_eq_some_iff.1 ht).1; omega) ht)
     subst this
     refine ⟨_, rfl, rfl, J3, Le.trans hJ (Le.trans hJ1 (Le.trans hJA (Le.trans hJ2 hJ3))), hS.drop (k := 0) rfl⟩
end Go.Proofs.YtchgkcbloeoopaaGreatDoor
